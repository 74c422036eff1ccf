/-
  NARROWER THAN 'FOR EVERY INPUT', by the rows' own cells (each row's printed sentence says how): BreBrackets: laid · BreParses: laid · BrePrints: laid · BreBack: laid · BreLetters: laid · BrePlaces: laid · BreShows: laid · EreParses: laid · ErePrints: laid · EreBack: laid · EreAlts: laid · ErePlaces: laid · EreShows: laid.
  DERIVED. THE GIVEN ROWS OF THIS SEAT. 13 by the template 'for every input the law returns true; each argument reads behind the call as it read before'; 0 by the template 'total and deterministic' (their statements: YthhbdkdofhhoeaaGreatDoorTotals.lean).
  GIVEN WITH THE SEED: the statements are not yours to turn. If you find one false, say at which input.
  Laid BY PROGRAM, IN A SANDBOX (cutbox-rows.mjs): the forced cells as the released guide's own fill.sh prints them over the translation 89d914851abc79a1… (all of the seat's roots in one cut). By AI agents, Wed Nov 11 2026. No macro, syntax, notation, axiom, sorry.
-/
import Derived.Test.YthhbdkdofhhoeaaGreatDoorChecked
import GoSem.Claim
import GoSem.ClaimJoined
import GoSem.ClaimMapViews
import Derived.JoinedTies
import Derived.KernelRfl
namespace Go.Proofs.YthhbdkdofhhoeaaGreatDoor
/- THE CELL 'sum', in the pinned program and in every row, IS THE sha256 OF THE DUMP (.gsa) THAT YthhbdkdofhhoeaaGreatDoorProg.lean LOADS. Nothing in Lean hashes anything: it is a label: what it is worth is what the hold of that sum in a sandbox is worth. -/
noncomputable def Tryz.pinned : Pinned := { name := "ythhbdkdofhhoeaagreatdoor", sum := "89d914851abc79a1267c03976eb2b9a71e51cb781a17e50ecbae5a6a12f459f6", checked := Tryz.checked }
namespace Rows
def none {H : Type} : Left H := { results := [], args := [] }

/- WHAT THE LISTED PACKAGE-LEVEL VARIABLES READ AS WHEN THE CALL BEGINS. Each datum BY PROGRAM (the guide's laid-datum.mjs) off the statement by which the dump's own 'gosem.cut.vars' lays the variable. In a bare row this is a premise. The card (YthhbdkdofhhoeaaGreatDoorCards.lean) ties it to the program's text. -/
def laid_math_bits_deBruijn32tab {H : Type} : DataW H := .agg [.lit (.int .u8 0), .lit (.int .u8 1), .lit (.int .u8 28), .lit (.int .u8 2), .lit (.int .u8 29), .lit (.int .u8 14), .lit (.int .u8 24), .lit (.int .u8 3), .lit (.int .u8 30), .lit (.int .u8 22), .lit (.int .u8 20), .lit (.int .u8 15), .lit (.int .u8 25), .lit (.int .u8 17), .lit (.int .u8 4), .lit (.int .u8 8), .lit (.int .u8 31), .lit (.int .u8 27), .lit (.int .u8 13), .lit (.int .u8 23), .lit (.int .u8 21), .lit (.int .u8 19), .lit (.int .u8 16), .lit (.int .u8 7), .lit (.int .u8 26), .lit (.int .u8 12), .lit (.int .u8 18), .lit (.int .u8 6), .lit (.int .u8 11), .lit (.int .u8 5), .lit (.int .u8 10), .lit (.int .u8 9)]
def laid_math_bits_deBruijn64tab {H : Type} : DataW H := .agg [.lit (.int .u8 0), .lit (.int .u8 1), .lit (.int .u8 56), .lit (.int .u8 2), .lit (.int .u8 57), .lit (.int .u8 49), .lit (.int .u8 28), .lit (.int .u8 3), .lit (.int .u8 61), .lit (.int .u8 58), .lit (.int .u8 42), .lit (.int .u8 50), .lit (.int .u8 38), .lit (.int .u8 29), .lit (.int .u8 17), .lit (.int .u8 4), .lit (.int .u8 62), .lit (.int .u8 47), .lit (.int .u8 59), .lit (.int .u8 36), .lit (.int .u8 45), .lit (.int .u8 43), .lit (.int .u8 51), .lit (.int .u8 22), .lit (.int .u8 53), .lit (.int .u8 39), .lit (.int .u8 33), .lit (.int .u8 30), .lit (.int .u8 24), .lit (.int .u8 18), .lit (.int .u8 12), .lit (.int .u8 5), .lit (.int .u8 63), .lit (.int .u8 55), .lit (.int .u8 48), .lit (.int .u8 27), .lit (.int .u8 60), .lit (.int .u8 41), .lit (.int .u8 37), .lit (.int .u8 16), .lit (.int .u8 46), .lit (.int .u8 35), .lit (.int .u8 44), .lit (.int .u8 21), .lit (.int .u8 52), .lit (.int .u8 32), .lit (.int .u8 23), .lit (.int .u8 11), .lit (.int .u8 54), .lit (.int .u8 26), .lit (.int .u8 40), .lit (.int .u8 15), .lit (.int .u8 34), .lit (.int .u8 20), .lit (.int .u8 31), .lit (.int .u8 10), .lit (.int .u8 25), .lit (.int .u8 14), .lit (.int .u8 19), .lit (.int .u8 9), .lit (.int .u8 13), .lit (.int .u8 8), .lit (.int .u8 7), .lit (.int .u8 6)]
def laid_internal_strconv_uint64pow10 {H : Type} : DataW H := .agg [.lit (.int .u64 1), .lit (.int .u64 10), .lit (.int .u64 100), .lit (.int .u64 1000), .lit (.int .u64 10000), .lit (.int .u64 100000), .lit (.int .u64 1000000), .lit (.int .u64 10000000), .lit (.int .u64 100000000), .lit (.int .u64 1000000000), .lit (.int .u64 10000000000), .lit (.int .u64 100000000000), .lit (.int .u64 1000000000000), .lit (.int .u64 10000000000000), .lit (.int .u64 100000000000000), .lit (.int .u64 1000000000000000), .lit (.int .u64 10000000000000000), .lit (.int .u64 100000000000000000), .lit (.int .u64 1000000000000000000), .lit (.int .u64 10000000000000000000)]
def laid_strconv_ErrRange {H : Type} : DataW H := .iface "*errors.errorString" (.ptr (.agg [.lit (.string [118, 97, 108, 117, 101, 32, 111, 117, 116, 32, 111, 102, 32, 114, 97, 110, 103, 101])]))
def laid_strconv_ErrSyntax {H : Type} : DataW H := .iface "*errors.errorString" (.ptr (.agg [.lit (.string [105, 110, 118, 97, 108, 105, 100, 32, 115, 121, 110, 116, 97, 120])]))

/-- 'calenderlaw04.BreBrackets': WHATEVER THE INPUT: true; the input reads as it did. -/
def breBracketsSpec : ChangeSpec := { name := "breBrackets", fn := fun _ => fun
  | [d] => { results := [.lit (.bool true)], args := [d] }
  | _ => none }
def breBracketsRow : OpenClaim := { program := "ythhbdkdofhhoeaagreatdoor", sum := "89d914851abc79a1267c03976eb2b9a71e51cb781a17e50ecbae5a6a12f459f6", func := "calender/calenderlaw04.BreBrackets", spec := "breBrackets", inPlace := ["internal/bytealg.IndexByteString", "internal/bytealg.IndexString", "internal/abi.NoEscape", "internal/bytealg.MakeNoZero"], unfollowed := true, recurses := true, named := ["internal/bytealg.MaxLen", "strconv.ErrSyntax", "strconv.ErrRange", "internal/strconv.uint64pow10", "math/bits.deBruijn32tab", "math/bits.deBruijn64tab"], apart := false, laid := [("math/bits.deBruijn32tab", laid_math_bits_deBruijn32tab), ("math/bits.deBruijn64tab", laid_math_bits_deBruijn64tab), ("internal/strconv.uint64pow10", laid_internal_strconv_uint64pow10), ("strconv.ErrRange", laid_strconv_ErrRange), ("strconv.ErrSyntax", laid_strconv_ErrSyntax)] }
def BreBracketsSaid : Prop := breBracketsRow.holds Tryz.pinned (OpenSpec.ofChange breBracketsSpec)

/-- ITS FALSE NEIGHBOUR: 'it returns false'. Refute it at one input. -/
def breBracketsWrong : ChangeSpec := { name := "breBrackets", fn := fun _ => fun
  | [d] => { results := [.lit (.bool false)], args := [d] }
  | _ => none }
def BreBracketsWrongFalsely : Prop := breBracketsRow.holds Tryz.pinned (OpenSpec.ofChange breBracketsWrong)

/-- 'calenderlaw04.BreParses': WHATEVER THE INPUT: true; the input reads as it did. -/
def breParsesSpec : ChangeSpec := { name := "breParses", fn := fun _ => fun
  | [d] => { results := [.lit (.bool true)], args := [d] }
  | _ => none }
def breParsesRow : OpenClaim := { program := "ythhbdkdofhhoeaagreatdoor", sum := "89d914851abc79a1267c03976eb2b9a71e51cb781a17e50ecbae5a6a12f459f6", func := "calender/calenderlaw04.BreParses", spec := "breParses", inPlace := ["internal/bytealg.IndexByteString", "internal/bytealg.IndexString", "internal/abi.NoEscape", "internal/bytealg.MakeNoZero"], unfollowed := true, recurses := true, named := ["internal/bytealg.MaxLen", "strconv.ErrSyntax", "strconv.ErrRange", "internal/strconv.uint64pow10", "math/bits.deBruijn32tab", "math/bits.deBruijn64tab"], apart := false, laid := [("math/bits.deBruijn32tab", laid_math_bits_deBruijn32tab), ("math/bits.deBruijn64tab", laid_math_bits_deBruijn64tab), ("internal/strconv.uint64pow10", laid_internal_strconv_uint64pow10), ("strconv.ErrRange", laid_strconv_ErrRange), ("strconv.ErrSyntax", laid_strconv_ErrSyntax)] }
def BreParsesSaid : Prop := breParsesRow.holds Tryz.pinned (OpenSpec.ofChange breParsesSpec)

/-- ITS FALSE NEIGHBOUR: 'it returns false'. Refute it at one input. -/
def breParsesWrong : ChangeSpec := { name := "breParses", fn := fun _ => fun
  | [d] => { results := [.lit (.bool false)], args := [d] }
  | _ => none }
def BreParsesWrongFalsely : Prop := breParsesRow.holds Tryz.pinned (OpenSpec.ofChange breParsesWrong)

/-- 'calenderlaw04.BrePrints': WHATEVER THE INPUT: true; the input reads as it did. -/
def brePrintsSpec : ChangeSpec := { name := "brePrints", fn := fun _ => fun
  | [d] => { results := [.lit (.bool true)], args := [d] }
  | _ => none }
def brePrintsRow : OpenClaim := { program := "ythhbdkdofhhoeaagreatdoor", sum := "89d914851abc79a1267c03976eb2b9a71e51cb781a17e50ecbae5a6a12f459f6", func := "calender/calenderlaw04.BrePrints", spec := "brePrints", inPlace := ["internal/bytealg.IndexByteString", "internal/bytealg.IndexString", "internal/abi.NoEscape", "internal/bytealg.MakeNoZero"], unfollowed := true, recurses := true, named := ["internal/bytealg.MaxLen", "strconv.ErrSyntax", "strconv.ErrRange", "internal/strconv.uint64pow10", "math/bits.deBruijn32tab", "math/bits.deBruijn64tab"], apart := false, laid := [("math/bits.deBruijn32tab", laid_math_bits_deBruijn32tab), ("math/bits.deBruijn64tab", laid_math_bits_deBruijn64tab), ("internal/strconv.uint64pow10", laid_internal_strconv_uint64pow10), ("strconv.ErrRange", laid_strconv_ErrRange), ("strconv.ErrSyntax", laid_strconv_ErrSyntax)] }
def BrePrintsSaid : Prop := brePrintsRow.holds Tryz.pinned (OpenSpec.ofChange brePrintsSpec)

/-- ITS FALSE NEIGHBOUR: 'it returns false'. Refute it at one input. -/
def brePrintsWrong : ChangeSpec := { name := "brePrints", fn := fun _ => fun
  | [d] => { results := [.lit (.bool false)], args := [d] }
  | _ => none }
def BrePrintsWrongFalsely : Prop := brePrintsRow.holds Tryz.pinned (OpenSpec.ofChange brePrintsWrong)

/-- 'calenderlaw04.BreBack': WHATEVER THE INPUT: true; the input reads as it did. -/
def breBackSpec : ChangeSpec := { name := "breBack", fn := fun _ => fun
  | [d] => { results := [.lit (.bool true)], args := [d] }
  | _ => none }
def breBackRow : OpenClaim := { program := "ythhbdkdofhhoeaagreatdoor", sum := "89d914851abc79a1267c03976eb2b9a71e51cb781a17e50ecbae5a6a12f459f6", func := "calender/calenderlaw04.BreBack", spec := "breBack", inPlace := ["internal/bytealg.IndexByteString", "internal/bytealg.IndexString", "internal/abi.NoEscape", "internal/bytealg.MakeNoZero"], unfollowed := true, recurses := true, named := ["internal/bytealg.MaxLen", "strconv.ErrSyntax", "strconv.ErrRange", "internal/strconv.uint64pow10", "math/bits.deBruijn32tab", "math/bits.deBruijn64tab"], apart := false, laid := [("math/bits.deBruijn32tab", laid_math_bits_deBruijn32tab), ("math/bits.deBruijn64tab", laid_math_bits_deBruijn64tab), ("internal/strconv.uint64pow10", laid_internal_strconv_uint64pow10), ("strconv.ErrRange", laid_strconv_ErrRange), ("strconv.ErrSyntax", laid_strconv_ErrSyntax)] }
def BreBackSaid : Prop := breBackRow.holds Tryz.pinned (OpenSpec.ofChange breBackSpec)

/-- ITS FALSE NEIGHBOUR: 'it returns false'. Refute it at one input. -/
def breBackWrong : ChangeSpec := { name := "breBack", fn := fun _ => fun
  | [d] => { results := [.lit (.bool false)], args := [d] }
  | _ => none }
def BreBackWrongFalsely : Prop := breBackRow.holds Tryz.pinned (OpenSpec.ofChange breBackWrong)

/-- 'calenderlaw04.BreLetters': WHATEVER THE INPUT: true; the input reads as it did. -/
def breLettersSpec : ChangeSpec := { name := "breLetters", fn := fun _ => fun
  | [d] => { results := [.lit (.bool true)], args := [d] }
  | _ => none }
def breLettersRow : OpenClaim := { program := "ythhbdkdofhhoeaagreatdoor", sum := "89d914851abc79a1267c03976eb2b9a71e51cb781a17e50ecbae5a6a12f459f6", func := "calender/calenderlaw04.BreLetters", spec := "breLetters", inPlace := ["internal/bytealg.IndexByteString", "internal/bytealg.IndexString", "internal/abi.NoEscape", "internal/bytealg.MakeNoZero"], unfollowed := true, recurses := true, named := ["internal/bytealg.MaxLen", "strconv.ErrSyntax", "strconv.ErrRange", "internal/strconv.uint64pow10", "math/bits.deBruijn32tab", "math/bits.deBruijn64tab"], apart := false, laid := [("math/bits.deBruijn32tab", laid_math_bits_deBruijn32tab), ("math/bits.deBruijn64tab", laid_math_bits_deBruijn64tab), ("internal/strconv.uint64pow10", laid_internal_strconv_uint64pow10), ("strconv.ErrRange", laid_strconv_ErrRange), ("strconv.ErrSyntax", laid_strconv_ErrSyntax)] }
def BreLettersSaid : Prop := breLettersRow.holds Tryz.pinned (OpenSpec.ofChange breLettersSpec)

/-- ITS FALSE NEIGHBOUR: 'it returns false'. Refute it at one input. -/
def breLettersWrong : ChangeSpec := { name := "breLetters", fn := fun _ => fun
  | [d] => { results := [.lit (.bool false)], args := [d] }
  | _ => none }
def BreLettersWrongFalsely : Prop := breLettersRow.holds Tryz.pinned (OpenSpec.ofChange breLettersWrong)

/-- 'calenderlaw04.BrePlaces': WHATEVER THE INPUT: true; the input reads as it did. -/
def brePlacesSpec : ChangeSpec := { name := "brePlaces", fn := fun _ => fun
  | [d] => { results := [.lit (.bool true)], args := [d] }
  | _ => none }
def brePlacesRow : OpenClaim := { program := "ythhbdkdofhhoeaagreatdoor", sum := "89d914851abc79a1267c03976eb2b9a71e51cb781a17e50ecbae5a6a12f459f6", func := "calender/calenderlaw04.BrePlaces", spec := "brePlaces", inPlace := ["internal/bytealg.IndexByteString", "internal/bytealg.IndexString", "internal/abi.NoEscape", "internal/bytealg.MakeNoZero"], unfollowed := true, recurses := true, named := ["internal/bytealg.MaxLen", "strconv.ErrSyntax", "strconv.ErrRange", "internal/strconv.uint64pow10", "math/bits.deBruijn32tab", "math/bits.deBruijn64tab"], apart := false, laid := [("math/bits.deBruijn32tab", laid_math_bits_deBruijn32tab), ("math/bits.deBruijn64tab", laid_math_bits_deBruijn64tab), ("internal/strconv.uint64pow10", laid_internal_strconv_uint64pow10), ("strconv.ErrRange", laid_strconv_ErrRange), ("strconv.ErrSyntax", laid_strconv_ErrSyntax)] }
def BrePlacesSaid : Prop := brePlacesRow.holds Tryz.pinned (OpenSpec.ofChange brePlacesSpec)

/-- ITS FALSE NEIGHBOUR: 'it returns false'. Refute it at one input. -/
def brePlacesWrong : ChangeSpec := { name := "brePlaces", fn := fun _ => fun
  | [d] => { results := [.lit (.bool false)], args := [d] }
  | _ => none }
def BrePlacesWrongFalsely : Prop := brePlacesRow.holds Tryz.pinned (OpenSpec.ofChange brePlacesWrong)

/-- 'calenderlaw04.BreShows': WHATEVER THE INPUT: true; the input reads as it did. -/
def breShowsSpec : ChangeSpec := { name := "breShows", fn := fun _ => fun
  | [d] => { results := [.lit (.bool true)], args := [d] }
  | _ => none }
def breShowsRow : OpenClaim := { program := "ythhbdkdofhhoeaagreatdoor", sum := "89d914851abc79a1267c03976eb2b9a71e51cb781a17e50ecbae5a6a12f459f6", func := "calender/calenderlaw04.BreShows", spec := "breShows", inPlace := ["internal/bytealg.IndexByteString", "internal/bytealg.IndexString", "internal/abi.NoEscape", "internal/bytealg.MakeNoZero"], unfollowed := true, recurses := true, named := ["math/bits.deBruijn64tab", "internal/bytealg.MaxLen", "strconv.ErrSyntax", "strconv.ErrRange", "internal/strconv.uint64pow10", "math/bits.deBruijn32tab"], apart := false, laid := [("math/bits.deBruijn32tab", laid_math_bits_deBruijn32tab), ("math/bits.deBruijn64tab", laid_math_bits_deBruijn64tab), ("internal/strconv.uint64pow10", laid_internal_strconv_uint64pow10), ("strconv.ErrRange", laid_strconv_ErrRange), ("strconv.ErrSyntax", laid_strconv_ErrSyntax)] }
def BreShowsSaid : Prop := breShowsRow.holds Tryz.pinned (OpenSpec.ofChange breShowsSpec)

/-- ITS FALSE NEIGHBOUR: 'it returns false'. Refute it at one input. -/
def breShowsWrong : ChangeSpec := { name := "breShows", fn := fun _ => fun
  | [d] => { results := [.lit (.bool false)], args := [d] }
  | _ => none }
def BreShowsWrongFalsely : Prop := breShowsRow.holds Tryz.pinned (OpenSpec.ofChange breShowsWrong)

/-- 'calenderlaw05.EreParses': WHATEVER THE INPUT: true; the input reads as it did. -/
def ereParsesSpec : ChangeSpec := { name := "ereParses", fn := fun _ => fun
  | [d] => { results := [.lit (.bool true)], args := [d] }
  | _ => none }
def ereParsesRow : OpenClaim := { program := "ythhbdkdofhhoeaagreatdoor", sum := "89d914851abc79a1267c03976eb2b9a71e51cb781a17e50ecbae5a6a12f459f6", func := "calender/calenderlaw05.EreParses", spec := "ereParses", inPlace := ["internal/bytealg.IndexByteString", "internal/bytealg.IndexString", "internal/abi.NoEscape", "internal/bytealg.MakeNoZero"], unfollowed := true, recurses := true, named := ["internal/bytealg.MaxLen", "strconv.ErrSyntax", "strconv.ErrRange", "internal/strconv.uint64pow10", "math/bits.deBruijn32tab", "math/bits.deBruijn64tab"], apart := false, laid := [("math/bits.deBruijn32tab", laid_math_bits_deBruijn32tab), ("math/bits.deBruijn64tab", laid_math_bits_deBruijn64tab), ("internal/strconv.uint64pow10", laid_internal_strconv_uint64pow10), ("strconv.ErrRange", laid_strconv_ErrRange), ("strconv.ErrSyntax", laid_strconv_ErrSyntax)] }
def EreParsesSaid : Prop := ereParsesRow.holds Tryz.pinned (OpenSpec.ofChange ereParsesSpec)

/-- ITS FALSE NEIGHBOUR: 'it returns false'. Refute it at one input. -/
def ereParsesWrong : ChangeSpec := { name := "ereParses", fn := fun _ => fun
  | [d] => { results := [.lit (.bool false)], args := [d] }
  | _ => none }
def EreParsesWrongFalsely : Prop := ereParsesRow.holds Tryz.pinned (OpenSpec.ofChange ereParsesWrong)

/-- 'calenderlaw05.ErePrints': WHATEVER THE INPUT: true; the input reads as it did. -/
def erePrintsSpec : ChangeSpec := { name := "erePrints", fn := fun _ => fun
  | [d] => { results := [.lit (.bool true)], args := [d] }
  | _ => none }
def erePrintsRow : OpenClaim := { program := "ythhbdkdofhhoeaagreatdoor", sum := "89d914851abc79a1267c03976eb2b9a71e51cb781a17e50ecbae5a6a12f459f6", func := "calender/calenderlaw05.ErePrints", spec := "erePrints", inPlace := ["internal/bytealg.IndexByteString", "internal/bytealg.IndexString", "internal/abi.NoEscape", "internal/bytealg.MakeNoZero"], unfollowed := true, recurses := true, named := ["internal/bytealg.MaxLen", "strconv.ErrSyntax", "strconv.ErrRange", "internal/strconv.uint64pow10", "math/bits.deBruijn32tab", "math/bits.deBruijn64tab"], apart := false, laid := [("math/bits.deBruijn32tab", laid_math_bits_deBruijn32tab), ("math/bits.deBruijn64tab", laid_math_bits_deBruijn64tab), ("internal/strconv.uint64pow10", laid_internal_strconv_uint64pow10), ("strconv.ErrRange", laid_strconv_ErrRange), ("strconv.ErrSyntax", laid_strconv_ErrSyntax)] }
def ErePrintsSaid : Prop := erePrintsRow.holds Tryz.pinned (OpenSpec.ofChange erePrintsSpec)

/-- ITS FALSE NEIGHBOUR: 'it returns false'. Refute it at one input. -/
def erePrintsWrong : ChangeSpec := { name := "erePrints", fn := fun _ => fun
  | [d] => { results := [.lit (.bool false)], args := [d] }
  | _ => none }
def ErePrintsWrongFalsely : Prop := erePrintsRow.holds Tryz.pinned (OpenSpec.ofChange erePrintsWrong)

/-- 'calenderlaw05.EreBack': WHATEVER THE INPUT: true; the input reads as it did. -/
def ereBackSpec : ChangeSpec := { name := "ereBack", fn := fun _ => fun
  | [d] => { results := [.lit (.bool true)], args := [d] }
  | _ => none }
def ereBackRow : OpenClaim := { program := "ythhbdkdofhhoeaagreatdoor", sum := "89d914851abc79a1267c03976eb2b9a71e51cb781a17e50ecbae5a6a12f459f6", func := "calender/calenderlaw05.EreBack", spec := "ereBack", inPlace := ["internal/bytealg.IndexByteString", "internal/bytealg.IndexString", "internal/abi.NoEscape", "internal/bytealg.MakeNoZero"], unfollowed := true, recurses := true, named := ["internal/bytealg.MaxLen", "strconv.ErrSyntax", "strconv.ErrRange", "internal/strconv.uint64pow10", "math/bits.deBruijn32tab", "math/bits.deBruijn64tab"], apart := false, laid := [("math/bits.deBruijn32tab", laid_math_bits_deBruijn32tab), ("math/bits.deBruijn64tab", laid_math_bits_deBruijn64tab), ("internal/strconv.uint64pow10", laid_internal_strconv_uint64pow10), ("strconv.ErrRange", laid_strconv_ErrRange), ("strconv.ErrSyntax", laid_strconv_ErrSyntax)] }
def EreBackSaid : Prop := ereBackRow.holds Tryz.pinned (OpenSpec.ofChange ereBackSpec)

/-- ITS FALSE NEIGHBOUR: 'it returns false'. Refute it at one input. -/
def ereBackWrong : ChangeSpec := { name := "ereBack", fn := fun _ => fun
  | [d] => { results := [.lit (.bool false)], args := [d] }
  | _ => none }
def EreBackWrongFalsely : Prop := ereBackRow.holds Tryz.pinned (OpenSpec.ofChange ereBackWrong)

/-- 'calenderlaw05.EreAlts': WHATEVER THE INPUT: true; the input reads as it did. -/
def ereAltsSpec : ChangeSpec := { name := "ereAlts", fn := fun _ => fun
  | [d1, d2] => { results := [.lit (.bool true)], args := [d1, d2] }
  | _ => none }
def ereAltsRow : OpenClaim := { program := "ythhbdkdofhhoeaagreatdoor", sum := "89d914851abc79a1267c03976eb2b9a71e51cb781a17e50ecbae5a6a12f459f6", func := "calender/calenderlaw05.EreAlts", spec := "ereAlts", inPlace := ["internal/bytealg.IndexByteString", "internal/bytealg.IndexString", "internal/abi.NoEscape", "internal/bytealg.MakeNoZero"], unfollowed := true, recurses := true, named := ["internal/bytealg.MaxLen", "strconv.ErrSyntax", "strconv.ErrRange", "internal/strconv.uint64pow10", "math/bits.deBruijn32tab", "math/bits.deBruijn64tab"], apart := false, laid := [("math/bits.deBruijn32tab", laid_math_bits_deBruijn32tab), ("math/bits.deBruijn64tab", laid_math_bits_deBruijn64tab), ("internal/strconv.uint64pow10", laid_internal_strconv_uint64pow10), ("strconv.ErrRange", laid_strconv_ErrRange), ("strconv.ErrSyntax", laid_strconv_ErrSyntax)] }
def EreAltsSaid : Prop := ereAltsRow.holds Tryz.pinned (OpenSpec.ofChange ereAltsSpec)

/-- ITS FALSE NEIGHBOUR: 'it returns false'. Refute it at one input. -/
def ereAltsWrong : ChangeSpec := { name := "ereAlts", fn := fun _ => fun
  | [d1, d2] => { results := [.lit (.bool false)], args := [d1, d2] }
  | _ => none }
def EreAltsWrongFalsely : Prop := ereAltsRow.holds Tryz.pinned (OpenSpec.ofChange ereAltsWrong)

/-- 'calenderlaw05.ErePlaces': WHATEVER THE INPUT: true; the input reads as it did. -/
def erePlacesSpec : ChangeSpec := { name := "erePlaces", fn := fun _ => fun
  | [d] => { results := [.lit (.bool true)], args := [d] }
  | _ => none }
def erePlacesRow : OpenClaim := { program := "ythhbdkdofhhoeaagreatdoor", sum := "89d914851abc79a1267c03976eb2b9a71e51cb781a17e50ecbae5a6a12f459f6", func := "calender/calenderlaw05.ErePlaces", spec := "erePlaces", inPlace := ["internal/bytealg.IndexByteString", "internal/bytealg.IndexString", "internal/abi.NoEscape", "internal/bytealg.MakeNoZero"], unfollowed := true, recurses := true, named := ["internal/bytealg.MaxLen", "strconv.ErrSyntax", "strconv.ErrRange", "internal/strconv.uint64pow10", "math/bits.deBruijn32tab", "math/bits.deBruijn64tab"], apart := false, laid := [("math/bits.deBruijn32tab", laid_math_bits_deBruijn32tab), ("math/bits.deBruijn64tab", laid_math_bits_deBruijn64tab), ("internal/strconv.uint64pow10", laid_internal_strconv_uint64pow10), ("strconv.ErrRange", laid_strconv_ErrRange), ("strconv.ErrSyntax", laid_strconv_ErrSyntax)] }
def ErePlacesSaid : Prop := erePlacesRow.holds Tryz.pinned (OpenSpec.ofChange erePlacesSpec)

/-- ITS FALSE NEIGHBOUR: 'it returns false'. Refute it at one input. -/
def erePlacesWrong : ChangeSpec := { name := "erePlaces", fn := fun _ => fun
  | [d] => { results := [.lit (.bool false)], args := [d] }
  | _ => none }
def ErePlacesWrongFalsely : Prop := erePlacesRow.holds Tryz.pinned (OpenSpec.ofChange erePlacesWrong)

/-- 'calenderlaw05.EreShows': WHATEVER THE INPUT: true; the input reads as it did. -/
def ereShowsSpec : ChangeSpec := { name := "ereShows", fn := fun _ => fun
  | [d] => { results := [.lit (.bool true)], args := [d] }
  | _ => none }
def ereShowsRow : OpenClaim := { program := "ythhbdkdofhhoeaagreatdoor", sum := "89d914851abc79a1267c03976eb2b9a71e51cb781a17e50ecbae5a6a12f459f6", func := "calender/calenderlaw05.EreShows", spec := "ereShows", inPlace := ["internal/bytealg.IndexByteString", "internal/bytealg.IndexString", "internal/abi.NoEscape", "internal/bytealg.MakeNoZero"], unfollowed := true, recurses := true, named := ["math/bits.deBruijn64tab", "internal/bytealg.MaxLen", "strconv.ErrSyntax", "strconv.ErrRange", "internal/strconv.uint64pow10", "math/bits.deBruijn32tab"], apart := false, laid := [("math/bits.deBruijn32tab", laid_math_bits_deBruijn32tab), ("math/bits.deBruijn64tab", laid_math_bits_deBruijn64tab), ("internal/strconv.uint64pow10", laid_internal_strconv_uint64pow10), ("strconv.ErrRange", laid_strconv_ErrRange), ("strconv.ErrSyntax", laid_strconv_ErrSyntax)] }
def EreShowsSaid : Prop := ereShowsRow.holds Tryz.pinned (OpenSpec.ofChange ereShowsSpec)

/-- ITS FALSE NEIGHBOUR: 'it returns false'. Refute it at one input. -/
def ereShowsWrong : ChangeSpec := { name := "ereShows", fn := fun _ => fun
  | [d] => { results := [.lit (.bool false)], args := [d] }
  | _ => none }
def EreShowsWrongFalsely : Prop := ereShowsRow.holds Tryz.pinned (OpenSpec.ofChange ereShowsWrong)

/- THE SECOND FORM. 'bulk': how many values and letters a reading holds, each counted each time it is reached (what is shared counts as often as it is met; a slice's spare places count too). A statement '..UptoSaid' is the law's where the arguments, and the package variables that the reading takes, are together of bulk at most 1048576: NARROWER than '..Said'. Prove '..Said' where nothing that the law and all that it calls make is longer than what came in: it says more and counts as full. Else prove '..UptoSaid'. A law counts once. -/
mutual
def uptoBulk {H : Type} : DataW H → Nat
  | .lit (.string bytes) => bytes.length + 1
  | .lit _ => 1
  | .nil => 1
  | .ptr d => uptoBulk d + 1
  | .slice elems spare => uptoBulkAll elems + uptoBulkAll spare + 1
  | .agg parts => uptoBulkAll parts + 1
  | .iface _ d => uptoBulk d + 1
  | .map entries => uptoBulkEntries entries + 1
  | .held _ => 1
def uptoBulkAll {H : Type} : List (DataW H) → Nat
  | [] => 0
  | d :: r => uptoBulk d + uptoBulkAll r
def uptoBulkEntries {H : Type} : List (Lit × DataW H) → Nat
  | [] => 0
  | x :: r => uptoBulkEntry x + uptoBulkEntries r
def uptoBulkEntry {H : Type} : Lit × DataW H → Nat
  | (.string bytes, d) => bytes.length + uptoBulk d + 1
  | (_, d) => uptoBulk d + 1
 end
def uptoSmall : (H : Type) → List (DataW H) → Bool := fun _ ds => decide (uptoBulkAll ds ≤ 1048576)
def OpenSpec.upto (s : _root_.Go.ChangeSpec) : _root_.Go.OpenSpec := { _root_.Go.OpenSpec.ofChange s with cond := some uptoSmall }

/-- 'calenderlaw04.BreBrackets', WHERE WHAT IT READS IS OF BULK AT MOST 1048576: true; the input reads as it did. -/
def breBracketsUptoRow : OpenClaim := { program := "ythhbdkdofhhoeaagreatdoor", sum := "89d914851abc79a1267c03976eb2b9a71e51cb781a17e50ecbae5a6a12f459f6", func := "calender/calenderlaw04.BreBrackets", spec := "breBrackets", inPlace := ["internal/bytealg.IndexByteString", "internal/bytealg.IndexString", "internal/abi.NoEscape", "internal/bytealg.MakeNoZero"], unfollowed := true, recurses := true, named := ["internal/bytealg.MaxLen", "strconv.ErrSyntax", "strconv.ErrRange", "internal/strconv.uint64pow10", "math/bits.deBruijn32tab", "math/bits.deBruijn64tab"], apart := false, laid := [("math/bits.deBruijn32tab", laid_math_bits_deBruijn32tab), ("math/bits.deBruijn64tab", laid_math_bits_deBruijn64tab), ("internal/strconv.uint64pow10", laid_internal_strconv_uint64pow10), ("strconv.ErrRange", laid_strconv_ErrRange), ("strconv.ErrSyntax", laid_strconv_ErrSyntax)], narrowed := true }
def BreBracketsUptoSaid : Prop := breBracketsUptoRow.holds Tryz.pinned (OpenSpec.upto breBracketsSpec)

/-- 'calenderlaw04.BreParses', WHERE WHAT IT READS IS OF BULK AT MOST 1048576: true; the input reads as it did. -/
def breParsesUptoRow : OpenClaim := { program := "ythhbdkdofhhoeaagreatdoor", sum := "89d914851abc79a1267c03976eb2b9a71e51cb781a17e50ecbae5a6a12f459f6", func := "calender/calenderlaw04.BreParses", spec := "breParses", inPlace := ["internal/bytealg.IndexByteString", "internal/bytealg.IndexString", "internal/abi.NoEscape", "internal/bytealg.MakeNoZero"], unfollowed := true, recurses := true, named := ["internal/bytealg.MaxLen", "strconv.ErrSyntax", "strconv.ErrRange", "internal/strconv.uint64pow10", "math/bits.deBruijn32tab", "math/bits.deBruijn64tab"], apart := false, laid := [("math/bits.deBruijn32tab", laid_math_bits_deBruijn32tab), ("math/bits.deBruijn64tab", laid_math_bits_deBruijn64tab), ("internal/strconv.uint64pow10", laid_internal_strconv_uint64pow10), ("strconv.ErrRange", laid_strconv_ErrRange), ("strconv.ErrSyntax", laid_strconv_ErrSyntax)], narrowed := true }
def BreParsesUptoSaid : Prop := breParsesUptoRow.holds Tryz.pinned (OpenSpec.upto breParsesSpec)

/-- 'calenderlaw04.BrePrints', WHERE WHAT IT READS IS OF BULK AT MOST 1048576: true; the input reads as it did. -/
def brePrintsUptoRow : OpenClaim := { program := "ythhbdkdofhhoeaagreatdoor", sum := "89d914851abc79a1267c03976eb2b9a71e51cb781a17e50ecbae5a6a12f459f6", func := "calender/calenderlaw04.BrePrints", spec := "brePrints", inPlace := ["internal/bytealg.IndexByteString", "internal/bytealg.IndexString", "internal/abi.NoEscape", "internal/bytealg.MakeNoZero"], unfollowed := true, recurses := true, named := ["internal/bytealg.MaxLen", "strconv.ErrSyntax", "strconv.ErrRange", "internal/strconv.uint64pow10", "math/bits.deBruijn32tab", "math/bits.deBruijn64tab"], apart := false, laid := [("math/bits.deBruijn32tab", laid_math_bits_deBruijn32tab), ("math/bits.deBruijn64tab", laid_math_bits_deBruijn64tab), ("internal/strconv.uint64pow10", laid_internal_strconv_uint64pow10), ("strconv.ErrRange", laid_strconv_ErrRange), ("strconv.ErrSyntax", laid_strconv_ErrSyntax)], narrowed := true }
def BrePrintsUptoSaid : Prop := brePrintsUptoRow.holds Tryz.pinned (OpenSpec.upto brePrintsSpec)

/-- 'calenderlaw04.BreBack', WHERE WHAT IT READS IS OF BULK AT MOST 1048576: true; the input reads as it did. -/
def breBackUptoRow : OpenClaim := { program := "ythhbdkdofhhoeaagreatdoor", sum := "89d914851abc79a1267c03976eb2b9a71e51cb781a17e50ecbae5a6a12f459f6", func := "calender/calenderlaw04.BreBack", spec := "breBack", inPlace := ["internal/bytealg.IndexByteString", "internal/bytealg.IndexString", "internal/abi.NoEscape", "internal/bytealg.MakeNoZero"], unfollowed := true, recurses := true, named := ["internal/bytealg.MaxLen", "strconv.ErrSyntax", "strconv.ErrRange", "internal/strconv.uint64pow10", "math/bits.deBruijn32tab", "math/bits.deBruijn64tab"], apart := false, laid := [("math/bits.deBruijn32tab", laid_math_bits_deBruijn32tab), ("math/bits.deBruijn64tab", laid_math_bits_deBruijn64tab), ("internal/strconv.uint64pow10", laid_internal_strconv_uint64pow10), ("strconv.ErrRange", laid_strconv_ErrRange), ("strconv.ErrSyntax", laid_strconv_ErrSyntax)], narrowed := true }
def BreBackUptoSaid : Prop := breBackUptoRow.holds Tryz.pinned (OpenSpec.upto breBackSpec)

/-- 'calenderlaw04.BreLetters', WHERE WHAT IT READS IS OF BULK AT MOST 1048576: true; the input reads as it did. -/
def breLettersUptoRow : OpenClaim := { program := "ythhbdkdofhhoeaagreatdoor", sum := "89d914851abc79a1267c03976eb2b9a71e51cb781a17e50ecbae5a6a12f459f6", func := "calender/calenderlaw04.BreLetters", spec := "breLetters", inPlace := ["internal/bytealg.IndexByteString", "internal/bytealg.IndexString", "internal/abi.NoEscape", "internal/bytealg.MakeNoZero"], unfollowed := true, recurses := true, named := ["internal/bytealg.MaxLen", "strconv.ErrSyntax", "strconv.ErrRange", "internal/strconv.uint64pow10", "math/bits.deBruijn32tab", "math/bits.deBruijn64tab"], apart := false, laid := [("math/bits.deBruijn32tab", laid_math_bits_deBruijn32tab), ("math/bits.deBruijn64tab", laid_math_bits_deBruijn64tab), ("internal/strconv.uint64pow10", laid_internal_strconv_uint64pow10), ("strconv.ErrRange", laid_strconv_ErrRange), ("strconv.ErrSyntax", laid_strconv_ErrSyntax)], narrowed := true }
def BreLettersUptoSaid : Prop := breLettersUptoRow.holds Tryz.pinned (OpenSpec.upto breLettersSpec)

/-- 'calenderlaw04.BrePlaces', WHERE WHAT IT READS IS OF BULK AT MOST 1048576: true; the input reads as it did. -/
def brePlacesUptoRow : OpenClaim := { program := "ythhbdkdofhhoeaagreatdoor", sum := "89d914851abc79a1267c03976eb2b9a71e51cb781a17e50ecbae5a6a12f459f6", func := "calender/calenderlaw04.BrePlaces", spec := "brePlaces", inPlace := ["internal/bytealg.IndexByteString", "internal/bytealg.IndexString", "internal/abi.NoEscape", "internal/bytealg.MakeNoZero"], unfollowed := true, recurses := true, named := ["internal/bytealg.MaxLen", "strconv.ErrSyntax", "strconv.ErrRange", "internal/strconv.uint64pow10", "math/bits.deBruijn32tab", "math/bits.deBruijn64tab"], apart := false, laid := [("math/bits.deBruijn32tab", laid_math_bits_deBruijn32tab), ("math/bits.deBruijn64tab", laid_math_bits_deBruijn64tab), ("internal/strconv.uint64pow10", laid_internal_strconv_uint64pow10), ("strconv.ErrRange", laid_strconv_ErrRange), ("strconv.ErrSyntax", laid_strconv_ErrSyntax)], narrowed := true }
def BrePlacesUptoSaid : Prop := brePlacesUptoRow.holds Tryz.pinned (OpenSpec.upto brePlacesSpec)

/-- 'calenderlaw04.BreShows', WHERE WHAT IT READS IS OF BULK AT MOST 1048576: true; the input reads as it did. -/
def breShowsUptoRow : OpenClaim := { program := "ythhbdkdofhhoeaagreatdoor", sum := "89d914851abc79a1267c03976eb2b9a71e51cb781a17e50ecbae5a6a12f459f6", func := "calender/calenderlaw04.BreShows", spec := "breShows", inPlace := ["internal/bytealg.IndexByteString", "internal/bytealg.IndexString", "internal/abi.NoEscape", "internal/bytealg.MakeNoZero"], unfollowed := true, recurses := true, named := ["math/bits.deBruijn64tab", "internal/bytealg.MaxLen", "strconv.ErrSyntax", "strconv.ErrRange", "internal/strconv.uint64pow10", "math/bits.deBruijn32tab"], apart := false, laid := [("math/bits.deBruijn32tab", laid_math_bits_deBruijn32tab), ("math/bits.deBruijn64tab", laid_math_bits_deBruijn64tab), ("internal/strconv.uint64pow10", laid_internal_strconv_uint64pow10), ("strconv.ErrRange", laid_strconv_ErrRange), ("strconv.ErrSyntax", laid_strconv_ErrSyntax)], narrowed := true }
def BreShowsUptoSaid : Prop := breShowsUptoRow.holds Tryz.pinned (OpenSpec.upto breShowsSpec)

/-- 'calenderlaw05.EreParses', WHERE WHAT IT READS IS OF BULK AT MOST 1048576: true; the input reads as it did. -/
def ereParsesUptoRow : OpenClaim := { program := "ythhbdkdofhhoeaagreatdoor", sum := "89d914851abc79a1267c03976eb2b9a71e51cb781a17e50ecbae5a6a12f459f6", func := "calender/calenderlaw05.EreParses", spec := "ereParses", inPlace := ["internal/bytealg.IndexByteString", "internal/bytealg.IndexString", "internal/abi.NoEscape", "internal/bytealg.MakeNoZero"], unfollowed := true, recurses := true, named := ["internal/bytealg.MaxLen", "strconv.ErrSyntax", "strconv.ErrRange", "internal/strconv.uint64pow10", "math/bits.deBruijn32tab", "math/bits.deBruijn64tab"], apart := false, laid := [("math/bits.deBruijn32tab", laid_math_bits_deBruijn32tab), ("math/bits.deBruijn64tab", laid_math_bits_deBruijn64tab), ("internal/strconv.uint64pow10", laid_internal_strconv_uint64pow10), ("strconv.ErrRange", laid_strconv_ErrRange), ("strconv.ErrSyntax", laid_strconv_ErrSyntax)], narrowed := true }
def EreParsesUptoSaid : Prop := ereParsesUptoRow.holds Tryz.pinned (OpenSpec.upto ereParsesSpec)

/-- 'calenderlaw05.ErePrints', WHERE WHAT IT READS IS OF BULK AT MOST 1048576: true; the input reads as it did. -/
def erePrintsUptoRow : OpenClaim := { program := "ythhbdkdofhhoeaagreatdoor", sum := "89d914851abc79a1267c03976eb2b9a71e51cb781a17e50ecbae5a6a12f459f6", func := "calender/calenderlaw05.ErePrints", spec := "erePrints", inPlace := ["internal/bytealg.IndexByteString", "internal/bytealg.IndexString", "internal/abi.NoEscape", "internal/bytealg.MakeNoZero"], unfollowed := true, recurses := true, named := ["internal/bytealg.MaxLen", "strconv.ErrSyntax", "strconv.ErrRange", "internal/strconv.uint64pow10", "math/bits.deBruijn32tab", "math/bits.deBruijn64tab"], apart := false, laid := [("math/bits.deBruijn32tab", laid_math_bits_deBruijn32tab), ("math/bits.deBruijn64tab", laid_math_bits_deBruijn64tab), ("internal/strconv.uint64pow10", laid_internal_strconv_uint64pow10), ("strconv.ErrRange", laid_strconv_ErrRange), ("strconv.ErrSyntax", laid_strconv_ErrSyntax)], narrowed := true }
def ErePrintsUptoSaid : Prop := erePrintsUptoRow.holds Tryz.pinned (OpenSpec.upto erePrintsSpec)

/-- 'calenderlaw05.EreBack', WHERE WHAT IT READS IS OF BULK AT MOST 1048576: true; the input reads as it did. -/
def ereBackUptoRow : OpenClaim := { program := "ythhbdkdofhhoeaagreatdoor", sum := "89d914851abc79a1267c03976eb2b9a71e51cb781a17e50ecbae5a6a12f459f6", func := "calender/calenderlaw05.EreBack", spec := "ereBack", inPlace := ["internal/bytealg.IndexByteString", "internal/bytealg.IndexString", "internal/abi.NoEscape", "internal/bytealg.MakeNoZero"], unfollowed := true, recurses := true, named := ["internal/bytealg.MaxLen", "strconv.ErrSyntax", "strconv.ErrRange", "internal/strconv.uint64pow10", "math/bits.deBruijn32tab", "math/bits.deBruijn64tab"], apart := false, laid := [("math/bits.deBruijn32tab", laid_math_bits_deBruijn32tab), ("math/bits.deBruijn64tab", laid_math_bits_deBruijn64tab), ("internal/strconv.uint64pow10", laid_internal_strconv_uint64pow10), ("strconv.ErrRange", laid_strconv_ErrRange), ("strconv.ErrSyntax", laid_strconv_ErrSyntax)], narrowed := true }
def EreBackUptoSaid : Prop := ereBackUptoRow.holds Tryz.pinned (OpenSpec.upto ereBackSpec)

/-- 'calenderlaw05.EreAlts', WHERE WHAT IT READS IS OF BULK AT MOST 1048576: true; the input reads as it did. -/
def ereAltsUptoRow : OpenClaim := { program := "ythhbdkdofhhoeaagreatdoor", sum := "89d914851abc79a1267c03976eb2b9a71e51cb781a17e50ecbae5a6a12f459f6", func := "calender/calenderlaw05.EreAlts", spec := "ereAlts", inPlace := ["internal/bytealg.IndexByteString", "internal/bytealg.IndexString", "internal/abi.NoEscape", "internal/bytealg.MakeNoZero"], unfollowed := true, recurses := true, named := ["internal/bytealg.MaxLen", "strconv.ErrSyntax", "strconv.ErrRange", "internal/strconv.uint64pow10", "math/bits.deBruijn32tab", "math/bits.deBruijn64tab"], apart := false, laid := [("math/bits.deBruijn32tab", laid_math_bits_deBruijn32tab), ("math/bits.deBruijn64tab", laid_math_bits_deBruijn64tab), ("internal/strconv.uint64pow10", laid_internal_strconv_uint64pow10), ("strconv.ErrRange", laid_strconv_ErrRange), ("strconv.ErrSyntax", laid_strconv_ErrSyntax)], narrowed := true }
def EreAltsUptoSaid : Prop := ereAltsUptoRow.holds Tryz.pinned (OpenSpec.upto ereAltsSpec)

/-- 'calenderlaw05.ErePlaces', WHERE WHAT IT READS IS OF BULK AT MOST 1048576: true; the input reads as it did. -/
def erePlacesUptoRow : OpenClaim := { program := "ythhbdkdofhhoeaagreatdoor", sum := "89d914851abc79a1267c03976eb2b9a71e51cb781a17e50ecbae5a6a12f459f6", func := "calender/calenderlaw05.ErePlaces", spec := "erePlaces", inPlace := ["internal/bytealg.IndexByteString", "internal/bytealg.IndexString", "internal/abi.NoEscape", "internal/bytealg.MakeNoZero"], unfollowed := true, recurses := true, named := ["internal/bytealg.MaxLen", "strconv.ErrSyntax", "strconv.ErrRange", "internal/strconv.uint64pow10", "math/bits.deBruijn32tab", "math/bits.deBruijn64tab"], apart := false, laid := [("math/bits.deBruijn32tab", laid_math_bits_deBruijn32tab), ("math/bits.deBruijn64tab", laid_math_bits_deBruijn64tab), ("internal/strconv.uint64pow10", laid_internal_strconv_uint64pow10), ("strconv.ErrRange", laid_strconv_ErrRange), ("strconv.ErrSyntax", laid_strconv_ErrSyntax)], narrowed := true }
def ErePlacesUptoSaid : Prop := erePlacesUptoRow.holds Tryz.pinned (OpenSpec.upto erePlacesSpec)

/-- 'calenderlaw05.EreShows', WHERE WHAT IT READS IS OF BULK AT MOST 1048576: true; the input reads as it did. -/
def ereShowsUptoRow : OpenClaim := { program := "ythhbdkdofhhoeaagreatdoor", sum := "89d914851abc79a1267c03976eb2b9a71e51cb781a17e50ecbae5a6a12f459f6", func := "calender/calenderlaw05.EreShows", spec := "ereShows", inPlace := ["internal/bytealg.IndexByteString", "internal/bytealg.IndexString", "internal/abi.NoEscape", "internal/bytealg.MakeNoZero"], unfollowed := true, recurses := true, named := ["math/bits.deBruijn64tab", "internal/bytealg.MaxLen", "strconv.ErrSyntax", "strconv.ErrRange", "internal/strconv.uint64pow10", "math/bits.deBruijn32tab"], apart := false, laid := [("math/bits.deBruijn32tab", laid_math_bits_deBruijn32tab), ("math/bits.deBruijn64tab", laid_math_bits_deBruijn64tab), ("internal/strconv.uint64pow10", laid_internal_strconv_uint64pow10), ("strconv.ErrRange", laid_strconv_ErrRange), ("strconv.ErrSyntax", laid_strconv_ErrSyntax)], narrowed := true }
def EreShowsUptoSaid : Prop := ereShowsUptoRow.holds Tryz.pinned (OpenSpec.upto ereShowsSpec)

end Rows
end Go.Proofs.YthhbdkdofhhoeaaGreatDoor
