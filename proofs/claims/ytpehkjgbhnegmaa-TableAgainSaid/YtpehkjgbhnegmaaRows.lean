/-
  No cell of these rows narrows 'for every input' (looked for: loops, veiled, ifaces, maps, wideKeys, modest, calm, conditions, laid).
  DERIVED. THE GIVEN ROWS OF THIS SEAT. 11 by the template 'for every input the law returns true; each argument reads behind the call as it read before'; 0 by the template 'total and deterministic' (their statements: YtpehkjgbhnegmaaTotals.lean).
  GIVEN WITH THE SEED: the statements are not yours to turn. If you find one false, say at which input.
  Laid BY PROGRAM, IN A SANDBOX (cutbox-rows.mjs): the forced cells as the released guide's own fill.sh prints them over the translation eafa202cf7c2c0c3… (all of the seat's roots in one cut). By AI agents, Wed Nov 11 2026. No macro, syntax, notation, axiom, sorry.
-/
import Derived.Test.YtpehkjgbhnegmaaChecked
import GoSem.Claim
import GoSem.ClaimJoined
import GoSem.ClaimMapViews
import Derived.JoinedTies
import Derived.KernelRfl
namespace Go.Proofs.Ytpehkjgbhnegmaa
/- THE CELL 'sum', in the pinned program and in every row, IS THE sha256 OF THE DUMP (.gsa) THAT YtpehkjgbhnegmaaProg.lean LOADS. Nothing in Lean hashes anything: it is a label: what it is worth is what the hold of that sum in a sandbox is worth. -/
noncomputable def Try.pinned : Pinned := { name := "ytpehkjgbhnegmaa", sum := "eafa202cf7c2c0c3dc3d41403669c9510ee9f5d1903b5a77e162bc833228cb31", checked := Try.checked }
namespace Rows
def none {H : Type} : Left H := { results := [], args := [] }

/-- 'calenderlaw18.LinkTells': WHATEVER THE INPUT: true; the input reads as it did. -/
def linkTellsSpec : ChangeSpec := { name := "linkTells", fn := fun _ => fun
  | [d1, d2] => { results := [.lit (.bool true)], args := [d1, d2] }
  | _ => none }
def linkTellsRow : OpenClaim := { program := "ytpehkjgbhnegmaa", sum := "eafa202cf7c2c0c3dc3d41403669c9510ee9f5d1903b5a77e162bc833228cb31", func := "calender/calenderlaw18.LinkTells", spec := "linkTells", inPlace := ["internal/bytealg.IndexByteString", "internal/bytealg.IndexString"], named := ["internal/bytealg.MaxLen"], apart := false }
def LinkTellsSaid : Prop := linkTellsRow.holds Try.pinned (OpenSpec.ofChange linkTellsSpec)

/-- ITS FALSE NEIGHBOUR: 'it returns false'. Refute it at one input. -/
def linkTellsWrong : ChangeSpec := { name := "linkTells", fn := fun _ => fun
  | [d1, d2] => { results := [.lit (.bool false)], args := [d1, d2] }
  | _ => none }
def LinkTellsWrongFalsely : Prop := linkTellsRow.holds Try.pinned (OpenSpec.ofChange linkTellsWrong)

/-- 'calenderlaw18.LinkTakes': WHATEVER THE INPUT: true; the input reads as it did. -/
def linkTakesSpec : ChangeSpec := { name := "linkTakes", fn := fun _ => fun
  | [d] => { results := [.lit (.bool true)], args := [d] }
  | _ => none }
def linkTakesRow : OpenClaim := { program := "ytpehkjgbhnegmaa", sum := "eafa202cf7c2c0c3dc3d41403669c9510ee9f5d1903b5a77e162bc833228cb31", func := "calender/calenderlaw18.LinkTakes", spec := "linkTakes", inPlace := ["internal/bytealg.IndexByteString", "internal/bytealg.IndexString"], named := ["internal/bytealg.MaxLen"], apart := false }
def LinkTakesSaid : Prop := linkTakesRow.holds Try.pinned (OpenSpec.ofChange linkTakesSpec)

/-- ITS FALSE NEIGHBOUR: 'it returns false'. Refute it at one input. -/
def linkTakesWrong : ChangeSpec := { name := "linkTakes", fn := fun _ => fun
  | [d] => { results := [.lit (.bool false)], args := [d] }
  | _ => none }
def LinkTakesWrongFalsely : Prop := linkTakesRow.holds Try.pinned (OpenSpec.ofChange linkTakesWrong)

/-- 'calenderlaw18.LinkHolds': WHATEVER THE INPUT: true; the input reads as it did. -/
def linkHoldsSpec : ChangeSpec := { name := "linkHolds", fn := fun _ => fun
  | [d] => { results := [.lit (.bool true)], args := [d] }
  | _ => none }
def linkHoldsRow : OpenClaim := { program := "ytpehkjgbhnegmaa", sum := "eafa202cf7c2c0c3dc3d41403669c9510ee9f5d1903b5a77e162bc833228cb31", func := "calender/calenderlaw18.LinkHolds", spec := "linkHolds", inPlace := ["internal/bytealg.IndexByteString", "internal/bytealg.IndexString"], unfollowed := true, recurses := true, named := ["internal/bytealg.MaxLen"], apart := false }
def LinkHoldsSaid : Prop := linkHoldsRow.holds Try.pinned (OpenSpec.ofChange linkHoldsSpec)

/-- ITS FALSE NEIGHBOUR: 'it returns false'. Refute it at one input. -/
def linkHoldsWrong : ChangeSpec := { name := "linkHolds", fn := fun _ => fun
  | [d] => { results := [.lit (.bool false)], args := [d] }
  | _ => none }
def LinkHoldsWrongFalsely : Prop := linkHoldsRow.holds Try.pinned (OpenSpec.ofChange linkHoldsWrong)

/-- 'calenderlaw18.LinkClosed': WHATEVER THE INPUT: true; the input reads as it did. -/
def linkClosedSpec : ChangeSpec := { name := "linkClosed", fn := fun _ => fun
  | [d1, d2] => { results := [.lit (.bool true)], args := [d1, d2] }
  | _ => none }
def linkClosedRow : OpenClaim := { program := "ytpehkjgbhnegmaa", sum := "eafa202cf7c2c0c3dc3d41403669c9510ee9f5d1903b5a77e162bc833228cb31", func := "calender/calenderlaw18.LinkClosed", spec := "linkClosed", inPlace := ["internal/bytealg.IndexByteString", "internal/bytealg.IndexString"], unfollowed := true, recurses := true, named := ["internal/bytealg.MaxLen"], apart := false }
def LinkClosedSaid : Prop := linkClosedRow.holds Try.pinned (OpenSpec.ofChange linkClosedSpec)

/-- ITS FALSE NEIGHBOUR: 'it returns false'. Refute it at one input. -/
def linkClosedWrong : ChangeSpec := { name := "linkClosed", fn := fun _ => fun
  | [d1, d2] => { results := [.lit (.bool false)], args := [d1, d2] }
  | _ => none }
def LinkClosedWrongFalsely : Prop := linkClosedRow.holds Try.pinned (OpenSpec.ofChange linkClosedWrong)

/-- 'calenderlaw18.LinkLines': WHATEVER THE INPUT: true; the input reads as it did. -/
def linkLinesSpec : ChangeSpec := { name := "linkLines", fn := fun _ => fun
  | [d1, d2] => { results := [.lit (.bool true)], args := [d1, d2] }
  | _ => none }
def linkLinesRow : OpenClaim := { program := "ytpehkjgbhnegmaa", sum := "eafa202cf7c2c0c3dc3d41403669c9510ee9f5d1903b5a77e162bc833228cb31", func := "calender/calenderlaw18.LinkLines", spec := "linkLines", inPlace := ["internal/bytealg.IndexByteString", "internal/bytealg.IndexString", "internal/abi.NoEscape"], unfollowed := true, recurses := true, named := ["internal/bytealg.MaxLen"], apart := false }
def LinkLinesSaid : Prop := linkLinesRow.holds Try.pinned (OpenSpec.ofChange linkLinesSpec)

/-- ITS FALSE NEIGHBOUR: 'it returns false'. Refute it at one input. -/
def linkLinesWrong : ChangeSpec := { name := "linkLines", fn := fun _ => fun
  | [d1, d2] => { results := [.lit (.bool false)], args := [d1, d2] }
  | _ => none }
def LinkLinesWrongFalsely : Prop := linkLinesRow.holds Try.pinned (OpenSpec.ofChange linkLinesWrong)

/-- 'calenderlaw08.TableTells': WHATEVER THE INPUT: true; the input reads as it did. -/
def tableTellsSpec : ChangeSpec := { name := "tableTells", fn := fun _ => fun
  | [d1, d2] => { results := [.lit (.bool true)], args := [d1, d2] }
  | _ => none }
def tableTellsRow : OpenClaim := { program := "ytpehkjgbhnegmaa", sum := "eafa202cf7c2c0c3dc3d41403669c9510ee9f5d1903b5a77e162bc833228cb31", func := "calender/calenderlaw08.TableTells", spec := "tableTells", inPlace := ["slices.overlaps[calender/table.File]", "internal/bytealg.IndexByteString", "internal/bytealg.IndexString"], unfollowed := true, recurses := true, named := ["internal/bytealg.MaxLen"], apart := false }
def TableTellsSaid : Prop := tableTellsRow.holds Try.pinned (OpenSpec.ofChange tableTellsSpec)

/-- ITS FALSE NEIGHBOUR: 'it returns false'. Refute it at one input. -/
def tableTellsWrong : ChangeSpec := { name := "tableTells", fn := fun _ => fun
  | [d1, d2] => { results := [.lit (.bool false)], args := [d1, d2] }
  | _ => none }
def TableTellsWrongFalsely : Prop := tableTellsRow.holds Try.pinned (OpenSpec.ofChange tableTellsWrong)

/-- 'calenderlaw08.TablePuts': WHATEVER THE INPUT: true; the input reads as it did. -/
def tablePutsSpec : ChangeSpec := { name := "tablePuts", fn := fun _ => fun
  | [d1, d2] => { results := [.lit (.bool true)], args := [d1, d2] }
  | _ => none }
def tablePutsRow : OpenClaim := { program := "ytpehkjgbhnegmaa", sum := "eafa202cf7c2c0c3dc3d41403669c9510ee9f5d1903b5a77e162bc833228cb31", func := "calender/calenderlaw08.TablePuts", spec := "tablePuts", inPlace := ["slices.overlaps[calender/table.File]", "internal/bytealg.IndexByteString", "internal/bytealg.IndexString"], unfollowed := true, recurses := true, named := ["internal/bytealg.MaxLen"], apart := false }
def TablePutsSaid : Prop := tablePutsRow.holds Try.pinned (OpenSpec.ofChange tablePutsSpec)

/-- ITS FALSE NEIGHBOUR: 'it returns false'. Refute it at one input. -/
def tablePutsWrong : ChangeSpec := { name := "tablePuts", fn := fun _ => fun
  | [d1, d2] => { results := [.lit (.bool false)], args := [d1, d2] }
  | _ => none }
def TablePutsWrongFalsely : Prop := tablePutsRow.holds Try.pinned (OpenSpec.ofChange tablePutsWrong)

/-- 'calenderlaw08.TableOthers': WHATEVER THE INPUT: true; the input reads as it did. -/
def tableOthersSpec : ChangeSpec := { name := "tableOthers", fn := fun _ => fun
  | [d1, d2, d3, d4] => { results := [.lit (.bool true)], args := [d1, d2, d3, d4] }
  | _ => none }
def tableOthersRow : OpenClaim := { program := "ytpehkjgbhnegmaa", sum := "eafa202cf7c2c0c3dc3d41403669c9510ee9f5d1903b5a77e162bc833228cb31", func := "calender/calenderlaw08.TableOthers", spec := "tableOthers", inPlace := ["slices.overlaps[calender/table.File]", "internal/bytealg.IndexByteString", "internal/bytealg.IndexString"], unfollowed := true, recurses := true, named := ["internal/bytealg.MaxLen"], apart := false }
def TableOthersSaid : Prop := tableOthersRow.holds Try.pinned (OpenSpec.ofChange tableOthersSpec)

/-- ITS FALSE NEIGHBOUR: 'it returns false'. Refute it at one input. -/
def tableOthersWrong : ChangeSpec := { name := "tableOthers", fn := fun _ => fun
  | [d1, d2, d3, d4] => { results := [.lit (.bool false)], args := [d1, d2, d3, d4] }
  | _ => none }
def TableOthersWrongFalsely : Prop := tableOthersRow.holds Try.pinned (OpenSpec.ofChange tableOthersWrong)

/-- 'calenderlaw08.TableAgain': WHATEVER THE INPUT: true; the input reads as it did. -/
def tableAgainSpec : ChangeSpec := { name := "tableAgain", fn := fun _ => fun
  | [d1, d2, d3, d4] => { results := [.lit (.bool true)], args := [d1, d2, d3, d4] }
  | _ => none }
def tableAgainRow : OpenClaim := { program := "ytpehkjgbhnegmaa", sum := "eafa202cf7c2c0c3dc3d41403669c9510ee9f5d1903b5a77e162bc833228cb31", func := "calender/calenderlaw08.TableAgain", spec := "tableAgain", inPlace := ["slices.overlaps[calender/table.File]", "internal/bytealg.IndexByteString", "internal/bytealg.IndexString"], unfollowed := true, recurses := true, named := ["internal/bytealg.MaxLen"], apart := false }
def TableAgainSaid : Prop := tableAgainRow.holds Try.pinned (OpenSpec.ofChange tableAgainSpec)

/-- ITS FALSE NEIGHBOUR: 'it returns false'. Refute it at one input. -/
def tableAgainWrong : ChangeSpec := { name := "tableAgain", fn := fun _ => fun
  | [d1, d2, d3, d4] => { results := [.lit (.bool false)], args := [d1, d2, d3, d4] }
  | _ => none }
def TableAgainWrongFalsely : Prop := tableAgainRow.holds Try.pinned (OpenSpec.ofChange tableAgainWrong)

/-- 'calenderlaw08.TableSplits': WHATEVER THE INPUT: true; the input reads as it did. -/
def tableSplitsSpec : ChangeSpec := { name := "tableSplits", fn := fun _ => fun
  | [d1, d2] => { results := [.lit (.bool true)], args := [d1, d2] }
  | _ => none }
def tableSplitsRow : OpenClaim := { program := "ytpehkjgbhnegmaa", sum := "eafa202cf7c2c0c3dc3d41403669c9510ee9f5d1903b5a77e162bc833228cb31", func := "calender/calenderlaw08.TableSplits", spec := "tableSplits", inPlace := ["slices.overlaps[calender/table.File]", "internal/bytealg.IndexByteString", "internal/bytealg.IndexString", "internal/abi.NoEscape"], unfollowed := true, recurses := true, named := ["internal/bytealg.MaxLen"], apart := false }
def TableSplitsSaid : Prop := tableSplitsRow.holds Try.pinned (OpenSpec.ofChange tableSplitsSpec)

/-- ITS FALSE NEIGHBOUR: 'it returns false'. Refute it at one input. -/
def tableSplitsWrong : ChangeSpec := { name := "tableSplits", fn := fun _ => fun
  | [d1, d2] => { results := [.lit (.bool false)], args := [d1, d2] }
  | _ => none }
def TableSplitsWrongFalsely : Prop := tableSplitsRow.holds Try.pinned (OpenSpec.ofChange tableSplitsWrong)

/-- 'calenderlaw08.TableBack': WHATEVER THE INPUT: true; the input reads as it did. -/
def tableBackSpec : ChangeSpec := { name := "tableBack", fn := fun _ => fun
  | [d] => { results := [.lit (.bool true)], args := [d] }
  | _ => none }
def tableBackRow : OpenClaim := { program := "ytpehkjgbhnegmaa", sum := "eafa202cf7c2c0c3dc3d41403669c9510ee9f5d1903b5a77e162bc833228cb31", func := "calender/calenderlaw08.TableBack", spec := "tableBack", inPlace := ["slices.overlaps[calender/table.File]", "internal/bytealg.IndexByteString", "internal/bytealg.IndexString", "internal/abi.NoEscape"], unfollowed := true, recurses := true, named := ["internal/bytealg.MaxLen"], apart := false }
def TableBackSaid : Prop := tableBackRow.holds Try.pinned (OpenSpec.ofChange tableBackSpec)

/-- ITS FALSE NEIGHBOUR: 'it returns false'. Refute it at one input. -/
def tableBackWrong : ChangeSpec := { name := "tableBack", fn := fun _ => fun
  | [d] => { results := [.lit (.bool false)], args := [d] }
  | _ => none }
def TableBackWrongFalsely : Prop := tableBackRow.holds Try.pinned (OpenSpec.ofChange tableBackWrong)

/- THE SECOND FORM. 'bulk': how many values and letters a reading holds, each counted each time it is reached (what is shared counts as often as it is met; a slice's spare places count too). A statement '..UptoSaid' is the law's where the arguments, and the package variables that the reading takes, are together of bulk at most 1048576: NARROWER than '..Said'. Prove '..Said' where nothing that the law and all that it calls make is longer than what came in: it says more and counts as full. Else prove '..UptoSaid'. A law counts once. -/
mutual
def uptoBulk {H : Type} : DataW H → Nat
  | .lit (.string bytes) => bytes.length + 1
  | .lit _ => 1
  | .nil => 1
  | .ptr d => uptoBulk d + 1
  | .slice elems spare => uptoBulkAll elems + uptoBulkAll spare + 1
  | .agg parts => uptoBulkAll parts + 1
  | .iface _ d => uptoBulk d + 1
  | .map entries => uptoBulkEntries entries + 1
  | .held _ => 1
def uptoBulkAll {H : Type} : List (DataW H) → Nat
  | [] => 0
  | d :: r => uptoBulk d + uptoBulkAll r
def uptoBulkEntries {H : Type} : List (Lit × DataW H) → Nat
  | [] => 0
  | x :: r => uptoBulkEntry x + uptoBulkEntries r
def uptoBulkEntry {H : Type} : Lit × DataW H → Nat
  | (.string bytes, d) => bytes.length + uptoBulk d + 1
  | (_, d) => uptoBulk d + 1
 end
def uptoSmall : (H : Type) → List (DataW H) → Bool := fun _ ds => decide (uptoBulkAll ds ≤ 1048576)
def OpenSpec.upto (s : _root_.Go.ChangeSpec) : _root_.Go.OpenSpec := { _root_.Go.OpenSpec.ofChange s with cond := some uptoSmall }

/-- 'calenderlaw18.LinkTells', WHERE WHAT IT READS IS OF BULK AT MOST 1048576: true; the input reads as it did. -/
def linkTellsUptoRow : OpenClaim := { program := "ytpehkjgbhnegmaa", sum := "eafa202cf7c2c0c3dc3d41403669c9510ee9f5d1903b5a77e162bc833228cb31", func := "calender/calenderlaw18.LinkTells", spec := "linkTells", inPlace := ["internal/bytealg.IndexByteString", "internal/bytealg.IndexString"], named := ["internal/bytealg.MaxLen"], apart := false, narrowed := true }
def LinkTellsUptoSaid : Prop := linkTellsUptoRow.holds Try.pinned (OpenSpec.upto linkTellsSpec)

/-- 'calenderlaw18.LinkTakes', WHERE WHAT IT READS IS OF BULK AT MOST 1048576: true; the input reads as it did. -/
def linkTakesUptoRow : OpenClaim := { program := "ytpehkjgbhnegmaa", sum := "eafa202cf7c2c0c3dc3d41403669c9510ee9f5d1903b5a77e162bc833228cb31", func := "calender/calenderlaw18.LinkTakes", spec := "linkTakes", inPlace := ["internal/bytealg.IndexByteString", "internal/bytealg.IndexString"], named := ["internal/bytealg.MaxLen"], apart := false, narrowed := true }
def LinkTakesUptoSaid : Prop := linkTakesUptoRow.holds Try.pinned (OpenSpec.upto linkTakesSpec)

/-- 'calenderlaw18.LinkHolds', WHERE WHAT IT READS IS OF BULK AT MOST 1048576: true; the input reads as it did. -/
def linkHoldsUptoRow : OpenClaim := { program := "ytpehkjgbhnegmaa", sum := "eafa202cf7c2c0c3dc3d41403669c9510ee9f5d1903b5a77e162bc833228cb31", func := "calender/calenderlaw18.LinkHolds", spec := "linkHolds", inPlace := ["internal/bytealg.IndexByteString", "internal/bytealg.IndexString"], unfollowed := true, recurses := true, named := ["internal/bytealg.MaxLen"], apart := false, narrowed := true }
def LinkHoldsUptoSaid : Prop := linkHoldsUptoRow.holds Try.pinned (OpenSpec.upto linkHoldsSpec)

/-- 'calenderlaw18.LinkClosed', WHERE WHAT IT READS IS OF BULK AT MOST 1048576: true; the input reads as it did. -/
def linkClosedUptoRow : OpenClaim := { program := "ytpehkjgbhnegmaa", sum := "eafa202cf7c2c0c3dc3d41403669c9510ee9f5d1903b5a77e162bc833228cb31", func := "calender/calenderlaw18.LinkClosed", spec := "linkClosed", inPlace := ["internal/bytealg.IndexByteString", "internal/bytealg.IndexString"], unfollowed := true, recurses := true, named := ["internal/bytealg.MaxLen"], apart := false, narrowed := true }
def LinkClosedUptoSaid : Prop := linkClosedUptoRow.holds Try.pinned (OpenSpec.upto linkClosedSpec)

/-- 'calenderlaw18.LinkLines', WHERE WHAT IT READS IS OF BULK AT MOST 1048576: true; the input reads as it did. -/
def linkLinesUptoRow : OpenClaim := { program := "ytpehkjgbhnegmaa", sum := "eafa202cf7c2c0c3dc3d41403669c9510ee9f5d1903b5a77e162bc833228cb31", func := "calender/calenderlaw18.LinkLines", spec := "linkLines", inPlace := ["internal/bytealg.IndexByteString", "internal/bytealg.IndexString", "internal/abi.NoEscape"], unfollowed := true, recurses := true, named := ["internal/bytealg.MaxLen"], apart := false, narrowed := true }
def LinkLinesUptoSaid : Prop := linkLinesUptoRow.holds Try.pinned (OpenSpec.upto linkLinesSpec)

/-- 'calenderlaw08.TableTells', WHERE WHAT IT READS IS OF BULK AT MOST 1048576: true; the input reads as it did. -/
def tableTellsUptoRow : OpenClaim := { program := "ytpehkjgbhnegmaa", sum := "eafa202cf7c2c0c3dc3d41403669c9510ee9f5d1903b5a77e162bc833228cb31", func := "calender/calenderlaw08.TableTells", spec := "tableTells", inPlace := ["slices.overlaps[calender/table.File]", "internal/bytealg.IndexByteString", "internal/bytealg.IndexString"], unfollowed := true, recurses := true, named := ["internal/bytealg.MaxLen"], apart := false, narrowed := true }
def TableTellsUptoSaid : Prop := tableTellsUptoRow.holds Try.pinned (OpenSpec.upto tableTellsSpec)

/-- 'calenderlaw08.TablePuts', WHERE WHAT IT READS IS OF BULK AT MOST 1048576: true; the input reads as it did. -/
def tablePutsUptoRow : OpenClaim := { program := "ytpehkjgbhnegmaa", sum := "eafa202cf7c2c0c3dc3d41403669c9510ee9f5d1903b5a77e162bc833228cb31", func := "calender/calenderlaw08.TablePuts", spec := "tablePuts", inPlace := ["slices.overlaps[calender/table.File]", "internal/bytealg.IndexByteString", "internal/bytealg.IndexString"], unfollowed := true, recurses := true, named := ["internal/bytealg.MaxLen"], apart := false, narrowed := true }
def TablePutsUptoSaid : Prop := tablePutsUptoRow.holds Try.pinned (OpenSpec.upto tablePutsSpec)

/-- 'calenderlaw08.TableOthers', WHERE WHAT IT READS IS OF BULK AT MOST 1048576: true; the input reads as it did. -/
def tableOthersUptoRow : OpenClaim := { program := "ytpehkjgbhnegmaa", sum := "eafa202cf7c2c0c3dc3d41403669c9510ee9f5d1903b5a77e162bc833228cb31", func := "calender/calenderlaw08.TableOthers", spec := "tableOthers", inPlace := ["slices.overlaps[calender/table.File]", "internal/bytealg.IndexByteString", "internal/bytealg.IndexString"], unfollowed := true, recurses := true, named := ["internal/bytealg.MaxLen"], apart := false, narrowed := true }
def TableOthersUptoSaid : Prop := tableOthersUptoRow.holds Try.pinned (OpenSpec.upto tableOthersSpec)

/-- 'calenderlaw08.TableAgain', WHERE WHAT IT READS IS OF BULK AT MOST 1048576: true; the input reads as it did. -/
def tableAgainUptoRow : OpenClaim := { program := "ytpehkjgbhnegmaa", sum := "eafa202cf7c2c0c3dc3d41403669c9510ee9f5d1903b5a77e162bc833228cb31", func := "calender/calenderlaw08.TableAgain", spec := "tableAgain", inPlace := ["slices.overlaps[calender/table.File]", "internal/bytealg.IndexByteString", "internal/bytealg.IndexString"], unfollowed := true, recurses := true, named := ["internal/bytealg.MaxLen"], apart := false, narrowed := true }
def TableAgainUptoSaid : Prop := tableAgainUptoRow.holds Try.pinned (OpenSpec.upto tableAgainSpec)

/-- 'calenderlaw08.TableSplits', WHERE WHAT IT READS IS OF BULK AT MOST 1048576: true; the input reads as it did. -/
def tableSplitsUptoRow : OpenClaim := { program := "ytpehkjgbhnegmaa", sum := "eafa202cf7c2c0c3dc3d41403669c9510ee9f5d1903b5a77e162bc833228cb31", func := "calender/calenderlaw08.TableSplits", spec := "tableSplits", inPlace := ["slices.overlaps[calender/table.File]", "internal/bytealg.IndexByteString", "internal/bytealg.IndexString", "internal/abi.NoEscape"], unfollowed := true, recurses := true, named := ["internal/bytealg.MaxLen"], apart := false, narrowed := true }
def TableSplitsUptoSaid : Prop := tableSplitsUptoRow.holds Try.pinned (OpenSpec.upto tableSplitsSpec)

/-- 'calenderlaw08.TableBack', WHERE WHAT IT READS IS OF BULK AT MOST 1048576: true; the input reads as it did. -/
def tableBackUptoRow : OpenClaim := { program := "ytpehkjgbhnegmaa", sum := "eafa202cf7c2c0c3dc3d41403669c9510ee9f5d1903b5a77e162bc833228cb31", func := "calender/calenderlaw08.TableBack", spec := "tableBack", inPlace := ["slices.overlaps[calender/table.File]", "internal/bytealg.IndexByteString", "internal/bytealg.IndexString", "internal/abi.NoEscape"], unfollowed := true, recurses := true, named := ["internal/bytealg.MaxLen"], apart := false, narrowed := true }
def TableBackUptoSaid : Prop := tableBackUptoRow.holds Try.pinned (OpenSpec.upto tableBackSpec)

end Rows
end Go.Proofs.Ytpehkjgbhnegmaa
