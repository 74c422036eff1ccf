/-
  DERIVED. GIVEN WITH THE SEED: THE CARDS: each row of YtlimifngdjkogaaGreatDoorRows.lean that lists a variable, with what it lists TIED to the program's text (the seventh form; the later family's looks); each row that meets fmt, with fmt's text TOLD by the authors' own Lean function (tested against real Go, not proved from fmt's source: count such statements apart). THE CARD IS WHAT COUNTS. Prove the row's statement (the work); the ties are given (YtlimifngdjkogaaGreatDoorTie.lean); close each card by the builder's one call (the guide's Derived/Test/ToyasCard.lean, 'card_holds'). Laid BY PROGRAM, IN A SANDBOX (cutbox-door.mjs). By AI agents, Wed Nov 11 2026. No macro, syntax, notation, axiom, sorry.
-/
import Derived.Test.YtlimifngdjkogaaGreatDoorRows
import GoSem.ClaimSeven
namespace Go.Proofs.YtlimifngdjkogaaGreatDoor
namespace Rows

/-- THE TIED CARD OF 'calenderlaw15.BankBytes'. -/
def bankBytesCard : Claim7 := { stood := { row := bankBytesRow, standIns := [], harness := (true, "2b9ba0ec6f1f31d13e78345df58a303cf8950f8b4eed92e14442ffad7fe115d6"), looks := true }, kinds := [], alts := [], laidByText := true, laidKinds := [.data, .data, .data, .data, .sentinel, .sentinel, .pinned], laidTests := true, laidLooks := .later }
def BankBytesCardSaid : Prop := Claim7.holds Tryz.pinned (.plain (OpenSpec.ofChange bankBytesSpec)) bankBytesCard

/-- THE TIED CARD OF 'calenderlaw15.BankHolds'. -/
def bankHoldsCard : Claim7 := { stood := { row := bankHoldsRow, standIns := [], harness := (true, "2b9ba0ec6f1f31d13e78345df58a303cf8950f8b4eed92e14442ffad7fe115d6"), looks := true }, kinds := [], alts := [], laidByText := true, laidKinds := [.data, .data, .data, .data, .sentinel, .sentinel, .pinned], laidTests := true, laidLooks := .later }
def BankHoldsCardSaid : Prop := Claim7.holds Tryz.pinned (.plain (OpenSpec.ofChange bankHoldsSpec)) bankHoldsCard

/-- THE TIED CARD OF 'calenderlaw15.BankLater'. -/
def bankLaterCard : Claim7 := { stood := { row := bankLaterRow, standIns := [], harness := (true, "2b9ba0ec6f1f31d13e78345df58a303cf8950f8b4eed92e14442ffad7fe115d6"), looks := true }, kinds := [], alts := [], laidByText := true, laidKinds := [.data, .data, .data, .data, .sentinel, .sentinel, .pinned], laidTests := true, laidLooks := .later }
def BankLaterCardSaid : Prop := Claim7.holds Tryz.pinned (.plain (OpenSpec.ofChange bankLaterSpec)) bankLaterCard

/-- THE TIED CARD OF 'calenderlaw16.StageBad'. -/
def stageBadCard : Claim7 := { stood := { row := stageBadRow, standIns := [], harness := (true, "2b9ba0ec6f1f31d13e78345df58a303cf8950f8b4eed92e14442ffad7fe115d6"), looks := true }, kinds := [], alts := [], laidByText := true, laidKinds := [.data, .data, .data, .data, .sentinel, .sentinel, .pinned], laidTests := true, laidLooks := .later }
def StageBadCardSaid : Prop := Claim7.holds Tryz.pinned (.plain (OpenSpec.ofChange stageBadSpec)) stageBadCard

/-- THE TIED CARD OF 'calenderlaw20.FuseWide'. -/
def fuseWideCard : Claim7 := { stood := { row := fuseWideRow, standIns := [], harness := (true, "2b9ba0ec6f1f31d13e78345df58a303cf8950f8b4eed92e14442ffad7fe115d6"), looks := true }, kinds := [], alts := [], laidByText := true, laidKinds := [.data, .data, .data, .data, .sentinel, .sentinel, .pinned], laidTests := true, laidLooks := .later }
def FuseWideCardSaid : Prop := Claim7.holds Tryz.pinned (.plain (OpenSpec.ofChange fuseWideSpec)) fuseWideCard

/-- THE TIED CARD OF 'calenderlaw22.FrontReports'. -/
def frontReportsCard : Claim7 := { stood := { row := frontReportsRow, standIns := [], harness := (true, "2b9ba0ec6f1f31d13e78345df58a303cf8950f8b4eed92e14442ffad7fe115d6"), looks := true }, kinds := [], alts := [], laidByText := true, laidKinds := [.data, .data, .data, .data, .sentinel, .sentinel, .pinned], laidTests := true, laidLooks := .later }
def FrontReportsCardSaid : Prop := Claim7.holds Tryz.pinned (.plain (OpenSpec.ofChange frontReportsSpec)) frontReportsCard

/-- THE SECOND FORM's CARD OF 'calenderlaw15.BankBytes'. -/
def bankBytesUptoCard : Claim7 := { stood := { row := bankBytesUptoRow, standIns := [], harness := (true, "2b9ba0ec6f1f31d13e78345df58a303cf8950f8b4eed92e14442ffad7fe115d6"), looks := true }, kinds := [], alts := [], laidByText := true, laidKinds := [.data, .data, .data, .data, .sentinel, .sentinel, .pinned], laidTests := true, laidLooks := .later }
def BankBytesUptoCardSaid : Prop := Claim7.holds Tryz.pinned (.plain (OpenSpec.upto bankBytesSpec)) bankBytesUptoCard

/-- THE SECOND FORM's CARD OF 'calenderlaw15.BankHolds'. -/
def bankHoldsUptoCard : Claim7 := { stood := { row := bankHoldsUptoRow, standIns := [], harness := (true, "2b9ba0ec6f1f31d13e78345df58a303cf8950f8b4eed92e14442ffad7fe115d6"), looks := true }, kinds := [], alts := [], laidByText := true, laidKinds := [.data, .data, .data, .data, .sentinel, .sentinel, .pinned], laidTests := true, laidLooks := .later }
def BankHoldsUptoCardSaid : Prop := Claim7.holds Tryz.pinned (.plain (OpenSpec.upto bankHoldsSpec)) bankHoldsUptoCard

/-- THE SECOND FORM's CARD OF 'calenderlaw15.BankLater'. -/
def bankLaterUptoCard : Claim7 := { stood := { row := bankLaterUptoRow, standIns := [], harness := (true, "2b9ba0ec6f1f31d13e78345df58a303cf8950f8b4eed92e14442ffad7fe115d6"), looks := true }, kinds := [], alts := [], laidByText := true, laidKinds := [.data, .data, .data, .data, .sentinel, .sentinel, .pinned], laidTests := true, laidLooks := .later }
def BankLaterUptoCardSaid : Prop := Claim7.holds Tryz.pinned (.plain (OpenSpec.upto bankLaterSpec)) bankLaterUptoCard

/-- THE SECOND FORM's CARD OF 'calenderlaw16.StageBad'. -/
def stageBadUptoCard : Claim7 := { stood := { row := stageBadUptoRow, standIns := [], harness := (true, "2b9ba0ec6f1f31d13e78345df58a303cf8950f8b4eed92e14442ffad7fe115d6"), looks := true }, kinds := [], alts := [], laidByText := true, laidKinds := [.data, .data, .data, .data, .sentinel, .sentinel, .pinned], laidTests := true, laidLooks := .later }
def StageBadUptoCardSaid : Prop := Claim7.holds Tryz.pinned (.plain (OpenSpec.upto stageBadSpec)) stageBadUptoCard

/-- THE SECOND FORM's CARD OF 'calenderlaw20.FuseWide'. -/
def fuseWideUptoCard : Claim7 := { stood := { row := fuseWideUptoRow, standIns := [], harness := (true, "2b9ba0ec6f1f31d13e78345df58a303cf8950f8b4eed92e14442ffad7fe115d6"), looks := true }, kinds := [], alts := [], laidByText := true, laidKinds := [.data, .data, .data, .data, .sentinel, .sentinel, .pinned], laidTests := true, laidLooks := .later }
def FuseWideUptoCardSaid : Prop := Claim7.holds Tryz.pinned (.plain (OpenSpec.upto fuseWideSpec)) fuseWideUptoCard

/-- THE SECOND FORM's CARD OF 'calenderlaw22.FrontReports'. -/
def frontReportsUptoCard : Claim7 := { stood := { row := frontReportsUptoRow, standIns := [], harness := (true, "2b9ba0ec6f1f31d13e78345df58a303cf8950f8b4eed92e14442ffad7fe115d6"), looks := true }, kinds := [], alts := [], laidByText := true, laidKinds := [.data, .data, .data, .data, .sentinel, .sentinel, .pinned], laidTests := true, laidLooks := .later }
def FrontReportsUptoCardSaid : Prop := Claim7.holds Tryz.pinned (.plain (OpenSpec.upto frontReportsSpec)) frontReportsUptoCard
end Rows
end Go.Proofs.YtlimifngdjkogaaGreatDoor
