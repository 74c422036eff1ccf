/-
  DERIVED. GIVEN WITH THE SEED: THE CARDS: each row of YtfbilefiaminnaaGreatDoorRows.lean that lists a variable, with what it lists TIED to the program's text (the seventh form; the later family's looks); each row that meets fmt, with fmt's text TOLD by the authors' own Lean function (tested against real Go, not proved from fmt's source: count such statements apart). THE CARD IS WHAT COUNTS. Prove the row's statement (the work); the ties are given (YtfbilefiaminnaaGreatDoorTie.lean); close each card by the builder's one call (the guide's Derived/Test/ToyasCard.lean, 'card_holds'). Laid BY PROGRAM, IN A SANDBOX (cutbox-door.mjs). By AI agents, Wed Nov 11 2026. No macro, syntax, notation, axiom, sorry.
-/
import Derived.Test.YtfbilefiaminnaaGreatDoorRows
import GoSem.ClaimSeven
namespace Go.Proofs.YtfbilefiaminnaaGreatDoor
namespace Rows

/-- THE TIED CARD OF 'calenderlaw19.PlanTells'. -/
def planTellsCard : Claim7 := { stood := { row := planTellsRow, standIns := [], harness := (true, "dfe17f9c19d21ccf4217b6a689cc7271847184ff5de463e33e01ed8087e7bd78"), looks := true }, kinds := [], alts := [], laidByText := true, laidKinds := [.data, .data, .data, .data, .sentinel, .sentinel, .pinned], laidTests := true, laidLooks := .later }
def PlanTellsCardSaid : Prop := Claim7.holds Tryz.pinned (.plain (OpenSpec.ofChange planTellsSpec)) planTellsCard

/-- THE TIED CARD OF 'calenderlaw19.PlanMeets'. -/
def planMeetsCard : Claim7 := { stood := { row := planMeetsRow, standIns := [], harness := (true, "dfe17f9c19d21ccf4217b6a689cc7271847184ff5de463e33e01ed8087e7bd78"), looks := true }, kinds := [], alts := [], laidByText := true, laidKinds := [.data, .data, .data, .data, .sentinel, .sentinel, .pinned], laidTests := true, laidLooks := .later }
def PlanMeetsCardSaid : Prop := Claim7.holds Tryz.pinned (.plain (OpenSpec.ofChange planMeetsSpec)) planMeetsCard

/-- THE TIED CARD OF 'calenderlaw19.PlanMore'. -/
def planMoreCard : Claim7 := { stood := { row := planMoreRow, standIns := [], harness := (true, "dfe17f9c19d21ccf4217b6a689cc7271847184ff5de463e33e01ed8087e7bd78"), looks := true }, kinds := [], alts := [], laidByText := true, laidKinds := [.data, .data, .data, .data, .sentinel, .sentinel, .pinned], laidTests := true, laidLooks := .later }
def PlanMoreCardSaid : Prop := Claim7.holds Tryz.pinned (.plain (OpenSpec.ofChange planMoreSpec)) planMoreCard

/-- THE SECOND FORM's CARD OF 'calenderlaw19.PlanTells'. -/
def planTellsUptoCard : Claim7 := { stood := { row := planTellsUptoRow, standIns := [], harness := (true, "dfe17f9c19d21ccf4217b6a689cc7271847184ff5de463e33e01ed8087e7bd78"), looks := true }, kinds := [], alts := [], laidByText := true, laidKinds := [.data, .data, .data, .data, .sentinel, .sentinel, .pinned], laidTests := true, laidLooks := .later }
def PlanTellsUptoCardSaid : Prop := Claim7.holds Tryz.pinned (.plain (OpenSpec.upto planTellsSpec)) planTellsUptoCard

/-- THE SECOND FORM's CARD OF 'calenderlaw19.PlanMeets'. -/
def planMeetsUptoCard : Claim7 := { stood := { row := planMeetsUptoRow, standIns := [], harness := (true, "dfe17f9c19d21ccf4217b6a689cc7271847184ff5de463e33e01ed8087e7bd78"), looks := true }, kinds := [], alts := [], laidByText := true, laidKinds := [.data, .data, .data, .data, .sentinel, .sentinel, .pinned], laidTests := true, laidLooks := .later }
def PlanMeetsUptoCardSaid : Prop := Claim7.holds Tryz.pinned (.plain (OpenSpec.upto planMeetsSpec)) planMeetsUptoCard

/-- THE SECOND FORM's CARD OF 'calenderlaw19.PlanMore'. -/
def planMoreUptoCard : Claim7 := { stood := { row := planMoreUptoRow, standIns := [], harness := (true, "dfe17f9c19d21ccf4217b6a689cc7271847184ff5de463e33e01ed8087e7bd78"), looks := true }, kinds := [], alts := [], laidByText := true, laidKinds := [.data, .data, .data, .data, .sentinel, .sentinel, .pinned], laidTests := true, laidLooks := .later }
def PlanMoreUptoCardSaid : Prop := Claim7.holds Tryz.pinned (.plain (OpenSpec.upto planMoreSpec)) planMoreUptoCard
end Rows
end Go.Proofs.YtfbilefiaminnaaGreatDoor
