/-
  DERIVED. GIVEN WITH THE SEED: THE CARDS: each row of YtclpnkdjjhclnaaGreatDoorRows.lean that lists a variable, with what it lists TIED to the program's text (the seventh form; the later family's looks); each row that meets fmt, with fmt's text TOLD by the authors' own Lean function (tested against real Go, not proved from fmt's source: count such statements apart). THE CARD IS WHAT COUNTS. Prove the row's statement (the work); the ties are given (YtclpnkdjjhclnaaGreatDoorTie.lean); close each card by the builder's one call (the guide's Derived/Test/ToyasCard.lean, 'card_holds'). Laid BY PROGRAM, IN A SANDBOX (cutbox-door.mjs). By AI agents, Wed Nov 11 2026. No macro, syntax, notation, axiom, sorry.
-/
import Derived.Test.YtclpnkdjjhclnaaGreatDoorRows
import GoSem.ClaimSeven
namespace Go.Proofs.YtclpnkdjjhclnaaGreatDoor
namespace Rows

/-- THE TIED CARD OF 'calenderlaw13.ScriptWide'. -/
def scriptWideCard : Claim7 := { stood := { row := scriptWideRow, standIns := [], harness := (true, "93c6da8999a7b20ccdd91eaa22fbbc0e2554d0e65493f8c3855140f66eb5dec5"), looks := true }, kinds := [], alts := [], laidByText := true, laidKinds := [.data, .data, .data, .data, .sentinel, .sentinel, .pinned], laidTests := true, laidLooks := .later }
def ScriptWideCardSaid : Prop := Claim7.holds Tryz.pinned (.plain (OpenSpec.ofChange scriptWideSpec)) scriptWideCard

/-- THE TIED CARD OF 'calenderlaw21.PipePrints'. -/
def pipePrintsCard : Claim7 := { stood := { row := pipePrintsRow, standIns := [], harness := (true, "93c6da8999a7b20ccdd91eaa22fbbc0e2554d0e65493f8c3855140f66eb5dec5"), looks := true }, kinds := [], alts := [], laidByText := true, laidKinds := [.data, .data, .data, .data, .sentinel, .sentinel, .pinned], laidTests := true, laidLooks := .later }
def PipePrintsCardSaid : Prop := Claim7.holds Tryz.pinned (.plain (OpenSpec.ofChange pipePrintsSpec)) pipePrintsCard

/-- THE TIED CARD OF 'calenderlaw21.PipeBack'. -/
def pipeBackCard : Claim7 := { stood := { row := pipeBackRow, standIns := [], harness := (true, "93c6da8999a7b20ccdd91eaa22fbbc0e2554d0e65493f8c3855140f66eb5dec5"), looks := true }, kinds := [], alts := [], laidByText := true, laidKinds := [.data, .data, .data, .data, .sentinel, .sentinel, .pinned], laidTests := true, laidLooks := .later }
def PipeBackCardSaid : Prop := Claim7.holds Tryz.pinned (.plain (OpenSpec.ofChange pipeBackSpec)) pipeBackCard

/-- THE TIED CARD OF 'calenderlaw21.PipeBlanks'. -/
def pipeBlanksCard : Claim7 := { stood := { row := pipeBlanksRow, standIns := [], harness := (true, "93c6da8999a7b20ccdd91eaa22fbbc0e2554d0e65493f8c3855140f66eb5dec5"), looks := true }, kinds := [], alts := [], laidByText := true, laidKinds := [.data, .data, .data, .data, .sentinel, .sentinel, .pinned], laidTests := true, laidLooks := .later }
def PipeBlanksCardSaid : Prop := Claim7.holds Tryz.pinned (.plain (OpenSpec.ofChange pipeBlanksSpec)) pipeBlanksCard

/-- THE TIED CARD OF 'calenderlaw21.PipeQuoted'. -/
def pipeQuotedCard : Claim7 := { stood := { row := pipeQuotedRow, standIns := [], harness := (true, "93c6da8999a7b20ccdd91eaa22fbbc0e2554d0e65493f8c3855140f66eb5dec5"), looks := true }, kinds := [], alts := [], laidByText := true, laidKinds := [.data, .data, .data, .data, .sentinel, .sentinel, .pinned], laidTests := true, laidLooks := .later }
def PipeQuotedCardSaid : Prop := Claim7.holds Tryz.pinned (.plain (OpenSpec.ofChange pipeQuotedSpec)) pipeQuotedCard

/-- THE TIED CARD OF 'calenderlaw19.PlanAlone'. -/
def planAloneCard : Claim7 := { stood := { row := planAloneRow, standIns := [], harness := (true, "93c6da8999a7b20ccdd91eaa22fbbc0e2554d0e65493f8c3855140f66eb5dec5"), looks := true }, kinds := [], alts := [], laidByText := true, laidKinds := [.data, .data, .data, .data, .sentinel, .sentinel, .pinned], laidTests := true, laidLooks := .later }
def PlanAloneCardSaid : Prop := Claim7.holds Tryz.pinned (.plain (OpenSpec.ofChange planAloneSpec)) planAloneCard

/-- THE SECOND FORM's CARD OF 'calenderlaw13.ScriptWide'. -/
def scriptWideUptoCard : Claim7 := { stood := { row := scriptWideUptoRow, standIns := [], harness := (true, "93c6da8999a7b20ccdd91eaa22fbbc0e2554d0e65493f8c3855140f66eb5dec5"), looks := true }, kinds := [], alts := [], laidByText := true, laidKinds := [.data, .data, .data, .data, .sentinel, .sentinel, .pinned], laidTests := true, laidLooks := .later }
def ScriptWideUptoCardSaid : Prop := Claim7.holds Tryz.pinned (.plain (OpenSpec.upto scriptWideSpec)) scriptWideUptoCard

/-- THE SECOND FORM's CARD OF 'calenderlaw21.PipePrints'. -/
def pipePrintsUptoCard : Claim7 := { stood := { row := pipePrintsUptoRow, standIns := [], harness := (true, "93c6da8999a7b20ccdd91eaa22fbbc0e2554d0e65493f8c3855140f66eb5dec5"), looks := true }, kinds := [], alts := [], laidByText := true, laidKinds := [.data, .data, .data, .data, .sentinel, .sentinel, .pinned], laidTests := true, laidLooks := .later }
def PipePrintsUptoCardSaid : Prop := Claim7.holds Tryz.pinned (.plain (OpenSpec.upto pipePrintsSpec)) pipePrintsUptoCard

/-- THE SECOND FORM's CARD OF 'calenderlaw21.PipeBack'. -/
def pipeBackUptoCard : Claim7 := { stood := { row := pipeBackUptoRow, standIns := [], harness := (true, "93c6da8999a7b20ccdd91eaa22fbbc0e2554d0e65493f8c3855140f66eb5dec5"), looks := true }, kinds := [], alts := [], laidByText := true, laidKinds := [.data, .data, .data, .data, .sentinel, .sentinel, .pinned], laidTests := true, laidLooks := .later }
def PipeBackUptoCardSaid : Prop := Claim7.holds Tryz.pinned (.plain (OpenSpec.upto pipeBackSpec)) pipeBackUptoCard

/-- THE SECOND FORM's CARD OF 'calenderlaw21.PipeBlanks'. -/
def pipeBlanksUptoCard : Claim7 := { stood := { row := pipeBlanksUptoRow, standIns := [], harness := (true, "93c6da8999a7b20ccdd91eaa22fbbc0e2554d0e65493f8c3855140f66eb5dec5"), looks := true }, kinds := [], alts := [], laidByText := true, laidKinds := [.data, .data, .data, .data, .sentinel, .sentinel, .pinned], laidTests := true, laidLooks := .later }
def PipeBlanksUptoCardSaid : Prop := Claim7.holds Tryz.pinned (.plain (OpenSpec.upto pipeBlanksSpec)) pipeBlanksUptoCard

/-- THE SECOND FORM's CARD OF 'calenderlaw21.PipeQuoted'. -/
def pipeQuotedUptoCard : Claim7 := { stood := { row := pipeQuotedUptoRow, standIns := [], harness := (true, "93c6da8999a7b20ccdd91eaa22fbbc0e2554d0e65493f8c3855140f66eb5dec5"), looks := true }, kinds := [], alts := [], laidByText := true, laidKinds := [.data, .data, .data, .data, .sentinel, .sentinel, .pinned], laidTests := true, laidLooks := .later }
def PipeQuotedUptoCardSaid : Prop := Claim7.holds Tryz.pinned (.plain (OpenSpec.upto pipeQuotedSpec)) pipeQuotedUptoCard

/-- THE SECOND FORM's CARD OF 'calenderlaw19.PlanAlone'. -/
def planAloneUptoCard : Claim7 := { stood := { row := planAloneUptoRow, standIns := [], harness := (true, "93c6da8999a7b20ccdd91eaa22fbbc0e2554d0e65493f8c3855140f66eb5dec5"), looks := true }, kinds := [], alts := [], laidByText := true, laidKinds := [.data, .data, .data, .data, .sentinel, .sentinel, .pinned], laidTests := true, laidLooks := .later }
def PlanAloneUptoCardSaid : Prop := Claim7.holds Tryz.pinned (.plain (OpenSpec.upto planAloneSpec)) planAloneUptoCard
end Rows
end Go.Proofs.YtclpnkdjjhclnaaGreatDoor
