/-
  DERIVED. GIVEN WITH THE SEED: THE CARDS: each row of YtmpoakdpdflfgaaGreatDoorRows.lean that lists a variable, with what it lists TIED to the program's text (the seventh form; the later family's looks); each row that meets fmt, with fmt's text TOLD by the authors' own Lean function (tested against real Go, not proved from fmt's source: count such statements apart). THE CARD IS WHAT COUNTS. Prove the row's statement (the work); the ties are given (YtmpoakdpdflfgaaGreatDoorTie.lean); close each card by the builder's one call (the guide's Derived/Test/ToyasCard.lean, 'card_holds'). Laid BY PROGRAM, IN A SANDBOX (cutbox-door.mjs). By AI agents, Wed Nov 11 2026. No macro, syntax, notation, axiom, sorry.
-/
import Derived.Test.YtmpoakdpdflfgaaGreatDoorRows
import GoSem.ClaimSeven
namespace Go.Proofs.YtmpoakdpdflfgaaGreatDoor
namespace Rows

/-- THE TIED CARD OF 'calenderlaw16.StageCopies'. -/
def stageCopiesCard : Claim7 := { stood := { row := stageCopiesRow, standIns := [], harness := (true, "837043a0ddbbe5fe10dfa30f4f6ed5645f03ed4b8c9f3f1d6823e5b0b65f947a"), looks := true }, kinds := [], alts := [], laidByText := true, laidKinds := [.data, .data, .data, .data, .sentinel, .sentinel, .pinned], laidTests := true, laidLooks := .later }
def StageCopiesCardSaid : Prop := Claim7.holds Tryz.pinned (.plain (OpenSpec.ofChange stageCopiesSpec)) stageCopiesCard

/-- THE TIED CARD OF 'calenderlaw16.StageFiles'. -/
def stageFilesCard : Claim7 := { stood := { row := stageFilesRow, standIns := [], harness := (true, "837043a0ddbbe5fe10dfa30f4f6ed5645f03ed4b8c9f3f1d6823e5b0b65f947a"), looks := true }, kinds := [], alts := [], laidByText := true, laidKinds := [.data, .data, .data, .data, .sentinel, .sentinel, .pinned], laidTests := true, laidLooks := .later }
def StageFilesCardSaid : Prop := Claim7.holds Tryz.pinned (.plain (OpenSpec.ofChange stageFilesSpec)) stageFilesCard

/-- THE TIED CARD OF 'calenderlaw16.StageWrites'. -/
def stageWritesCard : Claim7 := { stood := { row := stageWritesRow, standIns := [], harness := (true, "837043a0ddbbe5fe10dfa30f4f6ed5645f03ed4b8c9f3f1d6823e5b0b65f947a"), looks := true }, kinds := [], alts := [], laidByText := true, laidKinds := [.data, .data, .data, .data, .sentinel, .sentinel, .pinned], laidTests := true, laidLooks := .later }
def StageWritesCardSaid : Prop := Claim7.holds Tryz.pinned (.plain (OpenSpec.ofChange stageWritesSpec)) stageWritesCard

/-- THE TIED CARD OF 'calenderlaw16.StageHead'. -/
def stageHeadCard : Claim7 := { stood := { row := stageHeadRow, standIns := [], harness := (true, "837043a0ddbbe5fe10dfa30f4f6ed5645f03ed4b8c9f3f1d6823e5b0b65f947a"), looks := true }, kinds := [], alts := [], laidByText := true, laidKinds := [.data, .data, .data, .data, .sentinel, .sentinel, .pinned], laidTests := true, laidLooks := .later }
def StageHeadCardSaid : Prop := Claim7.holds Tryz.pinned (.plain (OpenSpec.ofChange stageHeadSpec)) stageHeadCard

/-- THE TIED CARD OF 'calenderlaw22.FrontWrong'. -/
def frontWrongCard : Claim7 := { stood := { row := frontWrongRow, standIns := [], harness := (true, "837043a0ddbbe5fe10dfa30f4f6ed5645f03ed4b8c9f3f1d6823e5b0b65f947a"), looks := true }, kinds := [], alts := [], laidByText := true, laidKinds := [.data, .data, .data, .data, .sentinel, .sentinel, .pinned], laidTests := true, laidLooks := .later }
def FrontWrongCardSaid : Prop := Claim7.holds Tryz.pinned (.plain (OpenSpec.ofChange frontWrongSpec)) frontWrongCard

/-- THE TIED CARD OF 'calenderlaw22.FrontNone'. -/
def frontNoneCard : Claim7 := { stood := { row := frontNoneRow, standIns := [], harness := (true, "837043a0ddbbe5fe10dfa30f4f6ed5645f03ed4b8c9f3f1d6823e5b0b65f947a"), looks := true }, kinds := [], alts := [], laidByText := true, laidKinds := [.data, .data, .data, .data, .sentinel, .sentinel, .pinned], laidTests := true, laidLooks := .later }
def FrontNoneCardSaid : Prop := Claim7.holds Tryz.pinned (.plain (OpenSpec.ofChange frontNoneSpec)) frontNoneCard

/-- THE SECOND FORM's CARD OF 'calenderlaw16.StageCopies'. -/
def stageCopiesUptoCard : Claim7 := { stood := { row := stageCopiesUptoRow, standIns := [], harness := (true, "837043a0ddbbe5fe10dfa30f4f6ed5645f03ed4b8c9f3f1d6823e5b0b65f947a"), looks := true }, kinds := [], alts := [], laidByText := true, laidKinds := [.data, .data, .data, .data, .sentinel, .sentinel, .pinned], laidTests := true, laidLooks := .later }
def StageCopiesUptoCardSaid : Prop := Claim7.holds Tryz.pinned (.plain (OpenSpec.upto stageCopiesSpec)) stageCopiesUptoCard

/-- THE SECOND FORM's CARD OF 'calenderlaw16.StageFiles'. -/
def stageFilesUptoCard : Claim7 := { stood := { row := stageFilesUptoRow, standIns := [], harness := (true, "837043a0ddbbe5fe10dfa30f4f6ed5645f03ed4b8c9f3f1d6823e5b0b65f947a"), looks := true }, kinds := [], alts := [], laidByText := true, laidKinds := [.data, .data, .data, .data, .sentinel, .sentinel, .pinned], laidTests := true, laidLooks := .later }
def StageFilesUptoCardSaid : Prop := Claim7.holds Tryz.pinned (.plain (OpenSpec.upto stageFilesSpec)) stageFilesUptoCard

/-- THE SECOND FORM's CARD OF 'calenderlaw16.StageWrites'. -/
def stageWritesUptoCard : Claim7 := { stood := { row := stageWritesUptoRow, standIns := [], harness := (true, "837043a0ddbbe5fe10dfa30f4f6ed5645f03ed4b8c9f3f1d6823e5b0b65f947a"), looks := true }, kinds := [], alts := [], laidByText := true, laidKinds := [.data, .data, .data, .data, .sentinel, .sentinel, .pinned], laidTests := true, laidLooks := .later }
def StageWritesUptoCardSaid : Prop := Claim7.holds Tryz.pinned (.plain (OpenSpec.upto stageWritesSpec)) stageWritesUptoCard

/-- THE SECOND FORM's CARD OF 'calenderlaw16.StageHead'. -/
def stageHeadUptoCard : Claim7 := { stood := { row := stageHeadUptoRow, standIns := [], harness := (true, "837043a0ddbbe5fe10dfa30f4f6ed5645f03ed4b8c9f3f1d6823e5b0b65f947a"), looks := true }, kinds := [], alts := [], laidByText := true, laidKinds := [.data, .data, .data, .data, .sentinel, .sentinel, .pinned], laidTests := true, laidLooks := .later }
def StageHeadUptoCardSaid : Prop := Claim7.holds Tryz.pinned (.plain (OpenSpec.upto stageHeadSpec)) stageHeadUptoCard

/-- THE SECOND FORM's CARD OF 'calenderlaw22.FrontWrong'. -/
def frontWrongUptoCard : Claim7 := { stood := { row := frontWrongUptoRow, standIns := [], harness := (true, "837043a0ddbbe5fe10dfa30f4f6ed5645f03ed4b8c9f3f1d6823e5b0b65f947a"), looks := true }, kinds := [], alts := [], laidByText := true, laidKinds := [.data, .data, .data, .data, .sentinel, .sentinel, .pinned], laidTests := true, laidLooks := .later }
def FrontWrongUptoCardSaid : Prop := Claim7.holds Tryz.pinned (.plain (OpenSpec.upto frontWrongSpec)) frontWrongUptoCard

/-- THE SECOND FORM's CARD OF 'calenderlaw22.FrontNone'. -/
def frontNoneUptoCard : Claim7 := { stood := { row := frontNoneUptoRow, standIns := [], harness := (true, "837043a0ddbbe5fe10dfa30f4f6ed5645f03ed4b8c9f3f1d6823e5b0b65f947a"), looks := true }, kinds := [], alts := [], laidByText := true, laidKinds := [.data, .data, .data, .data, .sentinel, .sentinel, .pinned], laidTests := true, laidLooks := .later }
def FrontNoneUptoCardSaid : Prop := Claim7.holds Tryz.pinned (.plain (OpenSpec.upto frontNoneSpec)) frontNoneUptoCard
end Rows
end Go.Proofs.YtmpoakdpdflfgaaGreatDoor
