/-
  DERIVED. GIVEN WITH THE SEED: THE CARDS: each row of YtfpipcafiocdoaaGreatDoorRows.lean that lists a variable, with what it lists TIED to the program's text (the seventh form; the later family's looks); each row that meets fmt, with fmt's text TOLD by the authors' own Lean function (tested against real Go, not proved from fmt's source: count such statements apart). THE CARD IS WHAT COUNTS. Prove the row's statement (the work); the ties are given (YtfpipcafiocdoaaGreatDoorTie.lean); close each card by the builder's one call (the guide's Derived/Test/ToyasCard.lean, 'card_holds'). Laid BY PROGRAM, IN A SANDBOX (cutbox-door.mjs). By AI agents, Wed Nov 11 2026. No macro, syntax, notation, axiom, sorry.
-/
import Derived.Test.YtfpipcafiocdoaaGreatDoorRows
import GoSem.ClaimSeven
namespace Go.Proofs.YtfpipcafiocdoaaGreatDoor
namespace Rows

/-- THE TIED CARD OF 'calenderlaw21.PipeBack'. -/
def pipeBackCard : Claim7 := { stood := { row := pipeBackRow, standIns := [], harness := (true, "b6718b1d7f83dc98d55f6238e8b758fde93d3956ddfe19c1fc1c1b3cce4cbd11"), looks := true }, kinds := [], alts := [], laidByText := true, laidKinds := [.data, .data, .data, .data, .sentinel, .sentinel, .pinned], laidTests := true, laidLooks := .later }
def PipeBackCardSaid : Prop := Claim7.holds Tryz.pinned (.plain (OpenSpec.ofChange pipeBackSpec)) pipeBackCard

/-- THE TIED CARD OF 'calenderlaw21.PipeBlanks'. -/
def pipeBlanksCard : Claim7 := { stood := { row := pipeBlanksRow, standIns := [], harness := (true, "b6718b1d7f83dc98d55f6238e8b758fde93d3956ddfe19c1fc1c1b3cce4cbd11"), looks := true }, kinds := [], alts := [], laidByText := true, laidKinds := [.data, .data, .data, .data, .sentinel, .sentinel, .pinned], laidTests := true, laidLooks := .later }
def PipeBlanksCardSaid : Prop := Claim7.holds Tryz.pinned (.plain (OpenSpec.ofChange pipeBlanksSpec)) pipeBlanksCard

/-- THE TIED CARD OF 'calenderlaw21.PipeQuoted'. -/
def pipeQuotedCard : Claim7 := { stood := { row := pipeQuotedRow, standIns := [], harness := (true, "b6718b1d7f83dc98d55f6238e8b758fde93d3956ddfe19c1fc1c1b3cce4cbd11"), looks := true }, kinds := [], alts := [], laidByText := true, laidKinds := [.data, .data, .data, .data, .sentinel, .sentinel, .pinned], laidTests := true, laidLooks := .later }
def PipeQuotedCardSaid : Prop := Claim7.holds Tryz.pinned (.plain (OpenSpec.ofChange pipeQuotedSpec)) pipeQuotedCard

/-- THE TIED CARD OF 'calenderlaw15.BankHolds'. -/
def bankHoldsCard : Claim7 := { stood := { row := bankHoldsRow, standIns := [], harness := (true, "b6718b1d7f83dc98d55f6238e8b758fde93d3956ddfe19c1fc1c1b3cce4cbd11"), looks := true }, kinds := [], alts := [], laidByText := true, laidKinds := [.data, .data, .data, .data, .sentinel, .sentinel, .pinned], laidTests := true, laidLooks := .later }
def BankHoldsCardSaid : Prop := Claim7.holds Tryz.pinned (.plain (OpenSpec.ofChange bankHoldsSpec)) bankHoldsCard

/-- THE TIED CARD OF 'calenderlaw15.BankLater'. -/
def bankLaterCard : Claim7 := { stood := { row := bankLaterRow, standIns := [], harness := (true, "b6718b1d7f83dc98d55f6238e8b758fde93d3956ddfe19c1fc1c1b3cce4cbd11"), looks := true }, kinds := [], alts := [], laidByText := true, laidKinds := [.data, .data, .data, .data, .sentinel, .sentinel, .pinned], laidTests := true, laidLooks := .later }
def BankLaterCardSaid : Prop := Claim7.holds Tryz.pinned (.plain (OpenSpec.ofChange bankLaterSpec)) bankLaterCard

/-- THE TIED CARD OF 'calenderlaw20.FuseWide'. -/
def fuseWideCard : Claim7 := { stood := { row := fuseWideRow, standIns := [], harness := (true, "b6718b1d7f83dc98d55f6238e8b758fde93d3956ddfe19c1fc1c1b3cce4cbd11"), looks := true }, kinds := [], alts := [], laidByText := true, laidKinds := [.data, .data, .data, .data, .sentinel, .sentinel, .pinned], laidTests := true, laidLooks := .later }
def FuseWideCardSaid : Prop := Claim7.holds Tryz.pinned (.plain (OpenSpec.ofChange fuseWideSpec)) fuseWideCard

/-- THE SECOND FORM's CARD OF 'calenderlaw21.PipeBack'. -/
def pipeBackUptoCard : Claim7 := { stood := { row := pipeBackUptoRow, standIns := [], harness := (true, "b6718b1d7f83dc98d55f6238e8b758fde93d3956ddfe19c1fc1c1b3cce4cbd11"), looks := true }, kinds := [], alts := [], laidByText := true, laidKinds := [.data, .data, .data, .data, .sentinel, .sentinel, .pinned], laidTests := true, laidLooks := .later }
def PipeBackUptoCardSaid : Prop := Claim7.holds Tryz.pinned (.plain (OpenSpec.upto pipeBackSpec)) pipeBackUptoCard

/-- THE SECOND FORM's CARD OF 'calenderlaw21.PipeBlanks'. -/
def pipeBlanksUptoCard : Claim7 := { stood := { row := pipeBlanksUptoRow, standIns := [], harness := (true, "b6718b1d7f83dc98d55f6238e8b758fde93d3956ddfe19c1fc1c1b3cce4cbd11"), looks := true }, kinds := [], alts := [], laidByText := true, laidKinds := [.data, .data, .data, .data, .sentinel, .sentinel, .pinned], laidTests := true, laidLooks := .later }
def PipeBlanksUptoCardSaid : Prop := Claim7.holds Tryz.pinned (.plain (OpenSpec.upto pipeBlanksSpec)) pipeBlanksUptoCard

/-- THE SECOND FORM's CARD OF 'calenderlaw21.PipeQuoted'. -/
def pipeQuotedUptoCard : Claim7 := { stood := { row := pipeQuotedUptoRow, standIns := [], harness := (true, "b6718b1d7f83dc98d55f6238e8b758fde93d3956ddfe19c1fc1c1b3cce4cbd11"), looks := true }, kinds := [], alts := [], laidByText := true, laidKinds := [.data, .data, .data, .data, .sentinel, .sentinel, .pinned], laidTests := true, laidLooks := .later }
def PipeQuotedUptoCardSaid : Prop := Claim7.holds Tryz.pinned (.plain (OpenSpec.upto pipeQuotedSpec)) pipeQuotedUptoCard

/-- THE SECOND FORM's CARD OF 'calenderlaw15.BankHolds'. -/
def bankHoldsUptoCard : Claim7 := { stood := { row := bankHoldsUptoRow, standIns := [], harness := (true, "b6718b1d7f83dc98d55f6238e8b758fde93d3956ddfe19c1fc1c1b3cce4cbd11"), looks := true }, kinds := [], alts := [], laidByText := true, laidKinds := [.data, .data, .data, .data, .sentinel, .sentinel, .pinned], laidTests := true, laidLooks := .later }
def BankHoldsUptoCardSaid : Prop := Claim7.holds Tryz.pinned (.plain (OpenSpec.upto bankHoldsSpec)) bankHoldsUptoCard

/-- THE SECOND FORM's CARD OF 'calenderlaw15.BankLater'. -/
def bankLaterUptoCard : Claim7 := { stood := { row := bankLaterUptoRow, standIns := [], harness := (true, "b6718b1d7f83dc98d55f6238e8b758fde93d3956ddfe19c1fc1c1b3cce4cbd11"), looks := true }, kinds := [], alts := [], laidByText := true, laidKinds := [.data, .data, .data, .data, .sentinel, .sentinel, .pinned], laidTests := true, laidLooks := .later }
def BankLaterUptoCardSaid : Prop := Claim7.holds Tryz.pinned (.plain (OpenSpec.upto bankLaterSpec)) bankLaterUptoCard

/-- THE SECOND FORM's CARD OF 'calenderlaw20.FuseWide'. -/
def fuseWideUptoCard : Claim7 := { stood := { row := fuseWideUptoRow, standIns := [], harness := (true, "b6718b1d7f83dc98d55f6238e8b758fde93d3956ddfe19c1fc1c1b3cce4cbd11"), looks := true }, kinds := [], alts := [], laidByText := true, laidKinds := [.data, .data, .data, .data, .sentinel, .sentinel, .pinned], laidTests := true, laidLooks := .later }
def FuseWideUptoCardSaid : Prop := Claim7.holds Tryz.pinned (.plain (OpenSpec.upto fuseWideSpec)) fuseWideUptoCard
end Rows
end Go.Proofs.YtfpipcafiocdoaaGreatDoor
