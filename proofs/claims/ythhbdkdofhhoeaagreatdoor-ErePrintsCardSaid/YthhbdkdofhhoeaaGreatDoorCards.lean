/-
  DERIVED. GIVEN WITH THE SEED: THE CARDS: each row of YthhbdkdofhhoeaaGreatDoorRows.lean that lists a variable, with what it lists TIED to the program's text (the seventh form; the later family's looks); each row that meets fmt, with fmt's text TOLD by the authors' own Lean function (tested against real Go, not proved from fmt's source: count such statements apart). THE CARD IS WHAT COUNTS. Prove the row's statement (the work); the ties are given (YthhbdkdofhhoeaaGreatDoorTie.lean); close each card by the builder's one call (the guide's Derived/Test/ToyasCard.lean, 'card_holds'). Laid BY PROGRAM, IN A SANDBOX (cutbox-door.mjs). By AI agents, Wed Nov 11 2026. No macro, syntax, notation, axiom, sorry.
-/
import Derived.Test.YthhbdkdofhhoeaaGreatDoorRows
import GoSem.ClaimSeven
namespace Go.Proofs.YthhbdkdofhhoeaaGreatDoor
namespace Rows

/-- THE TIED CARD OF 'calenderlaw04.BreBrackets'. -/
def breBracketsCard : Claim7 := { stood := { row := breBracketsRow, standIns := [], harness := (true, "2058fe28bd3587e78d5d8a510f3afb2d82e63769ba928e9f0e41bc3d9d680675"), looks := true }, kinds := [], alts := [], laidByText := true, laidKinds := [.data, .data, .data, .sentinel, .sentinel], laidTests := true, laidLooks := .later }
def BreBracketsCardSaid : Prop := Claim7.holds Tryz.pinned (.plain (OpenSpec.ofChange breBracketsSpec)) breBracketsCard

/-- THE TIED CARD OF 'calenderlaw04.BreParses'. -/
def breParsesCard : Claim7 := { stood := { row := breParsesRow, standIns := [], harness := (true, "2058fe28bd3587e78d5d8a510f3afb2d82e63769ba928e9f0e41bc3d9d680675"), looks := true }, kinds := [], alts := [], laidByText := true, laidKinds := [.data, .data, .data, .sentinel, .sentinel], laidTests := true, laidLooks := .later }
def BreParsesCardSaid : Prop := Claim7.holds Tryz.pinned (.plain (OpenSpec.ofChange breParsesSpec)) breParsesCard

/-- THE TIED CARD OF 'calenderlaw04.BrePrints'. -/
def brePrintsCard : Claim7 := { stood := { row := brePrintsRow, standIns := [], harness := (true, "2058fe28bd3587e78d5d8a510f3afb2d82e63769ba928e9f0e41bc3d9d680675"), looks := true }, kinds := [], alts := [], laidByText := true, laidKinds := [.data, .data, .data, .sentinel, .sentinel], laidTests := true, laidLooks := .later }
def BrePrintsCardSaid : Prop := Claim7.holds Tryz.pinned (.plain (OpenSpec.ofChange brePrintsSpec)) brePrintsCard

/-- THE TIED CARD OF 'calenderlaw04.BreBack'. -/
def breBackCard : Claim7 := { stood := { row := breBackRow, standIns := [], harness := (true, "2058fe28bd3587e78d5d8a510f3afb2d82e63769ba928e9f0e41bc3d9d680675"), looks := true }, kinds := [], alts := [], laidByText := true, laidKinds := [.data, .data, .data, .sentinel, .sentinel], laidTests := true, laidLooks := .later }
def BreBackCardSaid : Prop := Claim7.holds Tryz.pinned (.plain (OpenSpec.ofChange breBackSpec)) breBackCard

/-- THE TIED CARD OF 'calenderlaw04.BreLetters'. -/
def breLettersCard : Claim7 := { stood := { row := breLettersRow, standIns := [], harness := (true, "2058fe28bd3587e78d5d8a510f3afb2d82e63769ba928e9f0e41bc3d9d680675"), looks := true }, kinds := [], alts := [], laidByText := true, laidKinds := [.data, .data, .data, .sentinel, .sentinel], laidTests := true, laidLooks := .later }
def BreLettersCardSaid : Prop := Claim7.holds Tryz.pinned (.plain (OpenSpec.ofChange breLettersSpec)) breLettersCard

/-- THE TIED CARD OF 'calenderlaw04.BrePlaces'. -/
def brePlacesCard : Claim7 := { stood := { row := brePlacesRow, standIns := [], harness := (true, "2058fe28bd3587e78d5d8a510f3afb2d82e63769ba928e9f0e41bc3d9d680675"), looks := true }, kinds := [], alts := [], laidByText := true, laidKinds := [.data, .data, .data, .sentinel, .sentinel], laidTests := true, laidLooks := .later }
def BrePlacesCardSaid : Prop := Claim7.holds Tryz.pinned (.plain (OpenSpec.ofChange brePlacesSpec)) brePlacesCard

/-- THE TIED CARD OF 'calenderlaw04.BreShows'. -/
def breShowsCard : Claim7 := { stood := { row := breShowsRow, standIns := [], harness := (true, "2058fe28bd3587e78d5d8a510f3afb2d82e63769ba928e9f0e41bc3d9d680675"), looks := true }, kinds := [], alts := [], laidByText := true, laidKinds := [.data, .data, .data, .sentinel, .sentinel], laidTests := true, laidLooks := .later }
def BreShowsCardSaid : Prop := Claim7.holds Tryz.pinned (.plain (OpenSpec.ofChange breShowsSpec)) breShowsCard

/-- THE TIED CARD OF 'calenderlaw05.EreParses'. -/
def ereParsesCard : Claim7 := { stood := { row := ereParsesRow, standIns := [], harness := (true, "2058fe28bd3587e78d5d8a510f3afb2d82e63769ba928e9f0e41bc3d9d680675"), looks := true }, kinds := [], alts := [], laidByText := true, laidKinds := [.data, .data, .data, .sentinel, .sentinel], laidTests := true, laidLooks := .later }
def EreParsesCardSaid : Prop := Claim7.holds Tryz.pinned (.plain (OpenSpec.ofChange ereParsesSpec)) ereParsesCard

/-- THE TIED CARD OF 'calenderlaw05.ErePrints'. -/
def erePrintsCard : Claim7 := { stood := { row := erePrintsRow, standIns := [], harness := (true, "2058fe28bd3587e78d5d8a510f3afb2d82e63769ba928e9f0e41bc3d9d680675"), looks := true }, kinds := [], alts := [], laidByText := true, laidKinds := [.data, .data, .data, .sentinel, .sentinel], laidTests := true, laidLooks := .later }
def ErePrintsCardSaid : Prop := Claim7.holds Tryz.pinned (.plain (OpenSpec.ofChange erePrintsSpec)) erePrintsCard

/-- THE TIED CARD OF 'calenderlaw05.EreBack'. -/
def ereBackCard : Claim7 := { stood := { row := ereBackRow, standIns := [], harness := (true, "2058fe28bd3587e78d5d8a510f3afb2d82e63769ba928e9f0e41bc3d9d680675"), looks := true }, kinds := [], alts := [], laidByText := true, laidKinds := [.data, .data, .data, .sentinel, .sentinel], laidTests := true, laidLooks := .later }
def EreBackCardSaid : Prop := Claim7.holds Tryz.pinned (.plain (OpenSpec.ofChange ereBackSpec)) ereBackCard

/-- THE TIED CARD OF 'calenderlaw05.EreAlts'. -/
def ereAltsCard : Claim7 := { stood := { row := ereAltsRow, standIns := [], harness := (true, "2058fe28bd3587e78d5d8a510f3afb2d82e63769ba928e9f0e41bc3d9d680675"), looks := true }, kinds := [], alts := [], laidByText := true, laidKinds := [.data, .data, .data, .sentinel, .sentinel], laidTests := true, laidLooks := .later }
def EreAltsCardSaid : Prop := Claim7.holds Tryz.pinned (.plain (OpenSpec.ofChange ereAltsSpec)) ereAltsCard

/-- THE TIED CARD OF 'calenderlaw05.ErePlaces'. -/
def erePlacesCard : Claim7 := { stood := { row := erePlacesRow, standIns := [], harness := (true, "2058fe28bd3587e78d5d8a510f3afb2d82e63769ba928e9f0e41bc3d9d680675"), looks := true }, kinds := [], alts := [], laidByText := true, laidKinds := [.data, .data, .data, .sentinel, .sentinel], laidTests := true, laidLooks := .later }
def ErePlacesCardSaid : Prop := Claim7.holds Tryz.pinned (.plain (OpenSpec.ofChange erePlacesSpec)) erePlacesCard

/-- THE TIED CARD OF 'calenderlaw05.EreShows'. -/
def ereShowsCard : Claim7 := { stood := { row := ereShowsRow, standIns := [], harness := (true, "2058fe28bd3587e78d5d8a510f3afb2d82e63769ba928e9f0e41bc3d9d680675"), looks := true }, kinds := [], alts := [], laidByText := true, laidKinds := [.data, .data, .data, .sentinel, .sentinel], laidTests := true, laidLooks := .later }
def EreShowsCardSaid : Prop := Claim7.holds Tryz.pinned (.plain (OpenSpec.ofChange ereShowsSpec)) ereShowsCard

/-- THE SECOND FORM's CARD OF 'calenderlaw04.BreBrackets'. -/
def breBracketsUptoCard : Claim7 := { stood := { row := breBracketsUptoRow, standIns := [], harness := (true, "2058fe28bd3587e78d5d8a510f3afb2d82e63769ba928e9f0e41bc3d9d680675"), looks := true }, kinds := [], alts := [], laidByText := true, laidKinds := [.data, .data, .data, .sentinel, .sentinel], laidTests := true, laidLooks := .later }
def BreBracketsUptoCardSaid : Prop := Claim7.holds Tryz.pinned (.plain (OpenSpec.upto breBracketsSpec)) breBracketsUptoCard

/-- THE SECOND FORM's CARD OF 'calenderlaw04.BreParses'. -/
def breParsesUptoCard : Claim7 := { stood := { row := breParsesUptoRow, standIns := [], harness := (true, "2058fe28bd3587e78d5d8a510f3afb2d82e63769ba928e9f0e41bc3d9d680675"), looks := true }, kinds := [], alts := [], laidByText := true, laidKinds := [.data, .data, .data, .sentinel, .sentinel], laidTests := true, laidLooks := .later }
def BreParsesUptoCardSaid : Prop := Claim7.holds Tryz.pinned (.plain (OpenSpec.upto breParsesSpec)) breParsesUptoCard

/-- THE SECOND FORM's CARD OF 'calenderlaw04.BrePrints'. -/
def brePrintsUptoCard : Claim7 := { stood := { row := brePrintsUptoRow, standIns := [], harness := (true, "2058fe28bd3587e78d5d8a510f3afb2d82e63769ba928e9f0e41bc3d9d680675"), looks := true }, kinds := [], alts := [], laidByText := true, laidKinds := [.data, .data, .data, .sentinel, .sentinel], laidTests := true, laidLooks := .later }
def BrePrintsUptoCardSaid : Prop := Claim7.holds Tryz.pinned (.plain (OpenSpec.upto brePrintsSpec)) brePrintsUptoCard

/-- THE SECOND FORM's CARD OF 'calenderlaw04.BreBack'. -/
def breBackUptoCard : Claim7 := { stood := { row := breBackUptoRow, standIns := [], harness := (true, "2058fe28bd3587e78d5d8a510f3afb2d82e63769ba928e9f0e41bc3d9d680675"), looks := true }, kinds := [], alts := [], laidByText := true, laidKinds := [.data, .data, .data, .sentinel, .sentinel], laidTests := true, laidLooks := .later }
def BreBackUptoCardSaid : Prop := Claim7.holds Tryz.pinned (.plain (OpenSpec.upto breBackSpec)) breBackUptoCard

/-- THE SECOND FORM's CARD OF 'calenderlaw04.BreLetters'. -/
def breLettersUptoCard : Claim7 := { stood := { row := breLettersUptoRow, standIns := [], harness := (true, "2058fe28bd3587e78d5d8a510f3afb2d82e63769ba928e9f0e41bc3d9d680675"), looks := true }, kinds := [], alts := [], laidByText := true, laidKinds := [.data, .data, .data, .sentinel, .sentinel], laidTests := true, laidLooks := .later }
def BreLettersUptoCardSaid : Prop := Claim7.holds Tryz.pinned (.plain (OpenSpec.upto breLettersSpec)) breLettersUptoCard

/-- THE SECOND FORM's CARD OF 'calenderlaw04.BrePlaces'. -/
def brePlacesUptoCard : Claim7 := { stood := { row := brePlacesUptoRow, standIns := [], harness := (true, "2058fe28bd3587e78d5d8a510f3afb2d82e63769ba928e9f0e41bc3d9d680675"), looks := true }, kinds := [], alts := [], laidByText := true, laidKinds := [.data, .data, .data, .sentinel, .sentinel], laidTests := true, laidLooks := .later }
def BrePlacesUptoCardSaid : Prop := Claim7.holds Tryz.pinned (.plain (OpenSpec.upto brePlacesSpec)) brePlacesUptoCard

/-- THE SECOND FORM's CARD OF 'calenderlaw04.BreShows'. -/
def breShowsUptoCard : Claim7 := { stood := { row := breShowsUptoRow, standIns := [], harness := (true, "2058fe28bd3587e78d5d8a510f3afb2d82e63769ba928e9f0e41bc3d9d680675"), looks := true }, kinds := [], alts := [], laidByText := true, laidKinds := [.data, .data, .data, .sentinel, .sentinel], laidTests := true, laidLooks := .later }
def BreShowsUptoCardSaid : Prop := Claim7.holds Tryz.pinned (.plain (OpenSpec.upto breShowsSpec)) breShowsUptoCard

/-- THE SECOND FORM's CARD OF 'calenderlaw05.EreParses'. -/
def ereParsesUptoCard : Claim7 := { stood := { row := ereParsesUptoRow, standIns := [], harness := (true, "2058fe28bd3587e78d5d8a510f3afb2d82e63769ba928e9f0e41bc3d9d680675"), looks := true }, kinds := [], alts := [], laidByText := true, laidKinds := [.data, .data, .data, .sentinel, .sentinel], laidTests := true, laidLooks := .later }
def EreParsesUptoCardSaid : Prop := Claim7.holds Tryz.pinned (.plain (OpenSpec.upto ereParsesSpec)) ereParsesUptoCard

/-- THE SECOND FORM's CARD OF 'calenderlaw05.ErePrints'. -/
def erePrintsUptoCard : Claim7 := { stood := { row := erePrintsUptoRow, standIns := [], harness := (true, "2058fe28bd3587e78d5d8a510f3afb2d82e63769ba928e9f0e41bc3d9d680675"), looks := true }, kinds := [], alts := [], laidByText := true, laidKinds := [.data, .data, .data, .sentinel, .sentinel], laidTests := true, laidLooks := .later }
def ErePrintsUptoCardSaid : Prop := Claim7.holds Tryz.pinned (.plain (OpenSpec.upto erePrintsSpec)) erePrintsUptoCard

/-- THE SECOND FORM's CARD OF 'calenderlaw05.EreBack'. -/
def ereBackUptoCard : Claim7 := { stood := { row := ereBackUptoRow, standIns := [], harness := (true, "2058fe28bd3587e78d5d8a510f3afb2d82e63769ba928e9f0e41bc3d9d680675"), looks := true }, kinds := [], alts := [], laidByText := true, laidKinds := [.data, .data, .data, .sentinel, .sentinel], laidTests := true, laidLooks := .later }
def EreBackUptoCardSaid : Prop := Claim7.holds Tryz.pinned (.plain (OpenSpec.upto ereBackSpec)) ereBackUptoCard

/-- THE SECOND FORM's CARD OF 'calenderlaw05.EreAlts'. -/
def ereAltsUptoCard : Claim7 := { stood := { row := ereAltsUptoRow, standIns := [], harness := (true, "2058fe28bd3587e78d5d8a510f3afb2d82e63769ba928e9f0e41bc3d9d680675"), looks := true }, kinds := [], alts := [], laidByText := true, laidKinds := [.data, .data, .data, .sentinel, .sentinel], laidTests := true, laidLooks := .later }
def EreAltsUptoCardSaid : Prop := Claim7.holds Tryz.pinned (.plain (OpenSpec.upto ereAltsSpec)) ereAltsUptoCard

/-- THE SECOND FORM's CARD OF 'calenderlaw05.ErePlaces'. -/
def erePlacesUptoCard : Claim7 := { stood := { row := erePlacesUptoRow, standIns := [], harness := (true, "2058fe28bd3587e78d5d8a510f3afb2d82e63769ba928e9f0e41bc3d9d680675"), looks := true }, kinds := [], alts := [], laidByText := true, laidKinds := [.data, .data, .data, .sentinel, .sentinel], laidTests := true, laidLooks := .later }
def ErePlacesUptoCardSaid : Prop := Claim7.holds Tryz.pinned (.plain (OpenSpec.upto erePlacesSpec)) erePlacesUptoCard

/-- THE SECOND FORM's CARD OF 'calenderlaw05.EreShows'. -/
def ereShowsUptoCard : Claim7 := { stood := { row := ereShowsUptoRow, standIns := [], harness := (true, "2058fe28bd3587e78d5d8a510f3afb2d82e63769ba928e9f0e41bc3d9d680675"), looks := true }, kinds := [], alts := [], laidByText := true, laidKinds := [.data, .data, .data, .sentinel, .sentinel], laidTests := true, laidLooks := .later }
def EreShowsUptoCardSaid : Prop := Claim7.holds Tryz.pinned (.plain (OpenSpec.upto ereShowsSpec)) ereShowsUptoCard
end Rows
end Go.Proofs.YthhbdkdofhhoeaaGreatDoor
