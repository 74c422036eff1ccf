/-
  DERIVED. GIVEN WITH THE SEED: THE CARDS: each row of YtdgneppobefaoaaGreatDoorRows.lean that lists a variable, with what it lists TIED to the program's text (the seventh form; the later family's looks); each row that meets fmt, with fmt's text TOLD by the authors' own Lean function (tested against real Go, not proved from fmt's source: count such statements apart). THE CARD IS WHAT COUNTS. Prove the row's statement (the work); the ties are given (YtdgneppobefaoaaGreatDoorTie.lean); close each card by the builder's one call (the guide's Derived/Test/ToyasCard.lean, 'card_holds'). Laid BY PROGRAM, IN A SANDBOX (cutbox-door.mjs). By AI agents, Wed Nov 11 2026. No macro, syntax, notation, axiom, sorry.
-/
import Derived.Test.YtdgneppobefaoaaGreatDoorRows
import GoSem.ClaimSeven
namespace Go.Proofs.YtdgneppobefaoaaGreatDoor
namespace Rows

/-- THE TIED CARD OF 'calendertop.TopTac'. -/
def topTacCard : Claim7 := { stood := { row := topTacRow, standIns := [], harness := (true, "e6aad9f3a8325d1ef16cfdd012d602806642ca6149caa395510a66e5fa28b4af"), looks := true }, kinds := [], alts := [], laidByText := true, laidKinds := [.data, .data, .data, .data, .sentinel, .sentinel, .pinned], laidTests := true, laidLooks := .later }
def TopTacCardSaid : Prop := Claim7.holds Tryz.pinned (.plain (OpenSpec.ofChange topTacSpec)) topTacCard

/-- THE TIED CARD OF 'calenderlaw13.ScriptWide'. -/
def scriptWideCard : Claim7 := { stood := { row := scriptWideRow, standIns := [], harness := (true, "e6aad9f3a8325d1ef16cfdd012d602806642ca6149caa395510a66e5fa28b4af"), looks := true }, kinds := [], alts := [], laidByText := true, laidKinds := [.data, .data, .data, .data, .sentinel, .sentinel, .pinned], laidTests := true, laidLooks := .later }
def ScriptWideCardSaid : Prop := Claim7.holds Tryz.pinned (.plain (OpenSpec.ofChange scriptWideSpec)) scriptWideCard

/-- THE TIED CARD OF 'calenderlaw22.FrontReports'. -/
def frontReportsCard : Claim7 := { stood := { row := frontReportsRow, standIns := [], harness := (true, "e6aad9f3a8325d1ef16cfdd012d602806642ca6149caa395510a66e5fa28b4af"), looks := true }, kinds := [], alts := [], laidByText := true, laidKinds := [.data, .data, .data, .data, .sentinel, .sentinel, .pinned], laidTests := true, laidLooks := .later }
def FrontReportsCardSaid : Prop := Claim7.holds Tryz.pinned (.plain (OpenSpec.ofChange frontReportsSpec)) frontReportsCard

/-- THE TIED CARD OF 'calendertop.TopTwice'. -/
def topTwiceCard : Claim7 := { stood := { row := topTwiceRow, standIns := [], harness := (true, "e6aad9f3a8325d1ef16cfdd012d602806642ca6149caa395510a66e5fa28b4af"), looks := true }, kinds := [], alts := [], laidByText := true, laidKinds := [.data, .data, .data, .data, .sentinel, .sentinel, .pinned], laidTests := true, laidLooks := .later }
def TopTwiceCardSaid : Prop := Claim7.holds Tryz.pinned (.plain (OpenSpec.ofChange topTwiceSpec)) topTwiceCard

/-- THE TIED CARD OF 'calendertop.TopHead'. -/
def topHeadCard : Claim7 := { stood := { row := topHeadRow, standIns := [], harness := (true, "e6aad9f3a8325d1ef16cfdd012d602806642ca6149caa395510a66e5fa28b4af"), looks := true }, kinds := [], alts := [], laidByText := true, laidKinds := [.data, .data, .data, .data, .sentinel, .sentinel, .pinned], laidTests := true, laidLooks := .later }
def TopHeadCardSaid : Prop := Claim7.holds Tryz.pinned (.plain (OpenSpec.ofChange topHeadSpec)) topHeadCard

/-- THE TIED CARD OF 'calendertop.TopList'. -/
def topListCard : Claim7 := { stood := { row := topListRow, standIns := [], harness := (true, "e6aad9f3a8325d1ef16cfdd012d602806642ca6149caa395510a66e5fa28b4af"), looks := true }, kinds := [], alts := [], laidByText := true, laidKinds := [.data, .data, .data, .data, .sentinel, .sentinel, .pinned], laidTests := true, laidLooks := .later }
def TopListCardSaid : Prop := Claim7.holds Tryz.pinned (.plain (OpenSpec.ofChange topListSpec)) topListCard

/-- THE SECOND FORM's CARD OF 'calendertop.TopTac'. -/
def topTacUptoCard : Claim7 := { stood := { row := topTacUptoRow, standIns := [], harness := (true, "e6aad9f3a8325d1ef16cfdd012d602806642ca6149caa395510a66e5fa28b4af"), looks := true }, kinds := [], alts := [], laidByText := true, laidKinds := [.data, .data, .data, .data, .sentinel, .sentinel, .pinned], laidTests := true, laidLooks := .later }
def TopTacUptoCardSaid : Prop := Claim7.holds Tryz.pinned (.plain (OpenSpec.upto topTacSpec)) topTacUptoCard

/-- THE SECOND FORM's CARD OF 'calenderlaw13.ScriptWide'. -/
def scriptWideUptoCard : Claim7 := { stood := { row := scriptWideUptoRow, standIns := [], harness := (true, "e6aad9f3a8325d1ef16cfdd012d602806642ca6149caa395510a66e5fa28b4af"), looks := true }, kinds := [], alts := [], laidByText := true, laidKinds := [.data, .data, .data, .data, .sentinel, .sentinel, .pinned], laidTests := true, laidLooks := .later }
def ScriptWideUptoCardSaid : Prop := Claim7.holds Tryz.pinned (.plain (OpenSpec.upto scriptWideSpec)) scriptWideUptoCard

/-- THE SECOND FORM's CARD OF 'calenderlaw22.FrontReports'. -/
def frontReportsUptoCard : Claim7 := { stood := { row := frontReportsUptoRow, standIns := [], harness := (true, "e6aad9f3a8325d1ef16cfdd012d602806642ca6149caa395510a66e5fa28b4af"), looks := true }, kinds := [], alts := [], laidByText := true, laidKinds := [.data, .data, .data, .data, .sentinel, .sentinel, .pinned], laidTests := true, laidLooks := .later }
def FrontReportsUptoCardSaid : Prop := Claim7.holds Tryz.pinned (.plain (OpenSpec.upto frontReportsSpec)) frontReportsUptoCard

/-- THE SECOND FORM's CARD OF 'calendertop.TopTwice'. -/
def topTwiceUptoCard : Claim7 := { stood := { row := topTwiceUptoRow, standIns := [], harness := (true, "e6aad9f3a8325d1ef16cfdd012d602806642ca6149caa395510a66e5fa28b4af"), looks := true }, kinds := [], alts := [], laidByText := true, laidKinds := [.data, .data, .data, .data, .sentinel, .sentinel, .pinned], laidTests := true, laidLooks := .later }
def TopTwiceUptoCardSaid : Prop := Claim7.holds Tryz.pinned (.plain (OpenSpec.upto topTwiceSpec)) topTwiceUptoCard

/-- THE SECOND FORM's CARD OF 'calendertop.TopHead'. -/
def topHeadUptoCard : Claim7 := { stood := { row := topHeadUptoRow, standIns := [], harness := (true, "e6aad9f3a8325d1ef16cfdd012d602806642ca6149caa395510a66e5fa28b4af"), looks := true }, kinds := [], alts := [], laidByText := true, laidKinds := [.data, .data, .data, .data, .sentinel, .sentinel, .pinned], laidTests := true, laidLooks := .later }
def TopHeadUptoCardSaid : Prop := Claim7.holds Tryz.pinned (.plain (OpenSpec.upto topHeadSpec)) topHeadUptoCard

/-- THE SECOND FORM's CARD OF 'calendertop.TopList'. -/
def topListUptoCard : Claim7 := { stood := { row := topListUptoRow, standIns := [], harness := (true, "e6aad9f3a8325d1ef16cfdd012d602806642ca6149caa395510a66e5fa28b4af"), looks := true }, kinds := [], alts := [], laidByText := true, laidKinds := [.data, .data, .data, .data, .sentinel, .sentinel, .pinned], laidTests := true, laidLooks := .later }
def TopListUptoCardSaid : Prop := Claim7.holds Tryz.pinned (.plain (OpenSpec.upto topListSpec)) topListUptoCard
end Rows
end Go.Proofs.YtdgneppobefaoaaGreatDoor
