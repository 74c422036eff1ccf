/- Part of a proof over this seat: a library of my own, and what it says of this seat. No statement is proved here. -/
import Derived.Test.YtpehkjgbhnegmaaProg
import Derived.Test.YtpehkjgbhnegmaaPartAI
import Derived.Test.YtpehkjgbhnegmaaPartAH
import Derived.KernelRfl
namespace Go.Dec
open Go.Proofs
set_option linter.unusedVariables false

def tab : Tab := [(3, ⟨.int .i64, 1, 8, [.val (.int .i64) 0], some (.int .i64), false⟩),
  (4, ⟨.bool, 1, 1, [.val .bool false], some .bool, false⟩),
  (5, ⟨.int .u8, 1, 1, [.val (.int .u8) 0], some (.int .u8), false⟩),
  (9, ⟨.str, 1, 16, [.val .str []], some .str, false⟩),
  (23, ⟨.struct [(0, 9), (1, 4), (2, 4)], 3, 24, [.val .str [], .val .bool false, .val .bool false], some TSsbbE, true⟩),
  (25, ⟨.struct [(0, 9), (1, 4)], 2, 24, [.val .str [], .val .bool false], some TSsbE, true⟩),
  (27, ⟨.struct [(0, 9), (1, 4)], 2, 24, [.val .str [], .val .bool false], some TSsbE, true⟩),
  (30, ⟨.struct [(0, 9), (1, 4), (2, 4)], 3, 24, [.val .str [], .val .bool false, .val .bool false], some TSsbbE, true⟩),
  (31, ⟨.struct [(0, 9), (1, 4)], 2, 24, [.val .str [], .val .bool false], some TSsbE, true⟩),
  (39, ⟨.struct [(0, 9), (1, 4)], 2, 24, [.val .str [], .val .bool false], some TSsbE, true⟩),
  (45, ⟨.slice 27, 1, 24, [.nils], some (.slice TSsbE), false⟩),
  (47, ⟨.slice 25, 1, 24, [.nils], some (.slice TSsbE), false⟩),
  (48, ⟨.slice 4, 1, 24, [.nils], some (.slice .bool), false⟩),
  (51, ⟨.slice 62, 1, 24, [.nils], some (.slice TSssE), false⟩),
  (56, ⟨.slice 91, 1, 24, [.nils], some (.slice TSssE), false⟩),
  (62, ⟨.struct [(0, 9), (1, 9)], 2, 32, [.val .str [], .val .str []], some TSssE, true⟩),
  (68, ⟨.slice 31, 1, 24, [.nils], some (.slice TSsbE), false⟩),
  (80, ⟨.ptr 83, 1, 8, [.nilp], none, false⟩),
  (81, ⟨.slice 5, 1, 24, [.nils], some (.slice (.int .u8)), false⟩),
  (83, ⟨.struct [(0, 80), (1, 81)], 2, 32, [.nilp, .nils], none, false⟩),
  (85, ⟨.iface false, 1, 16, [.val .err false], some .err, false⟩),
  (90, ⟨.func, 1, 8, [.val .opq Value.nilFunc], some .opq, false⟩),
  (91, ⟨.struct [(0, 9), (1, 9)], 2, 32, [.val .str [], .val .str []], some TSssE, true⟩)]
theorem tab_ok : TabOK Try.prog tab := tabOK_of (by kernel_rfl)
theorem mixed : Try.prog.follows .mixedOrders = true := by kernel_rfl

abbrev link_PushA : List Ty := [TSsbbE, TSsbE]
abbrev link_PushR : List Ty := [TSsbbE]
abbrev link_TakeA : List Ty := [TSsbbE]
abbrev link_TakeR : List Ty := [TSsbbE, TSsbE, .bool, .bool]
abbrev link_KnownA : List Ty := [TSsbbE]
abbrev link_KnownR : List Ty := [TSsbE, .bool, .bool]
abbrev link_CloseA : List Ty := [TSsbbE]
abbrev link_CloseR : List Ty := [TSsbbE]
abbrev link_EndedA : List Ty := [TSsbbE]
abbrev link_EndedR : List Ty := [.bool]
abbrev law18_shownA : List Ty := []
abbrev law18_shownR : List Ty := [.bool]
abbrev law18_itsA : List Ty := [TSsbbE]
abbrev law18_itsR : List Ty := [TSsbbE]
abbrev ref08_SplitA : List Ty := [.str]
abbrev ref08_SplitR : List Ty := [.slice TSsbE]
abbrev ref08_JoinA : List Ty := [.slice TSsbE]
abbrev ref08_JoinR : List Ty := [.str]
abbrev ref18_TakeA : List Ty := [TSsbbE]
abbrev ref18_TakeR : List Ty := [TSsbbE, TSsbE, .bool, .bool]
abbrev ref18_PushA : List Ty := [TSsbbE, TSsbE]
abbrev ref18_PushR : List Ty := [TSsbbE]
abbrev ref18_CloseA : List Ty := [TSsbbE]
abbrev ref18_CloseR : List Ty := [TSsbbE]
abbrev ref18_EndedA : List Ty := [TSsbbE]
abbrev ref18_EndedR : List Ty := [.bool]
abbrev law18_LinkTellsA : List Ty := [TSsbbE, TSsbE]
abbrev law18_LinkTellsR : List Ty := [.bool]
abbrev law18_LinkTakesA : List Ty := [TSsbbE]
abbrev law18_LinkTakesR : List Ty := [.bool]
abbrev law18_LinkHoldsA : List Ty := [TSsbbE]
abbrev law18_LinkHoldsR : List Ty := [.bool]
abbrev law18_LinkClosedA : List Ty := [TSsbbE, TSsbE]
abbrev law18_LinkClosedR : List Ty := [.bool]
abbrev strings_Builder_WriteStringI : Sh := ⟨2, [⟨0, false, [.ptr 0 0]⟩, ⟨1, false, [.v .str]⟩], [.box 83 [.ornil 0 0, .own 1], .row 5 (.int .u8)]⟩
abbrev strings_Builder_WriteStringO : Sh := ⟨2, [⟨0, false, [.v (.int .i64)]⟩, ⟨1, false, [.v .err]⟩], [.box 83 [.ornil 0 0, .own 1], .row 5 (.int .u8)]⟩
abbrev bank_BytesA : List Ty := [.slice TSsbE]
abbrev bank_BytesR : List Ty := [.str]
abbrev law18_LinkLinesA : List Ty := [.slice TSsbE, .slice .bool]
abbrev law18_LinkLinesR : List Ty := [.bool]
abbrev law08_boundedA : List Ty := [.slice TSssE]
abbrev law08_boundedR : List Ty := [.bool]
abbrev slices_Clone_tableFileI : Sh := cloneI TSssE
abbrev slices_Clone_tableFileO : Sh := cloneO 62 TSssE
abbrev table_PutA : List Ty := [.slice TSssE, .str, .str]
abbrev table_PutR : List Ty := [.slice TSssE]
abbrev table_Get_1I : Sh := ⟨2, [⟨0, true, [.v .str, .v .str]⟩, ⟨1, false, [.ptr 0 0]⟩], [.box 9 [.v .str]]⟩
abbrev table_Get_1O : Sh := ⟨1, [⟨0, false, [.v .bool]⟩], [.box 9 [.v .str]]⟩
abbrev slices_IndexFunc_File__table_Get_1I : Sh := ⟨2, [⟨0, false, [.v (.slice TSssE)]⟩, ⟨1, false, [.clo 49 [(0, 0)]]⟩], [.box 9 [.v .str]]⟩
abbrev slices_IndexFunc_File__table_Get_1O : Sh := ⟨1, [⟨0, false, [.v (.int .i64)]⟩], [.box 9 [.v .str]]⟩
abbrev table_GetA : List Ty := [.slice TSssE, .str]
abbrev table_GetR : List Ty := [.str, .bool]
abbrev table_AddA : List Ty := [.slice TSssE, .str, .str]
abbrev table_AddR : List Ty := [.slice TSssE]
abbrev law08_shownA : List Ty := []
abbrev law08_shownR : List Ty := [.bool]
abbrev law08_itsA : List Ty := [.slice TSssE]
abbrev law08_itsR : List Ty := [.slice TSssE]
abbrev ref08_GetA : List Ty := [.slice TSssE, .str]
abbrev ref08_GetR : List Ty := [.str, .bool]
abbrev table_MayA : List Ty := [.slice TSssE]
abbrev table_MayR : List Ty := [.bool]
abbrev ref08_MayA : List Ty := [.slice TSssE]
abbrev ref08_MayR : List Ty := [.bool]
abbrev law08_TableTellsA : List Ty := [.slice TSssE, .str]
abbrev law08_TableTellsR : List Ty := [.bool]
abbrev law08_TableOthersA : List Ty := [.slice TSssE, .str, .str, .str]
abbrev law08_TableOthersR : List Ty := [.bool]
abbrev ref08_SameA : List Ty := [.slice TSssE, .slice TSssE]
abbrev ref08_SameR : List Ty := [.bool]
abbrev law08_TableAgainA : List Ty := [.slice TSssE, .str, .str, .str]
abbrev law08_TableAgainR : List Ty := [.bool]
abbrev law08_linesA : List Ty := [.slice TSsbE]
abbrev law08_linesR : List Ty := [.slice TSsbE]
abbrev ref08_SameLinesA : List Ty := [.slice TSsbE, .slice TSsbE]
abbrev ref08_SameLinesR : List Ty := [.bool]
abbrev strings_Builder_WriteByteI : Sh := ⟨2, [⟨0, false, [.ptr 0 0]⟩, ⟨1, false, [.v (.int .u8)]⟩], [.box 83 [.ornil 0 0, .own 1], .row 5 (.int .u8)]⟩
abbrev strings_Builder_WriteByteO : Sh := ⟨1, [⟨0, false, [.v .err]⟩], [.box 83 [.ornil 0 0, .own 1], .row 5 (.int .u8)]⟩
abbrev table_JoinA : List Ty := [.slice TSsbE]
abbrev table_JoinR : List Ty := [.str]
abbrev law08_TableSplitsA : List Ty := [.str, .slice TSsbE]
abbrev law08_TableSplitsR : List Ty := [.bool]
abbrev law08_TableBackA : List Ty := [.str]
abbrev law08_TableBackR : List Ty := [.bool]
abbrev ref08_PutA : List Ty := [.slice TSssE, .str, .str]
abbrev ref08_PutR : List Ty := [.slice TSssE]
abbrev ref08_AddA : List Ty := [.slice TSssE, .str, .str]
abbrev ref08_AddR : List Ty := [.slice TSssE]
abbrev law08_TablePutsA : List Ty := [.slice TSssE, .slice .bool]
abbrev law08_TablePutsR : List Ty := [.bool]

/-- calender/link.Push -/
def link_PushAn (n : Nat) : An (Dens link_PushR) := .nil
theorem link_Push_pure (n : Nat) : Pure Try.prog 19 link_PushA link_PushR (link_Push n) :=
  pure_of (Γ := orcG _ [] []) (an := link_PushAn n) Try.func19 rfl (by kernel_rfl) tab_ok (orcG_ok (all_nil) alg_nil) mixed (plain_ok _ _ rfl) (fun x => by kernel_rfl)

/-- calender/link.Take -/
def link_TakeAn (n : Nat) : An (Dens link_TakeR) := (.mk .nil (.scope 0 .nil .nil) [])
theorem link_Take_pure (n : Nat) : Pure Try.prog 15 link_TakeA link_TakeR (link_Take n) :=
  pure_of (Γ := orcG _ [(44, peOf strings_CutA strings_CutR (strings_Cut n))] []) (an := link_TakeAn n) Try.func15 rfl (by kernel_rfl) tab_ok (orcG_ok (all_cons (peOf_ok (strings_Cut_pure n)) (all_nil)) alg_nil) mixed (plain_ok _ _ rfl) (fun x => by kernel_rfl)

/-- calender/link.Known -/
def link_KnownAn (n : Nat) : An (Dens link_KnownR) := .nil
theorem link_Known_pure (n : Nat) : Pure Try.prog 18 link_KnownA link_KnownR (link_Known n) :=
  pure_of (Γ := orcG _ [(15, peOf link_TakeA link_TakeR (link_Take n))] []) (an := link_KnownAn n) Try.func18 rfl (by kernel_rfl) tab_ok (orcG_ok (all_cons (peOf_ok (link_Take_pure n)) (all_nil)) alg_nil) mixed (plain_ok _ _ rfl) (fun x => by kernel_rfl)

/-- calender/link.Close -/
def link_CloseAn (n : Nat) : An (Dens link_CloseR) := .nil
theorem link_Close_pure (n : Nat) : Pure Try.prog 21 link_CloseA link_CloseR (link_Close n) :=
  pure_of (Γ := orcG _ [] []) (an := link_CloseAn n) Try.func21 rfl (by kernel_rfl) tab_ok (orcG_ok (all_nil) alg_nil) mixed (plain_ok _ _ rfl) (fun x => by kernel_rfl)

/-- calender/link.Ended -/
def link_EndedAn (n : Nat) : An (Dens link_EndedR) := .nil
theorem link_Ended_pure (n : Nat) : Pure Try.prog 23 link_EndedA link_EndedR (link_Ended n) :=
  pure_of (Γ := orcG _ [] []) (an := link_EndedAn n) Try.func23 rfl (by kernel_rfl) tab_ok (orcG_ok (all_nil) alg_nil) mixed (plain_ok _ _ rfl) (fun x => by kernel_rfl)

/-- calender/calenderlaw18.shown -/
def law18_shownAn (n : Nat) : An (Dens law18_shownR) := .nil
theorem law18_shown_pure (n : Nat) : Pure Try.prog 14 law18_shownA law18_shownR (law18_shown n) :=
  pure_of (Γ := orcG _ [(19, peOf link_PushA link_PushR (link_Push n)), (18, peOf link_KnownA link_KnownR (link_Known n)), (15, peOf link_TakeA link_TakeR (link_Take n)), (21, peOf link_CloseA link_CloseR (link_Close n)), (23, peOf link_EndedA link_EndedR (link_Ended n))] []) (an := law18_shownAn n) Try.func14 rfl (by kernel_rfl) tab_ok (orcG_ok (all_cons (peOf_ok (link_Push_pure n)) (all_cons (peOf_ok (link_Known_pure n)) (all_cons (peOf_ok (link_Take_pure n)) (all_cons (peOf_ok (link_Close_pure n)) (all_cons (peOf_ok (link_Ended_pure n)) (all_nil)))))) alg_nil) mixed (plain_ok _ _ rfl) (fun x => by kernel_rfl)

/-- calender/calenderlaw18.its -/
def law18_itsAn (n : Nat) : An (Dens law18_itsR) := .nil
theorem law18_its_pure (n : Nat) : Pure Try.prog 17 law18_itsA law18_itsR (law18_its n) :=
  pure_of (Γ := orcG _ [] []) (an := law18_itsAn n) Try.func17 rfl (by kernel_rfl) tab_ok (orcG_ok (all_nil) alg_nil) mixed (plain_ok _ _ rfl) (fun x => by kernel_rfl)

/-- calender/calenderref08.Split -/
def ref08_SplitAn (n : Nat) : An (Dens ref08_SplitR) := (.mk .nil (.mk .nil (.mk .nil (.mk (.mk .nil (.mk (.loop ⟨37, [⟨0, false, [.v .str]⟩, ⟨3, false, [.own 0]⟩, ⟨4, false, [.v .str]⟩, ⟨5, false, [.v (.int .i64)]⟩], [.row 31 TSsbE]⟩ [.keep [true, false, false, true, true, true], .gc [0]] [.keep [true, false, false, true, true, true], .gc [0]] n .nil) .nil []) []) .nil []) []) []) [])
theorem ref08_Split_pure (n : Nat) : Pure Try.prog 41 ref08_SplitA ref08_SplitR (ref08_Split n) :=
  pure_of (Γ := orcG _ [] []) (an := ref08_SplitAn n) Try.func41 rfl (by kernel_rfl) tab_ok (orcG_ok (all_nil) alg_nil) mixed (plain_ok _ _ rfl) (fun x => by kernel_rfl)

/-- calender/calenderref08.Join -/
def ref08_JoinAn (n : Nat) : An (Dens ref08_JoinR) := (.mk .nil (.mk .nil (.mk (.mk .nil (.mk (.loop ⟨26, [⟨0, false, [.v (.slice TSsbE)]⟩, ⟨3, false, [.v .str]⟩, ⟨4, false, [.v (.int .i64)]⟩], []⟩ [.keep [true, false, false, true, true], .gc []] [.keep [true, false, false, true, true], .gc []] n .nil) .nil []) []) .nil []) []) [])
theorem ref08_Join_pure (n : Nat) : Pure Try.prog 43 ref08_JoinA ref08_JoinR (ref08_Join n) :=
  pure_of (Γ := orcG _ [] []) (an := ref08_JoinAn n) Try.func43 rfl (by kernel_rfl) tab_ok (orcG_ok (all_nil) alg_nil) mixed (plain_ok _ _ rfl) (fun x => by kernel_rfl)

/-- calender/calenderref18.Take -/
def ref18_TakeAn (n : Nat) : An (Dens ref18_TakeR) := .nil
theorem ref18_Take_pure (n : Nat) : Pure Try.prog 16 ref18_TakeA ref18_TakeR (ref18_Take n) :=
  pure_of (Γ := orcG _ [(41, peOf ref08_SplitA ref08_SplitR (ref08_Split n)), (43, peOf ref08_JoinA ref08_JoinR (ref08_Join n))] []) (an := ref18_TakeAn n) Try.func16 rfl (by kernel_rfl) tab_ok (orcG_ok (all_cons (peOf_ok (ref08_Split_pure n)) (all_cons (peOf_ok (ref08_Join_pure n)) (all_nil))) alg_nil) mixed (plain_ok _ _ rfl) (fun x => by kernel_rfl)

/-- calender/calenderref18.Push -/
def ref18_PushAn (n : Nat) : An (Dens ref18_PushR) := .nil
theorem ref18_Push_pure (n : Nat) : Pure Try.prog 20 ref18_PushA ref18_PushR (ref18_Push n) :=
  pure_of (Γ := orcG _ [] []) (an := ref18_PushAn n) Try.func20 rfl (by kernel_rfl) tab_ok (orcG_ok (all_nil) alg_nil) mixed (plain_ok _ _ rfl) (fun x => by kernel_rfl)

/-- calender/calenderref18.Close -/
def ref18_CloseAn (n : Nat) : An (Dens ref18_CloseR) := .nil
theorem ref18_Close_pure (n : Nat) : Pure Try.prog 22 ref18_CloseA ref18_CloseR (ref18_Close n) :=
  pure_of (Γ := orcG _ [] []) (an := ref18_CloseAn n) Try.func22 rfl (by kernel_rfl) tab_ok (orcG_ok (all_nil) alg_nil) mixed (plain_ok _ _ rfl) (fun x => by kernel_rfl)

/-- calender/calenderref18.Ended -/
def ref18_EndedAn (n : Nat) : An (Dens ref18_EndedR) := .nil
theorem ref18_Ended_pure (n : Nat) : Pure Try.prog 24 ref18_EndedA ref18_EndedR (ref18_Ended n) :=
  pure_of (Γ := orcG _ [] []) (an := ref18_EndedAn n) Try.func24 rfl (by kernel_rfl) tab_ok (orcG_ok (all_nil) alg_nil) mixed (plain_ok _ _ rfl) (fun x => by kernel_rfl)

/-- calender/calenderlaw18.LinkTells -/
def law18_LinkTellsAn (n : Nat) : An (Dens law18_LinkTellsR) := .nil
theorem law18_LinkTells_pure (n : Nat) : Pure Try.prog 3 law18_LinkTellsA law18_LinkTellsR (law18_LinkTells n) :=
  pure_of (Γ := orcG _ [(14, peOf law18_shownA law18_shownR (law18_shown n)), (15, peOf link_TakeA link_TakeR (link_Take n)), (17, peOf law18_itsA law18_itsR (law18_its n)), (16, peOf ref18_TakeA ref18_TakeR (ref18_Take n)), (18, peOf link_KnownA link_KnownR (link_Known n)), (19, peOf link_PushA link_PushR (link_Push n)), (20, peOf ref18_PushA ref18_PushR (ref18_Push n)), (21, peOf link_CloseA link_CloseR (link_Close n)), (22, peOf ref18_CloseA ref18_CloseR (ref18_Close n)), (23, peOf link_EndedA link_EndedR (link_Ended n)), (24, peOf ref18_EndedA ref18_EndedR (ref18_Ended n))] []) (an := law18_LinkTellsAn n) Try.func3 rfl (by kernel_rfl) tab_ok (orcG_ok (all_cons (peOf_ok (law18_shown_pure n)) (all_cons (peOf_ok (link_Take_pure n)) (all_cons (peOf_ok (law18_its_pure n)) (all_cons (peOf_ok (ref18_Take_pure n)) (all_cons (peOf_ok (link_Known_pure n)) (all_cons (peOf_ok (link_Push_pure n)) (all_cons (peOf_ok (ref18_Push_pure n)) (all_cons (peOf_ok (link_Close_pure n)) (all_cons (peOf_ok (ref18_Close_pure n)) (all_cons (peOf_ok (link_Ended_pure n)) (all_cons (peOf_ok (ref18_Ended_pure n)) (all_nil)))))))))))) alg_nil) mixed (plain_ok _ _ rfl) (fun x => by kernel_rfl)

/-- calender/calenderlaw18.LinkTakes -/
def law18_LinkTakesAn (n : Nat) : An (Dens law18_LinkTakesR) := .nil
theorem law18_LinkTakes_pure (n : Nat) : Pure Try.prog 4 law18_LinkTakesA law18_LinkTakesR (law18_LinkTakes n) :=
  pure_of (Γ := orcG _ [(14, peOf law18_shownA law18_shownR (law18_shown n)), (15, peOf link_TakeA link_TakeR (link_Take n))] []) (an := law18_LinkTakesAn n) Try.func4 rfl (by kernel_rfl) tab_ok (orcG_ok (all_cons (peOf_ok (law18_shown_pure n)) (all_cons (peOf_ok (link_Take_pure n)) (all_nil))) alg_nil) mixed (plain_ok _ _ rfl) (fun x => by kernel_rfl)

/-- calender/calenderlaw18.LinkHolds -/
def law18_LinkHoldsAn (n : Nat) : An (Dens law18_LinkHoldsR) := .nil
theorem law18_LinkHolds_pure (n : Nat) : Pure Try.prog 5 law18_LinkHoldsA law18_LinkHoldsR (law18_LinkHolds n) :=
  pure_of (Γ := orcG _ [(14, peOf law18_shownA law18_shownR (law18_shown n)), (18, peOf link_KnownA link_KnownR (link_Known n)), (25, peOf table_SplitA table_SplitR (table_Split n))] []) (an := law18_LinkHoldsAn n) Try.func5 rfl (by kernel_rfl) tab_ok (orcG_ok (all_cons (peOf_ok (law18_shown_pure n)) (all_cons (peOf_ok (link_Known_pure n)) (all_cons (peOf_ok (table_Split_pure n)) (all_nil)))) alg_nil) mixed (plain_ok _ _ rfl) (fun x => by kernel_rfl)

/-- calender/calenderlaw18.LinkClosed -/
def law18_LinkClosedAn (n : Nat) : An (Dens law18_LinkClosedR) := (.mk .nil (.mk .nil (.mk .nil (.mk .nil (.mk .nil (.mk (.mk (.loop ⟨66, [⟨2, false, [.ptr 0 0]⟩, ⟨5, false, [.ptr 1 0]⟩, ⟨6, false, [.v (.int .i64)]⟩], [.box 23 [.v .str, .v .bool, .v .bool], .box 23 [.v .str, .v .bool, .v .bool]]⟩ [.keep [false, false, true, false, false, true, true, false, false, false, false, false, false, false, false, false, false, false, false, false, false, false, false, false, false, false, false, false, false, false, false, false, false, false, false, false, false, false, false, false, false, false, false, false, false, false, false, false, false, false, false, false, false, false, false, false], .gc [0, 2]] [.keep [false, false, true, false, false, true, true, false, false, false, false, false, false, false, false, false, false, false, false, false, false, false, false, false, false, false, false, false, false, false, false, false, false, false, false, false, false, false, false, false, false, false, false, false, false, false, false, false, false, false, false, false, false, false, false, false], .gc [0, 1]] n .nil) .nil []) .nil []) []) []) []) []) [])
theorem law18_LinkClosed_pure (n : Nat) : Pure Try.prog 6 law18_LinkClosedA law18_LinkClosedR (law18_LinkClosed n) :=
  pure_of (Γ := orcG _ [(14, peOf law18_shownA law18_shownR (law18_shown n)), (21, peOf link_CloseA link_CloseR (link_Close n)), (19, peOf link_PushA link_PushR (link_Push n)), (23, peOf link_EndedA link_EndedR (link_Ended n)), (15, peOf link_TakeA link_TakeR (link_Take n)), (25, peOf table_SplitA table_SplitR (table_Split n))] []) (an := law18_LinkClosedAn n) Try.func6 rfl (by kernel_rfl) tab_ok (orcG_ok (all_cons (peOf_ok (law18_shown_pure n)) (all_cons (peOf_ok (link_Close_pure n)) (all_cons (peOf_ok (link_Push_pure n)) (all_cons (peOf_ok (link_Ended_pure n)) (all_cons (peOf_ok (link_Take_pure n)) (all_cons (peOf_ok (table_Split_pure n)) (all_nil))))))) alg_nil) mixed (plain_ok _ _ rfl) (fun x => by kernel_rfl)

/-- (*strings.Builder).WriteString -/
def strings_Builder_WriteStringAn (n : Nat) : An (strings_Builder_WriteStringO.X) := .nil
theorem strings_Builder_WriteString_meets (n : Nat) : Meets Try.prog 46 strings_Builder_WriteStringI strings_Builder_WriteStringO (strings_Builder_WriteString n) :=
  meets_of (Γ := orcG _ [(57, peM Builder_checkI Builder_checkO (Builder_check n))] []) (an := strings_Builder_WriteStringAn n) (co := [.gc [0, 1]]) Try.func46 rfl (by kernel_rfl) tab_ok (orcG_ok (all_cons (peM_ok (Builder_check_meets n)) (all_nil)) alg_nil) mixed (plain_ok _ _ rfl) (by kernel_rfl) (by kernel_rfl) (fun x => by kernel_rfl)

/-- calender/bank.Bytes -/
def bank_BytesAn (n : Nat) : An (Dens bank_BytesR) := (.mk .nil (.mk .nil (.mk .nil (.mk (.mk .nil (.mk (.loop ⟨23, [⟨3, false, [.ptr 0 0]⟩, ⟨4, false, [.v .str]⟩, ⟨7, false, [.v (.slice TSsbE)]⟩, ⟨8, false, [.v (.int .i64)]⟩, ⟨9, false, [.v (.int .i64)]⟩], [.box 83 [.ornil 0 0, .own 1], .row 5 (.int .u8)]⟩ [.keep [false, false, false, true, true, false, false, true, true, true], .ownB 0 1 81, .orn 0 0 0 0, .gc [0, 1]] [.keep [false, false, false, true, true, false, false, true, true, true], .gc [0, 1]] n .nil) .nil []) []) .nil []) []) []) [])
theorem bank_Bytes_pure (n : Nat) : Pure Try.prog 26 bank_BytesA bank_BytesR (bank_Bytes n) :=
  pure_of (Γ := orcG _ [(46, peM strings_Builder_WriteStringI strings_Builder_WriteStringO (strings_Builder_WriteString n)), (47, peM Builder_StringI Builder_StringO (Builder_String n))] []) (an := bank_BytesAn n) Try.func26 rfl (by kernel_rfl) tab_ok (orcG_ok (all_cons (peM_ok (strings_Builder_WriteString_meets n)) (all_cons (peM_ok (Builder_String_meets n)) (all_nil))) alg_nil) mixed (plain_ok _ _ rfl) (fun x => by kernel_rfl)

/-- calender/calenderlaw18.LinkLines -/
def law18_LinkLinesAn (n : Nat) : An (Dens law18_LinkLinesR) := (.mk .nil (.mk .nil (.mk .nil (.mk .nil (.mk .nil (.mk (.mk .nil (.mk (.loop ⟨122, [⟨0, false, [.v (.slice TSsbE)]⟩, ⟨1, false, [.v (.slice .bool)]⟩, ⟨5, false, [.ptr 0 0]⟩, ⟨6, false, [.own 1]⟩, ⟨7, false, [.v (.int .i64)]⟩, ⟨8, false, [.v (.int .i64)]⟩], [.box 23 [.v .str, .v .bool, .v .bool], .row 27 TSsbE]⟩ [.keep [true, true, false, false, false, true, true, true, true, false, false, false, false, false, false, false, false, false, false, false, false, false, false, false, false, false, false, false, false, false, false, false, false, false, false, false, false, false, false, false, false, false, false, false, false, false, false, false, false, false, false, false, false, false, false, false, false, false, false, false, false, false, false, false, false, false, false, false, false, false, false, false, false, false, false, false, false, false, false, false, false, false, false, false, false, false, false, false, false, false, false, false, false, false, false, false, false, false, false, false, false, false, false, false, false, false], .gc [0, 1]] [.keep [true, true, false, false, false, true, true, true, true, false, false, false, false, false, false, false, false, false, false, false, false, false, false, false, false, false, false, false, false, false, false, false, false, false, false, false, false, false, false, false, false, false, false, false, false, false, false, false, false, false, false, false, false, false, false, false, false, false, false, false, false, false, false, false, false, false, false, false, false, false, false, false, false, false, false, false, false, false, false, false, false, false, false, false, false, false, false, false, false, false, false, false, false, false, false, false, false, false, false, false, false, false, false, false, false, false], .gc [0, 1]] n (.mk .nil (.mk (.mk (.mk .nil (.mk (.loop ⟨122, [⟨0, false, [.v (.slice TSsbE)]⟩, ⟨1, false, [.v (.slice .bool)]⟩, ⟨5, false, [.ptr 0 0]⟩, ⟨6, false, [.own 1]⟩, ⟨7, false, [.v (.int .i64)]⟩, ⟨8, false, [.v (.int .i64)]⟩], [.box 23 [.v .str, .v .bool, .v .bool], .row 27 TSsbE]⟩ [.keep [true, true, false, false, false, true, true, true, true, false, false, false, false, false, false, false, false, false, false, false, false, false, false, false, false, false, false, false, false, false, false, false, false, false, false, false, false, false, false, false, false, false, false, false, false, false, false, false, false, false, false, false, false, false, false, false, false, false, false, false, false, false, false, false, false, false, false, false, false, false, false, false, false, false, false, false, false, false, false, false, false, false, false, false, false, false, false, false, false, false, false, false, false, false, false, false, false, false, false, false, false, false, false, false, false, false], .gc [0, 1]] [.keep [true, true, false, false, false, true, true, true, true, false, false, false, false, false, false, false, false, false, false, false, false, false, false, false, false, false, false, false, false, false, false, false, false, false, false, false, false, false, false, false, false, false, false, false, false, false, false, false, false, false, false, false, false, false, false, false, false, false, false, false, false, false, false, false, false, false, false, false, false, false, false, false, false, false, false, false, false, false, false, false, false, false, false, false, false, false, false, false, false, false, false, false, false, false, false, false, false, false, false, false, false, false, false, false, false, false], .gc [0, 1]] n .nil) .nil []) []) .nil []) .nil []) [])) .nil []) []) (.mk .nil (.mk .nil (.mk (.mk .nil (.mk (.loop ⟨122, [⟨6, false, [.own 0]⟩, ⟨13, false, [.v (.slice TSsbE)]⟩, ⟨14, false, [.v (.int .i64)]⟩], [.row 27 TSsbE]⟩ [.keep [false, false, false, false, false, false, true, false, false, false, false, false, false, true, true], .gc [1]] [.keep [false, false, false, false, false, false, true, false, false, false, false, false, false, true, true], .gc [0]] n .nil) .nil []) []) .nil []) []) []) []) []) []) []) []) [])
theorem law18_LinkLines_pure (n : Nat) : Pure Try.prog 7 law18_LinkLinesA law18_LinkLinesR (law18_LinkLines n) :=
  pure_of (Γ := orcG _ [(14, peOf law18_shownA law18_shownR (law18_shown n)), (19, peOf link_PushA link_PushR (link_Push n)), (15, peOf link_TakeA link_TakeR (link_Take n)), (21, peOf link_CloseA link_CloseR (link_Close n)), (26, peOf bank_BytesA bank_BytesR (bank_Bytes n)), (25, peOf table_SplitA table_SplitR (table_Split n)), (23, peOf link_EndedA link_EndedR (link_Ended n))] []) (an := law18_LinkLinesAn n) Try.func7 rfl (by kernel_rfl) tab_ok (orcG_ok (all_cons (peOf_ok (law18_shown_pure n)) (all_cons (peOf_ok (link_Push_pure n)) (all_cons (peOf_ok (link_Take_pure n)) (all_cons (peOf_ok (link_Close_pure n)) (all_cons (peOf_ok (bank_Bytes_pure n)) (all_cons (peOf_ok (table_Split_pure n)) (all_cons (peOf_ok (link_Ended_pure n)) (all_nil)))))))) alg_nil) mixed (plain_ok _ _ rfl) (fun x => by kernel_rfl)

/-- calender/calenderlaw08.bounded -/
def law08_boundedAn (n : Nat) : An (Dens law08_boundedR) := (.mk .nil (.mk (.mk .nil (.mk (.loop ⟨29, [⟨0, false, [.v (.slice TSssE)]⟩, ⟨3, false, [.v (.int .i64)]⟩], []⟩ [.keep [true, false, false, true, false, false, false, false, false, false, false, false, false, false, false, false, false, false, false, false, false, false, false, false, false], .gc []] [.keep [true, false, false, true, false, false, false, false, false, false, false, false, false, false, false, false, false, false, false, false, false, false, false, false, false], .gc []] n .nil) .nil []) []) .nil []) [])
theorem law08_bounded_pure (n : Nat) : Pure Try.prog 27 law08_boundedA law08_boundedR (law08_bounded n) :=
  pure_of (Γ := orcG _ [] []) (an := law08_boundedAn n) Try.func27 rfl (by kernel_rfl) tab_ok (orcG_ok (all_nil) alg_nil) mixed (plain_ok _ _ rfl) (fun x => by kernel_rfl)

/-- slices.Clone[[]calender/table.File,calender/table.File] -/
theorem slices_Clone_tableFile_meets (n : Nat) : Meets Try.prog 50 slices_Clone_tableFileI slices_Clone_tableFileO (slices_Clone_tableFile n) :=
  clone_meets (T := tab) Try.func50 rfl rfl rfl Try.underlying51 (by kernel_rfl) tab_ok rfl rfl rfl rfl (by decide) (by decide) (fun _ => rfl)

/-- calender/table.Put -/
def table_PutAn (n : Nat) : An (Dens table_PutR) := .nil
theorem table_Put_pure (n : Nat) : Pure Try.prog 36 table_PutA table_PutR (table_Put n) :=
  pure_of (Γ := orcG _ [(50, peM slices_Clone_tableFileI slices_Clone_tableFileO (slices_Clone_tableFile n)), (51, peOf table_placeA table_placeR (table_place n)), (53, peM slices_InsertI slices_InsertO (slices_Insert n))] []) (an := table_PutAn n) Try.func36 rfl (by kernel_rfl) tab_ok (orcG_ok (all_cons (peM_ok (slices_Clone_tableFile_meets n)) (all_cons (peOf_ok (table_place_pure n)) (all_cons (peM_ok (slices_Insert_meets n)) (all_nil)))) alg_nil) mixed (plain_ok _ _ rfl) (fun x => by kernel_rfl)

/-- calender/table.Get$1 -/
def table_Get_1An (n : Nat) : An (table_Get_1O.X) := .nil
theorem table_Get_1_meets (n : Nat) : Meets Try.prog 49 table_Get_1I table_Get_1O (table_Get_1 n) :=
  meets_of (Γ := orcG _ [] []) (an := table_Get_1An n) (co := [.gc [0]]) Try.func49 rfl (by kernel_rfl) tab_ok (orcG_ok (all_nil) alg_nil) mixed (plain_ok _ _ rfl) (by kernel_rfl) (by kernel_rfl) (fun x => by kernel_rfl)

/-- slices.IndexFunc[[]calender/table.File,calender/table.File] -/
def slices_IndexFunc_File__table_Get_1An (n : Nat) : An (slices_IndexFunc_File__table_Get_1O.X) := (.mk .nil (.mk (.mk .nil (.mk (.loop ⟨19, [⟨0, false, [.v (.slice TSssE)]⟩, ⟨1, false, [.clo 49 [(0, 0)]]⟩, ⟨7, false, [.v (.int .i64)]⟩, ⟨8, false, [.v (.int .i64)]⟩], [.box 9 [.v .str]]⟩ [.keep [true, true, false, false, false, false, false, true, true], .gc [0]] [.keep [true, true, false, false, false, false, false, true, true], .gc [0]] n .nil) .nil []) []) .nil []) [])
theorem slices_IndexFunc_File__table_Get_1_meets (n : Nat) : Meets Try.prog 48 slices_IndexFunc_File__table_Get_1I slices_IndexFunc_File__table_Get_1O (slices_IndexFunc_File__table_Get_1 n) :=
  meets_of (Γ := orcG _ [(49, peM table_Get_1I table_Get_1O (table_Get_1 n))] []) (an := slices_IndexFunc_File__table_Get_1An n) (co := [.gc [0]]) Try.func48 rfl (by kernel_rfl) tab_ok (orcG_ok (all_cons (peM_ok (table_Get_1_meets n)) (all_nil)) alg_nil) mixed (plain_ok _ _ rfl) (by kernel_rfl) (by kernel_rfl) (fun x => by kernel_rfl)

/-- calender/table.Get -/
def table_GetAn (n : Nat) : An (Dens table_GetR) := .nil
theorem table_Get_pure (n : Nat) : Pure Try.prog 29 table_GetA table_GetR (table_Get n) :=
  pure_of (Γ := orcG _ [(48, peM slices_IndexFunc_File__table_Get_1I slices_IndexFunc_File__table_Get_1O (slices_IndexFunc_File__table_Get_1 n))] []) (an := table_GetAn n) Try.func29 rfl (by kernel_rfl) tab_ok (orcG_ok (all_cons (peM_ok (slices_IndexFunc_File__table_Get_1_meets n)) (all_nil)) alg_nil) mixed (plain_ok _ _ rfl) (fun x => by kernel_rfl)

/-- calender/table.Add -/
def table_AddAn (n : Nat) : An (Dens table_AddR) := .nil
theorem table_Add_pure (n : Nat) : Pure Try.prog 34 table_AddA table_AddR (table_Add n) :=
  pure_of (Γ := orcG _ [(29, peOf table_GetA table_GetR (table_Get n)), (36, peOf table_PutA table_PutR (table_Put n))] []) (an := table_AddAn n) Try.func34 rfl (by kernel_rfl) tab_ok (orcG_ok (all_cons (peOf_ok (table_Get_pure n)) (all_cons (peOf_ok (table_Put_pure n)) (all_nil))) alg_nil) mixed (plain_ok _ _ rfl) (fun x => by kernel_rfl)

/-- calender/calenderlaw08.shown -/
def law08_shownAn (n : Nat) : An (Dens law08_shownR) := .nil
theorem law08_shown_pure (n : Nat) : Pure Try.prog 28 law08_shownA law08_shownR (law08_shown n) :=
  pure_of (Γ := orcG _ [(36, peOf table_PutA table_PutR (table_Put n)), (34, peOf table_AddA table_AddR (table_Add n)), (29, peOf table_GetA table_GetR (table_Get n)), (25, peOf table_SplitA table_SplitR (table_Split n))] []) (an := law08_shownAn n) Try.func28 rfl (by kernel_rfl) tab_ok (orcG_ok (all_cons (peOf_ok (table_Put_pure n)) (all_cons (peOf_ok (table_Add_pure n)) (all_cons (peOf_ok (table_Get_pure n)) (all_cons (peOf_ok (table_Split_pure n)) (all_nil))))) alg_nil) mixed (plain_ok _ _ rfl) (fun x => by kernel_rfl)

/-- calender/calenderlaw08.its -/
def law08_itsAn (n : Nat) : An (Dens law08_itsR) := (.mk .nil (.mk .nil (.mk (.mk .nil (.mk (.loop ⟨20, [⟨0, false, [.v (.slice TSssE)]⟩, ⟨3, false, [.own 0]⟩, ⟨4, false, [.v (.int .i64)]⟩], [.row 91 TSssE]⟩ [.keep [true, false, false, true, true], .gc [0]] [.keep [true, false, false, true, true], .gc [0]] n .nil) .nil []) []) .nil []) []) [])
theorem law08_its_pure (n : Nat) : Pure Try.prog 31 law08_itsA law08_itsR (law08_its n) :=
  pure_of (Γ := orcG _ [] []) (an := law08_itsAn n) Try.func31 rfl (by kernel_rfl) tab_ok (orcG_ok (all_nil) alg_nil) mixed (plain_ok _ _ rfl) (fun x => by kernel_rfl)

/-- calender/calenderref08.Get -/
def ref08_GetAn (n : Nat) : An (Dens ref08_GetR) := (.mk .nil (.mk (.mk .nil (.mk (.loop ⟨25, [⟨0, false, [.v (.slice TSssE)]⟩, ⟨1, false, [.v .str]⟩, ⟨6, false, [.v (.int .i64)]⟩], []⟩ [.keep [true, true, false, false, false, false, true], .gc []] [.keep [true, true, false, false, false, false, true], .gc []] n .nil) .nil []) []) .nil []) [])
theorem ref08_Get_pure (n : Nat) : Pure Try.prog 30 ref08_GetA ref08_GetR (ref08_Get n) :=
  pure_of (Γ := orcG _ [] []) (an := ref08_GetAn n) Try.func30 rfl (by kernel_rfl) tab_ok (orcG_ok (all_nil) alg_nil) mixed (plain_ok _ _ rfl) (fun x => by kernel_rfl)

/-- calender/table.May -/
def table_MayAn (n : Nat) : An (Dens table_MayR) := (.mk .nil (.mk .nil (.mk (.mk .nil (.mk (.loop ⟨19, [⟨3, false, [.v .str]⟩, ⟨6, false, [.v (.slice TSssE)]⟩, ⟨7, false, [.v (.int .i64)]⟩, ⟨8, false, [.v (.int .i64)]⟩], []⟩ [.keep [false, false, false, true, false, false, true, true, true], .gc []] [.keep [false, false, false, true, false, false, true, true, true], .gc []] n .nil) .nil []) []) .nil []) []) [])
theorem table_May_pure (n : Nat) : Pure Try.prog 32 table_MayA table_MayR (table_May n) :=
  pure_of (Γ := orcG _ [] []) (an := table_MayAn n) Try.func32 rfl (by kernel_rfl) tab_ok (orcG_ok (all_nil) alg_nil) mixed (plain_ok _ _ rfl) (fun x => by kernel_rfl)

/-- calender/calenderref08.May -/
def ref08_MayAn (n : Nat) : An (Dens ref08_MayR) := (.mk .nil (.mk (.mk .nil (.mk (.loop ⟨34, [⟨0, false, [.v (.slice TSssE)]⟩, ⟨3, false, [.v (.int .i64)]⟩], []⟩ [.keep [true, false, false, true, false, false, false, false, false, false, false, false, false, false, false, false, false, false, false, false, false, false, false, false, false, false, false, false, false, false, false, false, false], .gc []] [.keep [true, false, false, true, false, false, false, false, false, false, false, false, false, false, false, false, false, false, false, false, false, false, false, false, false, false, false, false, false, false, false, false, false], .gc []] n .nil) .nil []) []) .nil []) [])
theorem ref08_May_pure (n : Nat) : Pure Try.prog 33 ref08_MayA ref08_MayR (ref08_May n) :=
  pure_of (Γ := orcG _ [] []) (an := ref08_MayAn n) Try.func33 rfl (by kernel_rfl) tab_ok (orcG_ok (all_nil) alg_nil) mixed (plain_ok _ _ rfl) (fun x => by kernel_rfl)

/-- calender/calenderlaw08.TableTells -/
def law08_TableTellsAn (n : Nat) : An (Dens law08_TableTellsR) := .nil
theorem law08_TableTells_pure (n : Nat) : Pure Try.prog 8 law08_TableTellsA law08_TableTellsR (law08_TableTells n) :=
  pure_of (Γ := orcG _ [(27, peOf law08_boundedA law08_boundedR (law08_bounded n)), (28, peOf law08_shownA law08_shownR (law08_shown n)), (29, peOf table_GetA table_GetR (table_Get n)), (31, peOf law08_itsA law08_itsR (law08_its n)), (30, peOf ref08_GetA ref08_GetR (ref08_Get n)), (32, peOf table_MayA table_MayR (table_May n)), (33, peOf ref08_MayA ref08_MayR (ref08_May n))] []) (an := law08_TableTellsAn n) Try.func8 rfl (by kernel_rfl) tab_ok (orcG_ok (all_cons (peOf_ok (law08_bounded_pure n)) (all_cons (peOf_ok (law08_shown_pure n)) (all_cons (peOf_ok (table_Get_pure n)) (all_cons (peOf_ok (law08_its_pure n)) (all_cons (peOf_ok (ref08_Get_pure n)) (all_cons (peOf_ok (table_May_pure n)) (all_cons (peOf_ok (ref08_May_pure n)) (all_nil)))))))) alg_nil) mixed (plain_ok _ _ rfl) (fun x => by kernel_rfl)

/-- calender/calenderlaw08.TableOthers -/
def law08_TableOthersAn (n : Nat) : An (Dens law08_TableOthersR) := .nil
theorem law08_TableOthers_pure (n : Nat) : Pure Try.prog 10 law08_TableOthersA law08_TableOthersR (law08_TableOthers n) :=
  pure_of (Γ := orcG _ [(27, peOf law08_boundedA law08_boundedR (law08_bounded n)), (28, peOf law08_shownA law08_shownR (law08_shown n)), (32, peOf table_MayA table_MayR (table_May n)), (36, peOf table_PutA table_PutR (table_Put n)), (29, peOf table_GetA table_GetR (table_Get n))] []) (an := law08_TableOthersAn n) Try.func10 rfl (by kernel_rfl) tab_ok (orcG_ok (all_cons (peOf_ok (law08_bounded_pure n)) (all_cons (peOf_ok (law08_shown_pure n)) (all_cons (peOf_ok (table_May_pure n)) (all_cons (peOf_ok (table_Put_pure n)) (all_cons (peOf_ok (table_Get_pure n)) (all_nil)))))) alg_nil) mixed (plain_ok _ _ rfl) (fun x => by kernel_rfl)

/-- calender/calenderref08.Same -/
def ref08_SameAn (n : Nat) : An (Dens ref08_SameR) := (.mk .nil (.mk .nil (.mk (.mk .nil (.mk (.loop ⟨26, [⟨0, false, [.v (.slice TSssE)]⟩, ⟨1, false, [.v (.slice TSssE)]⟩, ⟨5, false, [.v (.int .i64)]⟩], []⟩ [.keep [true, true, false, false, false, true], .gc []] [.keep [true, true, false, false, false, true], .gc []] n .nil) .nil []) []) .nil []) []) [])
theorem ref08_Same_pure (n : Nat) : Pure Try.prog 38 ref08_SameA ref08_SameR (ref08_Same n) :=
  pure_of (Γ := orcG _ [] []) (an := ref08_SameAn n) Try.func38 rfl (by kernel_rfl) tab_ok (orcG_ok (all_nil) alg_nil) mixed (plain_ok _ _ rfl) (fun x => by kernel_rfl)

/-- calender/calenderlaw08.TableAgain -/
def law08_TableAgainAn (n : Nat) : An (Dens law08_TableAgainR) := .nil
theorem law08_TableAgain_pure (n : Nat) : Pure Try.prog 11 law08_TableAgainA law08_TableAgainR (law08_TableAgain n) :=
  pure_of (Γ := orcG _ [(27, peOf law08_boundedA law08_boundedR (law08_bounded n)), (28, peOf law08_shownA law08_shownR (law08_shown n)), (32, peOf table_MayA table_MayR (table_May n)), (36, peOf table_PutA table_PutR (table_Put n)), (34, peOf table_AddA table_AddR (table_Add n)), (31, peOf law08_itsA law08_itsR (law08_its n)), (38, peOf ref08_SameA ref08_SameR (ref08_Same n))] []) (an := law08_TableAgainAn n) Try.func11 rfl (by kernel_rfl) tab_ok (orcG_ok (all_cons (peOf_ok (law08_bounded_pure n)) (all_cons (peOf_ok (law08_shown_pure n)) (all_cons (peOf_ok (table_May_pure n)) (all_cons (peOf_ok (table_Put_pure n)) (all_cons (peOf_ok (table_Add_pure n)) (all_cons (peOf_ok (law08_its_pure n)) (all_cons (peOf_ok (ref08_Same_pure n)) (all_nil)))))))) alg_nil) mixed (plain_ok _ _ rfl) (fun x => by kernel_rfl)

/-- calender/calenderlaw08.lines -/
def law08_linesAn (n : Nat) : An (Dens law08_linesR) := (.mk .nil (.mk .nil (.mk (.mk .nil (.mk (.loop ⟨20, [⟨0, false, [.v (.slice TSsbE)]⟩, ⟨3, false, [.own 0]⟩, ⟨4, false, [.v (.int .i64)]⟩], [.row 31 TSsbE]⟩ [.keep [true, false, false, true, true], .gc [0]] [.keep [true, false, false, true, true], .gc [0]] n .nil) .nil []) []) .nil []) []) [])
theorem law08_lines_pure (n : Nat) : Pure Try.prog 40 law08_linesA law08_linesR (law08_lines n) :=
  pure_of (Γ := orcG _ [] []) (an := law08_linesAn n) Try.func40 rfl (by kernel_rfl) tab_ok (orcG_ok (all_nil) alg_nil) mixed (plain_ok _ _ rfl) (fun x => by kernel_rfl)

/-- calender/calenderref08.SameLines -/
def ref08_SameLinesAn (n : Nat) : An (Dens ref08_SameLinesR) := (.mk .nil (.mk .nil (.mk (.mk .nil (.mk (.loop ⟨26, [⟨0, false, [.v (.slice TSsbE)]⟩, ⟨1, false, [.v (.slice TSsbE)]⟩, ⟨5, false, [.v (.int .i64)]⟩], []⟩ [.keep [true, true, false, false, false, true], .gc []] [.keep [true, true, false, false, false, true], .gc []] n .nil) .nil []) []) .nil []) []) [])
theorem ref08_SameLines_pure (n : Nat) : Pure Try.prog 39 ref08_SameLinesA ref08_SameLinesR (ref08_SameLines n) :=
  pure_of (Γ := orcG _ [] []) (an := ref08_SameLinesAn n) Try.func39 rfl (by kernel_rfl) tab_ok (orcG_ok (all_nil) alg_nil) mixed (plain_ok _ _ rfl) (fun x => by kernel_rfl)

/-- (*strings.Builder).WriteByte -/
def strings_Builder_WriteByteAn (n : Nat) : An (strings_Builder_WriteByteO.X) := .nil
theorem strings_Builder_WriteByte_meets (n : Nat) : Meets Try.prog 54 strings_Builder_WriteByteI strings_Builder_WriteByteO (strings_Builder_WriteByte n) :=
  meets_of (Γ := orcG _ [(57, peM Builder_checkI Builder_checkO (Builder_check n))] []) (an := strings_Builder_WriteByteAn n) (co := [.gc [0, 1]]) Try.func54 rfl (by kernel_rfl) tab_ok (orcG_ok (all_cons (peM_ok (Builder_check_meets n)) (all_nil)) alg_nil) mixed (plain_ok _ _ rfl) (by kernel_rfl) (by kernel_rfl) (fun x => by kernel_rfl)

/-- calender/table.Join -/
def table_JoinAn (n : Nat) : An (Dens table_JoinR) := (.mk .nil (.mk .nil (.mk (.mk .nil (.mk (.loop ⟨20, [⟨3, false, [.ptr 0 0]⟩, ⟨6, false, [.v (.slice TSsbE)]⟩, ⟨7, false, [.v (.int .i64)]⟩, ⟨8, false, [.v (.int .i64)]⟩], [.box 83 [.ornil 0 0, .own 1], .row 5 (.int .u8)]⟩ [.keep [false, false, false, true, false, false, true, true, true], .ownB 0 1 81, .orn 0 0 0 0, .gc [0, 1]] [.keep [false, false, false, true, false, false, true, true, true], .gc [0, 1]] n .nil) .nil []) []) .nil []) []) [])
theorem table_Join_pure (n : Nat) : Pure Try.prog 42 table_JoinA table_JoinR (table_Join n) :=
  pure_of (Γ := orcG _ [(46, peM strings_Builder_WriteStringI strings_Builder_WriteStringO (strings_Builder_WriteString n)), (54, peM strings_Builder_WriteByteI strings_Builder_WriteByteO (strings_Builder_WriteByte n)), (47, peM Builder_StringI Builder_StringO (Builder_String n))] []) (an := table_JoinAn n) Try.func42 rfl (by kernel_rfl) tab_ok (orcG_ok (all_cons (peM_ok (strings_Builder_WriteString_meets n)) (all_cons (peM_ok (strings_Builder_WriteByte_meets n)) (all_cons (peM_ok (Builder_String_meets n)) (all_nil)))) alg_nil) mixed (plain_ok _ _ rfl) (fun x => by kernel_rfl)

/-- calender/calenderlaw08.TableSplits -/
def law08_TableSplitsAn (n : Nat) : An (Dens law08_TableSplitsR) := (.mk .nil (.mk .nil (.mk (.mk .nil (.mk (.loop ⟨47, [⟨0, false, [.v .str]⟩, ⟨1, false, [.v (.slice TSsbE)]⟩, ⟨5, false, [.v (.int .i64)]⟩], []⟩ [.keep [true, true, false, false, false, true, false, false, false, false, false, false, false, false, false, false, false, false, false, false, false, false, false, false, false, false, false, false, false, false, false, false, false, false, false, false, false, false, false, false, false, false, false, false, false, false], .gc []] [.keep [true, true, false, false, false, true, false, false, false, false, false, false, false, false, false, false, false, false, false, false, false, false, false, false, false, false, false, false, false, false, false, false, false, false, false, false, false, false, false, false, false, false, false, false, false, false], .gc []] n .nil) .nil []) []) .nil []) []) [])
theorem law08_TableSplits_pure (n : Nat) : Pure Try.prog 12 law08_TableSplitsA law08_TableSplitsR (law08_TableSplits n) :=
  pure_of (Γ := orcG _ [(28, peOf law08_shownA law08_shownR (law08_shown n)), (25, peOf table_SplitA table_SplitR (table_Split n)), (40, peOf law08_linesA law08_linesR (law08_lines n)), (41, peOf ref08_SplitA ref08_SplitR (ref08_Split n)), (39, peOf ref08_SameLinesA ref08_SameLinesR (ref08_SameLines n)), (42, peOf table_JoinA table_JoinR (table_Join n)), (43, peOf ref08_JoinA ref08_JoinR (ref08_Join n))] []) (an := law08_TableSplitsAn n) Try.func12 rfl (by kernel_rfl) tab_ok (orcG_ok (all_cons (peOf_ok (law08_shown_pure n)) (all_cons (peOf_ok (table_Split_pure n)) (all_cons (peOf_ok (law08_lines_pure n)) (all_cons (peOf_ok (ref08_Split_pure n)) (all_cons (peOf_ok (ref08_SameLines_pure n)) (all_cons (peOf_ok (table_Join_pure n)) (all_cons (peOf_ok (ref08_Join_pure n)) (all_nil)))))))) alg_nil) mixed (plain_ok _ _ rfl) (fun x => by kernel_rfl)

/-- calender/calenderlaw08.TableBack -/
def law08_TableBackAn (n : Nat) : An (Dens law08_TableBackR) := (.mk .nil (.mk .nil (.mk .nil (.mk (.mk .nil (.mk (.loop ⟨65, [⟨0, false, [.v .str]⟩, ⟨3, false, [.v (.slice TSsbE)]⟩, ⟨4, false, [.v (.int .i64)]⟩], []⟩ [.keep [true, false, false, true, true, false, false, false, false, false, false, false, false, false, false, false, false, false, false, false, false, false, false, false, false, false, false, false, false, false, false, false, false, false, false, false, false, false, false, false, false, false, false, false, false, false, false, false, false, false, false, false, false, false, false, false, false, false, false, false], .gc []] [.keep [true, false, false, true, true, false, false, false, false, false, false, false, false, false, false, false, false, false, false, false, false, false, false, false, false, false, false, false, false, false, false, false, false, false, false, false, false, false, false, false, false, false, false, false, false, false, false, false, false, false, false, false, false, false, false, false, false, false, false, false], .gc []] n (.mk .nil (.mk (.mk (.mk (.mk .nil (.mk (.loop ⟨65, [⟨0, false, [.v .str]⟩, ⟨3, false, [.v (.slice TSsbE)]⟩, ⟨4, false, [.v (.int .i64)]⟩, ⟨5, false, [.v (.int .i64)]⟩], []⟩ [.keep [true, false, false, true, true, true, false, false, false, false, false, false, false, false, false, false, false, false, false, false, false, false, false, false, false, false, false, false, false, false, false, false, false, false, false, false, false, false, false, false, false, false, false, false, false, false, false, false, false, false, false, false, false, false, false, false, false, false, false, false], .gc []] [.keep [true, false, false, true, true, true, false, false, false, false, false, false, false, false, false, false, false, false, false, false, false, false, false, false, false, false, false, false, false, false, false, false, false, false, false, false, false, false, false, false, false, false, false, false, false, false, false, false, false, false, false, false, false, false, false, false, false, false, false, false], .gc []] n .nil) .nil []) []) .nil []) .nil []) .nil []) [])) .nil []) []) .nil []) []) []) [])
theorem law08_TableBack_pure (n : Nat) : Pure Try.prog 13 law08_TableBackA law08_TableBackR (law08_TableBack n) :=
  pure_of (Γ := orcG _ [(28, peOf law08_shownA law08_shownR (law08_shown n)), (25, peOf table_SplitA table_SplitR (table_Split n)), (42, peOf table_JoinA table_JoinR (table_Join n))] []) (an := law08_TableBackAn n) Try.func13 rfl (by kernel_rfl) tab_ok (orcG_ok (all_cons (peOf_ok (law08_shown_pure n)) (all_cons (peOf_ok (table_Split_pure n)) (all_cons (peOf_ok (table_Join_pure n)) (all_nil)))) alg_nil) mixed (plain_ok _ _ rfl) (fun x => by kernel_rfl)

/-- calender/calenderref08.Put -/
def ref08_PutAn (n : Nat) : An (Dens ref08_PutR) := (.mk .nil (.mk .nil (.mk .nil (.mk .nil (.mk (.mk .nil (.mk (.loop ⟨60, [⟨0, false, [.v (.slice TSssE)]⟩, ⟨1, false, [.v .str]⟩, ⟨2, false, [.v .str]⟩, ⟨7, false, [.own 0]⟩, ⟨8, false, [.v .bool]⟩, ⟨9, false, [.v (.int .i64)]⟩], [.row 91 TSssE]⟩ [.keep [true, true, true, false, false, false, false, true, true, true, false, false, false, false, false, false, false, false, false, false, false, false, false, false, false, false, false, false, false, false], .gc [0]] [.keep [true, true, true, false, false, false, false, true, true, true, false, false, false, false, false, false, false, false, false, false, false, false, false, false, false, false, false, false, false, false], .gc [0]] n .nil) .nil []) []) .nil []) []) []) []) [])
theorem ref08_Put_pure (n : Nat) : Pure Try.prog 37 ref08_PutA ref08_PutR (ref08_Put n) :=
  pure_of (Γ := orcG _ [] []) (an := ref08_PutAn n) Try.func37 rfl (by kernel_rfl) tab_ok (orcG_ok (all_nil) alg_nil) mixed (plain_ok _ _ rfl) (fun x => by kernel_rfl)

/-- calender/calenderref08.Add -/
def ref08_AddAn (n : Nat) : An (Dens ref08_AddR) := .nil
theorem ref08_Add_pure (n : Nat) : Pure Try.prog 35 ref08_AddA ref08_AddR (ref08_Add n) :=
  pure_of (Γ := orcG _ [(30, peOf ref08_GetA ref08_GetR (ref08_Get n)), (37, peOf ref08_PutA ref08_PutR (ref08_Put n))] []) (an := ref08_AddAn n) Try.func35 rfl (by kernel_rfl) tab_ok (orcG_ok (all_cons (peOf_ok (ref08_Get_pure n)) (all_cons (peOf_ok (ref08_Put_pure n)) (all_nil))) alg_nil) mixed (plain_ok _ _ rfl) (fun x => by kernel_rfl)

/-- calender/calenderlaw08.TablePuts -/
def law08_TablePutsAn (n : Nat) : An (Dens law08_TablePutsR) := (.mk .nil (.mk .nil (.mk .nil (.mk .nil (.mk (.mk .nil (.mk (.loop ⟨92, [⟨0, false, [.v (.slice TSssE)]⟩, ⟨1, false, [.v (.slice .bool)]⟩, ⟨5, false, [.v (.slice TSssE)]⟩, ⟨6, false, [.v (.slice TSssE)]⟩, ⟨7, false, [.v (.int .i64)]⟩], []⟩ [.keep [true, true, false, false, false, true, true, true, false, false, false, false, false, false, false, false, false, false, false, false, false, false, false, false, false, false, false, false, false, false, false, false, false, false, false, false, false, false, false, false, false, false, false, false, false, false, false, false, false, false, false, false, false, false, false, false, false, false, false, false, false, false, false, false, false, false, false, false, false, false, false, false, false, false, false, false, false, false, false, false, false, false, false, false, false, false, false, false, false, false, false], .frzR 5, .frzR 6, .gc []] [.keep [true, true, false, false, false, true, true, true, false, false, false, false, false, false, false, false, false, false, false, false, false, false, false, false, false, false, false, false, false, false, false, false, false, false, false, false, false, false, false, false, false, false, false, false, false, false, false, false, false, false, false, false, false, false, false, false, false, false, false, false, false, false, false, false, false, false, false, false, false, false, false, false, false, false, false, false, false, false, false, false, false, false, false, false, false, false, false, false, false, false, false], .frzR 5, .frzR 6, .gc []] n (.mk .nil (.mk (.mk (.mk (.mk .nil (.mk (.mk (.co [.frzR 5] .nil) (.co [.frzR 6] .nil) []) .nil []) []) .nil []) .nil []) .nil []) [])) .nil []) []) .nil []) []) []) []) [])
theorem law08_TablePuts_pure (n : Nat) : Pure Try.prog 9 law08_TablePutsA law08_TablePutsR (law08_TablePuts n) :=
  pure_of (Γ := orcG _ [(27, peOf law08_boundedA law08_boundedR (law08_bounded n)), (28, peOf law08_shownA law08_shownR (law08_shown n)), (34, peOf table_AddA table_AddR (table_Add n)), (35, peOf ref08_AddA ref08_AddR (ref08_Add n)), (31, peOf law08_itsA law08_itsR (law08_its n)), (38, peOf ref08_SameA ref08_SameR (ref08_Same n)), (32, peOf table_MayA table_MayR (table_May n)), (36, peOf table_PutA table_PutR (table_Put n)), (37, peOf ref08_PutA ref08_PutR (ref08_Put n))] []) (an := law08_TablePutsAn n) Try.func9 rfl (by kernel_rfl) tab_ok (orcG_ok (all_cons (peOf_ok (law08_bounded_pure n)) (all_cons (peOf_ok (law08_shown_pure n)) (all_cons (peOf_ok (table_Add_pure n)) (all_cons (peOf_ok (ref08_Add_pure n)) (all_cons (peOf_ok (law08_its_pure n)) (all_cons (peOf_ok (ref08_Same_pure n)) (all_cons (peOf_ok (table_May_pure n)) (all_cons (peOf_ok (table_Put_pure n)) (all_cons (peOf_ok (ref08_Put_pure n)) (all_nil)))))))))) alg_nil) mixed (plain_ok _ _ rfl) (fun x => by kernel_rfl)

end Go.Dec
