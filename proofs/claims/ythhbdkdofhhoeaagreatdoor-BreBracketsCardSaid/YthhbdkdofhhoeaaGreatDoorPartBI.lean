/- Part of a proof over this seat: a library of my own, and what it says of this seat. No statement is proved here. -/
import Derived.Test.YthhbdkdofhhoeaaGreatDoorPartBH
namespace Go.Dec
open Go.Proofs
set_option linter.unusedVariables false

/-- calender/calenderref02.Words -/
def ref02_WordsAn (n : Nat) : An (Dens ref02_WordsR) := (.mk .nil (.mk .nil (.mk (.mk .nil (.mk (.loop ⟨28, [⟨1, false, [.ptr 0 0]⟩, ⟨2, false, [.ptr 1 0]⟩, ⟨3, false, [.ptr 2 0]⟩, ⟨4, false, [.v (.int .i64)]⟩], [.box 30 [.v (.arr 256 .bool)], .box 24 [.v (.arr 4 (.int .u64))], .box 24 [.v (.arr 4 (.int .u64))]]⟩ [.keep [false, true, true, true, true], .gcA 0, .gcA 0] [.keep [false, true, true, true, true], .gcA 0, .gcA 0] n .nil) .nil []) []) .nil []) []) [])
theorem ref02_Words_pure (n : Nat) : Pure Tryz.prog 19 ref02_WordsA ref02_WordsR (ref02_Words n) :=
  pure_of (Γ := orcG _ [] []) (an := ref02_WordsAn n) Tryz.func19 rfl (by kernel_rfl) tab_ok (orcG_ok (all_nil) (alg_nil)) mixed (plain_ok _ _ rfl) (fun x => by kernel_rfl)

/-- calender/calenderlaw04.BreBrackets -/
def law04_BreBracketsAn (n : Nat) : An (Dens law04_BreBracketsR) := .nil
theorem law04_BreBrackets_pure (n : Nat) : Pure Tryz.prog 3 law04_BreBracketsA law04_BreBracketsR (law04_BreBrackets n) :=
  pure_of (Γ := orcG _ [(16, peOf law04_shownA law04_shownR (law04_shown n)), (17, peOf bre_BracketA bre_BracketR (bre_Bracket n)), (18, peOf ref04_BracketA ref04_BracketR (ref04_Bracket n)), (19, peOf ref02_WordsA ref02_WordsR (ref02_Words n))] []) (an := law04_BreBracketsAn n) Tryz.func3 rfl (by kernel_rfl) tab_ok (orcG_ok (all_cons (peOf_ok (law04_shown_pure n)) (all_cons (peOf_ok (bre_Bracket_pure n)) (all_cons (peOf_ok (ref04_Bracket_pure n)) (all_cons (peOf_ok (ref02_Words_pure n)) (all_nil))))) (alg_nil)) mixed (plain_ok _ _ rfl) (fun x => by kernel_rfl)

/-- calender/calenderlaw04.BreBack -/
def law04_BreBackAn (n : Nat) : An (Dens law04_BreBackR) := .nil
theorem law04_BreBack_pure (n : Nat) : Pure Tryz.prog 6 law04_BreBackA law04_BreBackR (law04_BreBack n) :=
  pure_of (Γ := orcG _ [(16, peOf law04_shownA law04_shownR (law04_shown n)), (20, peOf bre_ParseA bre_ParseR (bre_Parse n)), (25, peOf bre_PrintA bre_PrintR (bre_Print n)), (27, peOf rx_TextA rx_TextR (rx_Text n))] []) (an := law04_BreBackAn n) Tryz.func6 rfl (by kernel_rfl) tab_ok (orcG_ok (all_cons (peOf_ok (law04_shown_pure n)) (all_cons (peOf_ok (bre_Parse_pure n)) (all_cons (peOf_ok (bre_Print_pure n)) (all_cons (peOf_ok (rx_Text_pure n)) (all_nil))))) (alg_nil)) mixed (plain_ok _ _ rfl) (fun x => by kernel_rfl)

/-- calender/calenderref03.fields -/
def ref03_fieldsAn (n : Nat) : An (Dens ref03_fieldsR) := (.mk .nil (.mk .nil (.mk .nil (.mk (.join ⟨105, [⟨1, false, [.ptr 0 0]⟩, ⟨3, false, [.ptr 1 0]⟩], [.box 51 [.v (.int .i64), .v (.arr 4 (.int .u64)), .v (.int .i64), .v (.int .i64), .v (.int .i64), .v (.int .i64), .v (.int .i64)], .box 51 [.v (.int .i64), .v (.arr 4 (.int .u64)), .v (.int .i64), .v (.int .i64), .v (.int .i64), .v (.int .i64), .v (.int .i64)]]⟩ [.keep [false, true, false, true, false, false, false, false, false, false, false, false, false, false, false, false, false, false, false, false, false, false, false, false, false, false, false, false, false, false, false, false, false, false, false, false, false, false, false, false, false, false, false, false, false, false, false, false, false, false, false, false, false, false, false, false, false, false, false, false, false, false, false, false, false, false, false, false, false, false, false, false, false, false, false, false, false, false, false, false, false, false, false, false, false, false, false, false, false, false, false, false, false, false, false, false, false, false, false, false, false, false, false, false], .gcA 0] (.mk .nil (.mk (.mk (.join ⟨105, [⟨1, false, [.ptr 0 0]⟩, ⟨3, false, [.ptr 1 0]⟩, ⟨4, false, [.ptr 2 0]⟩, ⟨10, false, [.v (.int .i64)]⟩, ⟨11, false, [.v .bool]⟩], [.box 51 [.v (.int .i64), .v (.arr 4 (.int .u64)), .v (.int .i64), .v (.int .i64), .v (.int .i64), .v (.int .i64), .v (.int .i64)], .box 51 [.v (.int .i64), .v (.arr 4 (.int .u64)), .v (.int .i64), .v (.int .i64), .v (.int .i64), .v (.int .i64), .v (.int .i64)], .box 24 [.v (.arr 4 (.int .u64))]]⟩ [.keep [false, true, false, true, true, false, false, false, false, false, true, true, false, false, false, false, false, false, false, false, false, false, false, false, false, false, false, false, false, false, false, false, false, false, false, false, false, false, false, false, false, false, false, false, false, false, false, false, false, false, false, false, false, false, false, false, false, false, false, false, false, false, false, false, false, false, false, false, false, false, false, false, false, false, false, false, false, false, false, false, false, false, false, false, false, false, false, false, false, false, false, false, false, false, false, false, false, false, false, false, false, false, false, false], .gcA 0] .nil) (.mk .nil (.mk .nil (.mk .nil (.mk (.join ⟨105, [⟨1, false, [.ptr 0 0]⟩, ⟨3, false, [.ptr 1 0]⟩, ⟨10, false, [.v (.int .i64)]⟩, ⟨24, false, [.v .bool]⟩], [.box 51 [.v (.int .i64), .v (.arr 4 (.int .u64)), .v (.int .i64), .v (.int .i64), .v (.int .i64), .v (.int .i64), .v (.int .i64)], .box 51 [.v (.int .i64), .v (.arr 4 (.int .u64)), .v (.int .i64), .v (.int .i64), .v (.int .i64), .v (.int .i64), .v (.int .i64)]]⟩ [.keep [false, true, false, true, false, false, false, false, false, false, true, false, false, false, false, false, false, false, false, false, false, false, false, false, true, false, false, false, false, false, false, false, false, false, false, false, false, false, false, false, false, false, false, false, false, false, false, false, false, false, false, false, false, false, false, false, false, false, false, false, false, false, false, false, false, false, false, false, false, false, false, false, false, false, false, false, false, false, false, false, false, false, false, false, false, false, false, false, false, false, false, false, false, false, false, false, false, false, false, false, false, false, false, false], .gcA 0] .nil) .nil []) []) []) []) []) .nil []) [])) .nil []) []) []) [])
theorem ref03_fields_pure (n : Nat) : Pure Tryz.prog 144 ref03_fieldsA ref03_fieldsR (ref03_fields n) :=
  pure_of (Γ := orcG _ [] []) (an := ref03_fieldsAn n) Tryz.func144 rfl (by kernel_rfl) tab_ok (orcG_ok (all_nil) (alg_nil)) mixed (plain_ok _ _ rfl) (fun x => by kernel_rfl)

/-- calender/calenderref03.first -/
def ref03_firstAn (n : Nat) : An (Dens ref03_firstR) := .nil
theorem ref03_first_body_pure (n : Nat) (r_ref03_first : (List (Int × List (Int) × Int × Int × Int × Int × Int × Unit) × Int) → Option (Int)) (h_ref03_first : Pure Tryz.prog 145 ref03_firstA ref03_firstR r_ref03_first) : Pure Tryz.prog 145 ref03_firstA ref03_firstR (ref03_first_body n r_ref03_first) :=
  pure_of (Γ := orcG _ [(145, peOf ref03_firstA ref03_firstR (r_ref03_first))] []) (an := ref03_firstAn n) Tryz.func145 rfl (by kernel_rfl) tab_ok (orcG_ok (all_cons (peOf_ok (h_ref03_first)) (all_nil)) (alg_nil)) mixed (plain_ok _ _ rfl) (fun x => by kernel_rfl)
theorem ref03_first_pure (n : Nat) : Pure Tryz.prog 145 ref03_firstA ref03_firstR (ref03_first n) := rec_pure (by kernel_rfl) (fun n r h => ref03_first_body_pure n r h) n

/-- calender/calenderref03.through -/
def ref03_throughAn (n : Nat) : An (Dens ref03_throughR) := .nil
theorem ref03_through_body_pure (n : Nat) (r_ref03_through : (List (Int × List (Int) × Int × Int × Int × Int × Int × Unit) × Int × Bool × Int × List (Bool) × Bool × Unit) → Option (Bool × Int × List (Bool) × Bool × Unit)) (h_ref03_through : Pure Tryz.prog 146 ref03_throughA ref03_throughR r_ref03_through) : Pure Tryz.prog 146 ref03_throughA ref03_throughR (ref03_through_body n r_ref03_through) :=
  pure_of (Γ := orcG _ [(146, peOf ref03_throughA ref03_throughR (r_ref03_through))] []) (an := ref03_throughAn n) Tryz.func146 rfl (by kernel_rfl) tab_ok (orcG_ok (all_cons (peOf_ok (h_ref03_through)) (all_nil)) (alg_nil)) mixed (plain_ok _ _ rfl) (fun x => by kernel_rfl)
theorem ref03_through_pure (n : Nat) : Pure Tryz.prog 146 ref03_throughA ref03_throughR (ref03_through n) := rec_pure (by kernel_rfl) (fun n r h => ref03_through_body_pure n r h) n

/-- calender/calenderref03.look -/
def ref03_lookAn (n : Nat) : An (Dens ref03_lookR) := (.mk .nil (.mk .nil (.mk (.mk .nil (.mk (.loop ⟨39, [⟨0, false, [.v (.slice TSiA4wiiiiiE)]⟩, ⟨2, false, [.ptr 0 0]⟩, ⟨3, false, [.v (.int .i64)]⟩], [.box 130 [.v .bool, .v (.int .i64), .v (.arr 10 .bool), .v .bool]]⟩ [.keep [true, false, true, true], .gcA 0, .gcA 0] [.keep [true, false, true, true], .gcA 0, .gcA 0] n .nil) .nil []) []) .nil []) []) [])
theorem ref03_look_pure (n : Nat) : Pure Tryz.prog 102 ref03_lookA ref03_lookR (ref03_look n) :=
  pure_of (Γ := orcG _ [(144, peOf ref03_fieldsA ref03_fieldsR (ref03_fields n)), (145, peOf ref03_firstA ref03_firstR (ref03_first n)), (146, peOf ref03_throughA ref03_throughR (ref03_through n))] []) (an := ref03_lookAn n) Tryz.func102 rfl (by kernel_rfl) tab_ok (orcG_ok (all_cons (peOf_ok (ref03_fields_pure n)) (all_cons (peOf_ok (ref03_first_pure n)) (all_cons (peOf_ok (ref03_through_pure n)) (all_nil)))) (alg_nil)) mixed (plain_ok _ _ rfl) (fun x => by kernel_rfl)

/-- calender/calenderref03.May -/
def ref03_MayAn (n : Nat) : An (Dens ref03_MayR) := .nil
theorem ref03_May_pure (n : Nat) : Pure Tryz.prog 64 ref03_MayA ref03_MayR (ref03_May n) :=
  pure_of (Γ := orcG _ [(102, peOf ref03_lookA ref03_lookR (ref03_look n))] []) (an := ref03_MayAn n) Tryz.func64 rfl (by kernel_rfl) tab_ok (orcG_ok (all_cons (peOf_ok (ref03_look_pure n)) (all_nil)) (alg_nil)) mixed (plain_ok _ _ rfl) (fun x => by kernel_rfl)

/-- calender/calenderref02.Told -/
def ref02_ToldAn (n : Nat) : An (Dens ref02_ToldR) := (.mk .nil (.mk .nil (.mk (.mk .nil (.mk (.loop ⟨27, [⟨1, false, [.ptr 0 0]⟩, ⟨2, false, [.ptr 1 0]⟩, ⟨3, false, [.ptr 2 0]⟩, ⟨4, false, [.v (.int .i64)]⟩], [.box 24 [.v (.arr 4 (.int .u64))], .box 30 [.v (.arr 256 .bool)], .box 30 [.v (.arr 256 .bool)]]⟩ [.keep [false, true, true, true, true], .gcA 0, .gcA 0] [.keep [false, true, true, true, true], .gcA 0, .gcA 0] n .nil) .nil []) []) .nil []) []) [])
theorem ref02_Told_pure (n : Nat) : Pure Tryz.prog 32 ref02_ToldA ref02_ToldR (ref02_Told n) :=
  pure_of (Γ := orcG _ [] []) (an := ref02_ToldAn n) Tryz.func32 rfl (by kernel_rfl) tab_ok (orcG_ok (all_nil) (alg_nil)) mixed (plain_ok _ _ rfl) (fun x => by kernel_rfl)

/-- calender/calenderref03.hex -/
def ref03_hexAn (n : Nat) : An (Dens ref03_hexR) := (.mk .nil (.mk .nil (.mk (.mk .nil (.mk (.loop ⟨35, [⟨0, false, [.v .str]⟩, ⟨3, false, [.v .str]⟩, ⟨4, false, [.v (.int .i64)]⟩], []⟩ [.keep [true, false, false, true, true], .gcA 0, .gcA 0] [.keep [true, false, false, true, true], .gcA 0, .gcA 0] n .nil) .nil []) []) .nil []) []) [])
theorem ref03_hex_pure (n : Nat) : Pure Tryz.prog 110 ref03_hexA ref03_hexR (ref03_hex n) :=
  pure_of (Γ := orcG _ [] []) (an := ref03_hexAn n) Tryz.func110 rfl (by kernel_rfl) tab_ok (orcG_ok (all_nil) (alg_nil)) mixed (plain_ok _ _ rfl) (fun x => by kernel_rfl)

end Go.Dec
