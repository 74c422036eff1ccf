/- Part of a proof over this seat: a library of my own, and what it says of this seat. No statement is proved here. -/
import Derived.Test.YthhbdkdofhhoeaaGreatDoorPartBE
namespace Go.Dec
open Go.Proofs
set_option linter.unusedVariables false
def rx_Node_partsAn (n : Nat) : An (Dens rx_Node_partsR) := .nil
theorem rx_Node_parts_pure (n : Nat) : Pure Tryz.prog 66 rx_Node_partsA rx_Node_partsR (rx_Node_parts n) :=
  pure_of (Γ := orcG _ [] []) (an := rx_Node_partsAn n) Tryz.func66 rfl (by kernel_rfl) tab_ok (orcG_ok (all_nil) (alg_nil)) mixed (plain_ok _ _ rfl) (fun x => by kernel_rfl)
def rx_Node_plainAn (n : Nat) : An (Dens rx_Node_plainR) := .nil
theorem rx_Node_plain_pure (n : Nat) : Pure Tryz.prog 170 rx_Node_plainA rx_Node_plainR (rx_Node_plain n) :=
  pure_of (Γ := orcG _ [] []) (an := rx_Node_plainAn n) Tryz.func170 rfl (by kernel_rfl) tab_ok (orcG_ok (all_nil) (alg_nil)) mixed (plain_ok _ _ rfl) (fun x => by kernel_rfl)
def rx_Node_oneAn (n : Nat) : An (Dens rx_Node_oneR) := .nil
theorem rx_Node_one_pure (n : Nat) : Pure Tryz.prog 140 rx_Node_oneA rx_Node_oneR (rx_Node_one n) :=
  pure_of (Γ := orcG _ [(170, peOf rx_Node_plainA rx_Node_plainR (rx_Node_plain n))] []) (an := rx_Node_oneAn n) Tryz.func140 rfl (by kernel_rfl) tab_ok (orcG_ok (all_cons (peOf_ok (rx_Node_plain_pure n)) (all_nil)) (alg_nil)) mixed (plain_ok _ _ rfl) (fun x => by kernel_rfl)
def slices_Index_IntAn (n : Nat) : An (Dens slices_Index_IntR) := (.mk .nil (.mk (.mk .nil (.mk (.loop ⟨19, [⟨0, false, [.v (.slice (.int .i64))]⟩, ⟨1, false, [.v (.int .i64)]⟩, ⟨7, false, [.v (.int .i64)]⟩, ⟨8, false, [.v (.int .i64)]⟩], []⟩ [.keep [true, true, false, false, false, false, false, true, true], .gcA 0, .gcA 0] [.keep [true, true, false, false, false, false, false, true, true], .gcA 0, .gcA 0] n .nil) .nil []) []) .nil []) [])
theorem slices_Index_Int_pure (n : Nat) : Pure Tryz.prog 189 slices_Index_IntA slices_Index_IntR (slices_Index_Int n) :=
  pure_of (Γ := orcG _ [] []) (an := slices_Index_IntAn n) Tryz.func189 rfl (by kernel_rfl) tab_ok (orcG_ok (all_nil) (alg_nil)) mixed (plain_ok _ _ rfl) (fun x => by kernel_rfl)
def slices_Contains_IntAn (n : Nat) : An (Dens slices_Contains_IntR) := .nil
theorem slices_Contains_Int_pure (n : Nat) : Pure Tryz.prog 171 slices_Contains_IntA slices_Contains_IntR (slices_Contains_Int n) :=
  pure_of (Γ := orcG _ [(189, peOf slices_Index_IntA slices_Index_IntR (slices_Index_Int n))] []) (an := slices_Contains_IntAn n) Tryz.func171 rfl (by kernel_rfl) tab_ok (orcG_ok (all_cons (peOf_ok (slices_Index_Int_pure n)) (all_nil)) (alg_nil)) mixed (plain_ok _ _ rfl) (fun x => by kernel_rfl)
def rx_fitsAn (n : Nat) : An (Dens rx_fitsR) := .nil
theorem rx_fits_pure (n : Nat) : Pure Tryz.prog 141 rx_fitsA rx_fitsR (rx_fits n) :=
  pure_of (Γ := orcG _ [(171, peOf slices_Contains_IntA slices_Contains_IntR (slices_Contains_Int n))] []) (an := rx_fitsAn n) Tryz.func141 rfl (by kernel_rfl) tab_ok (orcG_ok (all_cons (peOf_ok (slices_Contains_Int_pure n)) (all_nil)) (alg_nil)) mixed (plain_ok _ _ rfl) (fun x => by kernel_rfl)
def rx_orderedAn (n : Nat) : An (Dens rx_orderedR) := (.mk .nil (.mk .nil (.mk (.mk .nil (.mk (.loop ⟨80, [⟨0, false, [.v (.slice TSiA4wiiiiiE)]⟩, ⟨3, false, [.own 0]⟩, ⟨8, false, [.v (.slice TSiA4wiiiiiE)]⟩, ⟨9, false, [.v (.int .i64)]⟩, ⟨10, false, [.v (.int .i64)]⟩], [.row 3 (.int .i64)]⟩ [.keep [true, false, false, true, false, false, false, false, true, true, true, false, false, false, false, false, false, false, false, false, false, false, false, false, false, false, false, false, false, false, false, false, false, false, false, false, false, false, false, false, false, false, false, false, false, false, false, false, false, false, false, false, false, false, false, false, false, false, false, false, false, false, false, false, false, false, false, false, false], .gcA 0, .ownR 3 105, .gcA 0] [.keep [true, false, false, true, false, false, false, false, true, true, true, false, false, false, false, false, false, false, false, false, false, false, false, false, false, false, false, false, false, false, false, false, false, false, false, false, false, false, false, false, false, false, false, false, false, false, false, false, false, false, false, false, false, false, false, false, false, false, false, false, false, false, false, false, false, false, false, false, false], .gcA 0, .gcA 0] n .nil) .nil []) []) .nil []) []) [])
theorem rx_ordered_pure (n : Nat) : Pure Tryz.prog 99 rx_orderedA rx_orderedR (rx_ordered n) :=
  pure_of (Γ := orcG _ [(66, peOf rx_Node_partsA rx_Node_partsR (rx_Node_parts n)), (140, peOf rx_Node_oneA rx_Node_oneR (rx_Node_one n)), (141, peOf rx_fitsA rx_fitsR (rx_fits n))] []) (an := rx_orderedAn n) Tryz.func99 rfl (by kernel_rfl) tab_ok (orcG_ok (all_cons (peOf_ok (rx_Node_parts_pure n)) (all_cons (peOf_ok (rx_Node_one_pure n)) (all_cons (peOf_ok (rx_fits_pure n)) (all_nil)))) (alg_nil)) mixed (plain_ok _ _ rfl) (fun x => by kernel_rfl)
def rx_numbered_1An (n : Nat) : An (rx_numbered_1O.X) := .nil
theorem rx_numbered_1_body_meets (n : Nat) (r_rx_numbered_1 : (Int × List (Int × List (Int) × Int × Int × Int × Int × Int × Unit) × Int × Bool × List (Bool) × Bool × Unit) → Option (List (Int × List (Int) × Int × Int × Int × Int × Int × Unit) × Int × Bool × List (Bool) × Bool × Unit)) (h_rx_numbered_1 : Meets Tryz.prog 142 rx_numbered_1I rx_numbered_1O r_rx_numbered_1) : Meets Tryz.prog 142 rx_numbered_1I rx_numbered_1O (rx_numbered_1_body n r_rx_numbered_1) :=
  meets_of (Γ := orcG _ [(142, peM rx_numbered_1I rx_numbered_1O (r_rx_numbered_1))] []) (an := rx_numbered_1An n) (co := [.gc [0, 1, 2, 3, 4, 5]]) Tryz.func142 rfl (by kernel_rfl) tab_ok (orcG_ok (all_cons (peM_ok (h_rx_numbered_1)) (all_nil)) (alg_nil)) mixed (plain_ok _ _ rfl) (by kernel_rfl) (by kernel_rfl) (fun x => by kernel_rfl)
theorem rx_numbered_1_meets (n : Nat) : Meets Tryz.prog 142 rx_numbered_1I rx_numbered_1O (rx_numbered_1 n) := rec_meets (by kernel_rfl) (fun n r h => rx_numbered_1_body_meets n r h) n
def rx_numberedAn (n : Nat) : An (Dens rx_numberedR) := .nil
theorem rx_numbered_pure (n : Nat) : Pure Tryz.prog 100 rx_numberedA rx_numberedR (rx_numbered n) :=
  pure_of (Γ := orcG _ [(142, peM rx_numbered_1I rx_numbered_1O (rx_numbered_1 n))] []) (an := rx_numberedAn n) Tryz.func100 rfl (by kernel_rfl) tab_ok (orcG_ok (all_cons (peM_ok (rx_numbered_1_meets n)) (all_nil)) (alg_nil)) mixed (plain_ok _ _ rfl) (fun x => by kernel_rfl)
def rx_lookAn (n : Nat) : An (Dens rx_lookR) := .nil
theorem rx_look_pure (n : Nat) : Pure Tryz.prog 61 rx_lookA rx_lookR (rx_look n) :=
  pure_of (Γ := orcG _ [(99, peOf rx_orderedA rx_orderedR (rx_ordered n)), (100, peOf rx_numberedA rx_numberedR (rx_numbered n))] []) (an := rx_lookAn n) Tryz.func61 rfl (by kernel_rfl) tab_ok (orcG_ok (all_cons (peOf_ok (rx_ordered_pure n)) (all_cons (peOf_ok (rx_numbered_pure n)) (all_nil))) (alg_nil)) mixed (plain_ok _ _ rfl) (fun x => by kernel_rfl)
end Go.Dec
