/- Part of a proof over this seat: a library of my own, and what it says of this seat. No statement is proved here. -/
import Derived.Test.YthhbdkdofhhoeaaGreatDoorPartBJ
namespace Go.Dec
open Go.Proofs
set_option linter.unusedVariables false
def ref04_leafAn (n : Nat) : An (Dens ref04_leafR) := .nil
theorem ref04_leaf_pure (n : Nat) : Pure Tryz.prog 95 ref04_leafA ref04_leafR (ref04_leaf n) :=
  pure_of (Γ := orcG _ [] []) (an := ref04_leafAn n) Tryz.func95 rfl (by kernel_rfl) tab_ok (orcG_ok (all_nil) (alg_nil)) mixed (plain_ok _ _ rfl) (fun x => by kernel_rfl)
def ref04_closesAn (n : Nat) : An (Dens ref04_closesR) := .nil
theorem ref04_closes_pure (n : Nat) : Pure Tryz.prog 96 ref04_closesA ref04_closesR (ref04_closes n) :=
  pure_of (Γ := orcG _ [] []) (an := ref04_closesAn n) Tryz.func96 rfl (by kernel_rfl) tab_ok (orcG_ok (all_nil) (alg_nil)) mixed (plain_ok _ _ rfl) (fun x => by kernel_rfl)
def ref04_bytesAn (n : Nat) : An (Dens ref04_bytesR) := .nil
theorem ref04_bytes_pure (n : Nat) : Pure Tryz.prog 136 ref04_bytesA ref04_bytesR (ref04_bytes n) :=
  pure_of (Γ := orcG _ [(19, peOf ref02_WordsA ref02_WordsR (ref02_Words n)), (95, peOf ref04_leafA ref04_leafR (ref04_leaf n))] []) (an := ref04_bytesAn n) Tryz.func136 rfl (by kernel_rfl) tab_ok (orcG_ok (all_cons (peOf_ok (ref02_Words_pure n)) (all_cons (peOf_ok (ref04_leaf_pure n)) (all_nil))) (alg_nil)) mixed (plain_ok _ _ rfl) (fun x => by kernel_rfl)
def ref04_wrongAn (n : Nat) : An (Dens ref04_wrongR) := .nil
theorem ref04_wrong_pure (n : Nat) : Pure Tryz.prog 137 ref04_wrongA ref04_wrongR (ref04_wrong n) :=
  pure_of (Γ := orcG _ [] []) (an := ref04_wrongAn n) Tryz.func137 rfl (by kernel_rfl) tab_ok (orcG_ok (all_nil) (alg_nil)) mixed (plain_ok _ _ rfl) (fun x => by kernel_rfl)
def ref04_atomAn (n : Nat) : An (Dens ref04_atomR) := .nil
theorem ref04_atom_pure (n : Nat) (r_ref04_row : (List UInt8 × Int × List (Int × List (Int) × Int × Int × Int × Int × Int × Unit) × Int × List (Bool) × Int × Int × Unit) → Option ((List (Int × List (Int) × Int × Int × Int × Int × Int × Unit) × Int × List (Bool) × Int × Int × Unit) × Int)) (h_ref04_row : Pure Tryz.prog 60 ref04_rowA ref04_rowR r_ref04_row) : Pure Tryz.prog 97 ref04_atomA ref04_atomR (ref04_atom n r_ref04_row) :=
  pure_of (Γ := orcG _ [(54, peOf ref02_RangeA ref02_RangeR (ref02_Range n)), (136, peOf ref04_bytesA ref04_bytesR (ref04_bytes n)), (18, peOf ref04_BracketA ref04_BracketR (ref04_Bracket n)), (137, peOf ref04_wrongA ref04_wrongR (ref04_wrong n)), (29, peOf ref02_OfA ref02_OfR (ref02_Of n)), (60, peOf ref04_rowA ref04_rowR (r_ref04_row)), (95, peOf ref04_leafA ref04_leafR (ref04_leaf n)), (138, peOf ref04_inA ref04_inR (ref04_in n))] []) (an := ref04_atomAn n) Tryz.func97 rfl (by kernel_rfl) tab_ok (orcG_ok (all_cons (peOf_ok (ref02_Range_pure n)) (all_cons (peOf_ok (ref04_bytes_pure n)) (all_cons (peOf_ok (ref04_Bracket_pure n)) (all_cons (peOf_ok (ref04_wrong_pure n)) (all_cons (peOf_ok (ref02_Of_pure n)) (all_cons (peOf_ok (h_ref04_row)) (all_cons (peOf_ok (ref04_leaf_pure n)) (all_cons (peOf_ok (ref04_in_pure n)) (all_nil))))))))) (alg_nil)) mixed (plain_ok _ _ rfl) (fun x => by kernel_rfl)
def ref04_DigitsAn (n : Nat) : An (Dens ref04_DigitsR) := (.mk .nil (.mk .nil (.mk .nil (.mk (.mk (.loop ⟨46, [⟨0, false, [.v .str]⟩, ⟨1, false, [.v (.int .i64)]⟩, ⟨6, false, [.v (.int .i64)]⟩, ⟨7, false, [.v (.int .i64)]⟩], []⟩ [.keep [true, true, false, false, false, false, true, true, false, false, false, false, false, false, false, false, false, false, false, false, false, false, false, false, false, false, false, false, false, false], .gcA 0, .gcA 0] [.keep [true, true, false, false, false, false, true, true, false, false, false, false, false, false, false, false, false, false, false, false, false, false, false, false, false, false, false, false, false, false], .gcA 0, .gcA 0] n .nil) .nil []) .nil []) []) []) [])
theorem ref04_Digits_pure (n : Nat) : Pure Tryz.prog 169 ref04_DigitsA ref04_DigitsR (ref04_Digits n) :=
  pure_of (Γ := orcG _ [] []) (an := ref04_DigitsAn n) Tryz.func169 rfl (by kernel_rfl) tab_ok (orcG_ok (all_nil) (alg_nil)) mixed (plain_ok _ _ rfl) (fun x => by kernel_rfl)
end Go.Dec
