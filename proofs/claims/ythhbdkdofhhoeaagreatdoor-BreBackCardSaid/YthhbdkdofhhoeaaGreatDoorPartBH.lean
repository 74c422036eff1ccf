/- Part of a proof over this seat: a library of my own, and what it says of this seat. No statement is proved here. -/
import Derived.Test.YthhbdkdofhhoeaaGreatDoorPartBG
namespace Go.Dec
open Go.Proofs
set_option linter.unusedVariables false
def Ye (n : Nat) : An (bX Bn) := .nil
theorem Qd (n : Nat) : Pure Tryz.prog 16 Kw Bn (pY n) :=
 dF (Γ := dI _ [(20, bV zV vR (iW n)), (25, bV Gs zW (oP n)), (40, bV Sb Gt (Kl n)), (41, bV zAz Pw (Uv n))] []) (an := Ye n) Tryz.func16 rfl (by kernel_rfl) bE (aU (all_cons (aN (wZ n)) (all_cons (aN (Et n)) (all_cons (aN (Vb n)) (all_cons (aN (zBd n)) (all_nil))))) (aV)) mixed (aO _ _ rfl) (fun x => by kernel_rfl)
end Go.Dec
