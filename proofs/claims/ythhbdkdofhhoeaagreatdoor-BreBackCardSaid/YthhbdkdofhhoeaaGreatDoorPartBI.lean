/- Part of a proof over this seat: a library of my own, and what it says of this seat. No statement is proved here. -/
import Derived.Test.YthhbdkdofhhoeaaGreatDoorPartBH
namespace Go.Dec
open Go.Proofs
set_option linter.unusedVariables false
def Sn (n : Nat) : An (bX Eo) := .nil
theorem Ir (n : Nat) : Pure Tryz.prog 6 Uy Eo (yS n) :=
 dF (Γ := dI _ [(16, bV Kw Bn (pY n)), (20, bV zV vR (iW n)), (25, bV Gs zW (oP n)), (27, bV Pv Gr (rQ n))] []) (an := Sn n) Tryz.func6 rfl (by kernel_rfl) bE (aU (all_cons (aN (Qd n)) (all_cons (aN (wZ n)) (all_cons (aN (Et n)) (all_cons (aN (Lg n)) (all_nil))))) (aV)) mixed (aO _ _ rfl) (fun x => by kernel_rfl)
end Go.Dec
