/- Part of a proof over this seat: a library of my own, and what it says of this seat. No statement is proved here. -/
import Derived.Test.YthhbdkdofhhoeaaGreatDoorPartBH
namespace Go.Dec
open Go.Proofs
set_option linter.unusedVariables false
def FB (n : Nat) : An (bP yH) := .nil
theorem Am (n : Nat) : Pure Tryz.prog 6 Gw yH (uG n) :=
 bZ (Γ := cK _ [(16, bM BG wH (mW n)), (20, bM vC qY (iq n)), (25, bM zF vD (mg n)), (27, bM D6 zD (oq n))] []) (an := FB n) Tryz.func6 rfl (by kernel_rfl) aZ (aP (all_cons (aI (Ee n)) (all_cons (aI (sH n)) (all_cons (aI (yL n)) (all_cons (aI (BQ n)) (all_nil))))) (aQ)) mixed (aJ _ _ rfl) (fun x => by kernel_rfl)
end Go.Dec
