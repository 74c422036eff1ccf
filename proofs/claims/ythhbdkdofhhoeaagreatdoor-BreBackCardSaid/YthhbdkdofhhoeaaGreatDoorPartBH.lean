/- Part of a proof over this seat: a library of my own, and what it says of this seat. No statement is proved here. -/
import Derived.Test.YthhbdkdofhhoeaaGreatDoorPartBG
namespace Go.Dec
open Go.Proofs
set_option linter.unusedVariables false
def IX (n : Nat) : An (bP wH) := .nil
theorem Ee (n : Nat) : Pure Tryz.prog 16 BG wH (mW n) :=
 bZ (Γ := cK _ [(20, bM vC qY (iq n)), (25, bM zF vD (mg n)), (40, bM Fb zG (Bt n)), (41, bM Kk D7 (Gt n))] []) (an := IX n) Tryz.func16 rfl (by kernel_rfl) aZ (aP (all_cons (aI (sH n)) (all_cons (aI (yL n)) (all_cons (aI (Gz n)) (all_cons (aI (Ko n)) (all_nil))))) (aQ)) mixed (aJ _ _ rfl) (fun x => by kernel_rfl)
end Go.Dec
