/- Part of a proof over this seat: a library of my own, and what it says of this seat. No statement is proved here. -/
import Derived.Test.YthhbdkdofhhoeaaGreatDoorPartBE
namespace Go.Dec
open Go.Proofs
set_option linter.unusedVariables false
def zBw (n:Nat):An (dK Md) := .nil
theorem Qk (n:Nat):Pure Tryz.prog 12 zDw Md (Ee n) :=
 dR (Γ:=dP _ [(34,dF Te Ig (tJ n)),(35,dF Gd Aa (kS n)),(38,dF Og Gf (rT n)),(27,dF Yr Oa (vO n))] []) (an:=zBw n) Tryz.func12 rfl (by kernel_rfl) fJ (bC (all_cons (aV (Zc n)) (all_cons (aV (Bw n)) (all_cons (aV (Mf n)) (all_cons (aV (Ta n)) (all_nil))))) (bD)) iI (aU _ _ rfl) (fun x=>by kernel_rfl)
end Go.Dec
namespace Go.Dec
open Go.Proofs
set_option linter.unusedVariables false
end Go.Dec
