/- Part of a proof over this seat: a library of my own, and what it says of this seat. No statement is proved here. -/
import Derived.Test.YthhbdkdofhhoeaaGreatDoorPartBE
namespace Go.Dec
open Go.Proofs
set_option linter.unusedVariables false
def Zk (n:Nat):An (cO Jq) := .nil
theorem Nh(n:Nat):Pure Tryz.prog 13 zBj Jq (Cb n):=
 dH (Γ:=dD _ [(34,bZ Qj Fb (kY n)),(35,bZ Dq yQ (jY n)),(40,bZ Ll Dp (qK n)),(27,bZ Vu Lj (sD n))] []) (an:=Zk n) Tryz.func13 rfl (by kernel_rfl) fD (aZ (all_cons (aU (Wn n)) (all_cons (aU (zX n)) (all_cons (aU (Jm n)) (all_cons (aU (Qe n)) (all_nil))))) (bA)) gX (aT _ _ rfl) (λx=>by kernel_rfl)
end Go.Dec
namespace Go.Dec
open Go.Proofs
set_option linter.unusedVariables false
end Go.Dec
