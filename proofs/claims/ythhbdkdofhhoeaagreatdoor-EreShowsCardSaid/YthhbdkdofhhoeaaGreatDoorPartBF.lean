/- Part of a proof over this seat: a library of my own, and what it says of this seat. No statement is proved here. -/
import Derived.Test.YthhbdkdofhhoeaaGreatDoorPartBE
namespace Go.Dec
open Go.Proofs
set_option linter.unusedVariables false
def zLb (n:Nat):An (bW Ju) := .nil
theorem zCc(n:Nat):Pure Tryz.prog 43 Wu Ju (zB n):=
 bT (Γ:=cB _ [(75,bQ Ru Gr (Bp n))] []) (an:=zLb n) Tryz.func43 rfl (by kernel_rfl) eZ (aV (all_cons (aO (Yq n)) (all_nil)) (aW)) gG (aN _ _ rfl) (λx=>by kernel_rfl)
end Go.Dec
namespace Go.Dec
open Go.Proofs
set_option linter.unusedVariables false
def Yy (n:Nat):An (bW Io) := .nil
theorem Oz(n:Nat):Pure Tryz.prog 15 zCa Io (Aq n):=
 bT (Γ:=cB _ [(42,bQ Sj Im (xB n)),(32,bQ Wn Jm (yT n)),(43,bQ Wu Ju (zB n)),(34,bQ Sk Gw (Br n)),(35,bQ Ep zG (mM n)),(33,bQ zFo Rv (Gm n))] []) (an:=Yy n) Tryz.func15 rfl (by kernel_rfl) eZ (aV (all_cons (aO (Ox n)) (all_cons (aO (zBt n)) (all_cons (aO (zCc n)) (all_cons (aO (Yx n)) (all_cons (aO (Ar n)) (all_cons (aO (zGr n)) (all_nil))))))) (aW)) gG (aN _ _ rfl) (λx=>by kernel_rfl)
end Go.Dec
