/- Part of a proof over this seat: a library of my own, and what it says of this seat. No statement is proved here. -/
import Derived.Test.YthhbdkdofhhoeaaGreatDoorPartBL
namespace Go.Dec
open Go.Proofs
set_option linter.unusedVariables false
def Ra (n:Nat):An (cK Dy):=.nil
theorem Io (n:Nat):Pure Tryz.prog 14 Uo Dy (xM n) :=
 dD (Γ:=dB _ [(34,bW Og Dx (qU n)),(35,bW Ch xR (lZ n)),(41,bW zGh Uh (Hq n))] []) (an:=Ra n) Tryz.func14 rfl (by kernel_rfl) eZ (aZ (all_cons (aT (Uu n)) (all_cons (aT (yY n)) (all_cons (aT (zGm n)) (all_nil)))) (bA)) gP (aS _ _ rfl) (fun x=>by kernel_rfl)
end Go.Dec
