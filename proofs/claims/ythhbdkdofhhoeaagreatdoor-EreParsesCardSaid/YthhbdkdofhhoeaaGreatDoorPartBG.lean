/- Part of a proof over this seat: a library of my own, and what it says of this seat. No statement is proved here. -/
import Derived.Test.YthhbdkdofhhoeaaGreatDoorPartBF
namespace Go.Dec
open Go.Proofs
set_option linter.unusedVariables false
def zKw (n:Nat):An (bH Jh):=.nil
theorem zBq (n:Nat):Pure Tryz.prog 139 Vd Jh (xS n) :=
 bB (Γ:=bL _ [(169,bG Rp Fv (rO n))] []) (an:=zKw n) Tryz.func139 rfl (by kernel_rfl) dI (aS (all_cons (aM (Yl n)) (all_nil)) (aT)) mixed (aO _ _ rfl) (fun x=>by kernel_rfl)
def zPg (n:Nat):An (bH Mi):=(.mk .nil (.mk .nil (.mk (.mk .nil (.mk (.loop ⟨26,[⟨0,false,[.v (.slice aC)]⟩,⟨1,false,[.v (.slice aC)]⟩,⟨5,false,[.v (.int .i64)]⟩],[]⟩ [.keep [true,true,false,false,false,true],.gcA 0,.gcA 0] [.keep [true,true,false,false,false,true],.gcA 0,.gcA 0] n .nil) .nil []) []) .nil []) []) [])
theorem zEz (n:Nat):Pure Tryz.prog 22 Zm Mi (Ao n) :=
 bB (Γ:=bL _ [] []) (an:=zPg n) Tryz.func22 rfl (by kernel_rfl) dI (aS (all_nil) (aT)) mixed (aO _ _ rfl) (fun x=>by kernel_rfl)
end Go.Dec
