/- Part of a proof over this seat: a library of my own, and what it says of this seat. No statement is proved here. -/
import Derived.Test.YthhbdkdofhhoeaaGreatDoorPartBK
namespace Go.Dec
open Go.Proofs
set_option linter.unusedVariables false
def zIv (n:Nat):An (cK Jv):=.nil
theorem Zu (n:Nat):Pure Tryz.prog 79 Xu Jv (Oa n) :=
 dD (Γ:=dB _ [(63,bW vF vG (strconv_Itoa n))] []) (an:=zIv n) Tryz.func79 rfl (by kernel_rfl) eZ (aZ (all_cons (aT (uE n)) (all_nil)) (bA)) gP (aS _ _ rfl) (fun x=>by kernel_rfl)
def zIw (n:Nat):An (cK Jw):=(.mk .nil (.mk .nil (.mk .nil (.mk (.mk .nil (.mk (.loop ⟨134,[⟨0,false,[.v (.slice aC)]⟩,⟨4,false,[.own 0]⟩,⟨17,false,[.v (.slice aC)]⟩,⟨18,false,[.v (.int .i64)]⟩,⟨19,false,[.v (.int .i64)]⟩],[.row 9 .str]⟩ [.keep [true,false,false,false,true,false,false,false,false,false,false,false,false,false,false,false,false,true,true,true],.gcA 0,.gcA 0] [.keep [true,false,false,false,true,false,false,false,false,false,false,false,false,false,false,false,false,true,true,true],.gcA 0,.gcA 0] n .nil) .nil []) []) .nil []) []) []) [])
theorem Zv (n:Nat):Pure Tryz.prog 38 Xv Jw (Oc n) :=
 dD (Γ:=dB _ [(24,bW Zq Qm (Nj n)),(42,bW zBq Oe (Um n)),(79,bW Xu Jv (Oa n)),(63,bW vF vG (strconv_Itoa n)),(35,bW Ch xR (lZ n)),(27,bW zGg Ug (Qj n))] []) (an:=zIw n) Tryz.func38 rfl (by kernel_rfl) eZ (aZ (all_cons (aT (Rx n)) (all_cons (aT (zCu n)) (all_cons (aT (Zu n)) (all_cons (aT (uE n)) (all_cons (aT (yY n)) (all_cons (aT (zGl n)) (all_nil))))))) (bA)) gP (aS _ _ rfl) (fun x=>by kernel_rfl)
def zCv (n:Nat):An (cK Dx):=.nil
theorem Uu (n:Nat):Pure Tryz.prog 34 Og Dx (qU n) :=
 dD (Γ:=dB _ [(35,bW Ch xR (lZ n)),(38,bW Xv Jw (Oc n)),(40,bW Xi Jt (Nn n))] []) (an:=zCv n) Tryz.func34 rfl (by kernel_rfl) eZ (aZ (all_cons (aT (yY n)) (all_cons (aT (Zv n)) (all_cons (aT (Zt n)) (all_nil)))) (bA)) gP (aS _ _ rfl) (fun x=>by kernel_rfl)
end Go.Dec
