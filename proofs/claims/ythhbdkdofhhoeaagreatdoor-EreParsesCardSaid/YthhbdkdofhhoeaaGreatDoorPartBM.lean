/- Part of a proof over this seat: a library of my own, and what it says of this seat. No statement is proved here. -/
import Derived.Test.YthhbdkdofhhoeaaGreatDoorPartBL
namespace Go.Dec
open Go.Proofs
set_option linter.unusedVariables false
def zRy (n:Nat):An (bH Qt):=(.mk .nil (.mk .nil (.mk .nil (.mk .nil (.mk (.mk (.loop ⟨65,[⟨0,false,[.v .str]⟩,⟨1,false,[.v (.int .i64)]⟩,⟨3,false,[.v (.int .i64)]⟩,⟨6,false,[.ptr 0 0]⟩,⟨8,false,[.ptr 1 0]⟩,⟨10,false,[.own 2]⟩],[.box 112 [.v (.slice aC),.v (.int .i64),.v (.int .i64),.v (.int .i64)],.box 112 [.own 3,.v (.int .i64),.v (.int .i64),.v (.int .i64)],.row 3 (.int .i64),.row 51 aC]⟩ [.keep [true,true,false,true,false,false,true,false,true,false,true],.gcA 0,.Fh 10 105,.ownB 1 0 38,.gcA 0] [.keep [true,true,false,true,false,false,true,false,true,false,true],.gcA 0,.gcA 0] n .nil) .nil []) (.mk (.co [.zNe 10] .nil) .nil []) []) []) []) []) [])
theorem zHq (n:Nat) (bJ:(List UInt8 × Int × (List (Int × List (Int) × Int × Int × Int × Int × Int × Unit) × Int × Int × Int × Unit) × Int)->Option ((List (Int × List (Int) × Int × Int × Int × Int × Int × Unit) × Int × Int × Int × Unit) × Int)) (vP:Pure Tryz.prog 78 rA nP bJ):Pure Tryz.prog 128 zFf Qt (vJ n bJ) :=
 bB (Γ:=bL _ [(161,bG Jp Bd (bE n)),(162,bG Rt Fz (jG n)),(163,bG Zp Mt (sN n bJ)),(129,bG Mv Dy (jN n))] []) (an:=zRy n) Tryz.func128 rfl (by kernel_rfl) dF (aS (all_cons (aM (Jv n)) (all_cons (aM (Yt n)) (all_cons (aM (zFi n bJ vP)) (all_cons (aM (Lh n)) (all_nil))))) (aT)) dW (aO _ _ rfl) (fun x=>by kernel_rfl)
def zPp (n:Nat):An (bH nP):=(.mk .nil (.mk .nil (.mk (.loop ⟨48,[⟨0,false,[.v .str]⟩,⟨1,false,[.v (.int .i64)]⟩,⟨3,false,[.v (.int .i64)]⟩,⟨6,false,[.ptr 0 0]⟩,⟨8,false,[.ptr 1 0]⟩,⟨10,false,[.own 2]⟩],[.box 112 [.v (.slice aC),.v (.int .i64),.v (.int .i64),.v (.int .i64)],.box 112 [.own 3,.v (.int .i64),.v (.int .i64),.v (.int .i64)],.row 3 (.int .i64),.row 51 aC]⟩ [.keep [true,true,false,true,false,false,true,false,true,false,true],.gcA 0,.Fh 10 105,.ownB 1 0 38,.gcA 0] [.keep [true,true,false,true,false,false,true,false,true,false,true],.gcA 0,.gcA 0] n (.mk (.mk .nil (.mk .nil (.mk .nil (.mk (.mk .nil (.mk (.mk (.co [.zNe 10,.zNe 31] .nil) .nil []) .nil []) []) .nil []) []) []) []) .nil [])) .nil []) []) [])
theorem Qw (n:Nat) (bJ:(List UInt8 × Int × (List (Int × List (Int) × Int × Int × Int × Int × Int × Unit) × Int × Int × Int × Unit) × Int)->Option ((List (Int × List (Int) × Int × Int × Int × Int × Int × Unit) × Int × Int × Int × Unit) × Int)) (vP:Pure Tryz.prog 78 rA nP bJ):Pure Tryz.prog 78 rA nP (uR n bJ) :=
 bB (Γ:=bL _ [(128,bG zFf Qt (vJ n bJ)),(129,bG Mv Dy (jN n))] []) (an:=zPp n) Tryz.func78 rfl (by kernel_rfl) dF (aS (all_cons (aM (zHq n bJ vP)) (all_cons (aM (Lh n)) (all_nil))) (aT)) dW (aO _ _ rfl) (fun x=>by kernel_rfl)
theorem zFj (n:Nat):Pure Tryz.prog 78 rA nP (qJ n):=zNy (by kernel_rfl) (fun n r h=>Qw n r h) n
def zLe (n:Nat):An (bH Jt):=.nil
theorem zCc (n:Nat):Pure Tryz.prog 36 Vt Jt (xV n) :=
 bB (Γ:=bL _ [(78,bG rA nP (qJ n))] []) (an:=zLe n) Tryz.func36 rfl (by kernel_rfl) dF (aS (all_cons (aM (zFj n)) (all_nil)) (aT)) dW (aO _ _ rfl) (fun x=>by kernel_rfl)
def zRz (n:Nat):An (bH Qu):=(.mk .nil (.mk .nil (.mk (.mk .nil (.mk (.loop ⟨36,[⟨0,false,[.v (.slice aC)]⟩,⟨3,false,[.own 0]⟩,⟨4,false,[.v (.int .i64)]⟩],[.row 51 aC]⟩ [.keep [true,false,false,true,true],.gcA 0,.Fh 3 38,.gcA 0] [.keep [true,false,false,true,true],.gcA 0,.gcA 0] n .nil) .nil []) []) .nil []) []) [])
theorem zHr (n:Nat):Pure Tryz.prog 37 zFg Qu (Eu n) :=
 bB (Γ:=bL _ [] []) (an:=zRz n) Tryz.func37 rfl (by kernel_rfl) dF (aS (all_nil) (aT)) dW (aO _ _ rfl) (fun x=>by kernel_rfl)
def Yu (n:Nat):An (bH Ju):=.nil
theorem Pf (n:Nat):Pure Tryz.prog 10 zBt Ju (Aw n) :=
 bB (Γ:=bL _ [(34,bG Vo Jo (tX n)),(35,bG Hu Bc (nO n)),(36,bG Vt Jt (xV n)),(37,bG zFg Qu (Eu n)),(22,bG Zm Mi (Ao n)),(24,bG Ya Od (tJ n))] []) (an:=Yu n) Tryz.func10 rfl (by kernel_rfl) dF (aS (all_cons (aM (zBy n)) (all_cons (aM (Dc n)) (all_cons (aM (zCc n)) (all_cons (aM (zHr n)) (all_cons (aM (zEz n)) (all_cons (aM (Ml n)) (all_nil))))))) (aT)) dW (aO _ _ rfl) (fun x=>by kernel_rfl)
end Go.Dec
