/- Part of a proof over this seat: a library of my own, and what it says of this seat. No statement is proved here. -/
import Derived.Test.YthhbdkdofhhoeaaGreatDoorPartBK
namespace Go.Dec
open Go.Proofs
set_option linter.unusedVariables false
def zRw (n:Nat):An (bH Qr):=.nil
theorem zHn (n:Nat):Pure Tryz.prog 79 zFd Qr (Vk n) :=
 bB (Γ:=bL _ [(63,bG yE yF (strconv_Itoa n))] []) (an:=zRw n) Tryz.func79 rfl (by kernel_rfl) dF (aS (all_cons (aM (wW n)) (all_nil)) (aT)) dW (aO _ _ rfl) (fun x=>by kernel_rfl)
def zRx (n:Nat):An (bH Qs):=(.mk .nil (.mk .nil (.mk .nil (.mk (.mk .nil (.mk (.loop ⟨134,[⟨0,false,[.v (.slice aC)]⟩,⟨4,false,[.own 0]⟩,⟨17,false,[.v (.slice aC)]⟩,⟨18,false,[.v (.int .i64)]⟩,⟨19,false,[.v (.int .i64)]⟩],[.row 9 .str]⟩ [.keep [true,false,false,false,true,false,false,false,false,false,false,false,false,false,false,false,false,true,true,true],.gcA 0,.gcA 0] [.keep [true,false,false,false,true,false,false,false,false,false,false,false,false,false,false,false,false,true,true,true],.gcA 0,.gcA 0] n .nil) .nil []) []) .nil []) []) []) [])
theorem zHo (n:Nat):Pure Tryz.prog 38 zFe Qs (Vl n) :=
 bB (Γ:=bL _ [(24,bG Ya Od (tJ n)),(42,bG zJq Vn (zBr n)),(79,bG zFd Qr (Vk n)),(63,bG yE yF (strconv_Itoa n)),(35,bG Hu Bc (nO n)),(27,bG zPa zBi (Xv n))] []) (an:=zRx n) Tryz.func38 rfl (by kernel_rfl) dF (aS (all_cons (aM (Ml n)) (all_cons (aM (zKy n)) (all_cons (aM (zHn n)) (all_cons (aM (wW n)) (all_cons (aM (Dc n)) (all_cons (aM (zPe n)) (all_nil))))))) (aT)) dW (aO _ _ rfl) (fun x=>by kernel_rfl)
def zKz (n:Nat):An (bH Jo):=.nil
theorem zBy (n:Nat):Pure Tryz.prog 34 Vo Jo (tX n) :=
 bB (Γ:=bL _ [(35,bG Hu Bc (nO n)),(38,bG zFe Qs (Vl n)),(40,bG zEn Qo (Ul n))] []) (an:=zKz n) Tryz.func34 rfl (by kernel_rfl) dF (aS (all_cons (aM (Dc n)) (all_cons (aM (zHo n)) (all_cons (aM (zHh n)) (all_nil)))) (aT)) dW (aO _ _ rfl) (fun x=>by kernel_rfl)
def zLa (n:Nat):An (bH Bd):=.nil
theorem Jv (n:Nat):Pure Tryz.prog 161 Jp Bd (bE n) :=
 bB (Γ:=bL _ [] []) (an:=zLa n) Tryz.func161 rfl (by kernel_rfl) dF (aS (all_nil) (aT)) dW (aO _ _ rfl) (fun x=>by kernel_rfl)
def zHp (n:Nat):An (bH Fz):=.nil
theorem Yt (n:Nat):Pure Tryz.prog 162 Rt Fz (jG n) :=
 bB (Γ:=bL _ [] []) (an:=zHp n) Tryz.func162 rfl (by kernel_rfl) dF (aS (all_nil) (aT)) dW (aO _ _ rfl) (fun x=>by kernel_rfl)
def zWz (n:Nat):An (bH Lg):=(.mk .nil (.mk (.mk .nil (.mk (.loop ⟨17,[⟨0,false,[.v .str]⟩,⟨1,false,[.v (.int .u8)]⟩,⟨5,false,[.v (.int .i64)]⟩],[]⟩ [.keep [true,true,false,false,false,true],.gcA 0,.gcA 0] [.keep [true,true,false,false,false,true],.gcA 0,.gcA 0] n .nil) .nil []) []) .nil []) [])
theorem Ru (n:Nat):Pure Tryz.prog 182 Vp Lg (yT n) :=
 bB (Γ:=bL _ [] []) (an:=zWz n) Tryz.func182 rfl (by kernel_rfl) dF (aS (all_nil) (aT)) dW (aO _ _ rfl) (fun x=>by kernel_rfl)
def zLb (n:Nat):An (bH Jq):=.nil
theorem zBz (n:Nat):Pure Tryz.prog 180 Vq Jq (fB n) :=
 bB (Γ:=bL _ [(182,bG Vp Lg (yT n))] []) (an:=zLb n) Tryz.func180 rfl (by kernel_rfl) dF (aS (all_cons (aM (Ru n)) (all_nil)) (aT)) dW (aO _ _ rfl) (fun x=>by kernel_rfl)
def zPm (n:Nat):An (bH xW):=.nil
theorem Bj (n:Nat):Pure Tryz.prog 164 Dx xW (eH n) :=
 bB (Γ:=bL _ [] []) (an:=zPm n) Tryz.func164 rfl (by kernel_rfl) dF (aS (all_nil) (aT)) dW (aO _ _ rfl) (fun x=>by kernel_rfl)
def zLc (n:Nat):An (bH Jr):=.nil
theorem zCa (n:Nat):Pure Tryz.prog 181 Vr Jr (lU n) :=
 bB (Γ:=bL _ [(19,bG Vb Jg (xR n)),(164,bG Dx xW (eH n))] []) (an:=zLc n) Tryz.func181 rfl (by kernel_rfl) dF (aS (all_cons (aM (zBp n)) (all_cons (aM (Bj n)) (all_nil))) (aT)) dW (aO _ _ rfl) (fun x=>by kernel_rfl)
def zLd (n:Nat):An (bH Js):=.nil
theorem zCb (n:Nat):Pure Tryz.prog 183 Vs Js (jH n) :=
 bB (Γ:=bL _ [(139,bG Vd Jh (xS n))] []) (an:=zLd n) Tryz.func183 rfl (by kernel_rfl) dF (aS (all_cons (aM (zBq n)) (all_nil)) (aT)) dW (aO _ _ rfl) (fun x=>by kernel_rfl)
def zPn (n:Nat):An (bH Mt):=.nil
theorem zFi (n:Nat) (bJ:(List UInt8 × Int × (List (Int × List (Int) × Int × Int × Int × Int × Int × Unit) × Int × Int × Int × Unit) × Int)->Option ((List (Int × List (Int) × Int × Int × Int × Int × Int × Unit) × Int × Int × Int × Unit) × Int)) (vP:Pure Tryz.prog 78 rA nP bJ):Pure Tryz.prog 163 Zp Mt (sN n bJ) :=
 bB (Γ:=bL _ [(180,bG Vq Jq (fB n)),(161,bG Jp Bd (bE n)),(164,bG Dx xW (eH n)),(54,bG Ar vI (dH n)),(181,bG Vr Jr (lU n)),(183,bG Vs Js (jH n)),(18,bG Oe Da (tK n)),(78,bG rA nP (bJ)),(29,bG Uz Le (oF n)),(182,bG Vp Lg (yT n))] []) (an:=zPn n) Tryz.func163 rfl (by kernel_rfl) dF (aS (all_cons (aM (zBz n)) (all_cons (aM (Jv n)) (all_cons (aM (Bj n)) (all_cons (aM (yS n)) (all_cons (aM (zCa n)) (all_cons (aM (zCb n)) (all_cons (aM (Vj n)) (all_cons (aM (vP)) (all_cons (aM (Rs n)) (all_cons (aM (Ru n)) (all_nil))))))))))) (aT)) dW (aO _ _ rfl) (fun x=>by kernel_rfl)
def zPo (n:Nat):An (bH Dy):=(.mk .nil (.mk (.mk .nil (.mk (.loop ⟨28,[⟨1,false,[.v (.slice (.int .i64))]⟩,⟨2,false,[.v (.int .i64)]⟩,⟨3,false,[.ptr 0 0]⟩,⟨6,false,[.ptr 1 0]⟩,⟨7,false,[.v (.int .i64)]⟩],[.box 112 [.v (.slice aC),.v (.int .i64),.v (.int .i64),.v (.int .i64)],.box 112 [.own 2,.v (.int .i64),.v (.int .i64),.v (.int .i64)],.row 51 aC]⟩ [.keep [false,true,true,true,false,false,true,true],.gcA 0,.ownB 1 0 38,.gcA 0] [.keep [false,true,true,true,false,false,true,true],.gcA 0,.gcA 0] n .nil) .nil []) []) .nil []) [])
theorem Lh (n:Nat):Pure Tryz.prog 129 Mv Dy (jN n) :=
 bB (Γ:=bL _ [(164,bG Dx xW (eH n))] []) (an:=zPo n) Tryz.func129 rfl (by kernel_rfl) dF (aS (all_cons (aM (Bj n)) (all_nil)) (aT)) dW (aO _ _ rfl) (fun x=>by kernel_rfl)
end Go.Dec
