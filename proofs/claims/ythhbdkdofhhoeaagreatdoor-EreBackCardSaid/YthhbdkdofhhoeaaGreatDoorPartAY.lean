/- Part of a proof over this seat: a library of my own, and what it says of this seat. No statement is proved here. -/
import Derived.Test.YthhbdkdofhhoeaaGreatDoorPartAX
namespace Go.Dec
open Go.Proofs
set_option linter.unusedVariables false
end Go.Dec
namespace Go.Dec
open Go.Proofs
set_option linter.unusedVariables false
def zBo (n:Nat):An (dK vV) := .nil
theorem Dt (n:Nat):Pure Tryz.prog 66 Bt vV (iR n) :=
 dR (Γ:=dP _ [] []) (an:=zBo n) Tryz.func66 rfl (by kernel_rfl) fC (bC (all_nil) (bD)) mixed (aU _ _ rfl) (fun x=>by kernel_rfl)
def zBp (n:Nat):An (dK Bu) := .nil
theorem Sw (n:Nat):Pure Tryz.prog 170 Lu Bu (bW n) :=
 dR (Γ:=dP _ [] []) (an:=zBp n) Tryz.func170 rfl (by kernel_rfl) fC (bC (all_nil) (bD)) mixed (aU _ _ rfl) (fun x=>by kernel_rfl)
def zHb (n:Nat):An (dK Hw) := .nil
theorem Yv (n:Nat):Pure Tryz.prog 140 Sk Hw (qR n) :=
 dR (Γ:=dP _ [(170,dF Lu Bu (bW n))] []) (an:=zHb n) Tryz.func140 rfl (by kernel_rfl) fC (bC (all_cons (aV (Sw n)) (all_nil)) (bD)) mixed (aU _ _ rfl) (fun x=>by kernel_rfl)
def Sy (n:Nat):An (dK wL):=(.mk .nil (.mk (.mk .nil (.mk (.loop ⟨19,[⟨0,false,[.v (.slice (.int .i64))]⟩,⟨1,false,[.v (.int .i64)]⟩,⟨7,false,[.v (.int .i64)]⟩,⟨8,false,[.v (.int .i64)]⟩],[]⟩ [.keep (kbm 9 387),.gcA 0,.gcA 0] [.keep (kbm 9 387),.gcA 0,.gcA 0] n .nil) .nil []) []) .nil []) [])
theorem Lv (n:Nat):Pure Tryz.prog 189 El wL (xW n) :=
 dR (Γ:=dP _ [] []) (an:=Sy n) Tryz.func189 rfl (by kernel_rfl) fC (bC (all_nil) (bD)) mixed (aU _ _ rfl) (fun x=>by kernel_rfl)
def Lx (n:Nat):An (dK sH) := .nil
theorem Hz (n:Nat):Pure Tryz.prog 171 zU sH (oV n) :=
 dR (Γ:=dP _ [(189,dF El wL (xW n))] []) (an:=Lx n) Tryz.func171 rfl (by kernel_rfl) fC (bC (all_cons (aV (Lv n)) (all_nil)) (bD)) mixed (aU _ _ rfl) (fun x=>by kernel_rfl)
def zVm (n:Nat):An (dK Yo) := .nil
theorem zKv (n:Nat):Pure Tryz.prog 141 zKt Yo (kN n) :=
 dR (Γ:=dP _ [(171,dF zU sH (oV n))] []) (an:=zVm n) Tryz.func141 rfl (by kernel_rfl) fC (bC (all_cons (aV (Hz n)) (all_nil)) (bD)) mixed (aU _ _ rfl) (fun x=>by kernel_rfl)
def zKw (n:Nat):An (dK Kh):=(.mk .nil (.mk .nil (.mk (.mk .nil (.mk (.loop ⟨80,[⟨0,false,[.v (.slice aG)]⟩,⟨3,false,[.own 0]⟩,⟨8,false,[.v (.slice aG)]⟩,⟨9,false,[.v (.int .i64)]⟩,⟨10,false,[.v (.int .i64)]⟩],[.row 3 (.int .i64)]⟩ [.keep (kbm 69 1801),.gcA 0,.Rc 3 105,.gcA 0] [.keep (kbm 69 1801),.gcA 0,.gcA 0] n .nil) .nil []) []) .nil []) []) [])
theorem zBq (n:Nat):Pure Tryz.prog 99 Wz Kh (vL n) :=
 dR (Γ:=dP _ [(66,dF Bt vV (iR n)),(140,dF Sk Hw (qR n)),(141,dF zKt Yo (kN n))] []) (an:=zKw n) Tryz.func99 rfl (by kernel_rfl) fC (bC (all_cons (aV (Dt n)) (all_cons (aV (Yv n)) (all_cons (aV (zKv n)) (all_nil)))) (bD)) mixed (aU _ _ rfl) (fun x=>by kernel_rfl)
def zBr (n:Nat):An (oC.X) := .nil
theorem Ia (n:Nat) (dV:(Int × List (Int × List (Int) × Int × Int × Int × Int × Int × Unit) × Int × Bool × List (Bool) × Bool × Unit)->Option (List (Int × List (Int) × Int × Int × Int × Int × Int × Unit) × Int × Bool × List (Bool) × Bool × Unit)) (zBs:gM Tryz.prog 142 rM oC dV):gM Tryz.prog 142 rM oC (dQ n dV) :=
 gP (Γ:=dP _ [(142,peM rM oC (dV))] []) (an:=zBr n) (co:=[.gc [0,1,2,3,4,5]]) Tryz.func142 rfl (by kernel_rfl) fC (bC (all_cons (fB (zBs)) (all_nil)) (bD)) mixed (aU _ _ rfl) (by kernel_rfl) (by kernel_rfl) (fun x=>by kernel_rfl)
theorem Qh (n:Nat):gM Tryz.prog 142 rM oC (nA n):=zFs (by kernel_rfl) (fun n r h=>Ia n r h) n
def zHc (n:Nat):An (dK Hy) := .nil
theorem Yw (n:Nat):Pure Tryz.prog 100 Sl Hy (Cu n) :=
 dR (Γ:=dP _ [(142,peM rM oC (nA n))] []) (an:=zHc n) Tryz.func100 rfl (by kernel_rfl) fC (bC (all_cons (fB (Qh n)) (all_nil)) (bD)) mixed (aU _ _ rfl) (fun x=>by kernel_rfl)
def zVn (n:Nat):An (dK Nz) := .nil
theorem Sz (n:Nat):Pure Tryz.prog 61 Yp Nz (yN n) :=
 dR (Γ:=dP _ [(99,dF Wz Kh (vL n)),(100,dF Sl Hy (Cu n))] []) (an:=zVn n) Tryz.func61 rfl (by kernel_rfl) fC (bC (all_cons (aV (zBq n)) (all_cons (aV (Yw n)) (all_nil))) (bD)) mixed (aU _ _ rfl) (fun x=>by kernel_rfl)
end Go.Dec
namespace Go.Dec
open Go.Proofs
set_option linter.unusedVariables false
def zZi (n:Nat):An (dK Vj) := .nil
theorem Xb (n:Nat):Pure Tryz.prog 24 zDt Vj (zP n) :=
 dR (Γ:=dP _ [(61,dF Yp Nz (yN n))] []) (an:=zZi n) Tryz.func24 rfl (by kernel_rfl) fC (bC (all_cons (aV (Sz n)) (all_nil)) (bD)) mixed (aU _ _ rfl) (fun x=>by kernel_rfl)
def zSr (n:Nat):An (dK Sm) := .nil
theorem zHd (n:Nat):Pure Tryz.prog 71 zFu Sm (Hq n) :=
 dR (Γ:=dP _ [(73,dF mM mO (strings_IndexByte n))] []) (an:=zSr n) Tryz.func71 rfl (by kernel_rfl) fC (bC (all_cons (aV (lV n)) (all_nil)) (bD)) mixed (aU _ _ rfl) (fun x=>by kernel_rfl)
def zVo (n:Nat):An (dK Yq) := .nil
theorem zKx (n:Nat):Pure Tryz.prog 72 zKu Yq (tH n) :=
 dR (Γ:=dP _ [] []) (an:=zVo n) Tryz.func72 rfl (by kernel_rfl) fC (bC (all_nil) (bD)) mixed (aU _ _ rfl) (fun x=>by kernel_rfl)
def zSs (n:Nat):An (dK Sn):=(.mk .nil (.mk (.mk .nil (.mk (.loop ⟨47,[⟨0,false,[.v .str]⟩,⟨2,false,[.own 0]⟩,⟨6,false,[.v (.int .i64)]⟩,⟨7,false,[.v (.int .i64)]⟩],[.row 9 .str]⟩ [.keep (kbm 25 197),.gcA 0,.Rc 2 90,.gcA 0] [.keep (kbm 25 197),.gcA 0,.gcA 0] n .nil) .nil []) []) .nil []) [])
theorem zHe (n:Nat):Pure Tryz.prog 74 zFv Sn (Hr n) :=
 dR (Γ:=dP _ [] []) (an:=zSs n) Tryz.func74 rfl (by kernel_rfl) fC (bC (all_nil) (bD)) mixed (aU _ _ rfl) (fun x=>by kernel_rfl)
def zSt (n:Nat):An (dK Sq):=(.mk .nil (.mk .nil (.mk .nil (.mk .nil (.mk .nil (.mk (.join ⟨97,[⟨1,false,[.ptr 0 0]⟩,⟨3,false,[.v .str]⟩,⟨4,false,[.v .str]⟩],[.box 25 [.v (.arr 4 (.int .u64))]]⟩ [.keep (kbm 84 26),.gcA 0] .nil) (.mk .nil (.mk (.mk .nil (.mk (.loop ⟨97,[⟨1,false,[.ptr 0 0]⟩,⟨4,false,[.v .str]⟩,⟨5,false,[.own 1]⟩,⟨33,false,[.v (.slice (.int .u8))]⟩,⟨34,false,[.v (.int .i64)]⟩,⟨35,false,[.v (.int .i64)]⟩],[.box 25 [.v (.arr 4 (.int .u64))],.row 5 (.int .u8)]⟩ [.keep (kbm 84 60129542194),.gcA 0,.Rc 5 96,.gcA 0] [.keep (kbm 84 60129542194),.gcA 0,.gcA 0] n .nil) .nil []) []) (.mk (.mk .nil (.mk (.loop ⟨97,[⟨1,false,[.ptr 0 0]⟩,⟨4,false,[.v .str]⟩,⟨49,false,[.v (.slice .str)]⟩,⟨50,false,[.v (.int .i64)]⟩,⟨51,false,[.v (.int .i64)]⟩],[.box 25 [.v (.arr 4 (.int .u64))]]⟩ [.keep (kbm 84 3940649673949202),.gcA 0,.gcA 0] [.keep (kbm 84 3940649673949202),.gcA 0,.gcA 0] n .nil) .nil []) []) (.mk (.mk .nil (.mk (.loop ⟨97,[⟨1,false,[.ptr 0 0]⟩,⟨4,false,[.v .str]⟩,⟨71,false,[.own 1]⟩,⟨72,false,[.v (.int .i64)]⟩,⟨73,false,[.v (.int .i64)]⟩],[.box 25 [.v (.arr 4 (.int .u64))],.row 9 .str]⟩ [.keep (kbm 84 16528282690043758247954),.gcA 0,.gcA 0] [.keep (kbm 84 16528282690043758247954),.gcA 0,.gcA 0] n .nil) .nil []) []) .nil []) []) []) []) []) []) []) []) []) [])
theorem zHf (n:Nat):Pure Tryz.prog 30 zFw Sq (Bn n) :=
 dR (Γ:=dP _ [(68,dF Ga Gb (pX n)),(71,dF zFu Sm (Hq n)),(72,dF zKu Yq (tH n)),(73,dF mM mO (strings_IndexByte n)),(74,dF zFv Sn (Hr n))] []) (an:=zSt n) Tryz.func30 rfl (by kernel_rfl) fC (bC (all_cons (aV (Bl n)) (all_cons (aV (zHd n)) (all_cons (aV (zKx n)) (all_cons (aV (lV n)) (all_cons (aV (zHe n)) (all_nil)))))) (bD)) mixed (aU _ _ rfl) (fun x=>by kernel_rfl)
def zVp (n:Nat):An (dK Oa):=(.mk .nil (.mk .nil (.mk .nil (.mk (.mk .nil (.mk (.loop ⟨105,[⟨3,false,[.own 0]⟩,⟨14,false,[.v (.slice aG)]⟩,⟨15,false,[.v (.int .i64)]⟩,⟨16,false,[.v (.int .i64)]⟩],[.row 9 .str]⟩ [.keep (kbm 17 114696),.gcA 0,.Rc 3 90,.gcA 0] [.keep (kbm 17 114696),.gcA 0,.gcA 0] n (.mk .nil (.mk .nil (.mk (.mk (.mk .nil (.mk .nil (.mk .nil (.mk .nil (.mk (.mk .nil (.mk (.mk .nil (.mk .nil (.mk .nil (.mk (.mk .nil (.mk (.mk .nil (.mk (.loop ⟨105,[⟨3,false,[.own 0]⟩,⟨6,false,[.v (.int .i64)]⟩,⟨8,false,[.v .str]⟩,⟨14,false,[.v (.slice aG)]⟩,⟨15,false,[.v (.int .i64)]⟩,⟨16,false,[.v (.int .i64)]⟩,⟨38,false,[.v (.slice (.int .u8))]⟩,⟨39,false,[.v (.int .i64)]⟩,⟨40,false,[.v (.int .i64)]⟩],[.row 9 .str]⟩ [.keep (kbm 41 1924145463624),.gcA 0,.gcA 0] [.keep (kbm 41 1924145463624),.gcA 0,.gcA 0] n .nil) .nil []) []) .nil []) []) .nil []) []) []) []) .nil []) []) .nil []) []) []) []) []) .nil []) .nil []) []) [])) .nil []) []) .nil []) []) []) [])
theorem Ta (n:Nat):Pure Tryz.prog 27 Yr Oa (vO n) :=
 dR (Γ:=dP _ [(24,dF zDt Vj (zP n)),(66,dF Bt vV (iR n)),(67,dF Pz Ed (strings_Join n)),(68,dF Ga Gb (pX n)),(69,dF Ao Ap (jT n)),(63,dF xK xL (strconv_Itoa n))] []) (an:=zVp n) Tryz.func27 rfl (by kernel_rfl) fC (bC (all_cons (aV (Xb n)) (all_cons (aV (Dt n)) (all_cons (aV (Vs n)) (all_cons (aV (Bl n)) (all_cons (aV (Iu n)) (all_cons (aV (wH n)) (all_nil))))))) (bD)) mixed (aU _ _ rfl) (fun x=>by kernel_rfl)
def zOa (n:Nat):An (dK Oc) := .nil
theorem zDv (n:Nat):Pure Tryz.prog 40 zBk Oc (Si n) :=
 dR (Γ:=dP _ [(61,dF Yp Nz (yN n))] []) (an:=zOa n) Tryz.func40 rfl (by kernel_rfl) fC (bC (all_cons (aV (Sz n)) (all_nil)) (bD)) mixed (aU _ _ rfl) (fun x=>by kernel_rfl)
end Go.Dec
