/- Part of a proof over this seat: a library of my own, and what it says of this seat. No statement is proved here. -/
import Derived.Test.YthhbdkdofhhoeaaGreatDoorPartBJ
namespace Go.Dec
open Go.Proofs
set_option linter.unusedVariables false
def zBv (n:Nat):An (uS.X):=.nil
theorem Bg (n:Nat):gT Tryz.prog 116 Az uS (nU n) :=
 gU (Γ:=bL _ [(50,bG zBe Ql (Ia n)),(122,peM nG kN (eY n))] []) (an:=zBv n) (co:=[.gc [0,1,2]]) Tryz.func116 rfl (by kernel_rfl) dF (aS (all_cons (aM (Ve n)) (all_cons (fI (lW n)) (all_nil))) (aT)) dW (aO _ _ rfl) (by kernel_rfl) (by kernel_rfl) (fun x=>by kernel_rfl)
def Yq (n:Nat):An (sQ.X):=.nil
theorem zM (n:Nat):gT Tryz.prog 117 yV sQ (mM n) :=
 gU (Γ:=bL _ [(17,bG Ur Jb (qY n)),(122,peM nG kN (eY n))] [geK 125 4 4 fC fD (aR n)]) (an:=Yq n) (co:=[.gc [0,1,2]]) Tryz.func117 rfl (by kernel_rfl) dF (aS (all_cons (aM (zBk n)) (all_cons (fI (lW n)) (all_nil))) (dK (kW (dV n)) (aT))) dW (aO _ _ rfl) (by kernel_rfl) (by kernel_rfl) (fun x=>by kernel_rfl)
def Qv (n:Nat):An (oW.X):=.nil
theorem vO (n:Nat):gT Tryz.prog 118 uI oW (jV n) :=
 gU (Γ:=bL _ [(123,bG Xz Ny (tH n)),(122,peM nG kN (eY n)),(73,bG mE mF (strings_IndexByte n)),(87,bG Ht Ap (dO n))] [geK 125 4 4 fC fD (aR n)]) (an:=Qv n) (co:=[.gc [0,1,2]]) Tryz.func118 rfl (by kernel_rfl) dF (aS (all_cons (aM (Mj n)) (all_cons (fI (lW n)) (all_cons (aM (lN n)) (all_cons (aM (Db n)) (all_nil))))) (dK (kW (dV n)) (aT))) dW (aO _ _ rfl) (by kernel_rfl) (by kernel_rfl) (fun x=>by kernel_rfl)
def Vx (n:Nat):An (Gi.X):=(.mk .nil (.mk .nil (.mk (.mk .nil (.mk (.loop ⟨32,[⟨0,false,[.ptr 0 0]⟩,⟨1,false,[.v (.int .i64)]⟩,⟨2,false,[.own 1]⟩,⟨7,false,[.v (.int .i64)]⟩,⟨8,false,[.v (.int .i64)]⟩],[.box 110 [.v .str,.v (.int .i64),.own 2,.v (.int .i64),.v .opq,.v (.int .i64),.v (.int .i64)],.row 3 (.int .i64),.row 57 aC]⟩ [.keep [true,true,true,false,false,false,false,true,true],.gcA 3,.gcA 3] [.keep [true,true,true,false,false,false,false,true,true],.gcA 3,.gcA 3] n .nil) .nil []) []) .nil []) []) [])
theorem Mx (n:Nat):gT Tryz.prog 127 Yn Gi (lJ n) :=
 gU (Γ:=bL _ [(160,peM Lf Ay (gG n))] []) (an:=Vx n) (co:=[.gc [0,1,2]]) Tryz.func127 rfl (by kernel_rfl) dF (aS (all_cons (fI (Bf n)) (all_nil)) (aT)) dW (aO _ _ rfl) (by kernel_rfl) (by kernel_rfl) (fun x=>by kernel_rfl)
theorem oI (n:Nat):Iz Tryz.prog 127 4 oZ pE (eP n) :=
 Kw (j:=4) (fun v x=>(x.1,x.2.1,x.2.2.1,x.2.2.2.1,v,x.2.2.2.2)) (fun v y=>(y.1,y.2.1,y.2.2.1,y.2.2.2.1,v,y.2.2.2.2)) (Mr n) (fun v x=>⟨_,_,rfl,rfl,rfl,rfl⟩) (fun v y=>⟨_,_,rfl,rfl,rfl,rfl⟩) (by decide) (Mx n)
def zBw (n:Nat):An (qL.X):=(.mk .nil (.mk (.co [.opn 0 4] .nil) (.mk (.mk .nil (.mk (.mk (.co [.cls 0 4] .nil) .nil []) .nil []) []) (.mk .nil (.mk .nil (.mk (.co [.zAp 2 3,.cls 0 4] .nil) .nil []) []) []) []) []) [])
theorem sU (n:Nat):gT Tryz.prog 124 uT qL (gH n) :=
 gU (Γ:=bL _ [(126,Ky 4 4)] [geK 125 4 4 fC fD (aR n),geK 127 4 4 oZ pE (eP n)]) (an:=zBw n) (co:=[.gc [0,1,2]]) Tryz.func124 rfl (by kernel_rfl) dF (aS (all_cons (Qf zFc) (all_nil)) (dK (kW (dV n)) (dK (kW (oI n)) (aT)))) dW (aO _ _ rfl) (by kernel_rfl) (by kernel_rfl) (fun x=>by kernel_rfl)
def zBx (n:Nat):An (uU.X):=.nil
theorem Bh (n:Nat):gT Tryz.prog 119 Ba uU (lK n) :=
 gU (Γ:=bL _ [(124,peM uT qL (gH n))] []) (an:=zBx n) (co:=[.gc [0,1,2]]) Tryz.func119 rfl (by kernel_rfl) dF (aS (all_cons (fI (sU n)) (all_nil)) (aT)) dW (aO _ _ rfl) (by kernel_rfl) (by kernel_rfl) (fun x=>by kernel_rfl)
def Yr (n:Nat):An (sS.X):=.nil
theorem zN (n:Nat):gT Tryz.prog 120 yX sS (mO n) :=
 gU (Γ:=bL _ [] [geK 125 4 4 fC fD (aR n)]) (an:=Yr n) (co:=[.gc [0,1,2]]) Tryz.func120 rfl (by kernel_rfl) dF (aS (all_nil) (dK (kW (dV n)) (aT))) dW (aO _ _ rfl) (by kernel_rfl) (by kernel_rfl) (fun x=>by kernel_rfl)
def Si (n:Nat):An (qM.X):=(.mk .nil (.mk .nil (.mk .nil (.mk (.co [.opn 0 4] .nil) (.mk .nil (.mk (.co [.yBo 0 4] .nil) .nil []) []) []) []) []) [])
theorem wS (n:Nat):gT Tryz.prog 121 vL qM (iC n) :=
 gU (Γ:=bL _ [(124,peM uT qL (gH n)),(126,Ky 4 4),(159,peM sP oH (fQ n))] [geK 125 4 4 fC fD (aR n),geK 127 4 4 oZ pE (eP n),geK 160 4 4 nD nE (bS n)]) (an:=Si n) (co:=[.gc [0,1,2]]) Tryz.func121 rfl (by kernel_rfl) dF (aS (all_cons (fI (sU n)) (all_cons (Qf zFc) (all_cons (fI (rR n)) (all_nil)))) (dK (kW (dV n)) (dK (kW (oI n)) (dK (kW (lV n)) (aT))))) dW (aO _ _ rfl) (by kernel_rfl) (by kernel_rfl) (fun x=>by kernel_rfl)
def Vy (n:Nat):An (xC.X):=(.mk .nil (.mk .nil (.mk (.mk (.loop ⟨95,[⟨0,false,[.ptr 0 0]⟩,⟨3,false,[.mp 3]⟩],[.box 110 [.v .str,.v (.int .i64),.own 1,.v (.int .i64),.own 2,.v (.int .i64),.v (.int .i64)],.row 57 aC,.stk 107 3,.fm [(.i .u8 94,114),(.i .u8 36,114),(.i .u8 42,115),(.i .u8 43,115),(.i .u8 63,115),(.i .u8 123,115),(.i .u8 46,116),(.i .u8 91,117),(.i .u8 92,118),(.i .u8 124,119),(.i .u8 40,120),(.i .u8 41,121)]]⟩ [.keep [true,false,false,true],.gcA 3,.gcA 3] [.keep [true,false,false,true],.gcA 3,.gcA 3] n .nil) .nil []) (.mk .nil (.mk .nil (.mk (.co [.opn 0 4] .nil) .nil []) []) []) []) []) [])
theorem Na (n:Nat):gT Tryz.prog 77 Gj xC (sM n) :=
 gU (Γ:=bL _ [(114,peM vK qK (iW n)),(115,peM xB rF (iJ n)),(116,peM Az uS (nU n)),(117,peM yV sQ (mM n)),(118,peM uI oW (jV n)),(119,peM Ba uU (lK n)),(120,peM yX sS (mO n)),(121,peM vL qM (iC n)),(123,bG Xz Ny (tH n)),(122,peM nG kN (eY n)),(124,peM uT qL (gH n)),(126,Ky 4 4)] [geM 114 vK qK (iW n),geM 115 xB rF (iJ n),geM 116 Az uS (nU n),geM 117 yV sQ (mM n),geM 118 uI oW (jV n),geM 119 Ba uU (lK n),geM 120 yX sS (mO n),geM 121 vL qM (iC n),geK 125 4 4 fC fD (aR n),geK 127 4 4 oZ pE (eP n)]) (an:=Vy n) (co:=[.Pw 0 4,.shut 2,.gc [0,1,2]]) Tryz.func77 rfl (by kernel_rfl) dF (aS (all_cons (fI (wR n)) (all_cons (fI (xX n)) (all_cons (fI (Bg n)) (all_cons (fI (zM n)) (all_cons (fI (vO n)) (all_cons (fI (Bh n)) (all_cons (fI (zN n)) (all_cons (fI (wS n)) (all_cons (aM (Mj n)) (all_cons (fI (lW n)) (all_cons (fI (sU n)) (all_cons (Qf zFc) (all_nil))))))))))))) (dK (Eo (wR n)) (dK (Eo (xX n)) (dK (Eo (Bg n)) (dK (Eo (zM n)) (dK (Eo (vO n)) (dK (Eo (Bh n)) (dK (Eo (zN n)) (dK (Eo (wS n)) (dK (kW (dV n)) (dK (kW (oI n)) (aT)))))))))))) dW (aO _ _ rfl) (by kernel_rfl) (by kernel_rfl) (fun x=>by kernel_rfl)
def zRv (n:Nat):An (bH Bc):=(.mk .nil (.mk .nil (.mk .nil (.mk (.mk (.co [.ownB 1 2 35] .nil) .nil []) .nil []) []) []) [])
theorem Dc (n:Nat):Pure Tryz.prog 35 Hu Bc (nO n) :=
 bB (Γ:=bL _ [(77,peM Gj xC (sM n))] []) (an:=zRv n) Tryz.func35 rfl (by kernel_rfl) dF (aS (all_cons (fI (Na n)) (all_nil)) (aT)) dW (aO _ _ rfl) (fun x=>by kernel_rfl)
def zWy (n:Nat):An (bH Vn):=.nil
theorem zKy (n:Nat):Pure Tryz.prog 42 zJq Vn (zBr n) :=
 bB (Γ:=bL _ [(68,bG Hq Hr (vF n)),(30,bG zJo Uw (Qi n)),(81,bG Gb Gc (strings_Contains n))] []) (an:=zWy n) Tryz.func42 rfl (by kernel_rfl) dF (aS (all_cons (aM (Ct n)) (all_cons (aM (zKr n)) (all_cons (aM (Nr n)) (all_nil)))) (aT)) dW (aO _ _ rfl) (fun x=>by kernel_rfl)
end Go.Dec
