/- Part of a proof over this seat: a library of my own, and what it says of this seat. No statement is proved here. -/
import Derived.Test.YthhbdkdofhhoeaaGreatDoorPartBJ
namespace Go.Dec
open Go.Proofs
set_option linter.unusedVariables false
def Ur (n:Nat):An (rH.X):=.nil
theorem xU (n:Nat):fT Tryz.prog 116 xP rH (mH n) :=
 fU (Γ:=dB _ [(50,bW Ud Jq (Cn n)),(122,peM lS jO (dQ n))] []) (an:=Ur n) (co:=[.gc [0,1,2]]) Tryz.func116 rfl (by kernel_rfl) eZ (aZ (all_cons (aT (Nv n)) (all_cons (eD (kN n)) (all_nil))) (bA)) gP (aS _ _ rfl) (by kernel_rfl) (by kernel_rfl) (fun x=>by kernel_rfl)
def Qy (n:Nat):An (qF.X):=.nil
theorem wD (n:Nat):fT Tryz.prog 117 vR qF (kX n) :=
 fU (Γ:=dB _ [(17,bW Np Dm (oJ n)),(122,peM lS jO (dQ n))] [geK 125 4 4 dV dW (aN n)]) (an:=Qy n) (co:=[.gc [0,1,2]]) Tryz.func117 rfl (by kernel_rfl) eZ (aZ (all_cons (aT (Uj n)) (all_cons (eD (kN n)) (all_nil))) (bZ (jV (dG n)) (bA))) gP (aS _ _ rfl) (by kernel_rfl) (by kernel_rfl) (fun x=>by kernel_rfl)
def Jy (n:Nat):An (mZ.X):=.nil
theorem sI (n:Nat):fT Tryz.prog 118 rA mZ (iY n) :=
 fU (Γ:=dB _ [(123,bW Ql Hr (qL n)),(122,peM lS jO (dQ n)),(73,bW kT kU (strings_IndexByte n)),(87,bW Cg xI (cO n))] [geK 125 4 4 dV dW (aN n)]) (an:=Jy n) (co:=[.gc [0,1,2]]) Tryz.func118 rfl (by kernel_rfl) eZ (aZ (all_cons (aT (Gc n)) (all_cons (eD (kN n)) (all_cons (aT (kI n)) (all_cons (aT (yX n)) (all_nil))))) (bZ (jV (dG n)) (bA))) gP (aS _ _ rfl) (by kernel_rfl) (by kernel_rfl) (fun x=>by kernel_rfl)
def Ol (n:Nat):An (Az.X):=(.mk .nil (.mk .nil (.mk (.mk .nil (.mk (.loop ⟨32,[⟨0,false,[.ptr 0 0]⟩,⟨1,false,[.v (.int .i64)]⟩,⟨2,false,[.own 1]⟩,⟨7,false,[.v (.int .i64)]⟩,⟨8,false,[.v (.int .i64)]⟩],[.box 110 [.v .str,.v (.int .i64),.own 2,.v (.int .i64),.v .opq,.v (.int .i64),.v (.int .i64)],.row 3 (.int .i64),.row 57 aC]⟩ [.keep [true,true,true,false,false,false,false,true,true],.gcA 3,.gcA 3] [.keep [true,true,true,false,false,false,false,true,true],.gcA 3,.gcA 3] n .nil) .nil []) []) .nil []) []) [])
theorem Gj (n:Nat):fT Tryz.prog 127 Qv Az (kF n) :=
 fU (Γ:=dB _ [(160,peM Ew xO (fF n))] []) (an:=Ol n) (co:=[.gc [0,1,2]]) Tryz.func127 rfl (by kernel_rfl) eZ (aZ (all_cons (eD (xS n)) (all_nil)) (bA)) gP (aS _ _ rfl) (by kernel_rfl) (by kernel_rfl) (fun x=>by kernel_rfl)
theorem mU (n:Nat):Dk Tryz.prog 127 4 nA nC (dN n) :=
 Es (j:=4) (fun v x=>(x.1,x.2.1,x.2.2.1,x.2.2.2.1,v,x.2.2.2.2)) (fun v y=>(y.1,y.2.1,y.2.2.1,y.2.2.2.1,v,y.2.2.2.2)) (Gg n) (fun v x=>⟨_,_,rfl,rfl,rfl,rfl⟩) (fun v y=>⟨_,_,rfl,rfl,rfl,rfl⟩) (by decide) (Gj n)
def Us (n:Nat):An (nX.X):=(.mk .nil (.mk (.co [.opn 0 4] .nil) (.mk (.mk .nil (.mk (.mk (.co [.cls 0 4] .nil) .nil []) .nil []) []) (.mk .nil (.mk .nil (.mk (.co [.Tm 2 3,.cls 0 4] .nil) .nil []) []) []) []) []) [])
theorem qH (n:Nat):fT Tryz.prog 124 rJ nX (fG n) :=
 fU (Γ:=dB _ [(126,Et 4 4)] [geK 125 4 4 dV dW (aN n),geK 127 4 4 nA nC (dN n)]) (an:=Us n) (co:=[.gc [0,1,2]]) Tryz.func124 rfl (by kernel_rfl) eZ (aZ (all_cons (Jm Xt) (all_nil)) (bZ (jV (dG n)) (bZ (jV (mU n)) (bA)))) gP (aS _ _ rfl) (by kernel_rfl) (by kernel_rfl) (fun x=>by kernel_rfl)
def Ut (n:Nat):An (rM.X):=.nil
theorem xV (n:Nat):fT Tryz.prog 119 xQ rM (kG n) :=
 fU (Γ:=dB _ [(124,peM rJ nX (fG n))] []) (an:=Ut n) (co:=[.gc [0,1,2]]) Tryz.func119 rfl (by kernel_rfl) eZ (aZ (all_cons (eD (qH n)) (all_nil)) (bA)) gP (aS _ _ rfl) (by kernel_rfl) (by kernel_rfl) (fun x=>by kernel_rfl)
def Qz (n:Nat):An (qG.X):=.nil
theorem wE (n:Nat):fT Tryz.prog 120 vS qG (kY n) :=
 fU (Γ:=dB _ [] [geK 125 4 4 dV dW (aN n)]) (an:=Qz n) (co:=[.gc [0,1,2]]) Tryz.func120 rfl (by kernel_rfl) eZ (aZ (all_nil) (bZ (jV (dG n)) (bA))) gP (aS _ _ rfl) (by kernel_rfl) (by kernel_rfl) (fun x=>by kernel_rfl)
def Ld (n:Nat):An (nY.X):=(.mk .nil (.mk .nil (.mk .nil (.mk (.co [.opn 0 4] .nil) (.mk .nil (.mk (.co [.zRn 0 4] .nil) .nil []) []) []) []) []) [])
theorem tX (n:Nat):fT Tryz.prog 121 sG nY (gK n) :=
 fU (Γ:=dB _ [(124,peM rJ nX (fG n)),(126,Et 4 4),(159,peM qE mR (eX n))] [geK 125 4 4 dV dW (aN n),geK 127 4 4 nA nC (dN n),geK 160 4 4 lN lQ (bI n)]) (an:=Ld n) (co:=[.gc [0,1,2]]) Tryz.func121 rfl (by kernel_rfl) eZ (aZ (all_cons (eD (qH n)) (all_cons (Jm Xt) (all_cons (eD (pG n)) (all_nil)))) (bZ (jV (dG n)) (bZ (jV (mU n)) (bZ (jV (kM n)) (bA))))) gP (aS _ _ rfl) (by kernel_rfl) (by kernel_rfl) (fun x=>by kernel_rfl)
def Om (n:Nat):An (uK.X):=(.mk .nil (.mk .nil (.mk (.mk (.loop ⟨95,[⟨0,false,[.ptr 0 0]⟩,⟨3,false,[.mp 3]⟩],[.box 110 [.v .str,.v (.int .i64),.own 1,.v (.int .i64),.own 2,.v (.int .i64),.v (.int .i64)],.row 57 aC,.stk 107 3,.fm [(.i .u8 94,114),(.i .u8 36,114),(.i .u8 42,115),(.i .u8 43,115),(.i .u8 63,115),(.i .u8 123,115),(.i .u8 46,116),(.i .u8 91,117),(.i .u8 92,118),(.i .u8 124,119),(.i .u8 40,120),(.i .u8 41,121)]]⟩ [.keep [true,false,false,true],.gcA 3,.gcA 3] [.keep [true,false,false,true],.gcA 3,.gcA 3] n .nil) .nil []) (.mk .nil (.mk .nil (.mk (.co [.opn 0 4] .nil) .nil []) []) []) []) []) [])
theorem Gl (n:Nat):fT Tryz.prog 77 Ba uK (qD n) :=
 fU (Γ:=dB _ [(114,peM sF nW (iH n)),(115,peM uJ oO (gV n)),(116,peM xP rH (mH n)),(117,peM vR qF (kX n)),(118,peM rA mZ (iY n)),(119,peM xQ rM (kG n)),(120,peM vS qG (kY n)),(121,peM sG nY (gK n)),(123,bW Ql Hr (qL n)),(122,peM lS jO (dQ n)),(124,peM rJ nX (fG n)),(126,Et 4 4)] [geM 114 sF nW (iH n),geM 115 uJ oO (gV n),geM 116 xP rH (mH n),geM 117 vR qF (kX n),geM 118 rA mZ (iY n),geM 119 xQ rM (kG n),geM 120 vS qG (kY n),geM 121 sG nY (gK n),geK 125 4 4 dV dW (aN n),geK 127 4 4 nA nC (dN n)]) (an:=Om n) (co:=[.Jd 0 4,.shut 2,.gc [0,1,2]]) Tryz.func77 rfl (by kernel_rfl) eZ (aZ (all_cons (eD (tV n)) (all_cons (eD (uW n)) (all_cons (eD (xU n)) (all_cons (eD (wD n)) (all_cons (eD (sI n)) (all_cons (eD (xV n)) (all_cons (eD (wE n)) (all_cons (eD (tX n)) (all_cons (aT (Gc n)) (all_cons (eD (kN n)) (all_cons (eD (qH n)) (all_cons (Jm Xt) (all_nil))))))))))))) (bZ (Ad (tV n)) (bZ (Ad (uW n)) (bZ (Ad (xU n)) (bZ (Ad (wD n)) (bZ (Ad (sI n)) (bZ (Ad (xV n)) (bZ (Ad (wE n)) (bZ (Ad (tX n)) (bZ (jV (dG n)) (bZ (jV (mU n)) (bA)))))))))))) gP (aS _ _ rfl) (by kernel_rfl) (by kernel_rfl) (fun x=>by kernel_rfl)
def zIu (n:Nat):An (cK xR):=(.mk .nil (.mk .nil (.mk .nil (.mk (.mk (.co [.ownB 1 2 35] .nil) .nil []) .nil []) []) []) [])
theorem yY (n:Nat):Pure Tryz.prog 35 Ch xR (lZ n) :=
 dD (Γ:=dB _ [(77,peM Ba uK (qD n))] []) (an:=zIu n) Tryz.func35 rfl (by kernel_rfl) eZ (aZ (all_cons (eD (Gl n)) (all_nil)) (bA)) gP (aS _ _ rfl) (fun x=>by kernel_rfl)
def zNf (n:Nat):An (cK Oe):=.nil
theorem zCu (n:Nat):Pure Tryz.prog 42 zBq Oe (Um n) :=
 dD (Γ:=dB _ [(68,bW Cc Ce (rY n)),(30,bW zBo Nu (Jp n)),(81,bW Ar Au (strings_Contains n))] []) (an:=zNf n) Tryz.func42 rfl (by kernel_rfl) eZ (aZ (all_cons (aT (yP n)) (all_cons (aT (zCs n)) (all_cons (aT (He n)) (all_nil)))) (bA)) gP (aS _ _ rfl) (fun x=>by kernel_rfl)
end Go.Dec
