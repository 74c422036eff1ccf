/- Part of a proof over this seat: a library of my own, and what it says of this seat. No statement is proved here. -/
import Derived.Test.YthhbdkdofhhoeaaGreatDoorPartAZ
namespace Go.Dec
open Go.Proofs
set_option linter.unusedVariables false
def Xm (n:Nat):An (cK tL):=.nil
theorem Af (n:Nat):Pure Tryz.prog 66 yU tL (gY n) :=
 dD (Γ:=dB _ [] []) (an:=Xm n) Tryz.func66 rfl (by kernel_rfl) eB (aZ (all_nil) (bA)) mixed (aS _ _ rfl) (fun x=>by kernel_rfl)
def Xn (n:Nat):An (cK yV):=.nil
theorem Ny (n:Nat):Pure Tryz.prog 170 Hw yV (bQ n) :=
 dD (Γ:=dB _ [] []) (an:=Xn n) Tryz.func170 rfl (by kernel_rfl) eB (aZ (all_nil) (bA)) mixed (aS _ _ rfl) (fun x=>by kernel_rfl)
def zCo (n:Nat):An (cK Dn):=.nil
theorem Uk (n:Nat):Pure Tryz.prog 140 Nq Dn (oK n) :=
 dD (Γ:=dB _ [(170,bW Hw yV (bQ n))] []) (an:=zCo n) Tryz.func140 rfl (by kernel_rfl) eB (aZ (all_cons (aT (Ny n)) (all_nil)) (bA)) mixed (aS _ _ rfl) (fun x=>by kernel_rfl)
def Nz (n:Nat):An (cK uI):=(.mk .nil (.mk (.mk .nil (.mk (.loop ⟨19,[⟨0,false,[.v (.slice (.int .i64))]⟩,⟨1,false,[.v (.int .i64)]⟩,⟨7,false,[.v (.int .i64)]⟩,⟨8,false,[.v (.int .i64)]⟩],[]⟩ [.keep [true,true,false,false,false,false,false,true,true],.gcA 0,.gcA 0] [.keep [true,true,false,false,false,false,false,true,true],.gcA 0,.gcA 0] n .nil) .nil []) []) .nil []) [])
theorem Hy (n:Nat):Pure Tryz.prog 189 Aw uI (vO n) :=
 dD (Γ:=dB _ [] []) (an:=Nz n) Tryz.func189 rfl (by kernel_rfl) eB (aZ (all_nil) (bA)) mixed (aS _ _ rfl) (fun x=>by kernel_rfl)
def Hz (n:Nat):An (cK qB):=.nil
theorem Dr (n:Nat):Pure Tryz.prog 171 xJ qB (mY n) :=
 dD (Γ:=dB _ [(189,bW Aw uI (vO n))] []) (an:=Hz n) Tryz.func171 rfl (by kernel_rfl) eB (aZ (all_cons (aT (Hy n)) (all_nil)) (bA)) mixed (aS _ _ rfl) (fun x=>by kernel_rfl)
def zPj (n:Nat):An (cK Ue):=.nil
theorem zGi (n:Nat):Pure Tryz.prog 141 zGe Ue (jN n) :=
 dD (Γ:=dB _ [(171,bW xJ qB (mY n))] []) (an:=zPj n) Tryz.func141 rfl (by kernel_rfl) eB (aZ (all_cons (aT (Dr n)) (all_nil)) (bA)) mixed (aS _ _ rfl) (fun x=>by kernel_rfl)
def zGj (n:Nat):An (cK Gb):=(.mk .nil (.mk .nil (.mk (.mk .nil (.mk (.loop ⟨80,[⟨0,false,[.v (.slice aC)]⟩,⟨3,false,[.own 0]⟩,⟨8,false,[.v (.slice aC)]⟩,⟨9,false,[.v (.int .i64)]⟩,⟨10,false,[.v (.int .i64)]⟩],[.row 3 (.int .i64)]⟩ [.keep [true,false,false,true,false,false,false,false,true,true,true,false,false,false,false,false,false,false,false,false,false,false,false,false,false,false,false,false,false,false,false,false,false,false,false,false,false,false,false,false,false,false,false,false,false,false,false,false,false,false,false,false,false,false,false,false,false,false,false,false,false,false,false,false,false,false,false,false,false],.gcA 0,.Me 3 105,.gcA 0] [.keep [true,false,false,true,false,false,false,false,true,true,true,false,false,false,false,false,false,false,false,false,false,false,false,false,false,false,false,false,false,false,false,false,false,false,false,false,false,false,false,false,false,false,false,false,false,false,false,false,false,false,false,false,false,false,false,false,false,false,false,false,false,false,false,false,false,false,false,false,false],.gcA 0,.gcA 0] n .nil) .nil []) []) .nil []) []) [])
theorem Xo (n:Nat):Pure Tryz.prog 99 Rv Gb (sV n) :=
 dD (Γ:=dB _ [(66,bW yU tL (gY n)),(140,bW Nq Dn (oK n)),(141,bW zGe Ue (jN n))] []) (an:=zGj n) Tryz.func99 rfl (by kernel_rfl) eB (aZ (all_cons (aT (Af n)) (all_cons (aT (Uk n)) (all_cons (aT (zGi n)) (all_nil)))) (bA)) mixed (aS _ _ rfl) (fun x=>by kernel_rfl)
def Xp (n:Nat):An (mG.X):=.nil
theorem Dt (n:Nat) (dI:(Int × List (Int × List (Int) × Int × Int × Int × Int × Int × Unit) × Int × Bool × List (Bool) × Bool × Unit)->Option (List (Int × List (Int) × Int × Int × Int × Int × Int × Unit) × Int × Bool × List (Bool) × Bool × Unit)) (Xq:fT Tryz.prog 142 pF mG dI):fT Tryz.prog 142 pF mG (dF n dI) :=
 fU (Γ:=dB _ [(142,peM pF mG (dI))] []) (an:=Xp n) (co:=[.gc [0,1,2,3,4,5]]) Tryz.func142 rfl (by kernel_rfl) eB (aZ (all_cons (eD (Xq)) (all_nil)) (bA)) mixed (aS _ _ rfl) (by kernel_rfl) (by kernel_rfl) (fun x=>by kernel_rfl)
theorem Lb (n:Nat):fT Tryz.prog 142 pF mG (lI n):=zBk (by kernel_rfl) (fun n r h=>Dt n r h) n
def zCp (n:Nat):An (cK Dp):=.nil
theorem Ul (n:Nat):Pure Tryz.prog 100 Nr Dp (zN n) :=
 dD (Γ:=dB _ [(142,peM pF mG (lI n))] []) (an:=zCp n) Tryz.func100 rfl (by kernel_rfl) eB (aZ (all_cons (eD (Lb n)) (all_nil)) (bA)) mixed (aS _ _ rfl) (fun x=>by kernel_rfl)
def zPk (n:Nat):An (cK Dq):=.nil
theorem Du (n:Nat):Pure Tryz.prog 61 Js Dq (oZ n) :=
 dD (Γ:=dB _ [(99,bW Rv Gb (sV n)),(100,bW Nr Dp (zN n))] []) (an:=zPk n) Tryz.func61 rfl (by kernel_rfl) eB (aZ (all_cons (aT (Xo n)) (all_cons (aT (Ul n)) (all_nil))) (bA)) mixed (aS _ _ rfl) (fun x=>by kernel_rfl)
end Go.Dec
