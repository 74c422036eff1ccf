/- Part of a proof over this seat: a library of my own, and what it says of this seat. No statement is proved here. -/
import Derived.Test.YthhbdkdofhhoeaaGreatDoorPartAZ
namespace Go.Dec
open Go.Proofs
set_option linter.unusedVariables false
def zEs (n:Nat):An (bH wL):=.nil
theorem Es (n:Nat):Pure Tryz.prog 66 Cy wL (iM n) :=
 bB (Γ:=bL _ [] []) (an:=zEs n) Tryz.func66 rfl (by kernel_rfl) dI (aS (all_nil) (aT)) mixed (aO _ _ rfl) (fun x=>by kernel_rfl)
def zEt (n:Nat):An (bH Cz):=.nil
theorem Vg (n:Nat):Pure Tryz.prog 170 Oc Cz (cB n) :=
 bB (Γ:=bL _ [] []) (an:=zEt n) Tryz.func170 rfl (by kernel_rfl) dI (aS (all_nil) (aT)) mixed (aO _ _ rfl) (fun x=>by kernel_rfl)
def zKn (n:Nat):An (bH Jc):=.nil
theorem zBl (n:Nat):Pure Tryz.prog 140 Us Jc (qZ n) :=
 bB (Γ:=bL _ [(170,bG Oc Cz (cB n))] []) (an:=zKn n) Tryz.func140 rfl (by kernel_rfl) dI (aS (all_cons (aM (Vg n)) (all_nil)) (aT)) mixed (aO _ _ rfl) (fun x=>by kernel_rfl)
def Vh (n:Nat):An (bH xA):=(.mk .nil (.mk (.mk .nil (.mk (.loop ⟨19,[⟨0,false,[.v (.slice (.int .i64))]⟩,⟨1,false,[.v (.int .i64)]⟩,⟨7,false,[.v (.int .i64)]⟩,⟨8,false,[.v (.int .i64)]⟩],[]⟩ [.keep [true,true,false,false,false,false,false,true,true],.gcA 0,.gcA 0] [.keep [true,true,false,false,false,false,false,true,true],.gcA 0,.gcA 0] n .nil) .nil []) []) .nil []) [])
theorem Og (n:Nat):Pure Tryz.prog 189 Gf xA (yO n) :=
 bB (Γ:=bL _ [] []) (an:=Vh n) Tryz.func189 rfl (by kernel_rfl) dI (aS (all_nil) (aT)) mixed (aO _ _ rfl) (fun x=>by kernel_rfl)
def Oh (n:Nat):An (bH sJ):=.nil
theorem Ji (n:Nat):Pure Tryz.prog 171 Aq sJ (oO n) :=
 bB (Γ:=bL _ [(189,bG Gf xA (yO n))] []) (an:=Oh n) Tryz.func171 rfl (by kernel_rfl) dI (aS (all_cons (aM (Og n)) (all_nil)) (aT)) mixed (aO _ _ rfl) (fun x=>by kernel_rfl)
def zZh (n:Nat):An (bH zBf):=.nil
theorem zPb (n:Nat):Pure Tryz.prog 141 zOy zBf (kM n) :=
 bB (Γ:=bL _ [(171,bG Aq sJ (oO n))] []) (an:=zZh n) Tryz.func141 rfl (by kernel_rfl) dI (aS (all_cons (aM (Ji n)) (all_nil)) (aT)) mixed (aO _ _ rfl) (fun x=>by kernel_rfl)
def zPc (n:Nat):An (bH Mg):=(.mk .nil (.mk .nil (.mk (.mk .nil (.mk (.loop ⟨80,[⟨0,false,[.v (.slice aC)]⟩,⟨3,false,[.own 0]⟩,⟨8,false,[.v (.slice aC)]⟩,⟨9,false,[.v (.int .i64)]⟩,⟨10,false,[.v (.int .i64)]⟩],[.row 3 (.int .i64)]⟩ [.keep [true,false,false,true,false,false,false,false,true,true,true,false,false,false,false,false,false,false,false,false,false,false,false,false,false,false,false,false,false,false,false,false,false,false,false,false,false,false,false,false,false,false,false,false,false,false,false,false,false,false,false,false,false,false,false,false,false,false,false,false,false,false,false,false,false,false,false,false,false],.gcA 0,.Fh 3 105,.gcA 0] [.keep [true,false,false,true,false,false,false,false,true,true,true,false,false,false,false,false,false,false,false,false,false,false,false,false,false,false,false,false,false,false,false,false,false,false,false,false,false,false,false,false,false,false,false,false,false,false,false,false,false,false,false,false,false,false,false,false,false,false,false,false,false,false,false,false,false,false,false,false,false],.gcA 0,.gcA 0] n .nil) .nil []) []) .nil []) []) [])
theorem zEu (n:Nat):Pure Tryz.prog 99 Zk Mg (wC n) :=
 bB (Γ:=bL _ [(66,bG Cy wL (iM n)),(140,bG Us Jc (qZ n)),(141,bG zOy zBf (kM n))] []) (an:=zPc n) Tryz.func99 rfl (by kernel_rfl) dI (aS (all_cons (aM (Es n)) (all_cons (aM (zBl n)) (all_cons (aM (zPb n)) (all_nil)))) (aT)) mixed (aO _ _ rfl) (fun x=>by kernel_rfl)
def zEv (n:Nat):An (nT.X):=.nil
theorem Jj (n:Nat) (dY:(Int × List (Int × List (Int) × Int × Int × Int × Int × Int × Unit) × Int × Bool × List (Bool) × Bool × Unit)->Option (List (Int × List (Int) × Int × Int × Int × Int × Int × Unit) × Int × Bool × List (Bool) × Bool × Unit)) (zEw:gT Tryz.prog 142 rQ nT dY):gT Tryz.prog 142 rQ nT (dR n dY) :=
 gU (Γ:=bL _ [(142,peM rQ nT (dY))] []) (an:=zEv n) (co:=[.gc [0,1,2,3,4,5]]) Tryz.func142 rfl (by kernel_rfl) dI (aS (all_cons (fI (zEw)) (all_nil)) (aT)) mixed (aO _ _ rfl) (by kernel_rfl) (by kernel_rfl) (fun x=>by kernel_rfl)
theorem Sd (n:Nat):gT Tryz.prog 142 rQ nT (mX n):=zJk (by kernel_rfl) (fun n r h=>Jj n r h) n
def zKo (n:Nat):An (bH Jd):=.nil
theorem zBm (n:Nat):Pure Tryz.prog 100 Ut Jd (Du n) :=
 bB (Γ:=bL _ [(142,peM rQ nT (mX n))] []) (an:=zKo n) Tryz.func100 rfl (by kernel_rfl) dI (aS (all_cons (fI (Sd n)) (all_nil)) (aT)) mixed (aO _ _ rfl) (fun x=>by kernel_rfl)
def zZi (n:Nat):An (bH Qn):=.nil
theorem Vi (n:Nat):Pure Tryz.prog 61 zBg Qn (zK n) :=
 bB (Γ:=bL _ [(99,bG Zk Mg (wC n)),(100,bG Ut Jd (Du n))] []) (an:=zZi n) Tryz.func61 rfl (by kernel_rfl) dI (aS (all_cons (aM (zEu n)) (all_cons (aM (zBm n)) (all_nil))) (aT)) mixed (aO _ _ rfl) (fun x=>by kernel_rfl)
end Go.Dec
