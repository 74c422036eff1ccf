/- Part of a proof over this seat: a library of my own, and what it says of this seat. No statement is proved here. -/
import Derived.Test.YthhbdkdofhhoeaaGreatDoorPartBI
namespace Go.Dec
open Go.Proofs
set_option linter.unusedVariables false
def Vd (n : Nat) : An (bB lN) := .nil
theorem Da (n : Nat) (nQ : Int -> Option (List UInt8)) (Ve : Pure Tryz.prog 147 pF lN nQ) : Pure Tryz.prog 147 pF lN (yQ n nQ) :=
 aZ (Γ := bT _ [(147, bA pF lN (nQ))] []) (an := Vd n) Tryz.func147 rfl (by kernel_rfl) aT (aO (all_cons (aL (Ve)) (all_nil)) (aP)) mixed (aM _ _ rfl) (fun x => by kernel_rfl)
theorem Mv (n : Nat) : Pure Tryz.prog 147 pF lN (uR n) := Bl (by kernel_rfl) (fun n r h => Da n r h) n
def Xm (n : Nat) : An (bB zC) := .nil
theorem Ph (n : Nat) : Pure Tryz.prog 103 Je zC (rF n) :=
 aZ (Γ := bT _ [(147, bA pF lN (uR n))] []) (an := Xm n) Tryz.func103 rfl (by kernel_rfl) aT (aO (all_cons (aL (Mv n)) (all_nil)) (aP)) mixed (aM _ _ rfl) (fun x => by kernel_rfl)
def zDf (n : Nat) : An (bB qJ) := .nil
theorem Ih (n : Nat) (gQ : (List (Int × List (Int) × Int × Int × Int × Int × Int × Unit) × Int) -> Option (List UInt8)) (zDg : Pure Tryz.prog 70 tX qJ gQ) : Pure Tryz.prog 70 tX qJ (qV n gQ) :=
 aZ (Γ := bT _ [(32, bA Qc Eh (wD n)), (88, bA Md Bw (tV n)), (110, bA Uo Ic (yP n)), (70, bA tX qJ (gQ)), (103, bA Je zC (rF n))] []) (an := zDf n) Tryz.func70 rfl (by kernel_rfl) aT (aO (all_cons (aL (Vb n)) (all_cons (aL (Ru n)) (all_cons (aL (Xl n)) (all_cons (aL (zDg)) (all_cons (aL (Ph n)) (all_nil)))))) (aP)) mixed (aM _ _ rfl) (fun x => by kernel_rfl)
theorem Vf (n : Nat) : Pure Tryz.prog 70 tX qJ (wE n) := Bl (by kernel_rfl) (fun n r h => Ih n r h) n
def zDh (n : Nat) : An (bB Ei) := .nil
theorem Vg (n : Nat) : Pure Tryz.prog 28 Qd Ei (nR n) :=
 aZ (Γ := bT _ [(64, bA Un Ib (rE n)), (70, bA tX qJ (wE n))] []) (an := zDh n) Tryz.func28 rfl (by kernel_rfl) aT (aO (all_cons (aL (Xk n)) (all_cons (aL (Vf n)) (all_nil))) (aP)) mixed (aM _ _ rfl) (fun x => by kernel_rfl)
def Mw (n : Nat) : An (bB zI) := (.mk .nil (.mk .nil (.mk .nil (.mk (.mk .nil (.mk (.loop ⟨85, [⟨0, false, [.v .str]⟩, ⟨3, false, [.v .str]⟩, ⟨4, false, [.v (.int .i64)]⟩], []⟩ [.keep [true, false, false, true, true, false, false, false, false, false, false, false, false, false, false, false, false, false, false, false, false, false, false, false, false, false, false, false, false, false, false, false, false, false, false, false, false, false, false, false, false, false, false, false, false, false, false, false, false, false, false, false, false, false, false, false, false, false, false, false, false, false, false, false, false, false, false, false, false, false, false, false, false, false, false, false, false, false, false, false, false, false, false, false], .gcA 0, .gcA 0] [.keep [true, false, false, true, true, false, false, false, false, false, false, false, false, false, false, false, false, false, false, false, false, false, false, false, false, false, false, false, false, false, false, false, false, false, false, false, false, false, false, false, false, false, false, false, false, false, false, false, false, false, false, false, false, false, false, false, false, false, false, false, false, false, false, false, false, false, false, false, false, false, false, false, false, false, false, false, false, false, false, false, false, false, false, false], .gcA 0, .gcA 0] n .nil) .nil []) []) .nil []) []) []) [])
theorem Es (n : Nat) : Pure Tryz.prog 7 Ox zI (vB n) :=
 aZ (Γ := bT _ [(16, bA Mc Bv (oI n)), (29, bA Yy Me (lZ n)), (19, bA Mf Bz (lF n)), (28, bA Qd Ei (nR n)), (20, bA Ag wG (jU n)), (27, bA Rk Hy (rZ n))] []) (an := Mw n) Tryz.func7 rfl (by kernel_rfl) aT (aO (all_cons (aL (Rt n)) (all_cons (aL (Zy n)) (all_cons (aL (Rv n)) (all_cons (aL (Vg n)) (all_cons (aL (xK n)) (all_cons (aL (Ms n)) (all_nil))))))) (aP)) mixed (aM _ _ rfl) (fun x => by kernel_rfl)
end Go.Dec
