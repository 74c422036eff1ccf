/- Part of a proof over this seat: a library of my own, and what it says of this seat. No statement is proved here. -/
import Derived.Test.YthhbdkdofhhoeaaGreatDoorPartBE
namespace Go.Dec
open Go.Proofs
set_option linter.unusedVariables false
def Si (n : Nat) : An (bX rY) := .nil
theorem yI (n : Nat) : Pure Tryz.prog 66 wV rY (gB n) :=
 dF (Γ := dI _ [] []) (an := Si n) Tryz.func66 rfl (by kernel_rfl) bE (aU (all_nil) (aV)) mixed (aO _ _ rfl) (fun x => by kernel_rfl)
def Sj (n : Nat) : An (bX wW) := .nil
theorem Le (n : Nat) : Pure Tryz.prog 170 En wW (bF n) :=
 dF (Γ := dI _ [] []) (an := Sj n) Tryz.func170 rfl (by kernel_rfl) bE (aU (all_nil) (aV)) mixed (aO _ _ rfl) (fun x => by kernel_rfl)
def Xz (n : Nat) : An (bX Bh) := .nil
theorem Qb (n : Nat) : Pure Tryz.prog 140 Ko Bh (nU n) :=
 dF (Γ := dI _ [(170, bV En wW (bF n))] []) (an := Xz n) Tryz.func140 rfl (by kernel_rfl) bE (aU (all_cons (aN (Le n)) (all_nil)) (aV)) mixed (aO _ _ rfl) (fun x => by kernel_rfl)
def Lf (n : Nat) : An (bX sO) := (.mk .nil (.mk (.mk .nil (.mk (.loop ⟨19, [⟨0, false, [.v (.slice (.int .i64))]⟩, ⟨1, false, [.v (.int .i64)]⟩, ⟨7, false, [.v (.int .i64)]⟩, ⟨8, false, [.v (.int .i64)]⟩], []⟩ [.keep [true, true, false, false, false, false, false, true, true], .gcA 0, .gcA 0] [.keep [true, true, false, false, false, false, false, true, true], .gcA 0, .gcA 0] n .nil) .nil []) []) .nil []) [])
theorem Er (n : Nat) : Pure Tryz.prog 189 yX sO (uM n) :=
 dF (Γ := dI _ [] []) (an := Lf n) Tryz.func189 rfl (by kernel_rfl) bE (aU (all_nil) (aV)) mixed (aO _ _ rfl) (fun x => by kernel_rfl)
def Es (n : Nat) : An (bX pG) := .nil
theorem Bp (n : Nat) : Pure Tryz.prog 171 vS pG (mH n) :=
 dF (Γ := dI _ [(189, bV yX sO (uM n))] []) (an := Es n) Tryz.func171 rfl (by kernel_rfl) bE (aU (all_cons (aN (Er n)) (all_nil)) (aV)) mixed (aO _ _ rfl) (fun x => by kernel_rfl)
def zJe (n : Nat) : An (bX Pp) := .nil
theorem zBa (n : Nat) : Pure Tryz.prog 141 zAx Pp (iQ n) :=
 dF (Γ := dI _ [(171, bV vS pG (mH n))] []) (an := zJe n) Tryz.func141 rfl (by kernel_rfl) bE (aU (all_cons (aN (Bp n)) (all_nil)) (aV)) mixed (aO _ _ rfl) (fun x => by kernel_rfl)
def zBb (n : Nat) : An (bX Dn) := (.mk .nil (.mk .nil (.mk (.mk .nil (.mk (.loop ⟨80, [⟨0, false, [.v (.slice aC)]⟩, ⟨3, false, [.own 0]⟩, ⟨8, false, [.v (.slice aC)]⟩, ⟨9, false, [.v (.int .i64)]⟩, ⟨10, false, [.v (.int .i64)]⟩], [.row 3 (.int .i64)]⟩ [.keep [true, false, false, true, false, false, false, false, true, true, true, false, false, false, false, false, false, false, false, false, false, false, false, false, false, false, false, false, false, false, false, false, false, false, false, false, false, false, false, false, false, false, false, false, false, false, false, false, false, false, false, false, false, false, false, false, false, false, false, false, false, false, false, false, false, false, false, false, false], .gcA 0, .Jm 3 105, .gcA 0] [.keep [true, false, false, true, false, false, false, false, true, true, true, false, false, false, false, false, false, false, false, false, false, false, false, false, false, false, false, false, false, false, false, false, false, false, false, false, false, false, false, false, false, false, false, false, false, false, false, false, false, false, false, false, false, false, false, false, false, false, false, false, false, false, false, false, false, false, false, false, false], .gcA 0, .gcA 0] n .nil) .nil []) []) .nil []) []) [])
theorem Sk (n : Nat) : Pure Tryz.prog 99 Oe Dn (rM n) :=
 dF (Γ := dI _ [(66, bV wV rY (gB n)), (140, bV Ko Bh (nU n)), (141, bV zAx Pp (iQ n))] []) (an := zBb n) Tryz.func99 rfl (by kernel_rfl) bE (aU (all_cons (aN (yI n)) (all_cons (aN (Qb n)) (all_cons (aN (zBa n)) (all_nil)))) (aV)) mixed (aO _ _ rfl) (fun x => by kernel_rfl)
def Sl (n : Nat) : An (lK.X) := .nil
theorem Bq (n : Nat) (cO : (Int × List (Int × List (Int) × Int × Int × Int × Int × Int × Unit) × Int × Bool × List (Bool) × Bool × Unit) -> Option (List (Int × List (Int) × Int × Int × Int × Int × Int × Unit) × Int × Bool × List (Bool) × Bool × Unit)) (Sm : jU Tryz.prog 142 oM lK cO) : jU Tryz.prog 142 oM lK (cB n cO) :=
 pE (Γ := dI _ [(142, peM oM lK (cO))] []) (an := Sl n) (co := [.gc [0, 1, 2, 3, 4, 5]]) Tryz.func142 rfl (by kernel_rfl) bE (aU (all_cons (dR (Sm)) (all_nil)) (aV)) mixed (aO _ _ rfl) (by kernel_rfl) (by kernel_rfl) (fun x => by kernel_rfl)
theorem Iq (n : Nat) : jU Tryz.prog 142 oM lK (kF n) := Wv (by kernel_rfl) (fun n r h => Bq n r h) n
def Ya (n : Nat) : An (bX Bj) := .nil
theorem Qc (n : Nat) : Pure Tryz.prog 100 Kq Bj (xR n) :=
 dF (Γ := dI _ [(142, peM oM lK (kF n))] []) (an := Ya n) Tryz.func100 rfl (by kernel_rfl) bE (aU (all_cons (dR (Iq n)) (all_nil)) (aV)) mixed (aO _ _ rfl) (fun x => by kernel_rfl)
def zJf (n : Nat) : An (bX Bl) := .nil
theorem Br (n : Nat) : Pure Tryz.prog 61 Gp Bl (pW n) :=
 dF (Γ := dI _ [(99, bV Oe Dn (rM n)), (100, bV Kq Bj (xR n))] []) (an := zJf n) Tryz.func61 rfl (by kernel_rfl) bE (aU (all_cons (aN (Sk n)) (all_cons (aN (Qc n)) (all_nil))) (aV)) mixed (aO _ _ rfl) (fun x => by kernel_rfl)
end Go.Dec
