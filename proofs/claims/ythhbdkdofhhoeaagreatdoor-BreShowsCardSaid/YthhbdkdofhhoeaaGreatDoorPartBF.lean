/- Part of a proof over this seat: a library of my own, and what it says of this seat. No statement is proved here. -/
import Derived.Test.YthhbdkdofhhoeaaGreatDoorPartBE
namespace Go.Dec
open Go.Proofs
set_option linter.unusedVariables false
def Tc (n : Nat) : An (bH qW) := .nil
theorem xP (n : Nat) : Pure Tryz.prog 66 wE qW (oJ n) :=
 bF (Γ := bV _ [] []) (an := Tc n) Tryz.func66 rfl (by kernel_rfl) aV (aO (all_nil) (aP)) mixed (aI _ _ rfl) (fun x => by kernel_rfl)
def Td (n : Nat) : An (bH wF) := .nil
theorem Le (n : Nat) : Pure Tryz.prog 170 Eh wF (xX n) :=
 bF (Γ := bV _ [] []) (an := Td n) Tryz.func170 rfl (by kernel_rfl) aV (aO (all_nil) (aP)) mixed (aI _ _ rfl) (fun x => by kernel_rfl)
def Xr (n : Nat) : An (bH Aj) := .nil
theorem Qg (n : Nat) : Pure Tryz.prog 140 Kl Aj (Cx n) :=
 bF (Γ := bV _ [(170, bE Eh wF (xX n))] []) (an := Xr n) Tryz.func140 rfl (by kernel_rfl) aV (aO (all_cons (aH (Le n)) (all_nil)) (aP)) mixed (aI _ _ rfl) (fun x => by kernel_rfl)
def Lf (n : Nat) : An (bH rJ) := (.mk .nil (.mk (.mk .nil (.mk (.loop ⟨19, [⟨0, false, [.v (.slice (.int .i64))]⟩, ⟨1, false, [.v (.int .i64)]⟩, ⟨7, false, [.v (.int .i64)]⟩, ⟨8, false, [.v (.int .i64)]⟩], []⟩ [.keep [true, true, false, false, false, false, false, true, true], .gcA 0, .gcA 0] [.keep [true, true, false, false, false, false, false, true, true], .gcA 0, .gcA 0] n .nil) .nil []) []) .nil []) [])
theorem El (n : Nat) : Pure Tryz.prog 189 yE rJ (tC n) :=
 bF (Γ := bV _ [] []) (an := Lf n) Tryz.func189 rfl (by kernel_rfl) aV (aO (all_nil) (aP)) mixed (aI _ _ rfl) (fun x => by kernel_rfl)
def Em (n : Nat) : An (bH oD) := .nil
theorem Aq (n : Nat) : Pure Tryz.prog 171 uV oD (oV n) :=
 bF (Γ := bV _ [(189, bE yE rJ (tC n))] []) (an := Em n) Tryz.func171 rfl (by kernel_rfl) aV (aO (all_cons (aH (El n)) (all_nil)) (aP)) mixed (aI _ _ rfl) (fun x => by kernel_rfl)
def zIp (n : Nat) : An (bH Py) := .nil
theorem zBf (n : Nat) : Pure Tryz.prog 141 zBb Py (tZ n) :=
 bF (Γ := bV _ [(171, bE uV oD (oV n))] []) (an := zIp n) Tryz.func141 rfl (by kernel_rfl) aV (aO (all_cons (aH (Aq n)) (all_nil)) (aP)) mixed (aI _ _ rfl) (fun x => by kernel_rfl)
def zBg (n : Nat) : An (bH Db) := (.mk .nil (.mk .nil (.mk (.mk .nil (.mk (.loop ⟨80, [⟨0, false, [.v (.slice aB)]⟩, ⟨3, false, [.own 0]⟩, ⟨8, false, [.v (.slice aB)]⟩, ⟨9, false, [.v (.int .i64)]⟩, ⟨10, false, [.v (.int .i64)]⟩], [.row 3 (.int .i64)]⟩ [.keep [true, false, false, true, false, false, false, false, true, true, true, false, false, false, false, false, false, false, false, false, false, false, false, false, false, false, false, false, false, false, false, false, false, false, false, false, false, false, false, false, false, false, false, false, false, false, false, false, false, false, false, false, false, false, false, false, false, false, false, false, false, false, false, false, false, false, false, false, false], .gcA 0, .Fh 3 105, .gcA 0] [.keep [true, false, false, true, false, false, false, false, true, true, true, false, false, false, false, false, false, false, false, false, false, false, false, false, false, false, false, false, false, false, false, false, false, false, false, false, false, false, false, false, false, false, false, false, false, false, false, false, false, false, false, false, false, false, false, false, false, false, false, false, false, false, false, false, false, false, false, false, false], .gcA 0, .gcA 0] n .nil) .nil []) []) .nil []) []) [])
theorem Te (n : Nat) : Pure Tryz.prog 99 Oc Db (Gg n) :=
 bF (Γ := bV _ [(66, bE wE qW (oJ n)), (140, bE Kl Aj (Cx n)), (141, bE zBb Py (tZ n))] []) (an := zBg n) Tryz.func99 rfl (by kernel_rfl) aV (aO (all_cons (aH (xP n)) (all_cons (aH (Qg n)) (all_cons (aH (zBf n)) (all_nil)))) (aP)) mixed (aI _ _ rfl) (fun x => by kernel_rfl)
def Tf (n : Nat) : An (kL.X) := .nil
theorem Ar (n : Nat) (bX : (Int × List (Int × List (Int) × Int × Int × Int × Int × Int × Unit) × Int × Bool × List (Bool) × Bool × Unit) -> Option (List (Int × List (Int) × Int × Int × Int × Int × Int × Unit) × Int × Bool × List (Bool) × Bool × Unit)) (Tg : jA Tryz.prog 142 nK kL bX) : jA Tryz.prog 142 nK kL (xL n bX) :=
 nT (Γ := bV _ [(142, peM nK kL (bX))] []) (an := Tf n) (co := [.gc [0, 1, 2, 3, 4, 5]]) Tryz.func142 rfl (by kernel_rfl) aV (aO (all_cons (dJ (Tg)) (all_nil)) (aP)) mixed (aI _ _ rfl) (by kernel_rfl) (by kernel_rfl) (fun x => by kernel_rfl)
theorem Ik (n : Nat) : jA Tryz.prog 142 nK kL (xY n) := Wt (by kernel_rfl) (fun n r h => Ar n r h) n
def Xt (n : Nat) : An (bH Ak) := .nil
theorem Qh (n : Nat) : Pure Tryz.prog 100 Km Ak (Cz n) :=
 bF (Γ := bV _ [(142, peM nK kL (xY n))] []) (an := Xt n) Tryz.func100 rfl (by kernel_rfl) aV (aO (all_cons (dJ (Ik n)) (all_nil)) (aP)) mixed (aI _ _ rfl) (fun x => by kernel_rfl)
def zIq (n : Nat) : An (bH Al) := .nil
theorem Au (n : Nat) : Pure Tryz.prog 61 Gj Al (vX n) :=
 bF (Γ := bV _ [(99, bE Oc Db (Gg n)), (100, bE Km Ak (Cz n))] []) (an := zIq n) Tryz.func61 rfl (by kernel_rfl) aV (aO (all_cons (aH (Te n)) (all_cons (aH (Qh n)) (all_nil))) (aP)) mixed (aI _ _ rfl) (fun x => by kernel_rfl)
end Go.Dec
