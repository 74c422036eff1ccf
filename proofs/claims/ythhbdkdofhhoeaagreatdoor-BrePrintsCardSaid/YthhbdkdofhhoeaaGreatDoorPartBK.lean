/- Part of a proof over this seat: a library of my own, and what it says of this seat. No statement is proved here. -/
import Derived.Test.YthhbdkdofhhoeaaGreatDoorPartBJ
namespace Go.Dec
open Go.Proofs
set_option linter.unusedVariables false
def Sd (n : Nat) : An (aV CQ) := .nil
theorem MG (n : Nat) : Pure Tryz.prog 31 JG CQ (wB n) :=
 aO (Γ := bf _ [(75, aQ G9 Ba (yh n))] []) (an := Sd n) Tryz.func31 rfl (by kernel_rfl) aN (aI (all_cons (aB (KH n)) (all_nil)) (aJ)) mixed (aF _ _ rfl) (fun x => by kernel_rfl)
def Sg (n : Nat) : An (aV qA) := .nil
theorem qW (n : Nat) : Pure Tryz.prog 95 um qA (dZ n) :=
 aO (Γ := bf _ [] []) (an := Sg n) Tryz.func95 rfl (by kernel_rfl) aN (aI (all_nil) (aJ)) mixed (aF _ _ rfl) (fun x => by kernel_rfl)
def Oc (n : Nat) : An (aV zi) := .nil
theorem Jm (n : Nat) : Pure Tryz.prog 96 Fz zi (oI n) :=
 aO (Γ := bf _ [] []) (an := Oc n) Tryz.func96 rfl (by kernel_rfl) aN (aI (all_nil) (aJ)) mixed (aF _ _ rfl) (fun x => by kernel_rfl)
def P5 (n : Nat) : An (aV Bc) := .nil
theorem KI (n : Nat) : Pure Tryz.prog 136 He Bc (fC n) :=
 aO (Γ := bf _ [(19, aQ G8 A9 (ug n)), (95, aQ um qA (dZ n))] []) (an := P5 n) Tryz.func136 rfl (by kernel_rfl) aN (aI (all_cons (aB (KF n)) (all_cons (aB (qW n)) (all_nil))) (aJ)) mixed (aF _ _ rfl) (fun x => by kernel_rfl)
def P6 (n : Nat) : An (aV wI) := .nil
theorem Br (n : Nat) : Pure Tryz.prog 137 Bd wI (aT n) :=
 aO (Γ := bf _ [] []) (an := P6 n) Tryz.func137 rfl (by kernel_rfl) aN (aI (all_nil) (aJ)) mixed (aF _ _ rfl) (fun x => by kernel_rfl)
def Si (n : Nat) : An (aV CS) := .nil
theorem MH (n : Nat) (bK : (List UInt8 × Int × List (Int × List (Int) × Int × Int × Int × Int × Int × Unit) × Int × List (Bool) × Int × Int × Unit) -> Option ((List (Int × List (Int) × Int × Int × Int × Int × Int × Unit) × Int × List (Bool) × Int × Int × Unit) × Int)) (CZ : Pure Tryz.prog 60 sQ pU bK) : Pure Tryz.prog 97 JH CS (wC n bK) :=
 aO (Γ := bf _ [(54, aQ wH rH (bS n)), (136, aQ He Bc (fC n)), (18, aQ DC xE (qd n)), (137, aQ Bd wI (aT n)), (29, aQ G6 Cg (iI n)), (60, aQ sQ pU (bK)), (95, aQ um qA (dZ n)), (138, aQ Ch yO (je n))] []) (an := Si n) Tryz.func97 rfl (by kernel_rfl) aN (aI (all_cons (aB (vo n)) (all_cons (aB (KI n)) (all_cons (aB (HY n)) (all_cons (aB (Br n)) (all_cons (aB (FD n)) (all_cons (aB (CZ)) (all_cons (aB (qW n)) (all_cons (aB (zl n)) (all_nil))))))))) (aJ)) mixed (aF _ _ rfl) (fun x => by kernel_rfl)
def Od (n : Nat) : An (aV zk) := (.mk .nil (.mk .nil (.mk .nil (.mk (.mk (.loop ⟨46, [⟨0, false, [.v .str]⟩, ⟨1, false, [.v (.int .i64)]⟩, ⟨6, false, [.v (.int .i64)]⟩, ⟨7, false, [.v (.int .i64)]⟩], []⟩ [.keep [true, true, false, false, false, false, true, true, false, false, false, false, false, false, false, false, false, false, false, false, false, false, false, false, false, false, false, false, false, false], .gcA 0, .gcA 0] [.keep [true, true, false, false, false, false, true, true, false, false, false, false, false, false, false, false, false, false, false, false, false, false, false, false, false, false, false, false, false, false], .gcA 0, .gcA 0] n .nil) .nil []) .nil []) []) []) [])
theorem Jo (n : Nat) : Pure Tryz.prog 169 FB zk (oJ n) :=
 aO (Γ := bf _ [] []) (an := Od n) Tryz.func169 rfl (by kernel_rfl) aN (aI (all_nil) (aJ)) mixed (aF _ _ rfl) (fun x => by kernel_rfl)
end Go.Dec
