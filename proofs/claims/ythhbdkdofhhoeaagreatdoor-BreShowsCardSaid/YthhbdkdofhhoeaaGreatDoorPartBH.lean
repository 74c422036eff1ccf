/- Part of a proof over this seat: a library of my own, and what it says of this seat. No statement is proved here. -/
import Derived.Test.YthhbdkdofhhoeaaGreatDoorPartBG
namespace Go.Dec
open Go.Proofs
set_option linter.unusedVariables false
def Xw (n : Nat) : An (bH Am) := .nil
theorem Qi (n : Nat) : Pure Tryz.prog 16 Kr Am (wZ n) :=
 bF (Γ := bV _ [(20, bE zC uU (kE n)), (25, bE Sr Gm (Kg n)), (40, bE Sv Gn (Kh n)), (41, bE zBe Qb (Vf n))] []) (an := Xw n) Tryz.func16 rfl (by kernel_rfl) aV (aO (all_cons (aH (wJ n)) (all_cons (aH (Vk n)) (all_cons (aH (Vl n)) (all_cons (aH (zBj n)) (all_nil))))) (aP)) mixed (aI _ _ rfl) (fun x => by kernel_rfl)
def Xx (n : Nat) : An (bH pY) := (.mk .nil (.mk .nil (.mk (.mk .nil (.mk (.loop ⟨20, [⟨1, false, [.ptr 0 0]⟩, ⟨3, false, [.own 1]⟩, ⟨4, false, [.v (.int .i64)]⟩], [.box 30 [.v (.arr 256 .bool)], .row 5 (.int .u8)]⟩ [.keep [false, true, false, true, true], .gcA 0, .Fh 3 96, .gcA 0] [.keep [false, true, false, true, true], .gcA 0, .gcA 0] n .nil) .nil []) []) .nil []) []) [])
theorem tQ (n : Nat) : Pure Tryz.prog 88 uW pY (iW n) :=
 bF (Γ := bV _ [] []) (an := Xx n) Tryz.func88 rfl (by kernel_rfl) aV (aO (all_nil) (aP)) mixed (aI _ _ rfl) (fun x => by kernel_rfl)
def zBk (n : Nat) : An (bH Dc) := .nil
theorem Ti (n : Nat) : Pure Tryz.prog 56 Od Dc (uP n) :=
 bF (Γ := bV _ [(88, bE uW pY (iW n))] []) (an := zBk n) Tryz.func56 rfl (by kernel_rfl) aV (aO (all_cons (aH (tQ n)) (all_nil)) (aP)) mixed (aI _ _ rfl) (fun x => by kernel_rfl)
end Go.Dec
