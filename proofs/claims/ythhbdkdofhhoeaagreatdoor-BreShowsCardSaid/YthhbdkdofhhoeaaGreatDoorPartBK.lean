/- Part of a proof over this seat: a library of my own, and what it says of this seat. No statement is proved here. -/
import Derived.Test.YthhbdkdofhhoeaaGreatDoorPartBJ
namespace Go.Dec
open Go.Proofs
set_option linter.unusedVariables false
def zBn (n : Nat) : An (bH Di) := .nil
theorem Tp (n : Nat) : Pure Tryz.prog 31 Oh Di (uS n) :=
 bF (Γ := bV _ [(75, bE Kv Ao (xA n))] []) (an := zBn n) Tryz.func31 rfl (by kernel_rfl) aV (aO (all_cons (aH (Qj n)) (all_nil)) (aP)) mixed (aI _ _ rfl) (fun x => by kernel_rfl)
def Bl (n : Nat) : An (bH mU) := .nil
theorem xZ (n : Nat) : Pure Tryz.prog 76 rV mU (gH n) :=
 bF (Γ := bV _ [] []) (an := Bl n) Tryz.func76 rfl (by kernel_rfl) aV (aO (all_nil) (aP)) mixed (aI _ _ rfl) (fun x => by kernel_rfl)
def zGr (n : Nat) : An (bH Kw) := (.mk .nil (.mk (.mk .nil (.mk (.loop ⟨15, [⟨2, false, [.v (.int .i64)]⟩, ⟨5, true, [.v (.arr 4 (.int .u64))]⟩, ⟨6, false, [.v (.int .i64)]⟩], []⟩ [.keep [false, false, true, false, false, true, true], .gcA 0, .gcA 0] [.keep [false, false, true, false, false, true, true], .gcA 0, .gcA 0] n .nil) .nil []) []) .nil []) [])
theorem Xz (n : Nat) : Pure Tryz.prog 33 Wx Kw (Ae n) :=
 bF (Γ := bV _ [(76, bE rV mU (gH n))] []) (an := zGr n) Tryz.func33 rfl (by kernel_rfl) aV (aO (all_cons (aH (xZ n)) (all_nil)) (aP)) mixed (aI _ _ rfl) (fun x => by kernel_rfl)
def Qk (n : Nat) : An (bH Cg) := .nil
theorem Ib (n : Nat) : Pure Tryz.prog 9 Sw Cg (vY n) :=
 bF (Γ := bV _ [(30, bE Kq Cc (tF n)), (32, bE Oe Df (uQ n)), (31, bE Oh Di (uS n)), (16, bE Kr Am (wZ n)), (20, bE zC uU (kE n)), (33, bE Wx Kw (Ae n))] []) (an := Qk n) Tryz.func9 rfl (by kernel_rfl) aV (aO (all_cons (aH (Hy n)) (all_cons (aH (Tj n)) (all_cons (aH (Tp n)) (all_cons (aH (Qi n)) (all_cons (aH (wJ n)) (all_cons (aH (Xz n)) (all_nil))))))) (aP)) mixed (aI _ _ rfl) (fun x => by kernel_rfl)
end Go.Dec
