/- Part of a proof over this seat: a library of my own, and what it says of this seat. No statement is proved here. -/
import Derived.Test.YthhbdkdofhhoeaaGreatDoorPartBG
namespace Go.Dec
open Go.Proofs
set_option linter.unusedVariables false
def Zw (n : Nat) : An (bB Bv) := .nil
theorem Rt (n : Nat) : Pure Tryz.prog 16 Mc Bv (oI n) :=
 aZ (Γ := bT _ [(20, bA Ag wG (jU n)), (25, bA Ul Hz (Li n)), (40, bA Um Ia (Lj n)), (41, bA zCy Rl (Xb n))] []) (an := Zw n) Tryz.func16 rfl (by kernel_rfl) aT (aO (all_cons (aL (xK n)) (all_cons (aL (Xh n)) (all_cons (aL (Xi n)) (all_cons (aL (zDc n)) (all_nil))))) (aP)) mixed (aM _ _ rfl) (fun x => by kernel_rfl)
def Zx (n : Nat) : An (bB Bw) := (.mk .nil (.mk .nil (.mk (.mk .nil (.mk (.loop ⟨20, [⟨1, false, [.ptr 0 0]⟩, ⟨3, false, [.own 1]⟩, ⟨4, false, [.v (.int .i64)]⟩], [.box 30 [.v (.arr 256 .bool)], .row 5 (.int .u8)]⟩ [.keep [false, true, false, true, true], .gcA 0, .Gv 3 96, .gcA 0] [.keep [false, true, false, true, true], .gcA 0, .gcA 0] n .nil) .nil []) []) .nil []) []) [])
theorem Ru (n : Nat) : Pure Tryz.prog 88 Md Bw (tV n) :=
 aZ (Γ := bT _ [] []) (an := Zx n) Tryz.func88 rfl (by kernel_rfl) aT (aO (all_nil) (aP)) mixed (aM _ _ rfl) (fun x => by kernel_rfl)
def zJa (n : Nat) : An (bB Me) := (.mk .nil (.mk .nil (.mk (.mk .nil (.mk (.loop ⟨17, [⟨0, false, [.v .str]⟩, ⟨2, false, [.ptr 0 0]⟩, ⟨3, false, [.ptr 1 0]⟩, ⟨4, false, [.v (.int .i64)]⟩], [.box 30 [.v (.arr 256 .bool)], .box 30 [.v (.arr 256 .bool)]]⟩ [.keep [true, false, true, true, true], .gcA 0, .gcA 0] [.keep [true, false, true, true, true], .gcA 0, .gcA 0] n .nil) .nil []) []) .nil []) []) [])
theorem Zy (n : Nat) : Pure Tryz.prog 29 Yy Me (lZ n) :=
 aZ (Γ := bT _ [] []) (an := zJa n) Tryz.func29 rfl (by kernel_rfl) aT (aO (all_nil) (aP)) mixed (aM _ _ rfl) (fun x => by kernel_rfl)
end Go.Dec
