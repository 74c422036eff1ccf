/- Part of a proof over this seat: a library of my own, and what it says of this seat. No statement is proved here. -/
import Derived.Test.YthhbdkdofhhoeaaGreatDoorPartBE
namespace Go.Dec
open Go.Proofs
set_option linter.unusedVariables false
def Ut (n : Nat) : An (bB sK) := .nil
theorem yT (n : Nat) : Pure Tryz.prog 66 xG sK (gD n) :=
 aZ (Γ := bT _ [] []) (an := Ut n) Tryz.func66 rfl (by kernel_rfl) aT (aO (all_nil) (aP)) mixed (aM _ _ rfl) (fun x => by kernel_rfl)
def Uu (n : Nat) : An (bB xH) := .nil
theorem Mq (n : Nat) : Pure Tryz.prog 170 Fz xH (bJ n) :=
 aZ (Γ := bT _ [] []) (an := Uu n) Tryz.func170 rfl (by kernel_rfl) aT (aO (all_nil) (aP)) mixed (aM _ _ rfl) (fun x => by kernel_rfl)
def Zq (n : Nat) : An (bB Br) := .nil
theorem Rq (n : Nat) : Pure Tryz.prog 140 Ls Br (oH n) :=
 aZ (Γ := bT _ [(170, bA Fz xH (bJ n))] []) (an := Zq n) Tryz.func140 rfl (by kernel_rfl) aT (aO (all_cons (aL (Mq n)) (all_nil)) (aP)) mixed (aM _ _ rfl) (fun x => by kernel_rfl)
def Mr (n : Nat) : An (bB tH) := (.mk .nil (.mk (.mk .nil (.mk (.loop ⟨19, [⟨0, false, [.v (.slice (.int .i64))]⟩, ⟨1, false, [.v (.int .i64)]⟩, ⟨7, false, [.v (.int .i64)]⟩, ⟨8, false, [.v (.int .i64)]⟩], []⟩ [.keep [true, true, false, false, false, false, false, true, true], .gcA 0, .gcA 0] [.keep [true, true, false, false, false, false, false, true, true], .gcA 0, .gcA 0] n .nil) .nil []) []) .nil []) [])
theorem Gb (n : Nat) : Pure Tryz.prog 189 zH tH (uY n) :=
 aZ (Γ := bT _ [] []) (an := Mr n) Tryz.func189 rfl (by kernel_rfl) aT (aO (all_nil) (aP)) mixed (aM _ _ rfl) (fun x => by kernel_rfl)
def Gc (n : Nat) : An (bB pX) := .nil
theorem Cb (n : Nat) : Pure Tryz.prog 171 wH pX (mO n) :=
 aZ (Γ := bT _ [(189, bA zH tH (uY n))] []) (an := Gc n) Tryz.func171 rfl (by kernel_rfl) aT (aO (all_cons (aL (Gb n)) (all_nil)) (aP)) mixed (aM _ _ rfl) (fun x => by kernel_rfl)
def zKw (n : Nat) : An (bB Ri) := .nil
theorem zCz (n : Nat) : Pure Tryz.prog 141 zCw Ri (iX n) :=
 aZ (Γ := bT _ [(171, bA wH pX (mO n))] []) (an := zKw n) Tryz.func141 rfl (by kernel_rfl) aT (aO (all_cons (aL (Cb n)) (all_nil)) (aP)) mixed (aM _ _ rfl) (fun x => by kernel_rfl)
def zDa (n : Nat) : An (bB Ee) := (.mk .nil (.mk .nil (.mk (.mk .nil (.mk (.loop ⟨80, [⟨0, false, [.v (.slice aB)]⟩, ⟨3, false, [.own 0]⟩, ⟨8, false, [.v (.slice aB)]⟩, ⟨9, false, [.v (.int .i64)]⟩, ⟨10, false, [.v (.int .i64)]⟩], [.row 3 (.int .i64)]⟩ [.keep [true, false, false, true, false, false, false, false, true, true, true, false, false, false, false, false, false, false, false, false, false, false, false, false, false, false, false, false, false, false, false, false, false, false, false, false, false, false, false, false, false, false, false, false, false, false, false, false, false, false, false, false, false, false, false, false, false, false, false, false, false, false, false, false, false, false, false, false, false], .gcA 0, .Gv 3 105, .gcA 0] [.keep [true, false, false, true, false, false, false, false, true, true, true, false, false, false, false, false, false, false, false, false, false, false, false, false, false, false, false, false, false, false, false, false, false, false, false, false, false, false, false, false, false, false, false, false, false, false, false, false, false, false, false, false, false, false, false, false, false, false, false, false, false, false, false, false, false, false, false, false, false], .gcA 0, .gcA 0] n .nil) .nil []) []) .nil []) []) [])
theorem Uv (n : Nat) : Pure Tryz.prog 99 Qa Ee (rX n) :=
 aZ (Γ := bT _ [(66, bA xG sK (gD n)), (140, bA Ls Br (oH n)), (141, bA zCw Ri (iX n))] []) (an := zDa n) Tryz.func99 rfl (by kernel_rfl) aT (aO (all_cons (aL (yT n)) (all_cons (aL (Rq n)) (all_cons (aL (zCz n)) (all_nil)))) (aP)) mixed (aM _ _ rfl) (fun x => by kernel_rfl)
def Uw (n : Nat) : An (lK.X) := .nil
theorem Cc (n : Nat) (cZ : (Int × List (Int × List (Int) × Int × Int × Int × Int × Int × Unit) × Int × Bool × List (Bool) × Bool × Unit) -> Option (List (Int × List (Int) × Int × Int × Int × Int × Int × Unit) × Int × Bool × List (Bool) × Bool × Unit)) (Ux : jX Tryz.prog 142 oW lK cZ) : jX Tryz.prog 142 oW lK (cB n cZ) :=
 pU (Γ := bT _ [(142, peM oW lK (cZ))] []) (an := Uw n) (co := [.gc [0, 1, 2, 3, 4, 5]]) Tryz.func142 rfl (by kernel_rfl) aT (aO (all_cons (dU (Ux)) (all_nil)) (aP)) mixed (aM _ _ rfl) (by kernel_rfl) (by kernel_rfl) (fun x => by kernel_rfl)
theorem Jo (n : Nat) : jX Tryz.prog 142 oW lK (kH n) := Yt (by kernel_rfl) (fun n r h => Cc n r h) n
def Zr (n : Nat) : An (bB Bt) := .nil
theorem Rs (n : Nat) : Pure Tryz.prog 100 Lu Bt (yC n) :=
 aZ (Γ := bT _ [(142, peM oW lK (kH n))] []) (an := Zr n) Tryz.func100 rfl (by kernel_rfl) aT (aO (all_cons (dU (Jo n)) (all_nil)) (aP)) mixed (aM _ _ rfl) (fun x => by kernel_rfl)
def zKx (n : Nat) : An (bB Bu) := .nil
theorem Ce (n : Nat) : Pure Tryz.prog 61 Hu Bu (qI n) :=
 aZ (Γ := bT _ [(99, bA Qa Ee (rX n)), (100, bA Lu Bt (yC n))] []) (an := zKx n) Tryz.func61 rfl (by kernel_rfl) aT (aO (all_cons (aL (Uv n)) (all_cons (aL (Rs n)) (all_nil))) (aP)) mixed (aM _ _ rfl) (fun x => by kernel_rfl)
end Go.Dec
