/- Part of a proof over this seat: a library of my own, and what it says of this seat. No statement is proved here. -/
import Derived.Test.YthhbdkdofhhoeaaGreatDoorPartBE
namespace Go.Dec
open Go.Proofs
set_option linter.unusedVariables false
def Mj (n : Nat) : An (aV sP) := .nil
theorem yP (n : Nat) : Pure Tryz.prog 66 xC sP (gQ n) :=
 aO (Γ := bf _ [] []) (an := Mj n) Tryz.func66 rfl (by kernel_rfl) aN (aI (all_nil) (aJ)) mixed (aF _ _ rfl) (fun x => by kernel_rfl)
def Mk (n : Nat) : An (aV xD) := .nil
theorem Hz (n : Nat) : Pure Tryz.prog 170 Dz xD (bJ n) :=
 aO (Γ := bf _ [] []) (an := Mk n) Tryz.func170 rfl (by kernel_rfl) aN (aI (all_nil) (aJ)) mixed (aF _ _ rfl) (fun x => by kernel_rfl)
def PG (n : Nat) : An (aV AV) := .nil
theorem KA (n : Nat) : Pure Tryz.prog 140 GR AV (nX n) :=
 aO (Γ := bf _ [(170, aQ Dz xD (bJ n))] []) (an := PG n) Tryz.func140 rfl (by kernel_rfl) aN (aI (all_cons (aB (Hz n)) (all_nil)) (aJ)) mixed (aF _ _ rfl) (fun x => by kernel_rfl)
def HV (n : Nat) : An (aV tN) := (.mk .nil (.mk (.mk .nil (.mk (.loop ⟨19, [⟨0, false, [.v (.slice (.int .i64))]⟩, ⟨1, false, [.v (.int .i64)]⟩, ⟨7, false, [.v (.int .i64)]⟩, ⟨8, false, [.v (.int .i64)]⟩], []⟩ [.keep [true, true, false, false, false, false, false, true, true], .gcA 0, .gcA 0] [.keep [true, true, false, false, false, false, false, true, true], .gcA 0, .gcA 0] n .nil) .nil []) []) .nil []) [])
theorem DK (n : Nat) : Pure Tryz.prog 189 zw tN (uX n) :=
 aO (Γ := bf _ [] []) (an := HV n) Tryz.func189 rfl (by kernel_rfl) aN (aI (all_nil) (aJ)) mixed (aF _ _ rfl) (fun x => by kernel_rfl)
def DL (n : Nat) : An (aV pR) := .nil
theorem Bo (n : Nat) : Pure Tryz.prog 171 wF pR (mh n) :=
 aO (Γ := bf _ [(189, aQ zw tN (uX n))] []) (an := DL n) Tryz.func171 rfl (by kernel_rfl) aN (aI (all_cons (aB (DK n)) (all_nil)) (aJ)) mixed (aF _ _ rfl) (fun x => by kernel_rfl)
def XK (n : Nat) : An (aV Kn) := .nil
theorem R3 (n : Nat) : Pure Tryz.prog 141 RV Kn (jk n) :=
 aO (Γ := bf _ [(171, aQ wF pR (mh n))] []) (an := XK n) Tryz.func141 rfl (by kernel_rfl) aN (aI (all_cons (aB (Bo n)) (all_nil)) (aJ)) mixed (aF _ _ rfl) (fun x => by kernel_rfl)
def R4 (n : Nat) : An (aV CG) := (.mk .nil (.mk .nil (.mk (.mk .nil (.mk (.loop ⟨80, [⟨0, false, [.v (.slice ak)]⟩, ⟨3, false, [.own 0]⟩, ⟨8, false, [.v (.slice ak)]⟩, ⟨9, false, [.v (.int .i64)]⟩, ⟨10, false, [.v (.int .i64)]⟩], [.row 3 (.int .i64)]⟩ [.keep [true, false, false, true, false, false, false, false, true, true, true, false, false, false, false, false, false, false, false, false, false, false, false, false, false, false, false, false, false, false, false, false, false, false, false, false, false, false, false, false, false, false, false, false, false, false, false, false, false, false, false, false, false, false, false, false, false, false, false, false, false, false, false, false, false, false, false, false, false], .gcA 0, .Av 3 105, .gcA 0] [.keep [true, false, false, true, false, false, false, false, true, true, true, false, false, false, false, false, false, false, false, false, false, false, false, false, false, false, false, false, false, false, false, false, false, false, false, false, false, false, false, false, false, false, false, false, false, false, false, false, false, false, false, false, false, false, false, false, false, false, false, false, false, false, false, false, false, false, false, false, false], .gcA 0, .gcA 0] n .nil) .nil []) []) .nil []) []) [])
theorem Ml (n : Nat) : Pure Tryz.prog 99 JC CG (sw n) :=
 aO (Γ := bf _ [(66, aQ xC sP (gQ n)), (140, aQ GR AV (nX n)), (141, aQ RV Kn (jk n))] []) (an := R4 n) Tryz.func99 rfl (by kernel_rfl) aN (aI (all_cons (aB (yP n)) (all_cons (aB (KA n)) (all_cons (aB (R3 n)) (all_nil)))) (aJ)) mixed (aF _ _ rfl) (fun x => by kernel_rfl)
def Mq (n : Nat) : An (lH.X) := .nil
theorem Bp (n : Nat) (dz : (Int × List (Int × List (Int) × Int × Int × Int × Int × Int × Unit) × Int × Bool × List (Bool) × Bool × Unit) -> Option (List (Int × List (Int) × Int × Int × Int × Int × Int × Unit) × Int × Bool × List (Bool) × Bool × Unit)) (Mr : jX Tryz.prog 142 oM lH dz) : jX Tryz.prog 142 oM lH (dh n dz) :=
 pG (Γ := bf _ [(142, peM oM lH (dz))] []) (an := Mq n) (co := [.gc [0, 1, 2, 3, 4, 5]]) Tryz.func142 rfl (by kernel_rfl) aN (aI (all_cons (eP (Mr)) (all_nil)) (aJ)) mixed (aF _ _ rfl) (by kernel_rfl) (by kernel_rfl) (fun x => by kernel_rfl)
theorem FQ (n : Nat) : jX Tryz.prog 142 oM lH (kC n) := OZ (by kernel_rfl) (fun n r h => Bp n r h) n
def PI (n : Nat) : An (aV AX) := .nil
theorem KC (n : Nat) : Pure Tryz.prog 100 GU AX (xZ n) :=
 aO (Γ := bf _ [(142, peM oM lH (kC n))] []) (an := PI n) Tryz.func100 rfl (by kernel_rfl) aN (aI (all_cons (eP (FQ n)) (all_nil)) (aJ)) mixed (aF _ _ rfl) (fun x => by kernel_rfl)
def XL (n : Nat) : An (aV AY) := .nil
theorem Bq (n : Nat) : Pure Tryz.prog 61 Ez AY (qo n) :=
 aO (Γ := bf _ [(99, aQ JC CG (sw n)), (100, aQ GU AX (xZ n))] []) (an := XL n) Tryz.func61 rfl (by kernel_rfl) aN (aI (all_cons (aB (Ml n)) (all_cons (aB (KC n)) (all_nil))) (aJ)) mixed (aF _ _ rfl) (fun x => by kernel_rfl)
end Go.Dec
