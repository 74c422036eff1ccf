/- Part of a proof over this seat: a library of my own, and what it says of this seat. No statement is proved here. -/
import Derived.Test.YthhbdkdofhhoeaaGreatDoorPartBE
namespace Go.Dec
open Go.Proofs
set_option linter.unusedVariables false
def Fj (n : Nat) : An (bP oG) := .nil
theorem uh (n : Nat) : Pure Tryz.prog 66 sw oG (fC n) :=
 bZ (Γ := cK _ [] []) (an := Fj n) Tryz.func66 rfl (by kernel_rfl) aZ (aP (all_nil) (aQ)) mixed (aJ _ _ rfl) (fun x => by kernel_rfl)
def Fp (n : Nat) : An (bP sD) := .nil
theorem BO (n : Nat) : Pure Tryz.prog 170 yG sD (bf n) :=
 bZ (Γ := cK _ [] []) (an := Fp n) Tryz.func170 rfl (by kernel_rfl) aZ (aP (all_nil) (aQ)) mixed (aJ _ _ rfl) (fun x => by kernel_rfl)
def IL (n : Nat) : An (bP wE) := .nil
theorem Ec (n : Nat) : Pure Tryz.prog 140 Bw wE (lJ n) :=
 bZ (Γ := cK _ [(170, bM yG sD (bf n))] []) (an := IL n) Tryz.func140 rfl (by kernel_rfl) aZ (aP (all_cons (aI (BO n)) (all_nil)) (aQ)) mixed (aJ _ _ rfl) (fun x => by kernel_rfl)
def BP (n : Nat) : An (bP oU) := (.mk .nil (.mk (.mk .nil (.mk (.loop ⟨19, [⟨0, false, [.v (.slice (.int .i64))]⟩, ⟨1, false, [.v (.int .i64)]⟩, ⟨7, false, [.v (.int .i64)]⟩, ⟨8, false, [.v (.int .i64)]⟩], []⟩ [.keep [true, true, false, false, false, false, false, true, true], .gcA 0, .gcA 0] [.keep [true, true, false, false, false, false, false, true, true], .gcA 0, .gcA 0] n .nil) .nil []) []) .nil []) [])
theorem yJ (n : Nat) : Pure Tryz.prog 189 uK oU (ql n) :=
 bZ (Γ := cK _ [] []) (an := BP n) Tryz.func189 rfl (by kernel_rfl) aZ (aP (all_nil) (aQ)) mixed (aJ _ _ rfl) (fun x => by kernel_rfl)
def yK (n : Nat) : An (bP mH) := .nil
theorem wJ (n : Nat) : Pure Tryz.prog 171 qZ mH (ku n) :=
 bZ (Γ := cK _ [(189, bM uK oU (ql n))] []) (an := yK n) Tryz.func171 rfl (by kernel_rfl) aZ (aP (all_cons (aI (yJ n)) (all_nil)) (aQ)) mixed (aJ _ _ rfl) (fun x => by kernel_rfl)
def Pf (n : Nat) : An (bP DZ) := .nil
theorem Kl (n : Nat) : Pure Tryz.prog 141 Ki DZ (gW n) :=
 bZ (Γ := cK _ [(171, bM qZ mH (ku n))] []) (an := Pf n) Tryz.func141 rfl (by kernel_rfl) aZ (aP (all_cons (aI (wJ n)) (all_nil)) (aQ)) mixed (aJ _ _ rfl) (fun x => by kernel_rfl)
def Km (n : Nat) : An (bP xR) := (.mk .nil (.mk .nil (.mk (.mk .nil (.mk (.loop ⟨80, [⟨0, false, [.v (.slice ak)]⟩, ⟨3, false, [.own 0]⟩, ⟨8, false, [.v (.slice ak)]⟩, ⟨9, false, [.v (.int .i64)]⟩, ⟨10, false, [.v (.int .i64)]⟩], [.row 3 (.int .i64)]⟩ [.keep [true, false, false, true, false, false, false, false, true, true, true, false, false, false, false, false, false, false, false, false, false, false, false, false, false, false, false, false, false, false, false, false, false, false, false, false, false, false, false, false, false, false, false, false, false, false, false, false, false, false, false, false, false, false, false, false, false, false, false, false, false, false, false, false, false, false, false, false, false], .gcA 0, .AU 3 105, .gcA 0] [.keep [true, false, false, true, false, false, false, false, true, true, true, false, false, false, false, false, false, false, false, false, false, false, false, false, false, false, false, false, false, false, false, false, false, false, false, false, false, false, false, false, false, false, false, false, false, false, false, false, false, false, false, false, false, false, false, false, false, false, false, false, false, false, false, false, false, false, false, false, false], .gcA 0, .gcA 0] n .nil) .nil []) []) .nil []) []) [])
theorem Fq (n : Nat) : Pure Tryz.prog 99 Dp xR (og n) :=
 bZ (Γ := cK _ [(66, bM sw oG (fC n)), (140, bM Bw wE (lJ n)), (141, bM Ki DZ (gW n))] []) (an := Km n) Tryz.func99 rfl (by kernel_rfl) aZ (aP (all_cons (aI (uh n)) (all_cons (aI (Ec n)) (all_cons (aI (Kl n)) (all_nil)))) (aQ)) mixed (aJ _ _ rfl) (fun x => by kernel_rfl)
def Fv (n : Nat) : An (jQ.X) := .nil
theorem wK (n : Nat) (bU : (Int × List (Int × List (Int) × Int × Int × Int × Int × Int × Unit) × Int × Bool × List (Bool) × Bool × Unit) -> Option (List (Int × List (Int) × Int × Int × Int × Int × Int × Unit) × Int × Bool × List (Bool) × Bool × Unit)) (Fz : iW Tryz.prog 142 l7 jQ bU) : iW Tryz.prog 142 l7 jQ (bS n bU) :=
 mF (Γ := cK _ [(142, peM l7 jQ (bU))] []) (an := Fv n) (co := [.gc [0, 1, 2, 3, 4, 5]]) Tryz.func142 rfl (by kernel_rfl) aZ (aP (all_cons (dB (Fz)) (all_nil)) (aQ)) mixed (aJ _ _ rfl) (by kernel_rfl) (by kernel_rfl) (fun x => by kernel_rfl)
theorem Al (n : Nat) : iW Tryz.prog 142 l7 jQ (jh n) := H7 (by kernel_rfl) (fun n r h => wK n r h) n
def IQ (n : Nat) : An (bP wF) := .nil
theorem Ed (n : Nat) : Pure Tryz.prog 100 Bz wF (tC n) :=
 bZ (Γ := cK _ [(142, peM l7 jQ (jh n))] []) (an := IQ n) Tryz.func100 rfl (by kernel_rfl) aZ (aP (all_cons (dB (Al n)) (all_nil)) (aQ)) mixed (aJ _ _ rfl) (fun x => by kernel_rfl)
def Pg (n : Nat) : An (bP wG) := .nil
theorem wL (n : Nat) : Pure Tryz.prog 61 zB wG (mU n) :=
 bZ (Γ := cK _ [(99, bM Dp xR (og n)), (100, bM Bz wF (tC n))] []) (an := Pg n) Tryz.func61 rfl (by kernel_rfl) aZ (aP (all_cons (aI (Fq n)) (all_cons (aI (Ed n)) (all_nil))) (aQ)) mixed (aJ _ _ rfl) (fun x => by kernel_rfl)
end Go.Dec
