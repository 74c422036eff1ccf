/- Part of a proof over this seat: a library of my own, and what it says of this seat. No statement is proved here. -/
import Derived.Test.YtfpipcafiocdoaaGreatDoorProg
import Derived.Test.YtfpipcafiocdoaaGreatDoorPartBN
import Derived.Test.YtfpipcafiocdoaaGreatDoorPartBM
import Derived.Test.YtfpipcafiocdoaaGreatDoorPartBL
import Derived.KernelRfl
namespace Go.Dec
open Go.Proofs
set_option linter.unusedVariables false
def tab : Tab := [(3, ⟨.int .i64, 1, 8, [.val (.int .i64) 0], some (.int .i64), false⟩),
 (4, ⟨.bool, 1, 1, [.val .bool false], some .bool, false⟩),
 (5, ⟨.int .u8, 1, 1, [.val (.int .u8) 0], some (.int .u8), false⟩),
 (9, ⟨.str, 1, 16, [.val .str []], some .str, false⟩),
 (22, ⟨.slice 33, 1, 24, [.bG], some (.slice (.slice .str)), false⟩),
 (25, ⟨.int .i64, 1, 8, [.val (.int .i64) 0], some (.int .i64), false⟩),
 (32, ⟨.slice 5, 1, 24, [.bG], some (.slice (.int .u8)), false⟩),
 (33, ⟨.slice 9, 1, 24, [.bG], some (.slice .str), false⟩),
 (51, ⟨.slice 63, 1, 24, [.bG], some (.slice zHe), false⟩),
 (63, ⟨.struct [(0, 9), (1, 9)], 2, 32, [.val .str [], .val .str []], some zHe, true⟩),
 (87, ⟨.func, 1, 8, [.val .opq Value.nilFunc], some .opq, false⟩)]
theorem Cb : aR Tryz.prog tab := En (by kernel_rfl)
theorem mixed : Tryz.prog.follows .mixedOrders = true := by kernel_rfl
abbrev zN : List Ty := [.int .u8]
abbrev rD : List Ty := [.bool]
abbrev gG : Sh := ⟨2, [⟨0, false, [.v (.slice (.int .u8))]⟩, ⟨1, false, [.clo 31 []]⟩], []⟩
abbrev dH : Sh := ⟨1, [⟨0, false, [.v (.int .i64)]⟩], []⟩
abbrev eZ : Sh := ⟨2, [⟨0, false, [.v (.slice (.int .u8))]⟩, ⟨1, false, [.clo 31 []]⟩], []⟩
abbrev cK : Sh := ⟨1, [⟨0, false, [.v .bool]⟩], []⟩
abbrev Ei : List Ty := [.str]
abbrev vU : List Ty := [.str]
abbrev Dq : List Ty := [.str, .str]
abbrev rE : List Ty := [.bool]
def Mj (n : Nat) : An (dL rD) := .nil
theorem Dr (n : Nat) : Pure Tryz.prog 31 zN rD (kZ n) :=
 wF (Γ := tX _ [(28, oU iW iX (strings_IndexByte n))] []) (an := Mj n) Tryz.func31 rfl (by kernel_rfl) Cb (lK (all_cons (kG (jD n)) (all_nil)) (lM)) mixed (jB _ _ rfl) (fun x => by kernel_rfl)
def kL (n : Nat) : An (dH.X) := (.mk .nil (.mk (.mk .nil (.mk (.loop ⟨19, [⟨0, false, [.v (.slice (.int .u8))]⟩, ⟨1, false, [.clo 31 []]⟩, ⟨7, false, [.v (.int .i64)]⟩, ⟨8, false, [.v (.int .i64)]⟩], []⟩ [.keep [true, true, false, false, false, false, false, true, true], .gcA 0, .gcA 0] [.keep [true, true, false, false, false, false, false, true, true], .gcA 0, .gcA 0] n .nil) .nil []) []) .nil []) [])
theorem jN (n : Nat) : Cr Tryz.prog 52 gG dH (bM n) :=
 xU (Γ := tX _ [(31, oU zN rD (kZ n))] []) (an := kL n) (co := [.gc []]) Tryz.func52 rfl (by kernel_rfl) Cb (lK (all_cons (kG (Dr n)) (all_nil)) (lM)) mixed (jB _ _ rfl) (by kernel_rfl) (by kernel_rfl) (fun x => by kernel_rfl)
def jY (n : Nat) : An (cK.X) := .nil
theorem jE (n : Nat) : Cr Tryz.prog 32 eZ cK (bA n) :=
 xU (Γ := tX _ [(52, peM gG dH (bM n))] []) (an := jY n) (co := [.gc []]) Tryz.func32 rfl (by kernel_rfl) Cb (lK (all_cons (Ie (jN n)) (all_nil)) (lM)) mixed (jB _ _ rfl) (by kernel_rfl) (by kernel_rfl) (fun x => by kernel_rfl)
def Vh (n : Nat) : An (dL vU) := .nil
theorem Kl (n : Nat) : Pure Tryz.prog 14 Ei vU (lU n) :=
 wF (Γ := tX _ [(32, peM eZ cK (bA n)), (33, oU oD oF (strings_ReplaceAll n))] []) (an := Vh n) Tryz.func14 rfl (by kernel_rfl) Cb (lK (all_cons (Ie (jE n)) (all_cons (kG (uK n)) (all_nil))) (lM)) mixed (jB _ _ rfl) (fun x => by kernel_rfl)
def Cc (n : Nat) : An (dL rE) := .nil
theorem vW (n : Nat) : Pure Tryz.prog 5 Dq rE (mZ n) :=
 wF (Γ := tX _ [(10, oU Va Vb (shown21 n)), (14, oU Ei vU (lU n)), (12, oU zM rC (kY n))] []) (an := Cc n) Tryz.func5 rfl (by kernel_rfl) Cb (lK (all_cons (kG (Vd n)) (all_cons (kG (Kl n)) (all_cons (kG (Dp n)) (all_nil)))) (lM)) mixed (jB _ _ rfl) (fun x => by kernel_rfl)
end Go.Dec
