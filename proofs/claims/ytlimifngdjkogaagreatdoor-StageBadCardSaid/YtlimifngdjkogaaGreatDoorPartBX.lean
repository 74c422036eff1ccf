/- Part of a proof over this seat: a library of my own, and what it says of this seat. No statement is proved here. -/
import Derived.Test.YtlimifngdjkogaaGreatDoorProg
import Derived.Test.YtlimifngdjkogaaGreatDoorPartBV
import Derived.Test.YtlimifngdjkogaaGreatDoorPartBW
import Derived.KernelRfl
namespace Go.Dec
open Go.Proofs
set_option linter.unusedVariables false
def tab : Tab := [(3, ⟨.int .i64, 1, 8, [.val (.int .i64) 0], some (.int .i64), false⟩),
 (4, ⟨.bool, 1, 1, [.val .bool false], some .bool, false⟩),
 (5, ⟨.int .u8, 1, 1, [.val (.int .u8) 0], some (.int .u8), false⟩),
 (9, ⟨.str, 1, 16, [.val .str []], some .str, false⟩),
 (22, ⟨.slice 25, 1, 24, [.aS], some (.slice kR), false⟩),
 (25, ⟨.struct [(0, 9), (1, 4)], 2, 24, [.val .str [], .val .bool false], some kR, true⟩),
 (31, ⟨.slice 211, 1, 24, [.aS], some (.slice lC), false⟩),
 (32, ⟨.slice 55, 1, 24, [.aS], some (.slice dW), false⟩),
 (34, ⟨.struct [(0, 4), (1, 31), (2, 32)], 3, 56, [.val .bool false, .aS, .aS], some Cq, false⟩),
 (37, ⟨.slice 148, 1, 24, [.aS], some (.slice Ym), false⟩),
 (38, ⟨.slice 203, 1, 24, [.aS], some (.slice kR), false⟩),
 (40, ⟨.struct [(0, 3), (1, 3), (2, 3), (3, 3), (4, 3), (5, 9), (6, 9), (7, 4), (8, 4), (9, 4), (10, 37), (11, 38)], 12, 128, [.val (.int .i64) 0, .val (.int .i64) 0, .val (.int .i64) 0, .val (.int .i64) 0, .val (.int .i64) 0, .val .str [], .val .str [], .val .bool false, .val .bool false, .val .bool false, .aS, .aS], some sM, false⟩),
 (43, ⟨.struct [(0, 9), (1, 4)], 2, 24, [.val .str [], .val .bool false], some kR, true⟩),
 (44, ⟨.slice 57, 1, 24, [.aS], some (.slice bI), false⟩),
 (47, ⟨.slice 9, 1, 24, [.aS], some (.slice .str), false⟩),
 (50, ⟨.struct [(0, 3), (1, 3), (2, 3)], 3, 24, [.val (.int .i64) 0, .val (.int .i64) 0, .val (.int .i64) 0], some Rv, true⟩),
 (52, ⟨.struct [(0, 50), (3, 50), (6, 4)], 7, 56, [.val (.int .i64) 0, .val (.int .i64) 0, .val (.int .i64) 0, .val (.int .i64) 0, .val (.int .i64) 0, .val (.int .i64) 0, .val .bool false], some vR, true⟩),
 (53, ⟨.slice 334, 1, 24, [.aS], some (.slice Yl), false⟩),
 (55, ⟨.struct [(0, 52), (7, 5), (8, 9), (9, 9), (10, 3), (11, 3), (12, 3), (13, 53), (14, 4), (15, 4)], 16, 152, [.val (.int .i64) 0, .val (.int .i64) 0, .val (.int .i64) 0, .val (.int .i64) 0, .val (.int .i64) 0, .val (.int .i64) 0, .val .bool false, .val (.int .u8) 0, .val .str [], .val .str [], .val (.int .i64) 0, .val (.int .i64) 0, .val (.int .i64) 0, .aS, .val .bool false, .val .bool false], some dW, false⟩),
 (57, ⟨.struct [(0, 9), (1, 9)], 2, 32, [.val .str [], .val .str []], some bI, true⟩),
 (61, ⟨.struct [(0, 34), (3, 4), (4, 47), (5, 4)], 6, 96, [.val .bool false, .aS, .aS, .val .bool false, .aS, .val .bool false], some oC, false⟩),
 (63, ⟨.struct [(0, 22), (1, 44), (2, 3), (3, 3)], 4, 64, [.aS, .aS, .val (.int .i64) 0, .val (.int .i64) 0], some tT, false⟩),
 (64, ⟨.int .i64, 1, 8, [.val (.int .i64) 0], some (.int .i64), false⟩),
 (69, ⟨.slice 43, 1, 24, [.aS], some (.slice kR), false⟩),
 (73, ⟨.slice 124, 1, 24, [.aS], some (.slice bI), false⟩),
 (124, ⟨.struct [(0, 9), (1, 9)], 2, 32, [.val .str [], .val .str []], some bI, true⟩),
 (145, ⟨.slice 215, 1, 24, [.aS], some (.slice rZ), false⟩),
 (148, ⟨.struct [(0, 4), (1, 3)], 2, 16, [.val .bool false, .val (.int .i64) 0], some Ym, true⟩),
 (162, ⟨.slice 47, 1, 24, [.aS], some (.slice (.slice .str)), false⟩),
 (188, ⟨.int .u64, 1, 8, [.val (.int .u64) 0], some (.int .u64), false⟩),
 (203, ⟨.struct [(0, 9), (1, 4)], 2, 24, [.val .str [], .val .bool false], some kR, true⟩),
 (211, ⟨.struct [(0, 145), (1, 4)], 2, 32, [.aS, .val .bool false], some lC, false⟩),
 (213, ⟨.arr 4 188, 4, 32, [.val (.arr 4 (.int .u64)) ([0, 0, 0, 0])], some (.arr 4 (.int .u64)), true⟩),
 (215, ⟨.struct [(0, 3), (1, 213), (5, 3), (6, 3), (7, 3), (8, 3), (9, 3)], 10, 80, [.val (.int .i64) 0, .val (.arr 4 (.int .u64)) ([0, 0, 0, 0]), .val (.int .i64) 0, .val (.int .i64) 0, .val (.int .i64) 0, .val (.int .i64) 0, .val (.int .i64) 0], some rZ, true⟩),
 (334, ⟨.struct [(0, 9), (1, 3)], 2, 24, [.val .str [], .val (.int .i64) 0], some Yl, true⟩)]
theorem oW : aT Tryz.prog tab := Oh (by kernel_rfl)
theorem mixed : Tryz.prog.follows .mixedOrders = true := by kernel_rfl
abbrev Ic : List Ty := [.slice bI]
abbrev yE : List Ty := [.bool]
abbrev vX : List Ty := [.str, .str, .slice bI, .slice .str]
abbrev nM : List Ty := [.bool]
abbrev sH : List Ty := [oC, .str, .slice bI]
abbrev mJ : List Ty := [.slice kR, .int .i64]
abbrev Ie : List Ty := [oC, .str, .slice bI, .int .i64]
abbrev yF : List Ty := [tT, .int .i64]
abbrev Aj : List Ty := [oC]
abbrev sI : List Ty := [.slice .str, .slice .str]
abbrev Ak : List Ty := [.slice bI]
abbrev sJ : List Ty := [.slice bI]
abbrev Cr : List Ty := [.slice bI, .slice bI]
abbrev uR : List Ty := [.bool]
abbrev uH : List Ty := [.str, .slice bI, .slice .str, .int .i64]
abbrev mK : List Ty := [.bool]
def Tv (n : Nat) : An (bQ yE) := (.mk .nil (.mk .nil (.mk (.mk .nil (.mk (.loop ⟨19, [⟨3, false, [.v .str]⟩, ⟨6, false, [.v (.slice bI)]⟩, ⟨7, false, [.v (.int .i64)]⟩, ⟨8, false, [.v (.int .i64)]⟩], []⟩ [.keep [false, false, false, true, false, false, true, true, true], .gcA 0, .gcA 0] [.keep [false, false, false, true, false, false, true, true, true], .gcA 0, .gcA 0] n .nil) .nil []) []) .nil []) []) [])
theorem Jo (n : Nat) : Pure Tryz.prog 39 Ic yE (tV n) :=
 lJ (Γ := uK _ [] []) (an := Tv n) Tryz.func39 rfl (by kernel_rfl) oW (lK (all_nil) (lM)) mixed (iN _ _ rfl) (fun x => by kernel_rfl)
def Ig (n : Nat) : An (bQ nM) := (.mk .nil (.mk .nil (.mk (.mk .nil (.mk (.loop ⟨68, [⟨0, false, [.v .str]⟩, ⟨2, false, [.v (.slice bI)]⟩, ⟨3, false, [.v (.slice .str)]⟩, ⟨9, false, [.v (.int .i64)]⟩, ⟨10, false, [.v (.int .i64)]⟩], []⟩ [.keep [true, false, true, true, false, false, false, false, false, true, true], .gcA 0, .gcA 0] [.keep [true, false, true, true, false, false, false, false, false, true, true], .gcA 0, .gcA 0] n .nil) .nil []) []) (.mk (.mk .nil (.mk (.loop ⟨68, [⟨0, false, [.v .str]⟩, ⟨2, false, [.v (.slice bI)]⟩, ⟨3, false, [.v (.slice .str)]⟩, ⟨9, false, [.v (.int .i64)]⟩, ⟨11, false, [.v (.int .i64)]⟩], []⟩ [.keep [true, false, true, true, false, false, false, false, false, true, false, true], .gcA 0, .gcA 0] [.keep [true, false, true, true, false, false, false, false, false, true, false, true], .gcA 0, .gcA 0] n .nil) .nil []) []) .nil []) []) []) [])
theorem Al (n : Nat) : Pure Tryz.prog 17 vX nM (kS n) :=
 lJ (Γ := uK _ [(39, iD Ic yE (tV n))] []) (an := Ig n) Tryz.func17 rfl (by kernel_rfl) oW (lK (all_cons (dG (Jo n)) (all_nil)) (lM)) mixed (iN _ _ rfl) (fun x => by kernel_rfl)
def Ls (n : Nat) : An (bQ mJ) := (.mk .nil (.mk .nil (.mk (.mk .nil (.mk (.loop ⟨57, [⟨2, false, [.v (.slice bI)]⟩, ⟨6, false, [.own 0]⟩, ⟨7, false, [.v (.int .i64)]⟩, ⟨24, false, [.v (.slice .str)]⟩, ⟨25, false, [.v (.int .i64)]⟩, ⟨26, false, [.v (.int .i64)]⟩], [.row 43 kR]⟩ [.keep [false, false, true, false, false, false, true, true, false, false, false, false, false, false, false, false, false, false, false, false, false, false, false, false, true, true, true], .gcA 0, .Vy 6 69, .gcA 0] [.keep [false, false, true, false, false, false, true, true, false, false, false, false, false, false, false, false, false, false, false, false, false, false, false, false, true, true, true], .gcA 0, .gcA 0] n .nil) .nil []) []) (.mk (.mk .nil (.mk (.loop ⟨57, [⟨6, false, [.own 0]⟩, ⟨7, false, [.v (.int .i64)]⟩, ⟨46, false, [.v (.int .i64)]⟩, ⟨47, false, [.v (.int .i64)]⟩], [.row 43 kR]⟩ [.keep [false, false, false, false, false, false, true, true, false, false, false, false, false, false, false, false, false, false, false, false, false, false, false, false, false, false, false, false, false, false, false, false, false, false, false, false, false, false, false, false, false, false, false, false, false, false, true, true], .gcA 0, .gcA 0] [.keep [false, false, false, false, false, false, true, true, false, false, false, false, false, false, false, false, false, false, false, false, false, false, false, false, false, false, false, false, false, false, false, false, false, false, false, false, false, false, false, false, false, false, false, false, false, false, true, true], .gcA 0, .gcA 0] n .nil) .nil []) []) .nil []) []) []) [])
theorem sK (n : Nat) : Pure Tryz.prog 21 sH mJ (jA n) :=
 lJ (Γ := uK _ [(45, iD pU pV (iT n)), (46, iD uF uG (nK n))] []) (an := Ls n) Tryz.func21 rfl (by kernel_rfl) oW (lK (all_cons (dG (vW n)) (all_cons (dG (yR n)) (all_nil))) (lM)) mixed (iN _ _ rfl) (fun x => by kernel_rfl)
def Tw (n : Nat) : An (bQ yF) := (.mk .nil (.scope 0 .nil .nil) [])
theorem Jp (n : Nat) : Pure Tryz.prog 19 Ie yF (tX n) :=
 lJ (Γ := uK _ [(40, iD pQ pR (kZ n)), (21, iD sH mJ (jA n)), (15, iD vU vV (pK n)), (31, iD sF sG (tQ n)), (14, iD tY tZ (vP n)), (16, iD uD uE (vQ n))] []) (an := Tw n) Tryz.func19 rfl (by kernel_rfl) oW (lK (all_cons (dG (vT n)) (all_cons (dG (sK n)) (all_cons (dG (Ai n)) (all_cons (dG (yD n)) (all_cons (dG (yP n)) (all_cons (dG (yQ n)) (all_nil))))))) (lM)) mixed (iN _ _ rfl) (fun x => by kernel_rfl)
def Lu (n : Nat) : An (bQ sI) := .nil
theorem Ei (n : Nat) : Pure Tryz.prog 20 Aj sI (oD n) :=
 lJ (Γ := uK _ [(41, iD oU oV (pO n))] []) (an := Lu n) Tryz.func20 rfl (by kernel_rfl) oW (lK (all_cons (dG (uQ n)) (all_nil)) (lM)) mixed (iN _ _ rfl) (fun x => by kernel_rfl)
def Lv (n : Nat) : An (bQ sJ) := (.mk .nil (.mk .nil (.mk (.mk .nil (.mk (.loop ⟨20, [⟨0, false, [.v (.slice bI)]⟩, ⟨3, false, [.own 0]⟩, ⟨4, false, [.v (.int .i64)]⟩], [.row 124 bI]⟩ [.keep [true, false, false, true, true], .gcA 0, .Vy 3 73, .gcA 0] [.keep [true, false, false, true, true], .gcA 0, .gcA 0] n .nil) .nil []) []) .nil []) []) [])
theorem Ej (n : Nat) : Pure Tryz.prog 23 Ak sJ (kI n) :=
 lJ (Γ := uK _ [] []) (an := Lv n) Tryz.func23 rfl (by kernel_rfl) oW (lK (all_nil) (lM)) mixed (iN _ _ rfl) (fun x => by kernel_rfl)
def Ry (n : Nat) : An (bQ uR) := (.mk .nil (.mk .nil (.mk (.mk .nil (.mk (.loop ⟨26, [⟨0, false, [.v (.slice bI)]⟩, ⟨1, false, [.v (.slice bI)]⟩, ⟨5, false, [.v (.int .i64)]⟩], []⟩ [.keep [true, true, false, false, false, true], .gcA 0, .gcA 0] [.keep [true, true, false, false, false, true], .gcA 0, .gcA 0] n .nil) .nil []) []) .nil []) []) [])
theorem Ih (n : Nat) : Pure Tryz.prog 22 Cr uR (mI n) :=
 lJ (Γ := uK _ [] []) (an := Ry n) Tryz.func22 rfl (by kernel_rfl) oW (lK (all_nil) (lM)) mixed (iN _ _ rfl) (fun x => by kernel_rfl)
def El (n : Nat) : An (bQ mK) := .nil
theorem mO (n : Nat) : Pure Tryz.prog 6 uH mK (nL n) :=
 lJ (Γ := uK _ [(18, iD Rs Rt (shown16 n)), (17, iD vX nM (kS n)), (19, iD Ie yF (tX n)), (20, iD Aj sI (oD n)), (21, iD sH mJ (jA n)), (23, iD Ak sJ (kI n)), (22, iD Cr uR (mI n))] []) (an := El n) Tryz.func6 rfl (by kernel_rfl) oW (lK (all_cons (dG (Ru n)) (all_cons (dG (Al n)) (all_cons (dG (Jp n)) (all_cons (dG (Ei n)) (all_cons (dG (sK n)) (all_cons (dG (Ej n)) (all_cons (dG (Ih n)) (all_nil)))))))) (lM)) mixed (iN _ _ rfl) (fun x => by kernel_rfl)
end Go.Dec
