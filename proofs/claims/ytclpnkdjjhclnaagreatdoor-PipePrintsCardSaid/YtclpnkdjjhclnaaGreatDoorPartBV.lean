/- Part of a proof over this seat: a library of my own, and what it says of this seat. No statement is proved here. -/
import Derived.Test.YtclpnkdjjhclnaaGreatDoorProg
import Derived.Test.YtclpnkdjjhclnaaGreatDoorPartBT
import Derived.Test.YtclpnkdjjhclnaaGreatDoorPartBU
import Derived.KernelRfl
namespace Go.Dec
open Go.Proofs
set_option linter.unusedVariables false
def tab : Tab := [(3, ⟨.int .i64, 1, 8, [.val (.int .i64) 0], some (.int .i64), false⟩),
 (4, ⟨.bool, 1, 1, [.val .bool false], some .bool, false⟩),
 (5, ⟨.int .u8, 1, 1, [.val (.int .u8) 0], some (.int .u8), false⟩),
 (9, ⟨.str, 1, 16, [.val .str []], some .str, false⟩),
 (23, ⟨.slice 5, 1, 24, [.bJ], some (.slice (.int .u8)), false⟩),
 (28, ⟨.int .i64, 1, 8, [.val (.int .i64) 0], some (.int .i64), false⟩),
 (33, ⟨.slice 43, 1, 24, [.bJ], some (.slice (.slice .str)), false⟩),
 (43, ⟨.slice 9, 1, 24, [.bJ], some (.slice .str), false⟩),
 (52, ⟨.func, 1, 8, [.val .opq Value.nilFunc], some .opq, false⟩),
 (66, ⟨.slice 68, 1, 24, [.bJ], some (.slice vK), false⟩),
 (68, ⟨.struct [(0, 9), (1, 9)], 2, 32, [.val .str [], .val .str []], some vK, true⟩)]
theorem lZ : aS Tryz.prog tab := Px (by kernel_rfl)
theorem mixed : Tryz.prog.follows .mixedOrders = true := by kernel_rfl
abbrev wX : List Ty := [.slice (.slice .str), .slice vK]
abbrev pF : List Ty := [.bool]
abbrev zK : List Ty := [.int .u8]
abbrev rD : List Ty := [.bool]
abbrev gB : Sh := ⟨2, [⟨0, false, [.v (.slice (.int .u8))]⟩, ⟨1, false, [.clo 27 []]⟩], []⟩
abbrev dA : Sh := ⟨1, [⟨0, false, [.v (.int .i64)]⟩], []⟩
abbrev fA : Sh := ⟨2, [⟨0, false, [.v (.slice (.int .u8))]⟩, ⟨1, false, [.clo 27 []]⟩], []⟩
abbrev bU : Sh := ⟨1, [⟨0, false, [.v .bool]⟩], []⟩
abbrev vZ : List Ty := [.str]
abbrev qE : List Ty := [.str]
abbrev Dq : List Ty := [.slice (.slice .str)]
abbrev wB : List Ty := [.str, .int .i64]
abbrev Ns : List Ty := [.str, .int .u8]
abbrev Bo : List Ty := [.bool]
abbrev uI : List Ty := [.str]
abbrev nW : List Ty := [.str]
abbrev Bp : List Ty := [.slice (.slice .str)]
abbrev uJ : List Ty := [.str, .int .i64]
abbrev rE : List Ty := [.slice (.slice .str), .str]
abbrev lN : List Ty := [.bool]
def Iy (n : Nat) : An (bV pF) := (.mk .nil (.mk (.mk .nil (.mk (.loop ⟨68, [⟨0, false, [.v (.slice (.slice .str))]⟩, ⟨1, false, [.v (.slice vK)]⟩, ⟨5, false, [.v (.int .i64)]⟩], []⟩ [.keep [true, true, false, false, false, true], .gcA 0, .gcA 0] [.keep [true, true, false, false, false, true], .gcA 0, .gcA 0] n (.mk .nil (.mk (.mk (.mk (.mk .nil (.mk (.loop ⟨68, [⟨0, false, [.v (.slice (.slice .str))]⟩, ⟨1, false, [.v (.slice vK)]⟩, ⟨5, false, [.v (.int .i64)]⟩, ⟨6, false, [.v (.int .i64)]⟩], []⟩ [.keep [true, true, false, false, false, true, true], .gcA 0, .gcA 0] [.keep [true, true, false, false, false, true, true], .gcA 0, .gcA 0] n .nil) .nil []) []) .nil []) .nil []) .nil []) [])) .nil []) []) (.mk (.mk .nil (.mk (.loop ⟨68, [⟨0, false, [.v (.slice (.slice .str))]⟩, ⟨1, false, [.v (.slice vK)]⟩, ⟨7, false, [.v (.int .i64)]⟩], []⟩ [.keep [true, true, false, false, false, false, false, true], .gcA 0, .gcA 0] [.keep [true, true, false, false, false, false, false, true], .gcA 0, .gcA 0] n .nil) .nil []) []) .nil []) []) [])
theorem Bq (n : Nat) : Pure Tryz.prog 11 wX pF (mJ n) :=
 nD (Γ := qX _ [] []) (an := Iy n) Tryz.func11 rfl (by kernel_rfl) lZ (kE (all_nil) (kF)) mixed (iD _ _ rfl) (fun x => by kernel_rfl)
def Ls (n : Nat) : An (bV rD) := .nil
theorem Cz (n : Nat) : Pure Tryz.prog 27 zK rD (kU n) :=
 nD (Γ := qX _ [(28, lM qP qQ (strings_IndexByte n))] []) (an := Ls n) Tryz.func27 rfl (by kernel_rfl) lZ (kE (all_cons (gY (vY n)) (all_nil)) (kF)) mixed (iD _ _ rfl) (fun x => by kernel_rfl)
def kK (n : Nat) : An (dA.X) := (.mk .nil (.mk (.mk .nil (.mk (.loop ⟨19, [⟨0, false, [.v (.slice (.int .u8))]⟩, ⟨1, false, [.clo 27 []]⟩, ⟨7, false, [.v (.int .i64)]⟩, ⟨8, false, [.v (.int .i64)]⟩], []⟩ [.keep [true, true, false, false, false, false, false, true, true], .gcA 0, .gcA 0] [.keep [true, true, false, false, false, false, false, true, true], .gcA 0, .gcA 0] n .nil) .nil []) []) .nil []) [])
theorem jG (n : Nat) : Pd Tryz.prog 54 gB dA (bK n) :=
 Ri (Γ := qX _ [(27, lM zK rD (kU n))] []) (an := kK n) (co := [.gc []]) Tryz.func54 rfl (by kernel_rfl) lZ (kE (all_cons (gY (Cz n)) (all_nil)) (kF)) mixed (iD _ _ rfl) (by kernel_rfl) (by kernel_rfl) (fun x => by kernel_rfl)
def jT (n : Nat) : An (bU.X) := .nil
theorem iZ (n : Nat) : Pd Tryz.prog 29 fA bU (aZ n) :=
 Ri (Γ := qX _ [(54, peM gB dA (bK n))] []) (an := jT n) (co := [.gc []]) Tryz.func29 rfl (by kernel_rfl) lZ (kE (all_cons (zAo (jG n)) (all_nil)) (kF)) mixed (iD _ _ rfl) (by kernel_rfl) (by kernel_rfl) (fun x => by kernel_rfl)
def Tq (n : Nat) : An (bV qE) := .nil
theorem vL (n : Nat) : Pure Tryz.prog 15 vZ qE (jR n) :=
 nD (Γ := qX _ [(29, peM fA bU (aZ n)), (30, lM nX nY (strings_ReplaceAll n))] []) (an := Tq n) Tryz.func15 rfl (by kernel_rfl) lZ (kE (all_cons (zAo (iZ n)) (all_cons (gY (uM n)) (all_nil))) (kF)) mixed (iD _ _ rfl) (fun x => by kernel_rfl)
def Tt (n : Nat) : An (bV wB) := (.mk .nil (.mk .nil (.mk (.mk .nil (.mk (.loop ⟨45, [⟨4, false, [.own 0]⟩, ⟨10, false, [.v (.slice (.slice .str))]⟩, ⟨11, false, [.v (.int .i64)]⟩, ⟨12, false, [.v (.int .i64)]⟩], [.row 9 .str]⟩ [.keep [false, false, false, false, true, false, false, false, false, false, true, true, true], .gcA 0, .Xh 4 43, .gcA 0] [.keep [false, false, false, false, true, false, false, false, false, false, true, true, true], .gcA 0, .gcA 0] n (.mk .nil (.mk .nil (.mk (.mk (.mk .nil (.mk .nil (.mk .nil (.mk (.mk .nil (.mk (.loop ⟨45, [⟨4, false, [.own 0]⟩, ⟨7, false, [.own 1]⟩, ⟨10, false, [.v (.slice (.slice .str))]⟩, ⟨11, false, [.v (.int .i64)]⟩, ⟨12, false, [.v (.int .i64)]⟩, ⟨25, false, [.v (.slice .str)]⟩, ⟨26, false, [.v (.int .i64)]⟩, ⟨27, false, [.v (.int .i64)]⟩], [.row 9 .str, .row 9 .str]⟩ [.keep [false, false, false, false, true, false, false, true, false, false, true, true, true, false, false, false, false, false, false, false, false, false, false, false, false, true, true, true], .gcA 0, .Xh 7 43, .gcA 0] [.keep [false, false, false, false, true, false, false, true, false, false, true, true, true, false, false, false, false, false, false, false, false, false, false, false, false, true, true, true], .gcA 0, .gcA 0] n .nil) .nil []) []) .nil []) []) []) []) .nil []) .nil []) []) [])) .nil []) []) .nil []) []) [])
theorem Iz (n : Nat) : Pure Tryz.prog 13 Dq wB (sK n) :=
 nD (Γ := qX _ [(15, lM vZ qE (jR n)), (26, lM zJ rC (strings_Join n))] []) (an := Tt n) Tryz.func13 rfl (by kernel_rfl) lZ (kE (all_cons (gY (vL n)) (all_cons (gY (Cy n)) (all_nil))) (kF)) mixed (iD _ _ rfl) (fun x => by kernel_rfl)
def Zn (n : Nat) : An (bV Bo) := (.mk .nil (.mk (.mk .nil (.mk (.loop ⟨17, [⟨0, false, [.v .str]⟩, ⟨1, false, [.v (.int .u8)]⟩, ⟨5, false, [.v (.int .i64)]⟩], []⟩ [.keep [true, true, false, false, false, true], .gcA 0, .gcA 0] [.keep [true, true, false, false, false, true], .gcA 0, .gcA 0] n .nil) .nil []) []) .nil []) [])
theorem Ol (n : Nat) : Pure Tryz.prog 31 Ns Bo (bM n) :=
 nD (Γ := qX _ [] []) (an := Zn n) Tryz.func31 rfl (by kernel_rfl) lZ (kE (all_nil) (kF)) mixed (iD _ _ rfl) (fun x => by kernel_rfl)
def Om (n : Nat) : An (bV nW) := (.mk .nil (.mk .nil (.mk .nil (.mk (.mk .nil (.mk (.loop ⟨60, [⟨0, false, [.v .str]⟩, ⟨3, false, [.v .bool]⟩, ⟨4, false, [.v .str]⟩, ⟨5, false, [.v (.int .i64)]⟩], []⟩ [.keep [true, false, false, true, true, true, false, false, false, false, false, false, false, false, false, false, false, false, false, false, false, false, false, false, false, false, false, false, false, false, false, false, false, false, false, false], .gcA 0, .gcA 0] [.keep [true, false, false, true, true, true, false, false, false, false, false, false, false, false, false, false, false, false, false, false, false, false, false, false, false, false, false, false, false, false, false, false, false, false, false, false], .gcA 0, .gcA 0] n (.mk .nil (.mk (.mk (.mk .nil (.mk (.join ⟨60, [⟨0, false, [.v .str]⟩, ⟨3, false, [.v .bool]⟩, ⟨4, false, [.v .str]⟩, ⟨5, false, [.v (.int .i64)]⟩, ⟨6, false, [.v (.int .u8)]⟩], []⟩ [.keep [true, false, false, true, true, true, true, false, false, false, false, false, false, false, false, false, false, false, false, false, false, false, false, false, false, false, false, false, false, false, false, false, false, false, false, false], .gcA 0] .nil) .nil []) []) .nil []) .nil []) [])) .nil []) []) .nil []) []) []) [])
theorem uK (n : Nat) : Pure Tryz.prog 16 uI nW (eH n) :=
 nD (Γ := qX _ [(31, lM Ns Bo (bM n))] []) (an := Om n) Tryz.func16 rfl (by kernel_rfl) lZ (kE (all_cons (gY (Ol n)) (all_nil)) (kF)) mixed (iD _ _ rfl) (fun x => by kernel_rfl)
def Oo (n : Nat) : An (bV uJ) := (.mk .nil (.mk .nil (.mk (.mk .nil (.mk (.loop ⟨56, [⟨0, false, [.v (.slice (.slice .str))]⟩, ⟨4, false, [.v .str]⟩, ⟨5, false, [.v (.int .i64)]⟩], []⟩ [.keep [true, false, false, false, true, true], .gcA 0, .gcA 0] [.keep [true, false, false, false, true, true], .gcA 0, .gcA 0] n (.mk .nil (.mk (.mk (.mk .nil (.mk .nil (.mk .nil (.mk (.loop ⟨56, [⟨0, false, [.v (.slice (.slice .str))]⟩, ⟨4, false, [.v .str]⟩, ⟨5, false, [.v (.int .i64)]⟩, ⟨6, false, [.v (.int .i64)]⟩], []⟩ [.keep [true, false, false, false, true, true, true], .gcA 0, .gcA 0] [.keep [true, false, false, false, true, true, true], .gcA 0, .gcA 0] n .nil) .nil []) []) []) []) .nil []) .nil []) [])) .nil []) []) .nil []) []) [])
theorem Fj (n : Nat) : Pure Tryz.prog 14 Bp uJ (qD n) :=
 nD (Γ := qX _ [(16, lM uI nW (eH n))] []) (an := Oo n) Tryz.func14 rfl (by kernel_rfl) lZ (kE (all_cons (gY (uK n)) (all_nil)) (kF)) mixed (iD _ _ rfl) (fun x => by kernel_rfl)
def Br (n : Nat) : An (bV lN) := .nil
theorem nG (n : Nat) : Pure Tryz.prog 4 rE lN (mW n) :=
 nD (Γ := qX _ [(11, lM wX pF (mJ n)), (12, lM Tm Tn (shown21 n)), (13, lM Dq wB (sK n)), (14, lM Bp uJ (qD n)), (15, lM vZ qE (jR n)), (16, lM uI nW (eH n))] []) (an := Br n) Tryz.func4 rfl (by kernel_rfl) lZ (kE (all_cons (gY (Bq n)) (all_cons (gY (Tp n)) (all_cons (gY (Iz n)) (all_cons (gY (Fj n)) (all_cons (gY (vL n)) (all_cons (gY (uK n)) (all_nil))))))) (kF)) mixed (iD _ _ rfl) (fun x => by kernel_rfl)
end Go.Dec
