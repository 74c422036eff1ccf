/- Part of a proof over this seat: a library of my own, and what it says of this seat. No statement is proved here. -/
import Derived.Test.YtlimifngdjkogaaGreatDoorProg
import Derived.Test.YtlimifngdjkogaaGreatDoorPartBT
import Derived.Test.YtlimifngdjkogaaGreatDoorPartBU
import Derived.KernelRfl
namespace Go.Dec
open Go.Proofs
set_option linter.unusedVariables false
def tab : Tab := [(3, ⟨.int .i64, 1, 8, [.val (.int .i64) 0], some (.int .i64), false⟩),
 (4, ⟨.bool, 1, 1, [.val .bool false], some .bool, false⟩),
 (5, ⟨.int .u8, 1, 1, [.val (.int .u8) 0], some (.int .u8), false⟩),
 (9, ⟨.str, 1, 16, [.val .str []], some .str, false⟩),
 (22, ⟨.slice 25, 1, 24, [.bL], some (.slice dA), false⟩),
 (25, ⟨.struct [(0, 9), (1, 4)], 2, 24, [.val .str [], .val .bool false], some dA, true⟩),
 (28, ⟨.slice 106, 1, 24, [.bL], some (.slice dA), false⟩),
 (97, ⟨.ptr 100, 1, 8, [.gF], none, false⟩),
 (98, ⟨.slice 5, 1, 24, [.bL], some (.slice (.int .u8)), false⟩),
 (100, ⟨.struct [(0, 97), (1, 98)], 2, 32, [.gF, .bL], none, false⟩),
 (102, ⟨.iface false, 1, 16, [.val .err false], some .err, false⟩),
 (106, ⟨.struct [(0, 9), (1, 4)], 2, 24, [.val .str [], .val .bool false], some dA, true⟩)]
theorem zY : aS aA.prog tab := Nz (by kernel_rfl)
theorem mixed : aA.prog.follows .mixedOrders = true := by kernel_rfl
abbrev jC : Sh := ⟨2, [⟨0, false, [.ptr 0 0]⟩, ⟨1, false, [.v .str]⟩], [.box 100 [.aY 0 0, .own 1], .row 5 (.int .u8)]⟩
abbrev fD : Sh := ⟨2, [⟨0, false, [.v (.int .i64)]⟩, ⟨1, false, [.v .err]⟩], [.box 100 [.aY 0 0, .own 1], .row 5 (.int .u8)]⟩
abbrev Bu : List Ty := [.slice dA]
abbrev uU : List Ty := [.str]
abbrev zZ : List Ty := [.slice dA]
abbrev sU : List Ty := [.slice dA]
abbrev Aa : List Ty := [.slice dA]
abbrev sV : List Ty := [.str]
abbrev Dy : List Ty := [.slice dA]
abbrev sW : List Ty := [.bool]
def nN (n : Nat) : An (fD.X) := .nil
theorem lI (n : Nat) : Es aA.prog 32 jC fD (bE n) :=
 zCh (Γ := Cu _ [(55, peM oL oM (lT n))] []) (an := nN n) (co := [.gc [0, 1]]) aA.func32 rfl (by kernel_rfl) zY (vG (all_cons (Pv (yH n)) (all_nil)) (vH)) mixed (oC _ _ rfl) (by kernel_rfl) (by kernel_rfl) (fun x => by kernel_rfl)
def Si (n : Nat) : An (dM uU) := (.mk .nil (.mk .nil (.mk .nil (.mk (.mk .nil (.mk (.loop ⟨23, [⟨3, false, [.ptr 0 0]⟩, ⟨4, false, [.v .str]⟩, ⟨7, false, [.v (.slice dA)]⟩, ⟨8, false, [.v (.int .i64)]⟩, ⟨9, false, [.v (.int .i64)]⟩], [.box 100 [.aY 0 0, .own 1], .row 5 (.int .u8)]⟩ [.keep [false, false, false, true, true, false, false, true, true, true], .gcA 0, .ownB 0 1 98, .orn 0 0 0 0, .gcA 0] [.keep [false, false, false, true, true, false, false, true, true, true], .gcA 0, .gcA 0] n .nil) .nil []) []) .nil []) []) []) [])
theorem Hl (n : Nat) : Pure aA.prog 10 Bu uU (nK n) :=
 Ai (Γ := Cu _ [(32, peM jC fD (bE n)), (33, peM nJ jY (Builder_String n))] []) (an := Si n) aA.func10 rfl (by kernel_rfl) zY (vG (all_cons (Pv (lI n)) (all_cons (Pv (xW n)) (all_nil))) (vH)) mixed (oC _ _ rfl) (fun x => by kernel_rfl)
def Ml (n : Nat) : An (dM sU) := (.mk .nil (.mk .nil (.mk (.mk .nil (.mk (.loop ⟨20, [⟨0, false, [.v (.slice dA)]⟩, ⟨3, false, [.own 0]⟩, ⟨4, false, [.v (.int .i64)]⟩], [.row 106 dA]⟩ [.keep [true, false, false, true, true], .gcA 0, .zBq 3 28, .gcA 0] [.keep [true, false, false, true, true], .gcA 0, .gcA 0] n .nil) .nil []) []) .nil []) []) [])
theorem Dz (n : Nat) : Pure aA.prog 12 zZ sU (iR n) :=
 Ai (Γ := Cu _ [] []) (an := Ml n) aA.func12 rfl (by kernel_rfl) zY (vG (all_nil) (vH)) mixed (oC _ _ rfl) (fun x => by kernel_rfl)
def Mq (n : Nat) : An (dM sV) := (.mk .nil (.mk .nil (.mk (.mk .nil (.mk (.loop ⟨39, [⟨0, false, [.v (.slice dA)]⟩, ⟨3, false, [.v .str]⟩, ⟨4, false, [.v (.int .i64)]⟩], []⟩ [.keep [true, false, false, true, true, false, false, false, false, false, false, false, false, false, false, false, false, false, false, false, false], .gcA 0, .gcA 0] [.keep [true, false, false, true, true, false, false, false, false, false, false, false, false, false, false, false, false, false, false, false, false], .gcA 0, .gcA 0] n .nil) .nil []) []) .nil []) []) [])
theorem Ea (n : Nat) : Pure aA.prog 11 Aa sV (iT n) :=
 Ai (Γ := Cu _ [] []) (an := Mq n) aA.func11 rfl (by kernel_rfl) zY (vG (all_nil) (vH)) mixed (oC _ _ rfl) (fun x => by kernel_rfl)
def Ay (n : Nat) : An (dM sW) := (.mk .nil (.mk .nil (.mk .nil (.mk (.mk .nil (.mk (.loop ⟨65, [⟨0, false, [.v (.slice dA)]⟩, ⟨3, false, [.v (.int .i64)]⟩, ⟨4, false, [.v (.int .i64)]⟩], []⟩ [.keep [true, false, false, true, true, false, false, false, false, false, false, false, false, false, false, false, false, false, false, false, false, false, false, false, false, false, false, false, false, false, false, false, false, false, false, false, false, false, false, false, false, false, false, false, false, false, false, false, false, false, false, false, false, false, false, false, false, false, false, false, false, false, false, false], .gcA 0, .gcA 0] [.keep [true, false, false, true, true, false, false, false, false, false, false, false, false, false, false, false, false, false, false, false, false, false, false, false, false, false, false, false, false, false, false, false, false, false, false, false, false, false, false, false, false, false, false, false, false, false, false, false, false, false, false, false, false, false, false, false, false, false, false, false, false, false, false, false], .gcA 0, .gcA 0] n .nil) .nil []) []) .nil []) []) []) [])
theorem vU (n : Nat) : Pure aA.prog 3 Dy sW (nL n) :=
 Ai (Γ := Cu _ [(9, Cq Sb Sc (shown15 n)), (10, Cq Bu uU (nK n)), (12, Cq zZ sU (iR n)), (11, Cq Aa sV (iT n))] []) (an := Ay n) aA.func3 rfl (by kernel_rfl) zY (vG (all_cons (Aj (Sg n)) (all_cons (Aj (Hl n)) (all_cons (Aj (Dz n)) (all_cons (Aj (Ea n)) (all_nil))))) (vH)) mixed (oC _ _ rfl) (fun x => by kernel_rfl)
end Go.Dec
