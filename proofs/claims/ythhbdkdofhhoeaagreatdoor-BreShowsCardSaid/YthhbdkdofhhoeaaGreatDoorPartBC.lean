/- Part of a proof over this seat: a library of my own, and what it says of this seat. No statement is proved here. -/
import Derived.Test.YthhbdkdofhhoeaaGreatDoorProg
import Derived.Test.YthhbdkdofhhoeaaGreatDoorPartBB
import Derived.Test.YthhbdkdofhhoeaaGreatDoorPartBA
import Derived.Test.YthhbdkdofhhoeaaGreatDoorPartAV
import Derived.KernelRfl
namespace Go.Dec
open Go.Proofs
set_option linter.unusedVariables false
def tab : Tab := [(3, ⟨.int .i64, 1, 8, [.val (.int .i64) 0], some (.int .i64), false⟩),
 (4, ⟨.bool, 1, 1, [.val .bool false], some .bool, false⟩),
 (5, ⟨.int .u8, 1, 1, [.val (.int .u8) 0], some (.int .u8), false⟩),
 (9, ⟨.str, 1, 16, [.val .str []], some .str, false⟩),
 (23, ⟨.int .u64, 1, 8, [.val (.int .u64) 0], some (.int .u64), false⟩),
 (24, ⟨.arr 4 23, 4, 32, [.val (.arr 4 (.int .u64)) ([0, 0, 0, 0])], some (.arr 4 (.int .u64)), true⟩),
 (25, ⟨.arr 4 23, 4, 32, [.val (.arr 4 (.int .u64)) ([0, 0, 0, 0])], some (.arr 4 (.int .u64)), true⟩),
 (26, ⟨.int .i64, 1, 8, [.val (.int .i64) 0], some (.int .i64), false⟩),
 (30, ⟨.arr 256 4, 256, 256, [.val (.arr 256 .bool) ([false, false, false, false, false, false, false, false, false, false, false, false, false, false, false, false, false, false, false, false, false, false, false, false, false, false, false, false, false, false, false, false, false, false, false, false, false, false, false, false, false, false, false, false, false, false, false, false, false, false, false, false, false, false, false, false, false, false, false, false, false, false, false, false, false, false, false, false, false, false, false, false, false, false, false, false, false, false, false, false, false, false, false, false, false, false, false, false, false, false, false, false, false, false, false, false, false, false, false, false, false, false, false, false, false, false, false, false, false, false, false, false, false, false, false, false, false, false, false, false, false, false, false, false, false, false, false, false, false, false, false, false, false, false, false, false, false, false, false, false, false, false, false, false, false, false, false, false, false, false, false, false, false, false, false, false, false, false, false, false, false, false, false, false, false, false, false, false, false, false, false, false, false, false, false, false, false, false, false, false, false, false, false, false, false, false, false, false, false, false, false, false, false, false, false, false, false, false, false, false, false, false, false, false, false, false, false, false, false, false, false, false, false, false, false, false, false, false, false, false, false, false, false, false, false, false, false, false, false, false, false, false, false, false, false, false, false, false, false, false, false, false, false, false, false, false, false, false, false, false, false, false, false, false, false, false])], some (.arr 256 .bool), true⟩),
 (35, ⟨.slice 57, 1, 24, [.dD], some (.slice aB), false⟩),
 (38, ⟨.slice 51, 1, 24, [.dD], some (.slice aB), false⟩),
 (51, ⟨.struct [(0, 3), (1, 24), (5, 3), (6, 3), (7, 3), (8, 3), (9, 3)], 10, 80, [.val (.int .i64) 0, .val (.arr 4 (.int .u64)) ([0, 0, 0, 0]), .val (.int .i64) 0, .val (.int .i64) 0, .val (.int .i64) 0, .val (.int .i64) 0, .val (.int .i64) 0], some aB, true⟩),
 (57, ⟨.struct [(0, 3), (1, 25), (5, 3), (6, 3), (7, 3), (8, 3), (9, 3)], 10, 80, [.val (.int .i64) 0, .val (.arr 4 (.int .u64)) ([0, 0, 0, 0]), .val (.int .i64) 0, .val (.int .i64) 0, .val (.int .i64) 0, .val (.int .i64) 0, .val (.int .i64) 0], some aB, true⟩),
 (61, ⟨.ptr 63, 1, 8, [.jQ], none, false⟩),
 (63, ⟨.struct [(0, 9), (1, 3)], 2, 24, [.val .str [], .val (.int .i64) 0], some zRg, true⟩),
 (65, ⟨.struct [(0, 26), (1, 3)], 2, 16, [.val (.int .i64) 0, .val (.int .i64) 0], some zMu, true⟩),
 (78, ⟨.ptr 81, 1, 8, [.jQ], none, false⟩),
 (79, ⟨.arr 10 4, 10, 10, [.val (.arr 10 .bool) ([false, false, false, false, false, false, false, false, false, false])], some (.arr 10 .bool), true⟩),
 (81, ⟨.struct [(0, 9), (1, 3), (2, 35), (3, 3), (4, 79)], 14, 72, [.val .str [], .val (.int .i64) 0, .dD, .val (.int .i64) 0, .val (.arr 10 .bool) ([false, false, false, false, false, false, false, false, false, false])], some Cv, false⟩),
 (85, ⟨.struct [(0, 38), (1, 3), (2, 79), (12, 3), (13, 26)], 14, 64, [.dD, .val (.int .i64) 0, .val (.arr 10 .bool) ([false, false, false, false, false, false, false, false, false, false]), .val (.int .i64) 0, .val (.int .i64) 0], some Cw, false⟩),
 (90, ⟨.slice 9, 1, 24, [.dD], some (.slice .str), false⟩),
 (96, ⟨.slice 5, 1, 24, [.dD], some (.slice (.int .u8)), false⟩),
 (105, ⟨.slice 3, 1, 24, [.dD], some (.slice (.int .i64)), false⟩),
 (115, ⟨.slice 25, 1, 24, [.dD], some (.slice (.arr 4 (.int .u64))), false⟩),
 (130, ⟨.struct [(0, 4), (1, 3), (2, 79), (12, 4)], 13, 32, [.val .bool false, .val (.int .i64) 0, .val (.arr 10 .bool) ([false, false, false, false, false, false, false, false, false, false]), .val .bool false], some zGg, true⟩),
 (135, ⟨.func, 1, 8, [.val .opq Value.nilFunc], some .opq, false⟩),
 (137, ⟨.iface false, 1, 16, [.val .err false], some .err, false⟩)]
theorem aV : bI Tryz.prog tab := Zb (by kernel_rfl)
theorem mixed : Tryz.prog.follows .mixedOrders = true := by kernel_rfl
abbrev lD : List Ty := [.str, .str]
abbrev gK : List Ty := [.bool]
abbrev mE : List Ty := [.str, .str]
abbrev iY : List Ty := [.bool]
abbrev iC : Sh := ⟨2, [⟨0, false, [.ptr 0 0]⟩, ⟨1, false, [.v .str]⟩], [.box 81 [.v .str, .v (.int .i64), .own 1, .v (.int .i64), .v (.arr 10 .bool)], .row 57 aB]⟩
abbrev fI : Sh := ⟨1, [⟨0, false, [.v .bool]⟩], [.box 81 [.v .str, .v (.int .i64), .own 1, .v (.int .i64), .v (.arr 10 .bool)], .row 57 aB]⟩
abbrev kV : Sh := ⟨2, [⟨0, false, [.ptr 0 0]⟩, ⟨1, false, [.v .str]⟩], [.box 81 [.v .str, .v (.int .i64), .own 1, .v (.int .i64), .v (.arr 10 .bool)], .row 57 aB]⟩
abbrev iN : Sh := ⟨1, [⟨0, false, [.v .bool]⟩], [.box 81 [.v .str, .v (.int .i64), .own 1, .v (.int .i64), .v (.arr 10 .bool)], .row 57 aB]⟩
abbrev jB : Sh := ⟨2, [⟨0, false, [.ptr 0 0]⟩, ⟨1, true, [.v (.int .i64), .v (.arr 4 (.int .u64)), .v (.int .i64), .v (.int .i64), .v (.int .i64), .v (.int .i64), .v (.int .i64)]⟩], [.box 81 [.v .str, .v (.int .i64), .own 1, .v (.int .i64), .v (.arr 10 .bool)], .row 57 aB]⟩
abbrev gV : Sh := ⟨1, [⟨0, false, [.v (.int .i64)]⟩], [.box 81 [.v .str, .v (.int .i64), .own 1, .v (.int .i64), .v (.arr 10 .bool)], .row 57 aB]⟩
abbrev xM : Sh := ⟨1, [⟨0, false, [.ptr 0 0]⟩], [.box 81 [.v .str, .v (.int .i64), .own 1, .v (.int .i64), .v (.arr 10 .bool)], .row 57 aB]⟩
abbrev pW : Sh := ⟨1, [⟨0, false, [.v .bool]⟩], [.box 81 [.v .str, .v (.int .i64), .own 1, .v (.int .i64), .v (.arr 10 .bool)], .row 57 aB]⟩
abbrev Px : List Ty := [.arr 4 (.int .u64)]
abbrev Gh : List Ty := [.arr 4 (.int .u64)]
abbrev rA : Sh := ⟨2, [⟨0, false, [.ptr 0 0]⟩, ⟨1, true, [.v (.arr 4 (.int .u64))]⟩], [.box 81 [.v .str, .v (.int .i64), .own 1, .v (.int .i64), .v (.arr 10 .bool)], .row 57 aB]⟩
abbrev mX : Sh := ⟨1, [⟨0, false, [.v (.int .i64)]⟩], [.box 81 [.v .str, .v (.int .i64), .own 1, .v (.int .i64), .v (.arr 10 .bool)], .row 57 aB]⟩
abbrev pJ : Sh := ⟨2, [⟨0, false, [.ptr 0 0]⟩, ⟨1, false, [.v .str]⟩], [.box 63 [.v .str, .v (.int .i64)]]⟩
abbrev mF : Sh := ⟨1, [⟨0, false, [.v .bool]⟩], [.box 63 [.v .str, .v (.int .i64)]]⟩
abbrev qQ : Sh := ⟨2, [⟨0, false, [.ptr 0 0]⟩, ⟨1, false, [.v .str]⟩], [.box 63 [.v .str, .v (.int .i64)]]⟩
abbrev nJ : Sh := ⟨1, [⟨0, false, [.v .bool]⟩], [.box 63 [.v .str, .v (.int .i64)]]⟩
abbrev qR : Sh := ⟨1, [⟨0, false, [.ptr 0 0]⟩], [.box 63 [.v .str, .v (.int .i64)]]⟩
abbrev qU : Sh := ⟨0, [], [.box 63 [.v .str, .v (.int .i64)]]⟩
abbrev qV : Sh := ⟨1, [⟨0, true, [.v (.int .i64), .v (.int .i64)]⟩], [.box 63 [.v .str, .v (.int .i64)]]⟩
abbrev zB : List Ty := [.int .u8, .int .u8]
abbrev uT : List Ty := [.arr 4 (.int .u64)]
abbrev Vg : List Ty := [.slice (.arr 4 (.int .u64))]
abbrev Mt : List Ty := [.arr 4 (.int .u64)]
abbrev Mv : List Ty := [.str]
abbrev Ed : List Ty := [.arr 4 (.int .u64)]
abbrev Sn : List Ty := [.str]
abbrev Gi : List Ty := [.arr 4 (.int .u64), .bool]
abbrev yB : Sh := ⟨3, [⟨0, false, [.ptr 0 0]⟩, ⟨1, false, [.v .bool]⟩, ⟨2, false, [.v .bool]⟩], [.box 63 [.v .str, .v (.int .i64)]]⟩
abbrev rC : Sh := ⟨2, [⟨0, false, [.v (.int .u8)]⟩, ⟨1, false, [.v .bool]⟩], [.box 63 [.v .str, .v (.int .i64)]]⟩
abbrev rD : Sh := ⟨1, [⟨0, true, [.v (.int .i64), .v (.int .i64)]⟩], [.box 63 [.v .str, .v (.int .i64)]]⟩
abbrev Ee : Sh := ⟨2, [⟨0, false, [.ptr 0 0]⟩, ⟨1, false, [.v .bool]⟩], [.box 63 [.v .str, .v (.int .i64)]]⟩
abbrev vZ : Sh := ⟨1, [⟨0, true, [.v (.arr 4 (.int .u64))]⟩], [.box 63 [.v .str, .v (.int .i64)]]⟩
abbrev wB : Sh := ⟨1, [⟨0, true, [.v (.int .i64), .v (.int .i64)]⟩], [.box 63 [.v .str, .v (.int .i64)]]⟩
abbrev Ef : Sh := ⟨2, [⟨0, false, [.ptr 0 0]⟩, ⟨1, false, [.ptr 1 0]⟩], [.box 61 [.ptr 2 0], .box 25 [.v (.arr 4 (.int .u64))], .box 63 [.v .str, .v (.int .i64)]]⟩
abbrev wC : Sh := ⟨0, [], [.box 61 [.ptr 2 0], .box 25 [.v (.arr 4 (.int .u64))], .box 63 [.v .str, .v (.int .i64)]]⟩
abbrev wD : Sh := ⟨1, [⟨0, true, [.v (.int .i64), .v (.int .i64)]⟩], [.box 61 [.ptr 2 0], .box 25 [.v (.arr 4 (.int .u64))], .box 63 [.v .str, .v (.int .i64)]]⟩
abbrev jV : Sh := ⟨1, [⟨0, false, [.clo 45 [(0, 0), (1, 0)]]⟩], [.box 61 [.ptr 2 0], .box 25 [.v (.arr 4 (.int .u64))], .box 63 [.v .str, .v (.int .i64)]]⟩
abbrev jW : Sh := ⟨1, [⟨0, true, [.v (.int .i64), .v (.int .i64)]⟩], [.box 61 [.ptr 2 0], .box 25 [.v (.arr 4 (.int .u64))], .box 63 [.v .str, .v (.int .i64)]]⟩
abbrev Kj : List Ty := [.str]
abbrev Af : List Ty := [.arr 4 (.int .u64), .int .i64, .int .i64]
abbrev iO : Sh := ⟨3, [⟨0, false, [.ptr 0 0]⟩, ⟨1, false, [.v (.int .i64)]⟩, ⟨2, false, [.v (.int .i64)]⟩], [.box 81 [.v .str, .v (.int .i64), .own 1, .v (.int .i64), .v (.arr 10 .bool)], .row 57 aB]⟩
abbrev iP : Sh := ⟨0, [], [.box 81 [.v .str, .v (.int .i64), .own 1, .v (.int .i64), .v (.arr 10 .bool)], .row 57 aB]⟩
abbrev iQ : Sh := ⟨1, [⟨0, true, [.v (.int .i64), .v (.int .i64)]⟩], [.box 81 [.v .str, .v (.int .i64), .own 1, .v (.int .i64), .v (.arr 10 .bool)], .row 57 aB]⟩
abbrev xO : Sh := ⟨1, [⟨0, false, [.ptr 0 0]⟩], [.box 81 [.v .str, .v (.int .i64), .own 1, .v (.int .i64), .v (.arr 10 .bool)], .row 57 aB]⟩
abbrev pX : Sh := ⟨1, [⟨0, false, [.v (.int .i64)]⟩], [.box 81 [.v .str, .v (.int .i64), .own 1, .v (.int .i64), .v (.arr 10 .bool)], .row 57 aB]⟩
abbrev yC : Sh := ⟨2, [⟨0, false, [.ptr 0 0]⟩, ⟨1, false, [.v (.int .i64)]⟩], [.box 81 [.v .str, .v (.int .i64), .own 1, .v (.int .i64), .v (.arr 10 .bool)], .row 57 aB]⟩
abbrev rE : Sh := ⟨1, [⟨0, false, [.v (.int .i64)]⟩], [.box 81 [.v .str, .v (.int .i64), .own 1, .v (.int .i64), .v (.arr 10 .bool)], .row 57 aB]⟩
abbrev rF : Sh := ⟨1, [⟨0, true, [.v (.int .i64), .v (.int .i64)]⟩], [.box 81 [.v .str, .v (.int .i64), .own 1, .v (.int .i64), .v (.arr 10 .bool)], .row 57 aB]⟩
abbrev yD : Sh := ⟨2, [⟨0, false, [.ptr 0 0]⟩, ⟨1, false, [.v (.int .i64)]⟩], [.box 81 [.v .str, .v (.int .i64), .own 1, .v (.int .i64), .v (.arr 10 .bool)], .row 57 aB]⟩
abbrev rG : Sh := ⟨1, [⟨0, false, [.v (.int .i64)]⟩], [.box 81 [.v .str, .v (.int .i64), .own 1, .v (.int .i64), .v (.arr 10 .bool)], .row 57 aB]⟩
abbrev rH : Sh := ⟨1, [⟨0, true, [.v (.int .i64), .v (.int .i64)]⟩], [.box 81 [.v .str, .v (.int .i64), .own 1, .v (.int .i64), .v (.arr 10 .bool)], .row 57 aB]⟩
abbrev vK : Sh := ⟨2, [⟨0, false, [.ptr 0 0]⟩, ⟨1, false, [.v .bool]⟩], [.box 81 [.v .str, .v (.int .i64), .own 1, .v (.int .i64), .v (.arr 10 .bool)], .row 57 aB]⟩
abbrev oW : Sh := ⟨1, [⟨0, false, [.v (.int .i64)]⟩], [.box 81 [.v .str, .v (.int .i64), .own 1, .v (.int .i64), .v (.arr 10 .bool)], .row 57 aB]⟩
abbrev oZ : Sh := ⟨1, [⟨0, true, [.v (.int .i64), .v (.int .i64)]⟩], [.box 81 [.v .str, .v (.int .i64), .own 1, .v (.int .i64), .v (.arr 10 .bool)], .row 57 aB]⟩
abbrev Ag : Sh := ⟨2, [⟨0, false, [.ptr 0 0]⟩, ⟨1, false, [.v .bool]⟩], [.box 81 [.v .str, .v (.int .i64), .own 1, .v (.int .i64), .v (.arr 10 .bool)], .row 57 aB]⟩
abbrev tL : Sh := ⟨1, [⟨0, false, [.v (.int .i64)]⟩], [.box 81 [.v .str, .v (.int .i64), .own 1, .v (.int .i64), .v (.arr 10 .bool)], .row 57 aB]⟩
abbrev tN : Sh := ⟨1, [⟨0, true, [.v (.int .i64), .v (.int .i64)]⟩], [.box 81 [.v .str, .v (.int .i64), .own 1, .v (.int .i64), .v (.arr 10 .bool)], .row 57 aB]⟩
abbrev fK : Sh := ⟨1, [⟨0, false, [.ptr 0 0]⟩], [.box 81 [.v .str, .v (.int .i64), .own 1, .v (.int .i64), .v (.arr 10 .bool)], .row 57 aB]⟩
abbrev eD : Sh := ⟨1, [⟨0, false, [.v (.int .i64)]⟩], [.box 81 [.v .str, .v (.int .i64), .own 1, .v (.int .i64), .v (.arr 10 .bool)], .row 57 aB]⟩
abbrev eG : Sh := ⟨1, [⟨0, true, [.v (.int .i64), .v (.int .i64)]⟩], [.box 81 [.v .str, .v (.int .i64), .own 1, .v (.int .i64), .v (.arr 10 .bool)], .row 57 aB]⟩
abbrev Kk : Sh := ⟨2, [⟨0, false, [.ptr 0 0]⟩, ⟨1, false, [.ptr 1 0]⟩], [.box 78 [.ptr 2 0], .box 9 [.v .str], .box 81 [.v .str, .v (.int .i64), .own 3, .v (.int .i64), .v (.arr 10 .bool)], .row 57 aB]⟩
abbrev Ah : Sh := ⟨0, [], [.box 78 [.ptr 2 0], .box 9 [.v .str], .box 81 [.v .str, .v (.int .i64), .own 3, .v (.int .i64), .v (.arr 10 .bool)], .row 57 aB]⟩
abbrev Ai : Sh := ⟨1, [⟨0, true, [.v (.int .i64), .v (.int .i64)]⟩], [.box 78 [.ptr 2 0], .box 9 [.v .str], .box 81 [.v .str, .v (.int .i64), .own 3, .v (.int .i64), .v (.arr 10 .bool)], .row 57 aB]⟩
abbrev lH : Sh := ⟨1, [⟨0, false, [.clo 57 [(0, 0), (1, 0)]]⟩], [.box 78 [.ptr 2 0], .box 9 [.v .str], .box 81 [.v .str, .v (.int .i64), .own 3, .v (.int .i64), .v (.arr 10 .bool)], .row 57 aB]⟩
abbrev lI : Sh := ⟨1, [⟨0, true, [.v (.int .i64), .v (.int .i64)]⟩], [.box 78 [.ptr 2 0], .box 9 [.v .str], .box 81 [.v .str, .v (.int .i64), .own 3, .v (.int .i64), .v (.arr 10 .bool)], .row 57 aB]⟩
abbrev zC : List Ty := [.str]
abbrev uU : List Ty := [.slice aB, .int .i64, .int .i64]
abbrev wE : List Ty := [aB]
abbrev qW : List Ty := [.int .i64]
abbrev Eh : List Ty := [aB]
abbrev wF : List Ty := [aB]
abbrev Kl : List Ty := [aB]
abbrev Aj : List Ty := [.bool]
abbrev yE : List Ty := [.slice (.int .i64), .int .i64]
abbrev rJ : List Ty := [.int .i64]
abbrev uV : List Ty := [.slice (.int .i64), .int .i64]
abbrev oD : List Ty := [.bool]
abbrev zBb : List Ty := [.slice aB, aB]
abbrev Py : List Ty := [.bool]
abbrev Oc : List Ty := [.slice aB]
abbrev Db : List Ty := [.bool]
abbrev nK : Sh := ⟨7, [⟨0, false, [.v (.int .i64)]⟩, ⟨1, false, [.ptr 0 0]⟩, ⟨2, false, [.ptr 1 0]⟩, ⟨3, false, [.ptr 2 0]⟩, ⟨4, false, [.ptr 3 0]⟩, ⟨5, false, [.ptr 4 0]⟩, ⟨6, false, [.ptr 5 0]⟩], [.box 35 [.v (.slice aB)], .box 135 [.clo 142 [(0, 0), (1, 0), (2, 0), (3, 0), (4, 0), (5, 0)]], .box 3 [.v (.int .i64)], .box 4 [.v .bool], .box 79 [.v (.arr 10 .bool)], .box 4 [.v .bool]]⟩
abbrev kL : Sh := ⟨0, [], [.box 35 [.v (.slice aB)], .box 135 [.clo 142 [(0, 0), (1, 0), (2, 0), (3, 0), (4, 0), (5, 0)]], .box 3 [.v (.int .i64)], .box 4 [.v .bool], .box 79 [.v (.arr 10 .bool)], .box 4 [.v .bool]]⟩
abbrev Km : List Ty := [.slice aB]
abbrev Ak : List Ty := [.int .i64, .bool, .bool]
abbrev Gj : List Ty := [.slice aB]
abbrev Al : List Ty := [.int .i64, .bool, .bool]
abbrev Vh : List Ty := [.slice aB]
abbrev Mw : List Ty := [.bool]
abbrev Wv : List Ty := [.int .u8]
abbrev Kn : List Ty := [.str]
abbrev zBc : List Ty := [.arr 4 (.int .u64), .int .u8]
abbrev Pz : List Ty := [.bool]
abbrev Ww : List Ty := [.str]
abbrev Ko : List Ty := [.slice .str]
abbrev Kq : List Ty := [.arr 4 (.int .u64)]
abbrev Cc : List Ty := [.str]
abbrev Sq : List Ty := [aB]
abbrev Gl : List Ty := [.str]
abbrev zBd : List Ty := [.slice aB]
abbrev Qa : List Ty := [.str]
abbrev Sr : List Ty := [.slice aB]
abbrev Gm : List Ty := [.str, .int .i64]
abbrev Sv : List Ty := [.slice aB]
abbrev Gn : List Ty := [.int .i64]
abbrev zBe : List Ty := [.slice aB]
abbrev Qb : List Ty := [.bool]
abbrev Kr : List Ty := []
abbrev Am : List Ty := [.bool]
abbrev uW : List Ty := [.arr 256 .bool]
abbrev pY : List Ty := [.str]
abbrev Od : List Ty := [.arr 256 .bool]
abbrev Dc : List Ty := [.int .i64]
abbrev Oe : List Ty := [.arr 4 (.int .u64)]
abbrev Df : List Ty := [.arr 256 .bool]
abbrev Ku : List Ty := [.str, .int .u8]
abbrev Ce : List Ty := [.bool]
abbrev Ei : List Ty := [.int .u8, .str]
abbrev wG : List Ty := [.str]
abbrev Og : List Ty := [.arr 256 .bool]
abbrev Dh : List Ty := [.str]
abbrev Kv : List Ty := [.arr 256 .bool, .str]
abbrev Ao : List Ty := [.str]
abbrev Oh : List Ty := [.arr 256 .bool]
abbrev Di : List Ty := [.str]
abbrev rV : List Ty := [.int .u64]
abbrev mU : List Ty := [.int .i64]
abbrev Wx : List Ty := [.arr 4 (.int .u64)]
abbrev Kw : List Ty := [.int .i64]
abbrev Sw : List Ty := [.arr 4 (.int .u64)]
abbrev Cg : List Ty := [.bool]
def tO (n : Nat) : An (bH gK) := .nil
theorem qX (n : Nat) : Pure Tryz.prog 166 lD gK (eB n) :=
 bF (Γ := bV _ [] []) (an := tO n) Tryz.func166 rfl (by kernel_rfl) aV (aO (all_nil) (aP)) mixed (aI _ _ rfl) (fun x => by kernel_rfl)
def Ie (n : Nat) : An (bH iY) := .nil
theorem mV (n : Nat) : Pure Tryz.prog 131 mE iY (strings_HasPrefix n) :=
 bF (Γ := bV _ [(166, bE lD gK (eB n))] []) (an := Ie n) Tryz.func131 rfl (by kernel_rfl) aV (aO (all_cons (aH (qX n)) (all_nil)) (aP)) mixed (aI _ _ rfl) (fun x => by kernel_rfl)
def Ky (n : Nat) : An (fI.X) := .nil
theorem fQ (n : Nat) : jA Tryz.prog 92 iC fI (aM n) :=
 nT (Γ := bV _ [(131, bE mE iY (strings_HasPrefix n))] []) (an := Ky n) (co := [.gc [0, 1]]) Tryz.func92 rfl (by kernel_rfl) aV (aO (all_cons (aH (mV n)) (all_nil)) (aP)) mixed (aI _ _ rfl) (by kernel_rfl) (by kernel_rfl) (fun x => by kernel_rfl)
def Nj (n : Nat) : An (iN.X) := .nil
theorem jC (n : Nat) : jA Tryz.prog 89 kV iN (bM n) :=
 nT (Γ := bV _ [(92, peM iC fI (aM n))] []) (an := Nj n) (co := [.gc [0, 1]]) Tryz.func89 rfl (by kernel_rfl) aV (aO (all_cons (dJ (fQ n)) (all_nil)) (aP)) mixed (aI _ _ rfl) (by kernel_rfl) (by kernel_rfl) (fun x => by kernel_rfl)
def Qc (n : Nat) : An (gV.X) := .nil
theorem gW (n : Nat) : jA Tryz.prog 90 jB gV (bD n) :=
 nT (Γ := bV _ [] []) (an := Qc n) (co := [.gc [0, 1]]) Tryz.func90 rfl (by kernel_rfl) aV (aO (all_nil) (aP)) mixed (aI _ _ rfl) (by kernel_rfl) (by kernel_rfl) (fun x => by kernel_rfl)
def Ig (n : Nat) : An (pW.X) := .nil
theorem Bh (n : Nat) : jA Tryz.prog 91 xM pW (jM n) :=
 nT (Γ := bV _ [(92, peM iC fI (aM n))] []) (an := Ig n) (co := [.gc [0, 1]]) Tryz.func91 rfl (by kernel_rfl) aV (aO (all_cons (dJ (fQ n)) (all_nil)) (aP)) mixed (aI _ _ rfl) (by kernel_rfl) (by kernel_rfl) (fun x => by kernel_rfl)
def zIo (n : Nat) : An (bH Gh) := (.mk .nil (.mk (.mk .nil (.mk (.loop ⟨15, [⟨1, false, [.ptr 0 0]⟩, ⟨2, false, [.ptr 1 0]⟩, ⟨4, false, [.v (.int .i64)]⟩], [.box 25 [.v (.arr 4 (.int .u64))], .box 25 [.v (.arr 4 (.int .u64))]]⟩ [.keep [false, true, true, false, true], .gcA 0, .gcA 0] [.keep [false, true, true, false, true], .gcA 0, .gcA 0] n .nil) .nil []) []) .nil []) [])
theorem Kz (n : Nat) : Pure Tryz.prog 50 Px Gh (zN n) :=
 bF (Γ := bV _ [] []) (an := zIo n) Tryz.func50 rfl (by kernel_rfl) aV (aO (all_nil) (aP)) mixed (aI _ _ rfl) (fun x => by kernel_rfl)
def La (n : Nat) : An (mX.X) := .nil
theorem rW (n : Nat) : jA Tryz.prog 134 rA mX (bS n) :=
 nT (Γ := bV _ [(90, peM jB gV (bD n))] []) (an := La n) (co := [.gc [0, 1]]) Tryz.func134 rfl (by kernel_rfl) aV (aO (all_cons (dJ (gW n)) (all_nil)) (aP)) mixed (aI _ _ rfl) (by kernel_rfl) (by kernel_rfl) (fun x => by kernel_rfl)
def Qd (n : Nat) : An (mF.X) := .nil
theorem oF (n : Nat) : jA Tryz.prog 83 pJ mF (dA n) :=
 nT (Γ := bV _ [(131, bE mE iY (strings_HasPrefix n))] []) (an := Qd n) (co := [.gc [0]]) Tryz.func83 rfl (by kernel_rfl) aV (aO (all_cons (aH (mV n)) (all_nil)) (aP)) mixed (aI _ _ rfl) (by kernel_rfl) (by kernel_rfl) (fun x => by kernel_rfl)
def Sy (n : Nat) : An (nJ.X) := .nil
theorem pE (n : Nat) : jA Tryz.prog 46 qQ nJ (cK n) :=
 nT (Γ := bV _ [(83, peM pJ mF (dA n))] []) (an := Sy n) (co := [.gc [0]]) Tryz.func46 rfl (by kernel_rfl) aV (aO (all_cons (dJ (oF n)) (all_nil)) (aP)) mixed (aI _ _ rfl) (by kernel_rfl) (by kernel_rfl) (fun x => by kernel_rfl)
end Go.Dec
