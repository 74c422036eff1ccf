/- Part of a proof over this seat: a library of my own, and what it says of this seat. No statement is proved here. -/
import Derived.Test.YthhbdkdofhhoeaaGreatDoorProg
import Derived.Test.YthhbdkdofhhoeaaGreatDoorPartBB
import Derived.Test.YthhbdkdofhhoeaaGreatDoorPartBA
import Derived.Test.YthhbdkdofhhoeaaGreatDoorPartAV
import Derived.KernelRfl
namespace Go.Dec
open Go.Proofs
set_option linter.unusedVariables false
def tab : Tab := [(3, ⟨.int .i64, 1, 8, [.val (.int .i64) 0], some (.int .i64), false⟩),
 (4, ⟨.bool, 1, 1, [.val .bool false], some .bool, false⟩),
 (5, ⟨.int .u8, 1, 1, [.val (.int .u8) 0], some (.int .u8), false⟩),
 (9, ⟨.str, 1, 16, [.val .str []], some .str, false⟩),
 (23, ⟨.int .u64, 1, 8, [.val (.int .u64) 0], some (.int .u64), false⟩),
 (24, ⟨.arr 4 23, 4, 32, [.val (.arr 4 (.int .u64)) ([0, 0, 0, 0])], some (.arr 4 (.int .u64)), true⟩),
 (25, ⟨.arr 4 23, 4, 32, [.val (.arr 4 (.int .u64)) ([0, 0, 0, 0])], some (.arr 4 (.int .u64)), true⟩),
 (26, ⟨.int .i64, 1, 8, [.val (.int .i64) 0], some (.int .i64), false⟩),
 (30, ⟨.arr 256 4, 256, 256, [.val (.arr 256 .bool) ([false, false, false, false, false, false, false, false, false, false, false, false, false, false, false, false, false, false, false, false, false, false, false, false, false, false, false, false, false, false, false, false, false, false, false, false, false, false, false, false, false, false, false, false, false, false, false, false, false, false, false, false, false, false, false, false, false, false, false, false, false, false, false, false, false, false, false, false, false, false, false, false, false, false, false, false, false, false, false, false, false, false, false, false, false, false, false, false, false, false, false, false, false, false, false, false, false, false, false, false, false, false, false, false, false, false, false, false, false, false, false, false, false, false, false, false, false, false, false, false, false, false, false, false, false, false, false, false, false, false, false, false, false, false, false, false, false, false, false, false, false, false, false, false, false, false, false, false, false, false, false, false, false, false, false, false, false, false, false, false, false, false, false, false, false, false, false, false, false, false, false, false, false, false, false, false, false, false, false, false, false, false, false, false, false, false, false, false, false, false, false, false, false, false, false, false, false, false, false, false, false, false, false, false, false, false, false, false, false, false, false, false, false, false, false, false, false, false, false, false, false, false, false, false, false, false, false, false, false, false, false, false, false, false, false, false, false, false, false, false, false, false, false, false, false, false, false, false, false, false, false, false, false, false, false, false])], some (.arr 256 .bool), true⟩),
 (35, ⟨.slice 57, 1, 24, [.dK], some (.slice aB), false⟩),
 (38, ⟨.slice 51, 1, 24, [.dK], some (.slice aB), false⟩),
 (51, ⟨.struct [(0, 3), (1, 24), (5, 3), (6, 3), (7, 3), (8, 3), (9, 3)], 10, 80, [.val (.int .i64) 0, .val (.arr 4 (.int .u64)) ([0, 0, 0, 0]), .val (.int .i64) 0, .val (.int .i64) 0, .val (.int .i64) 0, .val (.int .i64) 0, .val (.int .i64) 0], some aB, true⟩),
 (57, ⟨.struct [(0, 3), (1, 25), (5, 3), (6, 3), (7, 3), (8, 3), (9, 3)], 10, 80, [.val (.int .i64) 0, .val (.arr 4 (.int .u64)) ([0, 0, 0, 0]), .val (.int .i64) 0, .val (.int .i64) 0, .val (.int .i64) 0, .val (.int .i64) 0, .val (.int .i64) 0], some aB, true⟩),
 (61, ⟨.ptr 63, 1, 8, [.kS], none, false⟩),
 (63, ⟨.struct [(0, 9), (1, 3)], 2, 24, [.val .str [], .val (.int .i64) 0], some zTt, true⟩),
 (65, ⟨.struct [(0, 26), (1, 3)], 2, 16, [.val (.int .i64) 0, .val (.int .i64) 0], some zOx, true⟩),
 (78, ⟨.ptr 81, 1, 8, [.kS], none, false⟩),
 (79, ⟨.arr 10 4, 10, 10, [.val (.arr 10 .bool) ([false, false, false, false, false, false, false, false, false, false])], some (.arr 10 .bool), true⟩),
 (81, ⟨.struct [(0, 9), (1, 3), (2, 35), (3, 3), (4, 79)], 14, 72, [.val .str [], .val (.int .i64) 0, .dK, .val (.int .i64) 0, .val (.arr 10 .bool) ([false, false, false, false, false, false, false, false, false, false])], some Ea, false⟩),
 (85, ⟨.struct [(0, 38), (1, 3), (2, 79), (12, 3), (13, 26)], 14, 64, [.dK, .val (.int .i64) 0, .val (.arr 10 .bool) ([false, false, false, false, false, false, false, false, false, false]), .val (.int .i64) 0, .val (.int .i64) 0], some Eb, false⟩),
 (90, ⟨.slice 9, 1, 24, [.dK], some (.slice .str), false⟩),
 (96, ⟨.slice 5, 1, 24, [.dK], some (.slice (.int .u8)), false⟩),
 (105, ⟨.slice 3, 1, 24, [.dK], some (.slice (.int .i64)), false⟩),
 (115, ⟨.slice 25, 1, 24, [.dK], some (.slice (.arr 4 (.int .u64))), false⟩),
 (130, ⟨.struct [(0, 4), (1, 3), (2, 79), (12, 4)], 13, 32, [.val .bool false, .val (.int .i64) 0, .val (.arr 10 .bool) ([false, false, false, false, false, false, false, false, false, false]), .val .bool false], some Ac, true⟩),
 (135, ⟨.func, 1, 8, [.val .opq Value.nilFunc], some .opq, false⟩),
 (137, ⟨.iface false, 1, 16, [.val .err false], some .err, false⟩)]
theorem aT : bK Tryz.prog tab := zBb (by kernel_rfl)
theorem mixed : Tryz.prog.follows .mixedOrders = true := by kernel_rfl
abbrev mR : List Ty := [.str, .str]
abbrev iG : List Ty := [.bool]
abbrev nS : List Ty := [.str, .str]
abbrev jV : List Ty := [.bool]
abbrev iY : Sh := ⟨2, [⟨0, false, [.ptr 0 0]⟩, ⟨1, false, [.v .str]⟩], [.box 81 [.v .str, .v (.int .i64), .own 1, .v (.int .i64), .v (.arr 10 .bool)], .row 57 aB]⟩
abbrev gK : Sh := ⟨1, [⟨0, false, [.v .bool]⟩], [.box 81 [.v .str, .v (.int .i64), .own 1, .v (.int .i64), .v (.arr 10 .bool)], .row 57 aB]⟩
abbrev mD : Sh := ⟨2, [⟨0, false, [.ptr 0 0]⟩, ⟨1, false, [.v .str]⟩], [.box 81 [.v .str, .v (.int .i64), .own 1, .v (.int .i64), .v (.arr 10 .bool)], .row 57 aB]⟩
abbrev jM : Sh := ⟨1, [⟨0, false, [.v .bool]⟩], [.box 81 [.v .str, .v (.int .i64), .own 1, .v (.int .i64), .v (.arr 10 .bool)], .row 57 aB]⟩
abbrev jY : Sh := ⟨2, [⟨0, false, [.ptr 0 0]⟩, ⟨1, true, [.v (.int .i64), .v (.arr 4 (.int .u64)), .v (.int .i64), .v (.int .i64), .v (.int .i64), .v (.int .i64), .v (.int .i64)]⟩], [.box 81 [.v .str, .v (.int .i64), .own 1, .v (.int .i64), .v (.arr 10 .bool)], .row 57 aB]⟩
abbrev iP : Sh := ⟨1, [⟨0, false, [.v (.int .i64)]⟩], [.box 81 [.v .str, .v (.int .i64), .own 1, .v (.int .i64), .v (.arr 10 .bool)], .row 57 aB]⟩
abbrev yR : Sh := ⟨1, [⟨0, false, [.ptr 0 0]⟩], [.box 81 [.v .str, .v (.int .i64), .own 1, .v (.int .i64), .v (.arr 10 .bool)], .row 57 aB]⟩
abbrev rG : Sh := ⟨1, [⟨0, false, [.v .bool]⟩], [.box 81 [.v .str, .v (.int .i64), .own 1, .v (.int .i64), .v (.arr 10 .bool)], .row 57 aB]⟩
abbrev Rh : List Ty := [.arr 4 (.int .u64)]
abbrev Hr : List Ty := [.arr 4 (.int .u64)]
abbrev sS : Sh := ⟨2, [⟨0, false, [.ptr 0 0]⟩, ⟨1, true, [.v (.arr 4 (.int .u64))]⟩], [.box 81 [.v .str, .v (.int .i64), .own 1, .v (.int .i64), .v (.arr 10 .bool)], .row 57 aB]⟩
abbrev oM : Sh := ⟨1, [⟨0, false, [.v (.int .i64)]⟩], [.box 81 [.v .str, .v (.int .i64), .own 1, .v (.int .i64), .v (.arr 10 .bool)], .row 57 aB]⟩
abbrev qW : Sh := ⟨2, [⟨0, false, [.ptr 0 0]⟩, ⟨1, false, [.v .str]⟩], [.box 63 [.v .str, .v (.int .i64)]]⟩
abbrev nT : Sh := ⟨1, [⟨0, false, [.v .bool]⟩], [.box 63 [.v .str, .v (.int .i64)]]⟩
abbrev sG : Sh := ⟨2, [⟨0, false, [.ptr 0 0]⟩, ⟨1, false, [.v .str]⟩], [.box 63 [.v .str, .v (.int .i64)]]⟩
abbrev oV : Sh := ⟨1, [⟨0, false, [.v .bool]⟩], [.box 63 [.v .str, .v (.int .i64)]]⟩
abbrev sH : Sh := ⟨1, [⟨0, false, [.ptr 0 0]⟩], [.box 63 [.v .str, .v (.int .i64)]]⟩
abbrev sI : Sh := ⟨0, [], [.box 63 [.v .str, .v (.int .i64)]]⟩
abbrev sJ : Sh := ⟨1, [⟨0, true, [.v (.int .i64), .v (.int .i64)]⟩], [.box 63 [.v .str, .v (.int .i64)]]⟩
abbrev Af : List Ty := [.int .u8, .int .u8]
abbrev wF : List Ty := [.arr 4 (.int .u64)]
abbrev Xd : List Ty := [.slice (.arr 4 (.int .u64))]
abbrev Og : List Ty := [.arr 4 (.int .u64)]
abbrev Oh : List Ty := [.str]
abbrev Fp : List Ty := [.arr 4 (.int .u64)]
abbrev Uj : List Ty := [.str]
abbrev Ht : List Ty := [.arr 4 (.int .u64), .bool]
abbrev zD : Sh := ⟨3, [⟨0, false, [.ptr 0 0]⟩, ⟨1, false, [.v .bool]⟩, ⟨2, false, [.v .bool]⟩], [.box 63 [.v .str, .v (.int .i64)]]⟩
abbrev sU : Sh := ⟨2, [⟨0, false, [.v (.int .u8)]⟩, ⟨1, false, [.v .bool]⟩], [.box 63 [.v .str, .v (.int .i64)]]⟩
abbrev sV : Sh := ⟨1, [⟨0, true, [.v (.int .i64), .v (.int .i64)]⟩], [.box 63 [.v .str, .v (.int .i64)]]⟩
abbrev Fq : Sh := ⟨2, [⟨0, false, [.ptr 0 0]⟩, ⟨1, false, [.v .bool]⟩], [.box 63 [.v .str, .v (.int .i64)]]⟩
abbrev xB : Sh := ⟨1, [⟨0, true, [.v (.arr 4 (.int .u64))]⟩], [.box 63 [.v .str, .v (.int .i64)]]⟩
abbrev xC : Sh := ⟨1, [⟨0, true, [.v (.int .i64), .v (.int .i64)]⟩], [.box 63 [.v .str, .v (.int .i64)]]⟩
abbrev Fv : Sh := ⟨2, [⟨0, false, [.ptr 0 0]⟩, ⟨1, false, [.ptr 1 0]⟩], [.box 61 [.ptr 2 0], .box 25 [.v (.arr 4 (.int .u64))], .box 63 [.v .str, .v (.int .i64)]]⟩
abbrev xD : Sh := ⟨0, [], [.box 61 [.ptr 2 0], .box 25 [.v (.arr 4 (.int .u64))], .box 63 [.v .str, .v (.int .i64)]]⟩
abbrev xE : Sh := ⟨1, [⟨0, true, [.v (.int .i64), .v (.int .i64)]⟩], [.box 61 [.ptr 2 0], .box 25 [.v (.arr 4 (.int .u64))], .box 63 [.v .str, .v (.int .i64)]]⟩
abbrev kX : Sh := ⟨1, [⟨0, false, [.clo 45 [(0, 0), (1, 0)]]⟩], [.box 61 [.ptr 2 0], .box 25 [.v (.arr 4 (.int .u64))], .box 63 [.v .str, .v (.int .i64)]]⟩
abbrev kY : Sh := ⟨1, [⟨0, true, [.v (.int .i64), .v (.int .i64)]⟩], [.box 61 [.ptr 2 0], .box 25 [.v (.arr 4 (.int .u64))], .box 63 [.v .str, .v (.int .i64)]]⟩
abbrev Lp : List Ty := [.str]
abbrev Bn : List Ty := [.arr 4 (.int .u64), .int .i64, .int .i64]
abbrev jN : Sh := ⟨3, [⟨0, false, [.ptr 0 0]⟩, ⟨1, false, [.v (.int .i64)]⟩, ⟨2, false, [.v (.int .i64)]⟩], [.box 81 [.v .str, .v (.int .i64), .own 1, .v (.int .i64), .v (.arr 10 .bool)], .row 57 aB]⟩
abbrev jO : Sh := ⟨0, [], [.box 81 [.v .str, .v (.int .i64), .own 1, .v (.int .i64), .v (.arr 10 .bool)], .row 57 aB]⟩
abbrev jP : Sh := ⟨1, [⟨0, true, [.v (.int .i64), .v (.int .i64)]⟩], [.box 81 [.v .str, .v (.int .i64), .own 1, .v (.int .i64), .v (.arr 10 .bool)], .row 57 aB]⟩
abbrev yS : Sh := ⟨1, [⟨0, false, [.ptr 0 0]⟩], [.box 81 [.v .str, .v (.int .i64), .own 1, .v (.int .i64), .v (.arr 10 .bool)], .row 57 aB]⟩
abbrev rH : Sh := ⟨1, [⟨0, false, [.v (.int .i64)]⟩], [.box 81 [.v .str, .v (.int .i64), .own 1, .v (.int .i64), .v (.arr 10 .bool)], .row 57 aB]⟩
abbrev zF : Sh := ⟨2, [⟨0, false, [.ptr 0 0]⟩, ⟨1, false, [.v (.int .i64)]⟩], [.box 81 [.v .str, .v (.int .i64), .own 1, .v (.int .i64), .v (.arr 10 .bool)], .row 57 aB]⟩
abbrev sW : Sh := ⟨1, [⟨0, false, [.v (.int .i64)]⟩], [.box 81 [.v .str, .v (.int .i64), .own 1, .v (.int .i64), .v (.arr 10 .bool)], .row 57 aB]⟩
abbrev sZ : Sh := ⟨1, [⟨0, true, [.v (.int .i64), .v (.int .i64)]⟩], [.box 81 [.v .str, .v (.int .i64), .own 1, .v (.int .i64), .v (.arr 10 .bool)], .row 57 aB]⟩
abbrev zG : Sh := ⟨2, [⟨0, false, [.ptr 0 0]⟩, ⟨1, false, [.v (.int .i64)]⟩], [.box 81 [.v .str, .v (.int .i64), .own 1, .v (.int .i64), .v (.arr 10 .bool)], .row 57 aB]⟩
abbrev tC : Sh := ⟨1, [⟨0, false, [.v (.int .i64)]⟩], [.box 81 [.v .str, .v (.int .i64), .own 1, .v (.int .i64), .v (.arr 10 .bool)], .row 57 aB]⟩
abbrev tF : Sh := ⟨1, [⟨0, true, [.v (.int .i64), .v (.int .i64)]⟩], [.box 81 [.v .str, .v (.int .i64), .own 1, .v (.int .i64), .v (.arr 10 .bool)], .row 57 aB]⟩
abbrev wQ : Sh := ⟨2, [⟨0, false, [.ptr 0 0]⟩, ⟨1, false, [.v .bool]⟩], [.box 81 [.v .str, .v (.int .i64), .own 1, .v (.int .i64), .v (.arr 10 .bool)], .row 57 aB]⟩
abbrev qN : Sh := ⟨1, [⟨0, false, [.v (.int .i64)]⟩], [.box 81 [.v .str, .v (.int .i64), .own 1, .v (.int .i64), .v (.arr 10 .bool)], .row 57 aB]⟩
abbrev qO : Sh := ⟨1, [⟨0, true, [.v (.int .i64), .v (.int .i64)]⟩], [.box 81 [.v .str, .v (.int .i64), .own 1, .v (.int .i64), .v (.arr 10 .bool)], .row 57 aB]⟩
abbrev Bo : Sh := ⟨2, [⟨0, false, [.ptr 0 0]⟩, ⟨1, false, [.v .bool]⟩], [.box 81 [.v .str, .v (.int .i64), .own 1, .v (.int .i64), .v (.arr 10 .bool)], .row 57 aB]⟩
abbrev vC : Sh := ⟨1, [⟨0, false, [.v (.int .i64)]⟩], [.box 81 [.v .str, .v (.int .i64), .own 1, .v (.int .i64), .v (.arr 10 .bool)], .row 57 aB]⟩
abbrev vD : Sh := ⟨1, [⟨0, true, [.v (.int .i64), .v (.int .i64)]⟩], [.box 81 [.v .str, .v (.int .i64), .own 1, .v (.int .i64), .v (.arr 10 .bool)], .row 57 aB]⟩
abbrev gM : Sh := ⟨1, [⟨0, false, [.ptr 0 0]⟩], [.box 81 [.v .str, .v (.int .i64), .own 1, .v (.int .i64), .v (.arr 10 .bool)], .row 57 aB]⟩
abbrev fK : Sh := ⟨1, [⟨0, false, [.v (.int .i64)]⟩], [.box 81 [.v .str, .v (.int .i64), .own 1, .v (.int .i64), .v (.arr 10 .bool)], .row 57 aB]⟩
abbrev fM : Sh := ⟨1, [⟨0, true, [.v (.int .i64), .v (.int .i64)]⟩], [.box 81 [.v .str, .v (.int .i64), .own 1, .v (.int .i64), .v (.arr 10 .bool)], .row 57 aB]⟩
abbrev Lr : Sh := ⟨2, [⟨0, false, [.ptr 0 0]⟩, ⟨1, false, [.ptr 1 0]⟩], [.box 78 [.ptr 2 0], .box 9 [.v .str], .box 81 [.v .str, .v (.int .i64), .own 3, .v (.int .i64), .v (.arr 10 .bool)], .row 57 aB]⟩
abbrev Bp : Sh := ⟨0, [], [.box 78 [.ptr 2 0], .box 9 [.v .str], .box 81 [.v .str, .v (.int .i64), .own 3, .v (.int .i64), .v (.arr 10 .bool)], .row 57 aB]⟩
abbrev Bq : Sh := ⟨1, [⟨0, true, [.v (.int .i64), .v (.int .i64)]⟩], [.box 78 [.ptr 2 0], .box 9 [.v .str], .box 81 [.v .str, .v (.int .i64), .own 3, .v (.int .i64), .v (.arr 10 .bool)], .row 57 aB]⟩
abbrev mX : Sh := ⟨1, [⟨0, false, [.clo 57 [(0, 0), (1, 0)]]⟩], [.box 78 [.ptr 2 0], .box 9 [.v .str], .box 81 [.v .str, .v (.int .i64), .own 3, .v (.int .i64), .v (.arr 10 .bool)], .row 57 aB]⟩
abbrev mY : Sh := ⟨1, [⟨0, true, [.v (.int .i64), .v (.int .i64)]⟩], [.box 78 [.ptr 2 0], .box 9 [.v .str], .box 81 [.v .str, .v (.int .i64), .own 3, .v (.int .i64), .v (.arr 10 .bool)], .row 57 aB]⟩
abbrev Ag : List Ty := [.str]
abbrev wG : List Ty := [.slice aB, .int .i64, .int .i64]
abbrev xG : List Ty := [aB]
abbrev sK : List Ty := [.int .i64]
abbrev Fz : List Ty := [aB]
abbrev xH : List Ty := [aB]
abbrev Ls : List Ty := [aB]
abbrev Br : List Ty := [.bool]
abbrev zH : List Ty := [.slice (.int .i64), .int .i64]
abbrev tH : List Ty := [.int .i64]
abbrev wH : List Ty := [.slice (.int .i64), .int .i64]
abbrev pX : List Ty := [.bool]
abbrev zCw : List Ty := [.slice aB, aB]
abbrev Ri : List Ty := [.bool]
abbrev Qa : List Ty := [.slice aB]
abbrev Ee : List Ty := [.bool]
abbrev oW : Sh := ⟨7, [⟨0, false, [.v (.int .i64)]⟩, ⟨1, false, [.ptr 0 0]⟩, ⟨2, false, [.ptr 1 0]⟩, ⟨3, false, [.ptr 2 0]⟩, ⟨4, false, [.ptr 3 0]⟩, ⟨5, false, [.ptr 4 0]⟩, ⟨6, false, [.ptr 5 0]⟩], [.box 35 [.v (.slice aB)], .box 135 [.clo 142 [(0, 0), (1, 0), (2, 0), (3, 0), (4, 0), (5, 0)]], .box 3 [.v (.int .i64)], .box 4 [.v .bool], .box 79 [.v (.arr 10 .bool)], .box 4 [.v .bool]]⟩
abbrev lK : Sh := ⟨0, [], [.box 35 [.v (.slice aB)], .box 135 [.clo 142 [(0, 0), (1, 0), (2, 0), (3, 0), (4, 0), (5, 0)]], .box 3 [.v (.int .i64)], .box 4 [.v .bool], .box 79 [.v (.arr 10 .bool)], .box 4 [.v .bool]]⟩
abbrev Lu : List Ty := [.slice aB]
abbrev Bt : List Ty := [.int .i64, .bool, .bool]
abbrev Hu : List Ty := [.slice aB]
abbrev Bu : List Ty := [.int .i64, .bool, .bool]
abbrev Xe : List Ty := [.slice aB]
abbrev Oi : List Ty := [.bool]
abbrev Yv : List Ty := [.int .u8]
abbrev Lv : List Ty := [.str]
abbrev zCx : List Ty := [.arr 4 (.int .u64), .int .u8]
abbrev Rj : List Ty := [.bool]
abbrev Yw : List Ty := [.str]
abbrev Lx : List Ty := [.slice .str]
abbrev Yx : List Ty := [.arr 4 (.int .u64)]
abbrev Ma : List Ty := [.str]
abbrev Uk : List Ty := [aB]
abbrev Hw : List Ty := [.str]
abbrev Rk : List Ty := [.slice aB]
abbrev Hy : List Ty := [.str]
abbrev Ul : List Ty := [.slice aB]
abbrev Hz : List Ty := [.str, .int .i64]
abbrev Um : List Ty := [.slice aB]
abbrev Ia : List Ty := [.int .i64]
abbrev zCy : List Ty := [.slice aB]
abbrev Rl : List Ty := [.bool]
abbrev Mc : List Ty := []
abbrev Bv : List Ty := [.bool]
abbrev Md : List Ty := [.arr 256 .bool]
abbrev Bw : List Ty := [.str]
abbrev Yy : List Ty := [.str]
abbrev Me : List Ty := [.arr 256 .bool]
abbrev Mf : List Ty := [.arr 256 .bool]
abbrev Bz : List Ty := [.arr 4 (.int .u64)]
abbrev Jd : List Ty := [aB]
abbrev zB : List Ty := [.bool]
abbrev rJ : List Ty := [.slice aB, .int .i64]
abbrev oZ : List Ty := [.int .i64]
abbrev pE : List Ty := [.slice aB, .int .i64, Ac]
abbrev lM : List Ty := [Ac]
abbrev Qb : List Ty := [.slice aB]
abbrev Ef : List Ty := [Ac]
abbrev Un : List Ty := [.slice aB]
abbrev Ib : List Ty := [.bool]
abbrev Qc : List Ty := [.arr 4 (.int .u64)]
abbrev Eh : List Ty := [.arr 256 .bool]
abbrev Uo : List Ty := [.str]
abbrev Ic : List Ty := [.str]
abbrev pF : List Ty := [.int .u64]
abbrev lN : List Ty := [.str]
abbrev Je : List Ty := [.int .i64]
abbrev zC : List Ty := [.str]
abbrev tX : List Ty := [.slice aB, .int .i64]
abbrev qJ : List Ty := [.str]
abbrev Qd : List Ty := [.slice aB]
abbrev Ei : List Ty := [.str]
abbrev Ox : List Ty := [.str]
abbrev zI : List Ty := [.bool]
def vE (n : Nat) : An (bB iG) := .nil
theorem sM (n : Nat) : Pure Tryz.prog 166 mR iG (fJ n) :=
 aZ (Γ := bT _ [] []) (an := vE n) Tryz.func166 rfl (by kernel_rfl) aT (aO (all_nil) (aP)) mixed (aM _ _ rfl) (fun x => by kernel_rfl)
def Ji (n : Nat) : An (bB jV) := .nil
theorem oJ (n : Nat) : Pure Tryz.prog 131 nS jV (strings_HasPrefix n) :=
 aZ (Γ := bT _ [(166, bA mR iG (fJ n))] []) (an := Ji n) Tryz.func131 rfl (by kernel_rfl) aT (aO (all_cons (aL (sM n)) (all_nil)) (aP)) mixed (aM _ _ rfl) (fun x => by kernel_rfl)
def Mg (n : Nat) : An (gK.X) := .nil
theorem gU (n : Nat) : jX Tryz.prog 92 iY gK (aR n) :=
 pU (Γ := bT _ [(131, bA nS jV (strings_HasPrefix n))] []) (an := Mg n) (co := [.gc [0, 1]]) Tryz.func92 rfl (by kernel_rfl) aT (aO (all_cons (aL (oJ n)) (all_nil)) (aP)) mixed (aM _ _ rfl) (by kernel_rfl) (by kernel_rfl) (fun x => by kernel_rfl)
def Oy (n : Nat) : An (jM.X) := .nil
theorem jZ (n : Nat) : jX Tryz.prog 89 mD jM (bN n) :=
 pU (Γ := bT _ [(92, peM iY gK (aR n))] []) (an := Oy n) (co := [.gc [0, 1]]) Tryz.func89 rfl (by kernel_rfl) aT (aO (all_cons (dU (gU n)) (all_nil)) (aP)) mixed (aM _ _ rfl) (by kernel_rfl) (by kernel_rfl) (fun x => by kernel_rfl)
def Rm (n : Nat) : An (iP.X) := .nil
theorem iQ (n : Nat) : jX Tryz.prog 90 jY iP (bH n) :=
 pU (Γ := bT _ [] []) (an := Rm n) (co := [.gc [0, 1]]) Tryz.func90 rfl (by kernel_rfl) aT (aO (all_nil) (aP)) mixed (aM _ _ rfl) (by kernel_rfl) (by kernel_rfl) (fun x => by kernel_rfl)
def Jj (n : Nat) : An (rG.X) := .nil
theorem Cx (n : Nat) : jX Tryz.prog 91 yR rG (kP n) :=
 pU (Γ := bT _ [(92, peM iY gK (aR n))] []) (an := Jj n) (co := [.gc [0, 1]]) Tryz.func91 rfl (by kernel_rfl) aT (aO (all_cons (dU (gU n)) (all_nil)) (aP)) mixed (aM _ _ rfl) (by kernel_rfl) (by kernel_rfl) (fun x => by kernel_rfl)
def zKv (n : Nat) : An (bB Hr) := (.mk .nil (.mk (.mk .nil (.mk (.loop ⟨15, [⟨1, false, [.ptr 0 0]⟩, ⟨2, false, [.ptr 1 0]⟩, ⟨4, false, [.v (.int .i64)]⟩], [.box 25 [.v (.arr 4 (.int .u64))], .box 25 [.v (.arr 4 (.int .u64))]]⟩ [.keep [false, true, true, false, true], .gcA 0, .gcA 0] [.keep [false, true, true, false, true], .gcA 0, .gcA 0] n .nil) .nil []) []) .nil []) [])
theorem Mh (n : Nat) : Pure Tryz.prog 50 Rh Hr (Aq n) :=
 aZ (Γ := bT _ [] []) (an := zKv n) Tryz.func50 rfl (by kernel_rfl) aT (aO (all_nil) (aP)) mixed (aM _ _ rfl) (fun x => by kernel_rfl)
def Mi (n : Nat) : An (oM.X) := .nil
theorem tY (n : Nat) : jX Tryz.prog 134 sS oM (bU n) :=
 pU (Γ := bT _ [(90, peM jY iP (bH n))] []) (an := Mi n) (co := [.gc [0, 1]]) Tryz.func134 rfl (by kernel_rfl) aT (aO (all_cons (dU (iQ n)) (all_nil)) (aP)) mixed (aM _ _ rfl) (by kernel_rfl) (by kernel_rfl) (fun x => by kernel_rfl)
def Rn (n : Nat) : An (nT.X) := .nil
theorem pY (n : Nat) : jX Tryz.prog 83 qW nT (dI n) :=
 pU (Γ := bT _ [(131, bA nS jV (strings_HasPrefix n))] []) (an := Rn n) (co := [.gc [0]]) Tryz.func83 rfl (by kernel_rfl) aT (aO (all_cons (aL (oJ n)) (all_nil)) (aP)) mixed (aM _ _ rfl) (by kernel_rfl) (by kernel_rfl) (fun x => by kernel_rfl)
def Uq (n : Nat) : An (oV.X) := .nil
theorem qP (n : Nat) : jX Tryz.prog 46 sG oV (dD n) :=
 pU (Γ := bT _ [(83, peM qW nT (dI n))] []) (an := Uq n) (co := [.gc [0]]) Tryz.func46 rfl (by kernel_rfl) aT (aO (all_cons (dU (pY n)) (all_nil)) (aP)) mixed (aM _ _ rfl) (by kernel_rfl) (by kernel_rfl) (fun x => by kernel_rfl)
end Go.Dec
