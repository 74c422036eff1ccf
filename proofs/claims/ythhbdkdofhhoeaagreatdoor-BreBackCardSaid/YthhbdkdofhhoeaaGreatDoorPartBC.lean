/- Part of a proof over this seat: a library of my own, and what it says of this seat. No statement is proved here. -/
import Derived.Test.YthhbdkdofhhoeaaGreatDoorProg
import Derived.Test.YthhbdkdofhhoeaaGreatDoorPartBB
import Derived.Test.YthhbdkdofhhoeaaGreatDoorPartBA
import Derived.Test.YthhbdkdofhhoeaaGreatDoorPartAV
import Derived.KernelRfl
namespace Go.Dec
open Go.Proofs
set_option linter.unusedVariables false
def tab : Tab := [(3, ⟨.int .i64, 1, 8, [.val (.int .i64) 0], some (.int .i64), false⟩),
 (4, ⟨.bool, 1, 1, [.val .bool false], some .bool, false⟩),
 (5, ⟨.int .u8, 1, 1, [.val (.int .u8) 0], some (.int .u8), false⟩),
 (9, ⟨.str, 1, 16, [.val .str []], some .str, false⟩),
 (23, ⟨.int .u64, 1, 8, [.val (.int .u64) 0], some (.int .u64), false⟩),
 (24, ⟨.arr 4 23, 4, 32, [.val (.arr 4 (.int .u64)) ([0, 0, 0, 0])], some (.arr 4 (.int .u64)), true⟩),
 (25, ⟨.arr 4 23, 4, 32, [.val (.arr 4 (.int .u64)) ([0, 0, 0, 0])], some (.arr 4 (.int .u64)), true⟩),
 (26, ⟨.int .i64, 1, 8, [.val (.int .i64) 0], some (.int .i64), false⟩),
 (30, ⟨.arr 256 4, 256, 256, [.val (.arr 256 .bool) ([false, false, false, false, false, false, false, false, false, false, false, false, false, false, false, false, false, false, false, false, false, false, false, false, false, false, false, false, false, false, false, false, false, false, false, false, false, false, false, false, false, false, false, false, false, false, false, false, false, false, false, false, false, false, false, false, false, false, false, false, false, false, false, false, false, false, false, false, false, false, false, false, false, false, false, false, false, false, false, false, false, false, false, false, false, false, false, false, false, false, false, false, false, false, false, false, false, false, false, false, false, false, false, false, false, false, false, false, false, false, false, false, false, false, false, false, false, false, false, false, false, false, false, false, false, false, false, false, false, false, false, false, false, false, false, false, false, false, false, false, false, false, false, false, false, false, false, false, false, false, false, false, false, false, false, false, false, false, false, false, false, false, false, false, false, false, false, false, false, false, false, false, false, false, false, false, false, false, false, false, false, false, false, false, false, false, false, false, false, false, false, false, false, false, false, false, false, false, false, false, false, false, false, false, false, false, false, false, false, false, false, false, false, false, false, false, false, false, false, false, false, false, false, false, false, false, false, false, false, false, false, false, false, false, false, false, false, false, false, false, false, false, false, false, false, false, false, false, false, false, false, false, false, false, false, false])], some (.arr 256 .bool), true⟩),
 (35, ⟨.slice 57, 1, 24, [.dL], some (.slice aC), false⟩),
 (38, ⟨.slice 51, 1, 24, [.dL], some (.slice aC), false⟩),
 (51, ⟨.struct [(0, 3), (1, 24), (5, 3), (6, 3), (7, 3), (8, 3), (9, 3)], 10, 80, [.val (.int .i64) 0, .val (.arr 4 (.int .u64)) ([0, 0, 0, 0]), .val (.int .i64) 0, .val (.int .i64) 0, .val (.int .i64) 0, .val (.int .i64) 0, .val (.int .i64) 0], some aC, true⟩),
 (57, ⟨.struct [(0, 3), (1, 25), (5, 3), (6, 3), (7, 3), (8, 3), (9, 3)], 10, 80, [.val (.int .i64) 0, .val (.arr 4 (.int .u64)) ([0, 0, 0, 0]), .val (.int .i64) 0, .val (.int .i64) 0, .val (.int .i64) 0, .val (.int .i64) 0, .val (.int .i64) 0], some aC, true⟩),
 (61, ⟨.ptr 63, 1, 8, [.kQ], none, false⟩),
 (63, ⟨.struct [(0, 9), (1, 3)], 2, 24, [.val .str [], .val (.int .i64) 0], some zSk, true⟩),
 (65, ⟨.struct [(0, 26), (1, 3)], 2, 16, [.val (.int .i64) 0, .val (.int .i64) 0], some zNw, true⟩),
 (78, ⟨.ptr 81, 1, 8, [.kQ], none, false⟩),
 (79, ⟨.arr 10 4, 10, 10, [.val (.arr 10 .bool) ([false, false, false, false, false, false, false, false, false, false])], some (.arr 10 .bool), true⟩),
 (81, ⟨.struct [(0, 9), (1, 3), (2, 35), (3, 3), (4, 79)], 14, 72, [.val .str [], .val (.int .i64) 0, .dL, .val (.int .i64) 0, .val (.arr 10 .bool) ([false, false, false, false, false, false, false, false, false, false])], some Dj, false⟩),
 (85, ⟨.struct [(0, 38), (1, 3), (2, 79), (12, 3), (13, 26)], 14, 64, [.dL, .val (.int .i64) 0, .val (.arr 10 .bool) ([false, false, false, false, false, false, false, false, false, false]), .val (.int .i64) 0, .val (.int .i64) 0], some Dk, false⟩),
 (90, ⟨.slice 9, 1, 24, [.dL], some (.slice .str), false⟩),
 (96, ⟨.slice 5, 1, 24, [.dL], some (.slice (.int .u8)), false⟩),
 (105, ⟨.slice 3, 1, 24, [.dL], some (.slice (.int .i64)), false⟩),
 (115, ⟨.slice 25, 1, 24, [.dL], some (.slice (.arr 4 (.int .u64))), false⟩),
 (130, ⟨.struct [(0, 4), (1, 3), (2, 79), (12, 4)], 13, 32, [.val .bool false, .val (.int .i64) 0, .val (.arr 10 .bool) ([false, false, false, false, false, false, false, false, false, false]), .val .bool false], some zGu, true⟩),
 (135, ⟨.func, 1, 8, [.val .opq Value.nilFunc], some .opq, false⟩),
 (137, ⟨.iface false, 1, 16, [.val .err false], some .err, false⟩)]
theorem bE : bG Tryz.prog tab := Zb (by kernel_rfl)
theorem mixed : Tryz.prog.follows .mixedOrders = true := by kernel_rfl
abbrev mJ : List Ty := [.str, .str]
abbrev iB : List Ty := [.bool]
abbrev nI : List Ty := [.str, .str]
abbrev jQ : List Ty := [.bool]
abbrev iR : Sh := ⟨2, [⟨0, false, [.ptr 0 0]⟩, ⟨1, false, [.v .str]⟩], [.box 81 [.v .str, .v (.int .i64), .own 1, .v (.int .i64), .v (.arr 10 .bool)], .row 57 aC]⟩
abbrev gI : Sh := ⟨1, [⟨0, false, [.v .bool]⟩], [.box 81 [.v .str, .v (.int .i64), .own 1, .v (.int .i64), .v (.arr 10 .bool)], .row 57 aC]⟩
abbrev lW : Sh := ⟨2, [⟨0, false, [.ptr 0 0]⟩, ⟨1, false, [.v .str]⟩], [.box 81 [.v .str, .v (.int .i64), .own 1, .v (.int .i64), .v (.arr 10 .bool)], .row 57 aC]⟩
abbrev jH : Sh := ⟨1, [⟨0, false, [.v .bool]⟩], [.box 81 [.v .str, .v (.int .i64), .own 1, .v (.int .i64), .v (.arr 10 .bool)], .row 57 aC]⟩
abbrev jW : Sh := ⟨2, [⟨0, false, [.ptr 0 0]⟩, ⟨1, true, [.v (.int .i64), .v (.arr 4 (.int .u64)), .v (.int .i64), .v (.int .i64), .v (.int .i64), .v (.int .i64), .v (.int .i64)]⟩], [.box 81 [.v .str, .v (.int .i64), .own 1, .v (.int .i64), .v (.arr 10 .bool)], .row 57 aC]⟩
abbrev iJ : Sh := ⟨1, [⟨0, false, [.v (.int .i64)]⟩], [.box 81 [.v .str, .v (.int .i64), .own 1, .v (.int .i64), .v (.arr 10 .bool)], .row 57 aC]⟩
abbrev yG : Sh := ⟨1, [⟨0, false, [.ptr 0 0]⟩], [.box 81 [.v .str, .v (.int .i64), .own 1, .v (.int .i64), .v (.arr 10 .bool)], .row 57 aC]⟩
abbrev qR : Sh := ⟨1, [⟨0, false, [.v .bool]⟩], [.box 81 [.v .str, .v (.int .i64), .own 1, .v (.int .i64), .v (.arr 10 .bool)], .row 57 aC]⟩
abbrev Po : List Ty := [.arr 4 (.int .u64)]
abbrev Gm : List Ty := [.arr 4 (.int .u64)]
abbrev sG : Sh := ⟨2, [⟨0, false, [.ptr 0 0]⟩, ⟨1, true, [.v (.arr 4 (.int .u64))]⟩], [.box 81 [.v .str, .v (.int .i64), .own 1, .v (.int .i64), .v (.arr 10 .bool)], .row 57 aC]⟩
abbrev nZ : Sh := ⟨1, [⟨0, false, [.v (.int .i64)]⟩], [.box 81 [.v .str, .v (.int .i64), .own 1, .v (.int .i64), .v (.arr 10 .bool)], .row 57 aC]⟩
abbrev qK : Sh := ⟨2, [⟨0, false, [.ptr 0 0]⟩, ⟨1, false, [.v .str]⟩], [.box 63 [.v .str, .v (.int .i64)]]⟩
abbrev nJ : Sh := ⟨1, [⟨0, false, [.v .bool]⟩], [.box 63 [.v .str, .v (.int .i64)]]⟩
abbrev rU : Sh := ⟨2, [⟨0, false, [.ptr 0 0]⟩, ⟨1, false, [.v .str]⟩], [.box 63 [.v .str, .v (.int .i64)]]⟩
abbrev oL : Sh := ⟨1, [⟨0, false, [.v .bool]⟩], [.box 63 [.v .str, .v (.int .i64)]]⟩
abbrev rV : Sh := ⟨1, [⟨0, false, [.ptr 0 0]⟩], [.box 63 [.v .str, .v (.int .i64)]]⟩
abbrev rW : Sh := ⟨0, [], [.box 63 [.v .str, .v (.int .i64)]]⟩
abbrev rX : Sh := ⟨1, [⟨0, true, [.v (.int .i64), .v (.int .i64)]⟩], [.box 63 [.v .str, .v (.int .i64)]]⟩
abbrev zU : List Ty := [.int .u8, .int .u8]
abbrev vQ : List Ty := [.arr 4 (.int .u64)]
abbrev Uw : List Ty := [.slice (.arr 4 (.int .u64))]
abbrev Mw : List Ty := [.arr 4 (.int .u64)]
abbrev Mx : List Ty := [.str]
abbrev Ej : List Ty := [.arr 4 (.int .u64)]
abbrev Ry : List Ty := [.str]
abbrev Gn : List Ty := [.arr 4 (.int .u64), .bool]
abbrev yT : Sh := ⟨3, [⟨0, false, [.ptr 0 0]⟩, ⟨1, false, [.v .bool]⟩, ⟨2, false, [.v .bool]⟩], [.box 63 [.v .str, .v (.int .i64)]]⟩
abbrev sH : Sh := ⟨2, [⟨0, false, [.v (.int .u8)]⟩, ⟨1, false, [.v .bool]⟩], [.box 63 [.v .str, .v (.int .i64)]]⟩
abbrev sI : Sh := ⟨1, [⟨0, true, [.v (.int .i64), .v (.int .i64)]⟩], [.box 63 [.v .str, .v (.int .i64)]]⟩
abbrev El : Sh := ⟨2, [⟨0, false, [.ptr 0 0]⟩, ⟨1, false, [.v .bool]⟩], [.box 63 [.v .str, .v (.int .i64)]]⟩
abbrev wR : Sh := ⟨1, [⟨0, true, [.v (.arr 4 (.int .u64))]⟩], [.box 63 [.v .str, .v (.int .i64)]]⟩
abbrev wS : Sh := ⟨1, [⟨0, true, [.v (.int .i64), .v (.int .i64)]⟩], [.box 63 [.v .str, .v (.int .i64)]]⟩
abbrev Em : Sh := ⟨2, [⟨0, false, [.ptr 0 0]⟩, ⟨1, false, [.ptr 1 0]⟩], [.box 61 [.ptr 2 0], .box 25 [.v (.arr 4 (.int .u64))], .box 63 [.v .str, .v (.int .i64)]]⟩
abbrev wT : Sh := ⟨0, [], [.box 61 [.ptr 2 0], .box 25 [.v (.arr 4 (.int .u64))], .box 63 [.v .str, .v (.int .i64)]]⟩
abbrev wU : Sh := ⟨1, [⟨0, true, [.v (.int .i64), .v (.int .i64)]⟩], [.box 61 [.ptr 2 0], .box 25 [.v (.arr 4 (.int .u64))], .box 63 [.v .str, .v (.int .i64)]]⟩
abbrev kW : Sh := ⟨1, [⟨0, false, [.clo 45 [(0, 0), (1, 0)]]⟩], [.box 61 [.ptr 2 0], .box 25 [.v (.arr 4 (.int .u64))], .box 63 [.v .str, .v (.int .i64)]]⟩
abbrev kX : Sh := ⟨1, [⟨0, true, [.v (.int .i64), .v (.int .i64)]⟩], [.box 61 [.ptr 2 0], .box 25 [.v (.arr 4 (.int .u64))], .box 63 [.v .str, .v (.int .i64)]]⟩
abbrev Km : List Ty := [.str]
abbrev Bc : List Ty := [.arr 4 (.int .u64), .int .i64, .int .i64]
abbrev jI : Sh := ⟨3, [⟨0, false, [.ptr 0 0]⟩, ⟨1, false, [.v (.int .i64)]⟩, ⟨2, false, [.v (.int .i64)]⟩], [.box 81 [.v .str, .v (.int .i64), .own 1, .v (.int .i64), .v (.arr 10 .bool)], .row 57 aC]⟩
abbrev jJ : Sh := ⟨0, [], [.box 81 [.v .str, .v (.int .i64), .own 1, .v (.int .i64), .v (.arr 10 .bool)], .row 57 aC]⟩
abbrev jK : Sh := ⟨1, [⟨0, true, [.v (.int .i64), .v (.int .i64)]⟩], [.box 81 [.v .str, .v (.int .i64), .own 1, .v (.int .i64), .v (.arr 10 .bool)], .row 57 aC]⟩
abbrev yH : Sh := ⟨1, [⟨0, false, [.ptr 0 0]⟩], [.box 81 [.v .str, .v (.int .i64), .own 1, .v (.int .i64), .v (.arr 10 .bool)], .row 57 aC]⟩
abbrev qU : Sh := ⟨1, [⟨0, false, [.v (.int .i64)]⟩], [.box 81 [.v .str, .v (.int .i64), .own 1, .v (.int .i64), .v (.arr 10 .bool)], .row 57 aC]⟩
abbrev yU : Sh := ⟨2, [⟨0, false, [.ptr 0 0]⟩, ⟨1, false, [.v (.int .i64)]⟩], [.box 81 [.v .str, .v (.int .i64), .own 1, .v (.int .i64), .v (.arr 10 .bool)], .row 57 aC]⟩
abbrev sJ : Sh := ⟨1, [⟨0, false, [.v (.int .i64)]⟩], [.box 81 [.v .str, .v (.int .i64), .own 1, .v (.int .i64), .v (.arr 10 .bool)], .row 57 aC]⟩
abbrev sK : Sh := ⟨1, [⟨0, true, [.v (.int .i64), .v (.int .i64)]⟩], [.box 81 [.v .str, .v (.int .i64), .own 1, .v (.int .i64), .v (.arr 10 .bool)], .row 57 aC]⟩
abbrev yV : Sh := ⟨2, [⟨0, false, [.ptr 0 0]⟩, ⟨1, false, [.v (.int .i64)]⟩], [.box 81 [.v .str, .v (.int .i64), .own 1, .v (.int .i64), .v (.arr 10 .bool)], .row 57 aC]⟩
abbrev sM : Sh := ⟨1, [⟨0, false, [.v (.int .i64)]⟩], [.box 81 [.v .str, .v (.int .i64), .own 1, .v (.int .i64), .v (.arr 10 .bool)], .row 57 aC]⟩
abbrev sN : Sh := ⟨1, [⟨0, true, [.v (.int .i64), .v (.int .i64)]⟩], [.box 81 [.v .str, .v (.int .i64), .own 1, .v (.int .i64), .v (.arr 10 .bool)], .row 57 aC]⟩
abbrev wF : Sh := ⟨2, [⟨0, false, [.ptr 0 0]⟩, ⟨1, false, [.v .bool]⟩], [.box 81 [.v .str, .v (.int .i64), .own 1, .v (.int .i64), .v (.arr 10 .bool)], .row 57 aC]⟩
abbrev qD : Sh := ⟨1, [⟨0, false, [.v (.int .i64)]⟩], [.box 81 [.v .str, .v (.int .i64), .own 1, .v (.int .i64), .v (.arr 10 .bool)], .row 57 aC]⟩
abbrev qE : Sh := ⟨1, [⟨0, true, [.v (.int .i64), .v (.int .i64)]⟩], [.box 81 [.v .str, .v (.int .i64), .own 1, .v (.int .i64), .v (.arr 10 .bool)], .row 57 aC]⟩
abbrev Bd : Sh := ⟨2, [⟨0, false, [.ptr 0 0]⟩, ⟨1, false, [.v .bool]⟩], [.box 81 [.v .str, .v (.int .i64), .own 1, .v (.int .i64), .v (.arr 10 .bool)], .row 57 aC]⟩
abbrev uO : Sh := ⟨1, [⟨0, false, [.v (.int .i64)]⟩], [.box 81 [.v .str, .v (.int .i64), .own 1, .v (.int .i64), .v (.arr 10 .bool)], .row 57 aC]⟩
abbrev uP : Sh := ⟨1, [⟨0, true, [.v (.int .i64), .v (.int .i64)]⟩], [.box 81 [.v .str, .v (.int .i64), .own 1, .v (.int .i64), .v (.arr 10 .bool)], .row 57 aC]⟩
abbrev gK : Sh := ⟨1, [⟨0, false, [.ptr 0 0]⟩], [.box 81 [.v .str, .v (.int .i64), .own 1, .v (.int .i64), .v (.arr 10 .bool)], .row 57 aC]⟩
abbrev fH : Sh := ⟨1, [⟨0, false, [.v (.int .i64)]⟩], [.box 81 [.v .str, .v (.int .i64), .own 1, .v (.int .i64), .v (.arr 10 .bool)], .row 57 aC]⟩
abbrev fI : Sh := ⟨1, [⟨0, true, [.v (.int .i64), .v (.int .i64)]⟩], [.box 81 [.v .str, .v (.int .i64), .own 1, .v (.int .i64), .v (.arr 10 .bool)], .row 57 aC]⟩
abbrev Kn : Sh := ⟨2, [⟨0, false, [.ptr 0 0]⟩, ⟨1, false, [.ptr 1 0]⟩], [.box 78 [.ptr 2 0], .box 9 [.v .str], .box 81 [.v .str, .v (.int .i64), .own 3, .v (.int .i64), .v (.arr 10 .bool)], .row 57 aC]⟩
abbrev Bf : Sh := ⟨0, [], [.box 78 [.ptr 2 0], .box 9 [.v .str], .box 81 [.v .str, .v (.int .i64), .own 3, .v (.int .i64), .v (.arr 10 .bool)], .row 57 aC]⟩
abbrev Bg : Sh := ⟨1, [⟨0, true, [.v (.int .i64), .v (.int .i64)]⟩], [.box 78 [.ptr 2 0], .box 9 [.v .str], .box 81 [.v .str, .v (.int .i64), .own 3, .v (.int .i64), .v (.arr 10 .bool)], .row 57 aC]⟩
abbrev mO : Sh := ⟨1, [⟨0, false, [.clo 57 [(0, 0), (1, 0)]]⟩], [.box 78 [.ptr 2 0], .box 9 [.v .str], .box 81 [.v .str, .v (.int .i64), .own 3, .v (.int .i64), .v (.arr 10 .bool)], .row 57 aC]⟩
abbrev mP : Sh := ⟨1, [⟨0, true, [.v (.int .i64), .v (.int .i64)]⟩], [.box 78 [.ptr 2 0], .box 9 [.v .str], .box 81 [.v .str, .v (.int .i64), .own 3, .v (.int .i64), .v (.arr 10 .bool)], .row 57 aC]⟩
abbrev zV : List Ty := [.str]
abbrev vR : List Ty := [.slice aC, .int .i64, .int .i64]
abbrev wV : List Ty := [aC]
abbrev rY : List Ty := [.int .i64]
abbrev En : List Ty := [aC]
abbrev wW : List Ty := [aC]
abbrev Ko : List Ty := [aC]
abbrev Bh : List Ty := [.bool]
abbrev yX : List Ty := [.slice (.int .i64), .int .i64]
abbrev sO : List Ty := [.int .i64]
abbrev vS : List Ty := [.slice (.int .i64), .int .i64]
abbrev pG : List Ty := [.bool]
abbrev zAx : List Ty := [.slice aC, aC]
abbrev Pp : List Ty := [.bool]
abbrev Oe : List Ty := [.slice aC]
abbrev Dn : List Ty := [.bool]
abbrev oM : Sh := ⟨7, [⟨0, false, [.v (.int .i64)]⟩, ⟨1, false, [.ptr 0 0]⟩, ⟨2, false, [.ptr 1 0]⟩, ⟨3, false, [.ptr 2 0]⟩, ⟨4, false, [.ptr 3 0]⟩, ⟨5, false, [.ptr 4 0]⟩, ⟨6, false, [.ptr 5 0]⟩], [.box 35 [.v (.slice aC)], .box 135 [.clo 142 [(0, 0), (1, 0), (2, 0), (3, 0), (4, 0), (5, 0)]], .box 3 [.v (.int .i64)], .box 4 [.v .bool], .box 79 [.v (.arr 10 .bool)], .box 4 [.v .bool]]⟩
abbrev lK : Sh := ⟨0, [], [.box 35 [.v (.slice aC)], .box 135 [.clo 142 [(0, 0), (1, 0), (2, 0), (3, 0), (4, 0), (5, 0)]], .box 3 [.v (.int .i64)], .box 4 [.v .bool], .box 79 [.v (.arr 10 .bool)], .box 4 [.v .bool]]⟩
abbrev Kq : List Ty := [.slice aC]
abbrev Bj : List Ty := [.int .i64, .bool, .bool]
abbrev Gp : List Ty := [.slice aC]
abbrev Bl : List Ty := [.int .i64, .bool, .bool]
abbrev Ux : List Ty := [.slice aC]
abbrev Na : List Ty := [.bool]
abbrev Wx : List Ty := [.int .u8]
abbrev Kr : List Ty := [.str]
abbrev zAy : List Ty := [.arr 4 (.int .u64), .int .u8]
abbrev Pq : List Ty := [.bool]
abbrev Wy : List Ty := [.str]
abbrev Ku : List Ty := [.slice .str]
abbrev Wz : List Ty := [.arr 4 (.int .u64)]
abbrev Kv : List Ty := [.str]
abbrev Rz : List Ty := [aC]
abbrev Gq : List Ty := [.str]
abbrev Pv : List Ty := [.slice aC]
abbrev Gr : List Ty := [.str]
abbrev Gs : List Ty := [.slice aC]
abbrev zW : List Ty := [.str, .int .i64]
abbrev Sb : List Ty := [.slice aC]
abbrev Gt : List Ty := [.int .i64]
abbrev zAz : List Ty := [.slice aC]
abbrev Pw : List Ty := [.bool]
abbrev Kw : List Ty := []
abbrev Bn : List Ty := [.bool]
abbrev Uy : List Ty := [.str]
abbrev Eo : List Ty := [.bool]
def uQ (n : Nat) : An (bX iB) := .nil
theorem rZ (n : Nat) : Pure Tryz.prog 166 mJ iB (fG n) :=
 dF (Γ := dI _ [] []) (an := uQ n) Tryz.func166 rfl (by kernel_rfl) bE (aU (all_nil) (aV)) mixed (aO _ _ rfl) (fun x => by kernel_rfl)
def Ik (n : Nat) : An (bX jQ) := .nil
theorem nV (n : Nat) : Pure Tryz.prog 131 nI jQ (strings_HasPrefix n) :=
 dF (Γ := dI _ [(166, bV mJ iB (fG n))] []) (an := Ik n) Tryz.func131 rfl (by kernel_rfl) bE (aU (all_cons (aN (rZ n)) (all_nil)) (aV)) mixed (aO _ _ rfl) (fun x => by kernel_rfl)
def Ky (n : Nat) : An (gI.X) := .nil
theorem gP (n : Nat) : jU Tryz.prog 92 iR gI (aL n) :=
 pE (Γ := dI _ [(131, bV nI jQ (strings_HasPrefix n))] []) (an := Ky n) (co := [.gc [0, 1]]) Tryz.func92 rfl (by kernel_rfl) bE (aU (all_cons (aN (nV n)) (all_nil)) (aV)) mixed (aO _ _ rfl) (by kernel_rfl) (by kernel_rfl) (fun x => by kernel_rfl)
def Nl (n : Nat) : An (jH.X) := .nil
theorem jX (n : Nat) : jU Tryz.prog 89 lW jH (bJ n) :=
 pE (Γ := dI _ [(92, peM iR gI (aL n))] []) (an := Nl n) (co := [.gc [0, 1]]) Tryz.func89 rfl (by kernel_rfl) bE (aU (all_cons (dR (gP n)) (all_nil)) (aV)) mixed (aO _ _ rfl) (by kernel_rfl) (by kernel_rfl) (fun x => by kernel_rfl)
def Px (n : Nat) : An (iJ.X) := .nil
theorem iK (n : Nat) : jU Tryz.prog 90 jW iJ (bD n) :=
 pE (Γ := dI _ [] []) (an := Px n) (co := [.gc [0, 1]]) Tryz.func90 rfl (by kernel_rfl) bE (aU (all_nil) (aV)) mixed (aO _ _ rfl) (by kernel_rfl) (by kernel_rfl) (fun x => by kernel_rfl)
def Il (n : Nat) : An (qR.X) := .nil
theorem Ch (n : Nat) : jU Tryz.prog 91 yG qR (kL n) :=
 pE (Γ := dI _ [(92, peM iR gI (aL n))] []) (an := Il n) (co := [.gc [0, 1]]) Tryz.func91 rfl (by kernel_rfl) bE (aU (all_cons (dR (gP n)) (all_nil)) (aV)) mixed (aO _ _ rfl) (by kernel_rfl) (by kernel_rfl) (fun x => by kernel_rfl)
def zJd (n : Nat) : An (bX Gm) := (.mk .nil (.mk (.mk .nil (.mk (.loop ⟨15, [⟨1, false, [.ptr 0 0]⟩, ⟨2, false, [.ptr 1 0]⟩, ⟨4, false, [.v (.int .i64)]⟩], [.box 25 [.v (.arr 4 (.int .u64))], .box 25 [.v (.arr 4 (.int .u64))]]⟩ [.keep [false, true, true, false, true], .gcA 0, .gcA 0] [.keep [false, true, true, false, true], .gcA 0, .gcA 0] n .nil) .nil []) []) .nil []) [])
theorem Kz (n : Nat) : Pure Tryz.prog 50 Po Gm (Af n) :=
 dF (Γ := dI _ [] []) (an := zJd n) Tryz.func50 rfl (by kernel_rfl) bE (aU (all_nil) (aV)) mixed (aO _ _ rfl) (fun x => by kernel_rfl)
def La (n : Nat) : An (nZ.X) := .nil
theorem tC (n : Nat) : jU Tryz.prog 134 sG nZ (bS n) :=
 pE (Γ := dI _ [(90, peM jW iJ (bD n))] []) (an := La n) (co := [.gc [0, 1]]) Tryz.func134 rfl (by kernel_rfl) bE (aU (all_cons (dR (iK n)) (all_nil)) (aV)) mixed (aO _ _ rfl) (by kernel_rfl) (by kernel_rfl) (fun x => by kernel_rfl)
def Py (n : Nat) : An (nJ.X) := .nil
theorem pI (n : Nat) : jU Tryz.prog 83 qK nJ (dJ n) :=
 pE (Γ := dI _ [(131, bV nI jQ (strings_HasPrefix n))] []) (an := Py n) (co := [.gc [0]]) Tryz.func83 rfl (by kernel_rfl) bE (aU (all_cons (aN (nV n)) (all_nil)) (aV)) mixed (aO _ _ rfl) (by kernel_rfl) (by kernel_rfl) (fun x => by kernel_rfl)
def Sc (n : Nat) : An (oL.X) := .nil
theorem qF (n : Nat) : jU Tryz.prog 46 rU oL (dB n) :=
 pE (Γ := dI _ [(83, peM qK nJ (dJ n))] []) (an := Sc n) (co := [.gc [0]]) Tryz.func46 rfl (by kernel_rfl) bE (aU (all_cons (dR (pI n)) (all_nil)) (aV)) mixed (aO _ _ rfl) (by kernel_rfl) (by kernel_rfl) (fun x => by kernel_rfl)
end Go.Dec
