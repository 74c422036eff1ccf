/- Part of a proof over this seat: a library of my own, and what it says of this seat. No statement is proved here. -/
import Derived.Test.YthhbdkdofhhoeaaGreatDoorProg
import Derived.Test.YthhbdkdofhhoeaaGreatDoorPartBB
import Derived.Test.YthhbdkdofhhoeaaGreatDoorPartBA
import Derived.Test.YthhbdkdofhhoeaaGreatDoorPartAV
import Derived.KernelRfl
namespace Go.Dec
open Go.Proofs
set_option linter.unusedVariables false
def tab : Tab := [(3, ⟨.int .i64, 1, 8, [.val (.int .i64) 0], some (.int .i64), false⟩),
 (4, ⟨.bool, 1, 1, [.val .bool false], some .bool, false⟩),
 (5, ⟨.int .u8, 1, 1, [.val (.int .u8) 0], some (.int .u8), false⟩),
 (9, ⟨.str, 1, 16, [.val .str []], some .str, false⟩),
 (23, ⟨.int .u64, 1, 8, [.val (.int .u64) 0], some (.int .u64), false⟩),
 (24, ⟨.arr 4 23, 4, 32, [.val (.arr 4 (.int .u64)) ([0, 0, 0, 0])], some (.arr 4 (.int .u64)), true⟩),
 (25, ⟨.arr 4 23, 4, 32, [.val (.arr 4 (.int .u64)) ([0, 0, 0, 0])], some (.arr 4 (.int .u64)), true⟩),
 (26, ⟨.int .i64, 1, 8, [.val (.int .i64) 0], some (.int .i64), false⟩),
 (30, ⟨.arr 256 4, 256, 256, [.val (.arr 256 .bool) ([false, false, false, false, false, false, false, false, false, false, false, false, false, false, false, false, false, false, false, false, false, false, false, false, false, false, false, false, false, false, false, false, false, false, false, false, false, false, false, false, false, false, false, false, false, false, false, false, false, false, false, false, false, false, false, false, false, false, false, false, false, false, false, false, false, false, false, false, false, false, false, false, false, false, false, false, false, false, false, false, false, false, false, false, false, false, false, false, false, false, false, false, false, false, false, false, false, false, false, false, false, false, false, false, false, false, false, false, false, false, false, false, false, false, false, false, false, false, false, false, false, false, false, false, false, false, false, false, false, false, false, false, false, false, false, false, false, false, false, false, false, false, false, false, false, false, false, false, false, false, false, false, false, false, false, false, false, false, false, false, false, false, false, false, false, false, false, false, false, false, false, false, false, false, false, false, false, false, false, false, false, false, false, false, false, false, false, false, false, false, false, false, false, false, false, false, false, false, false, false, false, false, false, false, false, false, false, false, false, false, false, false, false, false, false, false, false, false, false, false, false, false, false, false, false, false, false, false, false, false, false, false, false, false, false, false, false, false, false, false, false, false, false, false, false, false, false, false, false, false, false, false, false, false, false, false])], some (.arr 256 .bool), true⟩),
 (35, ⟨.slice 57, 1, 24, [.dh], some (.slice ak), false⟩),
 (38, ⟨.slice 51, 1, 24, [.dh], some (.slice ak), false⟩),
 (51, ⟨.struct [(0, 3), (1, 24), (5, 3), (6, 3), (7, 3), (8, 3), (9, 3)], 10, 80, [.val (.int .i64) 0, .val (.arr 4 (.int .u64)) ([0, 0, 0, 0]), .val (.int .i64) 0, .val (.int .i64) 0, .val (.int .i64) 0, .val (.int .i64) 0, .val (.int .i64) 0], some ak, true⟩),
 (57, ⟨.struct [(0, 3), (1, 25), (5, 3), (6, 3), (7, 3), (8, 3), (9, 3)], 10, 80, [.val (.int .i64) 0, .val (.arr 4 (.int .u64)) ([0, 0, 0, 0]), .val (.int .i64) 0, .val (.int .i64) 0, .val (.int .i64) 0, .val (.int .i64) 0, .val (.int .i64) 0], some ak, true⟩),
 (61, ⟨.ptr 63, 1, 8, [.jy], none, false⟩),
 (63, ⟨.struct [(0, 9), (1, 3)], 2, 24, [.val .str [], .val (.int .i64) 0], some UL, true⟩),
 (65, ⟨.struct [(0, 26), (1, 3)], 2, 16, [.val (.int .i64) 0, .val (.int .i64) 0], some RQ, true⟩),
 (78, ⟨.ptr 81, 1, 8, [.jy], none, false⟩),
 (79, ⟨.arr 10 4, 10, 10, [.val (.arr 10 .bool) ([false, false, false, false, false, false, false, false, false, false])], some (.arr 10 .bool), true⟩),
 (81, ⟨.struct [(0, 9), (1, 3), (2, 35), (3, 3), (4, 79)], 14, 72, [.val .str [], .val (.int .i64) 0, .dh, .val (.int .i64) 0, .val (.arr 10 .bool) ([false, false, false, false, false, false, false, false, false, false])], some xM, false⟩),
 (85, ⟨.struct [(0, 38), (1, 3), (2, 79), (12, 3), (13, 26)], 14, 64, [.dh, .val (.int .i64) 0, .val (.arr 10 .bool) ([false, false, false, false, false, false, false, false, false, false]), .val (.int .i64) 0, .val (.int .i64) 0], some xO, false⟩),
 (90, ⟨.slice 9, 1, 24, [.dh], some (.slice .str), false⟩),
 (96, ⟨.slice 5, 1, 24, [.dh], some (.slice (.int .u8)), false⟩),
 (105, ⟨.slice 3, 1, 24, [.dh], some (.slice (.int .i64)), false⟩),
 (115, ⟨.slice 25, 1, 24, [.dh], some (.slice (.arr 4 (.int .u64))), false⟩),
 (130, ⟨.struct [(0, 4), (1, 3), (2, 79), (12, 4)], 13, 32, [.val .bool false, .val (.int .i64) 0, .val (.arr 10 .bool) ([false, false, false, false, false, false, false, false, false, false]), .val .bool false], some NJ, true⟩),
 (135, ⟨.func, 1, 8, [.val .opq Value.nilFunc], some .opq, false⟩),
 (137, ⟨.iface false, 1, 16, [.val .err false], some .err, false⟩)]
theorem aZ : bg Tryz.prog tab := Jo (by kernel_rfl)
theorem mixed : Tryz.prog.follows .mixedOrders = true := by kernel_rfl
abbrev kD : List Ty := [.str, .str]
abbrev gD : List Ty := [.bool]
abbrev kX : List Ty := [.str, .str]
abbrev iR : List Ty := [.bool]
abbrev gX : Sh := ⟨2, [⟨0, false, [.ptr 0 0]⟩, ⟨1, false, [.v .str]⟩], [.box 81 [.v .str, .v (.int .i64), .own 1, .v (.int .i64), .v (.arr 10 .bool)], .row 57 ak]⟩
abbrev fH : Sh := ⟨1, [⟨0, false, [.v .bool]⟩], [.box 81 [.v .str, .v (.int .i64), .own 1, .v (.int .i64), .v (.arr 10 .bool)], .row 57 ak]⟩
abbrev jY : Sh := ⟨2, [⟨0, false, [.ptr 0 0]⟩, ⟨1, false, [.v .str]⟩], [.box 81 [.v .str, .v (.int .i64), .own 1, .v (.int .i64), .v (.arr 10 .bool)], .row 57 ak]⟩
abbrev iI : Sh := ⟨1, [⟨0, false, [.v .bool]⟩], [.box 81 [.v .str, .v (.int .i64), .own 1, .v (.int .i64), .v (.arr 10 .bool)], .row 57 ak]⟩
abbrev iY : Sh := ⟨2, [⟨0, false, [.ptr 0 0]⟩, ⟨1, true, [.v (.int .i64), .v (.arr 4 (.int .u64)), .v (.int .i64), .v (.int .i64), .v (.int .i64), .v (.int .i64), .v (.int .i64)]⟩], [.box 81 [.v .str, .v (.int .i64), .own 1, .v (.int .i64), .v (.arr 10 .bool)], .row 57 ak]⟩
abbrev gM : Sh := ⟨1, [⟨0, false, [.v (.int .i64)]⟩], [.box 81 [.v .str, .v (.int .i64), .own 1, .v (.int .i64), .v (.arr 10 .bool)], .row 57 ak]⟩
abbrev uf : Sh := ⟨1, [⟨0, false, [.ptr 0 0]⟩], [.box 81 [.v .str, .v (.int .i64), .own 1, .v (.int .i64), .v (.arr 10 .bool)], .row 57 ak]⟩
abbrev nL : Sh := ⟨1, [⟨0, false, [.v .bool]⟩], [.box 81 [.v .str, .v (.int .i64), .own 1, .v (.int .i64), .v (.arr 10 .bool)], .row 57 ak]⟩
abbrev DY : List Ty := [.arr 4 (.int .u64)]
abbrev zy : List Ty := [.arr 4 (.int .u64)]
abbrev oK : Sh := ⟨2, [⟨0, false, [.ptr 0 0]⟩, ⟨1, true, [.v (.arr 4 (.int .u64))]⟩], [.box 81 [.v .str, .v (.int .i64), .own 1, .v (.int .i64), .v (.arr 10 .bool)], .row 57 ak]⟩
abbrev lS : Sh := ⟨1, [⟨0, false, [.v (.int .i64)]⟩], [.box 81 [.v .str, .v (.int .i64), .own 1, .v (.int .i64), .v (.arr 10 .bool)], .row 57 ak]⟩
abbrev nD : Sh := ⟨2, [⟨0, false, [.ptr 0 0]⟩, ⟨1, false, [.v .str]⟩], [.box 63 [.v .str, .v (.int .i64)]]⟩
abbrev kY : Sh := ⟨1, [⟨0, false, [.v .bool]⟩], [.box 63 [.v .str, .v (.int .i64)]]⟩
abbrev oz : Sh := ⟨2, [⟨0, false, [.ptr 0 0]⟩, ⟨1, false, [.v .str]⟩], [.box 63 [.v .str, .v (.int .i64)]]⟩
abbrev l6 : Sh := ⟨1, [⟨0, false, [.v .bool]⟩], [.box 63 [.v .str, .v (.int .i64)]]⟩
abbrev oC : Sh := ⟨1, [⟨0, false, [.ptr 0 0]⟩], [.box 63 [.v .str, .v (.int .i64)]]⟩
abbrev oD : Sh := ⟨0, [], [.box 63 [.v .str, .v (.int .i64)]]⟩
abbrev oF : Sh := ⟨1, [⟨0, true, [.v (.int .i64), .v (.int .i64)]⟩], [.box 63 [.v .str, .v (.int .i64)]]⟩
abbrev vB : List Ty := [.int .u8, .int .u8]
abbrev qX : List Ty := [.arr 4 (.int .u64)]
abbrev Gu : List Ty := [.slice (.arr 4 (.int .u64))]
abbrev CG : List Ty := [.arr 4 (.int .u64)]
abbrev CJ : List Ty := [.str]
abbrev yD : List Ty := [.arr 4 (.int .u64)]
abbrev E9 : List Ty := [.str]
abbrev zA : List Ty := [.arr 4 (.int .u64), .bool]
abbrev uH : Sh := ⟨3, [⟨0, false, [.ptr 0 0]⟩, ⟨1, false, [.v .bool]⟩, ⟨2, false, [.v .bool]⟩], [.box 63 [.v .str, .v (.int .i64)]]⟩
abbrev oL : Sh := ⟨2, [⟨0, false, [.v (.int .u8)]⟩, ⟨1, false, [.v .bool]⟩], [.box 63 [.v .str, .v (.int .i64)]]⟩
abbrev oM : Sh := ⟨1, [⟨0, true, [.v (.int .i64), .v (.int .i64)]⟩], [.box 63 [.v .str, .v (.int .i64)]]⟩
abbrev yE : Sh := ⟨2, [⟨0, false, [.ptr 0 0]⟩, ⟨1, false, [.v .bool]⟩], [.box 63 [.v .str, .v (.int .i64)]]⟩
abbrev rZ : Sh := ⟨1, [⟨0, true, [.v (.arr 4 (.int .u64))]⟩], [.box 63 [.v .str, .v (.int .i64)]]⟩
abbrev r9 : Sh := ⟨1, [⟨0, true, [.v (.int .i64), .v (.int .i64)]⟩], [.box 63 [.v .str, .v (.int .i64)]]⟩
abbrev yF : Sh := ⟨2, [⟨0, false, [.ptr 0 0]⟩, ⟨1, false, [.ptr 1 0]⟩], [.box 61 [.ptr 2 0], .box 25 [.v (.arr 4 (.int .u64))], .box 63 [.v .str, .v (.int .i64)]]⟩
abbrev sj : Sh := ⟨0, [], [.box 61 [.ptr 2 0], .box 25 [.v (.arr 4 (.int .u64))], .box 63 [.v .str, .v (.int .i64)]]⟩
abbrev su : Sh := ⟨1, [⟨0, true, [.v (.int .i64), .v (.int .i64)]⟩], [.box 61 [.ptr 2 0], .box 25 [.v (.arr 4 (.int .u64))], .box 63 [.v .str, .v (.int .i64)]]⟩
abbrev jF : Sh := ⟨1, [⟨0, false, [.clo 45 [(0, 0), (1, 0)]]⟩], [.box 61 [.ptr 2 0], .box 25 [.v (.arr 4 (.int .u64))], .box 63 [.v .str, .v (.int .i64)]]⟩
abbrev jG : Sh := ⟨1, [⟨0, true, [.v (.int .i64), .v (.int .i64)]⟩], [.box 61 [.ptr 2 0], .box 25 [.v (.arr 4 (.int .u64))], .box 63 [.v .str, .v (.int .i64)]]⟩
abbrev Bu : List Ty := [.str]
abbrev wz : List Ty := [.arr 4 (.int .u64), .int .i64, .int .i64]
abbrev iJ : Sh := ⟨3, [⟨0, false, [.ptr 0 0]⟩, ⟨1, false, [.v (.int .i64)]⟩, ⟨2, false, [.v (.int .i64)]⟩], [.box 81 [.v .str, .v (.int .i64), .own 1, .v (.int .i64), .v (.arr 10 .bool)], .row 57 ak]⟩
abbrev iK : Sh := ⟨0, [], [.box 81 [.v .str, .v (.int .i64), .own 1, .v (.int .i64), .v (.arr 10 .bool)], .row 57 ak]⟩
abbrev iL : Sh := ⟨1, [⟨0, true, [.v (.int .i64), .v (.int .i64)]⟩], [.box 81 [.v .str, .v (.int .i64), .own 1, .v (.int .i64), .v (.arr 10 .bool)], .row 57 ak]⟩
abbrev ug : Sh := ⟨1, [⟨0, false, [.ptr 0 0]⟩], [.box 81 [.v .str, .v (.int .i64), .own 1, .v (.int .i64), .v (.arr 10 .bool)], .row 57 ak]⟩
abbrev nM : Sh := ⟨1, [⟨0, false, [.v (.int .i64)]⟩], [.box 81 [.v .str, .v (.int .i64), .own 1, .v (.int .i64), .v (.arr 10 .bool)], .row 57 ak]⟩
abbrev uI : Sh := ⟨2, [⟨0, false, [.ptr 0 0]⟩, ⟨1, false, [.v (.int .i64)]⟩], [.box 81 [.v .str, .v (.int .i64), .own 1, .v (.int .i64), .v (.arr 10 .bool)], .row 57 ak]⟩
abbrev oN : Sh := ⟨1, [⟨0, false, [.v (.int .i64)]⟩], [.box 81 [.v .str, .v (.int .i64), .own 1, .v (.int .i64), .v (.arr 10 .bool)], .row 57 ak]⟩
abbrev oO : Sh := ⟨1, [⟨0, true, [.v (.int .i64), .v (.int .i64)]⟩], [.box 81 [.v .str, .v (.int .i64), .own 1, .v (.int .i64), .v (.arr 10 .bool)], .row 57 ak]⟩
abbrev uJ : Sh := ⟨2, [⟨0, false, [.ptr 0 0]⟩, ⟨1, false, [.v (.int .i64)]⟩], [.box 81 [.v .str, .v (.int .i64), .own 1, .v (.int .i64), .v (.arr 10 .bool)], .row 57 ak]⟩
abbrev oP : Sh := ⟨1, [⟨0, false, [.v (.int .i64)]⟩], [.box 81 [.v .str, .v (.int .i64), .own 1, .v (.int .i64), .v (.arr 10 .bool)], .row 57 ak]⟩
abbrev oQ : Sh := ⟨1, [⟨0, true, [.v (.int .i64), .v (.int .i64)]⟩], [.box 81 [.v .str, .v (.int .i64), .own 1, .v (.int .i64), .v (.arr 10 .bool)], .row 57 ak]⟩
abbrev rJ : Sh := ⟨2, [⟨0, false, [.ptr 0 0]⟩, ⟨1, false, [.v .bool]⟩], [.box 81 [.v .str, .v (.int .i64), .own 1, .v (.int .i64), .v (.arr 10 .bool)], .row 57 ak]⟩
abbrev ng : Sh := ⟨1, [⟨0, false, [.v (.int .i64)]⟩], [.box 81 [.v .str, .v (.int .i64), .own 1, .v (.int .i64), .v (.arr 10 .bool)], .row 57 ak]⟩
abbrev ni : Sh := ⟨1, [⟨0, true, [.v (.int .i64), .v (.int .i64)]⟩], [.box 81 [.v .str, .v (.int .i64), .own 1, .v (.int .i64), .v (.arr 10 .bool)], .row 57 ak]⟩
abbrev wB : Sh := ⟨2, [⟨0, false, [.ptr 0 0]⟩, ⟨1, false, [.v .bool]⟩], [.box 81 [.v .str, .v (.int .i64), .own 1, .v (.int .i64), .v (.arr 10 .bool)], .row 57 ak]⟩
abbrev qo : Sh := ⟨1, [⟨0, false, [.v (.int .i64)]⟩], [.box 81 [.v .str, .v (.int .i64), .own 1, .v (.int .i64), .v (.arr 10 .bool)], .row 57 ak]⟩
abbrev qp : Sh := ⟨1, [⟨0, true, [.v (.int .i64), .v (.int .i64)]⟩], [.box 81 [.v .str, .v (.int .i64), .own 1, .v (.int .i64), .v (.arr 10 .bool)], .row 57 ak]⟩
abbrev fJ : Sh := ⟨1, [⟨0, false, [.ptr 0 0]⟩], [.box 81 [.v .str, .v (.int .i64), .own 1, .v (.int .i64), .v (.arr 10 .bool)], .row 57 ak]⟩
abbrev eG : Sh := ⟨1, [⟨0, false, [.v (.int .i64)]⟩], [.box 81 [.v .str, .v (.int .i64), .own 1, .v (.int .i64), .v (.arr 10 .bool)], .row 57 ak]⟩
abbrev eH : Sh := ⟨1, [⟨0, true, [.v (.int .i64), .v (.int .i64)]⟩], [.box 81 [.v .str, .v (.int .i64), .own 1, .v (.int .i64), .v (.arr 10 .bool)], .row 57 ak]⟩
abbrev Bv : Sh := ⟨2, [⟨0, false, [.ptr 0 0]⟩, ⟨1, false, [.ptr 1 0]⟩], [.box 78 [.ptr 2 0], .box 9 [.v .str], .box 81 [.v .str, .v (.int .i64), .own 3, .v (.int .i64), .v (.arr 10 .bool)], .row 57 ak]⟩
abbrev wC : Sh := ⟨0, [], [.box 78 [.ptr 2 0], .box 9 [.v .str], .box 81 [.v .str, .v (.int .i64), .own 3, .v (.int .i64), .v (.arr 10 .bool)], .row 57 ak]⟩
abbrev wD : Sh := ⟨1, [⟨0, true, [.v (.int .i64), .v (.int .i64)]⟩], [.box 78 [.ptr 2 0], .box 9 [.v .str], .box 81 [.v .str, .v (.int .i64), .own 3, .v (.int .i64), .v (.arr 10 .bool)], .row 57 ak]⟩
abbrev kG : Sh := ⟨1, [⟨0, false, [.clo 57 [(0, 0), (1, 0)]]⟩], [.box 78 [.ptr 2 0], .box 9 [.v .str], .box 81 [.v .str, .v (.int .i64), .own 3, .v (.int .i64), .v (.arr 10 .bool)], .row 57 ak]⟩
abbrev kH : Sh := ⟨1, [⟨0, true, [.v (.int .i64), .v (.int .i64)]⟩], [.box 78 [.ptr 2 0], .box 9 [.v .str], .box 81 [.v .str, .v (.int .i64), .own 3, .v (.int .i64), .v (.arr 10 .bool)], .row 57 ak]⟩
abbrev vC : List Ty := [.str]
abbrev qY : List Ty := [.slice ak, .int .i64, .int .i64]
abbrev sw : List Ty := [ak]
abbrev oG : List Ty := [.int .i64]
abbrev yG : List Ty := [ak]
abbrev sD : List Ty := [ak]
abbrev Bw : List Ty := [ak]
abbrev wE : List Ty := [.bool]
abbrev uK : List Ty := [.slice (.int .i64), .int .i64]
abbrev oU : List Ty := [.int .i64]
abbrev qZ : List Ty := [.slice (.int .i64), .int .i64]
abbrev mH : List Ty := [.bool]
abbrev Ki : List Ty := [.slice ak, ak]
abbrev DZ : List Ty := [.bool]
abbrev Dp : List Ty := [.slice ak]
abbrev xR : List Ty := [.bool]
abbrev l7 : Sh := ⟨7, [⟨0, false, [.v (.int .i64)]⟩, ⟨1, false, [.ptr 0 0]⟩, ⟨2, false, [.ptr 1 0]⟩, ⟨3, false, [.ptr 2 0]⟩, ⟨4, false, [.ptr 3 0]⟩, ⟨5, false, [.ptr 4 0]⟩, ⟨6, false, [.ptr 5 0]⟩], [.box 35 [.v (.slice ak)], .box 135 [.clo 142 [(0, 0), (1, 0), (2, 0), (3, 0), (4, 0), (5, 0)]], .box 3 [.v (.int .i64)], .box 4 [.v .bool], .box 79 [.v (.arr 10 .bool)], .box 4 [.v .bool]]⟩
abbrev jQ : Sh := ⟨0, [], [.box 35 [.v (.slice ak)], .box 135 [.clo 142 [(0, 0), (1, 0), (2, 0), (3, 0), (4, 0), (5, 0)]], .box 3 [.v (.int .i64)], .box 4 [.v .bool], .box 79 [.v (.arr 10 .bool)], .box 4 [.v .bool]]⟩
abbrev Bz : List Ty := [.slice ak]
abbrev wF : List Ty := [.int .i64, .bool, .bool]
abbrev zB : List Ty := [.slice ak]
abbrev wG : List Ty := [.int .i64, .bool, .bool]
abbrev Gv : List Ty := [.slice ak]
abbrev CK : List Ty := [.bool]
abbrev H9 : List Ty := [.int .u8]
abbrev BA : List Ty := [.str]
abbrev Kj : List Ty := [.arr 4 (.int .u64), .int .u8]
abbrev D5 : List Ty := [.bool]
abbrev Ia : List Ty := [.str]
abbrev BD : List Ty := [.slice .str]
abbrev Ib : List Ty := [.arr 4 (.int .u64)]
abbrev BF : List Ty := [.str]
abbrev Fa : List Ty := [ak]
abbrev zC : List Ty := [.str]
abbrev D6 : List Ty := [.slice ak]
abbrev zD : List Ty := [.str]
abbrev zF : List Ty := [.slice ak]
abbrev vD : List Ty := [.str, .int .i64]
abbrev Fb : List Ty := [.slice ak]
abbrev zG : List Ty := [.int .i64]
abbrev Kk : List Ty := [.slice ak]
abbrev D7 : List Ty := [.bool]
abbrev BG : List Ty := []
abbrev wH : List Ty := [.bool]
abbrev Gw : List Ty := [.str]
abbrev yH : List Ty := [.bool]
def qw (n : Nat) : An (bP gD) := .nil
theorem oH (n : Nat) : Pure Tryz.prog 166 kD gD (eD n) :=
 bZ (Γ := cK _ [] []) (an := qw n) Tryz.func166 rfl (by kernel_rfl) aZ (aP (all_nil) (aQ)) mixed (aJ _ _ rfl) (fun x => by kernel_rfl)
def Ag (n : Nat) : An (bP iR) := .nil
theorem lK (n : Nat) : Pure Tryz.prog 131 kX iR (strings_HasPrefix n) :=
 bZ (Γ := cK _ [(166, bM kD gD (eD n))] []) (an := Ag n) Tryz.func131 rfl (by kernel_rfl) aZ (aP (all_cons (aI (oH n)) (all_nil)) (aQ)) mixed (aJ _ _ rfl) (fun x => by kernel_rfl)
def BH (n : Nat) : An (fH.X) := .nil
theorem fP (n : Nat) : iW Tryz.prog 92 gX fH (aG n) :=
 mF (Γ := cK _ [(131, bM kX iR (strings_HasPrefix n))] []) (an := BH n) (co := [.gc [0, 1]]) Tryz.func92 rfl (by kernel_rfl) aZ (aP (all_cons (aI (lK n)) (all_nil)) (aQ)) mixed (aJ _ _ rfl) (by kernel_rfl) (by kernel_rfl) (fun x => by kernel_rfl)
def CY (n : Nat) : An (iI.X) := .nil
theorem iZ (n : Nat) : iW Tryz.prog 89 jY iI (bB n) :=
 mF (Γ := cK _ [(92, peM gX fH (aG n))] []) (an := CY n) (co := [.gc [0, 1]]) Tryz.func89 rfl (by kernel_rfl) aZ (aP (all_cons (dB (fP n)) (all_nil)) (aQ)) mixed (aJ _ _ rfl) (by kernel_rfl) (by kernel_rfl) (fun x => by kernel_rfl)
def D8 (n : Nat) : An (gM.X) := .nil
theorem gN (n : Nat) : iW Tryz.prog 90 iY gM (aY n) :=
 mF (Γ := cK _ [] []) (an := D8 n) (co := [.gc [0, 1]]) Tryz.func90 rfl (by kernel_rfl) aZ (aP (all_nil) (aQ)) mixed (aJ _ _ rfl) (by kernel_rfl) (by kernel_rfl) (fun x => by kernel_rfl)
def Ah (n : Nat) : An (nL.X) := .nil
theorem wW (n : Nat) : iW Tryz.prog 91 uf nL (jq n) :=
 mF (Γ := cK _ [(92, peM gX fH (aG n))] []) (an := Ah n) (co := [.gc [0, 1]]) Tryz.func91 rfl (by kernel_rfl) aZ (aP (all_cons (dB (fP n)) (all_nil)) (aQ)) mixed (aJ _ _ rfl) (by kernel_rfl) (by kernel_rfl) (fun x => by kernel_rfl)
def O9 (n : Nat) : An (bP zy) := (.mk .nil (.mk (.mk .nil (.mk (.loop ⟨15, [⟨1, false, [.ptr 0 0]⟩, ⟨2, false, [.ptr 1 0]⟩, ⟨4, false, [.v (.int .i64)]⟩], [.box 25 [.v (.arr 4 (.int .u64))], .box 25 [.v (.arr 4 (.int .u64))]]⟩ [.keep [false, true, true, false, true], .gcA 0, .gcA 0] [.keep [false, true, true, false, true], .gcA 0, .gcA 0] n .nil) .nil []) []) .nil []) [])
theorem BI (n : Nat) : Pure Tryz.prog 50 DY zy (vM n) :=
 bZ (Γ := cK _ [] []) (an := O9 n) Tryz.func50 rfl (by kernel_rfl) aZ (aP (all_nil) (aQ)) mixed (aJ _ _ rfl) (fun x => by kernel_rfl)
def BJ (n : Nat) : An (lS.X) := .nil
theorem pz (n : Nat) : iW Tryz.prog 134 oK lS (bJ n) :=
 mF (Γ := cK _ [(90, peM iY gM (aY n))] []) (an := BJ n) (co := [.gc [0, 1]]) Tryz.func134 rfl (by kernel_rfl) aZ (aP (all_cons (dB (gN n)) (all_nil)) (aQ)) mixed (aJ _ _ rfl) (by kernel_rfl) (by kernel_rfl) (fun x => by kernel_rfl)
def D9 (n : Nat) : An (kY.X) := .nil
theorem mI (n : Nat) : iW Tryz.prog 83 nD kY (cO n) :=
 mF (Γ := cK _ [(131, bM kX iR (strings_HasPrefix n))] []) (an := D9 n) (co := [.gc [0]]) Tryz.func83 rfl (by kernel_rfl) aZ (aP (all_cons (aI (lK n)) (all_nil)) (aQ)) mixed (aJ _ _ rfl) (by kernel_rfl) (by kernel_rfl) (fun x => by kernel_rfl)
def Fe (n : Nat) : An (l6.X) := .nil
theorem nk (n : Nat) : iW Tryz.prog 46 oz l6 (bX n) :=
 mF (Γ := cK _ [(83, peM nD kY (cO n))] []) (an := Fe n) (co := [.gc [0]]) Tryz.func46 rfl (by kernel_rfl) aZ (aP (all_cons (dB (mI n)) (all_nil)) (aQ)) mixed (aJ _ _ rfl) (by kernel_rfl) (by kernel_rfl) (fun x => by kernel_rfl)
end Go.Dec
