/- Part of a proof over this seat: a library of my own, and what it says of this seat. No statement is proved here. -/
import Derived.Test.YthhbdkdofhhoeaaGreatDoorProg
import Derived.Test.YthhbdkdofhhoeaaGreatDoorPartBB
import Derived.Test.YthhbdkdofhhoeaaGreatDoorPartBA
import Derived.Test.YthhbdkdofhhoeaaGreatDoorPartAV
import Derived.KernelRfl
namespace Go.Dec
open Go.Proofs
set_option linter.unusedVariables false
def tab : Tab := [(3, ⟨.int .i64, 1, 8, [.val (.int .i64) 0], some (.int .i64), false⟩),
 (4, ⟨.bool, 1, 1, [.val .bool false], some .bool, false⟩),
 (5, ⟨.int .u8, 1, 1, [.val (.int .u8) 0], some (.int .u8), false⟩),
 (9, ⟨.str, 1, 16, [.val .str []], some .str, false⟩),
 (23, ⟨.int .u64, 1, 8, [.val (.int .u64) 0], some (.int .u64), false⟩),
 (24, ⟨.arr 4 23, 4, 32, [.val (.arr 4 (.int .u64)) ([0, 0, 0, 0])], some (.arr 4 (.int .u64)), true⟩),
 (25, ⟨.arr 4 23, 4, 32, [.val (.arr 4 (.int .u64)) ([0, 0, 0, 0])], some (.arr 4 (.int .u64)), true⟩),
 (26, ⟨.int .i64, 1, 8, [.val (.int .i64) 0], some (.int .i64), false⟩),
 (30, ⟨.arr 256 4, 256, 256, [.val (.arr 256 .bool) ([false, false, false, false, false, false, false, false, false, false, false, false, false, false, false, false, false, false, false, false, false, false, false, false, false, false, false, false, false, false, false, false, false, false, false, false, false, false, false, false, false, false, false, false, false, false, false, false, false, false, false, false, false, false, false, false, false, false, false, false, false, false, false, false, false, false, false, false, false, false, false, false, false, false, false, false, false, false, false, false, false, false, false, false, false, false, false, false, false, false, false, false, false, false, false, false, false, false, false, false, false, false, false, false, false, false, false, false, false, false, false, false, false, false, false, false, false, false, false, false, false, false, false, false, false, false, false, false, false, false, false, false, false, false, false, false, false, false, false, false, false, false, false, false, false, false, false, false, false, false, false, false, false, false, false, false, false, false, false, false, false, false, false, false, false, false, false, false, false, false, false, false, false, false, false, false, false, false, false, false, false, false, false, false, false, false, false, false, false, false, false, false, false, false, false, false, false, false, false, false, false, false, false, false, false, false, false, false, false, false, false, false, false, false, false, false, false, false, false, false, false, false, false, false, false, false, false, false, false, false, false, false, false, false, false, false, false, false, false, false, false, false, false, false, false, false, false, false, false, false, false, false, false, false, false, false])], some (.arr 256 .bool), true⟩),
 (35, ⟨.slice 57, 1, 24, [.dW], some (.slice ak), false⟩),
 (38, ⟨.slice 51, 1, 24, [.dW], some (.slice ak), false⟩),
 (51, ⟨.struct [(0, 3), (1, 24), (5, 3), (6, 3), (7, 3), (8, 3), (9, 3)], 10, 80, [.val (.int .i64) 0, .val (.arr 4 (.int .u64)) ([0, 0, 0, 0]), .val (.int .i64) 0, .val (.int .i64) 0, .val (.int .i64) 0, .val (.int .i64) 0, .val (.int .i64) 0], some ak, true⟩),
 (57, ⟨.struct [(0, 3), (1, 25), (5, 3), (6, 3), (7, 3), (8, 3), (9, 3)], 10, 80, [.val (.int .i64) 0, .val (.arr 4 (.int .u64)) ([0, 0, 0, 0]), .val (.int .i64) 0, .val (.int .i64) 0, .val (.int .i64) 0, .val (.int .i64) 0, .val (.int .i64) 0], some ak, true⟩),
 (61, ⟨.ptr 63, 1, 8, [.kN], none, false⟩),
 (63, ⟨.struct [(0, 9), (1, 3)], 2, 24, [.val .str [], .val (.int .i64) 0], some zc1, true⟩),
 (65, ⟨.struct [(0, 26), (1, 3)], 2, 16, [.val (.int .i64) 0, .val (.int .i64) 0], some Z9, true⟩),
 (78, ⟨.ptr 81, 1, 8, [.kN], none, false⟩),
 (79, ⟨.arr 10 4, 10, 10, [.val (.arr 10 .bool) ([false, false, false, false, false, false, false, false, false, false])], some (.arr 10 .bool), true⟩),
 (81, ⟨.struct [(0, 9), (1, 3), (2, 35), (3, 3), (4, 79)], 14, 72, [.val .str [], .val (.int .i64) 0, .dW, .val (.int .i64) 0, .val (.arr 10 .bool) ([false, false, false, false, false, false, false, false, false, false])], some Cz, false⟩),
 (85, ⟨.struct [(0, 38), (1, 3), (2, 79), (12, 3), (13, 26)], 14, 64, [.dW, .val (.int .i64) 0, .val (.arr 10 .bool) ([false, false, false, false, false, false, false, false, false, false]), .val (.int .i64) 0, .val (.int .i64) 0], some bF, false⟩),
 (90, ⟨.slice 9, 1, 24, [.dW], some (.slice .str), false⟩),
 (96, ⟨.slice 5, 1, 24, [.dW], some (.slice (.int .u8)), false⟩),
 (105, ⟨.slice 3, 1, 24, [.dW], some (.slice (.int .i64)), false⟩),
 (115, ⟨.slice 25, 1, 24, [.dW], some (.slice (.arr 4 (.int .u64))), false⟩),
 (130, ⟨.struct [(0, 4), (1, 3), (2, 79), (12, 4)], 13, 32, [.val .bool false, .val (.int .i64) 0, .val (.arr 10 .bool) ([false, false, false, false, false, false, false, false, false, false]), .val .bool false], some zS, true⟩),
 (135, ⟨.func, 1, 8, [.val .opq Value.nilFunc], some .opq, false⟩),
 (137, ⟨.iface false, 1, 16, [.val .err false], some .err, false⟩)]
theorem aN : bL Tryz.prog tab := QD (by kernel_rfl)
theorem mixed : Tryz.prog.follows .mixedOrders = true := by kernel_rfl
abbrev mG : List Ty := [.str, .str]
abbrev iT : List Ty := [.bool]
abbrev nJ : List Ty := [.str, .str]
abbrev jU : List Ty := [.bool]
abbrev jl : Sh := ⟨2, [⟨0, false, [.ptr 0 0]⟩, ⟨1, false, [.v .str]⟩], [.box 81 [.v .str, .v (.int .i64), .own 1, .v (.int .i64), .v (.arr 10 .bool)], .row 57 ak]⟩
abbrev gZ : Sh := ⟨1, [⟨0, false, [.v .bool]⟩], [.box 81 [.v .str, .v (.int .i64), .own 1, .v (.int .i64), .v (.arr 10 .bool)], .row 57 ak]⟩
abbrev lX : Sh := ⟨2, [⟨0, false, [.ptr 0 0]⟩, ⟨1, false, [.v .str]⟩], [.box 81 [.v .str, .v (.int .i64), .own 1, .v (.int .i64), .v (.arr 10 .bool)], .row 57 ak]⟩
abbrev jJ : Sh := ⟨1, [⟨0, false, [.v .bool]⟩], [.box 81 [.v .str, .v (.int .i64), .own 1, .v (.int .i64), .v (.arr 10 .bool)], .row 57 ak]⟩
abbrev jZ : Sh := ⟨2, [⟨0, false, [.ptr 0 0]⟩, ⟨1, true, [.v (.int .i64), .v (.arr 4 (.int .u64)), .v (.int .i64), .v (.int .i64), .v (.int .i64), .v (.int .i64), .v (.int .i64)]⟩], [.box 81 [.v .str, .v (.int .i64), .own 1, .v (.int .i64), .v (.arr 10 .bool)], .row 57 ak]⟩
abbrev jf : Sh := ⟨1, [⟨0, false, [.v (.int .i64)]⟩], [.box 81 [.v .str, .v (.int .i64), .own 1, .v (.int .i64), .v (.arr 10 .bool)], .row 57 ak]⟩
abbrev yM : Sh := ⟨1, [⟨0, false, [.ptr 0 0]⟩], [.box 81 [.v .str, .v (.int .i64), .own 1, .v (.int .i64), .v (.arr 10 .bool)], .row 57 ak]⟩
abbrev rE : Sh := ⟨1, [⟨0, false, [.v .bool]⟩], [.box 81 [.v .str, .v (.int .i64), .own 1, .v (.int .i64), .v (.arr 10 .bool)], .row 57 ak]⟩
abbrev Km : List Ty := [.arr 4 (.int .u64)]
abbrev Ev : List Ty := [.arr 4 (.int .u64)]
abbrev tu : Sh := ⟨2, [⟨0, false, [.ptr 0 0]⟩, ⟨1, true, [.v (.arr 4 (.int .u64))]⟩], [.box 81 [.v .str, .v (.int .i64), .own 1, .v (.int .i64), .v (.arr 10 .bool)], .row 57 ak]⟩
abbrev oq : Sh := ⟨1, [⟨0, false, [.v (.int .i64)]⟩], [.box 81 [.v .str, .v (.int .i64), .own 1, .v (.int .i64), .v (.arr 10 .bool)], .row 57 ak]⟩
abbrev qV : Sh := ⟨2, [⟨0, false, [.ptr 0 0]⟩, ⟨1, false, [.v .str]⟩], [.box 63 [.v .str, .v (.int .i64)]]⟩
abbrev nK : Sh := ⟨1, [⟨0, false, [.v .bool]⟩], [.box 63 [.v .str, .v (.int .i64)]]⟩
abbrev sK : Sh := ⟨2, [⟨0, false, [.ptr 0 0]⟩, ⟨1, false, [.v .str]⟩], [.box 63 [.v .str, .v (.int .i64)]]⟩
abbrev oL : Sh := ⟨1, [⟨0, false, [.v .bool]⟩], [.box 63 [.v .str, .v (.int .i64)]]⟩
abbrev sM : Sh := ⟨1, [⟨0, false, [.ptr 0 0]⟩], [.box 63 [.v .str, .v (.int .i64)]]⟩
abbrev sN : Sh := ⟨0, [], [.box 63 [.v .str, .v (.int .i64)]]⟩
abbrev sO : Sh := ⟨1, [⟨0, true, [.v (.int .i64), .v (.int .i64)]⟩], [.box 63 [.v .str, .v (.int .i64)]]⟩
abbrev zV : List Ty := [.int .u8, .int .u8]
abbrev wE : List Ty := [.arr 4 (.int .u64)]
abbrev NS : List Ty := [.slice (.arr 4 (.int .u64))]
abbrev IZ : List Ty := [.arr 4 (.int .u64)]
abbrev I4 : List Ty := [.str]
abbrev Dw : List Ty := [.arr 4 (.int .u64)]
abbrev L9 : List Ty := [.str]
abbrev Ew : List Ty := [.arr 4 (.int .u64), .bool]
abbrev zo : Sh := ⟨3, [⟨0, false, [.ptr 0 0]⟩, ⟨1, false, [.v .bool]⟩, ⟨2, false, [.v .bool]⟩], [.box 63 [.v .str, .v (.int .i64)]]⟩
abbrev tC : Sh := ⟨2, [⟨0, false, [.v (.int .u8)]⟩, ⟨1, false, [.v .bool]⟩], [.box 63 [.v .str, .v (.int .i64)]]⟩
abbrev tF : Sh := ⟨1, [⟨0, true, [.v (.int .i64), .v (.int .i64)]⟩], [.box 63 [.v .str, .v (.int .i64)]]⟩
abbrev Dx : Sh := ⟨2, [⟨0, false, [.ptr 0 0]⟩, ⟨1, false, [.v .bool]⟩], [.box 63 [.v .str, .v (.int .i64)]]⟩
abbrev xu : Sh := ⟨1, [⟨0, true, [.v (.arr 4 (.int .u64))]⟩], [.box 63 [.v .str, .v (.int .i64)]]⟩
abbrev xw : Sh := ⟨1, [⟨0, true, [.v (.int .i64), .v (.int .i64)]⟩], [.box 63 [.v .str, .v (.int .i64)]]⟩
abbrev Dy : Sh := ⟨2, [⟨0, false, [.ptr 0 0]⟩, ⟨1, false, [.ptr 1 0]⟩], [.box 61 [.ptr 2 0], .box 25 [.v (.arr 4 (.int .u64))], .box 63 [.v .str, .v (.int .i64)]]⟩
abbrev xA : Sh := ⟨0, [], [.box 61 [.ptr 2 0], .box 25 [.v (.arr 4 (.int .u64))], .box 63 [.v .str, .v (.int .i64)]]⟩
abbrev xB : Sh := ⟨1, [⟨0, true, [.v (.int .i64), .v (.int .i64)]⟩], [.box 61 [.ptr 2 0], .box 25 [.v (.arr 4 (.int .u64))], .box 63 [.v .str, .v (.int .i64)]]⟩
abbrev kU : Sh := ⟨1, [⟨0, false, [.clo 45 [(0, 0), (1, 0)]]⟩], [.box 61 [.ptr 2 0], .box 25 [.v (.arr 4 (.int .u64))], .box 63 [.v .str, .v (.int .i64)]]⟩
abbrev kV : Sh := ⟨1, [⟨0, true, [.v (.int .i64), .v (.int .i64)]⟩], [.box 61 [.ptr 2 0], .box 25 [.v (.arr 4 (.int .u64))], .box 63 [.v .str, .v (.int .i64)]]⟩
abbrev GN : List Ty := [.str]
abbrev AO : List Ty := [.arr 4 (.int .u64), .int .i64, .int .i64]
abbrev jK : Sh := ⟨3, [⟨0, false, [.ptr 0 0]⟩, ⟨1, false, [.v (.int .i64)]⟩, ⟨2, false, [.v (.int .i64)]⟩], [.box 81 [.v .str, .v (.int .i64), .own 1, .v (.int .i64), .v (.arr 10 .bool)], .row 57 ak]⟩
abbrev jL : Sh := ⟨0, [], [.box 81 [.v .str, .v (.int .i64), .own 1, .v (.int .i64), .v (.arr 10 .bool)], .row 57 ak]⟩
abbrev jM : Sh := ⟨1, [⟨0, true, [.v (.int .i64), .v (.int .i64)]⟩], [.box 81 [.v .str, .v (.int .i64), .own 1, .v (.int .i64), .v (.arr 10 .bool)], .row 57 ak]⟩
abbrev yN : Sh := ⟨1, [⟨0, false, [.ptr 0 0]⟩], [.box 81 [.v .str, .v (.int .i64), .own 1, .v (.int .i64), .v (.arr 10 .bool)], .row 57 ak]⟩
abbrev rF : Sh := ⟨1, [⟨0, false, [.v (.int .i64)]⟩], [.box 81 [.v .str, .v (.int .i64), .own 1, .v (.int .i64), .v (.arr 10 .bool)], .row 57 ak]⟩
abbrev zq : Sh := ⟨2, [⟨0, false, [.ptr 0 0]⟩, ⟨1, false, [.v (.int .i64)]⟩], [.box 81 [.v .str, .v (.int .i64), .own 1, .v (.int .i64), .v (.arr 10 .bool)], .row 57 ak]⟩
abbrev tH : Sh := ⟨1, [⟨0, false, [.v (.int .i64)]⟩], [.box 81 [.v .str, .v (.int .i64), .own 1, .v (.int .i64), .v (.arr 10 .bool)], .row 57 ak]⟩
abbrev tJ : Sh := ⟨1, [⟨0, true, [.v (.int .i64), .v (.int .i64)]⟩], [.box 81 [.v .str, .v (.int .i64), .own 1, .v (.int .i64), .v (.arr 10 .bool)], .row 57 ak]⟩
abbrev zu : Sh := ⟨2, [⟨0, false, [.ptr 0 0]⟩, ⟨1, false, [.v (.int .i64)]⟩], [.box 81 [.v .str, .v (.int .i64), .own 1, .v (.int .i64), .v (.arr 10 .bool)], .row 57 ak]⟩
abbrev tK : Sh := ⟨1, [⟨0, false, [.v (.int .i64)]⟩], [.box 81 [.v .str, .v (.int .i64), .own 1, .v (.int .i64), .v (.arr 10 .bool)], .row 57 ak]⟩
abbrev tL : Sh := ⟨1, [⟨0, true, [.v (.int .i64), .v (.int .i64)]⟩], [.box 81 [.v .str, .v (.int .i64), .own 1, .v (.int .i64), .v (.arr 10 .bool)], .row 57 ak]⟩
abbrev wQ : Sh := ⟨2, [⟨0, false, [.ptr 0 0]⟩, ⟨1, false, [.v .bool]⟩], [.box 81 [.v .str, .v (.int .i64), .own 1, .v (.int .i64), .v (.arr 10 .bool)], .row 57 ak]⟩
abbrev qG : Sh := ⟨1, [⟨0, false, [.v (.int .i64)]⟩], [.box 81 [.v .str, .v (.int .i64), .own 1, .v (.int .i64), .v (.arr 10 .bool)], .row 57 ak]⟩
abbrev qH : Sh := ⟨1, [⟨0, true, [.v (.int .i64), .v (.int .i64)]⟩], [.box 81 [.v .str, .v (.int .i64), .own 1, .v (.int .i64), .v (.arr 10 .bool)], .row 57 ak]⟩
abbrev AP : Sh := ⟨2, [⟨0, false, [.ptr 0 0]⟩, ⟨1, false, [.v .bool]⟩], [.box 81 [.v .str, .v (.int .i64), .own 1, .v (.int .i64), .v (.arr 10 .bool)], .row 57 ak]⟩
abbrev u6 : Sh := ⟨1, [⟨0, false, [.v (.int .i64)]⟩], [.box 81 [.v .str, .v (.int .i64), .own 1, .v (.int .i64), .v (.arr 10 .bool)], .row 57 ak]⟩
abbrev u7 : Sh := ⟨1, [⟨0, true, [.v (.int .i64), .v (.int .i64)]⟩], [.box 81 [.v .str, .v (.int .i64), .own 1, .v (.int .i64), .v (.arr 10 .bool)], .row 57 ak]⟩
abbrev iw : Sh := ⟨1, [⟨0, false, [.ptr 0 0]⟩], [.box 81 [.v .str, .v (.int .i64), .own 1, .v (.int .i64), .v (.arr 10 .bool)], .row 57 ak]⟩
abbrev gD : Sh := ⟨1, [⟨0, false, [.v (.int .i64)]⟩], [.box 81 [.v .str, .v (.int .i64), .own 1, .v (.int .i64), .v (.arr 10 .bool)], .row 57 ak]⟩
abbrev gF : Sh := ⟨1, [⟨0, true, [.v (.int .i64), .v (.int .i64)]⟩], [.box 81 [.v .str, .v (.int .i64), .own 1, .v (.int .i64), .v (.arr 10 .bool)], .row 57 ak]⟩
abbrev GQ : Sh := ⟨2, [⟨0, false, [.ptr 0 0]⟩, ⟨1, false, [.ptr 1 0]⟩], [.box 78 [.ptr 2 0], .box 9 [.v .str], .box 81 [.v .str, .v (.int .i64), .own 3, .v (.int .i64), .v (.arr 10 .bool)], .row 57 ak]⟩
abbrev AQ : Sh := ⟨0, [], [.box 78 [.ptr 2 0], .box 9 [.v .str], .box 81 [.v .str, .v (.int .i64), .own 3, .v (.int .i64), .v (.arr 10 .bool)], .row 57 ak]⟩
abbrev AU : Sh := ⟨1, [⟨0, true, [.v (.int .i64), .v (.int .i64)]⟩], [.box 78 [.ptr 2 0], .box 9 [.v .str], .box 81 [.v .str, .v (.int .i64), .own 3, .v (.int .i64), .v (.arr 10 .bool)], .row 57 ak]⟩
abbrev mJ : Sh := ⟨1, [⟨0, false, [.clo 57 [(0, 0), (1, 0)]]⟩], [.box 78 [.ptr 2 0], .box 9 [.v .str], .box 81 [.v .str, .v (.int .i64), .own 3, .v (.int .i64), .v (.arr 10 .bool)], .row 57 ak]⟩
abbrev mK : Sh := ⟨1, [⟨0, true, [.v (.int .i64), .v (.int .i64)]⟩], [.box 78 [.ptr 2 0], .box 9 [.v .str], .box 81 [.v .str, .v (.int .i64), .own 3, .v (.int .i64), .v (.arr 10 .bool)], .row 57 ak]⟩
abbrev Ey : List Ty := [.str]
abbrev zW : List Ty := [.slice ak, .int .i64, .int .i64]
abbrev xC : List Ty := [ak]
abbrev sP : List Ty := [.int .i64]
abbrev Dz : List Ty := [ak]
abbrev xD : List Ty := [ak]
abbrev GR : List Ty := [ak]
abbrev AV : List Ty := [.bool]
abbrev zw : List Ty := [.slice (.int .i64), .int .i64]
abbrev tN : List Ty := [.int .i64]
abbrev wF : List Ty := [.slice (.int .i64), .int .i64]
abbrev pR : List Ty := [.bool]
abbrev RV : List Ty := [.slice ak, ak]
abbrev Kn : List Ty := [.bool]
abbrev JC : List Ty := [.slice ak]
abbrev CG : List Ty := [.bool]
abbrev oM : Sh := ⟨7, [⟨0, false, [.v (.int .i64)]⟩, ⟨1, false, [.ptr 0 0]⟩, ⟨2, false, [.ptr 1 0]⟩, ⟨3, false, [.ptr 2 0]⟩, ⟨4, false, [.ptr 3 0]⟩, ⟨5, false, [.ptr 4 0]⟩, ⟨6, false, [.ptr 5 0]⟩], [.box 35 [.v (.slice ak)], .box 135 [.clo 142 [(0, 0), (1, 0), (2, 0), (3, 0), (4, 0), (5, 0)]], .box 3 [.v (.int .i64)], .box 4 [.v .bool], .box 79 [.v (.arr 10 .bool)], .box 4 [.v .bool]]⟩
abbrev lH : Sh := ⟨0, [], [.box 35 [.v (.slice ak)], .box 135 [.clo 142 [(0, 0), (1, 0), (2, 0), (3, 0), (4, 0), (5, 0)]], .box 3 [.v (.int .i64)], .box 4 [.v .bool], .box 79 [.v (.arr 10 .bool)], .box 4 [.v .bool]]⟩
abbrev GU : List Ty := [.slice ak]
abbrev AX : List Ty := [.int .i64, .bool, .bool]
abbrev Ez : List Ty := [.slice ak]
abbrev AY : List Ty := [.int .i64, .bool, .bool]
abbrev NT : List Ty := [.slice ak]
abbrev I5 : List Ty := [.bool]
abbrev O4 : List Ty := [.int .u8]
abbrev GV : List Ty := [.str]
abbrev RX : List Ty := [.arr 4 (.int .u64), .int .u8]
abbrev Ko : List Ty := [.bool]
abbrev O5 : List Ty := [.str]
abbrev GX : List Ty := [.slice .str]
abbrev O6 : List Ty := [.arr 4 (.int .u64)]
abbrev GY : List Ty := [.str]
abbrev Ma : List Ty := [ak]
abbrev EA : List Ty := [.str]
abbrev RY : List Ty := [.slice ak]
abbrev Kq : List Ty := [.str]
abbrev EB : List Ty := [.slice ak]
abbrev zX : List Ty := [.str, .int .i64]
abbrev Mc : List Ty := [.slice ak]
abbrev EC : List Ty := [.int .i64]
abbrev RZ : List Ty := [.slice ak]
abbrev Kr : List Ty := [.bool]
abbrev GZ : List Ty := []
abbrev AZ : List Ty := [.bool]
abbrev Md : List Ty := [.arr 256 .bool]
abbrev ED : List Ty := [.arr 256 .bool]
abbrev wG : List Ty := [.arr 256 .bool]
abbrev rG : List Ty := [.str]
abbrev CJ : List Ty := [.arr 256 .bool]
abbrev yj : List Ty := [.int .i64]
abbrev wH : List Ty := [.int .u8, .int .u8]
abbrev rH : List Ty := [.arr 256 .bool]
abbrev G5 : List Ty := [.arr 256 .bool, .arr 256 .bool]
abbrev Ce : List Ty := [.arr 256 .bool]
abbrev G6 : List Ty := [.str]
abbrev Cg : List Ty := [.arr 256 .bool]
abbrev G7 : List Ty := [.str]
abbrev A8 : List Ty := [.arr 256 .bool, .bool]
abbrev Fp : List Ty := [.str, .int .i64, .bool, .bool]
abbrev yZ : List Ty := [.int .u8, .int .i64, .bool]
abbrev DC : List Ty := [.str]
abbrev xE : List Ty := [.arr 256 .bool, .int .i64, .int .i64]
abbrev G8 : List Ty := [.arr 256 .bool]
abbrev A9 : List Ty := [.arr 4 (.int .u64)]
abbrev Fq : List Ty := [ak]
abbrev zf : List Ty := [.bool]
abbrev rJ : List Ty := [.slice ak, .int .i64]
abbrev oN : List Ty := [.int .i64]
abbrev oO : List Ty := [.slice ak, .int .i64, zS]
abbrev lI : List Ty := [zS]
abbrev JD : List Ty := [.slice ak]
abbrev CK : List Ty := [zS]
abbrev Me : List Ty := [.slice ak]
abbrev EF : List Ty := [.bool]
abbrev JE : List Ty := [.arr 4 (.int .u64)]
abbrev CO : List Ty := [.arr 256 .bool]
abbrev oP : List Ty := [.int .u64]
abbrev lJ : List Ty := [.str]
abbrev Fv : List Ty := [.int .i64]
abbrev zh : List Ty := [.str]
abbrev Ch : List Ty := [.str, .int .u8]
abbrev yO : List Ty := [.bool]
abbrev DF : List Ty := [.int .u8, .str]
abbrev xG : List Ty := [.str]
abbrev JF : List Ty := [.arr 256 .bool]
abbrev CP : List Ty := [.str]
abbrev G9 : List Ty := [.arr 256 .bool, .str]
abbrev Ba : List Ty := [.str]
abbrev JG : List Ty := [.arr 256 .bool]
abbrev CQ : List Ty := [.str]
abbrev um : List Ty := [bF, ak]
abbrev qA : List Ty := [bF]
abbrev Fz : List Ty := [.str, .int .i64]
abbrev zi : List Ty := [.bool]
abbrev He : List Ty := [bF, .arr 256 .bool]
abbrev Bc : List Ty := [bF]
abbrev Bd : List Ty := [bF, .int .i64, .int .i64]
abbrev wI : List Ty := [bF]
abbrev JH : List Ty := [.str, .int .i64, .bool, bF]
abbrev CS : List Ty := [bF, .int .i64]
abbrev FB : List Ty := [.str, .int .i64]
abbrev zk : List Ty := [.int .i64, .int .i64]
abbrev Hf : List Ty := [.str, .int .i64, .str]
abbrev Bf : List Ty := [.int .i64, .int .i64, .int .i64]
abbrev Hg : List Ty := [.str, .int .i64, bF]
abbrev Bg : List Ty := [bF, .int .i64]
abbrev sQ : List Ty := [.str, .int .i64, bF]
abbrev pU : List Ty := [bF, .int .i64]
abbrev Hl : List Ty := [.str]
abbrev Bh : List Ty := [.slice ak, .int .i64, .int .i64]
abbrev Mf : List Ty := [.slice ak]
abbrev EG : List Ty := [.slice ak]
abbrev JI : List Ty := [.slice ak, .slice ak]
abbrev CU : List Ty := [.bool]
abbrev rM : List Ty := [.slice ak, .int .i64]
abbrev oQ : List Ty := [.str]
abbrev Ho : List Ty := [.slice ak]
abbrev Bj : List Ty := [.str, .int .i64]
abbrev Ku : List Ty := [.slice ak]
abbrev Bl : List Ty := [.bool]
def vg (n : Nat) : An (aV iT) := .nil
theorem sS (n : Nat) : Pure Tryz.prog 166 mG iT (gB n) :=
 aO (Γ := bf _ [] []) (an := vg n) Tryz.func166 rfl (by kernel_rfl) aN (aI (all_nil) (aJ)) mixed (aF _ _ rfl) (fun x => by kernel_rfl)
def FK (n : Nat) : An (aV jU) := .nil
theorem nY (n : Nat) : Pure Tryz.prog 131 nJ jU (strings_HasPrefix n) :=
 aO (Γ := bf _ [(166, aQ mG iT (gB n))] []) (an := FK n) Tryz.func131 rfl (by kernel_rfl) aN (aI (all_cons (aB (sS n)) (all_nil)) (aJ)) mixed (aF _ _ rfl) (fun x => by kernel_rfl)
def Hq (n : Nat) : An (gZ.X) := .nil
theorem iD (n : Nat) : jX Tryz.prog 92 jl gZ (aS n) :=
 pG (Γ := bf _ [(131, aQ nJ jU (strings_HasPrefix n))] []) (an := Hq n) (co := [.gc [0, 1]]) Tryz.func92 rfl (by kernel_rfl) aN (aI (all_cons (aB (nY n)) (all_nil)) (aJ)) mixed (aF _ _ rfl) (by kernel_rfl) (by kernel_rfl) (fun x => by kernel_rfl)
def Jg (n : Nat) : An (jJ.X) := .nil
theorem j5 (n : Nat) : jX Tryz.prog 89 lX jJ (bP n) :=
 pG (Γ := bf _ [(92, peM jl gZ (aS n))] []) (an := Jg n) (co := [.gc [0, 1]]) Tryz.func89 rfl (by kernel_rfl) aN (aI (all_cons (eP (iD n)) (all_nil)) (aJ)) mixed (aF _ _ rfl) (by kernel_rfl) (by kernel_rfl) (fun x => by kernel_rfl)
def Kv (n : Nat) : An (jf.X) := .nil
theorem jg (n : Nat) : jX Tryz.prog 90 jZ jf (bI n) :=
 pG (Γ := bf _ [] []) (an := Kv n) (co := [.gc [0, 1]]) Tryz.func90 rfl (by kernel_rfl) aN (aI (all_nil) (aJ)) mixed (aF _ _ rfl) (by kernel_rfl) (by kernel_rfl) (fun x => by kernel_rfl)
def FL (n : Nat) : An (rE.X) := .nil
theorem BI (n : Nat) : jX Tryz.prog 91 yM rE (kJ n) :=
 pG (Γ := bf _ [(92, peM jl gZ (aS n))] []) (an := FL n) (co := [.gc [0, 1]]) Tryz.func91 rfl (by kernel_rfl) aN (aI (all_cons (eP (iD n)) (all_nil)) (aJ)) mixed (aF _ _ rfl) (by kernel_rfl) (by kernel_rfl) (fun x => by kernel_rfl)
def XJ (n : Nat) : An (aV Ev) := (.mk .nil (.mk (.mk .nil (.mk (.loop ⟨15, [⟨1, false, [.ptr 0 0]⟩, ⟨2, false, [.ptr 1 0]⟩, ⟨4, false, [.v (.int .i64)]⟩], [.box 25 [.v (.arr 4 (.int .u64))], .box 25 [.v (.arr 4 (.int .u64))]]⟩ [.keep [false, true, true, false, true], .gcA 0, .gcA 0] [.keep [false, true, true, false, true], .gcA 0, .gcA 0] n .nil) .nil []) []) .nil []) [])
theorem Hr (n : Nat) : Pure Tryz.prog 50 Km Ev (Ae n) :=
 aO (Γ := bf _ [] []) (an := XJ n) Tryz.func50 rfl (by kernel_rfl) aN (aI (all_nil) (aJ)) mixed (aF _ _ rfl) (fun x => by kernel_rfl)
def Ht (n : Nat) : An (oq.X) := .nil
theorem uo (n : Nat) : jX Tryz.prog 134 tu oq (bY n) :=
 pG (Γ := bf _ [(90, peM jZ jf (bI n))] []) (an := Ht n) (co := [.gc [0, 1]]) Tryz.func134 rfl (by kernel_rfl) aN (aI (all_cons (eP (jg n)) (all_nil)) (aJ)) mixed (aF _ _ rfl) (by kernel_rfl) (by kernel_rfl) (fun x => by kernel_rfl)
def Kw (n : Nat) : An (nK.X) := .nil
theorem pV (n : Nat) : jX Tryz.prog 83 qV nK (dU n) :=
 pG (Γ := bf _ [(131, aQ nJ jU (strings_HasPrefix n))] []) (an := Kw n) (co := [.gc [0]]) Tryz.func83 rfl (by kernel_rfl) aN (aI (all_cons (aB (nY n)) (all_nil)) (aJ)) mixed (aF _ _ rfl) (by kernel_rfl) (by kernel_rfl) (fun x => by kernel_rfl)
def Mg (n : Nat) : An (oL.X) := .nil
theorem qI (n : Nat) : jX Tryz.prog 46 sK oL (dF n) :=
 pG (Γ := bf _ [(83, peM qV nK (dU n))] []) (an := Mg n) (co := [.gc [0]]) Tryz.func46 rfl (by kernel_rfl) aN (aI (all_cons (eP (pV n)) (all_nil)) (aJ)) mixed (aF _ _ rfl) (by kernel_rfl) (by kernel_rfl) (fun x => by kernel_rfl)
end Go.Dec
