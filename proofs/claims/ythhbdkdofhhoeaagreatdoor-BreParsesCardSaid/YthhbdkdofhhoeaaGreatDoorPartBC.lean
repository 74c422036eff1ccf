/- Part of a proof over this seat: a library of my own, and what it says of this seat. No statement is proved here. -/
import Derived.Test.YthhbdkdofhhoeaaGreatDoorProg
import Derived.Test.YthhbdkdofhhoeaaGreatDoorPartBB
import Derived.Test.YthhbdkdofhhoeaaGreatDoorPartBA
import Derived.Test.YthhbdkdofhhoeaaGreatDoorPartAV
import Derived.KernelRfl
namespace Go.Dec
open Go.Proofs
set_option linter.unusedVariables false
def tab : Tab := [(3, ⟨.int .i64, 1, 8, [.val (.int .i64) 0], some (.int .i64), false⟩),
  (4, ⟨.bool, 1, 1, [.val .bool false], some .bool, false⟩),
  (5, ⟨.int .u8, 1, 1, [.val (.int .u8) 0], some (.int .u8), false⟩),
  (9, ⟨.str, 1, 16, [.val .str []], some .str, false⟩),
  (23, ⟨.int .u64, 1, 8, [.val (.int .u64) 0], some (.int .u64), false⟩),
  (24, ⟨.arr 4 23, 4, 32, [.val (.arr 4 (.int .u64)) ([0, 0, 0, 0])], some (.arr 4 (.int .u64)), true⟩),
  (25, ⟨.arr 4 23, 4, 32, [.val (.arr 4 (.int .u64)) ([0, 0, 0, 0])], some (.arr 4 (.int .u64)), true⟩),
  (26, ⟨.int .i64, 1, 8, [.val (.int .i64) 0], some (.int .i64), false⟩),
  (30, ⟨.arr 256 4, 256, 256, [.val (.arr 256 .bool) ([false, false, false, false, false, false, false, false, false, false, false, false, false, false, false, false, false, false, false, false, false, false, false, false, false, false, false, false, false, false, false, false, false, false, false, false, false, false, false, false, false, false, false, false, false, false, false, false, false, false, false, false, false, false, false, false, false, false, false, false, false, false, false, false, false, false, false, false, false, false, false, false, false, false, false, false, false, false, false, false, false, false, false, false, false, false, false, false, false, false, false, false, false, false, false, false, false, false, false, false, false, false, false, false, false, false, false, false, false, false, false, false, false, false, false, false, false, false, false, false, false, false, false, false, false, false, false, false, false, false, false, false, false, false, false, false, false, false, false, false, false, false, false, false, false, false, false, false, false, false, false, false, false, false, false, false, false, false, false, false, false, false, false, false, false, false, false, false, false, false, false, false, false, false, false, false, false, false, false, false, false, false, false, false, false, false, false, false, false, false, false, false, false, false, false, false, false, false, false, false, false, false, false, false, false, false, false, false, false, false, false, false, false, false, false, false, false, false, false, false, false, false, false, false, false, false, false, false, false, false, false, false, false, false, false, false, false, false, false, false, false, false, false, false, false, false, false, false, false, false, false, false, false, false, false, false])], some (.arr 256 .bool), true⟩),
  (35, ⟨.slice 57, 1, 24, [.nils], some (.slice TSiA4wiiiiiE), false⟩),
  (38, ⟨.slice 51, 1, 24, [.nils], some (.slice TSiA4wiiiiiE), false⟩),
  (51, ⟨.struct [(0, 3), (1, 24), (5, 3), (6, 3), (7, 3), (8, 3), (9, 3)], 10, 80, [.val (.int .i64) 0, .val (.arr 4 (.int .u64)) ([0, 0, 0, 0]), .val (.int .i64) 0, .val (.int .i64) 0, .val (.int .i64) 0, .val (.int .i64) 0, .val (.int .i64) 0], some TSiA4wiiiiiE, true⟩),
  (57, ⟨.struct [(0, 3), (1, 25), (5, 3), (6, 3), (7, 3), (8, 3), (9, 3)], 10, 80, [.val (.int .i64) 0, .val (.arr 4 (.int .u64)) ([0, 0, 0, 0]), .val (.int .i64) 0, .val (.int .i64) 0, .val (.int .i64) 0, .val (.int .i64) 0, .val (.int .i64) 0], some TSiA4wiiiiiE, true⟩),
  (61, ⟨.ptr 63, 1, 8, [.nilp], none, false⟩),
  (63, ⟨.struct [(0, 9), (1, 3)], 2, 24, [.val .str [], .val (.int .i64) 0], some TSsiE, true⟩),
  (65, ⟨.struct [(0, 26), (1, 3)], 2, 16, [.val (.int .i64) 0, .val (.int .i64) 0], some TSiiE, true⟩),
  (78, ⟨.ptr 81, 1, 8, [.nilp], none, false⟩),
  (79, ⟨.arr 10 4, 10, 10, [.val (.arr 10 .bool) ([false, false, false, false, false, false, false, false, false, false])], some (.arr 10 .bool), true⟩),
  (81, ⟨.struct [(0, 9), (1, 3), (2, 35), (3, 3), (4, 79)], 14, 72, [.val .str [], .val (.int .i64) 0, .nils, .val (.int .i64) 0, .val (.arr 10 .bool) ([false, false, false, false, false, false, false, false, false, false])], some TSsiLSiA4wiiiiiEiA10bE, false⟩),
  (85, ⟨.struct [(0, 38), (1, 3), (2, 79), (12, 3), (13, 26)], 14, 64, [.nils, .val (.int .i64) 0, .val (.arr 10 .bool) ([false, false, false, false, false, false, false, false, false, false]), .val (.int .i64) 0, .val (.int .i64) 0], some TSLSiA4wiiiiiEiA10biiE, false⟩),
  (90, ⟨.slice 9, 1, 24, [.nils], some (.slice .str), false⟩),
  (96, ⟨.slice 5, 1, 24, [.nils], some (.slice (.int .u8)), false⟩),
  (105, ⟨.slice 3, 1, 24, [.nils], some (.slice (.int .i64)), false⟩),
  (115, ⟨.slice 25, 1, 24, [.nils], some (.slice (.arr 4 (.int .u64))), false⟩),
  (130, ⟨.struct [(0, 4), (1, 3), (2, 79), (12, 4)], 13, 32, [.val .bool false, .val (.int .i64) 0, .val (.arr 10 .bool) ([false, false, false, false, false, false, false, false, false, false]), .val .bool false], some TSbiA10bbE, true⟩),
  (135, ⟨.func, 1, 8, [.val .opq Value.nilFunc], some .opq, false⟩),
  (137, ⟨.iface false, 1, 16, [.val .err false], some .err, false⟩)]
theorem tab_ok : TabOK Tryz.prog tab := tabOK_of (by kernel_rfl)
theorem mixed : Tryz.prog.follows .mixedOrders = true := by kernel_rfl
abbrev internal_stringslite_HasPrefixA : List Ty := [.str, .str]
abbrev internal_stringslite_HasPrefixR : List Ty := [.bool]
abbrev strings_HasPrefixA : List Ty := [.str, .str]
abbrev strings_HasPrefixR : List Ty := [.bool]
abbrev bre_reader_aheadI : Sh := ⟨2, [⟨0, false, [.ptr 0 0]⟩, ⟨1, false, [.v .str]⟩], [.box 81 [.v .str, .v (.int .i64), .own 1, .v (.int .i64), .v (.arr 10 .bool)], .row 57 TSiA4wiiiiiE]⟩
abbrev bre_reader_aheadO : Sh := ⟨1, [⟨0, false, [.v .bool]⟩], [.box 81 [.v .str, .v (.int .i64), .own 1, .v (.int .i64), .v (.arr 10 .bool)], .row 57 TSiA4wiiiiiE]⟩
abbrev bre_reader_tookI : Sh := ⟨2, [⟨0, false, [.ptr 0 0]⟩, ⟨1, false, [.v .str]⟩], [.box 81 [.v .str, .v (.int .i64), .own 1, .v (.int .i64), .v (.arr 10 .bool)], .row 57 TSiA4wiiiiiE]⟩
abbrev bre_reader_tookO : Sh := ⟨1, [⟨0, false, [.v .bool]⟩], [.box 81 [.v .str, .v (.int .i64), .own 1, .v (.int .i64), .v (.arr 10 .bool)], .row 57 TSiA4wiiiiiE]⟩
abbrev bre_reader_putI : Sh := ⟨2, [⟨0, false, [.ptr 0 0]⟩, ⟨1, true, [.v (.int .i64), .v (.arr 4 (.int .u64)), .v (.int .i64), .v (.int .i64), .v (.int .i64), .v (.int .i64), .v (.int .i64)]⟩], [.box 81 [.v .str, .v (.int .i64), .own 1, .v (.int .i64), .v (.arr 10 .bool)], .row 57 TSiA4wiiiiiE]⟩
abbrev bre_reader_putO : Sh := ⟨1, [⟨0, false, [.v (.int .i64)]⟩], [.box 81 [.v .str, .v (.int .i64), .own 1, .v (.int .i64), .v (.arr 10 .bool)], .row 57 TSiA4wiiiiiE]⟩
abbrev bre_reader_closesI : Sh := ⟨1, [⟨0, false, [.ptr 0 0]⟩], [.box 81 [.v .str, .v (.int .i64), .own 1, .v (.int .i64), .v (.arr 10 .bool)], .row 57 TSiA4wiiiiiE]⟩
abbrev bre_reader_closesO : Sh := ⟨1, [⟨0, false, [.v .bool]⟩], [.box 81 [.v .str, .v (.int .i64), .own 1, .v (.int .i64), .v (.arr 10 .bool)], .row 57 TSiA4wiiiiiE]⟩
abbrev set_NotA : List Ty := [.arr 4 (.int .u64)]
abbrev set_NotR : List Ty := [.arr 4 (.int .u64)]
abbrev bre_reader_bytesI : Sh := ⟨2, [⟨0, false, [.ptr 0 0]⟩, ⟨1, true, [.v (.arr 4 (.int .u64))]⟩], [.box 81 [.v .str, .v (.int .i64), .own 1, .v (.int .i64), .v (.arr 10 .bool)], .row 57 TSiA4wiiiiiE]⟩
abbrev bre_reader_bytesO : Sh := ⟨1, [⟨0, false, [.v (.int .i64)]⟩], [.box 81 [.v .str, .v (.int .i64), .own 1, .v (.int .i64), .v (.arr 10 .bool)], .row 57 TSiA4wiiiiiE]⟩
abbrev bre_list_aheadI : Sh := ⟨2, [⟨0, false, [.ptr 0 0]⟩, ⟨1, false, [.v .str]⟩], [.box 63 [.v .str, .v (.int .i64)]]⟩
abbrev bre_list_aheadO : Sh := ⟨1, [⟨0, false, [.v .bool]⟩], [.box 63 [.v .str, .v (.int .i64)]]⟩
abbrev bre_list_tookI : Sh := ⟨2, [⟨0, false, [.ptr 0 0]⟩, ⟨1, false, [.v .str]⟩], [.box 63 [.v .str, .v (.int .i64)]]⟩
abbrev bre_list_tookO : Sh := ⟨1, [⟨0, false, [.v .bool]⟩], [.box 63 [.v .str, .v (.int .i64)]]⟩
abbrev bre_list_giveI : Sh := ⟨1, [⟨0, false, [.ptr 0 0]⟩], [.box 63 [.v .str, .v (.int .i64)]]⟩
abbrev bre_list_giveO : Sh := ⟨0, [], [.box 63 [.v .str, .v (.int .i64)]]⟩
abbrev bre_list_giveE : Sh := ⟨1, [⟨0, true, [.v (.int .i64), .v (.int .i64)]⟩], [.box 63 [.v .str, .v (.int .i64)]]⟩
abbrev set_RangeA : List Ty := [.int .u8, .int .u8]
abbrev set_RangeR : List Ty := [.arr 4 (.int .u64)]
abbrev set_OrA : List Ty := [.slice (.arr 4 (.int .u64))]
abbrev set_OrR : List Ty := [.arr 4 (.int .u64)]
abbrev set_OfA : List Ty := [.str]
abbrev set_OfR : List Ty := [.arr 4 (.int .u64)]
abbrev set_ClassA : List Ty := [.str]
abbrev set_ClassR : List Ty := [.arr 4 (.int .u64), .bool]
abbrev bre_list_elementI : Sh := ⟨3, [⟨0, false, [.ptr 0 0]⟩, ⟨1, false, [.v .bool]⟩, ⟨2, false, [.v .bool]⟩], [.box 63 [.v .str, .v (.int .i64)]]⟩
abbrev bre_list_elementO : Sh := ⟨2, [⟨0, false, [.v (.int .u8)]⟩, ⟨1, false, [.v .bool]⟩], [.box 63 [.v .str, .v (.int .i64)]]⟩
abbrev bre_list_elementE : Sh := ⟨1, [⟨0, true, [.v (.int .i64), .v (.int .i64)]⟩], [.box 63 [.v .str, .v (.int .i64)]]⟩
abbrev bre_list_partI : Sh := ⟨2, [⟨0, false, [.ptr 0 0]⟩, ⟨1, false, [.v .bool]⟩], [.box 63 [.v .str, .v (.int .i64)]]⟩
abbrev bre_list_partO : Sh := ⟨1, [⟨0, true, [.v (.arr 4 (.int .u64))]⟩], [.box 63 [.v .str, .v (.int .i64)]]⟩
abbrev bre_list_partE : Sh := ⟨1, [⟨0, true, [.v (.int .i64), .v (.int .i64)]⟩], [.box 63 [.v .str, .v (.int .i64)]]⟩
abbrev bre_Bracket_1I : Sh := ⟨2, [⟨0, false, [.ptr 0 0]⟩, ⟨1, false, [.ptr 1 0]⟩], [.box 61 [.ptr 2 0], .box 25 [.v (.arr 4 (.int .u64))], .box 63 [.v .str, .v (.int .i64)]]⟩
abbrev bre_Bracket_1O : Sh := ⟨0, [], [.box 61 [.ptr 2 0], .box 25 [.v (.arr 4 (.int .u64))], .box 63 [.v .str, .v (.int .i64)]]⟩
abbrev bre_Bracket_1E : Sh := ⟨1, [⟨0, true, [.v (.int .i64), .v (.int .i64)]⟩], [.box 61 [.ptr 2 0], .box 25 [.v (.arr 4 (.int .u64))], .box 63 [.v .str, .v (.int .i64)]]⟩
abbrev bre_tried__bre_Bracket_1I : Sh := ⟨1, [⟨0, false, [.clo 45 [(0, 0), (1, 0)]]⟩], [.box 61 [.ptr 2 0], .box 25 [.v (.arr 4 (.int .u64))], .box 63 [.v .str, .v (.int .i64)]]⟩
abbrev bre_tried__bre_Bracket_1O : Sh := ⟨1, [⟨0, true, [.v (.int .i64), .v (.int .i64)]⟩], [.box 61 [.ptr 2 0], .box 25 [.v (.arr 4 (.int .u64))], .box 63 [.v .str, .v (.int .i64)]]⟩
abbrev bre_BracketA : List Ty := [.str]
abbrev bre_BracketR : List Ty := [.arr 4 (.int .u64), .int .i64, .int .i64]
abbrev bre_reader_giveI : Sh := ⟨3, [⟨0, false, [.ptr 0 0]⟩, ⟨1, false, [.v (.int .i64)]⟩, ⟨2, false, [.v (.int .i64)]⟩], [.box 81 [.v .str, .v (.int .i64), .own 1, .v (.int .i64), .v (.arr 10 .bool)], .row 57 TSiA4wiiiiiE]⟩
abbrev bre_reader_giveO : Sh := ⟨0, [], [.box 81 [.v .str, .v (.int .i64), .own 1, .v (.int .i64), .v (.arr 10 .bool)], .row 57 TSiA4wiiiiiE]⟩
abbrev bre_reader_giveE : Sh := ⟨1, [⟨0, true, [.v (.int .i64), .v (.int .i64)]⟩], [.box 81 [.v .str, .v (.int .i64), .own 1, .v (.int .i64), .v (.arr 10 .bool)], .row 57 TSiA4wiiiiiE]⟩
abbrev bre_reader_numberI : Sh := ⟨1, [⟨0, false, [.ptr 0 0]⟩], [.box 81 [.v .str, .v (.int .i64), .own 1, .v (.int .i64), .v (.arr 10 .bool)], .row 57 TSiA4wiiiiiE]⟩
abbrev bre_reader_numberO : Sh := ⟨1, [⟨0, false, [.v (.int .i64)]⟩], [.box 81 [.v .str, .v (.int .i64), .own 1, .v (.int .i64), .v (.arr 10 .bool)], .row 57 TSiA4wiiiiiE]⟩
abbrev bre_reader_timesI : Sh := ⟨2, [⟨0, false, [.ptr 0 0]⟩, ⟨1, false, [.v (.int .i64)]⟩], [.box 81 [.v .str, .v (.int .i64), .own 1, .v (.int .i64), .v (.arr 10 .bool)], .row 57 TSiA4wiiiiiE]⟩
abbrev bre_reader_timesO : Sh := ⟨1, [⟨0, false, [.v (.int .i64)]⟩], [.box 81 [.v .str, .v (.int .i64), .own 1, .v (.int .i64), .v (.arr 10 .bool)], .row 57 TSiA4wiiiiiE]⟩
abbrev bre_reader_timesE : Sh := ⟨1, [⟨0, true, [.v (.int .i64), .v (.int .i64)]⟩], [.box 81 [.v .str, .v (.int .i64), .own 1, .v (.int .i64), .v (.arr 10 .bool)], .row 57 TSiA4wiiiiiE]⟩
abbrev bre_reader_groupI : Sh := ⟨2, [⟨0, false, [.ptr 0 0]⟩, ⟨1, false, [.v (.int .i64)]⟩], [.box 81 [.v .str, .v (.int .i64), .own 1, .v (.int .i64), .v (.arr 10 .bool)], .row 57 TSiA4wiiiiiE]⟩
abbrev bre_reader_groupO : Sh := ⟨1, [⟨0, false, [.v (.int .i64)]⟩], [.box 81 [.v .str, .v (.int .i64), .own 1, .v (.int .i64), .v (.arr 10 .bool)], .row 57 TSiA4wiiiiiE]⟩
abbrev bre_reader_groupE : Sh := ⟨1, [⟨0, true, [.v (.int .i64), .v (.int .i64)]⟩], [.box 81 [.v .str, .v (.int .i64), .own 1, .v (.int .i64), .v (.arr 10 .bool)], .row 57 TSiA4wiiiiiE]⟩
abbrev bre_reader_escapedI : Sh := ⟨2, [⟨0, false, [.ptr 0 0]⟩, ⟨1, false, [.v .bool]⟩], [.box 81 [.v .str, .v (.int .i64), .own 1, .v (.int .i64), .v (.arr 10 .bool)], .row 57 TSiA4wiiiiiE]⟩
abbrev bre_reader_escapedO : Sh := ⟨1, [⟨0, false, [.v (.int .i64)]⟩], [.box 81 [.v .str, .v (.int .i64), .own 1, .v (.int .i64), .v (.arr 10 .bool)], .row 57 TSiA4wiiiiiE]⟩
abbrev bre_reader_escapedE : Sh := ⟨1, [⟨0, true, [.v (.int .i64), .v (.int .i64)]⟩], [.box 81 [.v .str, .v (.int .i64), .own 1, .v (.int .i64), .v (.arr 10 .bool)], .row 57 TSiA4wiiiiiE]⟩
abbrev bre_reader_atomI : Sh := ⟨2, [⟨0, false, [.ptr 0 0]⟩, ⟨1, false, [.v .bool]⟩], [.box 81 [.v .str, .v (.int .i64), .own 1, .v (.int .i64), .v (.arr 10 .bool)], .row 57 TSiA4wiiiiiE]⟩
abbrev bre_reader_atomO : Sh := ⟨1, [⟨0, false, [.v (.int .i64)]⟩], [.box 81 [.v .str, .v (.int .i64), .own 1, .v (.int .i64), .v (.arr 10 .bool)], .row 57 TSiA4wiiiiiE]⟩
abbrev bre_reader_atomE : Sh := ⟨1, [⟨0, true, [.v (.int .i64), .v (.int .i64)]⟩], [.box 81 [.v .str, .v (.int .i64), .own 1, .v (.int .i64), .v (.arr 10 .bool)], .row 57 TSiA4wiiiiiE]⟩
abbrev bre_reader_rowI : Sh := ⟨1, [⟨0, false, [.ptr 0 0]⟩], [.box 81 [.v .str, .v (.int .i64), .own 1, .v (.int .i64), .v (.arr 10 .bool)], .row 57 TSiA4wiiiiiE]⟩
abbrev bre_reader_rowO : Sh := ⟨1, [⟨0, false, [.v (.int .i64)]⟩], [.box 81 [.v .str, .v (.int .i64), .own 1, .v (.int .i64), .v (.arr 10 .bool)], .row 57 TSiA4wiiiiiE]⟩
abbrev bre_reader_rowE : Sh := ⟨1, [⟨0, true, [.v (.int .i64), .v (.int .i64)]⟩], [.box 81 [.v .str, .v (.int .i64), .own 1, .v (.int .i64), .v (.arr 10 .bool)], .row 57 TSiA4wiiiiiE]⟩
abbrev bre_Parse_1I : Sh := ⟨2, [⟨0, false, [.ptr 0 0]⟩, ⟨1, false, [.ptr 1 0]⟩], [.box 78 [.ptr 2 0], .box 9 [.v .str], .box 81 [.v .str, .v (.int .i64), .own 3, .v (.int .i64), .v (.arr 10 .bool)], .row 57 TSiA4wiiiiiE]⟩
abbrev bre_Parse_1O : Sh := ⟨0, [], [.box 78 [.ptr 2 0], .box 9 [.v .str], .box 81 [.v .str, .v (.int .i64), .own 3, .v (.int .i64), .v (.arr 10 .bool)], .row 57 TSiA4wiiiiiE]⟩
abbrev bre_Parse_1E : Sh := ⟨1, [⟨0, true, [.v (.int .i64), .v (.int .i64)]⟩], [.box 78 [.ptr 2 0], .box 9 [.v .str], .box 81 [.v .str, .v (.int .i64), .own 3, .v (.int .i64), .v (.arr 10 .bool)], .row 57 TSiA4wiiiiiE]⟩
abbrev bre_tried__bre_Parse_1I : Sh := ⟨1, [⟨0, false, [.clo 57 [(0, 0), (1, 0)]]⟩], [.box 78 [.ptr 2 0], .box 9 [.v .str], .box 81 [.v .str, .v (.int .i64), .own 3, .v (.int .i64), .v (.arr 10 .bool)], .row 57 TSiA4wiiiiiE]⟩
abbrev bre_tried__bre_Parse_1O : Sh := ⟨1, [⟨0, true, [.v (.int .i64), .v (.int .i64)]⟩], [.box 78 [.ptr 2 0], .box 9 [.v .str], .box 81 [.v .str, .v (.int .i64), .own 3, .v (.int .i64), .v (.arr 10 .bool)], .row 57 TSiA4wiiiiiE]⟩
abbrev bre_ParseA : List Ty := [.str]
abbrev bre_ParseR : List Ty := [.slice TSiA4wiiiiiE, .int .i64, .int .i64]
abbrev rx_Node_partsA : List Ty := [TSiA4wiiiiiE]
abbrev rx_Node_partsR : List Ty := [.int .i64]
abbrev rx_Node_plainA : List Ty := [TSiA4wiiiiiE]
abbrev rx_Node_plainR : List Ty := [TSiA4wiiiiiE]
abbrev rx_Node_oneA : List Ty := [TSiA4wiiiiiE]
abbrev rx_Node_oneR : List Ty := [.bool]
abbrev slices_Index_IntA : List Ty := [.slice (.int .i64), .int .i64]
abbrev slices_Index_IntR : List Ty := [.int .i64]
abbrev slices_Contains_IntA : List Ty := [.slice (.int .i64), .int .i64]
abbrev slices_Contains_IntR : List Ty := [.bool]
abbrev rx_fitsA : List Ty := [.slice TSiA4wiiiiiE, TSiA4wiiiiiE]
abbrev rx_fitsR : List Ty := [.bool]
abbrev rx_orderedA : List Ty := [.slice TSiA4wiiiiiE]
abbrev rx_orderedR : List Ty := [.bool]
abbrev rx_numbered_1I : Sh := ⟨7, [⟨0, false, [.v (.int .i64)]⟩, ⟨1, false, [.ptr 0 0]⟩, ⟨2, false, [.ptr 1 0]⟩, ⟨3, false, [.ptr 2 0]⟩, ⟨4, false, [.ptr 3 0]⟩, ⟨5, false, [.ptr 4 0]⟩, ⟨6, false, [.ptr 5 0]⟩], [.box 35 [.v (.slice TSiA4wiiiiiE)], .box 135 [.clo 142 [(0, 0), (1, 0), (2, 0), (3, 0), (4, 0), (5, 0)]], .box 3 [.v (.int .i64)], .box 4 [.v .bool], .box 79 [.v (.arr 10 .bool)], .box 4 [.v .bool]]⟩
abbrev rx_numbered_1O : Sh := ⟨0, [], [.box 35 [.v (.slice TSiA4wiiiiiE)], .box 135 [.clo 142 [(0, 0), (1, 0), (2, 0), (3, 0), (4, 0), (5, 0)]], .box 3 [.v (.int .i64)], .box 4 [.v .bool], .box 79 [.v (.arr 10 .bool)], .box 4 [.v .bool]]⟩
abbrev rx_numberedA : List Ty := [.slice TSiA4wiiiiiE]
abbrev rx_numberedR : List Ty := [.int .i64, .bool, .bool]
abbrev rx_lookA : List Ty := [.slice TSiA4wiiiiiE]
abbrev rx_lookR : List Ty := [.int .i64, .bool, .bool]
abbrev rx_MayA : List Ty := [.slice TSiA4wiiiiiE]
abbrev rx_MayR : List Ty := [.bool]
abbrev bre_loneA : List Ty := [.int .u8]
abbrev bre_loneR : List Ty := [.str]
abbrev set_HasA : List Ty := [.arr 4 (.int .u64), .int .u8]
abbrev set_HasR : List Ty := [.bool]
abbrev bre_runsA : List Ty := [.str]
abbrev bre_runsR : List Ty := [.slice .str]
abbrev bre_ShowA : List Ty := [.arr 4 (.int .u64)]
abbrev bre_ShowR : List Ty := [.str]
abbrev bre_countA : List Ty := [TSiA4wiiiiiE]
abbrev bre_countR : List Ty := [.str]
abbrev rx_TextA : List Ty := [.slice TSiA4wiiiiiE]
abbrev rx_TextR : List Ty := [.str]
abbrev bre_PrintA : List Ty := [.slice TSiA4wiiiiiE]
abbrev bre_PrintR : List Ty := [.str, .int .i64]
abbrev rx_GroupsA : List Ty := [.slice TSiA4wiiiiiE]
abbrev rx_GroupsR : List Ty := [.int .i64]
abbrev rx_RefsA : List Ty := [.slice TSiA4wiiiiiE]
abbrev rx_RefsR : List Ty := [.bool]
abbrev law04_shownA : List Ty := []
abbrev law04_shownR : List Ty := [.bool]
abbrev ref02_NotA : List Ty := [.arr 256 .bool]
abbrev ref02_NotR : List Ty := [.arr 256 .bool]
abbrev ref02_BytesA : List Ty := [.arr 256 .bool]
abbrev ref02_BytesR : List Ty := [.str]
abbrev ref02_SizeA : List Ty := [.arr 256 .bool]
abbrev ref02_SizeR : List Ty := [.int .i64]
abbrev ref02_RangeA : List Ty := [.int .u8, .int .u8]
abbrev ref02_RangeR : List Ty := [.arr 256 .bool]
abbrev ref02_OrA : List Ty := [.arr 256 .bool, .arr 256 .bool]
abbrev ref02_OrR : List Ty := [.arr 256 .bool]
abbrev ref02_OfA : List Ty := [.str]
abbrev ref02_OfR : List Ty := [.arr 256 .bool]
abbrev ref02_ClassA : List Ty := [.str]
abbrev ref02_ClassR : List Ty := [.arr 256 .bool, .bool]
abbrev ref04_byteAtA : List Ty := [.str, .int .i64, .bool, .bool]
abbrev ref04_byteAtR : List Ty := [.int .u8, .int .i64, .bool]
abbrev ref04_BracketA : List Ty := [.str]
abbrev ref04_BracketR : List Ty := [.arr 256 .bool, .int .i64, .int .i64]
abbrev ref02_WordsA : List Ty := [.arr 256 .bool]
abbrev ref02_WordsR : List Ty := [.arr 4 (.int .u64)]
abbrev ref04_inA : List Ty := [.str, .int .u8]
abbrev ref04_inR : List Ty := [.bool]
abbrev ref04_leafA : List Ty := [TSLSiA4wiiiiiEiA10biiE, TSiA4wiiiiiE]
abbrev ref04_leafR : List Ty := [TSLSiA4wiiiiiEiA10biiE]
abbrev ref04_closesA : List Ty := [.str, .int .i64]
abbrev ref04_closesR : List Ty := [.bool]
abbrev ref04_bytesA : List Ty := [TSLSiA4wiiiiiEiA10biiE, .arr 256 .bool]
abbrev ref04_bytesR : List Ty := [TSLSiA4wiiiiiEiA10biiE]
abbrev ref04_wrongA : List Ty := [TSLSiA4wiiiiiEiA10biiE, .int .i64, .int .i64]
abbrev ref04_wrongR : List Ty := [TSLSiA4wiiiiiEiA10biiE]
abbrev ref04_atomA : List Ty := [.str, .int .i64, .bool, TSLSiA4wiiiiiEiA10biiE]
abbrev ref04_atomR : List Ty := [TSLSiA4wiiiiiEiA10biiE, .int .i64]
abbrev ref04_DigitsA : List Ty := [.str, .int .i64]
abbrev ref04_DigitsR : List Ty := [.int .i64, .int .i64]
abbrev ref04_TimesA : List Ty := [.str, .int .i64, .str]
abbrev ref04_TimesR : List Ty := [.int .i64, .int .i64, .int .i64]
abbrev ref04_timesA : List Ty := [.str, .int .i64, TSLSiA4wiiiiiEiA10biiE]
abbrev ref04_timesR : List Ty := [TSLSiA4wiiiiiEiA10biiE, .int .i64]
abbrev ref04_rowA : List Ty := [.str, .int .i64, TSLSiA4wiiiiiEiA10biiE]
abbrev ref04_rowR : List Ty := [TSLSiA4wiiiiiEiA10biiE, .int .i64]
abbrev ref04_ParseA : List Ty := [.str]
abbrev ref04_ParseR : List Ty := [.slice TSiA4wiiiiiE, .int .i64, .int .i64]
abbrev law04_itsA : List Ty := [.slice TSiA4wiiiiiE]
abbrev law04_itsR : List Ty := [.slice TSiA4wiiiiiE]
abbrev ref03_SameA : List Ty := [.slice TSiA4wiiiiiE, .slice TSiA4wiiiiiE]
abbrev ref03_SameR : List Ty := [.bool]
abbrev law04_BreParsesA : List Ty := [.str]
abbrev law04_BreParsesR : List Ty := [.bool]
def internal_stringslite_HasPrefixAn (n : Nat) : An (Dens internal_stringslite_HasPrefixR) := .nil
theorem internal_stringslite_HasPrefix_pure (n : Nat) : Pure Tryz.prog 166 internal_stringslite_HasPrefixA internal_stringslite_HasPrefixR (internal_stringslite_HasPrefix n) :=
  pure_of (Γ := orcG _ [] []) (an := internal_stringslite_HasPrefixAn n) Tryz.func166 rfl (by kernel_rfl) tab_ok (orcG_ok (all_nil) (alg_nil)) mixed (plain_ok _ _ rfl) (fun x => by kernel_rfl)
def strings_HasPrefixAn (n : Nat) : An (Dens strings_HasPrefixR) := .nil
theorem strings_HasPrefix_pure (n : Nat) : Pure Tryz.prog 131 strings_HasPrefixA strings_HasPrefixR (strings_HasPrefix n) :=
  pure_of (Γ := orcG _ [(166, peOf internal_stringslite_HasPrefixA internal_stringslite_HasPrefixR (internal_stringslite_HasPrefix n))] []) (an := strings_HasPrefixAn n) Tryz.func131 rfl (by kernel_rfl) tab_ok (orcG_ok (all_cons (peOf_ok (internal_stringslite_HasPrefix_pure n)) (all_nil)) (alg_nil)) mixed (plain_ok _ _ rfl) (fun x => by kernel_rfl)
def bre_reader_aheadAn (n : Nat) : An (bre_reader_aheadO.X) := .nil
theorem bre_reader_ahead_meets (n : Nat) : Meets Tryz.prog 92 bre_reader_aheadI bre_reader_aheadO (bre_reader_ahead n) :=
  meets_of (Γ := orcG _ [(131, peOf strings_HasPrefixA strings_HasPrefixR (strings_HasPrefix n))] []) (an := bre_reader_aheadAn n) (co := [.gc [0, 1]]) Tryz.func92 rfl (by kernel_rfl) tab_ok (orcG_ok (all_cons (peOf_ok (strings_HasPrefix_pure n)) (all_nil)) (alg_nil)) mixed (plain_ok _ _ rfl) (by kernel_rfl) (by kernel_rfl) (fun x => by kernel_rfl)
def bre_reader_tookAn (n : Nat) : An (bre_reader_tookO.X) := .nil
theorem bre_reader_took_meets (n : Nat) : Meets Tryz.prog 89 bre_reader_tookI bre_reader_tookO (bre_reader_took n) :=
  meets_of (Γ := orcG _ [(92, peM bre_reader_aheadI bre_reader_aheadO (bre_reader_ahead n))] []) (an := bre_reader_tookAn n) (co := [.gc [0, 1]]) Tryz.func89 rfl (by kernel_rfl) tab_ok (orcG_ok (all_cons (peM_ok (bre_reader_ahead_meets n)) (all_nil)) (alg_nil)) mixed (plain_ok _ _ rfl) (by kernel_rfl) (by kernel_rfl) (fun x => by kernel_rfl)
def bre_reader_putAn (n : Nat) : An (bre_reader_putO.X) := .nil
theorem bre_reader_put_meets (n : Nat) : Meets Tryz.prog 90 bre_reader_putI bre_reader_putO (bre_reader_put n) :=
  meets_of (Γ := orcG _ [] []) (an := bre_reader_putAn n) (co := [.gc [0, 1]]) Tryz.func90 rfl (by kernel_rfl) tab_ok (orcG_ok (all_nil) (alg_nil)) mixed (plain_ok _ _ rfl) (by kernel_rfl) (by kernel_rfl) (fun x => by kernel_rfl)
def bre_reader_closesAn (n : Nat) : An (bre_reader_closesO.X) := .nil
theorem bre_reader_closes_meets (n : Nat) : Meets Tryz.prog 91 bre_reader_closesI bre_reader_closesO (bre_reader_closes n) :=
  meets_of (Γ := orcG _ [(92, peM bre_reader_aheadI bre_reader_aheadO (bre_reader_ahead n))] []) (an := bre_reader_closesAn n) (co := [.gc [0, 1]]) Tryz.func91 rfl (by kernel_rfl) tab_ok (orcG_ok (all_cons (peM_ok (bre_reader_ahead_meets n)) (all_nil)) (alg_nil)) mixed (plain_ok _ _ rfl) (by kernel_rfl) (by kernel_rfl) (fun x => by kernel_rfl)
def set_NotAn (n : Nat) : An (Dens set_NotR) := (.mk .nil (.mk (.mk .nil (.mk (.loop ⟨15, [⟨1, false, [.ptr 0 0]⟩, ⟨2, false, [.ptr 1 0]⟩, ⟨4, false, [.v (.int .i64)]⟩], [.box 25 [.v (.arr 4 (.int .u64))], .box 25 [.v (.arr 4 (.int .u64))]]⟩ [.keep [false, true, true, false, true], .gcA 0, .gcA 0] [.keep [false, true, true, false, true], .gcA 0, .gcA 0] n .nil) .nil []) []) .nil []) [])
theorem set_Not_pure (n : Nat) : Pure Tryz.prog 50 set_NotA set_NotR (set_Not n) :=
  pure_of (Γ := orcG _ [] []) (an := set_NotAn n) Tryz.func50 rfl (by kernel_rfl) tab_ok (orcG_ok (all_nil) (alg_nil)) mixed (plain_ok _ _ rfl) (fun x => by kernel_rfl)
def bre_reader_bytesAn (n : Nat) : An (bre_reader_bytesO.X) := .nil
theorem bre_reader_bytes_meets (n : Nat) : Meets Tryz.prog 134 bre_reader_bytesI bre_reader_bytesO (bre_reader_bytes n) :=
  meets_of (Γ := orcG _ [(90, peM bre_reader_putI bre_reader_putO (bre_reader_put n))] []) (an := bre_reader_bytesAn n) (co := [.gc [0, 1]]) Tryz.func134 rfl (by kernel_rfl) tab_ok (orcG_ok (all_cons (peM_ok (bre_reader_put_meets n)) (all_nil)) (alg_nil)) mixed (plain_ok _ _ rfl) (by kernel_rfl) (by kernel_rfl) (fun x => by kernel_rfl)
def bre_list_aheadAn (n : Nat) : An (bre_list_aheadO.X) := .nil
theorem bre_list_ahead_meets (n : Nat) : Meets Tryz.prog 83 bre_list_aheadI bre_list_aheadO (bre_list_ahead n) :=
  meets_of (Γ := orcG _ [(131, peOf strings_HasPrefixA strings_HasPrefixR (strings_HasPrefix n))] []) (an := bre_list_aheadAn n) (co := [.gc [0]]) Tryz.func83 rfl (by kernel_rfl) tab_ok (orcG_ok (all_cons (peOf_ok (strings_HasPrefix_pure n)) (all_nil)) (alg_nil)) mixed (plain_ok _ _ rfl) (by kernel_rfl) (by kernel_rfl) (fun x => by kernel_rfl)
def bre_list_tookAn (n : Nat) : An (bre_list_tookO.X) := .nil
theorem bre_list_took_meets (n : Nat) : Meets Tryz.prog 46 bre_list_tookI bre_list_tookO (bre_list_took n) :=
  meets_of (Γ := orcG _ [(83, peM bre_list_aheadI bre_list_aheadO (bre_list_ahead n))] []) (an := bre_list_tookAn n) (co := [.gc [0]]) Tryz.func46 rfl (by kernel_rfl) tab_ok (orcG_ok (all_cons (peM_ok (bre_list_ahead_meets n)) (all_nil)) (alg_nil)) mixed (plain_ok _ _ rfl) (by kernel_rfl) (by kernel_rfl) (fun x => by kernel_rfl)
end Go.Dec
