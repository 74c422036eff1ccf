/- Part of a proof over this seat: a library of my own, and what it says of this seat. No statement is proved here. -/
import Derived.Shelf.Strings.Builder1
import Derived.Shelf.Strings.Builder2
import Derived.Shelf.Strings.OnBuilder
import Derived.Shelf.Small.Utf8
import Derived.Shelf.Small.Bits
import Derived.Shelf.Small.Strs
import Derived.Shelf.Strings.BuilderF
import Derived.Shelf.Strings.BuilderK
import Derived.Shelf.Utf8.RuneCount
import Derived.Shelf.Strconv.Itoa0
import Derived.Shelf.Strconv.Itoa1
import Derived.Shelf.LaysM
import Derived.Shelf.Strconv.Itoa2
import Derived.Shelf.Strconv.Itoa3
import Derived.Shelf.Strings.Search1
import Derived.Shelf.Strings.Search2
import Derived.Shelf.Strings.Search3
import Derived.Shelf.Strings.Cut
import Derived.Shelf.Strings.Count
import Derived.Shelf.Strings.Shaped
import Derived.Shelf.Strings.Split
import Derived.Shelf.Strings.Replace
import Derived.Shelf.Strings.SplitShaped
import Derived.Shelf.Unicode.Decode
import Derived.Shelf.Strings.Runes
import Derived.Shelf.Strings.RuneCount
import Derived.Shelf.Strings.IndexAny
import Derived.Shelf.Strings.AsciiSet
import Derived.Shelf.Strings.IndexAnyAll
import Derived.Shelf.Bits.Mul64
import Derived.Shelf.Unicode.DecodeSlow
import Derived.Shelf.Unicode.DecodeAny
import Derived.Shelf.Unicode.DecodeLast
import Derived.Ground.Names2Prog
import Derived.Shelf.Slices.Clone
import Derived.Shelf.Slices.CompactS
import Derived.Shelf.Slices.Cells
import Derived.Ground.SlgnProg
import Derived.Shelf.SlicesE.Clone
import Derived.Ground.SlgmProg
import Derived.Shelf.SortM.Plain
import Derived.Shelf.SortM.SortNone
import Derived.Test.YtfpipcafiocdoaaGreatDoorProg
namespace Go.Proofs
open Go.Shelf
def Tryz.lays169_ren:Go.Shelf.Ren:=⟨fun | 169=>41 | n=>n,fun | 70=>99 | 9=>9 | 0=>0 | 72=>101 | 37=>32 | 127=>142 | 3=>3 | 5=>5 | n=>n,fun | n=>n⟩
theorem Tryz.lays169:Go.Proofs.Lays.n169 Tryz.prog Tryz.lays169_ren:={
 mixed:=by kernel_rfl
 f169:=Tryz.func41.trans (congrArg some (by kernel_rfl))
 t0:=Tryz.underlying0
 a0:=Tryz.isAgg0
 z0:=Tryz.sizeOf0
 v0:=Tryz.zeroValue0
 t3:=Tryz.underlying3
 a3:=Tryz.isAgg3
 z3:=Tryz.sizeOf3
 v3:=Tryz.zeroValue3
 t9:=Tryz.underlying9
 a9:=Tryz.isAgg9
 z9:=Tryz.sizeOf9
 v9:=Tryz.zeroValue9
 t37:=Tryz.underlying32
 a37:=Tryz.isAgg32
 z37:=Tryz.sizeOf32
 v37:=Tryz.zeroValue32
 t70:=Tryz.underlying99
 a70:=Tryz.isAgg99
 z70:=Tryz.sizeOf99
 v70:=Tryz.zeroValue99
 t72:=Tryz.underlying101
 a72:=Tryz.isAgg101
 z72:=Tryz.sizeOf101
 v72:=Tryz.zeroValue101
 t127:=Tryz.underlying142
 a127:=Tryz.isAgg142
 z127:=Tryz.sizeOf142
 v127:=Tryz.zeroValue142 }
theorem Tryz.Builder_Extra_169:Builder.Extra Tryz.prog Tryz.lays169_ren:={
 sizeBuilder:=by kernel_rfl
 liesBuilder:=by kernel_rfl
 t5:=Tryz.underlying5
 a5:=Tryz.isAgg5
 z5:=Tryz.sizeOf5
 v5:=Tryz.zeroValue5
 infoByte:=by kernel_rfl
 cellsByte:=by kernel_rfl
 sizeByte:=by kernel_rfl
 neB5:=by decide }
open Go.RowKit in
theorem Tryz.Builder_String (B b:Nat) (l:List UInt8) (w:World) (h:Lib.IsBuilder 101 5 B b (Lib.byteCells l) w) (h0:l ≠ []) :
  Calls Tryz.prog 41 #[.pointer (some ⟨b,0,none⟩)] w fun e w'=>e=.returned (.string ⟨l.toArray⟩)∧Below B w w':=Any.Builder_String Tryz.lays169 Tryz.Builder_Extra_169 B b l w h h0
def Tryz.lays145_ren:Go.Shelf.Ren:=⟨fun | 145=>29 | 220=>51 | 219=>95 | 217=>50 | 225=>145 | 224=>146 | 267=>147 | 266=>94 | 314=>198 | n=>n,fun | 9=>9 | 4=>4 | 59=>83 | 3=>3 | 5=>5 | 46=>224 | 146=>257 | 51=>256 | n=>n,fun | 1=>0 | n=>n⟩
theorem Tryz.lays145:Go.Proofs.Lays.n145 Tryz.prog Tryz.lays145_ren:={
 mixed:=by kernel_rfl
 f145:=Tryz.func29.trans (congrArg some (by kernel_rfl))
 f217:=Tryz.func50.trans (congrArg some (by kernel_rfl))
 f219:=Tryz.func95.trans (congrArg some (by kernel_rfl))
 f220:=Tryz.func51.trans (congrArg some (by kernel_rfl))
 f224:=Tryz.func146.trans (congrArg some (by kernel_rfl))
 f225:=Tryz.func145.trans (congrArg some (by kernel_rfl))
 f266:=Tryz.func94.trans (congrArg some (by kernel_rfl))
 f267:=Tryz.func147.trans (congrArg some (by kernel_rfl))
 f314:=Tryz.func198.trans (congrArg some (by kernel_rfl))
 t3:=Tryz.underlying3
 a3:=Tryz.isAgg3
 z3:=Tryz.sizeOf3
 v3:=Tryz.zeroValue3
 t4:=Tryz.underlying4
 a4:=Tryz.isAgg4
 z4:=Tryz.sizeOf4
 v4:=Tryz.zeroValue4
 t5:=Tryz.underlying5
 a5:=Tryz.isAgg5
 z5:=Tryz.sizeOf5
 v5:=Tryz.zeroValue5
 t9:=Tryz.underlying9
 a9:=Tryz.isAgg9
 z9:=Tryz.sizeOf9
 v9:=Tryz.zeroValue9
 t46:=Tryz.underlying224
 a46:=Tryz.isAgg224
 z46:=Tryz.sizeOf224
 v46:=Tryz.zeroValue224
 t51:=Tryz.underlying256
 a51:=Tryz.isAgg256
 z51:=Tryz.sizeOf256
 v51:=Tryz.zeroValue256
 t59:=Tryz.underlying83
 a59:=Tryz.isAgg83
 z59:=Tryz.sizeOf83
 v59:=Tryz.zeroValue83
 t146:=Tryz.underlying257
 a146:=Tryz.isAgg257
 z146:=Tryz.sizeOf257
 v146:=Tryz.zeroValue257
 g1:=by kernel_rfl }
open Go.RowKit Go.Lib in
theorem Tryz.strings_Cut (s sep:ByteArray) (m:Int) (w:World) (hs:s.size < 4294967281) (hm:w.cell? ⟨0,0,none⟩=some (.int .i64 m)) :
  Calls Tryz.prog 29 #[.string s,.string sep] w fun e w'=>e=.returned (.tuple #[.string ⟨(Lib.cut s.data.toList sep.data.toList).1.toArray⟩,.string ⟨(Lib.cut s.data.toList sep.data.toList).2.1.toArray⟩,.bool (Lib.cut s.data.toList sep.data.toList).2.2])∧∃ n,w'=w.drewN n:=Any.strings_Cut Tryz.lays145 s sep m w hs hm
def Tryz.laysNm215_ren:Go.Shelf.Ren:=⟨fun | 15=>136 | n=>n,fun | 22=>73 | 3=>3 | 4=>4 | n=>n,fun | n=>n⟩
theorem Tryz.laysNm215:Go.Proofs.Lays2.n15 Tryz.prog Tryz.laysNm215_ren:={
 mixed:=by kernel_rfl
 f15:=Tryz.func136.trans (congrArg some (by kernel_rfl))
 t3:=Tryz.underlying3
 a3:=Tryz.isAgg3
 z3:=Tryz.sizeOf3
 v3:=Tryz.zeroValue3
 t4:=Tryz.underlying4
 a4:=Tryz.isAgg4
 z4:=Tryz.sizeOf4
 v4:=Tryz.zeroValue4
 t22:=Tryz.underlying73
 a22:=Tryz.isAgg73
 z22:=Tryz.sizeOf73
 v22:=Tryz.zeroValue73
 i3:=by kernel_rfl }
open Go.RowKit Go.Lib in
theorem Tryz.slices_Clone_int (b off n c:Nat) (zs:List Int) (w:World) (hz:n <= zs.length) (hbig:n * 8 <= 140737488355328) (hc:∀ j,j < zs.length->w.cell? ⟨b,off+j,none⟩=some (.int .i64 (zs.getD j 0))) :
  Calls Tryz.prog 136 #[.slice (some ⟨b,off,none⟩) n c] w fun e w'=>∃ v',e=.returned v'∧w'.ownsRow w.heap.size 3 1 v' n ((zs.take n).map (Value.int .i64))∧v' ≠ .slice none 0 0∧Below w.heap.size w w':=Any.slices_Clone_int Tryz.laysNm215 b off n c zs w hz hbig hc
def Tryz.laysSlM6_f190_ren:Go.Shelf.Ren:=⟨fun | 6=>190 | 8=>244 | 9=>243 | 19=>294 | 20=>295 | 21=>285 | 22=>286 | 23=>287 | 24=>288 | 25=>289 | 26=>290 | 27=>291 | 28=>292 | 29=>293 | 36=>324 | 31=>325 | 32=>326 | 37=>327 | 38=>328 | 39=>329 | 41=>363 | n=>n,fun | 27=>33 | 29=>9 | 3=>3 | 32=>224 | 26=>33 | 0=>0 | 44=>256 | 46=>180 | 4=>4 | 36=>345 | 35=>344 | 41=>166 | 5=>5 | 9=>9 | 53=>385 | 57=>389 | 63=>411 | 64=>412 | n=>n,fun | n=>n⟩
theorem Tryz.laysSlM6_f190:Go.Proofs.SlLaysM.n6 Tryz.prog Tryz.laysSlM6_f190_ren:={
 mixed:=by kernel_rfl
 f6:=⟨Tryz.f190.name,by decide,Tryz.func190.trans (congrArg some (by kernel_rfl))⟩
 f8:=Tryz.func244.trans (congrArg some (by kernel_rfl))
 f9:=⟨Tryz.f243.name,by decide,Tryz.func243.trans (congrArg some (by kernel_rfl))⟩
 f19:=Tryz.func294.trans (congrArg some (by kernel_rfl))
 f20:=Tryz.func295.trans (congrArg some (by kernel_rfl))
 f21:=⟨Tryz.f285.name,by decide,Tryz.func285.trans (congrArg some (by kernel_rfl))⟩
 f22:=⟨Tryz.f286.name,by decide,Tryz.func286.trans (congrArg some (by kernel_rfl))⟩
 f23:=⟨Tryz.f287.name,by decide,Tryz.func287.trans (congrArg some (by kernel_rfl))⟩
 f24:=⟨Tryz.f288.name,by decide,Tryz.func288.trans (congrArg some (by kernel_rfl))⟩
 f25:=⟨Tryz.f289.name,by decide,Tryz.func289.trans (congrArg some (by kernel_rfl))⟩
 f26:=⟨Tryz.f290.name,by decide,Tryz.func290.trans (congrArg some (by kernel_rfl))⟩
 f27:=⟨Tryz.f291.name,by decide,Tryz.func291.trans (congrArg some (by kernel_rfl))⟩
 f28:=⟨Tryz.f292.name,by decide,Tryz.func292.trans (congrArg some (by kernel_rfl))⟩
 f29:=⟨Tryz.f293.name,by decide,Tryz.func293.trans (congrArg some (by kernel_rfl))⟩
 f31:=Tryz.func325.trans (congrArg some (by kernel_rfl))
 f32:=Tryz.func326.trans (congrArg some (by kernel_rfl))
 f36:=⟨Tryz.f324.name,by decide,Tryz.func324.trans (congrArg some (by kernel_rfl))⟩
 f37:=⟨Tryz.f327.name,by decide,Tryz.func327.trans (congrArg some (by kernel_rfl))⟩
 f38:=⟨Tryz.f328.name,by decide,Tryz.func328.trans (congrArg some (by kernel_rfl))⟩
 f39:=⟨Tryz.f329.name,by decide,Tryz.func329.trans (congrArg some (by kernel_rfl))⟩
 f41:=⟨Tryz.f363.name,by decide,Tryz.func363.trans (congrArg some (by kernel_rfl))⟩
 t0:=Tryz.underlying0
 a0:=Tryz.isAgg0
 z0:=Tryz.sizeOf0
 v0:=Tryz.zeroValue0
 t3:=Tryz.underlying3
 a3:=Tryz.isAgg3
 z3:=Tryz.sizeOf3
 v3:=Tryz.zeroValue3
 t4:=Tryz.underlying4
 a4:=Tryz.isAgg4
 z4:=Tryz.sizeOf4
 v4:=Tryz.zeroValue4
 t5:=Tryz.underlying5
 a5:=Tryz.isAgg5
 z5:=Tryz.sizeOf5
 v5:=Tryz.zeroValue5
 t9:=Tryz.underlying9
 a9:=Tryz.isAgg9
 z9:=Tryz.sizeOf9
 v9:=Tryz.zeroValue9
 t26:=Tryz.underlying33
 a26:=Tryz.isAgg33
 z26:=Tryz.sizeOf33
 v26:=Tryz.zeroValue33
 t27:=Tryz.underlying33
 a27:=Tryz.isAgg33
 z27:=Tryz.sizeOf33
 v27:=Tryz.zeroValue33
 t29:=Tryz.underlying9
 a29:=Tryz.isAgg9
 z29:=Tryz.sizeOf9
 v29:=Tryz.zeroValue9
 t32:=Tryz.underlying224
 a32:=Tryz.isAgg224
 z32:=Tryz.sizeOf224
 v32:=Tryz.zeroValue224
 t35:=Tryz.underlying344
 a35:=Tryz.isAgg344
 z35:=Tryz.sizeOf344
 v35:=Tryz.zeroValue344
 t36:=Tryz.underlying345
 a36:=Tryz.isAgg345
 z36:=Tryz.sizeOf345
 v36:=Tryz.zeroValue345
 t41:=Tryz.underlying166
 a41:=Tryz.isAgg166
 z41:=Tryz.sizeOf166
 v41:=Tryz.zeroValue166
 t44:=Tryz.underlying256
 a44:=Tryz.isAgg256
 z44:=Tryz.sizeOf256
 v44:=Tryz.zeroValue256
 t46:=Tryz.underlying180
 a46:=Tryz.isAgg180
 z46:=Tryz.sizeOf180
 v46:=Tryz.zeroValue180
 t53:=Tryz.underlying385
 a53:=Tryz.isAgg385
 z53:=Tryz.sizeOf385
 v53:=Tryz.zeroValue385
 t57:=Tryz.underlying389
 a57:=Tryz.isAgg389
 z57:=Tryz.sizeOf389
 v57:=Tryz.zeroValue389
 t63:=Tryz.underlying411
 a63:=Tryz.isAgg411
 z63:=Tryz.sizeOf411
 v63:=Tryz.zeroValue411
 t64:=Tryz.underlying412
 a64:=Tryz.isAgg412
 z64:=Tryz.sizeOf412
 v64:=Tryz.zeroValue412 }
open Go.Sort Go.RowKit in
theorem Tryz.slices_Sort_string (blk off cap:Nat) (ss:List (List UInt8)) (w:World) (hH:Holds encStr w blk off ss.toArray) (hblk:blk < w.heap.size) (hsz:ss.length < 4611686018427387904) :
  Calls Tryz.prog 190 #[.slice (some ⟨blk,off,none⟩) ss.length cap] w fun e w' =>
   e=.returned (.tuple #[])∧∃ n os,w'=grow (putRow encStr (Sort.ahead w n) blk off (ss.mergeSort fun x y=>decide (x <= y)).toArray) os:=AnyM.slices_Sort_string Tryz.laysSlM6_f190 blk off cap ss w hH hblk hsz
open Go.RowKit Go.Sort in
theorem Tryz.slices_Sort_string_none (p:Option Addr) (cap:Nat) (w:World) :
  Calls Tryz.prog 190 #[.slice p 0 cap] w fun e w'=>e=.returned (.tuple #[])∧w'=w:=AnyM.slices_Sort_string_none Tryz.laysSlM6_f190 p cap w
end Go.Proofs
