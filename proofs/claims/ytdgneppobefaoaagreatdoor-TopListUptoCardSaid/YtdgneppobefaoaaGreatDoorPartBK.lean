/- Part of a proof over this seat: a library of my own, and what it says of this seat. No statement is proved here. -/
import Derived.Shelf.Strings.Builder1
import Derived.Shelf.Strings.Builder2
import Derived.Shelf.Strings.OnBuilder
import Derived.Shelf.Small.Utf8
import Derived.Shelf.Small.Bits
import Derived.Shelf.Small.Strs
import Derived.Shelf.Strings.BuilderF
import Derived.Shelf.Strings.BuilderK
import Derived.Shelf.Strconv.Itoa0
import Derived.Shelf.Strconv.Itoa1
import Derived.Shelf.LaysM
import Derived.Shelf.Strconv.Itoa2
import Derived.Shelf.Strconv.Itoa3
import Derived.Shelf.Strconv.Clone
import Derived.Shelf.Strconv.SyntaxError
import Derived.Shelf.LaysC
import Derived.Shelf.Strconv.ToError
import Derived.Shelf.Strings.Search1
import Derived.Shelf.Strings.Search2
import Derived.Shelf.Strings.Cut
import Derived.Shelf.Strings.Shaped
import Derived.Shelf.Strings.Prefix
import Derived.Shelf.Unicode.Decode
import Derived.Shelf.Strings.Runes
import Derived.Shelf.Strings.IndexAny
import Derived.Shelf.Strings.AsciiSet
import Derived.Shelf.Strings.IndexAnyAll
import Derived.Shelf.Bits.Mul64
import Derived.Shelf.Unicode.DecodeSlow
import Derived.Shelf.Unicode.DecodeAny
import Derived.Shelf.Unicode.DecodeLast
import Derived.Ground.Names2Prog
import Derived.Shelf.Slices.Clone
import Derived.Shelf.Slices.CompactS
import Derived.Shelf.Slices.Cells
import Derived.Ground.SlgnProg
import Derived.Shelf.SlicesE.Clone
import Derived.Ground.SlgmProg
import Derived.Shelf.SortM.Plain
import Derived.Shelf.SortM.SortNone
import Derived.Test.YtdgneppobefaoaaGreatDoorProg
namespace Go.Proofs
open Go.Shelf
def Tryz.lays169_ren:Go.Shelf.Ren:=⟨fun | 169=>26 | n=>n,fun | 70=>76 | 9=>9 | 0=>0 | 72=>78 | 37=>31 | 127=>123 | 3=>3 | 5=>5 | n=>n,fun | n=>n⟩
theorem Tryz.lays169:Go.Proofs.Lays.n169 Tryz.prog Tryz.lays169_ren:={
 mixed:=by kernel_rfl
 f169:=Tryz.func26.trans (congrArg some (by kernel_rfl))
 t0:=Tryz.underlying0
 a0:=Tryz.isAgg0
 z0:=Tryz.sizeOf0
 v0:=Tryz.zeroValue0
 t3:=Tryz.underlying3
 a3:=Tryz.isAgg3
 z3:=Tryz.sizeOf3
 v3:=Tryz.zeroValue3
 t9:=Tryz.underlying9
 a9:=Tryz.isAgg9
 z9:=Tryz.sizeOf9
 v9:=Tryz.zeroValue9
 t37:=Tryz.underlying31
 a37:=Tryz.isAgg31
 z37:=Tryz.sizeOf31
 v37:=Tryz.zeroValue31
 t70:=Tryz.underlying76
 a70:=Tryz.isAgg76
 z70:=Tryz.sizeOf76
 v70:=Tryz.zeroValue76
 t72:=Tryz.underlying78
 a72:=Tryz.isAgg78
 z72:=Tryz.sizeOf78
 v72:=Tryz.zeroValue78
 t127:=Tryz.underlying123
 a127:=Tryz.isAgg123
 z127:=Tryz.sizeOf123
 v127:=Tryz.zeroValue123 }
theorem Tryz.Builder_Extra_169:Builder.Extra Tryz.prog Tryz.lays169_ren:={
 sizeBuilder:=by kernel_rfl
 liesBuilder:=by kernel_rfl
 t5:=Tryz.underlying5
 a5:=Tryz.isAgg5
 z5:=Tryz.sizeOf5
 v5:=Tryz.zeroValue5
 infoByte:=by kernel_rfl
 cellsByte:=by kernel_rfl
 sizeByte:=by kernel_rfl
 neB5:=by decide }
open Go.RowKit in
theorem Tryz.Builder_String (B b:Nat) (l:List UInt8) (w:World) (h:Lib.IsBuilder 78 5 B b (Lib.byteCells l) w) (h0:l ≠ []) :
  Calls Tryz.prog 26 #[.pointer (some ⟨b,0,none⟩)] w fun e w'=>e=.returned (.string ⟨l.toArray⟩)∧Below B w w':=Any.Builder_String Tryz.lays169 Tryz.Builder_Extra_169 B b l w h h0
def Tryz.lays137_ren:Go.Shelf.Ren:=⟨fun | 137=>34 | 217=>57 | 266=>87 | n=>n,fun | 9=>9 | 5=>5 | 3=>3 | n=>n,fun | n=>n⟩
theorem Tryz.lays137:Go.Proofs.Lays.n137 Tryz.prog Tryz.lays137_ren:={
 mixed:=by kernel_rfl
 f137:=Tryz.func34.trans (congrArg some (by kernel_rfl))
 f217:=Tryz.func57.trans (congrArg some (by kernel_rfl))
 f266:=Tryz.func87.trans (congrArg some (by kernel_rfl))
 t3:=Tryz.underlying3
 a3:=Tryz.isAgg3
 z3:=Tryz.sizeOf3
 v3:=Tryz.zeroValue3
 t5:=Tryz.underlying5
 a5:=Tryz.isAgg5
 z5:=Tryz.sizeOf5
 v5:=Tryz.zeroValue5
 t9:=Tryz.underlying9
 a9:=Tryz.isAgg9
 z9:=Tryz.sizeOf9
 v9:=Tryz.zeroValue9 }
open Go.RowKit in
theorem Tryz.strings_IndexByte (s:ByteArray) (c:Int) (w:World) :
  Calls Tryz.prog 34 #[.string s,.int .u8 c] w fun e w'=>e=.returned (.int .i64 (Lib.indexByte s.data.toList c.toNat.toUInt8))∧w'=w:=Any.strings_IndexByte Tryz.lays137 s c w
def Tryz.laysC245_ren:Go.Shelf.Ren:=⟨fun | 245=>59 | 279=>90 | 280=>91 | 281=>92 | 282=>93 | 316=>129 | 171=>51 | 205=>130 | 243=>84 | 246=>128 | 283=>183 | 284=>184 | 285=>185 | 286=>186 | 129=>225 | 317=>224 | 318=>226 | 319=>227 | 320=>228 | 337=>297 | 338=>298 | n=>n,fun | 9=>9 | 3=>3 | 75=>87 | 167=>155 | 4=>4 | 168=>158 | 210=>206 | 37=>31 | 0=>0 | 127=>123 | 145=>265 | 143=>263 | 2=>2 | 171=>258 | 53=>92 | 5=>5 | 173=>261 | 212=>312 | 51=>266 | 20=>20 | 213=>313 | 46=>157 | 232=>385 | 233=>386 | 80=>81 | n=>n,fun | 15=>1 | 16=>2 | 17=>3 | 18=>4 | 19=>5 | n=>n⟩
theorem Tryz.laysC245:Go.Proofs.LaysC.n245 Tryz.prog Tryz.laysC245_ren:={
 mixed:=by kernel_rfl
 f129:=Tryz.func225.trans (congrArg some (by kernel_rfl))
 f171:=Tryz.func51.trans (congrArg some (by kernel_rfl))
 f205:=Tryz.func130.trans (congrArg some (by kernel_rfl))
 f243:=Tryz.func84.trans (congrArg some (by kernel_rfl))
 f245:=Tryz.func59.trans (congrArg some (by kernel_rfl))
 f246:=Tryz.func128.trans (congrArg some (by kernel_rfl))
 f279:=Tryz.func90.trans (congrArg some (by kernel_rfl))
 f280:=Tryz.func91.trans (congrArg some (by kernel_rfl))
 f281:=Tryz.func92.trans (congrArg some (by kernel_rfl))
 f282:=Tryz.func93.trans (congrArg some (by kernel_rfl))
 f283:=Tryz.func183.trans (congrArg some (by kernel_rfl))
 f284:=Tryz.func184.trans (congrArg some (by kernel_rfl))
 f285:=Tryz.func185.trans (congrArg some (by kernel_rfl))
 f286:=Tryz.func186.trans (congrArg some (by kernel_rfl))
 f316:=Tryz.func129.trans (congrArg some (by kernel_rfl))
 f317:=Tryz.func224.trans (congrArg some (by kernel_rfl))
 f318:=Tryz.func226.trans (congrArg some (by kernel_rfl))
 f319:=Tryz.func227.trans (congrArg some (by kernel_rfl))
 f320:=Tryz.func228.trans (congrArg some (by kernel_rfl))
 f337:=Tryz.func297.trans (congrArg some (by kernel_rfl))
 f338:=Tryz.func298.trans (congrArg some (by kernel_rfl))
 t0:=Tryz.underlying0
 a0:=Tryz.isAgg0
 z0:=Tryz.sizeOf0
 v0:=Tryz.zeroValue0
 t2:=Tryz.underlying2
 a2:=Tryz.isAgg2
 z2:=Tryz.sizeOf2
 v2:=Tryz.zeroValue2
 t3:=Tryz.underlying3
 a3:=Tryz.isAgg3
 z3:=Tryz.sizeOf3
 v3:=Tryz.zeroValue3
 t4:=Tryz.underlying4
 a4:=Tryz.isAgg4
 z4:=Tryz.sizeOf4
 v4:=Tryz.zeroValue4
 t5:=Tryz.underlying5
 a5:=Tryz.isAgg5
 z5:=Tryz.sizeOf5
 v5:=Tryz.zeroValue5
 t9:=Tryz.underlying9
 a9:=Tryz.isAgg9
 z9:=Tryz.sizeOf9
 v9:=Tryz.zeroValue9
 t20:=Tryz.underlying20
 a20:=Tryz.isAgg20
 z20:=Tryz.sizeOf20
 v20:=Tryz.zeroValue20
 t37:=Tryz.underlying31
 a37:=Tryz.isAgg31
 z37:=Tryz.sizeOf31
 v37:=Tryz.zeroValue31
 t46:=Tryz.underlying157
 a46:=Tryz.isAgg157
 z46:=Tryz.sizeOf157
 v46:=Tryz.zeroValue157
 t51:=Tryz.underlying266
 a51:=Tryz.isAgg266
 z51:=Tryz.sizeOf266
 v51:=Tryz.zeroValue266
 t53:=Tryz.underlying92
 a53:=Tryz.isAgg92
 z53:=Tryz.sizeOf92
 v53:=Tryz.zeroValue92
 t75:=Tryz.underlying87
 a75:=Tryz.isAgg87
 z75:=Tryz.sizeOf87
 v75:=Tryz.zeroValue87
 t127:=Tryz.underlying123
 a127:=Tryz.isAgg123
 z127:=Tryz.sizeOf123
 v127:=Tryz.zeroValue123
 t143:=Tryz.underlying263
 a143:=Tryz.isAgg263
 z143:=Tryz.sizeOf263
 v143:=Tryz.zeroValue263
 t145:=Tryz.underlying265
 a145:=Tryz.isAgg265
 z145:=Tryz.sizeOf265
 v145:=Tryz.zeroValue265
 t167:=Tryz.underlying155
 a167:=Tryz.isAgg155
 z167:=Tryz.sizeOf155
 v167:=Tryz.zeroValue155
 t168:=Tryz.underlying158
 a168:=Tryz.isAgg158
 z168:=Tryz.sizeOf158
 v168:=Tryz.zeroValue158
 t171:=Tryz.underlying258
 a171:=Tryz.isAgg258
 z171:=Tryz.sizeOf258
 v171:=Tryz.zeroValue258
 t173:=Tryz.underlying261
 a173:=Tryz.isAgg261
 z173:=Tryz.sizeOf261
 v173:=Tryz.zeroValue261
 t210:=Tryz.underlying206
 a210:=Tryz.isAgg206
 z210:=Tryz.sizeOf206
 v210:=Tryz.zeroValue206
 t212:=Tryz.underlying312
 a212:=Tryz.isAgg312
 z212:=Tryz.sizeOf312
 v212:=Tryz.zeroValue312
 t213:=Tryz.underlying313
 a213:=Tryz.isAgg313
 z213:=Tryz.sizeOf313
 t232:=Tryz.underlying385
 a232:=Tryz.isAgg385
 z232:=Tryz.sizeOf385
 v232:=Tryz.zeroValue385
 t233:=Tryz.underlying386
 a233:=Tryz.isAgg386
 z233:=Tryz.sizeOf386
 v233:=Tryz.zeroValue386
 g15:=by kernel_rfl
 g16:=by kernel_rfl
 g17:=by kernel_rfl
 g18:=by kernel_rfl
 g19:=by kernel_rfl
 t80:=Tryz.underlying81
 a80:=Tryz.isAgg81
 z80:=Tryz.sizeOf81
 v80:=Tryz.zeroValue81
 i0:=by kernel_rfl
 i2:=by kernel_rfl
 i3:=by kernel_rfl
 i4:=by kernel_rfl
 i5:=by kernel_rfl
 i9:=by kernel_rfl
 i20:=by kernel_rfl
 i37:=by kernel_rfl
 i46:=by kernel_rfl
 i51:=by kernel_rfl
 i53:=by kernel_rfl
 i75:=by kernel_rfl
 i80:=by kernel_rfl
 i127:=by kernel_rfl
 i143:=by kernel_rfl
 i145:=by kernel_rfl
 i167:=by kernel_rfl
 i168:=by kernel_rfl
 i171:=by kernel_rfl
 i173:=by kernel_rfl
 i210:=by kernel_rfl
 i212:=by kernel_rfl
 i232:=by kernel_rfl
 i233:=by kernel_rfl
 m15:=by kernel_rfl
 m16:=by kernel_rfl
 m17:=by kernel_rfl
 m18:=by kernel_rfl
 m19:=by kernel_rfl
 c0:=by kernel_rfl
 c2:=by kernel_rfl
 c3:=by kernel_rfl
 c4:=by kernel_rfl
 c5:=by kernel_rfl
 c9:=by kernel_rfl
 c20:=by kernel_rfl
 c37:=by kernel_rfl
 c46:=by kernel_rfl
 c51:=by kernel_rfl
 c53:=by kernel_rfl
 c75:=by kernel_rfl
 c80:=by kernel_rfl
 c127:=by kernel_rfl
 c143:=by kernel_rfl
 c145:=by kernel_rfl
 c167:=by kernel_rfl
 c168:=by kernel_rfl
 c171:=by kernel_rfl
 c173:=by kernel_rfl
 c210:=by kernel_rfl
 c212:=by kernel_rfl
 c213:=by kernel_rfl
 c232:=by kernel_rfl
 c233:=by kernel_rfl }
open Go.RowKit in
theorem Tryz.strconv_toError_syntax (fn s:ByteArray) (base bits:Int) (ev:Value) (w:World) (hlim:s.size <= 281474976710656) (hv:w.cell? ⟨1,0,none⟩=some ev) (hev:ev=.nilIface∨∃ te pe,ev=.iface te pe) :
  Calls Tryz.prog 59 #[.string fn,.string s,.int .i64 base,.int .i64 bits,.iface 155 (.int .i64 2)] w fun e w'=>∃ N,e=.returned (.iface 158 (.pointer (some ⟨N,0,none⟩)))∧w.heap.size <= N∧w'.heap[N]?=some (.cells #[.string fn,.string s,ev] 206 (0,0))∧Below w.heap.size w w':=Any.strconv_toError_syntax Tryz.laysC245 fn s base bits ev w hlim hv hev
def Tryz.lays145_ren:Go.Shelf.Ren:=⟨fun | 145=>38 | 220=>62 | 219=>96 | 217=>57 | 225=>135 | 224=>136 | 267=>137 | 266=>87 | 314=>190 | n=>n,fun | 9=>9 | 4=>4 | 59=>96 | 3=>3 | 5=>5 | 46=>157 | 146=>267 | 51=>266 | n=>n,fun | 1=>0 | n=>n⟩
theorem Tryz.lays145:Go.Proofs.Lays.n145 Tryz.prog Tryz.lays145_ren:={
 mixed:=by kernel_rfl
 f145:=Tryz.func38.trans (congrArg some (by kernel_rfl))
 f217:=Tryz.func57.trans (congrArg some (by kernel_rfl))
 f219:=Tryz.func96.trans (congrArg some (by kernel_rfl))
 f220:=Tryz.func62.trans (congrArg some (by kernel_rfl))
 f224:=Tryz.func136.trans (congrArg some (by kernel_rfl))
 f225:=Tryz.func135.trans (congrArg some (by kernel_rfl))
 f266:=Tryz.func87.trans (congrArg some (by kernel_rfl))
 f267:=Tryz.func137.trans (congrArg some (by kernel_rfl))
 f314:=Tryz.func190.trans (congrArg some (by kernel_rfl))
 t3:=Tryz.underlying3
 a3:=Tryz.isAgg3
 z3:=Tryz.sizeOf3
 v3:=Tryz.zeroValue3
 t4:=Tryz.underlying4
 a4:=Tryz.isAgg4
 z4:=Tryz.sizeOf4
 v4:=Tryz.zeroValue4
 t5:=Tryz.underlying5
 a5:=Tryz.isAgg5
 z5:=Tryz.sizeOf5
 v5:=Tryz.zeroValue5
 t9:=Tryz.underlying9
 a9:=Tryz.isAgg9
 z9:=Tryz.sizeOf9
 v9:=Tryz.zeroValue9
 t46:=Tryz.underlying157
 a46:=Tryz.isAgg157
 z46:=Tryz.sizeOf157
 v46:=Tryz.zeroValue157
 t51:=Tryz.underlying266
 a51:=Tryz.isAgg266
 z51:=Tryz.sizeOf266
 v51:=Tryz.zeroValue266
 t59:=Tryz.underlying96
 a59:=Tryz.isAgg96
 z59:=Tryz.sizeOf96
 v59:=Tryz.zeroValue96
 t146:=Tryz.underlying267
 a146:=Tryz.isAgg267
 z146:=Tryz.sizeOf267
 v146:=Tryz.zeroValue267
 g1:=by kernel_rfl }
open Go.RowKit Go.Lib in
theorem Tryz.strings_Cut (s sep:ByteArray) (m:Int) (w:World) (hs:s.size < 4294967281) (hm:w.cell? ⟨0,0,none⟩=some (.int .i64 m)) :
  Calls Tryz.prog 38 #[.string s,.string sep] w fun e w'=>e=.returned (.tuple #[.string ⟨(Lib.cut s.data.toList sep.data.toList).1.toArray⟩,.string ⟨(Lib.cut s.data.toList sep.data.toList).2.1.toArray⟩,.bool (Lib.cut s.data.toList sep.data.toList).2.2])∧∃ n,w'=w.drewN n:=Any.strings_Cut Tryz.lays145 s sep m w hs hm
def Tryz.lays102_ren:Go.Shelf.Ren:=⟨fun | 102=>230 | 209=>299 | 207=>86 | n=>n,fun | 9=>9 | 4=>4 | 3=>3 | n=>n,fun | n=>n⟩
theorem Tryz.lays102:Go.Proofs.Lays.n102 Tryz.prog Tryz.lays102_ren:={
 mixed:=by kernel_rfl
 f102:=Tryz.func230.trans (congrArg some (by kernel_rfl))
 f207:=Tryz.func86.trans (congrArg some (by kernel_rfl))
 f209:=Tryz.func299.trans (congrArg some (by kernel_rfl))
 t3:=Tryz.underlying3
 a3:=Tryz.isAgg3
 z3:=Tryz.sizeOf3
 v3:=Tryz.zeroValue3
 t4:=Tryz.underlying4
 a4:=Tryz.isAgg4
 z4:=Tryz.sizeOf4
 v4:=Tryz.zeroValue4
 t9:=Tryz.underlying9
 a9:=Tryz.isAgg9
 z9:=Tryz.sizeOf9
 v9:=Tryz.zeroValue9 }
open Go.RowKit Go.Lib in
theorem Tryz.strings_TrimSuffix (s p:ByteArray) (w:World) (hs:s.size <= 9223372036854775807) :
  Calls Tryz.prog 230 #[.string s,.string p] w fun e w'=>e=.returned (.string ⟨(Lib.trimSuffix s.data.toList p.data.toList).toArray⟩)∧w'=w:=Any.strings_TrimSuffix Tryz.lays102 s p w hs
def Tryz.laysNm215_ren:Go.Shelf.Ren:=⟨fun | 15=>157 | n=>n,fun | 22=>41 | 3=>3 | 4=>4 | n=>n,fun | n=>n⟩
theorem Tryz.laysNm215:Go.Proofs.Lays2.n15 Tryz.prog Tryz.laysNm215_ren:={
 mixed:=by kernel_rfl
 f15:=Tryz.func157.trans (congrArg some (by kernel_rfl))
 t3:=Tryz.underlying3
 a3:=Tryz.isAgg3
 z3:=Tryz.sizeOf3
 v3:=Tryz.zeroValue3
 t4:=Tryz.underlying4
 a4:=Tryz.isAgg4
 z4:=Tryz.sizeOf4
 v4:=Tryz.zeroValue4
 t22:=Tryz.underlying41
 a22:=Tryz.isAgg41
 z22:=Tryz.sizeOf41
 v22:=Tryz.zeroValue41
 i3:=by kernel_rfl }
open Go.RowKit Go.Lib in
theorem Tryz.slices_Clone_int (b off n c:Nat) (zs:List Int) (w:World) (hz:n <= zs.length) (hbig:n * 8 <= 140737488355328) (hc:∀ j,j < zs.length->w.cell? ⟨b,off+j,none⟩=some (.int .i64 (zs.getD j 0))) :
  Calls Tryz.prog 157 #[.slice (some ⟨b,off,none⟩) n c] w fun e w'=>∃ v',e=.returned v'∧w'.ownsRow w.heap.size 3 1 v' n ((zs.take n).map (Value.int .i64))∧v' ≠ .slice none 0 0∧Below w.heap.size w w':=Any.slices_Clone_int Tryz.laysNm215 b off n c zs w hz hbig hc
def Tryz.laysSlM6_f193_ren:Go.Shelf.Ren:=⟨fun | 6=>193 | 8=>234 | 9=>233 | 19=>311 | 20=>225 | 21=>302 | 22=>303 | 23=>304 | 24=>305 | 25=>306 | 26=>307 | 27=>308 | 28=>309 | 29=>310 | 36=>339 | 31=>340 | 32=>341 | 37=>342 | 38=>343 | 39=>344 | 41=>367 | n=>n,fun | 27=>133 | 29=>9 | 3=>3 | 32=>157 | 26=>133 | 0=>0 | 44=>266 | 46=>92 | 4=>4 | 36=>357 | 35=>356 | 41=>121 | 5=>5 | 9=>9 | 53=>388 | 57=>392 | 63=>413 | 64=>414 | n=>n,fun | n=>n⟩
theorem Tryz.laysSlM6_f193:Go.Proofs.SlLaysM.n6 Tryz.prog Tryz.laysSlM6_f193_ren:={
 mixed:=by kernel_rfl
 f6:=⟨Tryz.f193.name,by decide,Tryz.func193.trans (congrArg some (by kernel_rfl))⟩
 f8:=Tryz.func234.trans (congrArg some (by kernel_rfl))
 f9:=⟨Tryz.f233.name,by decide,Tryz.func233.trans (congrArg some (by kernel_rfl))⟩
 f19:=Tryz.func311.trans (congrArg some (by kernel_rfl))
 f20:=Tryz.func225.trans (congrArg some (by kernel_rfl))
 f21:=⟨Tryz.f302.name,by decide,Tryz.func302.trans (congrArg some (by kernel_rfl))⟩
 f22:=⟨Tryz.f303.name,by decide,Tryz.func303.trans (congrArg some (by kernel_rfl))⟩
 f23:=⟨Tryz.f304.name,by decide,Tryz.func304.trans (congrArg some (by kernel_rfl))⟩
 f24:=⟨Tryz.f305.name,by decide,Tryz.func305.trans (congrArg some (by kernel_rfl))⟩
 f25:=⟨Tryz.f306.name,by decide,Tryz.func306.trans (congrArg some (by kernel_rfl))⟩
 f26:=⟨Tryz.f307.name,by decide,Tryz.func307.trans (congrArg some (by kernel_rfl))⟩
 f27:=⟨Tryz.f308.name,by decide,Tryz.func308.trans (congrArg some (by kernel_rfl))⟩
 f28:=⟨Tryz.f309.name,by decide,Tryz.func309.trans (congrArg some (by kernel_rfl))⟩
 f29:=⟨Tryz.f310.name,by decide,Tryz.func310.trans (congrArg some (by kernel_rfl))⟩
 f31:=Tryz.func340.trans (congrArg some (by kernel_rfl))
 f32:=Tryz.func341.trans (congrArg some (by kernel_rfl))
 f36:=⟨Tryz.f339.name,by decide,Tryz.func339.trans (congrArg some (by kernel_rfl))⟩
 f37:=⟨Tryz.f342.name,by decide,Tryz.func342.trans (congrArg some (by kernel_rfl))⟩
 f38:=⟨Tryz.f343.name,by decide,Tryz.func343.trans (congrArg some (by kernel_rfl))⟩
 f39:=⟨Tryz.f344.name,by decide,Tryz.func344.trans (congrArg some (by kernel_rfl))⟩
 f41:=⟨Tryz.f367.name,by decide,Tryz.func367.trans (congrArg some (by kernel_rfl))⟩
 t0:=Tryz.underlying0
 a0:=Tryz.isAgg0
 z0:=Tryz.sizeOf0
 v0:=Tryz.zeroValue0
 t3:=Tryz.underlying3
 a3:=Tryz.isAgg3
 z3:=Tryz.sizeOf3
 v3:=Tryz.zeroValue3
 t4:=Tryz.underlying4
 a4:=Tryz.isAgg4
 z4:=Tryz.sizeOf4
 v4:=Tryz.zeroValue4
 t5:=Tryz.underlying5
 a5:=Tryz.isAgg5
 z5:=Tryz.sizeOf5
 v5:=Tryz.zeroValue5
 t9:=Tryz.underlying9
 a9:=Tryz.isAgg9
 z9:=Tryz.sizeOf9
 v9:=Tryz.zeroValue9
 t26:=Tryz.underlying133
 a26:=Tryz.isAgg133
 z26:=Tryz.sizeOf133
 v26:=Tryz.zeroValue133
 t27:=Tryz.underlying133
 a27:=Tryz.isAgg133
 z27:=Tryz.sizeOf133
 v27:=Tryz.zeroValue133
 t29:=Tryz.underlying9
 a29:=Tryz.isAgg9
 z29:=Tryz.sizeOf9
 v29:=Tryz.zeroValue9
 t32:=Tryz.underlying157
 a32:=Tryz.isAgg157
 z32:=Tryz.sizeOf157
 v32:=Tryz.zeroValue157
 t35:=Tryz.underlying356
 a35:=Tryz.isAgg356
 z35:=Tryz.sizeOf356
 v35:=Tryz.zeroValue356
 t36:=Tryz.underlying357
 a36:=Tryz.isAgg357
 z36:=Tryz.sizeOf357
 v36:=Tryz.zeroValue357
 t41:=Tryz.underlying121
 a41:=Tryz.isAgg121
 z41:=Tryz.sizeOf121
 v41:=Tryz.zeroValue121
 t44:=Tryz.underlying266
 a44:=Tryz.isAgg266
 z44:=Tryz.sizeOf266
 v44:=Tryz.zeroValue266
 t46:=Tryz.underlying92
 a46:=Tryz.isAgg92
 z46:=Tryz.sizeOf92
 v46:=Tryz.zeroValue92
 t53:=Tryz.underlying388
 a53:=Tryz.isAgg388
 z53:=Tryz.sizeOf388
 v53:=Tryz.zeroValue388
 t57:=Tryz.underlying392
 a57:=Tryz.isAgg392
 z57:=Tryz.sizeOf392
 v57:=Tryz.zeroValue392
 t63:=Tryz.underlying413
 a63:=Tryz.isAgg413
 z63:=Tryz.sizeOf413
 v63:=Tryz.zeroValue413
 t64:=Tryz.underlying414
 a64:=Tryz.isAgg414
 z64:=Tryz.sizeOf414
 v64:=Tryz.zeroValue414 }
open Go.Sort Go.RowKit in
theorem Tryz.slices_Sort_string (blk off cap:Nat) (ss:List (List UInt8)) (w:World) (hH:Holds encStr w blk off ss.toArray) (hblk:blk < w.heap.size) (hsz:ss.length < 4611686018427387904) :
  Calls Tryz.prog 193 #[.slice (some ⟨blk,off,none⟩) ss.length cap] w fun e w' =>
   e=.returned (.tuple #[])∧∃ n os,w'=grow (putRow encStr (Sort.ahead w n) blk off (ss.mergeSort fun x y=>decide (x <= y)).toArray) os:=AnyM.slices_Sort_string Tryz.laysSlM6_f193 blk off cap ss w hH hblk hsz
open Go.RowKit Go.Sort in
theorem Tryz.slices_Sort_string_none (p:Option Addr) (cap:Nat) (w:World) :
  Calls Tryz.prog 193 #[.slice p 0 cap] w fun e w'=>e=.returned (.tuple #[])∧w'=w:=AnyM.slices_Sort_string_none Tryz.laysSlM6_f193 p cap w
end Go.Proofs
