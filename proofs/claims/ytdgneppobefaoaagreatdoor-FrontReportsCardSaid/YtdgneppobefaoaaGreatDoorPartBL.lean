/- Part of a proof over this seat: a library of my own, and what it says of this seat. No statement is proved here. -/
import Derived.Shelf.Strings.Builder1
import Derived.Shelf.Strings.Builder2
import Derived.Shelf.Strings.OnBuilder
import Derived.Shelf.Small.Utf8
import Derived.Shelf.Small.Bits
import Derived.Shelf.Small.Strs
import Derived.Shelf.Strings.BuilderF
import Derived.Shelf.Strings.BuilderK
import Derived.Shelf.Strconv.Itoa0
import Derived.Shelf.Strconv.Itoa1
import Derived.Shelf.LaysM
import Derived.Shelf.Strconv.Itoa2
import Derived.Shelf.Strconv.Itoa3
import Derived.Shelf.Strconv.Clone
import Derived.Shelf.Strconv.SyntaxError
import Derived.Shelf.LaysC
import Derived.Shelf.Strconv.ToError
import Derived.Shelf.Strings.Search1
import Derived.Shelf.Strings.Search2
import Derived.Shelf.Strings.Cut
import Derived.Shelf.Strings.Shaped
import Derived.Shelf.Strings.Prefix
import Derived.Shelf.Unicode.Decode
import Derived.Shelf.Strings.Runes
import Derived.Shelf.Strings.IndexAny
import Derived.Shelf.Strings.AsciiSet
import Derived.Shelf.Strings.IndexAnyAll
import Derived.Shelf.Bits.Mul64
import Derived.Shelf.Unicode.DecodeSlow
import Derived.Shelf.Unicode.DecodeAny
import Derived.Shelf.Unicode.DecodeLast
import Derived.Ground.Names2Prog
import Derived.Shelf.Slices.Clone
import Derived.Shelf.Slices.CompactS
import Derived.Shelf.Slices.Cells
import Derived.Ground.SlgnProg
import Derived.Shelf.SlicesE.Clone
import Derived.Ground.SlgmProg
import Derived.Shelf.SortM.Plain
import Derived.Shelf.SortM.SortNone
import Derived.Test.YtdgneppobefaoaaGreatDoorProg
namespace Go.Proofs
open Go.Shelf
def Tryz.lays169_ren:Go.Shelf.Ren:=⟨fun | 169=>26 | n=>n,fun | 70=>76 | 9=>9 | 0=>0 | 72=>78 | 37=>31 | 127=>123 | 3=>3 | 5=>5 | n=>n,fun | n=>n⟩
theorem Tryz.lays169:Go.Proofs.Lays.n169 Tryz.prog Tryz.lays169_ren:={
 mixed:=by kernel_rfl
 f169:=Tryz.func26.trans (congrArg some (by kernel_rfl))
 t0:=Tryz.underlying0
 a0:=Tryz.isAgg0
 z0:=Tryz.sizeOf0
 v0:=Tryz.zeroValue0
 t3:=Tryz.underlying3
 a3:=Tryz.isAgg3
 z3:=Tryz.sizeOf3
 v3:=Tryz.zeroValue3
 t9:=Tryz.underlying9
 a9:=Tryz.isAgg9
 z9:=Tryz.sizeOf9
 v9:=Tryz.zeroValue9
 t37:=Tryz.underlying31
 a37:=Tryz.isAgg31
 z37:=Tryz.sizeOf31
 v37:=Tryz.zeroValue31
 t70:=Tryz.underlying76
 a70:=Tryz.isAgg76
 z70:=Tryz.sizeOf76
 v70:=Tryz.zeroValue76
 t72:=Tryz.underlying78
 a72:=Tryz.isAgg78
 z72:=Tryz.sizeOf78
 v72:=Tryz.zeroValue78
 t127:=Tryz.underlying123
 a127:=Tryz.isAgg123
 z127:=Tryz.sizeOf123
 v127:=Tryz.zeroValue123 }
theorem Tryz.Builder_Extra_169:Builder.Extra Tryz.prog Tryz.lays169_ren:={
 sizeBuilder:=by kernel_rfl
 liesBuilder:=by kernel_rfl
 t5:=Tryz.underlying5
 a5:=Tryz.isAgg5
 z5:=Tryz.sizeOf5
 v5:=Tryz.zeroValue5
 infoByte:=by kernel_rfl
 cellsByte:=by kernel_rfl
 sizeByte:=by kernel_rfl
 neB5:=by decide }
open Go.RowKit in
theorem Tryz.Builder_String (B b:Nat) (l:List UInt8) (w:World) (h:Lib.IsBuilder 78 5 B b (Lib.byteCells l) w) (h0:l ≠ []) :
  Calls Tryz.prog 26 #[.pointer (some ⟨b,0,none⟩)] w fun e w'=>e=.returned (.string ⟨l.toArray⟩)∧Below B w w':=Any.Builder_String Tryz.lays169 Tryz.Builder_Extra_169 B b l w h h0
def Tryz.laysM171_ren:Go.Shelf.Ren:=⟨fun | 171=>51 | 243=>84 | 246=>128 | 283=>183 | 284=>184 | 285=>185 | 286=>186 | 129=>225 | 317=>224 | 318=>226 | 319=>227 | 320=>228 | 337=>297 | 338=>298 | n=>n,fun | 3=>3 | 9=>9 | 2=>2 | 4=>4 | 171=>258 | 0=>0 | 53=>92 | 37=>31 | 5=>5 | 173=>261 | 212=>312 | 51=>266 | 20=>20 | 213=>313 | 46=>157 | 232=>385 | 233=>386 | n=>n,fun | 17=>3 | 18=>4 | 19=>5 | n=>n⟩
theorem Tryz.laysM171:Go.Proofs.LaysM.n171 Tryz.prog Tryz.laysM171_ren:={
 mixed:=by kernel_rfl
 f129:=Tryz.func225.trans (congrArg some (by kernel_rfl))
 f171:=Tryz.func51.trans (congrArg some (by kernel_rfl))
 f243:=Tryz.func84.trans (congrArg some (by kernel_rfl))
 f246:=Tryz.func128.trans (congrArg some (by kernel_rfl))
 f283:=Tryz.func183.trans (congrArg some (by kernel_rfl))
 f284:=Tryz.func184.trans (congrArg some (by kernel_rfl))
 f285:=Tryz.func185.trans (congrArg some (by kernel_rfl))
 f286:=Tryz.func186.trans (congrArg some (by kernel_rfl))
 f317:=Tryz.func224.trans (congrArg some (by kernel_rfl))
 f318:=Tryz.func226.trans (congrArg some (by kernel_rfl))
 f319:=Tryz.func227.trans (congrArg some (by kernel_rfl))
 f320:=Tryz.func228.trans (congrArg some (by kernel_rfl))
 f337:=Tryz.func297.trans (congrArg some (by kernel_rfl))
 f338:=Tryz.func298.trans (congrArg some (by kernel_rfl))
 t0:=Tryz.underlying0
 a0:=Tryz.isAgg0
 z0:=Tryz.sizeOf0
 v0:=Tryz.zeroValue0
 t2:=Tryz.underlying2
 a2:=Tryz.isAgg2
 z2:=Tryz.sizeOf2
 v2:=Tryz.zeroValue2
 t3:=Tryz.underlying3
 a3:=Tryz.isAgg3
 z3:=Tryz.sizeOf3
 v3:=Tryz.zeroValue3
 t4:=Tryz.underlying4
 a4:=Tryz.isAgg4
 z4:=Tryz.sizeOf4
 v4:=Tryz.zeroValue4
 t5:=Tryz.underlying5
 a5:=Tryz.isAgg5
 z5:=Tryz.sizeOf5
 v5:=Tryz.zeroValue5
 t9:=Tryz.underlying9
 a9:=Tryz.isAgg9
 z9:=Tryz.sizeOf9
 v9:=Tryz.zeroValue9
 t20:=Tryz.underlying20
 a20:=Tryz.isAgg20
 z20:=Tryz.sizeOf20
 v20:=Tryz.zeroValue20
 t37:=Tryz.underlying31
 a37:=Tryz.isAgg31
 z37:=Tryz.sizeOf31
 v37:=Tryz.zeroValue31
 t46:=Tryz.underlying157
 a46:=Tryz.isAgg157
 z46:=Tryz.sizeOf157
 v46:=Tryz.zeroValue157
 t51:=Tryz.underlying266
 a51:=Tryz.isAgg266
 z51:=Tryz.sizeOf266
 v51:=Tryz.zeroValue266
 t53:=Tryz.underlying92
 a53:=Tryz.isAgg92
 z53:=Tryz.sizeOf92
 v53:=Tryz.zeroValue92
 t171:=Tryz.underlying258
 a171:=Tryz.isAgg258
 z171:=Tryz.sizeOf258
 v171:=Tryz.zeroValue258
 t173:=Tryz.underlying261
 a173:=Tryz.isAgg261
 z173:=Tryz.sizeOf261
 v173:=Tryz.zeroValue261
 t212:=Tryz.underlying312
 a212:=Tryz.isAgg312
 z212:=Tryz.sizeOf312
 v212:=Tryz.zeroValue312
 t213:=Tryz.underlying313
 a213:=Tryz.isAgg313
 z213:=Tryz.sizeOf313
 t232:=Tryz.underlying385
 a232:=Tryz.isAgg385
 z232:=Tryz.sizeOf385
 v232:=Tryz.zeroValue385
 t233:=Tryz.underlying386
 a233:=Tryz.isAgg386
 z233:=Tryz.sizeOf386
 v233:=Tryz.zeroValue386
 g17:=by kernel_rfl
 g18:=by kernel_rfl
 g19:=by kernel_rfl
 i0:=by kernel_rfl
 i2:=by kernel_rfl
 i3:=by kernel_rfl
 i4:=by kernel_rfl
 i5:=by kernel_rfl
 i9:=by kernel_rfl
 i20:=by kernel_rfl
 i37:=by kernel_rfl
 i46:=by kernel_rfl
 i51:=by kernel_rfl
 i53:=by kernel_rfl
 i171:=by kernel_rfl
 i173:=by kernel_rfl
 i212:=by kernel_rfl
 i232:=by kernel_rfl
 i233:=by kernel_rfl
 m17:=by kernel_rfl
 m18:=by kernel_rfl
 m19:=by kernel_rfl }
open Go.RowKit Go.Sort Go.Lib in
theorem Tryz.strconv_Itoa (n:Int) (h0:-9223372036854775808 <= n) (h1:n <= 9223372036854775807) (w:World) (htab:Lib.TabIs Tryz.prog w "internal/strconv.uint64pow10" .u64 Lib.pow10Tab) :
  Calls Tryz.prog 51 #[.int .i64 n] w fun e w'=>e=.returned (.string ⟨(Lib.itoa n).toArray⟩)∧∃ k os,w'=grow (w.drewN k) os:=Any.strconv_Itoa Tryz.laysM171 n h0 h1 w htab
def Tryz.laysSlM6_f193_ren:Go.Shelf.Ren:=⟨fun | 6=>193 | 8=>234 | 9=>233 | 19=>311 | 20=>225 | 21=>302 | 22=>303 | 23=>304 | 24=>305 | 25=>306 | 26=>307 | 27=>308 | 28=>309 | 29=>310 | 36=>339 | 31=>340 | 32=>341 | 37=>342 | 38=>343 | 39=>344 | 41=>367 | n=>n,fun | 27=>133 | 29=>9 | 3=>3 | 32=>157 | 26=>133 | 0=>0 | 44=>266 | 46=>92 | 4=>4 | 36=>357 | 35=>356 | 41=>121 | 5=>5 | 9=>9 | 53=>388 | 57=>392 | 63=>413 | 64=>414 | n=>n,fun | n=>n⟩
theorem Tryz.laysSlM6_f193:Go.Proofs.SlLaysM.n6 Tryz.prog Tryz.laysSlM6_f193_ren:={
 mixed:=by kernel_rfl
 f6:=⟨Tryz.f193.name,by decide,Tryz.func193.trans (congrArg some (by kernel_rfl))⟩
 f8:=Tryz.func234.trans (congrArg some (by kernel_rfl))
 f9:=⟨Tryz.f233.name,by decide,Tryz.func233.trans (congrArg some (by kernel_rfl))⟩
 f19:=Tryz.func311.trans (congrArg some (by kernel_rfl))
 f20:=Tryz.func225.trans (congrArg some (by kernel_rfl))
 f21:=⟨Tryz.f302.name,by decide,Tryz.func302.trans (congrArg some (by kernel_rfl))⟩
 f22:=⟨Tryz.f303.name,by decide,Tryz.func303.trans (congrArg some (by kernel_rfl))⟩
 f23:=⟨Tryz.f304.name,by decide,Tryz.func304.trans (congrArg some (by kernel_rfl))⟩
 f24:=⟨Tryz.f305.name,by decide,Tryz.func305.trans (congrArg some (by kernel_rfl))⟩
 f25:=⟨Tryz.f306.name,by decide,Tryz.func306.trans (congrArg some (by kernel_rfl))⟩
 f26:=⟨Tryz.f307.name,by decide,Tryz.func307.trans (congrArg some (by kernel_rfl))⟩
 f27:=⟨Tryz.f308.name,by decide,Tryz.func308.trans (congrArg some (by kernel_rfl))⟩
 f28:=⟨Tryz.f309.name,by decide,Tryz.func309.trans (congrArg some (by kernel_rfl))⟩
 f29:=⟨Tryz.f310.name,by decide,Tryz.func310.trans (congrArg some (by kernel_rfl))⟩
 f31:=Tryz.func340.trans (congrArg some (by kernel_rfl))
 f32:=Tryz.func341.trans (congrArg some (by kernel_rfl))
 f36:=⟨Tryz.f339.name,by decide,Tryz.func339.trans (congrArg some (by kernel_rfl))⟩
 f37:=⟨Tryz.f342.name,by decide,Tryz.func342.trans (congrArg some (by kernel_rfl))⟩
 f38:=⟨Tryz.f343.name,by decide,Tryz.func343.trans (congrArg some (by kernel_rfl))⟩
 f39:=⟨Tryz.f344.name,by decide,Tryz.func344.trans (congrArg some (by kernel_rfl))⟩
 f41:=⟨Tryz.f367.name,by decide,Tryz.func367.trans (congrArg some (by kernel_rfl))⟩
 t0:=Tryz.underlying0
 a0:=Tryz.isAgg0
 z0:=Tryz.sizeOf0
 v0:=Tryz.zeroValue0
 t3:=Tryz.underlying3
 a3:=Tryz.isAgg3
 z3:=Tryz.sizeOf3
 v3:=Tryz.zeroValue3
 t4:=Tryz.underlying4
 a4:=Tryz.isAgg4
 z4:=Tryz.sizeOf4
 v4:=Tryz.zeroValue4
 t5:=Tryz.underlying5
 a5:=Tryz.isAgg5
 z5:=Tryz.sizeOf5
 v5:=Tryz.zeroValue5
 t9:=Tryz.underlying9
 a9:=Tryz.isAgg9
 z9:=Tryz.sizeOf9
 v9:=Tryz.zeroValue9
 t26:=Tryz.underlying133
 a26:=Tryz.isAgg133
 z26:=Tryz.sizeOf133
 v26:=Tryz.zeroValue133
 t27:=Tryz.underlying133
 a27:=Tryz.isAgg133
 z27:=Tryz.sizeOf133
 v27:=Tryz.zeroValue133
 t29:=Tryz.underlying9
 a29:=Tryz.isAgg9
 z29:=Tryz.sizeOf9
 v29:=Tryz.zeroValue9
 t32:=Tryz.underlying157
 a32:=Tryz.isAgg157
 z32:=Tryz.sizeOf157
 v32:=Tryz.zeroValue157
 t35:=Tryz.underlying356
 a35:=Tryz.isAgg356
 z35:=Tryz.sizeOf356
 v35:=Tryz.zeroValue356
 t36:=Tryz.underlying357
 a36:=Tryz.isAgg357
 z36:=Tryz.sizeOf357
 v36:=Tryz.zeroValue357
 t41:=Tryz.underlying121
 a41:=Tryz.isAgg121
 z41:=Tryz.sizeOf121
 v41:=Tryz.zeroValue121
 t44:=Tryz.underlying266
 a44:=Tryz.isAgg266
 z44:=Tryz.sizeOf266
 v44:=Tryz.zeroValue266
 t46:=Tryz.underlying92
 a46:=Tryz.isAgg92
 z46:=Tryz.sizeOf92
 v46:=Tryz.zeroValue92
 t53:=Tryz.underlying388
 a53:=Tryz.isAgg388
 z53:=Tryz.sizeOf388
 v53:=Tryz.zeroValue388
 t57:=Tryz.underlying392
 a57:=Tryz.isAgg392
 z57:=Tryz.sizeOf392
 v57:=Tryz.zeroValue392
 t63:=Tryz.underlying413
 a63:=Tryz.isAgg413
 z63:=Tryz.sizeOf413
 v63:=Tryz.zeroValue413
 t64:=Tryz.underlying414
 a64:=Tryz.isAgg414
 z64:=Tryz.sizeOf414
 v64:=Tryz.zeroValue414 }
open Go.Sort Go.RowKit in
theorem Tryz.slices_Sort_string (blk off cap:Nat) (ss:List (List UInt8)) (w:World) (hH:Holds encStr w blk off ss.toArray) (hblk:blk < w.heap.size) (hsz:ss.length < 4611686018427387904) :
  Calls Tryz.prog 193 #[.slice (some ⟨blk,off,none⟩) ss.length cap] w fun e w' =>
   e=.returned (.tuple #[])∧∃ n os,w'=grow (putRow encStr (Sort.ahead w n) blk off (ss.mergeSort fun x y=>decide (x <= y)).toArray) os:=AnyM.slices_Sort_string Tryz.laysSlM6_f193 blk off cap ss w hH hblk hsz
open Go.RowKit Go.Sort in
theorem Tryz.slices_Sort_string_none (p:Option Addr) (cap:Nat) (w:World) :
  Calls Tryz.prog 193 #[.slice p 0 cap] w fun e w'=>e=.returned (.tuple #[])∧w'=w:=AnyM.slices_Sort_string_none Tryz.laysSlM6_f193 p cap w
end Go.Proofs
