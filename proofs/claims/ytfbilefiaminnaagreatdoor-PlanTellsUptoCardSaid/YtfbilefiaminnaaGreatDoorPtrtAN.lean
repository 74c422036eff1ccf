import Derived.Shelf.Small.Utf8
import Derived.Shelf.Strings.BuilderK
import Derived.Shelf.Strconv.AtoiErr
import Derived.Shelf.Strconv.ErrVarAll
import Derived.Shelf.Pu.ErrVarParseUint
import Derived.Shelf.Strings.Shaped
import Derived.Shelf.Strings.IndexAnyAll
import Derived.Shelf.Unicode.DecodeSlow
import Derived.Shelf.Slices.Cells
import Derived.Test.YtfbilefiaminnaaGreatDoorPtrtAH
open Go.Proofs.Tryz renaming prog->qEr
open Option.some renaming inj->qBc
open Bool renaming false_eq_true->qBs
open Array renaming getElem?_eq_getElem->qEx
namespace Go.Proofs
open Go.Shelf
def Tryz.lays137_ren:Go.Shelf.Ren:=⟨fun | 137=>81 | 217=>108 | 266=>128 | n=>n,fun | 9=>9 | 5=>5 | 3=>3 | n=>n,fun | n=>n⟩
theorem Tryz.lays137:Go.Proofs.Lays.n137 qEr Tryz.lays137_ren:={
 mixed:=by kernel_rfl
 f137:=Tryz.func81.trans (congrArg some (by kernel_rfl))
 f217:=Tryz.func108.trans (congrArg some (by kernel_rfl))
 f266:=Tryz.func128.trans (congrArg some (by kernel_rfl))
 t3:=Tryz.underlying3
 a3:=Tryz.isAgg3
 z3:=Tryz.sizeOf3
 v3:=Tryz.zeroValue3
 t5:=Tryz.underlying5
 a5:=Tryz.isAgg5
 z5:=Tryz.sizeOf5
 v5:=Tryz.zeroValue5
 t9:=Tryz.underlying9
 a9:=Tryz.isAgg9
 z9:=Tryz.sizeOf9
 v9:=Tryz.zeroValue9 }
open Go.RowKit in
theorem Tryz.strings_IndexByte(s:ByteArray)(c:Int)(w:World):Calls qEr 81 #[.string s,.int .u8 c] w λe w'=>e=.returned (.int .i64 (Lib.indexByte s.data.toList c.toNat.toUInt8))/\w'=w:=Any.strings_IndexByte Tryz.lays137 s c w
def Tryz.lays172_ren:Go.Shelf.Ren:=⟨fun | 172=>205 | 244=>218 | 245=>181 | 247=>225 | 279=>200 | 280=>201 | 281=>202 | 282=>203 | 287=>180 | 316=>215 | 171=>217 | 205=>216 | 321=>198 | 322=>199 | 243=>224 | 246=>227 | 283=>229 | 284=>230 | 285=>231 | 286=>232 | 129=>70 | 317=>234 | 318=>235 | 319=>236 | 320=>237 | 337=>238 | 338=>239 | n=>n,fun | 9=>9 | 3=>3 | 75=>198 | 76=>199 | 4=>4 | 5=>5 | 167=>262 | 37=>149 | 0=>0 | 85=>293 | 2=>2 | 168=>264 | 53=>121 | 175=>227 | 46=>112 | 210=>278 | 127=>226 | 145=>292 | 143=>290 | 21=>21 | 171=>296 | 173=>298 | 212=>302 | 51=>145 | 20=>20 | 213=>303 | 232=>304 | 233=>305 | 80=>163 | n=>n,fun | 15=>1 | 16=>2 | 17=>5 | 18=>6 | 19=>7 | n=>n⟩
theorem Tryz.lays172:Go.Proofs.Lays.n172 qEr Tryz.lays172_ren:={
 mixed:=by kernel_rfl
 f129:=Tryz.func70.trans (congrArg some (by kernel_rfl))
 f171:=Tryz.func217.trans (congrArg some (by kernel_rfl))
 f172:=Tryz.func205.trans (congrArg some (by kernel_rfl))
 f205:=Tryz.func216.trans (congrArg some (by kernel_rfl))
 f243:=Tryz.func224.trans (congrArg some (by kernel_rfl))
 f244:=Tryz.func218.trans (congrArg some (by kernel_rfl))
 f245:=Tryz.func181.trans (congrArg some (by kernel_rfl))
 f246:=Tryz.func227.trans (congrArg some (by kernel_rfl))
 f247:=Tryz.func225.trans (congrArg some (by kernel_rfl))
 f279:=Tryz.func200.trans (congrArg some (by kernel_rfl))
 f280:=Tryz.func201.trans (congrArg some (by kernel_rfl))
 f281:=Tryz.func202.trans (congrArg some (by kernel_rfl))
 f282:=Tryz.func203.trans (congrArg some (by kernel_rfl))
 f283:=Tryz.func229.trans (congrArg some (by kernel_rfl))
 f284:=Tryz.func230.trans (congrArg some (by kernel_rfl))
 f285:=Tryz.func231.trans (congrArg some (by kernel_rfl))
 f286:=Tryz.func232.trans (congrArg some (by kernel_rfl))
 f287:=Tryz.func180.trans (congrArg some (by kernel_rfl))
 f316:=Tryz.func215.trans (congrArg some (by kernel_rfl))
 f317:=Tryz.func234.trans (congrArg some (by kernel_rfl))
 f318:=Tryz.func235.trans (congrArg some (by kernel_rfl))
 f319:=Tryz.func236.trans (congrArg some (by kernel_rfl))
 f320:=Tryz.func237.trans (congrArg some (by kernel_rfl))
 f321:=Tryz.func198.trans (congrArg some (by kernel_rfl))
 f322:=Tryz.func199.trans (congrArg some (by kernel_rfl))
 f337:=Tryz.func238.trans (congrArg some (by kernel_rfl))
 f338:=Tryz.func239.trans (congrArg some (by kernel_rfl))
 t0:=Tryz.underlying0
 a0:=Tryz.isAgg0
 z0:=Tryz.sizeOf0
 v0:=Tryz.zeroValue0
 t2:=Tryz.underlying2
 a2:=Tryz.isAgg2
 z2:=Tryz.sizeOf2
 v2:=Tryz.zeroValue2
 t3:=Tryz.underlying3
 a3:=Tryz.isAgg3
 z3:=Tryz.sizeOf3
 v3:=Tryz.zeroValue3
 t4:=Tryz.underlying4
 a4:=Tryz.isAgg4
 z4:=Tryz.sizeOf4
 v4:=Tryz.zeroValue4
 t5:=Tryz.underlying5
 a5:=Tryz.isAgg5
 z5:=Tryz.sizeOf5
 v5:=Tryz.zeroValue5
 t9:=Tryz.underlying9
 a9:=Tryz.isAgg9
 z9:=Tryz.sizeOf9
 v9:=Tryz.zeroValue9
 t20:=Tryz.underlying20
 a20:=Tryz.isAgg20
 z20:=Tryz.sizeOf20
 v20:=Tryz.zeroValue20
 t21:=Tryz.underlying21
 a21:=Tryz.isAgg21
 z21:=Tryz.sizeOf21
 v21:=Tryz.zeroValue21
 t37:=Tryz.underlying149
 a37:=Tryz.isAgg149
 z37:=Tryz.sizeOf149
 v37:=Tryz.zeroValue149
 t46:=Tryz.underlying112
 a46:=Tryz.isAgg112
 z46:=Tryz.sizeOf112
 v46:=Tryz.zeroValue112
 t51:=Tryz.underlying145
 a51:=Tryz.isAgg145
 z51:=Tryz.sizeOf145
 v51:=Tryz.zeroValue145
 t53:=Tryz.underlying121
 a53:=Tryz.isAgg121
 z53:=Tryz.sizeOf121
 v53:=Tryz.zeroValue121
 t75:=Tryz.underlying198
 a75:=Tryz.isAgg198
 z75:=Tryz.sizeOf198
 v75:=Tryz.zeroValue198
 t76:=Tryz.underlying199
 a76:=Tryz.isAgg199
 z76:=Tryz.sizeOf199
 v76:=Tryz.zeroValue199
 t85:=Tryz.underlying293
 a85:=Tryz.isAgg293
 z85:=Tryz.sizeOf293
 v85:=Tryz.zeroValue293
 t127:=Tryz.underlying226
 a127:=Tryz.isAgg226
 z127:=Tryz.sizeOf226
 v127:=Tryz.zeroValue226
 t143:=Tryz.underlying290
 a143:=Tryz.isAgg290
 z143:=Tryz.sizeOf290
 v143:=Tryz.zeroValue290
 t145:=Tryz.underlying292
 a145:=Tryz.isAgg292
 z145:=Tryz.sizeOf292
 v145:=Tryz.zeroValue292
 t167:=Tryz.underlying262
 a167:=Tryz.isAgg262
 z167:=Tryz.sizeOf262
 v167:=Tryz.zeroValue262
 t168:=Tryz.underlying264
 a168:=Tryz.isAgg264
 z168:=Tryz.sizeOf264
 v168:=Tryz.zeroValue264
 t171:=Tryz.underlying296
 a171:=Tryz.isAgg296
 z171:=Tryz.sizeOf296
 v171:=Tryz.zeroValue296
 t173:=Tryz.underlying298
 a173:=Tryz.isAgg298
 z173:=Tryz.sizeOf298
 v173:=Tryz.zeroValue298
 t175:=Tryz.underlying227
 a175:=Tryz.isAgg227
 z175:=Tryz.sizeOf227
 v175:=Tryz.zeroValue227
 t210:=Tryz.underlying278
 a210:=Tryz.isAgg278
 z210:=Tryz.sizeOf278
 v210:=Tryz.zeroValue278
 t212:=Tryz.underlying302
 a212:=Tryz.isAgg302
 z212:=Tryz.sizeOf302
 v212:=Tryz.zeroValue302
 t213:=Tryz.underlying303
 a213:=Tryz.isAgg303
 z213:=Tryz.sizeOf303
 t232:=Tryz.underlying304
 a232:=Tryz.isAgg304
 z232:=Tryz.sizeOf304
 v232:=Tryz.zeroValue304
 t233:=Tryz.underlying305
 a233:=Tryz.isAgg305
 z233:=Tryz.sizeOf305
 v233:=Tryz.zeroValue305
 g15:=by kernel_rfl
 g16:=by kernel_rfl
 g17:=by kernel_rfl
 g18:=by kernel_rfl
 g19:=by kernel_rfl }
open Go.RowKit in
theorem Tryz.strconv_Atoi(s:ByteArray)(n:Int)(hl:s.size<=18)(h:Lib.atoi s.data.toList=some n)(w:World):Calls qEr 205 #[.string s] w λe w'=>e=.returned (.tuple #[.int .i64 n,.nilIface])/\∃ t,w'=Lib.bytesWorld w 5 t:=Any.strconv_Atoi Tryz.lays172 s n hl h w
def Tryz.laysC172_ren:Go.Shelf.Ren:=⟨fun | 172=>205 | 244=>218 | 245=>181 | 247=>225 | 279=>200 | 280=>201 | 281=>202 | 282=>203 | 287=>180 | 316=>215 | 171=>217 | 205=>216 | 321=>198 | 322=>199 | 243=>224 | 246=>227 | 283=>229 | 284=>230 | 285=>231 | 286=>232 | 129=>70 | 317=>234 | 318=>235 | 319=>236 | 320=>237 | 337=>238 | 338=>239 | n=>n,fun | 9=>9 | 3=>3 | 75=>198 | 76=>199 | 4=>4 | 5=>5 | 167=>262 | 37=>149 | 0=>0 | 85=>293 | 2=>2 | 168=>264 | 53=>121 | 175=>227 | 46=>112 | 210=>278 | 127=>226 | 145=>292 | 143=>290 | 21=>21 | 171=>296 | 173=>298 | 212=>302 | 51=>145 | 20=>20 | 213=>303 | 232=>304 | 233=>305 | 80=>163 | n=>n,fun | 15=>1 | 16=>2 | 17=>5 | 18=>6 | 19=>7 | n=>n⟩
theorem Tryz.laysC172:Go.Proofs.LaysC.n172 qEr Tryz.laysC172_ren:={
 mixed:=by kernel_rfl
 f129:=Tryz.func70.trans (congrArg some (by kernel_rfl))
 f171:=Tryz.func217.trans (congrArg some (by kernel_rfl))
 f172:=Tryz.func205.trans (congrArg some (by kernel_rfl))
 f205:=Tryz.func216.trans (congrArg some (by kernel_rfl))
 f243:=Tryz.func224.trans (congrArg some (by kernel_rfl))
 f244:=Tryz.func218.trans (congrArg some (by kernel_rfl))
 f245:=Tryz.func181.trans (congrArg some (by kernel_rfl))
 f246:=Tryz.func227.trans (congrArg some (by kernel_rfl))
 f247:=Tryz.func225.trans (congrArg some (by kernel_rfl))
 f279:=Tryz.func200.trans (congrArg some (by kernel_rfl))
 f280:=Tryz.func201.trans (congrArg some (by kernel_rfl))
 f281:=Tryz.func202.trans (congrArg some (by kernel_rfl))
 f282:=Tryz.func203.trans (congrArg some (by kernel_rfl))
 f283:=Tryz.func229.trans (congrArg some (by kernel_rfl))
 f284:=Tryz.func230.trans (congrArg some (by kernel_rfl))
 f285:=Tryz.func231.trans (congrArg some (by kernel_rfl))
 f286:=Tryz.func232.trans (congrArg some (by kernel_rfl))
 f287:=Tryz.func180.trans (congrArg some (by kernel_rfl))
 f316:=Tryz.func215.trans (congrArg some (by kernel_rfl))
 f317:=Tryz.func234.trans (congrArg some (by kernel_rfl))
 f318:=Tryz.func235.trans (congrArg some (by kernel_rfl))
 f319:=Tryz.func236.trans (congrArg some (by kernel_rfl))
 f320:=Tryz.func237.trans (congrArg some (by kernel_rfl))
 f321:=Tryz.func198.trans (congrArg some (by kernel_rfl))
 f322:=Tryz.func199.trans (congrArg some (by kernel_rfl))
 f337:=Tryz.func238.trans (congrArg some (by kernel_rfl))
 f338:=Tryz.func239.trans (congrArg some (by kernel_rfl))
 t0:=Tryz.underlying0
 a0:=Tryz.isAgg0
 z0:=Tryz.sizeOf0
 v0:=Tryz.zeroValue0
 t2:=Tryz.underlying2
 a2:=Tryz.isAgg2
 z2:=Tryz.sizeOf2
 v2:=Tryz.zeroValue2
 t3:=Tryz.underlying3
 a3:=Tryz.isAgg3
 z3:=Tryz.sizeOf3
 v3:=Tryz.zeroValue3
 t4:=Tryz.underlying4
 a4:=Tryz.isAgg4
 z4:=Tryz.sizeOf4
 v4:=Tryz.zeroValue4
 t5:=Tryz.underlying5
 a5:=Tryz.isAgg5
 z5:=Tryz.sizeOf5
 v5:=Tryz.zeroValue5
 t9:=Tryz.underlying9
 a9:=Tryz.isAgg9
 z9:=Tryz.sizeOf9
 v9:=Tryz.zeroValue9
 t20:=Tryz.underlying20
 a20:=Tryz.isAgg20
 z20:=Tryz.sizeOf20
 v20:=Tryz.zeroValue20
 t21:=Tryz.underlying21
 a21:=Tryz.isAgg21
 z21:=Tryz.sizeOf21
 v21:=Tryz.zeroValue21
 t37:=Tryz.underlying149
 a37:=Tryz.isAgg149
 z37:=Tryz.sizeOf149
 v37:=Tryz.zeroValue149
 t46:=Tryz.underlying112
 a46:=Tryz.isAgg112
 z46:=Tryz.sizeOf112
 v46:=Tryz.zeroValue112
 t51:=Tryz.underlying145
 a51:=Tryz.isAgg145
 z51:=Tryz.sizeOf145
 v51:=Tryz.zeroValue145
 t53:=Tryz.underlying121
 a53:=Tryz.isAgg121
 z53:=Tryz.sizeOf121
 v53:=Tryz.zeroValue121
 t75:=Tryz.underlying198
 a75:=Tryz.isAgg198
 z75:=Tryz.sizeOf198
 v75:=Tryz.zeroValue198
 t76:=Tryz.underlying199
 a76:=Tryz.isAgg199
 z76:=Tryz.sizeOf199
 v76:=Tryz.zeroValue199
 t85:=Tryz.underlying293
 a85:=Tryz.isAgg293
 z85:=Tryz.sizeOf293
 v85:=Tryz.zeroValue293
 t127:=Tryz.underlying226
 a127:=Tryz.isAgg226
 z127:=Tryz.sizeOf226
 v127:=Tryz.zeroValue226
 t143:=Tryz.underlying290
 a143:=Tryz.isAgg290
 z143:=Tryz.sizeOf290
 v143:=Tryz.zeroValue290
 t145:=Tryz.underlying292
 a145:=Tryz.isAgg292
 z145:=Tryz.sizeOf292
 v145:=Tryz.zeroValue292
 t167:=Tryz.underlying262
 a167:=Tryz.isAgg262
 z167:=Tryz.sizeOf262
 v167:=Tryz.zeroValue262
 t168:=Tryz.underlying264
 a168:=Tryz.isAgg264
 z168:=Tryz.sizeOf264
 v168:=Tryz.zeroValue264
 t171:=Tryz.underlying296
 a171:=Tryz.isAgg296
 z171:=Tryz.sizeOf296
 v171:=Tryz.zeroValue296
 t173:=Tryz.underlying298
 a173:=Tryz.isAgg298
 z173:=Tryz.sizeOf298
 v173:=Tryz.zeroValue298
 t175:=Tryz.underlying227
 a175:=Tryz.isAgg227
 z175:=Tryz.sizeOf227
 v175:=Tryz.zeroValue227
 t210:=Tryz.underlying278
 a210:=Tryz.isAgg278
 z210:=Tryz.sizeOf278
 v210:=Tryz.zeroValue278
 t212:=Tryz.underlying302
 a212:=Tryz.isAgg302
 z212:=Tryz.sizeOf302
 v212:=Tryz.zeroValue302
 t213:=Tryz.underlying303
 a213:=Tryz.isAgg303
 z213:=Tryz.sizeOf303
 t232:=Tryz.underlying304
 a232:=Tryz.isAgg304
 z232:=Tryz.sizeOf304
 v232:=Tryz.zeroValue304
 t233:=Tryz.underlying305
 a233:=Tryz.isAgg305
 z233:=Tryz.sizeOf305
 v233:=Tryz.zeroValue305
 g15:=by kernel_rfl
 g16:=by kernel_rfl
 g17:=by kernel_rfl
 g18:=by kernel_rfl
 g19:=by kernel_rfl
 t80:=Tryz.underlying163
 a80:=Tryz.isAgg163
 z80:=Tryz.sizeOf163
 v80:=Tryz.zeroValue163
 i0:=by kernel_rfl
 i2:=by kernel_rfl
 i3:=by kernel_rfl
 i4:=by kernel_rfl
 i5:=by kernel_rfl
 i9:=by kernel_rfl
 i20:=by kernel_rfl
 i21:=by kernel_rfl
 i37:=by kernel_rfl
 i46:=by kernel_rfl
 i51:=by kernel_rfl
 i53:=by kernel_rfl
 i75:=by kernel_rfl
 i76:=by kernel_rfl
 i80:=by kernel_rfl
 i85:=by kernel_rfl
 i127:=by kernel_rfl
 i143:=by kernel_rfl
 i145:=by kernel_rfl
 i167:=by kernel_rfl
 i168:=by kernel_rfl
 i171:=by kernel_rfl
 i173:=by kernel_rfl
 i175:=by kernel_rfl
 i210:=by kernel_rfl
 i212:=by kernel_rfl
 i232:=by kernel_rfl
 i233:=by kernel_rfl
 m15:=by kernel_rfl
 m16:=by kernel_rfl
 m17:=by kernel_rfl
 m18:=by kernel_rfl
 m19:=by kernel_rfl
 c0:=by kernel_rfl
 c2:=by kernel_rfl
 c3:=by kernel_rfl
 c4:=by kernel_rfl
 c5:=by kernel_rfl
 c9:=by kernel_rfl
 c20:=by kernel_rfl
 c21:=by kernel_rfl
 c37:=by kernel_rfl
 c46:=by kernel_rfl
 c51:=by kernel_rfl
 c53:=by kernel_rfl
 c75:=by kernel_rfl
 c76:=by kernel_rfl
 c80:=by kernel_rfl
 c85:=by kernel_rfl
 c127:=by kernel_rfl
 c143:=by kernel_rfl
 c145:=by kernel_rfl
 c167:=by kernel_rfl
 c168:=by kernel_rfl
 c171:=by kernel_rfl
 c173:=by kernel_rfl
 c175:=by kernel_rfl
 c210:=by kernel_rfl
 c212:=by kernel_rfl
 c213:=by kernel_rfl
 c232:=by kernel_rfl
 c233:=by kernel_rfl }
open Go.RowKit in
theorem Tryz.strconv_Atoi_err(s:ByteArray)(hl:s.size<=18)(h:Lib.atoi s.data.toList=none)(ev:Value)(w:World)(hv:w.cell? ⟨1,0,none⟩=some ev)(hev:ev=.nilIface\/∃ te pe,ev=.iface te pe):Calls qEr 205 #[.string s] w λe w'=>∃ N,e=.returned (.tuple #[.int .i64 0,.iface 264 (.pointer (some ⟨N,0,none⟩))])/\w.heap.size<=N/\w'.heap[N]?=some (.cells #[.string ⟨#[65,116,111,105]⟩,.string s,ev] 278 (0,0))/\Below w.heap.size w w':=Any.strconv_Atoi_err Tryz.laysC172 s hl h ev w hv hev
def Tryz.laysPu14_ren:Go.Shelf.Ren:=⟨fun | 14=>145 | 16=>180 | 17=>181 | 19=>198 | 20=>199 | 21=>200 | 22=>201 | 23=>202 | 24=>203 | 25=>215 | 27=>217 | 26=>216 | 28=>224 | 29=>227 | 30=>229 | 31=>230 | 32=>231 | 33=>232 | 35=>70 | 34=>234 | 36=>235 | 37=>236 | 38=>237 | 39=>238 | 40=>239 | n=>n,fun | 9=>9 | 3=>3 | 22=>121 | 24=>198 | 25=>227 | 4=>4 | 34=>262 | 5=>5 | 36=>112 | 37=>149 | 0=>0 | 39=>264 | 21=>21 | 44=>278 | 47=>226 | 50=>292 | 48=>290 | 2=>2 | 52=>296 | 55=>298 | 59=>302 | 60=>145 | 20=>20 | 61=>303 | 65=>304 | 66=>305 | 67=>163 | n=>n,fun | 0=>1 | 1=>2 | 2=>5 | 3=>6 | 4=>7 | n=>n⟩
theorem Tryz.laysPu14:Go.Proofs.LaysPu.n14 qEr Tryz.laysPu14_ren:={
 mixed:=by kernel_rfl
 f14:=Tryz.func145.trans (congrArg some (by kernel_rfl))
 f16:=Tryz.func180.trans (congrArg some (by kernel_rfl))
 f17:=Tryz.func181.trans (congrArg some (by kernel_rfl))
 f19:=Tryz.func198.trans (congrArg some (by kernel_rfl))
 f20:=Tryz.func199.trans (congrArg some (by kernel_rfl))
 f21:=Tryz.func200.trans (congrArg some (by kernel_rfl))
 f22:=Tryz.func201.trans (congrArg some (by kernel_rfl))
 f23:=Tryz.func202.trans (congrArg some (by kernel_rfl))
 f24:=Tryz.func203.trans (congrArg some (by kernel_rfl))
 f25:=Tryz.func215.trans (congrArg some (by kernel_rfl))
 f26:=Tryz.func216.trans (congrArg some (by kernel_rfl))
 f27:=Tryz.func217.trans (congrArg some (by kernel_rfl))
 f28:=Tryz.func224.trans (congrArg some (by kernel_rfl))
 f29:=Tryz.func227.trans (congrArg some (by kernel_rfl))
 f30:=Tryz.func229.trans (congrArg some (by kernel_rfl))
 f31:=Tryz.func230.trans (congrArg some (by kernel_rfl))
 f32:=Tryz.func231.trans (congrArg some (by kernel_rfl))
 f33:=Tryz.func232.trans (congrArg some (by kernel_rfl))
 f34:=Tryz.func234.trans (congrArg some (by kernel_rfl))
 f35:=Tryz.func70.trans (congrArg some (by kernel_rfl))
 f36:=Tryz.func235.trans (congrArg some (by kernel_rfl))
 f37:=Tryz.func236.trans (congrArg some (by kernel_rfl))
 f38:=Tryz.func237.trans (congrArg some (by kernel_rfl))
 f39:=Tryz.func238.trans (congrArg some (by kernel_rfl))
 f40:=Tryz.func239.trans (congrArg some (by kernel_rfl))
 t0:=Tryz.underlying0
 a0:=Tryz.isAgg0
 z0:=Tryz.sizeOf0
 v0:=Tryz.zeroValue0
 i0:=by kernel_rfl
 t2:=Tryz.underlying2
 a2:=Tryz.isAgg2
 z2:=Tryz.sizeOf2
 v2:=Tryz.zeroValue2
 i2:=by kernel_rfl
 t3:=Tryz.underlying3
 a3:=Tryz.isAgg3
 z3:=Tryz.sizeOf3
 v3:=Tryz.zeroValue3
 i3:=by kernel_rfl
 t4:=Tryz.underlying4
 a4:=Tryz.isAgg4
 z4:=Tryz.sizeOf4
 v4:=Tryz.zeroValue4
 i4:=by kernel_rfl
 t5:=Tryz.underlying5
 a5:=Tryz.isAgg5
 z5:=Tryz.sizeOf5
 v5:=Tryz.zeroValue5
 i5:=by kernel_rfl
 t9:=Tryz.underlying9
 a9:=Tryz.isAgg9
 z9:=Tryz.sizeOf9
 v9:=Tryz.zeroValue9
 i9:=by kernel_rfl
 t20:=Tryz.underlying20
 a20:=Tryz.isAgg20
 z20:=Tryz.sizeOf20
 v20:=Tryz.zeroValue20
 i20:=by kernel_rfl
 t21:=Tryz.underlying21
 a21:=Tryz.isAgg21
 z21:=Tryz.sizeOf21
 v21:=Tryz.zeroValue21
 i21:=by kernel_rfl
 t22:=Tryz.underlying121
 a22:=Tryz.isAgg121
 z22:=Tryz.sizeOf121
 v22:=Tryz.zeroValue121
 i22:=by kernel_rfl
 t24:=Tryz.underlying198
 a24:=Tryz.isAgg198
 z24:=Tryz.sizeOf198
 v24:=Tryz.zeroValue198
 i24:=by kernel_rfl
 t25:=Tryz.underlying227
 a25:=Tryz.isAgg227
 z25:=Tryz.sizeOf227
 v25:=Tryz.zeroValue227
 i25:=by kernel_rfl
 t34:=Tryz.underlying262
 a34:=Tryz.isAgg262
 z34:=Tryz.sizeOf262
 v34:=Tryz.zeroValue262
 i34:=by kernel_rfl
 c34:=by kernel_rfl
 t36:=Tryz.underlying112
 a36:=Tryz.isAgg112
 z36:=Tryz.sizeOf112
 v36:=Tryz.zeroValue112
 i36:=by kernel_rfl
 t37:=Tryz.underlying149
 a37:=Tryz.isAgg149
 z37:=Tryz.sizeOf149
 v37:=Tryz.zeroValue149
 i37:=by kernel_rfl
 t39:=Tryz.underlying264
 a39:=Tryz.isAgg264
 z39:=Tryz.sizeOf264
 v39:=Tryz.zeroValue264
 i39:=by kernel_rfl
 t44:=Tryz.underlying278
 a44:=Tryz.isAgg278
 z44:=Tryz.sizeOf278
 v44:=Tryz.zeroValue278
 i44:=by kernel_rfl
 t47:=Tryz.underlying226
 a47:=Tryz.isAgg226
 z47:=Tryz.sizeOf226
 v47:=Tryz.zeroValue226
 i47:=by kernel_rfl
 t48:=Tryz.underlying290
 a48:=Tryz.isAgg290
 z48:=Tryz.sizeOf290
 v48:=Tryz.zeroValue290
 i48:=by kernel_rfl
 t50:=Tryz.underlying292
 a50:=Tryz.isAgg292
 z50:=Tryz.sizeOf292
 v50:=Tryz.zeroValue292
 i50:=by kernel_rfl
 t52:=Tryz.underlying296
 a52:=Tryz.isAgg296
 z52:=Tryz.sizeOf296
 v52:=Tryz.zeroValue296
 i52:=by kernel_rfl
 t55:=Tryz.underlying298
 a55:=Tryz.isAgg298
 z55:=Tryz.sizeOf298
 v55:=Tryz.zeroValue298
 i55:=by kernel_rfl
 t59:=Tryz.underlying302
 a59:=Tryz.isAgg302
 z59:=Tryz.sizeOf302
 v59:=Tryz.zeroValue302
 i59:=by kernel_rfl
 t60:=Tryz.underlying145
 a60:=Tryz.isAgg145
 z60:=Tryz.sizeOf145
 v60:=Tryz.zeroValue145
 i60:=by kernel_rfl
 t61:=Tryz.underlying303
 a61:=Tryz.isAgg303
 z61:=Tryz.sizeOf303
 t65:=Tryz.underlying304
 a65:=Tryz.isAgg304
 z65:=Tryz.sizeOf304
 v65:=Tryz.zeroValue304
 i65:=by kernel_rfl
 t66:=Tryz.underlying305
 a66:=Tryz.isAgg305
 z66:=Tryz.sizeOf305
 v66:=Tryz.zeroValue305
 i66:=by kernel_rfl
 t67:=Tryz.underlying163
 a67:=Tryz.isAgg163
 z67:=Tryz.sizeOf163
 v67:=Tryz.zeroValue163
 i67:=by kernel_rfl
 g0:=by kernel_rfl
 m0:=by kernel_rfl
 g1:=by kernel_rfl
 m1:=by kernel_rfl
 g2:=by kernel_rfl
 m2:=by kernel_rfl
 g3:=by kernel_rfl
 m3:=by kernel_rfl
 g4:=by kernel_rfl
 m4:=by kernel_rfl }
open Go.RowKit in
theorem Tryz.strconv_ParseUint_10_at64_ok(s:ByteArray)(hmax:s.size<=9223372036854775806)(u:Nat)(h:Lib.parseUintB 64 s.data.toList=.ok u)(w:World):Calls qEr 145 #[.string s,.int .i64 10,.int .i64 64] w λe w'=>e=.returned (.tuple #[.int .u64 u,.nilIface])/\(w'=w\/w'=Lib.bytesWorld w 5 s):=Any.strconv_ParseUint_10_at64_ok Tryz.laysPu14 s hmax u h w
open Go.RowKit in
theorem Tryz.strconv_ParseUint_10_at64_syntax(s:ByteArray)(hlim:s.size<=281474976710656)(h:Lib.parseUintB 64 s.data.toList=.syntax)(ev:Value)(w:World)(hv:w.cell? ⟨1,0,none⟩=some ev)(hev:ev=.nilIface\/∃ te pe,ev=.iface te pe):Calls qEr 145 #[.string s,.int .i64 10,.int .i64 64] w λe w'=>∃ N,e=.returned (.tuple #[.int .u64 0,.iface 264 (.pointer (some ⟨N,0,none⟩))])/\w.heap.size<=N/\w'.heap[N]?=some (.cells #[.string ⟨#[80,97,114,115,101,85,105,110,116]⟩,.string s,ev] 278 (0,0))/\Below w.heap.size w w':=Any.strconv_ParseUint_10_at64_syntax Tryz.laysPu14 s hlim h ev w hv hev
open Go.RowKit in
theorem Tryz.strconv_ParseUint_10_at64_range(s:ByteArray)(hlim:s.size<=281474976710656)(h:Lib.parseUintB 64 s.data.toList=.range)(ev:Value)(w:World)(hv:w.cell? ⟨2,0,none⟩=some ev)(hev:ev=.nilIface\/∃ te pe,ev=.iface te pe):Calls qEr 145 #[.string s,.int .i64 10,.int .i64 64] w λe w'=>∃ N,e=.returned (.tuple #[.int .u64 18446744073709551615,.iface 264 (.pointer (some ⟨N,0,none⟩))])/\w.heap.size<=N/\w'.heap[N]?=some (.cells #[.string ⟨#[80,97,114,115,101,85,105,110,116]⟩,.string s,ev] 278 (0,0))/\Below w.heap.size w w':=Any.strconv_ParseUint_10_at64_range Tryz.laysPu14 s hlim h ev w hv hev
def Tryz.lays145_ren:Go.Shelf.Ren:=⟨fun | 145=>212 | 220=>222 | 219=>226 | 217=>108 | 225=>186 | 224=>185 | 267=>228 | 266=>128 | 314=>233 | n=>n,fun | 9=>9 | 4=>4 | 59=>272 | 3=>3 | 5=>5 | 46=>112 | 146=>300 | 51=>145 | n=>n,fun | 1=>0 | n=>n⟩
theorem Tryz.lays145:Go.Proofs.Lays.n145 qEr Tryz.lays145_ren:={
 mixed:=by kernel_rfl
 f145:=Tryz.func212.trans (congrArg some (by kernel_rfl))
 f217:=Tryz.func108.trans (congrArg some (by kernel_rfl))
 f219:=Tryz.func226.trans (congrArg some (by kernel_rfl))
 f220:=Tryz.func222.trans (congrArg some (by kernel_rfl))
 f224:=Tryz.func185.trans (congrArg some (by kernel_rfl))
 f225:=Tryz.func186.trans (congrArg some (by kernel_rfl))
 f266:=Tryz.func128.trans (congrArg some (by kernel_rfl))
 f267:=Tryz.func228.trans (congrArg some (by kernel_rfl))
 f314:=Tryz.func233.trans (congrArg some (by kernel_rfl))
 t3:=Tryz.underlying3
 a3:=Tryz.isAgg3
 z3:=Tryz.sizeOf3
 v3:=Tryz.zeroValue3
 t4:=Tryz.underlying4
 a4:=Tryz.isAgg4
 z4:=Tryz.sizeOf4
 v4:=Tryz.zeroValue4
 t5:=Tryz.underlying5
 a5:=Tryz.isAgg5
 z5:=Tryz.sizeOf5
 v5:=Tryz.zeroValue5
 t9:=Tryz.underlying9
 a9:=Tryz.isAgg9
 z9:=Tryz.sizeOf9
 v9:=Tryz.zeroValue9
 t46:=Tryz.underlying112
 a46:=Tryz.isAgg112
 z46:=Tryz.sizeOf112
 v46:=Tryz.zeroValue112
 t51:=Tryz.underlying145
 a51:=Tryz.isAgg145
 z51:=Tryz.sizeOf145
 v51:=Tryz.zeroValue145
 t59:=Tryz.underlying272
 a59:=Tryz.isAgg272
 z59:=Tryz.sizeOf272
 v59:=Tryz.zeroValue272
 t146:=Tryz.underlying300
 a146:=Tryz.isAgg300
 z146:=Tryz.sizeOf300
 v146:=Tryz.zeroValue300
 g1:=by kernel_rfl }
open Go.RowKit Go.Lib in
theorem Tryz.strings_Cut(s sep:ByteArray)(m:Int)(w:World)(hs:s.size<4294967281)(hm:w.cell? ⟨0,0,none⟩=some (.int .i64 m)):Calls qEr 212 #[.string s,.string sep] w λe w'=>e=.returned (.tuple #[.string ⟨(Lib.cut s.data.toList sep.data.toList).1.toArray⟩,.string ⟨(Lib.cut s.data.toList sep.data.toList).2.1.toArray⟩,.bool (Lib.cut s.data.toList sep.data.toList).2.2])/\∃ n,w'=w.drewN n:=Any.strings_Cut Tryz.lays145 s sep m w hs hm
def Tryz.lays150_ren:Go.Shelf.Ren:=⟨fun | 150=>115 | 153=>135 | 152=>152 | 226=>153 | 227=>131 | 228=>149 | 137=>81 | 119=>184 | 224=>185 | 225=>186 | 217=>108 | 266=>128 | n=>n,fun | 9=>9 | 4=>4 | 3=>3 | 5=>5 | 21=>21 | 117=>205 | 116=>204 | 0=>0 | 46=>112 | 124=>208 | n=>n,fun | n=>n⟩
theorem Tryz.lays150:Go.Proofs.Lays.n150 qEr Tryz.lays150_ren:={
 mixed:=by kernel_rfl
 f119:=Tryz.func184.trans (congrArg some (by kernel_rfl))
 f137:=Tryz.func81.trans (congrArg some (by kernel_rfl))
 f150:=Tryz.func115.trans (congrArg some (by kernel_rfl))
 f152:=Tryz.func152.trans (congrArg some (by kernel_rfl))
 f153:=Tryz.func135.trans (congrArg some (by kernel_rfl))
 f217:=Tryz.func108.trans (congrArg some (by kernel_rfl))
 f224:=Tryz.func185.trans (congrArg some (by kernel_rfl))
 f225:=Tryz.func186.trans (congrArg some (by kernel_rfl))
 f226:=Tryz.func153.trans (congrArg some (by kernel_rfl))
 f227:=Tryz.func131.trans (congrArg some (by kernel_rfl))
 f228:=Tryz.func149.trans (congrArg some (by kernel_rfl))
 f266:=Tryz.func128.trans (congrArg some (by kernel_rfl))
 t0:=Tryz.underlying0
 a0:=Tryz.isAgg0
 z0:=Tryz.sizeOf0
 v0:=Tryz.zeroValue0
 t3:=Tryz.underlying3
 a3:=Tryz.isAgg3
 z3:=Tryz.sizeOf3
 v3:=Tryz.zeroValue3
 t4:=Tryz.underlying4
 a4:=Tryz.isAgg4
 z4:=Tryz.sizeOf4
 v4:=Tryz.zeroValue4
 t5:=Tryz.underlying5
 a5:=Tryz.isAgg5
 z5:=Tryz.sizeOf5
 v5:=Tryz.zeroValue5
 t9:=Tryz.underlying9
 a9:=Tryz.isAgg9
 z9:=Tryz.sizeOf9
 v9:=Tryz.zeroValue9
 t21:=Tryz.underlying21
 a21:=Tryz.isAgg21
 z21:=Tryz.sizeOf21
 v21:=Tryz.zeroValue21
 t46:=Tryz.underlying112
 a46:=Tryz.isAgg112
 z46:=Tryz.sizeOf112
 v46:=Tryz.zeroValue112
 t116:=Tryz.underlying204
 a116:=Tryz.isAgg204
 z116:=Tryz.sizeOf204
 t117:=Tryz.underlying205
 a117:=Tryz.isAgg205
 z117:=Tryz.sizeOf205
 v117:=Tryz.zeroValue205
 t124:=Tryz.underlying208
 a124:=Tryz.isAgg208
 z124:=Tryz.sizeOf208
 v124:=Tryz.zeroValue208 }
def Tryz.lays194_ren:Go.Shelf.Ren:=⟨fun | 194=>27 | n=>n,fun | 31=>32 | 9=>9 | 3=>3 | 4=>4 | 0=>0 | n=>n,fun | n=>n⟩
theorem Tryz.lays194:Go.Proofs.Lays.n194 qEr Tryz.lays194_ren:={
 mixed:=by kernel_rfl
 f194:=Tryz.func27.trans (congrArg some (by kernel_rfl))
 t0:=Tryz.underlying0
 a0:=Tryz.isAgg0
 z0:=Tryz.sizeOf0
 v0:=Tryz.zeroValue0
 t3:=Tryz.underlying3
 a3:=Tryz.isAgg3
 z3:=Tryz.sizeOf3
 v3:=Tryz.zeroValue3
 t4:=Tryz.underlying4
 a4:=Tryz.isAgg4
 z4:=Tryz.sizeOf4
 v4:=Tryz.zeroValue4
 t9:=Tryz.underlying9
 a9:=Tryz.isAgg9
 z9:=Tryz.sizeOf9
 v9:=Tryz.zeroValue9
 t31:=Tryz.underlying32
 a31:=Tryz.isAgg32
 z31:=Tryz.sizeOf32
 v31:=Tryz.zeroValue32 }
open Go.RowKit Go.Lib Go.Sort in
theorem Tryz.slices_Compact_string(blk off cap:Nat)(zs:List (List UInt8))(w:World)(hH:Holds encStr w blk off zs.toArray)(hsz:zs.length<=9223372036854775807)(hcap:zs.length<=cap):Calls qEr 27 #[.slice (some ⟨blk,off,none⟩) zs.length cap] w λe w'=>e=.returned (.slice (some ⟨blk,off,none⟩) (Lib.compact zs).length cap)/\∃ q,w'=putRow encStr (Sort.ahead w q) blk off (Lib.compact zs++List.replicate (zs.length-(Lib.compact zs).length) []).toArray:=Any.slices_Compact_string Tryz.lays194 blk off cap zs w hH hsz hcap
open Go.RowKit Go.Lib Go.Sort in
theorem Tryz.slices_Compact_string_empty(a:Option Addr)(cap:Nat)(w:World):Calls qEr 27 #[.slice a 0 cap] w λe w'=>e=.returned (.slice a 0 cap)/\w'=w:=Any.slices_Compact_string_empty Tryz.lays194 a cap w
end Go.Proofs
namespace Go.Dec
open Go.Proofs Go.RowKit Go.Sort Go.Lib
abbrev zLw:List Ty:=[.str,.str]
abbrev zLx:List Ty:=[.str,.str,.bool]
abbrev lG:List Ty:=[.str,.int .u8]
abbrev lH:List Ty:=[.int .i64]
theorem Xc{w w':World}(h:Below w.heap.size w w'):Keep (λ_ _=>False) w w':=Keep.mZ (M:=λ_=>False) h.size (λb hb _=>h.block b hb) (λ_ _ h=>h)
theorem yKe{w:World}(hG:Glob qEr w):∃ m:Int,w.cell? ⟨0,0,none⟩=some (.int .i64 m):=
 hG 0 (qEr.globals[0]'(by decide +kernel)) (by rw[qEx]) (.int .i64) (by kernel_rfl)
theorem zSi(n:Nat):Pure qEr 212 zLw zLx (strings_Cut n):=by
 refine⟨by kernel_rfl,λx y hF w N xs hG _ hx=>?_⟩;obtain⟨hc,hy⟩:=iP hF;have hc:=of_decide_eq_true hc;obtain rfl:=qBc hy;obtain⟨u,us,rfl,h1,v,rfl,h2⟩:=hx;simp only[Ty.bW,Ty.isAgg,qBs,if_false,Ty.Rel,aL,and_true]at h1 h2;subst h1 h2;obtain⟨m,hm⟩:=yKe hG;refine(Tryz.strings_Cut _ _ m w (by simpa [ByteArray.size]using hc) hm).mono ?_;rintro e w' ⟨rfl,k,rfl⟩;refine⟨[_,_,_],rfl,rfl,rfl,rfl,Keep.mZ (M:=λ_=>False) (aS _) (λ_ _ _=>rfl) (λ_ _ h=>h),⟨_,_,rfl,?_,_,_,rfl,?_,_,rfl,?_⟩⟩<;>simp[Ty.bW,Ty.isAgg,Ty.Rel]
theorem kF(n:Nat):Pure qEr 81 lG lH (strings_IndexByte n):=by
 refine⟨by kernel_rfl,λx y hF w N xs hG _ hx=>?_⟩;obtain rfl:=qBc hF;obtain⟨u,us,rfl,h1,v,rfl,h2⟩:=hx;simp only[Ty.bW,Ty.isAgg,qBs,if_false,Ty.Rel,aL,and_true]at h1 h2;subst h1 h2;refine(Tryz.strings_IndexByte _ _ w).mono ?_;rintro e w' ⟨rfl,rfl⟩;exact⟨[_],rfl,rfl,rfl,rfl,Keep.refl _ _,_,rfl,by simp[Ty.bW,Ty.isAgg,Ty.Rel]⟩
end Go.Dec
namespace Go.Dec
open Go.Proofs Go.RowKit Go.Sort Go.Lib
abbrev zJc:List Ty:=[.str]
abbrev zJd:List Ty:=[.int .i64,.err]
theorem zFd{w:World}(hG:Glob qEr w):∃ v,w.cell? ⟨1,0,none⟩=some v/\(v=.nilIface\/∃ te pe,v=.iface te pe):=
 hG 1 (qEr.globals[1]'(by decide +kernel)) (by rw[qEx]) .any (by kernel_rfl)
theorem zVs:∀ (l:List UInt8) (acc:Nat),l.all isDigit=true->Go.Lib.decFrom acc l=some (l.foldl (λa c=>a*10+(c.toNat-48)) acc)
 |[],acc,_=>rfl
 |c::l,acc,h=>by
  simp only[List.all_cons,aD]at h;have hd:Go.Lib.digitVal c=some (c.toNat-48):=by
   unfold Go.Lib.digitVal;rw[if_pos];simpa [isDigit]using h.1
  simp only[Go.Lib.decFrom,hd,List.foldl_cons];exact zVs l _ h.2
theorem xDg{c:UInt8}{l:List UInt8}(h:(c::l).all isDigit=true):Go.Lib.atoi (c::l)=some ((yPc (c::l):Nat):Int):=by
 have hc:isDigit c=true:=by simp only[List.all_cons,aD]at h;exact h.1
 have hc2:48<=c.toNat/\c.toNat<=57:=by simpa [isDigit]using hc
 have h1:(c==45)=false:=by rw[beq_eq_false_iff_ne];intro e;subst e;revert hc2;decide
 have h2:(c==43)=false:=by rw[beq_eq_false_iff_ne];intro e;subst e;revert hc2;decide
 simp only[Go.Lib.atoi,h1,h2,qBs,if_false,Go.Lib.decNat,List.isEmpty_cons,zVs _ _ h,Option.map_some];rfl
theorem zOv(n:Nat):Pure qEr 205 zJc zJd (strconv_Atoi n):=by
 refine⟨by kernel_rfl,λx y hF w N vs hG _ hx=>?_⟩;obtain⟨hc,hy⟩:=iP hF;simp only[aD]at hc;have hc1:=bX hc.1;obtain⟨u,rfl,h1⟩:=hx;simp only[Ty.bW,Ty.isAgg,qBs,if_false,Ty.Rel,aL,and_true]at h1;subst h1;cases x with
 |nil =>
  obtain rfl:=qBc hy;obtain⟨ev,hv,hev⟩:=zFd hG;refine(Tryz.strconv_Atoi_err ⟨#[]⟩ (by decide) rfl ev w hv hev).mono ?_;rintro e w' ⟨N',rfl,_,_,hb⟩;exact⟨[_,_],rfl,hb.os,hb.tape,hb.output,Xc hb,_,_,rfl,by simp[Ty.bW,Ty.isAgg,Ty.Rel],_,rfl,by simp[Ty.bW,Ty.isAgg,Ty.Rel]⟩
 |cons c l =>
  obtain rfl:=qBc hy;refine(Tryz.strconv_Atoi ⟨(c::l).toArray⟩ _ (by simpa [ByteArray.size]using hc1) (by simpa using xDg hc.2) w).mono ?_;rintro e w' ⟨rfl,t,rfl⟩;refine⟨[_,_],rfl,rfl,rfl,rfl,Keep.mZ (M:=λ_=>False) (by rw[Go.Lib.bytesWorld_size];omega) (λb hb _=>Go.Lib.bytesWorld_at_old _ _ _ b hb) (λ_ _ h=>h),_,_,rfl,by simp[Ty.bW,Ty.isAgg,Ty.Rel],_,rfl,by simp[Ty.bW,Ty.isAgg,Ty.Rel]⟩
end Go.Dec
namespace Go.Dec
open Go.Proofs Go.RowKit Go.Sort Go.Lib
abbrev Tq:List Ty:=[.str,.int .i64,.int .i64]
abbrev Tt:List Ty:=[.int .u64,.err]
theorem yBy{w:World}(hG:Glob qEr w):∃ v,w.cell? ⟨2,0,none⟩=some v/\(v=.nilIface\/∃ te pe,v=.iface te pe):=
 hG 2 (qEr.globals[2]'(by decide +kernel)) (by rw[qEx]) .any (by kernel_rfl)
theorem zDf(n:Nat):Pure qEr 145 Tq Tt (uO n):=by
 refine⟨by kernel_rfl,λx y hF w N vs hG _ hx=>?_⟩;obtain⟨x,b,k⟩:=x;obtain⟨hc,hy⟩:=iP hF;simp only[aD,beq_iff_eq]at hc;obtain⟨rfl,rfl,hc⟩:=hc;have hc1:=bX hc;obtain⟨u,us,rfl,h1,u2,us2,rfl,h2,u3,rfl,h3⟩:=hx;simp only[Ty.bW,Ty.isAgg,qBs,if_false,Ty.Rel,aL,and_true]at h1 h2 h3;subst h1 h2 h3;obtain rfl:=qBc hy;have hs:(⟨x.toArray⟩:ByteArray).data.toList=x:=by simp
 have hz:(⟨x.toArray⟩:ByteArray).size=x.length:=by simp[ByteArray.size]
 unfold yTk;cases ha:Go.Lib.parseUintB 64 x with
 |ok v =>
  refine(Tryz.strconv_ParseUint_10_at64_ok ⟨x.toArray⟩ (by rw[hz];omega) v (by rw[hs];exact ha) w).mono ?_;rintro e w' ⟨rfl,rfl|rfl⟩
  ·exact⟨[_,_],rfl,rfl,rfl,rfl,Keep.refl _ _,_,_,rfl,by simp[Ty.bW,Ty.isAgg,Ty.Rel],_,rfl,by simp[Ty.bW,Ty.isAgg,Ty.Rel]⟩
  ·exact⟨[_,_],rfl,rfl,rfl,rfl,Keep.mZ (M:=λ_=>False) (by rw[Go.Lib.bytesWorld_size];omega) (λb hb _=>Go.Lib.bytesWorld_at_old _ _ _ b hb) (λ_ _ h=>h),_,_,rfl,by simp[Ty.bW,Ty.isAgg,Ty.Rel],_,rfl,by simp[Ty.bW,Ty.isAgg,Ty.Rel]⟩
 |range =>
  obtain⟨ev,hv,hev⟩:=yBy hG;refine(Tryz.strconv_ParseUint_10_at64_range ⟨x.toArray⟩ (by rw[hz];omega) (by rw[hs];exact ha) ev w hv hev).mono ?_;rintro e w' ⟨N',rfl,_,_,hb⟩;exact⟨[_,_],rfl,hb.os,hb.tape,hb.output,Xc hb,_,_,rfl,by simp[Ty.bW,Ty.isAgg,Ty.Rel],_,rfl,by simp[Ty.bW,Ty.isAgg,Ty.Rel]⟩
 |_ =>
  obtain⟨ev,hv,hev⟩:=zFd hG;refine(Tryz.strconv_ParseUint_10_at64_syntax ⟨x.toArray⟩ (by rw[hz];omega) (by rw[hs];exact ha) ev w hv hev).mono ?_;rintro e w' ⟨N',rfl,_,_,hb⟩;exact⟨[_,_],rfl,hb.os,hb.tape,hb.output,Xc hb,_,_,rfl,by simp[Ty.bW,Ty.isAgg,Ty.Rel],_,rfl,by simp[Ty.bW,Ty.isAgg,Ty.Rel]⟩
end Go.Dec
namespace Go.Dec
section
variable {P:Program}{f:FuncId}{si so:Sh}
def xJo(j:Nat)(vs:List V)(h:List Ob):Option (Nat × TypeId × List L × Nat × Nat):=
 match vs with
 |.one (.ptr rid 0)::_=>match h[rid]? with
  |some (.box e ls)=>match ls[j]? with
   |some (.own sid u)=>some (rid,e,ls,sid,u)
   |_=>none
  |_=>none
 |_=>none
def xGv{ρ:Type}(off j:Nat)(si so:Sh)(F:si.X->Option so.X)(vs:List V)(h:List Ob)(k:Out->List Ob->Option ρ):Option ρ :=
 match xJo j vs h with
 |some (rid,e,ls,sid,u)=>
  let h1:=h.set rid (.box e (ls.set j (.bad 1)))
  match si.dec ⟨vs.map (V.ren (reach vs h1) h1),inH (reach vs h1) h1⟩with
  |some x=>chk (zEp (reach vs h1) h1 si so&&(Nat.beq (sizes (ls.take j)) off&&yQj rid (reach vs h1))) (ob (F x) λy =>
   match (gD (reach vs h1) h1 (so.enc y).h)[rid]? with
   |some (.box e' ls')=>match ls'[j]? with
    |some (.bad 1)=>match Nat.beq (sizes (ls'.take j)) off with
     |true=>k (.ret (zYh ((so.enc y).r.map (V.back (lS (reach vs h1) h1.length) (jX (reach vs h1) h1))))) ((gD (reach vs h1) h1 (so.enc y).h).set rid (.box e' (ls'.set j (.own sid u))))
     |false=>none
    |_=>none
   |_=>none)
  |none=>none
 |none=>none
where
 yQj (rid:Nat):List Nat->Bool
  |a::_=>Nat.beq a rid
  |[]=>false
def xGw{ρ:Type}(si so:Sh)(F:si.X->Option so.X)(vs:List V)(h:List Ob)(k:Out->List Ob->Option ρ):Option ρ :=
 match (peM si so F).run vs h with
 |some (c,o)=>chk c (ob o λy=>k (.ret ((peM si so F).enc y vs h).1) ((peM si so F).enc y vs h).2)
 |none=>none
def geM {ρ:Type} (f:FuncId) (si so:Sh) (F:si.X->Option so.X):GE ρ := { f:=f,run:=xGw si so F }
theorem xGx{ρ:Type}{F:si.X->Option so.X}(h:dV P f si so F):(geM (ρ:=ρ) f si so F).OK P:=⟨λvs hp k r hr=>by
 simp only[geM,xGw]at hr;split at hr
 ·rename_i c o hrun;obtain⟨rfl,hr⟩:=iP hr;obtain⟨y,rfl,hr⟩:=zNs hr;refine⟨h.1,((bF h).rel vs hp y hrun).mono ?_⟩;rintro o' h' ⟨rfl,rfl⟩;exact⟨hr,λid hid hn=>Sc hid hn⟩
 ·cases hr⟩
end
end Go.Dec
