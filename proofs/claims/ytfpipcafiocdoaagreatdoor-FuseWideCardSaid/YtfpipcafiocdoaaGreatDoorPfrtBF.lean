/- Part of a proof over this seat: a library of my own, and what it says of this seat. No statement is proved here. -/
import Derived.Shelf.SlIter.Nil
import Derived.Shelf.SortM.Plain
import Derived.Shelf.SortM.SortNone
import Derived.Ground.GgzProg
import Derived.Ground.SlgmProg
import Derived.Test.YtfpipcafiocdoaaGreatDoorProg
import Derived.Test.YtfpipcafiocdoaaGreatDoorPfrtBB
import Derived.Test.YtfpipcafiocdoaaGreatDoorPfrtAW
namespace Go.Proofs
open Go.Shelf
def Tryz.keysA_ren:Go.Shelf.Ren:=⟨fun | 7=>242 | 10=>284 | n=>n,fun | 23=>124 | 26=>9 | 3=>3 | 28=>305 | 0=>0 | 27=>304 | 33=>161 | 4=>4 | n=>n,fun | n=>n⟩
theorem Tryz.keysA:Go.Proofs.SlLaysZ.n7 Tryz.prog Tryz.keysA_ren:={
 mixed:=by kernel_rfl
 f7:=⟨Tryz.f242.name,by decide,Tryz.func242.trans (congrArg some (by kernel_rfl))⟩
 f10:=⟨Tryz.f284.name,by decide,Tryz.func284.trans (congrArg some (by kernel_rfl))⟩
 t0:=Tryz.underlying0
 a0:=Tryz.isAgg0
 z0:=Tryz.sizeOf0
 v0:=Tryz.zeroValue0
 t4:=Tryz.underlying4
 a4:=Tryz.isAgg4
 z4:=Tryz.sizeOf4
 v4:=Tryz.zeroValue4
 t23:=Tryz.underlying124
 a23:=Tryz.isAgg124
 z23:=Tryz.sizeOf124
 v23:=Tryz.zeroValue124
 t26:=Tryz.underlying9
 a26:=Tryz.isAgg9
 z26:=Tryz.sizeOf9
 v26:=Tryz.zeroValue9
 t27:=Tryz.underlying304
 a27:=Tryz.isAgg304
 z27:=Tryz.sizeOf304
 v27:=Tryz.zeroValue304
 t28:=Tryz.underlying305
 a28:=Tryz.isAgg305
 z28:=Tryz.sizeOf305
 v28:=Tryz.zeroValue305
 t33:=Tryz.underlying161
 a33:=Tryz.isAgg161
 z33:=Tryz.sizeOf161
 v33:=Tryz.zeroValue161 }
def Tryz.sortedA_ren:Go.Shelf.Ren:=⟨fun | 6=>241 | 8=>283 | 9=>190 | 11=>323 | 13=>244 | 12=>243 | 23=>294 | 24=>295 | 14=>285 | 15=>286 | 16=>287 | 17=>288 | 18=>289 | 19=>290 | 20=>291 | 21=>292 | 22=>293 | 25=>324 | 26=>325 | 27=>326 | 28=>327 | 29=>328 | 30=>329 | 31=>363 | n=>n,fun | 26=>9 | 28=>305 | 24=>33 | 0=>0 | 3=>3 | 37=>224 | 48=>256 | 50=>180 | 4=>4 | 40=>345 | 39=>344 | 45=>166 | 5=>5 | 9=>9 | 51=>385 | 55=>389 | 57=>411 | 58=>412 | 33=>161 | n=>n,fun | n=>n⟩
theorem Tryz.sortedA:Go.Proofs.SlLaysZ.n6 Tryz.prog Tryz.sortedA_ren:={
 mixed:=by kernel_rfl
 f6:=⟨Tryz.f241.name,by decide,Tryz.func241.trans (congrArg some (by kernel_rfl))⟩
 f8:=⟨Tryz.f283.name,by decide,Tryz.func283.trans (congrArg some (by kernel_rfl))⟩
 f11:=⟨Tryz.f323.name,by decide,Tryz.func323.trans (congrArg some (by kernel_rfl))⟩
 t0:=Tryz.underlying0
 a0:=Tryz.isAgg0
 z0:=Tryz.sizeOf0
 v0:=Tryz.zeroValue0
 t24:=Tryz.underlying33
 a24:=Tryz.isAgg33
 z24:=Tryz.sizeOf33
 v24:=Tryz.zeroValue33
 t26:=Tryz.underlying9
 a26:=Tryz.isAgg9
 z26:=Tryz.sizeOf9
 v26:=Tryz.zeroValue9
 t28:=Tryz.underlying305
 a28:=Tryz.isAgg305
 z28:=Tryz.sizeOf305
 v28:=Tryz.zeroValue305
 i26:=by kernel_rfl }
def Tryz.sortA_ren:Go.Shelf.Ren:=⟨fun | 6=>190 | 8=>244 | 9=>243 | 19=>294 | 20=>295 | 21=>285 | 22=>286 | 23=>287 | 24=>288 | 25=>289 | 26=>290 | 27=>291 | 28=>292 | 29=>293 | 36=>324 | 31=>325 | 32=>326 | 37=>327 | 38=>328 | 39=>329 | 41=>363 | n=>n,fun | 27=>33 | 29=>9 | 3=>3 | 32=>224 | 26=>33 | 0=>0 | 44=>256 | 46=>180 | 4=>4 | 36=>345 | 35=>344 | 41=>166 | 5=>5 | 9=>9 | 53=>385 | 57=>389 | 63=>411 | 64=>412 | n=>n,fun | n=>n⟩
theorem Tryz.sortA:Go.Proofs.SlLaysM.n6 Tryz.prog Tryz.sortA_ren:={
 mixed:=by kernel_rfl
 f6:=⟨Tryz.f190.name,by decide,Tryz.func190.trans (congrArg some (by kernel_rfl))⟩
 f8:=Tryz.func244.trans (congrArg some (by kernel_rfl))
 f9:=⟨Tryz.f243.name,by decide,Tryz.func243.trans (congrArg some (by kernel_rfl))⟩
 f19:=Tryz.func294.trans (congrArg some (by kernel_rfl))
 f20:=Tryz.func295.trans (congrArg some (by kernel_rfl))
 f21:=⟨Tryz.f285.name,by decide,Tryz.func285.trans (congrArg some (by kernel_rfl))⟩
 f22:=⟨Tryz.f286.name,by decide,Tryz.func286.trans (congrArg some (by kernel_rfl))⟩
 f23:=⟨Tryz.f287.name,by decide,Tryz.func287.trans (congrArg some (by kernel_rfl))⟩
 f24:=⟨Tryz.f288.name,by decide,Tryz.func288.trans (congrArg some (by kernel_rfl))⟩
 f25:=⟨Tryz.f289.name,by decide,Tryz.func289.trans (congrArg some (by kernel_rfl))⟩
 f26:=⟨Tryz.f290.name,by decide,Tryz.func290.trans (congrArg some (by kernel_rfl))⟩
 f27:=⟨Tryz.f291.name,by decide,Tryz.func291.trans (congrArg some (by kernel_rfl))⟩
 f28:=⟨Tryz.f292.name,by decide,Tryz.func292.trans (congrArg some (by kernel_rfl))⟩
 f29:=⟨Tryz.f293.name,by decide,Tryz.func293.trans (congrArg some (by kernel_rfl))⟩
 f31:=Tryz.func325.trans (congrArg some (by kernel_rfl))
 f32:=Tryz.func326.trans (congrArg some (by kernel_rfl))
 f36:=⟨Tryz.f324.name,by decide,Tryz.func324.trans (congrArg some (by kernel_rfl))⟩
 f37:=⟨Tryz.f327.name,by decide,Tryz.func327.trans (congrArg some (by kernel_rfl))⟩
 f38:=⟨Tryz.f328.name,by decide,Tryz.func328.trans (congrArg some (by kernel_rfl))⟩
 f39:=⟨Tryz.f329.name,by decide,Tryz.func329.trans (congrArg some (by kernel_rfl))⟩
 f41:=⟨Tryz.f363.name,by decide,Tryz.func363.trans (congrArg some (by kernel_rfl))⟩
 t0:=Tryz.underlying0
 a0:=Tryz.isAgg0
 z0:=Tryz.sizeOf0
 v0:=Tryz.zeroValue0
 t3:=Tryz.underlying3
 a3:=Tryz.isAgg3
 z3:=Tryz.sizeOf3
 v3:=Tryz.zeroValue3
 t4:=Tryz.underlying4
 a4:=Tryz.isAgg4
 z4:=Tryz.sizeOf4
 v4:=Tryz.zeroValue4
 t5:=Tryz.underlying5
 a5:=Tryz.isAgg5
 z5:=Tryz.sizeOf5
 v5:=Tryz.zeroValue5
 t9:=Tryz.underlying9
 a9:=Tryz.isAgg9
 z9:=Tryz.sizeOf9
 v9:=Tryz.zeroValue9
 t26:=Tryz.underlying33
 a26:=Tryz.isAgg33
 z26:=Tryz.sizeOf33
 v26:=Tryz.zeroValue33
 t27:=Tryz.underlying33
 a27:=Tryz.isAgg33
 z27:=Tryz.sizeOf33
 v27:=Tryz.zeroValue33
 t29:=Tryz.underlying9
 a29:=Tryz.isAgg9
 z29:=Tryz.sizeOf9
 v29:=Tryz.zeroValue9
 t32:=Tryz.underlying224
 a32:=Tryz.isAgg224
 z32:=Tryz.sizeOf224
 v32:=Tryz.zeroValue224
 t35:=Tryz.underlying344
 a35:=Tryz.isAgg344
 z35:=Tryz.sizeOf344
 v35:=Tryz.zeroValue344
 t36:=Tryz.underlying345
 a36:=Tryz.isAgg345
 z36:=Tryz.sizeOf345
 v36:=Tryz.zeroValue345
 t41:=Tryz.underlying166
 a41:=Tryz.isAgg166
 z41:=Tryz.sizeOf166
 v41:=Tryz.zeroValue166
 t44:=Tryz.underlying256
 a44:=Tryz.isAgg256
 z44:=Tryz.sizeOf256
 v44:=Tryz.zeroValue256
 t46:=Tryz.underlying180
 a46:=Tryz.isAgg180
 z46:=Tryz.sizeOf180
 v46:=Tryz.zeroValue180
 t53:=Tryz.underlying385
 a53:=Tryz.isAgg385
 z53:=Tryz.sizeOf385
 v53:=Tryz.zeroValue385
 t57:=Tryz.underlying389
 a57:=Tryz.isAgg389
 z57:=Tryz.sizeOf389
 v57:=Tryz.zeroValue389
 t63:=Tryz.underlying411
 a63:=Tryz.isAgg411
 z63:=Tryz.sizeOf411
 v63:=Tryz.zeroValue411
 t64:=Tryz.underlying412
 a64:=Tryz.isAgg412
 z64:=Tryz.sizeOf412
 v64:=Tryz.zeroValue412 }
end Go.Proofs
namespace Go.Proofs
open Go.RowKit Go.Maps Go.Sort Go.Shelf Go.Ce
theorem Tryz.sortsA (m : Nat) : AnyZ.SortsIn Tryz.prog Tryz.sortedA_ren Fence.wide m :=
  ⟨fun blk off cap ss W hH hblk hsz => callsIn_wide.2 (AnyM.slices_Sort_string Tryz.sortA blk off cap ss W hH hblk hsz),
   fun p cap W => callsIn_wide.2 (AnyM.slices_Sort_string_none Tryz.sortA p cap W)⟩
theorem Tryz.sort_ok (lo:Nat) (A:W) (args:List AV) (v:AV) (A':W) (h:Zd 284 9 lo A args=some (v,A')):bK Tryz.prog lo 241 args A (.ret v) A' :=
 zRt (ρ:=Tryz.sortedA_ren) (ρ':=Tryz.keysA_ren) Tryz.sortedA { Tryz.keysA with } Tryz.sortsA (fun xs w=>Tryz.call241 xs w) (enters_of Tryz.func190 (by kernel_rfl) rfl) (enters_of Tryz.func284 (by kernel_rfl) rfl) (by kernel_rfl) lo A args v A' h
end Go.Proofs
