/- Part of a proof over this seat: a library of my own, and what it says of this seat. No statement is proved here. -/
import Derived.Shelf.SlIter.Nil
import Derived.Shelf.SortM.Plain
import Derived.Shelf.SortM.SortNone
import Derived.Ground.GgzProg
import Derived.Ground.SlgmProg
import Derived.Test.YtdgneppobefaoaaGreatDoorProg
import Derived.Test.YtdgneppobefaoaaGreatDoorPartBC
import Derived.Test.YtdgneppobefaoaaGreatDoorPartAX
namespace Go.Proofs
open Go.Shelf
def Tryz.keysA_ren:Go.Shelf.Ren:=⟨fun | 7=>232 | 10=>301 | n=>n,fun | 23=>63 | 26=>9 | 3=>3 | 28=>318 | 0=>0 | 27=>317 | 33=>29 | 4=>4 | n=>n,fun | n=>n⟩
theorem Tryz.keysA:Go.Proofs.SlLaysZ.n7 Tryz.prog Tryz.keysA_ren:={
 mixed:=by kernel_rfl
 f7:=⟨Tryz.f232.name,by decide,Tryz.func232.trans (congrArg some (by kernel_rfl))⟩
 f10:=⟨Tryz.f301.name,by decide,Tryz.func301.trans (congrArg some (by kernel_rfl))⟩
 t0:=Tryz.underlying0
 a0:=Tryz.isAgg0
 z0:=Tryz.sizeOf0
 v0:=Tryz.zeroValue0
 t4:=Tryz.underlying4
 a4:=Tryz.isAgg4
 z4:=Tryz.sizeOf4
 v4:=Tryz.zeroValue4
 t23:=Tryz.underlying63
 a23:=Tryz.isAgg63
 z23:=Tryz.sizeOf63
 v23:=Tryz.zeroValue63
 t26:=Tryz.underlying9
 a26:=Tryz.isAgg9
 z26:=Tryz.sizeOf9
 v26:=Tryz.zeroValue9
 t27:=Tryz.underlying317
 a27:=Tryz.isAgg317
 z27:=Tryz.sizeOf317
 v27:=Tryz.zeroValue317
 t28:=Tryz.underlying318
 a28:=Tryz.isAgg318
 z28:=Tryz.sizeOf318
 v28:=Tryz.zeroValue318
 t33:=Tryz.underlying29
 a33:=Tryz.isAgg29
 z33:=Tryz.sizeOf29
 v33:=Tryz.zeroValue29 }
def Tryz.sortedA_ren:Go.Shelf.Ren:=⟨fun | 6=>231 | 8=>300 | 9=>193 | 11=>338 | 13=>234 | 12=>233 | 23=>311 | 24=>225 | 14=>302 | 15=>303 | 16=>304 | 17=>305 | 18=>306 | 19=>307 | 20=>308 | 21=>309 | 22=>310 | 25=>339 | 26=>340 | 27=>341 | 28=>342 | 29=>343 | 30=>344 | 31=>367 | n=>n,fun | 26=>9 | 28=>318 | 24=>133 | 0=>0 | 3=>3 | 37=>157 | 48=>266 | 50=>92 | 4=>4 | 40=>357 | 39=>356 | 45=>121 | 5=>5 | 9=>9 | 51=>388 | 55=>392 | 57=>413 | 58=>414 | 33=>29 | n=>n,fun | n=>n⟩
theorem Tryz.sortedA:Go.Proofs.SlLaysZ.n6 Tryz.prog Tryz.sortedA_ren:={
 mixed:=by kernel_rfl
 f6:=⟨Tryz.f231.name,by decide,Tryz.func231.trans (congrArg some (by kernel_rfl))⟩
 f8:=⟨Tryz.f300.name,by decide,Tryz.func300.trans (congrArg some (by kernel_rfl))⟩
 f11:=⟨Tryz.f338.name,by decide,Tryz.func338.trans (congrArg some (by kernel_rfl))⟩
 t0:=Tryz.underlying0
 a0:=Tryz.isAgg0
 z0:=Tryz.sizeOf0
 v0:=Tryz.zeroValue0
 t24:=Tryz.underlying133
 a24:=Tryz.isAgg133
 z24:=Tryz.sizeOf133
 v24:=Tryz.zeroValue133
 t26:=Tryz.underlying9
 a26:=Tryz.isAgg9
 z26:=Tryz.sizeOf9
 v26:=Tryz.zeroValue9
 t28:=Tryz.underlying318
 a28:=Tryz.isAgg318
 z28:=Tryz.sizeOf318
 v28:=Tryz.zeroValue318
 i26:=by kernel_rfl }
def Tryz.sortA_ren:Go.Shelf.Ren:=⟨fun | 6=>193 | 8=>234 | 9=>233 | 19=>311 | 20=>225 | 21=>302 | 22=>303 | 23=>304 | 24=>305 | 25=>306 | 26=>307 | 27=>308 | 28=>309 | 29=>310 | 36=>339 | 31=>340 | 32=>341 | 37=>342 | 38=>343 | 39=>344 | 41=>367 | n=>n,fun | 27=>133 | 29=>9 | 3=>3 | 32=>157 | 26=>133 | 0=>0 | 44=>266 | 46=>92 | 4=>4 | 36=>357 | 35=>356 | 41=>121 | 5=>5 | 9=>9 | 53=>388 | 57=>392 | 63=>413 | 64=>414 | n=>n,fun | n=>n⟩
theorem Tryz.sortA:Go.Proofs.SlLaysM.n6 Tryz.prog Tryz.sortA_ren:={
 mixed:=by kernel_rfl
 f6:=⟨Tryz.f193.name,by decide,Tryz.func193.trans (congrArg some (by kernel_rfl))⟩
 f8:=Tryz.func234.trans (congrArg some (by kernel_rfl))
 f9:=⟨Tryz.f233.name,by decide,Tryz.func233.trans (congrArg some (by kernel_rfl))⟩
 f19:=Tryz.func311.trans (congrArg some (by kernel_rfl))
 f20:=Tryz.func225.trans (congrArg some (by kernel_rfl))
 f21:=⟨Tryz.f302.name,by decide,Tryz.func302.trans (congrArg some (by kernel_rfl))⟩
 f22:=⟨Tryz.f303.name,by decide,Tryz.func303.trans (congrArg some (by kernel_rfl))⟩
 f23:=⟨Tryz.f304.name,by decide,Tryz.func304.trans (congrArg some (by kernel_rfl))⟩
 f24:=⟨Tryz.f305.name,by decide,Tryz.func305.trans (congrArg some (by kernel_rfl))⟩
 f25:=⟨Tryz.f306.name,by decide,Tryz.func306.trans (congrArg some (by kernel_rfl))⟩
 f26:=⟨Tryz.f307.name,by decide,Tryz.func307.trans (congrArg some (by kernel_rfl))⟩
 f27:=⟨Tryz.f308.name,by decide,Tryz.func308.trans (congrArg some (by kernel_rfl))⟩
 f28:=⟨Tryz.f309.name,by decide,Tryz.func309.trans (congrArg some (by kernel_rfl))⟩
 f29:=⟨Tryz.f310.name,by decide,Tryz.func310.trans (congrArg some (by kernel_rfl))⟩
 f31:=Tryz.func340.trans (congrArg some (by kernel_rfl))
 f32:=Tryz.func341.trans (congrArg some (by kernel_rfl))
 f36:=⟨Tryz.f339.name,by decide,Tryz.func339.trans (congrArg some (by kernel_rfl))⟩
 f37:=⟨Tryz.f342.name,by decide,Tryz.func342.trans (congrArg some (by kernel_rfl))⟩
 f38:=⟨Tryz.f343.name,by decide,Tryz.func343.trans (congrArg some (by kernel_rfl))⟩
 f39:=⟨Tryz.f344.name,by decide,Tryz.func344.trans (congrArg some (by kernel_rfl))⟩
 f41:=⟨Tryz.f367.name,by decide,Tryz.func367.trans (congrArg some (by kernel_rfl))⟩
 t0:=Tryz.underlying0
 a0:=Tryz.isAgg0
 z0:=Tryz.sizeOf0
 v0:=Tryz.zeroValue0
 t3:=Tryz.underlying3
 a3:=Tryz.isAgg3
 z3:=Tryz.sizeOf3
 v3:=Tryz.zeroValue3
 t4:=Tryz.underlying4
 a4:=Tryz.isAgg4
 z4:=Tryz.sizeOf4
 v4:=Tryz.zeroValue4
 t5:=Tryz.underlying5
 a5:=Tryz.isAgg5
 z5:=Tryz.sizeOf5
 v5:=Tryz.zeroValue5
 t9:=Tryz.underlying9
 a9:=Tryz.isAgg9
 z9:=Tryz.sizeOf9
 v9:=Tryz.zeroValue9
 t26:=Tryz.underlying133
 a26:=Tryz.isAgg133
 z26:=Tryz.sizeOf133
 v26:=Tryz.zeroValue133
 t27:=Tryz.underlying133
 a27:=Tryz.isAgg133
 z27:=Tryz.sizeOf133
 v27:=Tryz.zeroValue133
 t29:=Tryz.underlying9
 a29:=Tryz.isAgg9
 z29:=Tryz.sizeOf9
 v29:=Tryz.zeroValue9
 t32:=Tryz.underlying157
 a32:=Tryz.isAgg157
 z32:=Tryz.sizeOf157
 v32:=Tryz.zeroValue157
 t35:=Tryz.underlying356
 a35:=Tryz.isAgg356
 z35:=Tryz.sizeOf356
 v35:=Tryz.zeroValue356
 t36:=Tryz.underlying357
 a36:=Tryz.isAgg357
 z36:=Tryz.sizeOf357
 v36:=Tryz.zeroValue357
 t41:=Tryz.underlying121
 a41:=Tryz.isAgg121
 z41:=Tryz.sizeOf121
 v41:=Tryz.zeroValue121
 t44:=Tryz.underlying266
 a44:=Tryz.isAgg266
 z44:=Tryz.sizeOf266
 v44:=Tryz.zeroValue266
 t46:=Tryz.underlying92
 a46:=Tryz.isAgg92
 z46:=Tryz.sizeOf92
 v46:=Tryz.zeroValue92
 t53:=Tryz.underlying388
 a53:=Tryz.isAgg388
 z53:=Tryz.sizeOf388
 v53:=Tryz.zeroValue388
 t57:=Tryz.underlying392
 a57:=Tryz.isAgg392
 z57:=Tryz.sizeOf392
 v57:=Tryz.zeroValue392
 t63:=Tryz.underlying413
 a63:=Tryz.isAgg413
 z63:=Tryz.sizeOf413
 v63:=Tryz.zeroValue413
 t64:=Tryz.underlying414
 a64:=Tryz.isAgg414
 z64:=Tryz.sizeOf414
 v64:=Tryz.zeroValue414 }
end Go.Proofs
namespace Go.Proofs
open Go.RowKit Go.Maps Go.Sort Go.Shelf Go.Ce
theorem Tryz.sortsA (m : Nat) : AnyZ.SortsIn Tryz.prog Tryz.sortedA_ren Fence.wide m :=
  ⟨fun blk off cap ss W hH hblk hsz => callsIn_wide.2 (AnyM.slices_Sort_string Tryz.sortA blk off cap ss W hH hblk hsz),
   fun p cap W => callsIn_wide.2 (AnyM.slices_Sort_string_none Tryz.sortA p cap W)⟩
theorem Tryz.sort_ok (lo:Nat) (A:W) (args:List AV) (v:AV) (A':W) (h:Zo 301 9 lo A args=some (v,A')):cZ Tryz.prog lo 231 args A (.ret v) A' :=
 zQm (ρ:=Tryz.sortedA_ren) (ρ':=Tryz.keysA_ren) Tryz.sortedA { Tryz.keysA with } Tryz.sortsA (fun xs w=>Tryz.call231 xs w) (enters_of Tryz.func193 (by kernel_rfl) rfl) (enters_of Tryz.func301 (by kernel_rfl) rfl) (by kernel_rfl) lo A args v A' h
end Go.Proofs
