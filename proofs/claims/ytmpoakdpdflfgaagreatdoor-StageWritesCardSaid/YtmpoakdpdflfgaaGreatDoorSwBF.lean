/- Part of a proof over this seat: a library of my own, and what it says of this seat. No statement is proved here. -/
import Derived.Shelf.SlIter.Nil
import Derived.Shelf.SortM.Plain
import Derived.Shelf.SortM.SortNone
import Derived.Ground.GgzProg
import Derived.Ground.SlgmProg
import Derived.Test.YtmpoakdpdflfgaaGreatDoorProg
import Derived.Test.YtmpoakdpdflfgaaGreatDoorSwBB
import Derived.Test.YtmpoakdpdflfgaaGreatDoorSwAW
namespace Go.Proofs
open Go.Shelf
def Tryz.keysA_ren:Go.Shelf.Ren:=⟨fun | 7=>135 | 10=>200 | n=>n,fun | 23=>125 | 26=>9 | 3=>3 | 28=>207 | 0=>0 | 27=>206 | 33=>153 | 4=>4 | n=>n,fun | n=>n⟩
theorem Tryz.keysA:Go.Proofs.SlLaysZ.n7 Tryz.prog Tryz.keysA_ren:={
 mixed:=by kernel_rfl
 f7:=⟨Tryz.f135.name,by decide,Tryz.func135.trans (congrArg some (by kernel_rfl))⟩
 f10:=⟨Tryz.f200.name,by decide,Tryz.func200.trans (congrArg some (by kernel_rfl))⟩
 t0:=Tryz.underlying0
 a0:=Tryz.isAgg0
 z0:=Tryz.sizeOf0
 v0:=Tryz.zeroValue0
 t4:=Tryz.underlying4
 a4:=Tryz.isAgg4
 z4:=Tryz.sizeOf4
 v4:=Tryz.zeroValue4
 t23:=Tryz.underlying125
 a23:=Tryz.isAgg125
 z23:=Tryz.sizeOf125
 v23:=Tryz.zeroValue125
 t26:=Tryz.underlying9
 a26:=Tryz.isAgg9
 z26:=Tryz.sizeOf9
 v26:=Tryz.zeroValue9
 t27:=Tryz.underlying206
 a27:=Tryz.isAgg206
 z27:=Tryz.sizeOf206
 v27:=Tryz.zeroValue206
 t28:=Tryz.underlying207
 a28:=Tryz.isAgg207
 z28:=Tryz.sizeOf207
 v28:=Tryz.zeroValue207
 t33:=Tryz.underlying153
 a33:=Tryz.isAgg153
 z33:=Tryz.sizeOf153
 v33:=Tryz.zeroValue153 }
def Tryz.sortedA_ren:Go.Shelf.Ren:=⟨fun | 6=>134 | 8=>199 | 9=>74 | 11=>257 | 13=>138 | 12=>137 | 23=>210 | 24=>211 | 14=>201 | 15=>202 | 16=>203 | 17=>204 | 18=>205 | 19=>206 | 20=>207 | 21=>208 | 22=>209 | 25=>258 | 26=>259 | 27=>260 | 28=>261 | 29=>262 | 30=>263 | 31=>307 | n=>n,fun | 26=>9 | 28=>207 | 24=>27 | 0=>0 | 3=>3 | 37=>212 | 48=>284 | 50=>226 | 4=>4 | 40=>278 | 39=>277 | 45=>159 | 5=>5 | 9=>9 | 51=>326 | 55=>330 | 57=>380 | 58=>381 | 33=>153 | n=>n,fun | n=>n⟩
theorem Tryz.sortedA:Go.Proofs.SlLaysZ.n6 Tryz.prog Tryz.sortedA_ren:={
 mixed:=by kernel_rfl
 f6:=⟨Tryz.f134.name,by decide,Tryz.func134.trans (congrArg some (by kernel_rfl))⟩
 f8:=⟨Tryz.f199.name,by decide,Tryz.func199.trans (congrArg some (by kernel_rfl))⟩
 f11:=⟨Tryz.f257.name,by decide,Tryz.func257.trans (congrArg some (by kernel_rfl))⟩
 t0:=Tryz.underlying0
 a0:=Tryz.isAgg0
 z0:=Tryz.sizeOf0
 v0:=Tryz.zeroValue0
 t24:=Tryz.underlying27
 a24:=Tryz.isAgg27
 z24:=Tryz.sizeOf27
 v24:=Tryz.zeroValue27
 t26:=Tryz.underlying9
 a26:=Tryz.isAgg9
 z26:=Tryz.sizeOf9
 v26:=Tryz.zeroValue9
 t28:=Tryz.underlying207
 a28:=Tryz.isAgg207
 z28:=Tryz.sizeOf207
 v28:=Tryz.zeroValue207
 i26:=by kernel_rfl }
def Tryz.sortA_ren:Go.Shelf.Ren:=⟨fun | 6=>74 | 8=>138 | 9=>137 | 19=>210 | 20=>211 | 21=>201 | 22=>202 | 23=>203 | 24=>204 | 25=>205 | 26=>206 | 27=>207 | 28=>208 | 29=>209 | 36=>258 | 31=>259 | 32=>260 | 37=>261 | 38=>262 | 39=>263 | 41=>307 | n=>n,fun | 27=>27 | 29=>9 | 3=>3 | 32=>212 | 26=>27 | 0=>0 | 44=>284 | 46=>226 | 4=>4 | 36=>278 | 35=>277 | 41=>159 | 5=>5 | 9=>9 | 53=>326 | 57=>330 | 63=>380 | 64=>381 | n=>n,fun | n=>n⟩
theorem Tryz.sortA:Go.Proofs.SlLaysM.n6 Tryz.prog Tryz.sortA_ren:={
 mixed:=by kernel_rfl
 f6:=⟨Tryz.f74.name,by decide,Tryz.func74.trans (congrArg some (by kernel_rfl))⟩
 f8:=Tryz.func138.trans (congrArg some (by kernel_rfl))
 f9:=⟨Tryz.f137.name,by decide,Tryz.func137.trans (congrArg some (by kernel_rfl))⟩
 f19:=Tryz.func210.trans (congrArg some (by kernel_rfl))
 f20:=Tryz.func211.trans (congrArg some (by kernel_rfl))
 f21:=⟨Tryz.f201.name,by decide,Tryz.func201.trans (congrArg some (by kernel_rfl))⟩
 f22:=⟨Tryz.f202.name,by decide,Tryz.func202.trans (congrArg some (by kernel_rfl))⟩
 f23:=⟨Tryz.f203.name,by decide,Tryz.func203.trans (congrArg some (by kernel_rfl))⟩
 f24:=⟨Tryz.f204.name,by decide,Tryz.func204.trans (congrArg some (by kernel_rfl))⟩
 f25:=⟨Tryz.f205.name,by decide,Tryz.func205.trans (congrArg some (by kernel_rfl))⟩
 f26:=⟨Tryz.f206.name,by decide,Tryz.func206.trans (congrArg some (by kernel_rfl))⟩
 f27:=⟨Tryz.f207.name,by decide,Tryz.func207.trans (congrArg some (by kernel_rfl))⟩
 f28:=⟨Tryz.f208.name,by decide,Tryz.func208.trans (congrArg some (by kernel_rfl))⟩
 f29:=⟨Tryz.f209.name,by decide,Tryz.func209.trans (congrArg some (by kernel_rfl))⟩
 f31:=Tryz.func259.trans (congrArg some (by kernel_rfl))
 f32:=Tryz.func260.trans (congrArg some (by kernel_rfl))
 f36:=⟨Tryz.f258.name,by decide,Tryz.func258.trans (congrArg some (by kernel_rfl))⟩
 f37:=⟨Tryz.f261.name,by decide,Tryz.func261.trans (congrArg some (by kernel_rfl))⟩
 f38:=⟨Tryz.f262.name,by decide,Tryz.func262.trans (congrArg some (by kernel_rfl))⟩
 f39:=⟨Tryz.f263.name,by decide,Tryz.func263.trans (congrArg some (by kernel_rfl))⟩
 f41:=⟨Tryz.f307.name,by decide,Tryz.func307.trans (congrArg some (by kernel_rfl))⟩
 t0:=Tryz.underlying0
 a0:=Tryz.isAgg0
 z0:=Tryz.sizeOf0
 v0:=Tryz.zeroValue0
 t3:=Tryz.underlying3
 a3:=Tryz.isAgg3
 z3:=Tryz.sizeOf3
 v3:=Tryz.zeroValue3
 t4:=Tryz.underlying4
 a4:=Tryz.isAgg4
 z4:=Tryz.sizeOf4
 v4:=Tryz.zeroValue4
 t5:=Tryz.underlying5
 a5:=Tryz.isAgg5
 z5:=Tryz.sizeOf5
 v5:=Tryz.zeroValue5
 t9:=Tryz.underlying9
 a9:=Tryz.isAgg9
 z9:=Tryz.sizeOf9
 v9:=Tryz.zeroValue9
 t26:=Tryz.underlying27
 a26:=Tryz.isAgg27
 z26:=Tryz.sizeOf27
 v26:=Tryz.zeroValue27
 t27:=Tryz.underlying27
 a27:=Tryz.isAgg27
 z27:=Tryz.sizeOf27
 v27:=Tryz.zeroValue27
 t29:=Tryz.underlying9
 a29:=Tryz.isAgg9
 z29:=Tryz.sizeOf9
 v29:=Tryz.zeroValue9
 t32:=Tryz.underlying212
 a32:=Tryz.isAgg212
 z32:=Tryz.sizeOf212
 v32:=Tryz.zeroValue212
 t35:=Tryz.underlying277
 a35:=Tryz.isAgg277
 z35:=Tryz.sizeOf277
 v35:=Tryz.zeroValue277
 t36:=Tryz.underlying278
 a36:=Tryz.isAgg278
 z36:=Tryz.sizeOf278
 v36:=Tryz.zeroValue278
 t41:=Tryz.underlying159
 a41:=Tryz.isAgg159
 z41:=Tryz.sizeOf159
 v41:=Tryz.zeroValue159
 t44:=Tryz.underlying284
 a44:=Tryz.isAgg284
 z44:=Tryz.sizeOf284
 v44:=Tryz.zeroValue284
 t46:=Tryz.underlying226
 a46:=Tryz.isAgg226
 z46:=Tryz.sizeOf226
 v46:=Tryz.zeroValue226
 t53:=Tryz.underlying326
 a53:=Tryz.isAgg326
 z53:=Tryz.sizeOf326
 v53:=Tryz.zeroValue326
 t57:=Tryz.underlying330
 a57:=Tryz.isAgg330
 z57:=Tryz.sizeOf330
 v57:=Tryz.zeroValue330
 t63:=Tryz.underlying380
 a63:=Tryz.isAgg380
 z63:=Tryz.sizeOf380
 v63:=Tryz.zeroValue380
 t64:=Tryz.underlying381
 a64:=Tryz.isAgg381
 z64:=Tryz.sizeOf381
 v64:=Tryz.zeroValue381 }
end Go.Proofs
namespace Go.Proofs
open Go.RowKit Go.Maps Go.Sort Go.Shelf Go.Ce
theorem Tryz.sortsA (m : Nat) : AnyZ.SortsIn Tryz.prog Tryz.sortedA_ren Fence.wide m :=
  ⟨fun blk off cap ss W hH hblk hsz => callsIn_wide.2 (AnyM.slices_Sort_string Tryz.sortA blk off cap ss W hH hblk hsz),
   fun p cap W => callsIn_wide.2 (AnyM.slices_Sort_string_none Tryz.sortA p cap W)⟩
theorem Tryz.sort_ok (lo:Nat) (A:W) (args:List AV) (v:AV) (A':W) (h:gSort 200 9 lo A args=some (v,A')):CallOK Tryz.prog lo 134 args A (.ret v) A' :=
 gSort_ok (ρ:=Tryz.sortedA_ren) (ρ':=Tryz.keysA_ren) Tryz.sortedA { Tryz.keysA with } Tryz.sortsA (fun xs w=>Tryz.call134 xs w) (enters_of Tryz.func74 (by kernel_rfl) rfl) (enters_of Tryz.func200 (by kernel_rfl) rfl) (by kernel_rfl) lo A args v A' h
end Go.Proofs
