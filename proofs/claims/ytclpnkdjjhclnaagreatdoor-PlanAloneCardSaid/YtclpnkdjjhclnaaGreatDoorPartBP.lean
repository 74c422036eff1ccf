/- Part of a proof over this seat: a library of my own, and what it says of this seat. No statement is proved here. -/
import Derived.Shelf.SlIter.Nil
import Derived.Shelf.SortM.Plain
import Derived.Shelf.SortM.SortNone
import Derived.Ground.GgzProg
import Derived.Ground.SlgmProg
import Derived.Test.YtclpnkdjjhclnaaGreatDoorProg
import Derived.Test.YtclpnkdjjhclnaaGreatDoorPartBK
import Derived.Test.YtclpnkdjjhclnaaGreatDoorPartBD
namespace Go.Proofs
open Go.Shelf
def Tryz.keysA_ren : Go.Shelf.Ren := ⟨fun | 7 => 91 | 10 => 126 | n => n, fun | 23 => 54 | 26 => 9 | 3 => 3 | 28 => 131 | 0 => 0 | 27 => 130 | 33 => 87 | 4 => 4 | n => n, fun | n => n⟩
theorem Tryz.keysA : Go.Proofs.SlLaysZ.n7 Tryz.prog Tryz.keysA_ren := {
 mixed := by kernel_rfl
 f7 := ⟨Tryz.f91.name, by decide, Tryz.func91.trans (congrArg some (by kernel_rfl))⟩
 f10 := ⟨Tryz.f126.name, by decide, Tryz.func126.trans (congrArg some (by kernel_rfl))⟩
 t0 := Tryz.underlying0
 a0 := Tryz.isAgg0
 z0 := Tryz.sizeOf0
 v0 := Tryz.zeroValue0
 t4 := Tryz.underlying4
 a4 := Tryz.isAgg4
 z4 := Tryz.sizeOf4
 v4 := Tryz.zeroValue4
 t23 := Tryz.underlying54
 a23 := Tryz.isAgg54
 z23 := Tryz.sizeOf54
 v23 := Tryz.zeroValue54
 t26 := Tryz.underlying9
 a26 := Tryz.isAgg9
 z26 := Tryz.sizeOf9
 v26 := Tryz.zeroValue9
 t27 := Tryz.underlying130
 a27 := Tryz.isAgg130
 z27 := Tryz.sizeOf130
 v27 := Tryz.zeroValue130
 t28 := Tryz.underlying131
 a28 := Tryz.isAgg131
 z28 := Tryz.sizeOf131
 v28 := Tryz.zeroValue131
 t33 := Tryz.underlying87
 a33 := Tryz.isAgg87
 z33 := Tryz.sizeOf87
 v33 := Tryz.zeroValue87 }
def Tryz.sortedA_ren : Go.Shelf.Ren := ⟨fun | 6 => 90 | 8 => 125 | 9 => 61 | 11 => 159 | 13 => 93 | 12 => 92 | 23 => 136 | 24 => 137 | 14 => 127 | 15 => 128 | 16 => 129 | 17 => 130 | 18 => 131 | 19 => 132 | 20 => 133 | 21 => 134 | 22 => 135 | 25 => 160 | 26 => 161 | 27 => 162 | 28 => 163 | 29 => 164 | 30 => 165 | 31 => 183 | n => n, fun | 26 => 9 | 28 => 131 | 24 => 43 | 0 => 0 | 3 => 3 | 37 => 135 | 48 => 181 | 50 => 143 | 4 => 4 | 40 => 175 | 39 => 174 | 45 => 92 | 5 => 5 | 9 => 9 | 51 => 209 | 55 => 213 | 57 => 235 | 58 => 236 | 33 => 87 | n => n, fun | n => n⟩
theorem Tryz.sortedA : Go.Proofs.SlLaysZ.n6 Tryz.prog Tryz.sortedA_ren := {
 mixed := by kernel_rfl
 f6 := ⟨Tryz.f90.name, by decide, Tryz.func90.trans (congrArg some (by kernel_rfl))⟩
 f8 := ⟨Tryz.f125.name, by decide, Tryz.func125.trans (congrArg some (by kernel_rfl))⟩
 f11 := ⟨Tryz.f159.name, by decide, Tryz.func159.trans (congrArg some (by kernel_rfl))⟩
 t0 := Tryz.underlying0
 a0 := Tryz.isAgg0
 z0 := Tryz.sizeOf0
 v0 := Tryz.zeroValue0
 t24 := Tryz.underlying43
 a24 := Tryz.isAgg43
 z24 := Tryz.sizeOf43
 v24 := Tryz.zeroValue43
 t26 := Tryz.underlying9
 a26 := Tryz.isAgg9
 z26 := Tryz.sizeOf9
 v26 := Tryz.zeroValue9
 t28 := Tryz.underlying131
 a28 := Tryz.isAgg131
 z28 := Tryz.sizeOf131
 v28 := Tryz.zeroValue131
 i26 := by kernel_rfl }
def Tryz.sortA_ren : Go.Shelf.Ren := ⟨fun | 6 => 61 | 8 => 93 | 9 => 92 | 19 => 136 | 20 => 137 | 21 => 127 | 22 => 128 | 23 => 129 | 24 => 130 | 25 => 131 | 26 => 132 | 27 => 133 | 28 => 134 | 29 => 135 | 36 => 160 | 31 => 161 | 32 => 162 | 37 => 163 | 38 => 164 | 39 => 165 | 41 => 183 | n => n, fun | 27 => 43 | 29 => 9 | 3 => 3 | 32 => 135 | 26 => 43 | 0 => 0 | 44 => 181 | 46 => 143 | 4 => 4 | 36 => 175 | 35 => 174 | 41 => 92 | 5 => 5 | 9 => 9 | 53 => 209 | 57 => 213 | 63 => 235 | 64 => 236 | n => n, fun | n => n⟩
theorem Tryz.sortA : Go.Proofs.SlLaysM.n6 Tryz.prog Tryz.sortA_ren := {
 mixed := by kernel_rfl
 f6 := ⟨Tryz.f61.name, by decide, Tryz.func61.trans (congrArg some (by kernel_rfl))⟩
 f8 := Tryz.func93.trans (congrArg some (by kernel_rfl))
 f9 := ⟨Tryz.f92.name, by decide, Tryz.func92.trans (congrArg some (by kernel_rfl))⟩
 f19 := Tryz.func136.trans (congrArg some (by kernel_rfl))
 f20 := Tryz.func137.trans (congrArg some (by kernel_rfl))
 f21 := ⟨Tryz.f127.name, by decide, Tryz.func127.trans (congrArg some (by kernel_rfl))⟩
 f22 := ⟨Tryz.f128.name, by decide, Tryz.func128.trans (congrArg some (by kernel_rfl))⟩
 f23 := ⟨Tryz.f129.name, by decide, Tryz.func129.trans (congrArg some (by kernel_rfl))⟩
 f24 := ⟨Tryz.f130.name, by decide, Tryz.func130.trans (congrArg some (by kernel_rfl))⟩
 f25 := ⟨Tryz.f131.name, by decide, Tryz.func131.trans (congrArg some (by kernel_rfl))⟩
 f26 := ⟨Tryz.f132.name, by decide, Tryz.func132.trans (congrArg some (by kernel_rfl))⟩
 f27 := ⟨Tryz.f133.name, by decide, Tryz.func133.trans (congrArg some (by kernel_rfl))⟩
 f28 := ⟨Tryz.f134.name, by decide, Tryz.func134.trans (congrArg some (by kernel_rfl))⟩
 f29 := ⟨Tryz.f135.name, by decide, Tryz.func135.trans (congrArg some (by kernel_rfl))⟩
 f31 := Tryz.func161.trans (congrArg some (by kernel_rfl))
 f32 := Tryz.func162.trans (congrArg some (by kernel_rfl))
 f36 := ⟨Tryz.f160.name, by decide, Tryz.func160.trans (congrArg some (by kernel_rfl))⟩
 f37 := ⟨Tryz.f163.name, by decide, Tryz.func163.trans (congrArg some (by kernel_rfl))⟩
 f38 := ⟨Tryz.f164.name, by decide, Tryz.func164.trans (congrArg some (by kernel_rfl))⟩
 f39 := ⟨Tryz.f165.name, by decide, Tryz.func165.trans (congrArg some (by kernel_rfl))⟩
 f41 := ⟨Tryz.f183.name, by decide, Tryz.func183.trans (congrArg some (by kernel_rfl))⟩
 t0 := Tryz.underlying0
 a0 := Tryz.isAgg0
 z0 := Tryz.sizeOf0
 v0 := Tryz.zeroValue0
 t3 := Tryz.underlying3
 a3 := Tryz.isAgg3
 z3 := Tryz.sizeOf3
 v3 := Tryz.zeroValue3
 t4 := Tryz.underlying4
 a4 := Tryz.isAgg4
 z4 := Tryz.sizeOf4
 v4 := Tryz.zeroValue4
 t5 := Tryz.underlying5
 a5 := Tryz.isAgg5
 z5 := Tryz.sizeOf5
 v5 := Tryz.zeroValue5
 t9 := Tryz.underlying9
 a9 := Tryz.isAgg9
 z9 := Tryz.sizeOf9
 v9 := Tryz.zeroValue9
 t26 := Tryz.underlying43
 a26 := Tryz.isAgg43
 z26 := Tryz.sizeOf43
 v26 := Tryz.zeroValue43
 t27 := Tryz.underlying43
 a27 := Tryz.isAgg43
 z27 := Tryz.sizeOf43
 v27 := Tryz.zeroValue43
 t29 := Tryz.underlying9
 a29 := Tryz.isAgg9
 z29 := Tryz.sizeOf9
 v29 := Tryz.zeroValue9
 t32 := Tryz.underlying135
 a32 := Tryz.isAgg135
 z32 := Tryz.sizeOf135
 v32 := Tryz.zeroValue135
 t35 := Tryz.underlying174
 a35 := Tryz.isAgg174
 z35 := Tryz.sizeOf174
 v35 := Tryz.zeroValue174
 t36 := Tryz.underlying175
 a36 := Tryz.isAgg175
 z36 := Tryz.sizeOf175
 v36 := Tryz.zeroValue175
 t41 := Tryz.underlying92
 a41 := Tryz.isAgg92
 z41 := Tryz.sizeOf92
 v41 := Tryz.zeroValue92
 t44 := Tryz.underlying181
 a44 := Tryz.isAgg181
 z44 := Tryz.sizeOf181
 v44 := Tryz.zeroValue181
 t46 := Tryz.underlying143
 a46 := Tryz.isAgg143
 z46 := Tryz.sizeOf143
 v46 := Tryz.zeroValue143
 t53 := Tryz.underlying209
 a53 := Tryz.isAgg209
 z53 := Tryz.sizeOf209
 v53 := Tryz.zeroValue209
 t57 := Tryz.underlying213
 a57 := Tryz.isAgg213
 z57 := Tryz.sizeOf213
 v57 := Tryz.zeroValue213
 t63 := Tryz.underlying235
 a63 := Tryz.isAgg235
 z63 := Tryz.sizeOf235
 v63 := Tryz.zeroValue235
 t64 := Tryz.underlying236
 a64 := Tryz.isAgg236
 z64 := Tryz.sizeOf236
 v64 := Tryz.zeroValue236 }
end Go.Proofs
namespace Go.Proofs
open Go.RowKit Go.Maps Go.Sort Go.Shelf Go.Ce
theorem Tryz.sortsA (m : Nat) : AnyZ.SortsIn Tryz.prog Tryz.sortedA_ren Fence.wide m :=
  ⟨fun blk off cap ss W hH hblk hsz => callsIn_wide.2 (AnyM.slices_Sort_string Tryz.sortA blk off cap ss W hH hblk hsz),
   fun p cap W => callsIn_wide.2 (AnyM.slices_Sort_string_none Tryz.sortA p cap W)⟩
theorem Tryz.sort_ok (lo : Nat) (A : W) (args : List AV) (v : AV) (A' : W) (h : yG 126 9 lo A args = some (v, A')) : aR Tryz.prog lo 90 args A (.ret v) A' :=
 Jt (ρ := Tryz.sortedA_ren) (ρ' := Tryz.keysA_ren) Tryz.sortedA { Tryz.keysA with } Tryz.sortsA (fun xs w => Tryz.call90 xs w) (enters_of Tryz.func61 (by kernel_rfl) rfl) (enters_of Tryz.func126 (by kernel_rfl) rfl) (by kernel_rfl) lo A args v A' h
end Go.Proofs
