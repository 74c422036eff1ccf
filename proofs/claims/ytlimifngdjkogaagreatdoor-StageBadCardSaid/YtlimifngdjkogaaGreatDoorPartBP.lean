/- Part of a proof over this seat: a library of my own, and what it says of this seat. No statement is proved here. -/
import Derived.Shelf.SlIter.Nil
import Derived.Shelf.SortM.Plain
import Derived.Shelf.SortM.SortNone
import Derived.Ground.GgzProg
import Derived.Ground.SlgmProg
import Derived.Test.YtlimifngdjkogaaGreatDoorProg
import Derived.Test.YtlimifngdjkogaaGreatDoorPartBK
import Derived.Test.YtlimifngdjkogaaGreatDoorPartBD
namespace Go.Proofs
open Go.Shelf
def Tryz.keysA_ren : Go.Shelf.Ren := ⟨fun | 7 => 86 | 10 => 136 | n => n, fun | 23 => 138 | 26 => 9 | 3 => 3 | 28 => 160 | 0 => 0 | 27 => 159 | 33 => 194 | 4 => 4 | n => n, fun | n => n⟩
theorem Tryz.keysA : Go.Proofs.SlLaysZ.n7 Tryz.prog Tryz.keysA_ren := {
 mixed := by kernel_rfl
 f7 := ⟨Tryz.f86.name, by decide, Tryz.func86.trans (congrArg some (by kernel_rfl))⟩
 f10 := ⟨Tryz.f136.name, by decide, Tryz.func136.trans (congrArg some (by kernel_rfl))⟩
 t0 := Tryz.underlying0
 a0 := Tryz.isAgg0
 z0 := Tryz.sizeOf0
 v0 := Tryz.zeroValue0
 t4 := Tryz.underlying4
 a4 := Tryz.isAgg4
 z4 := Tryz.sizeOf4
 v4 := Tryz.zeroValue4
 t23 := Tryz.underlying138
 a23 := Tryz.isAgg138
 z23 := Tryz.sizeOf138
 v23 := Tryz.zeroValue138
 t26 := Tryz.underlying9
 a26 := Tryz.isAgg9
 z26 := Tryz.sizeOf9
 v26 := Tryz.zeroValue9
 t27 := Tryz.underlying159
 a27 := Tryz.isAgg159
 z27 := Tryz.sizeOf159
 v27 := Tryz.zeroValue159
 t28 := Tryz.underlying160
 a28 := Tryz.isAgg160
 z28 := Tryz.sizeOf160
 v28 := Tryz.zeroValue160
 t33 := Tryz.underlying194
 a33 := Tryz.isAgg194
 z33 := Tryz.sizeOf194
 v33 := Tryz.zeroValue194 }
def Tryz.sortedA_ren : Go.Shelf.Ren := ⟨fun | 6 => 85 | 8 => 135 | 9 => 43 | 11 => 205 | 13 => 89 | 12 => 88 | 23 => 146 | 24 => 147 | 14 => 137 | 15 => 138 | 16 => 139 | 17 => 140 | 18 => 141 | 19 => 142 | 20 => 143 | 21 => 144 | 22 => 145 | 25 => 206 | 26 => 207 | 27 => 208 | 28 => 209 | 29 => 210 | 30 => 211 | 31 => 260 | n => n, fun | 26 => 9 | 28 => 160 | 24 => 47 | 0 => 0 | 3 => 3 | 37 => 166 | 48 => 241 | 50 => 188 | 4 => 4 | 40 => 235 | 39 => 234 | 45 => 200 | 5 => 5 | 9 => 9 | 51 => 284 | 55 => 288 | 57 => 336 | 58 => 337 | 33 => 194 | n => n, fun | n => n⟩
theorem Tryz.sortedA : Go.Proofs.SlLaysZ.n6 Tryz.prog Tryz.sortedA_ren := {
 mixed := by kernel_rfl
 f6 := ⟨Tryz.f85.name, by decide, Tryz.func85.trans (congrArg some (by kernel_rfl))⟩
 f8 := ⟨Tryz.f135.name, by decide, Tryz.func135.trans (congrArg some (by kernel_rfl))⟩
 f11 := ⟨Tryz.f205.name, by decide, Tryz.func205.trans (congrArg some (by kernel_rfl))⟩
 t0 := Tryz.underlying0
 a0 := Tryz.isAgg0
 z0 := Tryz.sizeOf0
 v0 := Tryz.zeroValue0
 t24 := Tryz.underlying47
 a24 := Tryz.isAgg47
 z24 := Tryz.sizeOf47
 v24 := Tryz.zeroValue47
 t26 := Tryz.underlying9
 a26 := Tryz.isAgg9
 z26 := Tryz.sizeOf9
 v26 := Tryz.zeroValue9
 t28 := Tryz.underlying160
 a28 := Tryz.isAgg160
 z28 := Tryz.sizeOf160
 v28 := Tryz.zeroValue160
 i26 := by kernel_rfl }
def Tryz.sortA_ren : Go.Shelf.Ren := ⟨fun | 6 => 43 | 8 => 89 | 9 => 88 | 19 => 146 | 20 => 147 | 21 => 137 | 22 => 138 | 23 => 139 | 24 => 140 | 25 => 141 | 26 => 142 | 27 => 143 | 28 => 144 | 29 => 145 | 36 => 206 | 31 => 207 | 32 => 208 | 37 => 209 | 38 => 210 | 39 => 211 | 41 => 260 | n => n, fun | 27 => 47 | 29 => 9 | 3 => 3 | 32 => 166 | 26 => 47 | 0 => 0 | 44 => 241 | 46 => 188 | 4 => 4 | 36 => 235 | 35 => 234 | 41 => 200 | 5 => 5 | 9 => 9 | 53 => 284 | 57 => 288 | 63 => 336 | 64 => 337 | n => n, fun | n => n⟩
theorem Tryz.sortA : Go.Proofs.SlLaysM.n6 Tryz.prog Tryz.sortA_ren := {
 mixed := by kernel_rfl
 f6 := ⟨Tryz.f43.name, by decide, Tryz.func43.trans (congrArg some (by kernel_rfl))⟩
 f8 := Tryz.func89.trans (congrArg some (by kernel_rfl))
 f9 := ⟨Tryz.f88.name, by decide, Tryz.func88.trans (congrArg some (by kernel_rfl))⟩
 f19 := Tryz.func146.trans (congrArg some (by kernel_rfl))
 f20 := Tryz.func147.trans (congrArg some (by kernel_rfl))
 f21 := ⟨Tryz.f137.name, by decide, Tryz.func137.trans (congrArg some (by kernel_rfl))⟩
 f22 := ⟨Tryz.f138.name, by decide, Tryz.func138.trans (congrArg some (by kernel_rfl))⟩
 f23 := ⟨Tryz.f139.name, by decide, Tryz.func139.trans (congrArg some (by kernel_rfl))⟩
 f24 := ⟨Tryz.f140.name, by decide, Tryz.func140.trans (congrArg some (by kernel_rfl))⟩
 f25 := ⟨Tryz.f141.name, by decide, Tryz.func141.trans (congrArg some (by kernel_rfl))⟩
 f26 := ⟨Tryz.f142.name, by decide, Tryz.func142.trans (congrArg some (by kernel_rfl))⟩
 f27 := ⟨Tryz.f143.name, by decide, Tryz.func143.trans (congrArg some (by kernel_rfl))⟩
 f28 := ⟨Tryz.f144.name, by decide, Tryz.func144.trans (congrArg some (by kernel_rfl))⟩
 f29 := ⟨Tryz.f145.name, by decide, Tryz.func145.trans (congrArg some (by kernel_rfl))⟩
 f31 := Tryz.func207.trans (congrArg some (by kernel_rfl))
 f32 := Tryz.func208.trans (congrArg some (by kernel_rfl))
 f36 := ⟨Tryz.f206.name, by decide, Tryz.func206.trans (congrArg some (by kernel_rfl))⟩
 f37 := ⟨Tryz.f209.name, by decide, Tryz.func209.trans (congrArg some (by kernel_rfl))⟩
 f38 := ⟨Tryz.f210.name, by decide, Tryz.func210.trans (congrArg some (by kernel_rfl))⟩
 f39 := ⟨Tryz.f211.name, by decide, Tryz.func211.trans (congrArg some (by kernel_rfl))⟩
 f41 := ⟨Tryz.f260.name, by decide, Tryz.func260.trans (congrArg some (by kernel_rfl))⟩
 t0 := Tryz.underlying0
 a0 := Tryz.isAgg0
 z0 := Tryz.sizeOf0
 v0 := Tryz.zeroValue0
 t3 := Tryz.underlying3
 a3 := Tryz.isAgg3
 z3 := Tryz.sizeOf3
 v3 := Tryz.zeroValue3
 t4 := Tryz.underlying4
 a4 := Tryz.isAgg4
 z4 := Tryz.sizeOf4
 v4 := Tryz.zeroValue4
 t5 := Tryz.underlying5
 a5 := Tryz.isAgg5
 z5 := Tryz.sizeOf5
 v5 := Tryz.zeroValue5
 t9 := Tryz.underlying9
 a9 := Tryz.isAgg9
 z9 := Tryz.sizeOf9
 v9 := Tryz.zeroValue9
 t26 := Tryz.underlying47
 a26 := Tryz.isAgg47
 z26 := Tryz.sizeOf47
 v26 := Tryz.zeroValue47
 t27 := Tryz.underlying47
 a27 := Tryz.isAgg47
 z27 := Tryz.sizeOf47
 v27 := Tryz.zeroValue47
 t29 := Tryz.underlying9
 a29 := Tryz.isAgg9
 z29 := Tryz.sizeOf9
 v29 := Tryz.zeroValue9
 t32 := Tryz.underlying166
 a32 := Tryz.isAgg166
 z32 := Tryz.sizeOf166
 v32 := Tryz.zeroValue166
 t35 := Tryz.underlying234
 a35 := Tryz.isAgg234
 z35 := Tryz.sizeOf234
 v35 := Tryz.zeroValue234
 t36 := Tryz.underlying235
 a36 := Tryz.isAgg235
 z36 := Tryz.sizeOf235
 v36 := Tryz.zeroValue235
 t41 := Tryz.underlying200
 a41 := Tryz.isAgg200
 z41 := Tryz.sizeOf200
 v41 := Tryz.zeroValue200
 t44 := Tryz.underlying241
 a44 := Tryz.isAgg241
 z44 := Tryz.sizeOf241
 v44 := Tryz.zeroValue241
 t46 := Tryz.underlying188
 a46 := Tryz.isAgg188
 z46 := Tryz.sizeOf188
 v46 := Tryz.zeroValue188
 t53 := Tryz.underlying284
 a53 := Tryz.isAgg284
 z53 := Tryz.sizeOf284
 v53 := Tryz.zeroValue284
 t57 := Tryz.underlying288
 a57 := Tryz.isAgg288
 z57 := Tryz.sizeOf288
 v57 := Tryz.zeroValue288
 t63 := Tryz.underlying336
 a63 := Tryz.isAgg336
 z63 := Tryz.sizeOf336
 v63 := Tryz.zeroValue336
 t64 := Tryz.underlying337
 a64 := Tryz.isAgg337
 z64 := Tryz.sizeOf337
 v64 := Tryz.zeroValue337 }
end Go.Proofs
namespace Go.Proofs
open Go.RowKit Go.Maps Go.Sort Go.Shelf Go.Ce
theorem Tryz.sortsA (m : Nat) : AnyZ.SortsIn Tryz.prog Tryz.sortedA_ren Fence.wide m :=
  ⟨fun blk off cap ss W hH hblk hsz => callsIn_wide.2 (AnyM.slices_Sort_string Tryz.sortA blk off cap ss W hH hblk hsz),
   fun p cap W => callsIn_wide.2 (AnyM.slices_Sort_string_none Tryz.sortA p cap W)⟩
theorem Tryz.sort_ok (lo : Nat) (A : W) (args : List AV) (v : AV) (A' : W) (h : Mx 136 9 lo A args = some (v, A')) : bD Tryz.prog lo 85 args A (.ret v) A' :=
 zCv (ρ := Tryz.sortedA_ren) (ρ' := Tryz.keysA_ren) Tryz.sortedA { Tryz.keysA with } Tryz.sortsA (fun xs w => Tryz.call85 xs w) (enters_of Tryz.func43 (by kernel_rfl) rfl) (enters_of Tryz.func136 (by kernel_rfl) rfl) (by kernel_rfl) lo A args v A' h
end Go.Proofs
