/- Part of a proof over this seat: a library of my own, and what it says of this seat. No statement is proved here. -/
import Derived.Shelf.SlIter.Nil
import Derived.Shelf.SortM.Plain
import Derived.Shelf.SortM.SortNone
import Derived.Ground.GgzProg
import Derived.Ground.SlgmProg
import Derived.Test.YtlimifngdjkogaaGreatDoorProg
import Derived.Test.YtlimifngdjkogaaGreatDoorPartBJ
import Derived.Test.YtlimifngdjkogaaGreatDoorPartBD
namespace Go.Proofs
open Go.Shelf
def aA.keysA_ren : Go.Shelf.Ren := ⟨fun | 7 => 86 | 10 => 136 | n => n, fun | 23 => 138 | 26 => 9 | 3 => 3 | 28 => 160 | 0 => 0 | 27 => 159 | 33 => 194 | 4 => 4 | n => n, fun | n => n⟩
theorem aA.keysA : Go.Proofs.SlLaysZ.n7 aA.prog aA.keysA_ren := {
 mixed := by kernel_rfl
 f7 := ⟨aA.f86.name, by decide, aA.func86.trans (congrArg some (by kernel_rfl))⟩
 f10 := ⟨aA.f136.name, by decide, aA.func136.trans (congrArg some (by kernel_rfl))⟩
 t0 := aA.underlying0
 a0 := aA.isAgg0
 z0 := aA.sizeOf0
 v0 := aA.zeroValue0
 t4 := aA.underlying4
 a4 := aA.isAgg4
 z4 := aA.sizeOf4
 v4 := aA.zeroValue4
 t23 := aA.underlying138
 a23 := aA.isAgg138
 z23 := aA.sizeOf138
 v23 := aA.zeroValue138
 t26 := aA.underlying9
 a26 := aA.isAgg9
 z26 := aA.sizeOf9
 v26 := aA.zeroValue9
 t27 := aA.underlying159
 a27 := aA.isAgg159
 z27 := aA.sizeOf159
 v27 := aA.zeroValue159
 t28 := aA.underlying160
 a28 := aA.isAgg160
 z28 := aA.sizeOf160
 v28 := aA.zeroValue160
 t33 := aA.underlying194
 a33 := aA.isAgg194
 z33 := aA.sizeOf194
 v33 := aA.zeroValue194 }
def aA.sortedA_ren : Go.Shelf.Ren := ⟨fun | 6 => 85 | 8 => 135 | 9 => 43 | 11 => 205 | 13 => 89 | 12 => 88 | 23 => 146 | 24 => 147 | 14 => 137 | 15 => 138 | 16 => 139 | 17 => 140 | 18 => 141 | 19 => 142 | 20 => 143 | 21 => 144 | 22 => 145 | 25 => 206 | 26 => 207 | 27 => 208 | 28 => 209 | 29 => 210 | 30 => 211 | 31 => 260 | n => n, fun | 26 => 9 | 28 => 160 | 24 => 47 | 0 => 0 | 3 => 3 | 37 => 166 | 48 => 241 | 50 => 188 | 4 => 4 | 40 => 235 | 39 => 234 | 45 => 200 | 5 => 5 | 9 => 9 | 51 => 284 | 55 => 288 | 57 => 336 | 58 => 337 | 33 => 194 | n => n, fun | n => n⟩
theorem aA.sortedA : Go.Proofs.SlLaysZ.n6 aA.prog aA.sortedA_ren := {
 mixed := by kernel_rfl
 f6 := ⟨aA.f85.name, by decide, aA.func85.trans (congrArg some (by kernel_rfl))⟩
 f8 := ⟨aA.f135.name, by decide, aA.func135.trans (congrArg some (by kernel_rfl))⟩
 f11 := ⟨aA.f205.name, by decide, aA.func205.trans (congrArg some (by kernel_rfl))⟩
 t0 := aA.underlying0
 a0 := aA.isAgg0
 z0 := aA.sizeOf0
 v0 := aA.zeroValue0
 t24 := aA.underlying47
 a24 := aA.isAgg47
 z24 := aA.sizeOf47
 v24 := aA.zeroValue47
 t26 := aA.underlying9
 a26 := aA.isAgg9
 z26 := aA.sizeOf9
 v26 := aA.zeroValue9
 t28 := aA.underlying160
 a28 := aA.isAgg160
 z28 := aA.sizeOf160
 v28 := aA.zeroValue160
 i26 := by kernel_rfl }
def aA.sortA_ren : Go.Shelf.Ren := ⟨fun | 6 => 43 | 8 => 89 | 9 => 88 | 19 => 146 | 20 => 147 | 21 => 137 | 22 => 138 | 23 => 139 | 24 => 140 | 25 => 141 | 26 => 142 | 27 => 143 | 28 => 144 | 29 => 145 | 36 => 206 | 31 => 207 | 32 => 208 | 37 => 209 | 38 => 210 | 39 => 211 | 41 => 260 | n => n, fun | 27 => 47 | 29 => 9 | 3 => 3 | 32 => 166 | 26 => 47 | 0 => 0 | 44 => 241 | 46 => 188 | 4 => 4 | 36 => 235 | 35 => 234 | 41 => 200 | 5 => 5 | 9 => 9 | 53 => 284 | 57 => 288 | 63 => 336 | 64 => 337 | n => n, fun | n => n⟩
theorem aA.sortA : Go.Proofs.SlLaysM.n6 aA.prog aA.sortA_ren := {
 mixed := by kernel_rfl
 f6 := ⟨aA.f43.name, by decide, aA.func43.trans (congrArg some (by kernel_rfl))⟩
 f8 := aA.func89.trans (congrArg some (by kernel_rfl))
 f9 := ⟨aA.f88.name, by decide, aA.func88.trans (congrArg some (by kernel_rfl))⟩
 f19 := aA.func146.trans (congrArg some (by kernel_rfl))
 f20 := aA.func147.trans (congrArg some (by kernel_rfl))
 f21 := ⟨aA.f137.name, by decide, aA.func137.trans (congrArg some (by kernel_rfl))⟩
 f22 := ⟨aA.f138.name, by decide, aA.func138.trans (congrArg some (by kernel_rfl))⟩
 f23 := ⟨aA.f139.name, by decide, aA.func139.trans (congrArg some (by kernel_rfl))⟩
 f24 := ⟨aA.f140.name, by decide, aA.func140.trans (congrArg some (by kernel_rfl))⟩
 f25 := ⟨aA.f141.name, by decide, aA.func141.trans (congrArg some (by kernel_rfl))⟩
 f26 := ⟨aA.f142.name, by decide, aA.func142.trans (congrArg some (by kernel_rfl))⟩
 f27 := ⟨aA.f143.name, by decide, aA.func143.trans (congrArg some (by kernel_rfl))⟩
 f28 := ⟨aA.f144.name, by decide, aA.func144.trans (congrArg some (by kernel_rfl))⟩
 f29 := ⟨aA.f145.name, by decide, aA.func145.trans (congrArg some (by kernel_rfl))⟩
 f31 := aA.func207.trans (congrArg some (by kernel_rfl))
 f32 := aA.func208.trans (congrArg some (by kernel_rfl))
 f36 := ⟨aA.f206.name, by decide, aA.func206.trans (congrArg some (by kernel_rfl))⟩
 f37 := ⟨aA.f209.name, by decide, aA.func209.trans (congrArg some (by kernel_rfl))⟩
 f38 := ⟨aA.f210.name, by decide, aA.func210.trans (congrArg some (by kernel_rfl))⟩
 f39 := ⟨aA.f211.name, by decide, aA.func211.trans (congrArg some (by kernel_rfl))⟩
 f41 := ⟨aA.f260.name, by decide, aA.func260.trans (congrArg some (by kernel_rfl))⟩
 t0 := aA.underlying0
 a0 := aA.isAgg0
 z0 := aA.sizeOf0
 v0 := aA.zeroValue0
 t3 := aA.underlying3
 a3 := aA.isAgg3
 z3 := aA.sizeOf3
 v3 := aA.zeroValue3
 t4 := aA.underlying4
 a4 := aA.isAgg4
 z4 := aA.sizeOf4
 v4 := aA.zeroValue4
 t5 := aA.underlying5
 a5 := aA.isAgg5
 z5 := aA.sizeOf5
 v5 := aA.zeroValue5
 t9 := aA.underlying9
 a9 := aA.isAgg9
 z9 := aA.sizeOf9
 v9 := aA.zeroValue9
 t26 := aA.underlying47
 a26 := aA.isAgg47
 z26 := aA.sizeOf47
 v26 := aA.zeroValue47
 t27 := aA.underlying47
 a27 := aA.isAgg47
 z27 := aA.sizeOf47
 v27 := aA.zeroValue47
 t29 := aA.underlying9
 a29 := aA.isAgg9
 z29 := aA.sizeOf9
 v29 := aA.zeroValue9
 t32 := aA.underlying166
 a32 := aA.isAgg166
 z32 := aA.sizeOf166
 v32 := aA.zeroValue166
 t35 := aA.underlying234
 a35 := aA.isAgg234
 z35 := aA.sizeOf234
 v35 := aA.zeroValue234
 t36 := aA.underlying235
 a36 := aA.isAgg235
 z36 := aA.sizeOf235
 v36 := aA.zeroValue235
 t41 := aA.underlying200
 a41 := aA.isAgg200
 z41 := aA.sizeOf200
 v41 := aA.zeroValue200
 t44 := aA.underlying241
 a44 := aA.isAgg241
 z44 := aA.sizeOf241
 v44 := aA.zeroValue241
 t46 := aA.underlying188
 a46 := aA.isAgg188
 z46 := aA.sizeOf188
 v46 := aA.zeroValue188
 t53 := aA.underlying284
 a53 := aA.isAgg284
 z53 := aA.sizeOf284
 v53 := aA.zeroValue284
 t57 := aA.underlying288
 a57 := aA.isAgg288
 z57 := aA.sizeOf288
 v57 := aA.zeroValue288
 t63 := aA.underlying336
 a63 := aA.isAgg336
 z63 := aA.sizeOf336
 v63 := aA.zeroValue336
 t64 := aA.underlying337
 a64 := aA.isAgg337
 z64 := aA.sizeOf337
 v64 := aA.zeroValue337 }
end Go.Proofs
namespace Go.Proofs
open Go.RowKit Go.Maps Go.Sort Go.Shelf Go.Ce
theorem aA.sortsA (m : Nat) : AnyZ.SortsIn aA.prog aA.sortedA_ren Fence.wide m :=
  ⟨fun blk off cap ss W hH hblk hsz => callsIn_wide.2 (AnyM.slices_Sort_string aA.sortA blk off cap ss W hH hblk hsz),
   fun p cap W => callsIn_wide.2 (AnyM.slices_Sort_string_none aA.sortA p cap W)⟩
theorem aA.sort_ok (lo : Nat) (A : W) (args : List AV) (v : AV) (A' : W) (h : Nl 136 9 lo A args = some (v, A')) : bJ aA.prog lo 85 args A (.ret v) A' :=
 zDg (ρ := aA.sortedA_ren) (ρ' := aA.keysA_ren) aA.sortedA { aA.keysA with } aA.sortsA (fun xs w => aA.call85 xs w) (enters_of aA.func43 (by kernel_rfl) rfl) (enters_of aA.func136 (by kernel_rfl) rfl) (by kernel_rfl) lo A args v A' h
end Go.Proofs
