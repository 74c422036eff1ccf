/- Part of a proof over this seat: a library of my own, and what it says of this seat. No statement is proved here. -/
import Derived.Shelf.Strings.Builder1
import Derived.Shelf.Strings.Builder2
import Derived.Shelf.Strings.OnBuilder
import Derived.Shelf.Small.Utf8
import Derived.Shelf.Small.Bits
import Derived.Shelf.Small.Strs
import Derived.Shelf.Strings.BuilderF
import Derived.Shelf.Strings.BuilderK
import Derived.Shelf.Utf8.RuneCount
import Derived.Shelf.Strconv.Itoa0
import Derived.Shelf.Strconv.Itoa1
import Derived.Shelf.LaysM
import Derived.Shelf.Strconv.Itoa2
import Derived.Shelf.Strconv.Itoa3
import Derived.Shelf.Strings.Search1
import Derived.Shelf.Strings.Search2
import Derived.Shelf.Strings.Search3
import Derived.Shelf.Strings.Cut
import Derived.Shelf.Strings.Count
import Derived.Shelf.Strings.Shaped
import Derived.Shelf.Sort.Plain
import Derived.Shelf.Strings.Split
import Derived.Shelf.Strings.Replace
import Derived.Shelf.Strings.SplitShaped
import Derived.Shelf.Unicode.Decode
import Derived.Shelf.Strings.Runes
import Derived.Shelf.Strings.RuneCount
import Derived.Shelf.Strings.IndexAny
import Derived.Shelf.Strings.AsciiSet
import Derived.Shelf.Strings.IndexAnyAll
import Derived.Shelf.Unicode.DecodeSlow
import Derived.Shelf.Unicode.DecodeAny
import Derived.Shelf.Unicode.DecodeLast
import Derived.Ground.Names2Prog
import Derived.Shelf.Slices.Clone
import Derived.Shelf.Slices.CompactS
import Derived.Shelf.Slices.Cells
import Derived.Shelf.Slices.In.SortNone
import Derived.Ground.SlgnProg
import Derived.Shelf.SlicesE.Clone
import Derived.Test.YtclpnkdjjhclnaaGreatDoorProg
namespace Go.Proofs
open Go.Shelf
def Tryz.lays156_ren : Go.Shelf.Ren := ⟨fun | 156 => 26 | 165 => 50 | 166 => 51 | 169 => 52 | 240 => 79 | 241 => 80 | 276 => 115 | 277 => 116 | n => n, fun | 31 => 43 | 9 => 9 | 3 => 3 | 4 => 4 | 0 => 0 | 20 => 20 | 72 => 101 | 76 => 105 | 70 => 99 | 37 => 23 | 75 => 104 | 127 => 122 | 164 => 166 | 5 => 5 | 80 => 96 | n => n, fun | n => n⟩
theorem Tryz.lays156 : Go.Proofs.Lays.n156 Tryz.prog Tryz.lays156_ren := {
 mixed := by kernel_rfl
 f156 := Tryz.func26.trans (congrArg some (by kernel_rfl))
 f165 := Tryz.func50.trans (congrArg some (by kernel_rfl))
 f166 := Tryz.func51.trans (congrArg some (by kernel_rfl))
 f169 := Tryz.func52.trans (congrArg some (by kernel_rfl))
 f240 := Tryz.func79.trans (congrArg some (by kernel_rfl))
 f241 := Tryz.func80.trans (congrArg some (by kernel_rfl))
 f276 := Tryz.func115.trans (congrArg some (by kernel_rfl))
 f277 := Tryz.func116.trans (congrArg some (by kernel_rfl))
 t0 := Tryz.underlying0
 a0 := Tryz.isAgg0
 z0 := Tryz.sizeOf0
 v0 := Tryz.zeroValue0
 t3 := Tryz.underlying3
 a3 := Tryz.isAgg3
 z3 := Tryz.sizeOf3
 v3 := Tryz.zeroValue3
 t4 := Tryz.underlying4
 a4 := Tryz.isAgg4
 z4 := Tryz.sizeOf4
 v4 := Tryz.zeroValue4
 t9 := Tryz.underlying9
 a9 := Tryz.isAgg9
 z9 := Tryz.sizeOf9
 v9 := Tryz.zeroValue9
 t20 := Tryz.underlying20
 a20 := Tryz.isAgg20
 z20 := Tryz.sizeOf20
 v20 := Tryz.zeroValue20
 t31 := Tryz.underlying43
 a31 := Tryz.isAgg43
 z31 := Tryz.sizeOf43
 v31 := Tryz.zeroValue43
 t37 := Tryz.underlying23
 a37 := Tryz.isAgg23
 z37 := Tryz.sizeOf23
 v37 := Tryz.zeroValue23
 t70 := Tryz.underlying99
 a70 := Tryz.isAgg99
 z70 := Tryz.sizeOf99
 v70 := Tryz.zeroValue99
 t72 := Tryz.underlying101
 a72 := Tryz.isAgg101
 z72 := Tryz.sizeOf101
 v72 := Tryz.zeroValue101
 t75 := Tryz.underlying104
 a75 := Tryz.isAgg104
 z75 := Tryz.sizeOf104
 v75 := Tryz.zeroValue104
 t76 := Tryz.underlying105
 a76 := Tryz.isAgg105
 z76 := Tryz.sizeOf105
 v76 := Tryz.zeroValue105
 t127 := Tryz.underlying122
 a127 := Tryz.isAgg122
 z127 := Tryz.sizeOf122
 v127 := Tryz.zeroValue122
 t164 := Tryz.underlying166
 a164 := Tryz.isAgg166
 z164 := Tryz.sizeOf166
 v164 := Tryz.zeroValue166 }
theorem Tryz.Builder_Extra_156 : Builder.Extra Tryz.prog Tryz.lays156_ren := {
 sizeBuilder := by kernel_rfl
 liesBuilder := by kernel_rfl
 t5 := Tryz.underlying5
 a5 := Tryz.isAgg5
 z5 := Tryz.sizeOf5
 v5 := Tryz.zeroValue5
 infoByte := by kernel_rfl
 cellsByte := by kernel_rfl
 sizeByte := by kernel_rfl
 neB5 := by decide }
open Go.RowKit in
theorem Tryz.strings_Join_none (a : Option Addr) (c : Nat) (sep : ByteArray) (w : World) :
  Calls Tryz.prog 26 #[.slice a 0 c, .string sep] w fun e w' => e = .returned (.string ⟨#[]⟩) ∧ w' = w := Any.strings_Join_none Tryz.lays156 Tryz.Builder_Extra_156 a c sep w
open Go.RowKit in
theorem Tryz.strings_Join (bk o c : Nat) (xs : List ByteArray) (sep : ByteArray) (w : World) (hcells : ∀ (j : Nat) x, xs[j]? = some x -> w.cell? ⟨bk, o + j, none⟩ = some (.string x)) (hbk : bk < w.heap.size) (hN : xs.length <= 140737488355328) (hcap : xs.length <= c) (hlen : (Lib.join (xs.map (·.data.toList)) sep.data.toList).length <= 140737488355328) :
  Calls Tryz.prog 26 #[.slice (some ⟨bk, o, none⟩) xs.length c, .string sep] w fun e w' => e = .returned (.string ⟨(Lib.join (xs.map (·.data.toList)) sep.data.toList).toArray⟩) ∧ Below w.heap.size w w' := Any.strings_Join Tryz.lays156 Tryz.Builder_Extra_156 bk o c xs sep w hcells hbk hN hcap hlen
def Tryz.lays137_ren : Go.Shelf.Ren := ⟨fun | 137 => 28 | 217 => 53 | 266 => 81 | n => n, fun | 9 => 9 | 5 => 5 | 3 => 3 | n => n, fun | n => n⟩
theorem Tryz.lays137 : Go.Proofs.Lays.n137 Tryz.prog Tryz.lays137_ren := {
 mixed := by kernel_rfl
 f137 := Tryz.func28.trans (congrArg some (by kernel_rfl))
 f217 := Tryz.func53.trans (congrArg some (by kernel_rfl))
 f266 := Tryz.func81.trans (congrArg some (by kernel_rfl))
 t3 := Tryz.underlying3
 a3 := Tryz.isAgg3
 z3 := Tryz.sizeOf3
 v3 := Tryz.zeroValue3
 t5 := Tryz.underlying5
 a5 := Tryz.isAgg5
 z5 := Tryz.sizeOf5
 v5 := Tryz.zeroValue5
 t9 := Tryz.underlying9
 a9 := Tryz.isAgg9
 z9 := Tryz.sizeOf9
 v9 := Tryz.zeroValue9 }
open Go.RowKit in
theorem Tryz.strings_IndexByte (s : ByteArray) (c : Int) (w : World) :
  Calls Tryz.prog 28 #[.string s, .int .u8 c] w fun e w' => e = .returned (.int .i64 (Lib.indexByte s.data.toList c.toNat.toUInt8)) ∧ w' = w := Any.strings_IndexByte Tryz.lays137 s c w
def Tryz.lays190_ren : Go.Shelf.Ren := ⟨fun | 190 => 61 | 125 => 93 | 258 => 92 | 128 => 136 | 129 => 137 | 302 => 127 | 303 => 128 | 304 => 129 | 305 => 130 | 306 => 131 | 307 => 132 | 308 => 133 | 309 => 134 | 310 => 135 | 333 => 160 | 329 => 161 | 330 => 162 | 334 => 163 | 335 => 164 | 336 => 165 | 344 => 183 | n => n, fun | 31 => 43 | 9 => 9 | 3 => 3 | 46 => 135 | 0 => 0 | 51 => 181 | 53 => 143 | 4 => 4 | 183 => 175 | 182 => 174 | 131 => 92 | 5 => 5 | 218 => 209 | 222 => 213 | 228 => 235 | 229 => 236 | n => n, fun | n => n⟩
theorem Tryz.lays190 : Go.Proofs.Lays.n190 Tryz.prog Tryz.lays190_ren := {
 mixed := by kernel_rfl
 f125 := Tryz.func93.trans (congrArg some (by kernel_rfl))
 f128 := Tryz.func136.trans (congrArg some (by kernel_rfl))
 f129 := Tryz.func137.trans (congrArg some (by kernel_rfl))
 f190 := Tryz.func61.trans (congrArg some (by kernel_rfl))
 f258 := Tryz.func92.trans (congrArg some (by kernel_rfl))
 f302 := Tryz.func127.trans (congrArg some (by kernel_rfl))
 f303 := Tryz.func128.trans (congrArg some (by kernel_rfl))
 f304 := Tryz.func129.trans (congrArg some (by kernel_rfl))
 f305 := Tryz.func130.trans (congrArg some (by kernel_rfl))
 f306 := Tryz.func131.trans (congrArg some (by kernel_rfl))
 f307 := Tryz.func132.trans (congrArg some (by kernel_rfl))
 f308 := Tryz.func133.trans (congrArg some (by kernel_rfl))
 f309 := Tryz.func134.trans (congrArg some (by kernel_rfl))
 f310 := Tryz.func135.trans (congrArg some (by kernel_rfl))
 f329 := Tryz.func161.trans (congrArg some (by kernel_rfl))
 f330 := Tryz.func162.trans (congrArg some (by kernel_rfl))
 f333 := Tryz.func160.trans (congrArg some (by kernel_rfl))
 f334 := Tryz.func163.trans (congrArg some (by kernel_rfl))
 f335 := Tryz.func164.trans (congrArg some (by kernel_rfl))
 f336 := Tryz.func165.trans (congrArg some (by kernel_rfl))
 f344 := Tryz.func183.trans (congrArg some (by kernel_rfl))
 t0 := Tryz.underlying0
 a0 := Tryz.isAgg0
 z0 := Tryz.sizeOf0
 v0 := Tryz.zeroValue0
 t3 := Tryz.underlying3
 a3 := Tryz.isAgg3
 z3 := Tryz.sizeOf3
 v3 := Tryz.zeroValue3
 t4 := Tryz.underlying4
 a4 := Tryz.isAgg4
 z4 := Tryz.sizeOf4
 v4 := Tryz.zeroValue4
 t5 := Tryz.underlying5
 a5 := Tryz.isAgg5
 z5 := Tryz.sizeOf5
 v5 := Tryz.zeroValue5
 t9 := Tryz.underlying9
 a9 := Tryz.isAgg9
 z9 := Tryz.sizeOf9
 v9 := Tryz.zeroValue9
 t31 := Tryz.underlying43
 a31 := Tryz.isAgg43
 z31 := Tryz.sizeOf43
 v31 := Tryz.zeroValue43
 t46 := Tryz.underlying135
 a46 := Tryz.isAgg135
 z46 := Tryz.sizeOf135
 v46 := Tryz.zeroValue135
 t51 := Tryz.underlying181
 a51 := Tryz.isAgg181
 z51 := Tryz.sizeOf181
 v51 := Tryz.zeroValue181
 t53 := Tryz.underlying143
 a53 := Tryz.isAgg143
 z53 := Tryz.sizeOf143
 v53 := Tryz.zeroValue143
 t131 := Tryz.underlying92
 a131 := Tryz.isAgg92
 z131 := Tryz.sizeOf92
 v131 := Tryz.zeroValue92
 t182 := Tryz.underlying174
 a182 := Tryz.isAgg174
 z182 := Tryz.sizeOf174
 v182 := Tryz.zeroValue174
 t183 := Tryz.underlying175
 a183 := Tryz.isAgg175
 z183 := Tryz.sizeOf175
 v183 := Tryz.zeroValue175
 t218 := Tryz.underlying209
 a218 := Tryz.isAgg209
 z218 := Tryz.sizeOf209
 v218 := Tryz.zeroValue209
 t222 := Tryz.underlying213
 a222 := Tryz.isAgg213
 z222 := Tryz.sizeOf213
 v222 := Tryz.zeroValue213
 t228 := Tryz.underlying235
 a228 := Tryz.isAgg235
 z228 := Tryz.sizeOf235
 v228 := Tryz.zeroValue235
 t229 := Tryz.underlying236
 a229 := Tryz.isAgg236
 z229 := Tryz.sizeOf236
 v229 := Tryz.zeroValue236 }
open Go.Sort Go.RowKit in
theorem Tryz.slices_Sort_string (blk off cap : Nat) (ss : List (List UInt8)) (w : World) (hH : Holds encStr w blk off ss.toArray) (hblk : blk < w.heap.size) (hsz : ss.length < 4611686018427387904) :
  Calls Tryz.prog 61 #[.slice (some ⟨blk, off, none⟩) ss.length cap] w fun e w' =>
   e = .returned (.tuple #[]) ∧ ∃ n os, w' = grow (putRow encStr (Sort.ahead w n) blk off (ss.mergeSort fun x y => decide (x <= y)).toArray) os := Any.slices_Sort_string Tryz.lays190 blk off cap ss w hH hblk hsz
def Tryz.lays155_ren : Go.Shelf.Ren := ⟨fun | 155 => 30 | 154 => 55 | 138 => 82 | 165 => 50 | 143 => 83 | 166 => 51 | 197 => 84 | 169 => 52 | 195 => 117 | 218 => 118 | 240 => 79 | 241 => 80 | 219 => 85 | 260 => 119 | 276 => 115 | 277 => 116 | 217 => 53 | 225 => 120 | 224 => 121 | 267 => 122 | 266 => 81 | 314 => 158 | n => n, fun | 9 => 9 | 3 => 3 | 4 => 4 | 72 => 101 | 0 => 0 | 76 => 105 | 105 => 124 | 21 => 21 | 5 => 5 | 70 => 99 | 20 => 20 | 37 => 23 | 75 => 104 | 127 => 122 | 164 => 166 | 46 => 135 | 119 => 152 | 139 => 205 | 138 => 204 | 146 => 206 | 51 => 181 | 80 => 96 | n => n, fun | 1 => 0 | 3 => 1 | 4 => 2 | n => n⟩
theorem Tryz.lays155 : Go.Proofs.Lays.n155 Tryz.prog Tryz.lays155_ren := {
 mixed := by kernel_rfl
 f138 := Tryz.func82.trans (congrArg some (by kernel_rfl))
 f143 := Tryz.func83.trans (congrArg some (by kernel_rfl))
 f154 := Tryz.func55.trans (congrArg some (by kernel_rfl))
 f155 := Tryz.func30.trans (congrArg some (by kernel_rfl))
 f165 := Tryz.func50.trans (congrArg some (by kernel_rfl))
 f166 := Tryz.func51.trans (congrArg some (by kernel_rfl))
 f169 := Tryz.func52.trans (congrArg some (by kernel_rfl))
 f195 := Tryz.func117.trans (congrArg some (by kernel_rfl))
 f197 := Tryz.func84.trans (congrArg some (by kernel_rfl))
 f217 := Tryz.func53.trans (congrArg some (by kernel_rfl))
 f218 := Tryz.func118.trans (congrArg some (by kernel_rfl))
 f219 := Tryz.func85.trans (congrArg some (by kernel_rfl))
 f224 := Tryz.func121.trans (congrArg some (by kernel_rfl))
 f225 := Tryz.func120.trans (congrArg some (by kernel_rfl))
 f240 := Tryz.func79.trans (congrArg some (by kernel_rfl))
 f241 := Tryz.func80.trans (congrArg some (by kernel_rfl))
 f260 := Tryz.func119.trans (congrArg some (by kernel_rfl))
 f266 := Tryz.func81.trans (congrArg some (by kernel_rfl))
 f267 := Tryz.func122.trans (congrArg some (by kernel_rfl))
 f276 := Tryz.func115.trans (congrArg some (by kernel_rfl))
 f277 := Tryz.func116.trans (congrArg some (by kernel_rfl))
 f314 := Tryz.func158.trans (congrArg some (by kernel_rfl))
 t0 := Tryz.underlying0
 a0 := Tryz.isAgg0
 z0 := Tryz.sizeOf0
 v0 := Tryz.zeroValue0
 t3 := Tryz.underlying3
 a3 := Tryz.isAgg3
 z3 := Tryz.sizeOf3
 v3 := Tryz.zeroValue3
 t4 := Tryz.underlying4
 a4 := Tryz.isAgg4
 z4 := Tryz.sizeOf4
 v4 := Tryz.zeroValue4
 t5 := Tryz.underlying5
 a5 := Tryz.isAgg5
 z5 := Tryz.sizeOf5
 v5 := Tryz.zeroValue5
 t9 := Tryz.underlying9
 a9 := Tryz.isAgg9
 z9 := Tryz.sizeOf9
 v9 := Tryz.zeroValue9
 t20 := Tryz.underlying20
 a20 := Tryz.isAgg20
 z20 := Tryz.sizeOf20
 v20 := Tryz.zeroValue20
 t21 := Tryz.underlying21
 a21 := Tryz.isAgg21
 z21 := Tryz.sizeOf21
 v21 := Tryz.zeroValue21
 t37 := Tryz.underlying23
 a37 := Tryz.isAgg23
 z37 := Tryz.sizeOf23
 v37 := Tryz.zeroValue23
 t46 := Tryz.underlying135
 a46 := Tryz.isAgg135
 z46 := Tryz.sizeOf135
 v46 := Tryz.zeroValue135
 t51 := Tryz.underlying181
 a51 := Tryz.isAgg181
 z51 := Tryz.sizeOf181
 v51 := Tryz.zeroValue181
 t70 := Tryz.underlying99
 a70 := Tryz.isAgg99
 z70 := Tryz.sizeOf99
 v70 := Tryz.zeroValue99
 t72 := Tryz.underlying101
 a72 := Tryz.isAgg101
 z72 := Tryz.sizeOf101
 v72 := Tryz.zeroValue101
 t75 := Tryz.underlying104
 a75 := Tryz.isAgg104
 z75 := Tryz.sizeOf104
 v75 := Tryz.zeroValue104
 t76 := Tryz.underlying105
 a76 := Tryz.isAgg105
 z76 := Tryz.sizeOf105
 v76 := Tryz.zeroValue105
 t105 := Tryz.underlying124
 a105 := Tryz.isAgg124
 z105 := Tryz.sizeOf124
 v105 := Tryz.zeroValue124
 t119 := Tryz.underlying152
 a119 := Tryz.isAgg152
 z119 := Tryz.sizeOf152
 t127 := Tryz.underlying122
 a127 := Tryz.isAgg122
 z127 := Tryz.sizeOf122
 v127 := Tryz.zeroValue122
 t138 := Tryz.underlying204
 a138 := Tryz.isAgg204
 z138 := Tryz.sizeOf204
 v138 := Tryz.zeroValue204
 t139 := Tryz.underlying205
 a139 := Tryz.isAgg205
 z139 := Tryz.sizeOf205
 v139 := Tryz.zeroValue205
 t146 := Tryz.underlying206
 a146 := Tryz.isAgg206
 z146 := Tryz.sizeOf206
 v146 := Tryz.zeroValue206
 t164 := Tryz.underlying166
 a164 := Tryz.isAgg166
 z164 := Tryz.sizeOf166
 v164 := Tryz.zeroValue166
 g1 := by kernel_rfl
 g3 := by kernel_rfl
 g4 := by kernel_rfl }
theorem Tryz.Builder_Extra_155 : Builder.Extra Tryz.prog Tryz.lays155_ren := {
 sizeBuilder := by kernel_rfl
 liesBuilder := by kernel_rfl
 t5 := Tryz.underlying5
 a5 := Tryz.isAgg5
 z5 := Tryz.sizeOf5
 v5 := Tryz.zeroValue5
 infoByte := by kernel_rfl
 cellsByte := by kernel_rfl
 sizeByte := by kernel_rfl
 neB5 := by decide }
open Go.RowKit Go.Lib in
theorem Tryz.strings_ReplaceAll (s old new : ByteArray) (m : Int) (w : World) (hs : s.size < 4294967281) (hm : w.cell? ⟨0, 0, none⟩ = some (.int .i64 m)) (h1 : 1 <= old.size) (hlen : s.size + Lib.countB s old * new.size <= 140737488355328) :
  Calls Tryz.prog 30 #[.string s, .string old, .string new] w fun e w' =>
   e = .returned (.string ⟨(Lib.replaceAll s.data.toList old.data.toList new.data.toList).toArray⟩) ∧ Below w.heap.size w w' := Any.strings_ReplaceAll Tryz.lays155 Tryz.Builder_Extra_155 s old new m w hs hm h1 hlen
open Go.RowKit Go.Sort in
theorem Tryz.slices_Sort_string_none (p : Option Addr) (cap : Nat) (w : World) :
  Calls Tryz.prog 61 #[.slice p 0 cap] w fun e w' => e = .returned (.tuple #[]) ∧ w' = w := Any.slices_Sort_string_none Tryz.lays190 p cap w
end Go.Proofs
