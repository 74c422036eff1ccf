/- slices.Insert over files, by hand. No statement is proved here. -/
import Derived.Test.YtpehkjgbhnegmaaProg
import Derived.Test.YtpehkjgbhnegmaaLibFuns
import Derived.Test.YtpehkjgbhnegmaaDecCl
import Derived.Shelf.RegionOpenPlain
import Derived.WalkKit
import Derived.Lib.Walk
import Derived.Lib.SliceRun
import Derived.Lib.AppendZeros
import Derived.Lib.AppendZerosOnto
import Derived.Lib.Overlaps
import Derived.Lib.Builder
import Derived.Shelf.Spec.SlicesInsert
import Derived.Laws.Externs
import Derived.Laws.IdiomCopy
import Derived.Laws.CopyRow
import Derived.KernelRfl
namespace Go.Dec
open Go.Proofs Go.RowKit

theorem run_copy_rows {P : Program} (w : World) (dT sT ty elem : TypeId) (g o dLen dCap : Nat) (a : Addr) (sLen sCap : Nat) (cur : Array Value) (t : TypeId) (cs : List Value) {sz : Nat}
    (hu : P.underlying dT = some (.slice elem)) (hs : (P.info? elem).map (·.size) = some sz)
    (hg : w.heap[g]? = some (.cells cur t (0, 0))) (hn : cs.length = Nat.min sLen dLen * sz)
    (hsrc : ∀ j v, cs[j]? = some v → w.cell? (a.add j) = some v) (hfit : o + cs.length ≤ cur.size) (h1 : ∀ v ∈ cs, v.oneCell' = true) :
    (Builtin.copy_ #[dT, sT] ty #[.slice (some ⟨g, o, none⟩) dLen dCap, .slice (some a) sLen sCap]).run P w =
      .ok (goInt (Nat.min sLen dLen)) (w.setRow g (cur.toList.take o ++ cs ++ cur.toList.drop (o + cs.length)).toArray) := by
  have hl := run_loadCells_list (P := P) w a cs hsrc
  have hst := run_storeCells_at P g o t cs 0 cur w hg (by simpa using hfit) h1
  cases hq : P.info? elem with
  | none => simp [hq] at hs
  | some i =>
    simp [hq] at hs
    rw [hn] at hl
    simp [Builtin.copy_, run_underlying hu, Builtin.lenOf, Builtin.firstCells, sizeOf, typeInfo, hq, hs, hl]
    have hst' : (storeCells ⟨g, o, none⟩ cs).run P w = .ok () (w.setRow g (List.take o cur.toList ++ (cs ++ List.drop (o + cs.length) cur.toList)).toArray) := by simpa using hst
    rw [hst']
    rfl

set_option maxHeartbeats 4000000 in
set_option maxRecDepth 100000 in
theorem ins_shift (g n c i vb vc : Nat) (cur : Array Value) (vs : List Value) (w : World) (hi : i < n) (hroom : n + 1 ≤ c) (hc63 : c ≤ 9223372036854775807) (hvb : vb ≠ g)
    (hg : w.heap[g]? = some (.cells cur 62 (0, 0))) (hcs : cur.size = c * 2) (hvl : vs.length = 2) (hvs : ∀ j v, vs[j]? = some v → w.cell? ⟨vb, j, none⟩ = some v) (h1c : ∀ v ∈ cur.toList.take (n * 2), v.oneCell' = true) (h1v : ∀ v ∈ vs, v.oneCell' = true)
    (tA : TypeId) (kA : Nat) (hsa : w.shape? vb = some (tA, kA)) (hfa : w.frozen? ⟨vb, 0, none⟩ = false) (hfe : w.frozen? ⟨vb, kA, none⟩ = false) :
    Calls Try.prog 53 #[.slice (some ⟨g, 0, none⟩) n c, .int .i64 i, .slice (some ⟨vb, 0, none⟩) 1 vc] w fun e w' =>
      e = .returned (.slice (some ⟨g, 0, none⟩) (n + 1) c) ∧ w.grownBy w' (some g) ∧ ∃ cur' : Array Value, w'.heap[g]? = some (.cells cur' 62 (0, 0)) ∧ cur'.size = c * 2 ∧
        cur'.toList.take ((n + 1) * 2) = cur.toList.take (i * 2) ++ vs ++ (cur.toList.take (n * 2)).drop (i * 2) := by
  have hz1 : ¬ ((1 : Int) = 0) := by omega
  have hz2 : ¬ ((i : Int) = (n : Int)) := by omega
  have hsz : (Try.prog.info? 62).map (·.size) = some 2 := by kernel_rfl
  have mixed : Try.prog.follows .mixedOrders = true := by kernel_rfl
  have hw1 : IntKind.i64.wrap ((i : Int) + 1) = (i : Int) + 1 := by rw [IntKind.wrap_i64]; omega
  have hw2 : IntKind.i64.wrap ((n : Int) + 1) = (n : Int) + 1 := by rw [IntKind.wrap_i64]; omega
  have hin : i ≤ n := by omega
  have hb1 : (0 : Int) ≤ (i : Int) + 1 := by omega
  have hb2 : ¬ (c = i + 1) := by omega
  have hb3 : (i : Int) ≤ (n : Int) + 1 := by omega
  have hb4 : ¬ (c = i) := by omega
  have hb5 : i ≤ n + 1 := by omega
  have htn : ((i : Int) + 1).toNat = i + 1 := by omega
  have hov : ∀ lb cb, (callFunc 59 #[.slice (some ⟨vb, 0, none⟩) 1 vc, .slice (some ⟨g, (i + 1) * 2, none⟩) lb cb]).run Try.prog w = .ok (.value (.bool false)) w := fun lb cb => by
    rw [run_callFunc_extern Try.func59 (by kernel_rfl) (by kernel_rfl) (by kernel_rfl) (e := Extern.SlicesOverlaps.overlaps #[51, 51] #[4]) (by kernel_rfl),
      Lib.run_overlaps_apart w 51 4 62 Try.underlying51 2 Try.sizeOf62 ⟨vb, 0, none⟩ ⟨g, (i + 1) * 2, none⟩ 1 vc lb cb hvb tA 62 kA cur.size hsa (by simp [World.shape?, hg]) (by omega) hfa hfe]
    rfl
  have hdl : ((cur.toList.take (n * 2)).drop (i * 2)).length = (n - i) * 2 := by simp; omega
  have hgd : w.drew.heap[g]? = some (.cells cur 62 (0, 0)) := hg
  have hcp1 : ∀ ty dc sc, (Builtin.copy_ #[51, 51] ty #[.slice (some ⟨g, (i + 1) * 2, none⟩) (n - i) dc, .slice (some ⟨g, i * 2, none⟩) (n + 1 - i) sc]).run Try.prog w.drew = .ok (goInt (Nat.min (n + 1 - i) (n - i)))
      (w.drew.setRow g (cur.toList.take ((i + 1) * 2) ++ (cur.toList.take (n * 2)).drop (i * 2) ++ cur.toList.drop ((i + 1) * 2 + ((cur.toList.take (n * 2)).drop (i * 2)).length)).toArray) := fun ty dc sc =>
    run_copy_rows w.drew 51 51 ty 62 g ((i + 1) * 2) (n - i) dc ⟨g, i * 2, none⟩ (n + 1 - i) sc cur 62 _ Try.underlying51 hsz hgd (by rw [hdl, show Nat.min (n + 1 - i) (n - i) = n - i from Nat.min_eq_right (by omega)])
      (fun j v hj => by
        rw [addr_add, Go.Lib.cell_of_heap hgd]
        rw [List.getElem?_drop, List.getElem?_take] at hj
        split at hj
        · simpa using hj
        · cases hj) (by rw [hdl]; omega) (fun v hv => h1c v (List.mem_of_mem_drop hv))
  obtain ⟨cur1, hcur1⟩ : ∃ c1, c1 = (cur.toList.take ((i + 1) * 2) ++ (cur.toList.take (n * 2)).drop (i * 2) ++ cur.toList.drop ((i + 1) * 2 + ((cur.toList.take (n * 2)).drop (i * 2)).length)).toArray := ⟨_, rfl⟩
  rw [← hcur1] at hcp1
  obtain ⟨W1, hW1⟩ : ∃ W1, W1 = w.drew.setRow g cur1 := ⟨_, rfl⟩
  rw [← hW1] at hcp1
  have hg1 : W1.heap[g]? = some (.cells cur1 62 (0, 0)) := by rw [hW1]; exact setRow_heap w.drew g cur cur1 62 (0, 0) hgd
  have hal : (cur.toList.take ((i + 1) * 2)).length = (i + 1) * 2 := by simp; omega
  have hs1 : cur1.size = c * 2 := by
    rw [hcur1]
    simp only [List.size_toArray, List.length_append, hdl, List.length_drop, List.length_take, Array.length_toList]
    omega
  have hcell : ∀ j, W1.cell? ⟨vb, j, none⟩ = w.cell? ⟨vb, j, none⟩ := fun j => by
    rw [hW1]
    exact World.cell?_of_block (a := ⟨vb, j, none⟩) (setRow_other w.drew g vb cur1 hvb)
  have hcp2 : ∀ ty dc, (Builtin.copy_ #[51, 51] ty #[.slice (some ⟨g, i * 2, none⟩) (n + 1 - i) dc, .slice (some ⟨vb, 0, none⟩) 1 vc]).run Try.prog W1 = .ok (goInt (Nat.min 1 (n + 1 - i)))
      (W1.setRow g (cur1.toList.take (i * 2) ++ vs ++ cur1.toList.drop (i * 2 + vs.length)).toArray) := fun ty dc =>
    run_copy_rows W1 51 51 ty 62 g (i * 2) (n + 1 - i) dc ⟨vb, 0, none⟩ 1 vc cur1 62 vs Try.underlying51 hsz hg1 (by rw [hvl, show Nat.min 1 (n + 1 - i) = 1 from Nat.min_eq_left (by omega)])
      (fun j v hj => by rw [addr_add, Nat.zero_add, hcell]; exact hvs j v hj) (by omega) h1v
  have fin : w.grownBy (W1.setRow g (cur1.toList.take (i * 2) ++ vs ++ cur1.toList.drop (i * 2 + vs.length)).toArray) (some g) ∧ ∃ cur' : Array Value, (W1.setRow g (cur1.toList.take (i * 2) ++ vs ++ cur1.toList.drop (i * 2 + vs.length)).toArray).heap[g]? = some (.cells cur' 62 (0, 0)) ∧ cur'.size = c * 2 ∧
        cur'.toList.take ((n + 1) * 2) = cur.toList.take (i * 2) ++ vs ++ (cur.toList.take (n * 2)).drop (i * 2) := by
    refine ⟨?_, _, setRow_heap W1 g cur1 _ 62 (0, 0) hg1, ?_, ?_⟩
    · rw [hW1]
      exact ⟨rfl, rfl, rfl, by simp [World.setRow], fun k _ hk => (setRow_other _ g k _ (fun e => hk (by rw [e]))).trans (setRow_other w.drew g k _ (fun e => hk (by rw [e])))⟩
    · simp only [List.size_toArray, List.length_append, List.length_take, List.length_drop, Array.length_toList, hs1, hvl]
      omega
    · have e1 : cur1.toList.take (i * 2) = cur.toList.take (i * 2) := by
        rw [hcur1]
        simp only [List.append_assoc]
        rw [List.take_append_of_le_length (by rw [hal]; omega), List.take_take, Nat.min_eq_left (by omega)]
      have e2 : cur1.toList.drop (i * 2 + vs.length) = (cur.toList.take (n * 2)).drop (i * 2) ++ cur.toList.drop ((i + 1) * 2 + ((cur.toList.take (n * 2)).drop (i * 2)).length) := by
        rw [hcur1, hvl]
        simp only [List.append_assoc]
        rw [show i * 2 + 2 = (cur.toList.take ((i + 1) * 2)).length by rw [hal]; omega, List.drop_left]
      rw [e1, e2]
      simp only []
      rw [← List.append_assoc (_ ++ vs)]
      exact List.take_left' (by simp only [List.length_append, hdl, hvl, List.length_take, Array.length_toList]; omega)
  clear hW1 hcur1
  go_enter Try.func53, Try.ntmps53
  go_wp2_with (simp only [hov])
  go_region_law_o (refine step_copy_runI rfl _ _ 51 51 rfl _ _ (by simp [Act.eval, Act.put]) (by simp [Act.eval, Act.put]) (hcp1 _ _ _) ?_)
  go_wp2_with (at_builtin; refine wpList_copy_runI _ rfl _ _ 51 51 rfl _ _ rfl rfl (hcp2 _ _) ?_)
  go_ret
  rw [hvl] at fin
  simp only [List.append_assoc] at fin ⊢
  exact ⟨rfl, fin⟩

set_option maxHeartbeats 4000000 in
set_option maxRecDepth 100000 in
theorem ins_grow (g n c i vb vc : Nat) (cur : Array Value) (vs : List Value) (w : World) (hi : i < n) (hnc : n ≤ c) (hroom : c < n + 1) (hbig : (n + 1) * 32 ≤ 140737488355328)
    (hg : w.heap[g]? = some (.cells cur 62 (0, 0))) (hcs : cur.size = c * 2) (hvl : vs.length = 2) (hvs : ∀ j v, vs[j]? = some v → w.cell? ⟨vb, j, none⟩ = some v) (h1c : ∀ v ∈ cur.toList.take (n * 2), v.oneCell' = true) (h1v : ∀ v ∈ vs, v.oneCell' = true) :
    Calls Try.prog 53 #[.slice (some ⟨g, 0, none⟩) n c, .int .i64 i, .slice (some ⟨vb, 0, none⟩) 1 vc] w fun e w' =>
      ∃ C, e = .returned (.slice (some ⟨w.heap.size, 0, none⟩) (n + 1) C) ∧ n + 1 ≤ C ∧ C ≤ maxLen ∧ w.heap.size < w'.heap.size ∧ w.grownBy w' none ∧ ∃ cur' : Array Value, w'.heap[w.heap.size]? = some (.cells cur' 62 (0, 0)) ∧ cur'.size = C * 2 ∧
        cur'.toList.take ((n + 1) * 2) = cur.toList.take (i * 2) ++ vs ++ (cur.toList.take (n * 2)).drop (i * 2) := by
  have hsz : (Try.prog.info? 62).map (·.size) = some 2 := by kernel_rfl
  obtain ⟨i0, hi0, hz0, hz1, hz2⟩ := info_parts (show (Try.prog.info? 62).map (fun i => (i.zero, i.size, i.bytes)) = some (some (.agg #[.string ⟨#[]⟩, .string ⟨#[]⟩]), 2, 32) by kernel_rfl)
  have mixed : Try.prog.follows .mixedOrders = true := by kernel_rfl
  have hglt : g < w.heap.size := (Array.getElem?_eq_some_iff.1 hg).1
  have hC1 := grownCap_ge w (n + 1) c 62
  have hC2 := grownCap_le_maxLen w (n + 1) c 62 (by simp only [maxLen]; omega)
  have holds : ∀ j v, (cur.toList.take (i * 2))[j]? = some v → w.drew.cell? ((⟨g, 0, none⟩ : Addr).add j) = some v := fun j v hj => by
    rw [addr_add, Nat.zero_add, Go.Lib.cell_of_heap (show w.drew.heap[g]? = some (.cells cur 62 (0, 0)) from hg)]
    rw [List.getElem?_take] at hj
    split at hj
    · simpa using hj
    · cases hj
  have hap := Go.Lib.run_append_grow_zeros (P := Try.prog) w 51 3 51 62 i0 _ .i64 .i64 Try.underlying51 Try.underlying3 hi0 hz0 (some ⟨g, 0, none⟩) i c (cur.toList.take (i * 2))
    (by rw [hz1]; exact run_firstCells_some (P := Try.prog) w.drew 2 i ⟨g, 0, none⟩ i c _ (by simp; omega) holds) (n + 1 - i) (by omega) (by omega) (by omega) (by omega) (by rw [hz2]; omega)
    (by rw [hz2, show i + (n + 1 - i) = n + 1 by omega]; exact growslice_fits (by omega) (by omega))
  rw [show i + (n + 1 - i) = n + 1 by omega] at hap
  obtain ⟨C, hC⟩ : ∃ C, C = grownCap w (n + 1) c 62 := ⟨_, rfl⟩
  rw [← hC] at hap hC1 hC2
  obtain ⟨curA, hcurA⟩ : ∃ cA : Array Value, cA = (cur.toList.take (i * 2)).toArray ++ Builtin.zeroCells (Value.agg #[.string ⟨#[]⟩, .string ⟨#[]⟩]).cells (n + 1 - i) ++ Builtin.zeroCells (Value.agg #[.string ⟨#[]⟩, .string ⟨#[]⟩]).cells (C - (n + 1)) := ⟨_, rfl⟩
  rw [← hcurA] at hap
  obtain ⟨W0, hW0⟩ : ∃ W0, W0 = w.drew.alloc (.cells curA 62) := ⟨_, rfl⟩
  rw [← hW0] at hap
  have hz : (Value.agg #[.string ⟨#[]⟩, .string ⟨#[]⟩]).cells.size = 2 := rfl
  have hAs : curA.size = C * 2 := by
    rw [hcurA]
    simp only [Array.size_append, List.size_toArray, size_zeroCells, hz, List.length_take, Array.length_toList]
    omega
  have hA1 : curA.toList.take (i * 2) = cur.toList.take (i * 2) := by
    rw [hcurA]
    simp only [Array.toList_append, List.append_assoc]
    exact List.take_left' (by simp; omega)
  have hB : W0.heap[w.heap.size]? = some (.cells curA 62 (0, 0)) := by rw [hW0]; exact heap_alloc_new w.drew _
  have hold : ∀ k, k < w.heap.size → W0.heap[k]? = w.heap[k]? := fun k hk => by rw [hW0]; exact Below.heap_alloc w.drew _ k hk
  have hvlt : ∀ j v, vs[j]? = some v → vb < w.heap.size := fun j v hj => by
    have := hvs j v hj
    rcases Nat.lt_or_ge vb w.heap.size with h | h
    · exact h
    · simp [World.cell?, Array.getElem?_eq_none h] at this
  have hcp1 : ∀ ty dc, (Builtin.copy_ #[51, 51] ty #[.slice (some ⟨w.heap.size, i * 2, none⟩) (n + 1 - i) dc, .slice (some ⟨vb, 0, none⟩) 1 vc]).run Try.prog W0 = .ok (goInt (Nat.min 1 (n + 1 - i)))
      (W0.setRow w.heap.size (curA.toList.take (i * 2) ++ vs ++ curA.toList.drop (i * 2 + vs.length)).toArray) := fun ty dc =>
    run_copy_rows W0 51 51 ty 62 w.heap.size (i * 2) (n + 1 - i) dc ⟨vb, 0, none⟩ 1 vc curA 62 vs Try.underlying51 hsz hB (by rw [hvl, show Nat.min 1 (n + 1 - i) = 1 from Nat.min_eq_left (by omega)])
      (fun j v hj => by rw [addr_add, Nat.zero_add]; exact (World.cell?_of_block (a := ⟨vb, j, none⟩) (hold vb (hvlt j v hj))).trans (hvs j v hj)) (by omega) h1v
  obtain ⟨cur1, hcur1⟩ : ∃ c1, c1 = (curA.toList.take (i * 2) ++ vs ++ curA.toList.drop (i * 2 + vs.length)).toArray := ⟨_, rfl⟩
  rw [← hcur1] at hcp1
  obtain ⟨W1, hW1⟩ : ∃ W1, W1 = W0.setRow w.heap.size cur1 := ⟨_, rfl⟩
  rw [← hW1] at hcp1
  have hs1 : cur1.size = C * 2 := by
    rw [hcur1]
    simp only [List.size_toArray, List.length_append, List.length_take, List.length_drop, Array.length_toList, hAs, hvl]
    omega
  have hB1 : W1.drew.heap[w.heap.size]? = some (.cells cur1 62 (0, 0)) := by rw [hW1]; exact setRow_heap W0 w.heap.size curA cur1 62 (0, 0) hB
  have hg1 : W1.drew.heap[g]? = some (.cells cur 62 (0, 0)) := by rw [hW1]; exact (setRow_other W0 w.heap.size g cur1 (by omega)).trans ((hold g hglt).trans hg)
  have hdl : ((cur.toList.take (n * 2)).drop (i * 2)).length = (n - i) * 2 := by simp; omega
  have hcp2 : ∀ ty dc sc, (Builtin.copy_ #[51, 51] ty #[.slice (some ⟨w.heap.size, (i + 1) * 2, none⟩) (n + 1 - (i + 1)) dc, .slice (some ⟨g, i * 2, none⟩) (n - i) sc]).run Try.prog W1.drew = .ok (goInt (Nat.min (n - i) (n + 1 - (i + 1))))
      (W1.drew.setRow w.heap.size (cur1.toList.take ((i + 1) * 2) ++ (cur.toList.take (n * 2)).drop (i * 2) ++ cur1.toList.drop ((i + 1) * 2 + ((cur.toList.take (n * 2)).drop (i * 2)).length)).toArray) := fun ty dc sc =>
    run_copy_rows W1.drew 51 51 ty 62 w.heap.size ((i + 1) * 2) (n + 1 - (i + 1)) dc ⟨g, i * 2, none⟩ (n - i) sc cur1 62 _ Try.underlying51 hsz hB1 (by rw [hdl, show Nat.min (n - i) (n + 1 - (i + 1)) = n - i from Nat.min_eq_left (by omega)])
      (fun j v hj => by
        rw [addr_add, Go.Lib.cell_of_heap hg1]
        rw [List.getElem?_drop, List.getElem?_take] at hj
        split at hj
        · simpa using hj
        · cases hj) (by rw [hdl]; omega) (fun v hv => h1c v (List.mem_of_mem_drop hv))
  have hcp2' : ∀ ty dc sc, (Builtin.copy_ #[51, 51] ty #[.slice (some ⟨w.heap.size, (i + 1) * 2, none⟩) (n - i) dc, .slice (some ⟨g, i * 2, none⟩) (n - i) sc]).run Try.prog W1.drew = .ok (goInt (Nat.min (n - i) (n + 1 - (i + 1))))
      (W1.drew.setRow w.heap.size (cur1.toList.take ((i + 1) * 2) ++ (cur.toList.take (n * 2)).drop (i * 2) ++ cur1.toList.drop ((i + 1) * 2 + ((cur.toList.take (n * 2)).drop (i * 2)).length)).toArray) := fun ty dc sc => by
    have := hcp2 ty dc sc
    rwa [show n + 1 - (i + 1) = n - i by omega] at this ⊢
  obtain ⟨cur2, hcur2⟩ : ∃ c2, c2 = (cur1.toList.take ((i + 1) * 2) ++ (cur.toList.take (n * 2)).drop (i * 2) ++ cur1.toList.drop ((i + 1) * 2 + ((cur.toList.take (n * 2)).drop (i * 2)).length)).toArray := ⟨_, rfl⟩
  rw [← hcur2] at hcp2'
  clear hcp2
  have fin : w.heap.size < (W1.drew.setRow w.heap.size cur2).heap.size ∧ w.grownBy (W1.drew.setRow w.heap.size cur2) none ∧ ∃ cur' : Array Value, (W1.drew.setRow w.heap.size cur2).heap[w.heap.size]? = some (.cells cur' 62 (0, 0)) ∧ cur'.size = C * 2 ∧
        cur'.toList.take ((n + 1) * 2) = cur.toList.take (i * 2) ++ vs ++ (cur.toList.take (n * 2)).drop (i * 2) := by
    have hsize : (W1.drew.setRow w.heap.size cur2).heap.size = w.heap.size + 1 := by rw [hW1, hW0]; simp [World.setRow]
    refine ⟨by omega, ⟨by rw [hW1, hW0]; rfl, by rw [hW1, hW0]; rfl, by rw [hW1, hW0]; rfl, by omega, fun k hk _ => (setRow_other W1.drew w.heap.size k cur2 (by omega)).trans ?_⟩, cur2, setRow_heap W1.drew w.heap.size cur1 cur2 62 (0, 0) hB1, ?_, ?_⟩
    · rw [hW1]
      exact (setRow_other W0 w.heap.size k cur1 (by omega)).trans (hold k hk)
    · rw [hcur2]
      simp only [List.size_toArray, List.length_append, hdl, List.length_take, List.length_drop, Array.length_toList, hs1]
      omega
    · have e1 : cur1.toList.take ((i + 1) * 2) = cur.toList.take (i * 2) ++ vs := by
        rw [hcur1, hA1]
        exact List.take_left' (by simp only [List.length_append, hvl, List.length_take, Array.length_toList]; omega)
      rw [hcur2, e1]
      exact List.take_left' (by simp only [List.length_append, hdl, hvl, List.length_take, Array.length_toList]; omega)
  have hz2' : ¬ ((i : Int) = (n : Int)) := by omega
  have hw1 : IntKind.i64.wrap ((i : Int) + 1) = (i : Int) + 1 := by rw [IntKind.wrap_i64]; omega
  have hw2 : IntKind.i64.wrap ((n : Int) + 1) = (n : Int) + 1 := by rw [IntKind.wrap_i64]; omega
  have hw3 : IntKind.i64.wrap ((n : Int) + 1 - (i : Int)) = ((n + 1 - i : Nat) : Int) := by rw [IntKind.wrap_i64]; omega
  have hin : i ≤ n := by omega
  have hic : i ≤ c := by omega
  have hb1 : (0 : Int) ≤ (i : Int) + 1 := by omega
  have hb2 : ¬ (C = i + 1) := by omega
  have hb3 : (i : Int) ≤ (n : Int) + 1 := by omega
  have hb4 : ¬ (C = i) := by omega
  have hb5 : i ≤ n + 1 := by omega
  have hb6 : ¬ (c = i) := by omega
  have htn : ((i : Int) + 1).toNat = i + 1 := by omega
  have hnc' : ¬ (n + 1 ≤ c) := by omega
  clear hW1 hcur1 hcur2 hW0 hcurA hC
  go_enter Try.func53, Try.ntmps53
  go_wp2_with (at_builtin; first | refine Go.Lib.wpList_append_run _ rfl _ _ 51 3 rfl _ _ rfl rfl _ _ hap ?_ | refine wpList_copy_runI _ rfl _ _ 51 51 rfl _ _ rfl rfl (hcp1 _ _) ?_)
  go_region_law_o (refine step_copy_runI rfl _ _ 51 51 rfl _ _ (by simp [Act.eval, Act.put]) (by simp [Act.eval, Act.put]) (hcp2' _ _ _) ?_)
  go_wp2
  go_ret
  exact ⟨C, rfl, hC1, hC2, fin⟩

set_option maxHeartbeats 4000000 in
set_option maxRecDepth 100000 in
theorem ins_end (g n c vb vc : Nat) (w : World) (hnc : n ≤ c) {v' : Value} {w' : World} (hrun : (Builtin.append_ #[51, 51] 51 #[.slice (some ⟨g, 0, none⟩) n c, .slice (some ⟨vb, 0, none⟩) 1 vc]).run Try.prog w = .ok v' w') :
    Calls Try.prog 53 #[.slice (some ⟨g, 0, none⟩) n c, .int .i64 n, .slice (some ⟨vb, 0, none⟩) 1 vc] w fun e W => e = .returned v' ∧ W = w' := by
  have mixed : Try.prog.follows .mixedOrders = true := by kernel_rfl
  go_enter Try.func53, Try.ntmps53
  go_wp2_with (at_builtin; refine Go.Lib.wpList_append_run _ rfl _ _ 51 51 rfl _ _ rfl rfl _ _ hrun ?_)
  all_goals (go_ret; exact ⟨rfl, rfl⟩)

set_option maxHeartbeats 4000000 in
set_option maxRecDepth 100000 in
theorem ins_nil (vb vc : Nat) (w : World) {v' : Value} {w' : World} (hrun : (Builtin.append_ #[51, 51] 51 #[.slice none 0 0, .slice (some ⟨vb, 0, none⟩) 1 vc]).run Try.prog w = .ok v' w') :
    Calls Try.prog 53 #[.slice none 0 0, .int .i64 0, .slice (some ⟨vb, 0, none⟩) 1 vc] w fun e W => e = .returned v' ∧ W = w' := by
  have mixed : Try.prog.follows .mixedOrders = true := by kernel_rfl
  go_enter Try.func53, Try.ntmps53
  go_wp2_with (at_builtin; refine Go.Lib.wpList_append_run _ rfl _ _ 51 51 rfl _ _ rfl rfl _ _ hrun ?_)
  all_goals (go_ret; exact ⟨rfl, rfl⟩)
end Go.Dec
