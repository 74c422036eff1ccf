/- table.Split, and the iterator that it goes over. No statement is proved here. -/
import Derived.Test.YtpehkjgbhnegmaaProg
import Derived.Test.YtpehkjgbhnegmaaRangeS
import Derived.Test.YtpehkjgbhnegmaaPlainC
import Derived.Test.YtpehkjgbhnegmaaLibFuns
import Derived.Test.YtpehkjgbhnegmaaShelf
import Derived.WalkKit
import Derived.OwnWalkIn
import Derived.TacticsInMore
import Derived.LoopNIn
import Derived.LoopIn
import Derived.KernelRfl
namespace Go.Dec
open Go.Proofs Go.RowKit

attribute [local go_sem] Oper.semAt_some

def encL (x : Line) : Array Value := #[.agg #[.string ⟨x.1.toArray⟩, .bool x.2.1]]
def boxLen (b : Nat) (W : World) : Nat :=
  match W.cell? ⟨b, 0, none⟩ with
  | some (.string s) => s.size
  | _ => 0
theorem boxLen_eq {b : Nat} {W : World} {s : ByteArray} (h : W.cell? ⟨b, 0, none⟩ = some (.string s)) : boxLen b W = s.size := by simp [boxLen, h]

def BxS (b1 : Nat) (W : World) : Prop := ∃ u, Boxed W b1 9 u

set_option maxRecDepth 100000 in
set_option maxHeartbeats 1000000 in
theorem lines1_gives (n b1 : Nat) (s : List UInt8) (w : World) (m : Int) (h1 : 1 ≤ n) (hs : s.length < 4294967281) (hb0 : b1 ≠ 0) (hbox : Boxed w b1 9 (.string ⟨s.toArray⟩)) (hg : w.cell? ⟨0, 0, none⟩ = some (.int .i64 m))
    (Kb : Nat → Prop) (hK1 : Kb b1) (hK0 : Kb 0) : GivesIn Fence.wide n Try.prog 56 #[.pointer (some ⟨b1, 0, none⟩)] encL (splitL s) b1 Kb (BxS b1) w := by
  intro l J W hW hT hY h0
  have f44 : Fence.wide.fn 44 := trivial
  refine callsIn_of_wp Try.func56 rfl trivial ?_ rfl
  simp only [Try.ntmps56, List.size_toArray, List.length_cons, List.length_nil, Nat.reduceAdd, Nat.reduceSub, Array.replicate_succ, Array.replicate_zero, List.push_toArray, List.append_toArray, List.nil_append, List.cons_append]
  gi_wp2
  gi_loopw [] (fun wr => ∃ (pre : List Line) (rest : List UInt8), splitL s = pre ++ splitL rest ∧ rest.length ≤ s.length ∧ Boxed wr b1 9 (.string ⟨rest.toArray⟩) ∧ wr.cell? ⟨0, 0, none⟩ = some (.int .i64 m) ∧ J pre wr)
    (fun wr => boxLen b1 wr)
  case atStart =>
    exact ⟨[], s, rfl, Nat.le_refl _, (hW b1 hK1).trans hbox, (World.cell?_of_block (hW 0 hK0)).trans hg, h0⟩
  case round =>
    obtain ⟨pre, rest, hx, hl, hb, hc, hJ⟩ := hrel
    have hbc := hb.cell
    by_cases he : rest = []
    · subst he
      gi_wp2
      go_end0
      refine ⟨⟨_, rfl⟩, ?_⟩
      rw [hx]
      simpa [splitL_nil] using hJ
    · have hE : rest.isEmpty = false := by simpa using he
      have hC : CallsIn Fence.wide (n - 1) Try.prog 44 #[.string ⟨rest.toArray⟩, .string ⟨#[10]⟩] wr fun e w' => e = .returned (.tuple #[.string ⟨(cutLf rest).1.toArray⟩, .string ⟨(cutLf rest).2.1.toArray⟩, .bool (cutLf rest).2.2]) ∧ ∃ k, w' = wr.drewN k := by
        have := (callsIn_wide (n := n - 1)).2 (Try.strings_Cut ⟨rest.toArray⟩ ⟨#[10]⟩ m wr (by simp [ByteArray.size]; omega) hc)
        simpa [cut_lf] using this
      gi_wp2_with (gi_at_call 44; refine hC.mono ?_; rintro e w' ⟨rfl, k, rfl⟩)
      · have hT1 : J pre (wr.drewN k) := hT _ _ _ hJ ⟨⟨_, hb⟩, rfl, rfl, rfl, Nat.le_refl _, fun _ _ _ => rfl⟩
        have hY1 : YieldAt Fence.wide (n - 1) Try.prog l #[.agg #[.string ⟨(cutLf rest).1.toArray⟩, .bool (cutLf rest).2.2]] (wr.drewN k) fun e W' => e = .returned (.bool true) ∧ J (pre ++ [((cutLf rest).1, (cutLf rest).2.2, ())]) W' ∧ ∀ k', Kb k' → W'.heap[k']? = (wr.drewN k).heap[k']? :=
          hY pre ((cutLf rest).1, (cutLf rest).2.2, ()) (wr.drewN k) hT1 (by rw [hx, splitL_cut he]; simp)
        obtain ⟨fn, tmps, assign, body, hy, hR⟩ := hY1
        gi_wp2
        rw [hy]
        gi_wp2
        refine hR.mono ?_
        rintro e W3 ⟨rfl, hJ3, hk3⟩
        have hb3 : Boxed W3 b1 9 (.string ⟨rest.toArray⟩) := (hk3 b1 hK1).trans hb
        have hbc3 := hb3.cell
        have hbf3 := hb3.frozen
        gi_wp2
        go_roundw
        case rel =>
          have g1 := grownBy_setCell' W3 b1 (.string ⟨(cutLf rest).2.1.toArray⟩)
          refine ⟨pre ++ [((cutLf rest).1, (cutLf rest).2.2, ())], (cutLf rest).2.1, by rw [hx, splitL_cut he]; simp, by have := cutLf_short he; omega, hb3.set _, ?_, hT _ _ _ hJ3 ⟨⟨_, hb3.set _⟩, g1.os, g1.tape, g1.output, g1.size, fun j hj hne => g1.block j hj (fun e => hne (by cases e; rfl))⟩⟩
          have h0lt : 0 < W3.heap.size := by
            have := (Array.getElem?_eq_some_iff.1 hb3).1
            omega
          exact (World.cell?_of_block (a := ⟨0, 0, none⟩) ((g1.block 0 h0lt (fun e => hb0 (by cases e; rfl))).trans (hk3 0 hK0))).trans hc
        case measure =>
          rw [boxLen_eq (hb3.set _).cell, boxLen_eq hbc]
          simpa [ByteArray.size] using cutLf_short he

/-- Rows, as they lie. -/
def rowCells (l : List Line) : List Value := l.flatMap fun x => [.string ⟨x.1.toArray⟩, .bool x.2.1]
theorem rowCells_len (l : List Line) : (rowCells l).length = l.length * 2 := by
  induction l with
  | nil => rfl
  | cons x l ih => simp [rowCells] at *; omega
theorem rowCells_mid (l : List Line) (x : Line) : rowCells (l ++ [x]) = rowCells l ++ [.string ⟨x.1.toArray⟩, .bool x.2.1] := by simp [rowCells]

theorem info27 : (Try.prog.info? 27).map (fun i => (i.zero, i.size, i.bytes)) = some (some (.agg #[.string ⟨#[]⟩, .bool false]), 2, 24) := by kernel_rfl

set_option maxHeartbeats 1000000 in
theorem lines_in (n : Nat) (s : ByteArray) (w : World) :
    CallsIn Fence.wide n Try.prog 45 #[.string s] w fun e w' => e = .returned (.func (.func 56) #[] #[.pointer (some ⟨w.heap.size, 0, none⟩)]) ∧ w' = w.alloc (.cells #[.string s] 9) := by
  refine callsIn_of_wp Try.func45 rfl trivial ?_ rfl
  simp only [Try.ntmps45, List.size_toArray, List.length_cons, List.length_nil, Nat.reduceAdd, Nat.reduceSub, Array.replicate_succ, Array.replicate_zero, List.push_toArray, List.append_toArray, List.nil_append, List.cons_append]
  gi_wp2
  go_ret
  exact ⟨rfl, rfl⟩

theorem splitL_len (s : List UInt8) : (splitL s).length ≤ s.length + 1 := splitA_len s []

theorem cell_two_new (W : World) (a b : Value) (t : TypeId) : ∀ j u, [a, b][j]? = some u → (W.alloc (.cells #[a, b] t)).cell? (Addr.add ⟨W.heap.size, 0, none⟩ j) = some u := by
  intro j u hj
  have h := World.alloc_heap_new W (.cells #[a, b] t)
  have e : ∀ i, (W.alloc (.cells #[a, b] t)).cell? ⟨W.heap.size, i, none⟩ = #[a, b][i]? := fun i => by unfold World.cell?; rw [h]; rfl
  match j with
  | 0 => exact (e 0).trans (by simpa using hj)
  | 1 => exact (e 1).trans (by simpa using hj)
  | j + 2 => simp at hj

/-- What the rounds keep. -/
structure InvS (w : World) (pre : List Line) (W : World) : Prop where
  os : W.os = w.os
  tape : W.tape = w.tape
  output : W.output = w.output
  below : Below w.heap.size w W
  box : BxS (w.heap.size + 1) W
  row : ∃ v, Boxed W w.heap.size 45 v ∧ W.ownsRow w.heap.size 27 2 v pre.length (rowCells pre)

theorem InvS.kept {w : World} {pre : List Line} {A B : World} {row : Option Nat} (h : InvS w pre A) (hg : A.grownBy B row)
    (hr : ∀ r, row = some r → (r = w.heap.size + 1 ∧ BxS (w.heap.size + 1) B) ∨ (w.heap.size + 2 ≤ r ∧ ∃ o : Obj, A.heap[r]? = some o ∧ o.isCells = false)) : InvS w pre B := by
  obtain ⟨u, hu⟩ := h.box
  obtain ⟨v, hv, hrow⟩ := h.row
  have hnb : ∀ {b : Nat} {cs : Array Value} {t : TypeId}, A.heap[b]? = some (.cells cs t (0, 0)) → b ≠ w.heap.size + 1 → some b ≠ row := by
    intro b cs t hb hne e
    rcases hr b e.symm with ⟨h1, _⟩ | ⟨_, o, ho, hc⟩
    · exact hne h1
    · rw [hb] at ho; cases ho; cases hc
  refine ⟨hg.os.trans h.os, hg.tape.trans h.tape, hg.output.trans h.output, ?_, ?_, v, hv.kept hg (hnb hv (by omega)), hrow.kept hg ?_⟩
  · refine h.below.grown hg h.below.size fun j ej => ?_
    rcases hr j ej with ⟨h1, _⟩ | ⟨h1, _⟩ <;> omega
  · by_cases e : row = some (w.heap.size + 1)
    · rcases hr _ e with ⟨_, h2⟩ | ⟨h1, _⟩
      · exact h2
      · omega
    · exact ⟨u, hu.kept hg (fun h => e h.symm)⟩
  · rcases hrow.2 with ⟨rfl, _⟩ | ⟨g, cap, cur, rfl, _, hgb, _⟩
    · exact .inl rfl
    · refine .inr fun e' => ?_
      have e2 : some g = row := by simpa [Value.ownBlock] using e'
      by_cases hgn : g = w.heap.size + 1
      · subst hgn
        have := (show A.heap[w.heap.size + 1]? = _ from hu).symm.trans hgb
        simp at this
      · exact hnb hgb hgn e2

set_option maxRecDepth 100000 in
set_option maxHeartbeats 2000000 in
theorem split_in (s : List UInt8) (w : World) (m : Int) (hs : s.length < 4294967281) (hg : w.cell? ⟨0, 0, none⟩ = some (.int .i64 m)) :
    CallsIn Fence.wide 5 Try.prog 25 #[.string ⟨s.toArray⟩] w fun e W' => ∃ v, e = .returned v ∧ W'.os = w.os ∧ W'.tape = w.tape ∧ W'.output = w.output ∧ W'.ownsRow w.heap.size 27 2 v (splitL s).length (rowCells (splitL s)) ∧ Below w.heap.size w W' := by
  have f45 : Fence.wide.fn 45 := trivial
  have h0lt : 0 < w.heap.size := by
    rcases Nat.eq_zero_or_pos w.heap.size with h | h
    · simp [World.cell?, Array.getElem?_eq_none (show w.heap.size ≤ 0 by omega)] at hg
    · exact h
  obtain ⟨i0, hi, hz0, hz1, hz2⟩ := info_parts info27
  refine callsIn_of_wp_marks Try.func25 rfl trivial ?_ rfl
  simp only [Try.ntmps25, List.size_toArray, List.length_cons, List.length_nil, Nat.reduceAdd, Nat.reduceSub, Array.replicate_succ, Array.replicate_zero, List.push_toArray, List.append_toArray, List.nil_append, List.cons_append]
  gi_wp2_with (gi_at_call 45; refine (lines_in _ _ _).mono ?_; rintro e w' ⟨rfl, rfl⟩)
  have bO := Boxed.new w 45 (.slice none 0 0)
  have bN := Boxed.new (w.alloc (.cells #[.slice none 0 0] 45)) 9 (.string ⟨s.toArray⟩)
  rw [World.size_alloc] at bN
  have hB0 : Below w.heap.size w ((w.alloc (.cells #[.slice none 0 0] 45)).alloc (.cells #[.string ⟨s.toArray⟩] 9)) := ((Below.refl _ w).alloc (Nat.le_refl _) _).alloc (by simp) _
  refine rangeFunc_gives rfl (by omega) (gf := 56) (lb := #[.pointer (some ⟨w.heap.size + 1, 0, none⟩)]) rfl trivial (enters_of Try.func56 (by kernel_rfl) rfl)
    (encs := encL) (xs := splitL s) (b1 := w.heap.size + 1) (Kb := fun k => k < w.heap.size ∨ k = w.heap.size + 1) (Bx := BxS (w.heap.size + 1)) (by intro k hk; simp; omega) (.inr rfl)
    (lines1_gives _ _ s _ m (by omega) hs (by omega) bN ((hB0.cell (p := ⟨0, 0, none⟩) h0lt).trans hg) _ (.inr rfl) (.inl h0lt)) (fun _ => rfl)
    (InvS w)
    (fun pre x a1 W => InvS w pre W ∧ ∃ g, W.heap[g]? = some (.cells #[.string ⟨x.1.toArray⟩, .bool x.2.1] 27 (0, 0)) ∧ a1 = { tmps := #[.string ⟨s.toArray⟩, undef, .pointer (some ⟨w.heap.size, 0, none⟩), .pointer (some ⟨g, 0, none⟩), .string ⟨s.toArray⟩, .func (.func 56) #[] #[.pointer (some ⟨w.heap.size + 1, 0, none⟩)], .agg #[.string ⟨x.1.toArray⟩, .bool x.2.1], undef, undef, undef, undef, undef], defers := [] })
    ?hI ?hI2 ?h0 ?assign ?body ?done
  case hI => 
    intro pre A B row h hg hr
    exact h.kept hg (fun r e => by simpa using hr r e)
  case hI2 =>
    rintro pre x c A B row ⟨h, g, hgc, rfl⟩ hg hr
    have hr' : ∀ r, row = some r → w.heap.size + 2 ≤ r ∧ ∃ o : Obj, A.heap[r]? = some o ∧ o.isCells = false := fun r e => by simpa using hr r e
    refine ⟨h.kept hg (fun r e => .inr (hr' r e)), g, (hg.block g (Array.getElem?_eq_some_iff.1 hgc).1 fun e => ?_).trans hgc, rfl⟩
    obtain ⟨_, o, ho, hc⟩ := hr' g e.symm
    rw [hgc] at ho; cases ho; cases hc
  case h0 => exact ⟨rfl, rfl, rfl, hB0, ⟨_, bN⟩, _, bO.alloc _, World.ownsRow_nil _ _ _ _⟩
  case assign =>
    intro l pre x W h hsz
    simp only [encL]
    gi_wp2
    have hsz' : w.heap.size + 2 ≤ W.heap.size := by simpa using hsz
    refine ⟨⟨h.kept (World.grownBy_alloc W _ none) (fun r e => by cases e), W.heap.size, World.alloc_heap_new W _, rfl⟩, fun k o _ hk _ => (Below.heap_alloc _ _ _ (Array.getElem?_eq_some_iff.1 hk).1).trans hk, fun k hk => Below.heap_alloc _ _ _ (by omega)⟩
  case body =>
    rintro l pre x a1 W ⟨h, g, hgc, rfl⟩ hlt
    obtain ⟨v, hv, hrow⟩ := h.row
    have hc := hv.cell
    have hc0 : W.cell? ⟨g, 0, none⟩ = some (.string ⟨x.1.toArray⟩) := by simp [World.cell?, hgc]
    have hc1 : W.cell? ⟨g, 1, none⟩ = some (.bool x.2.1) := by simp [World.cell?, hgc]
    have hpl := splitL_len s
    have hm1 : pre.length + 1 ≤ maxLen := by unfold maxLen; omega
    have hm2 : (pre.length + 1) * 24 ≤ 140737488355328 := by omega
    have hm3 : ∀ o, w.heap.size ≤ (W.alloc o).heap.size := fun o => by have := h.below.size; simp; omega
    gi_wp2_with (gi_at_builtin; refine wpListIn_append_own _ rfl _ _ 45 rfl w.heap.size 27 i0 _ 2 24 Try.underlying45 hi hz0 hz1 hz2 rfl (by decide) _ _ _ rfl (hrow.alloc _) ⟨W.heap.size, 0, none⟩ 1 1 [.string ⟨x.1.toArray⟩, .bool x.2.1] rfl rfl (cell_two_new _ _ _ _) (by simp [Value.oneCell']) hm1 hm2 (hm3 _) ?_; intro v' w1 hown' hgrow _; obtain ⟨g', cap', rfl⟩ := ownsRow_succ hown'; obtain ⟨hv1, hv2, hr2, hk2, hb2⟩ := hv.appended (by decide) hrow h.below.size (Nat.le_refl _) hown' hgrow; have hc1 := hv1.cell; have hf1 := hv1.frozen)
    obtain ⟨u, hu⟩ := h.box
    have hu1 : Boxed w1 (w.heap.size + 1) 9 u := (hu.alloc _).kept hgrow (hu.not_row (by decide) hrow)
    have hu2 : (w1.setCell ⟨w.heap.size, 0, none⟩ (.slice (some ⟨g', 0, none⟩) (pre.length + 1) cap')).heap[w.heap.size + 1]? = W.heap[w.heap.size + 1]? := (Below.heap_setCell _ _ _ _ (by simp)).trans (hu1.trans hu.symm)
    refine ⟨fun k o _ => hk2.same k o, ?_, hgrow.os.trans h.os, hgrow.tape.trans h.tape, hgrow.output.trans h.output, h.below.trans hb2, ⟨u, hu2.trans hu⟩, _, hv2, ?_⟩
    · rintro k (hk | rfl)
      · exact hb2.block k hk
      · exact hu2
    · rw [rowCells_mid]
      simpa using hr2
  case done =>
    intro D W hD h hK
    obtain ⟨v, hv, hrow⟩ := h.row
    have hc := hv.cell
    have hf := hv.frozen
    obtain ⟨a, k, c, rfl⟩ : ∃ a k c, v = .slice a k c := by
      rcases hrow.2 with ⟨rfl, _⟩ | ⟨g, cap, cur, rfl, _⟩
      · exact ⟨_, _, _, rfl⟩
      · exact ⟨_, _, _, rfl⟩
    gi_wp2
    have hD' : w.heap.size + 2 ≤ D := by simpa using hD
    have hK' : (W.setCell ⟨w.heap.size, 0, none⟩ (.slice a k c)).heap[D]? = some (.deferred (some [])) := (Below.heap_setCell _ _ _ _ (by simp; omega)).trans hK
    have g1 := grownBy_setCell' W w.heap.size (.slice a k c)
    refine ⟨by simp, .inl ⟨_, _, rfl, run_takeDeferred hK', ?_⟩⟩
    have g2 := grownBy_putObj' (W.setCell ⟨w.heap.size, 0, none⟩ (.slice a k c)) D (.deferred none)
    have hb4 : Boxed ((W.setCell ⟨w.heap.size, 0, none⟩ (.slice a k c)).putObj D (.deferred none)) w.heap.size 45 (.slice a k c) := (hv.set _).kept g2 (by simp; omega)
    have hb4c := hb4.cell
    have hrow1 : (W.setCell ⟨w.heap.size, 0, none⟩ (.slice a k c)).ownsRow w.heap.size 27 2 (.slice a k c) (splitL s).length (rowCells (splitL s)) := hrow.kept g1 (.inr (hv.not_row (by decide) hrow).symm)
    refine ⟨.slice a k c, ?_, .slice a k c, rfl, g2.os.trans (g1.os.trans h.os), g2.tape.trans (g1.tape.trans h.tape), g2.output.trans (g1.output.trans h.output), ownsRow_putObj hrow1 _ hK' rfl,
      (h.below.grown g1 h.below.size (fun j e => by cases e; exact Nat.le_refl _)).grown g2 (by have := h.below.size; have := g1.size; omega) (fun j e => by cases e; omega)⟩
    simp [results, show Try.f25.results = #[.cell 2 45] from rfl, asAddr, loadVar, go_sem, hb4c]

abbrev TLine : Ty := .pair .str (.pair .bool .unit)
abbrev table_SplitA : List Ty := [.str]
abbrev table_SplitR : List Ty := [.slice TLine]

theorem all2_rows (w : World) (N : Nat → Prop) (l : List Line) : All2 (fun (x : Line) (c : List Value) => TLine.Rel w N x c) l (l.map fun x => [.string ⟨x.1.toArray⟩, .bool x.2.1]) := by
  induction l with
  | nil => trivial
  | cons x l ih => exact ⟨⟨[.string ⟨x.1.toArray⟩], [.bool x.2.1], rfl, rfl, [.bool x.2.1], [], rfl, rfl, rfl⟩, ih⟩

theorem table_Split_pure (n : Nat) : Pure Try.prog 25 table_SplitA table_SplitR (table_Split n) := by
  refine ⟨by kernel_rfl, fun x y hF w N xs hG hN hx => ?_⟩
  obtain ⟨hc, hy⟩ := chk_some hF
  have hc := of_decide_eq_true hc
  obtain rfl := Option.some.inj hy
  obtain ⟨u, rfl, h1⟩ := hx
  simp only [Ty.VRel, Ty.isAgg, Bool.false_eq_true, if_false, Ty.Rel, List.cons.injEq, and_true] at h1
  subst h1
  obtain ⟨m, hm⟩ := hG 0 (Try.prog.globals[0]'(by decide +kernel)) (by rw [Array.getElem?_eq_getElem]) (by kernel_rfl)
  refine (callsIn_wide.1 (split_in x w m hc hm)).mono ?_
  rintro e w' ⟨v, rfl, k1, k2, k3, k4, k5⟩
  refine ⟨[v], rfl, k1, k2, k3, ⟨k5.size, fun b hb _ => k5.block b hb⟩, v, rfl, v, rfl, ?_⟩
  rcases k4.2 with ⟨rfl, h0⟩ | ⟨g, cap, cur, rfl, hg, hcur, h2, h3, h4, h5⟩
  · exact .inl ⟨rfl, List.eq_nil_of_length_eq_zero h0⟩
  · refine .inr (.inl ⟨g, 0, cap, _, rfl, (Array.getElem?_eq_some_iff.1 hcur).1, fun hn => absurd (hN g hn) (by omega), h2, h3, all2_rows w' N _, ?_, ?_⟩)
    · intro c hc
      obtain ⟨x, _, rfl⟩ := List.mem_map.1 hc
      rfl
    · intro j c hj
      have e1 : (List.map (fun x : Line => [Value.string ⟨x.1.toArray⟩, .bool x.2.1]) (splitL x)).flatten = rowCells (splitL x) := by simp [rowCells, List.flatMap]
      rw [e1, ← h5] at hj
      rw [List.getElem?_take] at hj
      split at hj
      · have e2 : w'.cell? ⟨g, 0 + j, none⟩ = cur[0 + j]? := by unfold World.cell?; rw [hcur]; rfl
        rw [e2]
        simpa using hj
      · cases hj
end Go.Dec
