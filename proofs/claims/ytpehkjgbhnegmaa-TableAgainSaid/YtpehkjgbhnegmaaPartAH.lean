/- Part of a proof over this seat: a library of my own, and what it says of this seat. No statement is proved here. -/
import Derived.Test.YtpehkjgbhnegmaaProg
import Derived.Test.YtpehkjgbhnegmaaPartAG
import Derived.Test.YtpehkjgbhnegmaaShelf
import Derived.KernelRfl
import Derived.RangeFuncLeaves
import Derived.RangeFuncBound
import Derived.RangeFuncCalls
import Derived.RangeFuncBox
import Derived.Test.YtpehkjgbhnegmaaPartAF
import Derived.WalkKit
import Derived.OwnWalkIn
import Derived.TacticsInMore
import Derived.LoopNIn
import Derived.LoopIn
import Derived.Shelf.Strings.Builder1
import Derived.Shelf.RegionOpenPlain
import Derived.Lib.Walk
import Derived.Lib.SliceRun
import Derived.Lib.AppendZeros
import Derived.Lib.AppendZerosOnto
import Derived.Lib.Overlaps
import Derived.Lib.Builder
import Derived.Shelf.Spec.SlicesInsert
import Derived.Laws.Externs
import Derived.Laws.IdiomCopy
import Derived.Laws.CopyRow
namespace Go.Dec
open Go.Proofs

abbrev strings_CutA : List Ty := [.str, .str]
abbrev strings_CutR : List Ty := [.str, .str, .bool]
theorem strings_Cut_pure (n : Nat) : Pure Try.prog 44 strings_CutA strings_CutR (strings_Cut n) := by
  refine ⟨by kernel_rfl, fun x y hF w N xs hG _ hx => ?_⟩
  obtain ⟨hc, hy⟩ := chk_some hF
  have hc := of_decide_eq_true hc
  obtain rfl := Option.some.inj hy
  obtain ⟨u, us, rfl, h1, v, rfl, h2⟩ := hx
  simp only [Ty.VRel, Ty.isAgg, Bool.false_eq_true, if_false, Ty.Rel, List.cons.injEq, and_true] at h1 h2
  subst h1 h2
  obtain ⟨m, hm⟩ := hG 0 (Try.prog.globals[0]'(by decide +kernel)) (by rw [Array.getElem?_eq_getElem]) (by kernel_rfl)
  refine (Try.strings_Cut _ _ m w (by simpa [ByteArray.size] using hc) hm).mono ?_
  rintro e w' ⟨rfl, k, rfl⟩
  refine ⟨[_, _, _], rfl, rfl, rfl, rfl, ⟨Nat.le_refl _, fun _ _ _ => rfl⟩, ⟨_, _, rfl, ?_, _, _, rfl, ?_, _, rfl, ?_⟩⟩ <;> simp [Ty.VRel, Ty.isAgg, Ty.Rel]
end Go.Dec

namespace Go.Dec
open Go.RowKit

/-- Steps that turn no block that lay, but one. -/
structure Turns (b1 : Nat) (Bx : World → Prop) (A B : World) : Prop where
  box : Bx B
  os : B.os = A.os
  tape : B.tape = A.tape
  output : B.output = A.output
  size : A.heap.size ≤ B.heap.size
  block : ∀ k, k < A.heap.size → k ≠ b1 → B.heap[k]? = A.heap[k]?

/-- The iterator's part: called with a yield whose rounds carry 'J' on, it hands out just 'xs'. -/
def GivesIn {α : Type} (F : Fence) (n : Nat) (P : Program) (gf : Nat) (lb : Array Value) (encs : α → Array Value) (xs : List α) (b1 : Nat) (Kb : Nat → Prop) (Bx : World → Prop) (w : World) : Prop :=
  ∀ (l : Nat) (J : List α → World → Prop) (W : World), (∀ k, Kb k → W.heap[k]? = w.heap[k]?) → (∀ s A B, J s A → Turns b1 Bx A B → J s B) →
    (∀ pre x W1, J pre W1 → pre.length < xs.length → YieldAt F (n - 1) P l (encs x) W1 fun e W' => e = .returned (.bool true) ∧ J (pre ++ [x]) W' ∧ ∀ k, Kb k → W'.heap[k]? = W1.heap[k]?) →
    J [] W → CallsIn F n P gf (#[.func (.yield l) #[] #[]] ++ lb) W fun e W' => (∃ v, e = .returned v) ∧ J xs W'

/-- What a round keeps: objects that are no cells, from a block on. -/
def KeepsRec (B : Nat) (A W : World) : Prop := ∀ (k : Nat) (o : Obj), B ≤ k → A.heap[k]? = some o → o.isCells = false → W.heap[k]? = some o

theorem rangeFunc_gives {α : Type} {F : Fence} {n : Nat} {P : Program} {g : Operand} {ps : Array Tmp} {assign body : Code} {Q : Exit → Act → World → Prop} {a : Act} {w : World}
    (hro : F.round = none) (h1 : 1 ≤ n) {gf : Nat} {lb : Array Value} (hg : a.eval g = .func (.func gf) #[] lb) (hFg : F.fn gf) (eg : ∀ args w, (callFunc gf args).run P w = .ok (.enter gf args) w)
    {encs : α → Array Value} {xs : List α} {b1 : Nat} {Kb : Nat → Prop} {Bx : World → Prop} (hKb : ∀ k, Kb k → k < w.heap.size) (hb1 : Kb b1) (hgives : GivesIn F (n - 1) P gf lb encs xs b1 Kb Bx w) (hps : ∀ x, (encs x).size = ps.size)
    (I : List α → World → Prop) (I2 : List α → α → Act → World → Prop)
    (hI : ∀ s A B row, I s A → A.grownBy B row → (∀ r, row = some r → (r = b1 ∧ Bx B) ∨ (w.heap.size ≤ r ∧ ∃ o : Obj, A.heap[r]? = some o ∧ o.isCells = false)) → I s B)
    (hI2 : ∀ s x c A B row, I2 s x c A → A.grownBy B row → (∀ r, row = some r → w.heap.size ≤ r ∧ ∃ o : Obj, A.heap[r]? = some o ∧ o.isCells = false) → I2 s x c B)
    (h0 : I [] w)
    (hassign : ∀ (l : Nat) (pre : List α) (x : α) (W : World), I pre W → w.heap.size ≤ W.heap.size →
      assign.wpIn (F.inRound l) (n - 1 - 1) P (Exit.then (fun a1 W1 => I2 pre x a1 W1 ∧ KeepsRec w.heap.size W W1 ∧ ∀ k, Kb k → W1.heap[k]? = W.heap[k]?) (fun _ _ _ => False)) { tmps := (ps.zip (encs x)).foldl (fun t (p, v) => t.setIfInBounds p v) a.tmps, defers := [] } W)
    (hbody : ∀ (l : Nat) (pre : List α) (x : α) (a1 : Act) (W : World), I2 pre x a1 W → pre.length < xs.length →
      body.wpIn (F.inRound l) (n - 1 - 1) P (fun e _ W' => e = .normal ∧ KeepsRec w.heap.size W W' ∧ (∀ k, Kb k → W'.heap[k]? = W.heap[k]?) ∧ I (pre ++ [x]) W') a1 W)
    (hdone : ∀ (D : Nat) (W : World), w.heap.size ≤ D → I xs W → W.heap[D]? = some (.deferred (some [])) → Q .normal { a with defers := { target := .collected D, args := #[] } :: a.defers } W) :
    (Code.rangeFunc g ps assign body).wpIn F n P Q a w := by
  refine wpIn_rangeFunc fun fn hfn => ?_
  rw [hro]
  let rec' : LoopState → Loop := fun st => { state := st, pending := none, fn, tmps := a.tmps, params := ps, assign, body, defers := w.heap.size }
  let W1 : World := (w.alloc (.deferred (some []))).alloc (.loop (rec' .ready))
  let L := w.heap.size + 1
  have sz1 : W1.heap.size = w.heap.size + 2 := by simp [W1]
  have hL1 : W1.heap[L]? = some (.loop (rec' .ready)) := by
    have := World.alloc_heap_new (w.alloc (.deferred (some []))) (.loop (rec' .ready))
    rwa [World.size_alloc] at this
  have hD1 : W1.heap[w.heap.size]? = some (.deferred (some [])) := (Below.heap_alloc _ _ _ (by simp)).trans (World.alloc_heap_new w _)
  have hold1 : ∀ k, k < w.heap.size → W1.heap[k]? = w.heap[k]? := fun k hk => (Below.heap_alloc _ _ _ (by simp; omega)).trans (Below.heap_alloc w _ k hk)
  have g1 : w.grownBy (w.alloc (.deferred (some []))) none := ⟨rfl, rfl, rfl, by simp, fun k hk _ => Below.heap_alloc w _ k hk⟩
  have g2 : (w.alloc (.deferred (some []))).grownBy W1 none := ⟨rfl, rfl, rfl, by simp [W1], fun k hk _ => Below.heap_alloc _ _ k hk⟩
  have hI1 : I [] W1 := hI _ _ _ none (hI _ _ _ none h0 g1 (fun r e => by cases e)) g2 (fun r e => by cases e)
  let J : List α → World → Prop := fun pre W => I pre W ∧ W.heap[L]? = some (.loop (rec' .ready)) ∧ W.heap[w.heap.size]? = some (.deferred (some [])) ∧ w.heap.size ≤ W.heap.size
  have put : ∀ {s : List α} {A : World} {o : Obj} (o' : Obj), I s A → A.heap[L]? = some o → o.isCells = false → I s (A.putObj L o') := fun {s A o} o' hs ho hc =>
    hI s A _ (some L) hs (grownBy_putObj' A L o') (fun r e => by cases e; exact .inr ⟨by omega, o, ho, hc⟩)
  refine ⟨L, [{ target := .collected w.heap.size, args := #[] }], W1, { target := .fn (.func gf) lb, args := #[.func (.yield L) #[] #[]] }, W1, gf, #[.func (.yield L) #[] #[]] ++ lb, W1, run_enterLoop_outer _ _ _ _ _, ?_, ?_, ?_, fun _ => h1, ?_⟩
  · simp only [resolve, hg]
    simp [go_sem]
  · intro f' hf'
    simp [Target.leads] at hf'
    subst hf'
    exact hFg
  · simp [invoke, go_sem, eg]
  · refine (hgives L J W1 (fun k hk => hold1 k (hKb k hk)) ?_ ?_ ⟨hI1, hL1, hD1, by omega⟩).mono ?_
    · rintro s A B ⟨k1, k2, k3, k4⟩ ht
      have hlt : L < A.heap.size := (Array.getElem?_eq_some_iff.1 k2).1
      exact ⟨hI s A B (some b1) k1 ⟨ht.os, ht.tape, ht.output, ht.size, fun k hk hne => ht.block k hk (fun e => hne (by rw [e]))⟩ (fun r e => by cases e; exact .inl ⟨rfl, ht.box⟩),
        (ht.block _ hlt (by have := hKb _ hb1; omega)).trans k2, (ht.block _ (by omega) (by have := hKb _ hb1; omega)).trans k3, Nat.le_trans k4 ht.size⟩
    · rintro pre x W ⟨k1, k2, k3, k4⟩ hlen
      have hlt : L < W.heap.size := (Array.getElem?_eq_some_iff.1 k2).1
      refine ⟨fn, _, assign, body, run_yield (P := P) (args := encs x) k2 (hps x), roundIn_of_wpIn hfn ?_⟩
      refine wpIn_mono (hassign L pre x W k1 k4) ?_
      intro e a1 W2 he
      cases e with
      | normal =>
        obtain ⟨h2, hk2, hb2⟩ := he
        have hl2 : W2.heap[L]? = some (.loop (rec' .ready)) := hk2 _ _ (by omega) k2 rfl
        have hd2 : W2.heap[w.heap.size]? = some (.deferred (some [])) := hk2 _ _ (Nat.le_refl _) k3 rfl
        have hlt2 : L < W2.heap.size := (Array.getElem?_eq_some_iff.1 hl2).1
        refine ⟨W2.putObj L (.loop (rec' .busy)), run_beginRound hl2 rfl, ?_⟩
        have hl3 : (W2.putObj L (.loop (rec' .busy))).heap[L]? = some (.loop (rec' .busy)) := World.putObj_heap_same hlt2
        have hd3 : (W2.putObj L (.loop (rec' .busy))).heap[w.heap.size]? = some (.deferred (some [])) := (World.putObj_heap_other (by omega)).trans hd2
        have h3 : I2 pre x a1 (W2.putObj L (.loop (rec' .busy))) := hI2 _ _ _ _ _ (some L) h2 (grownBy_putObj' W2 L _) (fun r e => by cases e; exact ⟨by omega, _, hl2, rfl⟩)
        refine wpIn_mono (hbody L pre x a1 _ h3 hlen) ?_
        rintro e a4 W4 ⟨rfl, hk4, hb4, h4⟩
        have hl4 : W4.heap[L]? = some (.loop (rec' .busy)) := hk4 _ _ (by omega) hl3 rfl
        have hd4 : W4.heap[w.heap.size]? = some (.deferred (some [])) := hk4 _ _ (Nat.le_refl _) hd3 rfl
        have hlt4 : L < W4.heap.size := (Array.getElem?_eq_some_iff.1 hl4).1
        refine ⟨_, _, run_endRound (P := P) none hl4, rfl, ⟨put _ h4 hl4 rfl, World.putObj_heap_same hlt4, (World.putObj_heap_other (by omega)).trans hd4, by simp; omega⟩, ?_⟩
        intro k hk
        have := hKb k hk
        rw [World.putObj_heap_other (by omega), hb4 k hk, World.putObj_heap_other (by omega), hb2 k hk]
      | _ => exact he.elim
    · rintro e W2 ⟨⟨v, rfl⟩, k1, k2, k3, k4⟩
      exact ⟨none, _, run_endLoop (P := P) k2 (by simp [rec']), hdone _ _ (Nat.le_refl _) (put _ k1 k2 rfl) ((World.putObj_heap_other (by omega)).trans k3)⟩
end Go.Dec

namespace Go.Dec
open Go.Proofs Go.RowKit

attribute [local go_sem] Oper.semAt_some

def encL (x : Line) : Array Value := #[.agg #[.string ⟨x.1.toArray⟩, .bool x.2.1]]
def boxLen (b : Nat) (W : World) : Nat :=
  match W.cell? ⟨b, 0, none⟩ with
  | some (.string s) => s.size
  | _ => 0
theorem boxLen_eq {b : Nat} {W : World} {s : ByteArray} (h : W.cell? ⟨b, 0, none⟩ = some (.string s)) : boxLen b W = s.size := by simp [boxLen, h]

def BxS (b1 : Nat) (W : World) : Prop := ∃ u, Boxed W b1 9 u

set_option maxRecDepth 100000 in
set_option maxHeartbeats 1000000 in
theorem lines1_gives (n b1 : Nat) (s : List UInt8) (w : World) (m : Int) (h1 : 1 ≤ n) (hs : s.length < 4294967281) (hb0 : b1 ≠ 0) (hbox : Boxed w b1 9 (.string ⟨s.toArray⟩)) (hg : w.cell? ⟨0, 0, none⟩ = some (.int .i64 m))
    (Kb : Nat → Prop) (hK1 : Kb b1) (hK0 : Kb 0) : GivesIn Fence.wide n Try.prog 56 #[.pointer (some ⟨b1, 0, none⟩)] encL (splitL s) b1 Kb (BxS b1) w := by
  intro l J W hW hT hY h0
  have f44 : Fence.wide.fn 44 := trivial
  refine callsIn_of_wp Try.func56 rfl trivial ?_ rfl
  simp only [Try.ntmps56, List.size_toArray, List.length_cons, List.length_nil, Nat.reduceAdd, Nat.reduceSub, Array.replicate_succ, Array.replicate_zero, List.push_toArray, List.append_toArray, List.nil_append, List.cons_append]
  gi_wp2
  gi_loopw [] (fun wr => ∃ (pre : List Line) (rest : List UInt8), splitL s = pre ++ splitL rest ∧ rest.length ≤ s.length ∧ Boxed wr b1 9 (.string ⟨rest.toArray⟩) ∧ wr.cell? ⟨0, 0, none⟩ = some (.int .i64 m) ∧ J pre wr)
    (fun wr => boxLen b1 wr)
  case atStart =>
    exact ⟨[], s, rfl, Nat.le_refl _, (hW b1 hK1).trans hbox, (World.cell?_of_block (hW 0 hK0)).trans hg, h0⟩
  case round =>
    obtain ⟨pre, rest, hx, hl, hb, hc, hJ⟩ := hrel
    have hbc := hb.cell
    by_cases he : rest = []
    · subst he
      gi_wp2
      go_end0
      refine ⟨⟨_, rfl⟩, ?_⟩
      rw [hx]
      simpa [splitL_nil] using hJ
    · have hE : rest.isEmpty = false := by simpa using he
      have hC : CallsIn Fence.wide (n - 1) Try.prog 44 #[.string ⟨rest.toArray⟩, .string ⟨#[10]⟩] wr fun e w' => e = .returned (.tuple #[.string ⟨(cutLf rest).1.toArray⟩, .string ⟨(cutLf rest).2.1.toArray⟩, .bool (cutLf rest).2.2]) ∧ ∃ k, w' = wr.drewN k := by
        have := (callsIn_wide (n := n - 1)).2 (Try.strings_Cut ⟨rest.toArray⟩ ⟨#[10]⟩ m wr (by simp [ByteArray.size]; omega) hc)
        simpa [cut_lf] using this
      gi_wp2_with (gi_at_call 44; refine hC.mono ?_; rintro e w' ⟨rfl, k, rfl⟩)
      · have hT1 : J pre (wr.drewN k) := hT _ _ _ hJ ⟨⟨_, hb⟩, rfl, rfl, rfl, Nat.le_refl _, fun _ _ _ => rfl⟩
        have hY1 : YieldAt Fence.wide (n - 1) Try.prog l #[.agg #[.string ⟨(cutLf rest).1.toArray⟩, .bool (cutLf rest).2.2]] (wr.drewN k) fun e W' => e = .returned (.bool true) ∧ J (pre ++ [((cutLf rest).1, (cutLf rest).2.2, ())]) W' ∧ ∀ k', Kb k' → W'.heap[k']? = (wr.drewN k).heap[k']? :=
          hY pre ((cutLf rest).1, (cutLf rest).2.2, ()) (wr.drewN k) hT1 (by rw [hx, splitL_cut he]; simp)
        obtain ⟨fn, tmps, assign, body, hy, hR⟩ := hY1
        gi_wp2
        rw [hy]
        gi_wp2
        refine hR.mono ?_
        rintro e W3 ⟨rfl, hJ3, hk3⟩
        have hb3 : Boxed W3 b1 9 (.string ⟨rest.toArray⟩) := (hk3 b1 hK1).trans hb
        have hbc3 := hb3.cell
        have hbf3 := hb3.frozen
        gi_wp2
        go_roundw
        case rel =>
          have g1 := grownBy_setCell' W3 b1 (.string ⟨(cutLf rest).2.1.toArray⟩)
          refine ⟨pre ++ [((cutLf rest).1, (cutLf rest).2.2, ())], (cutLf rest).2.1, by rw [hx, splitL_cut he]; simp, by have := cutLf_short he; omega, hb3.set _, ?_, hT _ _ _ hJ3 ⟨⟨_, hb3.set _⟩, g1.os, g1.tape, g1.output, g1.size, fun j hj hne => g1.block j hj (fun e => hne (by cases e; rfl))⟩⟩
          have h0lt : 0 < W3.heap.size := by
            have := (Array.getElem?_eq_some_iff.1 hb3).1
            omega
          exact (World.cell?_of_block (a := ⟨0, 0, none⟩) ((g1.block 0 h0lt (fun e => hb0 (by cases e; rfl))).trans (hk3 0 hK0))).trans hc
        case measure =>
          rw [boxLen_eq (hb3.set _).cell, boxLen_eq hbc]
          simpa [ByteArray.size] using cutLf_short he

/-- Rows, as they lie. -/
def rowCells (l : List Line) : List Value := l.flatMap fun x => [.string ⟨x.1.toArray⟩, .bool x.2.1]
theorem rowCells_len (l : List Line) : (rowCells l).length = l.length * 2 := by
  induction l with
  | nil => rfl
  | cons x l ih => simp [rowCells] at *; omega
theorem rowCells_mid (l : List Line) (x : Line) : rowCells (l ++ [x]) = rowCells l ++ [.string ⟨x.1.toArray⟩, .bool x.2.1] := by simp [rowCells]

theorem info27 : (Try.prog.info? 27).map (fun i => (i.zero, i.size, i.bytes)) = some (some (.agg #[.string ⟨#[]⟩, .bool false]), 2, 24) := by kernel_rfl

set_option maxHeartbeats 1000000 in
theorem lines_in (n : Nat) (s : ByteArray) (w : World) :
    CallsIn Fence.wide n Try.prog 45 #[.string s] w fun e w' => e = .returned (.func (.func 56) #[] #[.pointer (some ⟨w.heap.size, 0, none⟩)]) ∧ w' = w.alloc (.cells #[.string s] 9) := by
  refine callsIn_of_wp Try.func45 rfl trivial ?_ rfl
  simp only [Try.ntmps45, List.size_toArray, List.length_cons, List.length_nil, Nat.reduceAdd, Nat.reduceSub, Array.replicate_succ, Array.replicate_zero, List.push_toArray, List.append_toArray, List.nil_append, List.cons_append]
  gi_wp2
  go_ret
  exact ⟨rfl, rfl⟩

theorem splitL_len (s : List UInt8) : (splitL s).length ≤ s.length + 1 := splitA_len s []

theorem cell_two_new (W : World) (a b : Value) (t : TypeId) : ∀ j u, [a, b][j]? = some u → (W.alloc (.cells #[a, b] t)).cell? (Addr.add ⟨W.heap.size, 0, none⟩ j) = some u := by
  intro j u hj
  have h := World.alloc_heap_new W (.cells #[a, b] t)
  have e : ∀ i, (W.alloc (.cells #[a, b] t)).cell? ⟨W.heap.size, i, none⟩ = #[a, b][i]? := fun i => by unfold World.cell?; rw [h]; rfl
  match j with
  | 0 => exact (e 0).trans (by simpa using hj)
  | 1 => exact (e 1).trans (by simpa using hj)
  | j + 2 => simp at hj

/-- What the rounds keep. -/
structure InvS (w : World) (pre : List Line) (W : World) : Prop where
  os : W.os = w.os
  tape : W.tape = w.tape
  output : W.output = w.output
  below : Below w.heap.size w W
  box : BxS (w.heap.size + 1) W
  row : ∃ v, Boxed W w.heap.size 45 v ∧ W.ownsRow w.heap.size 27 2 v pre.length (rowCells pre)

theorem InvS.kept {w : World} {pre : List Line} {A B : World} {row : Option Nat} (h : InvS w pre A) (hg : A.grownBy B row)
    (hr : ∀ r, row = some r → (r = w.heap.size + 1 ∧ BxS (w.heap.size + 1) B) ∨ (w.heap.size + 2 ≤ r ∧ ∃ o : Obj, A.heap[r]? = some o ∧ o.isCells = false)) : InvS w pre B := by
  obtain ⟨u, hu⟩ := h.box
  obtain ⟨v, hv, hrow⟩ := h.row
  have hnb : ∀ {b : Nat} {cs : Array Value} {t : TypeId}, A.heap[b]? = some (.cells cs t (0, 0)) → b ≠ w.heap.size + 1 → some b ≠ row := by
    intro b cs t hb hne e
    rcases hr b e.symm with ⟨h1, _⟩ | ⟨_, o, ho, hc⟩
    · exact hne h1
    · rw [hb] at ho; cases ho; cases hc
  refine ⟨hg.os.trans h.os, hg.tape.trans h.tape, hg.output.trans h.output, ?_, ?_, v, hv.kept hg (hnb hv (by omega)), hrow.kept hg ?_⟩
  · refine h.below.grown hg h.below.size fun j ej => ?_
    rcases hr j ej with ⟨h1, _⟩ | ⟨h1, _⟩ <;> omega
  · by_cases e : row = some (w.heap.size + 1)
    · rcases hr _ e with ⟨_, h2⟩ | ⟨h1, _⟩
      · exact h2
      · omega
    · exact ⟨u, hu.kept hg (fun h => e h.symm)⟩
  · rcases hrow.2 with ⟨rfl, _⟩ | ⟨g, cap, cur, rfl, _, hgb, _⟩
    · exact .inl rfl
    · refine .inr fun e' => ?_
      have e2 : some g = row := by simpa [Value.ownBlock] using e'
      by_cases hgn : g = w.heap.size + 1
      · subst hgn
        have := (show A.heap[w.heap.size + 1]? = _ from hu).symm.trans hgb
        simp at this
      · exact hnb hgb hgn e2

set_option maxRecDepth 100000 in
set_option maxHeartbeats 2000000 in
theorem split_in (s : List UInt8) (w : World) (m : Int) (hs : s.length < 4294967281) (hg : w.cell? ⟨0, 0, none⟩ = some (.int .i64 m)) :
    CallsIn Fence.wide 5 Try.prog 25 #[.string ⟨s.toArray⟩] w fun e W' => ∃ v, e = .returned v ∧ W'.os = w.os ∧ W'.tape = w.tape ∧ W'.output = w.output ∧ W'.ownsRow w.heap.size 27 2 v (splitL s).length (rowCells (splitL s)) ∧ Below w.heap.size w W' := by
  have f45 : Fence.wide.fn 45 := trivial
  have h0lt : 0 < w.heap.size := by
    rcases Nat.eq_zero_or_pos w.heap.size with h | h
    · simp [World.cell?, Array.getElem?_eq_none (show w.heap.size ≤ 0 by omega)] at hg
    · exact h
  obtain ⟨i0, hi, hz0, hz1, hz2⟩ := info_parts info27
  refine callsIn_of_wp_marks Try.func25 rfl trivial ?_ rfl
  simp only [Try.ntmps25, List.size_toArray, List.length_cons, List.length_nil, Nat.reduceAdd, Nat.reduceSub, Array.replicate_succ, Array.replicate_zero, List.push_toArray, List.append_toArray, List.nil_append, List.cons_append]
  gi_wp2_with (gi_at_call 45; refine (lines_in _ _ _).mono ?_; rintro e w' ⟨rfl, rfl⟩)
  have bO := Boxed.new w 45 (.slice none 0 0)
  have bN := Boxed.new (w.alloc (.cells #[.slice none 0 0] 45)) 9 (.string ⟨s.toArray⟩)
  rw [World.size_alloc] at bN
  have hB0 : Below w.heap.size w ((w.alloc (.cells #[.slice none 0 0] 45)).alloc (.cells #[.string ⟨s.toArray⟩] 9)) := ((Below.refl _ w).alloc (Nat.le_refl _) _).alloc (by simp) _
  refine rangeFunc_gives rfl (by omega) (gf := 56) (lb := #[.pointer (some ⟨w.heap.size + 1, 0, none⟩)]) rfl trivial (enters_of Try.func56 (by kernel_rfl) rfl)
    (encs := encL) (xs := splitL s) (b1 := w.heap.size + 1) (Kb := fun k => k < w.heap.size ∨ k = w.heap.size + 1) (Bx := BxS (w.heap.size + 1)) (by intro k hk; simp; omega) (.inr rfl)
    (lines1_gives _ _ s _ m (by omega) hs (by omega) bN ((hB0.cell (p := ⟨0, 0, none⟩) h0lt).trans hg) _ (.inr rfl) (.inl h0lt)) (fun _ => rfl)
    (InvS w)
    (fun pre x a1 W => InvS w pre W ∧ ∃ g, W.heap[g]? = some (.cells #[.string ⟨x.1.toArray⟩, .bool x.2.1] 27 (0, 0)) ∧ a1 = { tmps := #[.string ⟨s.toArray⟩, undef, .pointer (some ⟨w.heap.size, 0, none⟩), .pointer (some ⟨g, 0, none⟩), .string ⟨s.toArray⟩, .func (.func 56) #[] #[.pointer (some ⟨w.heap.size + 1, 0, none⟩)], .agg #[.string ⟨x.1.toArray⟩, .bool x.2.1], undef, undef, undef, undef, undef], defers := [] })
    ?hI ?hI2 ?h0 ?assign ?body ?done
  case hI => 
    intro pre A B row h hg hr
    exact h.kept hg (fun r e => by simpa using hr r e)
  case hI2 =>
    rintro pre x c A B row ⟨h, g, hgc, rfl⟩ hg hr
    have hr' : ∀ r, row = some r → w.heap.size + 2 ≤ r ∧ ∃ o : Obj, A.heap[r]? = some o ∧ o.isCells = false := fun r e => by simpa using hr r e
    refine ⟨h.kept hg (fun r e => .inr (hr' r e)), g, (hg.block g (Array.getElem?_eq_some_iff.1 hgc).1 fun e => ?_).trans hgc, rfl⟩
    obtain ⟨_, o, ho, hc⟩ := hr' g e.symm
    rw [hgc] at ho; cases ho; cases hc
  case h0 => exact ⟨rfl, rfl, rfl, hB0, ⟨_, bN⟩, _, bO.alloc _, World.ownsRow_nil _ _ _ _⟩
  case assign =>
    intro l pre x W h hsz
    simp only [encL]
    gi_wp2
    have hsz' : w.heap.size + 2 ≤ W.heap.size := by simpa using hsz
    refine ⟨⟨h.kept (World.grownBy_alloc W _ none) (fun r e => by cases e), W.heap.size, World.alloc_heap_new W _, rfl⟩, fun k o _ hk _ => (Below.heap_alloc _ _ _ (Array.getElem?_eq_some_iff.1 hk).1).trans hk, fun k hk => Below.heap_alloc _ _ _ (by omega)⟩
  case body =>
    rintro l pre x a1 W ⟨h, g, hgc, rfl⟩ hlt
    obtain ⟨v, hv, hrow⟩ := h.row
    have hc := hv.cell
    have hc0 : W.cell? ⟨g, 0, none⟩ = some (.string ⟨x.1.toArray⟩) := by simp [World.cell?, hgc]
    have hc1 : W.cell? ⟨g, 1, none⟩ = some (.bool x.2.1) := by simp [World.cell?, hgc]
    have hpl := splitL_len s
    have hm1 : pre.length + 1 ≤ maxLen := by unfold maxLen; omega
    have hm2 : (pre.length + 1) * 24 ≤ 140737488355328 := by omega
    have hm3 : ∀ o, w.heap.size ≤ (W.alloc o).heap.size := fun o => by have := h.below.size; simp; omega
    gi_wp2_with (gi_at_builtin; refine wpListIn_append_own _ rfl _ _ 45 rfl w.heap.size 27 i0 _ 2 24 Try.underlying45 hi hz0 hz1 hz2 rfl (by decide) _ _ _ rfl (hrow.alloc _) ⟨W.heap.size, 0, none⟩ 1 1 [.string ⟨x.1.toArray⟩, .bool x.2.1] rfl rfl (cell_two_new _ _ _ _) (by simp [Value.oneCell']) hm1 hm2 (hm3 _) ?_; intro v' w1 hown' hgrow _; obtain ⟨g', cap', rfl⟩ := ownsRow_succ hown'; obtain ⟨hv1, hv2, hr2, hk2, hb2⟩ := hv.appended (by decide) hrow h.below.size (Nat.le_refl _) hown' hgrow; have hc1 := hv1.cell; have hf1 := hv1.frozen)
    obtain ⟨u, hu⟩ := h.box
    have hu1 : Boxed w1 (w.heap.size + 1) 9 u := (hu.alloc _).kept hgrow (hu.not_row (by decide) hrow)
    have hu2 : (w1.setCell ⟨w.heap.size, 0, none⟩ (.slice (some ⟨g', 0, none⟩) (pre.length + 1) cap')).heap[w.heap.size + 1]? = W.heap[w.heap.size + 1]? := (Below.heap_setCell _ _ _ _ (by simp)).trans (hu1.trans hu.symm)
    refine ⟨fun k o _ => hk2.same k o, ?_, hgrow.os.trans h.os, hgrow.tape.trans h.tape, hgrow.output.trans h.output, h.below.trans hb2, ⟨u, hu2.trans hu⟩, _, hv2, ?_⟩
    · rintro k (hk | rfl)
      · exact hb2.block k hk
      · exact hu2
    · rw [rowCells_mid]
      simpa using hr2
  case done =>
    intro D W hD h hK
    obtain ⟨v, hv, hrow⟩ := h.row
    have hc := hv.cell
    have hf := hv.frozen
    obtain ⟨a, k, c, rfl⟩ : ∃ a k c, v = .slice a k c := by
      rcases hrow.2 with ⟨rfl, _⟩ | ⟨g, cap, cur, rfl, _⟩
      · exact ⟨_, _, _, rfl⟩
      · exact ⟨_, _, _, rfl⟩
    gi_wp2
    have hD' : w.heap.size + 2 ≤ D := by simpa using hD
    have hK' : (W.setCell ⟨w.heap.size, 0, none⟩ (.slice a k c)).heap[D]? = some (.deferred (some [])) := (Below.heap_setCell _ _ _ _ (by simp; omega)).trans hK
    have g1 := grownBy_setCell' W w.heap.size (.slice a k c)
    refine ⟨by simp, .inl ⟨_, _, rfl, run_takeDeferred hK', ?_⟩⟩
    have g2 := grownBy_putObj' (W.setCell ⟨w.heap.size, 0, none⟩ (.slice a k c)) D (.deferred none)
    have hb4 : Boxed ((W.setCell ⟨w.heap.size, 0, none⟩ (.slice a k c)).putObj D (.deferred none)) w.heap.size 45 (.slice a k c) := (hv.set _).kept g2 (by simp; omega)
    have hb4c := hb4.cell
    have hrow1 : (W.setCell ⟨w.heap.size, 0, none⟩ (.slice a k c)).ownsRow w.heap.size 27 2 (.slice a k c) (splitL s).length (rowCells (splitL s)) := hrow.kept g1 (.inr (hv.not_row (by decide) hrow).symm)
    refine ⟨.slice a k c, ?_, .slice a k c, rfl, g2.os.trans (g1.os.trans h.os), g2.tape.trans (g1.tape.trans h.tape), g2.output.trans (g1.output.trans h.output), ownsRow_putObj hrow1 _ hK' rfl,
      (h.below.grown g1 h.below.size (fun j e => by cases e; exact Nat.le_refl _)).grown g2 (by have := h.below.size; have := g1.size; omega) (fun j e => by cases e; omega)⟩
    simp [results, asAddr, loadVar, go_sem, hb4c]

abbrev TLine : Ty := .pair .str (.pair .bool .unit)
abbrev table_SplitA : List Ty := [.str]
abbrev table_SplitR : List Ty := [.slice TLine]

theorem all2_rows (w : World) (N : Nat → Prop) (l : List Line) : All2 (fun (x : Line) (c : List Value) => TLine.Rel w N x c) l (l.map fun x => [.string ⟨x.1.toArray⟩, .bool x.2.1]) := by
  induction l with
  | nil => trivial
  | cons x l ih => exact ⟨⟨[.string ⟨x.1.toArray⟩], [.bool x.2.1], rfl, rfl, [.bool x.2.1], [], rfl, rfl, rfl⟩, ih⟩

theorem table_Split_pure (n : Nat) : Pure Try.prog 25 table_SplitA table_SplitR (table_Split n) := by
  refine ⟨by kernel_rfl, fun x y hF w N xs hG hN hx => ?_⟩
  obtain ⟨hc, hy⟩ := chk_some hF
  have hc := of_decide_eq_true hc
  obtain rfl := Option.some.inj hy
  obtain ⟨u, rfl, h1⟩ := hx
  simp only [Ty.VRel, Ty.isAgg, Bool.false_eq_true, if_false, Ty.Rel, List.cons.injEq, and_true] at h1
  subst h1
  obtain ⟨m, hm⟩ := hG 0 (Try.prog.globals[0]'(by decide +kernel)) (by rw [Array.getElem?_eq_getElem]) (by kernel_rfl)
  refine (callsIn_wide.1 (split_in x w m hc hm)).mono ?_
  rintro e w' ⟨v, rfl, k1, k2, k3, k4, k5⟩
  refine ⟨[v], rfl, k1, k2, k3, ⟨k5.size, fun b hb _ => k5.block b hb⟩, v, rfl, v, rfl, ?_⟩
  rcases k4.2 with ⟨rfl, h0⟩ | ⟨g, cap, cur, rfl, hg, hcur, h2, h3, h4, h5⟩
  · exact .inl ⟨rfl, List.eq_nil_of_length_eq_zero h0⟩
  · refine .inr (.inl ⟨g, 0, cap, _, rfl, (Array.getElem?_eq_some_iff.1 hcur).1, fun hn => absurd (hN g hn) (by omega), h2, h3, all2_rows w' N _, ?_, ?_⟩)
    · intro c hc
      obtain ⟨x, _, rfl⟩ := List.mem_map.1 hc
      rfl
    · intro j c hj
      have e1 : (List.map (fun x : Line => [Value.string ⟨x.1.toArray⟩, .bool x.2.1]) (splitL x)).flatten = rowCells (splitL x) := by simp [rowCells, List.flatMap]
      rw [e1, ← h5] at hj
      rw [List.getElem?_take] at hj
      split at hj
      · have e2 : w'.cell? ⟨g, 0 + j, none⟩ = cur[0 + j]? := by unfold World.cell?; rw [hcur]; rfl
        rw [e2]
        simpa using hj
      · cases hj
end Go.Dec

namespace Go.Dec
open Go.Proofs Go.RowKit

theorem info83 : (Try.prog.info? 83).map (fun i => (i.zero, i.size, i.bytes)) = some (some (.agg #[.pointer none, .slice none 0 0]), 2, 32) := by kernel_rfl

set_option maxHeartbeats 1000000 in
set_option maxRecDepth 100000 in
theorem check_used (b : Nat) (w : World) (h0 : w.cell? ⟨b, 0, none⟩ = some (.pointer (some ⟨b, 0, none⟩))) :
    Calls Try.prog 57 #[.pointer (some ⟨b, 0, none⟩)] w fun e w' => e = .returned (.tuple #[]) ∧ w' = w := by
  obtain ⟨j, hj, _⟩ := info_parts info83
  go_enter Try.func57, Try.ntmps57
  go_wp2
  rw [Lib.run_neq_ptr_same w _ Try.underlying80 hj]
  go_wp2
  go_end0
  exact ⟨rfl, rfl⟩

set_option maxHeartbeats 1000000 in
set_option maxRecDepth 100000 in
theorem check_fresh (b : Nat) (w : World) (h0 : w.cell? ⟨b, 0, none⟩ = some (.pointer none)) (hsh : w.shape? b = some (83, 2)) (hfz : w.frozen? ⟨b, 0, none⟩ = false) :
    Calls Try.prog 57 #[.pointer (some ⟨b, 0, none⟩)] w fun e w' => e = .returned (.tuple #[]) ∧ w' = w.setCell ⟨b, 0, none⟩ (.pointer (some ⟨b, 0, none⟩)) := by
  obtain ⟨j, hj, _, hjs, _⟩ := info_parts info83
  go_enter Try.func57, Try.ntmps57
  go_wp2
  rw [Lib.run_to_unsafe w ⟨b, 0, none⟩ Try.underlying80 Try.underlying103 hj (by rw [hjs]; decide) hsh (Nat.zero_lt_succ 1)]
  simp only [Result.andThen]
  rw [Oper.upon_value]
  go_wp2
  rw [run_callFunc_extern Try.func62 (by kernel_rfl) (by kernel_rfl) (by kernel_rfl) (e := Extern.AbiNoEscape.same) (by kernel_rfl)]
  rw [Lib.run_noEscape]
  simp only [Result.andThen]
  rw [Oper.upon_value]
  go_wp2
  rw [Lib.run_from_unsafe w ⟨b, 0, none⟩ Try.underlying103 Try.underlying80 hj hsh (by kernel_rfl)]
  simp only [Result.andThen]
  rw [Oper.upon_value]
  go_wp2
  go_end0
  exact ⟨rfl, rfl⟩

abbrev BldO : List OS := [.box 83 [.ornil 0 0, .own 1], .row 5 (.int .u8)]
abbrev Builder_checkI : Sh := ⟨1, [⟨0, false, [.ptr 0 0]⟩], BldO⟩
abbrev Builder_checkO : Sh := ⟨0, [], BldO⟩

theorem setCell_row {w : World} {b : Nat} {c v u : Value} {e : TypeId} (h : w.heap[b]? = some (.cells #[c, u] e (0, 0))) : w.setCell ⟨b, 0, none⟩ v = w.setRow b #[v, u] := by
  have e1 : (w.setCell ⟨b, 0, none⟩ v).heap = (w.setRow b #[v, u]).heap := by
    apply Array.ext_getElem?
    intro j
    by_cases hj : j = b
    · subst hj
      rw [setRow_heap w j _ _ e _ h]
      obtain ⟨hlt, hk⟩ := Array.getElem?_eq_some_iff.1 h
      show (w.heap.modify j _)[j]? = _
      rw [Array.getElem?_eq_getElem (by rw [Array.size_modify]; exact hlt), Array.getElem_modify_self, hk]
      rfl
    · rw [setRow_other w b j _ (fun e => hj e), Below.heap_setCell _ _ _ j (fun e => hj e)]
  have e2 : w.setCell ⟨b, 0, none⟩ v = { w with heap := (w.setCell ⟨b, 0, none⟩ v).heap } := rfl
  rw [e2, e1]
  rfl

theorem Builder_check_meets (n : Nat) : Meets Try.prog 57 Builder_checkI Builder_checkO (Builder_check n) := by
  refine ⟨by kernel_rfl, fun x y hF C β w xs hP hkf hs => ?_⟩
  obtain rfl := Option.some.inj hF
  obtain ⟨rows, x0⟩ := x
  have hE : Builder_checkI.enc (rows, x0) = ⟨[.one (.ptr 0 0)], [.box 83 [.ornil 0 0, .own 1 0], .arr 5 (.int .u8) 0 rows true]⟩ := rfl
  have hE2 : Builder_checkO.enc (rows, x0) = ⟨[], [.box 83 [.ornil 0 0, .own 1 0], .arr 5 (.int .u8) 0 rows true]⟩ := rfl
  rw [hE] at hs
  rw [hE2]
  have h0 := hs.heap.obj 0 _ rfl
  have hr := hs.reg 0 _ rfl
  have hsz := hs.size
  obtain ⟨u, rfl⟩ : ∃ u, xs = [u] := List.length_eq_one_iff.1 (by simpa using hsz.symm)
  simp only [Ob.Rel, LsRel, V.Rel, L.Rel] at h0 hr
  obtain ⟨hl, hb, b, cs, hblk, ⟨c1, c2, rfl, ⟨c, rfl, hc⟩, c3, c4, rfl, ⟨g1, g2, g3, v, rfl, g5, g6⟩, rfl⟩, hheap⟩ := h0
  obtain ⟨_, _, b', hb', hu⟩ := hr
  have hbb : b' = b := by rw [hblk] at hb'; cases hb'; rfl
  subst hbb
  have hu : u = .pointer (some ⟨b', 0, none⟩) := by simpa using hu
  subst hu
  simp only [List.nil_append, List.cons_append, List.append_nil] at hheap
  have done : ∀ {w' : World}, HSim C β [.box 83 [.ornil 0 0, .own 1 0], .arr 5 (.int .u8) 0 rows true] w' → Sim C β ⟨[], [.box 83 [.ornil 0 0, .own 1 0], .arr 5 (.int .u8) 0 rows true]⟩ { tmps := (([] : List Value)).toArray, defers := [] } w' :=
    fun h => ⟨h, rfl, rfl, fun i v h => by simp at h⟩
  rcases hc with rfl | ⟨_, _, b2, hb2, rfl⟩
  · refine (check_fresh b' w (by simp [World.cell?, hheap]) (by simp [World.shape?, hheap]) (by simp [World.frozen?, hheap])).mono ?_
    rintro e w' ⟨rfl, rfl⟩
    rw [setCell_row hheap]
    refine ⟨[], β, rfl, done ?_⟩
    have := Sim.setBox (id := 0) (e := 83) (ls := [.ornil 0 0, .own 1 0]) (ls' := [.ornil 0 0, .own 1 0]) (b := b') (cs := [.pointer none, v]) (cs' := [.pointer (some ⟨b', 0, none⟩), v]) hs rfl hblk hheap ?_
    · exact this.heap
    · exact ⟨[_], [_], rfl, ⟨_, rfl, .inr ⟨hl, hb, b', hblk, rfl⟩⟩, [_], [], rfl, ⟨g1, g2, g3, v, rfl, g5, g6⟩, rfl⟩
  · have hbb : b2 = b' := by rw [hblk] at hb2; cases hb2; rfl
    subst hbb
    refine (check_used b2 w (by simp [World.cell?, hheap])).mono ?_
    rintro e w' ⟨rfl, rfl⟩
    exact ⟨[], β, rfl, done hs.heap⟩
end Go.Dec

namespace Go.Dec
open Go.Proofs Go.RowKit

theorem grownBy_drew (w : World) (r : Option Nat) : w.grownBy w.drew r := ⟨rfl, rfl, rfl, Nat.le_refl _, fun _ _ _ => rfl⟩

theorem grow_trans {a b c : World} {r : Option Nat} (h : a.grownBy b r) (h' : b.grownBy c r) : a.grownBy c r :=
  ⟨h'.os.trans h.os, h'.tape.trans h.tape, h'.output.trans h.output, Nat.le_trans h.size h'.size, fun k hk hne => (h'.block k (Nat.lt_of_lt_of_le hk h.size) hne).trans (h.block k hk hne)⟩

theorem grownBy_freeze (w : World) (g n : Nat) : w.grownBy (w.freeze ⟨g, 0, none⟩ n) (some g) := by
  unfold World.freeze
  split
  · exact ⟨rfl, rfl, rfl, Nat.le_refl _, fun _ _ _ => rfl⟩
  · refine ⟨rfl, rfl, rfl, by simp, fun k hk hne => ?_⟩
    simp only [Array.getElem?_modify]
    rw [if_neg (fun e => hne (by rw [e]))]

set_option maxHeartbeats 1000000 in
set_option maxRecDepth 100000 in
theorem str_full (b g cap : Nat) (p : Value) (cur : Array Value) (l : List UInt8) (w : World) (h0 : l ≠ []) (hbk : w.heap[b]? = some (.cells #[p, .slice (some ⟨g, 0, none⟩) l.length cap] 83 (0, 0)))
    (hg : w.heap[g]? = some (.cells cur 5 (0, 0))) (hnc : l.length ≤ cap) (hcm : cap ≤ maxLen) (hcs : cur.size = cap) (htake : cur.toList.take l.length = Lib.byteCells l) :
    Calls Try.prog 47 #[.pointer (some ⟨b, 0, none⟩)] w fun e w' => e = .returned (.string ⟨l.toArray⟩) ∧ w.grownBy w' (some g) := by
  have hl0 : l.length ≠ 0 := by simpa using h0
  have c1 : w.drew.cell? ⟨b, 1, none⟩ = some (.slice (some ⟨g, 0, none⟩) l.length cap) := by
    have : w.drew.heap[b]? = some (.cells #[p, .slice (some ⟨g, 0, none⟩) l.length cap] 83 (0, 0)) := hbk
    rw [Lib.cell_of_heap this]; rfl
  have hSD : (Builtin.unsafeSliceData_ #[81] 99 #[.slice (some ⟨g, 0, none⟩) l.length cap]).run Try.prog w.drew = .ok (.pointer (some ⟨g, 0, none⟩)) w.drew :=
    Lib.run_unsafeSliceData_row _ _ _ _ _ _ (by omega)
  have hUS : (Builtin.unsafeString_ #[99, 3] 9 #[.pointer (some ⟨g, 0, none⟩), .int .i64 l.length]).run Try.prog w.drew = .ok (.string ⟨l.toArray⟩) (w.drew.freeze ⟨g, 0, none⟩ l.length) := by
    refine Lib.run_unsafeString_row w.drew 99 3 9 5 Try.underlying99 (by kernel_rfl) g cur.size (by have hg' : w.drew.heap[g]? = some (.cells cur 5 (0, 0)) := hg; simp [World.shape?, hg']) l h0 (by omega) (by unfold maxLen at hcm; omega) ?_
    intro j x hx
    have hj : j < l.length := (List.getElem?_eq_some_iff.1 hx).1
    have h1 : cur[j]? = some (.int .u8 x.toNat) := by
      have h2 : (cur.toList.take l.length)[j]? = some (.int .u8 x.toNat) := by rw [htake]; simp [Lib.byteCells, hx]
      rw [List.getElem?_take, if_pos hj] at h2
      simpa using h2
    have hg' : w.drew.heap[g]? = some (.cells cur 5 (0, 0)) := hg
    rw [addr_add, Lib.cell_of_heap hg']
    simpa using h1
  have mixed : Try.prog.follows .mixedOrders = true := by kernel_rfl
  go_enter Try.func47, Try.ntmps47
  go_wp2
  go_region_o
  all_goals (go_wp2; go_ret; exact ⟨rfl, grow_trans (grownBy_drew w _) (grownBy_freeze _ _ _)⟩)

theorem str_none (W : World) (q : Option Addr) : (Builtin.unsafeString_ #[99, 3] 9 #[.pointer q, .int .i64 0]).run Try.prog W = .ok (.string .empty) W := Lib.run_unsafeString_none W _ _ _ q

set_option maxHeartbeats 2000000 in
set_option maxRecDepth 100000 in
theorem str_nil (b : Nat) (r : Option Nat) (p : Value) (w : World) (hbk : w.heap[b]? = some (.cells #[p, .slice none 0 0] 83 (0, 0))) :
    Calls Try.prog 47 #[.pointer (some ⟨b, 0, none⟩)] w fun e w' => e = .returned (.string ⟨#[]⟩) ∧ w.grownBy w' r := by
  have hUS := str_none
  have c1 : w.drew.cell? ⟨b, 1, none⟩ = some (.slice none 0 0) := by
    have : w.drew.heap[b]? = some (.cells #[p, .slice none 0 0] 83 (0, 0)) := hbk
    rw [Lib.cell_of_heap this]; rfl
  have hSD : (Builtin.unsafeSliceData_ #[81] 99 #[.slice none 0 0]).run Try.prog w.drew = .ok (.pointer none) w.drew := rfl
  have mixed : Try.prog.follows .mixedOrders = true := by kernel_rfl
  go_enter Try.func47, Try.ntmps47
  go_wp2
  go_region_o
  all_goals (go_wp2; go_ret; exact ⟨rfl, grownBy_drew w _⟩)

set_option maxHeartbeats 2000000 in
set_option maxRecDepth 100000 in
theorem str_noroom (b g : Nat) (r : Option Nat) (p : Value) (cur : Array Value) (w : World) (hbk : w.heap[b]? = some (.cells #[p, .slice (some ⟨g, 0, none⟩) 0 0] 83 (0, 0))) (hg : w.heap[g]? = some (.cells cur 5 (0, 0))) :
    Calls Try.prog 47 #[.pointer (some ⟨b, 0, none⟩)] w fun e w' => e = .returned (.string ⟨#[]⟩) ∧ w.grownBy w' r := by
  have hUS := str_none
  have hlt : b < w.heap.size := by
    rcases Nat.lt_or_ge b w.heap.size with h' | h'
    · exact h'
    · simp [Array.getElem?_eq_none h'] at hbk
  have c1 : w.drew.cell? ⟨b, 1, none⟩ = some (.slice (some ⟨g, 0, none⟩) 0 0) := by
    have : w.drew.heap[b]? = some (.cells #[p, .slice (some ⟨g, 0, none⟩) 0 0] 83 (0, 0)) := hbk
    rw [Lib.cell_of_heap this]; rfl
  have hSD : (Builtin.unsafeSliceData_ #[81] 99 #[.slice (some ⟨g, 0, none⟩) 0 0]).run Try.prog w.drew = .ok (.pointer (some ⟨w.drew.heap.size, 0, none⟩)) (w.drew.alloc (.view ⟨g, 0, none⟩ 5)) :=
    Lib.run_unsafeSliceData_zero w.drew _ _ 5 Try.underlying99 ⟨g, 0, none⟩ 0 (5, cur.size) (by have hg' : w.drew.heap[g]? = some (.cells cur 5 (0, 0)) := hg; simp [World.shape?, hg'])
  have c2 : (w.drew.alloc (.view ⟨g, 0, none⟩ 5)).cell? ⟨b, 1, none⟩ = some (.slice (some ⟨g, 0, none⟩) 0 0) := by
    have : (w.drew.alloc (.view ⟨g, 0, none⟩ 5)).heap[b]? = _ := (Lib.alloc_old w.drew _ b hlt).trans hbk
    rw [Lib.cell_of_heap this]; rfl
  have c3 : (w.alloc (.view ⟨g, 0, none⟩ 5)).drew.cell? ⟨b, 1, none⟩ = some (.slice (some ⟨g, 0, none⟩) 0 0) := c2
  have c0 : w.cell? ⟨b, 1, none⟩ = some (.slice (some ⟨g, 0, none⟩) 0 0) := c1
  have mixed : Try.prog.follows .mixedOrders = true := by kernel_rfl
  go_enter Try.func47, Try.ntmps47
  go_wp2
  go_region_o
  all_goals (go_wp2; go_ret; exact ⟨rfl, grow_trans (grownBy_drew w _) (World.grownBy_alloc _ _ _)⟩)

set_option maxHeartbeats 2000000 in
set_option maxRecDepth 100000 in
theorem str_room (b g cap : Nat) (r : Option Nat) (p : Value) (w : World) (hc0 : cap ≠ 0) (hbk : w.heap[b]? = some (.cells #[p, .slice (some ⟨g, 0, none⟩) 0 cap] 83 (0, 0))) :
    Calls Try.prog 47 #[.pointer (some ⟨b, 0, none⟩)] w fun e w' => e = .returned (.string ⟨#[]⟩) ∧ w.grownBy w' r := by
  have hUS := str_none
  have c1 : w.drew.cell? ⟨b, 1, none⟩ = some (.slice (some ⟨g, 0, none⟩) 0 cap) := by
    have : w.drew.heap[b]? = some (.cells #[p, .slice (some ⟨g, 0, none⟩) 0 cap] 83 (0, 0)) := hbk
    rw [Lib.cell_of_heap this]; rfl
  have hSD : (Builtin.unsafeSliceData_ #[81] 99 #[.slice (some ⟨g, 0, none⟩) 0 cap]).run Try.prog w.drew = .ok (.pointer (some ⟨g, 0, none⟩)) w.drew :=
    Lib.run_unsafeSliceData_row _ _ _ _ _ _ hc0
  clear hc0
  have mixed : Try.prog.follows .mixedOrders = true := by kernel_rfl
  go_enter Try.func47, Try.ntmps47
  go_wp2
  go_region_o
  all_goals (go_wp2; go_ret; exact ⟨rfl, grownBy_drew w _⟩)

abbrev Builder_StringI : Sh := ⟨1, [⟨0, false, [.ptr 0 0]⟩], BldO⟩
abbrev Builder_StringO : Sh := ⟨1, [⟨0, false, [.v .str]⟩], [.box 83 [.ornil 0 0, .any 1], .row 5 (.int .u8)]⟩

theorem byteCells_of (l : List Int) (h : (l.all fun n => decide (0 ≤ n) && decide (n < 256)) = true) : Lib.byteCells (bytesToS l) = l.map (Value.int .u8) := by
  induction l with
  | nil => rfl
  | cons n l ih =>
    simp only [List.all_cons, Bool.and_eq_true, decide_eq_true_eq] at h
    obtain ⟨⟨h1, h2⟩, h3⟩ := h
    have := ih h3
    simp only [Lib.byteCells, bytesToS, List.map_cons, List.map_map] at this ⊢
    rw [List.cons.injEq]
    refine ⟨?_, this⟩
    have e : (UInt8.ofNat n.toNat).toNat = n.toNat := by
      rw [UInt8.toNat_ofNat_of_lt']
      have : n.toNat < 256 := by omega
      exact this
    rw [e]
    congr 1
    omega

theorem Builder_String_meets (n : Nat) : Meets Try.prog 47 Builder_StringI Builder_StringO (Builder_String n) := by
  refine ⟨by kernel_rfl, fun x y hF C β w xs hP hkf hs => ?_⟩
  obtain ⟨hrange, hy⟩ := chk_some hF
  obtain rfl := Option.some.inj hy
  obtain ⟨rows, x0⟩ := x
  have hE : Builder_StringI.enc (rows, x0) = ⟨[.one (.ptr 0 0)], [.box 83 [.ornil 0 0, .own 1 0], .arr 5 (.int .u8) 0 rows true]⟩ := rfl
  have hE2 : Builder_StringO.enc (bytesToS rows, [], ()) = ⟨[.one (.val .str (bytesToS rows))], [.box 83 [.ornil 0 0, .bad 1], .arr 5 (.int .u8) 0 [] true]⟩ := rfl
  rw [hE] at hs
  show Calls Try.prog 47 xs.toArray w fun e w' => ∃ us β', e = Ending.returned (retVal us) ∧ Sim C β' (Builder_StringO.enc (bytesToS rows, [], ())) { tmps := us.toArray, defers := [] } w'
  rw [hE2]
  have h0 := hs.heap.obj 0 _ rfl
  have h1 := hs.heap.obj 1 _ rfl
  have hr := hs.reg 0 _ rfl
  have hsz := hs.size
  obtain ⟨u, rfl⟩ : ∃ u, xs = [u] := List.length_eq_one_iff.1 (by simpa using hsz.symm)
  have hcells := byteCells_of rows hrange
  simp only [Ob.Rel, LsRel, V.Rel, L.Rel] at h0 h1 hr
  obtain ⟨hl, hb, b, cs, hblk, ⟨c1, c2, rfl, ⟨c, rfl, hc⟩, c3, c4, rfl, ⟨g1, g2, g3, v, rfl, g5, g6⟩, rfl⟩, hheap⟩ := h0
  obtain ⟨_, _, b', hb', hu⟩ := hr
  have hbb : b' = b := by rw [hblk] at hb'; cases hb'; rfl
  subst hbb
  have hu : u = .pointer (some ⟨b', 0, none⟩) := by simpa using hu
  subst hu
  simp only [List.nil_append, List.cons_append, List.append_nil] at hheap
  obtain ⟨k1, k2, k3, k4, k5, k6, k7⟩ := h1
  have hso := g6 k3
  -- what is left, in a world where the row alone has turned
  have done : ∀ {w' : World} {r : Option Nat}, w.grownBy w' r → (∀ k, r = some k → (β 1).blk = some k) →
      Sim C (upd β 1 ⟨true, false, 0, none, 1, 0, 0⟩) ⟨[.one (.val .str (bytesToS rows))], [.box 83 [.ornil 0 0, .bad 1], .arr 5 (.int .u8) 0 [] true]⟩ { tmps := ([Value.string ⟨(bytesToS rows).toArray⟩] : List Value).toArray, defers := [] } w' := by
    intro w' r hg hrk
    have hne : ∀ k, r = some k → k ≠ b' := fun k hk e => by
      subst e
      have := hs.heap.apart 0 1 _ _ k rfl rfl hblk (hrk k hk)
      omega
    have hlt : b' < w.heap.size := (Array.getElem?_eq_some_iff.1 hheap).1
    have hb2 : w'.heap[b']? = some (.cells #[c, v] 83 (0, 0)) := (hg.block b' hlt (fun e => hne b' e.symm rfl)).trans hheap
    have e0 : upd β 1 ⟨true, false, 0, none, 1, 0, 0⟩ 0 = β 0 := upd_other _ _ (by omega)
    have e1 : upd β 1 ⟨true, false, 0, none, 1, 0, 0⟩ 1 = ⟨true, false, 0, none, 1, 0, 0⟩ := upd_same _ _ _
    refine ⟨⟨?_, ?_, ?_, ?_, hs.heap.n0, ?_, Nat.le_trans hs.heap.size hg.size, hg.os.trans hs.heap.os, hg.tape.trans hs.heap.tape, hg.output.trans hs.heap.output, ?_⟩, rfl, rfl, ?_⟩
    · intro id o ho
      match id, ho with
      | 0, ho =>
        obtain rfl := Option.some.inj ho
        simp only [Ob.Rel, LsRel, L.Rel, e0]
        exact ⟨hl, hb, b', [c, v], hblk, ⟨[c], [v], rfl, ⟨c, rfl, hc⟩, [v], [], rfl, ⟨rfl, fun q hq => by simp at hq; subst hq; exact g5⟩, rfl⟩, hb2⟩
      | 1, ho =>
        obtain rfl := Option.some.inj ho
        simp only [Ob.Rel, e1]
        simp [Ty.size]
      | id + 2, ho => simp at ho
    · intro id hid
      have hid : 2 ≤ id := hid
      rw [upd_other _ _ (by omega)]
      exact hs.heap.dead id hid
    · intro i j o o' bk hi hj h1 h2
      match i, j with
      | 0, 0 => rfl
      | 1, _ => rw [e1] at h1; cases h1
      | _, 1 => rw [e1] at h2; cases h2
      | i + 2, _ => simp at hi
      | _, j + 2 => simp at hj
    · intro id o bk hi h1
      match id with
      | 0 =>
        rw [e0] at h1
        obtain ⟨q1, q2, q3⟩ := hs.heap.fresh 0 _ bk rfl h1
        exact ⟨q1, Nat.lt_of_lt_of_le q2 hg.size, q3⟩
      | 1 => rw [e1] at h1; cases h1
      | id + 2 => simp at hi
    · intro k hk hn
      refine (hg.block k (Nat.lt_of_lt_of_le hk hs.heap.size) (fun e => ?_)).trans (hs.heap.frame k hk hn)
      obtain ⟨_, _, q3⟩ := hs.heap.fresh 1 _ k rfl (hrk k e.symm)
      rcases q3 with q3 | q3
      · omega
      · exact hn q3
    · intro j o hj
      obtain ⟨q1, q2⟩ := hs.heap.fixed j o hj
      refine ⟨q1, fun bk hbk => ?_⟩
      obtain ⟨q3, q4⟩ := q2 bk hbk
      match j with
      | 0 => rw [e0]; exact ⟨q3, q4⟩
      | 1 => rw [k2] at q4; cases q4
      | j + 2 => simp at q1; omega
    · intro i q hq
      match i, hq with
      | 0, hq =>
        obtain rfl := Option.some.inj hq
        simp [V.Rel, L.Rel, Ty.Rel]
      | i + 1, hq => simp at hq
  have hlb : (bytesToS rows).length = rows.length := by simp [bytesToS]
  rcases k7 with ⟨hn, rfl, hcap⟩ | ⟨g, cur, css, hgb, hgh, hall, htake, hcap, hrc, hcm⟩
  · unfold SlOwn at hso
    rw [hn] at hso
    obtain ⟨rfl, _, _⟩ := hso
    refine (str_nil b' none c w hheap).mono ?_
    rintro e w' ⟨rfl, hg⟩
    exact ⟨[_], _, rfl, done hg (fun k hk => by cases hk)⟩
  · unfold SlOwn at hso
    rw [hgb] at hso
    obtain ⟨m1, o, rfl, m3⟩ := hso
    have ho0 : o = 0 := by
      rcases m3 with m3 | m3
      · simpa using m3
      · omega
    subst ho0
    rw [Nat.sub_zero, k6] at hheap
    have hflat : css.flatten = rows.map (Value.int .u8) := cell_u8 hall
    have hcs : cur.size = (β 1).cap := by simpa [Ty.size] using hcap
    have htk : cur.toList.take rows.length = Lib.byteCells (bytesToS rows) := by rw [hcells, ← hflat]; simpa [Ty.size] using htake
    by_cases he : rows = []
    · subst he
      by_cases hc0 : (β 1).cap = 0
      · rw [hc0] at hheap
        refine (str_noroom b' g none c cur w hheap hgh).mono ?_
        rintro e w' ⟨rfl, hg⟩
        exact ⟨[_], _, rfl, done hg (fun k hk => by cases hk)⟩
      · refine (str_room b' g (β 1).cap none c w hc0 hheap).mono ?_
        rintro e w' ⟨rfl, hg⟩
        exact ⟨[_], _, rfl, done hg (fun k hk => by cases hk)⟩
    · rw [← hlb] at hheap htk
      refine (str_full b' g (β 1).cap c cur (bytesToS rows) w (by intro h; have := congrArg List.length h; rw [hlb] at this; exact he (List.eq_nil_of_length_eq_zero this)) hheap hgh (by omega) hcm hcs htk).mono ?_
      rintro e w' ⟨rfl, hg⟩
      exact ⟨[_], _, rfl, done hg (fun k hk => by cases hk; exact hgb)⟩
end Go.Dec

namespace Go.Dec
set_option linter.unusedVariables false

abbrev pl_TSiibcE : Ty := .pair (.int .i64) (.pair (.int .i64) (.pair .bool (.pair (.int .u8) .unit)))
abbrev pl_TSswE : Ty := .pair .str (.pair (.int .u64) .unit)
abbrev pl_TSsbbE : Ty := .pair .str (.pair .bool (.pair .bool .unit))
abbrev pl_TSsbE : Ty := .pair .str (.pair .bool .unit)
abbrev pl_TSssE : Ty := .pair .str (.pair .str .unit)

/-- calender/table.name -/
def pl_table_name (n : Nat) (x : List UInt8 × List UInt8 × Unit) : Option (List UInt8) :=
  let f_0 : List UInt8 × List UInt8 × Unit := x
  some f_0.1

/-- calender/table.place[calender/table.File]$1 -/
def pl_table_place_File_1 (n : Nat) (x : List UInt8 × List UInt8 × List UInt8 × Unit) : Option (Bool × List UInt8 × Unit) :=
  let x_1 : List UInt8 := x.1
  let x_2 : List UInt8 := x.2.1
  let b3 : List UInt8 := x.2.2.1
  ob (pl_table_name n (x_1, (x_2, ()))) fun y4 =>
  some ((!Op.bytesLess y4 b3), b3, ())

/-- slices.IndexFunc[[]calender/table.File,calender/table.File] -/
def pl_slices_IndexFunc_File__table_place_File_1_loop0 (n : Nat) (g0 : List (List UInt8 × List UInt8 × Unit) × Int × Int × List UInt8 × Unit → Option (Int × List UInt8 × Unit)) (x3 : List (List UInt8 × List UInt8 × Unit) × Int × Int × List UInt8 × Unit) : Option (Int × List UInt8 × Unit) :=
  let s_4 : List (List UInt8 × List UInt8 × Unit) := x3.1
  let t7_5 : Int := x3.2.1
  let t8_6 : Int := x3.2.2.1
  let b7 : List UInt8 := x3.2.2.2.1
  br (decide (t8_6 < t7_5)) (
    chk (inB t8_6 s_4.length) (
      let v8 : List UInt8 × List UInt8 × Unit := getAt (Ty.dflt pl_TSssE) s_4 t8_6
      ob (pl_table_place_File_1 n (v8.1, v8.2.1, b7, ())) fun y9 =>
      br y9.1 (
        some (t8_6, y9.2.1, ())) (
        let v10 : Int := IntKind.wrap .i64 (t8_6 + 1)
        g0 (s_4, t7_5, v10, y9.2.1, ())))) (
    some ((-1), b7, ()))

def pl_slices_IndexFunc_File__table_place_File_1 (n : Nat) (x : List (List UInt8 × List UInt8 × Unit) × List UInt8 × Unit) : Option (Int × List UInt8 × Unit) :=
  let s_1 : List (List UInt8 × List UInt8 × Unit) := x.1
  let b2 : List UInt8 := x.2.1
  fix (pl_slices_IndexFunc_File__table_place_File_1_loop0 n) n (s_1, (s_1.length : Int), 0, b2, ())

/-- calender/table.place[calender/table.File] -/
def pl_table_place_File__table_name (n : Nat) (x : List (List UInt8 × List UInt8 × Unit) × List UInt8 × Unit) : Option (Int × Bool × Unit) :=
  let l_1 : List (List UInt8 × List UInt8 × Unit) := x.1
  let name_2 : List UInt8 := x.2.1
  ob (pl_slices_IndexFunc_File__table_place_File_1 n (l_1, name_2, ())) fun y3 =>
  br (decide (y3.1 < 0)) (
    some ((l_1.length : Int), false, ())) (
    chk (inB y3.1 l_1.length) (
      let v4 : List UInt8 × List UInt8 × Unit := getAt (Ty.dflt pl_TSssE) l_1 y3.1
      ob (pl_table_name n v4) fun y5 =>
      some (y3.1, (y5 == y3.2.1), ())))

end Go.Dec

namespace Go.Dec
open Go.Proofs
set_option linter.unusedVariables false

def pl_tab : Tab := [(3, ⟨.int .i64, 1, 8, [.val (.int .i64) 0], some (.int .i64), false⟩),
  (4, ⟨.bool, 1, 1, [.val .bool false], some .bool, false⟩),
  (9, ⟨.str, 1, 16, [.val .str []], some .str, false⟩),
  (51, ⟨.slice 62, 1, 24, [.nils], some (.slice pl_TSssE), false⟩),
  (62, ⟨.struct [(0, 9), (1, 9)], 2, 32, [.val .str [], .val .str []], some pl_TSssE, true⟩),
  (90, ⟨.func, 1, 8, [.val .opq Value.nilFunc], some .opq, false⟩),
  (95, ⟨.func, 1, 8, [.val .opq Value.nilFunc], some .opq, false⟩)]
theorem pl_tab_ok : TabOK Try.prog pl_tab := tabOK_of (by kernel_rfl)
theorem pl_mixed : Try.prog.follows .mixedOrders = true := by kernel_rfl

abbrev pl_table_nameA : List Ty := [pl_TSssE]
abbrev pl_table_nameR : List Ty := [.str]
abbrev pl_table_place_File_1I : Sh := ⟨3, [⟨0, true, [.v .str, .v .str]⟩, ⟨1, false, [.ptr 0 0]⟩, ⟨2, false, [.ptr 1 0]⟩], [.box 95 [.clo 52 []], .box 9 [.v .str]]⟩
abbrev pl_table_place_File_1O : Sh := ⟨1, [⟨0, false, [.v .bool]⟩], [.box 95 [.clo 52 []], .box 9 [.v .str]]⟩
abbrev pl_slices_IndexFunc_File__table_place_File_1I : Sh := ⟨2, [⟨0, false, [.v (.slice pl_TSssE)]⟩, ⟨1, false, [.clo 58 [(0, 0), (1, 0)]]⟩], [.box 95 [.clo 52 []], .box 9 [.v .str]]⟩
abbrev pl_slices_IndexFunc_File__table_place_File_1O : Sh := ⟨1, [⟨0, false, [.v (.int .i64)]⟩], [.box 95 [.clo 52 []], .box 9 [.v .str]]⟩
abbrev pl_table_place_File__table_nameI : Sh := ⟨3, [⟨0, false, [.v (.slice pl_TSssE)]⟩, ⟨1, false, [.v .str]⟩, ⟨2, false, [.clo 52 []]⟩], []⟩
abbrev pl_table_place_File__table_nameO : Sh := ⟨2, [⟨0, false, [.v (.int .i64)]⟩, ⟨1, false, [.v .bool]⟩], []⟩

/-- calender/table.name -/
def pl_table_nameAn (n : Nat) : An (Dens pl_table_nameR) := .nil
theorem pl_table_name_pure (n : Nat) : Pure Try.prog 52 pl_table_nameA pl_table_nameR (pl_table_name n) :=
  pure_of (Γ := orcG _ [] []) (an := pl_table_nameAn n) Try.func52 rfl (by kernel_rfl) pl_tab_ok (orcG_ok (all_nil) alg_nil) pl_mixed (plain_ok _ _ rfl) (fun x => by kernel_rfl)

/-- calender/table.place[calender/table.File]$1 -/
def pl_table_place_File_1An (n : Nat) : An (pl_table_place_File_1O.X) := .nil
theorem pl_table_place_File_1_meets (n : Nat) : Meets Try.prog 58 pl_table_place_File_1I pl_table_place_File_1O (pl_table_place_File_1 n) :=
  meets_of (Γ := orcG _ [(52, peOf pl_table_nameA pl_table_nameR (pl_table_name n))] []) (an := pl_table_place_File_1An n) (co := [.gc [0, 1]]) Try.func58 rfl (by kernel_rfl) pl_tab_ok (orcG_ok (all_cons (peOf_ok (pl_table_name_pure n)) (all_nil)) alg_nil) pl_mixed (plain_ok _ _ rfl) (by kernel_rfl) (by kernel_rfl) (fun x => by kernel_rfl)

/-- slices.IndexFunc[[]calender/table.File,calender/table.File] -/
def pl_slices_IndexFunc_File__table_place_File_1An (n : Nat) : An (pl_slices_IndexFunc_File__table_place_File_1O.X) := (.mk .nil (.mk (.mk .nil (.mk (.loop ⟨19, [⟨0, false, [.v (.slice pl_TSssE)]⟩, ⟨1, false, [.clo 58 [(0, 0), (1, 0)]]⟩, ⟨7, false, [.v (.int .i64)]⟩, ⟨8, false, [.v (.int .i64)]⟩], [.box 95 [.clo 52 []], .box 9 [.v .str]]⟩ [.keep [true, true, false, false, false, false, false, true, true], .gc [0, 1]] [.keep [true, true, false, false, false, false, false, true, true], .gc [0, 1]] n .nil) .nil []) []) .nil []) [])
theorem pl_slices_IndexFunc_File__table_place_File_1_meets (n : Nat) : Meets Try.prog 48 pl_slices_IndexFunc_File__table_place_File_1I pl_slices_IndexFunc_File__table_place_File_1O (pl_slices_IndexFunc_File__table_place_File_1 n) :=
  meets_of (Γ := orcG _ [(58, peM pl_table_place_File_1I pl_table_place_File_1O (pl_table_place_File_1 n))] []) (an := pl_slices_IndexFunc_File__table_place_File_1An n) (co := [.gc [0, 1]]) Try.func48 rfl (by kernel_rfl) pl_tab_ok (orcG_ok (all_cons (peM_ok (pl_table_place_File_1_meets n)) (all_nil)) alg_nil) pl_mixed (plain_ok _ _ rfl) (by kernel_rfl) (by kernel_rfl) (fun x => by kernel_rfl)

/-- calender/table.place[calender/table.File] -/
def pl_table_place_File__table_nameAn (n : Nat) : An (pl_table_place_File__table_nameO.X) := .nil
theorem pl_table_place_File__table_name_meets (n : Nat) : Meets Try.prog 51 pl_table_place_File__table_nameI pl_table_place_File__table_nameO (pl_table_place_File__table_name n) :=
  meets_of (Γ := orcG _ [(48, peM pl_slices_IndexFunc_File__table_place_File_1I pl_slices_IndexFunc_File__table_place_File_1O (pl_slices_IndexFunc_File__table_place_File_1 n)), (52, peOf pl_table_nameA pl_table_nameR (pl_table_name n))] []) (an := pl_table_place_File__table_nameAn n) (co := [.gc []]) Try.func51 rfl (by kernel_rfl) pl_tab_ok (orcG_ok (all_cons (peM_ok (pl_slices_IndexFunc_File__table_place_File_1_meets n)) (all_cons (peOf_ok (pl_table_name_pure n)) (all_nil))) alg_nil) pl_mixed (plain_ok _ _ rfl) (by kernel_rfl) (by kernel_rfl) (fun x => by kernel_rfl)

end Go.Dec

namespace Go.Dec
/-- The one function that is handed to place in this program. -/
def placeConv (x : List (List UInt8 × List UInt8 × Unit) × List UInt8 × Value) : Option (List (List UInt8 × List UInt8 × Unit) × List UInt8 × Unit) :=
  match x.2.2 with
  | .func (.func f) a b => if f = 52 ∧ a.size = 0 ∧ b.size = 0 then some (x.1, x.2.1, ()) else none
  | _ => none
def table_place (n : Nat) (x : List (List UInt8 × List UInt8 × Unit) × List UInt8 × Value) : Option (Int × Bool) :=
  match placeConv x with
  | some z => match pl_table_place_File__table_name n z with
    | some y => some (y.1, y.2.1)
    | none => none
  | none => none
end Go.Dec

namespace Go.Dec
abbrev table_placeA : List Ty := [.slice (.pair .str (.pair .str .unit)), .str, .opq]
abbrev table_placeR : List Ty := [.int .i64, .bool]
def placeOut (y : pl_table_place_File__table_nameO.X) : Dens table_placeR := (y.1, y.2.1)
def placeIn (x : Dens table_placeA) : Option pl_table_place_File__table_nameI.X := placeConv x
theorem place_in (x : Dens table_placeA) (z : pl_table_place_File__table_nameI.X) (hz : placeIn x = some z) : (pl_table_place_File__table_nameI.enc z).h = [] ∧ ∀ (β : Nat → Pl) (w : World) (N : Nat → Prop) (us : List Value), ArgsRel β w N (encVs table_placeA x) us → ArgsRel β w N (pl_table_place_File__table_nameI.enc z).r us := by
  obtain ⟨l, nm, v⟩ := x
  unfold placeIn placeConv at hz
  simp only at hz
  split at hz
  · rename_i f a0 b0 hv
    split at hz
    · rename_i hc
      obtain ⟨rfl, ha, hb⟩ := hc
      have ha := Array.eq_empty_of_size_eq_zero ha
      have hb := Array.eq_empty_of_size_eq_zero hb
      subst ha hb
      obtain rfl := Option.some.inj hz
      refine ⟨rfl, fun β w N us h => ?_⟩
      match us, h with
      | [a, b, c], ⟨h1, h2, h3, _⟩ =>
        refine ⟨h1, h2, ?_, trivial⟩
        simp only [vOf, Ty.isAgg, V.Rel, L.Rel, Ty.Rel, List.cons.injEq, and_true] at h3
        obtain ⟨h3, _⟩ := h3
        exact ⟨[], by rw [h3], rfl⟩
    · cases hz
  · cases hz

theorem table_place_pure (n : Nat) : Pure Go.Proofs.Try.prog 51 table_placeA table_placeR (table_place n) := by
  have h := pure_of_meets (conv := placeIn) (out := placeOut) (pl_table_place_File__table_name_meets n) place_in (fun y => ⟨_, rfl, rfl⟩)
  refine ⟨h.1, fun x y hF => h.2 x y ?_⟩
  unfold table_place at hF
  unfold placeIn placeOut
  cases hp : placeConv x with
  | none => simp only [hp] at hF; cases hF
  | some z =>
    cases hq : pl_table_place_File__table_name n z with
    | none => simp only [hp, hq] at hF; cases hF
    | some q => simp only [hp, hq] at hF ⊢; exact hF
end Go.Dec

namespace Go.Dec
open Go.Proofs Go.RowKit

theorem run_copy_rows {P : Program} (w : World) (dT sT ty elem : TypeId) (g o dLen dCap : Nat) (a : Addr) (sLen sCap : Nat) (cur : Array Value) (t : TypeId) (cs : List Value) {sz : Nat}
    (hu : P.underlying dT = some (.slice elem)) (hs : (P.info? elem).map (·.size) = some sz)
    (hg : w.heap[g]? = some (.cells cur t (0, 0))) (hn : cs.length = Nat.min sLen dLen * sz)
    (hsrc : ∀ j v, cs[j]? = some v → w.cell? (a.add j) = some v) (hfit : o + cs.length ≤ cur.size) (h1 : ∀ v ∈ cs, v.oneCell' = true) :
    (Builtin.copy_ #[dT, sT] ty #[.slice (some ⟨g, o, none⟩) dLen dCap, .slice (some a) sLen sCap]).run P w =
      .ok (goInt (Nat.min sLen dLen)) (w.setRow g (cur.toList.take o ++ cs ++ cur.toList.drop (o + cs.length)).toArray) := by
  have hl := run_loadCells_list (P := P) w a cs hsrc
  have hst := run_storeCells_at P g o t cs 0 cur w hg (by simpa using hfit) h1
  cases hq : P.info? elem with
  | none => simp [hq] at hs
  | some i =>
    simp [hq] at hs
    rw [hn] at hl
    simp [Builtin.copy_, run_underlying hu, Builtin.lenOf, Builtin.firstCells, sizeOf, typeInfo, hq, hs, hl]
    have hst' : (storeCells ⟨g, o, none⟩ cs).run P w = .ok () (w.setRow g (List.take o cur.toList ++ (cs ++ List.drop (o + cs.length) cur.toList)).toArray) := by simpa using hst
    rw [hst']
    rfl

set_option maxHeartbeats 4000000 in
set_option maxRecDepth 100000 in
theorem ins_shift (g n c i vb vc : Nat) (cur : Array Value) (vs : List Value) (w : World) (hi : i < n) (hroom : n + 1 ≤ c) (hc63 : c ≤ 9223372036854775807) (hvb : vb ≠ g)
    (hg : w.heap[g]? = some (.cells cur 62 (0, 0))) (hcs : cur.size = c * 2) (hvl : vs.length = 2) (hvs : ∀ j v, vs[j]? = some v → w.cell? ⟨vb, j, none⟩ = some v) (h1c : ∀ v ∈ cur.toList.take (n * 2), v.oneCell' = true) (h1v : ∀ v ∈ vs, v.oneCell' = true)
    (tA : TypeId) (kA : Nat) (hsa : w.shape? vb = some (tA, kA)) (hfa : w.frozen? ⟨vb, 0, none⟩ = false) (hfe : w.frozen? ⟨vb, kA, none⟩ = false) :
    Calls Try.prog 53 #[.slice (some ⟨g, 0, none⟩) n c, .int .i64 i, .slice (some ⟨vb, 0, none⟩) 1 vc] w fun e w' =>
      e = .returned (.slice (some ⟨g, 0, none⟩) (n + 1) c) ∧ w.grownBy w' (some g) ∧ ∃ cur' : Array Value, w'.heap[g]? = some (.cells cur' 62 (0, 0)) ∧ cur'.size = c * 2 ∧
        cur'.toList.take ((n + 1) * 2) = cur.toList.take (i * 2) ++ vs ++ (cur.toList.take (n * 2)).drop (i * 2) := by
  have hz1 : ¬ ((1 : Int) = 0) := by omega
  have hz2 : ¬ ((i : Int) = (n : Int)) := by omega
  have hsz : (Try.prog.info? 62).map (·.size) = some 2 := by kernel_rfl
  have mixed : Try.prog.follows .mixedOrders = true := by kernel_rfl
  have hw1 : IntKind.i64.wrap ((i : Int) + 1) = (i : Int) + 1 := by rw [IntKind.wrap_i64]; omega
  have hw2 : IntKind.i64.wrap ((n : Int) + 1) = (n : Int) + 1 := by rw [IntKind.wrap_i64]; omega
  have hin : i ≤ n := by omega
  have hb1 : (0 : Int) ≤ (i : Int) + 1 := by omega
  have hb2 : ¬ (c = i + 1) := by omega
  have hb3 : (i : Int) ≤ (n : Int) + 1 := by omega
  have hb4 : ¬ (c = i) := by omega
  have hb5 : i ≤ n + 1 := by omega
  have htn : ((i : Int) + 1).toNat = i + 1 := by omega
  have hov : ∀ lb cb, (callFunc 59 #[.slice (some ⟨vb, 0, none⟩) 1 vc, .slice (some ⟨g, (i + 1) * 2, none⟩) lb cb]).run Try.prog w = .ok (.value (.bool false)) w := fun lb cb => by
    rw [run_callFunc_extern Try.func59 (by kernel_rfl) (by kernel_rfl) (by kernel_rfl) (e := Extern.SlicesOverlaps.overlaps #[51, 51] #[4]) (by kernel_rfl),
      Lib.run_overlaps_apart w 51 4 62 Try.underlying51 2 Try.sizeOf62 ⟨vb, 0, none⟩ ⟨g, (i + 1) * 2, none⟩ 1 vc lb cb hvb tA 62 kA cur.size hsa (by simp [World.shape?, hg]) (by omega) hfa hfe]
    rfl
  have hdl : ((cur.toList.take (n * 2)).drop (i * 2)).length = (n - i) * 2 := by simp; omega
  have hgd : w.drew.heap[g]? = some (.cells cur 62 (0, 0)) := hg
  have hcp1 : ∀ ty dc sc, (Builtin.copy_ #[51, 51] ty #[.slice (some ⟨g, (i + 1) * 2, none⟩) (n - i) dc, .slice (some ⟨g, i * 2, none⟩) (n + 1 - i) sc]).run Try.prog w.drew = .ok (goInt (Nat.min (n + 1 - i) (n - i)))
      (w.drew.setRow g (cur.toList.take ((i + 1) * 2) ++ (cur.toList.take (n * 2)).drop (i * 2) ++ cur.toList.drop ((i + 1) * 2 + ((cur.toList.take (n * 2)).drop (i * 2)).length)).toArray) := fun ty dc sc =>
    run_copy_rows w.drew 51 51 ty 62 g ((i + 1) * 2) (n - i) dc ⟨g, i * 2, none⟩ (n + 1 - i) sc cur 62 _ Try.underlying51 hsz hgd (by rw [hdl, show Nat.min (n + 1 - i) (n - i) = n - i from Nat.min_eq_right (by omega)])
      (fun j v hj => by
        rw [addr_add, Go.Lib.cell_of_heap hgd]
        rw [List.getElem?_drop, List.getElem?_take] at hj
        split at hj
        · simpa using hj
        · cases hj) (by rw [hdl]; omega) (fun v hv => h1c v (List.mem_of_mem_drop hv))
  obtain ⟨cur1, hcur1⟩ : ∃ c1, c1 = (cur.toList.take ((i + 1) * 2) ++ (cur.toList.take (n * 2)).drop (i * 2) ++ cur.toList.drop ((i + 1) * 2 + ((cur.toList.take (n * 2)).drop (i * 2)).length)).toArray := ⟨_, rfl⟩
  rw [← hcur1] at hcp1
  obtain ⟨W1, hW1⟩ : ∃ W1, W1 = w.drew.setRow g cur1 := ⟨_, rfl⟩
  rw [← hW1] at hcp1
  have hg1 : W1.heap[g]? = some (.cells cur1 62 (0, 0)) := by rw [hW1]; exact setRow_heap w.drew g cur cur1 62 (0, 0) hgd
  have hal : (cur.toList.take ((i + 1) * 2)).length = (i + 1) * 2 := by simp; omega
  have hs1 : cur1.size = c * 2 := by
    rw [hcur1]
    simp only [List.size_toArray, List.length_append, hdl, List.length_drop, List.length_take, Array.length_toList]
    omega
  have hcell : ∀ j, W1.cell? ⟨vb, j, none⟩ = w.cell? ⟨vb, j, none⟩ := fun j => by
    rw [hW1]
    exact World.cell?_of_block (a := ⟨vb, j, none⟩) (setRow_other w.drew g vb cur1 hvb)
  have hcp2 : ∀ ty dc, (Builtin.copy_ #[51, 51] ty #[.slice (some ⟨g, i * 2, none⟩) (n + 1 - i) dc, .slice (some ⟨vb, 0, none⟩) 1 vc]).run Try.prog W1 = .ok (goInt (Nat.min 1 (n + 1 - i)))
      (W1.setRow g (cur1.toList.take (i * 2) ++ vs ++ cur1.toList.drop (i * 2 + vs.length)).toArray) := fun ty dc =>
    run_copy_rows W1 51 51 ty 62 g (i * 2) (n + 1 - i) dc ⟨vb, 0, none⟩ 1 vc cur1 62 vs Try.underlying51 hsz hg1 (by rw [hvl, show Nat.min 1 (n + 1 - i) = 1 from Nat.min_eq_left (by omega)])
      (fun j v hj => by rw [addr_add, Nat.zero_add, hcell]; exact hvs j v hj) (by omega) h1v
  have fin : w.grownBy (W1.setRow g (cur1.toList.take (i * 2) ++ vs ++ cur1.toList.drop (i * 2 + vs.length)).toArray) (some g) ∧ ∃ cur' : Array Value, (W1.setRow g (cur1.toList.take (i * 2) ++ vs ++ cur1.toList.drop (i * 2 + vs.length)).toArray).heap[g]? = some (.cells cur' 62 (0, 0)) ∧ cur'.size = c * 2 ∧
        cur'.toList.take ((n + 1) * 2) = cur.toList.take (i * 2) ++ vs ++ (cur.toList.take (n * 2)).drop (i * 2) := by
    refine ⟨?_, _, setRow_heap W1 g cur1 _ 62 (0, 0) hg1, ?_, ?_⟩
    · rw [hW1]
      exact ⟨rfl, rfl, rfl, by simp [World.setRow], fun k _ hk => (setRow_other _ g k _ (fun e => hk (by rw [e]))).trans (setRow_other w.drew g k _ (fun e => hk (by rw [e])))⟩
    · simp only [List.size_toArray, List.length_append, List.length_take, List.length_drop, Array.length_toList, hs1, hvl]
      omega
    · have e1 : cur1.toList.take (i * 2) = cur.toList.take (i * 2) := by
        rw [hcur1]
        simp only [List.append_assoc]
        rw [List.take_append_of_le_length (by rw [hal]; omega), List.take_take, Nat.min_eq_left (by omega)]
      have e2 : cur1.toList.drop (i * 2 + vs.length) = (cur.toList.take (n * 2)).drop (i * 2) ++ cur.toList.drop ((i + 1) * 2 + ((cur.toList.take (n * 2)).drop (i * 2)).length) := by
        rw [hcur1, hvl]
        simp only [List.append_assoc]
        rw [show i * 2 + 2 = (cur.toList.take ((i + 1) * 2)).length by rw [hal]; omega, List.drop_left]
      rw [e1, e2]
      simp only []
      rw [← List.append_assoc (_ ++ vs)]
      exact List.take_left' (by simp only [List.length_append, hdl, hvl, List.length_take, Array.length_toList]; omega)
  clear hW1 hcur1
  go_enter Try.func53, Try.ntmps53
  go_wp2_with (simp only [hov])
  go_region_law_o (refine step_copy_runI rfl _ _ 51 51 rfl _ _ (by simp [Act.eval, Act.put]) (by simp [Act.eval, Act.put]) (hcp1 _ _ _) ?_)
  go_wp2_with (at_builtin; refine wpList_copy_runI _ rfl _ _ 51 51 rfl _ _ rfl rfl (hcp2 _ _) ?_)
  go_ret
  rw [hvl] at fin
  simp only [List.append_assoc] at fin ⊢
  exact ⟨rfl, fin⟩

set_option maxHeartbeats 4000000 in
set_option maxRecDepth 100000 in
theorem ins_grow (g n c i vb vc : Nat) (cur : Array Value) (vs : List Value) (w : World) (hi : i < n) (hnc : n ≤ c) (hroom : c < n + 1) (hbig : (n + 1) * 32 ≤ 140737488355328)
    (hg : w.heap[g]? = some (.cells cur 62 (0, 0))) (hcs : cur.size = c * 2) (hvl : vs.length = 2) (hvs : ∀ j v, vs[j]? = some v → w.cell? ⟨vb, j, none⟩ = some v) (h1c : ∀ v ∈ cur.toList.take (n * 2), v.oneCell' = true) (h1v : ∀ v ∈ vs, v.oneCell' = true) :
    Calls Try.prog 53 #[.slice (some ⟨g, 0, none⟩) n c, .int .i64 i, .slice (some ⟨vb, 0, none⟩) 1 vc] w fun e w' =>
      ∃ C, e = .returned (.slice (some ⟨w.heap.size, 0, none⟩) (n + 1) C) ∧ n + 1 ≤ C ∧ C ≤ maxLen ∧ w.heap.size < w'.heap.size ∧ w.grownBy w' none ∧ ∃ cur' : Array Value, w'.heap[w.heap.size]? = some (.cells cur' 62 (0, 0)) ∧ cur'.size = C * 2 ∧
        cur'.toList.take ((n + 1) * 2) = cur.toList.take (i * 2) ++ vs ++ (cur.toList.take (n * 2)).drop (i * 2) := by
  have hsz : (Try.prog.info? 62).map (·.size) = some 2 := by kernel_rfl
  obtain ⟨i0, hi0, hz0, hz1, hz2⟩ := info_parts (show (Try.prog.info? 62).map (fun i => (i.zero, i.size, i.bytes)) = some (some (.agg #[.string ⟨#[]⟩, .string ⟨#[]⟩]), 2, 32) by kernel_rfl)
  have mixed : Try.prog.follows .mixedOrders = true := by kernel_rfl
  have hglt : g < w.heap.size := (Array.getElem?_eq_some_iff.1 hg).1
  have hC1 := grownCap_ge w (n + 1) c 62
  have hC2 := grownCap_le_maxLen w (n + 1) c 62 (by simp only [maxLen]; omega)
  have holds : ∀ j v, (cur.toList.take (i * 2))[j]? = some v → w.drew.cell? ((⟨g, 0, none⟩ : Addr).add j) = some v := fun j v hj => by
    rw [addr_add, Nat.zero_add, Go.Lib.cell_of_heap (show w.drew.heap[g]? = some (.cells cur 62 (0, 0)) from hg)]
    rw [List.getElem?_take] at hj
    split at hj
    · simpa using hj
    · cases hj
  have hap := Go.Lib.run_append_grow_zeros (P := Try.prog) w 51 3 51 62 i0 _ .i64 .i64 Try.underlying51 Try.underlying3 hi0 hz0 (some ⟨g, 0, none⟩) i c (cur.toList.take (i * 2))
    (by rw [hz1]; exact run_firstCells_some (P := Try.prog) w.drew 2 i ⟨g, 0, none⟩ i c _ (by simp; omega) holds) (n + 1 - i) (by omega) (by omega) (by omega) (by omega) (by rw [hz2]; omega)
    (by rw [hz2, show i + (n + 1 - i) = n + 1 by omega]; exact growslice_fits (by omega) (by omega))
  rw [show i + (n + 1 - i) = n + 1 by omega] at hap
  obtain ⟨C, hC⟩ : ∃ C, C = grownCap w (n + 1) c 62 := ⟨_, rfl⟩
  rw [← hC] at hap hC1 hC2
  obtain ⟨curA, hcurA⟩ : ∃ cA : Array Value, cA = (cur.toList.take (i * 2)).toArray ++ Builtin.zeroCells (Value.agg #[.string ⟨#[]⟩, .string ⟨#[]⟩]).cells (n + 1 - i) ++ Builtin.zeroCells (Value.agg #[.string ⟨#[]⟩, .string ⟨#[]⟩]).cells (C - (n + 1)) := ⟨_, rfl⟩
  rw [← hcurA] at hap
  obtain ⟨W0, hW0⟩ : ∃ W0, W0 = w.drew.alloc (.cells curA 62) := ⟨_, rfl⟩
  rw [← hW0] at hap
  have hz : (Value.agg #[.string ⟨#[]⟩, .string ⟨#[]⟩]).cells.size = 2 := rfl
  have hAs : curA.size = C * 2 := by
    rw [hcurA]
    simp only [Array.size_append, List.size_toArray, size_zeroCells, hz, List.length_take, Array.length_toList]
    omega
  have hA1 : curA.toList.take (i * 2) = cur.toList.take (i * 2) := by
    rw [hcurA]
    simp only [Array.toList_append, List.append_assoc]
    exact List.take_left' (by simp; omega)
  have hB : W0.heap[w.heap.size]? = some (.cells curA 62 (0, 0)) := by rw [hW0]; exact heap_alloc_new w.drew _
  have hold : ∀ k, k < w.heap.size → W0.heap[k]? = w.heap[k]? := fun k hk => by rw [hW0]; exact Below.heap_alloc w.drew _ k hk
  have hvlt : ∀ j v, vs[j]? = some v → vb < w.heap.size := fun j v hj => by
    have := hvs j v hj
    rcases Nat.lt_or_ge vb w.heap.size with h | h
    · exact h
    · simp [World.cell?, Array.getElem?_eq_none h] at this
  have hcp1 : ∀ ty dc, (Builtin.copy_ #[51, 51] ty #[.slice (some ⟨w.heap.size, i * 2, none⟩) (n + 1 - i) dc, .slice (some ⟨vb, 0, none⟩) 1 vc]).run Try.prog W0 = .ok (goInt (Nat.min 1 (n + 1 - i)))
      (W0.setRow w.heap.size (curA.toList.take (i * 2) ++ vs ++ curA.toList.drop (i * 2 + vs.length)).toArray) := fun ty dc =>
    run_copy_rows W0 51 51 ty 62 w.heap.size (i * 2) (n + 1 - i) dc ⟨vb, 0, none⟩ 1 vc curA 62 vs Try.underlying51 hsz hB (by rw [hvl, show Nat.min 1 (n + 1 - i) = 1 from Nat.min_eq_left (by omega)])
      (fun j v hj => by rw [addr_add, Nat.zero_add]; exact (World.cell?_of_block (a := ⟨vb, j, none⟩) (hold vb (hvlt j v hj))).trans (hvs j v hj)) (by omega) h1v
  obtain ⟨cur1, hcur1⟩ : ∃ c1, c1 = (curA.toList.take (i * 2) ++ vs ++ curA.toList.drop (i * 2 + vs.length)).toArray := ⟨_, rfl⟩
  rw [← hcur1] at hcp1
  obtain ⟨W1, hW1⟩ : ∃ W1, W1 = W0.setRow w.heap.size cur1 := ⟨_, rfl⟩
  rw [← hW1] at hcp1
  have hs1 : cur1.size = C * 2 := by
    rw [hcur1]
    simp only [List.size_toArray, List.length_append, List.length_take, List.length_drop, Array.length_toList, hAs, hvl]
    omega
  have hB1 : W1.drew.heap[w.heap.size]? = some (.cells cur1 62 (0, 0)) := by rw [hW1]; exact setRow_heap W0 w.heap.size curA cur1 62 (0, 0) hB
  have hg1 : W1.drew.heap[g]? = some (.cells cur 62 (0, 0)) := by rw [hW1]; exact (setRow_other W0 w.heap.size g cur1 (by omega)).trans ((hold g hglt).trans hg)
  have hdl : ((cur.toList.take (n * 2)).drop (i * 2)).length = (n - i) * 2 := by simp; omega
  have hcp2 : ∀ ty dc sc, (Builtin.copy_ #[51, 51] ty #[.slice (some ⟨w.heap.size, (i + 1) * 2, none⟩) (n + 1 - (i + 1)) dc, .slice (some ⟨g, i * 2, none⟩) (n - i) sc]).run Try.prog W1.drew = .ok (goInt (Nat.min (n - i) (n + 1 - (i + 1))))
      (W1.drew.setRow w.heap.size (cur1.toList.take ((i + 1) * 2) ++ (cur.toList.take (n * 2)).drop (i * 2) ++ cur1.toList.drop ((i + 1) * 2 + ((cur.toList.take (n * 2)).drop (i * 2)).length)).toArray) := fun ty dc sc =>
    run_copy_rows W1.drew 51 51 ty 62 w.heap.size ((i + 1) * 2) (n + 1 - (i + 1)) dc ⟨g, i * 2, none⟩ (n - i) sc cur1 62 _ Try.underlying51 hsz hB1 (by rw [hdl, show Nat.min (n - i) (n + 1 - (i + 1)) = n - i from Nat.min_eq_left (by omega)])
      (fun j v hj => by
        rw [addr_add, Go.Lib.cell_of_heap hg1]
        rw [List.getElem?_drop, List.getElem?_take] at hj
        split at hj
        · simpa using hj
        · cases hj) (by rw [hdl]; omega) (fun v hv => h1c v (List.mem_of_mem_drop hv))
  have hcp2' : ∀ ty dc sc, (Builtin.copy_ #[51, 51] ty #[.slice (some ⟨w.heap.size, (i + 1) * 2, none⟩) (n - i) dc, .slice (some ⟨g, i * 2, none⟩) (n - i) sc]).run Try.prog W1.drew = .ok (goInt (Nat.min (n - i) (n + 1 - (i + 1))))
      (W1.drew.setRow w.heap.size (cur1.toList.take ((i + 1) * 2) ++ (cur.toList.take (n * 2)).drop (i * 2) ++ cur1.toList.drop ((i + 1) * 2 + ((cur.toList.take (n * 2)).drop (i * 2)).length)).toArray) := fun ty dc sc => by
    have := hcp2 ty dc sc
    rwa [show n + 1 - (i + 1) = n - i by omega] at this ⊢
  obtain ⟨cur2, hcur2⟩ : ∃ c2, c2 = (cur1.toList.take ((i + 1) * 2) ++ (cur.toList.take (n * 2)).drop (i * 2) ++ cur1.toList.drop ((i + 1) * 2 + ((cur.toList.take (n * 2)).drop (i * 2)).length)).toArray := ⟨_, rfl⟩
  rw [← hcur2] at hcp2'
  clear hcp2
  have fin : w.heap.size < (W1.drew.setRow w.heap.size cur2).heap.size ∧ w.grownBy (W1.drew.setRow w.heap.size cur2) none ∧ ∃ cur' : Array Value, (W1.drew.setRow w.heap.size cur2).heap[w.heap.size]? = some (.cells cur' 62 (0, 0)) ∧ cur'.size = C * 2 ∧
        cur'.toList.take ((n + 1) * 2) = cur.toList.take (i * 2) ++ vs ++ (cur.toList.take (n * 2)).drop (i * 2) := by
    have hsize : (W1.drew.setRow w.heap.size cur2).heap.size = w.heap.size + 1 := by rw [hW1, hW0]; simp [World.setRow]
    refine ⟨by omega, ⟨by rw [hW1, hW0]; rfl, by rw [hW1, hW0]; rfl, by rw [hW1, hW0]; rfl, by omega, fun k hk _ => (setRow_other W1.drew w.heap.size k cur2 (by omega)).trans ?_⟩, cur2, setRow_heap W1.drew w.heap.size cur1 cur2 62 (0, 0) hB1, ?_, ?_⟩
    · rw [hW1]
      exact (setRow_other W0 w.heap.size k cur1 (by omega)).trans (hold k hk)
    · rw [hcur2]
      simp only [List.size_toArray, List.length_append, hdl, List.length_take, List.length_drop, Array.length_toList, hs1]
      omega
    · have e1 : cur1.toList.take ((i + 1) * 2) = cur.toList.take (i * 2) ++ vs := by
        rw [hcur1, hA1]
        exact List.take_left' (by simp only [List.length_append, hvl, List.length_take, Array.length_toList]; omega)
      rw [hcur2, e1]
      exact List.take_left' (by simp only [List.length_append, hdl, hvl, List.length_take, Array.length_toList]; omega)
  have hz2' : ¬ ((i : Int) = (n : Int)) := by omega
  have hw1 : IntKind.i64.wrap ((i : Int) + 1) = (i : Int) + 1 := by rw [IntKind.wrap_i64]; omega
  have hw2 : IntKind.i64.wrap ((n : Int) + 1) = (n : Int) + 1 := by rw [IntKind.wrap_i64]; omega
  have hw3 : IntKind.i64.wrap ((n : Int) + 1 - (i : Int)) = ((n + 1 - i : Nat) : Int) := by rw [IntKind.wrap_i64]; omega
  have hin : i ≤ n := by omega
  have hic : i ≤ c := by omega
  have hb1 : (0 : Int) ≤ (i : Int) + 1 := by omega
  have hb2 : ¬ (C = i + 1) := by omega
  have hb3 : (i : Int) ≤ (n : Int) + 1 := by omega
  have hb4 : ¬ (C = i) := by omega
  have hb5 : i ≤ n + 1 := by omega
  have hb6 : ¬ (c = i) := by omega
  have htn : ((i : Int) + 1).toNat = i + 1 := by omega
  have hnc' : ¬ (n + 1 ≤ c) := by omega
  clear hW1 hcur1 hcur2 hW0 hcurA hC
  go_enter Try.func53, Try.ntmps53
  go_wp2_with (at_builtin; first | refine Go.Lib.wpList_append_run _ rfl _ _ 51 3 rfl _ _ rfl rfl _ _ hap ?_ | refine wpList_copy_runI _ rfl _ _ 51 51 rfl _ _ rfl rfl (hcp1 _ _) ?_)
  go_region_law_o (refine step_copy_runI rfl _ _ 51 51 rfl _ _ (by simp [Act.eval, Act.put]) (by simp [Act.eval, Act.put]) (hcp2' _ _ _) ?_)
  go_wp2
  go_ret
  exact ⟨C, rfl, hC1, hC2, fin⟩

set_option maxHeartbeats 4000000 in
set_option maxRecDepth 100000 in
theorem ins_end (g n c vb vc : Nat) (w : World) (_hnc : n ≤ c) {v' : Value} {w' : World} (hrun : (Builtin.append_ #[51, 51] 51 #[.slice (some ⟨g, 0, none⟩) n c, .slice (some ⟨vb, 0, none⟩) 1 vc]).run Try.prog w = .ok v' w') :
    Calls Try.prog 53 #[.slice (some ⟨g, 0, none⟩) n c, .int .i64 n, .slice (some ⟨vb, 0, none⟩) 1 vc] w fun e W => e = .returned v' ∧ W = w' := by
  have mixed : Try.prog.follows .mixedOrders = true := by kernel_rfl
  go_enter Try.func53, Try.ntmps53
  go_wp2_with (at_builtin; refine Go.Lib.wpList_append_run _ rfl _ _ 51 51 rfl _ _ rfl rfl _ _ hrun ?_)
  all_goals (go_ret; exact ⟨rfl, rfl⟩)

set_option maxHeartbeats 4000000 in
set_option maxRecDepth 100000 in
theorem ins_nil (vb vc : Nat) (w : World) {v' : Value} {w' : World} (hrun : (Builtin.append_ #[51, 51] 51 #[.slice none 0 0, .slice (some ⟨vb, 0, none⟩) 1 vc]).run Try.prog w = .ok v' w') :
    Calls Try.prog 53 #[.slice none 0 0, .int .i64 0, .slice (some ⟨vb, 0, none⟩) 1 vc] w fun e W => e = .returned v' ∧ W = w' := by
  have mixed : Try.prog.follows .mixedOrders = true := by kernel_rfl
  go_enter Try.func53, Try.ntmps53
  go_wp2_with (at_builtin; refine Go.Lib.wpList_append_run _ rfl _ _ 51 51 rfl _ _ rfl rfl _ _ hrun ?_)
  all_goals (go_ret; exact ⟨rfl, rfl⟩)
end Go.Dec

namespace Go.Dec
open Go.Proofs

theorem own_set {C : Ctx} {β : Nat → Pl} {w : World} {σ : St} {a : Act} {e : TypeId} {te : Ty} {ver id : Nat} {rows rows' : List te.den} (hs : Sim C β σ a w) (ho : σ.h[id]? = some (.arr e te ver rows true)) {w' : World} {bk cap : Nat} {cur : Array Value} {css : List (List Value)}
    (hbk : bk = w.heap.size ∧ w.heap.size < w'.heap.size ∨ (β id).blk = some bk) (hkeep : Keep (fun k => (β id).blk = some k ∧ True) w w') (hsame : Same w w')
    (hheap : w'.heap[bk]? = some (.cells cur e (0, 0))) (hall : All2 (fun x c => te.Rel w (C.N β σ.h) x c) rows' css) (htake : cur.toList.take (rows'.length * te.size) = css.flatten) (hcsz : cur.size = cap * te.size) (hle : rows'.length ≤ cap) (hm : cap ≤ maxLen) :
    ∃ β', Moves β β' ∧ Sim C β' { σ with h := σ.h.set id (.arr e te (ver + 1) rows' true) } a w' ∧
      (L.own id (ver + 1)).Rel β' w' (C.N β' (σ.h.set id (.arr e te (ver + 1) rows' true))) [.slice (some ⟨bk, 0, none⟩) rows'.length cap] := by
  have hob := hs.heap.obj _ _ ho
  simp only [Ob.Rel] at hob
  obtain ⟨hlive, hbox, hpv, hpz, hpos, hpl, hob⟩ := hob
  let p : Pl := ⟨true, false, ver + 1, some bk, te.size, cap, rows'.length⟩
  have hmv : Moves β (upd β id p) := fun j hj => by
    by_cases hji : j = id
    · subst hji
      rw [upd_same]
      exact .inr ⟨hbox, rfl, rfl, by rw [hpv]; exact Nat.lt_succ_self _⟩
    · exact .inl (upd_other _ _ hji)
  have hpb : p.blk = (β id).blk ∨ p.blk = none ∨ (p.blk = some w.heap.size ∧ w.heap.size < w'.heap.size) := by
    rcases hbk with ⟨e1, h2⟩ | e1
    · right; right; exact ⟨by simp only [p, e1], h2⟩
    · left; simp only [p, e1]
  have hkk : Keep (fun k => (β id).blk = some k ∧ Ob.wr (.arr e te ver rows true) = true) w w' := hkeep.weaken fun k hk => ⟨hk.1, rfl⟩
  refine ⟨upd β id p, hmv, hs.set (p := p) ho (fun _ => rfl) hpb hkk hsame hmv ?_, ?_⟩
  · simp only [Ob.Rel]
    refine ⟨rfl, rfl, rfl, rfl, hpos, rfl, .inr ⟨bk, cur, css, rfl, hheap, ?_, htake, hcsz, hle, hm⟩⟩
    exact hall.mono fun _ _ h => h.mono (hkk.weaken fun k hk => .inr ⟨id, _, ho, rfl, hk.1⟩) fun k hlt hn => owns_set (w := w) ho (fun _ => rfl) (hpb.imp (fun h => h) (·.imp (fun h => h) (·.1))) hlt hn
  · simp only [L.Rel, upd_same]
    refine ⟨rfl, rfl, Nat.le_refl _, _, rfl, rfl, fun _ => ?_⟩
    unfold SlOwn
    simp only [p]
    exact ⟨by omega, 0, rfl, .inl (by simp)⟩

abbrev TFileI : Ty := .pair .str (.pair .str .unit)
def tabI : Tab := [(51, ⟨.slice 62, 1, 24, [.nils], some (.slice TFileI), false⟩), (62, ⟨.struct [(0, 9), (1, 9)], 2, 32, [.val .str [], .val .str []], some TFileI, true⟩), (9, ⟨.str, 1, 16, [.val .str []], some .str, false⟩)]
theorem tabI_ok : TabOK Try.prog tabI := tabOK_of (by kernel_rfl)
abbrev InsO : List OS := [.row 62 TFileI, .row 62 TFileI]
abbrev slices_InsertI : Sh := ⟨3, [⟨0, false, [.own 0]⟩, ⟨1, false, [.v (.int .i64)]⟩, ⟨2, false, [.own 1]⟩], InsO⟩
abbrev slices_InsertO : Sh := ⟨1, [⟨0, false, [.own 0]⟩], InsO⟩
theorem slices_Insert_meets (n : Nat) : Meets Try.prog 53 slices_InsertI slices_InsertO (slices_Insert n) := by
  refine ⟨by kernel_rfl, fun x y hF C β w xs hP hkf hs => ?_⟩
  obtain ⟨hc, hy⟩ := chk_some hF
  obtain rfl := Option.some.inj hy
  obtain ⟨i, rows, vs, x0⟩ := x
  simp only [Bool.and_eq_true, decide_eq_true_eq] at hc
  obtain ⟨hi0, hi1, hv1, hroom⟩ := hc
  have hv1 := Nat.eq_of_beq_eq_true hv1
  have hroom := Nat.le_of_ble_eq_true hroom
  obtain ⟨i, rfl⟩ : ∃ k : Nat, i = k := ⟨i.toNat, (Int.toNat_of_nonneg hi0).symm⟩
  have hin : i ≤ rows.length := by omega
  have hE : slices_InsertI.enc ((i : Int), rows, vs, x0) = ⟨[.one (.own 0 0), .one (.val (.int .i64) (i : Int)), .one (.own 1 0)], [.arr 62 TFileI 0 rows true, .arr 62 TFileI 0 vs true]⟩ := rfl
  rw [hE] at hs
  have hT : TabOK C.P tabI := by rw [hP]; exact tabI_ok
  have h0 := hs.heap.obj 0 _ rfl
  have h1 := hs.heap.obj 1 _ rfl
  have hr0 := hs.reg 0 _ rfl
  have hr1 := hs.reg 1 _ rfl
  have hr2 := hs.reg 2 _ rfl
  have hsz := hs.size
  obtain ⟨a, b, c, rfl⟩ : ∃ a b c, xs = [a, b, c] := by
    match xs, hsz with
    | [a, b, c], _ => exact ⟨a, b, c, rfl⟩
  simp only [V.Rel, L.Rel, Ty.Rel, List.cons.injEq, and_true] at hr0 hr1 hr2
  simp only [Ob.Rel] at h0 h1
  obtain ⟨_, _, _, c0, hc0, _, hm0⟩ := hr0
  obtain ⟨_, _, _, c2, hc2, _, hm2⟩ := hr2
  obtain ⟨k1, k2, k3, k4, k5, k6, k7⟩ := h0
  obtain ⟨q1, q2, q3, q4, q5, q6, q7⟩ := h1
  have hso0 := hm0 k3
  have hso2 := hm2 q3
  have ea : a = c0 := by simpa using hc0
  have ec : c = c2 := by simpa using hc2
  have eb : b = .int .i64 (i : Int) := by simpa using hr1
  subst ea ec eb
  rw [k6] at hso0
  rw [q6, hv1] at hso2
  have hlie : LieAt w (C.N β [.arr 62 TFileI 0 rows true, .arr 62 TFileI 0 vs true]) TFileI vs c := rowsOf_rel (te := TFileI) (x := .own 1 0) (ys := vs) hs.heap rfl (hs.reg 2 _ rfl)
  have fin : ∀ {β' : Nat → Pl} {w' : World} {v' : Value} {rows' : List FileD}, rows' = rows.take i ++ vs ++ rows.drop i → HSim C β' [.arr 62 TFileI 1 rows' true, .arr 62 TFileI 0 vs true] w' → (L.own 0 1).Rel β' w' (C.N β' [.arr 62 TFileI 1 rows' true, .arr 62 TFileI 0 vs true]) [v'] →
      ∃ us β2, Ending.returned v' = Ending.returned (retVal us) ∧ Sim C β2 (slices_InsertO.enc (rows.take i ++ vs ++ rows.drop i, vs, ())) { tmps := us.toArray, defers := [] } w' := by
    intro β' w' v' rows' hrw hh hv
    have s3 : Sim C β' ⟨[.one (.own 0 1)], [.arr 62 TFileI 1 rows' true, .arr 62 TFileI 0 vs true]⟩ { tmps := #[v'], defers := [] } w' := ⟨hh, rfl, rfl, fun j q hq => by
      match j, hq with
      | 0, hq => obtain rfl := Option.some.inj hq; exact hv
      | j + 1, hq => simp at hq⟩
    obtain ⟨β3, _, x3, s4, hx⟩ := enter_sim (sh := slices_InsertO) (co := [.gc [0, 1]]) (g := fun y => some y) (r := (rows', vs, ())) hT hkf rfl rfl s3
    obtain rfl := Option.some.inj hx
    subst hrw
    exact ⟨[v'], β3, rfl, s4⟩
  -- the one that is put in
  obtain ⟨vb, vcap, curv, cssv, hvb, hvh, hvall, hvtake, hvcap⟩ : ∃ vb vcap curv cssv, c = .slice (some ⟨vb, 0, none⟩) 1 vcap ∧ w.heap[vb]? = some (.cells curv 62 (0, 0)) ∧ All2 (fun x c => TFileI.Rel w (C.N β [.arr 62 TFileI 0 rows true, .arr 62 TFileI 0 vs true]) x c) vs cssv ∧ curv.toList.take (1 * TFileI.size) = cssv.flatten ∧ (β 1).blk = some vb := by
    rcases q7 with ⟨hn, hvs, _⟩ | ⟨vb, cur, css, hb, hh, hall, htake, hcap, hrc, hcm⟩
    · rw [hvs] at hv1; cases hv1
    · unfold SlOwn at hso2
      rw [hb] at hso2
      obtain ⟨m1, o, rfl, m3⟩ := hso2
      have ho0 : o = 0 := by
        rcases m3 with m3 | m3
        · simpa using m3
        · omega
      subst ho0
      exact ⟨vb, _, cur, css, rfl, hh, hall, by rw [← hv1]; exact htake, hb⟩
  subst hvb
  show Calls Try.prog 53 #[a, .int .i64 (i : Int), .slice (some ⟨vb, 0, none⟩) 1 vcap] w fun e w' => ∃ us β', e = Ending.returned (retVal us) ∧ Sim C β' (slices_InsertO.enc (rows.take i ++ vs ++ rows.drop i, vs, ())) { tmps := us.toArray, defers := [] } w'
  have hflv : cssv.flatten.length = 2 := by rw [flatten_length cssv (rel_lens hvall), ← hvall.length, hv1]; rfl
  have hvcell : ∀ j v, cssv.flatten[j]? = some v → w.cell? ⟨vb, j, none⟩ = some v := fun j v hj => by
    rw [Go.Lib.cell_of_heap hvh]
    rw [← hvtake, List.getElem?_take] at hj
    split at hj
    · simpa using hj
    · cases hj
  have hone : ∀ {l : List FileD} {cs : List (List Value)}, All2 (fun x c => TFileI.Rel w (C.N β [.arr 62 TFileI 0 rows true, .arr 62 TFileI 0 vs true]) x c) l cs → ∀ u ∈ cs.flatten, u.oneCell' = true := fun hall u hu => by
    obtain ⟨c, hc, huc⟩ := List.mem_flatten.1 hu
    obtain ⟨q, _, hq⟩ := hall.mem_right c hc
    exact hq.one u huc
  by_cases hend : i = rows.length
  · subst hend
    obtain ⟨v', w', β2, g1, g2, g3, g4, g5⟩ := appendOwn_run (te := TFileI) (ys := vs) (n := rows.length) (id := 0) 51 hT (st := 51) (e := 62) rfl rfl rfl rfl (by decide) (by rw [hv1]; exact hroom) hs rfl (Nat.le_refl _) hso0 hlie
    rw [hP] at g1
    have done : ∃ us β2, Ending.returned v' = Ending.returned (retVal us) ∧ Sim C β2 (slices_InsertO.enc (rows.take rows.length ++ vs ++ rows.drop rows.length, vs, ())) { tmps := us.toArray, defers := [] } w' := fin (by simp) g3.heap g4
    rcases k7 with ⟨hn, hrn, _⟩ | ⟨g, cur, css, hb, hh, hall, htake, hcap, hrc, hcm⟩
    · unfold SlOwn at hso0
      rw [hn] at hso0
      obtain ⟨rfl, _, h0⟩ := hso0
      rw [show ((rows.length : Nat) : Int) = 0 by omega]
      refine (ins_nil vb vcap w g1).mono ?_
      rintro e W ⟨rfl, rfl⟩
      exact done
    · unfold SlOwn at hso0
      rw [hb] at hso0
      obtain ⟨m1, o, rfl, m3⟩ := hso0
      have ho0 : o = 0 := by
        rcases m3 with m3 | m3
        · simpa using m3
        · omega
      subst ho0
      refine (ins_end g rows.length _ vb vcap w (by omega) g1).mono ?_
      rintro e W ⟨rfl, rfl⟩
      exact done
  · have hil : i < rows.length := by omega
    rcases k7 with ⟨hn, hrn, _⟩ | ⟨g, cur, css, hb, hh, hall, htake, hcap, hrc, hcm⟩
    · subst hrn; simp at hil
    · unfold SlOwn at hso0
      rw [hb] at hso0
      obtain ⟨m1, o, rfl, m3⟩ := hso0
      have ho0 : o = 0 := by
        rcases m3 with m3 | m3
        · simpa using m3
        · omega
      subst ho0
      rw [Nat.sub_zero]
      have hsz2 : TFileI.size = 2 := rfl
      rw [hsz2] at htake hcap
      have hl := rel_lens hall
      rw [hsz2] at hl
      have hne : vb ≠ g := fun e => by
        subst e
        have := hs.heap.apart 0 1 _ _ vb rfl rfl hb hvcap
        omega
      have hrl : (rows.take i ++ vs ++ rows.drop i).length = rows.length + 1 := by simp [hv1]; omega
      have hallN : All2 (fun x c => TFileI.Rel w (C.N β [.arr 62 TFileI 0 rows true, .arr 62 TFileI 0 vs true]) x c) (rows.take i ++ vs ++ rows.drop i) (css.take i ++ cssv ++ css.drop i) := ((hall.take i).append hvall).append (hall.drop i)
      have hflat : (css.take i ++ cssv ++ css.drop i).flatten = cur.toList.take (i * 2) ++ cssv.flatten ++ (cur.toList.take (rows.length * 2)).drop (i * 2) := by
        rw [List.flatten_append, List.flatten_append, ← flatten_take css hl i, ← flatten_drop css hl i, htake, ← htake, List.take_take, Nat.min_eq_left (by omega)]
      have h1c : ∀ v ∈ cur.toList.take (rows.length * 2), v.oneCell' = true := by rw [htake]; exact hone hall
      by_cases hroom2 : rows.length + 1 ≤ (β 0).cap
      · refine (ins_shift g rows.length (β 0).cap i vb vcap cur cssv.flatten w hil hroom2 (by unfold maxLen at hcm; omega) hne hh hcap hflv hvcell h1c (hone hvall) 62 curv.size (by simp [World.shape?, hvh]) (by simp [World.frozen?, hvh]) (by simp [World.frozen?, hvh])).mono ?_
        rintro e W ⟨rfl, hg, cur', hh', hs', ht'⟩
        obtain ⟨β', _, s5, r5⟩ := own_set hs (id := 0) rfl (bk := g) (cap := (β 0).cap) (cur := cur') (css := css.take i ++ cssv ++ css.drop i) (rows' := rows.take i ++ vs ++ rows.drop i) (.inr hb)
          ⟨hg.size, fun k hk hn => hg.block k hk (fun e => hn ⟨by cases e; exact hb, trivial⟩)⟩ ⟨hg.os, hg.tape, hg.output⟩ hh' hallN (by rw [hrl, hsz2, hflat]; exact ht') (by rw [hsz2]; exact hs') (by rw [hrl]; exact hroom2) hcm
        rw [hrl] at r5
        exact fin rfl s5.heap r5
      · refine (ins_grow g rows.length (β 0).cap i vb vcap cur cssv.flatten w hil (by omega) (by omega) (by unfold room at hroom; omega) hh hcap hflv hvcell h1c (hone hvall)).mono ?_
        rintro e W ⟨K, rfl, hK1, hK2, hlt, hg, cur', hh', hs', ht'⟩
        obtain ⟨β', _, s5, r5⟩ := own_set hs (id := 0) rfl (bk := w.heap.size) (cap := K) (cur := cur') (css := css.take i ++ cssv ++ css.drop i) (rows' := rows.take i ++ vs ++ rows.drop i) (.inl ⟨rfl, hlt⟩)
          ⟨hg.size, fun k hk _ => hg.block k hk (fun e => by cases e)⟩ ⟨hg.os, hg.tape, hg.output⟩ hh' hallN (by rw [hrl, hsz2, hflat]; exact ht') (by rw [hsz2]; exact hs') (by rw [hrl]; exact hK1) hK2
        rw [hrl] at r5
        exact fin rfl s5.heap r5
end Go.Dec
