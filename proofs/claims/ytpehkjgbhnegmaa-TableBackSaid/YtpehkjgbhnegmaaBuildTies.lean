/- A builder's own check of its place. No statement is proved here. -/
import Derived.Test.YtpehkjgbhnegmaaProg
import Derived.Test.YtpehkjgbhnegmaaLibFuns
import Derived.Test.YtpehkjgbhnegmaaShelf
import Derived.Shelf.Strings.Builder1
import Derived.KernelRfl
namespace Go.Dec
open Go.Proofs Go.RowKit

theorem info83 : (Try.prog.info? 83).map (fun i => (i.zero, i.size, i.bytes)) = some (some (.agg #[.pointer none, .slice none 0 0]), 2, 32) := by kernel_rfl

set_option maxHeartbeats 1000000 in
set_option maxRecDepth 100000 in
theorem check_used (b : Nat) (w : World) (h0 : w.cell? ⟨b, 0, none⟩ = some (.pointer (some ⟨b, 0, none⟩))) :
    Calls Try.prog 57 #[.pointer (some ⟨b, 0, none⟩)] w fun e w' => e = .returned (.tuple #[]) ∧ w' = w := by
  obtain ⟨j, hj, _⟩ := info_parts info83
  go_enter Try.func57, Try.ntmps57
  go_wp2
  rw [Lib.run_neq_ptr_same w _ Try.underlying80 hj]
  go_wp2
  go_end0
  exact ⟨rfl, rfl⟩

set_option maxHeartbeats 1000000 in
set_option maxRecDepth 100000 in
theorem check_fresh (b : Nat) (w : World) (h0 : w.cell? ⟨b, 0, none⟩ = some (.pointer none)) (hsh : w.shape? b = some (83, 2)) (hfz : w.frozen? ⟨b, 0, none⟩ = false) :
    Calls Try.prog 57 #[.pointer (some ⟨b, 0, none⟩)] w fun e w' => e = .returned (.tuple #[]) ∧ w' = w.setCell ⟨b, 0, none⟩ (.pointer (some ⟨b, 0, none⟩)) := by
  obtain ⟨j, hj, _, hjs, _⟩ := info_parts info83
  go_enter Try.func57, Try.ntmps57
  go_wp2
  rw [Lib.run_to_unsafe w ⟨b, 0, none⟩ Try.underlying80 Try.underlying103 hj (by rw [hjs]; decide) hsh (Nat.zero_lt_succ 1)]
  simp only [Result.andThen]
  rw [Oper.upon_value]
  go_wp2
  rw [run_callFunc_extern Try.func62 (by kernel_rfl) (by kernel_rfl) (by kernel_rfl) (e := Extern.AbiNoEscape.same) (by kernel_rfl)]
  rw [Lib.run_noEscape]
  simp only [Result.andThen]
  rw [Oper.upon_value]
  go_wp2
  rw [Lib.run_from_unsafe w ⟨b, 0, none⟩ Try.underlying103 Try.underlying80 hj hsh (by kernel_rfl)]
  simp only [Result.andThen]
  rw [Oper.upon_value]
  go_wp2
  go_end0
  exact ⟨rfl, rfl⟩

abbrev BldO : List OS := [.box 83 [.ornil 0 0, .own 1], .row 5 (.int .u8)]
abbrev Builder_checkI : Sh := ⟨1, [⟨0, false, [.ptr 0 0]⟩], BldO⟩
abbrev Builder_checkO : Sh := ⟨0, [], BldO⟩

theorem setCell_row {w : World} {b : Nat} {c v u : Value} {e : TypeId} (h : w.heap[b]? = some (.cells #[c, u] e (0, 0))) : w.setCell ⟨b, 0, none⟩ v = w.setRow b #[v, u] := by
  have e1 : (w.setCell ⟨b, 0, none⟩ v).heap = (w.setRow b #[v, u]).heap := by
    apply Array.ext_getElem?
    intro j
    by_cases hj : j = b
    · subst hj
      rw [setRow_heap w j _ _ e _ h]
      obtain ⟨hlt, hk⟩ := Array.getElem?_eq_some_iff.1 h
      show (w.heap.modify j _)[j]? = _
      rw [Array.getElem?_eq_getElem (by rw [Array.size_modify]; exact hlt), Array.getElem_modify_self, hk]
      rfl
    · rw [setRow_other w b j _ (fun e => hj e), Below.heap_setCell _ _ _ j (fun e => hj e)]
  have e2 : w.setCell ⟨b, 0, none⟩ v = { w with heap := (w.setCell ⟨b, 0, none⟩ v).heap } := rfl
  rw [e2, e1]
  rfl

theorem Builder_check_meets (n : Nat) : Meets Try.prog 57 Builder_checkI Builder_checkO (Builder_check n) := by
  refine ⟨by kernel_rfl, fun x y hF C β w xs hP hkf hs => ?_⟩
  obtain rfl := Option.some.inj hF
  obtain ⟨rows, x0⟩ := x
  have hE : Builder_checkI.enc (rows, x0) = ⟨[.one (.ptr 0 0)], [.box 83 [.ornil 0 0, .own 1 0], .arr 5 (.int .u8) 0 rows true]⟩ := rfl
  have hE2 : Builder_checkO.enc (rows, x0) = ⟨[], [.box 83 [.ornil 0 0, .own 1 0], .arr 5 (.int .u8) 0 rows true]⟩ := rfl
  rw [hE] at hs
  rw [hE2]
  have h0 := hs.heap.obj 0 _ rfl
  have hr := hs.reg 0 _ rfl
  have hsz := hs.size
  obtain ⟨u, rfl⟩ : ∃ u, xs = [u] := List.length_eq_one_iff.1 (by simpa using hsz.symm)
  simp only [Ob.Rel, LsRel, V.Rel, L.Rel] at h0 hr
  obtain ⟨hl, hb, b, cs, hblk, ⟨c1, c2, rfl, ⟨c, rfl, hc⟩, c3, c4, rfl, ⟨g1, g2, g3, v, rfl, g5, g6⟩, rfl⟩, hheap⟩ := h0
  obtain ⟨_, _, b', hb', hu⟩ := hr
  have hbb : b' = b := by rw [hblk] at hb'; cases hb'; rfl
  subst hbb
  have hu : u = .pointer (some ⟨b', 0, none⟩) := by simpa using hu
  subst hu
  simp only [List.nil_append, List.cons_append, List.append_nil] at hheap
  have done : ∀ {w' : World}, HSim C β [.box 83 [.ornil 0 0, .own 1 0], .arr 5 (.int .u8) 0 rows true] w' → Sim C β ⟨[], [.box 83 [.ornil 0 0, .own 1 0], .arr 5 (.int .u8) 0 rows true]⟩ { tmps := (([] : List Value)).toArray, defers := [] } w' :=
    fun h => ⟨h, rfl, rfl, fun i v h => by simp at h⟩
  rcases hc with rfl | ⟨_, _, b2, hb2, rfl⟩
  · refine (check_fresh b' w (by simp [World.cell?, hheap]) (by simp [World.shape?, hheap]) (by simp [World.frozen?, hheap])).mono ?_
    rintro e w' ⟨rfl, rfl⟩
    rw [setCell_row hheap]
    refine ⟨[], β, rfl, done ?_⟩
    have := Sim.setBox (id := 0) (e := 83) (ls := [.ornil 0 0, .own 1 0]) (ls' := [.ornil 0 0, .own 1 0]) (b := b') (cs := [.pointer none, v]) (cs' := [.pointer (some ⟨b', 0, none⟩), v]) hs rfl hblk hheap ?_
    · exact this.heap
    · exact ⟨[_], [_], rfl, ⟨_, rfl, .inr ⟨hl, hb, b', hblk, rfl⟩⟩, [_], [], rfl, ⟨g1, g2, g3, v, rfl, g5, g6⟩, rfl⟩
  · have hbb : b2 = b' := by rw [hblk] at hb2; cases hb2; rfl
    subst hbb
    refine (check_used b2 w (by simp [World.cell?, hheap])).mono ?_
    rintro e w' ⟨rfl, rfl⟩
    exact ⟨[], β, rfl, done hs.heap⟩
end Go.Dec
