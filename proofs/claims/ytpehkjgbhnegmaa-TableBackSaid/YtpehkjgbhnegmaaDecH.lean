/- The eighth part: what makes memory and writes to own memory. No statement is proved here. -/
import Derived.Test.YtpehkjgbhnegmaaDecG
namespace Go.Dec
section
variable {β : Nat → Pl} {w w' : World} {T : Tab} {C : Ctx} {h : List Ob}

def upd (β : Nat → Pl) (id : Nat) (p : Pl) : Nat → Pl := fun i => if i = id then p else β i

theorem upd_same (β : Nat → Pl) (id : Nat) (p : Pl) : upd β id p id = p := by simp [upd]
theorem upd_other (β : Nat → Pl) {id i : Nat} (p : Pl) (hi : i ≠ id) : upd β id p i = β i := by simp [upd, hi]

/-- The streams stay. -/
structure Same (w w' : World) : Prop where
  os : w'.os = w.os
  tape : w'.tape = w.tape
  output : w'.output = w.output

theorem Ob.Rel.mono {N N' : Nat → Prop} {o : Ob} {p : Pl} {β' : Nat → Pl} (hr : o.Rel β w N p) (hm : Moves β β') (hk : Keep N w w') (hN : ∀ b, b < w.heap.size → N' b → N b) (hb : ∀ b, p.blk = some b → w'.heap[b]? = w.heap[b]?) : o.Rel β' w' N' p := by
  cases o with
  | box e ls =>
    simp only [Ob.Rel] at *
    obtain ⟨h1, h2, b, cs, h3, h4, h5⟩ := hr
    exact ⟨h1, h2, b, cs, h3, h4.mono hm hk hN, by rw [hb b h3]; exact h5⟩
  | arr e t ver rows wr =>
    simp only [Ob.Rel] at *
    obtain ⟨h1, h2, h3, h4, h5, h5', h6⟩ := hr
    refine ⟨h1, h2, h3, h4, h5, h5', ?_⟩
    rcases h6 with h6 | ⟨b, cur, css, g1, g2, g3, g4⟩
    · exact .inl h6
    · exact .inr ⟨b, cur, css, g1, by rw [hb b g1]; exact g2, g3.mono fun _ _ hx => hx.mono hk hN, g4⟩

theorem Ob.Rel.live {N : Nat → Prop} {o : Ob} {p : Pl} (hr : o.Rel β w N p) : p.live = true := by
  cases o <;> (simp only [Ob.Rel] at hr; exact hr.1)

theorem owns_push {o : Ob} {p : Pl} {b : Nat} (hb : p.blk = none ∨ p.blk = some w.heap.size) (hlt : b < w.heap.size) (hn : C.N (upd β h.length p) (h ++ [o]) b) : C.N β h b := by
  rcases hn with hn | ⟨id, o', ho', hw, hbk⟩
  · exact .inl hn
  · right
    by_cases hid : id < h.length
    · rw [List.getElem?_append_left hid] at ho'
      rw [upd_other _ _ (by omega)] at hbk
      exact ⟨id, o', ho', hw, hbk⟩
    · rw [List.getElem?_append_right (by omega)] at ho'
      have : id = h.length := by
        rcases Nat.lt_or_ge (id - h.length) 1 with h1 | h1
        · omega
        · rw [List.getElem?_eq_none (by simpa using h1)] at ho'; cases ho'
      subst this
      rw [upd_same] at hbk
      rcases hb with hb | hb <;> rw [hb] at hbk
      · cases hbk
      · simp only [Option.some.injEq] at hbk; omega

theorem moves_push (hs : HSim C β h w) (p : Pl) : Moves β (upd β h.length p) := fun id hl => by
  left
  apply upd_other
  intro e
  subst e
  rw [hs.dead _ (Nat.le_refl _)] at hl
  cases hl

theorem HSim.push {o : Ob} {p : Pl} (hs : HSim C β h w) (hb : p.blk = none ∨ (p.blk = some w.heap.size ∧ w.heap.size < w'.heap.size)) (hk : Keep (fun _ => False) w w') (hw : Same w w')
    (ho : o.Rel (upd β h.length p) w' (C.N (upd β h.length p) (h ++ [o])) p) : HSim C (upd β h.length p) (h ++ [o]) w' := by
  have hb' : p.blk = none ∨ p.blk = some w.heap.size := hb.imp id (·.1)
  have hN : ∀ b, b < w.heap.size → C.N (upd β h.length p) (h ++ [o]) b → C.N β h b := fun b hlt hn => owns_push hb' hlt hn
  have hm := moves_push hs p
  have hold : ∀ id o', (h ++ [o])[id]? = some o' → (id < h.length ∧ h[id]? = some o') ∨ (id = h.length ∧ o' = o) := fun id o' ho' => by
    by_cases hid : id < h.length
    · rw [List.getElem?_append_left hid] at ho'; exact .inl ⟨hid, ho'⟩
    · rw [List.getElem?_append_right (by omega)] at ho'
      right
      rcases Nat.lt_or_ge (id - h.length) 1 with h1 | h1
      · have : id - h.length = 0 := by omega
        rw [this] at ho'
        simp only [List.getElem?_cons_zero, Option.some.injEq] at ho'
        exact ⟨by omega, ho'.symm⟩
      · rw [List.getElem?_eq_none (by simpa using h1)] at ho'; cases ho'
  refine ⟨?_, ?_, ?_, ?_, hs.n0, ?_, Nat.le_trans hs.size hk.size, hw.os.trans hs.os, hw.tape.trans hs.tape, hw.output.trans hs.output, fun j o hj => by
    obtain ⟨k1, k2⟩ := hs.fixed j o hj
    exact ⟨by simp; omega, fun b hb => by rw [upd_other _ _ (by omega)]; exact k2 b hb⟩⟩
  · intro id o' ho'
    rcases hold id o' ho' with ⟨hid, ho'⟩ | ⟨rfl, rfl⟩
    · rw [upd_other _ _ (by omega)]
      exact (hs.obj id o' ho').mono hm (hk.weaken fun _ h => h.elim) hN fun b hb => hk.block b (hs.fresh id o' b ho' hb).2.1 (fun h => h)
    · rw [upd_same]; exact ho
  · intro id hid
    rw [List.length_append, List.length_singleton] at hid
    rw [upd_other _ _ (by omega)]
    exact hs.dead id (by omega)
  · intro i j o1 o2 b h1 h2 hb1 hb2
    rcases hold i o1 h1 with ⟨hi, k1⟩ | ⟨rfl, rfl⟩ <;> rcases hold j o2 h2 with ⟨hj, k2⟩ | ⟨rfl, rfl⟩
    · rw [upd_other _ _ (by omega)] at hb1 hb2
      exact hs.apart i j o1 o2 b k1 k2 hb1 hb2
    · rw [upd_other _ _ (by omega)] at hb1
      rw [upd_same] at hb2
      have := (hs.fresh i o1 b k1 hb1).2.1
      rcases hb' with e | e <;> rw [e] at hb2
      · cases hb2
      · simp only [Option.some.injEq] at hb2; omega
    · rw [upd_other _ _ (by omega)] at hb2
      rw [upd_same] at hb1
      have := (hs.fresh j o2 b k2 hb2).2.1
      rcases hb' with e | e <;> rw [e] at hb1
      · cases hb1
      · simp only [Option.some.injEq] at hb1; omega
    · rfl
  · intro id o' b ho' hbk
    rcases hold id o' ho' with ⟨hid, ho'⟩ | ⟨rfl, rfl⟩
    · rw [upd_other _ _ (by omega)] at hbk
      obtain ⟨h1, h2, h3⟩ := hs.fresh id o' b ho' hbk
      exact ⟨h1, Nat.lt_of_lt_of_le h2 hk.size, h3⟩
    · rw [upd_same] at hbk
      rcases hb with e | ⟨e, hlt⟩ <;> rw [e] at hbk
      · cases hbk
      · simp only [Option.some.injEq] at hbk
        subst hbk
        have h0 := hs.size
        exact ⟨fun hn => by have := hs.n0 _ hn; omega, hlt, .inl h0⟩
  · intro b hb hn
    rw [hk.block b (Nat.lt_of_lt_of_le hb hs.size) (fun h => h)]
    exact hs.frame b hb hn

/-- The state behind a step that made an object. -/
theorem Sim.push {σ : St} {a : Act} {o : Ob} {p : Pl} (hs : Sim C β σ a w) (hb : p.blk = none ∨ (p.blk = some w.heap.size ∧ w.heap.size < w'.heap.size)) (hk : Keep (fun _ => False) w w') (hw : Same w w')
    (ho : o.Rel (upd β σ.h.length p) w' (C.N (upd β σ.h.length p) (σ.h ++ [o])) p) : Sim C (upd β σ.h.length p) { σ with h := σ.h ++ [o] } a w' :=
  ⟨hs.heap.push hb hk hw ho, hs.defers, hs.size, fun i v hv => (hs.reg i v hv).mono (moves_push hs.heap p) (hk.weaken fun _ h => h.elim) fun _ hlt hn => owns_push (hb.imp id (·.1)) hlt hn⟩

theorem owns_set {id : Nat} {o old : Ob} {p : Pl} {b : Nat} (hold : h[id]? = some old) (hw : o.wr = true → old.wr = true) (hb : p.blk = (β id).blk ∨ p.blk = none ∨ p.blk = some w.heap.size) (hlt : b < w.heap.size)
    (hn : C.N (upd β id p) (h.set id o) b) : C.N β h b := by
  rcases hn with hn | ⟨i, o', ho', hw', hbk⟩
  · exact .inl hn
  · right
    by_cases hid : i = id
    · subst hid
      have hi : i < h.length := (List.getElem?_eq_some_iff.1 hold).1
      rw [List.getElem?_set_self hi] at ho'
      simp only [Option.some.injEq] at ho'
      subst ho'
      rw [upd_same] at hbk
      rcases hb with e | e | e <;> rw [e] at hbk
      · exact ⟨i, old, hold, hw hw', hbk⟩
      · cases hbk
      · simp only [Option.some.injEq] at hbk; omega
    · rw [List.getElem?_set_ne (Ne.symm hid)] at ho'
      rw [upd_other _ _ hid] at hbk
      exact ⟨i, o', ho', hw', hbk⟩

theorem HSim.set {id : Nat} {o old : Ob} {p : Pl} (hs : HSim C β h w) (hold : h[id]? = some old) (hwr : o.wr = true → old.wr = true) (hb : p.blk = (β id).blk ∨ p.blk = none ∨ (p.blk = some w.heap.size ∧ w.heap.size < w'.heap.size))
    (hk : Keep (fun b => (β id).blk = some b ∧ old.wr = true) w w') (hw : Same w w') (hm : Moves β (upd β id p))
    (ho : o.Rel (upd β id p) w' (C.N (upd β id p) (h.set id o)) p) : HSim C (upd β id p) (h.set id o) w' := by
  have hb' : p.blk = (β id).blk ∨ p.blk = none ∨ p.blk = some w.heap.size := hb.imp (fun h => h) (·.imp (fun h => h) (·.1))
  have hN : ∀ b, b < w.heap.size → C.N (upd β id p) (h.set id o) b → C.N β h b := fun b hlt hn => owns_set hold hwr hb' hlt hn
  have hi : id < h.length := (List.getElem?_eq_some_iff.1 hold).1
  have hkN : Keep (C.N β h) w w' := hk.weaken fun b hbb => .inr ⟨id, old, hold, hbb.2, hbb.1⟩
  have hcase : ∀ i o', (h.set id o)[i]? = some o' → (i ≠ id ∧ h[i]? = some o') ∨ (i = id ∧ o' = o) := fun i o' ho' => by
    by_cases hid : i = id
    · subst hid
      rw [List.getElem?_set_self hi] at ho'
      simp only [Option.some.injEq] at ho'
      exact .inr ⟨rfl, ho'.symm⟩
    · rw [List.getElem?_set_ne (Ne.symm hid)] at ho'
      exact .inl ⟨hid, ho'⟩
  refine ⟨?_, ?_, ?_, ?_, hs.n0, ?_, Nat.le_trans hs.size hk.size, hw.os.trans hs.os, hw.tape.trans hs.tape, hw.output.trans hs.output, fun j o' hj => by
    obtain ⟨k1, k2⟩ := hs.fixed j o' hj
    refine ⟨by simpa using k1, fun b hb => ?_⟩
    obtain ⟨k3, k4⟩ := k2 b hb
    obtain ⟨oj, hoj⟩ : ∃ oj, h[j]? = some oj := ⟨h[j], by simp [k1]⟩
    rcases hm j (hs.obj j oj hoj).live with e | ⟨e, _⟩
    · rw [e]; exact ⟨k3, k4⟩
    · rw [k4] at e; cases e⟩
  · intro i o' ho'
    rcases hcase i o' ho' with ⟨hne, ho'⟩ | ⟨rfl, rfl⟩
    · rw [upd_other _ _ hne]
      exact (hs.obj i o' ho').mono hm hkN hN fun b hb => hk.block b (hs.fresh i o' b ho' hb).2.1 (fun hbb => hne (hs.apart i id o' old b ho' hold hb hbb.1))
    · rw [upd_same]; exact ho
  · intro i hl
    rw [List.length_set] at hl
    rw [upd_other _ _ (by omega)]
    exact hs.dead i hl
  · intro i j o1 o2 b h1 h2 hb1 hb2
    rcases hcase i o1 h1 with ⟨hi1, k1⟩ | ⟨rfl, rfl⟩ <;> rcases hcase j o2 h2 with ⟨hj1, k2⟩ | ⟨rfl, rfl⟩
    · rw [upd_other _ _ hi1] at hb1
      rw [upd_other _ _ hj1] at hb2
      exact hs.apart i j o1 o2 b k1 k2 hb1 hb2
    · rw [upd_other _ _ hi1] at hb1
      rw [upd_same] at hb2
      have := (hs.fresh i o1 b k1 hb1).2.1
      rcases hb' with e | e | e <;> rw [e] at hb2
      · exact hs.apart i _ o1 old b k1 hold hb1 hb2
      · cases hb2
      · simp only [Option.some.injEq] at hb2; omega
    · rw [upd_other _ _ hj1] at hb2
      rw [upd_same] at hb1
      have := (hs.fresh j o2 b k2 hb2).2.1
      rcases hb' with e | e | e <;> rw [e] at hb1
      · exact hs.apart _ j old o2 b hold k2 hb1 hb2
      · cases hb1
      · simp only [Option.some.injEq] at hb1; omega
    · rfl
  · intro i o' b ho' hbk
    rcases hcase i o' ho' with ⟨hne, ho'⟩ | ⟨rfl, rfl⟩
    · rw [upd_other _ _ hne] at hbk
      obtain ⟨h1, h2, h3⟩ := hs.fresh i o' b ho' hbk
      exact ⟨h1, Nat.lt_of_lt_of_le h2 hk.size, h3⟩
    · rw [upd_same] at hbk
      rcases hb with e | e | ⟨e, hlt⟩ <;> rw [e] at hbk
      · obtain ⟨h1, h2, h3⟩ := hs.fresh i old b hold hbk
        exact ⟨h1, Nat.lt_of_lt_of_le h2 hk.size, h3⟩
      · cases hbk
      · simp only [Option.some.injEq] at hbk
        subst hbk
        have h0 := hs.size
        exact ⟨fun hn => by have := hs.n0 _ hn; omega, hlt, .inl h0⟩
  · intro b hb hn
    rw [hk.block b (Nat.lt_of_lt_of_le hb hs.size) (fun hbb => by
      rcases (hs.fresh id old b hold hbb.1).2.2 with h1 | h1
      · omega
      · exact hn h1)]
    exact hs.frame b hb hn

theorem Sim.set {σ : St} {a : Act} {id : Nat} {o old : Ob} {p : Pl} (hs : Sim C β σ a w) (hold : σ.h[id]? = some old) (hwr : o.wr = true → old.wr = true) (hb : p.blk = (β id).blk ∨ p.blk = none ∨ (p.blk = some w.heap.size ∧ w.heap.size < w'.heap.size))
    (hk : Keep (fun b => (β id).blk = some b ∧ old.wr = true) w w') (hw : Same w w') (hm : Moves β (upd β id p))
    (ho : o.Rel (upd β id p) w' (C.N (upd β id p) (σ.h.set id o)) p) : Sim C (upd β id p) { σ with h := σ.h.set id o } a w' :=
  ⟨hs.heap.set hold hwr hb hk hw hm ho, hs.defers, hs.size, fun i v hv => (hs.reg i v hv).mono hm (hk.weaken fun _ hbb => .inr ⟨id, old, hold, hbb.2, hbb.1⟩)
    fun _ hlt hn => owns_set hold hwr (hb.imp (fun h => h) (·.imp (fun h => h) (·.1))) hlt hn⟩

theorem upd_self (β : Nat → Pl) (id : Nat) : upd β id (β id) = β := by
  funext i
  unfold upd
  split
  · rename_i h; rw [h]
  · rfl

/-! ### New objects -/

theorem keep_alloc (w : World) (o : Obj) : Keep (fun _ => False) w (w.alloc o) := ⟨by simp, fun b hb _ => heap_alloc_old w o b hb⟩
theorem same_alloc (w : World) (o : Obj) : Same w (w.alloc o) := ⟨rfl, rfl, rfl⟩
theorem keep_drew (w : World) : Keep (fun _ => False) w w.drew := ⟨Nat.le_refl _, fun _ _ _ => rfl⟩

/-- A new box. -/
theorem newBox {σ : St} {a : Act} {e : TypeId} {ls : List L} {cs : Array Value} (hs : Sim C β σ a w) (hr : LsRel β w (C.N β σ.h) ls cs.toList) :
    ∃ β', Moves β β' ∧ Sim C β' { σ with h := σ.h ++ [.box e ls] } a (w.alloc (.cells cs e)) ∧ (L.ptr σ.h.length 0).Rel β' (w.alloc (.cells cs e)) (C.N β' (σ.h ++ [.box e ls])) [.pointer (some ⟨w.heap.size, 0, none⟩)] := by
  let p : Pl := ⟨true, true, 0, some w.heap.size, 0, 0, 0⟩
  have hk := keep_alloc w (.cells cs e)
  refine ⟨upd β σ.h.length p, moves_push hs.heap p, hs.push (p := p) (.inr ⟨rfl, by simp⟩) hk (same_alloc _ _) ?_, ?_⟩
  · simp only [Ob.Rel]
    refine ⟨rfl, rfl, w.heap.size, cs.toList, rfl, ?_, ?_⟩
    · exact hr.mono (moves_push hs.heap p) (hk.weaken fun _ h => h.elim) fun b hlt hn => owns_push (.inr rfl) hlt hn
    · rw [heap_alloc_new]
  · simp only [L.Rel, upd_same]
    exact ⟨rfl, rfl, w.heap.size, rfl, rfl⟩

/-- A new row, nothing spare. -/
theorem newArr {σ : St} {a : Act} {e : TypeId} {t : Ty} {rows : List t.den} {css : List (List Value)} {cs : Array Value} (hs : Sim C β σ a w) (hpos : 0 < t.size) (hr : All2 (fun x c => t.Rel w (C.N β σ.h) x c) rows css)
    (hcs : cs.toList = css.flatten) (hm : rows.length ≤ maxLen) :
    ∃ β', Moves β β' ∧ Sim C β' { σ with h := σ.h ++ [.arr e t 0 rows true] } a (w.alloc (.cells cs e)) ∧
      (L.own σ.h.length 0).Rel β' (w.alloc (.cells cs e)) (C.N β' (σ.h ++ [.arr e t 0 rows true])) [.slice (some ⟨w.heap.size, 0, none⟩) rows.length rows.length] := by
  let p : Pl := ⟨true, false, 0, some w.heap.size, t.size, rows.length, rows.length⟩
  have hk := keep_alloc w (.cells cs e)
  have hlen : ∀ c ∈ css, c.length = t.size := fun c hc => by
    obtain ⟨y, _, hy⟩ := hr.mem_right c hc
    exact hy.length
  have hsz : cs.size = rows.length * t.size := by
    rw [← Array.length_toList, hcs, flatten_length css hlen, hr.length]
  refine ⟨upd β σ.h.length p, moves_push hs.heap p, hs.push (p := p) (.inr ⟨rfl, by simp⟩) hk (same_alloc _ _) ?_, ?_⟩
  · simp only [Ob.Rel]
    refine ⟨rfl, rfl, rfl, rfl, hpos, rfl, .inr ⟨w.heap.size, cs, css, rfl, ?_, ?_, ?_, hsz, Nat.le_refl _, hm⟩⟩
    · rw [heap_alloc_new]
    · exact hr.mono fun _ _ hx => hx.mono (hk.weaken fun _ h => h.elim) fun b hlt hn => owns_push (.inr rfl) hlt hn
    · rw [List.take_of_length_le (by rw [Array.length_toList]; omega), hcs]
  · simp only [L.Rel, upd_same]
    refine ⟨rfl, rfl, Nat.le_refl _, _, rfl, rfl, fun _ => ?_⟩
    unfold SlOwn
    simp only [p]
    refine ⟨by omega, 0, rfl, .inl (by simp)⟩

end
end Go.Dec
