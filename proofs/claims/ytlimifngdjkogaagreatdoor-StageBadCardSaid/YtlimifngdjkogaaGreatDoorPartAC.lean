/- Part of a proof over this seat: a library of my own, and what it says of this seat. No statement is proved here. -/
import Derived.Test.YtlimifngdjkogaaGreatDoorPartAB
namespace Go.Dec
section
variable {β : Nat -> Pl} {w w' : World} {T : Tab} {C : Ctx} {h : List Ob}
def upd (β : Nat -> Pl) (id : Nat) (p : Pl) : Nat -> Pl := fun i => if i = id then p else β i
theorem upd_same (β : Nat -> Pl) (id : Nat) (p : Pl) : upd β id p id = p := by simp [upd]
theorem aB (β : Nat -> Pl) {id i : Nat} (p : Pl) (hi : i ≠ id) : upd β id p i = β i := by simp [upd, hi]
structure Same (w w' : World) : Prop where
 os : w'.os = w.os
 tape : w'.tape = w.tape
 output : w'.output = w.output
theorem Ob.Rel.mono {N N' : Nat -> Nat -> Prop} {o : Ob} {p : Pl} {β' : Nat -> Pl} (hr : o.Rel β w N p) (hm : Moves β β') (hk : Keep N w w') (hN : ∀ b j, b < w.heap.size -> N' b j -> N b j) (hb : ∀ b, o.blks p b -> w'.heap[b]? = w.heap[b]?) : o.Rel β' w' N' p := by
 cases o with
 | box e ls =>
  simp only [Ob.Rel] at *
  obtain ⟨h1, h2, b, cs, h3, h4, h5⟩ := hr
  exact ⟨h1, h2, b, cs, h3, h4.mono hm hk hN, by rw [hb b (Ob.lD h3)]; exact h5⟩
 | arr e t ver rows wr =>
  simp only [Ob.Rel] at *
  obtain ⟨h1, h2, h3, h4, h5, h5', h6⟩ := hr
  refine ⟨h1, h2, h3, h4, h5, h5', ?_⟩
  rcases h6 with h6 | ⟨b, cur, css, g1, g2, g3, g4⟩
  ·exact .inl h6
  ·exact .inr ⟨b, cur, css, g1, by rw [hb b (Ob.lD g1)]; exact g2, g3.mono fun _ _ hx => hx.mono hk hN, g4⟩
 | fm tab =>
  simp only [Ob.Rel] at *
  obtain ⟨h1, h2, b, es, n, h3, h4, h5⟩ := hr
  exact ⟨h1, h2, b, es, n, h3, by rw [hb b (Ob.lD h3)]; exact h4, h5⟩
theorem Ob.Rel.live {N : Nat -> Nat -> Prop} {o : Ob} {p : Pl} (hr : o.Rel β w N p) : p.live = true := by
 cases o <;> (simp only [Ob.Rel] at hr; exact hr.1)
theorem lF {o : Ob} {p : Pl} {b j : Nat} (hb : ∀ b, o.blks p b -> w.heap.size <= b) (hlt : b < w.heap.size) (hn : C.N (upd β h.length p) (h ++ [o]) b j) : C.N β h b j := by
 rcases hn with hn | ⟨id, o', ho', hw, hbk⟩
 ·exact .inl hn
 ·right
  by_cases hid : id < h.length
  ·rw [List.getElem?_append_left hid] at ho'
   rw [aB _ _ (by omega)] at hbk
   exact ⟨id, o', ho', hw, hbk⟩
  ·rw [List.getElem?_append_right (by omega)] at ho'
   have : id = h.length := by
    rcases Nat.lt_or_ge (id - h.length) 1 with h1 | h1
    ·omega
    ·rw [List.getElem?_eq_none (by simpa using h1)] at ho'; cases ho'
   subst this
   rw [upd_same] at hbk
   simp only [Nat.sub_self, List.getElem?_cons_zero, Option.some.injEq] at ho'
   subst ho'
   have := hb b ⟨j, hbk⟩
   omega
theorem fD (hs : bG C β h w) (p : Pl) : Moves β (upd β h.length p) := fun id hl => by
 left
 apply aB
 intro e
 subst e
 rw [hs.dead _ (Nat.le_refl _)] at hl
 cases hl
theorem bG.Vf {o : Ob} {p : Pl} (hs : bG C β h w) (hb : ∀ b, o.blks p b -> w.heap.size <= b ∧ b < w'.heap.size) (hk : Keep (fun _ _ => False) w w') (hw : Same w w')
  (ho : o.Rel (upd β h.length p) w' (C.N (upd β h.length p) (h ++ [o])) p) : bG C (upd β h.length p) (h ++ [o]) w' := by
 have hN : ∀ b j, b < w.heap.size -> C.N (upd β h.length p) (h ++ [o]) b j -> C.N β h b j := fun b j hlt hn => lF (fun b h => (hb b h).1) hlt hn
 have hm := fD hs p
 have hold : ∀ id o', (h ++ [o])[id]? = some o' -> (id < h.length ∧ h[id]? = some o') ∨ (id = h.length ∧ o' = o) := fun id o' ho' => by
  by_cases hid : id < h.length
  ·rw [List.getElem?_append_left hid] at ho'; exact .inl ⟨hid, ho'⟩
  ·rw [List.getElem?_append_right (by omega)] at ho'
   right
   rcases Nat.lt_or_ge (id - h.length) 1 with h1 | h1
   ·have : id - h.length = 0 := by omega
    rw [this] at ho'
    simp only [List.getElem?_cons_zero, Option.some.injEq] at ho'
    exact ⟨by omega, ho'.symm⟩
   ·rw [List.getElem?_eq_none (by simpa using h1)] at ho'; cases ho'
 refine ⟨?_, ?_, ?_, ?_, hs.n0, ?_, Nat.le_trans hs.size hk.size, hw.os.trans hs.os, hw.tape.trans hs.tape, hw.output.trans hs.output, fun j o hj => by
  obtain ⟨k1, k2⟩ := hs.fixed j o hj
  exact ⟨by simp; omega, fun b hb => by rw [aB _ _ (by omega)]; exact k2 b hb⟩⟩
 ·intro id o' ho'
  rcases hold id o' ho' with ⟨hid, ho'⟩ | ⟨rfl, rfl⟩
  ·rw [aB _ _ (by omega)]
   exact (hs.obj id o' ho').mono hm (hk.weaken fun _ _ h => h.elim) hN fun b hb => hk.block b (hs.fQ id o' b ho' hb).2.1 (fun _ h => h)
  ·rw [upd_same]; exact ho
 ·intro id hid
  rw [List.length_append, List.length_singleton] at hid
  rw [aB _ _ (by omega)]
  exact hs.dead id (by omega)
 ·intro i j o1 o2 b h1 h2 hb1 hb2
  rcases hold i o1 h1 with ⟨hi, k1⟩ | ⟨rfl, rfl⟩ <;> rcases hold j o2 h2 with ⟨hj, k2⟩ | ⟨rfl, rfl⟩
  ·rw [aB _ _ (by omega)] at hb1 hb2
   exact hs.jY i j o1 o2 b k1 k2 hb1 hb2
  ·rw [aB _ _ (by omega)] at hb1
   rw [upd_same] at hb2
   have := (hs.fQ i o1 b k1 hb1).2.1
   have := (hb b hb2).1
   omega
  ·rw [aB _ _ (by omega)] at hb2
   rw [upd_same] at hb1
   have := (hs.fQ j o2 b k2 hb2).2.1
   have := (hb b hb1).1
   omega
  ·rfl
 ·intro id o' b ho' hbk
  rcases hold id o' ho' with ⟨hid, ho'⟩ | ⟨rfl, rfl⟩
  ·rw [aB _ _ (by omega)] at hbk
   obtain ⟨h1, h2, h3⟩ := hs.fQ id o' b ho' hbk
   exact ⟨h1, Nat.lt_of_lt_of_le h2 hk.size, by rw [aB _ _ (by omega)]; exact h3⟩
  ·rw [upd_same] at hbk
   obtain ⟨e, hlt⟩ := hb b hbk
   have h0 := hs.size
   exact ⟨fun _ hn => by have := hs.n0 _ _ hn; omega, hlt, .inl (by omega)⟩
 ·exact hs.frame.yS hk fun _ _ _ h => h.elim
theorem bG.push {o : Ob} {p : Pl} (hs : bG C β h w) (hb : p.blk = none ∨ (p.blk = some w.heap.size ∧ w.heap.size < w'.heap.size)) (hk : Keep (fun _ _ => False) w w') (hw : Same w w')
  (ho : o.Rel (upd β h.length p) w' (C.N (upd β h.length p) (h ++ [o])) p) (hpl : o.plain = true := by rfl) : bG C (upd β h.length p) (h ++ [o]) w' :=
 hs.Vf (fun b hbb => by
  have := Ob.wB hpl hbb
  rcases hb with e | ⟨e, hlt⟩ <;> rw [e] at this
  ·cases this
  ·simp only [Option.some.injEq] at this; omega) hk hw ho
theorem Sim.Vf {σ : St} {a : Act} {o : Ob} {p : Pl} (hs : Sim C β σ a w) (hb : ∀ b, o.blks p b -> w.heap.size <= b ∧ b < w'.heap.size) (hk : Keep (fun _ _ => False) w w') (hw : Same w w')
  (ho : o.Rel (upd β σ.h.length p) w' (C.N (upd β σ.h.length p) (σ.h ++ [o])) p) : Sim C (upd β σ.h.length p) { σ with h := σ.h ++ [o] } a w' :=
 ⟨hs.heap.Vf hb hk hw ho, hs.defers, hs.size, fun i v hv => (hs.reg i v hv).mono (fD hs.heap p) (hk.weaken fun _ _ h => h.elim) fun _ _ hlt hn => lF (fun b h => (hb b h).1) hlt hn⟩
theorem wE {o : Ob} {p : Pl} (hpl : o.plain = true) (hb : p.blk = none ∨ p.blk = some w.heap.size) : ∀ b, o.blks p b -> w.heap.size <= b := fun b hbb => by
 have := Ob.wB hpl hbb
 rcases hb with e | e <;> rw [e] at this
 ·cases this
 ·simp only [Option.some.injEq] at this; omega
theorem Sim.push {σ : St} {a : Act} {o : Ob} {p : Pl} (hs : Sim C β σ a w) (hb : p.blk = none ∨ (p.blk = some w.heap.size ∧ w.heap.size < w'.heap.size)) (hk : Keep (fun _ _ => False) w w') (hw : Same w w')
  (ho : o.Rel (upd β σ.h.length p) w' (C.N (upd β σ.h.length p) (σ.h ++ [o])) p) (hpl : o.plain = true := by rfl) : Sim C (upd β σ.h.length p) { σ with h := σ.h ++ [o] } a w' :=
 ⟨hs.heap.push hb hk hw ho hpl, hs.defers, hs.size, fun i v hv => (hs.reg i v hv).mono (fD hs.heap p) (hk.weaken fun _ _ h => h.elim) fun _ _ hlt hn => lF (wE hpl (hb.imp id (·.1))) hlt hn⟩
theorem mQ {id : Nat} {o old : Ob} {p : Pl} {b j : Nat} (hold : h[id]? = some old) (hat : ∀ b j, b < w.heap.size -> o.wr = true -> o.at p b j -> old.wr = true ∧ old.at (β id) b j) (hlt : b < w.heap.size)
  (hn : C.N (upd β id p) (h.set id o) b j) : C.N β h b j := by
 rcases hn with hn | ⟨i, o', ho', hw', hbk⟩
 ·exact .inl hn
 ·right
  by_cases hid : i = id
  ·subst hid
   have hi : i < h.length := (List.getElem?_eq_some_iff.1 hold).1
   rw [List.getElem?_set_self hi] at ho'
   simp only [Option.some.injEq] at ho'
   subst ho'
   rw [upd_same] at hbk
   obtain ⟨g1, g2⟩ := hat b j hlt hw' hbk
   exact ⟨i, old, hold, g1, g2⟩
  ·rw [List.getElem?_set_ne (Ne.symm hid)] at ho'
   rw [aB _ _ hid] at hbk
   exact ⟨i, o', ho', hw', hbk⟩
theorem bG.Vg {id : Nat} {o old : Ob} {p : Pl} (hs : bG C β h w) (hold : h[id]? = some old) (hat : ∀ b j, b < w.heap.size -> o.wr = true -> o.at p b j -> old.wr = true ∧ old.at (β id) b j)
  (hbl : ∀ b, o.blks p b -> old.blks (β id) b ∨ (w.heap.size <= b ∧ b < w'.heap.size))
  (hk : Keep (fun b j => old.at (β id) b j ∧ old.wr = true) w w') (hw : Same w w') (hm : Moves β (upd β id p))
  (ho : o.Rel (upd β id p) w' (C.N (upd β id p) (h.set id o)) p) : bG C (upd β id p) (h.set id o) w' := by
 have hN : ∀ b j, b < w.heap.size -> C.N (upd β id p) (h.set id o) b j -> C.N β h b j := fun b j hlt hn => mQ hold hat hlt hn
 have hi : id < h.length := (List.getElem?_eq_some_iff.1 hold).1
 have hkN : Keep (C.N β h) w w' := hk.weaken fun b j hbb => .inr ⟨id, old, hold, hbb.2, hbb.1⟩
 have hcase : ∀ i o', (h.set id o)[i]? = some o' -> (i ≠ id ∧ h[i]? = some o') ∨ (i = id ∧ o' = o) := fun i o' ho' => by
  by_cases hid : i = id
  ·subst hid
   rw [List.getElem?_set_self hi] at ho'
   simp only [Option.some.injEq] at ho'
   exact .inr ⟨rfl, ho'.symm⟩
  ·rw [List.getElem?_set_ne (Ne.symm hid)] at ho'
   exact .inl ⟨hid, ho'⟩
 refine ⟨?_, ?_, ?_, ?_, hs.n0, ?_, Nat.le_trans hs.size hk.size, hw.os.trans hs.os, hw.tape.trans hs.tape, hw.output.trans hs.output, fun j o' hj => by
  obtain ⟨k1, k2⟩ := hs.fixed j o' hj
  refine ⟨by simpa using k1, fun b hb => ?_⟩
  obtain ⟨k3, k4⟩ := k2 b hb
  obtain ⟨oj, hoj⟩ : ∃ oj, h[j]? = some oj := ⟨h[j], by simp [k1]⟩
  rcases hm j (hs.obj j oj hoj).live with e | ⟨e, _⟩
  ·rw [e]; exact ⟨k3, k4⟩
  ·rw [k4] at e; cases e⟩
 ·intro i o' ho'
  rcases hcase i o' ho' with ⟨hne, ho'⟩ | ⟨rfl, rfl⟩
  ·rw [aB _ _ hne]
   exact (hs.obj i o' ho').mono hm hkN hN fun b hb => hk.block b (hs.fQ i o' b ho' hb).2.1 (fun j hbb => hne (hs.jY i id o' old b ho' hold hb ⟨j, hbb.1⟩))
  ·rw [upd_same]; exact ho
 ·intro i hl
  rw [List.length_set] at hl
  rw [aB _ _ (by omega)]
  exact hs.dead i hl
 ·intro i j o1 o2 b h1 h2 hb1 hb2
  rcases hcase i o1 h1 with ⟨hi1, k1⟩ | ⟨rfl, rfl⟩ <;> rcases hcase j o2 h2 with ⟨hj1, k2⟩ | ⟨rfl, rfl⟩
  ·rw [aB _ _ hi1] at hb1
   rw [aB _ _ hj1] at hb2
   exact hs.jY i j o1 o2 b k1 k2 hb1 hb2
  ·rw [aB _ _ hi1] at hb1
   rw [upd_same] at hb2
   have := (hs.fQ i o1 b k1 hb1).2.1
   rcases hbl b hb2 with e | e
   ·exact hs.jY i _ o1 old b k1 hold hb1 e
   ·omega
  ·rw [aB _ _ hj1] at hb2
   rw [upd_same] at hb1
   have := (hs.fQ j o2 b k2 hb2).2.1
   rcases hbl b hb1 with e | e
   ·exact hs.jY _ j old o2 b hold k2 e hb2
   ·omega
  ·rfl
 ·intro i o' b ho' hbk
  rcases hcase i o' ho' with ⟨hne, ho'⟩ | ⟨rfl, rfl⟩
  ·rw [aB _ _ hne] at hbk
   obtain ⟨h1, h2, h3⟩ := hs.fQ i o' b ho' hbk
   exact ⟨h1, Nat.lt_of_lt_of_le h2 hk.size, by rw [aB _ _ hne]; exact h3⟩
  ·rw [upd_same] at hbk
   rcases hbl b hbk with e | e
   ·obtain ⟨h1, h2, h3⟩ := hs.fQ i old b hold e
    exact ⟨h1, Nat.lt_of_lt_of_le h2 hk.size, h3.imp (fun h => h) fun h j g1 g2 => (hat b j h2 g1 (by rwa [upd_same] at g2)).elim fun g3 g4 => h j g3 g4⟩
   ·have h0 := hs.size
    exact ⟨fun _ hn => by have := hs.n0 _ _ hn; omega, e.2, .inl (by omega)⟩
 ·refine hs.frame.yS hk fun b j hb hbb => ?_
  rcases (hs.fQ id old b hold ⟨j, hbb.1⟩).2.2 with h1 | h1
  ·omega
  ·exact h1 j hbb.2 hbb.1
theorem Sim.Vg {σ : St} {a : Act} {id : Nat} {o old : Ob} {p : Pl} (hs : Sim C β σ a w) (hold : σ.h[id]? = some old) (hat : ∀ b j, b < w.heap.size -> o.wr = true -> o.at p b j -> old.wr = true ∧ old.at (β id) b j)
  (hbl : ∀ b, o.blks p b -> old.blks (β id) b ∨ (w.heap.size <= b ∧ b < w'.heap.size))
  (hk : Keep (fun b j => old.at (β id) b j ∧ old.wr = true) w w') (hw : Same w w') (hm : Moves β (upd β id p))
  (ho : o.Rel (upd β id p) w' (C.N (upd β id p) (σ.h.set id o)) p) : Sim C (upd β id p) { σ with h := σ.h.set id o } a w' :=
 ⟨hs.heap.Vg hold hat hbl hk hw hm ho, hs.defers, hs.size, fun i v hv => (hs.reg i v hv).mono hm (hk.weaken fun _ _ hbb => .inr ⟨id, old, hold, hbb.2, hbb.1⟩)
  fun _ _ hlt hn => mQ hold hat hlt hn⟩
theorem at_set {id : Nat} {o old : Ob} {p : Pl} (hwr : o.wr = true -> old.wr = true) (hb : p.blk = (β id).blk ∨ p.blk = none ∨ p.blk = some w.heap.size) (hpl : o.plain = true) :
  ∀ b j, b < w.heap.size -> o.wr = true -> o.at p b j -> old.wr = true ∧ old.at (β id) b j := fun b j hlt h1 h2 => by
 have h3 := Ob.Od hpl h2
 refine ⟨hwr h1, ?_⟩
 rcases hb with e | e | e <;> rw [e] at h3
 ·exact Ob.iJ h3
 ·cases h3
 ·simp only [Option.some.injEq] at h3; omega
theorem Oj {id : Nat} {o old : Ob} {p : Pl} (hb : p.blk = (β id).blk ∨ p.blk = none ∨ (p.blk = some w.heap.size ∧ w.heap.size < w'.heap.size)) (hpl : o.plain = true) :
  ∀ b, o.blks p b -> old.blks (β id) b ∨ (w.heap.size <= b ∧ b < w'.heap.size) := fun b h => by
 have h3 := Ob.wB hpl h
 rcases hb with e | e | ⟨e, hlt⟩ <;> rw [e] at h3
 ·exact .inl (Ob.lD h3)
 ·cases h3
 ·simp only [Option.some.injEq] at h3; right; omega
theorem bG.set {id : Nat} {o old : Ob} {p : Pl} (hs : bG C β h w) (hold : h[id]? = some old) (hwr : o.wr = true -> old.wr = true) (hb : p.blk = (β id).blk ∨ p.blk = none ∨ (p.blk = some w.heap.size ∧ w.heap.size < w'.heap.size))
  (hk : Keep (fun b _ => (β id).blk = some b ∧ old.wr = true) w w') (hw : Same w w') (hm : Moves β (upd β id p))
  (ho : o.Rel (upd β id p) w' (C.N (upd β id p) (h.set id o)) p) (hpl : o.plain = true := by rfl) : bG C (upd β id p) (h.set id o) w' :=
 hs.Vg hold (at_set hwr (hb.imp (fun h => h) (·.imp (fun h => h) (·.1))) hpl) (Oj hb hpl) (hk.weaken fun _ _ h => ⟨Ob.iJ h.1, h.2⟩) hw hm ho
theorem Sim.set {σ : St} {a : Act} {id : Nat} {o old : Ob} {p : Pl} (hs : Sim C β σ a w) (hold : σ.h[id]? = some old) (hwr : o.wr = true -> old.wr = true) (hb : p.blk = (β id).blk ∨ p.blk = none ∨ (p.blk = some w.heap.size ∧ w.heap.size < w'.heap.size))
  (hk : Keep (fun b _ => (β id).blk = some b ∧ old.wr = true) w w') (hw : Same w w') (hm : Moves β (upd β id p))
  (ho : o.Rel (upd β id p) w' (C.N (upd β id p) (σ.h.set id o)) p) (hpl : o.plain = true := by rfl) : Sim C (upd β id p) { σ with h := σ.h.set id o } a w' :=
 hs.Vg hold (at_set hwr (hb.imp (fun h => h) (·.imp (fun h => h) (·.1))) hpl) (Oj hb hpl) (hk.weaken fun _ _ h => ⟨Ob.iJ h.1, h.2⟩) hw hm ho
theorem mR (β : Nat -> Pl) (id : Nat) : upd β id (β id) = β := by
 funext i
 unfold upd
 split
 ·rename_i h; rw [h]
 ·rfl
theorem aZ (w : World) (o : Obj) : Keep (fun _ _ => False) w (w.alloc o) := Keep.qR (M := fun _ => False) (by simp) (fun b hb _ => heap_alloc_old w o b hb) (fun _ _ h => h)
theorem wF (w : World) (o : Obj) : Same w (w.alloc o) := ⟨rfl, rfl, rfl⟩
theorem lG (w : World) : Keep (fun _ _ => False) w w.drew := Keep.qR (M := fun _ => False) (Nat.le_refl _) (fun _ _ _ => rfl) (fun _ _ h => h)
theorem Yw {σ : St} {a : Act} {e : TypeId} {ls : List L} {cs : Array Value} (hs : Sim C β σ a w) (hr : aC β w (C.N β σ.h) ls cs.toList) :
  ∃ β', Moves β β' ∧ Sim C β' { σ with h := σ.h ++ [.box e ls] } a (w.alloc (.cells cs e)) ∧ (L.ptr σ.h.length 0).Rel β' (w.alloc (.cells cs e)) (C.N β' (σ.h ++ [.box e ls])) [.pointer (some ⟨w.heap.size, 0, none⟩)] := by
 let p : Pl := ⟨true, true, 0, some w.heap.size, 0, 0, 0, []⟩
 have hk := aZ w (.cells cs e)
 refine ⟨upd β σ.h.length p, fD hs.heap p, hs.push (p := p) (.inr ⟨rfl, by simp⟩) hk (wF _ _) ?_, ?_⟩
 ·simp only [Ob.Rel]
  refine ⟨rfl, rfl, w.heap.size, cs.toList, rfl, ?_, ?_⟩
  ·exact hr.mono (fD hs.heap p) (hk.weaken fun _ _ h => h.elim) fun b j hlt hn => lF (wE rfl (.inr rfl)) hlt hn
  ·rw [heap_alloc_new]
 ·simp only [L.Rel, upd_same]
  exact ⟨rfl, rfl, w.heap.size, rfl, rfl⟩
theorem Yx {σ : St} {a : Act} {e : TypeId} {t : Ty} {rows : List t.den} {css : List (List Value)} {cs : Array Value} (hs : Sim C β σ a w) (hpos : 0 < t.size) (hr : aJ (fun x c => t.Rel w (C.N β σ.h) x c) rows css)
  (hcs : cs.toList = css.flatten) (hm : rows.length <= maxLen) :
  ∃ β', Moves β β' ∧ Sim C β' { σ with h := σ.h ++ [.arr e t 0 rows true] } a (w.alloc (.cells cs e)) ∧
   (L.own σ.h.length 0).Rel β' (w.alloc (.cells cs e)) (C.N β' (σ.h ++ [.arr e t 0 rows true])) [.slice (some ⟨w.heap.size, 0, none⟩) rows.length rows.length] := by
 let p : Pl := ⟨true, false, 0, some w.heap.size, t.size, rows.length, rows.length, []⟩
 have hk := aZ w (.cells cs e)
 have hlen : ∀ c ∈ css, c.length = t.size := fun c hc => by
  obtain ⟨y, _, hy⟩ := hr.mem_right c hc
  exact hy.length
 have hsz : cs.size = rows.length * t.size := by
  rw [<- Array.length_toList, hcs, aR css hlen, hr.length]
 refine ⟨upd β σ.h.length p, fD hs.heap p, hs.push (p := p) (.inr ⟨rfl, by simp⟩) hk (wF _ _) ?_, ?_⟩
 ·simp only [Ob.Rel]
  refine ⟨rfl, rfl, rfl, rfl, hpos, rfl, .inr ⟨w.heap.size, cs, css, rfl, ?_, ?_, ?_, hsz, Nat.le_refl _, hm⟩⟩
  ·rw [heap_alloc_new]
  ·exact hr.mono fun _ _ hx => hx.mono (hk.weaken fun _ _ h => h.elim) fun b j hlt hn => lF (wE rfl (.inr rfl)) hlt hn
  ·rw [List.take_of_length_le (by rw [Array.length_toList]; omega), hcs]
 ·simp only [L.Rel, upd_same]
  refine ⟨rfl, rfl, Nat.le_refl _, _, rfl, rfl, fun _ => ?_⟩
  unfold bP
  simp only [p]
  refine ⟨by omega, 0, rfl, .inl (by simp)⟩
end
end Go.Dec
namespace Go.Dec
section
variable {β : Nat -> Pl} {w : World} {T : Tab} {C : Ctx}
def storeAt (T : Tab) (h : List Ob) (t : TypeId) (l : L) (v : V) : Option (Bool × List Ob) :=
 match T.get t, v.leaves with
 | some ti, some new =>
  if sizes new = ti.size then
   match l with
   | .ptr id off =>
    match h[id]? with
    | some (.box e ls) => (pX ls off new).map fun ls' => (true, h.set id (.box e ls'))
    | _ => none
   | .eY id off es i sub =>
    match h[id]? with
    | some (.box e ls) =>
     match eU ls off with
     | some (a, .val (.arr n te) xs :: rest) =>
      if te.size = es then
       match pX (explode te (xs.getD i te.dflt)) sub new with
       | some parts =>
        match aW te parts with
        | some (y, []) => some (decide (i < n), h.set id (.box e (a ++ .val (.arr n te) (xs.set i y) :: rest)))
        | _ => none
       | none => none
      else none
     | _ => none
    | _ => none
   | .bW id ver i off =>
    match h[id]? with
    | some (.arr e te v rows true) =>
     match pX (explode te (rows.getD i te.dflt)) off new with
     | some parts =>
      match aW te parts with
      | some (y, []) => some (Nat.beq v ver && decide (i < rows.length), h.set id (.arr e te v (rows.set i y) true))
      | _ => none
     | none => none
    | _ => none
   | _ => none
  else none
 | _, _ => none
theorem rD {t : TypeId} {ti : TI} (hok : eZ C.P t ti) {b off : Nat} {cur : Array Value} {e : TypeId} {x : Value} (hb : w.heap[b]? = some (.cells cur e (0, 0))) (hs : x.cells.size = ti.size) (hfit : off + ti.size <= cur.size)
  (h1 : ∀ c ∈ x.cells.toList, c.oneCell' = true) :
  (storeVar t ⟨b, off, none⟩ x).run C.P w = .ok () (w.setRow b (cur.toList.take off ++ x.cells.toList ++ cur.toList.drop (off + ti.size)).toArray) := by
 have hlen : x.cells.toList.length = ti.size := by simpa using hs
 have := run_storeCells_at (P := C.P) b off e x.cells.toList 0 cur w hb (by simp; omega) h1
 simp only [storeVar, Sem.run_bind, hok.sizeOf, Result.andThen_ok, hs, ne_eq, not_true_eq_false, if_false]
 simp only [Nat.add_zero, hlen] at this
 simpa using this
theorem gV {b : Nat} {cs : Array Value} : Keep (fun k _ => k = b) w (w.setRow b cs) := Keep.qR (M := fun k => k = b) (by simp) (fun k _ hn => setRow_other w b k cs hn) (fun _ _ h => h)
theorem nN {b : Nat} {cs : Array Value} : Same w (w.setRow b cs) := ⟨rfl, rfl, rfl⟩
theorem Sim.uV {σ : St} {a : Act} {id : Nat} {e : TypeId} {ls ls' : List L} {b : Nat} {cs cs' : List Value} (hs : Sim C β σ a w) (ho : σ.h[id]? = some (.box e ls)) (hb : (β id).blk = some b) (hheap : w.heap[b]? = some (.cells cs.toArray e (0, 0)))
  (hr : aC β w (C.N β σ.h) ls' cs') : Sim C β { σ with h := σ.h.set id (.box e ls') } a (w.setRow b cs'.toArray) := by
 have hob := hs.heap.obj id _ ho
 simp only [Ob.Rel] at hob
 obtain ⟨hl, hx, _⟩ := hob
 have hm : Moves β (upd β id (β id)) := by rw [mR]; exact Moves.refl β
 have hk : Keep (fun k _ => (β id).blk = some k ∧ Ob.wr (.box e ls) = true) w (w.setRow b cs'.toArray) := gV.weaken fun k _ hk => by subst hk; exact ⟨hb, rfl⟩
 have := hs.set (id := id) (o := .box e ls') (p := β id) (w' := w.setRow b cs'.toArray) ho (fun _ => rfl) (.inl rfl) hk nN hm (by
  simp only [Ob.Rel]
  refine ⟨hl, hx, b, cs', hb, ?_, setRow_heap w b _ _ e _ hheap⟩
  refine hr.mono hm (hk.weaken fun k _ hk => .inr ⟨id, _, ho, rfl, Ob.iJ hk.1⟩) fun k j hlt hn => mQ (w := w) ho (at_set (fun _ => rfl) (.inl rfl) rfl) hlt hn)
 rwa [mR] at this
theorem Sim.zFm {σ : St} {a : Act} {id : Nat} {e : TypeId} {t : Ty} {ver : Nat} {rows rows' : List t.den} {b : Nat} {cur cur' : Array Value} {rE : List (List Value)} (hs : Sim C β σ a w) (ho : σ.h[id]? = some (.arr e t ver rows true)) (hb : (β id).blk = some b)
  (hheap : w.heap[b]? = some (.cells cur e (0, 0))) (hlen : rows'.length = rows.length) (hsz : cur'.size = cur.size) (hr : aJ (fun x c => t.Rel w (C.N β σ.h) x c) rows' rE) (htake : cur'.toList.take (rows'.length * t.size) = rE.flatten) :
  Sim C β { σ with h := σ.h.set id (.arr e t ver rows' true) } a (w.setRow b cur') := by
 have hob := hs.heap.obj id _ ho
 simp only [Ob.Rel] at hob
 obtain ⟨hl, hx, h3, h4, h5, h6, h7⟩ := hob
 have hm : Moves β (upd β id (β id)) := by rw [mR]; exact Moves.refl β
 have hk : Keep (fun k _ => (β id).blk = some k ∧ Ob.wr (.arr e t ver rows true) = true) w (w.setRow b cur') := gV.weaken fun k _ hk => by subst hk; exact ⟨hb, rfl⟩
 have := hs.set (id := id) (o := .arr e t ver rows' true) (p := β id) (w' := w.setRow b cur') ho (fun _ => rfl) (.inl rfl) hk nN hm (by
  simp only [Ob.Rel]
  refine ⟨hl, hx, h3, h4, h5, by rw [h6, hlen], ?_⟩
  rcases h7 with ⟨h7, _⟩ | ⟨b', zKc, css, g1, g2, g3, g4, g5, g6, g7⟩
  ·rw [h7] at hb; cases hb
  ·rw [hb] at g1
   simp only [Option.some.injEq] at g1
   subst g1
   rw [hheap] at g2
   simp only [Option.some.injEq, Obj.cells.injEq] at g2
   obtain ⟨rfl, _⟩ := g2
   refine .inr ⟨b, cur', rE, hb, setRow_heap w b _ _ e _ hheap, ?_, htake, by rw [hsz, g5], by rw [hlen]; exact g6, g7⟩
   exact hr.mono fun _ _ h => h.mono (hk.weaken fun k _ hk => .inr ⟨id, _, ho, rfl, Ob.iJ hk.1⟩) fun k j hlt hn => mQ (w := w) ho (at_set (fun _ => rfl) (.inl rfl) rfl) hlt hn)
 rwa [mR] at this
theorem sO {α : Type} (cs : List α) (off n : Nat) (ds : List α) (k m : Nat) (hd : ds.length = m) (h1 : off <= k) (h2 : k + m <= off + n) :
  cs.take k ++ ds ++ cs.drop (k + m) = cs.take off ++ (((cs.drop off).take n).take (k - off) ++ (ds ++ ((cs.drop off).take n).drop (k - off + m))) ++ cs.drop (off + n) := by
 have e1 : cs.take k = cs.take off ++ ((cs.drop off).take n).take (k - off) := by
  rw [List.take_take, Nat.min_eq_left (by omega)]
  have : k = off + (k - off) := by omega
  rw [show cs.take k = cs.take (off + (k - off)) by rw [<- this], List.take_add]
 have e2 : cs.drop (k + m) = ((cs.drop off).take n).drop (k - off + m) ++ cs.drop (off + n) := by
  rw [List.drop_take, List.drop_drop]
  have h4 : cs.drop (off + n) = (cs.drop (off + (k - off + m))).drop (n - (k - off + m)) := by
   rw [List.drop_drop]; congr 1; omega
  rw [h4, List.take_append_drop]
  congr 1
  omega
 rw [e1, e2]
 simp
theorem Sl {α : Type} (cs : List α) (k m R : Nat) (d : List α) (hd : d.length = m) (h : k + m <= R) (hR : R <= cs.length) :
  (cs.take k ++ d ++ cs.drop (k + m)).take R = (cs.take R).take k ++ d ++ (cs.take R).drop (k + m) := by
 have e1 : (cs.take R).take k = cs.take k := by rw [List.take_take, Nat.min_eq_left (by omega)]
 have e2 : (cs.take R).drop (k + m) = (cs.drop (k + m)).take (R - (k + m)) := List.drop_take ..
 rw [e1, e2]
 have hl : (cs.take k ++ d).length = k + m := by simp; omega
 rw [List.take_append, hl, List.take_of_length_le (by omega)]
theorem Bv {t : Ty} {N : Nat -> Nat -> Prop} {rows : List t.den} {css : List (List Value)} (hall : aJ (fun x c => t.Rel w N x c) rows css) {i : Nat} (hi : i < rows.length) {off : Nat} {new parts : List L} {ds : List Value} {y : t.den}
  (hset : pX (explode t (rows.getD i t.dflt)) off new = some parts) (himp : aW t parts = some (y, [])) (hd : aC β w N new ds) :
  ∃ c', aJ (fun x c => t.Rel w N x c) (rows.set i y) (css.set i c') ∧ off + ds.length <= t.size ∧
   (css.set i c').flatten = css.flatten.take (i * t.size + off) ++ ds ++ css.flatten.drop (i * t.size + off + ds.length) := by
 have hi1 : i < css.length := by rw [<- hall.length]; exact hi
 have hrel := hall.get i hi hi1
 have hlen : ∀ c ∈ css, c.length = t.size := fun c hc => by
  obtain ⟨y, _, hy⟩ := hall.mem_right c hc
  exact hy.length
 have hget : rows.getD i t.dflt = rows[i] := by
  simp only [List.getD_eq_getElem?_getD]; rw [List.getElem?_eq_getElem hi]; rfl
 rw [hget] at hset
 obtain ⟨hp, hle⟩ := yU (β := β) hset (dJ hrel) hd
 obtain ⟨c1, c2, e, hy, h2⟩ := iX himp hp
 simp only [aC] at h2
 subst h2
 rw [List.append_nil] at e
 have hci : css[i].length = t.size := hlen _ (List.getElem_mem hi1)
 refine ⟨c1, hall.set i hy, by omega, ?_⟩
 rw [<- e]
 have zIc : css.set i (css[i].take off ++ (ds ++ css[i].drop (off + ds.length))) = css.take i ++ (css[i].take off ++ (ds ++ css[i].drop (off + ds.length))) :: css.drop (i + 1) := List.set_eq_take_append_cons_drop .. |>.trans (by rw [if_pos hi1])
 rw [zIc, List.flatten_append, List.flatten_cons]
 have t1 : (css.take i).flatten = css.flatten.take (i * t.size) := (fP css hlen i).symm
 have t2 : (css.drop (i + 1)).flatten = css.flatten.drop ((i + 1) * t.size) := (dM css hlen (i + 1)).symm
 have hfl : css.flatten.length = css.length * t.size := aR css hlen
 have hmul : (i + 1) * t.size <= css.length * t.size := Nat.mul_le_mul_right _ hi1
 have hsm : (i + 1) * t.size = i * t.size + t.size := Nat.succ_mul _ _
 have t3 : (css.flatten.drop (i * t.size)).take t.size = css[i] := by
  rw [dM css hlen i, List.drop_eq_getElem_cons hi1, List.flatten_cons, <- hci, List.take_left]
 have := sO css.flatten (i * t.size) t.size ds (i * t.size + off) ds.length rfl (by omega) (by omega)
 rw [this, t1, t2, t3, hsm, show i * t.size + off - i * t.size = off by omega]
 simp
theorem Sm {σ : St} {a : Act} {t : TypeId} {l : L} {v : V} {x y : Value} {h' : List Ob} (hT : aT C.P T) (h : storeAt T σ.h t l v = some (true, h')) (hs : Sim C β σ a w) (hl : l.Rel β w (C.N β σ.h) [x]) (hv : v.Rel β w (C.N β σ.h) y) :
    ∃ w', (Instr.storeAt t x y).run C.P w = .ok () w' ∧ Sim C β { σ with h := h' } a w' ∧ Keep (C.N β σ.h) w w' := by
  unfold storeAt at h
  split at h
  · rename_i ti new hti hnew
    have hok := hT _ _ hti
    have hr := V.lS hnew hv
    split at h
    · rename_i hsz
      have hyl : y.cells.size = ti.size := by rw [<- hsz, <- hr.length]; simp
      have hdl : y.cells.toList.length = ti.size := by simpa using hyl
      have hone := hr.one
      split at h
      ·
        rename_i id off
        split at h
        · rename_i e ls ho
          cases hset : pX ls off new with
          | none => rw [hset] at h; cases h
          | some ls' =>
            rw [hset] at h
            simp only [Option.map_some, Option.some.injEq, Prod.mk.injEq, true_and] at h
            subst h
            have hob := hs.heap.obj id _ ho
            simp only [Ob.Rel] at hob
            obtain ⟨_, _, b, cs, hb, hls, hheap⟩ := hob
            simp only [L.Rel] at hl
            obtain ⟨_, _, b', hb', hx⟩ := hl
            rw [hb] at hb'
            simp only [Option.some.injEq] at hb'
            subst hb'
            simp only [List.cons.injEq, and_true] at hx
            subst hx
            obtain ⟨hr', hle⟩ := yU hset hls hr
            have hrun := rD hok (off := off) hheap hyl (by simp; omega) hone
            refine ⟨_, by simpa only [Instr.storeAt, Instr.sureAddr, Sem.run_bind, Sem.run_pure, Result.andThen_ok] using hrun, ?_⟩
            rw [hdl] at hr'
            rw [List.append_assoc]
            exact ⟨hs.uV ho hb hheap hr', gV.weaken fun k _ hk => .inr ⟨id, _, ho, rfl, Ob.iJ (by rw [hk]; exact hb)⟩⟩
        · cases h
      ·
        rename_i id off es i sub
        split at h
        · rename_i e ls ho
          split at h
          · rename_i a0 n te xs rest hsp
            split at h
            · rename_i hes
              subst hes
              split at h
              · rename_i parts hset
                split at h
                · rename_i z himp
                  simp only [Option.some.injEq, Prod.mk.injEq] at h
                  obtain ⟨hi, rfl⟩ := h
                  have hi := of_decide_eq_true hi
                  have hob := hs.heap.obj id _ ho
                  simp only [Ob.Rel] at hob
                  obtain ⟨_, _, b, cs, hb, hls, hheap⟩ := hob
                  simp only [L.Rel] at hl
                  obtain ⟨_, _, b', hb', hx⟩ := hl
                  rw [hb] at hb'
                  simp only [Option.some.injEq] at hb'
                  subst hb'
                  simp only [List.cons.injEq, and_true] at hx
                  subst hx
                  obtain ⟨hra, hrb, hoff⟩ := gU hsp hls
                  obtain ⟨c1, c2, e1, h1, h2⟩ := hrb
                  simp only [L.Rel, Ty.Rel] at h1
                  obtain ⟨hn, css, e2, hall⟩ := h1
                  have hlen : ∀ c ∈ css, c.length = te.size := fun c hc => by
                    obtain ⟨y, _, hy⟩ := hall.mem_right c hc
                    exact hy.length
                  have hi0 : i < xs.length := by rw [hn]; exact hi
                  obtain ⟨c', Es, hle, hfl⟩ := Bv hall hi0 hset himp hr
                  have hcl : c1.length = n * te.size := by rw [e2, aR css hlen, <- hall.length, hn]
                  have hcs : cs.length = off + (c1.length + c2.length) := by
                    have := congrArg List.length e1
                    simp at this; omega
                  have hmul : (i + 1) * te.size <= n * te.size := Nat.mul_le_mul_right _ hi
                  have hsm : (i + 1) * te.size = i * te.size + te.size := Nat.succ_mul _ _
                  have hrun := rD hok (off := off + i * te.size + sub) (x := y) hheap hyl (by simp; omega) hone
                  refine ⟨_, by simpa only [Instr.storeAt, Instr.sureAddr, Sem.run_bind, Sem.run_pure, Result.andThen_ok] using hrun, ?_⟩
                  have hrel : aC β w (C.N β σ.h) (a0 ++ .val (.arr n te) (xs.set i z) :: rest) (cs.take off ++ ((css.set i c').flatten ++ c2)) := by
                    refine hra.append ⟨_, _, rfl, ?_, h2⟩
                    simp only [L.Rel, Ty.Rel]
                    exact ⟨by simpa using hn, _, rfl, Es⟩
                  have heq : cs.take (off + i * te.size + sub) ++ y.cells.toList ++ cs.drop (off + i * te.size + sub + ti.size) = cs.take off ++ ((css.set i c').flatten ++ c2) := by
                    have := sO cs off c1.length y.cells.toList (off + i * te.size + sub) ti.size hdl (by omega) (by omega)
                    rw [this, show off + i * te.size + sub - off = i * te.size + sub by omega, hfl]
                    have t1 : (cs.drop off).take c1.length = c1 := by rw [e1, List.take_left]
                    have t2 : cs.drop (off + c1.length) = c2 := by rw [<- List.drop_drop, e1, List.drop_left]
                    rw [t1, t2, e2, hdl]
                    simp
                  rw [heq]
                  exact ⟨hs.uV ho hb hheap hrel, gV.weaken fun k _ hk => .inr ⟨id, _, ho, rfl, Ob.iJ (by rw [hk]; exact hb)⟩⟩
                · cases h
              · cases h
            · cases h
          · cases h
        · cases h
      ·
        rename_i id ver i off
        split at h
        · rename_i e te vv rows ho
          split at h
          · rename_i parts hset
            split at h
            · rename_i z himp
              simp only [Option.some.injEq, Prod.mk.injEq, Bool.and_eq_true] at h
              obtain ⟨⟨kT, hi⟩, rfl⟩ := h
              have kT := Nat.eq_of_beq_eq_true kT
              have hi := of_decide_eq_true hi
              have hob := hs.heap.obj id _ ho
              simp only [Ob.Rel] at hob
              obtain ⟨_, _, hpv, hpz, hpos, Vb, hob⟩ := hob
              simp only [L.Rel] at hl
              obtain ⟨_, _, _, c0, hc0, _, hb0⟩ := hl
              obtain ⟨b', hb', hx⟩ := hb0 (by rw [hpv, kT])
              simp only [List.cons.injEq, and_true] at hc0
              subst hc0
              rcases hob with ⟨hnb, _⟩ | ⟨b, cur, css, hb, hheap, hall, htake, hcap, hrc, _⟩
              · rw [hnb] at hb'; cases hb'
              · rw [hb] at hb'
                simp only [Option.some.injEq] at hb'
                subst hb'
                subst hx
                have hlen : ∀ c ∈ css, c.length = te.size := fun c hc => by
                  obtain ⟨y, _, hy⟩ := hall.mem_right c hc
                  exact hy.length
                obtain ⟨c', Es, hle, hfl⟩ := Bv hall hi hset himp hr
                have hmul : (i + 1) * te.size <= rows.length * te.size := Nat.mul_le_mul_right _ hi
                have zJt : rows.length * te.size <= (β id).cap * te.size := Nat.mul_le_mul_right _ hrc
                have hsm : (i + 1) * te.size = i * te.size + te.size := Nat.succ_mul _ _
                have hrun := rD hok (off := i * te.size + off) (x := y) hheap hyl (by omega) hone
                refine ⟨_, by simpa only [Instr.storeAt, Instr.sureAddr, Sem.run_bind, Sem.run_pure, Result.andThen_ok, hpz] using hrun, ?_⟩
                refine ⟨hs.zFm (rE := css.set i c') ho hb hheap (by simp) ?_ Es ?_, gV.weaken fun k _ hk => .inr ⟨id, _, ho, rfl, Ob.iJ (by rw [hk]; exact hb)⟩⟩
                · simp only [List.size_toArray, List.length_append, List.length_take, List.length_drop, Array.length_toList, hdl]; omega
                · rw [hfl, <- htake, hdl]
                  simp only [List.length_set]
                  have hh : cur.toList.length = cur.size := by simp
                  exact Sl _ _ _ _ _ hdl (by omega) (by omega)
            · cases h
          · cases h
        · cases h
      · cases h
    · cases h
  · cases h
end
end Go.Dec
