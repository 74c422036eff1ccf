/- Part of a proof over this seat: a library of my own, and what it says of this seat. No statement is proved here. -/
import Derived.Test.YtclpnkdjjhclnaaGreatDoorPartAB
namespace Go.Dec
section
variable {β : Nat -> Pl} {w w' : World} {T : Tab} {C : Ctx} {h : List Ob}
def upd (β : Nat -> Pl) (id : Nat) (p : Pl) : Nat -> Pl := fun i => if i = id then p else β i
theorem upd_same (β : Nat -> Pl) (id : Nat) (p : Pl) : upd β id p id = p := by simp [upd]
theorem aB (β : Nat -> Pl) {id i : Nat} (p : Pl) (hi : i ≠ id) : upd β id p i = β i := by simp [upd, hi]
structure Same (w w' : World) : Prop where
 os : w'.os = w.os
 tape : w'.tape = w.tape
 output : w'.output = w.output
theorem Ob.Rel.mono {N N' : Nat -> Nat -> Prop} {o : Ob} {p : Pl} {β' : Nat -> Pl} (hr : o.Rel β w N p) (hm : Moves β β') (hk : Keep N w w') (hN : ∀ b j, b < w.heap.size -> N' b j -> N b j) (hb : ∀ b, o.blks p b -> w'.heap[b]? = w.heap[b]?) : o.Rel β' w' N' p := by
 cases o with
 | box e ls =>
  simp only [Ob.Rel] at *
  obtain ⟨h1, h2, b, cs, h3, h4, h5⟩ := hr
  exact ⟨h1, h2, b, cs, h3, h4.mono hm hk hN, by rw [hb b (Ob.gM h3)]; exact h5⟩
 | arr e t ver rows wr =>
  simp only [Ob.Rel] at *
  obtain ⟨h1, h2, h3, h4, h5, h5', h6⟩ := hr
  refine ⟨h1, h2, h3, h4, h5, h5', ?_⟩
  rcases h6 with h6 | ⟨b, cur, css, g1, g2, g3, g4⟩
  ·exact .inl h6
  ·exact .inr ⟨b, cur, css, g1, by rw [hb b (Ob.gM g1)]; exact g2, g3.mono fun _ _ hx => hx.mono hk hN, g4⟩
 | fm tab =>
  simp only [Ob.Rel] at *
  obtain ⟨h1, h2, b, es, n, h3, h4, h5⟩ := hr
  exact ⟨h1, h2, b, es, n, h3, by rw [hb b (Ob.gM h3)]; exact h4, h5⟩
theorem Ob.Rel.live {N : Nat -> Nat -> Prop} {o : Ob} {p : Pl} (hr : o.Rel β w N p) : p.live = true := by
 cases o <;> (simp only [Ob.Rel] at hr; exact hr.1)
theorem oP {o : Ob} {p : Pl} {b j : Nat} (hb : ∀ b, o.blks p b -> w.heap.size <= b) (hlt : b < w.heap.size) (hn : C.N (upd β h.length p) (h ++ [o]) b j) : C.N β h b j := by
 rcases hn with hn | ⟨id, o', ho', hw, hbk⟩
 ·exact .inl hn
 ·right
  by_cases hid : id < h.length
  ·rw [List.getElem?_append_left hid] at ho'
   rw [aB _ _ (by omega)] at hbk
   exact ⟨id, o', ho', hw, hbk⟩
  ·rw [List.getElem?_append_right (by omega)] at ho'
   have : id = h.length := by
    rcases Nat.lt_or_ge (id - h.length) 1 with h1 | h1
    ·omega
    ·rw [List.getElem?_eq_none (by simpa using h1)] at ho'; cases ho'
   subst this
   rw [upd_same] at hbk
   simp only [Nat.sub_self, List.getElem?_cons_zero, Option.some.injEq] at ho'
   subst ho'
   have := hb b ⟨j, hbk⟩
   omega
theorem mJ (hs : bQ C β h w) (p : Pl) : Moves β (upd β h.length p) := fun id hl => by
 left
 apply aB
 intro e
 subst e
 rw [hs.dead _ (Nat.le_refl _)] at hl
 cases hl
theorem bQ.Cy {o : Ob} {p : Pl} (hs : bQ C β h w) (hb : ∀ b, o.blks p b -> w.heap.size <= b ∧ b < w'.heap.size) (hk : Keep (fun _ _ => False) w w') (hw : Same w w')
  (ho : o.Rel (upd β h.length p) w' (C.N (upd β h.length p) (h ++ [o])) p) : bQ C (upd β h.length p) (h ++ [o]) w' := by
 have hN : ∀ b j, b < w.heap.size -> C.N (upd β h.length p) (h ++ [o]) b j -> C.N β h b j := fun b j hlt hn => oP (fun b h => (hb b h).1) hlt hn
 have hm := mJ hs p
 have hold : ∀ id o', (h ++ [o])[id]? = some o' -> (id < h.length ∧ h[id]? = some o') ∨ (id = h.length ∧ o' = o) := fun id o' ho' => by
  by_cases hid : id < h.length
  ·rw [List.getElem?_append_left hid] at ho'; exact .inl ⟨hid, ho'⟩
  ·rw [List.getElem?_append_right (by omega)] at ho'
   right
   rcases Nat.lt_or_ge (id - h.length) 1 with h1 | h1
   ·have : id - h.length = 0 := by omega
    rw [this] at ho'
    simp only [List.getElem?_cons_zero, Option.some.injEq] at ho'
    exact ⟨by omega, ho'.symm⟩
   ·rw [List.getElem?_eq_none (by simpa using h1)] at ho'; cases ho'
 refine ⟨?_, ?_, ?_, ?_, hs.n0, ?_, Nat.le_trans hs.size hk.size, hw.os.trans hs.os, hw.tape.trans hs.tape, hw.output.trans hs.output, fun j o hj => by
  obtain ⟨k1, k2⟩ := hs.fixed j o hj
  exact ⟨by simp; omega, fun b hb => by rw [aB _ _ (by omega)]; exact k2 b hb⟩⟩
 ·intro id o' ho'
  rcases hold id o' ho' with ⟨hid, ho'⟩ | ⟨rfl, rfl⟩
  ·rw [aB _ _ (by omega)]
   exact (hs.obj id o' ho').mono hm (hk.weaken fun _ _ h => h.elim) hN fun b hb => hk.block b (hs.fM id o' b ho' hb).2.1 (fun _ h => h)
  ·rw [upd_same]; exact ho
 ·intro id hid
  rw [List.length_append, List.length_singleton] at hid
  rw [aB _ _ (by omega)]
  exact hs.dead id (by omega)
 ·intro i j o1 o2 b h1 h2 hb1 hb2
  rcases hold i o1 h1 with ⟨hi, k1⟩ | ⟨rfl, rfl⟩ <;> rcases hold j o2 h2 with ⟨hj, k2⟩ | ⟨rfl, rfl⟩
  ·rw [aB _ _ (by omega)] at hb1 hb2
   exact hs.gX i j o1 o2 b k1 k2 hb1 hb2
  ·rw [aB _ _ (by omega)] at hb1
   rw [upd_same] at hb2
   have := (hs.fM i o1 b k1 hb1).2.1
   have := (hb b hb2).1
   omega
  ·rw [aB _ _ (by omega)] at hb2
   rw [upd_same] at hb1
   have := (hs.fM j o2 b k2 hb2).2.1
   have := (hb b hb1).1
   omega
  ·rfl
 ·intro id o' b ho' hbk
  rcases hold id o' ho' with ⟨hid, ho'⟩ | ⟨rfl, rfl⟩
  ·rw [aB _ _ (by omega)] at hbk
   obtain ⟨h1, h2, h3⟩ := hs.fM id o' b ho' hbk
   exact ⟨h1, Nat.lt_of_lt_of_le h2 hk.size, by rw [aB _ _ (by omega)]; exact h3⟩
  ·rw [upd_same] at hbk
   obtain ⟨e, hlt⟩ := hb b hbk
   have h0 := hs.size
   exact ⟨fun _ hn => by have := hs.n0 _ _ hn; omega, hlt, .inl (by omega)⟩
 ·exact hs.frame.yP hk fun _ _ _ h => h.elim
theorem bQ.push {o : Ob} {p : Pl} (hs : bQ C β h w) (hb : p.blk = none ∨ (p.blk = some w.heap.size ∧ w.heap.size < w'.heap.size)) (hk : Keep (fun _ _ => False) w w') (hw : Same w w')
  (ho : o.Rel (upd β h.length p) w' (C.N (upd β h.length p) (h ++ [o])) p) (hpl : o.plain = true := by rfl) : bQ C (upd β h.length p) (h ++ [o]) w' :=
 hs.Cy (fun b hbb => by
  have := Ob.mI hpl hbb
  rcases hb with e | ⟨e, hlt⟩ <;> rw [e] at this
  ·cases this
  ·simp only [Option.some.injEq] at this; omega) hk hw ho
theorem Sim.Cy {σ : St} {a : Act} {o : Ob} {p : Pl} (hs : Sim C β σ a w) (hb : ∀ b, o.blks p b -> w.heap.size <= b ∧ b < w'.heap.size) (hk : Keep (fun _ _ => False) w w') (hw : Same w w')
  (ho : o.Rel (upd β σ.h.length p) w' (C.N (upd β σ.h.length p) (σ.h ++ [o])) p) : Sim C (upd β σ.h.length p) { σ with h := σ.h ++ [o] } a w' :=
 ⟨hs.heap.Cy hb hk hw ho, hs.defers, hs.size, fun i v hv => (hs.reg i v hv).mono (mJ hs.heap p) (hk.weaken fun _ _ h => h.elim) fun _ _ hlt hn => oP (fun b h => (hb b h).1) hlt hn⟩
theorem Ia {o : Ob} {p : Pl} (hpl : o.plain = true) (hb : p.blk = none ∨ p.blk = some w.heap.size) : ∀ b, o.blks p b -> w.heap.size <= b := fun b hbb => by
 have := Ob.mI hpl hbb
 rcases hb with e | e <;> rw [e] at this
 ·cases this
 ·simp only [Option.some.injEq] at this; omega
theorem Sim.push {σ : St} {a : Act} {o : Ob} {p : Pl} (hs : Sim C β σ a w) (hb : p.blk = none ∨ (p.blk = some w.heap.size ∧ w.heap.size < w'.heap.size)) (hk : Keep (fun _ _ => False) w w') (hw : Same w w')
  (ho : o.Rel (upd β σ.h.length p) w' (C.N (upd β σ.h.length p) (σ.h ++ [o])) p) (hpl : o.plain = true := by rfl) : Sim C (upd β σ.h.length p) { σ with h := σ.h ++ [o] } a w' :=
 ⟨hs.heap.push hb hk hw ho hpl, hs.defers, hs.size, fun i v hv => (hs.reg i v hv).mono (mJ hs.heap p) (hk.weaken fun _ _ h => h.elim) fun _ _ hlt hn => oP (Ia hpl (hb.imp id (·.1))) hlt hn⟩
theorem yT {id : Nat} {o old : Ob} {p : Pl} {b j : Nat} (hold : h[id]? = some old) (hat : ∀ b j, b < w.heap.size -> o.wr = true -> o.at p b j -> old.wr = true ∧ old.at (β id) b j) (hlt : b < w.heap.size)
  (hn : C.N (upd β id p) (h.set id o) b j) : C.N β h b j := by
 rcases hn with hn | ⟨i, o', ho', hw', hbk⟩
 ·exact .inl hn
 ·right
  by_cases hid : i = id
  ·subst hid
   have hi : i < h.length := (List.getElem?_eq_some_iff.1 hold).1
   rw [List.getElem?_set_self hi] at ho'
   simp only [Option.some.injEq] at ho'
   subst ho'
   rw [upd_same] at hbk
   obtain ⟨g1, g2⟩ := hat b j hlt hw' hbk
   exact ⟨i, old, hold, g1, g2⟩
  ·rw [List.getElem?_set_ne (Ne.symm hid)] at ho'
   rw [aB _ _ hid] at hbk
   exact ⟨i, o', ho', hw', hbk⟩
theorem bQ.Cz {id : Nat} {o old : Ob} {p : Pl} (hs : bQ C β h w) (hold : h[id]? = some old) (hat : ∀ b j, b < w.heap.size -> o.wr = true -> o.at p b j -> old.wr = true ∧ old.at (β id) b j)
  (hbl : ∀ b, o.blks p b -> old.blks (β id) b ∨ (w.heap.size <= b ∧ b < w'.heap.size))
  (hk : Keep (fun b j => old.at (β id) b j ∧ old.wr = true) w w') (hw : Same w w') (hm : Moves β (upd β id p))
  (ho : o.Rel (upd β id p) w' (C.N (upd β id p) (h.set id o)) p) : bQ C (upd β id p) (h.set id o) w' := by
 have hN : ∀ b j, b < w.heap.size -> C.N (upd β id p) (h.set id o) b j -> C.N β h b j := fun b j hlt hn => yT hold hat hlt hn
 have hi : id < h.length := (List.getElem?_eq_some_iff.1 hold).1
 have hkN : Keep (C.N β h) w w' := hk.weaken fun b j hbb => .inr ⟨id, old, hold, hbb.2, hbb.1⟩
 have hcase : ∀ i o', (h.set id o)[i]? = some o' -> (i ≠ id ∧ h[i]? = some o') ∨ (i = id ∧ o' = o) := fun i o' ho' => by
  by_cases hid : i = id
  ·subst hid
   rw [List.getElem?_set_self hi] at ho'
   simp only [Option.some.injEq] at ho'
   exact .inr ⟨rfl, ho'.symm⟩
  ·rw [List.getElem?_set_ne (Ne.symm hid)] at ho'
   exact .inl ⟨hid, ho'⟩
 refine ⟨?_, ?_, ?_, ?_, hs.n0, ?_, Nat.le_trans hs.size hk.size, hw.os.trans hs.os, hw.tape.trans hs.tape, hw.output.trans hs.output, fun j o' hj => by
  obtain ⟨k1, k2⟩ := hs.fixed j o' hj
  refine ⟨by simpa using k1, fun b hb => ?_⟩
  obtain ⟨k3, k4⟩ := k2 b hb
  obtain ⟨oj, hoj⟩ : ∃ oj, h[j]? = some oj := ⟨h[j], by simp [k1]⟩
  rcases hm j (hs.obj j oj hoj).live with e | ⟨e, _⟩
  ·rw [e]; exact ⟨k3, k4⟩
  ·rw [k4] at e; cases e⟩
 ·intro i o' ho'
  rcases hcase i o' ho' with ⟨hne, ho'⟩ | ⟨rfl, rfl⟩
  ·rw [aB _ _ hne]
   exact (hs.obj i o' ho').mono hm hkN hN fun b hb => hk.block b (hs.fM i o' b ho' hb).2.1 (fun j hbb => hne (hs.gX i id o' old b ho' hold hb ⟨j, hbb.1⟩))
  ·rw [upd_same]; exact ho
 ·intro i hl
  rw [List.length_set] at hl
  rw [aB _ _ (by omega)]
  exact hs.dead i hl
 ·intro i j o1 o2 b h1 h2 hb1 hb2
  rcases hcase i o1 h1 with ⟨hi1, k1⟩ | ⟨rfl, rfl⟩ <;> rcases hcase j o2 h2 with ⟨hj1, k2⟩ | ⟨rfl, rfl⟩
  ·rw [aB _ _ hi1] at hb1
   rw [aB _ _ hj1] at hb2
   exact hs.gX i j o1 o2 b k1 k2 hb1 hb2
  ·rw [aB _ _ hi1] at hb1
   rw [upd_same] at hb2
   have := (hs.fM i o1 b k1 hb1).2.1
   rcases hbl b hb2 with e | e
   ·exact hs.gX i _ o1 old b k1 hold hb1 e
   ·omega
  ·rw [aB _ _ hj1] at hb2
   rw [upd_same] at hb1
   have := (hs.fM j o2 b k2 hb2).2.1
   rcases hbl b hb1 with e | e
   ·exact hs.gX _ j old o2 b hold k2 e hb2
   ·omega
  ·rfl
 ·intro i o' b ho' hbk
  rcases hcase i o' ho' with ⟨hne, ho'⟩ | ⟨rfl, rfl⟩
  ·rw [aB _ _ hne] at hbk
   obtain ⟨h1, h2, h3⟩ := hs.fM i o' b ho' hbk
   exact ⟨h1, Nat.lt_of_lt_of_le h2 hk.size, by rw [aB _ _ hne]; exact h3⟩
  ·rw [upd_same] at hbk
   rcases hbl b hbk with e | e
   ·obtain ⟨h1, h2, h3⟩ := hs.fM i old b hold e
    exact ⟨h1, Nat.lt_of_lt_of_le h2 hk.size, h3.imp (fun h => h) fun h j g1 g2 => (hat b j h2 g1 (by rwa [upd_same] at g2)).elim fun g3 g4 => h j g3 g4⟩
   ·have h0 := hs.size
    exact ⟨fun _ hn => by have := hs.n0 _ _ hn; omega, e.2, .inl (by omega)⟩
 ·refine hs.frame.yP hk fun b j hb hbb => ?_
  rcases (hs.fM id old b hold ⟨j, hbb.1⟩).2.2 with h1 | h1
  ·omega
  ·exact h1 j hbb.2 hbb.1
theorem Sim.Cz {σ : St} {a : Act} {id : Nat} {o old : Ob} {p : Pl} (hs : Sim C β σ a w) (hold : σ.h[id]? = some old) (hat : ∀ b j, b < w.heap.size -> o.wr = true -> o.at p b j -> old.wr = true ∧ old.at (β id) b j)
  (hbl : ∀ b, o.blks p b -> old.blks (β id) b ∨ (w.heap.size <= b ∧ b < w'.heap.size))
  (hk : Keep (fun b j => old.at (β id) b j ∧ old.wr = true) w w') (hw : Same w w') (hm : Moves β (upd β id p))
  (ho : o.Rel (upd β id p) w' (C.N (upd β id p) (σ.h.set id o)) p) : Sim C (upd β id p) { σ with h := σ.h.set id o } a w' :=
 ⟨hs.heap.Cz hold hat hbl hk hw hm ho, hs.defers, hs.size, fun i v hv => (hs.reg i v hv).mono hm (hk.weaken fun _ _ hbb => .inr ⟨id, old, hold, hbb.2, hbb.1⟩)
  fun _ _ hlt hn => yT hold hat hlt hn⟩
theorem at_set {id : Nat} {o old : Ob} {p : Pl} (hwr : o.wr = true -> old.wr = true) (hb : p.blk = (β id).blk ∨ p.blk = none ∨ p.blk = some w.heap.size) (hpl : o.plain = true) :
  ∀ b j, b < w.heap.size -> o.wr = true -> o.at p b j -> old.wr = true ∧ old.at (β id) b j := fun b j hlt h1 h2 => by
 have h3 := Ob.yQ hpl h2
 refine ⟨hwr h1, ?_⟩
 rcases hb with e | e | e <;> rw [e] at h3
 ·exact Ob.sZ h3
 ·cases h3
 ·simp only [Option.some.injEq] at h3; omega
theorem yU {id : Nat} {o old : Ob} {p : Pl} (hb : p.blk = (β id).blk ∨ p.blk = none ∨ (p.blk = some w.heap.size ∧ w.heap.size < w'.heap.size)) (hpl : o.plain = true) :
  ∀ b, o.blks p b -> old.blks (β id) b ∨ (w.heap.size <= b ∧ b < w'.heap.size) := fun b h => by
 have h3 := Ob.mI hpl h
 rcases hb with e | e | ⟨e, hlt⟩ <;> rw [e] at h3
 ·exact .inl (Ob.gM h3)
 ·cases h3
 ·simp only [Option.some.injEq] at h3; right; omega
theorem bQ.set {id : Nat} {o old : Ob} {p : Pl} (hs : bQ C β h w) (hold : h[id]? = some old) (hwr : o.wr = true -> old.wr = true) (hb : p.blk = (β id).blk ∨ p.blk = none ∨ (p.blk = some w.heap.size ∧ w.heap.size < w'.heap.size))
  (hk : Keep (fun b _ => (β id).blk = some b ∧ old.wr = true) w w') (hw : Same w w') (hm : Moves β (upd β id p))
  (ho : o.Rel (upd β id p) w' (C.N (upd β id p) (h.set id o)) p) (hpl : o.plain = true := by rfl) : bQ C (upd β id p) (h.set id o) w' :=
 hs.Cz hold (at_set hwr (hb.imp (fun h => h) (·.imp (fun h => h) (·.1))) hpl) (yU hb hpl) (hk.weaken fun _ _ h => ⟨Ob.sZ h.1, h.2⟩) hw hm ho
theorem Sim.set {σ : St} {a : Act} {id : Nat} {o old : Ob} {p : Pl} (hs : Sim C β σ a w) (hold : σ.h[id]? = some old) (hwr : o.wr = true -> old.wr = true) (hb : p.blk = (β id).blk ∨ p.blk = none ∨ (p.blk = some w.heap.size ∧ w.heap.size < w'.heap.size))
  (hk : Keep (fun b _ => (β id).blk = some b ∧ old.wr = true) w w') (hw : Same w w') (hm : Moves β (upd β id p))
  (ho : o.Rel (upd β id p) w' (C.N (upd β id p) (σ.h.set id o)) p) (hpl : o.plain = true := by rfl) : Sim C (upd β id p) { σ with h := σ.h.set id o } a w' :=
 hs.Cz hold (at_set hwr (hb.imp (fun h => h) (·.imp (fun h => h) (·.1))) hpl) (yU hb hpl) (hk.weaken fun _ _ h => ⟨Ob.sZ h.1, h.2⟩) hw hm ho
theorem jE (w : World) (o : Obj) : Keep (fun _ _ => False) w (w.alloc o) := Keep.Bu (M := fun _ => False) (by simp) (fun b hb _ => heap_alloc_old w o b hb) (fun _ _ h => h)
end
end Go.Dec
namespace Go.Dec
section
variable {β : Nat -> Pl} {w : World} {T : Tab} {C : Ctx}
def storeAt (T : Tab) (h : List Ob) (t : TypeId) (l : L) (v : V) : Option (Bool × List Ob) :=
 match T.get t, v.leaves with
 | some ti, some new =>
  if sizes new = ti.size then
   match l with
   | .ptr id off =>
    match h[id]? with
    | some (.box e ls) => (tF ls off new).map fun ls' => (true, h.set id (.box e ls'))
    | _ => none
   | .bY id off es i sub =>
    match h[id]? with
    | some (.box e ls) =>
     match gY ls off with
     | some (a, .val (.arr n te) xs :: rest) =>
      if te.size = es then
       match tF (explode te (xs.getD i te.dflt)) sub new with
       | some parts =>
        match fD te parts with
        | some (y, []) => some (decide (i < n), h.set id (.box e (a ++ .val (.arr n te) (xs.set i y) :: rest)))
        | _ => none
       | none => none
      else none
     | _ => none
    | _ => none
   | .bE id ver i off =>
    match h[id]? with
    | some (.arr e te v rows true) =>
     match tF (explode te (rows.getD i te.dflt)) off new with
     | some parts =>
      match fD te parts with
      | some (y, []) => some (Nat.beq v ver && decide (i < rows.length), h.set id (.arr e te v (rows.set i y) true))
      | _ => none
     | none => none
    | _ => none
   | _ => none
  else none
 | _, _ => none
end
end Go.Dec
