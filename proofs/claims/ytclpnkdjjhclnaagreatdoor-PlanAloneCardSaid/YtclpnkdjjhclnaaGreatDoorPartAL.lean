/- Part of a proof over this seat: a library of my own, and what it says of this seat. No statement is proved here. -/
import Derived.Test.YtclpnkdjjhclnaaGreatDoorPartAK
namespace Go.Dec
section
variable {T : Tab} {C : Ctx} {β β' : Nat -> Pl} {w : World}
theorem L.qN {N N' : Nat -> Nat -> Prop} (hN : ∀ b j, b < w.heap.size -> N' b j -> N b j) : ∀ {l : L} {cs : List Value}, l.isD = true -> l.Rel β w N cs -> l.Rel β' w N' cs
 | .val t x, cs, _, h => by simp only [L.Rel] at *; exact h.mono (Keep.refl _ w) hN
 | .eH, cs, _, h => by simp only [L.Rel] at *; exact h
 | .bH, cs, _, h => by simp only [L.Rel] at *; exact h
 | .cK t x off, cs, _, h => by simp only [L.Rel] at *; obtain ⟨c, hc, hr⟩ := h; exact ⟨c, hc, hr.mono (Keep.refl _ w) hN⟩
 | .clo f [], cs, _, h => by simp only [L.Rel, L.aM] at *; exact h
 | .clo f (_ :: _), _, hd, _ => by simp [L.isD] at hd
 | .ptr .., _, hd, _ => by simp [L.isD] at hd
 | .bY .., _, hd, _ => by simp [L.isD] at hd
 | .bE .., _, hd, _ => by simp [L.isD] at hd
 | .sl .., _, hd, _ => by simp [L.isD] at hd
 | .own .., _, hd, _ => by simp [L.isD] at hd
 | .bad _, _, hd, _ => by simp [L.isD] at hd
 | .bB .., _, hd, _ => by simp [L.isD] at hd
theorem aI.isD {N N' : Nat -> Nat -> Prop} (hN : ∀ b j, b < w.heap.size -> N' b j -> N b j) : ∀ {ls : List L} {cs : List Value}, bI L.isD ls = true -> aI β w N ls cs -> aI β' w N' ls cs
 | [], _, _, h => h
 | l :: ls, _, hd, ⟨c1, c2, e, h1, h2⟩ => by
  simp only [bI, Bool.and_eq_true] at hd
  exact ⟨c1, c2, e, L.qN hN hd.1 h1, aI.isD hN hd.2 h2⟩
theorem vP {N N' : Nat -> Nat -> Prop} (hN : ∀ b j, b < w.heap.size -> N' b j -> N b j) : ∀ {vs : List (Sum L (List L))} {us : List Value}, bI Me vs = true -> aN (gP β w N) vs us -> aN (gP β' w N') vs us
 | [], [], _, _ => trivial
 | .inl l :: vs, u :: us, hd, hr => by
  simp only [bI, Bool.and_eq_true] at hd
  exact ⟨L.qN hN hd.1 hr.1, vP hN hd.2 hr.2⟩
 | .inr ls :: vs, u :: us, hd, hr => by
  simp only [bI, Bool.and_eq_true] at hd
  obtain ⟨⟨cs, e, h⟩, h2⟩ := hr
  exact ⟨⟨cs, e, h.isD hN hd.1⟩, vP hN hd.2 h2⟩
 | [], _ :: _, _, h => h.elim
 | .inl _ :: _, [], _, h => h.elim
 | .inr _ :: _, [], _, h => h.elim
theorem V.qN {N N' : Nat -> Nat -> Prop} (hN : ∀ b j, b < w.heap.size -> N' b j -> N b j) {v : V} {x : Value} (hd : v.isD = true) (h : v.Rel β w N x) : v.Rel β' w N' x := by
 cases v with
 | one l => exact L.qN hN hd h
 | agg ls => obtain ⟨cs, e, hr⟩ := h; exact ⟨cs, e, hr.isD hN hd⟩
 | tup vs =>
  obtain ⟨us, e, hr⟩ := h
  exact ⟨us, e, vP hN hd hr⟩
 | aO => cases hd
end
end Go.Dec
namespace Go.Dec
@[reducible] def pI : List Ty -> Type
 | [] => Unit
 | [t] => t.den
 | t :: u :: r => t.den × pI (u :: r)
def Mk : List Value -> Value
 | [u] => u
 | us => .tuple us.toArray
def Ty.VRel (w : World) (N : Nat -> Nat -> Prop) (t : Ty) (x : t.den) (u : Value) : Prop :=
 if t.isAgg then ∃ cs : List Value, u = .agg cs.toArray ∧ t.Rel w N x cs else t.Rel w N x [u]
def iE (w : World) (N : Nat -> Nat -> Prop) : (ts : List Ty) -> pI ts -> List Value -> Prop
 | [], _, us => us = []
 | [t], x, us => ∃ u, us = [u] ∧ t.VRel w N x u
 | t :: s :: r, x, us => ∃ u us', us = u :: us' ∧ t.VRel w N x.1 u ∧ iE w N (s :: r) x.2 us'
section
variable {β : Nat -> Pl} {w : World} {N : Nat -> Nat -> Prop}
theorem Ty.VRel.mono {w' : World} {N' : Nat -> Nat -> Prop} (hk : Keep N w w') (hN : ∀ b j, b < w.heap.size -> N' b j -> N b j) {t : Ty} {x : t.den} {u : Value} (h : t.VRel w N x u) : t.VRel w' N' x u := by
 unfold Ty.VRel at *
 split
 ·rename_i ha
  rw [if_pos ha] at h
  obtain ⟨cs, e, h⟩ := h
  exact ⟨cs, e, h.mono hk hN⟩
 ·rename_i ha
  rw [if_neg ha] at h
  exact h.mono hk hN
theorem iE.mono {w' : World} {N' : Nat -> Nat -> Prop} (hk : Keep N w w') (hN : ∀ b j, b < w.heap.size -> N' b j -> N b j) : ∀ {ts : List Ty} {x : pI ts} {us : List Value}, iE w N ts x us -> iE w' N' ts x us
 | [], _, _, h => h
 | [t], x, _, h => by obtain ⟨u, e, h⟩ := h; exact ⟨u, e, h.mono hk hN⟩
 | t :: s :: r, x, _, h => by obtain ⟨u, us, e, h, h2⟩ := h; exact ⟨u, us, e, h.mono hk hN, h2.mono hk hN⟩
end
def Pure (P : Program) (f : FuncId) (as rs : List Ty) (F : pI as -> Option (pI rs)) : Prop :=
 eB P f = true ∧ ∀ x y, F x = some y -> ∀ (w : World) (N : Nat -> Nat -> Prop) (xs : List Value), Glob P w -> (∀ b j, N b j -> b < w.heap.size) -> iE w N as x xs ->
  Calls P f xs.toArray w fun e w' => ∃ us : List Value, e = .returned (Mk us) ∧ w'.os = w.os ∧ w'.tape = w.tape ∧ w'.output = w.output ∧ Keep (fun _ _ => False) w w' ∧ iE w' N rs y us
section
variable {T : Tab} {P : Program}
theorem all_nil {Q : FuncId × PE -> Prop} : ∀ p ∈ ([] : List (FuncId × PE)), Q p := fun _ h => by cases h
theorem all_cons {Q : FuncId × PE -> Prop} {p : FuncId × PE} {l : List (FuncId × PE)} (h : Q p) (hl : ∀ q ∈ l, Q q) : ∀ q ∈ p :: l, Q q := fun q hq => by
 cases hq with
 | head => exact h
 | tail _ hq => exact hl q hq
end
end Go.Dec
namespace Go.Dec
mutual
def L.back (f v : Nat -> Nat) : L -> L
 | .ptr id o => .ptr (f id) o
 | .bB id o => .bB (f id) o
 | .bY id o es i sub => .bY (f id) o es i sub
 | .bE id u i o => .bE (f id) (u + v id) i o
 | .sl id u i n => .sl (f id) (u + v id) i n
 | .own id u => .own (f id) (u + v id)
 | .clo g caps => .clo g (L.backs f v caps)
 | .mp id => .mp (f id)
 | l => l
def L.backs (f v : Nat -> Nat) : List L -> List L
 | [] => []
 | l :: ls => l.back f v :: L.backs f v ls
end
def V.back (f v : Nat -> Nat) : V -> V
 | .one l => .one (l.back f v)
 | .agg ls => .agg (L.backs f v ls)
 | _ => .aO
def Ob.back (f v : Nat -> Nat) (id : Nat) : Ob -> Ob
 | .box e ls => .box e (L.backs f v ls)
 | .arr e t u rows wr => .arr e t (u + v id) rows wr
 | .fm tab => .fm tab
section
variable {β β' : Nat -> Pl} {w : World} {N N' : Nat -> Nat -> Prop}
structure rR (p q : Pl) (v : Nat) : Prop where
 live : q.live = p.live
 box : q.box = p.box
 blk : q.blk = p.blk
 row : p.box = false -> q.ver = p.ver + v ∧ q.size = p.size ∧ q.cap = p.cap ∧ q.len = p.len
theorem rR.Kk {p q : Pl} {v : Nat} (h : rR p q v) (hb : p.box = false) {off len : Nat} {c : Value} : mH q off len c <-> mH p off len c := by
 obtain ⟨_, h2, h3, _⟩ := h.row hb
 unfold mH
 rw [h.blk, h2, h3]
mutual
theorem L.Rel.back {f v : Nat -> Nat} (hβ : ∀ j, (β j).live = true -> rR (β j) (β' (f j)) (v j)) (hN : ∀ b j, b < w.heap.size -> N' b j -> N b j) : ∀ {l : L} {cs : List Value}, l.Rel β w N cs -> (l.back f v).Rel β' w N' cs
 | .val t x, cs, h => by simp only [L.back, L.Rel] at *; exact Ty.Rel.mono (Keep.refl _ w) hN h
 | .ptr id off, cs, h => by
  simp only [L.back, L.Rel] at *
  obtain ⟨h1, h2, h3⟩ := h
  have := hβ id h1
  exact ⟨this.live ▸ h1, this.box ▸ h2, by rw [this.blk]; exact h3⟩
 | .bY id off es i sub, cs, h => by
  simp only [L.back, L.Rel] at *
  obtain ⟨h1, h2, h3⟩ := h
  have := hβ id h1
  exact ⟨this.live ▸ h1, this.box ▸ h2, by rw [this.blk]; exact h3⟩
 | .eH, cs, h => by simp only [L.back, L.Rel] at *; exact h
 | .bB id off, cs, h => by
  simp only [L.back, L.Rel] at *
  obtain ⟨c, e, h⟩ := h
  refine ⟨c, e, ?_⟩
  rcases h with h | ⟨h1, h2, h3⟩
  ·exact .inl h
  ·have := hβ id h1
   exact .inr ⟨this.live ▸ h1, this.box ▸ h2, by rw [this.blk]; exact h3⟩
 | .bE id u i off, cs, h => by
  simp only [L.back, L.Rel] at *
  obtain ⟨h1, h2, h3, c, h4, h5, h6⟩ := h
  have := hβ id h1
  obtain ⟨g1, g2, g3, g4⟩ := this.row h2
  refine ⟨this.live ▸ h1, this.box ▸ h2, by omega, c, h4, h5, fun hv => ?_⟩
  rw [this.blk, g2]
  exact h6 (by omega)
 | .cK t x off, cs, h => by simp only [L.back, L.Rel] at *; obtain ⟨c, hc, hr⟩ := h; exact ⟨c, hc, hr.mono (Keep.refl _ w) hN⟩
 | .sl id u off len, cs, h => by
  simp only [L.back, L.Rel] at *
  obtain ⟨h1, h2, h3, c, h4, h5, h6⟩ := h
  have := hβ id h1
  obtain ⟨g1, g2, g3, g4⟩ := this.row h2
  exact ⟨this.live ▸ h1, this.box ▸ h2, by omega, c, h4, h5, fun hv => (this.Kk h2).2 (h6 (by omega))⟩
 | .own id u, cs, h => by
  simp only [L.back, L.Rel] at *
  obtain ⟨h1, h2, h3, c, h4, h5, h6⟩ := h
  have := hβ id h1
  obtain ⟨g1, g2, g3, g4⟩ := this.row h2
  exact ⟨this.live ▸ h1, this.box ▸ h2, by omega, c, h4, h5, fun hv => by rw [g4]; exact (this.Kk h2).2 (h6 (by omega))⟩
 | .bH, cs, h => by simp only [L.back, L.Rel] at *; exact h
 | .clo g caps, cs, h => by
  simp only [L.back, L.Rel] at *
  obtain ⟨us, hc, hr⟩ := h
  exact ⟨us, hc, L.aM.back hβ hN hr⟩
 | .bad n, cs, h => by simp only [L.back, L.Rel] at *; exact h
 | .iY x tab, cs, h => by simp only [L.back, L.Rel] at *; exact h
 | .mp id, cs, h => by
  simp only [L.back, L.Rel] at *
  obtain ⟨h1, h2, h3⟩ := h
  have := hβ id h1
  exact ⟨this.live ▸ h1, this.box ▸ h2, by rw [this.blk]; exact h3⟩
theorem L.aM.back {f v : Nat -> Nat} (hβ : ∀ j, (β j).live = true -> rR (β j) (β' (f j)) (v j)) (hN : ∀ b j, b < w.heap.size -> N' b j -> N b j) : ∀ {ls : List L} {us : List Value}, L.aM β w N ls us -> L.aM β' w N' (L.backs f v ls) us
 | [], us, h => by simp only [L.backs, L.aM] at *; exact h
 | l :: ls, us, h => by
  simp only [L.backs, L.aM] at *
  obtain ⟨u, r, e, h1, h2⟩ := h
  exact ⟨u, r, e, L.Rel.back hβ hN h1, L.aM.back hβ hN h2⟩
end
theorem aI.back {f v : Nat -> Nat} (hβ : ∀ j, (β j).live = true -> rR (β j) (β' (f j)) (v j)) (hN : ∀ b j, b < w.heap.size -> N' b j -> N b j) : ∀ {ls : List L} {cs : List Value}, aI β w N ls cs -> aI β' w N' (L.backs f v ls) cs
 | [], _, h => h
 | _l :: _ls, _, ⟨c1, c2, e, h1, h2⟩ => ⟨c1, c2, e, h1.back hβ hN, aI.back hβ hN h2⟩
theorem V.Rel.back {f v : Nat -> Nat} (hβ : ∀ j, (β j).live = true -> rR (β j) (β' (f j)) (v j)) (hN : ∀ b j, b < w.heap.size -> N' b j -> N b j) {x : V} {u : Value} (h : x.Rel β w N u) : (x.back f v).Rel β' w N' u := by
 cases x with
 | one l => exact L.Rel.back hβ hN h
 | agg ls => obtain ⟨cs, e, h⟩ := h; exact ⟨cs, e, h.back hβ hN⟩
 | _ => trivial
theorem Ob.Rel.back {f v : Nat -> Nat} (hβ : ∀ j, (β j).live = true -> rR (β j) (β' (f j)) (v j)) (hN : ∀ b j, b < w.heap.size -> N' b j -> N b j) {id : Nat} {o : Ob} (h : o.Rel β w N (β id)) : (o.back f v id).Rel β' w N' (β' (f id)) := by
 cases o with
 | box e ls =>
  simp only [Ob.back, Ob.Rel] at *
  obtain ⟨h1, h2, b, cs, h3, h4, h5⟩ := h
  have := hβ id h1
  exact ⟨this.live ▸ h1, this.box ▸ h2, b, cs, this.blk ▸ h3, h4.back hβ hN, h5⟩
 | arr e t u rows wr =>
  simp only [Ob.back, Ob.Rel] at *
  obtain ⟨h1, h2, h3, h4, h5, h6, h7⟩ := h
  have := hβ id h1
  obtain ⟨g1, g2, g3, g4⟩ := this.row h2
  refine ⟨this.live ▸ h1, this.box ▸ h2, by omega, by rw [g2, h4], h5, by rw [g4, h6], ?_⟩
  rw [this.blk, g3]
  rcases h7 with h7 | ⟨b, cur, css, k1, k2, k3, k4⟩
  ·exact .inl h7
  ·exact .inr ⟨b, cur, css, k1, k2, k3.mono fun _ _ h => h.mono (Keep.refl _ w) hN, k4⟩
 | fm tab =>
  simp only [Ob.back, Ob.Rel] at *
  obtain ⟨h1, h2, b, es, n, h3, h4⟩ := h
  have := hβ id h1
  exact ⟨this.live ▸ h1, this.box ▸ h2, b, es, n, this.blk ▸ h3, h4⟩
end
end Go.Dec
