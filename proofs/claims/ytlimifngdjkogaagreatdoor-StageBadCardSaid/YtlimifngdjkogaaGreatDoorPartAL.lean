/- Part of a proof over this seat: a library of my own, and what it says of this seat. No statement is proved here. -/
import Derived.Test.YtlimifngdjkogaaGreatDoorPartAK
namespace Go.Dec
section
variable {T : Tab} {C : Ctx} {β β' : Nat -> Pl} {w : World}
theorem L.vC {N N' : Nat -> Nat -> Prop} (hN : ∀ b j, b < w.heap.size -> N' b j -> N b j) : ∀ {l : L} {cs : List Value}, l.isD = true -> l.Rel β w N cs -> l.Rel β' w N' cs
 | .val t x, cs, _, h => by simp only [L.Rel] at *; exact h.mono (Keep.refl _ w) hN
 | .gI, cs, _, h => by simp only [L.Rel] at *; exact h
 | .aS, cs, _, h => by simp only [L.Rel] at *; exact h
 | .dX t x off, cs, _, h => by simp only [L.Rel] at *; obtain ⟨c, hc, hr⟩ := h; exact ⟨c, hc, hr.mono (Keep.refl _ w) hN⟩
 | .clo f [], cs, _, h => by simp only [L.Rel, L.aU] at *; exact h
 | .clo f (_ :: _), _, hd, _ => by simp [L.isD] at hd
 | .ptr .., _, hd, _ => by simp [L.isD] at hd
 | .eY .., _, hd, _ => by simp [L.isD] at hd
 | .bW .., _, hd, _ => by simp [L.isD] at hd
 | .sl .., _, hd, _ => by simp [L.isD] at hd
 | .own .., _, hd, _ => by simp [L.isD] at hd
 | .bad _, _, hd, _ => by simp [L.isD] at hd
 | .bM .., _, hd, _ => by simp [L.isD] at hd
theorem aC.isD {N N' : Nat -> Nat -> Prop} (hN : ∀ b j, b < w.heap.size -> N' b j -> N b j) : ∀ {ls : List L} {cs : List Value}, aV L.isD ls = true -> aC β w N ls cs -> aC β' w N' ls cs
 | [], _, _, h => h
 | l :: ls, _, hd, ⟨c1, c2, e, h1, h2⟩ => by
  simp only [aV, Bool.and_eq_true] at hd
  exact ⟨c1, c2, e, L.vC hN hd.1 h1, aC.isD hN hd.2 h2⟩
theorem Iy {N N' : Nat -> Nat -> Prop} (hN : ∀ b j, b < w.heap.size -> N' b j -> N b j) : ∀ {vs : List (Sum L (List L))} {us : List Value}, aV Vo vs = true -> aJ (dO β w N) vs us -> aJ (dO β' w N') vs us
 | [], [], _, _ => trivial
 | .inl l :: vs, u :: us, hd, hr => by
  simp only [aV, Bool.and_eq_true] at hd
  exact ⟨L.vC hN hd.1 hr.1, Iy hN hd.2 hr.2⟩
 | .inr ls :: vs, u :: us, hd, hr => by
  simp only [aV, Bool.and_eq_true] at hd
  obtain ⟨⟨cs, e, h⟩, h2⟩ := hr
  exact ⟨⟨cs, e, h.isD hN hd.1⟩, Iy hN hd.2 h2⟩
 | [], _ :: _, _, h => h.elim
 | .inl _ :: _, [], _, h => h.elim
 | .inr _ :: _, [], _, h => h.elim
theorem V.vC {N N' : Nat -> Nat -> Prop} (hN : ∀ b j, b < w.heap.size -> N' b j -> N b j) {v : V} {x : Value} (hd : v.isD = true) (h : v.Rel β w N x) : v.Rel β' w N' x := by
 cases v with
 | one l => exact L.vC hN hd h
 | agg ls => obtain ⟨cs, e, hr⟩ := h; exact ⟨cs, e, hr.isD hN hd⟩
 | tup vs =>
  obtain ⟨us, e, hr⟩ := h
  exact ⟨us, e, Iy hN hd hr⟩
 | aN => cases hd
theorem Pn {h : List Ob} {e : TypeId} {t : Ty} {ver id off len : Nat} {rows : List t.den} {wr : Bool} {c : Value} {N' : Nat -> Nat -> Prop} (hh : bG C β h w) (ho : h[id]? = some (.arr e t ver rows wr)) (hsl : bP (β id) off len c) (hle : off + len <= rows.length)
  (hN : ∀ b j, b < w.heap.size -> N' b j -> C.N0 b j) : (Ty.slice t).Rel w N' ((rows.drop off).take len) [c] := by
 have hob := hh.obj _ _ ho
 simp only [Ob.Rel] at hob
 obtain ⟨_, _, hpv, hpz, hpos, hpl, hob⟩ := hob
 simp only [Ty.Rel]
 refine ⟨c, rfl, ?_⟩
 unfold bP at hsl
 rcases hob with ⟨hnb, hr0, _⟩ | ⟨b, cur, css, hb, hheap, hall, htake, hcap, hrc, hm⟩
 ·rw [hnb] at hsl
  subst hr0
  exact .inl ⟨hsl.1, by simp⟩
 ·rw [hb] at hsl
  obtain ⟨h1, o, rfl, h3⟩ := hsl
  obtain ⟨hf1, hf2, _⟩ := hh.fresh _ _ _ ho hb
  have hlen : ((rows.drop off).take len).length = len := by simp; omega
  have hl := dQ hall
  have hcs := (Cells.of_heap hheap).take (rows.length * t.size)
  rw [htake] at hcs
  have hcs2 := (hcs.drop (off * t.size)).take (len * t.size)
  rw [dM css hl off, fP _ (fun c hc => hl c (List.mem_of_mem_drop hc)) len, Nat.zero_add] at hcs2
  have hN0 : ∀ b j, b < w.heap.size -> N' b j -> C.N β h b j := fun b j hb hn => .inl (hN b j hb hn)
  have Mc : aJ (fun x c => t.Rel w N' x c) ((rows.drop off).take len) ((css.drop off).take len) := ((hall.drop off).take len).mono fun _ _ h => h.mono (Keep.refl _ w) hN0
  refine .inr (.inl ⟨b, o, _, (css.drop off).take len, by rw [hlen], hf2, fun j _ _ hn => hf1 j (hN b j hf2 hn), by omega, by omega, Mc, fun c hc => hl c (List.mem_of_mem_drop (List.mem_of_mem_take hc)), ?_⟩)
  rcases h3 with h3 | ⟨h3, _⟩
  ·rw [h3, hpz]; exact hcs2
  ·have hl0 : len = 0 := by omega
   subst hl0
   simpa using Cells.nil
theorem L.jK {h : List Ob} {l l' : L} {cs : List Value} {N' : Nat -> Nat -> Prop} (hd : l.deep h = some (true, l')) (hh : bG C β h w) (hN : ∀ b j, b < w.heap.size -> N' b j -> C.N0 b j) (hr : l.Rel β w (C.N β h) cs) : l'.Rel β' w N' cs ∧ l'.isD = true := by
 have hN0 : ∀ b j, b < w.heap.size -> N' b j -> C.N β h b j := fun b j hb hn => .inl (hN b j hb hn)
 have plain : l.isD = true -> l' = l -> l'.Rel β' w N' cs ∧ l'.isD = true := fun h1 h2 => by subst h2; exact ⟨L.vC hN0 h1 hr, h1⟩
 cases l with
 | val t x => simp only [L.deep, Option.some.injEq, Prod.mk.injEq, true_and] at hd; exact plain rfl hd.symm
 | gI => simp only [L.deep, Option.some.injEq, Prod.mk.injEq, true_and] at hd; exact plain rfl hd.symm
 | aS => simp only [L.deep, Option.some.injEq, Prod.mk.injEq, true_and] at hd; exact plain rfl hd.symm
 | dX t x off => simp only [L.deep, Option.some.injEq, Prod.mk.injEq, true_and] at hd; exact plain rfl hd.symm
 | clo f cs =>
  cases cs with
  | nil => simp only [L.deep, Option.some.injEq, Prod.mk.injEq, true_and] at hd; exact plain rfl hd.symm
  | cons _ _ => simp [L.deep] at hd
 | own id ver =>
  simp only [L.deep] at hd
  split at hd
  ·rename_i e t v rows wr ho
   simp only [Option.some.injEq, Prod.mk.injEq] at hd
   obtain ⟨hv, rfl⟩ := hd
   have hv := Nat.eq_of_beq_eq_true hv
   have hob := hh.obj _ _ ho
   simp only [Ob.Rel] at hob
   obtain ⟨_, _, hpv, _, _, hpl, _⟩ := hob
   simp only [L.Rel] at hr
   obtain ⟨_, _, _, c, rfl, _, himp⟩ := hr
   have hsl := himp (by rw [hpv, hv])
   rw [hpl] at hsl
   have := Pn hh ho hsl (by omega) hN
   rw [List.drop_zero, List.take_length] at this
   exact ⟨by simpa only [L.Rel] using this, rfl⟩
  ·cases hd
 | sl id ver off len =>
  simp only [L.deep] at hd
  split at hd
  ·rename_i e t v rows wr ho
   simp only [Option.some.injEq, Prod.mk.injEq, Bool.and_eq_true] at hd
   obtain ⟨⟨hv, hle⟩, rfl⟩ := hd
   have hv := Nat.eq_of_beq_eq_true hv
   have hob := hh.obj _ _ ho
   simp only [Ob.Rel] at hob
   obtain ⟨_, _, hpv, _, _, hpl, _⟩ := hob
   simp only [L.Rel] at hr
   obtain ⟨_, _, _, c, rfl, _, himp⟩ := hr
   exact ⟨by simpa only [L.Rel] using Pn hh ho (himp (by rw [hpv, hv])) (Nat.le_of_ble_eq_true hle) hN, rfl⟩
  ·cases hd
 | _ => simp [L.deep] at hd
theorem Ke {h : List Ob} {N' : Nat -> Nat -> Prop} (hh : bG C β h w) (hN : ∀ b j, b < w.heap.size -> N' b j -> C.N0 b j) : ∀ {ls ls' : List L} {cs : List Value}, wT h ls = some (true, ls') -> aC β w (C.N β h) ls cs -> aC β' w N' ls' cs ∧ aV L.isD ls' = true
 | [], ls', cs, hd, hr => by
  simp only [wT, Option.some.injEq, Prod.mk.injEq, true_and] at hd
  subst hd
  exact ⟨hr, rfl⟩
 | l :: ls, ls', cs, hd, hr => by
  simp only [wT] at hd
  split at hd
  ·rename_i c x d r h1 h2
   simp only [Option.some.injEq, Prod.mk.injEq, Bool.and_eq_true] at hd
   obtain ⟨⟨rfl, rfl⟩, rfl⟩ := hd
   obtain ⟨c1, c2, e, r1, r2⟩ := hr
   obtain ⟨g1, g2⟩ := L.jK (β' := β') h1 hh hN r1
   obtain ⟨g3, g4⟩ := Ke hh hN h2 r2
   exact ⟨⟨c1, c2, e, g1, g3⟩, by simp only [aV, g2, g4, Bool.and_self]⟩
  ·cases hd
theorem V.jK {h : List Ob} {v v' : V} {x : Value} {N' : Nat -> Nat -> Prop} (hd : v.deep h = some (true, v')) (hh : bG C β h w) (hN : ∀ b j, b < w.heap.size -> N' b j -> C.N0 b j) (hr : v.Rel β w (C.N β h) x) : v'.Rel β' w N' x ∧ v'.isD = true := by
 cases v with
 | one l =>
  simp only [V.deep] at hd
  split at hd
  ·rename_i c y h1
   simp only [Option.some.injEq, Prod.mk.injEq] at hd
   obtain ⟨rfl, rfl⟩ := hd
   exact L.jK h1 hh hN hr
  ·cases hd
 | agg ls =>
  simp only [V.deep] at hd
  split at hd
  ·rename_i c y h1
   simp only [Option.some.injEq, Prod.mk.injEq] at hd
   obtain ⟨rfl, rfl⟩ := hd
   obtain ⟨cs, e, hr⟩ := hr
   obtain ⟨g1, g2⟩ := Ke (β' := β') hh hN h1 hr
   exact ⟨⟨cs, e, g1⟩, g2⟩
  ·cases hd
 | _ => simp [V.deep] at hd
theorem Cc {P : Program} {t : TypeId} {x y : Value} (h : (Instr.loadAt t x).run P w = .ok y w) : ∃ a, x = .pointer (some a) ∧ (loadVar t a).run P w = .ok y w := by
 cases x <;> simp only [Instr.loadAt, Instr.sureAddr, Sem.run_bind, run_stuck, Result.andThen, reduceCtorEq] at h
 rename_i a
 cases a with
 | none => simp only [run_stuck, reduceCtorEq] at h
 | some a => exact ⟨a, rfl, by simpa only [Instr.loadAt, Instr.sureAddr, Sem.run_bind, Sem.run_pure, Result.andThen_ok] using h⟩
def tC (tmps : Array Value) : ResultVar -> Sem Value
 | .tmp t => pure (tmps.getD t undef)
 | .cell a t => do loadVar t (<- asAddr (tmps.getD a undef))
theorem Po {σ : St} {a : Act} (hs : Sim C β σ a w) (t : Nat) : (σ.r.getD t .aN).Rel β w (C.N β σ.h) (a.tmps.getD t undef) := aG hs (.tmp t)
theorem zBt {σ : St} {a : Act} {rv : ResultVar} {s : Sum L (List L)} {N' : Nat -> Nat -> Prop} (hT : aT C.P T) (hs : Sim C β σ a w) (hN : ∀ b j, b < w.heap.size -> N' b j -> C.N0 b j) (h : Wj T σ rv = some (true, s)) :
  ∃ x, (tC a.tmps rv).run C.P w = .ok x w ∧ dO β' w N' s x ∧ Vo s = true := by
 cases rv with
 | tmp t =>
  simp only [Wj] at h
  have hr := Po hs t
  refine ⟨a.tmps.getD t undef, rfl, ?_⟩
  split at h
  ·rename_i c l hd
   simp only [Option.some.injEq, Prod.mk.injEq] at h
   obtain ⟨rfl, rfl⟩ := h
   exact V.jK (β' := β') hd hs.heap hN hr
  ·rename_i c ls hd
   simp only [Option.some.injEq, Prod.mk.injEq] at h
   obtain ⟨rfl, rfl⟩ := h
   exact V.jK (β' := β') hd hs.heap hN hr
  ·cases h
 | cell t ty =>
  simp only [Wj] at h
  have hr := Po hs t
  split at h
  ·rename_i l hl
   rw [hl] at hr
   split at h
   ·rename_i c v hv
    split at h
    ·rename_i d l2 hd
     simp only [Option.some.injEq, Prod.mk.injEq, Bool.and_eq_true] at h
     obtain ⟨⟨rfl, rfl⟩, rfl⟩ := h
     obtain ⟨y, h1, h2⟩ := wD hT hv hs.heap hr
     obtain ⟨ad, h3, h4⟩ := Cc h1
     refine ⟨y, ?_, V.jK (β' := β') hd hs.heap hN h2⟩
     simp only [tC, h3, asAddr, Sem.run_bind, Sem.run_pure, Result.andThen_ok, h4]
    ·rename_i d ls2 hd
     simp only [Option.some.injEq, Prod.mk.injEq, Bool.and_eq_true] at h
     obtain ⟨⟨rfl, rfl⟩, rfl⟩ := h
     obtain ⟨y, h1, h2⟩ := wD hT hv hs.heap hr
     obtain ⟨ad, h3, h4⟩ := Cc h1
     refine ⟨y, ?_, V.jK (β' := β') hd hs.heap hN h2⟩
     simp only [tC, h3, asAddr, Sem.run_bind, Sem.run_pure, Result.andThen_ok, h4]
    ·cases h
   ·cases h
  ·cases h
theorem Kg {σ : St} {a : Act} {N' : Nat -> Nat -> Prop} (hT : aT C.P T) (hs : Sim C β σ a w) (hN : ∀ b j, b < w.heap.size -> N' b j -> C.N0 b j) : ∀ {rs : List ResultVar} {vs : List (Sum L (List L))}, Av T σ rs = some (true, vs) ->
  ∀ acc : Array Value, ∃ us : List Value, (rs.foldlM (fun (acc : Array Value) rv => do let v <- tC a.tmps rv; pure (acc.push v)) acc).run C.P w = .ok (acc ++ us.toArray) w ∧ aJ (dO β' w N') vs us ∧
   aV Vo vs = true
 | [], vs, h, acc => by
  simp only [Av, Option.some.injEq, Prod.mk.injEq, true_and] at h
  subst h
  exact ⟨[], by simp, trivial, rfl⟩
 | rv :: rs, vs, h, acc => by
  simp only [Av] at h
  split at h
  ·rename_i c s d r h1 h2
   simp only [Option.some.injEq, Prod.mk.injEq, Bool.and_eq_true] at h
   obtain ⟨⟨rfl, rfl⟩, rfl⟩ := h
   obtain ⟨x, g1, g2, g3⟩ := zBt (β' := β') hT hs hN h1
   obtain ⟨us, g4, g5, g6⟩ := Kg hT hs hN h2 (acc.push x)
   refine ⟨x :: us, ?_, ⟨g2, g5⟩, by simp only [aV, g6, Bool.and_true]; exact g3⟩
   simp only [List.foldlM_cons, Sem.run_bind, g1, Result.andThen_ok, Sem.run_pure, g4]
   simp
  ·cases h
end
def Mk (vs : List V) (n : Nat) : List V := vs ++ List.replicate (n - vs.length) .aN
end Go.Dec
namespace Go.Dec
@[reducible] def bQ : List Ty -> Type
 | [] => Unit
 | [t] => t.den
 | t :: u :: r => t.den × bQ (u :: r)
def zN : List Value -> Value
 | [u] => u
 | us => .tuple us.toArray
def zGi (bor : Bool) (N : Nat -> Nat -> Prop) : Nat -> Nat -> Prop :=
 match bor with
 | true => fun _ _ => False
 | false => N
def Ty.iC (w : World) (N : Nat -> Nat -> Prop) (t : Ty) (x : t.den) (u : Value) : Prop :=
 if t.isAgg then ∃ cs : List Value, u = .agg cs.toArray ∧ t.Rel w N x cs else t.Rel w N x [u]
def DensRel (w : World) (N : Nat -> Nat -> Prop) : (ts : List Ty) -> bQ ts -> List Value -> Prop
 | [], _, us => us = []
 | [t], x, us => ∃ u, us = [u] ∧ t.iC w N x u
 | t :: s :: r, x, us => ∃ u us', us = u :: us' ∧ t.iC w N x.1 u ∧ DensRel w N (s :: r) x.2 us'
def vOf (t : Ty) (x : t.den) : V :=
 match t.isAgg with
 | true => .agg (explode t x)
 | false => .one (.val t x)
def sOf (t : Ty) (x : t.den) : Sum L (List L) :=
 match t.isAgg with
 | true => .inr (explode t x)
 | false => .inl (.val t x)
def wU : (ts : List Ty) -> bQ ts -> List V
 | [], _ => []
 | [t], x => [vOf t x]
 | t :: s :: r, x => vOf t x.1 :: wU (s :: r) x.2
def Wm : (ts : List Ty) -> bQ ts -> List (Sum L (List L))
 | [], _ => []
 | [t], x => [sOf t x]
 | t :: s :: r, x => sOf t x.1 :: Wm (s :: r) x.2
def Wn (t : Ty) (ls : List L) : Option t.den :=
 match aW t ls with
 | some (x, []) => some x
 | _ => none
def Iz (t : Ty) (s : Sum L (List L)) : Option t.den :=
 match t.isAgg, s with
 | true, .inr ls => Wn t ls
 | false, .inl l => l.asT t
 | _, _ => none
def tF : (ts : List Ty) -> List (Sum L (List L)) -> Option (bQ ts)
 | [], [] => some ()
 | [t], [s] => Iz t s
 | t :: u :: r, s :: ss =>
  match Iz t s, tF (u :: r) ss with
  | some x, some y => some (x, y)
  | _, _ => none
 | _, _ => none
def V.sum : V -> Option (Sum L (List L))
 | .one l => some (.inl l)
 | .agg ls => some (.inr ls)
 | _ => none
def Dc (bor : Bool) (h : List Ob) (t : Ty) (v : V) : Option (Bool × t.den) :=
 match bor with
 | true =>
  match v.deep h with
  | some (c, u) =>
   match u.sum with
   | some s => match Iz t s with
    | some x => some (c, x)
    | none => none
   | none => none
  | none => none
 | false =>
  match v.isD, v.sum with
  | true, some s => match Iz t s with
   | some x => some (true, x)
   | none => none
  | _, _ => none
def kL (bor : Bool) (h : List Ob) : (ts : List Ty) -> List V -> Option (Bool × bQ ts)
 | [], [] => some (true, ())
 | [t], [v] => Dc bor h t v
 | t :: u :: r, v :: vs =>
  match Dc bor h t v, kL bor h (u :: r) vs with
  | some (c, x), some (d, y) => some (c && d, (x, y))
  | _, _ => none
 | _, _ => none
def Ty.flat : Ty -> Bool
 | .pair a b => a.flat && b.flat
 | .arr _ a => a.flat
 | .slice _ => false
 | .opq => false
 | _ => true
section
variable {β : Nat -> Pl} {w : World} {N : Nat -> Nat -> Prop}
theorem Ue {t : Ty} {x : t.den} {u : Value} (h : t.iC w N x u) : (vOf t x).Rel β w N u := by
 unfold vOf
 unfold Ty.iC at h
 cases ha : t.isAgg with
 | true =>
  rw [ha, if_pos rfl] at h
  obtain ⟨cs, e, h⟩ := h
  exact ⟨cs, e, dJ h⟩
 | false =>
  rw [ha, if_neg (by simp)] at h
  simp only [V.Rel, L.Rel]
  exact h
theorem Kh : ∀ {ts : List Ty} {x : bQ ts} {us : List Value}, DensRel w N ts x us -> iA β w N (wU ts x) us
 | [], _, _, h => by simp only [DensRel] at h; subst h; trivial
 | [t], x, _, h => by obtain ⟨u, rfl, h⟩ := h; exact ⟨Ue h, trivial⟩
 | t :: s :: r, x, _, h => by
  obtain ⟨u, us, rfl, h, h2⟩ := h
  exact ⟨Ue h, Kh h2⟩
theorem Uf {t : Ty} {x : t.den} {u : Value} (h : t.iC w N x u) : dO β w N (sOf t x) u := by
 unfold sOf
 unfold Ty.iC at h
 cases ha : t.isAgg with
 | true =>
  rw [ha, if_pos rfl] at h
  obtain ⟨cs, e, h⟩ := h
  exact ⟨cs, e, dJ h⟩
 | false =>
  rw [ha, if_neg (by simp)] at h
  simp only [dO, L.Rel]
  exact h
theorem Ki : ∀ {ts : List Ty} {x : bQ ts} {us : List Value}, DensRel w N ts x us -> aJ (dO β w N) (Wm ts x) us
 | [], _, _, h => by simp only [DensRel] at h; subst h; trivial
 | [t], x, _, h => by obtain ⟨u, rfl, h⟩ := h; exact ⟨Uf h, trivial⟩
 | t :: s :: r, x, _, h => by
  obtain ⟨u, us, rfl, h, h2⟩ := h
  exact ⟨Uf h, Ki h2⟩
theorem Zn {t : Ty} {ls : List L} {x : t.den} {cs : List Value} (h : Wn t ls = some x) (hr : aC β w N ls cs) : t.Rel w N x cs := by
 unfold Wn at h
 split at h
 ·rename_i y hi
  simp only [Option.some.injEq] at h
  subst h
  obtain ⟨c1, c2, e, h1, h2⟩ := iX hi hr
  simp only [aC] at h2
  subst h2
  rw [List.append_nil] at e
  subst e
  exact h1
 ·cases h
theorem wV {t : Ty} {s : Sum L (List L)} {x : t.den} {u : Value} (h : Iz t s = some x) (hr : dO β w N s u) : t.iC w N x u := by
 unfold Iz at h
 unfold Ty.iC
 split at h
 ·rename_i ls ha
  rw [ha, if_pos rfl]
  obtain ⟨cs, e, hr⟩ := hr
  exact ⟨cs, e, Zn h hr⟩
 ·rename_i l ha
  rw [ha, if_neg (by simp)]
  exact L.Ij h hr
 ·cases h
theorem Kj : ∀ {ts : List Ty} {ss : List (Sum L (List L))} {x : bQ ts} {us : List Value}, tF ts ss = some x -> aJ (dO β w N) ss us -> DensRel w N ts x us
 | [], [], _, [], _, _ => rfl
 | [t], [s], x, [u], h, hr => ⟨u, rfl, wV h hr.1⟩
 | t :: u :: r, s :: ss, x, v :: vs, h, hr => by
  simp only [tF] at h
  split at h
  ·rename_i y z h1 h2
   simp only [Option.some.injEq] at h
   subst h
   exact ⟨v, vs, rfl, wV h1 hr.1, Kj h2 hr.2⟩
  ·cases h
 | [], [], _, _ :: _, _, hr => hr.elim
 | [], _ :: _, _, _, h, _ => by simp [tF] at h
 | [t], [], _, _, h, _ => by simp [tF] at h
 | [t], [s], _, [], _, hr => hr.elim
 | [t], [s], _, _ :: _ :: _, _, hr => hr.2.elim
 | [t], _ :: _ :: _, _, _, h, _ => by simp [tF] at h
 | t :: u :: r, [], _, _, h, _ => by simp [tF] at h
 | t :: u :: r, s :: ss, _, [], _, hr => hr.elim
theorem V.Ug {v : V} {s : Sum L (List L)} {u : Value} (h : v.sum = some s) (hr : v.Rel β w N u) : dO β w N s u := by
 cases v <;> simp only [V.sum, Option.some.injEq, reduceCtorEq] at h <;> subst h <;> exact hr
theorem Ty.iC.mono {w' : World} {N' : Nat -> Nat -> Prop} (hk : Keep N w w') (hN : ∀ b j, b < w.heap.size -> N' b j -> N b j) {t : Ty} {x : t.den} {u : Value} (h : t.iC w N x u) : t.iC w' N' x u := by
 unfold Ty.iC at *
 split
 ·rename_i ha
  rw [if_pos ha] at h
  obtain ⟨cs, e, h⟩ := h
  exact ⟨cs, e, h.mono hk hN⟩
 ·rename_i ha
  rw [if_neg ha] at h
  exact h.mono hk hN
theorem DensRel.mono {w' : World} {N' : Nat -> Nat -> Prop} (hk : Keep N w w') (hN : ∀ b j, b < w.heap.size -> N' b j -> N b j) : ∀ {ts : List Ty} {x : bQ ts} {us : List Value}, DensRel w N ts x us -> DensRel w' N' ts x us
 | [], _, _, h => h
 | [t], x, _, h => by obtain ⟨u, e, h⟩ := h; exact ⟨u, e, h.mono hk hN⟩
 | t :: s :: r, x, _, h => by obtain ⟨u, us, e, h, h2⟩ := h; exact ⟨u, us, e, h.mono hk hN, h2.mono hk hN⟩
theorem Ty.Rel.flat {N' : Nat -> Nat -> Prop} {w' : World} : ∀ {t : Ty} {x : t.den} {cs : List Value}, t.flat = true -> t.Rel w N x cs -> t.Rel w' N' x cs
 | .unit, _, _, _, h => h
 | .bool, _, _, _, h => h
 | .int _, _, _, _, h => h
 | .str, _, _, _, h => h
 | .err, _, _, _, h => h
 | .opq, _, _, hf, _ => by cases hf
 | .slice _, _, _, hf, _ => by cases hf
 | .pair a b, _, _, hf, h => by
  simp only [Ty.flat, Bool.and_eq_true] at hf
  obtain ⟨c1, c2, e, h1, h2⟩ := h
  exact ⟨c1, c2, e, Ty.Rel.flat hf.1 h1, Ty.Rel.flat hf.2 h2⟩
 | .arr n a, _, _, hf, h => by
  simp only [Ty.flat] at hf
  obtain ⟨h0, css, e, h1⟩ := h
  exact ⟨h0, css, e, h1.mono fun x c hx => Ty.Rel.flat hf hx⟩
theorem Ty.iC.flat {N' : Nat -> Nat -> Prop} {w' : World} {t : Ty} {x : t.den} {u : Value} (hf : t.flat = true) (h : t.iC w N x u) : t.iC w' N' x u := by
 unfold Ty.iC at *
 split
 ·rename_i ha
  rw [if_pos ha] at h
  obtain ⟨cs, e, h⟩ := h
  exact ⟨cs, e, h.flat hf⟩
 ·rename_i ha
  rw [if_neg ha] at h
  exact h.flat hf
theorem DensRel.flat {N' : Nat -> Nat -> Prop} {w' : World} : ∀ {ts : List Ty} {x : bQ ts} {us : List Value}, aV Ty.flat ts = true -> DensRel w N ts x us -> DensRel w' N' ts x us
 | [], _, _, _, h => h
 | [t], x, _, hf, h => by
  simp only [aV, Bool.and_true] at hf
  obtain ⟨u, e, h⟩ := h; exact ⟨u, e, h.flat hf⟩
 | t :: s :: r, x, _, hf, h => by
  simp only [aV, Bool.and_eq_true] at hf
  obtain ⟨u, us, e, h, h2⟩ := h
  exact ⟨u, us, e, h.flat hf.1, DensRel.flat (by simp only [aV, Bool.and_eq_true]; exact hf.2) h2⟩
end
def Pure (P : Program) (f : FuncId) (as rs : List Ty) (F : bQ as -> Option (bQ rs)) : Prop :=
 fK P f = true ∧ ∀ x y, F x = some y -> ∀ (w : World) (N : Nat -> Nat -> Prop) (xs : List Value), Glob P w -> (∀ b j, N b j -> b < w.heap.size) -> DensRel w N as x xs ->
  Calls P f xs.toArray w fun e w' => ∃ us : List Value, e = .returned (zN us) ∧ w'.os = w.os ∧ w'.tape = w.tape ∧ w'.output = w.output ∧ Keep (fun _ _ => False) w w' ∧ DensRel w' N rs y us
def Wo (T : Tab) (res : List ResultVar) (rs : List Ty) (σ : St) : Option (bQ rs) :=
 match Av T σ res with
 | some (c, vs) =>
  match tF rs vs with
  | some y => chk c (some y)
  | none => none
 | none => none
def Wp (T : Tab) (res : List ResultVar) (rs : List Ty) : K (bQ rs) := fun e σ =>
 match e with
 | .normal => Wo T res rs σ
 | .ret => Wo T res rs σ
 | _ => none
section
variable {T : Tab} {P : Program}
theorem Pp {C : Ctx} {β β' : Nat -> Pl} {w : World} {σ : St} {a : Act} {fn : Func} {vs : List (Sum L (List L))} {N' : Nat -> Nat -> Prop} (hT : aT C.P T) (hs : Sim C β σ a w) (hN : ∀ b j, b < w.heap.size -> N' b j -> C.N0 b j) (h : Av T σ fn.results.toList = some (true, vs)) :
  ∃ us : List Value, (results fn a.tmps).run C.P w = .ok (zN us) w ∧ aJ (dO β' w N') vs us := by
 obtain ⟨us, h1, h2, _⟩ := Kg (β' := β') hT hs hN h #[]
 refine ⟨us, ?_, h2⟩
 have e0 : results fn a.tmps = (do let vs <- fn.results.mapM (tC a.tmps); pure (if h : vs.size = 1 then vs[0] else .tuple vs)) := by
  unfold results
  congr 1
 have hm : (fn.results.mapM (tC a.tmps) : Sem (Array Value)).run C.P w = .ok us.toArray w := by
  rw [Array.mapM_eq_foldlM, <- Array.foldlM_toList]
  have e : (fun (acc : Array Value) rv => do let v <- tC a.tmps rv; pure (acc.push v) : Array Value -> ResultVar -> Sem (Array Value)) = (fun (acc : Array Value) rv => acc.push <$> tC a.tmps rv) := by
   funext acc rv
   rfl
  rw [e] at h1
  simpa using h1
 rw [e0]
 simp only [Sem.run_bind, hm, Result.andThen_ok, Sem.run_pure]
 match us with
 | [] => rfl
 | [u] => rfl
 | u :: v :: us => simp [zN]
theorem zO : ∀ cs : List Co, aV (Co.fx 0) cs = true
 | [] => rfl
 | c :: cs => by
  simp only [aV, zO cs, Bool.and_true]
  cases c <;> first | rfl | simp [Co.fx]
theorem oK {ρ : Type} : ∀ an : An ρ, an.fx 0 = true
 | .nil => rfl
 | .mk l r c => by simp only [An.fx, oK l, oK r, zO, Bool.and_self]
 | .loop _ c0 c1 _ a => by simp only [An.fx, oK a, zO, Bool.and_self]
 | .scope _ a b => by simp only [An.fx, oK a, oK b, Bool.and_self]
 | .sem _ => rfl
 | .co c a => by simp only [An.fx, oK a, zO, Bool.and_self]
 | .join _ c a => by simp only [An.fx, oK a, zO, Bool.and_self]
theorem lJ {f : FuncId} {fn : Func} {c : Code} {as rs : List Ty} {F : bQ as -> Option (bQ rs)} {Γ : Orc (bQ rs)} {an : An (bQ rs)} (hf : P.funcs[f]? = some fn) (hb : fn.body = some c) (hh : fK P f = true) (hT : aT P T) (hΓ : eD P Γ) (hm : P.follows .mixedOrders = true) (ha : Wi P 0 c an)
  (h : ∀ x, ev Γ T c an ⟨Mk (wU as x) fn.ntmps, []⟩ (Wp T fn.results.toList rs) = F x) : Pure P f as rs F := by
 refine ⟨hh, fun x y hF w N xs hG hN hx => ?_⟩
 rw [<- h x] at hF
 let C : Ctx := { P := P, N0 := N, w0 := w, Ii := fun _ _ => False, glob := fun w' h => hG.keep fun b hb => h.block b hb (fun _ h => h), fix := [] }
 let β0 : Nat -> Pl := fun _ => ⟨false, false, 0, none, 0, 0, 0, []⟩
 have hargs : iA β0 w N (wU as x) xs := Kh hx
 have hxl : (wU as x).length = xs.length := hargs.length
 have Vn : Sim C β0 ⟨Mk (wU as x) fn.ntmps, []⟩ { tmps := xs.toArray ++ Array.replicate (fn.ntmps - xs.toArray.size) undef, defers := [] } w := by
  refine ⟨⟨by simp, fun _ _ => rfl, by simp, by simp, hN, Keep.refl _ _, Nat.le_refl _, rfl, rfl, rfl, fun j o hj => by cases hj⟩, rfl, by simp [Mk, hxl], ?_⟩
  intro i u hu
  simp only [Mk] at hu
  by_cases hi : i < (wU as x).length
  ·rw [List.getElem?_append_left hi] at hu
   have hi' : i < xs.length := by rw [<- hxl]; exact hi
   have hr := hargs.get i hi hi'
   rw [List.getElem?_eq_getElem hi] at hu
   simp only [Option.some.injEq] at hu
   subst hu
   have : (xs.toArray ++ Array.replicate (fn.ntmps - xs.toArray.size) undef).getD i undef = xs[i] := by
    rw [Array.getD_eq_getD_getElem?, Array.getElem?_append_left (by simpa using hi')]
    simp [hi']
   rw [this]
   refine hr.mono (Moves.refl β0) (Keep.refl _ w) (fun b j _ hb => ?_)
   rcases hb with hb | ⟨id, o, ho, _⟩
   ·exact hb
   ·simp at ho
  ·rw [List.getElem?_append_right (by omega), List.getElem?_replicate] at hu
   split at hu
   ·simp only [Option.some.injEq] at hu; subst hu; trivial
   ·cases hu
 refine calls_of_wp hf hb ?_
 refine zBs (P := P) hT hΓ hm c an ha (oK an) _ _ y hF C β0 _ w _ rfl (Nat.le_refl _) Vn ?_
 intro e x' σ' β' a' w' hs' hx' hk
 have fin : Wo T fn.results.toList rs σ' = some y -> x' = .ret ∨ x' = .normal -> bodyPost P fn (fun e w' => ∃ us : List Value, e = .returned (zN us) ∧ w'.os = w.os ∧ w'.tape = w.tape ∧ w'.output = w.output ∧ Keep (fun _ _ => False) w w' ∧ DensRel w' N rs y us) x' a' w' := by
  intro hk hx'
  unfold Wo at hk
  split at hk
  ·rename_i cc ss hrs
   split at hk
   ·rename_i y' hd
    obtain ⟨rfl, hk⟩ := mV hk
    obtain rfl := Option.some.inj hk
    obtain ⟨us, h1, h2⟩ := Pp (C := C) (β' := β0) (N' := N) (fn := fn) hT hs' (fun _ _ _ hb => hb) hrs
    have hkeep : Keep (fun _ _ => False) w w' := hs'.heap.frame
    have hR := Kj hd h2
    rcases hx' with rfl | rfl
    ·exact ⟨hs'.defers, _, h1, us, rfl, hs'.heap.os, hs'.heap.tape, hs'.heap.output, hkeep, hR⟩
    ·exact ⟨hs'.defers, _, h1, us, rfl, hs'.heap.os, hs'.heap.tape, hs'.heap.output, hkeep, hR⟩
   ·cases hk
  ·cases hk
 cases e with
 | normal => obtain rfl := hx'; exact fin hk (.inr rfl)
 | ret => obtain rfl := hx'; exact fin hk (.inl rfl)
 | exit i => simp [Wp] at hk
 | goto l => simp [Wp] at hk
 | pan t u => simp [Wp] at hk
def iD (as rs : List Ty) (F : bQ as -> Option (bQ rs)) : PE where
 R := bQ rs
 use := 1
 run vs h := match kL (aV Ty.flat rs) h as vs with
  | some (c, x) => some (c, F x)
  | none => none
 enc y _ h := (zGh (Wm rs y), h)
theorem Pq {C : Ctx} {β : Nat -> Pl} {h : List Ob} {w : World} {bor : Bool} {t : Ty} {v : V} {x : t.den} {u : Value} (hd : Dc bor h t v = some (true, x)) (hs : bG C β h w) (hr : v.Rel β w (C.N β h) u) :
  t.iC w (zGi bor (C.N β h)) x u := by
 unfold Dc at hd
 cases bor with
 | true =>
  simp only at hd ⊢
  split at hd
  ·rename_i c v' hv
   split at hd
   ·rename_i s hsum
    split at hd
    ·rename_i y hy
     simp only [Option.some.injEq, Prod.mk.injEq] at hd
     obtain ⟨rfl, rfl⟩ := hd
     obtain ⟨h1, _⟩ := V.jK (β' := β) (N' := fun _ _ => False) hv hs (fun _ _ _ h => h.elim) hr
     exact wV hy (V.Ug hsum h1)
    ·cases hd
   ·cases hd
  ·cases hd
 | false =>
  simp only at hd ⊢
  split at hd
  ·rename_i s hD hsum
   split at hd
   ·rename_i y hy
    simp only [Option.some.injEq, Prod.mk.injEq, true_and] at hd
    subst hd
    exact wV hy (V.Ug hsum hr)
   ·cases hd
  ·cases hd
theorem Kk {C : Ctx} {β : Nat -> Pl} {h : List Ob} {w : World} {bor : Bool} (hs : bG C β h w) : ∀ {ts : List Ty} {vs : List V} {x : bQ ts} {us : List Value}, kL bor h ts vs = some (true, x) -> iA β w (C.N β h) vs us ->
  DensRel w (zGi bor (C.N β h)) ts x us
 | [], [], _, [], _, _ => rfl
 | [t], [v], x, [u], hd, hr => ⟨u, rfl, Pq hd hs hr.1⟩
 | t :: s :: r, v :: vs, x, u :: us, hd, hr => by
  simp only [kL] at hd
  split at hd
  ·rename_i c y d z h1 h2
   simp only [Option.some.injEq, Prod.mk.injEq, Bool.and_eq_true] at hd
   obtain ⟨⟨rfl, rfl⟩, rfl⟩ := hd
   exact ⟨u, us, rfl, Pq h1 hs hr.1, Kk hs h2 hr.2⟩
  ·cases hd
 | [], [], _, _ :: _, _, hr => hr.elim
 | [], _ :: _, _, _, h, _ => by simp [kL] at h
 | [t], [], _, _, h, _ => by simp [kL] at h
 | [t], [s], _, [], _, hr => hr.elim
 | [t], [s], _, _ :: _ :: _, _, hr => hr.2.elim
 | [t], _ :: _ :: _, _, _, h, _ => by simp [kL] at h
 | t :: u :: r, [], _, _, h, _ => by simp [kL] at h
 | t :: u :: r, s :: ss, _, [], _, hr => hr.elim
theorem Pv {h : List Ob} : ∀ {l : L}, l.isD = true -> l.deep h = some (true, l)
 | .val .., _ => rfl
 | .gI, _ => rfl
 | .aS, _ => rfl
 | .dX .., _ => rfl
 | .clo f [], _ => rfl
 | .clo f (_ :: _), h => by cases h
 | .ptr .., h => by cases h
 | .eY .., h => by cases h
 | .bW .., h => by cases h
 | .sl .., h => by cases h
 | .own .., h => by cases h
 | .bad _, h => by cases h
 | .bM .., h => by cases h
theorem Kl {h : List Ob} : ∀ {ls : List L}, aV L.isD ls = true -> wT h ls = some (true, ls)
 | [], _ => rfl
 | l :: ls, hd => by
  simp only [aV, Bool.and_eq_true] at hd
  simp only [wT, Pv hd.1, Kl hd.2, Bool.and_self]
theorem Pw {bor : Bool} {t : Ty} {v : V} (hd : v.isD = true) (h h2 : List Ob) : Dc bor h t v = Dc bor h2 t v := by
 cases bor with
 | false => rfl
 | true =>
  unfold Dc
  cases v with
  | one l => simp only [V.deep, Pv (show l.isD = true from hd)]
  | agg ls => simp only [V.deep, Kl (show aV L.isD ls = true from hd)]
  | _ => rfl
theorem Km {bor : Bool} : ∀ {ts : List Ty} {vs : List V} (_ : aV V.isD vs = true) (h h2 : List Ob), kL bor h ts vs = kL bor h2 ts vs
 | [], [], _, _, _ => rfl
 | [t], [v], hd, h, h2 => by
  simp only [aV, Bool.and_true] at hd
  simp only [kL, Pw hd h h2]
 | t :: s :: r, v :: vs, hd, h, h2 => by
  simp only [aV, Bool.and_eq_true] at hd
  simp only [kL, Pw hd.1 h h2, Km (ts := s :: r) hd.2 h h2]
 | [], _ :: _, _, _, _ => rfl
 | [t], [], _, _, _ => rfl
 | [t], _ :: _ :: _, _, _, _ => rfl
 | t :: s :: r, [], _, _, _ => rfl
theorem zBu {β : Nat -> Pl} {w : World} {N : Nat -> Nat -> Prop} {ss : List (Sum L (List L))} {us : List Value} (h : aJ (dO β w N) ss us) : (zGh ss).Rel β w N (zN us) := by
 match ss, us, h with
 | [], [], _ => exact ⟨[], rfl, trivial⟩
 | [.inl l], [u], h => exact h.1
 | [.inr ls], [u], h => exact h.1
 | s :: t :: ss, u :: v :: us, h => cases s <;> exact ⟨_, rfl, h⟩
theorem dG {f : FuncId} {as rs : List Ty} {F : bQ as -> Option (bQ rs)} (h : Pure P f as rs F) : (iD as rs F).OK P f := by
 refine ⟨h.1, fun vs hp y hr C β w xs hP hs ha => ?_, fun _ vs h1 h2 hd => ⟨by simp only [iD]; rw [Km hd h1 h2], fun _ => rfl⟩, fun _ _ _ _ => rfl⟩
 subst hP
 simp only [iD] at hr
 split at hr
 ·rename_i c x hd
  simp only [Option.some.injEq, Prod.mk.injEq] at hr
  obtain ⟨rfl, hF⟩ := hr
  have hx := Kk hs hd ha
  have hn : ∀ b j, C.N β hp b j -> b < w.heap.size := fun b j hb => by
   rcases hb with hb | ⟨id, o, ho, _, hbk⟩
   ·exact Nat.lt_of_lt_of_le (hs.n0 b j hb) hs.size
   ·exact (hs.fQ id o b ho ⟨j, hbk⟩).2.1
  refine (h.2 x y hF w _ xs (C.glob w hs.frame) (fun b j hb => ?_) hx).mono ?_
  ·cases hfl : aV Ty.flat rs with
   | true => rw [hfl] at hb; exact hb.elim
   | false => rw [hfl] at hb; exact hn b j hb
  ·rintro e w' ⟨us, rfl, ho, ht, hop, hk, hy⟩
   have hy' : DensRel w' (C.N β hp) rs y us := by
    cases hfl : aV Ty.flat rs with
    | true => exact hy.flat hfl
    | false => rw [hfl] at hy; exact hy
   refine ⟨_, _, β, ⟨rfl, rfl⟩, Moves.refl β, hk.weaken fun _ _ h => h.elim, fun _ _ _ h => h, ?_, _, rfl, zBu (Ki hy')⟩
   refine ⟨fun id o hob => (hs.obj id o hob).mono (Moves.refl β) (hk.weaken fun _ _ h => h.elim) (fun _ _ _ h => h) fun b hb => hk.block b (hs.fQ id o b hob hb).2.1 (fun _ h => h), hs.dead, hs.jY, ?_, hs.n0, hs.frame.yS hk fun _ _ _ h => h.elim, Nat.le_trans hs.size hk.size, ho.trans hs.os, ht.trans hs.tape, hop.trans hs.output, hs.fixed⟩
   ·intro id o b hob hb
    obtain ⟨k1, k2, k3⟩ := hs.fQ id o b hob hb
    exact ⟨k1, Nat.lt_of_lt_of_le k2 hk.size, k3⟩
 ·cases hr
def pes : List (FuncId × PE) -> FuncId -> Option PE
 | [], _ => none
 | (g, e) :: r, f => match Nat.beq g f with
  | true => some e
  | false => pes r f
def orc (ρ : Type) (l : List (FuncId × PE)) : Orc ρ := ⟨pes l, fun _ _ _ _ => none⟩
theorem zGj {ρ : Type} : ∀ {l : List (FuncId × PE)}, (∀ p ∈ l, p.2.OK P p.1) -> eD P (orc ρ l) := by
 intro l h
 refine ⟨fun f e he => ?_, fun _ _ _ _ _ h => by cases h⟩
 simp only [orc] at he
 induction l with
 | nil => cases he
 | cons p r ih =>
  obtain ⟨g, e'⟩ := p
  simp only [pes] at he
  split at he
  ·rename_i hb
   have := Nat.eq_of_beq_eq_true hb
   subst this
   simp only [Option.some.injEq] at he
   subst he
   exact h _ (.head _)
  ·exact ih (fun p hp => h p (.tail _ hp)) he
theorem all_nil {Q : FuncId × PE -> Prop} : ∀ p ∈ ([] : List (FuncId × PE)), Q p := fun _ h => by cases h
theorem all_cons {Q : FuncId × PE -> Prop} {p : FuncId × PE} {l : List (FuncId × PE)} (h : Q p) (hl : ∀ q ∈ l, Q q) : ∀ q ∈ p :: l, Q q := fun q hq => by
 cases hq with
 | head => exact h
 | tail _ hq => exact hl q hq
end
end Go.Dec
namespace Go.Dec
mutual
def L.back (f v : Nat -> Nat) : L -> L
 | .ptr id o => .ptr (f id) o
 | .bM id o => .bM (f id) o
 | .eY id o es i sub => .eY (f id) o es i sub
 | .bW id u i o => .bW (f id) (u + v id) i o
 | .sl id u i n => .sl (f id) (u + v id) i n
 | .own id u => .own (f id) (u + v id)
 | .clo g caps => .clo g (L.backs f v caps)
 | .mp id => .mp (f id)
 | l => l
def L.backs (f v : Nat -> Nat) : List L -> List L
 | [] => []
 | l :: ls => l.back f v :: L.backs f v ls
end
def V.back (f v : Nat -> Nat) : V -> V
 | .one l => .one (l.back f v)
 | .agg ls => .agg (L.backs f v ls)
 | _ => .aN
def Ob.back (f v : Nat -> Nat) (id : Nat) : Ob -> Ob
 | .box e ls => .box e (L.backs f v ls)
 | .arr e t u rows wr => .arr e t (u + v id) rows wr
 | .fm tab => .fm tab
section
variable {β β' : Nat -> Pl} {w : World} {N N' : Nat -> Nat -> Prop}
structure Df (p q : Pl) (v : Nat) : Prop where
 live : q.live = p.live
 box : q.box = p.box
 blk : q.blk = p.blk
 row : p.box = false -> q.ver = p.ver + v ∧ q.size = p.size ∧ q.cap = p.cap ∧ q.len = p.len
theorem Df.zDh {p q : Pl} {v : Nat} (h : Df p q v) (hb : p.box = false) {off len : Nat} {c : Value} : bP q off len c <-> bP p off len c := by
 obtain ⟨_, h2, h3, _⟩ := h.row hb
 unfold bP
 rw [h.blk, h2, h3]
mutual
theorem L.Rel.back {f v : Nat -> Nat} (hβ : ∀ j, (β j).live = true -> Df (β j) (β' (f j)) (v j)) (hN : ∀ b j, b < w.heap.size -> N' b j -> N b j) : ∀ {l : L} {cs : List Value}, l.Rel β w N cs -> (l.back f v).Rel β' w N' cs
 | .val t x, cs, h => by simp only [L.back, L.Rel] at *; exact Ty.Rel.mono (Keep.refl _ w) hN h
 | .ptr id off, cs, h => by
  simp only [L.back, L.Rel] at *
  obtain ⟨h1, h2, h3⟩ := h
  have := hβ id h1
  exact ⟨this.live ▸ h1, this.box ▸ h2, by rw [this.blk]; exact h3⟩
 | .eY id off es i sub, cs, h => by
  simp only [L.back, L.Rel] at *
  obtain ⟨h1, h2, h3⟩ := h
  have := hβ id h1
  exact ⟨this.live ▸ h1, this.box ▸ h2, by rw [this.blk]; exact h3⟩
 | .gI, cs, h => by simp only [L.back, L.Rel] at *; exact h
 | .bM id off, cs, h => by
  simp only [L.back, L.Rel] at *
  obtain ⟨c, e, h⟩ := h
  refine ⟨c, e, ?_⟩
  rcases h with h | ⟨h1, h2, h3⟩
  ·exact .inl h
  ·have := hβ id h1
   exact .inr ⟨this.live ▸ h1, this.box ▸ h2, by rw [this.blk]; exact h3⟩
 | .bW id u i off, cs, h => by
  simp only [L.back, L.Rel] at *
  obtain ⟨h1, h2, h3, c, h4, h5, h6⟩ := h
  have := hβ id h1
  obtain ⟨g1, g2, g3, g4⟩ := this.row h2
  refine ⟨this.live ▸ h1, this.box ▸ h2, by omega, c, h4, h5, fun hv => ?_⟩
  rw [this.blk, g2]
  exact h6 (by omega)
 | .dX t x off, cs, h => by simp only [L.back, L.Rel] at *; obtain ⟨c, hc, hr⟩ := h; exact ⟨c, hc, hr.mono (Keep.refl _ w) hN⟩
 | .sl id u off len, cs, h => by
  simp only [L.back, L.Rel] at *
  obtain ⟨h1, h2, h3, c, h4, h5, h6⟩ := h
  have := hβ id h1
  obtain ⟨g1, g2, g3, g4⟩ := this.row h2
  exact ⟨this.live ▸ h1, this.box ▸ h2, by omega, c, h4, h5, fun hv => (this.zDh h2).2 (h6 (by omega))⟩
 | .own id u, cs, h => by
  simp only [L.back, L.Rel] at *
  obtain ⟨h1, h2, h3, c, h4, h5, h6⟩ := h
  have := hβ id h1
  obtain ⟨g1, g2, g3, g4⟩ := this.row h2
  exact ⟨this.live ▸ h1, this.box ▸ h2, by omega, c, h4, h5, fun hv => by rw [g4]; exact (this.zDh h2).2 (h6 (by omega))⟩
 | .aS, cs, h => by simp only [L.back, L.Rel] at *; exact h
 | .clo g caps, cs, h => by
  simp only [L.back, L.Rel] at *
  obtain ⟨us, hc, hr⟩ := h
  exact ⟨us, hc, L.aU.back hβ hN hr⟩
 | .bad n, cs, h => by simp only [L.back, L.Rel] at *; exact h
 | .oZ x tab, cs, h => by simp only [L.back, L.Rel] at *; exact h
 | .mp id, cs, h => by
  simp only [L.back, L.Rel] at *
  obtain ⟨h1, h2, h3⟩ := h
  have := hβ id h1
  exact ⟨this.live ▸ h1, this.box ▸ h2, by rw [this.blk]; exact h3⟩
theorem L.aU.back {f v : Nat -> Nat} (hβ : ∀ j, (β j).live = true -> Df (β j) (β' (f j)) (v j)) (hN : ∀ b j, b < w.heap.size -> N' b j -> N b j) : ∀ {ls : List L} {us : List Value}, L.aU β w N ls us -> L.aU β' w N' (L.backs f v ls) us
 | [], us, h => by simp only [L.backs, L.aU] at *; exact h
 | l :: ls, us, h => by
  simp only [L.backs, L.aU] at *
  obtain ⟨u, r, e, h1, h2⟩ := h
  exact ⟨u, r, e, L.Rel.back hβ hN h1, L.aU.back hβ hN h2⟩
end
theorem aC.back {f v : Nat -> Nat} (hβ : ∀ j, (β j).live = true -> Df (β j) (β' (f j)) (v j)) (hN : ∀ b j, b < w.heap.size -> N' b j -> N b j) : ∀ {ls : List L} {cs : List Value}, aC β w N ls cs -> aC β' w N' (L.backs f v ls) cs
 | [], _, h => h
 | _l :: _ls, _, ⟨c1, c2, e, h1, h2⟩ => ⟨c1, c2, e, h1.back hβ hN, aC.back hβ hN h2⟩
theorem V.Rel.back {f v : Nat -> Nat} (hβ : ∀ j, (β j).live = true -> Df (β j) (β' (f j)) (v j)) (hN : ∀ b j, b < w.heap.size -> N' b j -> N b j) {x : V} {u : Value} (h : x.Rel β w N u) : (x.back f v).Rel β' w N' u := by
 cases x with
 | one l => exact L.Rel.back hβ hN h
 | agg ls => obtain ⟨cs, e, h⟩ := h; exact ⟨cs, e, h.back hβ hN⟩
 | _ => trivial
theorem Ob.Rel.back {f v : Nat -> Nat} (hβ : ∀ j, (β j).live = true -> Df (β j) (β' (f j)) (v j)) (hN : ∀ b j, b < w.heap.size -> N' b j -> N b j) {id : Nat} {o : Ob} (h : o.Rel β w N (β id)) : (o.back f v id).Rel β' w N' (β' (f id)) := by
 cases o with
 | box e ls =>
  simp only [Ob.back, Ob.Rel] at *
  obtain ⟨h1, h2, b, cs, h3, h4, h5⟩ := h
  have := hβ id h1
  exact ⟨this.live ▸ h1, this.box ▸ h2, b, cs, this.blk ▸ h3, h4.back hβ hN, h5⟩
 | arr e t u rows wr =>
  simp only [Ob.back, Ob.Rel] at *
  obtain ⟨h1, h2, h3, h4, h5, h6, h7⟩ := h
  have := hβ id h1
  obtain ⟨g1, g2, g3, g4⟩ := this.row h2
  refine ⟨this.live ▸ h1, this.box ▸ h2, by omega, by rw [g2, h4], h5, by rw [g4, h6], ?_⟩
  rw [this.blk, g3]
  rcases h7 with h7 | ⟨b, cur, css, k1, k2, k3, k4⟩
  ·exact .inl h7
  ·exact .inr ⟨b, cur, css, k1, k2, k3.mono fun _ _ h => h.mono (Keep.refl _ w) hN, k4⟩
 | fm tab =>
  simp only [Ob.back, Ob.Rel] at *
  obtain ⟨h1, h2, b, es, n, h3, h4⟩ := h
  have := hβ id h1
  exact ⟨this.live ▸ h1, this.box ▸ h2, b, es, n, this.blk ▸ h3, h4⟩
end
end Go.Dec
