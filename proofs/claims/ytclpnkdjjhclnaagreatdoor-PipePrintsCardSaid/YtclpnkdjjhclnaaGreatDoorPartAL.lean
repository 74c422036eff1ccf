/- Part of a proof over this seat: a library of my own, and what it says of this seat. No statement is proved here. -/
import Derived.Test.YtclpnkdjjhclnaaGreatDoorPartAK
namespace Go.Dec
section
variable {T : Tab} {C : Ctx} {β β' : Nat -> Pl} {w : World}
theorem L.wJ {N N' : Nat -> Nat -> Prop} (hN : ∀ b j, b < w.heap.size -> N' b j -> N b j) : ∀ {l : L} {cs : List Value}, l.isD = true -> l.Rel β w N cs -> l.Rel β' w N' cs
 | .val t x, cs, _, h => by simp only [L.Rel] at *; exact h.mono (Keep.refl _ w) hN
 | .iJ, cs, _, h => by simp only [L.Rel] at *; exact h
 | .bJ, cs, _, h => by simp only [L.Rel] at *; exact h
 | .fH t x off, cs, _, h => by simp only [L.Rel] at *; obtain ⟨c, hc, hr⟩ := h; exact ⟨c, hc, hr.mono (Keep.refl _ w) hN⟩
 | .clo f [], cs, _, h => by simp only [L.Rel, L.aX] at *; exact h
 | .clo f (_ :: _), _, hd, _ => by simp [L.isD] at hd
 | .ptr .., _, hd, _ => by simp [L.isD] at hd
 | .gH .., _, hd, _ => by simp [L.isD] at hd
 | .bZ .., _, hd, _ => by simp [L.isD] at hd
 | .sl .., _, hd, _ => by simp [L.isD] at hd
 | .own .., _, hd, _ => by simp [L.isD] at hd
 | .bad _, _, hd, _ => by simp [L.isD] at hd
 | .bQ .., _, hd, _ => by simp [L.isD] at hd
theorem aC.isD {N N' : Nat -> Nat -> Prop} (hN : ∀ b j, b < w.heap.size -> N' b j -> N b j) : ∀ {ls : List L} {cs : List Value}, aW L.isD ls = true -> aC β w N ls cs -> aC β' w N' ls cs
 | [], _, _, h => h
 | l :: ls, _, hd, ⟨c1, c2, e, h1, h2⟩ => by
  simp only [aW, Bool.and_eq_true] at hd
  exact ⟨c1, c2, e, L.wJ hN hd.1 h1, aC.isD hN hd.2 h2⟩
theorem Kn {N N' : Nat -> Nat -> Prop} (hN : ∀ b j, b < w.heap.size -> N' b j -> N b j) : ∀ {vs : List (Sum L (List L))} {us : List Value}, aW Wx vs = true -> aI (dW β w N) vs us -> aI (dW β' w N') vs us
 | [], [], _, _ => trivial
 | .inl l :: vs, u :: us, hd, hr => by
  simp only [aW, Bool.and_eq_true] at hd
  exact ⟨L.wJ hN hd.1 hr.1, Kn hN hd.2 hr.2⟩
 | .inr ls :: vs, u :: us, hd, hr => by
  simp only [aW, Bool.and_eq_true] at hd
  obtain ⟨⟨cs, e, h⟩, h2⟩ := hr
  exact ⟨⟨cs, e, h.isD hN hd.1⟩, Kn hN hd.2 h2⟩
 | [], _ :: _, _, h => h.elim
 | .inl _ :: _, [], _, h => h.elim
 | .inr _ :: _, [], _, h => h.elim
theorem V.wJ {N N' : Nat -> Nat -> Prop} (hN : ∀ b j, b < w.heap.size -> N' b j -> N b j) {v : V} {x : Value} (hd : v.isD = true) (h : v.Rel β w N x) : v.Rel β' w N' x := by
 cases v with
 | one l => exact L.wJ hN hd h
 | agg ls => obtain ⟨cs, e, hr⟩ := h; exact ⟨cs, e, hr.isD hN hd⟩
 | tup vs =>
  obtain ⟨us, e, hr⟩ := h
  exact ⟨us, e, Kn hN hd hr⟩
 | aQ => cases hd
theorem Qt {h : List Ob} {e : TypeId} {t : Ty} {ver id off len : Nat} {rows : List t.den} {wr : Bool} {c : Value} {N' : Nat -> Nat -> Prop} (hh : bH C β h w) (ho : h[id]? = some (.arr e t ver rows wr)) (hsl : bR (β id) off len c) (hle : off + len <= rows.length)
  (hN : ∀ b j, b < w.heap.size -> N' b j -> C.N0 b j) : (Ty.slice t).Rel w N' ((rows.drop off).take len) [c] := by
 have hob := hh.obj _ _ ho
 simp only [Ob.Rel] at hob
 obtain ⟨_, _, hpv, hpz, hpos, hpl, hob⟩ := hob
 simp only [Ty.Rel]
 refine ⟨c, rfl, ?_⟩
 unfold bR at hsl
 rcases hob with ⟨hnb, hr0, _⟩ | ⟨b, cur, css, hb, hheap, hall, htake, hcap, hrc, hm⟩
 ·rw [hnb] at hsl
  subst hr0
  exact .inl ⟨hsl.1, by simp⟩
 ·rw [hb] at hsl
  obtain ⟨h1, o, rfl, h3⟩ := hsl
  obtain ⟨hf1, hf2, _⟩ := hh.fresh _ _ _ ho hb
  have hlen : ((rows.drop off).take len).length = len := by simp; omega
  have hl := eP hall
  have hcs := (Cells.of_heap hheap).take (rows.length * t.size)
  rw [htake] at hcs
  have hcs2 := (hcs.drop (off * t.size)).take (len * t.size)
  rw [eO css hl off, iA _ (fun c hc => hl c (List.mem_of_mem_drop hc)) len, Nat.zero_add] at hcs2
  have hN0 : ∀ b j, b < w.heap.size -> N' b j -> C.N β h b j := fun b j hb hn => .inl (hN b j hb hn)
  have Ou : aI (fun x c => t.Rel w N' x c) ((rows.drop off).take len) ((css.drop off).take len) := ((hall.drop off).take len).mono fun _ _ h => h.mono (Keep.refl _ w) hN0
  refine .inr (.inl ⟨b, o, _, (css.drop off).take len, by rw [hlen], hf2, fun j _ _ hn => hf1 j (hN b j hf2 hn), by omega, by omega, Ou, fun c hc => hl c (List.mem_of_mem_drop (List.mem_of_mem_take hc)), ?_⟩)
  rcases h3 with h3 | ⟨h3, _⟩
  ·rw [h3, hpz]; exact hcs2
  ·have hl0 : len = 0 := by omega
   subst hl0
   simpa using Cells.nil
theorem L.kQ {h : List Ob} {l l' : L} {cs : List Value} {N' : Nat -> Nat -> Prop} (hd : l.deep h = some (true, l')) (hh : bH C β h w) (hN : ∀ b j, b < w.heap.size -> N' b j -> C.N0 b j) (hr : l.Rel β w (C.N β h) cs) : l'.Rel β' w N' cs ∧ l'.isD = true := by
 have hN0 : ∀ b j, b < w.heap.size -> N' b j -> C.N β h b j := fun b j hb hn => .inl (hN b j hb hn)
 have plain : l.isD = true -> l' = l -> l'.Rel β' w N' cs ∧ l'.isD = true := fun h1 h2 => by subst h2; exact ⟨L.wJ hN0 h1 hr, h1⟩
 cases l with
 | val t x => simp only [L.deep, Option.some.injEq, Prod.mk.injEq, true_and] at hd; exact plain rfl hd.symm
 | iJ => simp only [L.deep, Option.some.injEq, Prod.mk.injEq, true_and] at hd; exact plain rfl hd.symm
 | bJ => simp only [L.deep, Option.some.injEq, Prod.mk.injEq, true_and] at hd; exact plain rfl hd.symm
 | fH t x off => simp only [L.deep, Option.some.injEq, Prod.mk.injEq, true_and] at hd; exact plain rfl hd.symm
 | clo f cs =>
  cases cs with
  | nil => simp only [L.deep, Option.some.injEq, Prod.mk.injEq, true_and] at hd; exact plain rfl hd.symm
  | cons _ _ => simp [L.deep] at hd
 | own id ver =>
  simp only [L.deep] at hd
  split at hd
  ·rename_i e t v rows wr ho
   simp only [Option.some.injEq, Prod.mk.injEq] at hd
   obtain ⟨hv, rfl⟩ := hd
   have hv := Nat.eq_of_beq_eq_true hv
   have hob := hh.obj _ _ ho
   simp only [Ob.Rel] at hob
   obtain ⟨_, _, hpv, _, _, hpl, _⟩ := hob
   simp only [L.Rel] at hr
   obtain ⟨_, _, _, c, rfl, _, himp⟩ := hr
   have hsl := himp (by rw [hpv, hv])
   rw [hpl] at hsl
   have := Qt hh ho hsl (by omega) hN
   rw [List.drop_zero, List.take_length] at this
   exact ⟨by simpa only [L.Rel] using this, rfl⟩
  ·cases hd
 | sl id ver off len =>
  simp only [L.deep] at hd
  split at hd
  ·rename_i e t v rows wr ho
   simp only [Option.some.injEq, Prod.mk.injEq, Bool.and_eq_true] at hd
   obtain ⟨⟨hv, hle⟩, rfl⟩ := hd
   have hv := Nat.eq_of_beq_eq_true hv
   have hob := hh.obj _ _ ho
   simp only [Ob.Rel] at hob
   obtain ⟨_, _, hpv, _, _, hpl, _⟩ := hob
   simp only [L.Rel] at hr
   obtain ⟨_, _, _, c, rfl, _, himp⟩ := hr
   exact ⟨by simpa only [L.Rel] using Qt hh ho (himp (by rw [hpv, hv])) (Nat.le_of_ble_eq_true hle) hN, rfl⟩
  ·cases hd
 | _ => simp [L.deep] at hd
theorem Mq {h : List Ob} {N' : Nat -> Nat -> Prop} (hh : bH C β h w) (hN : ∀ b j, b < w.heap.size -> N' b j -> C.N0 b j) : ∀ {ls ls' : List L} {cs : List Value}, xQ h ls = some (true, ls') -> aC β w (C.N β h) ls cs -> aC β' w N' ls' cs ∧ aW L.isD ls' = true
 | [], ls', cs, hd, hr => by
  simp only [xQ, Option.some.injEq, Prod.mk.injEq, true_and] at hd
  subst hd
  exact ⟨hr, rfl⟩
 | l :: ls, ls', cs, hd, hr => by
  simp only [xQ] at hd
  split at hd
  ·rename_i c x d r h1 h2
   simp only [Option.some.injEq, Prod.mk.injEq, Bool.and_eq_true] at hd
   obtain ⟨⟨rfl, rfl⟩, rfl⟩ := hd
   obtain ⟨c1, c2, e, r1, r2⟩ := hr
   obtain ⟨g1, g2⟩ := L.kQ (β' := β') h1 hh hN r1
   obtain ⟨g3, g4⟩ := Mq hh hN h2 r2
   exact ⟨⟨c1, c2, e, g1, g3⟩, by simp only [aW, g2, g4, Bool.and_self]⟩
  ·cases hd
theorem V.kQ {h : List Ob} {v v' : V} {x : Value} {N' : Nat -> Nat -> Prop} (hd : v.deep h = some (true, v')) (hh : bH C β h w) (hN : ∀ b j, b < w.heap.size -> N' b j -> C.N0 b j) (hr : v.Rel β w (C.N β h) x) : v'.Rel β' w N' x ∧ v'.isD = true := by
 cases v with
 | one l =>
  simp only [V.deep] at hd
  split at hd
  ·rename_i c y h1
   simp only [Option.some.injEq, Prod.mk.injEq] at hd
   obtain ⟨rfl, rfl⟩ := hd
   exact L.kQ h1 hh hN hr
  ·cases hd
 | agg ls =>
  simp only [V.deep] at hd
  split at hd
  ·rename_i c y h1
   simp only [Option.some.injEq, Prod.mk.injEq] at hd
   obtain ⟨rfl, rfl⟩ := hd
   obtain ⟨cs, e, hr⟩ := hr
   obtain ⟨g1, g2⟩ := Mq (β' := β') hh hN h1 hr
   exact ⟨⟨cs, e, g1⟩, g2⟩
  ·cases hd
 | _ => simp [V.deep] at hd
theorem vR {P : Program} {t : TypeId} {x y : Value} (h : (Instr.loadAt t x).run P w = .ok y w) : ∃ a, x = .pointer (some a) ∧ (loadVar t a).run P w = .ok y w := by
 cases x <;> simp only [Instr.loadAt, Instr.sureAddr, Sem.run_bind, run_stuck, Result.andThen, reduceCtorEq] at h
 rename_i a
 cases a with
 | none => simp only [run_stuck, reduceCtorEq] at h
 | some a => exact ⟨a, rfl, by simpa only [Instr.loadAt, Instr.sureAddr, Sem.run_bind, Sem.run_pure, Result.andThen_ok] using h⟩
def jN (tmps : Array Value) : ResultVar -> Sem Value
 | .tmp t => pure (tmps.getD t undef)
 | .cell a t => do loadVar t (<- asAddr (tmps.getD a undef))
theorem xR {σ : St} {a : Act} (hs : Sim C β σ a w) (t : Nat) : (σ.r.getD t .aQ).Rel β w (C.N β σ.h) (a.tmps.getD t undef) := aJ hs (.tmp t)
theorem zDa {σ : St} {a : Act} {rv : ResultVar} {s : Sum L (List L)} {N' : Nat -> Nat -> Prop} (hT : aS C.P T) (hs : Sim C β σ a w) (hN : ∀ b j, b < w.heap.size -> N' b j -> C.N0 b j) (h : Xl T σ rv = some (true, s)) :
  ∃ x, (jN a.tmps rv).run C.P w = .ok x w ∧ dW β' w N' s x ∧ Wx s = true := by
 cases rv with
 | tmp t =>
  simp only [Xl] at h
  have hr := xR hs t
  refine ⟨a.tmps.getD t undef, rfl, ?_⟩
  split at h
  ·rename_i c l hd
   simp only [Option.some.injEq, Prod.mk.injEq] at h
   obtain ⟨rfl, rfl⟩ := h
   exact V.kQ (β' := β') hd hs.heap hN hr
  ·rename_i c ls hd
   simp only [Option.some.injEq, Prod.mk.injEq] at h
   obtain ⟨rfl, rfl⟩ := h
   exact V.kQ (β' := β') hd hs.heap hN hr
  ·cases h
 | cell t ty =>
  simp only [Xl] at h
  have hr := xR hs t
  split at h
  ·rename_i l hl
   rw [hl] at hr
   split at h
   ·rename_i c v hv
    split at h
    ·rename_i d l2 hd
     simp only [Option.some.injEq, Prod.mk.injEq, Bool.and_eq_true] at h
     obtain ⟨⟨rfl, rfl⟩, rfl⟩ := h
     obtain ⟨y, h1, h2⟩ := rJ hT hv hs.heap hr
     obtain ⟨ad, h3, h4⟩ := vR h1
     refine ⟨y, ?_, V.kQ (β' := β') hd hs.heap hN h2⟩
     simp only [jN, h3, asAddr, Sem.run_bind, Sem.run_pure, Result.andThen_ok, h4]
    ·rename_i d ls2 hd
     simp only [Option.some.injEq, Prod.mk.injEq, Bool.and_eq_true] at h
     obtain ⟨⟨rfl, rfl⟩, rfl⟩ := h
     obtain ⟨y, h1, h2⟩ := rJ hT hv hs.heap hr
     obtain ⟨ad, h3, h4⟩ := vR h1
     refine ⟨y, ?_, V.kQ (β' := β') hd hs.heap hN h2⟩
     simp only [jN, h3, asAddr, Sem.run_bind, Sem.run_pure, Result.andThen_ok, h4]
    ·cases h
   ·cases h
  ·cases h
theorem Mr {σ : St} {a : Act} {N' : Nat -> Nat -> Prop} (hT : aS C.P T) (hs : Sim C β σ a w) (hN : ∀ b j, b < w.heap.size -> N' b j -> C.N0 b j) : ∀ {rs : List ResultVar} {vs : List (Sum L (List L))}, Ch T σ rs = some (true, vs) ->
  ∀ acc : Array Value, ∃ us : List Value, (rs.foldlM (fun (acc : Array Value) rv => do let v <- jN a.tmps rv; pure (acc.push v)) acc).run C.P w = .ok (acc ++ us.toArray) w ∧ aI (dW β' w N') vs us ∧
   aW Wx vs = true
 | [], vs, h, acc => by
  simp only [Ch, Option.some.injEq, Prod.mk.injEq, true_and] at h
  subst h
  exact ⟨[], by simp, trivial, rfl⟩
 | rv :: rs, vs, h, acc => by
  simp only [Ch] at h
  split at h
  ·rename_i c s d r h1 h2
   simp only [Option.some.injEq, Prod.mk.injEq, Bool.and_eq_true] at h
   obtain ⟨⟨rfl, rfl⟩, rfl⟩ := h
   obtain ⟨x, g1, g2, g3⟩ := zDa (β' := β') hT hs hN h1
   obtain ⟨us, g4, g5, g6⟩ := Mr hT hs hN h2 (acc.push x)
   refine ⟨x :: us, ?_, ⟨g2, g5⟩, by simp only [aW, g6, Bool.and_true]; exact g3⟩
   simp only [List.foldlM_cons, Sem.run_bind, g1, Result.andThen_ok, Sem.run_pure, g4]
   simp
  ·cases h
end
def uY (vs : List V) (n : Nat) : List V := vs ++ List.replicate (n - vs.length) .aQ
end Go.Dec
namespace Go.Dec
@[reducible] def bV : List Ty -> Type
 | [] => Unit
 | [t] => t.den
 | t :: u :: r => t.den × bV (u :: r)
def jW : List Value -> Value
 | [u] => u
 | us => .tuple us.toArray
def zHh (bor : Bool) (N : Nat -> Nat -> Prop) : Nat -> Nat -> Prop :=
 match bor with
 | true => fun _ _ => False
 | false => N
def Ty.fT (w : World) (N : Nat -> Nat -> Prop) (t : Ty) (x : t.den) (u : Value) : Prop :=
 if t.isAgg then ∃ cs : List Value, u = .agg cs.toArray ∧ t.Rel w N x cs else t.Rel w N x [u]
def DensRel (w : World) (N : Nat -> Nat -> Prop) : (ts : List Ty) -> bV ts -> List Value -> Prop
 | [], _, us => us = []
 | [t], x, us => ∃ u, us = [u] ∧ t.fT w N x u
 | t :: s :: r, x, us => ∃ u us', us = u :: us' ∧ t.fT w N x.1 u ∧ DensRel w N (s :: r) x.2 us'
def vOf (t : Ty) (x : t.den) : V :=
 match t.isAgg with
 | true => .agg (explode t x)
 | false => .one (.val t x)
def sOf (t : Ty) (x : t.den) : Sum L (List L) :=
 match t.isAgg with
 | true => .inr (explode t x)
 | false => .inl (.val t x)
def xS : (ts : List Ty) -> bV ts -> List V
 | [], _ => []
 | [t], x => [vOf t x]
 | t :: s :: r, x => vOf t x.1 :: xS (s :: r) x.2
def Xm : (ts : List Ty) -> bV ts -> List (Sum L (List L))
 | [], _ => []
 | [t], x => [sOf t x]
 | t :: s :: r, x => sOf t x.1 :: Xm (s :: r) x.2
def Xn (t : Ty) (ls : List L) : Option t.den :=
 match bA t ls with
 | some (x, []) => some x
 | _ => none
def Ko (t : Ty) (s : Sum L (List L)) : Option t.den :=
 match t.isAgg, s with
 | true, .inr ls => Xn t ls
 | false, .inl l => l.asT t
 | _, _ => none
def uZ : (ts : List Ty) -> List (Sum L (List L)) -> Option (bV ts)
 | [], [] => some ()
 | [t], [s] => Ko t s
 | t :: u :: r, s :: ss =>
  match Ko t s, uZ (u :: r) ss with
  | some x, some y => some (x, y)
  | _, _ => none
 | _, _ => none
def V.sum : V -> Option (Sum L (List L))
 | .one l => some (.inl l)
 | .agg ls => some (.inr ls)
 | _ => none
def Ec (bor : Bool) (h : List Ob) (t : Ty) (v : V) : Option (Bool × t.den) :=
 match bor with
 | true =>
  match v.deep h with
  | some (c, u) =>
   match u.sum with
   | some s => match Ko t s with
    | some x => some (c, x)
    | none => none
   | none => none
  | none => none
 | false =>
  match v.isD, v.sum with
  | true, some s => match Ko t s with
   | some x => some (true, x)
   | none => none
  | _, _ => none
def mF (bor : Bool) (h : List Ob) : (ts : List Ty) -> List V -> Option (Bool × bV ts)
 | [], [] => some (true, ())
 | [t], [v] => Ec bor h t v
 | t :: u :: r, v :: vs =>
  match Ec bor h t v, mF bor h (u :: r) vs with
  | some (c, x), some (d, y) => some (c && d, (x, y))
  | _, _ => none
 | _, _ => none
def Ty.flat : Ty -> Bool
 | .pair a b => a.flat && b.flat
 | .arr _ a => a.flat
 | .slice _ => false
 | .opq => false
 | _ => true
section
variable {β : Nat -> Pl} {w : World} {N : Nat -> Nat -> Prop}
theorem Vh {t : Ty} {x : t.den} {u : Value} (h : t.fT w N x u) : (vOf t x).Rel β w N u := by
 unfold vOf
 unfold Ty.fT at h
 cases ha : t.isAgg with
 | true =>
  rw [ha, if_pos rfl] at h
  obtain ⟨cs, e, h⟩ := h
  exact ⟨cs, e, eB h⟩
 | false =>
  rw [ha, if_neg (by simp)] at h
  simp only [V.Rel, L.Rel]
  exact h
theorem Ms : ∀ {ts : List Ty} {x : bV ts} {us : List Value}, DensRel w N ts x us -> iM β w N (xS ts x) us
 | [], _, _, h => by simp only [DensRel] at h; subst h; trivial
 | [t], x, _, h => by obtain ⟨u, rfl, h⟩ := h; exact ⟨Vh h, trivial⟩
 | t :: s :: r, x, _, h => by
  obtain ⟨u, us, rfl, h, h2⟩ := h
  exact ⟨Vh h, Ms h2⟩
theorem Vi {t : Ty} {x : t.den} {u : Value} (h : t.fT w N x u) : dW β w N (sOf t x) u := by
 unfold sOf
 unfold Ty.fT at h
 cases ha : t.isAgg with
 | true =>
  rw [ha, if_pos rfl] at h
  obtain ⟨cs, e, h⟩ := h
  exact ⟨cs, e, eB h⟩
 | false =>
  rw [ha, if_neg (by simp)] at h
  simp only [dW, L.Rel]
  exact h
theorem Mt : ∀ {ts : List Ty} {x : bV ts} {us : List Value}, DensRel w N ts x us -> aI (dW β w N) (Xm ts x) us
 | [], _, _, h => by simp only [DensRel] at h; subst h; trivial
 | [t], x, _, h => by obtain ⟨u, rfl, h⟩ := h; exact ⟨Vi h, trivial⟩
 | t :: s :: r, x, _, h => by
  obtain ⟨u, us, rfl, h, h2⟩ := h
  exact ⟨Vi h, Mt h2⟩
theorem zAm {t : Ty} {ls : List L} {x : t.den} {cs : List Value} (h : Xn t ls = some x) (hr : aC β w N ls cs) : t.Rel w N x cs := by
 unfold Xn at h
 split at h
 ·rename_i y hi
  simp only [Option.some.injEq] at h
  subst h
  obtain ⟨c1, c2, e, h1, h2⟩ := jZ hi hr
  simp only [aC] at h2
  subst h2
  rw [List.append_nil] at e
  subst e
  exact h1
 ·cases h
theorem xU {t : Ty} {s : Sum L (List L)} {x : t.den} {u : Value} (h : Ko t s = some x) (hr : dW β w N s u) : t.fT w N x u := by
 unfold Ko at h
 unfold Ty.fT
 split at h
 ·rename_i ls ha
  rw [ha, if_pos rfl]
  obtain ⟨cs, e, hr⟩ := hr
  exact ⟨cs, e, zAm h hr⟩
 ·rename_i l ha
  rw [ha, if_neg (by simp)]
  exact L.Jy h hr
 ·cases h
theorem Mv : ∀ {ts : List Ty} {ss : List (Sum L (List L))} {x : bV ts} {us : List Value}, uZ ts ss = some x -> aI (dW β w N) ss us -> DensRel w N ts x us
 | [], [], _, [], _, _ => rfl
 | [t], [s], x, [u], h, hr => ⟨u, rfl, xU h hr.1⟩
 | t :: u :: r, s :: ss, x, v :: vs, h, hr => by
  simp only [uZ] at h
  split at h
  ·rename_i y z h1 h2
   simp only [Option.some.injEq] at h
   subst h
   exact ⟨v, vs, rfl, xU h1 hr.1, Mv h2 hr.2⟩
  ·cases h
 | [], [], _, _ :: _, _, hr => hr.elim
 | [], _ :: _, _, _, h, _ => by simp [uZ] at h
 | [t], [], _, _, h, _ => by simp [uZ] at h
 | [t], [s], _, [], _, hr => hr.elim
 | [t], [s], _, _ :: _ :: _, _, hr => hr.2.elim
 | [t], _ :: _ :: _, _, _, h, _ => by simp [uZ] at h
 | t :: u :: r, [], _, _, h, _ => by simp [uZ] at h
 | t :: u :: r, s :: ss, _, [], _, hr => hr.elim
theorem V.Kq {v : V} {s : Sum L (List L)} {u : Value} (h : v.sum = some s) (hr : v.Rel β w N u) : dW β w N s u := by
 cases v <;> simp only [V.sum, Option.some.injEq, reduceCtorEq] at h <;> subst h <;> exact hr
theorem Ty.fT.mono {w' : World} {N' : Nat -> Nat -> Prop} (hk : Keep N w w') (hN : ∀ b j, b < w.heap.size -> N' b j -> N b j) {t : Ty} {x : t.den} {u : Value} (h : t.fT w N x u) : t.fT w' N' x u := by
 unfold Ty.fT at *
 split
 ·rename_i ha
  rw [if_pos ha] at h
  obtain ⟨cs, e, h⟩ := h
  exact ⟨cs, e, h.mono hk hN⟩
 ·rename_i ha
  rw [if_neg ha] at h
  exact h.mono hk hN
theorem DensRel.mono {w' : World} {N' : Nat -> Nat -> Prop} (hk : Keep N w w') (hN : ∀ b j, b < w.heap.size -> N' b j -> N b j) : ∀ {ts : List Ty} {x : bV ts} {us : List Value}, DensRel w N ts x us -> DensRel w' N' ts x us
 | [], _, _, h => h
 | [t], x, _, h => by obtain ⟨u, e, h⟩ := h; exact ⟨u, e, h.mono hk hN⟩
 | t :: s :: r, x, _, h => by obtain ⟨u, us, e, h, h2⟩ := h; exact ⟨u, us, e, h.mono hk hN, h2.mono hk hN⟩
theorem Ty.Rel.flat {N' : Nat -> Nat -> Prop} {w' : World} : ∀ {t : Ty} {x : t.den} {cs : List Value}, t.flat = true -> t.Rel w N x cs -> t.Rel w' N' x cs
 | .unit, _, _, _, h => h
 | .bool, _, _, _, h => h
 | .int _, _, _, _, h => h
 | .str, _, _, _, h => h
 | .err, _, _, _, h => h
 | .opq, _, _, hf, _ => by cases hf
 | .slice _, _, _, hf, _ => by cases hf
 | .pair a b, _, _, hf, h => by
  simp only [Ty.flat, Bool.and_eq_true] at hf
  obtain ⟨c1, c2, e, h1, h2⟩ := h
  exact ⟨c1, c2, e, Ty.Rel.flat hf.1 h1, Ty.Rel.flat hf.2 h2⟩
 | .arr n a, _, _, hf, h => by
  simp only [Ty.flat] at hf
  obtain ⟨h0, css, e, h1⟩ := h
  exact ⟨h0, css, e, h1.mono fun x c hx => Ty.Rel.flat hf hx⟩
theorem Ty.fT.flat {N' : Nat -> Nat -> Prop} {w' : World} {t : Ty} {x : t.den} {u : Value} (hf : t.flat = true) (h : t.fT w N x u) : t.fT w' N' x u := by
 unfold Ty.fT at *
 split
 ·rename_i ha
  rw [if_pos ha] at h
  obtain ⟨cs, e, h⟩ := h
  exact ⟨cs, e, h.flat hf⟩
 ·rename_i ha
  rw [if_neg ha] at h
  exact h.flat hf
theorem DensRel.flat {N' : Nat -> Nat -> Prop} {w' : World} : ∀ {ts : List Ty} {x : bV ts} {us : List Value}, aW Ty.flat ts = true -> DensRel w N ts x us -> DensRel w' N' ts x us
 | [], _, _, _, h => h
 | [t], x, _, hf, h => by
  simp only [aW, Bool.and_true] at hf
  obtain ⟨u, e, h⟩ := h; exact ⟨u, e, h.flat hf⟩
 | t :: s :: r, x, _, hf, h => by
  simp only [aW, Bool.and_eq_true] at hf
  obtain ⟨u, us, e, h, h2⟩ := h
  exact ⟨u, us, e, h.flat hf.1, DensRel.flat (by simp only [aW, Bool.and_eq_true]; exact hf.2) h2⟩
end
def Pure (P : Program) (f : FuncId) (as rs : List Ty) (F : bV as -> Option (bV rs)) : Prop :=
 gF P f = true ∧ ∀ x y, F x = some y -> ∀ (w : World) (N : Nat -> Nat -> Prop) (xs : List Value), Glob P w -> (∀ b j, N b j -> b < w.heap.size) -> DensRel w N as x xs ->
  Calls P f xs.toArray w fun e w' => ∃ us : List Value, e = .returned (jW us) ∧ w'.os = w.os ∧ w'.tape = w.tape ∧ w'.output = w.output ∧ Keep (fun _ _ => False) w w' ∧ DensRel w' N rs y us
def Xo (T : Tab) (res : List ResultVar) (rs : List Ty) (σ : St) : Option (bV rs) :=
 match Ch T σ res with
 | some (c, vs) =>
  match uZ rs vs with
  | some y => chk c (some y)
  | none => none
 | none => none
def Xp (T : Tab) (res : List ResultVar) (rs : List Ty) : K (bV rs) := fun e σ =>
 match e with
 | .normal => Xo T res rs σ
 | .ret => Xo T res rs σ
 | _ => none
section
variable {T : Tab} {P : Program}
theorem Qu {C : Ctx} {β β' : Nat -> Pl} {w : World} {σ : St} {a : Act} {fn : Func} {vs : List (Sum L (List L))} {N' : Nat -> Nat -> Prop} (hT : aS C.P T) (hs : Sim C β σ a w) (hN : ∀ b j, b < w.heap.size -> N' b j -> C.N0 b j) (h : Ch T σ fn.results.toList = some (true, vs)) :
  ∃ us : List Value, (results fn a.tmps).run C.P w = .ok (jW us) w ∧ aI (dW β' w N') vs us := by
 obtain ⟨us, h1, h2, _⟩ := Mr (β' := β') hT hs hN h #[]
 refine ⟨us, ?_, h2⟩
 have e0 : results fn a.tmps = (do let vs <- fn.results.mapM (jN a.tmps); pure (if h : vs.size = 1 then vs[0] else .tuple vs)) := by
  unfold results
  congr 1
 have hm : (fn.results.mapM (jN a.tmps) : Sem (Array Value)).run C.P w = .ok us.toArray w := by
  rw [Array.mapM_eq_foldlM, <- Array.foldlM_toList]
  have e : (fun (acc : Array Value) rv => do let v <- jN a.tmps rv; pure (acc.push v) : Array Value -> ResultVar -> Sem (Array Value)) = (fun (acc : Array Value) rv => acc.push <$> jN a.tmps rv) := by
   funext acc rv
   rfl
  rw [e] at h1
  simpa using h1
 rw [e0]
 simp only [Sem.run_bind, hm, Result.andThen_ok, Sem.run_pure]
 match us with
 | [] => rfl
 | [u] => rfl
 | u :: v :: us => simp [jW]
theorem Af : ∀ cs : List Co, aW (Co.fx 0) cs = true
 | [] => rfl
 | c :: cs => by
  simp only [aW, Af cs, Bool.and_true]
  cases c <;> first | rfl | simp [Co.fx]
theorem qL {ρ : Type} : ∀ an : An ρ, an.fx 0 = true
 | .nil => rfl
 | .mk l r c => by simp only [An.fx, qL l, qL r, Af, Bool.and_self]
 | .loop _ c0 c1 _ a => by simp only [An.fx, qL a, Af, Bool.and_self]
 | .scope _ a b => by simp only [An.fx, qL a, qL b, Bool.and_self]
 | .sem _ => rfl
 | .co c a => by simp only [An.fx, qL a, Af, Bool.and_self]
 | .join _ c a => by simp only [An.fx, qL a, Af, Bool.and_self]
theorem nD {f : FuncId} {fn : Func} {c : Code} {as rs : List Ty} {F : bV as -> Option (bV rs)} {Γ : Orc (bV rs)} {an : An (bV rs)} (hf : P.funcs[f]? = some fn) (hb : fn.body = some c) (hh : gF P f = true) (hT : aS P T) (hΓ : fE P Γ) (hm : P.follows .mixedOrders = true) (ha : Qq P 0 c an)
  (h : ∀ x, ev Γ T c an ⟨uY (xS as x) fn.ntmps, []⟩ (Xp T fn.results.toList rs) = F x) : Pure P f as rs F := by
 refine ⟨hh, fun x y hF w N xs hG hN hx => ?_⟩
 rw [<- h x] at hF
 let C : Ctx := { P := P, N0 := N, w0 := w, sZ := fun _ _ => False, glob := fun w' h => hG.keep fun b hb => h.block b hb (fun _ h => h), fix := [] }
 let β0 : Nat -> Pl := fun _ => ⟨false, false, 0, none, 0, 0, 0, []⟩
 have hargs : iM β0 w N (xS as x) xs := Ms hx
 have hxl : (xS as x).length = xs.length := hargs.length
 have Kg : Sim C β0 ⟨uY (xS as x) fn.ntmps, []⟩ { tmps := xs.toArray ++ Array.replicate (fn.ntmps - xs.toArray.size) undef, defers := [] } w := by
  refine ⟨⟨by simp, fun _ _ => rfl, by simp, by simp, hN, Keep.refl _ _, Nat.le_refl _, rfl, rfl, rfl, fun j o hj => by cases hj⟩, rfl, by simp [uY, hxl], ?_⟩
  intro i u hu
  simp only [uY] at hu
  by_cases hi : i < (xS as x).length
  ·rw [List.getElem?_append_left hi] at hu
   have hi' : i < xs.length := by rw [<- hxl]; exact hi
   have hr := hargs.get i hi hi'
   rw [List.getElem?_eq_getElem hi] at hu
   simp only [Option.some.injEq] at hu
   subst hu
   have : (xs.toArray ++ Array.replicate (fn.ntmps - xs.toArray.size) undef).getD i undef = xs[i] := by
    rw [Array.getD_eq_getD_getElem?, Array.getElem?_append_left (by simpa using hi')]
    simp [hi']
   rw [this]
   refine hr.mono (Moves.refl β0) (Keep.refl _ w) (fun b j _ hb => ?_)
   rcases hb with hb | ⟨id, o, ho, _⟩
   ·exact hb
   ·simp at ho
  ·rw [List.getElem?_append_right (by omega), List.getElem?_replicate] at hu
   split at hu
   ·simp only [Option.some.injEq] at hu; subst hu; trivial
   ·cases hu
 refine calls_of_wp hf hb ?_
 refine Qs (P := P) hT hΓ hm c an ha (qL an) _ _ y hF C β0 _ w _ rfl (Nat.le_refl _) Kg ?_
 intro e x' σ' β' a' w' hs' hx' hk
 have fin : Xo T fn.results.toList rs σ' = some y -> x' = .ret ∨ x' = .normal -> bodyPost P fn (fun e w' => ∃ us : List Value, e = .returned (jW us) ∧ w'.os = w.os ∧ w'.tape = w.tape ∧ w'.output = w.output ∧ Keep (fun _ _ => False) w w' ∧ DensRel w' N rs y us) x' a' w' := by
  intro hk hx'
  unfold Xo at hk
  split at hk
  ·rename_i cc ss hrs
   split at hk
   ·rename_i y' hd
    obtain ⟨rfl, hk⟩ := jI hk
    obtain rfl := Option.some.inj hk
    obtain ⟨us, h1, h2⟩ := Qu (C := C) (β' := β0) (N' := N) (fn := fn) hT hs' (fun _ _ _ hb => hb) hrs
    have hkeep : Keep (fun _ _ => False) w w' := hs'.heap.frame
    have hR := Mv hd h2
    rcases hx' with rfl | rfl
    ·exact ⟨hs'.defers, _, h1, us, rfl, hs'.heap.os, hs'.heap.tape, hs'.heap.output, hkeep, hR⟩
    ·exact ⟨hs'.defers, _, h1, us, rfl, hs'.heap.os, hs'.heap.tape, hs'.heap.output, hkeep, hR⟩
   ·cases hk
  ·cases hk
 cases e with
 | normal => obtain rfl := hx'; exact fin hk (.inr rfl)
 | ret => obtain rfl := hx'; exact fin hk (.inl rfl)
 | exit i => simp [Xp] at hk
 | goto l => simp [Xp] at hk
 | pan t u => simp [Xp] at hk
def lM (as rs : List Ty) (F : bV as -> Option (bV rs)) : PE where
 R := bV rs
 use := 1
 run vs h := match mF (aW Ty.flat rs) h as vs with
  | some (c, x) => some (c, F x)
  | none => none
 enc y _ h := (zCz (Xm rs y), h)
theorem Qv {C : Ctx} {β : Nat -> Pl} {h : List Ob} {w : World} {bor : Bool} {t : Ty} {v : V} {x : t.den} {u : Value} (hd : Ec bor h t v = some (true, x)) (hs : bH C β h w) (hr : v.Rel β w (C.N β h) u) :
  t.fT w (zHh bor (C.N β h)) x u := by
 unfold Ec at hd
 cases bor with
 | true =>
  simp only at hd ⊢
  split at hd
  ·rename_i c v' hv
   split at hd
   ·rename_i s hsum
    split at hd
    ·rename_i y hy
     simp only [Option.some.injEq, Prod.mk.injEq] at hd
     obtain ⟨rfl, rfl⟩ := hd
     obtain ⟨h1, _⟩ := V.kQ (β' := β) (N' := fun _ _ => False) hv hs (fun _ _ _ h => h.elim) hr
     exact xU hy (V.Kq hsum h1)
    ·cases hd
   ·cases hd
  ·cases hd
 | false =>
  simp only at hd ⊢
  split at hd
  ·rename_i s hD hsum
   split at hd
   ·rename_i y hy
    simp only [Option.some.injEq, Prod.mk.injEq, true_and] at hd
    subst hd
    exact xU hy (V.Kq hsum hr)
   ·cases hd
  ·cases hd
theorem Mw {C : Ctx} {β : Nat -> Pl} {h : List Ob} {w : World} {bor : Bool} (hs : bH C β h w) : ∀ {ts : List Ty} {vs : List V} {x : bV ts} {us : List Value}, mF bor h ts vs = some (true, x) -> iM β w (C.N β h) vs us ->
  DensRel w (zHh bor (C.N β h)) ts x us
 | [], [], _, [], _, _ => rfl
 | [t], [v], x, [u], hd, hr => ⟨u, rfl, Qv hd hs hr.1⟩
 | t :: s :: r, v :: vs, x, u :: us, hd, hr => by
  simp only [mF] at hd
  split at hd
  ·rename_i c y d z h1 h2
   simp only [Option.some.injEq, Prod.mk.injEq, Bool.and_eq_true] at hd
   obtain ⟨⟨rfl, rfl⟩, rfl⟩ := hd
   exact ⟨u, us, rfl, Qv h1 hs hr.1, Mw hs h2 hr.2⟩
  ·cases hd
 | [], [], _, _ :: _, _, hr => hr.elim
 | [], _ :: _, _, _, h, _ => by simp [mF] at h
 | [t], [], _, _, h, _ => by simp [mF] at h
 | [t], [s], _, [], _, hr => hr.elim
 | [t], [s], _, _ :: _ :: _, _, hr => hr.2.elim
 | [t], _ :: _ :: _, _, _, h, _ => by simp [mF] at h
 | t :: u :: r, [], _, _, h, _ => by simp [mF] at h
 | t :: u :: r, s :: ss, _, [], _, hr => hr.elim
theorem Qw {h : List Ob} : ∀ {l : L}, l.isD = true -> l.deep h = some (true, l)
 | .val .., _ => rfl
 | .iJ, _ => rfl
 | .bJ, _ => rfl
 | .fH .., _ => rfl
 | .clo f [], _ => rfl
 | .clo f (_ :: _), h => by cases h
 | .ptr .., h => by cases h
 | .gH .., h => by cases h
 | .bZ .., h => by cases h
 | .sl .., h => by cases h
 | .own .., h => by cases h
 | .bad _, h => by cases h
 | .bQ .., h => by cases h
theorem Mx {h : List Ob} : ∀ {ls : List L}, aW L.isD ls = true -> xQ h ls = some (true, ls)
 | [], _ => rfl
 | l :: ls, hd => by
  simp only [aW, Bool.and_eq_true] at hd
  simp only [xQ, Qw hd.1, Mx hd.2, Bool.and_self]
theorem Qx {bor : Bool} {t : Ty} {v : V} (hd : v.isD = true) (h h2 : List Ob) : Ec bor h t v = Ec bor h2 t v := by
 cases bor with
 | false => rfl
 | true =>
  unfold Ec
  cases v with
  | one l => simp only [V.deep, Qw (show l.isD = true from hd)]
  | agg ls => simp only [V.deep, Mx (show aW L.isD ls = true from hd)]
  | _ => rfl
theorem Na {bor : Bool} : ∀ {ts : List Ty} {vs : List V} (_ : aW V.isD vs = true) (h h2 : List Ob), mF bor h ts vs = mF bor h2 ts vs
 | [], [], _, _, _ => rfl
 | [t], [v], hd, h, h2 => by
  simp only [aW, Bool.and_true] at hd
  simp only [mF, Qx hd h h2]
 | t :: s :: r, v :: vs, hd, h, h2 => by
  simp only [aW, Bool.and_eq_true] at hd
  simp only [mF, Qx hd.1 h h2, Na (ts := s :: r) hd.2 h h2]
 | [], _ :: _, _, _, _ => rfl
 | [t], [], _, _, _ => rfl
 | [t], _ :: _ :: _, _, _, _ => rfl
 | t :: s :: r, [], _, _, _ => rfl
theorem Qy {β : Nat -> Pl} {w : World} {N : Nat -> Nat -> Prop} {ss : List (Sum L (List L))} {us : List Value} (h : aI (dW β w N) ss us) : (zCz ss).Rel β w N (jW us) := by
 match ss, us, h with
 | [], [], _ => exact ⟨[], rfl, trivial⟩
 | [.inl l], [u], h => exact h.1
 | [.inr ls], [u], h => exact h.1
 | s :: t :: ss, u :: v :: us, h => cases s <;> exact ⟨_, rfl, h⟩
theorem gY {f : FuncId} {as rs : List Ty} {F : bV as -> Option (bV rs)} (h : Pure P f as rs F) : (lM as rs F).OK P f := by
 refine ⟨h.1, fun vs hp y hr C β w xs hP hs ha => ?_, fun _ vs h1 h2 hd => ⟨by simp only [lM]; rw [Na hd h1 h2], fun _ => rfl⟩, fun _ _ _ _ => rfl⟩
 subst hP
 simp only [lM] at hr
 split at hr
 ·rename_i c x hd
  simp only [Option.some.injEq, Prod.mk.injEq] at hr
  obtain ⟨rfl, hF⟩ := hr
  have hx := Mw hs hd ha
  have hn : ∀ b j, C.N β hp b j -> b < w.heap.size := fun b j hb => by
   rcases hb with hb | ⟨id, o, ho, _, hbk⟩
   ·exact Nat.lt_of_lt_of_le (hs.n0 b j hb) hs.size
   ·exact (hs.dG id o b ho ⟨j, hbk⟩).2.1
  refine (h.2 x y hF w _ xs (C.glob w hs.frame) (fun b j hb => ?_) hx).mono ?_
  ·cases hfl : aW Ty.flat rs with
   | true => rw [hfl] at hb; exact hb.elim
   | false => rw [hfl] at hb; exact hn b j hb
  ·rintro e w' ⟨us, rfl, ho, ht, hop, hk, hy⟩
   have hy' : DensRel w' (C.N β hp) rs y us := by
    cases hfl : aW Ty.flat rs with
    | true => exact hy.flat hfl
    | false => rw [hfl] at hy; exact hy
   refine ⟨_, _, β, ⟨rfl, rfl⟩, Moves.refl β, hk.weaken fun _ _ h => h.elim, fun _ _ _ h => h, ?_, _, rfl, Qy (Mt hy')⟩
   refine ⟨fun id o hob => (hs.obj id o hob).mono (Moves.refl β) (hk.weaken fun _ _ h => h.elim) (fun _ _ _ h => h) fun b hb => hk.block b (hs.dG id o b hob hb).2.1 (fun _ h => h), hs.dead, hs.iK, ?_, hs.n0, hs.frame.sW hk fun _ _ _ h => h.elim, Nat.le_trans hs.size hk.size, ho.trans hs.os, ht.trans hs.tape, hop.trans hs.output, hs.fixed⟩
   ·intro id o b hob hb
    obtain ⟨k1, k2, k3⟩ := hs.dG id o b hob hb
    exact ⟨k1, Nat.lt_of_lt_of_le k2 hk.size, k3⟩
 ·cases hr
def pes : List (FuncId × PE) -> FuncId -> Option PE
 | [], _ => none
 | (g, e) :: r, f => match Nat.beq g f with
  | true => some e
  | false => pes r f
def orc (ρ : Type) (l : List (FuncId × PE)) : Orc ρ := ⟨pes l, fun _ _ _ _ => none⟩
theorem zHi {ρ : Type} : ∀ {l : List (FuncId × PE)}, (∀ p ∈ l, p.2.OK P p.1) -> fE P (orc ρ l) := by
 intro l h
 refine ⟨fun f e he => ?_, fun _ _ _ _ _ h => by cases h⟩
 simp only [orc] at he
 induction l with
 | nil => cases he
 | cons p r ih =>
  obtain ⟨g, e'⟩ := p
  simp only [pes] at he
  split at he
  ·rename_i hb
   have := Nat.eq_of_beq_eq_true hb
   subst this
   simp only [Option.some.injEq] at he
   subst he
   exact h _ (.head _)
  ·exact ih (fun p hp => h p (.tail _ hp)) he
theorem all_nil {Q : FuncId × PE -> Prop} : ∀ p ∈ ([] : List (FuncId × PE)), Q p := fun _ h => by cases h
theorem all_cons {Q : FuncId × PE -> Prop} {p : FuncId × PE} {l : List (FuncId × PE)} (h : Q p) (hl : ∀ q ∈ l, Q q) : ∀ q ∈ p :: l, Q q := fun q hq => by
 cases hq with
 | head => exact h
 | tail _ hq => exact hl q hq
end
end Go.Dec
namespace Go.Dec
mutual
def L.back (f v : Nat -> Nat) : L -> L
 | .ptr id o => .ptr (f id) o
 | .bQ id o => .bQ (f id) o
 | .gH id o es i sub => .gH (f id) o es i sub
 | .bZ id u i o => .bZ (f id) (u + v id) i o
 | .sl id u i n => .sl (f id) (u + v id) i n
 | .own id u => .own (f id) (u + v id)
 | .clo g caps => .clo g (L.backs f v caps)
 | .mp id => .mp (f id)
 | l => l
def L.backs (f v : Nat -> Nat) : List L -> List L
 | [] => []
 | l :: ls => l.back f v :: L.backs f v ls
end
def V.back (f v : Nat -> Nat) : V -> V
 | .one l => .one (l.back f v)
 | .agg ls => .agg (L.backs f v ls)
 | _ => .aQ
def Ob.back (f v : Nat -> Nat) (id : Nat) : Ob -> Ob
 | .box e ls => .box e (L.backs f v ls)
 | .arr e t u rows wr => .arr e t (u + v id) rows wr
 | .fm tab => .fm tab
section
variable {β β' : Nat -> Pl} {w : World} {N N' : Nat -> Nat -> Prop}
structure Ag (p q : Pl) (v : Nat) : Prop where
 live : q.live = p.live
 box : q.box = p.box
 blk : q.blk = p.blk
 row : p.box = false -> q.ver = p.ver + v ∧ q.size = p.size ∧ q.cap = p.cap ∧ q.len = p.len
theorem Ag.zEq {p q : Pl} {v : Nat} (h : Ag p q v) (hb : p.box = false) {off len : Nat} {c : Value} : bR q off len c <-> bR p off len c := by
 obtain ⟨_, h2, h3, _⟩ := h.row hb
 unfold bR
 rw [h.blk, h2, h3]
mutual
theorem L.Rel.back {f v : Nat -> Nat} (hβ : ∀ j, (β j).live = true -> Ag (β j) (β' (f j)) (v j)) (hN : ∀ b j, b < w.heap.size -> N' b j -> N b j) : ∀ {l : L} {cs : List Value}, l.Rel β w N cs -> (l.back f v).Rel β' w N' cs
 | .val t x, cs, h => by simp only [L.back, L.Rel] at *; exact Ty.Rel.mono (Keep.refl _ w) hN h
 | .ptr id off, cs, h => by
  simp only [L.back, L.Rel] at *
  obtain ⟨h1, h2, h3⟩ := h
  have := hβ id h1
  exact ⟨this.live ▸ h1, this.box ▸ h2, by rw [this.blk]; exact h3⟩
 | .gH id off es i sub, cs, h => by
  simp only [L.back, L.Rel] at *
  obtain ⟨h1, h2, h3⟩ := h
  have := hβ id h1
  exact ⟨this.live ▸ h1, this.box ▸ h2, by rw [this.blk]; exact h3⟩
 | .iJ, cs, h => by simp only [L.back, L.Rel] at *; exact h
 | .bQ id off, cs, h => by
  simp only [L.back, L.Rel] at *
  obtain ⟨c, e, h⟩ := h
  refine ⟨c, e, ?_⟩
  rcases h with h | ⟨h1, h2, h3⟩
  ·exact .inl h
  ·have := hβ id h1
   exact .inr ⟨this.live ▸ h1, this.box ▸ h2, by rw [this.blk]; exact h3⟩
 | .bZ id u i off, cs, h => by
  simp only [L.back, L.Rel] at *
  obtain ⟨h1, h2, h3, c, h4, h5, h6⟩ := h
  have := hβ id h1
  obtain ⟨g1, g2, g3, g4⟩ := this.row h2
  refine ⟨this.live ▸ h1, this.box ▸ h2, by omega, c, h4, h5, fun hv => ?_⟩
  rw [this.blk, g2]
  exact h6 (by omega)
 | .fH t x off, cs, h => by simp only [L.back, L.Rel] at *; obtain ⟨c, hc, hr⟩ := h; exact ⟨c, hc, hr.mono (Keep.refl _ w) hN⟩
 | .sl id u off len, cs, h => by
  simp only [L.back, L.Rel] at *
  obtain ⟨h1, h2, h3, c, h4, h5, h6⟩ := h
  have := hβ id h1
  obtain ⟨g1, g2, g3, g4⟩ := this.row h2
  exact ⟨this.live ▸ h1, this.box ▸ h2, by omega, c, h4, h5, fun hv => (this.zEq h2).2 (h6 (by omega))⟩
 | .own id u, cs, h => by
  simp only [L.back, L.Rel] at *
  obtain ⟨h1, h2, h3, c, h4, h5, h6⟩ := h
  have := hβ id h1
  obtain ⟨g1, g2, g3, g4⟩ := this.row h2
  exact ⟨this.live ▸ h1, this.box ▸ h2, by omega, c, h4, h5, fun hv => by rw [g4]; exact (this.zEq h2).2 (h6 (by omega))⟩
 | .bJ, cs, h => by simp only [L.back, L.Rel] at *; exact h
 | .clo g caps, cs, h => by
  simp only [L.back, L.Rel] at *
  obtain ⟨us, hc, hr⟩ := h
  exact ⟨us, hc, L.aX.back hβ hN hr⟩
 | .bad n, cs, h => by simp only [L.back, L.Rel] at *; exact h
 | .qU x tab, cs, h => by simp only [L.back, L.Rel] at *; exact h
 | .mp id, cs, h => by
  simp only [L.back, L.Rel] at *
  obtain ⟨h1, h2, h3⟩ := h
  have := hβ id h1
  exact ⟨this.live ▸ h1, this.box ▸ h2, by rw [this.blk]; exact h3⟩
theorem L.aX.back {f v : Nat -> Nat} (hβ : ∀ j, (β j).live = true -> Ag (β j) (β' (f j)) (v j)) (hN : ∀ b j, b < w.heap.size -> N' b j -> N b j) : ∀ {ls : List L} {us : List Value}, L.aX β w N ls us -> L.aX β' w N' (L.backs f v ls) us
 | [], us, h => by simp only [L.backs, L.aX] at *; exact h
 | l :: ls, us, h => by
  simp only [L.backs, L.aX] at *
  obtain ⟨u, r, e, h1, h2⟩ := h
  exact ⟨u, r, e, L.Rel.back hβ hN h1, L.aX.back hβ hN h2⟩
end
theorem aC.back {f v : Nat -> Nat} (hβ : ∀ j, (β j).live = true -> Ag (β j) (β' (f j)) (v j)) (hN : ∀ b j, b < w.heap.size -> N' b j -> N b j) : ∀ {ls : List L} {cs : List Value}, aC β w N ls cs -> aC β' w N' (L.backs f v ls) cs
 | [], _, h => h
 | _l :: _ls, _, ⟨c1, c2, e, h1, h2⟩ => ⟨c1, c2, e, h1.back hβ hN, aC.back hβ hN h2⟩
theorem V.Rel.back {f v : Nat -> Nat} (hβ : ∀ j, (β j).live = true -> Ag (β j) (β' (f j)) (v j)) (hN : ∀ b j, b < w.heap.size -> N' b j -> N b j) {x : V} {u : Value} (h : x.Rel β w N u) : (x.back f v).Rel β' w N' u := by
 cases x with
 | one l => exact L.Rel.back hβ hN h
 | agg ls => obtain ⟨cs, e, h⟩ := h; exact ⟨cs, e, h.back hβ hN⟩
 | _ => trivial
theorem Ob.Rel.back {f v : Nat -> Nat} (hβ : ∀ j, (β j).live = true -> Ag (β j) (β' (f j)) (v j)) (hN : ∀ b j, b < w.heap.size -> N' b j -> N b j) {id : Nat} {o : Ob} (h : o.Rel β w N (β id)) : (o.back f v id).Rel β' w N' (β' (f id)) := by
 cases o with
 | box e ls =>
  simp only [Ob.back, Ob.Rel] at *
  obtain ⟨h1, h2, b, cs, h3, h4, h5⟩ := h
  have := hβ id h1
  exact ⟨this.live ▸ h1, this.box ▸ h2, b, cs, this.blk ▸ h3, h4.back hβ hN, h5⟩
 | arr e t u rows wr =>
  simp only [Ob.back, Ob.Rel] at *
  obtain ⟨h1, h2, h3, h4, h5, h6, h7⟩ := h
  have := hβ id h1
  obtain ⟨g1, g2, g3, g4⟩ := this.row h2
  refine ⟨this.live ▸ h1, this.box ▸ h2, by omega, by rw [g2, h4], h5, by rw [g4, h6], ?_⟩
  rw [this.blk, g3]
  rcases h7 with h7 | ⟨b, cur, css, k1, k2, k3, k4⟩
  ·exact .inl h7
  ·exact .inr ⟨b, cur, css, k1, k2, k3.mono fun _ _ h => h.mono (Keep.refl _ w) hN, k4⟩
 | fm tab =>
  simp only [Ob.back, Ob.Rel] at *
  obtain ⟨h1, h2, b, es, n, h3, h4⟩ := h
  have := hβ id h1
  exact ⟨this.live ▸ h1, this.box ▸ h2, b, es, n, this.blk ▸ h3, h4⟩
end
def Pd (P : Program) (f : FuncId) (si so : Sh) (F : si.X -> Option so.X) : Prop :=
 gF P f = true ∧ ∀ x y, F x = some y -> ∀ (C : Ctx) (β : Nat -> Pl) (w : World) (xs : List Value), C.P = P -> C.fix.length <= si.os.length -> Sim C β (si.enc x) { tmps := xs.toArray, defers := [] } w ->
  Calls P f xs.toArray w fun e w' => ∃ (us : List Value) (β' : Nat -> Pl), e = .returned (jW us) ∧ Sim C β' (so.enc y) { tmps := us.toArray, defers := [] } w'
def Gr : List V -> Option (List (Sum L (List L)))
 | [] => some []
 | v :: r => match v.sum, Gr r with
  | some s, some ss => some (s :: ss)
  | _, _ => none
def zDb (vs : List V) : V :=
 match Gr vs with
 | some ss => zCz ss
 | none => .aQ
def Ed (g : Nat -> Option Ob) : Nat -> List Ob -> List Ob
 | _, [] => []
 | i, o :: r => (match g i with | some o' => o' | none => o) :: Ed g (i + 1) r
def mO (f v : Nat -> Nat) : Nat -> List Ob -> List Ob
 | _, [] => []
 | j, o :: r => o.back f v j :: mO f v (j + 1) r
def oP : List Ob -> List OS -> Bool
 | [], _ => true
 | .box .. :: r, _ :: s => oP r s
 | .fm .. :: r, _ :: s => oP r s
 | .arr .. :: r, .row .. :: s => oP r s
 | _, _ => false
def gT (ρ : List Nat) (n : Nat) (j : Nat) : Nat := match ρ[j]? with | some i => i | none => n + (j - ρ.length)
def iE (ρ : List Nat) (h : List Ob) (j : Nat) : Nat := match ρ[j]? with
 | some i => (match h[i]? with | some (.arr _ _ u _ _) => u + 1 | _ => 0)
 | none => 0
def iN (ρ : List Nat) (h hy : List Ob) : List Ob :=
 Ed (fun i => match pos i ρ 0 with | some j => (match hy[j]? with | some o => some (o.back (gT ρ h.length) (iE ρ h) j) | none => none) | none => none) 0 h ++ mO (gT ρ h.length) (iE ρ h) ρ.length (hy.drop ρ.length)
def Qz (ρ : List Nat) (h : List Ob) (si so : Sh) : Bool :=
 nodupB ρ && (aW (fun i => Nat.blt i h.length) ρ && (Nat.beq ρ.length si.os.length && (aW Ob.wr (inH ρ h) && oP (inH ρ h) so.os)))
def peM (si so : Sh) (F : si.X -> Option so.X) : PE where
 R := so.X
 use := 2
 run vs h := match si.dec ⟨vs.map (V.ren (reach vs h) h), inH (reach vs h) h⟩ with
  | some x => some (Qz (reach vs h) h si so, F x)
  | none => none
 enc y vs h := (zDb ((so.enc y).r.map (V.back (gT (reach vs h) h.length) (iE (reach vs h) h))), iN (reach vs h) h (so.enc y).h)
theorem Ra {g : Nat -> Option Ob} : ∀ {h : List Ob} {n i : Nat}, (Ed g n h)[i]? = (h[i]?).map fun o => (match g (n + i) with | some o' => o' | none => o)
 | [], n, i => by simp [Ed]
 | o :: r, n, 0 => by simp [Ed]
 | o :: r, n, i + 1 => by
  simp only [Ed, List.getElem?_cons_succ]
  rw [Ra (h := r), show n + 1 + i = n + (i + 1) by omega]
theorem lW {g : Nat -> Option Ob} : ∀ {h : List Ob} {n : Nat}, (Ed g n h).length = h.length
 | [], _ => rfl
 | _ :: r, n => congrArg (· + 1) (lW (h := r) (n := n + 1))
theorem Ah {f v : Nat -> Nat} : ∀ {h : List Ob} {n i : Nat}, (mO f v n h)[i]? = (h[i]?).map fun o => o.back f v (n + i)
 | [], n, i => by simp [mO]
 | o :: r, n, 0 => by simp [mO]
 | o :: r, n, i + 1 => by
  simp only [mO, List.getElem?_cons_succ]
  rw [Ah (h := r), show n + 1 + i = n + (i + 1) by omega]
theorem vB {f v : Nat -> Nat} : ∀ {h : List Ob} {n : Nat}, (mO f v n h).length = h.length
 | [], _ => rfl
 | _ :: r, n => congrArg (· + 1) (vB (h := r) (n := n + 1))
theorem Ob.Ai {f v : Nat -> Nat} {j : Nat} (o : Ob) : (o.back f v j).gM = o.gM := by cases o <;> rfl
theorem Ob.oQ {f v : Nat -> Nat} {j : Nat} (o : Ob) : (o.back f v j).wr = o.wr := by cases o <;> rfl
theorem pR : ∀ {hc : List Ob} {os : List OS} {j : Nat} {e : TypeId} {t : Ty} {u : Nat} {rows : List t.den} {wr : Bool}, oP hc os = true -> hc[j]? = some (.arr e t u rows wr) -> ∃ e' t', os[j]? = some (.row e' t')
 | [], _, j, _, _, _, _, _, _, h => by simp at h
 | .box .. :: r, [], j, _, _, _, _, _, hk, _ => by cases hk
 | .box .. :: r, s :: os, 0, _, _, _, _, _, _, h => by simp at h
 | .box .. :: r, s :: os, j + 1, _, _, _, _, _, hk, h => by
  obtain ⟨e', t', h'⟩ := pR (hc := r) (os := os) (j := j) hk (by simpa using h)
  exact ⟨e', t', by simpa using h'⟩
 | .fm .. :: r, [], j, _, _, _, _, _, hk, _ => by cases hk
 | .fm .. :: r, s :: os, 0, _, _, _, _, _, _, h => by simp at h
 | .fm .. :: r, s :: os, j + 1, _, _, _, _, _, hk, h => by
  obtain ⟨e', t', h'⟩ := pR (hc := r) (os := os) (j := j) hk (by simpa using h)
  exact ⟨e', t', by simpa using h'⟩
 | .arr .. :: r, .fm .. :: os, j, _, _, _, _, _, hk, _ => by cases hk
 | .arr .. :: r, [], j, _, _, _, _, _, hk, _ => by cases hk
 | .arr .. :: r, .box .. :: os, j, _, _, _, _, _, hk, _ => by cases hk
 | .arr .. :: r, .row e t :: os, 0, _, _, _, _, _, _, _ => ⟨e, t, rfl⟩
 | .arr .. :: r, .row e t :: os, j + 1, _, _, _, _, _, hk, h => by
  obtain ⟨e', t', h'⟩ := pR (hc := r) (os := os) (j := j) hk (by simpa using h)
  exact ⟨e', t', by simpa using h'⟩
theorem vC {A : Type} : ∀ {os : List OS} {x : OTs os A} {j : Nat} {e : TypeId} {t : Ty}, os[j]? = some (.row e t) -> ∃ rows, (dY os x).1[j]? = some (.arr e t 0 rows true)
 | [], _, j, _, _, h => by simp at h
 | .box e0 ls :: r, x, 0, _, _, h => by simp at h
 | .box e0 ls :: r, x, j + 1, e, t, h => by
  obtain ⟨rows, h'⟩ := vC (os := r) (x := (bC ls x).2) (j := j) (by simpa using h)
  exact ⟨rows, by simpa [dY] using h'⟩
 | .fm tab :: r, x, 0, _, _, h => by simp at h
 | .fm tab :: r, x, j + 1, e, t, h => by
  obtain ⟨rows, h'⟩ := vC (os := r) (x := x) (j := j) (by simpa using h)
  exact ⟨rows, by simpa [dY] using h'⟩
 | .row e0 t0 :: r, x, 0, e, t, h => by
  simp only [List.getElem?_cons_zero, Option.some.injEq, OS.row.injEq] at h
  obtain ⟨rfl, rfl⟩ := h
  exact ⟨x.1, rfl⟩
 | .row e0 t0 :: r, x, j + 1, e, t, h => by
  obtain ⟨rows, h'⟩ := vC (os := r) (x := x.2) (j := j) (by simpa using h)
  exact ⟨rows, by simpa [dY] using h'⟩
theorem xV {A : Type} : ∀ {os : List OS} {x : OTs os A} {j : Nat} {o : Ob}, (dY os x).1[j]? = some o -> o.wr = true
 | [], _, j, _, h => by simp [dY] at h
 | .box e0 ls :: r, x, 0, _, h => by simp only [dY, List.getElem?_cons_zero, Option.some.injEq] at h; subst h; rfl
 | .box e0 ls :: r, x, j + 1, o, h => xV (os := r) (x := (bC ls x).2) (j := j) (by simpa [dY] using h)
 | .fm tab :: r, x, 0, _, h => by simp only [dY, List.getElem?_cons_zero, Option.some.injEq] at h; subst h; rfl
 | .fm tab :: r, x, j + 1, o, h => xV (os := r) (x := x) (j := j) (by simpa [dY] using h)
 | .row e0 t0 :: r, x, 0, _, h => by simp only [dY, List.getElem?_cons_zero, Option.some.injEq] at h; subst h; rfl
 | .row e0 t0 :: r, x, j + 1, o, h => xV (os := r) (x := x.2) (j := j) (by simpa [dY] using h)
theorem Nb {β : Nat -> Pl} {w : World} {N : Nat -> Nat -> Prop} : ∀ {vs : List V} {us : List Value} {ss : List (Sum L (List L))}, Gr vs = some ss -> aI (fun v u => V.Rel β w N v u) vs us -> aI (dW β w N) ss us
 | [], [], ss, h, _ => by simp only [Gr, Option.some.injEq] at h; subst h; trivial
 | v :: vs, u :: us, ss, h, hr => by
  simp only [Gr] at h
  split at h
  ·rename_i s ss' h1 h2
   simp only [Option.some.injEq] at h
   subst h
   exact ⟨V.Kq h1 hr.1, Nb h2 hr.2⟩
  ·cases h
 | [], _ :: _, _, _, hr => hr.elim
 | _ :: _, [], _, _, hr => hr.elim
theorem zDc {β : Nat -> Pl} {w : World} {N : Nat -> Nat -> Prop} {vs : List V} {us : List Value} (hr : aI (fun v u => V.Rel β w N v u) vs us) : (zDb vs).Rel β w N (jW us) := by
 unfold zDb
 split
 ·rename_i ss h
  exact Qy (Nb h hr)
 ·trivial
theorem Vj {α γ : Type} {R : α -> γ -> Prop} : ∀ {x : List α} {y : List γ}, x.length = y.length -> (∀ (i : Nat) (a : α) (b : γ), x[i]? = some a -> y[i]? = some b -> R a b) -> aI R x y
 | [], [], _, _ => trivial
 | a :: x, b :: y, hl, h => ⟨h 0 a b rfl rfl, Vj (by simpa using hl) fun i c d hc hd => h (i + 1) c d (by simpa using hc) (by simpa using hd)⟩
 | [], _ :: _, hl, _ => by simp at hl
 | _ :: _, [], hl, _ => by simp at hl
end Go.Dec
