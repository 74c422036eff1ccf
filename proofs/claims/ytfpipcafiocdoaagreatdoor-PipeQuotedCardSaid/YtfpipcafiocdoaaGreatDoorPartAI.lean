/- Part of a proof over this seat: a library of my own, and what it says of this seat. No statement is proved here. -/
import Derived.Test.YtfpipcafiocdoaaGreatDoorPartAH
namespace Go.Dec
@[reducible] def dL : List Ty -> Type
 | [] => Unit
 | [t] => t.den
 | t :: u :: r => t.den × dL (u :: r)
def kU : List Value -> Value
 | [u] => u
 | us => .tuple us.toArray
def zLg (bor : Bool) (N : Nat -> Nat -> Prop) : Nat -> Nat -> Prop :=
 match bor with
 | true => fun _ _ => False
 | false => N
def Ty.fT (w : World) (N : Nat -> Nat -> Prop) (t : Ty) (x : t.den) (u : Value) : Prop :=
 if t.isAgg then ∃ cs : List Value, u = .agg cs.toArray ∧ t.Rel w N x cs else t.Rel w N x [u]
def DensRel (w : World) (N : Nat -> Nat -> Prop) : (ts : List Ty) -> dL ts -> List Value -> Prop
 | [], _, us => us = []
 | [t], x, us => ∃ u, us = [u] ∧ t.fT w N x u
 | t :: s :: r, x, us => ∃ u us', us = u :: us' ∧ t.fT w N x.1 u ∧ DensRel w N (s :: r) x.2 us'
def vOf (t : Ty) (x : t.den) : V :=
 match t.isAgg with
 | true => .agg (explode t x)
 | false => .one (.val t x)
def sOf (t : Ty) (x : t.den) : Sum L (List L) :=
 match t.isAgg with
 | true => .inr (explode t x)
 | false => .inl (.val t x)
def xQ : (ts : List Ty) -> dL ts -> List V
 | [], _ => []
 | [t], x => [vOf t x]
 | t :: s :: r, x => vOf t x.1 :: xQ (s :: r) x.2
def Zf : (ts : List Ty) -> dL ts -> List (Sum L (List L))
 | [], _ => []
 | [t], x => [sOf t x]
 | t :: s :: r, x => sOf t x.1 :: Zf (s :: r) x.2
def Zg (t : Ty) (ls : List L) : Option t.den :=
 match bB t ls with
 | some (x, []) => some x
 | _ => none
def Lg (t : Ty) (s : Sum L (List L)) : Option t.den :=
 match t.isAgg, s with
 | true, .inr ls => Zg t ls
 | false, .inl l => l.asT t
 | _, _ => none
def uW : (ts : List Ty) -> List (Sum L (List L)) -> Option (dL ts)
 | [], [] => some ()
 | [t], [s] => Lg t s
 | t :: u :: r, s :: ss =>
  match Lg t s, uW (u :: r) ss with
  | some x, some y => some (x, y)
  | _, _ => none
 | _, _ => none
def V.sum : V -> Option (Sum L (List L))
 | .one l => some (.inl l)
 | .agg ls => some (.inr ls)
 | _ => none
def Ev (bor : Bool) (h : List Ob) (t : Ty) (v : V) : Option (Bool × t.den) :=
 match bor with
 | true =>
  match v.deep h with
  | some (c, u) =>
   match u.sum with
   | some s => match Lg t s with
    | some x => some (c, x)
    | none => none
   | none => none
  | none => none
 | false =>
  match v.isD, v.sum with
  | true, some s => match Lg t s with
   | some x => some (true, x)
   | none => none
  | _, _ => none
def mI (bor : Bool) (h : List Ob) : (ts : List Ty) -> List V -> Option (Bool × dL ts)
 | [], [] => some (true, ())
 | [t], [v] => Ev bor h t v
 | t :: u :: r, v :: vs =>
  match Ev bor h t v, mI bor h (u :: r) vs with
  | some (c, x), some (d, y) => some (c && d, (x, y))
  | _, _ => none
 | _, _ => none
def Ty.flat : Ty -> Bool
 | .pair a b => a.flat && b.flat
 | .arr _ a => a.flat
 | .slice _ => false
 | .opq => false
 | _ => true
section
variable {β : Nat -> Pl} {w : World} {N : Nat -> Nat -> Prop}
theorem Xa {t : Ty} {x : t.den} {u : Value} (h : t.fT w N x u) : (vOf t x).Rel β w N u := by
 unfold vOf
 unfold Ty.fT at h
 cases ha : t.isAgg with
 | true =>
  rw [ha, if_pos rfl] at h
  obtain ⟨cs, e, h⟩ := h
  exact ⟨cs, e, eD h⟩
 | false =>
  rw [ha, if_neg (by simp)] at h
  simp only [V.Rel, L.Rel]
  exact h
theorem Oe : ∀ {ts : List Ty} {x : dL ts} {us : List Value}, DensRel w N ts x us -> iO β w N (xQ ts x) us
 | [], _, _, h => by simp only [DensRel] at h; subst h; trivial
 | [t], x, _, h => by obtain ⟨u, rfl, h⟩ := h; exact ⟨Xa h, trivial⟩
 | t :: s :: r, x, _, h => by
  obtain ⟨u, us, rfl, h, h2⟩ := h
  exact ⟨Xa h, Oe h2⟩
theorem Xb {t : Ty} {x : t.den} {u : Value} (h : t.fT w N x u) : dY β w N (sOf t x) u := by
 unfold sOf
 unfold Ty.fT at h
 cases ha : t.isAgg with
 | true =>
  rw [ha, if_pos rfl] at h
  obtain ⟨cs, e, h⟩ := h
  exact ⟨cs, e, eD h⟩
 | false =>
  rw [ha, if_neg (by simp)] at h
  simp only [dY, L.Rel]
  exact h
theorem Og : ∀ {ts : List Ty} {x : dL ts} {us : List Value}, DensRel w N ts x us -> aJ (dY β w N) (Zf ts x) us
 | [], _, _, h => by simp only [DensRel] at h; subst h; trivial
 | [t], x, _, h => by obtain ⟨u, rfl, h⟩ := h; exact ⟨Xb h, trivial⟩
 | t :: s :: r, x, _, h => by
  obtain ⟨u, us, rfl, h, h2⟩ := h
  exact ⟨Xb h, Og h2⟩
theorem zCf {t : Ty} {ls : List L} {x : t.den} {cs : List Value} (h : Zg t ls = some x) (hr : aF β w N ls cs) : t.Rel w N x cs := by
 unfold Zg at h
 split at h
 ·rename_i y hi
  simp only [Option.some.injEq] at h
  subst h
  obtain ⟨c1, c2, e, h1, h2⟩ := kD hi hr
  simp only [aF] at h2
  subst h2
  rw [List.append_nil] at e
  subst e
  exact h1
 ·cases h
theorem xR {t : Ty} {s : Sum L (List L)} {x : t.den} {u : Value} (h : Lg t s = some x) (hr : dY β w N s u) : t.fT w N x u := by
 unfold Lg at h
 unfold Ty.fT
 split at h
 ·rename_i ls ha
  rw [ha, if_pos rfl]
  obtain ⟨cs, e, hr⟩ := hr
  exact ⟨cs, e, zCf h hr⟩
 ·rename_i l ha
  rw [ha, if_neg (by simp)]
  exact L.Kn h hr
 ·cases h
theorem Oh : ∀ {ts : List Ty} {ss : List (Sum L (List L))} {x : dL ts} {us : List Value}, uW ts ss = some x -> aJ (dY β w N) ss us -> DensRel w N ts x us
 | [], [], _, [], _, _ => rfl
 | [t], [s], x, [u], h, hr => ⟨u, rfl, xR h hr.1⟩
 | t :: u :: r, s :: ss, x, v :: vs, h, hr => by
  simp only [uW] at h
  split at h
  ·rename_i y z h1 h2
   simp only [Option.some.injEq] at h
   subst h
   exact ⟨v, vs, rfl, xR h1 hr.1, Oh h2 hr.2⟩
  ·cases h
 | [], [], _, _ :: _, _, hr => hr.elim
 | [], _ :: _, _, _, h, _ => by simp [uW] at h
 | [t], [], _, _, h, _ => by simp [uW] at h
 | [t], [s], _, [], _, hr => hr.elim
 | [t], [s], _, _ :: _ :: _, _, hr => hr.2.elim
 | [t], _ :: _ :: _, _, _, h, _ => by simp [uW] at h
 | t :: u :: r, [], _, _, h, _ => by simp [uW] at h
 | t :: u :: r, s :: ss, _, [], _, hr => hr.elim
theorem V.Lh {v : V} {s : Sum L (List L)} {u : Value} (h : v.sum = some s) (hr : v.Rel β w N u) : dY β w N s u := by
 cases v <;> simp only [V.sum, Option.some.injEq, reduceCtorEq] at h <;> subst h <;> exact hr
theorem Ty.fT.mono {w' : World} {N' : Nat -> Nat -> Prop} (hk : Keep N w w') (hN : ∀ b j, b < w.heap.size -> N' b j -> N b j) {t : Ty} {x : t.den} {u : Value} (h : t.fT w N x u) : t.fT w' N' x u := by
 unfold Ty.fT at *
 split
 ·rename_i ha
  rw [if_pos ha] at h
  obtain ⟨cs, e, h⟩ := h
  exact ⟨cs, e, h.mono hk hN⟩
 ·rename_i ha
  rw [if_neg ha] at h
  exact h.mono hk hN
theorem DensRel.mono {w' : World} {N' : Nat -> Nat -> Prop} (hk : Keep N w w') (hN : ∀ b j, b < w.heap.size -> N' b j -> N b j) : ∀ {ts : List Ty} {x : dL ts} {us : List Value}, DensRel w N ts x us -> DensRel w' N' ts x us
 | [], _, _, h => h
 | [t], x, _, h => by obtain ⟨u, e, h⟩ := h; exact ⟨u, e, h.mono hk hN⟩
 | t :: s :: r, x, _, h => by obtain ⟨u, us, e, h, h2⟩ := h; exact ⟨u, us, e, h.mono hk hN, h2.mono hk hN⟩
theorem Ty.Rel.flat {N' : Nat -> Nat -> Prop} {w' : World} : ∀ {t : Ty} {x : t.den} {cs : List Value}, t.flat = true -> t.Rel w N x cs -> t.Rel w' N' x cs
 | .unit, _, _, _, h => h
 | .bool, _, _, _, h => h
 | .int _, _, _, _, h => h
 | .str, _, _, _, h => h
 | .err, _, _, _, h => h
 | .opq, _, _, hf, _ => by cases hf
 | .slice _, _, _, hf, _ => by cases hf
 | .pair a b, _, _, hf, h => by
  simp only [Ty.flat, Bool.and_eq_true] at hf
  obtain ⟨c1, c2, e, h1, h2⟩ := h
  exact ⟨c1, c2, e, Ty.Rel.flat hf.1 h1, Ty.Rel.flat hf.2 h2⟩
 | .arr n a, _, _, hf, h => by
  simp only [Ty.flat] at hf
  obtain ⟨h0, css, e, h1⟩ := h
  exact ⟨h0, css, e, h1.mono fun x c hx => Ty.Rel.flat hf hx⟩
theorem Ty.fT.flat {N' : Nat -> Nat -> Prop} {w' : World} {t : Ty} {x : t.den} {u : Value} (hf : t.flat = true) (h : t.fT w N x u) : t.fT w' N' x u := by
 unfold Ty.fT at *
 split
 ·rename_i ha
  rw [if_pos ha] at h
  obtain ⟨cs, e, h⟩ := h
  exact ⟨cs, e, h.flat hf⟩
 ·rename_i ha
  rw [if_neg ha] at h
  exact h.flat hf
theorem DensRel.flat {N' : Nat -> Nat -> Prop} {w' : World} : ∀ {ts : List Ty} {x : dL ts} {us : List Value}, aW Ty.flat ts = true -> DensRel w N ts x us -> DensRel w' N' ts x us
 | [], _, _, _, h => h
 | [t], x, _, hf, h => by
  simp only [aW, Bool.and_true] at hf
  obtain ⟨u, e, h⟩ := h; exact ⟨u, e, h.flat hf⟩
 | t :: s :: r, x, _, hf, h => by
  simp only [aW, Bool.and_eq_true] at hf
  obtain ⟨u, us, e, h, h2⟩ := h
  exact ⟨u, us, e, h.flat hf.1, DensRel.flat (by simp only [aW, Bool.and_eq_true]; exact hf.2) h2⟩
end
def Pure (P : Program) (f : FuncId) (as rs : List Ty) (F : dL as -> Option (dL rs)) : Prop :=
 gI P f = true ∧ ∀ x y, F x = some y -> ∀ (w : World) (N : Nat -> Nat -> Prop) (xs : List Value), Glob P w -> (∀ b j, N b j -> b < w.heap.size) -> DensRel w N as x xs ->
  Calls P f xs.toArray w fun e w' => ∃ us : List Value, e = .returned (kU us) ∧ w'.os = w.os ∧ w'.tape = w.tape ∧ w'.output = w.output ∧ Keep (fun _ _ => False) w w' ∧ DensRel w' N rs y us
def Zh (T : Tab) (res : List ResultVar) (rs : List Ty) (σ : St) : Option (dL rs) :=
 match Cq T σ res with
 | some (c, vs) =>
  match uW rs vs with
  | some y => chk c (some y)
  | none => none
 | none => none
def Zi (T : Tab) (res : List ResultVar) (rs : List Ty) : K (dL rs) := fun e σ =>
 match e with
 | .normal => Zh T res rs σ
 | .ret => Zh T res rs σ
 | _ => none
section
variable {T : Tab} {P : Program}
theorem Rz {C : Ctx} {β β' : Nat -> Pl} {w : World} {σ : St} {a : Act} {fn : Func} {vs : List (Sum L (List L))} {N' : Nat -> Nat -> Prop} (hT : aR C.P T) (hs : Sim C β σ a w) (hN : ∀ b j, b < w.heap.size -> N' b j -> C.N0 b j) (h : Cq T σ fn.results.toList = some (true, vs)) :
  ∃ us : List Value, (results fn a.tmps).run C.P w = .ok (kU us) w ∧ aJ (dY β' w N') vs us := by
 obtain ⟨us, h1, h2, _⟩ := Od (β' := β') hT hs hN h #[]
 refine ⟨us, ?_, h2⟩
 have e0 : results fn a.tmps = (do let vs <- fn.results.mapM (jT a.tmps); pure (if h : vs.size = 1 then vs[0] else .tuple vs)) := by
  unfold results
  congr 1
 have hm : (fn.results.mapM (jT a.tmps) : Sem (Array Value)).run C.P w = .ok us.toArray w := by
  rw [Array.mapM_eq_foldlM, <- Array.foldlM_toList]
  have e : (fun (acc : Array Value) rv => do let v <- jT a.tmps rv; pure (acc.push v) : Array Value -> ResultVar -> Sem (Array Value)) = (fun (acc : Array Value) rv => acc.push <$> jT a.tmps rv) := by
   funext acc rv
   rfl
  rw [e] at h1
  simpa using h1
 rw [e0]
 simp only [Sem.run_bind, hm, Result.andThen_ok, Sem.run_pure]
 match us with
 | [] => rfl
 | [u] => rfl
 | u :: v :: us => simp [kU]
theorem Aj : ∀ cs : List Co, aW (Co.fx 0) cs = true
 | [] => rfl
 | c :: cs => by
  simp only [aW, Aj cs, Bool.and_true]
  cases c <;> first | rfl | simp [Co.fx]
theorem qN {ρ : Type} : ∀ an : An ρ, an.fx 0 = true
 | .nil => rfl
 | .mk l r c => by simp only [An.fx, qN l, qN r, Aj, Bool.and_self]
 | .loop _ c0 c1 _ a => by simp only [An.fx, qN a, Aj, Bool.and_self]
 | .scope _ a b => by simp only [An.fx, qN a, qN b, Bool.and_self]
 | .sem _ => rfl
 | .co c a => by simp only [An.fx, qN a, Aj, Bool.and_self]
 | .join _ c a => by simp only [An.fx, qN a, Aj, Bool.and_self]
theorem wF {f : FuncId} {fn : Func} {c : Code} {as rs : List Ty} {F : dL as -> Option (dL rs)} {Γ : Orc (dL rs)} {an : An (dL rs)} (hf : P.funcs[f]? = some fn) (hb : fn.body = some c) (hh : gI P f = true) (hT : aR P T) (hΓ : eT P Γ) (hm : P.follows .mixedOrders = true) (ha : Rv P 0 c an)
  (h : ∀ x, ev Γ T c an ⟨uV (xQ as x) fn.ntmps, []⟩ (Zi T fn.results.toList rs) = F x) : Pure P f as rs F := by
 refine ⟨hh, fun x y hF w N xs hG hN hx => ?_⟩
 rw [<- h x] at hF
 let C : Ctx := { P := P, N0 := N, w0 := w, sZ := fun _ _ => False, glob := fun w' h => hG.keep fun b hb => h.block b hb (fun _ h => h), fix := [] }
 let β0 : Nat -> Pl := fun _ => ⟨false, false, 0, none, 0, 0, 0, []⟩
 have hargs : iO β0 w N (xQ as x) xs := Oe hx
 have hxl : (xQ as x).length = xs.length := hargs.length
 have Kv : Sim C β0 ⟨uV (xQ as x) fn.ntmps, []⟩ { tmps := xs.toArray ++ Array.replicate (fn.ntmps - xs.toArray.size) undef, defers := [] } w := by
  refine ⟨⟨by simp, fun _ _ => rfl, by simp, by simp, hN, Keep.refl _ _, Nat.le_refl _, rfl, rfl, rfl, fun j o hj => by cases hj⟩, rfl, by simp [uV, hxl], ?_⟩
  intro i u hu
  simp only [uV] at hu
  by_cases hi : i < (xQ as x).length
  ·rw [List.getElem?_append_left hi] at hu
   have hi' : i < xs.length := by rw [<- hxl]; exact hi
   have hr := hargs.get i hi hi'
   rw [List.getElem?_eq_getElem hi] at hu
   simp only [Option.some.injEq] at hu
   subst hu
   have : (xs.toArray ++ Array.replicate (fn.ntmps - xs.toArray.size) undef).getD i undef = xs[i] := by
    rw [Array.getD_eq_getD_getElem?, Array.getElem?_append_left (by simpa using hi')]
    simp [hi']
   rw [this]
   refine hr.mono (Moves.refl β0) (Keep.refl _ w) (fun b j _ hb => ?_)
   rcases hb with hb | ⟨id, o, ho, _⟩
   ·exact hb
   ·simp at ho
  ·rw [List.getElem?_append_right (by omega), List.getElem?_replicate] at hu
   split at hu
   ·simp only [Option.some.injEq] at hu; subst hu; trivial
   ·cases hu
 refine calls_of_wp hf hb ?_
 refine Rx (P := P) hT hΓ hm c an ha (qN an) _ _ y hF C β0 _ w _ rfl (Nat.le_refl _) Kv ?_
 intro e x' σ' β' a' w' hs' hx' hk
 have fin : Zh T fn.results.toList rs σ' = some y -> x' = .ret ∨ x' = .normal -> bodyPost P fn (fun e w' => ∃ us : List Value, e = .returned (kU us) ∧ w'.os = w.os ∧ w'.tape = w.tape ∧ w'.output = w.output ∧ Keep (fun _ _ => False) w w' ∧ DensRel w' N rs y us) x' a' w' := by
  intro hk hx'
  unfold Zh at hk
  split at hk
  ·rename_i cc ss hrs
   split at hk
   ·rename_i y' hd
    obtain ⟨rfl, hk⟩ := jP hk
    obtain rfl := Option.some.inj hk
    obtain ⟨us, h1, h2⟩ := Rz (C := C) (β' := β0) (N' := N) (fn := fn) hT hs' (fun _ _ _ hb => hb) hrs
    have hkeep : Keep (fun _ _ => False) w w' := hs'.heap.frame
    have hR := Oh hd h2
    rcases hx' with rfl | rfl
    ·exact ⟨hs'.defers, _, h1, us, rfl, hs'.heap.os, hs'.heap.tape, hs'.heap.output, hkeep, hR⟩
    ·exact ⟨hs'.defers, _, h1, us, rfl, hs'.heap.os, hs'.heap.tape, hs'.heap.output, hkeep, hR⟩
   ·cases hk
  ·cases hk
 cases e with
 | normal => obtain rfl := hx'; exact fin hk (.inr rfl)
 | ret => obtain rfl := hx'; exact fin hk (.inl rfl)
 | exit i => simp [Zi] at hk
 | goto l => simp [Zi] at hk
 | pan t u => simp [Zi] at hk
def oU (as rs : List Ty) (F : dL as -> Option (dL rs)) : PE where
 R := dL rs
 use := 1
 run vs h := match mI (aW Ty.flat rs) h as vs with
  | some (c, x) => some (c, F x)
  | none => none
 enc y _ h := (zEo (Zf rs y), h)
theorem Sb {C : Ctx} {β : Nat -> Pl} {h : List Ob} {w : World} {bor : Bool} {t : Ty} {v : V} {x : t.den} {u : Value} (hd : Ev bor h t v = some (true, x)) (hs : bJ C β h w) (hr : v.Rel β w (C.N β h) u) :
  t.fT w (zLg bor (C.N β h)) x u := by
 unfold Ev at hd
 cases bor with
 | true =>
  simp only at hd ⊢
  split at hd
  ·rename_i c v' hv
   split at hd
   ·rename_i s hsum
    split at hd
    ·rename_i y hy
     simp only [Option.some.injEq, Prod.mk.injEq] at hd
     obtain ⟨rfl, rfl⟩ := hd
     obtain ⟨h1, _⟩ := V.kT (β' := β) (N' := fun _ _ => False) hv hs (fun _ _ _ h => h.elim) hr
     exact xR hy (V.Lh hsum h1)
    ·cases hd
   ·cases hd
  ·cases hd
 | false =>
  simp only at hd ⊢
  split at hd
  ·rename_i s hD hsum
   split at hd
   ·rename_i y hy
    simp only [Option.some.injEq, Prod.mk.injEq, true_and] at hd
    subst hd
    exact xR hy (V.Lh hsum hr)
   ·cases hd
  ·cases hd
theorem Oi {C : Ctx} {β : Nat -> Pl} {h : List Ob} {w : World} {bor : Bool} (hs : bJ C β h w) : ∀ {ts : List Ty} {vs : List V} {x : dL ts} {us : List Value}, mI bor h ts vs = some (true, x) -> iO β w (C.N β h) vs us ->
  DensRel w (zLg bor (C.N β h)) ts x us
 | [], [], _, [], _, _ => rfl
 | [t], [v], x, [u], hd, hr => ⟨u, rfl, Sb hd hs hr.1⟩
 | t :: s :: r, v :: vs, x, u :: us, hd, hr => by
  simp only [mI] at hd
  split at hd
  ·rename_i c y d z h1 h2
   simp only [Option.some.injEq, Prod.mk.injEq, Bool.and_eq_true] at hd
   obtain ⟨⟨rfl, rfl⟩, rfl⟩ := hd
   exact ⟨u, us, rfl, Sb h1 hs hr.1, Oi hs h2 hr.2⟩
  ·cases hd
 | [], [], _, _ :: _, _, hr => hr.elim
 | [], _ :: _, _, _, h, _ => by simp [mI] at h
 | [t], [], _, _, h, _ => by simp [mI] at h
 | [t], [s], _, [], _, hr => hr.elim
 | [t], [s], _, _ :: _ :: _, _, hr => hr.2.elim
 | [t], _ :: _ :: _, _, _, h, _ => by simp [mI] at h
 | t :: u :: r, [], _, _, h, _ => by simp [mI] at h
 | t :: u :: r, s :: ss, _, [], _, hr => hr.elim
theorem Sc {h : List Ob} : ∀ {l : L}, l.isD = true -> l.deep h = some (true, l)
 | .val .., _ => rfl
 | .iL, _ => rfl
 | .bG, _ => rfl
 | .fF .., _ => rfl
 | .clo f [], _ => rfl
 | .clo f (_ :: _), h => by cases h
 | .ptr .., h => by cases h
 | .gK .., h => by cases h
 | .dD .., h => by cases h
 | .sl .., h => by cases h
 | .own .., h => by cases h
 | .bad _, h => by cases h
 | .bW .., h => by cases h
theorem Oj {h : List Ob} : ∀ {ls : List L}, aW L.isD ls = true -> xO h ls = some (true, ls)
 | [], _ => rfl
 | l :: ls, hd => by
  simp only [aW, Bool.and_eq_true] at hd
  simp only [xO, Sc hd.1, Oj hd.2, Bool.and_self]
theorem Sg {bor : Bool} {t : Ty} {v : V} (hd : v.isD = true) (h h2 : List Ob) : Ev bor h t v = Ev bor h2 t v := by
 cases bor with
 | false => rfl
 | true =>
  unfold Ev
  cases v with
  | one l => simp only [V.deep, Sc (show l.isD = true from hd)]
  | agg ls => simp only [V.deep, Oj (show aW L.isD ls = true from hd)]
  | _ => rfl
theorem Ol {bor : Bool} : ∀ {ts : List Ty} {vs : List V} (_ : aW V.isD vs = true) (h h2 : List Ob), mI bor h ts vs = mI bor h2 ts vs
 | [], [], _, _, _ => rfl
 | [t], [v], hd, h, h2 => by
  simp only [aW, Bool.and_true] at hd
  simp only [mI, Sg hd h h2]
 | t :: s :: r, v :: vs, hd, h, h2 => by
  simp only [aW, Bool.and_eq_true] at hd
  simp only [mI, Sg hd.1 h h2, Ol (ts := s :: r) hd.2 h h2]
 | [], _ :: _, _, _, _ => rfl
 | [t], [], _, _, _ => rfl
 | [t], _ :: _ :: _, _, _, _ => rfl
 | t :: s :: r, [], _, _, _ => rfl
theorem Si {β : Nat -> Pl} {w : World} {N : Nat -> Nat -> Prop} {ss : List (Sum L (List L))} {us : List Value} (h : aJ (dY β w N) ss us) : (zEo ss).Rel β w N (kU us) := by
 match ss, us, h with
 | [], [], _ => exact ⟨[], rfl, trivial⟩
 | [.inl l], [u], h => exact h.1
 | [.inr ls], [u], h => exact h.1
 | s :: t :: ss, u :: v :: us, h => cases s <;> exact ⟨_, rfl, h⟩
theorem kG {f : FuncId} {as rs : List Ty} {F : dL as -> Option (dL rs)} (h : Pure P f as rs F) : (oU as rs F).OK P f := by
 refine ⟨h.1, fun vs hp y hr C β w xs hP hs ha => ?_, fun _ vs h1 h2 hd => ⟨by simp only [oU]; rw [Ol hd h1 h2], fun _ => rfl⟩, fun _ _ _ _ => rfl⟩
 subst hP
 simp only [oU] at hr
 split at hr
 ·rename_i c x hd
  simp only [Option.some.injEq, Prod.mk.injEq] at hr
  obtain ⟨rfl, hF⟩ := hr
  have hx := Oi hs hd ha
  have hn : ∀ b j, C.N β hp b j -> b < w.heap.size := fun b j hb => by
   rcases hb with hb | ⟨id, o, ho, _, hbk⟩
   ·exact Nat.lt_of_lt_of_le (hs.n0 b j hb) hs.size
   ·exact (hs.dK id o b ho ⟨j, hbk⟩).2.1
  refine (h.2 x y hF w _ xs (C.glob w hs.frame) (fun b j hb => ?_) hx).mono ?_
  ·cases hfl : aW Ty.flat rs with
   | true => rw [hfl] at hb; exact hb.elim
   | false => rw [hfl] at hb; exact hn b j hb
  ·rintro e w' ⟨us, rfl, ho, ht, hop, hk, hy⟩
   have hy' : DensRel w' (C.N β hp) rs y us := by
    cases hfl : aW Ty.flat rs with
    | true => exact hy.flat hfl
    | false => rw [hfl] at hy; exact hy
   refine ⟨_, _, β, ⟨rfl, rfl⟩, Moves.refl β, hk.weaken fun _ _ h => h.elim, fun _ _ _ h => h, ?_, _, rfl, Si (Og hy')⟩
   refine ⟨fun id o hob => (hs.obj id o hob).mono (Moves.refl β) (hk.weaken fun _ _ h => h.elim) (fun _ _ _ h => h) fun b hb => hk.block b (hs.dK id o b hob hb).2.1 (fun _ h => h), hs.dead, hs.iM, ?_, hs.n0, hs.frame.sW hk fun _ _ _ h => h.elim, Nat.le_trans hs.size hk.size, ho.trans hs.os, ht.trans hs.tape, hop.trans hs.output, hs.fixed⟩
   ·intro id o b hob hb
    obtain ⟨k1, k2, k3⟩ := hs.dK id o b hob hb
    exact ⟨k1, Nat.lt_of_lt_of_le k2 hk.size, k3⟩
 ·cases hr
def pes : List (FuncId × PE) -> FuncId -> Option PE
 | [], _ => none
 | (g, e) :: r, f => match Nat.beq g f with
  | true => some e
  | false => pes r f
def orc (ρ : Type) (l : List (FuncId × PE)) : Orc ρ := ⟨pes l, fun _ _ _ _ => none⟩
theorem zLh {ρ : Type} : ∀ {l : List (FuncId × PE)}, (∀ p ∈ l, p.2.OK P p.1) -> eT P (orc ρ l) := by
 intro l h
 refine ⟨fun f e he => ?_, fun _ _ _ _ _ h => by cases h⟩
 simp only [orc] at he
 induction l with
 | nil => cases he
 | cons p r ih =>
  obtain ⟨g, e'⟩ := p
  simp only [pes] at he
  split at he
  ·rename_i hb
   have := Nat.eq_of_beq_eq_true hb
   subst this
   simp only [Option.some.injEq] at he
   subst he
   exact h _ (.head _)
  ·exact ih (fun p hp => h p (.tail _ hp)) he
theorem all_nil {Q : FuncId × PE -> Prop} : ∀ p ∈ ([] : List (FuncId × PE)), Q p := fun _ h => by cases h
theorem all_cons {Q : FuncId × PE -> Prop} {p : FuncId × PE} {l : List (FuncId × PE)} (h : Q p) (hl : ∀ q ∈ l, Q q) : ∀ q ∈ p :: l, Q q := fun q hq => by
 cases hq with
 | head => exact h
 | tail _ hq => exact hl q hq
end
end Go.Dec
namespace Go.Dec
mutual
def L.back (f v : Nat -> Nat) : L -> L
 | .ptr id o => .ptr (f id) o
 | .bW id o => .bW (f id) o
 | .gK id o es i sub => .gK (f id) o es i sub
 | .dD id u i o => .dD (f id) (u + v id) i o
 | .sl id u i n => .sl (f id) (u + v id) i n
 | .own id u => .own (f id) (u + v id)
 | .clo g caps => .clo g (L.backs f v caps)
 | .mp id => .mp (f id)
 | l => l
def L.backs (f v : Nat -> Nat) : List L -> List L
 | [] => []
 | l :: ls => l.back f v :: L.backs f v ls
end
def V.back (f v : Nat -> Nat) : V -> V
 | .one l => .one (l.back f v)
 | .agg ls => .agg (L.backs f v ls)
 | _ => .aQ
def Ob.back (f v : Nat -> Nat) (id : Nat) : Ob -> Ob
 | .box e ls => .box e (L.backs f v ls)
 | .arr e t u rows wr => .arr e t (u + v id) rows wr
 | .fm tab => .fm tab
section
variable {β β' : Nat -> Pl} {w : World} {N N' : Nat -> Nat -> Prop}
structure Ak (p q : Pl) (v : Nat) : Prop where
 live : q.live = p.live
 box : q.box = p.box
 blk : q.blk = p.blk
 row : p.box = false -> q.ver = p.ver + v ∧ q.size = p.size ∧ q.cap = p.cap ∧ q.len = p.len
theorem Ak.zGn {p q : Pl} {v : Nat} (h : Ak p q v) (hb : p.box = false) {off len : Nat} {c : Value} : bX q off len c <-> bX p off len c := by
 obtain ⟨_, h2, h3, _⟩ := h.row hb
 unfold bX
 rw [h.blk, h2, h3]
mutual
theorem L.Rel.back {f v : Nat -> Nat} (hβ : ∀ j, (β j).live = true -> Ak (β j) (β' (f j)) (v j)) (hN : ∀ b j, b < w.heap.size -> N' b j -> N b j) : ∀ {l : L} {cs : List Value}, l.Rel β w N cs -> (l.back f v).Rel β' w N' cs
 | .val t x, cs, h => by simp only [L.back, L.Rel] at *; exact Ty.Rel.mono (Keep.refl _ w) hN h
 | .ptr id off, cs, h => by
  simp only [L.back, L.Rel] at *
  obtain ⟨h1, h2, h3⟩ := h
  have := hβ id h1
  exact ⟨this.live ▸ h1, this.box ▸ h2, by rw [this.blk]; exact h3⟩
 | .gK id off es i sub, cs, h => by
  simp only [L.back, L.Rel] at *
  obtain ⟨h1, h2, h3⟩ := h
  have := hβ id h1
  exact ⟨this.live ▸ h1, this.box ▸ h2, by rw [this.blk]; exact h3⟩
 | .iL, cs, h => by simp only [L.back, L.Rel] at *; exact h
 | .bW id off, cs, h => by
  simp only [L.back, L.Rel] at *
  obtain ⟨c, e, h⟩ := h
  refine ⟨c, e, ?_⟩
  rcases h with h | ⟨h1, h2, h3⟩
  ·exact .inl h
  ·have := hβ id h1
   exact .inr ⟨this.live ▸ h1, this.box ▸ h2, by rw [this.blk]; exact h3⟩
 | .dD id u i off, cs, h => by
  simp only [L.back, L.Rel] at *
  obtain ⟨h1, h2, h3, c, h4, h5, h6⟩ := h
  have := hβ id h1
  obtain ⟨g1, g2, g3, g4⟩ := this.row h2
  refine ⟨this.live ▸ h1, this.box ▸ h2, by omega, c, h4, h5, fun hv => ?_⟩
  rw [this.blk, g2]
  exact h6 (by omega)
 | .fF t x off, cs, h => by simp only [L.back, L.Rel] at *; obtain ⟨c, hc, hr⟩ := h; exact ⟨c, hc, hr.mono (Keep.refl _ w) hN⟩
 | .sl id u off len, cs, h => by
  simp only [L.back, L.Rel] at *
  obtain ⟨h1, h2, h3, c, h4, h5, h6⟩ := h
  have := hβ id h1
  obtain ⟨g1, g2, g3, g4⟩ := this.row h2
  exact ⟨this.live ▸ h1, this.box ▸ h2, by omega, c, h4, h5, fun hv => (this.zGn h2).2 (h6 (by omega))⟩
 | .own id u, cs, h => by
  simp only [L.back, L.Rel] at *
  obtain ⟨h1, h2, h3, c, h4, h5, h6⟩ := h
  have := hβ id h1
  obtain ⟨g1, g2, g3, g4⟩ := this.row h2
  exact ⟨this.live ▸ h1, this.box ▸ h2, by omega, c, h4, h5, fun hv => by rw [g4]; exact (this.zGn h2).2 (h6 (by omega))⟩
 | .bG, cs, h => by simp only [L.back, L.Rel] at *; exact h
 | .clo g caps, cs, h => by
  simp only [L.back, L.Rel] at *
  obtain ⟨us, hc, hr⟩ := h
  exact ⟨us, hc, L.aY.back hβ hN hr⟩
 | .bad n, cs, h => by simp only [L.back, L.Rel] at *; exact h
 | .qV x tab, cs, h => by simp only [L.back, L.Rel] at *; exact h
 | .mp id, cs, h => by
  simp only [L.back, L.Rel] at *
  obtain ⟨h1, h2, h3⟩ := h
  have := hβ id h1
  exact ⟨this.live ▸ h1, this.box ▸ h2, by rw [this.blk]; exact h3⟩
theorem L.aY.back {f v : Nat -> Nat} (hβ : ∀ j, (β j).live = true -> Ak (β j) (β' (f j)) (v j)) (hN : ∀ b j, b < w.heap.size -> N' b j -> N b j) : ∀ {ls : List L} {us : List Value}, L.aY β w N ls us -> L.aY β' w N' (L.backs f v ls) us
 | [], us, h => by simp only [L.backs, L.aY] at *; exact h
 | l :: ls, us, h => by
  simp only [L.backs, L.aY] at *
  obtain ⟨u, r, e, h1, h2⟩ := h
  exact ⟨u, r, e, L.Rel.back hβ hN h1, L.aY.back hβ hN h2⟩
end
theorem aF.back {f v : Nat -> Nat} (hβ : ∀ j, (β j).live = true -> Ak (β j) (β' (f j)) (v j)) (hN : ∀ b j, b < w.heap.size -> N' b j -> N b j) : ∀ {ls : List L} {cs : List Value}, aF β w N ls cs -> aF β' w N' (L.backs f v ls) cs
 | [], _, h => h
 | _l :: _ls, _, ⟨c1, c2, e, h1, h2⟩ => ⟨c1, c2, e, h1.back hβ hN, aF.back hβ hN h2⟩
theorem V.Rel.back {f v : Nat -> Nat} (hβ : ∀ j, (β j).live = true -> Ak (β j) (β' (f j)) (v j)) (hN : ∀ b j, b < w.heap.size -> N' b j -> N b j) {x : V} {u : Value} (h : x.Rel β w N u) : (x.back f v).Rel β' w N' u := by
 cases x with
 | one l => exact L.Rel.back hβ hN h
 | agg ls => obtain ⟨cs, e, h⟩ := h; exact ⟨cs, e, h.back hβ hN⟩
 | _ => trivial
theorem Ob.Rel.back {f v : Nat -> Nat} (hβ : ∀ j, (β j).live = true -> Ak (β j) (β' (f j)) (v j)) (hN : ∀ b j, b < w.heap.size -> N' b j -> N b j) {id : Nat} {o : Ob} (h : o.Rel β w N (β id)) : (o.back f v id).Rel β' w N' (β' (f id)) := by
 cases o with
 | box e ls =>
  simp only [Ob.back, Ob.Rel] at *
  obtain ⟨h1, h2, b, cs, h3, h4, h5⟩ := h
  have := hβ id h1
  exact ⟨this.live ▸ h1, this.box ▸ h2, b, cs, this.blk ▸ h3, h4.back hβ hN, h5⟩
 | arr e t u rows wr =>
  simp only [Ob.back, Ob.Rel] at *
  obtain ⟨h1, h2, h3, h4, h5, h6, h7⟩ := h
  have := hβ id h1
  obtain ⟨g1, g2, g3, g4⟩ := this.row h2
  refine ⟨this.live ▸ h1, this.box ▸ h2, by omega, by rw [g2, h4], h5, by rw [g4, h6], ?_⟩
  rw [this.blk, g3]
  rcases h7 with h7 | ⟨b, cur, css, k1, k2, k3, k4⟩
  ·exact .inl h7
  ·exact .inr ⟨b, cur, css, k1, k2, k3.mono fun _ _ h => h.mono (Keep.refl _ w) hN, k4⟩
 | fm tab =>
  simp only [Ob.back, Ob.Rel] at *
  obtain ⟨h1, h2, b, es, n, h3, h4⟩ := h
  have := hβ id h1
  exact ⟨this.live ▸ h1, this.box ▸ h2, b, es, n, this.blk ▸ h3, h4⟩
end
def Cr (P : Program) (f : FuncId) (si so : Sh) (F : si.X -> Option so.X) : Prop :=
 gI P f = true ∧ ∀ x y, F x = some y -> ∀ (C : Ctx) (β : Nat -> Pl) (w : World) (xs : List Value), C.P = P -> C.fix.length <= si.os.length -> Sim C β (si.enc x) { tmps := xs.toArray, defers := [] } w ->
  Calls P f xs.toArray w fun e w' => ∃ (us : List Value) (β' : Nat -> Pl), e = .returned (kU us) ∧ Sim C β' (so.enc y) { tmps := us.toArray, defers := [] } w'
def Ic : List V -> Option (List (Sum L (List L)))
 | [] => some []
 | v :: r => match v.sum, Ic r with
  | some s, some ss => some (s :: ss)
  | _, _ => none
def zEq (vs : List V) : V :=
 match Ic vs with
 | some ss => zEo ss
 | none => .aQ
def Ew (g : Nat -> Option Ob) : Nat -> List Ob -> List Ob
 | _, [] => []
 | i, o :: r => (match g i with | some o' => o' | none => o) :: Ew g (i + 1) r
def mU (f v : Nat -> Nat) : Nat -> List Ob -> List Ob
 | _, [] => []
 | j, o :: r => o.back f v j :: mU f v (j + 1) r
def oV : List Ob -> List OS -> Bool
 | [], _ => true
 | .box .. :: r, _ :: s => oV r s
 | .fm .. :: r, _ :: s => oV r s
 | .arr .. :: r, .row .. :: s => oV r s
 | _, _ => false
def gX (ρ : List Nat) (n : Nat) (j : Nat) : Nat := match ρ[j]? with | some i => i | none => n + (j - ρ.length)
def iG (ρ : List Nat) (h : List Ob) (j : Nat) : Nat := match ρ[j]? with
 | some i => (match h[i]? with | some (.arr _ _ u _ _) => u + 1 | _ => 0)
 | none => 0
def iP (ρ : List Nat) (h hy : List Ob) : List Ob :=
 Ew (fun i => match pos i ρ 0 with | some j => (match hy[j]? with | some o => some (o.back (gX ρ h.length) (iG ρ h) j) | none => none) | none => none) 0 h ++ mU (gX ρ h.length) (iG ρ h) ρ.length (hy.drop ρ.length)
def Sj (ρ : List Nat) (h : List Ob) (si so : Sh) : Bool :=
 nodupB ρ && (aW (fun i => Nat.blt i h.length) ρ && (Nat.beq ρ.length si.os.length && (aW Ob.wr (inH ρ h) && oV (inH ρ h) so.os)))
def peM (si so : Sh) (F : si.X -> Option so.X) : PE where
 R := so.X
 use := 2
 run vs h := match si.dec ⟨vs.map (V.ren (reach vs h) h), inH (reach vs h) h⟩ with
  | some x => some (Sj (reach vs h) h si so, F x)
  | none => none
 enc y vs h := (zEq ((so.enc y).r.map (V.back (gX (reach vs h) h.length) (iG (reach vs h) h))), iP (reach vs h) h (so.enc y).h)
theorem Sk {g : Nat -> Option Ob} : ∀ {h : List Ob} {n i : Nat}, (Ew g n h)[i]? = (h[i]?).map fun o => (match g (n + i) with | some o' => o' | none => o)
 | [], n, i => by simp [Ew]
 | o :: r, n, 0 => by simp [Ew]
 | o :: r, n, i + 1 => by
  simp only [Ew, List.getElem?_cons_succ]
  rw [Sk (h := r), show n + 1 + i = n + (i + 1) by omega]
theorem mE {g : Nat -> Option Ob} : ∀ {h : List Ob} {n : Nat}, (Ew g n h).length = h.length
 | [], _ => rfl
 | _ :: r, n => congrArg (· + 1) (mE (h := r) (n := n + 1))
theorem Al {f v : Nat -> Nat} : ∀ {h : List Ob} {n i : Nat}, (mU f v n h)[i]? = (h[i]?).map fun o => o.back f v (n + i)
 | [], n, i => by simp [mU]
 | o :: r, n, 0 => by simp [mU]
 | o :: r, n, i + 1 => by
  simp only [mU, List.getElem?_cons_succ]
  rw [Al (h := r), show n + 1 + i = n + (i + 1) by omega]
theorem uX {f v : Nat -> Nat} : ∀ {h : List Ob} {n : Nat}, (mU f v n h).length = h.length
 | [], _ => rfl
 | _ :: r, n => congrArg (· + 1) (uX (h := r) (n := n + 1))
theorem Ob.Am {f v : Nat -> Nat} {j : Nat} (o : Ob) : (o.back f v j).gT = o.gT := by cases o <;> rfl
theorem Ob.oW {f v : Nat -> Nat} {j : Nat} (o : Ob) : (o.back f v j).wr = o.wr := by cases o <;> rfl
theorem pW : ∀ {hc : List Ob} {os : List OS} {j : Nat} {e : TypeId} {t : Ty} {u : Nat} {rows : List t.den} {wr : Bool}, oV hc os = true -> hc[j]? = some (.arr e t u rows wr) -> ∃ e' t', os[j]? = some (.row e' t')
 | [], _, j, _, _, _, _, _, _, h => by simp at h
 | .box .. :: r, [], j, _, _, _, _, _, hk, _ => by cases hk
 | .box .. :: r, s :: os, 0, _, _, _, _, _, _, h => by simp at h
 | .box .. :: r, s :: os, j + 1, _, _, _, _, _, hk, h => by
  obtain ⟨e', t', h'⟩ := pW (hc := r) (os := os) (j := j) hk (by simpa using h)
  exact ⟨e', t', by simpa using h'⟩
 | .fm .. :: r, [], j, _, _, _, _, _, hk, _ => by cases hk
 | .fm .. :: r, s :: os, 0, _, _, _, _, _, _, h => by simp at h
 | .fm .. :: r, s :: os, j + 1, _, _, _, _, _, hk, h => by
  obtain ⟨e', t', h'⟩ := pW (hc := r) (os := os) (j := j) hk (by simpa using h)
  exact ⟨e', t', by simpa using h'⟩
 | .arr .. :: r, .fm .. :: os, j, _, _, _, _, _, hk, _ => by cases hk
 | .arr .. :: r, [], j, _, _, _, _, _, hk, _ => by cases hk
 | .arr .. :: r, .box .. :: os, j, _, _, _, _, _, hk, _ => by cases hk
 | .arr .. :: r, .row e t :: os, 0, _, _, _, _, _, _, _ => ⟨e, t, rfl⟩
 | .arr .. :: r, .row e t :: os, j + 1, _, _, _, _, _, hk, h => by
  obtain ⟨e', t', h'⟩ := pW (hc := r) (os := os) (j := j) hk (by simpa using h)
  exact ⟨e', t', by simpa using h'⟩
theorem uY {A : Type} : ∀ {os : List OS} {x : OTs os A} {j : Nat} {e : TypeId} {t : Ty}, os[j]? = some (.row e t) -> ∃ rows, (dZ os x).1[j]? = some (.arr e t 0 rows true)
 | [], _, j, _, _, h => by simp at h
 | .box e0 ls :: r, x, 0, _, _, h => by simp at h
 | .box e0 ls :: r, x, j + 1, e, t, h => by
  obtain ⟨rows, h'⟩ := uY (os := r) (x := (bC ls x).2) (j := j) (by simpa using h)
  exact ⟨rows, by simpa [dZ] using h'⟩
 | .fm tab :: r, x, 0, _, _, h => by simp at h
 | .fm tab :: r, x, j + 1, e, t, h => by
  obtain ⟨rows, h'⟩ := uY (os := r) (x := x) (j := j) (by simpa using h)
  exact ⟨rows, by simpa [dZ] using h'⟩
 | .row e0 t0 :: r, x, 0, e, t, h => by
  simp only [List.getElem?_cons_zero, Option.some.injEq, OS.row.injEq] at h
  obtain ⟨rfl, rfl⟩ := h
  exact ⟨x.1, rfl⟩
 | .row e0 t0 :: r, x, j + 1, e, t, h => by
  obtain ⟨rows, h'⟩ := uY (os := r) (x := x.2) (j := j) (by simpa using h)
  exact ⟨rows, by simpa [dZ] using h'⟩
theorem xS {A : Type} : ∀ {os : List OS} {x : OTs os A} {j : Nat} {o : Ob}, (dZ os x).1[j]? = some o -> o.wr = true
 | [], _, j, _, h => by simp [dZ] at h
 | .box e0 ls :: r, x, 0, _, h => by simp only [dZ, List.getElem?_cons_zero, Option.some.injEq] at h; subst h; rfl
 | .box e0 ls :: r, x, j + 1, o, h => xS (os := r) (x := (bC ls x).2) (j := j) (by simpa [dZ] using h)
 | .fm tab :: r, x, 0, _, h => by simp only [dZ, List.getElem?_cons_zero, Option.some.injEq] at h; subst h; rfl
 | .fm tab :: r, x, j + 1, o, h => xS (os := r) (x := x) (j := j) (by simpa [dZ] using h)
 | .row e0 t0 :: r, x, 0, _, h => by simp only [dZ, List.getElem?_cons_zero, Option.some.injEq] at h; subst h; rfl
 | .row e0 t0 :: r, x, j + 1, o, h => xS (os := r) (x := x.2) (j := j) (by simpa [dZ] using h)
theorem Om {β : Nat -> Pl} {w : World} {N : Nat -> Nat -> Prop} : ∀ {vs : List V} {us : List Value} {ss : List (Sum L (List L))}, Ic vs = some ss -> aJ (fun v u => V.Rel β w N v u) vs us -> aJ (dY β w N) ss us
 | [], [], ss, h, _ => by simp only [Ic, Option.some.injEq] at h; subst h; trivial
 | v :: vs, u :: us, ss, h, hr => by
  simp only [Ic] at h
  split at h
  ·rename_i s ss' h1 h2
   simp only [Option.some.injEq] at h
   subst h
   exact ⟨V.Lh h1 hr.1, Om h2 hr.2⟩
  ·cases h
 | [], _ :: _, _, _, hr => hr.elim
 | _ :: _, [], _, _, hr => hr.elim
theorem zEr {β : Nat -> Pl} {w : World} {N : Nat -> Nat -> Prop} {vs : List V} {us : List Value} (hr : aJ (fun v u => V.Rel β w N v u) vs us) : (zEq vs).Rel β w N (kU us) := by
 unfold zEq
 split
 ·rename_i ss h
  exact Si (Om h hr)
 ·trivial
theorem Xc {α γ : Type} {R : α -> γ -> Prop} : ∀ {x : List α} {y : List γ}, x.length = y.length -> (∀ (i : Nat) (a : α) (b : γ), x[i]? = some a -> y[i]? = some b -> R a b) -> aJ R x y
 | [], [], _, _ => trivial
 | a :: x, b :: y, hl, h => ⟨h 0 a b rfl rfl, Xc (by simpa using hl) fun i c d hc hd => h (i + 1) c d (by simpa using hc) (by simpa using hd)⟩
 | [], _ :: _, hl, _ => by simp at hl
 | _ :: _, [], hl, _ => by simp at hl
end Go.Dec
namespace Go.Dec
section
variable {P : Program} {f : FuncId} {si so : Sh} {F : si.X -> Option so.X}
theorem Vu {ρ : List Nat} {h : List Ob} (hc : Sj ρ h si so = true) : nodupB ρ = true ∧ (∀ i ∈ ρ, i < h.length) ∧ ρ.length = si.os.length ∧ (∀ (j : Nat) (o : Ob), (inH ρ h)[j]? = some o -> o.wr = true) ∧ oV (inH ρ h) so.os = true := by
 simp only [Sj, Bool.and_eq_true] at hc
 obtain ⟨h1, h2, h3, h4, h5⟩ := hc
 refine ⟨h1, fun i hi => ?_, Nat.eq_of_beq_eq_true h3, fun j o ho => kQ h4 j o ho, h5⟩
 obtain ⟨n, hn⟩ := List.getElem?_of_mem hi
 exact Nat.le_of_ble_eq_true (kQ h2 n i hn)
def mJ : Ob -> Bool
 | .box .. => true
 | .arr .. => false
 | .fm _ => true
def uZ (β : Nat -> Pl) (h : List Ob) (i : Nat) : Option Nat := match mJ (xJ h i) with | true => (β i).blk | false => none
def inC (C : Ctx) (β : Nat -> Pl) (h : List Ob) (w : World) (ρ : List Nat) (hs : bJ C β h w) : Ctx where
 P := C.P
 N0 b j := C.N β h b j ∧ ∀ i ∈ ρ, ∀ o, h[i]? = some o -> ¬ o.blks (β i) b
 w0 := w
 sZ b j := ∃ (i : Nat) (o : Ob), i ∈ ρ ∧ h[i]? = some o ∧ o.wr = true ∧ o.at (β i) b j
 glob w' hw := C.glob w' (hs.frame.sW hw fun b j hb hm => by
  obtain ⟨i, o, _, ho, hwo, hbk⟩ := hm
  rcases (hs.dK i o b ho ⟨j, hbk⟩).2.2 with h1 | h1
  ·omega
  ·exact h1 j hwo hbk)
 fix := ρ.map (uZ β h)
theorem zLi {C : Ctx} {β : Nat -> Pl} {w : World} {h : List Ob} {ρ : List Nat} {vs : List V} {xs : List Value} (hs : bJ C β h w) (ha : iO β w (C.N β h) vs xs) (hnd : nodupB ρ = true) (hlt : ∀ i ∈ ρ, i < h.length) :
  Sim (inC C β h w ρ hs) (oP β ρ) ⟨vs.map (V.ren ρ h), inH ρ h⟩ { tmps := xs.toArray, defers := [] } w := by
 have Rq := Rp hs hlt
 have hget : ∀ i ∈ ρ, ∃ o, h[i]? = some o := fun i hi => ⟨h[i]'(hlt i hi), by simp [hlt i hi]⟩
 have hβ : ∀ {j i : Nat}, ρ[j]? = some i -> oP β ρ j = { β i with ver := 0 } := fun hi => by simp only [oP, hi]
 have hNw : ∀ b j, C.N β h b j -> b < w.heap.size := fun b j hb => by
  rcases hb with hb | ⟨id, o, ho, _, hbk⟩
  ·exact Nat.lt_of_lt_of_le (hs.n0 b j hb) hs.size
  ·exact (hs.dK id o b ho ⟨j, hbk⟩).2.1
 have hN : ∀ b j, b < w.heap.size -> (inC C β h w ρ hs).N (oP β ρ) (inH ρ h) b j -> C.N β h b j := fun b k _ hb => by
  rcases hb with hb | ⟨j, o, ho, hw, hbk⟩
  ·exact hb.1
  ·obtain ⟨i, hi, rfl⟩ := kE ho
   obtain ⟨o', ho'⟩ := hget i (List.mem_of_getElem? hi)
   rw [bY ho', Ob.Ag] at hw
   rw [bY ho', hβ hi] at hbk
   exact .inr ⟨i, o', ho', hw, Ob.lF (Ob.jR ρ h o') rfl rfl hbk⟩
 refine ⟨⟨?_, ?_, ?_, ?_, fun b j hb => hNw b j hb.1, Keep.refl _ _, Nat.le_refl _, rfl, rfl, rfl, ?_⟩, rfl, by simpa using aJ.length ha, ?_⟩
 ·intro j o ho
  obtain ⟨i, hi, rfl⟩ := kE ho
  obtain ⟨o', ho'⟩ := hget i (List.mem_of_getElem? hi)
  rw [bY ho', hβ hi]
  have hob := hs.obj i o' ho'
  cases o' with
  | box e ls =>
   simp only [Ob.ren, Ob.Rel] at *
   obtain ⟨h1, h2, b, cs, h3, h4, h5⟩ := hob
   exact ⟨h1, h2, b, cs, h3, h4.nQ Rq hN, h5⟩
  | arr e t v rows wr =>
   simp only [Ob.ren, Ob.Rel] at *
   obtain ⟨h1, h2, h3, h4, h5, h6, h7⟩ := hob
   refine ⟨h1, h2, trivial, h4, h5, h6, ?_⟩
   rcases h7 with h7 | ⟨b, cur, css, k1, k2, k3, k4⟩
   ·exact .inl h7
   ·exact .inr ⟨b, cur, css, k1, k2, k3.mono fun _ _ h => h.mono (Keep.refl _ w) hN, k4⟩
  | fm tab => simp only [Ob.ren, Ob.Rel] at *; exact hob
 ·intro j hj
  simp only [inH, List.length_map] at hj
  simp only [oP, List.getElem?_eq_none hj]
 ·intro i j o1 o2 b h1 h2 hb1 hb2
  obtain ⟨i', hi, rfl⟩ := kE h1
  obtain ⟨j', hj, rfl⟩ := kE h2
  obtain ⟨o1', ho1⟩ := hget i' (List.mem_of_getElem? hi)
  obtain ⟨o2', ho2⟩ := hget j' (List.mem_of_getElem? hj)
  rw [hβ hi, bY ho1] at hb1
  rw [hβ hj, bY ho2] at hb2
  have := hs.iM i' j' o1' o2' b ho1 ho2 (Ob.eY (Ob.jR ρ h o1') rfl rfl hb1) (Ob.eY (Ob.jR ρ h o2') rfl rfl hb2)
  subst this
  exact rX hnd hi hj
 ·intro j o b ho hb
  obtain ⟨i, hi, rfl⟩ := kE ho
  obtain ⟨o', ho'⟩ := hget i (List.mem_of_getElem? hi)
  rw [bY ho', hβ hi] at hb ⊢
  have hb' := Ob.eY (o' := o') (p' := β i) (Ob.jR ρ h o') rfl rfl hb
  exact ⟨fun k hn => hn.2 i (List.mem_of_getElem? hi) o' ho' hb', (hs.dK i o' b ho' hb').2.1, .inr fun k hw hk => ⟨i, o', List.mem_of_getElem? hi, ho', by rw [Ob.Ag] at hw; exact hw, Ob.lF (Ob.jR ρ h o') rfl rfl hk⟩⟩
 ·intro j o hj
  simp only [inC, List.getElem?_map, Option.map_eq_some_iff] at hj
  obtain ⟨i, hi, rfl⟩ := hj
  refine ⟨by simpa [inH] using (List.getElem?_eq_some_iff.1 hi).1, fun b hb => ?_⟩
  obtain ⟨o', ho'⟩ := hget i (List.mem_of_getElem? hi)
  have hob := hs.obj i o' ho'
  rw [hβ hi]
  unfold uZ at hb
  rw [bY ho'] at hb
  cases o' with
  | box e ls =>
   simp only [Ob.Rel] at hob
   exact ⟨hb, hob.2.1⟩
  | arr e t v rows wr => cases hb
  | fm tab =>
   simp only [Ob.Rel] at hob
   exact ⟨hb, hob.2.1⟩
 ·intro i v hv
  simp only [List.getElem?_map, Option.map_eq_some_iff] at hv
  obtain ⟨v0, hv0, rfl⟩ := hv
  have hl : i < xs.length := by rw [<- aJ.length ha]; exact (List.getElem?_eq_some_iff.1 hv0).1
  have hr := ha.get i (List.getElem?_eq_some_iff.1 hv0).1 hl
  have e : vs[i]'(List.getElem?_eq_some_iff.1 hv0).1 = v0 := (List.getElem?_eq_some_iff.1 hv0).2
  rw [e] at hr
  have e2 : (xs.toArray).getD i undef = xs[i] := by simp [hl]
  simp only [e2]
  exact hr.nQ Rq hN
def fD (β β' : Nat -> Pl) (ρ : List Nat) (h : List Ob) : Nat -> Pl := fun i =>
 match pos i ρ 0 with
 | some j => match mJ (xJ h i) with
  | true => β i
  | false => { β' j with ver := (β' j).ver + iG ρ h j }
 | none => if i < h.length then β i else β' (i - h.length + ρ.length)
theorem vO {ρ : List Nat} {h hy : List Ob} (hk : ρ.length <= hy.length) {id : Nat} {o : Ob} (ho : (iP ρ h hy)[id]? = some o) :
  (id < h.length ∧ pos id ρ 0 = none ∧ h[id]? = some o) ∨ (∃ j ob oy, id < h.length ∧ ρ[j]? = some id ∧ pos id ρ 0 = some j ∧ h[id]? = some ob ∧ hy[j]? = some oy ∧ o = oy.back (gX ρ h.length) (iG ρ h) j) ∨
   ∃ j oy, ρ.length <= j ∧ id = h.length + (j - ρ.length) ∧ hy[j]? = some oy ∧ o = oy.back (gX ρ h.length) (iG ρ h) j := by
 unfold iP at ho
 by_cases hid : id < h.length
 ·rw [List.getElem?_append_left (by rw [mE]; exact hid), Sk, Nat.zero_add] at ho
  obtain ⟨ob, hob⟩ : ∃ ob, h[id]? = some ob := ⟨h[id], by simp [hid]⟩
  rw [hob] at ho
  simp only [Option.map_some, Option.some.injEq] at ho
  cases hp : pos id ρ 0 with
  | none =>
   rw [hp] at ho
   simp only at ho
   exact .inl ⟨hid, rfl, by rw [hob, ho]⟩
  | some j =>
   obtain ⟨m, hm, hi⟩ := oL hp
   rw [Nat.zero_add] at hm
   subst hm
   have hj : j < hy.length := Nat.lt_of_lt_of_le (List.getElem?_eq_some_iff.1 hi).1 hk
   have hyj : hy[j]? = some hy[j] := by simp [hj]
   rw [hp] at ho
   simp only [hyj] at ho
   exact .inr (.inl ⟨j, ob, hy[j], hid, hi, rfl, hob, hyj, ho.symm⟩)
 ·rw [List.getElem?_append_right (by rw [mE]; omega), mE, Al, List.getElem?_drop] at ho
  simp only [Option.map_eq_some_iff] at ho
  obtain ⟨oy, h1, h2⟩ := ho
  exact .inr (.inr ⟨ρ.length + (id - h.length), oy, by omega, by omega, h1, h2.symm⟩)
theorem wG {ρ : List Nat} {h hy : List Ob} : (iP ρ h hy).length = h.length + (hy.length - ρ.length) := by
 simp [iP, mE, uX]
theorem zEs {C : Ctx} {β : Nat -> Pl} {h : List Ob} {w w' : World} {ρ : List Nat} (hs : bJ C β h w) (hnd : nodupB ρ = true) (hlt : ∀ i ∈ ρ, i < h.length) (hwr : ∀ (j : Nat) (o : Ob), (inH ρ h)[j]? = some o -> o.wr = true) (Sl : oV (inH ρ h) so.os = true)
  {y : so.X} {us : List Value} {β' : Nat -> Pl} (hs' : Sim (inC C β h w ρ hs) β' (so.enc y) { tmps := us.toArray, defers := [] } w') :
  ∃ β2, Moves β β2 ∧ Keep (C.N β h) w w' ∧ (∀ b j, b < w.heap.size -> C.N β2 (iP ρ h (so.enc y).h) b j -> C.N β h b j) ∧ bJ C β2 (iP ρ h (so.enc y).h) w' ∧
   aJ (fun v u => V.Rel β2 w' (C.N β2 (iP ρ h (so.enc y).h)) v u) ((so.enc y).r.map (V.back (gX ρ h.length) (iG ρ h))) us := by
 generalize hhy : (so.enc y).h = hy at *
 have hget : ∀ i ∈ ρ, ∃ o, h[i]? = some o := fun i hi => ⟨h[i]'(hlt i hi), by simp [hlt i hi]⟩
 have hfix : ∀ {j i : Nat}, ρ[j]? = some i -> j < hy.length ∧ ∀ b, uZ β h i = some b -> (β' j).blk = some b ∧ (β' j).box = true := fun {j i} hi => by
  have := hs'.heap.fixed j (uZ β h i) (by simp [inC, hi])
  rw [hhy] at this
  exact this
 have hk : ρ.length <= hy.length := by
  rcases Nat.lt_or_ge hy.length ρ.length with h1 | h1
  ·have := (hfix (j := hy.length) (i := ρ[hy.length]) (by simp [h1])).1
   omega
  ·exact h1
 have zTu : ∀ i ∈ ρ, ∀ o, h[i]? = some o -> o.wr = true := fun i hi o ho => by
  obtain ⟨n, hn⟩ := List.getElem?_of_mem hi
  have := hwr n ((xJ h i).ren ρ h) (by simp [inH, hn])
  rw [Ob.Ag, bY ho] at this
  exact this
 have hrow : ∀ {j i : Nat} {o : Ob}, ρ[j]? = some i -> h[i]? = some o -> mJ o = false -> ∃ oy, hy[j]? = some oy ∧ mJ oy = false := fun {j i o} hi ho hb => by
  cases o with
  | box e ls => cases hb
  | fm tab => cases hb
  | arr e t u rows wr =>
   obtain ⟨e', t', hrw⟩ := pW (j := j) (e := e) (t := t) (u := 0) (rows := rows) (wr := wr) Sl (by simp [inH, hi, bY ho, Ob.ren])
   obtain ⟨rows', hr'⟩ := uY (A := Unit) (x := (uT so.rs (List.replicate so.n .aQ) y).2) hrw
   exact ⟨_, by rw [<- hhy]; exact hr', rfl⟩
 have Li := hs'.heap.obj
 rw [hhy] at Li
 have zCg : ∀ j, hy.length <= j -> (β' j).live = false := fun j hj => hs'.heap.dead j (by rw [hhy]; exact hj)
 have wH := hs'.heap.dK
 rw [hhy] at wH
 have Xd := hs'.heap.iM
 rw [hhy] at Xd
 have Zj : ∀ {j i : Nat} {o : Ob}, ρ[j]? = some i -> h[i]? = some o -> mJ o = true -> (β' j).box = true ∧ (β' j).blk = (β i).blk ∧ (β i).box = true ∧ (β i).live = true ∧ (β' j).live = true := fun {j i o} hi ho hb => by
  have hob := hs.obj i o ho
  obtain ⟨hj, hfx⟩ := hfix hi
  cases o with
  | arr => cases hb
  | fm tab =>
   simp only [Ob.Rel] at hob
   obtain ⟨k1, k2, b, es, n, k3, _⟩ := hob
   have hfo : uZ β h i = some b := by simp only [uZ, bY ho, mJ, k3]
   obtain ⟨g1, g2⟩ := hfx b hfo
   exact ⟨g2, by rw [g1, k3], k2, k1, (Li j hy[j] (by simp [hj])).live⟩
  | box e ls =>
   simp only [Ob.Rel] at hob
   obtain ⟨k1, k2, b, cs, k3, _⟩ := hob
   have hfo : uZ β h i = some b := by simp only [uZ, bY ho, mJ, k3]
   obtain ⟨g1, g2⟩ := hfx b hfo
   exact ⟨g2, by rw [g1, k3], k2, k1, (Li j hy[j] (by simp [hj])).live⟩
 have zEt : ∀ {j i : Nat} {o : Ob}, ρ[j]? = some i -> h[i]? = some o -> mJ o = true -> fD β β' ρ h i = β i := fun hi ho hb => by
  simp only [fD, Wv hnd hi, bY ho, hb]
 have zEu : ∀ {j i : Nat} {o : Ob}, ρ[j]? = some i -> h[i]? = some o -> mJ o = false -> fD β β' ρ h i = { β' j with ver := (β' j).ver + iG ρ h j } := fun hi ho hb => by
  simp only [fD, Wv hnd hi, bY ho, hb]
 have Zk : ∀ {i : Nat}, pos i ρ 0 = none -> i < h.length -> fD β β' ρ h i = β i := fun hp hi => by
  simp only [fD, hp, if_pos hi]
 have zGo : ∀ {i : Nat}, h.length <= i -> pos i ρ 0 = none := fun {i} hi => by
  cases hp : pos i ρ 0 with
  | none => rfl
  | some j =>
   obtain ⟨m, _, hm⟩ := oL hp
   have := hlt i (List.mem_of_getElem? hm)
   omega
 have zLj : ∀ {j : Nat}, ρ.length <= j -> fD β β' ρ h (h.length + (j - ρ.length)) = β' j := fun {j} hj => by
  simp only [fD, zGo (Nat.le_add_right _ _)]
  rw [if_neg (by omega)]
  congr 1
  omega
 have eF : ∀ {j i : Nat}, ρ[j]? = some i -> gX ρ h.length j = i := fun hi => by simp only [gX, hi]
 have eF2 : ∀ {j : Nat}, ρ.length <= j -> gX ρ h.length j = h.length + (j - ρ.length) := fun hj => by simp only [gX, List.getElem?_eq_none hj]
 have eU2 : ∀ {j : Nat}, ρ.length <= j -> iG ρ h j = 0 := fun hj => by simp only [iG, List.getElem?_eq_none hj]
 have hpl : ∀ j, (β' j).live = true -> Ak (β' j) (fD β β' ρ h (gX ρ h.length j)) (iG ρ h j) := fun j hl => by
  have hj : j < hy.length := by
   rcases Nat.lt_or_ge j hy.length with h1 | h1
   ·exact h1
   ·rw [zCg j h1] at hl; cases hl
  cases hi : ρ[j]? with
  | some i =>
   rw [eF hi]
   obtain ⟨o, ho⟩ := hget i (List.mem_of_getElem? hi)
   cases hb : mJ o with
   | true =>
    obtain ⟨g1, g2, g3, g4, g5⟩ := Zj hi ho hb
    rw [zEt hi ho hb]
    exact ⟨by rw [g4, hl], by rw [g3, g1], g2.symm, fun h => by rw [g1] at h; cases h⟩
   | false =>
    rw [zEu hi ho hb]
    exact ⟨rfl, rfl, rfl, fun _ => ⟨rfl, rfl, rfl, rfl⟩⟩
  | none =>
   have hge : ρ.length <= j := List.getElem?_eq_none_iff.1 hi
   rw [eF2 hge, zLj hge, eU2 hge]
   exact ⟨rfl, rfl, rfl, fun _ => ⟨rfl, rfl, rfl, rfl⟩⟩
 have hown : ∀ {b k : Nat}, (inC C β h w ρ hs).sZ b k -> ∃ (i : Nat) (o : Ob), i ∈ ρ ∧ h[i]? = some o ∧ o.wr = true ∧ o.at (β i) b k := fun {b k} hb => hb
 have hkeep : Keep (C.N β h) w w' := hs'.heap.frame.weaken fun k j ho => by
  obtain ⟨i, o, _, h2, h3, h4⟩ := hown ho
  exact .inr ⟨i, o, h2, h3, h4⟩
 have hat : ∀ {id j : Nat} {ob oy : Ob}, ρ[j]? = some id -> h[id]? = some ob -> hy[j]? = some oy -> ∀ b k, (oy.back (gX ρ h.length) (iG ρ h) j).at (fD β β' ρ h id) b k -> oy.at (β' j) b k := fun {id j ob oy} hi hob hoy b k hbk => by
  cases hb2 : mJ ob with
  | true =>
   have hp : oy.gT = false := (Li j oy hoy).zDm (Zj hi hob hb2).1
   rw [zEt hi hob hb2] at hbk
   have := Ob.Ej (by simp [Ob.plain, Ob.Am, hp]) hbk
   exact Ob.jF (by rw [(Zj hi hob hb2).2.1]; exact this)
  | false =>
   rw [zEu hi hob hb2] at hbk
   exact Ob.lF (Ob.Am oy) rfl rfl hbk
 have zEv : ∀ {j : Nat} {oy : Ob}, ρ.length <= j -> ∀ b k, (oy.back (gX ρ h.length) (iG ρ h) j).at (fD β β' ρ h (h.length + (j - ρ.length))) b k -> oy.at (β' j) b k := fun {j oy} hj b k hbk => by
  rw [zLj hj] at hbk
  exact Ob.lF (Ob.Am oy) rfl rfl hbk
 have Sm : Moves β (fD β β' ρ h) := fun id hl => by
  have hid : id < h.length := by
   rcases Nat.lt_or_ge id h.length with h1 | h1
   ·exact h1
   ·rw [hs.dead id h1] at hl; cases hl
  cases hp : pos id ρ 0 with
  | none => exact .inl (Zk hp hid)
  | some j =>
   obtain ⟨m, hm, hi⟩ := oL hp
   rw [Nat.zero_add] at hm
   subst hm
   obtain ⟨o, ho⟩ := hget id (List.mem_of_getElem? hi)
   cases hb : mJ o with
   | true => exact .inl (zEt hi ho hb)
   | false =>
    obtain ⟨oy, hoy, hby⟩ := hrow hi ho hb
    have hY := Li j oy hoy
    have hO := hs.obj id o ho
    rw [zEu hi ho hb]
    cases o with
    | box => cases hb
    | fm => cases hb
    | arr e t u rows wr =>
     cases oy with
     | box => cases hby
     | fm => cases hby
     | arr e' t' u' rows' wr' =>
      simp only [Ob.Rel] at hY hO
      refine .inr ⟨hO.2.1, hY.1, hY.2.1, ?_⟩
      simp only [iG, hi, ho]
      have := hO.2.2.1
      omega
 have hbl : ∀ {b k : Nat}, b < w.heap.size -> w.heap.size <= b ∨ (inC C β h w ρ hs).sZ b k -> C.N β h b k := fun {b k} hb ho => by
  rcases ho with ho | ho
  ·omega
  ·obtain ⟨i, o, _, h2, h3, h4⟩ := hown ho
   exact .inr ⟨i, o, h2, h3, h4⟩
 have zGp : ∀ b j, b < w.heap.size -> C.N (fD β β' ρ h) (iP ρ h hy) b j -> C.N β h b j := fun b k hb hn => by
  rcases hn with hn | ⟨id, o, ho, hw, hbk⟩
  ·exact .inl hn
  ·rcases vO hk ho with ⟨hid, hp, ho⟩ | ⟨j, ob, oy, hid, hi, hp, hob, hoy, rfl⟩ | ⟨j, oy, hj, rfl, hoy, rfl⟩
   ·rw [Zk hp hid] at hbk
    exact .inr ⟨id, o, ho, hw, hbk⟩
   ·rw [Ob.oW] at hw
    have hbk := hat hi hob hoy b k hbk
    exact hbl hb ((wH j oy b hoy ⟨k, hbk⟩).2.2.imp (fun h => h) fun h => h k hw hbk)
   ·rw [Ob.oW] at hw
    have hbk := zEv hj b k hbk
    exact hbl hb ((wH j oy b hoy ⟨k, hbk⟩).2.2.imp (fun h => h) fun h => h k hw hbk)
 have zGq : ∀ b j, b < w'.heap.size -> C.N (fD β β' ρ h) (iP ρ h hy) b j -> (inC C β h w ρ hs).N β' (so.enc y).h b j := fun b k _ hn => by
  rw [hhy]
  rcases hn with hn | ⟨id, o, ho, hw, hbk⟩
  ·exact .inl ⟨.inl hn, fun i hi o ho hbk => (hs.dK i o b ho hbk).1 k hn⟩
  ·rcases vO hk ho with ⟨hid, hp, ho⟩ | ⟨j, ob, oy, hid, hi, hp, hob, hoy, rfl⟩ | ⟨j, oy, hj, rfl, hoy, rfl⟩
   ·rw [Zk hp hid] at hbk
    refine .inl ⟨.inr ⟨id, o, ho, hw, hbk⟩, fun i hi oi hoi hbi => ?_⟩
    have := hs.iM id i o oi b ho hoi ⟨k, hbk⟩ hbi
    subst this
    exact tV hp hi
   ·rw [Ob.oW] at hw
    exact .inr ⟨j, oy, hoy, hw, hat hi hob hoy b k hbk⟩
   ·rw [Ob.oW] at hw
    exact .inr ⟨j, oy, hoy, hw, zEv hj b k hbk⟩
 have La : ∀ {id : Nat} {o : Ob} {b : Nat}, pos id ρ 0 = none -> h[id]? = some o -> o.blks (β id) b -> b < w.heap.size ∧ ∀ k, ¬ (inC C β h w ρ hs).sZ b k := fun {id o b} hp ho hb => by
  refine ⟨(hs.dK id o b ho hb).2.1, fun k hw => ?_⟩
  obtain ⟨i, oi, h1, h2, _, h4⟩ := hown hw
  have := hs.iM id i o oi b ho h2 hb ⟨k, h4⟩
  subst this
  exact tV hp h1
 have hcls : ∀ {id : Nat} {o : Ob}, (iP ρ h hy)[id]? = some o -> (pos id ρ 0 = none ∧ h[id]? = some o ∧ fD β β' ρ h id = β id) ∨ ∃ j oy, hy[j]? = some oy ∧ id = gX ρ h.length j ∧ o = oy.back (gX ρ h.length) (iG ρ h) j ∧ ∀ b k, o.at (fD β β' ρ h id) b k -> oy.at (β' j) b k := fun {id o} ho => by
  rcases vO hk ho with ⟨hid, hp, ho⟩ | ⟨j, ob, oy, hid, hi, hp, hob, hoy, rfl⟩ | ⟨j, oy, hj, rfl, hoy, rfl⟩
  ·exact .inl ⟨hp, ho, Zk hp hid⟩
  ·exact .inr ⟨j, oy, hoy, (eF hi).symm, rfl, hat hi hob hoy⟩
  ·exact .inr ⟨j, oy, hoy, (eF2 hj).symm, rfl, zEv hj⟩
 have zLk : ∀ {j : Nat} {oy : Ob}, hy[j]? = some oy -> (oy.back (gX ρ h.length) (iG ρ h) j).wr = true := fun {j oy} hoy => by
  rw [Ob.oW, <- hhy] at *
  exact xS hoy
 have zLl : ∀ {j id : Nat} {oy : Ob} {b : Nat}, hy[j]? = some oy -> (∀ b k, (oy.back (gX ρ h.length) (iG ρ h) j).at (fD β β' ρ h id) b k -> oy.at (β' j) b k) -> (oy.back (gX ρ h.length) (iG ρ h) j).blks (fD β β' ρ h id) b -> b < w.heap.size -> (∀ k, ¬ (inC C β h w ρ hs).sZ b k) -> False := fun {j id oy b} hoy eb hb g1 g2 => by
  obtain ⟨q, hb⟩ := hb
  rcases (wH j oy b hoy ⟨q, eb b q hb⟩).2.2 with h3 | h3
  ·have h3 : w.heap.size <= b := h3
   omega
  ·have hw := zLk hoy
   rw [Ob.oW] at hw
   exact g2 q (h3 q hw (eb b q hb))
 have hHS : bJ C (fD β β' ρ h) (iP ρ h hy) w' := by
  refine ⟨?_, ?_, ?_, ?_, hs.n0, ?_, Nat.le_trans hs.size hs'.heap.size, hs'.heap.os.trans hs.os, hs'.heap.tape.trans hs.tape, hs'.heap.output.trans hs.output, ?_⟩
  ·intro id o ho
   rcases hcls ho with ⟨hp, ho, eb⟩ | ⟨j, oy, hoy, rfl, rfl, _⟩
   ·rw [eb]
    exact (hs.obj id o ho).mono Sm hkeep zGp fun b hb => hs'.heap.frame.block b (La hp ho hb).1 (La hp ho hb).2
   ·have hY := Li j oy hoy
    rw [<- hhy] at hY
    exact Ob.Rel.back (f := gX ρ h.length) (v := iG ρ h) hpl zGq hY
  ·intro id hid
   rw [wG] at hid
   have hp := zGo (i := id) (by omega)
   simp only [fD, hp]
   rw [if_neg (by omega)]
   exact zCg _ (by omega)
  ·intro i j o1 o2 b h1 h2 hb1 hb2
   rcases hcls h1 with ⟨hp1, ho1, eb1⟩ | ⟨j1, oy1, zLm, rfl, rfl, eb1⟩ <;> rcases hcls h2 with ⟨hp2, ho2, eb2⟩ | ⟨j2, oy2, zLn, rfl, rfl, eb2⟩
   ·rw [eb1] at hb1
    rw [eb2] at hb2
    exact hs.iM i j o1 o2 b ho1 ho2 hb1 hb2
   ·exfalso
    rw [eb1] at hb1
    obtain ⟨g1, g2⟩ := La hp1 ho1 hb1
    exact zLl zLn eb2 hb2 g1 g2
   ·exfalso
    rw [eb2] at hb2
    obtain ⟨g1, g2⟩ := La hp2 ho2 hb2
    exact zLl zLm eb1 hb1 g1 g2
   ·obtain ⟨q1, hb1⟩ := hb1
    obtain ⟨q2, hb2⟩ := hb2
    rw [Xd j1 j2 oy1 oy2 b zLm zLn ⟨q1, eb1 b q1 hb1⟩ ⟨q2, eb2 b q2 hb2⟩]
  ·intro id o b ho hb
   rcases hcls ho with ⟨hp, ho, eb⟩ | ⟨j, oy, hoy, rfl, rfl, eb⟩
   ·rw [eb] at hb ⊢
    obtain ⟨k1, k2, k3⟩ := hs.dK id o b ho hb
    exact ⟨k1, Nat.lt_of_lt_of_le k2 hs'.heap.size, k3⟩
   ·obtain ⟨q, hb⟩ := hb
    obtain ⟨k1, k2, k3⟩ := wH j oy b hoy ⟨q, eb b q hb⟩
    rcases Nat.lt_or_ge b w.heap.size with hlt | hge
    ·have hold : ∀ k, (oy.back (gX ρ h.length) (iG ρ h) j).wr = true -> (oy.back (gX ρ h.length) (iG ρ h) j).at (fD β β' ρ h (gX ρ h.length j)) b k -> ∃ (i : Nat) (o : Ob), i ∈ ρ ∧ h[i]? = some o ∧ o.wr = true ∧ o.at (β i) b k := fun k hw hk => by
      rw [Ob.oW] at hw
      rcases k3 with k3 | k3
      ·have k3 : w.heap.size <= b := k3
       omega
      ·exact hown (k3 k hw (eb b k hk))
     have hwy : (oy.back (gX ρ h.length) (iG ρ h) j).wr = true := zLk hoy
     obtain ⟨i, oi, h1, h2, h3, h4⟩ := hold q hwy hb
     obtain ⟨g1, g2, g3⟩ := hs.dK i oi b h2 ⟨q, h4⟩
     refine ⟨g1, k2, ?_⟩
     rcases g3 with g3 | g3
     ·exact .inl g3
     ·right
      intro k hw hk
      obtain ⟨i2, oi2, f1, f2, f3, f4⟩ := hold k hw hk
      rcases (hs.dK i2 oi2 b f2 ⟨k, f4⟩).2.2 with g5 | g5
      ·have := hs.iM i i2 oi oi2 b h2 f2 ⟨q, h4⟩ ⟨k, f4⟩
       subst this
       rw [h2] at f2
       simp only [Option.some.injEq] at f2
       subst f2
       exact g3 k f3 f4
      ·exact g5 k f3 f4
    ·have h0 := hs.size
     exact ⟨fun _ hn => by have := hs.n0 b _ hn; omega, k2, .inl (by omega)⟩
  ·refine hs.frame.sW hs'.heap.frame fun b j hb ho => ?_
   obtain ⟨i, oi, h1, h2, h3, h4⟩ := hown ho
   rcases (hs.dK i oi b h2 ⟨j, h4⟩).2.2 with h5 | h5
   ·omega
   ·exact h5 j h3 h4
  ·intro j o hj
   obtain ⟨k1, k2⟩ := hs.fixed j o hj
   refine ⟨by rw [wG]; omega, fun b hb => ?_⟩
   obtain ⟨k3, k4⟩ := k2 b hb
   have hoj : h[j]? = some h[j] := by simp [k1]
   rcases Sm j (hs.obj j _ hoj).live with e | ⟨e, _⟩
   ·rw [e]; exact ⟨k3, k4⟩
   ·rw [k4] at e; cases e
 refine ⟨fD β β' ρ h, Sm, hkeep, zGp, hHS, ?_⟩
 refine Xc (by have := hs'.size; simpa using this) fun i v u hv hu => ?_
 simp only [List.getElem?_map, Option.map_eq_some_iff] at hv
 obtain ⟨v0, hv0, rfl⟩ := hv
 have hr := hs'.reg i v0 hv0
 have e : (us.toArray).getD i undef = u := by
  rw [Array.getD_eq_getD_getElem?]
  simp [hu]
 simp only [e] at hr
 exact hr.back (f := gX ρ h.length) (v := iG ρ h) hpl zGq
theorem Ie (hM : Cr P f si so F) : (peM si so F).OK P f := by
 refine ⟨hM.1, fun vs h y hr C β w xs hP hs ha => ?_, fun h => (by cases h), fun h => (by cases h)⟩
 subst hP
 simp only [peM] at hr
 split at hr
 case h_2 => cases hr
 rename_i x hx
 simp only [Option.some.injEq, Prod.mk.injEq] at hr
 obtain ⟨hok, hF⟩ := hr
 obtain ⟨hnd, hlt, hlen, hwr, Sl⟩ := Vu hok
 have Kv := Wx hx (zLi hs ha hnd hlt)
 refine (hM.2 x y hF (inC C β h w _ hs) _ w xs rfl (by simp [inC, hlen]) Kv).mono ?_
 rintro e w' ⟨us, β', rfl, hs'⟩
 obtain ⟨β2, h1, h2, h3, h4, h5⟩ := zEs hs hnd hlt hwr Sl hs'
 exact ⟨_, _, β2, ⟨rfl, rfl⟩, h1, h2, h3, h4, _, rfl, zEr h5⟩
end
end Go.Dec
namespace Go.Dec
section
variable {T : Tab} {C : Ctx} {β : Nat -> Pl} {w : World}
def Ey (T : Tab) (σ : St) : ResultVar -> Option (Bool × V)
 | .tmp t => some (true, σ.r.getD t .aQ)
 | .cell t ty =>
  match σ.r.getD t .aQ with
  | .one l => loadAt T σ.h ty l
  | _ => none
def gY (T : Tab) (σ : St) : List ResultVar -> Option (Bool × List V)
 | [] => some (true, [])
 | x :: r =>
  match Ey T σ x, gY T σ r with
  | some (c, l), some (d, ls) => some (c && d, l :: ls)
  | _, _ => none
theorem zEw {σ : St} {a : Act} {rv : ResultVar} {v : V} (hT : aR C.P T) (hs : Sim C β σ a w) (h : Ey T σ rv = some (true, v)) :
  ∃ x, (jT a.tmps rv).run C.P w = .ok x w ∧ v.Rel β w (C.N β σ.h) x := by
 cases rv with
 | tmp t =>
  simp only [Ey, Option.some.injEq, Prod.mk.injEq, true_and] at h
  subst h
  exact ⟨a.tmps.getD t undef, rfl, xP hs t⟩
 | cell t ty =>
  simp only [Ey] at h
  have hr := xP hs t
  split at h
  ·rename_i l hl
   rw [hl] at hr
   obtain ⟨y, h1, h2⟩ := rJ hT h hs.heap hr
   obtain ⟨ad, h3, h4⟩ := vN h1
   refine ⟨y, ?_, h2⟩
   simp only [jT, h3, asAddr, Sem.run_bind, Sem.run_pure, Result.andThen_ok, h4]
  ·cases h
theorem Oo {σ : St} {a : Act} (hT : aR C.P T) (hs : Sim C β σ a w) : ∀ {rs : List ResultVar} {vs : List V}, gY T σ rs = some (true, vs) ->
  ∀ acc : Array Value, ∃ us : List Value, (rs.foldlM (fun (acc : Array Value) rv => do let v <- jT a.tmps rv; pure (acc.push v)) acc).run C.P w = .ok (acc ++ us.toArray) w ∧ aJ (fun v u => V.Rel β w (C.N β σ.h) v u) vs us
 | [], vs, h, acc => by
  simp only [gY, Option.some.injEq, Prod.mk.injEq, true_and] at h
  subst h
  exact ⟨[], by simp, trivial⟩
 | rv :: rs, vs, h, acc => by
  simp only [gY] at h
  split at h
  ·rename_i c s d r h1 h2
   simp only [Option.some.injEq, Prod.mk.injEq, Bool.and_eq_true] at h
   obtain ⟨⟨rfl, rfl⟩, rfl⟩ := h
   obtain ⟨x, g1, g2⟩ := zEw hT hs h1
   obtain ⟨us, g4, g5⟩ := Oo hT hs h2 (acc.push x)
   refine ⟨x :: us, ?_, ⟨g2, g5⟩⟩
   simp only [List.foldlM_cons, Sem.run_bind, g1, Result.andThen_ok, Sem.run_pure, g4]
   simp
  ·cases h
theorem Sn {σ : St} {a : Act} {fn : Func} {vs : List V} (hT : aR C.P T) (hs : Sim C β σ a w) (h : gY T σ fn.results.toList = some (true, vs)) :
  ∃ us : List Value, (results fn a.tmps).run C.P w = .ok (kU us) w ∧ aJ (fun v u => V.Rel β w (C.N β σ.h) v u) vs us := by
 obtain ⟨us, h1, h2⟩ := Oo hT hs h #[]
 refine ⟨us, ?_, h2⟩
 have e0 : results fn a.tmps = (do let vs <- fn.results.mapM (jT a.tmps); pure (if h : vs.size = 1 then vs[0] else .tuple vs)) := by
  unfold results
  congr 1
 have hm : (fn.results.mapM (jT a.tmps) : Sem (Array Value)).run C.P w = .ok us.toArray w := by
  rw [Array.mapM_eq_foldlM, <- Array.foldlM_toList]
  have e : (fun (acc : Array Value) rv => do let v <- jT a.tmps rv; pure (acc.push v) : Array Value -> ResultVar -> Sem (Array Value)) = (fun (acc : Array Value) rv => acc.push <$> jT a.tmps rv) := by
   funext acc rv
   rfl
  rw [e] at h1
  simpa using h1
 rw [e0]
 simp only [Sem.run_bind, hm, Result.andThen_ok, Sem.run_pure]
 match us with
 | [] => rfl
 | [u] => rfl
 | u :: v :: us => simp [kU]
theorem zEx {σ : St} {a : Act} {vs : List V} {us : List Value} (hs : Sim C β σ a w) (h : aJ (fun v u => V.Rel β w (C.N β σ.h) v u) vs us) : Sim C β ⟨vs, σ.h⟩ { tmps := us.toArray, defers := [] } w := by
 refine ⟨hs.heap, rfl, by simpa using h.length, fun i v hv => ?_⟩
 have hl : i < us.length := by rw [<- h.length]; exact (List.getElem?_eq_some_iff.1 hv).1
 have hr := h.get i (List.getElem?_eq_some_iff.1 hv).1 hl
 rw [(List.getElem?_eq_some_iff.1 hv).2] at hr
 have e2 : (us.toArray).getD i undef = us[i] := by simp [hl]
 simp only [e2]
 exact hr
def Sq (T : Tab) {ρ : Type} (res : List ResultVar) (so : Sh) (co : List Co) (σ : St) (g : so.X -> Option ρ) : Option ρ :=
 match gY T σ res with
 | some (c, vs) => chk c (enter T so co ⟨vs, σ.h⟩ g)
 | none => none
def Zl (T : Tab) (res : List ResultVar) (so : Sh) (co : List Co) : K so.X := fun e σ =>
 match e with
 | .normal => Sq T res so co σ some
 | .ret => Sq T res so co σ some
 | _ => none
theorem zEy {σ : St} {a : Act} {fn : Func} {so : Sh} {co : List Co} {ρ : Type} {g : so.X -> Option ρ} {r : ρ} {kf : Nat} (hT : aR C.P T) (hkf : C.fix.length <= kf) (hfx : aW (Co.fx kf) co = true) (hs : Sim C β σ a w) (h : Sq T fn.results.toList so co σ g = some r) :
  ∃ (us : List Value) (β' : Nat -> Pl) (y : so.X), (results fn a.tmps).run C.P w = .ok (kU us) w ∧ Sim C β' (so.enc y) { tmps := us.toArray, defers := [] } w ∧ g y = some r := by
 unfold Sq at h
 split at h
 ·rename_i c vs hvs
  obtain ⟨rfl, h⟩ := jP h
  obtain ⟨us, h1, h2⟩ := Sn hT hs hvs
  obtain ⟨β', _, y, h3, h4⟩ := qM hT hkf hfx h (zEx hs h2)
  exact ⟨us, β', y, h1, h3, h4⟩
 ·cases h
end
section
variable {P : Program} {T : Tab} {f : FuncId} {fn : Func} {c : Code} {si so sp : Sh}
theorem zCh {C : Ctx} {β : Nat -> Pl} {w : World} {σ : St} {xs : List Value} (n : Nat) (hs : Sim C β σ { tmps := xs.toArray, defers := [] } w) :
  Sim C β ⟨uV σ.r n, σ.h⟩ { tmps := xs.toArray ++ Array.replicate (n - xs.toArray.size) undef, defers := [] } w := by
 have hl : σ.r.length = xs.length := by simpa using hs.size
 refine ⟨hs.heap, rfl, by simp [uV, hl], fun i u hu => ?_⟩
 simp only [uV] at hu
 by_cases hi : i < σ.r.length
 ·rw [List.getElem?_append_left hi] at hu
  have hr := hs.reg i u hu
  have e : (xs.toArray ++ Array.replicate (n - xs.toArray.size) undef).getD i undef = (xs.toArray).getD i undef := by
   rw [Array.getD_eq_getD_getElem?, Array.getD_eq_getD_getElem?, Array.getElem?_append_left (by simpa using by omega)]
  rw [e]
  exact hr
 ·rw [List.getElem?_append_right (by omega), List.getElem?_replicate] at hu
  split at hu
  ·simp only [Option.some.injEq] at hu; subst hu; trivial
  ·cases hu
theorem xU {F : si.X -> Option so.X} {Γ : Orc so.X} {an : An so.X} {co : List Co} (hf : P.funcs[f]? = some fn) (hb : fn.body = some c) (hh : gI P f = true) (hT : aR P T) (hΓ : eT P Γ) (hm : P.follows .mixedOrders = true)
  (ha : Rv P si.os.length c an) (hfx : an.fx si.os.length = true) (hco : aW (Co.fx si.os.length) co = true)
  (h : ∀ x, ev Γ T c an ⟨uV (si.enc x).r fn.ntmps, (si.enc x).h⟩ (Zl T fn.results.toList so co) = F x) : Cr P f si so F := by
 refine ⟨hh, fun x y hF C β w xs hP hkf hs => ?_⟩
 rw [<- h x] at hF
 refine calls_of_wp hf hb ?_
 refine Rx (P := P) hT hΓ hm c an ha hfx _ _ y hF C β _ w _ hP hkf (zCh fn.ntmps hs) ?_
 intro e x' σ' β' a' w' hs' hx' hk
 have fin : Sq T fn.results.toList so co σ' some = some y -> x' = .ret ∨ x' = .normal -> bodyPost P fn (fun e w' => ∃ (us : List Value) (β' : Nat -> Pl), e = .returned (kU us) ∧ Sim C β' (so.enc y) { tmps := us.toArray, defers := [] } w') x' a' w' := by
  intro hk hx'
  subst hP
  obtain ⟨us, β2, y', h1, h2, h3⟩ := zEy (fn := fn) hT hkf hco hs' hk
  obtain rfl := Option.some.inj h3
  rcases hx' with rfl | rfl
  ·exact ⟨hs'.defers, _, h1, us, β2, rfl, h2⟩
  ·exact ⟨hs'.defers, _, h1, us, β2, rfl, h2⟩
 cases e with
 | normal => obtain rfl := hx'; exact fin hk (.inr rfl)
 | ret => obtain rfl := hx'; exact fin hk (.inl rfl)
 | exit i => simp [Zl] at hk
 | goto l => simp [Zl] at hk
 | pan t u => simp [Zl] at hk
structure GE (ρ : Type) where
 f : FuncId
 run : List V -> List Ob -> (Out -> List Ob -> Option ρ) -> Option ρ
structure GE.OK (P : Program) {ρ : Type} (g : GE ρ) : Prop where
 ok : ∀ vs h k r, g.run vs h k = some r -> gI P g.f = true ∧ rQ P g.f vs h fun out h' => k out h' = some r ∧ ∀ id, id < h.length -> id ∉ reach vs h -> h'[id]? = h[id]?
def zEz {ρ : Type} : List (GE ρ) -> FuncId -> List V -> List Ob -> (Out -> List Ob -> Option ρ) -> Option ρ
 | [], _, _, _, _ => none
 | g :: r, f, vs, h, k => match Nat.beq g.f f with
  | true => g.run vs h k
  | false => zEz r f vs h k
def tX (ρ : Type) (l : List (FuncId × PE)) (m : List (GE ρ)) : Orc ρ := ⟨pes l, zEz m⟩
theorem lK {ρ : Type} {l : List (FuncId × PE)} {m : List (GE ρ)} (h : ∀ p ∈ l, p.2.OK P p.1) (hm : ∀ g ∈ m, g.OK P) : eT P (tX ρ l m) := by
 refine ⟨(zLh (ρ := ρ) h).pure, fun f vs hp k r hr => ?_⟩
 simp only [tX] at hr
 induction m with
 | nil => cases hr
 | cons g m ih =>
  simp only [zEz] at hr
  split at hr
  ·rename_i hb
   have := Nat.eq_of_beq_eq_true hb
   subst this
   exact (hm g (.head _)).ok vs hp k r hr
  ·exact ih (fun g hg => hm g (.tail _ hg)) hr
theorem lM {ρ : Type} : ∀ g ∈ ([] : List (GE ρ)), g.OK P := fun _ h => by cases h
end
end Go.Dec
