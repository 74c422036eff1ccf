/- Part of a proof over this seat: a library of my own, and what it says of this seat. No statement is proved here. -/
import Derived.Test.YthhbdkdofhhoeaaGreatDoorPartAO
namespace Go.Dec
@[reducible] def bH : List Ty -> Type
 | [] => Unit
 | [t] => t.den
 | t :: u :: r => t.den × bH (u :: r)
def lQ : List Value -> Value
 | [u] => u
 | us => .tuple us.toArray
def zPl (bor : Bool) (N : Nat -> Prop) : Nat -> Prop :=
 match bor with
 | true => fun _ => False
 | false => N
def Ty.eT (w : World) (N : Nat -> Prop) (t : Ty) (x : t.den) (u : Value) : Prop :=
 if t.isAgg then ∃ cs : List Value, u = .agg cs.toArray ∧ t.Rel w N x cs else t.Rel w N x [u]
def eX (w : World) (N : Nat -> Prop) : (ts : List Ty) -> bH ts -> List Value -> Prop
 | [], _, us => us = []
 | [t], x, us => ∃ u, us = [u] ∧ t.eT w N x u
 | t :: s :: r, x, us => ∃ u us', us = u :: us' ∧ t.eT w N x.1 u ∧ eX w N (s :: r) x.2 us'
def vOf (t : Ty) (x : t.den) : V :=
 match t.isAgg with
 | true => .agg (explode t x)
 | false => .one (.val t x)
def sOf (t : Ty) (x : t.den) : Sum L (List L) :=
 match t.isAgg with
 | true => .inr (explode t x)
 | false => .inl (.val t x)
def Fz : (ts : List Ty) -> bH ts -> List V
 | [], _ => []
 | [t], x => [vOf t x]
 | t :: s :: r, x => vOf t x.1 :: Fz (s :: r) x.2
def zFk : (ts : List Ty) -> bH ts -> List (Sum L (List L))
 | [], _ => []
 | [t], x => [sOf t x]
 | t :: s :: r, x => sOf t x.1 :: zFk (s :: r) x.2
def zFl (t : Ty) (ls : List L) : Option t.den :=
 match bZ t ls with
 | some (x, []) => some x
 | _ => none
def Ux (t : Ty) (s : Sum L (List L)) : Option t.den :=
 match t.isAgg, s with
 | true, .inr ls => zFl t ls
 | false, .inl l => l.asT t
 | _, _ => none
def Bu : (ts : List Ty) -> List (Sum L (List L)) -> Option (bH ts)
 | [], [] => some ()
 | [t], [s] => Ux t s
 | t :: u :: r, s :: ss =>
  match Ux t s, Bu (u :: r) ss with
  | some x, some y => some (x, y)
  | _, _ => none
 | _, _ => none
def V.sum : V -> Option (Sum L (List L))
 | .one l => some (.inl l)
 | .agg ls => some (.inr ls)
 | _ => none
def Ph (bor : Bool) (h : List Ob) (t : Ty) (v : V) : Option (Bool × t.den) :=
 match bor with
 | true =>
  match v.deep h with
  | some (c, u) =>
   match u.sum with
   | some s => match Ux t s with
    | some x => some (c, x)
    | none => none
   | none => none
  | none => none
 | false =>
  match v.isD, v.sum with
  | true, some s => match Ux t s with
   | some x => some (true, x)
   | none => none
  | _, _ => none
def sG (bor : Bool) (h : List Ob) : (ts : List Ty) -> List V -> Option (Bool × bH ts)
 | [], [] => some (true, ())
 | [t], [v] => Ph bor h t v
 | t :: u :: r, v :: vs =>
  match Ph bor h t v, sG bor h (u :: r) vs with
  | some (c, x), some (d, y) => some (c && d, (x, y))
  | _, _ => none
 | _, _ => none
def Ty.flat : Ty -> Bool
 | .pair a b => a.flat && b.flat
 | .arr _ a => a.flat
 | .slice _ => false
 | .opq => false
 | _ => true
section
variable {β : Nat -> Pl} {w : World} {N : Nat -> Prop}
theorem zDs {t : Ty} {x : t.den} {u : Value} (h : t.eT w N x u) : (vOf t x).Rel β w N u := by
 unfold vOf
 unfold Ty.eT at h
 cases ha : t.isAgg with
 | true =>
  rw [ha, if_pos rfl] at h
  obtain ⟨cs, e, h⟩ := h
  exact ⟨cs, e, gL h⟩
 | false =>
  rw [ha, if_neg (by simp)] at h
  simp only [V.Rel, L.Rel]
  exact h
theorem Wh : ∀ {ts : List Ty} {x : bH ts} {us : List Value}, eX w N ts x us -> nA β w N (Fz ts x) us
 | [], _, _, h => by simp only [eX] at h; subst h; trivial
 | [t], x, _, h => by obtain ⟨u, rfl, h⟩ := h; exact ⟨zDs h, trivial⟩
 | t :: s :: r, x, _, h => by
  obtain ⟨u, us, rfl, h, h2⟩ := h
  exact ⟨zDs h, Wh h2⟩
theorem zDt {t : Ty} {x : t.den} {u : Value} (h : t.eT w N x u) : iH β w N (sOf t x) u := by
 unfold sOf
 unfold Ty.eT at h
 cases ha : t.isAgg with
 | true =>
  rw [ha, if_pos rfl] at h
  obtain ⟨cs, e, h⟩ := h
  exact ⟨cs, e, gL h⟩
 | false =>
  rw [ha, if_neg (by simp)] at h
  simp only [iH, L.Rel]
  exact h
theorem Wi : ∀ {ts : List Ty} {x : bH ts} {us : List Value}, eX w N ts x us -> aS (iH β w N) (zFk ts x) us
 | [], _, _, h => by simp only [eX] at h; subst h; trivial
 | [t], x, _, h => by obtain ⟨u, rfl, h⟩ := h; exact ⟨zDt h, trivial⟩
 | t :: s :: r, x, _, h => by
  obtain ⟨u, us, rfl, h, h2⟩ := h
  exact ⟨zDt h, Wi h2⟩
theorem zIe {t : Ty} {ls : List L} {x : t.den} {cs : List Value} (h : zFl t ls = some x) (hr : aD β w N ls cs) : t.Rel w N x cs := by
 unfold zFl at h
 split at h
 ·rename_i y hi
  simp only [Option.some.injEq] at h
  subst h
  obtain ⟨c1, c2, e, h1, h2⟩ := oL hi hr
  simp only [aD] at h2
  subst h2
  rw [List.append_nil] at e
  subst e
  exact h1
 ·cases h
theorem Ga {t : Ty} {s : Sum L (List L)} {x : t.den} {u : Value} (h : Ux t s = some x) (hr : iH β w N s u) : t.eT w N x u := by
 unfold Ux at h
 unfold Ty.eT
 split at h
 ·rename_i ls ha
  rw [ha, if_pos rfl]
  obtain ⟨cs, e, hr⟩ := hr
  exact ⟨cs, e, zIe h hr⟩
 ·rename_i l ha
  rw [ha, if_neg (by simp)]
  exact L.Uk h hr
 ·cases h
theorem Wj : ∀ {ts : List Ty} {ss : List (Sum L (List L))} {x : bH ts} {us : List Value}, Bu ts ss = some x -> aS (iH β w N) ss us -> eX w N ts x us
 | [], [], _, [], _, _ => rfl
 | [t], [s], x, [u], h, hr => ⟨u, rfl, Ga h hr.1⟩
 | t :: u :: r, s :: ss, x, v :: vs, h, hr => by
  simp only [Bu] at h
  split at h
  ·rename_i y z h1 h2
   simp only [Option.some.injEq] at h
   subst h
   exact ⟨v, vs, rfl, Ga h1 hr.1, Wj h2 hr.2⟩
  ·cases h
 | [], [], _, _ :: _, _, hr => hr.elim
 | [], _ :: _, _, _, h, _ => by simp [Bu] at h
 | [t], [], _, _, h, _ => by simp [Bu] at h
 | [t], [s], _, [], _, hr => hr.elim
 | [t], [s], _, _ :: _ :: _, _, hr => hr.2.elim
 | [t], _ :: _ :: _, _, _, h, _ => by simp [Bu] at h
 | t :: u :: r, [], _, _, h, _ => by simp [Bu] at h
 | t :: u :: r, s :: ss, _, [], _, hr => hr.elim
theorem V.Uy {v : V} {s : Sum L (List L)} {u : Value} (h : v.sum = some s) (hr : v.Rel β w N u) : iH β w N s u := by
 cases v <;> simp only [V.sum, Option.some.injEq, reduceCtorEq] at h <;> subst h <;> exact hr
theorem Ty.eT.mono {w' : World} {N' : Nat -> Prop} (hk : Keep N w w') (hN : ∀ b, b < w.heap.size -> N' b -> N b) {t : Ty} {x : t.den} {u : Value} (h : t.eT w N x u) : t.eT w' N' x u := by
 unfold Ty.eT at *
 split
 ·rename_i ha
  rw [if_pos ha] at h
  obtain ⟨cs, e, h⟩ := h
  exact ⟨cs, e, h.mono hk hN⟩
 ·rename_i ha
  rw [if_neg ha] at h
  exact h.mono hk hN
theorem eX.mono {w' : World} {N' : Nat -> Prop} (hk : Keep N w w') (hN : ∀ b, b < w.heap.size -> N' b -> N b) : ∀ {ts : List Ty} {x : bH ts} {us : List Value}, eX w N ts x us -> eX w' N' ts x us
 | [], _, _, h => h
 | [t], x, _, h => by obtain ⟨u, e, h⟩ := h; exact ⟨u, e, h.mono hk hN⟩
 | t :: s :: r, x, _, h => by obtain ⟨u, us, e, h, h2⟩ := h; exact ⟨u, us, e, h.mono hk hN, h2.mono hk hN⟩
theorem Ty.Rel.flat {N' : Nat -> Prop} {w' : World} : ∀ {t : Ty} {x : t.den} {cs : List Value}, t.flat = true -> t.Rel w N x cs -> t.Rel w' N' x cs
 | .unit, _, _, _, h => h
 | .bool, _, _, _, h => h
 | .int _, _, _, _, h => h
 | .str, _, _, _, h => h
 | .err, _, _, _, h => h
 | .opq, _, _, hf, _ => by cases hf
 | .slice _, _, _, hf, _ => by cases hf
 | .pair a b, _, _, hf, h => by
  simp only [Ty.flat, Bool.and_eq_true] at hf
  obtain ⟨c1, c2, e, h1, h2⟩ := h
  exact ⟨c1, c2, e, Ty.Rel.flat hf.1 h1, Ty.Rel.flat hf.2 h2⟩
 | .arr n a, _, _, hf, h => by
  simp only [Ty.flat] at hf
  obtain ⟨h0, css, e, h1⟩ := h
  exact ⟨h0, css, e, h1.mono fun x c hx => Ty.Rel.flat hf hx⟩
theorem Ty.eT.flat {N' : Nat -> Prop} {w' : World} {t : Ty} {x : t.den} {u : Value} (hf : t.flat = true) (h : t.eT w N x u) : t.eT w' N' x u := by
 unfold Ty.eT at *
 split
 ·rename_i ha
  rw [if_pos ha] at h
  obtain ⟨cs, e, h⟩ := h
  exact ⟨cs, e, h.flat hf⟩
 ·rename_i ha
  rw [if_neg ha] at h
  exact h.flat hf
theorem eX.flat {N' : Nat -> Prop} {w' : World} : ∀ {ts : List Ty} {x : bH ts} {us : List Value}, bQ Ty.flat ts = true -> eX w N ts x us -> eX w' N' ts x us
 | [], _, _, _, h => h
 | [t], x, _, hf, h => by
  simp only [bQ, Bool.and_true] at hf
  obtain ⟨u, e, h⟩ := h; exact ⟨u, e, h.flat hf⟩
 | t :: s :: r, x, _, hf, h => by
  simp only [bQ, Bool.and_eq_true] at hf
  obtain ⟨u, us, e, h, h2⟩ := h
  exact ⟨u, us, e, h.flat hf.1, eX.flat (by simp only [bQ, Bool.and_eq_true]; exact hf.2) h2⟩
end
def Pure (P : Program) (f : FuncId) (as rs : List Ty) (F : bH as -> Option (bH rs)) : Prop :=
 gF P f = true ∧ ∀ x y, F x = some y -> ∀ (w : World) (N : Nat -> Prop) (xs : List Value), Glob P w -> (∀ b, N b -> b < w.heap.size) -> eX w N as x xs ->
  Calls P f xs.toArray w fun e w' => ∃ us : List Value, e = .returned (lQ us) ∧ w'.os = w.os ∧ w'.tape = w.tape ∧ w'.output = w.output ∧ Keep (fun _ => False) w w' ∧ eX w' N rs y us
def zFm (T : Tab) (res : List ResultVar) (rs : List Ty) (σ : St) : Option (bH rs) :=
 match Mi T σ res with
 | some (c, vs) =>
  match Bu rs vs with
  | some y => chk c (some y)
  | none => none
 | none => none
def zFn (T : Tab) (res : List ResultVar) (rs : List Ty) : K (bH rs) := fun e σ =>
 match e with
 | .normal => zFm T res rs σ
 | .ret => zFm T res rs σ
 | _ => none
section
variable {T : Tab} {P : Program}
theorem Zu {C : Ctx} {β β' : Nat -> Pl} {w : World} {σ : St} {a : Act} {fn : Func} {vs : List (Sum L (List L))} {N' : Nat -> Prop} (hT : bI C.P T) (hs : Sim C β σ a w) (hN : ∀ b, b < w.heap.size -> N' b -> C.N0 b) (h : Mi T σ fn.results.toList = some (true, vs)) :
  ∃ us : List Value, (results fn a.tmps).run C.P w = .ok (lQ us) w ∧ aS (iH β' w N') vs us := by
 obtain ⟨us, h1, h2, _⟩ := Wd (β' := β') hT hs hN h #[]
 refine ⟨us, ?_, h2⟩
 have e0 : results fn a.tmps = (do let vs <- fn.results.mapM (nS a.tmps); pure (if h : vs.size = 1 then vs[0] else .tuple vs)) := by
  unfold results
  congr 1
 have hm : (fn.results.mapM (nS a.tmps) : Sem (Array Value)).run C.P w = .ok us.toArray w := by
  rw [Array.mapM_eq_foldlM, <- Array.foldlM_toList]
  have e : (fun (acc : Array Value) rv => do let v <- nS a.tmps rv; pure (acc.push v) : Array Value -> ResultVar -> Sem (Array Value)) = (fun (acc : Array Value) rv => acc.push <$> nS a.tmps rv) := by
   funext acc rv
   rfl
  rw [e] at h1
  simpa using h1
 rw [e0]
 simp only [Sem.run_bind, hm, Result.andThen_ok, Sem.run_pure]
 match us with
 | [] => rfl
 | [u] => rfl
 | u :: v :: us => simp [lQ]
theorem Jj : ∀ cs : List Co, bQ (Co.fx 0) cs = true
 | [] => rfl
 | c :: cs => by
  simp only [bQ, Jj cs, Bool.and_true]
  cases c <;> first | rfl | simp [Co.fx]
theorem xJ {ρ : Type} : ∀ an : An ρ, an.fx 0 = true
 | .nil => rfl
 | .mk l r c => by simp only [An.fx, xJ l, xJ r, Jj, Bool.and_self]
 | .loop _ c0 c1 _ a => by simp only [An.fx, xJ a, Jj, Bool.and_self]
 | .scope _ a b => by simp only [An.fx, xJ a, xJ b, Bool.and_self]
 | .sem _ => rfl
 | .co c a => by simp only [An.fx, xJ a, Jj, Bool.and_self]
 | .join _ c a => by simp only [An.fx, xJ a, Jj, Bool.and_self]
theorem bF {f : FuncId} {fn : Func} {c : Code} {as rs : List Ty} {F : bH as -> Option (bH rs)} {Γ : Orc (bH rs)} {an : An (bH rs)} (hf : P.funcs[f]? = some fn) (hb : fn.body = some c) (hh : gF P f = true) (hT : bI P T) (hΓ : gT P Γ) (hm : P.follows .mixedOrders = true) (ha : Uv P 0 c an)
  (h : ∀ x, ev Γ T c an ⟨yT (Fz as x) fn.ntmps, []⟩ (zFn T fn.results.toList rs) = F x) : Pure P f as rs F := by
 refine ⟨hh, fun x y hF w N xs hG hN hx => ?_⟩
 rw [<- h x] at hF
 let C : Ctx := { P := P, N0 := N, w0 := w, Eu := fun _ => False, glob := fun w' h => hG.keep fun b hb => h b hb (fun h => h), fix := [] }
 let β0 : Nat -> Pl := fun _ => ⟨false, false, 0, none, 0, 0, 0⟩
 have hargs : nA β0 w N (Fz as x) xs := Wh hx
 have hxl : (Fz as x).length = xs.length := hargs.length
 have Zv : Sim C β0 ⟨yT (Fz as x) fn.ntmps, []⟩ { tmps := xs.toArray ++ Array.replicate (fn.ntmps - xs.toArray.size) undef, defers := [] } w := by
  refine ⟨⟨by simp, fun _ _ => rfl, by simp, by simp, hN, fun _ _ _ => rfl, Nat.le_refl _, rfl, rfl, rfl, fun j o hj => by cases hj⟩, rfl, by simp [yT, hxl], ?_⟩
  intro i u hu
  simp only [yT] at hu
  by_cases hi : i < (Fz as x).length
  ·rw [List.getElem?_append_left hi] at hu
   have hi' : i < xs.length := by rw [<- hxl]; exact hi
   have hr := hargs.get i hi hi'
   rw [List.getElem?_eq_getElem hi] at hu
   simp only [Option.some.injEq] at hu
   subst hu
   have : (xs.toArray ++ Array.replicate (fn.ntmps - xs.toArray.size) undef).getD i undef = xs[i] := by
    rw [Array.getD_eq_getD_getElem?, Array.getElem?_append_left (by simpa using hi')]
    simp [hi']
   rw [this]
   refine hr.mono (Moves.refl β0) (Keep.refl _ w) (fun b _ hb => ?_)
   rcases hb with hb | ⟨id, o, ho, _⟩
   ·exact hb
   ·simp at ho
  ·rw [List.getElem?_append_right (by omega), List.getElem?_replicate] at hu
   split at hu
   ·simp only [Option.some.injEq] at hu; subst hu; trivial
   ·cases hu
 refine calls_of_wp hf hb ?_
 refine Pg (P := P) hT hΓ hm c an ha (xJ an) _ _ y hF C β0 _ w _ rfl (Nat.le_refl _) Zv ?_
 intro e x' σ' β' a' w' hs' hx' hk
 have fin : zFm T fn.results.toList rs σ' = some y -> x' = .ret ∨ x' = .normal -> bodyPost P fn (fun e w' => ∃ us : List Value, e = .returned (lQ us) ∧ w'.os = w.os ∧ w'.tape = w.tape ∧ w'.output = w.output ∧ Keep (fun _ => False) w w' ∧ eX w' N rs y us) x' a' w' := by
  intro hk hx'
  unfold zFm at hk
  split at hk
  ·rename_i cc ss hrs
   split at hk
   ·rename_i y' hd
    obtain ⟨rfl, hk⟩ := gQ hk
    obtain rfl := Option.some.inj hk
    obtain ⟨us, h1, h2⟩ := Zu (C := C) (β' := β0) (N' := N) (fn := fn) hT hs' (fun _ _ hb => hb) hrs
    have hkeep : Keep (fun _ => False) w w' := ⟨hs'.heap.size, fun b hb _ => hs'.heap.frame b hb (fun h => h)⟩
    have hR := Wj hd h2
    rcases hx' with rfl | rfl
    ·exact ⟨hs'.defers, _, h1, us, rfl, hs'.heap.os, hs'.heap.tape, hs'.heap.output, hkeep, hR⟩
    ·exact ⟨hs'.defers, _, h1, us, rfl, hs'.heap.os, hs'.heap.tape, hs'.heap.output, hkeep, hR⟩
   ·cases hk
  ·cases hk
 cases e with
 | normal => obtain rfl := hx'; exact fin hk (.inr rfl)
 | ret => obtain rfl := hx'; exact fin hk (.inl rfl)
 | exit i => simp [zFn] at hk
 | goto l => simp [zFn] at hk
 | pan t u => simp [zFn] at hk
def bE (as rs : List Ty) (F : bH as -> Option (bH rs)) : PE where
 R := bH rs
 use := 1
 run vs h := match sG (bQ Ty.flat rs) h as vs with
  | some (c, x) => some (c, F x)
  | none => none
 enc y _ h := (zKt (zFk rs y), h)
theorem Zw {C : Ctx} {β : Nat -> Pl} {h : List Ob} {w : World} {bor : Bool} {t : Ty} {v : V} {x : t.den} {u : Value} (hd : Ph bor h t v = some (true, x)) (hs : eO C β h w) (hr : v.Rel β w (C.N β h) u) :
  t.eT w (zPl bor (C.N β h)) x u := by
 unfold Ph at hd
 cases bor with
 | true =>
  simp only at hd ⊢
  split at hd
  ·rename_i c v' hv
   split at hd
   ·rename_i s hsum
    split at hd
    ·rename_i y hy
     simp only [Option.some.injEq, Prod.mk.injEq] at hd
     obtain ⟨rfl, rfl⟩ := hd
     obtain ⟨h1, _⟩ := V.pR (β' := β) (N' := fun _ => False) hv hs (fun _ _ h => h.elim) hr
     exact Ga hy (V.Uy hsum h1)
    ·cases hd
   ·cases hd
  ·cases hd
 | false =>
  simp only at hd ⊢
  split at hd
  ·rename_i s hD hsum
   split at hd
   ·rename_i y hy
    simp only [Option.some.injEq, Prod.mk.injEq, true_and] at hd
    subst hd
    exact Ga hy (V.Uy hsum hr)
   ·cases hd
  ·cases hd
theorem Wm {C : Ctx} {β : Nat -> Pl} {h : List Ob} {w : World} {bor : Bool} (hs : eO C β h w) : ∀ {ts : List Ty} {vs : List V} {x : bH ts} {us : List Value}, sG bor h ts vs = some (true, x) -> nA β w (C.N β h) vs us ->
  eX w (zPl bor (C.N β h)) ts x us
 | [], [], _, [], _, _ => rfl
 | [t], [v], x, [u], hd, hr => ⟨u, rfl, Zw hd hs hr.1⟩
 | t :: s :: r, v :: vs, x, u :: us, hd, hr => by
  simp only [sG] at hd
  split at hd
  ·rename_i c y d z h1 h2
   simp only [Option.some.injEq, Prod.mk.injEq, Bool.and_eq_true] at hd
   obtain ⟨⟨rfl, rfl⟩, rfl⟩ := hd
   exact ⟨u, us, rfl, Zw h1 hs hr.1, Wm hs h2 hr.2⟩
  ·cases hd
 | [], [], _, _ :: _, _, hr => hr.elim
 | [], _ :: _, _, _, h, _ => by simp [sG] at h
 | [t], [], _, _, h, _ => by simp [sG] at h
 | [t], [s], _, [], _, hr => hr.elim
 | [t], [s], _, _ :: _ :: _, _, hr => hr.2.elim
 | [t], _ :: _ :: _, _, _, h, _ => by simp [sG] at h
 | t :: u :: r, [], _, _, h, _ => by simp [sG] at h
 | t :: u :: r, s :: ss, _, [], _, hr => hr.elim
theorem Zx {h : List Ob} : ∀ {l : L}, l.isD = true -> l.deep h = some (true, l)
 | .val .., _ => rfl
 | .jQ, _ => rfl
 | .dD, _ => rfl
 | .iK .., _ => rfl
 | .clo f [], _ => rfl
 | .clo f (_ :: _), h => by cases h
 | .ptr .., h => by cases h
 | .jD .., h => by cases h
 | .eY .., h => by cases h
 | .sl .., h => by cases h
 | .own .., h => by cases h
 | .bad _, h => by cases h
 | .dP .., h => by cases h
theorem Wn {h : List Ob} : ∀ {ls : List L}, bQ L.isD ls = true -> Fq h ls = some (true, ls)
 | [], _ => rfl
 | l :: ls, hd => by
  simp only [bQ, Bool.and_eq_true] at hd
  simp only [Fq, Zx hd.1, Wn hd.2, Bool.and_self]
theorem Zy {bor : Bool} {t : Ty} {v : V} (hd : v.isD = true) (h h2 : List Ob) : Ph bor h t v = Ph bor h2 t v := by
 cases bor with
 | false => rfl
 | true =>
  unfold Ph
  cases v with
  | one l => simp only [V.deep, Zx (show l.isD = true from hd)]
  | agg ls => simp only [V.deep, Wn (show bQ L.isD ls = true from hd)]
  | _ => rfl
theorem Wo {bor : Bool} : ∀ {ts : List Ty} {vs : List V} (_ : bQ V.isD vs = true) (h h2 : List Ob), sG bor h ts vs = sG bor h2 ts vs
 | [], [], _, _, _ => rfl
 | [t], [v], hd, h, h2 => by
  simp only [bQ, Bool.and_true] at hd
  simp only [sG, Zy hd h h2]
 | t :: s :: r, v :: vs, hd, h, h2 => by
  simp only [bQ, Bool.and_eq_true] at hd
  simp only [sG, Zy hd.1 h h2, Wo (ts := s :: r) hd.2 h h2]
 | [], _ :: _, _, _, _ => rfl
 | [t], [], _, _, _ => rfl
 | [t], _ :: _ :: _, _, _, _ => rfl
 | t :: s :: r, [], _, _, _ => rfl
theorem Zz {β : Nat -> Pl} {w : World} {N : Nat -> Prop} {ss : List (Sum L (List L))} {us : List Value} (h : aS (iH β w N) ss us) : (zKt ss).Rel β w N (lQ us) := by
 match ss, us, h with
 | [], [], _ => exact ⟨[], rfl, trivial⟩
 | [.inl l], [u], h => exact h.1
 | [.inr ls], [u], h => exact h.1
 | s :: t :: ss, u :: v :: us, h => cases s <;> exact ⟨_, rfl, h⟩
theorem aH {f : FuncId} {as rs : List Ty} {F : bH as -> Option (bH rs)} (h : Pure P f as rs F) : (bE as rs F).OK P f := by
 refine ⟨h.1, fun vs hp y hr C β w xs hP hs ha => ?_, fun _ vs h1 h2 hd => ⟨by simp only [bE]; rw [Wo hd h1 h2], fun _ => rfl⟩, fun _ _ _ _ => rfl⟩
 subst hP
 simp only [bE] at hr
 split at hr
 ·rename_i c x hd
  simp only [Option.some.injEq, Prod.mk.injEq] at hr
  obtain ⟨rfl, hF⟩ := hr
  have hx := Wm hs hd ha
  have hn : ∀ b, C.N β hp b -> b < w.heap.size := fun b hb => by
   rcases hb with hb | ⟨id, o, ho, _, hbk⟩
   ·exact Nat.lt_of_lt_of_le (hs.n0 b hb) hs.size
   ·exact (hs.fresh id o b ho hbk).2.1
  refine (h.2 x y hF w _ xs (C.glob w hs.frame) (fun b hb => ?_) hx).mono ?_
  ·cases hfl : bQ Ty.flat rs with
   | true => rw [hfl] at hb; exact hb.elim
   | false => rw [hfl] at hb; exact hn b hb
  ·rintro e w' ⟨us, rfl, ho, ht, hop, hk, hy⟩
   have hy' : eX w' (C.N β hp) rs y us := by
    cases hfl : bQ Ty.flat rs with
    | true => exact hy.flat hfl
    | false => rw [hfl] at hy; exact hy
   refine ⟨_, _, β, ⟨rfl, rfl⟩, Moves.refl β, hk.weaken fun _ h => h.elim, fun _ _ h => h, ?_, _, rfl, Zz (Wi hy')⟩
   refine ⟨fun id o hob => (hs.obj id o hob).mono (Moves.refl β) (hk.weaken fun _ h => h.elim) (fun _ _ h => h) fun b hb => hk.block b (hs.fresh id o b hob hb).2.1 (fun h => h), hs.dead, hs.apart, ?_, hs.n0, ?_, Nat.le_trans hs.size hk.size, ho.trans hs.os, ht.trans hs.tape, hop.trans hs.output, hs.fixed⟩
   ·intro id o b hob hb
    obtain ⟨k1, k2, k3⟩ := hs.fresh id o b hob hb
    exact ⟨k1, Nat.lt_of_lt_of_le k2 hk.size, k3⟩
   ·intro b hb hnb
    rw [hk.block b (Nat.lt_of_lt_of_le hb hs.size) (fun h => h)]
    exact hs.frame b hb hnb
 ·cases hr
def pes : List (FuncId × PE) -> FuncId -> Option PE
 | [], _ => none
 | (g, e) :: r, f => match Nat.beq g f with
  | true => some e
  | false => pes r f
def orc (ρ : Type) (l : List (FuncId × PE)) : Orc ρ := ⟨pes l, fun _ _ _ _ => none⟩
theorem zPm {ρ : Type} : ∀ {l : List (FuncId × PE)}, (∀ p ∈ l, p.2.OK P p.1) -> gT P (orc ρ l) := by
 intro l h
 refine ⟨fun f e he => ?_, fun _ _ _ _ _ h => by cases h⟩
 simp only [orc] at he
 induction l with
 | nil => cases he
 | cons p r ih =>
  obtain ⟨g, e'⟩ := p
  simp only [pes] at he
  split at he
  ·rename_i hb
   have := Nat.eq_of_beq_eq_true hb
   subst this
   simp only [Option.some.injEq] at he
   subst he
   exact h _ (.head _)
  ·exact ih (fun p hp => h p (.tail _ hp)) he
theorem all_nil {Q : FuncId × PE -> Prop} : ∀ p ∈ ([] : List (FuncId × PE)), Q p := fun _ h => by cases h
theorem all_cons {Q : FuncId × PE -> Prop} {p : FuncId × PE} {l : List (FuncId × PE)} (h : Q p) (hl : ∀ q ∈ l, Q q) : ∀ q ∈ p :: l, Q q := fun q hq => by
 cases hq with
 | head => exact h
 | tail _ hq => exact hl q hq
end
end Go.Dec
namespace Go.Dec
mutual
def L.back (f v : Nat -> Nat) : L -> L
 | .ptr id o => .ptr (f id) o
 | .dP id o => .dP (f id) o
 | .jD id o es i sub => .jD (f id) o es i sub
 | .eY id u i o => .eY (f id) (u + v id) i o
 | .sl id u i n => .sl (f id) (u + v id) i n
 | .own id u => .own (f id) (u + v id)
 | .clo g caps => .clo g (L.backs f v caps)
 | l => l
def L.backs (f v : Nat -> Nat) : List L -> List L
 | [] => []
 | l :: ls => l.back f v :: L.backs f v ls
end
def V.back (f v : Nat -> Nat) : V -> V
 | .one l => .one (l.back f v)
 | .agg ls => .agg (L.backs f v ls)
 | _ => .bB
def Ob.back (f v : Nat -> Nat) (id : Nat) : Ob -> Ob
 | .box e ls => .box e (L.backs f v ls)
 | .arr e t u rows wr => .arr e t (u + v id) rows wr
section
variable {β β' : Nat -> Pl} {w : World} {N N' : Nat -> Prop}
structure Jk (p q : Pl) (v : Nat) : Prop where
 live : q.live = p.live
 box : q.box = p.box
 blk : q.blk = p.blk
 row : p.box = false -> q.ver = p.ver + v ∧ q.size = p.size ∧ q.cap = p.cap ∧ q.len = p.len
theorem Jk.zMn {p q : Pl} {v : Nat} (h : Jk p q v) (hb : p.box = false) {off len : Nat} {c : Value} : dQ q off len c <-> dQ p off len c := by
 obtain ⟨_, h2, h3, _⟩ := h.row hb
 unfold dQ
 rw [h.blk, h2, h3]
mutual
theorem L.Rel.back {f v : Nat -> Nat} (hβ : ∀ j, (β j).live = true -> Jk (β j) (β' (f j)) (v j)) (hN : ∀ b, b < w.heap.size -> N' b -> N b) : ∀ {l : L} {cs : List Value}, l.Rel β w N cs -> (l.back f v).Rel β' w N' cs
 | .val t x, cs, h => by simp only [L.back, L.Rel] at *; exact Ty.Rel.mono (Keep.refl _ w) hN h
 | .ptr id off, cs, h => by
  simp only [L.back, L.Rel] at *
  obtain ⟨h1, h2, h3⟩ := h
  have := hβ id h1
  exact ⟨this.live ▸ h1, this.box ▸ h2, by rw [this.blk]; exact h3⟩
 | .jD id off es i sub, cs, h => by
  simp only [L.back, L.Rel] at *
  obtain ⟨h1, h2, h3⟩ := h
  have := hβ id h1
  exact ⟨this.live ▸ h1, this.box ▸ h2, by rw [this.blk]; exact h3⟩
 | .jQ, cs, h => by simp only [L.back, L.Rel] at *; exact h
 | .dP id off, cs, h => by
  simp only [L.back, L.Rel] at *
  obtain ⟨c, e, h⟩ := h
  refine ⟨c, e, ?_⟩
  rcases h with h | ⟨h1, h2, h3⟩
  ·exact .inl h
  ·have := hβ id h1
   exact .inr ⟨this.live ▸ h1, this.box ▸ h2, by rw [this.blk]; exact h3⟩
 | .eY id u i off, cs, h => by
  simp only [L.back, L.Rel] at *
  obtain ⟨h1, h2, h3, c, h4, h5, h6⟩ := h
  have := hβ id h1
  obtain ⟨g1, g2, g3, g4⟩ := this.row h2
  refine ⟨this.live ▸ h1, this.box ▸ h2, by omega, c, h4, h5, fun hv => ?_⟩
  rw [this.blk, g2]
  exact h6 (by omega)
 | .iK t x off, cs, h => by simp only [L.back, L.Rel] at *; obtain ⟨c, hc, hr⟩ := h; exact ⟨c, hc, hr.mono (Keep.refl _ w) hN⟩
 | .sl id u off len, cs, h => by
  simp only [L.back, L.Rel] at *
  obtain ⟨h1, h2, h3, c, h4, h5, h6⟩ := h
  have := hβ id h1
  obtain ⟨g1, g2, g3, g4⟩ := this.row h2
  exact ⟨this.live ▸ h1, this.box ▸ h2, by omega, c, h4, h5, fun hv => (this.zMn h2).2 (h6 (by omega))⟩
 | .own id u, cs, h => by
  simp only [L.back, L.Rel] at *
  obtain ⟨h1, h2, h3, c, h4, h5, h6⟩ := h
  have := hβ id h1
  obtain ⟨g1, g2, g3, g4⟩ := this.row h2
  exact ⟨this.live ▸ h1, this.box ▸ h2, by omega, c, h4, h5, fun hv => by rw [g4]; exact (this.zMn h2).2 (h6 (by omega))⟩
 | .dD, cs, h => by simp only [L.back, L.Rel] at *; exact h
 | .clo g caps, cs, h => by
  simp only [L.back, L.Rel] at *
  obtain ⟨us, hc, hr⟩ := h
  exact ⟨us, hc, L.bW.back hβ hN hr⟩
 | .bad n, cs, h => by simp only [L.back, L.Rel] at *; exact h
theorem L.bW.back {f v : Nat -> Nat} (hβ : ∀ j, (β j).live = true -> Jk (β j) (β' (f j)) (v j)) (hN : ∀ b, b < w.heap.size -> N' b -> N b) : ∀ {ls : List L} {us : List Value}, L.bW β w N ls us -> L.bW β' w N' (L.backs f v ls) us
 | [], us, h => by simp only [L.backs, L.bW] at *; exact h
 | l :: ls, us, h => by
  simp only [L.backs, L.bW] at *
  obtain ⟨u, r, e, h1, h2⟩ := h
  exact ⟨u, r, e, L.Rel.back hβ hN h1, L.bW.back hβ hN h2⟩
end
theorem aD.back {f v : Nat -> Nat} (hβ : ∀ j, (β j).live = true -> Jk (β j) (β' (f j)) (v j)) (hN : ∀ b, b < w.heap.size -> N' b -> N b) : ∀ {ls : List L} {cs : List Value}, aD β w N ls cs -> aD β' w N' (L.backs f v ls) cs
 | [], _, h => h
 | _l :: _ls, _, ⟨c1, c2, e, h1, h2⟩ => ⟨c1, c2, e, h1.back hβ hN, aD.back hβ hN h2⟩
theorem V.Rel.back {f v : Nat -> Nat} (hβ : ∀ j, (β j).live = true -> Jk (β j) (β' (f j)) (v j)) (hN : ∀ b, b < w.heap.size -> N' b -> N b) {x : V} {u : Value} (h : x.Rel β w N u) : (x.back f v).Rel β' w N' u := by
 cases x with
 | one l => exact L.Rel.back hβ hN h
 | agg ls => obtain ⟨cs, e, h⟩ := h; exact ⟨cs, e, h.back hβ hN⟩
 | _ => trivial
theorem Ob.Rel.back {f v : Nat -> Nat} (hβ : ∀ j, (β j).live = true -> Jk (β j) (β' (f j)) (v j)) (hN : ∀ b, b < w.heap.size -> N' b -> N b) {id : Nat} {o : Ob} (h : o.Rel β w N (β id)) : (o.back f v id).Rel β' w N' (β' (f id)) := by
 cases o with
 | box e ls =>
  simp only [Ob.back, Ob.Rel] at *
  obtain ⟨h1, h2, b, cs, h3, h4, h5⟩ := h
  have := hβ id h1
  exact ⟨this.live ▸ h1, this.box ▸ h2, b, cs, this.blk ▸ h3, h4.back hβ hN, h5⟩
 | arr e t u rows wr =>
  simp only [Ob.back, Ob.Rel] at *
  obtain ⟨h1, h2, h3, h4, h5, h6, h7⟩ := h
  have := hβ id h1
  obtain ⟨g1, g2, g3, g4⟩ := this.row h2
  refine ⟨this.live ▸ h1, this.box ▸ h2, by omega, by rw [g2, h4], h5, by rw [g4, h6], ?_⟩
  rw [this.blk, g3]
  rcases h7 with h7 | ⟨b, cur, css, k1, k2, k3, k4⟩
  ·exact .inl h7
  ·exact .inr ⟨b, cur, css, k1, k2, k3.mono fun _ _ h => h.mono (Keep.refl _ w) hN, k4⟩
end
def jA (P : Program) (f : FuncId) (si so : Sh) (F : si.X -> Option so.X) : Prop :=
 gF P f = true ∧ ∀ x y, F x = some y -> ∀ (C : Ctx) (β : Nat -> Pl) (w : World) (xs : List Value), C.P = P -> C.fix.length <= si.os.length -> Sim C β (si.enc x) { tmps := xs.toArray, defers := [] } w ->
  Calls P f xs.toArray w fun e w' => ∃ (us : List Value) (β' : Nat -> Pl), e = .returned (lQ us) ∧ Sim C β' (so.enc y) { tmps := us.toArray, defers := [] } w'
def Rl : List V -> Option (List (Sum L (List L)))
 | [] => some []
 | v :: r => match v.sum, Rl r with
  | some s, some ss => some (s :: ss)
  | _, _ => none
def zFo (vs : List V) : V :=
 match Rl vs with
 | some ss => zKt ss
 | none => .bB
def Gb (g : Nat -> Option Ob) : Nat -> List Ob -> List Ob
 | _, [] => []
 | i, o :: r => (match g i with | some o' => o' | none => o) :: Gb g (i + 1) r
def sZ (f v : Nat -> Nat) : Nat -> List Ob -> List Ob
 | _, [] => []
 | j, o :: r => o.back f v j :: sZ f v (j + 1) r
def vU : List Ob -> List OS -> Bool
 | [], _ => true
 | .box .. :: r, _ :: s => vU r s
 | .arr .. :: r, .row .. :: s => vU r s
 | _, _ => false
def oQ (ρ : List Nat) (n : Nat) (j : Nat) : Nat := match ρ[j]? with | some i => i | none => n + (j - ρ.length)
def oU (ρ : List Nat) (h : List Ob) (j : Nat) : Nat := match ρ[j]? with
 | some i => (match h[i]? with | some (.arr _ _ u _ _) => u + 1 | _ => 0)
 | none => 0
def iA (ρ : List Nat) (h hy : List Ob) : List Ob :=
 Gb (fun i => match pos i ρ 0 with | some j => (match hy[j]? with | some o => some (o.back (oQ ρ h.length) (oU ρ h) j) | none => none) | none => none) 0 h ++ sZ (oQ ρ h.length) (oU ρ h) ρ.length (hy.drop ρ.length)
def Rm (ρ : List Nat) (h : List Ob) (si so : Sh) : Bool :=
 nodupB ρ && (bQ (fun i => Nat.blt i h.length) ρ && (Nat.beq ρ.length si.os.length && (bQ Ob.wr (inH ρ h) && vU (inH ρ h) so.os)))
def peM (si so : Sh) (F : si.X -> Option so.X) : PE where
 R := so.X
 use := 2
 run vs h := match si.dec ⟨vs.map (V.ren (reach vs h) h), inH (reach vs h) h⟩ with
  | some x => some (Rm (reach vs h) h si so, F x)
  | none => none
 enc y vs h := (zFo ((so.enc y).r.map (V.back (oQ (reach vs h) h.length) (oU (reach vs h) h))), iA (reach vs h) h (so.enc y).h)
theorem Pj {g : Nat -> Option Ob} : ∀ {h : List Ob} {n i : Nat}, (Gb g n h)[i]? = (h[i]?).map fun o => (match g (n + i) with | some o' => o' | none => o)
 | [], n, i => by simp [Gb]
 | o :: r, n, 0 => by simp [Gb]
 | o :: r, n, i + 1 => by
  simp only [Gb, List.getElem?_cons_succ]
  rw [Pj (h := r), show n + 1 + i = n + (i + 1) by omega]
theorem rT {g : Nat -> Option Ob} : ∀ {h : List Ob} {n : Nat}, (Gb g n h).length = h.length
 | [], _ => rfl
 | _ :: r, n => congrArg (· + 1) (rT (h := r) (n := n + 1))
theorem Jl {f v : Nat -> Nat} : ∀ {h : List Ob} {n i : Nat}, (sZ f v n h)[i]? = (h[i]?).map fun o => o.back f v (n + i)
 | [], n, i => by simp [sZ]
 | o :: r, n, 0 => by simp [sZ]
 | o :: r, n, i + 1 => by
  simp only [sZ, List.getElem?_cons_succ]
  rw [Jl (h := r), show n + 1 + i = n + (i + 1) by omega]
theorem Bv {f v : Nat -> Nat} : ∀ {h : List Ob} {n : Nat}, (sZ f v n h).length = h.length
 | [], _ => rfl
 | _ :: r, n => congrArg (· + 1) (Bv (h := r) (n := n + 1))
theorem Ob.zDu {f v : Nat -> Nat} {j : Nat} (o : Ob) : (o.back f v j).wr = o.wr := by cases o <;> rfl
theorem Cr : ∀ {hc : List Ob} {os : List OS} {j : Nat} {e : TypeId} {t : Ty} {u : Nat} {rows : List t.den} {wr : Bool}, vU hc os = true -> hc[j]? = some (.arr e t u rows wr) -> ∃ e' t', os[j]? = some (.row e' t')
 | [], _, j, _, _, _, _, _, _, h => by simp at h
 | .box .. :: r, [], j, _, _, _, _, _, hk, _ => by cases hk
 | .box .. :: r, s :: os, 0, _, _, _, _, _, _, h => by simp at h
 | .box .. :: r, s :: os, j + 1, _, _, _, _, _, hk, h => by
  obtain ⟨e', t', h'⟩ := Cr (hc := r) (os := os) (j := j) hk (by simpa using h)
  exact ⟨e', t', by simpa using h'⟩
 | .arr .. :: r, [], j, _, _, _, _, _, hk, _ => by cases hk
 | .arr .. :: r, .box .. :: os, j, _, _, _, _, _, hk, _ => by cases hk
 | .arr .. :: r, .row e t :: os, 0, _, _, _, _, _, _, _ => ⟨e, t, rfl⟩
 | .arr .. :: r, .row e t :: os, j + 1, _, _, _, _, _, hk, h => by
  obtain ⟨e', t', h'⟩ := Cr (hc := r) (os := os) (j := j) hk (by simpa using h)
  exact ⟨e', t', by simpa using h'⟩
theorem Jm {A : Type} : ∀ {os : List OS} {x : OTs os A} {j : Nat} {e : TypeId} {t : Ty}, os[j]? = some (.row e t) -> ∃ rows, (sD os x).1[j]? = some (.arr e t 0 rows true)
 | [], _, j, _, _, h => by simp at h
 | .box e0 ls :: r, x, 0, _, _, h => by simp at h
 | .box e0 ls :: r, x, j + 1, e, t, h => by
  obtain ⟨rows, h'⟩ := Jm (os := r) (x := (dB ls x).2) (j := j) (by simpa using h)
  exact ⟨rows, by simpa [sD] using h'⟩
 | .row e0 t0 :: r, x, 0, e, t, h => by
  simp only [List.getElem?_cons_zero, Option.some.injEq, OS.row.injEq] at h
  obtain ⟨rfl, rfl⟩ := h
  exact ⟨x.1, rfl⟩
 | .row e0 t0 :: r, x, j + 1, e, t, h => by
  obtain ⟨rows, h'⟩ := Jm (os := r) (x := x.2) (j := j) (by simpa using h)
  exact ⟨rows, by simpa [sD] using h'⟩
theorem Wp {β : Nat -> Pl} {w : World} {N : Nat -> Prop} : ∀ {vs : List V} {us : List Value} {ss : List (Sum L (List L))}, Rl vs = some ss -> aS (fun v u => V.Rel β w N v u) vs us -> aS (iH β w N) ss us
 | [], [], ss, h, _ => by simp only [Rl, Option.some.injEq] at h; subst h; trivial
 | v :: vs, u :: us, ss, h, hr => by
  simp only [Rl] at h
  split at h
  ·rename_i s ss' h1 h2
   simp only [Option.some.injEq] at h
   subst h
   exact ⟨V.Uy h1 hr.1, Wp h2 hr.2⟩
  ·cases h
 | [], _ :: _, _, _, hr => hr.elim
 | _ :: _, [], _, _, hr => hr.elim
theorem zAa {β : Nat -> Pl} {w : World} {N : Nat -> Prop} {vs : List V} {us : List Value} (hr : aS (fun v u => V.Rel β w N v u) vs us) : (zFo vs).Rel β w N (lQ us) := by
 unfold zFo
 split
 ·rename_i ss h
  exact Zz (Wp h hr)
 ·trivial
theorem zDv {α γ : Type} {R : α -> γ -> Prop} : ∀ {x : List α} {y : List γ}, x.length = y.length -> (∀ (i : Nat) (a : α) (b : γ), x[i]? = some a -> y[i]? = some b -> R a b) -> aS R x y
 | [], [], _, _ => trivial
 | a :: x, b :: y, hl, h => ⟨h 0 a b rfl rfl, zDv (by simpa using hl) fun i c d hc hd => h (i + 1) c d (by simpa using hc) (by simpa using hd)⟩
 | [], _ :: _, hl, _ => by simp at hl
 | _ :: _, [], hl, _ => by simp at hl
end Go.Dec
