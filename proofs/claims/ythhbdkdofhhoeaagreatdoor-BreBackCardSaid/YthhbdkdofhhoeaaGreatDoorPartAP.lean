/- Part of a proof over this seat: a library of my own, and what it says of this seat. No statement is proved here. -/
import Derived.Test.YthhbdkdofhhoeaaGreatDoorPartAO
namespace Go.Dec
@[reducible] def bX : List Ty -> Type
 | [] => Unit
 | [t] => t.den
 | t :: u :: r => t.den × bX (u :: r)
def mX : List Value -> Value
 | [u] => u
 | us => .tuple us.toArray
def zQs (bor : Bool) (N : Nat -> Prop) : Nat -> Prop :=
 match bor with
 | true => fun _ => False
 | false => N
def Ty.fK (w : World) (N : Nat -> Prop) (t : Ty) (x : t.den) (u : Value) : Prop :=
 if t.isAgg then ∃ cs : List Value, u = .agg cs.toArray ∧ t.Rel w N x cs else t.Rel w N x [u]
def fQ (w : World) (N : Nat -> Prop) : (ts : List Ty) -> bX ts -> List Value -> Prop
 | [], _, us => us = []
 | [t], x, us => ∃ u, us = [u] ∧ t.fK w N x u
 | t :: s :: r, x, us => ∃ u us', us = u :: us' ∧ t.fK w N x.1 u ∧ fQ w N (s :: r) x.2 us'
def vOf (t : Ty) (x : t.den) : V :=
 match t.isAgg with
 | true => .agg (explode t x)
 | false => .one (.val t x)
def sOf (t : Ty) (x : t.den) : Sum L (List L) :=
 match t.isAgg with
 | true => .inr (explode t x)
 | false => .inl (.val t x)
def Gf : (ts : List Ty) -> bX ts -> List V
 | [], _ => []
 | [t], x => [vOf t x]
 | t :: s :: r, x => vOf t x.1 :: Gf (s :: r) x.2
def zFz : (ts : List Ty) -> bX ts -> List (Sum L (List L))
 | [], _ => []
 | [t], x => [sOf t x]
 | t :: s :: r, x => sOf t x.1 :: zFz (s :: r) x.2
def zGa (t : Ty) (ls : List L) : Option t.den :=
 match dA t ls with
 | some (x, []) => some x
 | _ => none
def Um (t : Ty) (s : Sum L (List L)) : Option t.den :=
 match t.isAgg, s with
 | true, .inr ls => zGa t ls
 | false, .inl l => l.asT t
 | _, _ => none
def Ct : (ts : List Ty) -> List (Sum L (List L)) -> Option (bX ts)
 | [], [] => some ()
 | [t], [s] => Um t s
 | t :: u :: r, s :: ss =>
  match Um t s, Ct (u :: r) ss with
  | some x, some y => some (x, y)
  | _, _ => none
 | _, _ => none
def V.sum : V -> Option (Sum L (List L))
 | .one l => some (.inl l)
 | .agg ls => some (.inr ls)
 | _ => none
def Oz (bor : Bool) (h : List Ob) (t : Ty) (v : V) : Option (Bool × t.den) :=
 match bor with
 | true =>
  match v.deep h with
  | some (c, u) =>
   match u.sum with
   | some s => match Um t s with
    | some x => some (c, x)
    | none => none
   | none => none
  | none => none
 | false =>
  match v.isD, v.sum with
  | true, some s => match Um t s with
   | some x => some (true, x)
   | none => none
  | _, _ => none
def tO (bor : Bool) (h : List Ob) : (ts : List Ty) -> List V -> Option (Bool × bX ts)
 | [], [] => some (true, ())
 | [t], [v] => Oz bor h t v
 | t :: u :: r, v :: vs =>
  match Oz bor h t v, tO bor h (u :: r) vs with
  | some (c, x), some (d, y) => some (c && d, (x, y))
  | _, _ => none
 | _, _ => none
def Ty.flat : Ty -> Bool
 | .pair a b => a.flat && b.flat
 | .arr _ a => a.flat
 | .slice _ => false
 | .opq => false
 | _ => true
section
variable {β : Nat -> Pl} {w : World} {N : Nat -> Prop}
theorem zDz {t : Ty} {x : t.den} {u : Value} (h : t.fK w N x u) : (vOf t x).Rel β w N u := by
 unfold vOf
 unfold Ty.fK at h
 cases ha : t.isAgg with
 | true =>
  rw [ha, if_pos rfl] at h
  obtain ⟨cs, e, h⟩ := h
  exact ⟨cs, e, iC h⟩
 | false =>
  rw [ha, if_neg (by simp)] at h
  simp only [V.Rel, L.Rel]
  exact h
theorem Wj : ∀ {ts : List Ty} {x : bX ts} {us : List Value}, fQ w N ts x us -> oF β w N (Gf ts x) us
 | [], _, _, h => by simp only [fQ] at h; subst h; trivial
 | [t], x, _, h => by obtain ⟨u, rfl, h⟩ := h; exact ⟨zDz h, trivial⟩
 | t :: s :: r, x, _, h => by
  obtain ⟨u, us, rfl, h, h2⟩ := h
  exact ⟨zDz h, Wj h2⟩
theorem zEa {t : Ty} {x : t.den} {u : Value} (h : t.fK w N x u) : jB β w N (sOf t x) u := by
 unfold sOf
 unfold Ty.fK at h
 cases ha : t.isAgg with
 | true =>
  rw [ha, if_pos rfl] at h
  obtain ⟨cs, e, h⟩ := h
  exact ⟨cs, e, iC h⟩
 | false =>
  rw [ha, if_neg (by simp)] at h
  simp only [jB, L.Rel]
  exact h
theorem Wm : ∀ {ts : List Ty} {x : bX ts} {us : List Value}, fQ w N ts x us -> aQ (jB β w N) (zFz ts x) us
 | [], _, _, h => by simp only [fQ] at h; subst h; trivial
 | [t], x, _, h => by obtain ⟨u, rfl, h⟩ := h; exact ⟨zEa h, trivial⟩
 | t :: s :: r, x, _, h => by
  obtain ⟨u, us, rfl, h, h2⟩ := h
  exact ⟨zEa h, Wm h2⟩
theorem zIt {t : Ty} {ls : List L} {x : t.den} {cs : List Value} (h : zGa t ls = some x) (hr : aG β w N ls cs) : t.Rel w N x cs := by
 unfold zGa at h
 split at h
 ·rename_i y hi
  simp only [Option.some.injEq] at h
  subst h
  obtain ⟨c1, c2, e, h1, h2⟩ := pR hi hr
  simp only [aG] at h2
  subst h2
  rw [List.append_nil] at e
  subst e
  exact h1
 ·cases h
theorem Gg {t : Ty} {s : Sum L (List L)} {x : t.den} {u : Value} (h : Um t s = some x) (hr : jB β w N s u) : t.fK w N x u := by
 unfold Um at h
 unfold Ty.fK
 split at h
 ·rename_i ls ha
  rw [ha, if_pos rfl]
  obtain ⟨cs, e, hr⟩ := hr
  exact ⟨cs, e, zIt h hr⟩
 ·rename_i l ha
  rw [ha, if_neg (by simp)]
  exact L.Ua h hr
 ·cases h
theorem Wn : ∀ {ts : List Ty} {ss : List (Sum L (List L))} {x : bX ts} {us : List Value}, Ct ts ss = some x -> aQ (jB β w N) ss us -> fQ w N ts x us
 | [], [], _, [], _, _ => rfl
 | [t], [s], x, [u], h, hr => ⟨u, rfl, Gg h hr.1⟩
 | t :: u :: r, s :: ss, x, v :: vs, h, hr => by
  simp only [Ct] at h
  split at h
  ·rename_i y z h1 h2
   simp only [Option.some.injEq] at h
   subst h
   exact ⟨v, vs, rfl, Gg h1 hr.1, Wn h2 hr.2⟩
  ·cases h
 | [], [], _, _ :: _, _, hr => hr.elim
 | [], _ :: _, _, _, h, _ => by simp [Ct] at h
 | [t], [], _, _, h, _ => by simp [Ct] at h
 | [t], [s], _, [], _, hr => hr.elim
 | [t], [s], _, _ :: _ :: _, _, hr => hr.2.elim
 | [t], _ :: _ :: _, _, _, h, _ => by simp [Ct] at h
 | t :: u :: r, [], _, _, h, _ => by simp [Ct] at h
 | t :: u :: r, s :: ss, _, [], _, hr => hr.elim
theorem V.Un {v : V} {s : Sum L (List L)} {u : Value} (h : v.sum = some s) (hr : v.Rel β w N u) : jB β w N s u := by
 cases v <;> simp only [V.sum, Option.some.injEq, reduceCtorEq] at h <;> subst h <;> exact hr
theorem Ty.fK.mono {w' : World} {N' : Nat -> Prop} (hk : Keep N w w') (hN : ∀ b, b < w.heap.size -> N' b -> N b) {t : Ty} {x : t.den} {u : Value} (h : t.fK w N x u) : t.fK w' N' x u := by
 unfold Ty.fK at *
 split
 ·rename_i ha
  rw [if_pos ha] at h
  obtain ⟨cs, e, h⟩ := h
  exact ⟨cs, e, h.mono hk hN⟩
 ·rename_i ha
  rw [if_neg ha] at h
  exact h.mono hk hN
theorem fQ.mono {w' : World} {N' : Nat -> Prop} (hk : Keep N w w') (hN : ∀ b, b < w.heap.size -> N' b -> N b) : ∀ {ts : List Ty} {x : bX ts} {us : List Value}, fQ w N ts x us -> fQ w' N' ts x us
 | [], _, _, h => h
 | [t], x, _, h => by obtain ⟨u, e, h⟩ := h; exact ⟨u, e, h.mono hk hN⟩
 | t :: s :: r, x, _, h => by obtain ⟨u, us, e, h, h2⟩ := h; exact ⟨u, us, e, h.mono hk hN, h2.mono hk hN⟩
theorem Ty.Rel.flat {N' : Nat -> Prop} {w' : World} : ∀ {t : Ty} {x : t.den} {cs : List Value}, t.flat = true -> t.Rel w N x cs -> t.Rel w' N' x cs
 | .unit, _, _, _, h => h
 | .bool, _, _, _, h => h
 | .int _, _, _, _, h => h
 | .str, _, _, _, h => h
 | .err, _, _, _, h => h
 | .opq, _, _, hf, _ => by cases hf
 | .slice _, _, _, hf, _ => by cases hf
 | .pair a b, _, _, hf, h => by
  simp only [Ty.flat, Bool.and_eq_true] at hf
  obtain ⟨c1, c2, e, h1, h2⟩ := h
  exact ⟨c1, c2, e, Ty.Rel.flat hf.1 h1, Ty.Rel.flat hf.2 h2⟩
 | .arr n a, _, _, hf, h => by
  simp only [Ty.flat] at hf
  obtain ⟨h0, css, e, h1⟩ := h
  exact ⟨h0, css, e, h1.mono fun x c hx => Ty.Rel.flat hf hx⟩
theorem Ty.fK.flat {N' : Nat -> Prop} {w' : World} {t : Ty} {x : t.den} {u : Value} (hf : t.flat = true) (h : t.fK w N x u) : t.fK w' N' x u := by
 unfold Ty.fK at *
 split
 ·rename_i ha
  rw [if_pos ha] at h
  obtain ⟨cs, e, h⟩ := h
  exact ⟨cs, e, h.flat hf⟩
 ·rename_i ha
  rw [if_neg ha] at h
  exact h.flat hf
theorem fQ.flat {N' : Nat -> Prop} {w' : World} : ∀ {ts : List Ty} {x : bX ts} {us : List Value}, bP Ty.flat ts = true -> fQ w N ts x us -> fQ w' N' ts x us
 | [], _, _, _, h => h
 | [t], x, _, hf, h => by
  simp only [bP, Bool.and_true] at hf
  obtain ⟨u, e, h⟩ := h; exact ⟨u, e, h.flat hf⟩
 | t :: s :: r, x, _, hf, h => by
  simp only [bP, Bool.and_eq_true] at hf
  obtain ⟨u, us, e, h, h2⟩ := h
  exact ⟨u, us, e, h.flat hf.1, fQ.flat (by simp only [bP, Bool.and_eq_true]; exact hf.2) h2⟩
end
def Pure (P : Program) (f : FuncId) (as rs : List Ty) (F : bX as -> Option (bX rs)) : Prop :=
 gW P f = true ∧ ∀ x y, F x = some y -> ∀ (w : World) (N : Nat -> Prop) (xs : List Value), Glob P w -> (∀ b, N b -> b < w.heap.size) -> fQ w N as x xs ->
  Calls P f xs.toArray w fun e w' => ∃ us : List Value, e = .returned (mX us) ∧ w'.os = w.os ∧ w'.tape = w.tape ∧ w'.output = w.output ∧ Keep (fun _ => False) w w' ∧ fQ w' N rs y us
def zGb (T : Tab) (res : List ResultVar) (rs : List Ty) (σ : St) : Option (bX rs) :=
 match Mq T σ res with
 | some (c, vs) =>
  match Ct rs vs with
  | some y => chk c (some y)
  | none => none
 | none => none
def zGc (T : Tab) (res : List ResultVar) (rs : List Ty) : K (bX rs) := fun e σ =>
 match e with
 | .normal => zGb T res rs σ
 | .ret => zGb T res rs σ
 | _ => none
section
variable {T : Tab} {P : Program}
theorem Zu {C : Ctx} {β β' : Nat -> Pl} {w : World} {σ : St} {a : Act} {fn : Func} {vs : List (Sum L (List L))} {N' : Nat -> Prop} (hT : bG C.P T) (hs : Sim C β σ a w) (hN : ∀ b, b < w.heap.size -> N' b -> C.N0 b) (h : Mq T σ fn.results.toList = some (true, vs)) :
  ∃ us : List Value, (results fn a.tmps).run C.P w = .ok (mX us) w ∧ aQ (jB β' w N') vs us := by
 obtain ⟨us, h1, h2, _⟩ := Wi (β' := β') hT hs hN h #[]
 refine ⟨us, ?_, h2⟩
 have e0 : results fn a.tmps = (do let vs <- fn.results.mapM (oZ a.tmps); pure (if h : vs.size = 1 then vs[0] else .tuple vs)) := by
  unfold results
  congr 1
 have hm : (fn.results.mapM (oZ a.tmps) : Sem (Array Value)).run C.P w = .ok us.toArray w := by
  rw [Array.mapM_eq_foldlM, <- Array.foldlM_toList]
  have e : (fun (acc : Array Value) rv => do let v <- oZ a.tmps rv; pure (acc.push v) : Array Value -> ResultVar -> Sem (Array Value)) = (fun (acc : Array Value) rv => acc.push <$> oZ a.tmps rv) := by
   funext acc rv
   rfl
  rw [e] at h1
  simpa using h1
 rw [e0]
 simp only [Sem.run_bind, hm, Result.andThen_ok, Sem.run_pure]
 match us with
 | [] => rfl
 | [u] => rfl
 | u :: v :: us => simp [mX]
theorem Jr : ∀ cs : List Co, bP (Co.fx 0) cs = true
 | [] => rfl
 | c :: cs => by
  simp only [bP, Jr cs, Bool.and_true]
  cases c <;> first | rfl | simp [Co.fx]
theorem yD {ρ : Type} : ∀ an : An ρ, an.fx 0 = true
 | .nil => rfl
 | .mk l r c => by simp only [An.fx, yD l, yD r, Jr, Bool.and_self]
 | .loop _ c0 c1 _ a => by simp only [An.fx, yD a, Jr, Bool.and_self]
 | .scope _ a b => by simp only [An.fx, yD a, yD b, Bool.and_self]
 | .sem _ => rfl
 | .co c a => by simp only [An.fx, yD a, Jr, Bool.and_self]
 | .join _ c a => by simp only [An.fx, yD a, Jr, Bool.and_self]
theorem dF {f : FuncId} {fn : Func} {c : Code} {as rs : List Ty} {F : bX as -> Option (bX rs)} {Γ : Orc (bX rs)} {an : An (bX rs)} (hf : P.funcs[f]? = some fn) (hb : fn.body = some c) (hh : gW P f = true) (hT : bG P T) (hΓ : iH P Γ) (hm : P.follows .mixedOrders = true) (ha : Uk P 0 c an)
  (h : ∀ x, ev Γ T c an ⟨zN (Gf as x) fn.ntmps, []⟩ (zGc T fn.results.toList rs) = F x) : Pure P f as rs F := by
 refine ⟨hh, fun x y hF w N xs hG hN hx => ?_⟩
 rw [<- h x] at hF
 let C : Ctx := { P := P, N0 := N, w0 := w, Fb := fun _ => False, glob := fun w' h => hG.keep fun b hb => h b hb (fun h => h), fix := [] }
 let β0 : Nat -> Pl := fun _ => ⟨false, false, 0, none, 0, 0, 0⟩
 have hargs : oF β0 w N (Gf as x) xs := Wj hx
 have hxl : (Gf as x).length = xs.length := hargs.length
 have Zv : Sim C β0 ⟨zN (Gf as x) fn.ntmps, []⟩ { tmps := xs.toArray ++ Array.replicate (fn.ntmps - xs.toArray.size) undef, defers := [] } w := by
  refine ⟨⟨by simp, fun _ _ => rfl, by simp, by simp, hN, fun _ _ _ => rfl, Nat.le_refl _, rfl, rfl, rfl, fun j o hj => by cases hj⟩, rfl, by simp [zN, hxl], ?_⟩
  intro i u hu
  simp only [zN] at hu
  by_cases hi : i < (Gf as x).length
  ·rw [List.getElem?_append_left hi] at hu
   have hi' : i < xs.length := by rw [<- hxl]; exact hi
   have hr := hargs.get i hi hi'
   rw [List.getElem?_eq_getElem hi] at hu
   simp only [Option.some.injEq] at hu
   subst hu
   have : (xs.toArray ++ Array.replicate (fn.ntmps - xs.toArray.size) undef).getD i undef = xs[i] := by
    rw [Array.getD_eq_getD_getElem?, Array.getElem?_append_left (by simpa using hi')]
    simp [hi']
   rw [this]
   refine hr.mono (Moves.refl β0) (Keep.refl _ w) (fun b _ hb => ?_)
   rcases hb with hb | ⟨id, o, ho, _⟩
   ·exact hb
   ·simp at ho
  ·rw [List.getElem?_append_right (by omega), List.getElem?_replicate] at hu
   split at hu
   ·simp only [Option.some.injEq] at hu; subst hu; trivial
   ·cases hu
 refine calls_of_wp hf hb ?_
 refine Oy (P := P) hT hΓ hm c an ha (yD an) _ _ y hF C β0 _ w _ rfl (Nat.le_refl _) Zv ?_
 intro e x' σ' β' a' w' hs' hx' hk
 have fin : zGb T fn.results.toList rs σ' = some y -> x' = .ret ∨ x' = .normal -> bodyPost P fn (fun e w' => ∃ us : List Value, e = .returned (mX us) ∧ w'.os = w.os ∧ w'.tape = w.tape ∧ w'.output = w.output ∧ Keep (fun _ => False) w w' ∧ fQ w' N rs y us) x' a' w' := by
  intro hk hx'
  unfold zGb at hk
  split at hk
  ·rename_i cc ss hrs
   split at hk
   ·rename_i y' hd
    obtain ⟨rfl, hk⟩ := iG hk
    obtain rfl := Option.some.inj hk
    obtain ⟨us, h1, h2⟩ := Zu (C := C) (β' := β0) (N' := N) (fn := fn) hT hs' (fun _ _ hb => hb) hrs
    have hkeep : Keep (fun _ => False) w w' := ⟨hs'.heap.size, fun b hb _ => hs'.heap.frame b hb (fun h => h)⟩
    have hR := Wn hd h2
    rcases hx' with rfl | rfl
    ·exact ⟨hs'.defers, _, h1, us, rfl, hs'.heap.os, hs'.heap.tape, hs'.heap.output, hkeep, hR⟩
    ·exact ⟨hs'.defers, _, h1, us, rfl, hs'.heap.os, hs'.heap.tape, hs'.heap.output, hkeep, hR⟩
   ·cases hk
  ·cases hk
 cases e with
 | normal => obtain rfl := hx'; exact fin hk (.inr rfl)
 | ret => obtain rfl := hx'; exact fin hk (.inl rfl)
 | exit i => simp [zGc] at hk
 | goto l => simp [zGc] at hk
 | pan t u => simp [zGc] at hk
def bV (as rs : List Ty) (F : bX as -> Option (bX rs)) : PE where
 R := bX rs
 use := 1
 run vs h := match tO (bP Ty.flat rs) h as vs with
  | some (c, x) => some (c, F x)
  | none => none
 enc y _ h := (zLn (zFz rs y), h)
theorem Zw {C : Ctx} {β : Nat -> Pl} {h : List Ob} {w : World} {bor : Bool} {t : Ty} {v : V} {x : t.den} {u : Value} (hd : Oz bor h t v = some (true, x)) (hs : fJ C β h w) (hr : v.Rel β w (C.N β h) u) :
  t.fK w (zQs bor (C.N β h)) x u := by
 unfold Oz at hd
 cases bor with
 | true =>
  simp only at hd ⊢
  split at hd
  ·rename_i c v' hv
   split at hd
   ·rename_i s hsum
    split at hd
    ·rename_i y hy
     simp only [Option.some.injEq, Prod.mk.injEq] at hd
     obtain ⟨rfl, rfl⟩ := hd
     obtain ⟨h1, _⟩ := V.qO (β' := β) (N' := fun _ => False) hv hs (fun _ _ h => h.elim) hr
     exact Gg hy (V.Un hsum h1)
    ·cases hd
   ·cases hd
  ·cases hd
 | false =>
  simp only at hd ⊢
  split at hd
  ·rename_i s hD hsum
   split at hd
   ·rename_i y hy
    simp only [Option.some.injEq, Prod.mk.injEq, true_and] at hd
    subst hd
    exact Gg hy (V.Un hsum hr)
   ·cases hd
  ·cases hd
theorem Wo {C : Ctx} {β : Nat -> Pl} {h : List Ob} {w : World} {bor : Bool} (hs : fJ C β h w) : ∀ {ts : List Ty} {vs : List V} {x : bX ts} {us : List Value}, tO bor h ts vs = some (true, x) -> oF β w (C.N β h) vs us ->
  fQ w (zQs bor (C.N β h)) ts x us
 | [], [], _, [], _, _ => rfl
 | [t], [v], x, [u], hd, hr => ⟨u, rfl, Zw hd hs hr.1⟩
 | t :: s :: r, v :: vs, x, u :: us, hd, hr => by
  simp only [tO] at hd
  split at hd
  ·rename_i c y d z h1 h2
   simp only [Option.some.injEq, Prod.mk.injEq, Bool.and_eq_true] at hd
   obtain ⟨⟨rfl, rfl⟩, rfl⟩ := hd
   exact ⟨u, us, rfl, Zw h1 hs hr.1, Wo hs h2 hr.2⟩
  ·cases hd
 | [], [], _, _ :: _, _, hr => hr.elim
 | [], _ :: _, _, _, h, _ => by simp [tO] at h
 | [t], [], _, _, h, _ => by simp [tO] at h
 | [t], [s], _, [], _, hr => hr.elim
 | [t], [s], _, _ :: _ :: _, _, hr => hr.2.elim
 | [t], _ :: _ :: _, _, _, h, _ => by simp [tO] at h
 | t :: u :: r, [], _, _, h, _ => by simp [tO] at h
 | t :: u :: r, s :: ss, _, [], _, hr => hr.elim
theorem Zx {h : List Ob} : ∀ {l : L}, l.isD = true -> l.deep h = some (true, l)
 | .val .., _ => rfl
 | .kQ, _ => rfl
 | .dL, _ => rfl
 | .jE .., _ => rfl
 | .clo f [], _ => rfl
 | .clo f (_ :: _), h => by cases h
 | .ptr .., h => by cases h
 | .jY .., h => by cases h
 | .fU .., h => by cases h
 | .sl .., h => by cases h
 | .own .., h => by cases h
 | .bad _, h => by cases h
 | .eH .., h => by cases h
theorem Wp {h : List Ob} : ∀ {ls : List L}, bP L.isD ls = true -> Gc h ls = some (true, ls)
 | [], _ => rfl
 | l :: ls, hd => by
  simp only [bP, Bool.and_eq_true] at hd
  simp only [Gc, Zx hd.1, Wp hd.2, Bool.and_self]
theorem Zy {bor : Bool} {t : Ty} {v : V} (hd : v.isD = true) (h h2 : List Ob) : Oz bor h t v = Oz bor h2 t v := by
 cases bor with
 | false => rfl
 | true =>
  unfold Oz
  cases v with
  | one l => simp only [V.deep, Zx (show l.isD = true from hd)]
  | agg ls => simp only [V.deep, Wp (show bP L.isD ls = true from hd)]
  | _ => rfl
theorem Wq {bor : Bool} : ∀ {ts : List Ty} {vs : List V} (_ : bP V.isD vs = true) (h h2 : List Ob), tO bor h ts vs = tO bor h2 ts vs
 | [], [], _, _, _ => rfl
 | [t], [v], hd, h, h2 => by
  simp only [bP, Bool.and_true] at hd
  simp only [tO, Zy hd h h2]
 | t :: s :: r, v :: vs, hd, h, h2 => by
  simp only [bP, Bool.and_eq_true] at hd
  simp only [tO, Zy hd.1 h h2, Wq (ts := s :: r) hd.2 h h2]
 | [], _ :: _, _, _, _ => rfl
 | [t], [], _, _, _ => rfl
 | [t], _ :: _ :: _, _, _, _ => rfl
 | t :: s :: r, [], _, _, _ => rfl
theorem Zz {β : Nat -> Pl} {w : World} {N : Nat -> Prop} {ss : List (Sum L (List L))} {us : List Value} (h : aQ (jB β w N) ss us) : (zLn ss).Rel β w N (mX us) := by
 match ss, us, h with
 | [], [], _ => exact ⟨[], rfl, trivial⟩
 | [.inl l], [u], h => exact h.1
 | [.inr ls], [u], h => exact h.1
 | s :: t :: ss, u :: v :: us, h => cases s <;> exact ⟨_, rfl, h⟩
theorem aN {f : FuncId} {as rs : List Ty} {F : bX as -> Option (bX rs)} (h : Pure P f as rs F) : (bV as rs F).OK P f := by
 refine ⟨h.1, fun vs hp y hr C β w xs hP hs ha => ?_, fun _ vs h1 h2 hd => ⟨by simp only [bV]; rw [Wq hd h1 h2], fun _ => rfl⟩, fun _ _ _ _ => rfl⟩
 subst hP
 simp only [bV] at hr
 split at hr
 ·rename_i c x hd
  simp only [Option.some.injEq, Prod.mk.injEq] at hr
  obtain ⟨rfl, hF⟩ := hr
  have hx := Wo hs hd ha
  have hn : ∀ b, C.N β hp b -> b < w.heap.size := fun b hb => by
   rcases hb with hb | ⟨id, o, ho, _, hbk⟩
   ·exact Nat.lt_of_lt_of_le (hs.n0 b hb) hs.size
   ·exact (hs.fresh id o b ho hbk).2.1
  refine (h.2 x y hF w _ xs (C.glob w hs.frame) (fun b hb => ?_) hx).mono ?_
  ·cases hfl : bP Ty.flat rs with
   | true => rw [hfl] at hb; exact hb.elim
   | false => rw [hfl] at hb; exact hn b hb
  ·rintro e w' ⟨us, rfl, ho, ht, hop, hk, hy⟩
   have hy' : fQ w' (C.N β hp) rs y us := by
    cases hfl : bP Ty.flat rs with
    | true => exact hy.flat hfl
    | false => rw [hfl] at hy; exact hy
   refine ⟨_, _, β, ⟨rfl, rfl⟩, Moves.refl β, hk.weaken fun _ h => h.elim, fun _ _ h => h, ?_, _, rfl, Zz (Wm hy')⟩
   refine ⟨fun id o hob => (hs.obj id o hob).mono (Moves.refl β) (hk.weaken fun _ h => h.elim) (fun _ _ h => h) fun b hb => hk.block b (hs.fresh id o b hob hb).2.1 (fun h => h), hs.dead, hs.apart, ?_, hs.n0, ?_, Nat.le_trans hs.size hk.size, ho.trans hs.os, ht.trans hs.tape, hop.trans hs.output, hs.fixed⟩
   ·intro id o b hob hb
    obtain ⟨k1, k2, k3⟩ := hs.fresh id o b hob hb
    exact ⟨k1, Nat.lt_of_lt_of_le k2 hk.size, k3⟩
   ·intro b hb hnb
    rw [hk.block b (Nat.lt_of_lt_of_le hb hs.size) (fun h => h)]
    exact hs.frame b hb hnb
 ·cases hr
def pes : List (FuncId × PE) -> FuncId -> Option PE
 | [], _ => none
 | (g, e) :: r, f => match Nat.beq g f with
  | true => some e
  | false => pes r f
def orc (ρ : Type) (l : List (FuncId × PE)) : Orc ρ := ⟨pes l, fun _ _ _ _ => none⟩
theorem zQt {ρ : Type} : ∀ {l : List (FuncId × PE)}, (∀ p ∈ l, p.2.OK P p.1) -> iH P (orc ρ l) := by
 intro l h
 refine ⟨fun f e he => ?_, fun _ _ _ _ _ h => by cases h⟩
 simp only [orc] at he
 induction l with
 | nil => cases he
 | cons p r ih =>
  obtain ⟨g, e'⟩ := p
  simp only [pes] at he
  split at he
  ·rename_i hb
   have := Nat.eq_of_beq_eq_true hb
   subst this
   simp only [Option.some.injEq] at he
   subst he
   exact h _ (.head _)
  ·exact ih (fun p hp => h p (.tail _ hp)) he
theorem all_nil {Q : FuncId × PE -> Prop} : ∀ p ∈ ([] : List (FuncId × PE)), Q p := fun _ h => by cases h
theorem all_cons {Q : FuncId × PE -> Prop} {p : FuncId × PE} {l : List (FuncId × PE)} (h : Q p) (hl : ∀ q ∈ l, Q q) : ∀ q ∈ p :: l, Q q := fun q hq => by
 cases hq with
 | head => exact h
 | tail _ hq => exact hl q hq
end
end Go.Dec
namespace Go.Dec
mutual
def L.back (f v : Nat -> Nat) : L -> L
 | .ptr id o => .ptr (f id) o
 | .eH id o => .eH (f id) o
 | .jY id o es i sub => .jY (f id) o es i sub
 | .fU id u i o => .fU (f id) (u + v id) i o
 | .sl id u i n => .sl (f id) (u + v id) i n
 | .own id u => .own (f id) (u + v id)
 | .clo g caps => .clo g (L.backs f v caps)
 | l => l
def L.backs (f v : Nat -> Nat) : List L -> List L
 | [] => []
 | l :: ls => l.back f v :: L.backs f v ls
end
def V.back (f v : Nat -> Nat) : V -> V
 | .one l => .one (l.back f v)
 | .agg ls => .agg (L.backs f v ls)
 | _ => .bC
def Ob.back (f v : Nat -> Nat) (id : Nat) : Ob -> Ob
 | .box e ls => .box e (L.backs f v ls)
 | .arr e t u rows wr => .arr e t (u + v id) rows wr
section
variable {β β' : Nat -> Pl} {w : World} {N N' : Nat -> Prop}
structure Js (p q : Pl) (v : Nat) : Prop where
 live : q.live = p.live
 box : q.box = p.box
 blk : q.blk = p.blk
 row : p.box = false -> q.ver = p.ver + v ∧ q.size = p.size ∧ q.cap = p.cap ∧ q.len = p.len
theorem Js.zNp {p q : Pl} {v : Nat} (h : Js p q v) (hb : p.box = false) {off len : Nat} {c : Value} : eO q off len c <-> eO p off len c := by
 obtain ⟨_, h2, h3, _⟩ := h.row hb
 unfold eO
 rw [h.blk, h2, h3]
mutual
theorem L.Rel.back {f v : Nat -> Nat} (hβ : ∀ j, (β j).live = true -> Js (β j) (β' (f j)) (v j)) (hN : ∀ b, b < w.heap.size -> N' b -> N b) : ∀ {l : L} {cs : List Value}, l.Rel β w N cs -> (l.back f v).Rel β' w N' cs
 | .val t x, cs, h => by simp only [L.back, L.Rel] at *; exact Ty.Rel.mono (Keep.refl _ w) hN h
 | .ptr id off, cs, h => by
  simp only [L.back, L.Rel] at *
  obtain ⟨h1, h2, h3⟩ := h
  have := hβ id h1
  exact ⟨this.live ▸ h1, this.box ▸ h2, by rw [this.blk]; exact h3⟩
 | .jY id off es i sub, cs, h => by
  simp only [L.back, L.Rel] at *
  obtain ⟨h1, h2, h3⟩ := h
  have := hβ id h1
  exact ⟨this.live ▸ h1, this.box ▸ h2, by rw [this.blk]; exact h3⟩
 | .kQ, cs, h => by simp only [L.back, L.Rel] at *; exact h
 | .eH id off, cs, h => by
  simp only [L.back, L.Rel] at *
  obtain ⟨c, e, h⟩ := h
  refine ⟨c, e, ?_⟩
  rcases h with h | ⟨h1, h2, h3⟩
  ·exact .inl h
  ·have := hβ id h1
   exact .inr ⟨this.live ▸ h1, this.box ▸ h2, by rw [this.blk]; exact h3⟩
 | .fU id u i off, cs, h => by
  simp only [L.back, L.Rel] at *
  obtain ⟨h1, h2, h3, c, h4, h5, h6⟩ := h
  have := hβ id h1
  obtain ⟨g1, g2, g3, g4⟩ := this.row h2
  refine ⟨this.live ▸ h1, this.box ▸ h2, by omega, c, h4, h5, fun hv => ?_⟩
  rw [this.blk, g2]
  exact h6 (by omega)
 | .jE t x off, cs, h => by simp only [L.back, L.Rel] at *; obtain ⟨c, hc, hr⟩ := h; exact ⟨c, hc, hr.mono (Keep.refl _ w) hN⟩
 | .sl id u off len, cs, h => by
  simp only [L.back, L.Rel] at *
  obtain ⟨h1, h2, h3, c, h4, h5, h6⟩ := h
  have := hβ id h1
  obtain ⟨g1, g2, g3, g4⟩ := this.row h2
  exact ⟨this.live ▸ h1, this.box ▸ h2, by omega, c, h4, h5, fun hv => (this.zNp h2).2 (h6 (by omega))⟩
 | .own id u, cs, h => by
  simp only [L.back, L.Rel] at *
  obtain ⟨h1, h2, h3, c, h4, h5, h6⟩ := h
  have := hβ id h1
  obtain ⟨g1, g2, g3, g4⟩ := this.row h2
  exact ⟨this.live ▸ h1, this.box ▸ h2, by omega, c, h4, h5, fun hv => by rw [g4]; exact (this.zNp h2).2 (h6 (by omega))⟩
 | .dL, cs, h => by simp only [L.back, L.Rel] at *; exact h
 | .clo g caps, cs, h => by
  simp only [L.back, L.Rel] at *
  obtain ⟨us, hc, hr⟩ := h
  exact ⟨us, hc, L.bZ.back hβ hN hr⟩
 | .bad n, cs, h => by simp only [L.back, L.Rel] at *; exact h
theorem L.bZ.back {f v : Nat -> Nat} (hβ : ∀ j, (β j).live = true -> Js (β j) (β' (f j)) (v j)) (hN : ∀ b, b < w.heap.size -> N' b -> N b) : ∀ {ls : List L} {us : List Value}, L.bZ β w N ls us -> L.bZ β' w N' (L.backs f v ls) us
 | [], us, h => by simp only [L.backs, L.bZ] at *; exact h
 | l :: ls, us, h => by
  simp only [L.backs, L.bZ] at *
  obtain ⟨u, r, e, h1, h2⟩ := h
  exact ⟨u, r, e, L.Rel.back hβ hN h1, L.bZ.back hβ hN h2⟩
end
theorem aG.back {f v : Nat -> Nat} (hβ : ∀ j, (β j).live = true -> Js (β j) (β' (f j)) (v j)) (hN : ∀ b, b < w.heap.size -> N' b -> N b) : ∀ {ls : List L} {cs : List Value}, aG β w N ls cs -> aG β' w N' (L.backs f v ls) cs
 | [], _, h => h
 | _l :: _ls, _, ⟨c1, c2, e, h1, h2⟩ => ⟨c1, c2, e, h1.back hβ hN, aG.back hβ hN h2⟩
theorem V.Rel.back {f v : Nat -> Nat} (hβ : ∀ j, (β j).live = true -> Js (β j) (β' (f j)) (v j)) (hN : ∀ b, b < w.heap.size -> N' b -> N b) {x : V} {u : Value} (h : x.Rel β w N u) : (x.back f v).Rel β' w N' u := by
 cases x with
 | one l => exact L.Rel.back hβ hN h
 | agg ls => obtain ⟨cs, e, h⟩ := h; exact ⟨cs, e, h.back hβ hN⟩
 | _ => trivial
theorem Ob.Rel.back {f v : Nat -> Nat} (hβ : ∀ j, (β j).live = true -> Js (β j) (β' (f j)) (v j)) (hN : ∀ b, b < w.heap.size -> N' b -> N b) {id : Nat} {o : Ob} (h : o.Rel β w N (β id)) : (o.back f v id).Rel β' w N' (β' (f id)) := by
 cases o with
 | box e ls =>
  simp only [Ob.back, Ob.Rel] at *
  obtain ⟨h1, h2, b, cs, h3, h4, h5⟩ := h
  have := hβ id h1
  exact ⟨this.live ▸ h1, this.box ▸ h2, b, cs, this.blk ▸ h3, h4.back hβ hN, h5⟩
 | arr e t u rows wr =>
  simp only [Ob.back, Ob.Rel] at *
  obtain ⟨h1, h2, h3, h4, h5, h6, h7⟩ := h
  have := hβ id h1
  obtain ⟨g1, g2, g3, g4⟩ := this.row h2
  refine ⟨this.live ▸ h1, this.box ▸ h2, by omega, by rw [g2, h4], h5, by rw [g4, h6], ?_⟩
  rw [this.blk, g3]
  rcases h7 with h7 | ⟨b, cur, css, k1, k2, k3, k4⟩
  ·exact .inl h7
  ·exact .inr ⟨b, cur, css, k1, k2, k3.mono fun _ _ h => h.mono (Keep.refl _ w) hN, k4⟩
end
def jU (P : Program) (f : FuncId) (si so : Sh) (F : si.X -> Option so.X) : Prop :=
 gW P f = true ∧ ∀ x y, F x = some y -> ∀ (C : Ctx) (β : Nat -> Pl) (w : World) (xs : List Value), C.P = P -> C.fix.length <= si.os.length -> Sim C β (si.enc x) { tmps := xs.toArray, defers := [] } w ->
  Calls P f xs.toArray w fun e w' => ∃ (us : List Value) (β' : Nat -> Pl), e = .returned (mX us) ∧ Sim C β' (so.enc y) { tmps := us.toArray, defers := [] } w'
def Rf : List V -> Option (List (Sum L (List L)))
 | [] => some []
 | v :: r => match v.sum, Rf r with
  | some s, some ss => some (s :: ss)
  | _, _ => none
def zGd (vs : List V) : V :=
 match Rf vs with
 | some ss => zLn ss
 | none => .bC
def Gh (g : Nat -> Option Ob) : Nat -> List Ob -> List Ob
 | _, [] => []
 | i, o :: r => (match g i with | some o' => o' | none => o) :: Gh g (i + 1) r
def uL (f v : Nat -> Nat) : Nat -> List Ob -> List Ob
 | _, [] => []
 | j, o :: r => o.back f v j :: uL f v (j + 1) r
def wO : List Ob -> List OS -> Bool
 | [], _ => true
 | .box .. :: r, _ :: s => wO r s
 | .arr .. :: r, .row .. :: s => wO r s
 | _, _ => false
def qB (ρ : List Nat) (n : Nat) (j : Nat) : Nat := match ρ[j]? with | some i => i | none => n + (j - ρ.length)
def qC (ρ : List Nat) (h : List Ob) (j : Nat) : Nat := match ρ[j]? with
 | some i => (match h[i]? with | some (.arr _ _ u _ _) => u + 1 | _ => 0)
 | none => 0
def iO (ρ : List Nat) (h hy : List Ob) : List Ob :=
 Gh (fun i => match pos i ρ 0 with | some j => (match hy[j]? with | some o => some (o.back (qB ρ h.length) (qC ρ h) j) | none => none) | none => none) 0 h ++ uL (qB ρ h.length) (qC ρ h) ρ.length (hy.drop ρ.length)
def Rh (ρ : List Nat) (h : List Ob) (si so : Sh) : Bool :=
 nodupB ρ && (bP (fun i => Nat.blt i h.length) ρ && (Nat.beq ρ.length si.os.length && (bP Ob.wr (inH ρ h) && wO (inH ρ h) so.os)))
def peM (si so : Sh) (F : si.X -> Option so.X) : PE where
 R := so.X
 use := 2
 run vs h := match si.dec ⟨vs.map (V.ren (reach vs h) h), inH (reach vs h) h⟩ with
  | some x => some (Rh (reach vs h) h si so, F x)
  | none => none
 enc y vs h := (zGd ((so.enc y).r.map (V.back (qB (reach vs h) h.length) (qC (reach vs h) h))), iO (reach vs h) h (so.enc y).h)
theorem Pf {g : Nat -> Option Ob} : ∀ {h : List Ob} {n i : Nat}, (Gh g n h)[i]? = (h[i]?).map fun o => (match g (n + i) with | some o' => o' | none => o)
 | [], n, i => by simp [Gh]
 | o :: r, n, 0 => by simp [Gh]
 | o :: r, n, i + 1 => by
  simp only [Gh, List.getElem?_cons_succ]
  rw [Pf (h := r), show n + 1 + i = n + (i + 1) by omega]
theorem sW {g : Nat -> Option Ob} : ∀ {h : List Ob} {n : Nat}, (Gh g n h).length = h.length
 | [], _ => rfl
 | _ :: r, n => congrArg (· + 1) (sW (h := r) (n := n + 1))
theorem Jt {f v : Nat -> Nat} : ∀ {h : List Ob} {n i : Nat}, (uL f v n h)[i]? = (h[i]?).map fun o => o.back f v (n + i)
 | [], n, i => by simp [uL]
 | o :: r, n, 0 => by simp [uL]
 | o :: r, n, i + 1 => by
  simp only [uL, List.getElem?_cons_succ]
  rw [Jt (h := r), show n + 1 + i = n + (i + 1) by omega]
theorem Cu {f v : Nat -> Nat} : ∀ {h : List Ob} {n : Nat}, (uL f v n h).length = h.length
 | [], _ => rfl
 | _ :: r, n => congrArg (· + 1) (Cu (h := r) (n := n + 1))
theorem Ob.zEb {f v : Nat -> Nat} {j : Nat} (o : Ob) : (o.back f v j).wr = o.wr := by cases o <;> rfl
theorem Df : ∀ {hc : List Ob} {os : List OS} {j : Nat} {e : TypeId} {t : Ty} {u : Nat} {rows : List t.den} {wr : Bool}, wO hc os = true -> hc[j]? = some (.arr e t u rows wr) -> ∃ e' t', os[j]? = some (.row e' t')
 | [], _, j, _, _, _, _, _, _, h => by simp at h
 | .box .. :: r, [], j, _, _, _, _, _, hk, _ => by cases hk
 | .box .. :: r, s :: os, 0, _, _, _, _, _, _, h => by simp at h
 | .box .. :: r, s :: os, j + 1, _, _, _, _, _, hk, h => by
  obtain ⟨e', t', h'⟩ := Df (hc := r) (os := os) (j := j) hk (by simpa using h)
  exact ⟨e', t', by simpa using h'⟩
 | .arr .. :: r, [], j, _, _, _, _, _, hk, _ => by cases hk
 | .arr .. :: r, .box .. :: os, j, _, _, _, _, _, hk, _ => by cases hk
 | .arr .. :: r, .row e t :: os, 0, _, _, _, _, _, _, _ => ⟨e, t, rfl⟩
 | .arr .. :: r, .row e t :: os, j + 1, _, _, _, _, _, hk, h => by
  obtain ⟨e', t', h'⟩ := Df (hc := r) (os := os) (j := j) hk (by simpa using h)
  exact ⟨e', t', by simpa using h'⟩
theorem Ju {A : Type} : ∀ {os : List OS} {x : OTs os A} {j : Nat} {e : TypeId} {t : Ty}, os[j]? = some (.row e t) -> ∃ rows, (tL os x).1[j]? = some (.arr e t 0 rows true)
 | [], _, j, _, _, h => by simp at h
 | .box e0 ls :: r, x, 0, _, _, h => by simp at h
 | .box e0 ls :: r, x, j + 1, e, t, h => by
  obtain ⟨rows, h'⟩ := Ju (os := r) (x := (dK ls x).2) (j := j) (by simpa using h)
  exact ⟨rows, by simpa [tL] using h'⟩
 | .row e0 t0 :: r, x, 0, e, t, h => by
  simp only [List.getElem?_cons_zero, Option.some.injEq, OS.row.injEq] at h
  obtain ⟨rfl, rfl⟩ := h
  exact ⟨x.1, rfl⟩
 | .row e0 t0 :: r, x, j + 1, e, t, h => by
  obtain ⟨rows, h'⟩ := Ju (os := r) (x := x.2) (j := j) (by simpa using h)
  exact ⟨rows, by simpa [tL] using h'⟩
theorem Ws {β : Nat -> Pl} {w : World} {N : Nat -> Prop} : ∀ {vs : List V} {us : List Value} {ss : List (Sum L (List L))}, Rf vs = some ss -> aQ (fun v u => V.Rel β w N v u) vs us -> aQ (jB β w N) ss us
 | [], [], ss, h, _ => by simp only [Rf, Option.some.injEq] at h; subst h; trivial
 | v :: vs, u :: us, ss, h, hr => by
  simp only [Rf] at h
  split at h
  ·rename_i s ss' h1 h2
   simp only [Option.some.injEq] at h
   subst h
   exact ⟨V.Un h1 hr.1, Ws h2 hr.2⟩
  ·cases h
 | [], _ :: _, _, _, hr => hr.elim
 | _ :: _, [], _, _, hr => hr.elim
theorem zAa {β : Nat -> Pl} {w : World} {N : Nat -> Prop} {vs : List V} {us : List Value} (hr : aQ (fun v u => V.Rel β w N v u) vs us) : (zGd vs).Rel β w N (mX us) := by
 unfold zGd
 split
 ·rename_i ss h
  exact Zz (Ws h hr)
 ·trivial
theorem zEc {α γ : Type} {R : α -> γ -> Prop} : ∀ {x : List α} {y : List γ}, x.length = y.length -> (∀ (i : Nat) (a : α) (b : γ), x[i]? = some a -> y[i]? = some b -> R a b) -> aQ R x y
 | [], [], _, _ => trivial
 | a :: x, b :: y, hl, h => ⟨h 0 a b rfl rfl, zEc (by simpa using hl) fun i c d hc hd => h (i + 1) c d (by simpa using hc) (by simpa using hd)⟩
 | [], _ :: _, hl, _ => by simp at hl
 | _ :: _, [], hl, _ => by simp at hl
end Go.Dec
