/- Part of a proof over this seat: a library of my own, and what it says of this seat. No statement is proved here. -/
import Derived.Test.YthhbdkdofhhoeaaGreatDoorPartAO
namespace Go.Dec
@[reducible] def aV : List Ty -> Type
 | [] => Unit
 | [t] => t.den
 | t :: u :: r => t.den × aV (u :: r)
def mR : List Value -> Value
 | [u] => u
 | us => .tuple us.toArray
def zbL (bor : Bool) (N : Nat -> Prop) : Nat -> Prop :=
 match bor with
 | true => fun _ => False
 | false => N
def Ty.gI (w : World) (N : Nat -> Prop) (t : Ty) (x : t.den) (u : Value) : Prop :=
 if t.isAgg then ∃ cs : List Value, u = .agg cs.toArray ∧ t.Rel w N x cs else t.Rel w N x [u]
def gK (w : World) (N : Nat -> Prop) : (ts : List Ty) -> aV ts -> List Value -> Prop
 | [], _, us => us = []
 | [t], x, us => ∃ u, us = [u] ∧ t.gI w N x u
 | t :: s :: r, x, us => ∃ u us', us = u :: us' ∧ t.gI w N x.1 u ∧ gK w N (s :: r) x.2 us'
def vOf (t : Ty) (x : t.den) : V :=
 match t.isAgg with
 | true => .agg (explode t x)
 | false => .one (.val t x)
def sOf (t : Ty) (x : t.den) : Sum L (List L) :=
 match t.isAgg with
 | true => .inr (explode t x)
 | false => .inl (.val t x)
def Ej : (ts : List Ty) -> aV ts -> List V
 | [], _ => []
 | [t], x => [vOf t x]
 | t :: s :: r, x => vOf t x.1 :: Ej (s :: r) x.2
def Vx : (ts : List Ty) -> aV ts -> List (Sum L (List L))
 | [], _ => []
 | [t], x => [sOf t x]
 | t :: s :: r, x => sOf t x.1 :: Vx (s :: r) x.2
def Vy (t : Ty) (ls : List L) : Option t.den :=
 match dB t ls with
 | some (x, []) => some x
 | _ => none
def Np (t : Ty) (s : Sum L (List L)) : Option t.den :=
 match t.isAgg, s with
 | true, .inr ls => Vy t ls
 | false, .inl l => l.asT t
 | _, _ => none
def BS : (ts : List Ty) -> List (Sum L (List L)) -> Option (aV ts)
 | [], [] => some ()
 | [t], [s] => Np t s
 | t :: u :: r, s :: ss =>
  match Np t s, BS (u :: r) ss with
  | some x, some y => some (x, y)
  | _, _ => none
 | _, _ => none
def V.sum : V -> Option (Sum L (List L))
 | .one l => some (.inl l)
 | .agg ls => some (.inr ls)
 | _ => none
def J9 (bor : Bool) (h : List Ob) (t : Ty) (v : V) : Option (Bool × t.den) :=
 match bor with
 | true =>
  match v.deep h with
  | some (c, u) =>
   match u.sum with
   | some s => match Np t s with
    | some x => some (c, x)
    | none => none
   | none => none
  | none => none
 | false =>
  match v.isD, v.sum with
  | true, some s => match Np t s with
   | some x => some (true, x)
   | none => none
  | _, _ => none
def uG (bor : Bool) (h : List Ob) : (ts : List Ty) -> List V -> Option (Bool × aV ts)
 | [], [] => some (true, ())
 | [t], [v] => J9 bor h t v
 | t :: u :: r, v :: vs =>
  match J9 bor h t v, uG bor h (u :: r) vs with
  | some (c, x), some (d, y) => some (c && d, (x, y))
  | _, _ => none
 | _, _ => none
def Ty.flat : Ty -> Bool
 | .pair a b => a.flat && b.flat
 | .arr _ a => a.flat
 | .slice _ => false
 | .opq => false
 | _ => true
section
variable {β : Nat -> Pl} {w : World} {N : Nat -> Prop}
theorem Uo {t : Ty} {x : t.den} {u : Value} (h : t.gI w N x u) : (vOf t x).Rel β w N u := by
 unfold vOf
 unfold Ty.gI at h
 cases ha : t.isAgg with
 | true =>
  rw [ha, if_pos rfl] at h
  obtain ⟨cs, e, h⟩ := h
  exact ⟨cs, e, iV h⟩
 | false =>
  rw [ha, if_neg (by simp)] at h
  simp only [V.Rel, L.Rel]
  exact h
theorem OO : ∀ {ts : List Ty} {x : aV ts} {us : List Value}, gK w N ts x us -> ow β w N (Ej ts x) us
 | [], _, _, h => by simp only [gK] at h; subst h; trivial
 | [t], x, _, h => by obtain ⟨u, rfl, h⟩ := h; exact ⟨Uo h, trivial⟩
 | t :: s :: r, x, _, h => by
  obtain ⟨u, us, rfl, h, h2⟩ := h
  exact ⟨Uo h, OO h2⟩
theorem Uq {t : Ty} {x : t.den} {u : Value} (h : t.gI w N x u) : jy β w N (sOf t x) u := by
 unfold sOf
 unfold Ty.gI at h
 cases ha : t.isAgg with
 | true =>
  rw [ha, if_pos rfl] at h
  obtain ⟨cs, e, h⟩ := h
  exact ⟨cs, e, iV h⟩
 | false =>
  rw [ha, if_neg (by simp)] at h
  simp only [jy, L.Rel]
  exact h
theorem OP : ∀ {ts : List Ty} {x : aV ts} {us : List Value}, gK w N ts x us -> aW (jy β w N) (Vx ts x) us
 | [], _, _, h => by simp only [gK] at h; subst h; trivial
 | [t], x, _, h => by obtain ⟨u, rfl, h⟩ := h; exact ⟨Uq h, trivial⟩
 | t :: s :: r, x, _, h => by
  obtain ⟨u, us, rfl, h, h2⟩ := h
  exact ⟨Uq h, OP h2⟩
theorem Xp {t : Ty} {ls : List L} {x : t.den} {cs : List Value} (h : Vy t ls = some x) (hr : aH β w N ls cs) : t.Rel w N x cs := by
 unfold Vy at h
 split at h
 ·rename_i y hi
  simp only [Option.some.injEq] at h
  subst h
  obtain ⟨c1, c2, e, h1, h2⟩ := qj hi hr
  simp only [aH] at h2
  subst h2
  rw [List.append_nil] at e
  subst e
  exact h1
 ·cases h
theorem El {t : Ty} {s : Sum L (List L)} {x : t.den} {u : Value} (h : Np t s = some x) (hr : jy β w N s u) : t.gI w N x u := by
 unfold Np at h
 unfold Ty.gI
 split at h
 ·rename_i ls ha
  rw [ha, if_pos rfl]
  obtain ⟨cs, e, hr⟩ := hr
  exact ⟨cs, e, Xp h hr⟩
 ·rename_i l ha
  rw [ha, if_neg (by simp)]
  exact L.M9 h hr
 ·cases h
theorem OQ : ∀ {ts : List Ty} {ss : List (Sum L (List L))} {x : aV ts} {us : List Value}, BS ts ss = some x -> aW (jy β w N) ss us -> gK w N ts x us
 | [], [], _, [], _, _ => rfl
 | [t], [s], x, [u], h, hr => ⟨u, rfl, El h hr.1⟩
 | t :: u :: r, s :: ss, x, v :: vs, h, hr => by
  simp only [BS] at h
  split at h
  ·rename_i y z h1 h2
   simp only [Option.some.injEq] at h
   subst h
   exact ⟨v, vs, rfl, El h1 hr.1, OQ h2 hr.2⟩
  ·cases h
 | [], [], _, _ :: _, _, hr => hr.elim
 | [], _ :: _, _, _, h, _ => by simp [BS] at h
 | [t], [], _, _, h, _ => by simp [BS] at h
 | [t], [s], _, [], _, hr => hr.elim
 | [t], [s], _, _ :: _ :: _, _, hr => hr.2.elim
 | [t], _ :: _ :: _, _, _, h, _ => by simp [BS] at h
 | t :: u :: r, [], _, _, h, _ => by simp [BS] at h
 | t :: u :: r, s :: ss, _, [], _, hr => hr.elim
theorem V.Nq {v : V} {s : Sum L (List L)} {u : Value} (h : v.sum = some s) (hr : v.Rel β w N u) : jy β w N s u := by
 cases v <;> simp only [V.sum, Option.some.injEq, reduceCtorEq] at h <;> subst h <;> exact hr
theorem Ty.gI.mono {w' : World} {N' : Nat -> Prop} (hk : Keep N w w') (hN : ∀ b, b < w.heap.size -> N' b -> N b) {t : Ty} {x : t.den} {u : Value} (h : t.gI w N x u) : t.gI w' N' x u := by
 unfold Ty.gI at *
 split
 ·rename_i ha
  rw [if_pos ha] at h
  obtain ⟨cs, e, h⟩ := h
  exact ⟨cs, e, h.mono hk hN⟩
 ·rename_i ha
  rw [if_neg ha] at h
  exact h.mono hk hN
theorem gK.mono {w' : World} {N' : Nat -> Prop} (hk : Keep N w w') (hN : ∀ b, b < w.heap.size -> N' b -> N b) : ∀ {ts : List Ty} {x : aV ts} {us : List Value}, gK w N ts x us -> gK w' N' ts x us
 | [], _, _, h => h
 | [t], x, _, h => by obtain ⟨u, e, h⟩ := h; exact ⟨u, e, h.mono hk hN⟩
 | t :: s :: r, x, _, h => by obtain ⟨u, us, e, h, h2⟩ := h; exact ⟨u, us, e, h.mono hk hN, h2.mono hk hN⟩
theorem Ty.Rel.flat {N' : Nat -> Prop} {w' : World} : ∀ {t : Ty} {x : t.den} {cs : List Value}, t.flat = true -> t.Rel w N x cs -> t.Rel w' N' x cs
 | .unit, _, _, _, h => h
 | .bool, _, _, _, h => h
 | .int _, _, _, _, h => h
 | .str, _, _, _, h => h
 | .err, _, _, _, h => h
 | .opq, _, _, hf, _ => by cases hf
 | .slice _, _, _, hf, _ => by cases hf
 | .pair a b, _, _, hf, h => by
  simp only [Ty.flat, Bool.and_eq_true] at hf
  obtain ⟨c1, c2, e, h1, h2⟩ := h
  exact ⟨c1, c2, e, Ty.Rel.flat hf.1 h1, Ty.Rel.flat hf.2 h2⟩
 | .arr n a, _, _, hf, h => by
  simp only [Ty.flat] at hf
  obtain ⟨h0, css, e, h1⟩ := h
  exact ⟨h0, css, e, h1.mono fun x c hx => Ty.Rel.flat hf hx⟩
theorem Ty.gI.flat {N' : Nat -> Prop} {w' : World} {t : Ty} {x : t.den} {u : Value} (hf : t.flat = true) (h : t.gI w N x u) : t.gI w' N' x u := by
 unfold Ty.gI at *
 split
 ·rename_i ha
  rw [if_pos ha] at h
  obtain ⟨cs, e, h⟩ := h
  exact ⟨cs, e, h.flat hf⟩
 ·rename_i ha
  rw [if_neg ha] at h
  exact h.flat hf
theorem gK.flat {N' : Nat -> Prop} {w' : World} : ∀ {ts : List Ty} {x : aV ts} {us : List Value}, bV Ty.flat ts = true -> gK w N ts x us -> gK w' N' ts x us
 | [], _, _, _, h => h
 | [t], x, _, hf, h => by
  simp only [bV, Bool.and_true] at hf
  obtain ⟨u, e, h⟩ := h; exact ⟨u, e, h.flat hf⟩
 | t :: s :: r, x, _, hf, h => by
  simp only [bV, Bool.and_eq_true] at hf
  obtain ⟨u, us, e, h, h2⟩ := h
  exact ⟨u, us, e, h.flat hf.1, gK.flat (by simp only [bV, Bool.and_eq_true]; exact hf.2) h2⟩
end
def Pure (P : Program) (f : FuncId) (as rs : List Ty) (F : aV as -> Option (aV rs)) : Prop :=
 gT P f = true ∧ ∀ x y, F x = some y -> ∀ (w : World) (N : Nat -> Prop) (xs : List Value), Glob P w -> (∀ b, N b -> b < w.heap.size) -> gK w N as x xs ->
  Calls P f xs.toArray w fun e w' => ∃ us : List Value, e = .returned (mR us) ∧ w'.os = w.os ∧ w'.tape = w.tape ∧ w'.output = w.output ∧ Keep (fun _ => False) w w' ∧ gK w' N rs y us
def Vz (T : Tab) (res : List ResultVar) (rs : List Ty) (σ : St) : Option (aV rs) :=
 match IJ T σ res with
 | some (c, vs) =>
  match BS rs vs with
  | some y => chk c (some y)
  | none => none
 | none => none
def VA (T : Tab) (res : List ResultVar) (rs : List Ty) : K (aV rs) := fun e σ =>
 match e with
 | .normal => Vz T res rs σ
 | .ret => Vz T res rs σ
 | _ => none
section
variable {T : Tab} {P : Program}
theorem QY {C : Ctx} {β β' : Nat -> Pl} {w : World} {σ : St} {a : Act} {fn : Func} {vs : List (Sum L (List L))} {N' : Nat -> Prop} (hT : bL C.P T) (hs : Sim C β σ a w) (hN : ∀ b, b < w.heap.size -> N' b -> C.N0 b) (h : IJ T σ fn.results.toList = some (true, vs)) :
  ∃ us : List Value, (results fn a.tmps).run C.P w = .ok (mR us) w ∧ aW (jy β' w N') vs us := by
 obtain ⟨us, h1, h2, _⟩ := OM (β' := β') hT hs hN h #[]
 refine ⟨us, ?_, h2⟩
 have e0 : results fn a.tmps = (do let vs <- fn.results.mapM (pF a.tmps); pure (if h : vs.size = 1 then vs[0] else .tuple vs)) := by
  unfold results
  congr 1
 have hm : (fn.results.mapM (pF a.tmps) : Sem (Array Value)).run C.P w = .ok us.toArray w := by
  rw [Array.mapM_eq_foldlM, <- Array.foldlM_toList]
  have e : (fun (acc : Array Value) rv => do let v <- pF a.tmps rv; pure (acc.push v) : Array Value -> ResultVar -> Sem (Array Value)) = (fun (acc : Array Value) rv => acc.push <$> pF a.tmps rv) := by
   funext acc rv
   rfl
  rw [e] at h1
  simpa using h1
 rw [e0]
 simp only [Sem.run_bind, hm, Result.andThen_ok, Sem.run_pure]
 match us with
 | [] => rfl
 | [u] => rfl
 | u :: v :: us => simp [mR]
theorem Gg : ∀ cs : List Co, bV (Co.fx 0) cs = true
 | [] => rfl
 | c :: cs => by
  simp only [bV, Gg cs, Bool.and_true]
  cases c <;> first | rfl | simp [Co.fx]
theorem yH {ρ : Type} : ∀ an : An ρ, an.fx 0 = true
 | .nil => rfl
 | .mk l r c => by simp only [An.fx, yH l, yH r, Gg, Bool.and_self]
 | .loop _ c0 c1 _ a => by simp only [An.fx, yH a, Gg, Bool.and_self]
 | .scope _ a b => by simp only [An.fx, yH a, yH b, Bool.and_self]
 | .sem _ => rfl
 | .co c a => by simp only [An.fx, yH a, Gg, Bool.and_self]
 | .join _ c a => by simp only [An.fx, yH a, Gg, Bool.and_self]
theorem aO {f : FuncId} {fn : Func} {c : Code} {as rs : List Ty} {F : aV as -> Option (aV rs)} {Γ : Orc (aV rs)} {an : An (aV rs)} (hf : P.funcs[f]? = some fn) (hb : fn.body = some c) (hh : gT P f = true) (hT : bL P T) (hΓ : jc P Γ) (hm : P.follows .mixedOrders = true) (ha : Nl P 0 c an)
  (h : ∀ x, ev Γ T c an ⟨zN (Ej as x) fn.ntmps, []⟩ (VA T fn.results.toList rs) = F x) : Pure P f as rs F := by
 refine ⟨hh, fun x y hF w N xs hG hN hx => ?_⟩
 rw [<- h x] at hF
 let C : Ctx := { P := P, N0 := N, w0 := w, D5 := fun _ => False, glob := fun w' h => hG.keep fun b hb => h b hb (fun h => h), fix := [] }
 let β0 : Nat -> Pl := fun _ => ⟨false, false, 0, none, 0, 0, 0⟩
 have hargs : ow β0 w N (Ej as x) xs := OO hx
 have hxl : (Ej as x).length = xs.length := hargs.length
 have QZ : Sim C β0 ⟨zN (Ej as x) fn.ntmps, []⟩ { tmps := xs.toArray ++ Array.replicate (fn.ntmps - xs.toArray.size) undef, defers := [] } w := by
  refine ⟨⟨by simp, fun _ _ => rfl, by simp, by simp, hN, fun _ _ _ => rfl, Nat.le_refl _, rfl, rfl, rfl, fun j o hj => by cases hj⟩, rfl, by simp [zN, hxl], ?_⟩
  intro i u hu
  simp only [zN] at hu
  by_cases hi : i < (Ej as x).length
  ·rw [List.getElem?_append_left hi] at hu
   have hi' : i < xs.length := by rw [<- hxl]; exact hi
   have hr := hargs.get i hi hi'
   rw [List.getElem?_eq_getElem hi] at hu
   simp only [Option.some.injEq] at hu
   subst hu
   have : (xs.toArray ++ Array.replicate (fn.ntmps - xs.toArray.size) undef).getD i undef = xs[i] := by
    rw [Array.getD_eq_getD_getElem?, Array.getElem?_append_left (by simpa using hi')]
    simp [hi']
   rw [this]
   refine hr.mono (Moves.refl β0) (Keep.refl _ w) (fun b _ hb => ?_)
   rcases hb with hb | ⟨id, o, ho, _⟩
   ·exact hb
   ·simp at ho
  ·rw [List.getElem?_append_right (by omega), List.getElem?_replicate] at hu
   split at hu
   ·simp only [Option.some.injEq] at hu; subst hu; trivial
   ·cases hu
 refine calls_of_wp hf hb ?_
 refine J8 (P := P) hT hΓ hm c an ha (yH an) _ _ y hF C β0 _ w _ rfl (Nat.le_refl _) QZ ?_
 intro e x' σ' β' a' w' hs' hx' hk
 have fin : Vz T fn.results.toList rs σ' = some y -> x' = .ret ∨ x' = .normal -> bodyPost P fn (fun e w' => ∃ us : List Value, e = .returned (mR us) ∧ w'.os = w.os ∧ w'.tape = w.tape ∧ w'.output = w.output ∧ Keep (fun _ => False) w w' ∧ gK w' N rs y us) x' a' w' := by
  intro hk hx'
  unfold Vz at hk
  split at hk
  ·rename_i cc ss hrs
   split at hk
   ·rename_i y' hd
    obtain ⟨rfl, hk⟩ := iZ hk
    obtain rfl := Option.some.inj hk
    obtain ⟨us, h1, h2⟩ := QY (C := C) (β' := β0) (N' := N) (fn := fn) hT hs' (fun _ _ hb => hb) hrs
    have hkeep : Keep (fun _ => False) w w' := ⟨hs'.heap.size, fun b hb _ => hs'.heap.frame b hb (fun h => h)⟩
    have hR := OQ hd h2
    rcases hx' with rfl | rfl
    ·exact ⟨hs'.defers, _, h1, us, rfl, hs'.heap.os, hs'.heap.tape, hs'.heap.output, hkeep, hR⟩
    ·exact ⟨hs'.defers, _, h1, us, rfl, hs'.heap.os, hs'.heap.tape, hs'.heap.output, hkeep, hR⟩
   ·cases hk
  ·cases hk
 cases e with
 | normal => obtain rfl := hx'; exact fin hk (.inr rfl)
 | ret => obtain rfl := hx'; exact fin hk (.inl rfl)
 | exit i => simp [VA] at hk
 | goto l => simp [VA] at hk
 | pan t u => simp [VA] at hk
def aQ (as rs : List Ty) (F : aV as -> Option (aV rs)) : PE where
 R := aV rs
 use := 1
 run vs h := match uG (bV Ty.flat rs) h as vs with
  | some (c, x) => some (c, F x)
  | none => none
 enc y _ h := (YK (Vx rs y), h)
theorem Q0 {C : Ctx} {β : Nat -> Pl} {h : List Ob} {w : World} {bor : Bool} {t : Ty} {v : V} {x : t.den} {u : Value} (hd : J9 bor h t v = some (true, x)) (hs : gH C β h w) (hr : v.Rel β w (C.N β h) u) :
  t.gI w (zbL bor (C.N β h)) x u := by
 unfold J9 at hd
 cases bor with
 | true =>
  simp only at hd ⊢
  split at hd
  ·rename_i c v' hv
   split at hd
   ·rename_i s hsum
    split at hd
    ·rename_i y hy
     simp only [Option.some.injEq, Prod.mk.injEq] at hd
     obtain ⟨rfl, rfl⟩ := hd
     obtain ⟨h1, _⟩ := V.ru (β' := β) (N' := fun _ => False) hv hs (fun _ _ h => h.elim) hr
     exact El hy (V.Nq hsum h1)
    ·cases hd
   ·cases hd
  ·cases hd
 | false =>
  simp only at hd ⊢
  split at hd
  ·rename_i s hD hsum
   split at hd
   ·rename_i y hy
    simp only [Option.some.injEq, Prod.mk.injEq, true_and] at hd
    subst hd
    exact El hy (V.Nq hsum hr)
   ·cases hd
  ·cases hd
theorem OT {C : Ctx} {β : Nat -> Pl} {h : List Ob} {w : World} {bor : Bool} (hs : gH C β h w) : ∀ {ts : List Ty} {vs : List V} {x : aV ts} {us : List Value}, uG bor h ts vs = some (true, x) -> ow β w (C.N β h) vs us ->
  gK w (zbL bor (C.N β h)) ts x us
 | [], [], _, [], _, _ => rfl
 | [t], [v], x, [u], hd, hr => ⟨u, rfl, Q0 hd hs hr.1⟩
 | t :: s :: r, v :: vs, x, u :: us, hd, hr => by
  simp only [uG] at hd
  split at hd
  ·rename_i c y d z h1 h2
   simp only [Option.some.injEq, Prod.mk.injEq, Bool.and_eq_true] at hd
   obtain ⟨⟨rfl, rfl⟩, rfl⟩ := hd
   exact ⟨u, us, rfl, Q0 h1 hs hr.1, OT hs h2 hr.2⟩
  ·cases hd
 | [], [], _, _ :: _, _, hr => hr.elim
 | [], _ :: _, _, _, h, _ => by simp [uG] at h
 | [t], [], _, _, h, _ => by simp [uG] at h
 | [t], [s], _, [], _, hr => hr.elim
 | [t], [s], _, _ :: _ :: _, _, hr => hr.2.elim
 | [t], _ :: _ :: _, _, _, h, _ => by simp [uG] at h
 | t :: u :: r, [], _, _, h, _ => by simp [uG] at h
 | t :: u :: r, s :: ss, _, [], _, hr => hr.elim
theorem Q5 {h : List Ob} : ∀ {l : L}, l.isD = true -> l.deep h = some (true, l)
 | .val .., _ => rfl
 | .kN, _ => rfl
 | .dW, _ => rfl
 | .jF .., _ => rfl
 | .clo f [], _ => rfl
 | .clo f (_ :: _), h => by cases h
 | .ptr .., h => by cases h
 | .j6 .., h => by cases h
 | .gL .., h => by cases h
 | .sl .., h => by cases h
 | .own .., h => by cases h
 | .bad _, h => by cases h
 | .fH .., h => by cases h
theorem OU {h : List Ob} : ∀ {ls : List L}, bV L.isD ls = true -> Eh h ls = some (true, ls)
 | [], _ => rfl
 | l :: ls, hd => by
  simp only [bV, Bool.and_eq_true] at hd
  simp only [Eh, Q5 hd.1, OU hd.2, Bool.and_self]
theorem Q6 {bor : Bool} {t : Ty} {v : V} (hd : v.isD = true) (h h2 : List Ob) : J9 bor h t v = J9 bor h2 t v := by
 cases bor with
 | false => rfl
 | true =>
  unfold J9
  cases v with
  | one l => simp only [V.deep, Q5 (show l.isD = true from hd)]
  | agg ls => simp only [V.deep, OU (show bV L.isD ls = true from hd)]
  | _ => rfl
theorem OV {bor : Bool} : ∀ {ts : List Ty} {vs : List V} (_ : bV V.isD vs = true) (h h2 : List Ob), uG bor h ts vs = uG bor h2 ts vs
 | [], [], _, _, _ => rfl
 | [t], [v], hd, h, h2 => by
  simp only [bV, Bool.and_true] at hd
  simp only [uG, Q6 hd h h2]
 | t :: s :: r, v :: vs, hd, h, h2 => by
  simp only [bV, Bool.and_eq_true] at hd
  simp only [uG, Q6 hd.1 h h2, OV (ts := s :: r) hd.2 h h2]
 | [], _ :: _, _, _, _ => rfl
 | [t], [], _, _, _ => rfl
 | [t], _ :: _ :: _, _, _, _ => rfl
 | t :: s :: r, [], _, _, _ => rfl
theorem Q7 {β : Nat -> Pl} {w : World} {N : Nat -> Prop} {ss : List (Sum L (List L))} {us : List Value} (h : aW (jy β w N) ss us) : (YK ss).Rel β w N (mR us) := by
 match ss, us, h with
 | [], [], _ => exact ⟨[], rfl, trivial⟩
 | [.inl l], [u], h => exact h.1
 | [.inr ls], [u], h => exact h.1
 | s :: t :: ss, u :: v :: us, h => cases s <;> exact ⟨_, rfl, h⟩
theorem aB {f : FuncId} {as rs : List Ty} {F : aV as -> Option (aV rs)} (h : Pure P f as rs F) : (aQ as rs F).OK P f := by
 refine ⟨h.1, fun vs hp y hr C β w xs hP hs ha => ?_, fun _ vs h1 h2 hd => ⟨by simp only [aQ]; rw [OV hd h1 h2], fun _ => rfl⟩, fun _ _ _ _ => rfl⟩
 subst hP
 simp only [aQ] at hr
 split at hr
 ·rename_i c x hd
  simp only [Option.some.injEq, Prod.mk.injEq] at hr
  obtain ⟨rfl, hF⟩ := hr
  have hx := OT hs hd ha
  have hn : ∀ b, C.N β hp b -> b < w.heap.size := fun b hb => by
   rcases hb with hb | ⟨id, o, ho, _, hbk⟩
   ·exact Nat.lt_of_lt_of_le (hs.n0 b hb) hs.size
   ·exact (hs.fresh id o b ho hbk).2.1
  refine (h.2 x y hF w _ xs (C.glob w hs.frame) (fun b hb => ?_) hx).mono ?_
  ·cases hfl : bV Ty.flat rs with
   | true => rw [hfl] at hb; exact hb.elim
   | false => rw [hfl] at hb; exact hn b hb
  ·rintro e w' ⟨us, rfl, ho, ht, hop, hk, hy⟩
   have hy' : gK w' (C.N β hp) rs y us := by
    cases hfl : bV Ty.flat rs with
    | true => exact hy.flat hfl
    | false => rw [hfl] at hy; exact hy
   refine ⟨_, _, β, ⟨rfl, rfl⟩, Moves.refl β, hk.weaken fun _ h => h.elim, fun _ _ h => h, ?_, _, rfl, Q7 (OP hy')⟩
   refine ⟨fun id o hob => (hs.obj id o hob).mono (Moves.refl β) (hk.weaken fun _ h => h.elim) (fun _ _ h => h) fun b hb => hk.block b (hs.fresh id o b hob hb).2.1 (fun h => h), hs.dead, hs.apart, ?_, hs.n0, ?_, Nat.le_trans hs.size hk.size, ho.trans hs.os, ht.trans hs.tape, hop.trans hs.output, hs.fixed⟩
   ·intro id o b hob hb
    obtain ⟨k1, k2, k3⟩ := hs.fresh id o b hob hb
    exact ⟨k1, Nat.lt_of_lt_of_le k2 hk.size, k3⟩
   ·intro b hb hnb
    rw [hk.block b (Nat.lt_of_lt_of_le hb hs.size) (fun h => h)]
    exact hs.frame b hb hnb
 ·cases hr
def pes : List (FuncId × PE) -> FuncId -> Option PE
 | [], _ => none
 | (g, e) :: r, f => match Nat.beq g f with
  | true => some e
  | false => pes r f
def orc (ρ : Type) (l : List (FuncId × PE)) : Orc ρ := ⟨pes l, fun _ _ _ _ => none⟩
theorem zbM {ρ : Type} : ∀ {l : List (FuncId × PE)}, (∀ p ∈ l, p.2.OK P p.1) -> jc P (orc ρ l) := by
 intro l h
 refine ⟨fun f e he => ?_, fun _ _ _ _ _ h => by cases h⟩
 simp only [orc] at he
 induction l with
 | nil => cases he
 | cons p r ih =>
  obtain ⟨g, e'⟩ := p
  simp only [pes] at he
  split at he
  ·rename_i hb
   have := Nat.eq_of_beq_eq_true hb
   subst this
   simp only [Option.some.injEq] at he
   subst he
   exact h _ (.head _)
  ·exact ih (fun p hp => h p (.tail _ hp)) he
theorem all_nil {Q : FuncId × PE -> Prop} : ∀ p ∈ ([] : List (FuncId × PE)), Q p := fun _ h => by cases h
theorem all_cons {Q : FuncId × PE -> Prop} {p : FuncId × PE} {l : List (FuncId × PE)} (h : Q p) (hl : ∀ q ∈ l, Q q) : ∀ q ∈ p :: l, Q q := fun q hq => by
 cases hq with
 | head => exact h
 | tail _ hq => exact hl q hq
end
end Go.Dec
namespace Go.Dec
mutual
def L.back (f v : Nat -> Nat) : L -> L
 | .ptr id o => .ptr (f id) o
 | .fH id o => .fH (f id) o
 | .j6 id o es i sub => .j6 (f id) o es i sub
 | .gL id u i o => .gL (f id) (u + v id) i o
 | .sl id u i n => .sl (f id) (u + v id) i n
 | .own id u => .own (f id) (u + v id)
 | .clo g caps => .clo g (L.backs f v caps)
 | l => l
def L.backs (f v : Nat -> Nat) : List L -> List L
 | [] => []
 | l :: ls => l.back f v :: L.backs f v ls
end
def V.back (f v : Nat -> Nat) : V -> V
 | .one l => .one (l.back f v)
 | .agg ls => .agg (L.backs f v ls)
 | _ => .bH
def Ob.back (f v : Nat -> Nat) (id : Nat) : Ob -> Ob
 | .box e ls => .box e (L.backs f v ls)
 | .arr e t u rows wr => .arr e t (u + v id) rows wr
section
variable {β β' : Nat -> Pl} {w : World} {N N' : Nat -> Prop}
structure Gh (p q : Pl) (v : Nat) : Prop where
 live : q.live = p.live
 box : q.box = p.box
 blk : q.blk = p.blk
 row : p.box = false -> q.ver = p.ver + v ∧ q.size = p.size ∧ q.cap = p.cap ∧ q.len = p.len
theorem Gh.ZY {p q : Pl} {v : Nat} (h : Gh p q v) (hb : p.box = false) {off len : Nat} {c : Value} : fI q off len c <-> fI p off len c := by
 obtain ⟨_, h2, h3, _⟩ := h.row hb
 unfold fI
 rw [h.blk, h2, h3]
mutual
theorem L.Rel.back {f v : Nat -> Nat} (hβ : ∀ j, (β j).live = true -> Gh (β j) (β' (f j)) (v j)) (hN : ∀ b, b < w.heap.size -> N' b -> N b) : ∀ {l : L} {cs : List Value}, l.Rel β w N cs -> (l.back f v).Rel β' w N' cs
 | .val t x, cs, h => by simp only [L.back, L.Rel] at *; exact Ty.Rel.mono (Keep.refl _ w) hN h
 | .ptr id off, cs, h => by
  simp only [L.back, L.Rel] at *
  obtain ⟨h1, h2, h3⟩ := h
  have := hβ id h1
  exact ⟨this.live ▸ h1, this.box ▸ h2, by rw [this.blk]; exact h3⟩
 | .j6 id off es i sub, cs, h => by
  simp only [L.back, L.Rel] at *
  obtain ⟨h1, h2, h3⟩ := h
  have := hβ id h1
  exact ⟨this.live ▸ h1, this.box ▸ h2, by rw [this.blk]; exact h3⟩
 | .kN, cs, h => by simp only [L.back, L.Rel] at *; exact h
 | .fH id off, cs, h => by
  simp only [L.back, L.Rel] at *
  obtain ⟨c, e, h⟩ := h
  refine ⟨c, e, ?_⟩
  rcases h with h | ⟨h1, h2, h3⟩
  ·exact .inl h
  ·have := hβ id h1
   exact .inr ⟨this.live ▸ h1, this.box ▸ h2, by rw [this.blk]; exact h3⟩
 | .gL id u i off, cs, h => by
  simp only [L.back, L.Rel] at *
  obtain ⟨h1, h2, h3, c, h4, h5, h6⟩ := h
  have := hβ id h1
  obtain ⟨g1, g2, g3, g4⟩ := this.row h2
  refine ⟨this.live ▸ h1, this.box ▸ h2, by omega, c, h4, h5, fun hv => ?_⟩
  rw [this.blk, g2]
  exact h6 (by omega)
 | .jF t x off, cs, h => by simp only [L.back, L.Rel] at *; obtain ⟨c, hc, hr⟩ := h; exact ⟨c, hc, hr.mono (Keep.refl _ w) hN⟩
 | .sl id u off len, cs, h => by
  simp only [L.back, L.Rel] at *
  obtain ⟨h1, h2, h3, c, h4, h5, h6⟩ := h
  have := hβ id h1
  obtain ⟨g1, g2, g3, g4⟩ := this.row h2
  exact ⟨this.live ▸ h1, this.box ▸ h2, by omega, c, h4, h5, fun hv => (this.ZY h2).2 (h6 (by omega))⟩
 | .own id u, cs, h => by
  simp only [L.back, L.Rel] at *
  obtain ⟨h1, h2, h3, c, h4, h5, h6⟩ := h
  have := hβ id h1
  obtain ⟨g1, g2, g3, g4⟩ := this.row h2
  exact ⟨this.live ▸ h1, this.box ▸ h2, by omega, c, h4, h5, fun hv => by rw [g4]; exact (this.ZY h2).2 (h6 (by omega))⟩
 | .dW, cs, h => by simp only [L.back, L.Rel] at *; exact h
 | .clo g caps, cs, h => by
  simp only [L.back, L.Rel] at *
  obtain ⟨us, hc, hr⟩ := h
  exact ⟨us, hc, L.cZ.back hβ hN hr⟩
 | .bad n, cs, h => by simp only [L.back, L.Rel] at *; exact h
theorem L.cZ.back {f v : Nat -> Nat} (hβ : ∀ j, (β j).live = true -> Gh (β j) (β' (f j)) (v j)) (hN : ∀ b, b < w.heap.size -> N' b -> N b) : ∀ {ls : List L} {us : List Value}, L.cZ β w N ls us -> L.cZ β' w N' (L.backs f v ls) us
 | [], us, h => by simp only [L.backs, L.cZ] at *; exact h
 | l :: ls, us, h => by
  simp only [L.backs, L.cZ] at *
  obtain ⟨u, r, e, h1, h2⟩ := h
  exact ⟨u, r, e, L.Rel.back hβ hN h1, L.cZ.back hβ hN h2⟩
end
theorem aH.back {f v : Nat -> Nat} (hβ : ∀ j, (β j).live = true -> Gh (β j) (β' (f j)) (v j)) (hN : ∀ b, b < w.heap.size -> N' b -> N b) : ∀ {ls : List L} {cs : List Value}, aH β w N ls cs -> aH β' w N' (L.backs f v ls) cs
 | [], _, h => h
 | _l :: _ls, _, ⟨c1, c2, e, h1, h2⟩ => ⟨c1, c2, e, h1.back hβ hN, aH.back hβ hN h2⟩
theorem V.Rel.back {f v : Nat -> Nat} (hβ : ∀ j, (β j).live = true -> Gh (β j) (β' (f j)) (v j)) (hN : ∀ b, b < w.heap.size -> N' b -> N b) {x : V} {u : Value} (h : x.Rel β w N u) : (x.back f v).Rel β' w N' u := by
 cases x with
 | one l => exact L.Rel.back hβ hN h
 | agg ls => obtain ⟨cs, e, h⟩ := h; exact ⟨cs, e, h.back hβ hN⟩
 | _ => trivial
theorem Ob.Rel.back {f v : Nat -> Nat} (hβ : ∀ j, (β j).live = true -> Gh (β j) (β' (f j)) (v j)) (hN : ∀ b, b < w.heap.size -> N' b -> N b) {id : Nat} {o : Ob} (h : o.Rel β w N (β id)) : (o.back f v id).Rel β' w N' (β' (f id)) := by
 cases o with
 | box e ls =>
  simp only [Ob.back, Ob.Rel] at *
  obtain ⟨h1, h2, b, cs, h3, h4, h5⟩ := h
  have := hβ id h1
  exact ⟨this.live ▸ h1, this.box ▸ h2, b, cs, this.blk ▸ h3, h4.back hβ hN, h5⟩
 | arr e t u rows wr =>
  simp only [Ob.back, Ob.Rel] at *
  obtain ⟨h1, h2, h3, h4, h5, h6, h7⟩ := h
  have := hβ id h1
  obtain ⟨g1, g2, g3, g4⟩ := this.row h2
  refine ⟨this.live ▸ h1, this.box ▸ h2, by omega, by rw [g2, h4], h5, by rw [g4, h6], ?_⟩
  rw [this.blk, g3]
  rcases h7 with h7 | ⟨b, cur, css, k1, k2, k3, k4⟩
  ·exact .inl h7
  ·exact .inr ⟨b, cur, css, k1, k2, k3.mono fun _ _ h => h.mono (Keep.refl _ w) hN, k4⟩
end
def jX (P : Program) (f : FuncId) (si so : Sh) (F : si.X -> Option so.X) : Prop :=
 gT P f = true ∧ ∀ x y, F x = some y -> ∀ (C : Ctx) (β : Nat -> Pl) (w : World) (xs : List Value), C.P = P -> C.fix.length <= si.os.length -> Sim C β (si.enc x) { tmps := xs.toArray, defers := [] } w ->
  Calls P f xs.toArray w fun e w' => ∃ (us : List Value) (β' : Nat -> Pl), e = .returned (mR us) ∧ Sim C β' (so.enc y) { tmps := us.toArray, defers := [] } w'
def Lj : List V -> Option (List (Sum L (List L)))
 | [] => some []
 | v :: r => match v.sum, Lj r with
  | some s, some ss => some (s :: ss)
  | _, _ => none
def VB (vs : List V) : V :=
 match Lj vs with
 | some ss => YK ss
 | none => .bH
def Em (g : Nat -> Option Ob) : Nat -> List Ob -> List Ob
 | _, [] => []
 | i, o :: r => (match g i with | some o' => o' | none => o) :: Em g (i + 1) r
def uV (f v : Nat -> Nat) : Nat -> List Ob -> List Ob
 | _, [] => []
 | j, o :: r => o.back f v j :: uV f v (j + 1) r
def wZ : List Ob -> List OS -> Bool
 | [], _ => true
 | .box .. :: r, _ :: s => wZ r s
 | .arr .. :: r, .row .. :: s => wZ r s
 | _, _ => false
def qC (ρ : List Nat) (n : Nat) (j : Nat) : Nat := match ρ[j]? with | some i => i | none => n + (j - ρ.length)
def qD (ρ : List Nat) (h : List Ob) (j : Nat) : Nat := match ρ[j]? with
 | some i => (match h[i]? with | some (.arr _ _ u _ _) => u + 1 | _ => 0)
 | none => 0
def jh (ρ : List Nat) (h hy : List Ob) : List Ob :=
 Em (fun i => match pos i ρ 0 with | some j => (match hy[j]? with | some o => some (o.back (qC ρ h.length) (qD ρ h) j) | none => none) | none => none) 0 h ++ uV (qC ρ h.length) (qD ρ h) ρ.length (hy.drop ρ.length)
def Ll (ρ : List Nat) (h : List Ob) (si so : Sh) : Bool :=
 nodupB ρ && (bV (fun i => Nat.blt i h.length) ρ && (Nat.beq ρ.length si.os.length && (bV Ob.wr (inH ρ h) && wZ (inH ρ h) so.os)))
def peM (si so : Sh) (F : si.X -> Option so.X) : PE where
 R := so.X
 use := 2
 run vs h := match si.dec ⟨vs.map (V.ren (reach vs h) h), inH (reach vs h) h⟩ with
  | some x => some (Ll (reach vs h) h si so, F x)
  | none => none
 enc y vs h := (VB ((so.enc y).r.map (V.back (qC (reach vs h) h.length) (qD (reach vs h) h))), jh (reach vs h) h (so.enc y).h)
theorem Ka {g : Nat -> Option Ob} : ∀ {h : List Ob} {n i : Nat}, (Em g n h)[i]? = (h[i]?).map fun o => (match g (n + i) with | some o' => o' | none => o)
 | [], n, i => by simp [Em]
 | o :: r, n, 0 => by simp [Em]
 | o :: r, n, i + 1 => by
  simp only [Em, List.getElem?_cons_succ]
  rw [Ka (h := r), show n + 1 + i = n + (i + 1) by omega]
theorem tY {g : Nat -> Option Ob} : ∀ {h : List Ob} {n : Nat}, (Em g n h).length = h.length
 | [], _ => rfl
 | _ :: r, n => congrArg (· + 1) (tY (h := r) (n := n + 1))
theorem Gi {f v : Nat -> Nat} : ∀ {h : List Ob} {n i : Nat}, (uV f v n h)[i]? = (h[i]?).map fun o => o.back f v (n + i)
 | [], n, i => by simp [uV]
 | o :: r, n, 0 => by simp [uV]
 | o :: r, n, i + 1 => by
  simp only [uV, List.getElem?_cons_succ]
  rw [Gi (h := r), show n + 1 + i = n + (i + 1) by omega]
theorem BU {f v : Nat -> Nat} : ∀ {h : List Ob} {n : Nat}, (uV f v n h).length = h.length
 | [], _ => rfl
 | _ :: r, n => congrArg (· + 1) (BU (h := r) (n := n + 1))
theorem Ob.Ur {f v : Nat -> Nat} {j : Nat} (o : Ob) : (o.back f v j).wr = o.wr := by cases o <;> rfl
theorem Cw : ∀ {hc : List Ob} {os : List OS} {j : Nat} {e : TypeId} {t : Ty} {u : Nat} {rows : List t.den} {wr : Bool}, wZ hc os = true -> hc[j]? = some (.arr e t u rows wr) -> ∃ e' t', os[j]? = some (.row e' t')
 | [], _, j, _, _, _, _, _, _, h => by simp at h
 | .box .. :: r, [], j, _, _, _, _, _, hk, _ => by cases hk
 | .box .. :: r, s :: os, 0, _, _, _, _, _, _, h => by simp at h
 | .box .. :: r, s :: os, j + 1, _, _, _, _, _, hk, h => by
  obtain ⟨e', t', h'⟩ := Cw (hc := r) (os := os) (j := j) hk (by simpa using h)
  exact ⟨e', t', by simpa using h'⟩
 | .arr .. :: r, [], j, _, _, _, _, _, hk, _ => by cases hk
 | .arr .. :: r, .box .. :: os, j, _, _, _, _, _, hk, _ => by cases hk
 | .arr .. :: r, .row e t :: os, 0, _, _, _, _, _, _, _ => ⟨e, t, rfl⟩
 | .arr .. :: r, .row e t :: os, j + 1, _, _, _, _, _, hk, h => by
  obtain ⟨e', t', h'⟩ := Cw (hc := r) (os := os) (j := j) hk (by simpa using h)
  exact ⟨e', t', by simpa using h'⟩
theorem Gj {A : Type} : ∀ {os : List OS} {x : OTs os A} {j : Nat} {e : TypeId} {t : Ty}, os[j]? = some (.row e t) -> ∃ rows, (uE os x).1[j]? = some (.arr e t 0 rows true)
 | [], _, j, _, _, h => by simp at h
 | .box e0 ls :: r, x, 0, _, _, h => by simp at h
 | .box e0 ls :: r, x, j + 1, e, t, h => by
  obtain ⟨rows, h'⟩ := Gj (os := r) (x := (dV ls x).2) (j := j) (by simpa using h)
  exact ⟨rows, by simpa [uE] using h'⟩
 | .row e0 t0 :: r, x, 0, e, t, h => by
  simp only [List.getElem?_cons_zero, Option.some.injEq, OS.row.injEq] at h
  obtain ⟨rfl, rfl⟩ := h
  exact ⟨x.1, rfl⟩
 | .row e0 t0 :: r, x, j + 1, e, t, h => by
  obtain ⟨rows, h'⟩ := Gj (os := r) (x := x.2) (j := j) (by simpa using h)
  exact ⟨rows, by simpa [uE] using h'⟩
theorem OW {β : Nat -> Pl} {w : World} {N : Nat -> Prop} : ∀ {vs : List V} {us : List Value} {ss : List (Sum L (List L))}, Lj vs = some ss -> aW (fun v u => V.Rel β w N v u) vs us -> aW (jy β w N) ss us
 | [], [], ss, h, _ => by simp only [Lj, Option.some.injEq] at h; subst h; trivial
 | v :: vs, u :: us, ss, h, hr => by
  simp only [Lj] at h
  split at h
  ·rename_i s ss' h1 h2
   simp only [Option.some.injEq] at h
   subst h
   exact ⟨V.Nq h1 hr.1, OW h2 hr.2⟩
  ·cases h
 | [], _ :: _, _, _, hr => hr.elim
 | _ :: _, [], _, _, hr => hr.elim
theorem Q8 {β : Nat -> Pl} {w : World} {N : Nat -> Prop} {vs : List V} {us : List Value} (hr : aW (fun v u => V.Rel β w N v u) vs us) : (VB vs).Rel β w N (mR us) := by
 unfold VB
 split
 ·rename_i ss h
  exact Q7 (OW h hr)
 ·trivial
theorem Us {α γ : Type} {R : α -> γ -> Prop} : ∀ {x : List α} {y : List γ}, x.length = y.length -> (∀ (i : Nat) (a : α) (b : γ), x[i]? = some a -> y[i]? = some b -> R a b) -> aW R x y
 | [], [], _, _ => trivial
 | a :: x, b :: y, hl, h => ⟨h 0 a b rfl rfl, Us (by simpa using hl) fun i c d hc hd => h (i + 1) c d (by simpa using hc) (by simpa using hd)⟩
 | [], _ :: _, hl, _ => by simp at hl
 | _ :: _, [], hl, _ => by simp at hl
end Go.Dec
