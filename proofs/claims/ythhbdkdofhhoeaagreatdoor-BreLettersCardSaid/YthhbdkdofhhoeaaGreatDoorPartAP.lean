/- Part of a proof over this seat: a library of my own, and what it says of this seat. No statement is proved here. -/
import Derived.Test.YthhbdkdofhhoeaaGreatDoorPartAO
namespace Go.Dec
@[reducible] def bB : List Ty -> Type
 | [] => Unit
 | [t] => t.den
 | t :: u :: r => t.den × bB (u :: r)
def nG : List Value -> Value
 | [u] => u
 | us => .tuple us.toArray
def zRt (bor : Bool) (N : Nat -> Prop) : Nat -> Prop :=
 match bor with
 | true => fun _ => False
 | false => N
def Ty.fP (w : World) (N : Nat -> Prop) (t : Ty) (x : t.den) (u : Value) : Prop :=
 if t.isAgg then ∃ cs : List Value, u = .agg cs.toArray ∧ t.Rel w N x cs else t.Rel w N x [u]
def fT (w : World) (N : Nat -> Prop) : (ts : List Ty) -> bB ts -> List Value -> Prop
 | [], _, us => us = []
 | [t], x, us => ∃ u, us = [u] ∧ t.fP w N x u
 | t :: s :: r, x, us => ∃ u us', us = u :: us' ∧ t.fP w N x.1 u ∧ fT w N (s :: r) x.2 us'
def vOf (t : Ty) (x : t.den) : V :=
 match t.isAgg with
 | true => .agg (explode t x)
 | false => .one (.val t x)
def sOf (t : Ty) (x : t.den) : Sum L (List L) :=
 match t.isAgg with
 | true => .inr (explode t x)
 | false => .inl (.val t x)
def He : (ts : List Ty) -> bB ts -> List V
 | [], _ => []
 | [t], x => [vOf t x]
 | t :: s :: r, x => vOf t x.1 :: He (s :: r) x.2
def zHs : (ts : List Ty) -> bB ts -> List (Sum L (List L))
 | [], _ => []
 | [t], x => [sOf t x]
 | t :: s :: r, x => sOf t x.1 :: zHs (s :: r) x.2
def zHt (t : Ty) (ls : List L) : Option t.den :=
 match dB t ls with
 | some (x, []) => some x
 | _ => none
def Wo (t : Ty) (s : Sum L (List L)) : Option t.den :=
 match t.isAgg, s with
 | true, .inr ls => zHt t ls
 | false, .inl l => l.asT t
 | _, _ => none
def Dk : (ts : List Ty) -> List (Sum L (List L)) -> Option (bB ts)
 | [], [] => some ()
 | [t], [s] => Wo t s
 | t :: u :: r, s :: ss =>
  match Wo t s, Dk (u :: r) ss with
  | some x, some y => some (x, y)
  | _, _ => none
 | _, _ => none
def V.sum : V -> Option (Sum L (List L))
 | .one l => some (.inl l)
 | .agg ls => some (.inr ls)
 | _ => none
def Qt (bor : Bool) (h : List Ob) (t : Ty) (v : V) : Option (Bool × t.den) :=
 match bor with
 | true =>
  match v.deep h with
  | some (c, u) =>
   match u.sum with
   | some s => match Wo t s with
    | some x => some (c, x)
    | none => none
   | none => none
  | none => none
 | false =>
  match v.isD, v.sum with
  | true, some s => match Wo t s with
   | some x => some (true, x)
   | none => none
  | _, _ => none
def uI (bor : Bool) (h : List Ob) : (ts : List Ty) -> List V -> Option (Bool × bB ts)
 | [], [] => some (true, ())
 | [t], [v] => Qt bor h t v
 | t :: u :: r, v :: vs =>
  match Qt bor h t v, uI bor h (u :: r) vs with
  | some (c, x), some (d, y) => some (c && d, (x, y))
  | _, _ => none
 | _, _ => none
def Ty.flat : Ty -> Bool
 | .pair a b => a.flat && b.flat
 | .arr _ a => a.flat
 | .slice _ => false
 | .opq => false
 | _ => true
section
variable {β : Nat -> Pl} {w : World} {N : Nat -> Prop}
theorem zFu {t : Ty} {x : t.den} {u : Value} (h : t.fP w N x u) : (vOf t x).Rel β w N u := by
 unfold vOf
 unfold Ty.fP at h
 cases ha : t.isAgg with
 | true =>
  rw [ha, if_pos rfl] at h
  obtain ⟨cs, e, h⟩ := h
  exact ⟨cs, e, iH h⟩
 | false =>
  rw [ha, if_neg (by simp)] at h
  simp only [V.Rel, L.Rel]
  exact h
theorem Yj : ∀ {ts : List Ty} {x : bB ts} {us : List Value}, fT w N ts x us -> oN β w N (He ts x) us
 | [], _, _, h => by simp only [fT] at h; subst h; trivial
 | [t], x, _, h => by obtain ⟨u, rfl, h⟩ := h; exact ⟨zFu h, trivial⟩
 | t :: s :: r, x, _, h => by
  obtain ⟨u, us, rfl, h, h2⟩ := h
  exact ⟨zFu h, Yj h2⟩
theorem zFv {t : Ty} {x : t.den} {u : Value} (h : t.fP w N x u) : jG β w N (sOf t x) u := by
 unfold sOf
 unfold Ty.fP at h
 cases ha : t.isAgg with
 | true =>
  rw [ha, if_pos rfl] at h
  obtain ⟨cs, e, h⟩ := h
  exact ⟨cs, e, iH h⟩
 | false =>
  rw [ha, if_neg (by simp)] at h
  simp only [jG, L.Rel]
  exact h
theorem Yk : ∀ {ts : List Ty} {x : bB ts} {us : List Value}, fT w N ts x us -> aS (jG β w N) (zHs ts x) us
 | [], _, _, h => by simp only [fT] at h; subst h; trivial
 | [t], x, _, h => by obtain ⟨u, rfl, h⟩ := h; exact ⟨zFv h, trivial⟩
 | t :: s :: r, x, _, h => by
  obtain ⟨u, us, rfl, h, h2⟩ := h
  exact ⟨zFv h, Yk h2⟩
theorem zKk {t : Ty} {ls : List L} {x : t.den} {cs : List Value} (h : zHt t ls = some x) (hr : aH β w N ls cs) : t.Rel w N x cs := by
 unfold zHt at h
 split at h
 ·rename_i y hi
  simp only [Option.some.injEq] at h
  subst h
  obtain ⟨c1, c2, e, h1, h2⟩ := qF hi hr
  simp only [aH] at h2
  subst h2
  rw [List.append_nil] at e
  subst e
  exact h1
 ·cases h
theorem Hf {t : Ty} {s : Sum L (List L)} {x : t.den} {u : Value} (h : Wo t s = some x) (hr : jG β w N s u) : t.fP w N x u := by
 unfold Wo at h
 unfold Ty.fP
 split at h
 ·rename_i ls ha
  rw [ha, if_pos rfl]
  obtain ⟨cs, e, hr⟩ := hr
  exact ⟨cs, e, zKk h hr⟩
 ·rename_i l ha
  rw [ha, if_neg (by simp)]
  exact L.Vu h hr
 ·cases h
theorem Yl : ∀ {ts : List Ty} {ss : List (Sum L (List L))} {x : bB ts} {us : List Value}, Dk ts ss = some x -> aS (jG β w N) ss us -> fT w N ts x us
 | [], [], _, [], _, _ => rfl
 | [t], [s], x, [u], h, hr => ⟨u, rfl, Hf h hr.1⟩
 | t :: u :: r, s :: ss, x, v :: vs, h, hr => by
  simp only [Dk] at h
  split at h
  ·rename_i y z h1 h2
   simp only [Option.some.injEq] at h
   subst h
   exact ⟨v, vs, rfl, Hf h1 hr.1, Yl h2 hr.2⟩
  ·cases h
 | [], [], _, _ :: _, _, hr => hr.elim
 | [], _ :: _, _, _, h, _ => by simp [Dk] at h
 | [t], [], _, _, h, _ => by simp [Dk] at h
 | [t], [s], _, [], _, hr => hr.elim
 | [t], [s], _, _ :: _ :: _, _, hr => hr.2.elim
 | [t], _ :: _ :: _, _, _, h, _ => by simp [Dk] at h
 | t :: u :: r, [], _, _, h, _ => by simp [Dk] at h
 | t :: u :: r, s :: ss, _, [], _, hr => hr.elim
theorem V.Wp {v : V} {s : Sum L (List L)} {u : Value} (h : v.sum = some s) (hr : v.Rel β w N u) : jG β w N s u := by
 cases v <;> simp only [V.sum, Option.some.injEq, reduceCtorEq] at h <;> subst h <;> exact hr
theorem Ty.fP.mono {w' : World} {N' : Nat -> Prop} (hk : Keep N w w') (hN : ∀ b, b < w.heap.size -> N' b -> N b) {t : Ty} {x : t.den} {u : Value} (h : t.fP w N x u) : t.fP w' N' x u := by
 unfold Ty.fP at *
 split
 ·rename_i ha
  rw [if_pos ha] at h
  obtain ⟨cs, e, h⟩ := h
  exact ⟨cs, e, h.mono hk hN⟩
 ·rename_i ha
  rw [if_neg ha] at h
  exact h.mono hk hN
theorem fT.mono {w' : World} {N' : Nat -> Prop} (hk : Keep N w w') (hN : ∀ b, b < w.heap.size -> N' b -> N b) : ∀ {ts : List Ty} {x : bB ts} {us : List Value}, fT w N ts x us -> fT w' N' ts x us
 | [], _, _, h => h
 | [t], x, _, h => by obtain ⟨u, e, h⟩ := h; exact ⟨u, e, h.mono hk hN⟩
 | t :: s :: r, x, _, h => by obtain ⟨u, us, e, h, h2⟩ := h; exact ⟨u, us, e, h.mono hk hN, h2.mono hk hN⟩
theorem Ty.Rel.flat {N' : Nat -> Prop} {w' : World} : ∀ {t : Ty} {x : t.den} {cs : List Value}, t.flat = true -> t.Rel w N x cs -> t.Rel w' N' x cs
 | .unit, _, _, _, h => h
 | .bool, _, _, _, h => h
 | .int _, _, _, _, h => h
 | .str, _, _, _, h => h
 | .err, _, _, _, h => h
 | .opq, _, _, hf, _ => by cases hf
 | .slice _, _, _, hf, _ => by cases hf
 | .pair a b, _, _, hf, h => by
  simp only [Ty.flat, Bool.and_eq_true] at hf
  obtain ⟨c1, c2, e, h1, h2⟩ := h
  exact ⟨c1, c2, e, Ty.Rel.flat hf.1 h1, Ty.Rel.flat hf.2 h2⟩
 | .arr n a, _, _, hf, h => by
  simp only [Ty.flat] at hf
  obtain ⟨h0, css, e, h1⟩ := h
  exact ⟨h0, css, e, h1.mono fun x c hx => Ty.Rel.flat hf hx⟩
theorem Ty.fP.flat {N' : Nat -> Prop} {w' : World} {t : Ty} {x : t.den} {u : Value} (hf : t.flat = true) (h : t.fP w N x u) : t.fP w' N' x u := by
 unfold Ty.fP at *
 split
 ·rename_i ha
  rw [if_pos ha] at h
  obtain ⟨cs, e, h⟩ := h
  exact ⟨cs, e, h.flat hf⟩
 ·rename_i ha
  rw [if_neg ha] at h
  exact h.flat hf
theorem fT.flat {N' : Nat -> Prop} {w' : World} : ∀ {ts : List Ty} {x : bB ts} {us : List Value}, bR Ty.flat ts = true -> fT w N ts x us -> fT w' N' ts x us
 | [], _, _, _, h => h
 | [t], x, _, hf, h => by
  simp only [bR, Bool.and_true] at hf
  obtain ⟨u, e, h⟩ := h; exact ⟨u, e, h.flat hf⟩
 | t :: s :: r, x, _, hf, h => by
  simp only [bR, Bool.and_eq_true] at hf
  obtain ⟨u, us, e, h, h2⟩ := h
  exact ⟨u, us, e, h.flat hf.1, fT.flat (by simp only [bR, Bool.and_eq_true]; exact hf.2) h2⟩
end
def Pure (P : Program) (f : FuncId) (as rs : List Ty) (F : bB as -> Option (bB rs)) : Prop :=
 gF P f = true ∧ ∀ x y, F x = some y -> ∀ (w : World) (N : Nat -> Prop) (xs : List Value), Glob P w -> (∀ b, N b -> b < w.heap.size) -> fT w N as x xs ->
  Calls P f xs.toArray w fun e w' => ∃ us : List Value, e = .returned (nG us) ∧ w'.os = w.os ∧ w'.tape = w.tape ∧ w'.output = w.output ∧ Keep (fun _ => False) w w' ∧ fT w' N rs y us
def zHu (T : Tab) (res : List ResultVar) (rs : List Ty) (σ : St) : Option (bB rs) :=
 match Ny T σ res with
 | some (c, vs) =>
  match Dk rs vs with
  | some y => chk c (some y)
  | none => none
 | none => none
def zHv (T : Tab) (res : List ResultVar) (rs : List Ty) : K (bB rs) := fun e σ =>
 match e with
 | .normal => zHu T res rs σ
 | .ret => zHu T res rs σ
 | _ => none
section
variable {T : Tab} {P : Program}
theorem zBt {C : Ctx} {β β' : Nat -> Pl} {w : World} {σ : St} {a : Act} {fn : Func} {vs : List (Sum L (List L))} {N' : Nat -> Prop} (hT : bK C.P T) (hs : Sim C β σ a w) (hN : ∀ b, b < w.heap.size -> N' b -> C.N0 b) (h : Ny T σ fn.results.toList = some (true, vs)) :
  ∃ us : List Value, (results fn a.tmps).run C.P w = .ok (nG us) w ∧ aS (jG β' w N') vs us := by
 obtain ⟨us, h1, h2, _⟩ := Yi (β' := β') hT hs hN h #[]
 refine ⟨us, ?_, h2⟩
 have e0 : results fn a.tmps = (do let vs <- fn.results.mapM (pR a.tmps); pure (if h : vs.size = 1 then vs[0] else .tuple vs)) := by
  unfold results
  congr 1
 have hm : (fn.results.mapM (pR a.tmps) : Sem (Array Value)).run C.P w = .ok us.toArray w := by
  rw [Array.mapM_eq_foldlM, <- Array.foldlM_toList]
  have e : (fun (acc : Array Value) rv => do let v <- pR a.tmps rv; pure (acc.push v) : Array Value -> ResultVar -> Sem (Array Value)) = (fun (acc : Array Value) rv => acc.push <$> pR a.tmps rv) := by
   funext acc rv
   rfl
  rw [e] at h1
  simpa using h1
 rw [e0]
 simp only [Sem.run_bind, hm, Result.andThen_ok, Sem.run_pure]
 match us with
 | [] => rfl
 | [u] => rfl
 | u :: v :: us => simp [nG]
theorem Km : ∀ cs : List Co, bR (Co.fx 0) cs = true
 | [] => rfl
 | c :: cs => by
  simp only [bR, Km cs, Bool.and_true]
  cases c <;> first | rfl | simp [Co.fx]
theorem yN {ρ : Type} : ∀ an : An ρ, an.fx 0 = true
 | .nil => rfl
 | .mk l r c => by simp only [An.fx, yN l, yN r, Km, Bool.and_self]
 | .loop _ c0 c1 _ a => by simp only [An.fx, yN a, Km, Bool.and_self]
 | .scope _ a b => by simp only [An.fx, yN a, yN b, Bool.and_self]
 | .sem _ => rfl
 | .co c a => by simp only [An.fx, yN a, Km, Bool.and_self]
 | .join _ c a => by simp only [An.fx, yN a, Km, Bool.and_self]
theorem aZ {f : FuncId} {fn : Func} {c : Code} {as rs : List Ty} {F : bB as -> Option (bB rs)} {Γ : Orc (bB rs)} {an : An (bB rs)} (hf : P.funcs[f]? = some fn) (hb : fn.body = some c) (hh : gF P f = true) (hT : bK P T) (hΓ : iM P Γ) (hm : P.follows .mixedOrders = true) (ha : Wm P 0 c an)
  (h : ∀ x, ev Γ T c an ⟨zX (He as x) fn.ntmps, []⟩ (zHv T fn.results.toList rs) = F x) : Pure P f as rs F := by
 refine ⟨hh, fun x y hF w N xs hG hN hx => ?_⟩
 rw [<- h x] at hF
 let C : Ctx := { P := P, N0 := N, w0 := w, Gl := fun _ => False, glob := fun w' h => hG.keep fun b hb => h b hb (fun h => h), fix := [] }
 let β0 : Nat -> Pl := fun _ => ⟨false, false, 0, none, 0, 0, 0⟩
 have hargs : oN β0 w N (He as x) xs := Yj hx
 have hxl : (He as x).length = xs.length := hargs.length
 have zBu : Sim C β0 ⟨zX (He as x) fn.ntmps, []⟩ { tmps := xs.toArray ++ Array.replicate (fn.ntmps - xs.toArray.size) undef, defers := [] } w := by
  refine ⟨⟨by simp, fun _ _ => rfl, by simp, by simp, hN, fun _ _ _ => rfl, Nat.le_refl _, rfl, rfl, rfl, fun j o hj => by cases hj⟩, rfl, by simp [zX, hxl], ?_⟩
  intro i u hu
  simp only [zX] at hu
  by_cases hi : i < (He as x).length
  ·rw [List.getElem?_append_left hi] at hu
   have hi' : i < xs.length := by rw [<- hxl]; exact hi
   have hr := hargs.get i hi hi'
   rw [List.getElem?_eq_getElem hi] at hu
   simp only [Option.some.injEq] at hu
   subst hu
   have : (xs.toArray ++ Array.replicate (fn.ntmps - xs.toArray.size) undef).getD i undef = xs[i] := by
    rw [Array.getD_eq_getD_getElem?, Array.getElem?_append_left (by simpa using hi')]
    simp [hi']
   rw [this]
   refine hr.mono (Moves.refl β0) (Keep.refl _ w) (fun b _ hb => ?_)
   rcases hb with hb | ⟨id, o, ho, _⟩
   ·exact hb
   ·simp at ho
  ·rw [List.getElem?_append_right (by omega), List.getElem?_replicate] at hu
   split at hu
   ·simp only [Option.some.injEq] at hu; subst hu; trivial
   ·cases hu
 refine calls_of_wp hf hb ?_
 refine Qs (P := P) hT hΓ hm c an ha (yN an) _ _ y hF C β0 _ w _ rfl (Nat.le_refl _) zBu ?_
 intro e x' σ' β' a' w' hs' hx' hk
 have fin : zHu T fn.results.toList rs σ' = some y -> x' = .ret ∨ x' = .normal -> bodyPost P fn (fun e w' => ∃ us : List Value, e = .returned (nG us) ∧ w'.os = w.os ∧ w'.tape = w.tape ∧ w'.output = w.output ∧ Keep (fun _ => False) w w' ∧ fT w' N rs y us) x' a' w' := by
  intro hk hx'
  unfold zHu at hk
  split at hk
  ·rename_i cc ss hrs
   split at hk
   ·rename_i y' hd
    obtain ⟨rfl, hk⟩ := iL hk
    obtain rfl := Option.some.inj hk
    obtain ⟨us, h1, h2⟩ := zBt (C := C) (β' := β0) (N' := N) (fn := fn) hT hs' (fun _ _ hb => hb) hrs
    have hkeep : Keep (fun _ => False) w w' := ⟨hs'.heap.size, fun b hb _ => hs'.heap.frame b hb (fun h => h)⟩
    have hR := Yl hd h2
    rcases hx' with rfl | rfl
    ·exact ⟨hs'.defers, _, h1, us, rfl, hs'.heap.os, hs'.heap.tape, hs'.heap.output, hkeep, hR⟩
    ·exact ⟨hs'.defers, _, h1, us, rfl, hs'.heap.os, hs'.heap.tape, hs'.heap.output, hkeep, hR⟩
   ·cases hk
  ·cases hk
 cases e with
 | normal => obtain rfl := hx'; exact fin hk (.inr rfl)
 | ret => obtain rfl := hx'; exact fin hk (.inl rfl)
 | exit i => simp [zHv] at hk
 | goto l => simp [zHv] at hk
 | pan t u => simp [zHv] at hk
def bA (as rs : List Ty) (F : bB as -> Option (bB rs)) : PE where
 R := bB rs
 use := 1
 run vs h := match uI (bR Ty.flat rs) h as vs with
  | some (c, x) => some (c, F x)
  | none => none
 enc y _ h := (zMt (zHs rs y), h)
theorem zBv {C : Ctx} {β : Nat -> Pl} {h : List Ob} {w : World} {bor : Bool} {t : Ty} {v : V} {x : t.den} {u : Value} (hd : Qt bor h t v = some (true, x)) (hs : fO C β h w) (hr : v.Rel β w (C.N β h) u) :
  t.fP w (zRt bor (C.N β h)) x u := by
 unfold Qt at hd
 cases bor with
 | true =>
  simp only at hd ⊢
  split at hd
  ·rename_i c v' hv
   split at hd
   ·rename_i s hsum
    split at hd
    ·rename_i y hy
     simp only [Option.some.injEq, Prod.mk.injEq] at hd
     obtain ⟨rfl, rfl⟩ := hd
     obtain ⟨h1, _⟩ := V.rA (β' := β) (N' := fun _ => False) hv hs (fun _ _ h => h.elim) hr
     exact Hf hy (V.Wp hsum h1)
    ·cases hd
   ·cases hd
  ·cases hd
 | false =>
  simp only at hd ⊢
  split at hd
  ·rename_i s hD hsum
   split at hd
   ·rename_i y hy
    simp only [Option.some.injEq, Prod.mk.injEq, true_and] at hd
    subst hd
    exact Hf hy (V.Wp hsum hr)
   ·cases hd
  ·cases hd
theorem Ym {C : Ctx} {β : Nat -> Pl} {h : List Ob} {w : World} {bor : Bool} (hs : fO C β h w) : ∀ {ts : List Ty} {vs : List V} {x : bB ts} {us : List Value}, uI bor h ts vs = some (true, x) -> oN β w (C.N β h) vs us ->
  fT w (zRt bor (C.N β h)) ts x us
 | [], [], _, [], _, _ => rfl
 | [t], [v], x, [u], hd, hr => ⟨u, rfl, zBv hd hs hr.1⟩
 | t :: s :: r, v :: vs, x, u :: us, hd, hr => by
  simp only [uI] at hd
  split at hd
  ·rename_i c y d z h1 h2
   simp only [Option.some.injEq, Prod.mk.injEq, Bool.and_eq_true] at hd
   obtain ⟨⟨rfl, rfl⟩, rfl⟩ := hd
   exact ⟨u, us, rfl, zBv h1 hs hr.1, Ym hs h2 hr.2⟩
  ·cases hd
 | [], [], _, _ :: _, _, hr => hr.elim
 | [], _ :: _, _, _, h, _ => by simp [uI] at h
 | [t], [], _, _, h, _ => by simp [uI] at h
 | [t], [s], _, [], _, hr => hr.elim
 | [t], [s], _, _ :: _ :: _, _, hr => hr.2.elim
 | [t], _ :: _ :: _, _, _, h, _ => by simp [uI] at h
 | t :: u :: r, [], _, _, h, _ => by simp [uI] at h
 | t :: u :: r, s :: ss, _, [], _, hr => hr.elim
theorem zBw {h : List Ob} : ∀ {l : L}, l.isD = true -> l.deep h = some (true, l)
 | .val .., _ => rfl
 | .kS, _ => rfl
 | .dK, _ => rfl
 | .jK .., _ => rfl
 | .clo f [], _ => rfl
 | .clo f (_ :: _), h => by cases h
 | .ptr .., h => by cases h
 | .kC .., h => by cases h
 | .fV .., h => by cases h
 | .sl .., h => by cases h
 | .own .., h => by cases h
 | .bad _, h => by cases h
 | .eP .., h => by cases h
theorem Yn {h : List Ob} : ∀ {ls : List L}, bR L.isD ls = true -> Gy h ls = some (true, ls)
 | [], _ => rfl
 | l :: ls, hd => by
  simp only [bR, Bool.and_eq_true] at hd
  simp only [Gy, zBw hd.1, Yn hd.2, Bool.and_self]
theorem zBx {bor : Bool} {t : Ty} {v : V} (hd : v.isD = true) (h h2 : List Ob) : Qt bor h t v = Qt bor h2 t v := by
 cases bor with
 | false => rfl
 | true =>
  unfold Qt
  cases v with
  | one l => simp only [V.deep, zBw (show l.isD = true from hd)]
  | agg ls => simp only [V.deep, Yn (show bR L.isD ls = true from hd)]
  | _ => rfl
theorem Yo {bor : Bool} : ∀ {ts : List Ty} {vs : List V} (_ : bR V.isD vs = true) (h h2 : List Ob), uI bor h ts vs = uI bor h2 ts vs
 | [], [], _, _, _ => rfl
 | [t], [v], hd, h, h2 => by
  simp only [bR, Bool.and_true] at hd
  simp only [uI, zBx hd h h2]
 | t :: s :: r, v :: vs, hd, h, h2 => by
  simp only [bR, Bool.and_eq_true] at hd
  simp only [uI, zBx hd.1 h h2, Yo (ts := s :: r) hd.2 h h2]
 | [], _ :: _, _, _, _ => rfl
 | [t], [], _, _, _ => rfl
 | [t], _ :: _ :: _, _, _, _ => rfl
 | t :: s :: r, [], _, _, _ => rfl
theorem zBy {β : Nat -> Pl} {w : World} {N : Nat -> Prop} {ss : List (Sum L (List L))} {us : List Value} (h : aS (jG β w N) ss us) : (zMt ss).Rel β w N (nG us) := by
 match ss, us, h with
 | [], [], _ => exact ⟨[], rfl, trivial⟩
 | [.inl l], [u], h => exact h.1
 | [.inr ls], [u], h => exact h.1
 | s :: t :: ss, u :: v :: us, h => cases s <;> exact ⟨_, rfl, h⟩
theorem aL {f : FuncId} {as rs : List Ty} {F : bB as -> Option (bB rs)} (h : Pure P f as rs F) : (bA as rs F).OK P f := by
 refine ⟨h.1, fun vs hp y hr C β w xs hP hs ha => ?_, fun _ vs h1 h2 hd => ⟨by simp only [bA]; rw [Yo hd h1 h2], fun _ => rfl⟩, fun _ _ _ _ => rfl⟩
 subst hP
 simp only [bA] at hr
 split at hr
 ·rename_i c x hd
  simp only [Option.some.injEq, Prod.mk.injEq] at hr
  obtain ⟨rfl, hF⟩ := hr
  have hx := Ym hs hd ha
  have hn : ∀ b, C.N β hp b -> b < w.heap.size := fun b hb => by
   rcases hb with hb | ⟨id, o, ho, _, hbk⟩
   ·exact Nat.lt_of_lt_of_le (hs.n0 b hb) hs.size
   ·exact (hs.fresh id o b ho hbk).2.1
  refine (h.2 x y hF w _ xs (C.glob w hs.frame) (fun b hb => ?_) hx).mono ?_
  ·cases hfl : bR Ty.flat rs with
   | true => rw [hfl] at hb; exact hb.elim
   | false => rw [hfl] at hb; exact hn b hb
  ·rintro e w' ⟨us, rfl, ho, ht, hop, hk, hy⟩
   have hy' : fT w' (C.N β hp) rs y us := by
    cases hfl : bR Ty.flat rs with
    | true => exact hy.flat hfl
    | false => rw [hfl] at hy; exact hy
   refine ⟨_, _, β, ⟨rfl, rfl⟩, Moves.refl β, hk.weaken fun _ h => h.elim, fun _ _ h => h, ?_, _, rfl, zBy (Yk hy')⟩
   refine ⟨fun id o hob => (hs.obj id o hob).mono (Moves.refl β) (hk.weaken fun _ h => h.elim) (fun _ _ h => h) fun b hb => hk.block b (hs.fresh id o b hob hb).2.1 (fun h => h), hs.dead, hs.apart, ?_, hs.n0, ?_, Nat.le_trans hs.size hk.size, ho.trans hs.os, ht.trans hs.tape, hop.trans hs.output, hs.fixed⟩
   ·intro id o b hob hb
    obtain ⟨k1, k2, k3⟩ := hs.fresh id o b hob hb
    exact ⟨k1, Nat.lt_of_lt_of_le k2 hk.size, k3⟩
   ·intro b hb hnb
    rw [hk.block b (Nat.lt_of_lt_of_le hb hs.size) (fun h => h)]
    exact hs.frame b hb hnb
 ·cases hr
def pes : List (FuncId × PE) -> FuncId -> Option PE
 | [], _ => none
 | (g, e) :: r, f => match Nat.beq g f with
  | true => some e
  | false => pes r f
def orc (ρ : Type) (l : List (FuncId × PE)) : Orc ρ := ⟨pes l, fun _ _ _ _ => none⟩
theorem zRu {ρ : Type} : ∀ {l : List (FuncId × PE)}, (∀ p ∈ l, p.2.OK P p.1) -> iM P (orc ρ l) := by
 intro l h
 refine ⟨fun f e he => ?_, fun _ _ _ _ _ h => by cases h⟩
 simp only [orc] at he
 induction l with
 | nil => cases he
 | cons p r ih =>
  obtain ⟨g, e'⟩ := p
  simp only [pes] at he
  split at he
  ·rename_i hb
   have := Nat.eq_of_beq_eq_true hb
   subst this
   simp only [Option.some.injEq] at he
   subst he
   exact h _ (.head _)
  ·exact ih (fun p hp => h p (.tail _ hp)) he
theorem all_nil {Q : FuncId × PE -> Prop} : ∀ p ∈ ([] : List (FuncId × PE)), Q p := fun _ h => by cases h
theorem all_cons {Q : FuncId × PE -> Prop} {p : FuncId × PE} {l : List (FuncId × PE)} (h : Q p) (hl : ∀ q ∈ l, Q q) : ∀ q ∈ p :: l, Q q := fun q hq => by
 cases hq with
 | head => exact h
 | tail _ hq => exact hl q hq
end
end Go.Dec
namespace Go.Dec
mutual
def L.back (f v : Nat -> Nat) : L -> L
 | .ptr id o => .ptr (f id) o
 | .eP id o => .eP (f id) o
 | .kC id o es i sub => .kC (f id) o es i sub
 | .fV id u i o => .fV (f id) (u + v id) i o
 | .sl id u i n => .sl (f id) (u + v id) i n
 | .own id u => .own (f id) (u + v id)
 | .clo g caps => .clo g (L.backs f v caps)
 | l => l
def L.backs (f v : Nat -> Nat) : List L -> List L
 | [] => []
 | l :: ls => l.back f v :: L.backs f v ls
end
def V.back (f v : Nat -> Nat) : V -> V
 | .one l => .one (l.back f v)
 | .agg ls => .agg (L.backs f v ls)
 | _ => .bE
def Ob.back (f v : Nat -> Nat) (id : Nat) : Ob -> Ob
 | .box e ls => .box e (L.backs f v ls)
 | .arr e t u rows wr => .arr e t (u + v id) rows wr
section
variable {β β' : Nat -> Pl} {w : World} {N N' : Nat -> Prop}
structure Kn (p q : Pl) (v : Nat) : Prop where
 live : q.live = p.live
 box : q.box = p.box
 blk : q.blk = p.blk
 row : p.box = false -> q.ver = p.ver + v ∧ q.size = p.size ∧ q.cap = p.cap ∧ q.len = p.len
theorem Kn.zOq {p q : Pl} {v : Nat} (h : Kn p q v) (hb : p.box = false) {off len : Nat} {c : Value} : eT q off len c <-> eT p off len c := by
 obtain ⟨_, h2, h3, _⟩ := h.row hb
 unfold eT
 rw [h.blk, h2, h3]
mutual
theorem L.Rel.back {f v : Nat -> Nat} (hβ : ∀ j, (β j).live = true -> Kn (β j) (β' (f j)) (v j)) (hN : ∀ b, b < w.heap.size -> N' b -> N b) : ∀ {l : L} {cs : List Value}, l.Rel β w N cs -> (l.back f v).Rel β' w N' cs
 | .val t x, cs, h => by simp only [L.back, L.Rel] at *; exact Ty.Rel.mono (Keep.refl _ w) hN h
 | .ptr id off, cs, h => by
  simp only [L.back, L.Rel] at *
  obtain ⟨h1, h2, h3⟩ := h
  have := hβ id h1
  exact ⟨this.live ▸ h1, this.box ▸ h2, by rw [this.blk]; exact h3⟩
 | .kC id off es i sub, cs, h => by
  simp only [L.back, L.Rel] at *
  obtain ⟨h1, h2, h3⟩ := h
  have := hβ id h1
  exact ⟨this.live ▸ h1, this.box ▸ h2, by rw [this.blk]; exact h3⟩
 | .kS, cs, h => by simp only [L.back, L.Rel] at *; exact h
 | .eP id off, cs, h => by
  simp only [L.back, L.Rel] at *
  obtain ⟨c, e, h⟩ := h
  refine ⟨c, e, ?_⟩
  rcases h with h | ⟨h1, h2, h3⟩
  ·exact .inl h
  ·have := hβ id h1
   exact .inr ⟨this.live ▸ h1, this.box ▸ h2, by rw [this.blk]; exact h3⟩
 | .fV id u i off, cs, h => by
  simp only [L.back, L.Rel] at *
  obtain ⟨h1, h2, h3, c, h4, h5, h6⟩ := h
  have := hβ id h1
  obtain ⟨g1, g2, g3, g4⟩ := this.row h2
  refine ⟨this.live ▸ h1, this.box ▸ h2, by omega, c, h4, h5, fun hv => ?_⟩
  rw [this.blk, g2]
  exact h6 (by omega)
 | .jK t x off, cs, h => by simp only [L.back, L.Rel] at *; obtain ⟨c, hc, hr⟩ := h; exact ⟨c, hc, hr.mono (Keep.refl _ w) hN⟩
 | .sl id u off len, cs, h => by
  simp only [L.back, L.Rel] at *
  obtain ⟨h1, h2, h3, c, h4, h5, h6⟩ := h
  have := hβ id h1
  obtain ⟨g1, g2, g3, g4⟩ := this.row h2
  exact ⟨this.live ▸ h1, this.box ▸ h2, by omega, c, h4, h5, fun hv => (this.zOq h2).2 (h6 (by omega))⟩
 | .own id u, cs, h => by
  simp only [L.back, L.Rel] at *
  obtain ⟨h1, h2, h3, c, h4, h5, h6⟩ := h
  have := hβ id h1
  obtain ⟨g1, g2, g3, g4⟩ := this.row h2
  exact ⟨this.live ▸ h1, this.box ▸ h2, by omega, c, h4, h5, fun hv => by rw [g4]; exact (this.zOq h2).2 (h6 (by omega))⟩
 | .dK, cs, h => by simp only [L.back, L.Rel] at *; exact h
 | .clo g caps, cs, h => by
  simp only [L.back, L.Rel] at *
  obtain ⟨us, hc, hr⟩ := h
  exact ⟨us, hc, L.bZ.back hβ hN hr⟩
 | .bad n, cs, h => by simp only [L.back, L.Rel] at *; exact h
theorem L.bZ.back {f v : Nat -> Nat} (hβ : ∀ j, (β j).live = true -> Kn (β j) (β' (f j)) (v j)) (hN : ∀ b, b < w.heap.size -> N' b -> N b) : ∀ {ls : List L} {us : List Value}, L.bZ β w N ls us -> L.bZ β' w N' (L.backs f v ls) us
 | [], us, h => by simp only [L.backs, L.bZ] at *; exact h
 | l :: ls, us, h => by
  simp only [L.backs, L.bZ] at *
  obtain ⟨u, r, e, h1, h2⟩ := h
  exact ⟨u, r, e, L.Rel.back hβ hN h1, L.bZ.back hβ hN h2⟩
end
theorem aH.back {f v : Nat -> Nat} (hβ : ∀ j, (β j).live = true -> Kn (β j) (β' (f j)) (v j)) (hN : ∀ b, b < w.heap.size -> N' b -> N b) : ∀ {ls : List L} {cs : List Value}, aH β w N ls cs -> aH β' w N' (L.backs f v ls) cs
 | [], _, h => h
 | _l :: _ls, _, ⟨c1, c2, e, h1, h2⟩ => ⟨c1, c2, e, h1.back hβ hN, aH.back hβ hN h2⟩
theorem V.Rel.back {f v : Nat -> Nat} (hβ : ∀ j, (β j).live = true -> Kn (β j) (β' (f j)) (v j)) (hN : ∀ b, b < w.heap.size -> N' b -> N b) {x : V} {u : Value} (h : x.Rel β w N u) : (x.back f v).Rel β' w N' u := by
 cases x with
 | one l => exact L.Rel.back hβ hN h
 | agg ls => obtain ⟨cs, e, h⟩ := h; exact ⟨cs, e, h.back hβ hN⟩
 | _ => trivial
theorem Ob.Rel.back {f v : Nat -> Nat} (hβ : ∀ j, (β j).live = true -> Kn (β j) (β' (f j)) (v j)) (hN : ∀ b, b < w.heap.size -> N' b -> N b) {id : Nat} {o : Ob} (h : o.Rel β w N (β id)) : (o.back f v id).Rel β' w N' (β' (f id)) := by
 cases o with
 | box e ls =>
  simp only [Ob.back, Ob.Rel] at *
  obtain ⟨h1, h2, b, cs, h3, h4, h5⟩ := h
  have := hβ id h1
  exact ⟨this.live ▸ h1, this.box ▸ h2, b, cs, this.blk ▸ h3, h4.back hβ hN, h5⟩
 | arr e t u rows wr =>
  simp only [Ob.back, Ob.Rel] at *
  obtain ⟨h1, h2, h3, h4, h5, h6, h7⟩ := h
  have := hβ id h1
  obtain ⟨g1, g2, g3, g4⟩ := this.row h2
  refine ⟨this.live ▸ h1, this.box ▸ h2, by omega, by rw [g2, h4], h5, by rw [g4, h6], ?_⟩
  rw [this.blk, g3]
  rcases h7 with h7 | ⟨b, cur, css, k1, k2, k3, k4⟩
  ·exact .inl h7
  ·exact .inr ⟨b, cur, css, k1, k2, k3.mono fun _ _ h => h.mono (Keep.refl _ w) hN, k4⟩
end
def jX (P : Program) (f : FuncId) (si so : Sh) (F : si.X -> Option so.X) : Prop :=
 gF P f = true ∧ ∀ x y, F x = some y -> ∀ (C : Ctx) (β : Nat -> Pl) (w : World) (xs : List Value), C.P = P -> C.fix.length <= si.os.length -> Sim C β (si.enc x) { tmps := xs.toArray, defers := [] } w ->
  Calls P f xs.toArray w fun e w' => ∃ (us : List Value) (β' : Nat -> Pl), e = .returned (nG us) ∧ Sim C β' (so.enc y) { tmps := us.toArray, defers := [] } w'
def Tf : List V -> Option (List (Sum L (List L)))
 | [] => some []
 | v :: r => match v.sum, Tf r with
  | some s, some ss => some (s :: ss)
  | _, _ => none
def zHw (vs : List V) : V :=
 match Tf vs with
 | some ss => zMt ss
 | none => .bE
def Hg (g : Nat -> Option Ob) : Nat -> List Ob -> List Ob
 | _, [] => []
 | i, o :: r => (match g i with | some o' => o' | none => o) :: Hg g (i + 1) r
def uX (f v : Nat -> Nat) : Nat -> List Ob -> List Ob
 | _, [] => []
 | j, o :: r => o.back f v j :: uX f v (j + 1) r
def wZ : List Ob -> List OS -> Bool
 | [], _ => true
 | .box .. :: r, _ :: s => wZ r s
 | .arr .. :: r, .row .. :: s => wZ r s
 | _, _ => false
def qL (ρ : List Nat) (n : Nat) (j : Nat) : Nat := match ρ[j]? with | some i => i | none => n + (j - ρ.length)
def qM (ρ : List Nat) (h : List Ob) (j : Nat) : Nat := match ρ[j]? with
 | some i => (match h[i]? with | some (.arr _ _ u _ _) => u + 1 | _ => 0)
 | none => 0
def iV (ρ : List Nat) (h hy : List Ob) : List Ob :=
 Hg (fun i => match pos i ρ 0 with | some j => (match hy[j]? with | some o => some (o.back (qL ρ h.length) (qM ρ h) j) | none => none) | none => none) 0 h ++ uX (qL ρ h.length) (qM ρ h) ρ.length (hy.drop ρ.length)
def Tg (ρ : List Nat) (h : List Ob) (si so : Sh) : Bool :=
 nodupB ρ && (bR (fun i => Nat.blt i h.length) ρ && (Nat.beq ρ.length si.os.length && (bR Ob.wr (inH ρ h) && wZ (inH ρ h) so.os)))
def peM (si so : Sh) (F : si.X -> Option so.X) : PE where
 R := so.X
 use := 2
 run vs h := match si.dec ⟨vs.map (V.ren (reach vs h) h), inH (reach vs h) h⟩ with
  | some x => some (Tg (reach vs h) h si so, F x)
  | none => none
 enc y vs h := (zHw ((so.enc y).r.map (V.back (qL (reach vs h) h.length) (qM (reach vs h) h))), iV (reach vs h) h (so.enc y).h)
theorem Qu {g : Nat -> Option Ob} : ∀ {h : List Ob} {n i : Nat}, (Hg g n h)[i]? = (h[i]?).map fun o => (match g (n + i) with | some o' => o' | none => o)
 | [], n, i => by simp [Hg]
 | o :: r, n, 0 => by simp [Hg]
 | o :: r, n, i + 1 => by
  simp only [Hg, List.getElem?_cons_succ]
  rw [Qu (h := r), show n + 1 + i = n + (i + 1) by omega]
theorem tQ {g : Nat -> Option Ob} : ∀ {h : List Ob} {n : Nat}, (Hg g n h).length = h.length
 | [], _ => rfl
 | _ :: r, n => congrArg (· + 1) (tQ (h := r) (n := n + 1))
theorem Ko {f v : Nat -> Nat} : ∀ {h : List Ob} {n i : Nat}, (uX f v n h)[i]? = (h[i]?).map fun o => o.back f v (n + i)
 | [], n, i => by simp [uX]
 | o :: r, n, 0 => by simp [uX]
 | o :: r, n, i + 1 => by
  simp only [uX, List.getElem?_cons_succ]
  rw [Ko (h := r), show n + 1 + i = n + (i + 1) by omega]
theorem Dl {f v : Nat -> Nat} : ∀ {h : List Ob} {n : Nat}, (uX f v n h).length = h.length
 | [], _ => rfl
 | _ :: r, n => congrArg (· + 1) (Dl (h := r) (n := n + 1))
theorem Ob.zFw {f v : Nat -> Nat} {j : Nat} (o : Ob) : (o.back f v j).wr = o.wr := by cases o <;> rfl
theorem Dw : ∀ {hc : List Ob} {os : List OS} {j : Nat} {e : TypeId} {t : Ty} {u : Nat} {rows : List t.den} {wr : Bool}, wZ hc os = true -> hc[j]? = some (.arr e t u rows wr) -> ∃ e' t', os[j]? = some (.row e' t')
 | [], _, j, _, _, _, _, _, _, h => by simp at h
 | .box .. :: r, [], j, _, _, _, _, _, hk, _ => by cases hk
 | .box .. :: r, s :: os, 0, _, _, _, _, _, _, h => by simp at h
 | .box .. :: r, s :: os, j + 1, _, _, _, _, _, hk, h => by
  obtain ⟨e', t', h'⟩ := Dw (hc := r) (os := os) (j := j) hk (by simpa using h)
  exact ⟨e', t', by simpa using h'⟩
 | .arr .. :: r, [], j, _, _, _, _, _, hk, _ => by cases hk
 | .arr .. :: r, .box .. :: os, j, _, _, _, _, _, hk, _ => by cases hk
 | .arr .. :: r, .row e t :: os, 0, _, _, _, _, _, _, _ => ⟨e, t, rfl⟩
 | .arr .. :: r, .row e t :: os, j + 1, _, _, _, _, _, hk, h => by
  obtain ⟨e', t', h'⟩ := Dw (hc := r) (os := os) (j := j) hk (by simpa using h)
  exact ⟨e', t', by simpa using h'⟩
theorem Kq {A : Type} : ∀ {os : List OS} {x : OTs os A} {j : Nat} {e : TypeId} {t : Ty}, os[j]? = some (.row e t) -> ∃ rows, (uG os x).1[j]? = some (.arr e t 0 rows true)
 | [], _, j, _, _, h => by simp at h
 | .box e0 ls :: r, x, 0, _, _, h => by simp at h
 | .box e0 ls :: r, x, j + 1, e, t, h => by
  obtain ⟨rows, h'⟩ := Kq (os := r) (x := (dJ ls x).2) (j := j) (by simpa using h)
  exact ⟨rows, by simpa [uG] using h'⟩
 | .row e0 t0 :: r, x, 0, e, t, h => by
  simp only [List.getElem?_cons_zero, Option.some.injEq, OS.row.injEq] at h
  obtain ⟨rfl, rfl⟩ := h
  exact ⟨x.1, rfl⟩
 | .row e0 t0 :: r, x, j + 1, e, t, h => by
  obtain ⟨rows, h'⟩ := Kq (os := r) (x := x.2) (j := j) (by simpa using h)
  exact ⟨rows, by simpa [uG] using h'⟩
theorem Yp {β : Nat -> Pl} {w : World} {N : Nat -> Prop} : ∀ {vs : List V} {us : List Value} {ss : List (Sum L (List L))}, Tf vs = some ss -> aS (fun v u => V.Rel β w N v u) vs us -> aS (jG β w N) ss us
 | [], [], ss, h, _ => by simp only [Tf, Option.some.injEq] at h; subst h; trivial
 | v :: vs, u :: us, ss, h, hr => by
  simp only [Tf] at h
  split at h
  ·rename_i s ss' h1 h2
   simp only [Option.some.injEq] at h
   subst h
   exact ⟨V.Wp h1 hr.1, Yp h2 hr.2⟩
  ·cases h
 | [], _ :: _, _, _, hr => hr.elim
 | _ :: _, [], _, _, hr => hr.elim
theorem zBz {β : Nat -> Pl} {w : World} {N : Nat -> Prop} {vs : List V} {us : List Value} (hr : aS (fun v u => V.Rel β w N v u) vs us) : (zHw vs).Rel β w N (nG us) := by
 unfold zHw
 split
 ·rename_i ss h
  exact zBy (Yp h hr)
 ·trivial
theorem zFx {α γ : Type} {R : α -> γ -> Prop} : ∀ {x : List α} {y : List γ}, x.length = y.length -> (∀ (i : Nat) (a : α) (b : γ), x[i]? = some a -> y[i]? = some b -> R a b) -> aS R x y
 | [], [], _, _ => trivial
 | a :: x, b :: y, hl, h => ⟨h 0 a b rfl rfl, zFx (by simpa using hl) fun i c d hc hd => h (i + 1) c d (by simpa using hc) (by simpa using hd)⟩
 | [], _ :: _, hl, _ => by simp at hl
 | _ :: _, [], hl, _ => by simp at hl
end Go.Dec
