/- Part of a proof over this seat: a library of my own, and what it says of this seat. No statement is proved here. -/
import Derived.Test.YtpehkjgbhnegmaaPartAE
import Derived.WalkKit
import Derived.OwnWalkIn
import Derived.TacticsInMore
import Derived.Lib.SliceRun
namespace Go.Dec

@[reducible] def Dens : List Ty → Type
  | [] => Unit
  | [t] => t.den
  | t :: u :: r => t.den × Dens (u :: r)

def retVal : List Value → Value
  | [u] => u
  | us => .tuple us.toArray

def lent (bor : Bool) (N : Nat → Prop) : Nat → Prop :=
  match bor with
  | true => fun _ => False
  | false => N

/-- A value of a type. -/
def Ty.VRel (w : World) (N : Nat → Prop) (t : Ty) (x : t.den) (u : Value) : Prop :=
  if t.isAgg then ∃ cs : List Value, u = .agg cs.toArray ∧ t.Rel w N x cs else t.Rel w N x [u]

def DensRel (w : World) (N : Nat → Prop) : (ts : List Ty) → Dens ts → List Value → Prop
  | [], _, us => us = []
  | [t], x, us => ∃ u, us = [u] ∧ t.VRel w N x u
  | t :: s :: r, x, us => ∃ u us', us = u :: us' ∧ t.VRel w N x.1 u ∧ DensRel w N (s :: r) x.2 us'

def vOf (t : Ty) (x : t.den) : V :=
  match t.isAgg with
  | true => .agg (explode t x)
  | false => .one (.val t x)

def sOf (t : Ty) (x : t.den) : Sum L (List L) :=
  match t.isAgg with
  | true => .inr (explode t x)
  | false => .inl (.val t x)

def encVs : (ts : List Ty) → Dens ts → List V
  | [], _ => []
  | [t], x => [vOf t x]
  | t :: s :: r, x => vOf t x.1 :: encVs (s :: r) x.2

def encSs : (ts : List Ty) → Dens ts → List (Sum L (List L))
  | [], _ => []
  | [t], x => [sOf t x]
  | t :: s :: r, x => sOf t x.1 :: encSs (s :: r) x.2

def impl1 (t : Ty) (ls : List L) : Option t.den :=
  match implode t ls with
  | some (x, []) => some x
  | _ => none

def decS (t : Ty) (s : Sum L (List L)) : Option t.den :=
  match t.isAgg, s with
  | true, .inr ls => impl1 t ls
  | false, .inl l => l.asT t
  | _, _ => none

def decSs : (ts : List Ty) → List (Sum L (List L)) → Option (Dens ts)
  | [], [] => some ()
  | [t], [s] => decS t s
  | t :: u :: r, s :: ss =>
    match decS t s, decSs (u :: r) ss with
    | some x, some y => some (x, y)
    | _, _ => none
  | _, _ => none

def V.sum : V → Option (Sum L (List L))
  | .one l => some (.inl l)
  | .agg ls => some (.inr ls)
  | _ => none

/-- An argument, as data of a type: 'bor': what lies in own rows is lent. -/
def decV (bor : Bool) (h : List Ob) (t : Ty) (v : V) : Option (Bool × t.den) :=
  match bor with
  | true =>
    match v.deep h with
    | some (c, u) =>
      match u.sum with
      | some s => match decS t s with
        | some x => some (c, x)
        | none => none
      | none => none
    | none => none
  | false =>
    match v.isD, v.sum with
    | true, some s => match decS t s with
      | some x => some (true, x)
      | none => none
    | _, _ => none

def decVs (bor : Bool) (h : List Ob) : (ts : List Ty) → List V → Option (Bool × Dens ts)
  | [], [] => some (true, ())
  | [t], [v] => decV bor h t v
  | t :: u :: r, v :: vs =>
    match decV bor h t v, decVs bor h (u :: r) vs with
    | some (c, x), some (d, y) => some (c && d, (x, y))
    | _, _ => none
  | _, _ => none

/-- Has no part in memory. -/
def Ty.flat : Ty → Bool
  | .pair a b => a.flat && b.flat
  | .arr _ a => a.flat
  | .slice _ => false
  | .opq => false
  | _ => true

section
variable {β : Nat → Pl} {w : World} {N : Nat → Prop}

theorem vOf_rel {t : Ty} {x : t.den} {u : Value} (h : t.VRel w N x u) : (vOf t x).Rel β w N u := by
  unfold vOf
  unfold Ty.VRel at h
  cases ha : t.isAgg with
  | true =>
    rw [ha, if_pos rfl] at h
    obtain ⟨cs, e, h⟩ := h
    exact ⟨cs, e, explode_rel h⟩
  | false =>
    rw [ha, if_neg (by simp)] at h
    simp only [V.Rel, L.Rel]
    exact h

theorem encVs_rel : ∀ {ts : List Ty} {x : Dens ts} {us : List Value}, DensRel w N ts x us → ArgsRel β w N (encVs ts x) us
  | [], _, _, h => by simp only [DensRel] at h; subst h; trivial
  | [t], x, _, h => by obtain ⟨u, rfl, h⟩ := h; exact ⟨vOf_rel h, trivial⟩
  | t :: s :: r, x, _, h => by
    obtain ⟨u, us, rfl, h, h2⟩ := h
    exact ⟨vOf_rel h, encVs_rel h2⟩

theorem sOf_rel {t : Ty} {x : t.den} {u : Value} (h : t.VRel w N x u) : V1Rel β w N (sOf t x) u := by
  unfold sOf
  unfold Ty.VRel at h
  cases ha : t.isAgg with
  | true =>
    rw [ha, if_pos rfl] at h
    obtain ⟨cs, e, h⟩ := h
    exact ⟨cs, e, explode_rel h⟩
  | false =>
    rw [ha, if_neg (by simp)] at h
    simp only [V1Rel, L.Rel]
    exact h

theorem encSs_rel : ∀ {ts : List Ty} {x : Dens ts} {us : List Value}, DensRel w N ts x us → All2 (V1Rel β w N) (encSs ts x) us
  | [], _, _, h => by simp only [DensRel] at h; subst h; trivial
  | [t], x, _, h => by obtain ⟨u, rfl, h⟩ := h; exact ⟨sOf_rel h, trivial⟩
  | t :: s :: r, x, _, h => by
    obtain ⟨u, us, rfl, h, h2⟩ := h
    exact ⟨sOf_rel h, encSs_rel h2⟩

theorem impl1_rel {t : Ty} {ls : List L} {x : t.den} {cs : List Value} (h : impl1 t ls = some x) (hr : LsRel β w N ls cs) : t.Rel w N x cs := by
  unfold impl1 at h
  split at h
  · rename_i y hi
    simp only [Option.some.injEq] at h
    subst h
    obtain ⟨c1, c2, e, h1, h2⟩ := implode_rel hi hr
    simp only [LsRel] at h2
    subst h2
    rw [List.append_nil] at e
    subst e
    exact h1
  · cases h

theorem decS_rel {t : Ty} {s : Sum L (List L)} {x : t.den} {u : Value} (h : decS t s = some x) (hr : V1Rel β w N s u) : t.VRel w N x u := by
  unfold decS at h
  unfold Ty.VRel
  split at h
  · rename_i ls ha
    rw [ha, if_pos rfl]
    obtain ⟨cs, e, hr⟩ := hr
    exact ⟨cs, e, impl1_rel h hr⟩
  · rename_i l ha
    rw [ha, if_neg (by simp)]
    exact L.asT_rel h hr
  · cases h

theorem decSs_rel : ∀ {ts : List Ty} {ss : List (Sum L (List L))} {x : Dens ts} {us : List Value}, decSs ts ss = some x → All2 (V1Rel β w N) ss us → DensRel w N ts x us
  | [], [], _, [], _, _ => rfl
  | [t], [s], x, [u], h, hr => ⟨u, rfl, decS_rel h hr.1⟩
  | t :: u :: r, s :: ss, x, v :: vs, h, hr => by
    simp only [decSs] at h
    split at h
    · rename_i y z h1 h2
      simp only [Option.some.injEq] at h
      subst h
      exact ⟨v, vs, rfl, decS_rel h1 hr.1, decSs_rel h2 hr.2⟩
    · cases h
  | [], [], _, _ :: _, _, hr => hr.elim
  | [], _ :: _, _, _, h, _ => by simp [decSs] at h
  | [t], [], _, _, h, _ => by simp [decSs] at h
  | [t], [s], _, [], _, hr => hr.elim
  | [t], [s], _, _ :: _ :: _, _, hr => hr.2.elim
  | [t], _ :: _ :: _, _, _, h, _ => by simp [decSs] at h
  | t :: u :: r, [], _, _, h, _ => by simp [decSs] at h
  | t :: u :: r, s :: ss, _, [], _, hr => hr.elim

theorem V.sum_rel {v : V} {s : Sum L (List L)} {u : Value} (h : v.sum = some s) (hr : v.Rel β w N u) : V1Rel β w N s u := by
  cases v <;> simp only [V.sum, Option.some.injEq, reduceCtorEq] at h <;> subst h <;> exact hr

theorem Ty.VRel.mono {w' : World} {N' : Nat → Prop} (hk : Keep N w w') (hN : ∀ b, b < w.heap.size → N' b → N b) {t : Ty} {x : t.den} {u : Value} (h : t.VRel w N x u) : t.VRel w' N' x u := by
  unfold Ty.VRel at *
  split
  · rename_i ha
    rw [if_pos ha] at h
    obtain ⟨cs, e, h⟩ := h
    exact ⟨cs, e, h.mono hk hN⟩
  · rename_i ha
    rw [if_neg ha] at h
    exact h.mono hk hN

theorem DensRel.mono {w' : World} {N' : Nat → Prop} (hk : Keep N w w') (hN : ∀ b, b < w.heap.size → N' b → N b) : ∀ {ts : List Ty} {x : Dens ts} {us : List Value}, DensRel w N ts x us → DensRel w' N' ts x us
  | [], _, _, h => h
  | [t], x, _, h => by obtain ⟨u, e, h⟩ := h; exact ⟨u, e, h.mono hk hN⟩
  | t :: s :: r, x, _, h => by obtain ⟨u, us, e, h, h2⟩ := h; exact ⟨u, us, e, h.mono hk hN, h2.mono hk hN⟩

theorem All2.imp_mem {α γ : Type} {R S : α → γ → Prop} (h : ∀ a b, R a b → S a b) {x : List α} {y : List γ} (hx : All2 R x y) : All2 S x y := hx.mono h

theorem Ty.Rel.flat {N' : Nat → Prop} {w' : World} : ∀ {t : Ty} {x : t.den} {cs : List Value}, t.flat = true → t.Rel w N x cs → t.Rel w' N' x cs
  | .unit, _, _, _, h => h
  | .bool, _, _, _, h => h
  | .int _, _, _, _, h => h
  | .str, _, _, _, h => h
  | .err, _, _, _, h => h
  | .opq, _, _, hf, _ => by cases hf
  | .slice _, _, _, hf, _ => by cases hf
  | .pair a b, _, _, hf, h => by
    simp only [Ty.flat, Bool.and_eq_true] at hf
    obtain ⟨c1, c2, e, h1, h2⟩ := h
    exact ⟨c1, c2, e, Ty.Rel.flat hf.1 h1, Ty.Rel.flat hf.2 h2⟩
  | .arr n a, _, _, hf, h => by
    simp only [Ty.flat] at hf
    obtain ⟨h0, css, e, h1⟩ := h
    exact ⟨h0, css, e, h1.mono fun x c hx => Ty.Rel.flat hf hx⟩

theorem Ty.VRel.flat {N' : Nat → Prop} {w' : World} {t : Ty} {x : t.den} {u : Value} (hf : t.flat = true) (h : t.VRel w N x u) : t.VRel w' N' x u := by
  unfold Ty.VRel at *
  split
  · rename_i ha
    rw [if_pos ha] at h
    obtain ⟨cs, e, h⟩ := h
    exact ⟨cs, e, h.flat hf⟩
  · rename_i ha
    rw [if_neg ha] at h
    exact h.flat hf

theorem DensRel.flat {N' : Nat → Prop} {w' : World} : ∀ {ts : List Ty} {x : Dens ts} {us : List Value}, allB Ty.flat ts = true → DensRel w N ts x us → DensRel w' N' ts x us
  | [], _, _, _, h => h
  | [t], x, _, hf, h => by
    simp only [allB, Bool.and_true] at hf
    obtain ⟨u, e, h⟩ := h; exact ⟨u, e, h.flat hf⟩
  | t :: s :: r, x, _, hf, h => by
    simp only [allB, Bool.and_eq_true] at hf
    obtain ⟨u, us, e, h, h2⟩ := h
    exact ⟨u, us, e, h.flat hf.1, DensRel.flat (by simp only [allB, Bool.and_eq_true]; exact hf.2) h2⟩
end

/-- What a function without effects does, told by a plain one. -/
def Pure (P : Program) (f : FuncId) (as rs : List Ty) (F : Dens as → Option (Dens rs)) : Prop :=
  hasBody P f = true ∧ ∀ x y, F x = some y → ∀ (w : World) (N : Nat → Prop) (xs : List Value), Glob P w → (∀ b, N b → b < w.heap.size) → DensRel w N as x xs →
    Calls P f xs.toArray w fun e w' => ∃ us : List Value, e = .returned (retVal us) ∧ w'.os = w.os ∧ w'.tape = w.tape ∧ w'.output = w.output ∧ Keep (fun _ => False) w w' ∧ DensRel w' N rs y us

/-- The result of a function's body, as data. -/
def retT (T : Tab) (res : List ResultVar) (rs : List Ty) (σ : St) : Option (Dens rs) :=
  match resLs T σ res with
  | some (c, vs) =>
    match decSs rs vs with
    | some y => chk c (some y)
    | none => none
  | none => none

def finT (T : Tab) (res : List ResultVar) (rs : List Ty) : K (Dens rs) := fun e σ =>
  match e with
  | .normal => retT T res rs σ
  | .ret => retT T res rs σ
  | _ => none

section
variable {T : Tab} {P : Program}

theorem encVs_len : ∀ {as : List Ty} {x : Dens as}, (encVs as x).length = as.length
  | [], _ => rfl
  | [_], _ => rfl
  | _ :: s :: r, x => congrArg (· + 1) (encVs_len (as := s :: r) (x := x.2))

theorem resLs_len {σ : St} : ∀ {rs : List ResultVar} {b : Bool} {vs : List (Sum L (List L))}, resLs T σ rs = some (b, vs) → vs.length = rs.length
  | [], _, _, h => by simp only [resLs, Option.some.injEq, Prod.mk.injEq] at h; rw [← h.2]; rfl
  | _ :: rs, _, _, h => by
    simp only [resLs] at h
    split at h
    · rename_i h2
      simp only [Option.some.injEq, Prod.mk.injEq] at h
      rw [← h.2, List.length_cons, List.length_cons, resLs_len h2]
    · cases h

/-- The results, one by one. -/
theorem results_run' {C : Ctx} {β β' : Nat → Pl} {w : World} {σ : St} {a : Act} {fn : Func} {vs : List (Sum L (List L))} {N' : Nat → Prop} (hT : TabOK C.P T) (hs : Sim C β σ a w) (hN : ∀ b, b < w.heap.size → N' b → C.N0 b) (h : resLs T σ fn.results.toList = some (true, vs)) :
    ∃ us : List Value, (results fn a.tmps).run C.P w = .ok (retVal us) w ∧ All2 (V1Rel β' w N') vs us := by
  obtain ⟨us, h1, h2, _⟩ := resLs_run (β' := β') hT hs hN h #[]
  refine ⟨us, ?_, h2⟩
  have e0 : results fn a.tmps = (do let vs ← fn.results.mapM (rvRun a.tmps); pure (if h : vs.size = 1 then vs[0] else .tuple vs)) := by
    unfold results
    congr 1
  have hm : (fn.results.mapM (rvRun a.tmps) : Sem (Array Value)).run C.P w = .ok us.toArray w := by
    rw [Array.mapM_eq_foldlM, ← Array.foldlM_toList]
    have e : (fun (acc : Array Value) rv => do let v ← rvRun a.tmps rv; pure (acc.push v) : Array Value → ResultVar → Sem (Array Value)) = (fun (acc : Array Value) rv => acc.push <$> rvRun a.tmps rv) := by
      funext acc rv
      rfl
    rw [e] at h1
    simpa using h1
  rw [e0]
  simp only [Sem.run_bind, hm, Result.andThen_ok, Sem.run_pure]
  match us with
  | [] => rfl
  | [u] => rfl
  | u :: v :: us => simp [retVal]

theorem co_fx0 : ∀ cs : List Co, allB (Co.fx 0) cs = true
  | [] => rfl
  | c :: cs => by
    simp only [allB, co_fx0 cs, Bool.and_true]
    cases c <;> rfl
theorem an_fx0 {ρ : Type} : ∀ an : An ρ, an.fx 0 = true
  | .nil => rfl
  | .mk l r c => by simp only [An.fx, an_fx0 l, an_fx0 r, co_fx0, Bool.and_self]
  | .loop _ c0 c1 _ a => by simp only [An.fx, an_fx0 a, co_fx0, Bool.and_self]
  | .scope _ a b => by simp only [An.fx, an_fx0 a, an_fx0 b, Bool.and_self]
  | .sem _ => rfl
  | .co c a => by simp only [An.fx, an_fx0 a, co_fx0, Bool.and_self]
  | .join _ c a => by simp only [An.fx, an_fx0 a, co_fx0, Bool.and_self]

/-- **A function, by a run of its body from nothing.** -/
theorem pure_of {f : FuncId} {fn : Func} {c : Code} {as rs : List Ty} {F : Dens as → Option (Dens rs)} {Γ : Orc (Dens rs)} {an : An (Dens rs)} (hf : P.funcs[f]? = some fn) (hb : fn.body = some c) (hh : hasBody P f = true) (hT : TabOK P T) (hΓ : OrcOK P Γ) (hm : P.follows .mixedOrders = true) (ha : AnOK P 0 c an)
    (h : ∀ x, ev Γ T c an ⟨regs0 (encVs as x) fn.ntmps, []⟩ (finT T fn.results.toList rs) = F x) : Pure P f as rs F := by
  refine ⟨hh, fun x y hF w N xs hG hN hx => ?_⟩
  rw [← h x] at hF
  let C : Ctx := { P := P, N0 := N, w0 := w, own0 := fun _ => False, glob := fun w' h => hG.keep fun b hb => h b hb (fun h => h), fix := [] }
  let β0 : Nat → Pl := fun _ => ⟨false, false, 0, none, 0, 0, 0⟩
  have hargs : ArgsRel β0 w N (encVs as x) xs := encVs_rel hx
  have hxl : (encVs as x).length = xs.length := hargs.length
  have hsim : Sim C β0 ⟨regs0 (encVs as x) fn.ntmps, []⟩ { tmps := xs.toArray ++ Array.replicate (fn.ntmps - xs.toArray.size) undef, defers := [] } w := by
    refine ⟨⟨by simp, fun _ _ => rfl, by simp, by simp, hN, fun _ _ _ => rfl, Nat.le_refl _, rfl, rfl, rfl, fun j o hj => by cases hj⟩, rfl, by simp [regs0, hxl], ?_⟩
    intro i u hu
    simp only [regs0] at hu
    by_cases hi : i < (encVs as x).length
    · rw [List.getElem?_append_left hi] at hu
      have hi' : i < xs.length := by rw [← hxl]; exact hi
      have hr := hargs.get i hi hi'
      rw [List.getElem?_eq_getElem hi] at hu
      simp only [Option.some.injEq] at hu
      subst hu
      have : (xs.toArray ++ Array.replicate (fn.ntmps - xs.toArray.size) undef).getD i undef = xs[i] := by
        rw [Array.getD_eq_getD_getElem?, Array.getElem?_append_left (by simpa using hi')]
        simp [hi']
      rw [this]
      refine hr.mono (Moves.refl β0) (Keep.refl _ w) (fun b _ hb => ?_)
      rcases hb with hb | ⟨id, o, ho, _⟩
      · exact hb
      · simp at ho
    · rw [List.getElem?_append_right (by omega), List.getElem?_replicate] at hu
      split at hu
      · simp only [Option.some.injEq] at hu; subst hu; trivial
      · cases hu
  refine calls_of_wp hf hb ?_
  refine ev_sound (P := P) hT hΓ hm c an ha (an_fx0 an) _ _ y hF C β0 _ w _ rfl (Nat.le_refl _) hsim ?_
  intro e x' σ' β' a' w' hs' hx' hk
  have fin : retT T fn.results.toList rs σ' = some y → x' = .ret ∨ x' = .normal → bodyPost P fn (fun e w' => ∃ us : List Value, e = .returned (retVal us) ∧ w'.os = w.os ∧ w'.tape = w.tape ∧ w'.output = w.output ∧ Keep (fun _ => False) w w' ∧ DensRel w' N rs y us) x' a' w' := by
    intro hk hx'
    unfold retT at hk
    split at hk
    · rename_i cc ss hrs
      split at hk
      · rename_i y' hd
        obtain ⟨rfl, hk⟩ := chk_some hk
        obtain rfl := Option.some.inj hk
        obtain ⟨us, h1, h2⟩ := results_run' (C := C) (β' := β0) (N' := N) (fn := fn) hT hs' (fun _ _ hb => hb) hrs
        have hkeep : Keep (fun _ => False) w w' := ⟨hs'.heap.size, fun b hb _ => hs'.heap.frame b hb (fun h => h)⟩
        have hR := decSs_rel hd h2
        rcases hx' with rfl | rfl
        · exact ⟨hs'.defers, _, h1, us, rfl, hs'.heap.os, hs'.heap.tape, hs'.heap.output, hkeep, hR⟩
        · exact ⟨hs'.defers, _, h1, us, rfl, hs'.heap.os, hs'.heap.tape, hs'.heap.output, hkeep, hR⟩
      · cases hk
    · cases hk
  cases e with
  | normal => obtain rfl := hx'; exact fin hk (.inr rfl)
  | ret => obtain rfl := hx'; exact fin hk (.inl rfl)
  | exit i => simp [finT] at hk
  | goto l => simp [finT] at hk
  | pan t u => simp [finT] at hk

/-- A function told by a plain one, for those that call it. -/
def peOf (as rs : List Ty) (F : Dens as → Option (Dens rs)) : PE where
  R := Dens rs
  use := 1
  run vs h := match decVs (allB Ty.flat rs) h as vs with
    | some (c, x) => some (c, F x)
    | none => none
  enc y _ h := (tupV (encSs rs y), h)

theorem decV_rel {C : Ctx} {β : Nat → Pl} {h : List Ob} {w : World} {bor : Bool} {t : Ty} {v : V} {x : t.den} {u : Value} (hd : decV bor h t v = some (true, x)) (hs : HSim C β h w) (hr : v.Rel β w (C.N β h) u) :
    t.VRel w (lent bor (C.N β h)) x u := by
  unfold decV at hd
  cases bor with
  | true =>
    simp only at hd ⊢
    split at hd
    · rename_i c v' hv
      split at hd
      · rename_i s hsum
        split at hd
        · rename_i y hy
          simp only [Option.some.injEq, Prod.mk.injEq] at hd
          obtain ⟨rfl, rfl⟩ := hd
          obtain ⟨h1, _⟩ := V.deep_rel (β' := β) (N' := fun _ => False) hv hs (fun _ _ h => h.elim) hr
          exact decS_rel hy (V.sum_rel hsum h1)
        · cases hd
      · cases hd
    · cases hd
  | false =>
    simp only at hd ⊢
    split at hd
    · rename_i s hD hsum
      split at hd
      · rename_i y hy
        simp only [Option.some.injEq, Prod.mk.injEq, true_and] at hd
        subst hd
        exact decS_rel hy (V.sum_rel hsum hr)
      · cases hd
    · cases hd

theorem decVs_rel {C : Ctx} {β : Nat → Pl} {h : List Ob} {w : World} {bor : Bool} (hs : HSim C β h w) : ∀ {ts : List Ty} {vs : List V} {x : Dens ts} {us : List Value}, decVs bor h ts vs = some (true, x) → ArgsRel β w (C.N β h) vs us →
    DensRel w (lent bor (C.N β h)) ts x us
  | [], [], _, [], _, _ => rfl
  | [t], [v], x, [u], hd, hr => ⟨u, rfl, decV_rel hd hs hr.1⟩
  | t :: s :: r, v :: vs, x, u :: us, hd, hr => by
    simp only [decVs] at hd
    split at hd
    · rename_i c y d z h1 h2
      simp only [Option.some.injEq, Prod.mk.injEq, Bool.and_eq_true] at hd
      obtain ⟨⟨rfl, rfl⟩, rfl⟩ := hd
      exact ⟨u, us, rfl, decV_rel h1 hs hr.1, decVs_rel hs h2 hr.2⟩
    · cases hd
  | [], [], _, _ :: _, _, hr => hr.elim
  | [], _ :: _, _, _, h, _ => by simp [decVs] at h
  | [t], [], _, _, h, _ => by simp [decVs] at h
  | [t], [s], _, [], _, hr => hr.elim
  | [t], [s], _, _ :: _ :: _, _, hr => hr.2.elim
  | [t], _ :: _ :: _, _, _, h, _ => by simp [decVs] at h
  | t :: u :: r, [], _, _, h, _ => by simp [decVs] at h
  | t :: u :: r, s :: ss, _, [], _, hr => hr.elim

theorem deep_dry {h : List Ob} : ∀ {l : L}, l.isD = true → l.deep h = some (true, l)
  | .val .., _ => rfl
  | .nilp, _ => rfl
  | .nils, _ => rfl
  | .rptr .., _ => rfl
  | .clo f [], _ => rfl
  | .clo f (_ :: _), h => by cases h
  | .ptr .., h => by cases h
  | .aptr .., h => by cases h
  | .eptr .., h => by cases h
  | .sl .., h => by cases h
  | .own .., h => by cases h
  | .bad _, h => by cases h
  | .ornil .., h => by cases h

theorem deeps_dry {h : List Ob} : ∀ {ls : List L}, allB L.isD ls = true → deeps h ls = some (true, ls)
  | [], _ => rfl
  | l :: ls, hd => by
    simp only [allB, Bool.and_eq_true] at hd
    simp only [deeps, deep_dry hd.1, deeps_dry hd.2, Bool.and_self]

theorem decV_dry {bor : Bool} {t : Ty} {v : V} (hd : v.isD = true) (h h2 : List Ob) : decV bor h t v = decV bor h2 t v := by
  cases bor with
  | false => rfl
  | true =>
    unfold decV
    cases v with
    | one l => simp only [V.deep, deep_dry (show l.isD = true from hd)]
    | agg ls => simp only [V.deep, deeps_dry (show allB L.isD ls = true from hd)]
    | _ => rfl

theorem decVs_dry {bor : Bool} : ∀ {ts : List Ty} {vs : List V} (_ : allB V.isD vs = true) (h h2 : List Ob), decVs bor h ts vs = decVs bor h2 ts vs
  | [], [], _, _, _ => rfl
  | [t], [v], hd, h, h2 => by
    simp only [allB, Bool.and_true] at hd
    simp only [decVs, decV_dry hd h h2]
  | t :: s :: r, v :: vs, hd, h, h2 => by
    simp only [allB, Bool.and_eq_true] at hd
    simp only [decVs, decV_dry hd.1 h h2, decVs_dry (ts := s :: r) hd.2 h h2]
  | [], _ :: _, _, _, _ => rfl
  | [t], [], _, _, _ => rfl
  | [t], _ :: _ :: _, _, _, _ => rfl
  | t :: s :: r, [], _, _, _ => rfl

theorem tupV_rel {β : Nat → Pl} {w : World} {N : Nat → Prop} {ss : List (Sum L (List L))} {us : List Value} (h : All2 (V1Rel β w N) ss us) : (tupV ss).Rel β w N (retVal us) := by
  match ss, us, h with
  | [], [], _ => exact ⟨[], rfl, trivial⟩
  | [.inl l], [u], h => exact h.1
  | [.inr ls], [u], h => exact h.1
  | s :: t :: ss, u :: v :: us, h => cases s <;> exact ⟨_, rfl, h⟩

theorem peOf_ok {f : FuncId} {as rs : List Ty} {F : Dens as → Option (Dens rs)} (h : Pure P f as rs F) : (peOf as rs F).OK P f := by
  refine ⟨h.1, fun vs hp y hr C β w xs hP hs ha => ?_, fun _ vs h1 h2 hd => ⟨by simp only [peOf]; rw [decVs_dry hd h1 h2], fun _ => rfl⟩, fun _ _ _ _ => rfl⟩
  subst hP
  simp only [peOf] at hr
  split at hr
  · rename_i c x hd
    simp only [Option.some.injEq, Prod.mk.injEq] at hr
    obtain ⟨rfl, hF⟩ := hr
    have hx := decVs_rel hs hd ha
    have hn : ∀ b, C.N β hp b → b < w.heap.size := fun b hb => by
      rcases hb with hb | ⟨id, o, ho, _, hbk⟩
      · exact Nat.lt_of_lt_of_le (hs.n0 b hb) hs.size
      · exact (hs.fresh id o b ho hbk).2.1
    refine (h.2 x y hF w _ xs (C.glob w hs.frame) (fun b hb => ?_) hx).mono ?_
    · cases hfl : allB Ty.flat rs with
      | true => rw [hfl] at hb; exact hb.elim
      | false => rw [hfl] at hb; exact hn b hb
    · rintro e w' ⟨us, rfl, ho, ht, hop, hk, hy⟩
      have hy' : DensRel w' (C.N β hp) rs y us := by
        cases hfl : allB Ty.flat rs with
        | true => exact hy.flat hfl
        | false => rw [hfl] at hy; exact hy
      refine ⟨_, _, β, ⟨rfl, rfl⟩, Moves.refl β, hk.weaken fun _ h => h.elim, fun _ _ h => h, ?_, _, rfl, tupV_rel (encSs_rel hy')⟩
      refine ⟨fun id o hob => (hs.obj id o hob).mono (Moves.refl β) (hk.weaken fun _ h => h.elim) (fun _ _ h => h) fun b hb => hk.block b (hs.fresh id o b hob hb).2.1 (fun h => h), hs.dead, hs.apart, ?_, hs.n0, ?_, Nat.le_trans hs.size hk.size, ho.trans hs.os, ht.trans hs.tape, hop.trans hs.output, hs.fixed⟩
      · intro id o b hob hb
        obtain ⟨k1, k2, k3⟩ := hs.fresh id o b hob hb
        exact ⟨k1, Nat.lt_of_lt_of_le k2 hk.size, k3⟩
      · intro b hb hnb
        rw [hk.block b (Nat.lt_of_lt_of_le hb hs.size) (fun h => h)]
        exact hs.frame b hb hnb
  · cases hr

/-- What is known of some functions, by their numbers. -/
def pes : List (FuncId × PE) → FuncId → Option PE
  | [], _ => none
  | (g, e) :: r, f => match Nat.beq g f with
    | true => some e
    | false => pes r f

def orc (ρ : Type) (l : List (FuncId × PE)) : Orc ρ := ⟨pes l, fun _ _ _ _ => none⟩

theorem orc_ok {ρ : Type} : ∀ {l : List (FuncId × PE)}, (∀ p ∈ l, p.2.OK P p.1) → OrcOK P (orc ρ l) := by
  intro l h
  refine ⟨fun f e he => ?_, fun _ _ _ _ _ h => by cases h⟩
  simp only [orc] at he
  induction l with
  | nil => cases he
  | cons p r ih =>
    obtain ⟨g, e'⟩ := p
    simp only [pes] at he
    split at he
    · rename_i hb
      have := Nat.eq_of_beq_eq_true hb
      subst this
      simp only [Option.some.injEq] at he
      subst he
      exact h _ (.head _)
    · exact ih (fun p hp => h p (.tail _ hp)) he

theorem all_nil {Q : FuncId × PE → Prop} : ∀ p ∈ ([] : List (FuncId × PE)), Q p := fun _ h => by cases h
theorem all_cons {Q : FuncId × PE → Prop} {p : FuncId × PE} {l : List (FuncId × PE)} (h : Q p) (hl : ∀ q ∈ l, Q q) : ∀ q ∈ p :: l, Q q := fun q hq => by
  cases hq with
  | head => exact h
  | tail _ hq => exact hl q hq
end
end Go.Dec

namespace Go.Dec

/-! ### What a call can come to -/

mutual
def L.ids : L → List Nat
  | .ptr id _ => [id]
  | .ornil id _ => [id]
  | .aptr id _ _ _ _ => [id]
  | .eptr id _ _ _ => [id]
  | .sl id _ _ _ => [id]
  | .own id _ => [id]
  | .clo _ caps => L.idss caps
  | _ => []
def L.idss : List L → List Nat
  | [] => []
  | l :: ls => l.ids ++ L.idss ls
end

def V.ids : V → List Nat
  | .one l => l.ids
  | .agg ls => L.idss ls
  | _ => []

def Ob.ids : Ob → List Nat
  | .box _ ls => L.idss ls
  | .arr .. => []

def addIds (acc : List Nat) : List Nat → List Nat
  | [] => acc
  | i :: r => match pos i acc 0 with
    | some _ => addIds acc r
    | none => addIds (acc ++ [i]) r

def reachGo (h : List Ob) : Nat → List Nat → Nat → List Nat
  | 0, acc, _ => acc
  | n + 1, acc, p =>
    match acc[p]? with
    | none => acc
    | some i => match h[i]? with
      | some o => reachGo h n (addIds acc o.ids) (p + 1)
      | none => reachGo h n acc (p + 1)

def idsV : List V → List Nat
  | [] => []
  | v :: vs => v.ids ++ idsV vs

/-- The objects that a call is handed, in the order in which they are come to. -/
def reach (vs : List V) (h : List Ob) : List Nat := reachGo h (h.length + 1) (addIds [] (idsV vs)) 0

/-! ### Into the numbers of the called function, and back -/

mutual
def L.back (f v : Nat → Nat) : L → L
  | .ptr id o => .ptr (f id) o
  | .ornil id o => .ornil (f id) o
  | .aptr id o es i sub => .aptr (f id) o es i sub
  | .eptr id u i o => .eptr (f id) (u + v id) i o
  | .sl id u i n => .sl (f id) (u + v id) i n
  | .own id u => .own (f id) (u + v id)
  | .clo g caps => .clo g (L.backs f v caps)
  | l => l
def L.backs (f v : Nat → Nat) : List L → List L
  | [] => []
  | l :: ls => l.back f v :: L.backs f v ls
end

def V.back (f v : Nat → Nat) : V → V
  | .one l => .one (l.back f v)
  | .agg ls => .agg (L.backs f v ls)
  | _ => .poison

def Ob.back (f v : Nat → Nat) (id : Nat) : Ob → Ob
  | .box e ls => .box e (L.backs f v ls)
  | .arr e t u rows wr => .arr e t (u + v id) rows wr

section
variable {β β' : Nat → Pl} {w : World} {N N' : Nat → Prop}

/-- Of one place, in two numberings. -/
structure PlTo (p q : Pl) (v : Nat) : Prop where
  live : q.live = p.live
  box : q.box = p.box
  blk : q.blk = p.blk
  row : p.box = false → q.ver = p.ver + v ∧ q.size = p.size ∧ q.cap = p.cap ∧ q.len = p.len

theorem PlTo.slOwn {p q : Pl} {v : Nat} (h : PlTo p q v) (hb : p.box = false) {off len : Nat} {c : Value} : SlOwn q off len c ↔ SlOwn p off len c := by
  obtain ⟨_, h2, h3, _⟩ := h.row hb
  unfold SlOwn
  rw [h.blk, h2, h3]

mutual
theorem L.Rel.back {f v : Nat → Nat} (hβ : ∀ j, (β j).live = true → PlTo (β j) (β' (f j)) (v j)) (hN : ∀ b, b < w.heap.size → N' b → N b) : ∀ {l : L} {cs : List Value}, l.Rel β w N cs → (l.back f v).Rel β' w N' cs
  | .val t x, cs, h => by simp only [L.back, L.Rel] at *; exact Ty.Rel.mono (Keep.refl _ w) hN h
  | .ptr id off, cs, h => by
    simp only [L.back, L.Rel] at *
    obtain ⟨h1, h2, h3⟩ := h
    have := hβ id h1
    exact ⟨this.live ▸ h1, this.box ▸ h2, by rw [this.blk]; exact h3⟩
  | .aptr id off es i sub, cs, h => by
    simp only [L.back, L.Rel] at *
    obtain ⟨h1, h2, h3⟩ := h
    have := hβ id h1
    exact ⟨this.live ▸ h1, this.box ▸ h2, by rw [this.blk]; exact h3⟩
  | .nilp, cs, h => by simp only [L.back, L.Rel] at *; exact h
  | .ornil id off, cs, h => by
    simp only [L.back, L.Rel] at *
    obtain ⟨c, e, h⟩ := h
    refine ⟨c, e, ?_⟩
    rcases h with h | ⟨h1, h2, h3⟩
    · exact .inl h
    · have := hβ id h1
      exact .inr ⟨this.live ▸ h1, this.box ▸ h2, by rw [this.blk]; exact h3⟩
  | .eptr id u i off, cs, h => by
    simp only [L.back, L.Rel] at *
    obtain ⟨h1, h2, h3, c, h4, h5, h6⟩ := h
    have := hβ id h1
    obtain ⟨g1, g2, g3, g4⟩ := this.row h2
    refine ⟨this.live ▸ h1, this.box ▸ h2, by omega, c, h4, h5, fun hv => ?_⟩
    rw [this.blk, g2]
    exact h6 (by omega)
  | .rptr t x off, cs, h => by simp only [L.back, L.Rel] at *; obtain ⟨c, hc, hr⟩ := h; exact ⟨c, hc, hr.mono (Keep.refl _ w) hN⟩
  | .sl id u off len, cs, h => by
    simp only [L.back, L.Rel] at *
    obtain ⟨h1, h2, h3, c, h4, h5, h6⟩ := h
    have := hβ id h1
    obtain ⟨g1, g2, g3, g4⟩ := this.row h2
    exact ⟨this.live ▸ h1, this.box ▸ h2, by omega, c, h4, h5, fun hv => (this.slOwn h2).2 (h6 (by omega))⟩
  | .own id u, cs, h => by
    simp only [L.back, L.Rel] at *
    obtain ⟨h1, h2, h3, c, h4, h5, h6⟩ := h
    have := hβ id h1
    obtain ⟨g1, g2, g3, g4⟩ := this.row h2
    exact ⟨this.live ▸ h1, this.box ▸ h2, by omega, c, h4, h5, fun hv => by rw [g4]; exact (this.slOwn h2).2 (h6 (by omega))⟩
  | .nils, cs, h => by simp only [L.back, L.Rel] at *; exact h
  | .clo g caps, cs, h => by
    simp only [L.back, L.Rel] at *
    obtain ⟨us, hc, hr⟩ := h
    exact ⟨us, hc, L.Rels1.back hβ hN hr⟩
  | .bad n, cs, h => by simp only [L.back, L.Rel] at *; exact h
theorem L.Rels1.back {f v : Nat → Nat} (hβ : ∀ j, (β j).live = true → PlTo (β j) (β' (f j)) (v j)) (hN : ∀ b, b < w.heap.size → N' b → N b) : ∀ {ls : List L} {us : List Value}, L.Rels1 β w N ls us → L.Rels1 β' w N' (L.backs f v ls) us
  | [], us, h => by simp only [L.backs, L.Rels1] at *; exact h
  | l :: ls, us, h => by
    simp only [L.backs, L.Rels1] at *
    obtain ⟨u, r, e, h1, h2⟩ := h
    exact ⟨u, r, e, L.Rel.back hβ hN h1, L.Rels1.back hβ hN h2⟩
end

theorem LsRel.back {f v : Nat → Nat} (hβ : ∀ j, (β j).live = true → PlTo (β j) (β' (f j)) (v j)) (hN : ∀ b, b < w.heap.size → N' b → N b) : ∀ {ls : List L} {cs : List Value}, LsRel β w N ls cs → LsRel β' w N' (L.backs f v ls) cs
  | [], _, h => h
  | _l :: _ls, _, ⟨c1, c2, e, h1, h2⟩ => ⟨c1, c2, e, h1.back hβ hN, LsRel.back hβ hN h2⟩

theorem V.Rel.back {f v : Nat → Nat} (hβ : ∀ j, (β j).live = true → PlTo (β j) (β' (f j)) (v j)) (hN : ∀ b, b < w.heap.size → N' b → N b) {x : V} {u : Value} (h : x.Rel β w N u) : (x.back f v).Rel β' w N' u := by
  cases x with
  | one l => exact L.Rel.back hβ hN h
  | agg ls => obtain ⟨cs, e, h⟩ := h; exact ⟨cs, e, h.back hβ hN⟩
  | _ => trivial

theorem Ob.Rel.back {f v : Nat → Nat} (hβ : ∀ j, (β j).live = true → PlTo (β j) (β' (f j)) (v j)) (hN : ∀ b, b < w.heap.size → N' b → N b) {id : Nat} {o : Ob} (h : o.Rel β w N (β id)) : (o.back f v id).Rel β' w N' (β' (f id)) := by
  cases o with
  | box e ls =>
    simp only [Ob.back, Ob.Rel] at *
    obtain ⟨h1, h2, b, cs, h3, h4, h5⟩ := h
    have := hβ id h1
    exact ⟨this.live ▸ h1, this.box ▸ h2, b, cs, this.blk ▸ h3, h4.back hβ hN, h5⟩
  | arr e t u rows wr =>
    simp only [Ob.back, Ob.Rel] at *
    obtain ⟨h1, h2, h3, h4, h5, h6, h7⟩ := h
    have := hβ id h1
    obtain ⟨g1, g2, g3, g4⟩ := this.row h2
    refine ⟨this.live ▸ h1, this.box ▸ h2, by omega, by rw [g2, h4], h5, by rw [g4, h6], ?_⟩
    rw [this.blk, g3]
    rcases h7 with h7 | ⟨b, cur, css, k1, k2, k3, k4⟩
    · exact .inl h7
    · exact .inr ⟨b, cur, css, k1, k2, k3.mono fun _ _ h => h.mono (Keep.refl _ w) hN, k4⟩

end

/-! ### What a function does that is handed own objects -/

/-- **A function that is handed boxes and rows, told by a plain one over their data.** -/
def Meets (P : Program) (f : FuncId) (si so : Sh) (F : si.X → Option so.X) : Prop :=
  hasBody P f = true ∧ ∀ x y, F x = some y → ∀ (C : Ctx) (β : Nat → Pl) (w : World) (xs : List Value), C.P = P → C.fix.length ≤ si.os.length → Sim C β (si.enc x) { tmps := xs.toArray, defers := [] } w →
    Calls P f xs.toArray w fun e w' => ∃ (us : List Value) (β' : Nat → Pl), e = .returned (retVal us) ∧ Sim C β' (so.enc y) { tmps := us.toArray, defers := [] } w'

def sumsV : List V → Option (List (Sum L (List L)))
  | [] => some []
  | v :: r => match v.sum, sumsV r with
    | some s, some ss => some (s :: ss)
    | _, _ => none

def outV (vs : List V) : V :=
  match sumsV vs with
  | some ss => tupV ss
  | none => .poison

def outH (g : Nat → Option Ob) : Nat → List Ob → List Ob
  | _, [] => []
  | i, o :: r => (match g i with | some o' => o' | none => o) :: outH g (i + 1) r

def backFrom (f v : Nat → Nat) : Nat → List Ob → List Ob
  | _, [] => []
  | j, o :: r => o.back f v j :: backFrom f v (j + 1) r

/-- Rows stay rows. -/
def kindsOK : List Ob → List OS → Bool
  | [], _ => true
  | .box .. :: r, _ :: s => kindsOK r s
  | .arr .. :: r, .row .. :: s => kindsOK r s
  | _, _ => false

def outF (ρ : List Nat) (n : Nat) (j : Nat) : Nat := match ρ[j]? with | some i => i | none => n + (j - ρ.length)
def outU (ρ : List Nat) (h : List Ob) (j : Nat) : Nat := match ρ[j]? with
  | some i => (match h[i]? with | some (.arr _ _ u _ _) => u + 1 | _ => 0)
  | none => 0
def outHeap (ρ : List Nat) (h hy : List Ob) : List Ob :=
  outH (fun i => match pos i ρ 0 with | some j => (match hy[j]? with | some o => some (o.back (outF ρ h.length) (outU ρ h) j) | none => none) | none => none) 0 h ++ backFrom (outF ρ h.length) (outU ρ h) ρ.length (hy.drop ρ.length)

def callOK (ρ : List Nat) (h : List Ob) (si so : Sh) : Bool :=
  nodupB ρ && (allB (fun i => Nat.blt i h.length) ρ && (Nat.beq ρ.length si.os.length && (allB Ob.wr (inH ρ h) && kindsOK (inH ρ h) so.os)))

def peM (si so : Sh) (F : si.X → Option so.X) : PE where
  R := so.X
  use := 2
  run vs h := match si.dec ⟨vs.map (V.ren (reach vs h) h), inH (reach vs h) h⟩ with
    | some x => some (callOK (reach vs h) h si so, F x)
    | none => none
  enc y vs h := (outV ((so.enc y).r.map (V.back (outF (reach vs h) h.length) (outU (reach vs h) h))), outHeap (reach vs h) h (so.enc y).h)

theorem outH_get {g : Nat → Option Ob} : ∀ {h : List Ob} {n i : Nat}, (outH g n h)[i]? = (h[i]?).map fun o => (match g (n + i) with | some o' => o' | none => o)
  | [], n, i => by simp [outH]
  | o :: r, n, 0 => by simp [outH]
  | o :: r, n, i + 1 => by
    simp only [outH, List.getElem?_cons_succ]
    rw [outH_get (h := r), show n + 1 + i = n + (i + 1) by omega]

theorem outH_length {g : Nat → Option Ob} : ∀ {h : List Ob} {n : Nat}, (outH g n h).length = h.length
  | [], _ => rfl
  | _ :: r, n => congrArg (· + 1) (outH_length (h := r) (n := n + 1))

theorem backFrom_get {f v : Nat → Nat} : ∀ {h : List Ob} {n i : Nat}, (backFrom f v n h)[i]? = (h[i]?).map fun o => o.back f v (n + i)
  | [], n, i => by simp [backFrom]
  | o :: r, n, 0 => by simp [backFrom]
  | o :: r, n, i + 1 => by
    simp only [backFrom, List.getElem?_cons_succ]
    rw [backFrom_get (h := r), show n + 1 + i = n + (i + 1) by omega]

theorem backFrom_length {f v : Nat → Nat} : ∀ {h : List Ob} {n : Nat}, (backFrom f v n h).length = h.length
  | [], _ => rfl
  | _ :: r, n => congrArg (· + 1) (backFrom_length (h := r) (n := n + 1))

theorem Ob.back_wr {f v : Nat → Nat} {j : Nat} (o : Ob) : (o.back f v j).wr = o.wr := by cases o <;> rfl

theorem kindsOK_row : ∀ {hc : List Ob} {os : List OS} {j : Nat} {e : TypeId} {t : Ty} {u : Nat} {rows : List t.den} {wr : Bool}, kindsOK hc os = true → hc[j]? = some (.arr e t u rows wr) → ∃ e' t', os[j]? = some (.row e' t')
  | [], _, j, _, _, _, _, _, _, h => by simp at h
  | .box .. :: r, [], j, _, _, _, _, _, hk, _ => by cases hk
  | .box .. :: r, s :: os, 0, _, _, _, _, _, _, h => by simp at h
  | .box .. :: r, s :: os, j + 1, _, _, _, _, _, hk, h => by
    obtain ⟨e', t', h'⟩ := kindsOK_row (hc := r) (os := os) (j := j) hk (by simpa using h)
    exact ⟨e', t', by simpa using h'⟩
  | .arr .. :: r, [], j, _, _, _, _, _, hk, _ => by cases hk
  | .arr .. :: r, .box .. :: os, j, _, _, _, _, _, hk, _ => by cases hk
  | .arr .. :: r, .row e t :: os, 0, _, _, _, _, _, _, _ => ⟨e, t, rfl⟩
  | .arr .. :: r, .row e t :: os, j + 1, _, _, _, _, _, hk, h => by
    obtain ⟨e', t', h'⟩ := kindsOK_row (hc := r) (os := os) (j := j) hk (by simpa using h)
    exact ⟨e', t', by simpa using h'⟩

theorem encOs_row {A : Type} : ∀ {os : List OS} {x : OTs os A} {j : Nat} {e : TypeId} {t : Ty}, os[j]? = some (.row e t) → ∃ rows, (encOs os x).1[j]? = some (.arr e t 0 rows true)
  | [], _, j, _, _, h => by simp at h
  | .box e0 ls :: r, x, 0, _, _, h => by simp at h
  | .box e0 ls :: r, x, j + 1, e, t, h => by
    obtain ⟨rows, h'⟩ := encOs_row (os := r) (x := (encLs ls x).2) (j := j) (by simpa using h)
    exact ⟨rows, by simpa [encOs] using h'⟩
  | .row e0 t0 :: r, x, 0, e, t, h => by
    simp only [List.getElem?_cons_zero, Option.some.injEq, OS.row.injEq] at h
    obtain ⟨rfl, rfl⟩ := h
    exact ⟨x.1, rfl⟩
  | .row e0 t0 :: r, x, j + 1, e, t, h => by
    obtain ⟨rows, h'⟩ := encOs_row (os := r) (x := x.2) (j := j) (by simpa using h)
    exact ⟨rows, by simpa [encOs] using h'⟩

theorem sumsV_rel {β : Nat → Pl} {w : World} {N : Nat → Prop} : ∀ {vs : List V} {us : List Value} {ss : List (Sum L (List L))}, sumsV vs = some ss → All2 (fun v u => V.Rel β w N v u) vs us → All2 (V1Rel β w N) ss us
  | [], [], ss, h, _ => by simp only [sumsV, Option.some.injEq] at h; subst h; trivial
  | v :: vs, u :: us, ss, h, hr => by
    simp only [sumsV] at h
    split at h
    · rename_i s ss' h1 h2
      simp only [Option.some.injEq] at h
      subst h
      exact ⟨V.sum_rel h1 hr.1, sumsV_rel h2 hr.2⟩
    · cases h
  | [], _ :: _, _, _, hr => hr.elim
  | _ :: _, [], _, _, hr => hr.elim

theorem outV_rel {β : Nat → Pl} {w : World} {N : Nat → Prop} {vs : List V} {us : List Value} (hr : All2 (fun v u => V.Rel β w N v u) vs us) : (outV vs).Rel β w N (retVal us) := by
  unfold outV
  split
  · rename_i ss h
    exact tupV_rel (sumsV_rel h hr)
  · trivial

theorem all2_of {α γ : Type} {R : α → γ → Prop} : ∀ {x : List α} {y : List γ}, x.length = y.length → (∀ (i : Nat) (a : α) (b : γ), x[i]? = some a → y[i]? = some b → R a b) → All2 R x y
  | [], [], _, _ => trivial
  | a :: x, b :: y, hl, h => ⟨h 0 a b rfl rfl, all2_of (by simpa using hl) fun i c d hc hd => h (i + 1) c d (by simpa using hc) (by simpa using hd)⟩
  | [], _ :: _, hl, _ => by simp at hl
  | _ :: _, [], hl, _ => by simp at hl
end Go.Dec

namespace Go.Dec

section
variable {P : Program} {f : FuncId} {si so : Sh} {F : si.X → Option so.X}

theorem callOK_spec {ρ : List Nat} {h : List Ob} (hc : callOK ρ h si so = true) : nodupB ρ = true ∧ (∀ i ∈ ρ, i < h.length) ∧ ρ.length = si.os.length ∧ (∀ (j : Nat) (o : Ob), (inH ρ h)[j]? = some o → o.wr = true) ∧ kindsOK (inH ρ h) so.os = true := by
  simp only [callOK, Bool.and_eq_true] at hc
  obtain ⟨h1, h2, h3, h4, h5⟩ := hc
  refine ⟨h1, fun i hi => ?_, Nat.eq_of_beq_eq_true h3, fun j o ho => allB_get h4 j o ho, h5⟩
  obtain ⟨n, hn⟩ := List.getElem?_of_mem hi
  exact Nat.le_of_ble_eq_true (allB_get h2 n i hn)

def isBox : Ob → Bool
  | .box .. => true
  | .arr .. => false

def fixOf (β : Nat → Pl) (h : List Ob) (i : Nat) : Option Nat := match isBox (getOb h i) with | true => (β i).blk | false => none

/-- The call's own context. -/
def inC (C : Ctx) (β : Nat → Pl) (h : List Ob) (w : World) (ρ : List Nat) (hs : HSim C β h w) : Ctx where
  P := C.P
  N0 b := C.N β h b ∧ ∀ i ∈ ρ, (β i).blk ≠ some b
  w0 := w
  own0 b := ∃ (i : Nat) (o : Ob), i ∈ ρ ∧ h[i]? = some o ∧ (β i).blk = some b
  glob w' hw := C.glob w' fun b hb hn => by
    have hlt := Nat.lt_of_lt_of_le hb hs.size
    rw [hw b hlt (fun hm => ?_)]
    · exact hs.frame b hb hn
    · obtain ⟨i, o, _, ho, hbk⟩ := hm
      rcases (hs.fresh i o b ho hbk).2.2 with h1 | h1
      · omega
      · exact hn h1
  fix := ρ.map (fixOf β h)

theorem in_sim {C : Ctx} {β : Nat → Pl} {w : World} {h : List Ob} {ρ : List Nat} {vs : List V} {xs : List Value} (hs : HSim C β h w) (ha : ArgsRel β w (C.N β h) vs xs) (hnd : nodupB ρ = true) (hlt : ∀ i ∈ ρ, i < h.length) :
    Sim (inC C β h w ρ hs) (inβ β ρ) ⟨vs.map (V.ren ρ h), inH ρ h⟩ { tmps := xs.toArray, defers := [] } w := by
  have hren := renOK_in hs hlt
  have hget : ∀ i ∈ ρ, ∃ o, h[i]? = some o := fun i hi => ⟨h[i]'(hlt i hi), by simp [hlt i hi]⟩
  have hβ : ∀ {j i : Nat}, ρ[j]? = some i → inβ β ρ j = { β i with ver := 0 } := fun hi => by simp only [inβ, hi]
  have hNw : ∀ b, C.N β h b → b < w.heap.size := fun b hb => by
    rcases hb with hb | ⟨id, o, ho, _, hbk⟩
    · exact Nat.lt_of_lt_of_le (hs.n0 b hb) hs.size
    · exact (hs.fresh id o b ho hbk).2.1
  have hN : ∀ b, b < w.heap.size → (inC C β h w ρ hs).N (inβ β ρ) (inH ρ h) b → C.N β h b := fun b _ hb => by
    rcases hb with hb | ⟨j, o, ho, hw, hbk⟩
    · exact hb.1
    · obtain ⟨i, hi, rfl⟩ := inH_get ho
      obtain ⟨o', ho'⟩ := hget i (List.mem_of_getElem? hi)
      rw [getOb_of ho', Ob.ren_wr] at hw
      rw [hβ hi] at hbk
      exact .inr ⟨i, o', ho', hw, hbk⟩
  refine ⟨⟨?_, ?_, ?_, ?_, fun b hb => hNw b hb.1, fun _ _ _ => rfl, Nat.le_refl _, rfl, rfl, rfl, ?_⟩, rfl, by simpa using All2.length ha, ?_⟩
  · intro j o ho
    obtain ⟨i, hi, rfl⟩ := inH_get ho
    obtain ⟨o', ho'⟩ := hget i (List.mem_of_getElem? hi)
    rw [getOb_of ho', hβ hi]
    have hob := hs.obj i o' ho'
    cases o' with
    | box e ls =>
      simp only [Ob.ren, Ob.Rel] at *
      obtain ⟨h1, h2, b, cs, h3, h4, h5⟩ := hob
      exact ⟨h1, h2, b, cs, h3, h4.renC hren hN, h5⟩
    | arr e t v rows wr =>
      simp only [Ob.ren, Ob.Rel] at *
      obtain ⟨h1, h2, h3, h4, h5, h6, h7⟩ := hob
      refine ⟨h1, h2, trivial, h4, h5, h6, ?_⟩
      rcases h7 with h7 | ⟨b, cur, css, k1, k2, k3, k4⟩
      · exact .inl h7
      · exact .inr ⟨b, cur, css, k1, k2, k3.mono fun _ _ h => h.mono (Keep.refl _ w) hN, k4⟩
  · intro j hj
    simp only [inH, List.length_map] at hj
    simp only [inβ, List.getElem?_eq_none hj]
  · intro i j o1 o2 b h1 h2 hb1 hb2
    obtain ⟨i', hi, rfl⟩ := inH_get h1
    obtain ⟨j', hj, rfl⟩ := inH_get h2
    obtain ⟨o1', ho1⟩ := hget i' (List.mem_of_getElem? hi)
    obtain ⟨o2', ho2⟩ := hget j' (List.mem_of_getElem? hj)
    rw [hβ hi] at hb1
    rw [hβ hj] at hb2
    have := hs.apart i' j' o1' o2' b ho1 ho2 hb1 hb2
    subst this
    exact nodupB_inj hnd hi hj
  · intro j o b ho hb
    obtain ⟨i, hi, rfl⟩ := inH_get ho
    obtain ⟨o', ho'⟩ := hget i (List.mem_of_getElem? hi)
    rw [hβ hi] at hb
    exact ⟨fun hn => hn.2 i (List.mem_of_getElem? hi) hb, (hs.fresh i o' b ho' hb).2.1, .inr ⟨i, o', List.mem_of_getElem? hi, ho', hb⟩⟩
  · intro j o hj
    simp only [inC, List.getElem?_map, Option.map_eq_some_iff] at hj
    obtain ⟨i, hi, rfl⟩ := hj
    refine ⟨by simpa [inH] using (List.getElem?_eq_some_iff.1 hi).1, fun b hb => ?_⟩
    obtain ⟨o', ho'⟩ := hget i (List.mem_of_getElem? hi)
    have hob := hs.obj i o' ho'
    rw [hβ hi]
    unfold fixOf at hb
    rw [getOb_of ho'] at hb
    cases o' with
    | box e ls =>
      simp only [Ob.Rel] at hob
      exact ⟨hb, hob.2.1⟩
    | arr e t v rows wr => cases hb
  · intro i v hv
    simp only [List.getElem?_map, Option.map_eq_some_iff] at hv
    obtain ⟨v0, hv0, rfl⟩ := hv
    have hl : i < xs.length := by rw [← All2.length ha]; exact (List.getElem?_eq_some_iff.1 hv0).1
    have hr := ha.get i (List.getElem?_eq_some_iff.1 hv0).1 hl
    have e : vs[i]'(List.getElem?_eq_some_iff.1 hv0).1 = v0 := (List.getElem?_eq_some_iff.1 hv0).2
    rw [e] at hr
    have e2 : (xs.toArray).getD i undef = xs[i] := by simp [hl]
    simp only [e2]
    exact hr.renC hren hN

/-- Where the objects lie behind the call. -/
def outβ (β β' : Nat → Pl) (ρ : List Nat) (h : List Ob) : Nat → Pl := fun i =>
  match pos i ρ 0 with
  | some j => match isBox (getOb h i) with
    | true => β i
    | false => { β' j with ver := (β' j).ver + outU ρ h j }
  | none => if i < h.length then β i else β' (i - h.length + ρ.length)

theorem outHeap_get {ρ : List Nat} {h hy : List Ob} (hk : ρ.length ≤ hy.length) {id : Nat} {o : Ob} (ho : (outHeap ρ h hy)[id]? = some o) :
    (id < h.length ∧ pos id ρ 0 = none ∧ h[id]? = some o) ∨ (∃ j ob oy, id < h.length ∧ ρ[j]? = some id ∧ pos id ρ 0 = some j ∧ h[id]? = some ob ∧ hy[j]? = some oy ∧ o = oy.back (outF ρ h.length) (outU ρ h) j) ∨
      ∃ j oy, ρ.length ≤ j ∧ id = h.length + (j - ρ.length) ∧ hy[j]? = some oy ∧ o = oy.back (outF ρ h.length) (outU ρ h) j := by
  unfold outHeap at ho
  by_cases hid : id < h.length
  · rw [List.getElem?_append_left (by rw [outH_length]; exact hid), outH_get, Nat.zero_add] at ho
    obtain ⟨ob, hob⟩ : ∃ ob, h[id]? = some ob := ⟨h[id], by simp [hid]⟩
    rw [hob] at ho
    simp only [Option.map_some, Option.some.injEq] at ho
    cases hp : pos id ρ 0 with
    | none =>
      rw [hp] at ho
      simp only at ho
      exact .inl ⟨hid, rfl, by rw [hob, ho]⟩
    | some j =>
      obtain ⟨m, hm, hi⟩ := pos_some hp
      rw [Nat.zero_add] at hm
      subst hm
      have hj : j < hy.length := Nat.lt_of_lt_of_le (List.getElem?_eq_some_iff.1 hi).1 hk
      have hyj : hy[j]? = some hy[j] := by simp [hj]
      rw [hp] at ho
      simp only [hyj] at ho
      exact .inr (.inl ⟨j, ob, hy[j], hid, hi, rfl, hob, hyj, ho.symm⟩)
  · rw [List.getElem?_append_right (by rw [outH_length]; omega), outH_length, backFrom_get, List.getElem?_drop] at ho
    simp only [Option.map_eq_some_iff] at ho
    obtain ⟨oy, h1, h2⟩ := ho
    exact .inr (.inr ⟨ρ.length + (id - h.length), oy, by omega, by omega, h1, h2.symm⟩)

theorem outHeap_length {ρ : List Nat} {h hy : List Ob} : (outHeap ρ h hy).length = h.length + (hy.length - ρ.length) := by
  simp [outHeap, outH_length, backFrom_length]

/-- **Back from a call.** -/
theorem back_sim {C : Ctx} {β : Nat → Pl} {h : List Ob} {w w' : World} {ρ : List Nat} (hs : HSim C β h w) (hnd : nodupB ρ = true) (hlt : ∀ i ∈ ρ, i < h.length) (hwr : ∀ (j : Nat) (o : Ob), (inH ρ h)[j]? = some o → o.wr = true) (hkinds : kindsOK (inH ρ h) so.os = true)
    {y : so.X} {us : List Value} {β' : Nat → Pl} (hs' : Sim (inC C β h w ρ hs) β' (so.enc y) { tmps := us.toArray, defers := [] } w') :
    ∃ β2, Moves β β2 ∧ Keep (C.N β h) w w' ∧ (∀ b, b < w.heap.size → C.N β2 (outHeap ρ h (so.enc y).h) b → C.N β h b) ∧ HSim C β2 (outHeap ρ h (so.enc y).h) w' ∧
      All2 (fun v u => V.Rel β2 w' (C.N β2 (outHeap ρ h (so.enc y).h)) v u) ((so.enc y).r.map (V.back (outF ρ h.length) (outU ρ h))) us := by
  generalize hhy : (so.enc y).h = hy at *
  have hget : ∀ i ∈ ρ, ∃ o, h[i]? = some o := fun i hi => ⟨h[i]'(hlt i hi), by simp [hlt i hi]⟩
  have hfix : ∀ {j i : Nat}, ρ[j]? = some i → j < hy.length ∧ ∀ b, fixOf β h i = some b → (β' j).blk = some b ∧ (β' j).box = true := fun {j i} hi => by
    have := hs'.heap.fixed j (fixOf β h i) (by simp [inC, hi])
    rw [hhy] at this
    exact this
  have hk : ρ.length ≤ hy.length := by
    rcases Nat.lt_or_ge hy.length ρ.length with h1 | h1
    · have := (hfix (j := hy.length) (i := ρ[hy.length]) (by simp [h1])).1
      omega
    · exact h1
  have hwrh : ∀ i ∈ ρ, ∀ o, h[i]? = some o → o.wr = true := fun i hi o ho => by
    obtain ⟨n, hn⟩ := List.getElem?_of_mem hi
    have := hwr n ((getOb h i).ren ρ h) (by simp [inH, hn])
    rw [Ob.ren_wr, getOb_of ho] at this
    exact this
  have hrow : ∀ {j i : Nat} {o : Ob}, ρ[j]? = some i → h[i]? = some o → isBox o = false → ∃ oy, hy[j]? = some oy ∧ isBox oy = false := fun {j i o} hi ho hb => by
    cases o with
    | box e ls => cases hb
    | arr e t u rows wr =>
      obtain ⟨e', t', hrw⟩ := kindsOK_row (j := j) (e := e) (t := t) (u := 0) (rows := rows) (wr := wr) hkinds (by simp [inH, hi, getOb_of ho, Ob.ren])
      obtain ⟨rows', hr'⟩ := encOs_row (A := Unit) (x := (encRs so.rs (List.replicate so.n .poison) y).2) hrw
      exact ⟨_, by rw [← hhy]; exact hr', rfl⟩
  have hobY := hs'.heap.obj
  rw [hhy] at hobY
  have hdeadY : ∀ j, hy.length ≤ j → (β' j).live = false := fun j hj => hs'.heap.dead j (by rw [hhy]; exact hj)
  have hfreshY := hs'.heap.fresh
  rw [hhy] at hfreshY
  have hapartY := hs'.heap.apart
  rw [hhy] at hapartY
  -- a box that was handed in lies where it lay
  have hboxY : ∀ {j i : Nat} {o : Ob}, ρ[j]? = some i → h[i]? = some o → isBox o = true → (β' j).box = true ∧ (β' j).blk = (β i).blk ∧ (β i).box = true ∧ (β i).live = true ∧ (β' j).live = true := fun {j i o} hi ho hb => by
    have hob := hs.obj i o ho
    obtain ⟨hj, hfx⟩ := hfix hi
    cases o with
    | arr => cases hb
    | box e ls =>
      simp only [Ob.Rel] at hob
      obtain ⟨k1, k2, b, cs, k3, _⟩ := hob
      have hfo : fixOf β h i = some b := by simp only [fixOf, getOb_of ho, isBox, k3]
      obtain ⟨g1, g2⟩ := hfx b hfo
      exact ⟨g2, by rw [g1, k3], k2, k1, (hobY j hy[j] (by simp [hj])).live⟩
  have eβ1 : ∀ {j i : Nat} {o : Ob}, ρ[j]? = some i → h[i]? = some o → isBox o = true → outβ β β' ρ h i = β i := fun hi ho hb => by
    simp only [outβ, pos_get hnd hi, getOb_of ho, hb]
  have eβ2 : ∀ {j i : Nat} {o : Ob}, ρ[j]? = some i → h[i]? = some o → isBox o = false → outβ β β' ρ h i = { β' j with ver := (β' j).ver + outU ρ h j } := fun hi ho hb => by
    simp only [outβ, pos_get hnd hi, getOb_of ho, hb]
  have eβ3 : ∀ {i : Nat}, pos i ρ 0 = none → i < h.length → outβ β β' ρ h i = β i := fun hp hi => by
    simp only [outβ, hp, if_pos hi]
  have hposn : ∀ {i : Nat}, h.length ≤ i → pos i ρ 0 = none := fun {i} hi => by
    cases hp : pos i ρ 0 with
    | none => rfl
    | some j =>
      obtain ⟨m, _, hm⟩ := pos_some hp
      have := hlt i (List.mem_of_getElem? hm)
      omega
  have eβ4 : ∀ {j : Nat}, ρ.length ≤ j → outβ β β' ρ h (h.length + (j - ρ.length)) = β' j := fun {j} hj => by
    simp only [outβ, hposn (Nat.le_add_right _ _)]
    rw [if_neg (by omega)]
    congr 1
    omega
  have eF : ∀ {j i : Nat}, ρ[j]? = some i → outF ρ h.length j = i := fun hi => by simp only [outF, hi]
  have eF2 : ∀ {j : Nat}, ρ.length ≤ j → outF ρ h.length j = h.length + (j - ρ.length) := fun hj => by simp only [outF, List.getElem?_eq_none hj]
  have eU2 : ∀ {j : Nat}, ρ.length ≤ j → outU ρ h j = 0 := fun hj => by simp only [outU, List.getElem?_eq_none hj]
  have hpl : ∀ j, (β' j).live = true → PlTo (β' j) (outβ β β' ρ h (outF ρ h.length j)) (outU ρ h j) := fun j hl => by
    have hj : j < hy.length := by
      rcases Nat.lt_or_ge j hy.length with h1 | h1
      · exact h1
      · rw [hdeadY j h1] at hl; cases hl
    cases hi : ρ[j]? with
    | some i =>
      rw [eF hi]
      obtain ⟨o, ho⟩ := hget i (List.mem_of_getElem? hi)
      cases hb : isBox o with
      | true =>
        obtain ⟨g1, g2, g3, g4, g5⟩ := hboxY hi ho hb
        rw [eβ1 hi ho hb]
        exact ⟨by rw [g4, hl], by rw [g3, g1], g2.symm, fun h => by rw [g1] at h; cases h⟩
      | false =>
        rw [eβ2 hi ho hb]
        exact ⟨rfl, rfl, rfl, fun _ => ⟨rfl, rfl, rfl, rfl⟩⟩
    | none =>
      have hge : ρ.length ≤ j := List.getElem?_eq_none_iff.1 hi
      rw [eF2 hge, eβ4 hge, eU2 hge]
      exact ⟨rfl, rfl, rfl, fun _ => ⟨rfl, rfl, rfl, rfl⟩⟩
  -- what the call may have touched
  have hown : ∀ {b : Nat}, (inC C β h w ρ hs).own0 b → ∃ (i : Nat) (o : Ob), i ∈ ρ ∧ h[i]? = some o ∧ o.wr = true ∧ (β i).blk = some b := fun {b} hb => by
    obtain ⟨i, o, h1, h2, h3⟩ := hb
    exact ⟨i, o, h1, h2, hwrh i h1 o h2, h3⟩
  have hkeep : Keep (C.N β h) w w' := ⟨hs'.heap.size, fun b hb hn => hs'.heap.frame b hb fun ho => by
    obtain ⟨i, o, _, h2, h3, h4⟩ := hown ho
    exact hn (.inr ⟨i, o, h2, h3, h4⟩)⟩
  have hmoves : Moves β (outβ β β' ρ h) := fun id hl => by
    have hid : id < h.length := by
      rcases Nat.lt_or_ge id h.length with h1 | h1
      · exact h1
      · rw [hs.dead id h1] at hl; cases hl
    cases hp : pos id ρ 0 with
    | none => exact .inl (eβ3 hp hid)
    | some j =>
      obtain ⟨m, hm, hi⟩ := pos_some hp
      rw [Nat.zero_add] at hm
      subst hm
      obtain ⟨o, ho⟩ := hget id (List.mem_of_getElem? hi)
      cases hb : isBox o with
      | true => exact .inl (eβ1 hi ho hb)
      | false =>
        obtain ⟨oy, hoy, hby⟩ := hrow hi ho hb
        have hY := hobY j oy hoy
        have hO := hs.obj id o ho
        rw [eβ2 hi ho hb]
        cases o with
        | box => cases hb
        | arr e t u rows wr =>
          cases oy with
          | box => cases hby
          | arr e' t' u' rows' wr' =>
            simp only [Ob.Rel] at hY hO
            refine .inr ⟨hO.2.1, hY.1, hY.2.1, ?_⟩
            simp only [outU, hi, ho]
            have := hO.2.2.1
            omega
  have hbl : ∀ {b : Nat}, b < w.heap.size → w.heap.size ≤ b ∨ (inC C β h w ρ hs).own0 b → C.N β h b := fun {b} hb ho => by
    rcases ho with ho | ho
    · omega
    · obtain ⟨i, o, _, h2, h3, h4⟩ := hown ho
      exact .inr ⟨i, o, h2, h3, h4⟩
  have hNold : ∀ b, b < w.heap.size → C.N (outβ β β' ρ h) (outHeap ρ h hy) b → C.N β h b := fun b hb hn => by
    rcases hn with hn | ⟨id, o, ho, hw, hbk⟩
    · exact .inl hn
    · rcases outHeap_get hk ho with ⟨hid, hp, ho⟩ | ⟨j, ob, oy, hid, hi, hp, hob, hoy, rfl⟩ | ⟨j, oy, hj, rfl, hoy, rfl⟩
      · rw [eβ3 hp hid] at hbk
        exact .inr ⟨id, o, ho, hw, hbk⟩
      · cases hb2 : isBox ob with
        | true =>
          rw [eβ1 hi hob hb2] at hbk
          exact .inr ⟨id, ob, hob, hwrh id (List.mem_of_getElem? hi) ob hob, hbk⟩
        | false =>
          rw [eβ2 hi hob hb2] at hbk
          exact hbl hb (hfreshY j oy b hoy hbk).2.2
      · rw [eβ4 hj] at hbk
        exact hbl hb (hfreshY j oy b hoy hbk).2.2
  have hNnew : ∀ b, b < w'.heap.size → C.N (outβ β β' ρ h) (outHeap ρ h hy) b → (inC C β h w ρ hs).N β' (so.enc y).h b := fun b _ hn => by
    rw [hhy]
    rcases hn with hn | ⟨id, o, ho, hw, hbk⟩
    · exact .inl ⟨.inl hn, fun i hi hbk => by
        obtain ⟨o, ho⟩ := hget i hi
        exact (hs.fresh i o b ho hbk).1 hn⟩
    · rcases outHeap_get hk ho with ⟨hid, hp, ho⟩ | ⟨j, ob, oy, hid, hi, hp, hob, hoy, rfl⟩ | ⟨j, oy, hj, rfl, hoy, rfl⟩
      · rw [eβ3 hp hid] at hbk
        refine .inl ⟨.inr ⟨id, o, ho, hw, hbk⟩, fun i hi hbi => ?_⟩
        obtain ⟨oi, hoi⟩ := hget i hi
        have := hs.apart id i o oi b ho hoi hbk hbi
        subst this
        exact pos_none hp hi
      · rw [Ob.back_wr] at hw
        cases hb2 : isBox ob with
        | true =>
          rw [eβ1 hi hob hb2] at hbk
          exact .inr ⟨j, oy, hoy, hw, by rw [(hboxY hi hob hb2).2.1]; exact hbk⟩
        | false =>
          rw [eβ2 hi hob hb2] at hbk
          exact .inr ⟨j, oy, hoy, hw, hbk⟩
      · rw [Ob.back_wr] at hw
        rw [eβ4 hj] at hbk
        exact .inr ⟨j, oy, hoy, hw, hbk⟩
  -- an object of the caller's that was not handed in lies in no block that the call may have touched
  have hfar : ∀ {id : Nat} {o : Ob} {b : Nat}, pos id ρ 0 = none → h[id]? = some o → (β id).blk = some b → b < w.heap.size ∧ ¬ (inC C β h w ρ hs).own0 b := fun {id o b} hp ho hb => by
    refine ⟨(hs.fresh id o b ho hb).2.1, fun hw => ?_⟩
    obtain ⟨i, oi, h1, h2, _, h4⟩ := hown hw
    have := hs.apart id i o oi b ho h2 hb h4
    subst this
    exact pos_none hp h1
  -- of each object behind the call: the called function's place, or the caller's own
  have hcls : ∀ {id : Nat} {o : Ob}, (outHeap ρ h hy)[id]? = some o → (pos id ρ 0 = none ∧ h[id]? = some o ∧ outβ β β' ρ h id = β id) ∨ ∃ j oy, hy[j]? = some oy ∧ id = outF ρ h.length j ∧ o = oy.back (outF ρ h.length) (outU ρ h) j ∧ (outβ β β' ρ h id).blk = (β' j).blk := fun {id o} ho => by
    rcases outHeap_get hk ho with ⟨hid, hp, ho⟩ | ⟨j, ob, oy, hid, hi, hp, hob, hoy, rfl⟩ | ⟨j, oy, hj, rfl, hoy, rfl⟩
    · exact .inl ⟨hp, ho, eβ3 hp hid⟩
    · exact .inr ⟨j, oy, hoy, (eF hi).symm, rfl, by have := (hpl j (hobY j oy hoy).live).blk; rwa [eF hi] at this⟩
    · exact .inr ⟨j, oy, hoy, (eF2 hj).symm, rfl, by rw [eβ4 hj]⟩
  have hHS : HSim C (outβ β β' ρ h) (outHeap ρ h hy) w' := by
    refine ⟨?_, ?_, ?_, ?_, hs.n0, ?_, Nat.le_trans hs.size hs'.heap.size, hs'.heap.os.trans hs.os, hs'.heap.tape.trans hs.tape, hs'.heap.output.trans hs.output, ?_⟩
    · intro id o ho
      rcases hcls ho with ⟨hp, ho, eb⟩ | ⟨j, oy, hoy, rfl, rfl, _⟩
      · rw [eb]
        exact (hs.obj id o ho).mono hmoves hkeep hNold fun b hb => hs'.heap.frame b (hfar hp ho hb).1 (hfar hp ho hb).2
      · have hY := hobY j oy hoy
        rw [← hhy] at hY
        exact Ob.Rel.back (f := outF ρ h.length) (v := outU ρ h) hpl hNnew hY
    · intro id hid
      rw [outHeap_length] at hid
      have hp := hposn (i := id) (by omega)
      simp only [outβ, hp]
      rw [if_neg (by omega)]
      exact hdeadY _ (by omega)
    · intro i j o1 o2 b h1 h2 hb1 hb2
      rcases hcls h1 with ⟨hp1, ho1, eb1⟩ | ⟨j1, oy1, hoy1, rfl, rfl, eb1⟩ <;> rcases hcls h2 with ⟨hp2, ho2, eb2⟩ | ⟨j2, oy2, hoy2, rfl, rfl, eb2⟩ <;> rw [eb1] at hb1 <;> rw [eb2] at hb2
      · exact hs.apart i j o1 o2 b ho1 ho2 hb1 hb2
      · exfalso
        obtain ⟨g1, g2⟩ := hfar hp1 ho1 hb1
        rcases (hfreshY j2 oy2 b hoy2 hb2).2.2 with h3 | h3
        · have h3 : w.heap.size ≤ b := h3
          omega
        · exact g2 h3
      · exfalso
        obtain ⟨g1, g2⟩ := hfar hp2 ho2 hb2
        rcases (hfreshY j1 oy1 b hoy1 hb1).2.2 with h3 | h3
        · have h3 : w.heap.size ≤ b := h3
          omega
        · exact g2 h3
      · rw [hapartY j1 j2 oy1 oy2 b hoy1 hoy2 hb1 hb2]
    · intro id o b ho hb
      rcases hcls ho with ⟨hp, ho, eb⟩ | ⟨j, oy, hoy, rfl, rfl, eb⟩ <;> rw [eb] at hb
      · obtain ⟨k1, k2, k3⟩ := hs.fresh id o b ho hb
        exact ⟨k1, Nat.lt_of_lt_of_le k2 hs'.heap.size, k3⟩
      · obtain ⟨k1, k2, k3⟩ := hfreshY j oy b hoy hb
        rcases k3 with k3 | k3
        · have k3 : w.heap.size ≤ b := k3
          have h0 := hs.size
          exact ⟨fun hn => by have := hs.n0 b hn; omega, k2, .inl (by omega)⟩
        · obtain ⟨i, oi, h1, h2, _, h4⟩ := hown k3
          obtain ⟨g1, g2, g3⟩ := hs.fresh i oi b h2 h4
          exact ⟨g1, k2, g3⟩
    · intro b hb hn
      have hlt2 := Nat.lt_of_lt_of_le hb hs.size
      rw [hs'.heap.frame b hlt2 (fun ho => ?_)]
      · exact hs.frame b hb hn
      · obtain ⟨i, oi, h1, h2, _, h4⟩ := hown ho
        rcases (hs.fresh i oi b h2 h4).2.2 with h5 | h5
        · omega
        · exact hn h5
    · intro j o hj
      obtain ⟨k1, k2⟩ := hs.fixed j o hj
      refine ⟨by rw [outHeap_length]; omega, fun b hb => ?_⟩
      obtain ⟨k3, k4⟩ := k2 b hb
      have hoj : h[j]? = some h[j] := by simp [k1]
      rcases hmoves j (hs.obj j _ hoj).live with e | ⟨e, _⟩
      · rw [e]; exact ⟨k3, k4⟩
      · rw [k4] at e; cases e
  refine ⟨outβ β β' ρ h, hmoves, hkeep, hNold, hHS, ?_⟩
  refine all2_of (by have := hs'.size; simpa using this) fun i v u hv hu => ?_
  simp only [List.getElem?_map, Option.map_eq_some_iff] at hv
  obtain ⟨v0, hv0, rfl⟩ := hv
  have hr := hs'.reg i v0 hv0
  have e : (us.toArray).getD i undef = u := by
    rw [Array.getD_eq_getD_getElem?]
    simp [hu]
  simp only [e] at hr
  exact hr.back (f := outF ρ h.length) (v := outU ρ h) hpl hNnew

theorem peM_ok (hM : Meets P f si so F) : (peM si so F).OK P f := by
  refine ⟨hM.1, fun vs h y hr C β w xs hP hs ha => ?_, fun h => (by cases h), fun h => (by cases h)⟩
  subst hP
  simp only [peM] at hr
  split at hr
  case h_2 => cases hr
  rename_i x hx
  simp only [Option.some.injEq, Prod.mk.injEq] at hr
  obtain ⟨hok, hF⟩ := hr
  obtain ⟨hnd, hlt, hlen, hwr, hkinds⟩ := callOK_spec hok
  have hsim := dec_sim hx (in_sim hs ha hnd hlt)
  refine (hM.2 x y hF (inC C β h w _ hs) _ w xs rfl (by simp [inC, hlen]) hsim).mono ?_
  rintro e w' ⟨us, β', rfl, hs'⟩
  obtain ⟨β2, h1, h2, h3, h4, h5⟩ := back_sim hs hnd hlt hwr hkinds hs'
  exact ⟨_, _, β2, ⟨rfl, rfl⟩, h1, h2, h3, h4, _, rfl, outV_rel h5⟩

/-- **A function that is handed boxes and rows, and may give up with a value of one type.** -/
def MeetsP (P : Program) (f : FuncId) (si so : Sh) (tp : TypeId) (sp : Sh) (F : si.X → Option (Sum so.X sp.X)) : Prop :=
  hasBody P f = true ∧ ∀ x y, F x = some y → ∀ (C : Ctx) (β : Nat → Pl) (w : World) (xs : List Value), C.P = P → C.fix.length ≤ si.os.length → Sim C β (si.enc x) { tmps := xs.toArray, defers := [] } w →
    Calls P f xs.toArray w fun e w' => (∃ (z : so.X) (us : List Value) (β' : Nat → Pl), y = .inl z ∧ e = .returned (retVal us) ∧ Sim C β' (so.enc z) { tmps := us.toArray, defers := [] } w') ∨
      ∃ (z : sp.X) (u : Value) (β' : Nat → Pl), y = .inr z ∧ e = .panicked [{ v := .iface tp u, recovered := false }] ∧ Sim C β' (sp.enc z) { tmps := #[u], defers := [] } w'

def panV (vs : List V) : V :=
  match vs with
  | [v] => v
  | _ => .poison

def ob2 {α γ ρ : Type} (o : Option (Sum α γ)) (k : α → Option ρ) (k' : γ → Option ρ) : Option ρ :=
  match o with
  | some (.inl x) => k x
  | some (.inr x) => k' x
  | none => none

/-- A call of such a function. -/
def genP {ρ : Type} (si so : Sh) (tp : TypeId) (sp : Sh) (F : si.X → Option (Sum so.X sp.X)) (vs : List V) (h : List Ob) (k : Out → List Ob → Option ρ) : Option ρ :=
  match si.dec ⟨vs.map (V.ren (reach vs h) h), inH (reach vs h) h⟩ with
  | some x => chk (callOK (reach vs h) h si so && kindsOK (inH (reach vs h) h) sp.os) (ob2 (F x)
      (fun y => k (.ret (outV ((so.enc y).r.map (V.back (outF (reach vs h) h.length) (outU (reach vs h) h))))) (outHeap (reach vs h) h (so.enc y).h))
      (fun z => k (.pan tp (panV ((sp.enc z).r.map (V.back (outF (reach vs h) h.length) (outU (reach vs h) h))))) (outHeap (reach vs h) h (sp.enc z).h)))
  | none => none

theorem genP_ok {ρ : Type} {tp : TypeId} {sp : Sh} {F : si.X → Option (Sum so.X sp.X)} (hM : MeetsP P f si so tp sp F) {vs : List V} {h : List Ob} {k : Out → List Ob → Option ρ} {r : ρ} (hr : genP si so tp sp F vs h k = some r) :
    hasBody P f = true ∧ CallK P f vs h fun out h' => k out h' = some r := by
  refine ⟨hM.1, fun C β w xs hP hs ha => ?_⟩
  subst hP
  unfold genP at hr
  split at hr
  case h_2 => cases hr
  rename_i x hx
  obtain ⟨hok, hF⟩ := chk_some hr
  simp only [Bool.and_eq_true] at hok
  obtain ⟨hnd, hlt, hlen, hwr, hkinds⟩ := callOK_spec hok.1
  have hsim := dec_sim hx (in_sim hs ha hnd hlt)
  cases hy : F x with
  | none => rw [hy] at hF; cases hF
  | some y =>
    rw [hy] at hF
    refine (hM.2 x y hy (inC C β h w _ hs) _ w xs rfl (by simp [inC, hlen]) hsim).mono ?_
    rintro e w' (⟨z, us, β', rfl, rfl, hs'⟩ | ⟨z, u, β', rfl, rfl, hs'⟩)
    · obtain ⟨β2, h1, h2, h3, h4, h5⟩ := back_sim hs hnd hlt hwr hkinds hs'
      exact ⟨_, _, β2, hF, h1, h2, h3, h4, _, rfl, outV_rel h5⟩
    · obtain ⟨β2, h1, h2, h3, h4, h5⟩ := back_sim (us := [u]) hs hnd hlt hwr hok.2 hs'
      refine ⟨_, _, β2, hF, h1, h2, h3, h4, u, rfl, ?_⟩
      cases hv : (sp.enc z).r.map (V.back (outF (reach vs h) h.length) (outU (reach vs h) h)) with
      | nil => rw [hv] at h5; exact h5.elim
      | cons v l =>
        rw [hv] at h5
        cases l with
        | nil => exact h5.1
        | cons v2 l => exact h5.2.elim
end
end Go.Dec

namespace Go.Dec

section
variable {T : Tab} {C : Ctx} {β : Nat → Pl} {w : World}

/-- A result, as it stands. -/
def resV (T : Tab) (σ : St) : ResultVar → Option (Bool × V)
  | .tmp t => some (true, σ.r.getD t .poison)
  | .cell t ty =>
    match σ.r.getD t .poison with
    | .one l => loadAt T σ.h ty l
    | _ => none

def resVs (T : Tab) (σ : St) : List ResultVar → Option (Bool × List V)
  | [] => some (true, [])
  | x :: r =>
    match resV T σ x, resVs T σ r with
    | some (c, l), some (d, ls) => some (c && d, l :: ls)
    | _, _ => none

theorem resV_run {σ : St} {a : Act} {rv : ResultVar} {v : V} (hT : TabOK C.P T) (hs : Sim C β σ a w) (h : resV T σ rv = some (true, v)) :
    ∃ x, (rvRun a.tmps rv).run C.P w = .ok x w ∧ v.Rel β w (C.N β σ.h) x := by
  cases rv with
  | tmp t =>
    simp only [resV, Option.some.injEq, Prod.mk.injEq, true_and] at h
    subst h
    exact ⟨a.tmps.getD t undef, rfl, getD_rel hs t⟩
  | cell t ty =>
    simp only [resV] at h
    have hr := getD_rel hs t
    split at h
    · rename_i l hl
      rw [hl] at hr
      obtain ⟨y, h1, h2⟩ := loadAt_run hT h hs.heap hr
      obtain ⟨ad, h3, h4⟩ := sureAddr_ok h1
      refine ⟨y, ?_, h2⟩
      simp only [rvRun, h3, asAddr, Sem.run_bind, Sem.run_pure, Result.andThen_ok, h4]
    · cases h

theorem resVs_run {σ : St} {a : Act} (hT : TabOK C.P T) (hs : Sim C β σ a w) : ∀ {rs : List ResultVar} {vs : List V}, resVs T σ rs = some (true, vs) →
    ∀ acc : Array Value, ∃ us : List Value, (rs.foldlM (fun (acc : Array Value) rv => do let v ← rvRun a.tmps rv; pure (acc.push v)) acc).run C.P w = .ok (acc ++ us.toArray) w ∧ All2 (fun v u => V.Rel β w (C.N β σ.h) v u) vs us
  | [], vs, h, acc => by
    simp only [resVs, Option.some.injEq, Prod.mk.injEq, true_and] at h
    subst h
    exact ⟨[], by simp, trivial⟩
  | rv :: rs, vs, h, acc => by
    simp only [resVs] at h
    split at h
    · rename_i c s d r h1 h2
      simp only [Option.some.injEq, Prod.mk.injEq, Bool.and_eq_true] at h
      obtain ⟨⟨rfl, rfl⟩, rfl⟩ := h
      obtain ⟨x, g1, g2⟩ := resV_run hT hs h1
      obtain ⟨us, g4, g5⟩ := resVs_run hT hs h2 (acc.push x)
      refine ⟨x :: us, ?_, ⟨g2, g5⟩⟩
      simp only [List.foldlM_cons, Sem.run_bind, g1, Result.andThen_ok, Sem.run_pure, g4]
      simp
    · cases h

theorem resultsM_run {σ : St} {a : Act} {fn : Func} {vs : List V} (hT : TabOK C.P T) (hs : Sim C β σ a w) (h : resVs T σ fn.results.toList = some (true, vs)) :
    ∃ us : List Value, (results fn a.tmps).run C.P w = .ok (retVal us) w ∧ All2 (fun v u => V.Rel β w (C.N β σ.h) v u) vs us := by
  obtain ⟨us, h1, h2⟩ := resVs_run hT hs h #[]
  refine ⟨us, ?_, h2⟩
  have e0 : results fn a.tmps = (do let vs ← fn.results.mapM (rvRun a.tmps); pure (if h : vs.size = 1 then vs[0] else .tuple vs)) := by
    unfold results
    congr 1
  have hm : (fn.results.mapM (rvRun a.tmps) : Sem (Array Value)).run C.P w = .ok us.toArray w := by
    rw [Array.mapM_eq_foldlM, ← Array.foldlM_toList]
    have e : (fun (acc : Array Value) rv => do let v ← rvRun a.tmps rv; pure (acc.push v) : Array Value → ResultVar → Sem (Array Value)) = (fun (acc : Array Value) rv => acc.push <$> rvRun a.tmps rv) := by
      funext acc rv
      rfl
    rw [e] at h1
    simpa using h1
  rw [e0]
  simp only [Sem.run_bind, hm, Result.andThen_ok, Sem.run_pure]
  match us with
  | [] => rfl
  | [u] => rfl
  | u :: v :: us => simp [retVal]

/-- Slots that hold just these. -/
theorem sim_vals {σ : St} {a : Act} {vs : List V} {us : List Value} (hs : Sim C β σ a w) (h : All2 (fun v u => V.Rel β w (C.N β σ.h) v u) vs us) : Sim C β ⟨vs, σ.h⟩ { tmps := us.toArray, defers := [] } w := by
  refine ⟨hs.heap, rfl, by simpa using h.length, fun i v hv => ?_⟩
  have hl : i < us.length := by rw [← h.length]; exact (List.getElem?_eq_some_iff.1 hv).1
  have hr := h.get i (List.getElem?_eq_some_iff.1 hv).1 hl
  rw [(List.getElem?_eq_some_iff.1 hv).2] at hr
  have e2 : (us.toArray).getD i undef = us[i] := by simp [hl]
  simp only [e2]
  exact hr

def retM (T : Tab) {ρ : Type} (res : List ResultVar) (so : Sh) (co : List Co) (σ : St) (g : so.X → Option ρ) : Option ρ :=
  match resVs T σ res with
  | some (c, vs) => chk c (enter T so co ⟨vs, σ.h⟩ g)
  | none => none

def finM (T : Tab) (res : List ResultVar) (so : Sh) (co : List Co) : K so.X := fun e σ =>
  match e with
  | .normal => retM T res so co σ some
  | .ret => retM T res so co σ some
  | _ => none

/-- Behind a body that may give up. -/
def finP (T : Tab) (res : List ResultVar) (so : Sh) (co : List Co) (tp : TypeId) (sp : Sh) (cp : List Co) : K (Sum so.X sp.X) := fun e σ =>
  match e with
  | .normal => retM T res so co σ fun y => some (.inl y)
  | .ret => retM T res so co σ fun y => some (.inl y)
  | .pan t v => match Nat.beq t tp with
    | true => enter T sp cp ⟨[v], σ.h⟩ fun z => some (.inr z)
    | false => none
  | _ => none

theorem retM_sim {σ : St} {a : Act} {fn : Func} {so : Sh} {co : List Co} {ρ : Type} {g : so.X → Option ρ} {r : ρ} {kf : Nat} (hT : TabOK C.P T) (hkf : C.fix.length ≤ kf) (hfx : allB (Co.fx kf) co = true) (hs : Sim C β σ a w) (h : retM T fn.results.toList so co σ g = some r) :
    ∃ (us : List Value) (β' : Nat → Pl) (y : so.X), (results fn a.tmps).run C.P w = .ok (retVal us) w ∧ Sim C β' (so.enc y) { tmps := us.toArray, defers := [] } w ∧ g y = some r := by
  unfold retM at h
  split at h
  · rename_i c vs hvs
    obtain ⟨rfl, h⟩ := chk_some h
    obtain ⟨us, h1, h2⟩ := resultsM_run hT hs hvs
    obtain ⟨β', _, y, h3, h4⟩ := enter_sim hT hkf hfx h (sim_vals hs h2)
    exact ⟨us, β', y, h1, h3, h4⟩
  · cases h
end

section
variable {P : Program} {T : Tab} {f : FuncId} {fn : Func} {c : Code} {si so sp : Sh}

theorem start_sim {C : Ctx} {β : Nat → Pl} {w : World} {σ : St} {xs : List Value} (n : Nat) (hs : Sim C β σ { tmps := xs.toArray, defers := [] } w) :
    Sim C β ⟨regs0 σ.r n, σ.h⟩ { tmps := xs.toArray ++ Array.replicate (n - xs.toArray.size) undef, defers := [] } w := by
  have hl : σ.r.length = xs.length := by simpa using hs.size
  refine ⟨hs.heap, rfl, by simp [regs0, hl], fun i u hu => ?_⟩
  simp only [regs0] at hu
  by_cases hi : i < σ.r.length
  · rw [List.getElem?_append_left hi] at hu
    have hr := hs.reg i u hu
    have e : (xs.toArray ++ Array.replicate (n - xs.toArray.size) undef).getD i undef = (xs.toArray).getD i undef := by
      rw [Array.getD_eq_getD_getElem?, Array.getD_eq_getD_getElem?, Array.getElem?_append_left (by simpa using by omega)]
    rw [e]
    exact hr
  · rw [List.getElem?_append_right (by omega), List.getElem?_replicate] at hu
    split at hu
    · simp only [Option.some.injEq] at hu; subst hu; trivial
    · cases hu

/-- **A function that is handed boxes and rows, by a run of its body.** -/
theorem meets_of {F : si.X → Option so.X} {Γ : Orc so.X} {an : An so.X} {co : List Co} (hf : P.funcs[f]? = some fn) (hb : fn.body = some c) (hh : hasBody P f = true) (hT : TabOK P T) (hΓ : OrcOK P Γ) (hm : P.follows .mixedOrders = true)
    (ha : AnOK P si.os.length c an) (hfx : an.fx si.os.length = true) (hco : allB (Co.fx si.os.length) co = true)
    (h : ∀ x, ev Γ T c an ⟨regs0 (si.enc x).r fn.ntmps, (si.enc x).h⟩ (finM T fn.results.toList so co) = F x) : Meets P f si so F := by
  refine ⟨hh, fun x y hF C β w xs hP hkf hs => ?_⟩
  rw [← h x] at hF
  refine calls_of_wp hf hb ?_
  refine ev_sound (P := P) hT hΓ hm c an ha hfx _ _ y hF C β _ w _ hP hkf (start_sim fn.ntmps hs) ?_
  intro e x' σ' β' a' w' hs' hx' hk
  have fin : retM T fn.results.toList so co σ' some = some y → x' = .ret ∨ x' = .normal → bodyPost P fn (fun e w' => ∃ (us : List Value) (β' : Nat → Pl), e = .returned (retVal us) ∧ Sim C β' (so.enc y) { tmps := us.toArray, defers := [] } w') x' a' w' := by
    intro hk hx'
    subst hP
    obtain ⟨us, β2, y', h1, h2, h3⟩ := retM_sim (fn := fn) hT hkf hco hs' hk
    obtain rfl := Option.some.inj h3
    rcases hx' with rfl | rfl
    · exact ⟨hs'.defers, _, h1, us, β2, rfl, h2⟩
    · exact ⟨hs'.defers, _, h1, us, β2, rfl, h2⟩
  cases e with
  | normal => obtain rfl := hx'; exact fin hk (.inr rfl)
  | ret => obtain rfl := hx'; exact fin hk (.inl rfl)
  | exit i => simp [finM] at hk
  | goto l => simp [finM] at hk
  | pan t u => simp [finM] at hk

/-- **The same, of one that may give up.** -/
theorem meetsP_of {tp : TypeId} {F : si.X → Option (Sum so.X sp.X)} {Γ : Orc (Sum so.X sp.X)} {an : An (Sum so.X sp.X)} {co cp : List Co} (hf : P.funcs[f]? = some fn) (hb : fn.body = some c) (hh : hasBody P f = true) (hT : TabOK P T) (hΓ : OrcOK P Γ) (hm : P.follows .mixedOrders = true)
    (ha : AnOK P si.os.length c an) (hfx : an.fx si.os.length = true) (hco : allB (Co.fx si.os.length) co = true) (hcp : allB (Co.fx si.os.length) cp = true)
    (h : ∀ x, ev Γ T c an ⟨regs0 (si.enc x).r fn.ntmps, (si.enc x).h⟩ (finP T fn.results.toList so co tp sp cp) = F x) : MeetsP P f si so tp sp F := by
  refine ⟨hh, fun x y hF C β w xs hP hkf hs => ?_⟩
  rw [← h x] at hF
  refine calls_of_wp hf hb ?_
  refine ev_sound (P := P) hT hΓ hm c an ha hfx _ _ y hF C β _ w _ hP hkf (start_sim fn.ntmps hs) ?_
  intro e x' σ' β' a' w' hs' hx' hk
  subst hP
  have fin : (retM T fn.results.toList so co σ' fun y => some (.inl y)) = some y → x' = .ret ∨ x' = .normal → bodyPost C.P fn (fun e w' => (∃ (z : so.X) (us : List Value) (β' : Nat → Pl), y = .inl z ∧ e = .returned (retVal us) ∧ Sim C β' (so.enc z) { tmps := us.toArray, defers := [] } w') ∨
      ∃ (z : sp.X) (u : Value) (β' : Nat → Pl), y = .inr z ∧ e = .panicked [{ v := .iface tp u, recovered := false }] ∧ Sim C β' (sp.enc z) { tmps := #[u], defers := [] } w') x' a' w' := by
    intro hk hx'
    obtain ⟨us, β2, y', h1, h2, h3⟩ := retM_sim (fn := fn) hT hkf hco hs' hk
    obtain rfl := Option.some.inj h3
    rcases hx' with rfl | rfl
    · exact ⟨hs'.defers, _, h1, .inl ⟨y', us, β2, rfl, rfl, h2⟩⟩
    · exact ⟨hs'.defers, _, h1, .inl ⟨y', us, β2, rfl, rfl, h2⟩⟩
  cases e with
  | normal => obtain rfl := hx'; exact fin hk (.inr rfl)
  | ret => obtain rfl := hx'; exact fin hk (.inl rfl)
  | exit i => simp [finP] at hk
  | goto l => simp [finP] at hk
  | pan t u =>
    simp only [finP] at hk
    split at hk
    · rename_i hb
      have := Nat.eq_of_beq_eq_true hb
      subst this
      obtain ⟨x0, rfl, hx0⟩ := hx'
      obtain ⟨β2, _, z, h3, h4⟩ := enter_sim hT hkf hcp hk (sim_vals (vs := [u]) (us := [x0]) hs' ⟨hx0, trivial⟩)
      obtain rfl := Option.some.inj h4
      exact ⟨hs'.defers, .inr ⟨z, x0, β2, rfl, rfl, h3⟩⟩
    · cases hk

theorem meets_none (hh : hasBody P f = true) : Meets P f si so fun _ => none := ⟨hh, fun _ _ h => by cases h⟩
theorem meetsP_none {tp : TypeId} (hh : hasBody P f = true) : MeetsP P f si so tp sp fun _ => none := ⟨hh, fun _ _ h => by cases h⟩

/-- What is known of functions that may give up. -/
structure GE (ρ : Type) where
  f : FuncId
  run : List V → List Ob → (Out → List Ob → Option ρ) → Option ρ

structure GE.OK (P : Program) {ρ : Type} (g : GE ρ) : Prop where
  ok : ∀ vs h k r, g.run vs h k = some r → hasBody P g.f = true ∧ CallK P g.f vs h fun out h' => k out h' = some r

def gens {ρ : Type} : List (GE ρ) → FuncId → List V → List Ob → (Out → List Ob → Option ρ) → Option ρ
  | [], _, _, _, _ => none
  | g :: r, f, vs, h, k => match Nat.beq g.f f with
    | true => g.run vs h k
    | false => gens r f vs h k

def orcG (ρ : Type) (l : List (FuncId × PE)) (m : List (GE ρ)) : Orc ρ := ⟨pes l, gens m⟩

theorem orcG_ok {ρ : Type} {l : List (FuncId × PE)} {m : List (GE ρ)} (h : ∀ p ∈ l, p.2.OK P p.1) (hm : ∀ g ∈ m, g.OK P) : OrcOK P (orcG ρ l m) := by
  refine ⟨(orc_ok (ρ := ρ) h).pure, fun f vs hp k r hr => ?_⟩
  simp only [orcG] at hr
  induction m with
  | nil => cases hr
  | cons g m ih =>
    simp only [gens] at hr
    split at hr
    · rename_i hb
      have := Nat.eq_of_beq_eq_true hb
      subst this
      exact (hm g (.head _)).ok vs hp k r hr
    · exact ih (fun g hg => hm g (.tail _ hg)) hr

def geP {ρ : Type} (f : FuncId) (si so : Sh) (tp : TypeId) (sp : Sh) (F : si.X → Option (Sum so.X sp.X)) : GE ρ := ⟨f, genP si so tp sp F⟩
theorem geP_ok {ρ : Type} {tp : TypeId} {F : si.X → Option (Sum so.X sp.X)} (h : MeetsP P f si so tp sp F) : (geP (ρ := ρ) f si so tp sp F).OK P := ⟨fun _ _ _ _ hr => genP_ok h hr⟩
theorem alg_nil {ρ : Type} : ∀ g ∈ ([] : List (GE ρ)), g.OK P := fun _ h => by cases h
theorem alg_cons {ρ : Type} {g : GE ρ} {m : List (GE ρ)} (h : g.OK P) (hm : ∀ g ∈ m, g.OK P) : ∀ x ∈ g :: m, x.OK P := fun x hx => by
  cases hx with
  | head => exact h
  | tail _ hx => exact hm x hx
end

/-- So many rounds of a function that calls itself. -/
def recN {α ρ : Type} (B : Nat → (α → Option ρ) → α → Option ρ) : Nat → α → Option ρ
  | 0, _ => none
  | n + 1, x => B n (recN B n) x

theorem pure_no {P : Program} {f : FuncId} {as rs : List Ty} (hh : hasBody P f = true) : Pure P f as rs (fun _ => none) := ⟨hh, fun _ _ h => by cases h⟩
theorem meets_no {P : Program} {f : FuncId} {si so : Sh} (hh : hasBody P f = true) : Meets P f si so (fun _ => none) := ⟨hh, fun _ _ h => by cases h⟩

theorem rec_pure {P : Program} {f : FuncId} {as rs : List Ty} {B : Nat → (Dens as → Option (Dens rs)) → Dens as → Option (Dens rs)} (hh : hasBody P f = true) (h : ∀ n r, Pure P f as rs r → Pure P f as rs (B n r)) : ∀ n, Pure P f as rs (recN B n)
  | 0 => pure_no hh
  | n + 1 => h n _ (rec_pure hh h n)

theorem rec_meets {P : Program} {f : FuncId} {si so : Sh} {B : Nat → (si.X → Option so.X) → si.X → Option so.X} (hh : hasBody P f = true) (h : ∀ n r, Meets P f si so r → Meets P f si so (B n r)) : ∀ n, Meets P f si so (recN B n)
  | 0 => meets_no hh
  | n + 1 => h n _ (rec_meets hh h n)

/-- One that is handed known functions, told as one of data. -/
theorem pure_of_meets {P : Program} {f : FuncId} {as rs : List Ty} {si so : Sh} {F : si.X → Option so.X} {conv : Dens as → Option si.X} {out : so.X → Dens rs} (hm : Meets P f si so F)
    (hin : ∀ x z, conv x = some z → (si.enc z).h = [] ∧ ∀ (β : Nat → Pl) (w : World) (N : Nat → Prop) (us : List Value), ArgsRel β w N (encVs as x) us → ArgsRel β w N (si.enc z).r us)
    (hout : ∀ y, ∃ ss, sumsV (so.enc y).r = some ss ∧ decSs rs ss = some (out y)) :
    Pure P f as rs (fun x => match conv x with | some z => (match F z with | some y => some (out y) | none => none) | none => none) := by
  refine ⟨hm.1, fun x y hF w N xs hG hN hx => ?_⟩
  simp only at hF
  split at hF
  · rename_i z hz
    split at hF
    · rename_i y' hy
      obtain rfl := Option.some.inj hF
      obtain ⟨hh, hr⟩ := hin x z hz
      let C : Ctx := { P := P, N0 := N, w0 := w, own0 := fun _ => False, glob := fun w' h => hG.keep fun b hb => h b hb (fun h => h), fix := [] }
      let β0 : Nat → Pl := fun _ => ⟨false, false, 0, none, 0, 0, 0⟩
      have hargs : ArgsRel β0 w N (si.enc z).r xs := hr β0 w N xs (encVs_rel hx)
      have hsim : Sim C β0 (si.enc z) { tmps := xs.toArray, defers := [] } w := by
        have e : si.enc z = ⟨(si.enc z).r, []⟩ := by rw [← hh]
        rw [e]
        refine ⟨⟨by simp, fun _ _ => rfl, by simp, by simp, hN, fun _ _ _ => rfl, Nat.le_refl _, rfl, rfl, rfl, fun j o hj => by cases hj⟩, rfl, by simpa using hargs.length, ?_⟩
        intro i u hu
        have hi := (List.getElem?_eq_some_iff.1 hu).1
        have hi' : i < xs.length := by rw [← hargs.length]; exact hi
        have hr := hargs.get i hi hi'
        rw [(List.getElem?_eq_some_iff.1 hu).2] at hr
        have : (xs.toArray).getD i undef = xs[i] := by simp [hi']
        rw [this]
        refine hr.mono (Moves.refl β0) (Keep.refl _ w) (fun b _ hb => ?_)
        rcases hb with hb | ⟨id, o, ho, _⟩
        · exact hb
        · simp at ho
      refine (hm.2 z y' hy C β0 w xs rfl (Nat.zero_le _) hsim).mono ?_
      rintro e w' ⟨us, β', rfl, hs'⟩
      obtain ⟨ss, h1, h2⟩ := hout y'
      have hall : All2 (fun v u => V.Rel β' w' (C.N β' (so.enc y').h) v u) (so.enc y').r us := all2_of (by simpa using hs'.size) fun i a b ha hb => by
        have := hs'.reg i a ha
        have hb' : (us.toArray).getD i undef = b := by
          obtain ⟨q1, q2⟩ := List.getElem?_eq_some_iff.1 hb
          simp [q1, q2]
        simp only at this
        rwa [hb'] at this
      have hR := decSs_rel h2 (sumsV_rel h1 hall)
      exact ⟨us, rfl, hs'.heap.os, hs'.heap.tape, hs'.heap.output, ⟨hs'.heap.size, fun b hb _ => hs'.heap.frame b hb (fun h => h)⟩, hR.mono (Keep.refl _ w') fun b _ hb => .inl hb⟩
    · cases hF
  · cases hF
end Go.Dec

namespace Go.Dec
open Go.RowKit

theorem wpListIn_append_run {F : Fence} {n : Nat} {P : Program} (w : World) {ops : Array Oper} {rest : List Oper} {o : Oper} {a : Act} {Q : Exit → Act → World → Prop}
    (hg : o.guard = none) (s x : Operand) (t : TypeId) (hop : o.op = Op.call { callee := Callee.builtin Builtin.append, args := #[s, x], argTypes := #[t, t] }) {v' : Value} {w' : World} {u y : Value} (hs : a.eval s = u) (hx : a.eval x = y)
    (hrun : (Builtin.append_ #[t, t] o.type #[u, y]).run P w = .ok v' w') (hK : wpListIn F n P ops Q rest (a.put o.dst v') w') : wpListIn F n P ops Q (o :: rest) a w := by
  refine wpListIn_plain hg fun K hK' => ?_
  unfold Oper.wpIn
  refine ⟨?_, ?_⟩
  · simp [Oper.about, hop, resolve, Target.leads, Sem.run_pure]
  · rw [Oper.semAt_plain F _ _ (by rw [hop]; intro c hc'; cases hc')]
    simp [execOp, hop, resolve, invoke, builtin, hs, hx, hrun, Result.andThen]
    exact hK' _ _ hK

/-- The code of slices.Clone: 't' the slice's type, 'tb' bool's, and where the lines lie. -/
def cloneBody (t tb : TypeId) (p0 p1 p2 p3 p4 p5 p6 p7 : String) : Code :=
  .seq (.region 0 #[{ dst := some 2, op := .assign (.const (.slice none 0 0)), type := t, pos := p0, after := #[], guard := none }] false)
  (.seq (.seq (.region 1 #[{ dst := some 3, op := .move (.tmp 0), type := t, pos := p1, after := #[], guard := none },
      { dst := some 4, op := .binOp .eql t (.tmp 3) (.const (.slice none 0 0)) t, type := tb, pos := p2, after := #[{ on := 0, ground := .data }], guard := none }] false)
    (.cond (.tmp 4) (.seq (.region 2 #[{ dst := some 2, op := .assign (.const (.slice none 0 0)), type := t, pos := p3, after := #[], guard := none }] false) .ret) .skip))
  (.seq (.region 3 #[{ dst := some 5, op := .buildSlice t 0 #[], type := t, pos := p4, after := #[], guard := none },
      { dst := some 6, op := .move (.tmp 0), type := t, pos := p5, after := #[], guard := none },
      { dst := some 7, op := .call { callee := .builtin .append, args := #[.tmp 5, .tmp 6], argTypes := #[t, t] }, type := t, pos := p6, after := #[{ on := 0, ground := .data }, { on := 1, ground := .data }], guard := none },
      { dst := some 2, op := .assign (.tmp 7), type := t, pos := p7, after := #[{ on := 2, ground := .data }, { on := 2, ground := .chain }, { on := 0, ground := .phase }, { on := 1, ground := .phase }, { on := 2, ground := .phase }], guard := none }] false) .ret))

section
variable {P : Program} {f : FuncId} {fn : Func} {t tb e : TypeId} {p0 p1 p2 p3 p4 p5 p6 p7 : String}

set_option maxHeartbeats 1000000 in
set_option maxRecDepth 100000 in
theorem clone_nil (hf : P.funcs[f]? = some fn) (hb : fn.body = some (cloneBody t tb p0 p1 p2 p3 p4 p5 p6 p7)) (hn : fn.ntmps = 8) (hr : fn.results = #[.tmp 2]) (hu : P.underlying t = some (.slice e)) (w : World) :
    Calls P f #[.slice none 0 0] w fun e w' => e = .returned (.slice none 0 0) ∧ w' = w := by
  have u1 := run_underlying hu
  refine (callsIn_wide (n := 1)).1 ?_
  refine callsIn_of_wp hf hb trivial ?_ rfl
  unfold cloneBody
  simp only [hn, List.size_toArray, List.length_cons, List.length_nil, Nat.reduceAdd, Nat.reduceSub, Array.replicate_succ, Array.replicate_zero, List.push_toArray, List.append_toArray, List.nil_append, List.cons_append]
  gi_wp2
  rw [Lib.run_eql_slice_nil w t e none 0 0 0 0 hu]
  gi_wp2
  refine bodyPost_ret (results_tmp hr _ _ _) rfl ?_
  exact ⟨rfl, rfl⟩

set_option maxHeartbeats 1000000 in
set_option maxRecDepth 100000 in
theorem clone_some (hf : P.funcs[f]? = some fn) (hb : fn.body = some (cloneBody t tb p0 p1 p2 p3 p4 p5 p6 p7)) (hn : fn.ntmps = 8) (hr : fn.results = #[.tmp 2]) (hu : P.underlying t = some (.slice e)) (w : World) (ad : Addr) (k c : Nat) {v' : Value} {w' : World}
    {sz : Nat} (hz : ∀ w, (Go.sizeOf e).run P w = .ok sz w)
    (hrun : (Builtin.append_ #[t, t] t #[.slice (some ⟨w.heap.size, 0, none⟩) 0 0, .slice (some ad) k c]).run P (w.alloc (.cells #[] e)) = .ok v' w') :
    Calls P f #[.slice (some ad) k c] w fun e W => e = .returned v' ∧ W = w' := by
  have u1 := run_underlying hu
  refine (callsIn_wide (n := 1)).1 ?_
  refine callsIn_of_wp hf hb trivial ?_ rfl
  unfold cloneBody
  simp only [hn, List.size_toArray, List.length_cons, List.length_nil, Nat.reduceAdd, Nat.reduceSub, Array.replicate_succ, Array.replicate_zero, List.push_toArray, List.append_toArray, List.nil_append, List.cons_append]
  gi_wp2
  rw [Lib.run_eql_slice_nil w t e (some ad) k c 0 0 hu]
  gi_wp2_with (gi_at_builtin; refine wpListIn_append_run _ rfl _ _ t rfl rfl rfl hrun ?_)
  refine bodyPost_ret (results_tmp hr _ _ _) rfl ?_
  exact ⟨rfl, rfl⟩

abbrev cloneI (te : Ty) : Sh := ⟨1, [⟨0, false, [.v (.slice te)]⟩], []⟩
abbrev cloneO (e : TypeId) (te : Ty) : Sh := ⟨1, [⟨0, false, [.own 0]⟩], [.row e te]⟩
/-- What slices.Clone comes to: the same, in a row of its own. -/
def cloneG {α : Type} (bytes : Nat) (x : List α × Unit) : Option (List α × Unit) := chk (Nat.ble (x.1.length * bytes) room) (some x)

theorem clone_meets {T : Tab} {te : Ty} {ts ti : TI} (hf : P.funcs[f]? = some fn) (hb : fn.body = some (cloneBody t tb p0 p1 p2 p3 p4 p5 p6 p7)) (hn : fn.ntmps = 8) (hr : fn.results = #[.tmp 2]) (hu : P.underlying t = some (.slice e)) (hh : hasBody P f = true)
    (hT : TabOK P T) (hts : T.get t = some ts) (hk : ts.k = .slice e) (hti : T.get e = some ti) (hsz : ti.size = te.size) (hpos : 0 < te.size) (hby : 0 < ti.bytes)
    (hen : ∀ rows : List te.den, enter T (cloneO e te) [.gc [0]] ⟨[.one (.own 0 1)], [.arr e te 1 rows true]⟩ (fun y => some y) = some (rows, ())) :
    Meets P f (cloneI te) (cloneO e te) (cloneG (α := te.den) ti.bytes) := by
  refine ⟨hh, fun x y hF C β w xs hP hkf hs => ?_⟩
  obtain ⟨hroom, hy⟩ := chk_some hF
  obtain rfl := Option.some.inj hy
  obtain ⟨rows, x0⟩ := x
  have hroom := Nat.le_of_ble_eq_true hroom
  simp only at hroom
  have hE : (cloneI te).enc (rows, x0) = ⟨[.one (.val (.slice te) rows)], []⟩ := rfl
  have hE2 : (cloneO e te).enc (rows, x0) = ⟨[.one (.own 0 0)], [.arr e te 0 rows true]⟩ := rfl
  rw [hE] at hs
  subst hP
  have hrg := hs.reg 0 _ rfl
  have hsize := hs.size
  obtain ⟨u, rfl⟩ : ∃ u, xs = [u] := List.length_eq_one_iff.1 (by simpa using hsize.symm)
  have hlie : LieAt w (C.N β []) te rows u := rowsOf_rel (h := []) (te := te) (x := .val (.slice te) rows) (ys := rows) hs.heap (by simp [rowsOf]) hrg
  have one : ∀ {β' : Nat → Pl} {W : World} {v : Value} {k : Nat}, HSim C β' [.arr e te k rows true] W → (L.own 0 k).Rel β' W (C.N β' [.arr e te k rows true]) [v] → Sim C β' ⟨[.one (.own 0 k)], [.arr e te k rows true]⟩ { tmps := #[v], defers := [] } W := fun h1 h2 => ⟨h1, rfl, rfl, fun i q hq => by
    match i, hq with
    | 0, hq => obtain rfl := Option.some.inj hq; exact h2
    | i + 1, hq => simp at hq⟩
  rw [hE2]
  have fin : ∀ (ad : Addr) (k c : Nat), u = .slice (some ad) k c → Calls C.P f #[u] w fun e' w' => ∃ us β', e' = Ending.returned (retVal us) ∧ Sim C β' ⟨[.one (.own 0 0)], [.arr e te 0 rows true]⟩ { tmps := us.toArray, defers := [] } w' := by
    rintro ad k c rfl
    obtain ⟨β1, m1, s1, r1⟩ := newArr (e := e) (t := te) (rows := []) (css := []) (cs := #[]) hs hpos trivial rfl (Nat.zero_le _)
    simp only [List.nil_append, List.length_nil] at s1 r1
    have hob := s1.heap.obj 0 _ rfl
    simp only [Ob.Rel] at hob
    obtain ⟨q1, q2, q3, q4, q5, q6, _⟩ := hob
    simp only [L.Rel] at r1
    obtain ⟨_, _, _, c1, hc1, _, himp⟩ := r1
    have hso := himp q3
    simp only [List.cons.injEq, and_true] at hc1
    subst hc1
    rw [q6] at hso
    have hlie' : LieAt (w.alloc (.cells #[] e)) (C.N β1 [.arr e te 0 [] true]) te rows (.slice (some ad) k c) := rowsOf_rel (te := te) (x := .val (.slice te) rows) (ys := rows) s1.heap (by simp [rowsOf]) (s1.reg 0 _ rfl)
    obtain ⟨v', w', β2, g1, g2, g3, g4, g5⟩ := appendOwn_run (te := te) (ys := rows) (n := 0) t hT hts hk hti hsz hby (by simpa using hroom) s1 rfl (Nat.le_refl _) hso hlie'
    refine (clone_some hf hb hn hr hu w ad k c (sz := te.size) (fun w => by rw [← hsz]; exact (hT _ _ hti).sizeOf) g1).mono ?_
    rintro e' W ⟨rfl, rfl⟩
    obtain ⟨β3, _, x3, s4, hx⟩ := enter_sim (sh := cloneO e te) (co := [.gc [0]]) (g := fun y => some y) (r := (rows, x0)) hT hkf rfl (hen rows) (one g3.heap g4)
    obtain rfl := Option.some.inj hx
    exact ⟨[_], β3, rfl, s4⟩
  rcases hlie with ⟨rfl, rfl⟩ | ⟨b, off, cap, css, rfl, hle, hall, hcs⟩ | ⟨ad, cap, rfl, rfl⟩
  · refine (clone_nil hf hb hn hr hu w).mono ?_
    rintro e' w' ⟨rfl, rfl⟩
    obtain ⟨β', h1, h2, h3⟩ := newArrNil (e := e) (t := te) hs hpos
    exact ⟨[_], β', rfl, one h2.heap h3⟩
  · exact fin _ _ _ rfl
  · exact fin _ _ _ rfl
end
end Go.Dec
