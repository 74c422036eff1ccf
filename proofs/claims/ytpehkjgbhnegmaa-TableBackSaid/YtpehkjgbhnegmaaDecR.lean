/- The part R: a whole function's call. No statement is proved here. -/
import Derived.Test.YtpehkjgbhnegmaaDecQ
namespace Go.Dec

section
variable {T : Tab} {C : Ctx} {β β' : Nat → Pl} {w : World}

theorem L.isD_rel {N N' : Nat → Prop} (hN : ∀ b, b < w.heap.size → N' b → N b) : ∀ {l : L} {cs : List Value}, l.isD = true → l.Rel β w N cs → l.Rel β' w N' cs
  | .val t x, cs, _, h => by simp only [L.Rel] at *; exact h.mono (Keep.refl _ w) hN
  | .nilp, cs, _, h => by simp only [L.Rel] at *; exact h
  | .nils, cs, _, h => by simp only [L.Rel] at *; exact h
  | .rptr t x off, cs, _, h => by simp only [L.Rel] at *; obtain ⟨c, hc, hr⟩ := h; exact ⟨c, hc, hr.mono (Keep.refl _ w) hN⟩
  | .clo f [], cs, _, h => by simp only [L.Rel, L.Rels1] at *; exact h
  | .clo f (_ :: _), _, hd, _ => by simp [L.isD] at hd
  | .ptr .., _, hd, _ => by simp [L.isD] at hd
  | .aptr .., _, hd, _ => by simp [L.isD] at hd
  | .eptr .., _, hd, _ => by simp [L.isD] at hd
  | .sl .., _, hd, _ => by simp [L.isD] at hd
  | .own .., _, hd, _ => by simp [L.isD] at hd
  | .bad _, _, hd, _ => by simp [L.isD] at hd
  | .ornil .., _, hd, _ => by simp [L.isD] at hd

theorem LsRel.isD {N N' : Nat → Prop} (hN : ∀ b, b < w.heap.size → N' b → N b) : ∀ {ls : List L} {cs : List Value}, allB L.isD ls = true → LsRel β w N ls cs → LsRel β' w N' ls cs
  | [], _, _, h => h
  | l :: ls, _, hd, ⟨c1, c2, e, h1, h2⟩ => by
    simp only [allB, Bool.and_eq_true] at hd
    exact ⟨c1, c2, e, L.isD_rel hN hd.1 h1, LsRel.isD hN hd.2 h2⟩

theorem sum_isD {N N' : Nat → Prop} (hN : ∀ b, b < w.heap.size → N' b → N b) : ∀ {vs : List (Sum L (List L))} {us : List Value}, allB sumD vs = true → All2 (V1Rel β w N) vs us → All2 (V1Rel β' w N') vs us
  | [], [], _, _ => trivial
  | .inl l :: vs, u :: us, hd, hr => by
    simp only [allB, Bool.and_eq_true] at hd
    exact ⟨L.isD_rel hN hd.1 hr.1, sum_isD hN hd.2 hr.2⟩
  | .inr ls :: vs, u :: us, hd, hr => by
    simp only [allB, Bool.and_eq_true] at hd
    obtain ⟨⟨cs, e, h⟩, h2⟩ := hr
    exact ⟨⟨cs, e, h.isD hN hd.1⟩, sum_isD hN hd.2 h2⟩
  | [], _ :: _, _, h => h.elim
  | .inl _ :: _, [], _, h => h.elim
  | .inr _ :: _, [], _, h => h.elim

theorem V.isD_rel {N N' : Nat → Prop} (hN : ∀ b, b < w.heap.size → N' b → N b) {v : V} {x : Value} (hd : v.isD = true) (h : v.Rel β w N x) : v.Rel β' w N' x := by
  cases v with
  | one l => exact L.isD_rel hN hd h
  | agg ls => obtain ⟨cs, e, hr⟩ := h; exact ⟨cs, e, hr.isD hN hd⟩
  | tup vs =>
    obtain ⟨us, e, hr⟩ := h
    exact ⟨us, e, sum_isD hN hd hr⟩
  | poison => cases hd

/-- An own row, seen as data. -/
theorem own_data {h : List Ob} {e : TypeId} {t : Ty} {ver id off len : Nat} {rows : List t.den} {wr : Bool} {c : Value} {N' : Nat → Prop} (hh : HSim C β h w) (ho : h[id]? = some (.arr e t ver rows wr)) (hsl : SlOwn (β id) off len c) (hle : off + len ≤ rows.length)
    (hN : ∀ b, b < w.heap.size → N' b → C.N0 b) : (Ty.slice t).Rel w N' ((rows.drop off).take len) [c] := by
  have hob := hh.obj _ _ ho
  simp only [Ob.Rel] at hob
  obtain ⟨_, _, hpv, hpz, hpos, hpl, hob⟩ := hob
  simp only [Ty.Rel]
  refine ⟨c, rfl, ?_⟩
  unfold SlOwn at hsl
  rcases hob with ⟨hnb, hr0, _⟩ | ⟨b, cur, css, hb, hheap, hall, htake, hcap, hrc, hm⟩
  · rw [hnb] at hsl
    subst hr0
    exact .inl ⟨hsl.1, by simp⟩
  · rw [hb] at hsl
    obtain ⟨h1, o, rfl, h3⟩ := hsl
    obtain ⟨hf1, hf2, _⟩ := hh.fresh _ _ _ ho hb
    have hlen : ((rows.drop off).take len).length = len := by simp; omega
    have hl := rel_lens hall
    have hcs := (Cells.of_heap hheap).take (rows.length * t.size)
    rw [htake] at hcs
    have hcs2 := (hcs.drop (off * t.size)).take (len * t.size)
    rw [flatten_drop css hl off, flatten_take _ (fun c hc => hl c (List.mem_of_mem_drop hc)) len, Nat.zero_add] at hcs2
    have hN0 : ∀ b, b < w.heap.size → N' b → C.N β h b := fun b hb hn => .inl (hN b hb hn)
    have hall2 : All2 (fun x c => t.Rel w N' x c) ((rows.drop off).take len) ((css.drop off).take len) := ((hall.drop off).take len).mono fun _ _ h => h.mono (Keep.refl _ w) hN0
    refine .inr (.inl ⟨b, o, _, (css.drop off).take len, by rw [hlen], hf2, fun hn => hf1 (hN b hf2 hn), by omega, by omega, hall2, fun c hc => hl c (List.mem_of_mem_drop (List.mem_of_mem_take hc)), ?_⟩)
    rcases h3 with h3 | ⟨h3, _⟩
    · rw [h3, hpz]; exact hcs2
    · have hl0 : len = 0 := by omega
      subst hl0
      simpa using Cells.nil

theorem L.deep_rel {h : List Ob} {l l' : L} {cs : List Value} {N' : Nat → Prop} (hd : l.deep h = some (true, l')) (hh : HSim C β h w) (hN : ∀ b, b < w.heap.size → N' b → C.N0 b) (hr : l.Rel β w (C.N β h) cs) : l'.Rel β' w N' cs ∧ l'.isD = true := by
  have hN0 : ∀ b, b < w.heap.size → N' b → C.N β h b := fun b hb hn => .inl (hN b hb hn)
  have plain : l.isD = true → l' = l → l'.Rel β' w N' cs ∧ l'.isD = true := fun h1 h2 => by subst h2; exact ⟨L.isD_rel hN0 h1 hr, h1⟩
  cases l with
  | val t x => simp only [L.deep, Option.some.injEq, Prod.mk.injEq, true_and] at hd; exact plain rfl hd.symm
  | nilp => simp only [L.deep, Option.some.injEq, Prod.mk.injEq, true_and] at hd; exact plain rfl hd.symm
  | nils => simp only [L.deep, Option.some.injEq, Prod.mk.injEq, true_and] at hd; exact plain rfl hd.symm
  | rptr t x off => simp only [L.deep, Option.some.injEq, Prod.mk.injEq, true_and] at hd; exact plain rfl hd.symm
  | clo f cs =>
    cases cs with
    | nil => simp only [L.deep, Option.some.injEq, Prod.mk.injEq, true_and] at hd; exact plain rfl hd.symm
    | cons _ _ => simp [L.deep] at hd
  | own id ver =>
    simp only [L.deep] at hd
    split at hd
    · rename_i e t v rows wr ho
      simp only [Option.some.injEq, Prod.mk.injEq] at hd
      obtain ⟨hv, rfl⟩ := hd
      have hv := Nat.eq_of_beq_eq_true hv
      have hob := hh.obj _ _ ho
      simp only [Ob.Rel] at hob
      obtain ⟨_, _, hpv, _, _, hpl, _⟩ := hob
      simp only [L.Rel] at hr
      obtain ⟨_, _, _, c, rfl, _, himp⟩ := hr
      have hsl := himp (by rw [hpv, hv])
      rw [hpl] at hsl
      have := own_data hh ho hsl (by omega) hN
      rw [List.drop_zero, List.take_length] at this
      exact ⟨by simpa only [L.Rel] using this, rfl⟩
    · cases hd
  | sl id ver off len =>
    simp only [L.deep] at hd
    split at hd
    · rename_i e t v rows wr ho
      simp only [Option.some.injEq, Prod.mk.injEq, Bool.and_eq_true] at hd
      obtain ⟨⟨hv, hle⟩, rfl⟩ := hd
      have hv := Nat.eq_of_beq_eq_true hv
      have hob := hh.obj _ _ ho
      simp only [Ob.Rel] at hob
      obtain ⟨_, _, hpv, _, _, hpl, _⟩ := hob
      simp only [L.Rel] at hr
      obtain ⟨_, _, _, c, rfl, _, himp⟩ := hr
      exact ⟨by simpa only [L.Rel] using own_data hh ho (himp (by rw [hpv, hv])) (Nat.le_of_ble_eq_true hle) hN, rfl⟩
    · cases hd
  | _ => simp [L.deep] at hd

theorem deeps_rel {h : List Ob} {N' : Nat → Prop} (hh : HSim C β h w) (hN : ∀ b, b < w.heap.size → N' b → C.N0 b) : ∀ {ls ls' : List L} {cs : List Value}, deeps h ls = some (true, ls') → LsRel β w (C.N β h) ls cs → LsRel β' w N' ls' cs ∧ allB L.isD ls' = true
  | [], ls', cs, hd, hr => by
    simp only [deeps, Option.some.injEq, Prod.mk.injEq, true_and] at hd
    subst hd
    exact ⟨hr, rfl⟩
  | l :: ls, ls', cs, hd, hr => by
    simp only [deeps] at hd
    split at hd
    · rename_i c x d r h1 h2
      simp only [Option.some.injEq, Prod.mk.injEq, Bool.and_eq_true] at hd
      obtain ⟨⟨rfl, rfl⟩, rfl⟩ := hd
      obtain ⟨c1, c2, e, r1, r2⟩ := hr
      obtain ⟨g1, g2⟩ := L.deep_rel (β' := β') h1 hh hN r1
      obtain ⟨g3, g4⟩ := deeps_rel hh hN h2 r2
      exact ⟨⟨c1, c2, e, g1, g3⟩, by simp only [allB, g2, g4, Bool.and_self]⟩
    · cases hd

theorem V.deep_rel {h : List Ob} {v v' : V} {x : Value} {N' : Nat → Prop} (hd : v.deep h = some (true, v')) (hh : HSim C β h w) (hN : ∀ b, b < w.heap.size → N' b → C.N0 b) (hr : v.Rel β w (C.N β h) x) : v'.Rel β' w N' x ∧ v'.isD = true := by
  cases v with
  | one l =>
    simp only [V.deep] at hd
    split at hd
    · rename_i c y h1
      simp only [Option.some.injEq, Prod.mk.injEq] at hd
      obtain ⟨rfl, rfl⟩ := hd
      exact L.deep_rel h1 hh hN hr
    · cases hd
  | agg ls =>
    simp only [V.deep] at hd
    split at hd
    · rename_i c y h1
      simp only [Option.some.injEq, Prod.mk.injEq] at hd
      obtain ⟨rfl, rfl⟩ := hd
      obtain ⟨cs, e, hr⟩ := hr
      obtain ⟨g1, g2⟩ := deeps_rel (β' := β') hh hN h1 hr
      exact ⟨⟨cs, e, g1⟩, g2⟩
    · cases hd
  | _ => simp [V.deep] at hd

theorem sureAddr_ok {P : Program} {t : TypeId} {x y : Value} (h : (Instr.loadAt t x).run P w = .ok y w) : ∃ a, x = .pointer (some a) ∧ (loadVar t a).run P w = .ok y w := by
  cases x <;> simp only [Instr.loadAt, Instr.sureAddr, Sem.run_bind, run_stuck, Result.andThen, reduceCtorEq] at h
  rename_i a
  cases a with
  | none => simp only [Instr.loadAt, Instr.sureAddr, Sem.run_bind, run_stuck, Result.andThen, reduceCtorEq] at h
  | some a => exact ⟨a, rfl, by simpa only [Instr.loadAt, Instr.sureAddr, Sem.run_bind, Sem.run_pure, Result.andThen_ok] using h⟩

def rvRun (tmps : Array Value) : ResultVar → Sem Value
  | .tmp t => pure (tmps.getD t undef)
  | .cell a t => do loadVar t (← asAddr (tmps.getD a undef))

theorem getD_rel {σ : St} {a : Act} (hs : Sim C β σ a w) (t : Nat) : (σ.r.getD t .poison).Rel β w (C.N β σ.h) (a.tmps.getD t undef) := ovl_rel hs (.tmp t)

theorem resL_run {σ : St} {a : Act} {rv : ResultVar} {s : Sum L (List L)} {N' : Nat → Prop} (hT : TabOK C.P T) (hs : Sim C β σ a w) (hN : ∀ b, b < w.heap.size → N' b → C.N0 b) (h : resL T σ rv = some (true, s)) :
    ∃ x, (rvRun a.tmps rv).run C.P w = .ok x w ∧ V1Rel β' w N' s x ∧ sumD s = true := by
  cases rv with
  | tmp t =>
    simp only [resL] at h
    have hr := getD_rel hs t
    refine ⟨a.tmps.getD t undef, rfl, ?_⟩
    split at h
    · rename_i c l hd
      simp only [Option.some.injEq, Prod.mk.injEq] at h
      obtain ⟨rfl, rfl⟩ := h
      exact V.deep_rel (β' := β') hd hs.heap hN hr
    · rename_i c ls hd
      simp only [Option.some.injEq, Prod.mk.injEq] at h
      obtain ⟨rfl, rfl⟩ := h
      exact V.deep_rel (β' := β') hd hs.heap hN hr
    · cases h
  | cell t ty =>
    simp only [resL] at h
    have hr := getD_rel hs t
    split at h
    · rename_i l hl
      rw [hl] at hr
      split at h
      · rename_i c v hv
        split at h
        · rename_i d l2 hd
          simp only [Option.some.injEq, Prod.mk.injEq, Bool.and_eq_true] at h
          obtain ⟨⟨rfl, rfl⟩, rfl⟩ := h
          obtain ⟨y, h1, h2⟩ := loadAt_run hT hv hs.heap hr
          obtain ⟨ad, h3, h4⟩ := sureAddr_ok h1
          refine ⟨y, ?_, V.deep_rel (β' := β') hd hs.heap hN h2⟩
          simp only [rvRun, h3, asAddr, Sem.run_bind, Sem.run_pure, Result.andThen_ok, h4]
        · rename_i d ls2 hd
          simp only [Option.some.injEq, Prod.mk.injEq, Bool.and_eq_true] at h
          obtain ⟨⟨rfl, rfl⟩, rfl⟩ := h
          obtain ⟨y, h1, h2⟩ := loadAt_run hT hv hs.heap hr
          obtain ⟨ad, h3, h4⟩ := sureAddr_ok h1
          refine ⟨y, ?_, V.deep_rel (β' := β') hd hs.heap hN h2⟩
          simp only [rvRun, h3, asAddr, Sem.run_bind, Sem.run_pure, Result.andThen_ok, h4]
        · cases h
      · cases h
    · cases h

theorem resLs_run {σ : St} {a : Act} {N' : Nat → Prop} (hT : TabOK C.P T) (hs : Sim C β σ a w) (hN : ∀ b, b < w.heap.size → N' b → C.N0 b) : ∀ {rs : List ResultVar} {vs : List (Sum L (List L))}, resLs T σ rs = some (true, vs) →
    ∀ acc : Array Value, ∃ us : List Value, (rs.foldlM (fun (acc : Array Value) rv => do let v ← rvRun a.tmps rv; pure (acc.push v)) acc).run C.P w = .ok (acc ++ us.toArray) w ∧ All2 (V1Rel β' w N') vs us ∧
      allB sumD vs = true
  | [], vs, h, acc => by
    simp only [resLs, Option.some.injEq, Prod.mk.injEq, true_and] at h
    subst h
    exact ⟨[], by simp, trivial, rfl⟩
  | rv :: rs, vs, h, acc => by
    simp only [resLs] at h
    split at h
    · rename_i c s d r h1 h2
      simp only [Option.some.injEq, Prod.mk.injEq, Bool.and_eq_true] at h
      obtain ⟨⟨rfl, rfl⟩, rfl⟩ := h
      obtain ⟨x, g1, g2, g3⟩ := resL_run (β' := β') hT hs hN h1
      obtain ⟨us, g4, g5, g6⟩ := resLs_run hT hs hN h2 (acc.push x)
      refine ⟨x :: us, ?_, ⟨g2, g5⟩, by simp only [allB, g6, Bool.and_true]; exact g3⟩
      simp only [List.foldlM_cons, Sem.run_bind, g1, Result.andThen_ok, Sem.run_pure, g4]
      simp
    · cases h

theorem results_run {σ : St} {a : Act} {fn : Func} {vs : List (Sum L (List L))} {N' : Nat → Prop} (hT : TabOK C.P T) (hs : Sim C β σ a w) (hN : ∀ b, b < w.heap.size → N' b → C.N0 b) (h : resLs T σ fn.results.toList = some (true, vs)) :
    ∃ x, (results fn a.tmps).run C.P w = .ok x w ∧ (tupV vs).Rel β' w N' x ∧ (tupV vs).isD = true := by
  obtain ⟨us, h1, h2, h3⟩ := resLs_run (β' := β') hT hs hN h #[]
  have e0 : results fn a.tmps = (do let vs ← fn.results.mapM (rvRun a.tmps); pure (if h : vs.size = 1 then vs[0] else .tuple vs)) := by
    unfold results
    congr 1
  have hm : (fn.results.mapM (rvRun a.tmps) : Sem (Array Value)).run C.P w = .ok us.toArray w := by
    rw [Array.mapM_eq_foldlM, ← Array.foldlM_toList]
    have e : (fun (acc : Array Value) rv => do let v ← rvRun a.tmps rv; pure (acc.push v) : Array Value → ResultVar → Sem (Array Value)) = (fun (acc : Array Value) rv => acc.push <$> rvRun a.tmps rv) := by
      funext acc rv
      rfl
    rw [e] at h1
    simpa using h1
  rw [e0]
  simp only [Sem.run_bind, hm, Result.andThen_ok, Sem.run_pure]
  match vs, us, h2, h3 with
  | [], [], _, _ => exact ⟨_, rfl, ⟨[], rfl, trivial⟩, rfl⟩
  | [.inl l], [u], hr, hd =>
    simp only [allB, Bool.and_true] at hd
    exact ⟨_, rfl, hr.1, hd⟩
  | [.inr ls], [u], hr, hd =>
    simp only [allB, Bool.and_true] at hd
    exact ⟨_, rfl, hr.1, hd⟩
  | s :: t :: vs, u :: v :: us, hr, hd =>
    refine ⟨.tuple (u :: v :: us).toArray, by simp, ?_, ?_⟩
    · cases s <;> exact ⟨_, rfl, hr⟩
    · cases s <;> exact hd

end

/-- The slots as a call begins. -/
def regs0 (vs : List V) (n : Nat) : List V := vs ++ List.replicate (n - vs.length) .poison

end Go.Dec
