/- The part Z: a function that is handed boxes and rows, by a run of its body. No statement is proved here. -/
import Derived.Test.YtpehkjgbhnegmaaDecY
namespace Go.Dec

section
variable {T : Tab} {C : Ctx} {β : Nat → Pl} {w : World}

/-- A result, as it stands. -/
def resV (T : Tab) (σ : St) : ResultVar → Option (Bool × V)
  | .tmp t => some (true, σ.r.getD t .poison)
  | .cell t ty =>
    match σ.r.getD t .poison with
    | .one l => loadAt T σ.h ty l
    | _ => none

def resVs (T : Tab) (σ : St) : List ResultVar → Option (Bool × List V)
  | [] => some (true, [])
  | x :: r =>
    match resV T σ x, resVs T σ r with
    | some (c, l), some (d, ls) => some (c && d, l :: ls)
    | _, _ => none

theorem resV_run {σ : St} {a : Act} {rv : ResultVar} {v : V} (hT : TabOK C.P T) (hs : Sim C β σ a w) (h : resV T σ rv = some (true, v)) :
    ∃ x, (rvRun a.tmps rv).run C.P w = .ok x w ∧ v.Rel β w (C.N β σ.h) x := by
  cases rv with
  | tmp t =>
    simp only [resV, Option.some.injEq, Prod.mk.injEq, true_and] at h
    subst h
    exact ⟨a.tmps.getD t undef, rfl, getD_rel hs t⟩
  | cell t ty =>
    simp only [resV] at h
    have hr := getD_rel hs t
    split at h
    · rename_i l hl
      rw [hl] at hr
      obtain ⟨y, h1, h2⟩ := loadAt_run hT h hs.heap hr
      obtain ⟨ad, h3, h4⟩ := sureAddr_ok h1
      refine ⟨y, ?_, h2⟩
      simp only [rvRun, h3, asAddr, Sem.run_bind, Sem.run_pure, Result.andThen_ok, h4]
    · cases h

theorem resVs_run {σ : St} {a : Act} (hT : TabOK C.P T) (hs : Sim C β σ a w) : ∀ {rs : List ResultVar} {vs : List V}, resVs T σ rs = some (true, vs) →
    ∀ acc : Array Value, ∃ us : List Value, (rs.foldlM (fun (acc : Array Value) rv => do let v ← rvRun a.tmps rv; pure (acc.push v)) acc).run C.P w = .ok (acc ++ us.toArray) w ∧ All2 (fun v u => V.Rel β w (C.N β σ.h) v u) vs us
  | [], vs, h, acc => by
    simp only [resVs, Option.some.injEq, Prod.mk.injEq, true_and] at h
    subst h
    exact ⟨[], by simp, trivial⟩
  | rv :: rs, vs, h, acc => by
    simp only [resVs] at h
    split at h
    · rename_i c s d r h1 h2
      simp only [Option.some.injEq, Prod.mk.injEq, Bool.and_eq_true] at h
      obtain ⟨⟨rfl, rfl⟩, rfl⟩ := h
      obtain ⟨x, g1, g2⟩ := resV_run hT hs h1
      obtain ⟨us, g4, g5⟩ := resVs_run hT hs h2 (acc.push x)
      refine ⟨x :: us, ?_, ⟨g2, g5⟩⟩
      simp only [List.foldlM_cons, Sem.run_bind, g1, Result.andThen_ok, Sem.run_pure, g4]
      simp
    · cases h

theorem resultsM_run {σ : St} {a : Act} {fn : Func} {vs : List V} (hT : TabOK C.P T) (hs : Sim C β σ a w) (h : resVs T σ fn.results.toList = some (true, vs)) :
    ∃ us : List Value, (results fn a.tmps).run C.P w = .ok (retVal us) w ∧ All2 (fun v u => V.Rel β w (C.N β σ.h) v u) vs us := by
  obtain ⟨us, h1, h2⟩ := resVs_run hT hs h #[]
  refine ⟨us, ?_, h2⟩
  have e0 : results fn a.tmps = (do let vs ← fn.results.mapM (rvRun a.tmps); pure (if h : vs.size = 1 then vs[0] else .tuple vs)) := by
    unfold results
    congr 1
  have hm : (fn.results.mapM (rvRun a.tmps) : Sem (Array Value)).run C.P w = .ok us.toArray w := by
    rw [Array.mapM_eq_foldlM, ← Array.foldlM_toList]
    have e : (fun (acc : Array Value) rv => do let v ← rvRun a.tmps rv; pure (acc.push v) : Array Value → ResultVar → Sem (Array Value)) = (fun (acc : Array Value) rv => acc.push <$> rvRun a.tmps rv) := by
      funext acc rv
      rfl
    rw [e] at h1
    simpa using h1
  rw [e0]
  simp only [Sem.run_bind, hm, Result.andThen_ok, Sem.run_pure]
  match us with
  | [] => rfl
  | [u] => rfl
  | u :: v :: us => simp [retVal]

/-- Slots that hold just these. -/
theorem sim_vals {σ : St} {a : Act} {vs : List V} {us : List Value} (hs : Sim C β σ a w) (h : All2 (fun v u => V.Rel β w (C.N β σ.h) v u) vs us) : Sim C β ⟨vs, σ.h⟩ { tmps := us.toArray, defers := [] } w := by
  refine ⟨hs.heap, rfl, by simpa using h.length, fun i v hv => ?_⟩
  have hl : i < us.length := by rw [← h.length]; exact (List.getElem?_eq_some_iff.1 hv).1
  have hr := h.get i (List.getElem?_eq_some_iff.1 hv).1 hl
  rw [(List.getElem?_eq_some_iff.1 hv).2] at hr
  have e2 : (us.toArray).getD i undef = us[i] := by simp [hl]
  simp only [e2]
  exact hr

def retM (T : Tab) {ρ : Type} (res : List ResultVar) (so : Sh) (co : List Co) (σ : St) (g : so.X → Option ρ) : Option ρ :=
  match resVs T σ res with
  | some (c, vs) => chk c (enter T so co ⟨vs, σ.h⟩ g)
  | none => none

def finM (T : Tab) (res : List ResultVar) (so : Sh) (co : List Co) : K so.X := fun e σ =>
  match e with
  | .normal => retM T res so co σ some
  | .ret => retM T res so co σ some
  | _ => none

/-- Behind a body that may give up. -/
def finP (T : Tab) (res : List ResultVar) (so : Sh) (co : List Co) (tp : TypeId) (sp : Sh) (cp : List Co) : K (Sum so.X sp.X) := fun e σ =>
  match e with
  | .normal => retM T res so co σ fun y => some (.inl y)
  | .ret => retM T res so co σ fun y => some (.inl y)
  | .pan t v => match Nat.beq t tp with
    | true => enter T sp cp ⟨[v], σ.h⟩ fun z => some (.inr z)
    | false => none
  | _ => none

theorem retM_sim {σ : St} {a : Act} {fn : Func} {so : Sh} {co : List Co} {ρ : Type} {g : so.X → Option ρ} {r : ρ} {kf : Nat} (hT : TabOK C.P T) (hkf : C.fix.length ≤ kf) (hfx : allB (Co.fx kf) co = true) (hs : Sim C β σ a w) (h : retM T fn.results.toList so co σ g = some r) :
    ∃ (us : List Value) (β' : Nat → Pl) (y : so.X), (results fn a.tmps).run C.P w = .ok (retVal us) w ∧ Sim C β' (so.enc y) { tmps := us.toArray, defers := [] } w ∧ g y = some r := by
  unfold retM at h
  split at h
  · rename_i c vs hvs
    obtain ⟨rfl, h⟩ := chk_some h
    obtain ⟨us, h1, h2⟩ := resultsM_run hT hs hvs
    obtain ⟨β', _, y, h3, h4⟩ := enter_sim hT hkf hfx h (sim_vals hs h2)
    exact ⟨us, β', y, h1, h3, h4⟩
  · cases h
end

section
variable {P : Program} {T : Tab} {f : FuncId} {fn : Func} {c : Code} {si so sp : Sh}

theorem start_sim {C : Ctx} {β : Nat → Pl} {w : World} {σ : St} {xs : List Value} (n : Nat) (hs : Sim C β σ { tmps := xs.toArray, defers := [] } w) :
    Sim C β ⟨regs0 σ.r n, σ.h⟩ { tmps := xs.toArray ++ Array.replicate (n - xs.toArray.size) undef, defers := [] } w := by
  have hl : σ.r.length = xs.length := by simpa using hs.size
  refine ⟨hs.heap, rfl, by simp [regs0, hl], fun i u hu => ?_⟩
  simp only [regs0] at hu
  by_cases hi : i < σ.r.length
  · rw [List.getElem?_append_left hi] at hu
    have hr := hs.reg i u hu
    have e : (xs.toArray ++ Array.replicate (n - xs.toArray.size) undef).getD i undef = (xs.toArray).getD i undef := by
      rw [Array.getD_eq_getD_getElem?, Array.getD_eq_getD_getElem?, Array.getElem?_append_left (by simpa using by omega)]
    rw [e]
    exact hr
  · rw [List.getElem?_append_right (by omega), List.getElem?_replicate] at hu
    split at hu
    · simp only [Option.some.injEq] at hu; subst hu; trivial
    · cases hu

/-- **A function that is handed boxes and rows, by a run of its body.** -/
theorem meets_of {F : si.X → Option so.X} {Γ : Orc so.X} {an : An so.X} {co : List Co} (hf : P.funcs[f]? = some fn) (hb : fn.body = some c) (hh : hasBody P f = true) (hT : TabOK P T) (hΓ : OrcOK P Γ) (hm : P.follows .mixedOrders = true)
    (ha : AnOK P si.os.length c an) (hfx : an.fx si.os.length = true) (hco : allB (Co.fx si.os.length) co = true)
    (h : ∀ x, ev Γ T c an ⟨regs0 (si.enc x).r fn.ntmps, (si.enc x).h⟩ (finM T fn.results.toList so co) = F x) : Meets P f si so F := by
  refine ⟨hh, fun x y hF C β w xs hP hkf hs => ?_⟩
  rw [← h x] at hF
  refine calls_of_wp hf hb ?_
  refine ev_sound (P := P) hT hΓ hm c an ha hfx _ _ y hF C β _ w _ hP hkf (start_sim fn.ntmps hs) ?_
  intro e x' σ' β' a' w' hs' hx' hk
  have fin : retM T fn.results.toList so co σ' some = some y → x' = .ret ∨ x' = .normal → bodyPost P fn (fun e w' => ∃ (us : List Value) (β' : Nat → Pl), e = .returned (retVal us) ∧ Sim C β' (so.enc y) { tmps := us.toArray, defers := [] } w') x' a' w' := by
    intro hk hx'
    subst hP
    obtain ⟨us, β2, y', h1, h2, h3⟩ := retM_sim (fn := fn) hT hkf hco hs' hk
    obtain rfl := Option.some.inj h3
    rcases hx' with rfl | rfl
    · exact ⟨hs'.defers, _, h1, us, β2, rfl, h2⟩
    · exact ⟨hs'.defers, _, h1, us, β2, rfl, h2⟩
  cases e with
  | normal => obtain rfl := hx'; exact fin hk (.inr rfl)
  | ret => obtain rfl := hx'; exact fin hk (.inl rfl)
  | exit i => simp [finM] at hk
  | goto l => simp [finM] at hk
  | pan t u => simp [finM] at hk

/-- **The same, of one that may give up.** -/
theorem meetsP_of {tp : TypeId} {F : si.X → Option (Sum so.X sp.X)} {Γ : Orc (Sum so.X sp.X)} {an : An (Sum so.X sp.X)} {co cp : List Co} (hf : P.funcs[f]? = some fn) (hb : fn.body = some c) (hh : hasBody P f = true) (hT : TabOK P T) (hΓ : OrcOK P Γ) (hm : P.follows .mixedOrders = true)
    (ha : AnOK P si.os.length c an) (hfx : an.fx si.os.length = true) (hco : allB (Co.fx si.os.length) co = true) (hcp : allB (Co.fx si.os.length) cp = true)
    (h : ∀ x, ev Γ T c an ⟨regs0 (si.enc x).r fn.ntmps, (si.enc x).h⟩ (finP T fn.results.toList so co tp sp cp) = F x) : MeetsP P f si so tp sp F := by
  refine ⟨hh, fun x y hF C β w xs hP hkf hs => ?_⟩
  rw [← h x] at hF
  refine calls_of_wp hf hb ?_
  refine ev_sound (P := P) hT hΓ hm c an ha hfx _ _ y hF C β _ w _ hP hkf (start_sim fn.ntmps hs) ?_
  intro e x' σ' β' a' w' hs' hx' hk
  subst hP
  have fin : (retM T fn.results.toList so co σ' fun y => some (.inl y)) = some y → x' = .ret ∨ x' = .normal → bodyPost C.P fn (fun e w' => (∃ (z : so.X) (us : List Value) (β' : Nat → Pl), y = .inl z ∧ e = .returned (retVal us) ∧ Sim C β' (so.enc z) { tmps := us.toArray, defers := [] } w') ∨
      ∃ (z : sp.X) (u : Value) (β' : Nat → Pl), y = .inr z ∧ e = .panicked [{ v := .iface tp u, recovered := false }] ∧ Sim C β' (sp.enc z) { tmps := #[u], defers := [] } w') x' a' w' := by
    intro hk hx'
    obtain ⟨us, β2, y', h1, h2, h3⟩ := retM_sim (fn := fn) hT hkf hco hs' hk
    obtain rfl := Option.some.inj h3
    rcases hx' with rfl | rfl
    · exact ⟨hs'.defers, _, h1, .inl ⟨y', us, β2, rfl, rfl, h2⟩⟩
    · exact ⟨hs'.defers, _, h1, .inl ⟨y', us, β2, rfl, rfl, h2⟩⟩
  cases e with
  | normal => obtain rfl := hx'; exact fin hk (.inr rfl)
  | ret => obtain rfl := hx'; exact fin hk (.inl rfl)
  | exit i => simp [finP] at hk
  | goto l => simp [finP] at hk
  | pan t u =>
    simp only [finP] at hk
    split at hk
    · rename_i hb
      have := Nat.eq_of_beq_eq_true hb
      subst this
      obtain ⟨x0, rfl, hx0⟩ := hx'
      obtain ⟨β2, _, z, h3, h4⟩ := enter_sim hT hkf hcp hk (sim_vals (vs := [u]) (us := [x0]) hs' ⟨hx0, trivial⟩)
      obtain rfl := Option.some.inj h4
      exact ⟨hs'.defers, .inr ⟨z, x0, β2, rfl, rfl, h3⟩⟩
    · cases hk

theorem meets_none (hh : hasBody P f = true) : Meets P f si so fun _ => none := ⟨hh, fun _ _ h => by cases h⟩
theorem meetsP_none {tp : TypeId} (hh : hasBody P f = true) : MeetsP P f si so tp sp fun _ => none := ⟨hh, fun _ _ h => by cases h⟩

/-- What is known of functions that may give up. -/
structure GE (ρ : Type) where
  f : FuncId
  run : List V → List Ob → (Out → List Ob → Option ρ) → Option ρ

structure GE.OK (P : Program) {ρ : Type} (g : GE ρ) : Prop where
  ok : ∀ vs h k r, g.run vs h k = some r → hasBody P g.f = true ∧ CallK P g.f vs h fun out h' => k out h' = some r

def gens {ρ : Type} : List (GE ρ) → FuncId → List V → List Ob → (Out → List Ob → Option ρ) → Option ρ
  | [], _, _, _, _ => none
  | g :: r, f, vs, h, k => match Nat.beq g.f f with
    | true => g.run vs h k
    | false => gens r f vs h k

def orcG (ρ : Type) (l : List (FuncId × PE)) (m : List (GE ρ)) : Orc ρ := ⟨pes l, gens m⟩

theorem orcG_ok {ρ : Type} {l : List (FuncId × PE)} {m : List (GE ρ)} (h : ∀ p ∈ l, p.2.OK P p.1) (hm : ∀ g ∈ m, g.OK P) : OrcOK P (orcG ρ l m) := by
  refine ⟨(orc_ok (ρ := ρ) h).pure, fun f vs hp k r hr => ?_⟩
  simp only [orcG] at hr
  induction m with
  | nil => cases hr
  | cons g m ih =>
    simp only [gens] at hr
    split at hr
    · rename_i hb
      have := Nat.eq_of_beq_eq_true hb
      subst this
      exact (hm g (.head _)).ok vs hp k r hr
    · exact ih (fun g hg => hm g (.tail _ hg)) hr

def geP {ρ : Type} (f : FuncId) (si so : Sh) (tp : TypeId) (sp : Sh) (F : si.X → Option (Sum so.X sp.X)) : GE ρ := ⟨f, genP si so tp sp F⟩
theorem geP_ok {ρ : Type} {tp : TypeId} {F : si.X → Option (Sum so.X sp.X)} (h : MeetsP P f si so tp sp F) : (geP (ρ := ρ) f si so tp sp F).OK P := ⟨fun _ _ _ _ hr => genP_ok h hr⟩
theorem alg_nil {ρ : Type} : ∀ g ∈ ([] : List (GE ρ)), g.OK P := fun _ h => by cases h
theorem alg_cons {ρ : Type} {g : GE ρ} {m : List (GE ρ)} (h : g.OK P) (hm : ∀ g ∈ m, g.OK P) : ∀ x ∈ g :: m, x.OK P := fun x hx => by
  cases hx with
  | head => exact h
  | tail _ hx => exact hm x hx
end

/-- So many rounds of a function that calls itself. -/
def recN {α ρ : Type} (B : Nat → (α → Option ρ) → α → Option ρ) : Nat → α → Option ρ
  | 0, _ => none
  | n + 1, x => B n (recN B n) x

theorem pure_no {P : Program} {f : FuncId} {as rs : List Ty} (hh : hasBody P f = true) : Pure P f as rs (fun _ => none) := ⟨hh, fun _ _ h => by cases h⟩
theorem meets_no {P : Program} {f : FuncId} {si so : Sh} (hh : hasBody P f = true) : Meets P f si so (fun _ => none) := ⟨hh, fun _ _ h => by cases h⟩

theorem rec_pure {P : Program} {f : FuncId} {as rs : List Ty} {B : Nat → (Dens as → Option (Dens rs)) → Dens as → Option (Dens rs)} (hh : hasBody P f = true) (h : ∀ n r, Pure P f as rs r → Pure P f as rs (B n r)) : ∀ n, Pure P f as rs (recN B n)
  | 0 => pure_no hh
  | n + 1 => h n _ (rec_pure hh h n)

theorem rec_meets {P : Program} {f : FuncId} {si so : Sh} {B : Nat → (si.X → Option so.X) → si.X → Option so.X} (hh : hasBody P f = true) (h : ∀ n r, Meets P f si so r → Meets P f si so (B n r)) : ∀ n, Meets P f si so (recN B n)
  | 0 => meets_no hh
  | n + 1 => h n _ (rec_meets hh h n)

/-- One that is handed known functions, told as one of data. -/
theorem pure_of_meets {P : Program} {f : FuncId} {as rs : List Ty} {si so : Sh} {F : si.X → Option so.X} {conv : Dens as → Option si.X} {out : so.X → Dens rs} (hm : Meets P f si so F)
    (hin : ∀ x z, conv x = some z → (si.enc z).h = [] ∧ ∀ (β : Nat → Pl) (w : World) (N : Nat → Prop) (us : List Value), ArgsRel β w N (encVs as x) us → ArgsRel β w N (si.enc z).r us)
    (hout : ∀ y, ∃ ss, sumsV (so.enc y).r = some ss ∧ decSs rs ss = some (out y)) :
    Pure P f as rs (fun x => match conv x with | some z => (match F z with | some y => some (out y) | none => none) | none => none) := by
  refine ⟨hm.1, fun x y hF w N xs hG hN hx => ?_⟩
  simp only at hF
  split at hF
  · rename_i z hz
    split at hF
    · rename_i y' hy
      obtain rfl := Option.some.inj hF
      obtain ⟨hh, hr⟩ := hin x z hz
      let C : Ctx := { P := P, N0 := N, w0 := w, own0 := fun _ => False, glob := fun w' h => hG.keep fun b hb => h b hb (fun h => h), fix := [] }
      let β0 : Nat → Pl := fun _ => ⟨false, false, 0, none, 0, 0, 0⟩
      have hargs : ArgsRel β0 w N (si.enc z).r xs := hr β0 w N xs (encVs_rel hx)
      have hsim : Sim C β0 (si.enc z) { tmps := xs.toArray, defers := [] } w := by
        have e : si.enc z = ⟨(si.enc z).r, []⟩ := by rw [← hh]
        rw [e]
        refine ⟨⟨by simp, fun _ _ => rfl, by simp, by simp, hN, fun _ _ _ => rfl, Nat.le_refl _, rfl, rfl, rfl, fun j o hj => by cases hj⟩, rfl, by simpa using hargs.length, ?_⟩
        intro i u hu
        have hi := (List.getElem?_eq_some_iff.1 hu).1
        have hi' : i < xs.length := by rw [← hargs.length]; exact hi
        have hr := hargs.get i hi hi'
        rw [(List.getElem?_eq_some_iff.1 hu).2] at hr
        have : (xs.toArray).getD i undef = xs[i] := by simp [hi']
        rw [this]
        refine hr.mono (Moves.refl β0) (Keep.refl _ w) (fun b _ hb => ?_)
        rcases hb with hb | ⟨id, o, ho, _⟩
        · exact hb
        · simp at ho
      refine (hm.2 z y' hy C β0 w xs rfl (Nat.zero_le _) hsim).mono ?_
      rintro e w' ⟨us, β', rfl, hs'⟩
      obtain ⟨ss, h1, h2⟩ := hout y'
      have hall : All2 (fun v u => V.Rel β' w' (C.N β' (so.enc y').h) v u) (so.enc y').r us := all2_of (by simpa using hs'.size) fun i a b ha hb => by
        have := hs'.reg i a ha
        have hb' : (us.toArray).getD i undef = b := by
          obtain ⟨q1, q2⟩ := List.getElem?_eq_some_iff.1 hb
          simp [q1, q2]
        simp only at this
        rwa [hb'] at this
      have hR := decSs_rel h2 (sumsV_rel h1 hall)
      exact ⟨us, rfl, hs'.heap.os, hs'.heap.tape, hs'.heap.output, ⟨hs'.heap.size, fun b hb _ => hs'.heap.frame b hb (fun h => h)⟩, hR.mono (Keep.refl _ w') fun b _ hb => .inl hb⟩
    · cases hF
  · cases hF
end Go.Dec
