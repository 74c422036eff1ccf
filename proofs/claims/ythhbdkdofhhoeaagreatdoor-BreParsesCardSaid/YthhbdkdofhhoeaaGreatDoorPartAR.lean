/- Part of a proof over this seat: a library of my own, and what it says of this seat. No statement is proved here. -/
import Derived.Test.YthhbdkdofhhoeaaGreatDoorPartAQ
import Derived.WalkKit
import Derived.OwnWalkIn
import Derived.TacticsInMore
import Derived.Lib.SliceRun
namespace Go.Dec
section
variable {T : Tab} {C : Ctx} {β : Nat → Pl} {w : World}
def resV (T : Tab) (σ : St) : ResultVar → Option (Bool × V)
  | .tmp t => some (true, σ.r.getD t .poison)
  | .cell t ty =>
    match σ.r.getD t .poison with
    | .one l => loadAt T σ.h ty l
    | _ => none
def resVs (T : Tab) (σ : St) : List ResultVar → Option (Bool × List V)
  | [] => some (true, [])
  | x :: r =>
    match resV T σ x, resVs T σ r with
    | some (c, l), some (d, ls) => some (c && d, l :: ls)
    | _, _ => none
theorem resV_run {σ : St} {a : Act} {rv : ResultVar} {v : V} (hT : TabOK C.P T) (hs : Sim C β σ a w) (h : resV T σ rv = some (true, v)) :
    ∃ x, (rvRun a.tmps rv).run C.P w = .ok x w ∧ v.Rel β w (C.N β σ.h) x := by
  cases rv with
  | tmp t =>
    simp only [resV, Option.some.injEq, Prod.mk.injEq, true_and] at h
    subst h
    exact ⟨a.tmps.getD t undef, rfl, getD_rel hs t⟩
  | cell t ty =>
    simp only [resV] at h
    have hr := getD_rel hs t
    split at h
    · rename_i l hl
      rw [hl] at hr
      obtain ⟨y, h1, h2⟩ := loadAt_run hT h hs.heap hr
      obtain ⟨ad, h3, h4⟩ := sureAddr_ok h1
      refine ⟨y, ?_, h2⟩
      simp only [rvRun, h3, asAddr, Sem.run_bind, Sem.run_pure, Result.andThen_ok, h4]
    · cases h
theorem resVs_run {σ : St} {a : Act} (hT : TabOK C.P T) (hs : Sim C β σ a w) : ∀ {rs : List ResultVar} {vs : List V}, resVs T σ rs = some (true, vs) →
    ∀ acc : Array Value, ∃ us : List Value, (rs.foldlM (fun (acc : Array Value) rv => do let v ← rvRun a.tmps rv; pure (acc.push v)) acc).run C.P w = .ok (acc ++ us.toArray) w ∧ All2 (fun v u => V.Rel β w (C.N β σ.h) v u) vs us
  | [], vs, h, acc => by
    simp only [resVs, Option.some.injEq, Prod.mk.injEq, true_and] at h
    subst h
    exact ⟨[], by simp, trivial⟩
  | rv :: rs, vs, h, acc => by
    simp only [resVs] at h
    split at h
    · rename_i c s d r h1 h2
      simp only [Option.some.injEq, Prod.mk.injEq, Bool.and_eq_true] at h
      obtain ⟨⟨rfl, rfl⟩, rfl⟩ := h
      obtain ⟨x, g1, g2⟩ := resV_run hT hs h1
      obtain ⟨us, g4, g5⟩ := resVs_run hT hs h2 (acc.push x)
      refine ⟨x :: us, ?_, ⟨g2, g5⟩⟩
      simp only [List.foldlM_cons, Sem.run_bind, g1, Result.andThen_ok, Sem.run_pure, g4]
      simp
    · cases h
theorem resultsM_run {σ : St} {a : Act} {fn : Func} {vs : List V} (hT : TabOK C.P T) (hs : Sim C β σ a w) (h : resVs T σ fn.results.toList = some (true, vs)) :
    ∃ us : List Value, (results fn a.tmps).run C.P w = .ok (retVal us) w ∧ All2 (fun v u => V.Rel β w (C.N β σ.h) v u) vs us := by
  obtain ⟨us, h1, h2⟩ := resVs_run hT hs h #[]
  refine ⟨us, ?_, h2⟩
  have e0 : results fn a.tmps = (do let vs ← fn.results.mapM (rvRun a.tmps); pure (if h : vs.size = 1 then vs[0] else .tuple vs)) := by
    unfold results
    congr 1
  have hm : (fn.results.mapM (rvRun a.tmps) : Sem (Array Value)).run C.P w = .ok us.toArray w := by
    rw [Array.mapM_eq_foldlM, ← Array.foldlM_toList]
    have e : (fun (acc : Array Value) rv => do let v ← rvRun a.tmps rv; pure (acc.push v) : Array Value → ResultVar → Sem (Array Value)) = (fun (acc : Array Value) rv => acc.push <$> rvRun a.tmps rv) := by
      funext acc rv
      rfl
    rw [e] at h1
    simpa using h1
  rw [e0]
  simp only [Sem.run_bind, hm, Result.andThen_ok, Sem.run_pure]
  match us with
  | [] => rfl
  | [u] => rfl
  | u :: v :: us => simp [retVal]
theorem sim_vals {σ : St} {a : Act} {vs : List V} {us : List Value} (hs : Sim C β σ a w) (h : All2 (fun v u => V.Rel β w (C.N β σ.h) v u) vs us) : Sim C β ⟨vs, σ.h⟩ { tmps := us.toArray, defers := [] } w := by
  refine ⟨hs.heap, rfl, by simpa using h.length, fun i v hv => ?_⟩
  have hl : i < us.length := by rw [← h.length]; exact (List.getElem?_eq_some_iff.1 hv).1
  have hr := h.get i (List.getElem?_eq_some_iff.1 hv).1 hl
  rw [(List.getElem?_eq_some_iff.1 hv).2] at hr
  have e2 : (us.toArray).getD i undef = us[i] := by simp [hl]
  simp only [e2]
  exact hr
def retM (T : Tab) {ρ : Type} (res : List ResultVar) (so : Sh) (co : List Co) (σ : St) (g : so.X → Option ρ) : Option ρ :=
  match resVs T σ res with
  | some (c, vs) => chk c (enter T so co ⟨vs, σ.h⟩ g)
  | none => none
def finM (T : Tab) (res : List ResultVar) (so : Sh) (co : List Co) : K so.X := fun e σ =>
  match e with
  | .normal => retM T res so co σ some
  | .ret => retM T res so co σ some
  | _ => none
def finP (T : Tab) (res : List ResultVar) (so : Sh) (co : List Co) (tp : TypeId) (sp : Sh) (cp : List Co) : K (Sum so.X sp.X) := fun e σ =>
  match e with
  | .normal => retM T res so co σ fun y => some (.inl y)
  | .ret => retM T res so co σ fun y => some (.inl y)
  | .pan t v => match Nat.beq t tp with
    | true => enter T sp cp ⟨[v], σ.h⟩ fun z => some (.inr z)
    | false => none
  | _ => none
theorem retM_sim {σ : St} {a : Act} {fn : Func} {so : Sh} {co : List Co} {ρ : Type} {g : so.X → Option ρ} {r : ρ} {kf : Nat} (hT : TabOK C.P T) (hkf : C.fix.length ≤ kf) (hfx : allB (Co.fx kf) co = true) (hs : Sim C β σ a w) (h : retM T fn.results.toList so co σ g = some r) :
    ∃ (us : List Value) (β' : Nat → Pl) (y : so.X), (results fn a.tmps).run C.P w = .ok (retVal us) w ∧ Sim C β' (so.enc y) { tmps := us.toArray, defers := [] } w ∧ g y = some r := by
  unfold retM at h
  split at h
  · rename_i c vs hvs
    obtain ⟨rfl, h⟩ := chk_some h
    obtain ⟨us, h1, h2⟩ := resultsM_run hT hs hvs
    obtain ⟨β', _, y, h3, h4⟩ := enter_sim hT hkf hfx h (sim_vals hs h2)
    exact ⟨us, β', y, h1, h3, h4⟩
  · cases h
end
section
variable {P : Program} {T : Tab} {f : FuncId} {fn : Func} {c : Code} {si so sp : Sh}
theorem start_sim {C : Ctx} {β : Nat → Pl} {w : World} {σ : St} {xs : List Value} (n : Nat) (hs : Sim C β σ { tmps := xs.toArray, defers := [] } w) :
    Sim C β ⟨regs0 σ.r n, σ.h⟩ { tmps := xs.toArray ++ Array.replicate (n - xs.toArray.size) undef, defers := [] } w := by
  have hl : σ.r.length = xs.length := by simpa using hs.size
  refine ⟨hs.heap, rfl, by simp [regs0, hl], fun i u hu => ?_⟩
  simp only [regs0] at hu
  by_cases hi : i < σ.r.length
  · rw [List.getElem?_append_left hi] at hu
    have hr := hs.reg i u hu
    have e : (xs.toArray ++ Array.replicate (n - xs.toArray.size) undef).getD i undef = (xs.toArray).getD i undef := by
      rw [Array.getD_eq_getD_getElem?, Array.getD_eq_getD_getElem?, Array.getElem?_append_left (by simpa using by omega)]
    rw [e]
    exact hr
  · rw [List.getElem?_append_right (by omega), List.getElem?_replicate] at hu
    split at hu
    · simp only [Option.some.injEq] at hu; subst hu; trivial
    · cases hu
theorem meets_of {F : si.X → Option so.X} {Γ : Orc so.X} {an : An so.X} {co : List Co} (hf : P.funcs[f]? = some fn) (hb : fn.body = some c) (hh : hasBody P f = true) (hT : TabOK P T) (hΓ : OrcOK P Γ) (hm : P.follows .mixedOrders = true)
    (ha : AnOK P si.os.length c an) (hfx : an.fx si.os.length = true) (hco : allB (Co.fx si.os.length) co = true)
    (h : ∀ x, ev Γ T c an ⟨regs0 (si.enc x).r fn.ntmps, (si.enc x).h⟩ (finM T fn.results.toList so co) = F x) : Meets P f si so F := by
  refine ⟨hh, fun x y hF C β w xs hP hkf hs => ?_⟩
  rw [← h x] at hF
  refine calls_of_wp hf hb ?_
  refine ev_sound (P := P) hT hΓ hm c an ha hfx _ _ y hF C β _ w _ hP hkf (start_sim fn.ntmps hs) ?_
  intro e x' σ' β' a' w' hs' hx' hk
  have fin : retM T fn.results.toList so co σ' some = some y → x' = .ret ∨ x' = .normal → bodyPost P fn (fun e w' => ∃ (us : List Value) (β' : Nat → Pl), e = .returned (retVal us) ∧ Sim C β' (so.enc y) { tmps := us.toArray, defers := [] } w') x' a' w' := by
    intro hk hx'
    subst hP
    obtain ⟨us, β2, y', h1, h2, h3⟩ := retM_sim (fn := fn) hT hkf hco hs' hk
    obtain rfl := Option.some.inj h3
    rcases hx' with rfl | rfl
    · exact ⟨hs'.defers, _, h1, us, β2, rfl, h2⟩
    · exact ⟨hs'.defers, _, h1, us, β2, rfl, h2⟩
  cases e with
  | normal => obtain rfl := hx'; exact fin hk (.inr rfl)
  | ret => obtain rfl := hx'; exact fin hk (.inl rfl)
  | exit i => simp [finM] at hk
  | goto l => simp [finM] at hk
  | pan t u => simp [finM] at hk
theorem meetsP_of {tp : TypeId} {F : si.X → Option (Sum so.X sp.X)} {Γ : Orc (Sum so.X sp.X)} {an : An (Sum so.X sp.X)} {co cp : List Co} (hf : P.funcs[f]? = some fn) (hb : fn.body = some c) (hh : hasBody P f = true) (hT : TabOK P T) (hΓ : OrcOK P Γ) (hm : P.follows .mixedOrders = true)
    (ha : AnOK P si.os.length c an) (hfx : an.fx si.os.length = true) (hco : allB (Co.fx si.os.length) co = true) (hcp : allB (Co.fx si.os.length) cp = true)
    (h : ∀ x, ev Γ T c an ⟨regs0 (si.enc x).r fn.ntmps, (si.enc x).h⟩ (finP T fn.results.toList so co tp sp cp) = F x) : MeetsP P f si so tp sp F := by
  refine ⟨hh, fun x y hF C β w xs hP hkf hs => ?_⟩
  rw [← h x] at hF
  refine calls_of_wp hf hb ?_
  refine ev_sound (P := P) hT hΓ hm c an ha hfx _ _ y hF C β _ w _ hP hkf (start_sim fn.ntmps hs) ?_
  intro e x' σ' β' a' w' hs' hx' hk
  subst hP
  have fin : (retM T fn.results.toList so co σ' fun y => some (.inl y)) = some y → x' = .ret ∨ x' = .normal → bodyPost C.P fn (fun e w' => (∃ (z : so.X) (us : List Value) (β' : Nat → Pl), y = .inl z ∧ e = .returned (retVal us) ∧ Sim C β' (so.enc z) { tmps := us.toArray, defers := [] } w') ∨
      ∃ (z : sp.X) (u : Value) (β' : Nat → Pl), y = .inr z ∧ e = .panicked [{ v := .iface tp u, recovered := false }] ∧ Sim C β' (sp.enc z) { tmps := #[u], defers := [] } w') x' a' w' := by
    intro hk hx'
    obtain ⟨us, β2, y', h1, h2, h3⟩ := retM_sim (fn := fn) hT hkf hco hs' hk
    obtain rfl := Option.some.inj h3
    rcases hx' with rfl | rfl
    · exact ⟨hs'.defers, _, h1, .inl ⟨y', us, β2, rfl, rfl, h2⟩⟩
    · exact ⟨hs'.defers, _, h1, .inl ⟨y', us, β2, rfl, rfl, h2⟩⟩
  cases e with
  | normal => obtain rfl := hx'; exact fin hk (.inr rfl)
  | ret => obtain rfl := hx'; exact fin hk (.inl rfl)
  | exit i => simp [finP] at hk
  | goto l => simp [finP] at hk
  | pan t u =>
    simp only [finP] at hk
    split at hk
    · rename_i hb
      have := Nat.eq_of_beq_eq_true hb
      subst this
      obtain ⟨x0, rfl, hx0⟩ := hx'
      obtain ⟨β2, _, z, h3, h4⟩ := enter_sim hT hkf hcp hk (sim_vals (vs := [u]) (us := [x0]) hs' ⟨hx0, trivial⟩)
      obtain rfl := Option.some.inj h4
      exact ⟨hs'.defers, .inr ⟨z, x0, β2, rfl, rfl, h3⟩⟩
    · cases hk
theorem meets_none (hh : hasBody P f = true) : Meets P f si so fun _ => none := ⟨hh, fun _ _ h => by cases h⟩
theorem meetsP_none {tp : TypeId} (hh : hasBody P f = true) : MeetsP P f si so tp sp fun _ => none := ⟨hh, fun _ _ h => by cases h⟩
structure GE (ρ : Type) where
  f : FuncId
  run : List V → List Ob → (Out → List Ob → Option ρ) → Option ρ
structure GE.OK (P : Program) {ρ : Type} (g : GE ρ) : Prop where
  ok : ∀ vs h k r, g.run vs h k = some r → hasBody P g.f = true ∧ CallK P g.f vs h fun out h' => k out h' = some r ∧ ∀ id, id < h.length → id ∉ reach vs h → h'[id]? = h[id]?
def gens {ρ : Type} : List (GE ρ) → FuncId → List V → List Ob → (Out → List Ob → Option ρ) → Option ρ
  | [], _, _, _, _ => none
  | g :: r, f, vs, h, k => match Nat.beq g.f f with
    | true => g.run vs h k
    | false => gens r f vs h k
def orcG (ρ : Type) (l : List (FuncId × PE)) (m : List (GE ρ)) : Orc ρ := ⟨pes l, gens m⟩
theorem orcG_ok {ρ : Type} {l : List (FuncId × PE)} {m : List (GE ρ)} (h : ∀ p ∈ l, p.2.OK P p.1) (hm : ∀ g ∈ m, g.OK P) : OrcOK P (orcG ρ l m) := by
  refine ⟨(orc_ok (ρ := ρ) h).pure, fun f vs hp k r hr => ?_⟩
  simp only [orcG] at hr
  induction m with
  | nil => cases hr
  | cons g m ih =>
    simp only [gens] at hr
    split at hr
    · rename_i hb
      have := Nat.eq_of_beq_eq_true hb
      subst this
      exact (hm g (.head _)).ok vs hp k r hr
    · exact ih (fun g hg => hm g (.tail _ hg)) hr
def geP {ρ : Type} (f : FuncId) (si so : Sh) (tp : TypeId) (sp : Sh) (F : si.X → Option (Sum so.X sp.X)) : GE ρ := ⟨f, genP si so tp sp F⟩
theorem geP_ok {ρ : Type} {tp : TypeId} {F : si.X → Option (Sum so.X sp.X)} (h : MeetsP P f si so tp sp F) : (geP (ρ := ρ) f si so tp sp F).OK P := ⟨fun _ _ _ _ hr => genP_ok h hr⟩
theorem alg_nil {ρ : Type} : ∀ g ∈ ([] : List (GE ρ)), g.OK P := fun _ h => by cases h
theorem alg_cons {ρ : Type} {g : GE ρ} {m : List (GE ρ)} (h : g.OK P) (hm : ∀ g ∈ m, g.OK P) : ∀ x ∈ g :: m, x.OK P := fun x hx => by
  cases hx with
  | head => exact h
  | tail _ hx => exact hm x hx
end
def recN {α ρ : Type} (B : Nat → (α → Option ρ) → α → Option ρ) : Nat → α → Option ρ
  | 0, _ => none
  | n + 1, x => B n (recN B n) x
theorem pure_no {P : Program} {f : FuncId} {as rs : List Ty} (hh : hasBody P f = true) : Pure P f as rs (fun _ => none) := ⟨hh, fun _ _ h => by cases h⟩
theorem meets_no {P : Program} {f : FuncId} {si so : Sh} (hh : hasBody P f = true) : Meets P f si so (fun _ => none) := ⟨hh, fun _ _ h => by cases h⟩
theorem rec_pure {P : Program} {f : FuncId} {as rs : List Ty} {B : Nat → (Dens as → Option (Dens rs)) → Dens as → Option (Dens rs)} (hh : hasBody P f = true) (h : ∀ n r, Pure P f as rs r → Pure P f as rs (B n r)) : ∀ n, Pure P f as rs (recN B n)
  | 0 => pure_no hh
  | n + 1 => h n _ (rec_pure hh h n)
theorem rec_meets {P : Program} {f : FuncId} {si so : Sh} {B : Nat → (si.X → Option so.X) → si.X → Option so.X} (hh : hasBody P f = true) (h : ∀ n r, Meets P f si so r → Meets P f si so (B n r)) : ∀ n, Meets P f si so (recN B n)
  | 0 => meets_no hh
  | n + 1 => h n _ (rec_meets hh h n)
theorem rec_meetsP {P : Program} {f : FuncId} {si so sp : Sh} {tp : TypeId} {B : Nat → (si.X → Option (Sum so.X sp.X)) → si.X → Option (Sum so.X sp.X)} (hh : hasBody P f = true) (h : ∀ n r, MeetsP P f si so tp sp r → MeetsP P f si so tp sp (B n r)) : ∀ n, MeetsP P f si so tp sp (recN B n)
  | 0 => ⟨hh, fun _ _ h => by cases h⟩
  | n + 1 => h n _ (rec_meetsP hh h n)
theorem pure_of_meets {P : Program} {f : FuncId} {as rs : List Ty} {si so : Sh} {F : si.X → Option so.X} {conv : Dens as → Option si.X} {out : so.X → Dens rs} (hm : Meets P f si so F)
    (hin : ∀ x z, conv x = some z → (si.enc z).h = [] ∧ ∀ (β : Nat → Pl) (w : World) (N : Nat → Prop) (us : List Value), ArgsRel β w N (encVs as x) us → ArgsRel β w N (si.enc z).r us)
    (hout : ∀ y, ∃ ss, sumsV (so.enc y).r = some ss ∧ decSs rs ss = some (out y)) :
    Pure P f as rs (fun x => match conv x with | some z => (match F z with | some y => some (out y) | none => none) | none => none) := by
  refine ⟨hm.1, fun x y hF w N xs hG hN hx => ?_⟩
  simp only at hF
  split at hF
  · rename_i z hz
    split at hF
    · rename_i y' hy
      obtain rfl := Option.some.inj hF
      obtain ⟨hh, hr⟩ := hin x z hz
      let C : Ctx := { P := P, N0 := N, w0 := w, own0 := fun _ => False, glob := fun w' h => hG.keep fun b hb => h b hb (fun h => h), fix := [] }
      let β0 : Nat → Pl := fun _ => ⟨false, false, 0, none, 0, 0, 0⟩
      have hargs : ArgsRel β0 w N (si.enc z).r xs := hr β0 w N xs (encVs_rel hx)
      have hsim : Sim C β0 (si.enc z) { tmps := xs.toArray, defers := [] } w := by
        have e : si.enc z = ⟨(si.enc z).r, []⟩ := by rw [← hh]
        rw [e]
        refine ⟨⟨by simp, fun _ _ => rfl, by simp, by simp, hN, fun _ _ _ => rfl, Nat.le_refl _, rfl, rfl, rfl, fun j o hj => by cases hj⟩, rfl, by simpa using hargs.length, ?_⟩
        intro i u hu
        have hi := (List.getElem?_eq_some_iff.1 hu).1
        have hi' : i < xs.length := by rw [← hargs.length]; exact hi
        have hr := hargs.get i hi hi'
        rw [(List.getElem?_eq_some_iff.1 hu).2] at hr
        have : (xs.toArray).getD i undef = xs[i] := by simp [hi']
        rw [this]
        refine hr.mono (Moves.refl β0) (Keep.refl _ w) (fun b _ hb => ?_)
        rcases hb with hb | ⟨id, o, ho, _⟩
        · exact hb
        · simp at ho
      refine (hm.2 z y' hy C β0 w xs rfl (Nat.zero_le _) hsim).mono ?_
      rintro e w' ⟨us, β', rfl, hs'⟩
      obtain ⟨ss, h1, h2⟩ := hout y'
      have hall : All2 (fun v u => V.Rel β' w' (C.N β' (so.enc y').h) v u) (so.enc y').r us := all2_of (by simpa using hs'.size) fun i a b ha hb => by
        have := hs'.reg i a ha
        have hb' : (us.toArray).getD i undef = b := by
          obtain ⟨q1, q2⟩ := List.getElem?_eq_some_iff.1 hb
          simp [q1, q2]
        simp only at this
        rwa [hb'] at this
      have hR := decSs_rel h2 (sumsV_rel h1 hall)
      exact ⟨us, rfl, hs'.heap.os, hs'.heap.tape, hs'.heap.output, ⟨hs'.heap.size, fun b hb _ => hs'.heap.frame b hb (fun h => h)⟩, hR.mono (Keep.refl _ w') fun b _ hb => .inl hb⟩
    · cases hF
  · cases hF
end Go.Dec
namespace Go.Dec
open Go.RowKit
theorem wpListIn_append_run {F : Fence} {n : Nat} {P : Program} (w : World) {ops : Array Oper} {rest : List Oper} {o : Oper} {a : Act} {Q : Exit → Act → World → Prop}
    (hg : o.guard = none) (s x : Operand) (t : TypeId) (hop : o.op = Op.call { callee := Callee.builtin Builtin.append, args := #[s, x], argTypes := #[t, t] }) {v' : Value} {w' : World} {u y : Value} (hs : a.eval s = u) (hx : a.eval x = y)
    (hrun : (Builtin.append_ #[t, t] o.type #[u, y]).run P w = .ok v' w') (hK : wpListIn F n P ops Q rest (a.put o.dst v') w') : wpListIn F n P ops Q (o :: rest) a w := by
  refine wpListIn_plain hg fun K hK' => ?_
  unfold Oper.wpIn
  refine ⟨?_, ?_⟩
  · simp [Oper.about, hop, resolve, Target.leads, Sem.run_pure]
  · rw [Oper.semAt_plain F _ _ (by rw [hop]; intro c hc'; cases hc')]
    simp [execOp, hop, resolve, invoke, builtin, hs, hx, hrun, Result.andThen]
    exact hK' _ _ hK
def cloneBody (t tb : TypeId) (p0 p1 p2 p3 p4 p5 p6 p7 : String) : Code :=
  .seq (.region 0 #[{ dst := some 2, op := .assign (.const (.slice none 0 0)), type := t, pos := p0, after := #[], guard := none }] false)
  (.seq (.seq (.region 1 #[{ dst := some 3, op := .move (.tmp 0), type := t, pos := p1, after := #[], guard := none },
      { dst := some 4, op := .binOp .eql t (.tmp 3) (.const (.slice none 0 0)) t, type := tb, pos := p2, after := #[{ on := 0, ground := .data }], guard := none }] false)
    (.cond (.tmp 4) (.seq (.region 2 #[{ dst := some 2, op := .assign (.const (.slice none 0 0)), type := t, pos := p3, after := #[], guard := none }] false) .ret) .skip))
  (.seq (.region 3 #[{ dst := some 5, op := .buildSlice t 0 #[], type := t, pos := p4, after := #[], guard := none },
      { dst := some 6, op := .move (.tmp 0), type := t, pos := p5, after := #[], guard := none },
      { dst := some 7, op := .call { callee := .builtin .append, args := #[.tmp 5, .tmp 6], argTypes := #[t, t] }, type := t, pos := p6, after := #[{ on := 0, ground := .data }, { on := 1, ground := .data }], guard := none },
      { dst := some 2, op := .assign (.tmp 7), type := t, pos := p7, after := #[{ on := 2, ground := .data }, { on := 2, ground := .chain }, { on := 0, ground := .phase }, { on := 1, ground := .phase }, { on := 2, ground := .phase }], guard := none }] false) .ret))
section
variable {P : Program} {f : FuncId} {fn : Func} {t tb e : TypeId} {p0 p1 p2 p3 p4 p5 p6 p7 : String}
set_option maxHeartbeats 1000000 in
set_option maxRecDepth 100000 in
theorem clone_nil (hf : P.funcs[f]? = some fn) (hb : fn.body = some (cloneBody t tb p0 p1 p2 p3 p4 p5 p6 p7)) (hn : fn.ntmps = 8) (hr : fn.results = #[.tmp 2]) (hu : P.underlying t = some (.slice e)) (w : World) :
    Calls P f #[.slice none 0 0] w fun e w' => e = .returned (.slice none 0 0) ∧ w' = w := by
  have u1 := run_underlying hu
  refine (callsIn_wide (n := 1)).1 ?_
  refine callsIn_of_wp hf hb trivial ?_ rfl
  unfold cloneBody
  simp only [hn, List.size_toArray, List.length_cons, List.length_nil, Nat.reduceAdd, Nat.reduceSub, Array.replicate_succ, Array.replicate_zero, List.push_toArray, List.append_toArray, List.nil_append, List.cons_append]
  gi_wp2
  rw [Lib.run_eql_slice_nil w t e none 0 0 0 0 hu]
  gi_wp2
  refine bodyPost_ret (results_tmp hr _ _ _) rfl ?_
  exact ⟨rfl, rfl⟩
set_option maxHeartbeats 1000000 in
set_option maxRecDepth 100000 in
theorem clone_some (hf : P.funcs[f]? = some fn) (hb : fn.body = some (cloneBody t tb p0 p1 p2 p3 p4 p5 p6 p7)) (hn : fn.ntmps = 8) (hr : fn.results = #[.tmp 2]) (hu : P.underlying t = some (.slice e)) (w : World) (ad : Addr) (k c : Nat) {v' : Value} {w' : World}
    {sz : Nat} (hz : ∀ w, (Go.sizeOf e).run P w = .ok sz w)
    (hrun : (Builtin.append_ #[t, t] t #[.slice (some ⟨w.heap.size, 0, none⟩) 0 0, .slice (some ad) k c]).run P (w.alloc (.cells #[] e)) = .ok v' w') :
    Calls P f #[.slice (some ad) k c] w fun e W => e = .returned v' ∧ W = w' := by
  have u1 := run_underlying hu
  refine (callsIn_wide (n := 1)).1 ?_
  refine callsIn_of_wp hf hb trivial ?_ rfl
  unfold cloneBody
  simp only [hn, List.size_toArray, List.length_cons, List.length_nil, Nat.reduceAdd, Nat.reduceSub, Array.replicate_succ, Array.replicate_zero, List.push_toArray, List.append_toArray, List.nil_append, List.cons_append]
  gi_wp2
  rw [Lib.run_eql_slice_nil w t e (some ad) k c 0 0 hu]
  gi_wp2_with (gi_at_builtin; refine wpListIn_append_run _ rfl _ _ t rfl rfl rfl hrun ?_)
  refine bodyPost_ret (results_tmp hr _ _ _) rfl ?_
  exact ⟨rfl, rfl⟩
abbrev cloneI (te : Ty) : Sh := ⟨1, [⟨0, false, [.v (.slice te)]⟩], []⟩
abbrev cloneO (e : TypeId) (te : Ty) : Sh := ⟨1, [⟨0, false, [.own 0]⟩], [.row e te]⟩
def cloneG {α : Type} (bytes : Nat) (x : List α × Unit) : Option (List α × Unit) := chk (Nat.ble (x.1.length * bytes) room) (some x)
theorem clone_meets {T : Tab} {te : Ty} {ts ti : TI} (hf : P.funcs[f]? = some fn) (hb : fn.body = some (cloneBody t tb p0 p1 p2 p3 p4 p5 p6 p7)) (hn : fn.ntmps = 8) (hr : fn.results = #[.tmp 2]) (hu : P.underlying t = some (.slice e)) (hh : hasBody P f = true)
    (hT : TabOK P T) (hts : T.get t = some ts) (hk : ts.k = .slice e) (hti : T.get e = some ti) (hsz : ti.size = te.size) (hpos : 0 < te.size) (hby : 0 < ti.bytes)
    (hen : ∀ rows : List te.den, enter T (cloneO e te) [.gc [0]] ⟨[.one (.own 0 1)], [.arr e te 1 rows true]⟩ (fun y => some y) = some (rows, ())) :
    Meets P f (cloneI te) (cloneO e te) (cloneG (α := te.den) ti.bytes) := by
  refine ⟨hh, fun x y hF C β w xs hP hkf hs => ?_⟩
  obtain ⟨hroom, hy⟩ := chk_some hF
  obtain rfl := Option.some.inj hy
  obtain ⟨rows, x0⟩ := x
  have hroom := Nat.le_of_ble_eq_true hroom
  simp only at hroom
  have hE : (cloneI te).enc (rows, x0) = ⟨[.one (.val (.slice te) rows)], []⟩ := rfl
  have hE2 : (cloneO e te).enc (rows, x0) = ⟨[.one (.own 0 0)], [.arr e te 0 rows true]⟩ := rfl
  rw [hE] at hs
  subst hP
  have hrg := hs.reg 0 _ rfl
  have hsize := hs.size
  obtain ⟨u, rfl⟩ : ∃ u, xs = [u] := List.length_eq_one_iff.1 (by simpa using hsize.symm)
  have hlie : LieAt w (C.N β []) te rows u := rowsOf_rel (h := []) (te := te) (x := .val (.slice te) rows) (ys := rows) hs.heap (by simp [rowsOf]) hrg
  have one : ∀ {β' : Nat → Pl} {W : World} {v : Value} {k : Nat}, HSim C β' [.arr e te k rows true] W → (L.own 0 k).Rel β' W (C.N β' [.arr e te k rows true]) [v] → Sim C β' ⟨[.one (.own 0 k)], [.arr e te k rows true]⟩ { tmps := #[v], defers := [] } W := fun h1 h2 => ⟨h1, rfl, rfl, fun i q hq => by
    match i, hq with
    | 0, hq => obtain rfl := Option.some.inj hq; exact h2
    | i + 1, hq => simp at hq⟩
  rw [hE2]
  have fin : ∀ (ad : Addr) (k c : Nat), u = .slice (some ad) k c → Calls C.P f #[u] w fun e' w' => ∃ us β', e' = Ending.returned (retVal us) ∧ Sim C β' ⟨[.one (.own 0 0)], [.arr e te 0 rows true]⟩ { tmps := us.toArray, defers := [] } w' := by
    rintro ad k c rfl
    obtain ⟨β1, m1, s1, r1⟩ := newArr (e := e) (t := te) (rows := []) (css := []) (cs := #[]) hs hpos trivial rfl (Nat.zero_le _)
    simp only [List.nil_append, List.length_nil] at s1 r1
    have hob := s1.heap.obj 0 _ rfl
    simp only [Ob.Rel] at hob
    obtain ⟨q1, q2, q3, q4, q5, q6, _⟩ := hob
    simp only [L.Rel] at r1
    obtain ⟨_, _, _, c1, hc1, _, himp⟩ := r1
    have hso := himp q3
    simp only [List.cons.injEq, and_true] at hc1
    subst hc1
    rw [q6] at hso
    have hlie' : LieAt (w.alloc (.cells #[] e)) (C.N β1 [.arr e te 0 [] true]) te rows (.slice (some ad) k c) := rowsOf_rel (te := te) (x := .val (.slice te) rows) (ys := rows) s1.heap (by simp [rowsOf]) (s1.reg 0 _ rfl)
    obtain ⟨v', w', β2, g1, g2, g3, g4, g5⟩ := appendOwn_run (te := te) (ys := rows) (n := 0) t hT hts hk hti hsz hby (by simpa using hroom) s1 rfl (Nat.le_refl _) hso hlie'
    refine (clone_some hf hb hn hr hu w ad k c (sz := te.size) (fun w => by rw [← hsz]; exact (hT _ _ hti).sizeOf) g1).mono ?_
    rintro e' W ⟨rfl, rfl⟩
    obtain ⟨β3, _, x3, s4, hx⟩ := enter_sim (sh := cloneO e te) (co := [.gc [0]]) (g := fun y => some y) (r := (rows, x0)) hT hkf rfl (hen rows) (one g3.heap g4)
    obtain rfl := Option.some.inj hx
    exact ⟨[_], β3, rfl, s4⟩
  rcases hlie with ⟨rfl, rfl⟩ | ⟨b, off, cap, css, rfl, hle, hall, hcs⟩ | ⟨ad, cap, rfl, rfl⟩
  · refine (clone_nil hf hb hn hr hu w).mono ?_
    rintro e' w' ⟨rfl, rfl⟩
    obtain ⟨β', h1, h2, h3⟩ := newArrNil (e := e) (t := te) hs hpos
    exact ⟨[_], β', rfl, one h2.heap h3⟩
  · exact fin _ _ _ rfl
  · exact fin _ _ _ rfl
end
end Go.Dec
namespace Go.Dec
section
variable {C : Ctx} {β : Nat → Pl} {w w1 : World} {h : List Ob} {σ : St} {a : Act}
def ctxN (C : Ctx) (β : Nat → Pl) (h : List Ob) (w w1 : World) (N : Nat) (hs : HSim C β h w) (hk : Keep (fun _ => False) w w1) : Ctx where
  P := C.P
  N0 b := C.N0 b ∨ b = N
  w0 := w1
  own0 b := ∃ (i : Nat) (o : Ob), h[i]? = some o ∧ (β i).blk = some b
  glob w' hw := C.glob w' fun b hb hn => by
    have hlt := Nat.lt_of_lt_of_le hb hs.size
    rw [hw b (Nat.lt_of_lt_of_le hlt hk.size) (fun hm => ?_), hk.block b hlt (fun h => h)]
    · exact hs.frame b hb hn
    · obtain ⟨i, o, ho, hbk⟩ := hm
      rcases (hs.fresh i o b ho hbk).2.2 with h1 | h1
      · omega
      · exact hn h1
  fix := C.fix
theorem Sim.inN {N : Nat} (hs : Sim C β σ a w) (hk : Keep (fun _ => False) w w1) (hN : w.heap.size ≤ N) (hN1 : N < w1.heap.size) : Sim (ctxN C β σ.h w w1 N hs.heap hk) β σ a w1 := by
  have hsub : ∀ b, b < w.heap.size → (ctxN C β σ.h w w1 N hs.heap hk).N β σ.h b → C.N β σ.h b := fun b hb h => by
    rcases h with h | h
    · rcases h with h | h
      · exact .inl h
      · omega
    · exact .inr h
  have hkw : Keep (C.N β σ.h) w w1 := hk.weaken fun _ h => h.elim
  refine ⟨⟨fun id o ho => (hs.heap.obj id o ho).mono (Moves.refl β) hkw hsub fun b hb => hk.block b (hs.heap.fresh id o b ho hb).2.1 (fun h => h), hs.heap.dead, hs.heap.apart, fun id o b ho hb => ?_, fun b hb => ?_, fun _ _ _ => rfl, Nat.le_refl _, rfl, rfl, rfl, hs.heap.fixed⟩, hs.defers, hs.size, fun i u hu => (hs.reg i u hu).mono (Moves.refl β) hkw hsub⟩
  · obtain ⟨k1, k2, k3⟩ := hs.heap.fresh id o b ho hb
    refine ⟨fun h => ?_, Nat.lt_of_lt_of_le k2 hk.size, .inr ⟨id, o, ho, hb⟩⟩
    rcases h with h | h
    · exact k1 h
    · omega
  · rcases hb with hb | rfl
    · exact Nat.lt_of_lt_of_le (Nat.lt_of_lt_of_le (hs.heap.n0 b hb) hs.heap.size) hk.size
    · exact hN1
theorem Sim.outN {N : Nat} {hs : HSim C β h w} {hk : Keep (fun _ => False) w w1} {β' : Nat → Pl} {σ' : St} {a' : Act} {w2 w3 : World} (hN : w.heap.size ≤ N) (hN1 : N < w1.heap.size)
    (h2 : Sim (ctxN C β h w w1 N hs hk) β' σ' a' w2) (h3 : Keep (fun b => b = N) w2 w3) (ho : w3.os = C.w0.os) (ht : w3.tape = C.w0.tape) (hout : w3.output = C.w0.output) : Sim C β' σ' a' w3 := by
  have hsub : ∀ b, b < w2.heap.size → C.N β' σ'.h b → (ctxN C β h w w1 N hs hk).N β' σ'.h b := fun b _ h => by
    rcases h with h | h
    · exact .inl (.inl h)
    · exact .inr h
  have hNn : (ctxN C β h w w1 N hs hk).N β' σ'.h N := .inl (.inr rfl)
  have hkw : Keep ((ctxN C β h w w1 N hs hk).N β' σ'.h) w2 w3 := h3.weaken fun b hb => hb ▸ hNn
  have hbk : ∀ id o b, σ'.h[id]? = some o → (β' id).blk = some b → b ≠ N := fun id o b ho hb e => (h2.heap.fresh id o b ho hb).1 (.inr e)
  refine ⟨⟨fun id o ho => (h2.heap.obj id o ho).mono (Moves.refl β') hkw hsub fun b hb => h3.block b (h2.heap.fresh id o b ho hb).2.1 (hbk id o b ho hb), h2.heap.dead, h2.heap.apart, fun id o b ho hb => ?_, hs.n0, fun b hb hn => ?_, ?_, ho, ht, hout, h2.heap.fixed⟩, h2.defers, h2.size, fun i u hu => (h2.reg i u hu).mono (Moves.refl β') hkw hsub⟩
  · obtain ⟨k1, k2, k3⟩ := h2.heap.fresh id o b ho hb
    refine ⟨fun h => k1 (.inl h), Nat.lt_of_lt_of_le k2 h3.size, ?_⟩
    rcases k3 with k3 | ⟨i, o', ho', hb'⟩
    · exact .inl (Nat.le_trans (Nat.le_trans hs.size hk.size) k3)
    · exact (hs.fresh i o' b ho' hb').2.2
  · have hlt := Nat.lt_of_lt_of_le hb hs.size
    rw [h3.block b (Nat.lt_of_lt_of_le (Nat.lt_of_lt_of_le hlt hk.size) h2.heap.size) (by omega), h2.heap.frame b (Nat.lt_of_lt_of_le hlt hk.size) (fun hm => ?_)]
    · exact (hk.block b hlt (fun h => h)).trans (hs.frame b hb hn)
    · obtain ⟨i, o', ho', hb'⟩ := hm
      rcases (hs.fresh i o' b ho' hb').2.2 with h1 | h1
      · omega
      · exact hn h1
  · exact Nat.le_trans (Nat.le_trans (Nat.le_trans hs.size hk.size) h2.heap.size) h3.size
end
end Go.Dec
