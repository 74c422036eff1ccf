/- The part Q: code, loops, whole functions. No statement is proved here. -/
import Derived.Test.YtpehkjgbhnegmaaDecU
import Derived.Test.YtpehkjgbhnegmaaDecS
import Derived.LoopN
import Derived.ScopeJumps
namespace Go.Dec

/-- What is told of a piece of code ahead of a run: where states are made plainer, and what stands for a loop. -/
inductive An (ρ : Type) where
  | nil
  | mk (l r : An ρ) (c : List Co)
  | loop (sh : Sh) (c0 c1 : List Co) (n : Nat) (a : An ρ)
  /-- a scope with a label that is jumped to: its body, and what stands behind the label -/
  | scope (l : Nat) (a b : An ρ)
  | sem (f : Sem' ρ)

def An.l {ρ : Type} : An ρ → An ρ
  | .mk l _ _ => l
  | .scope _ a _ => a
  | _ => .nil
def An.r {ρ : Type} : An ρ → An ρ
  | .mk _ r _ => r
  | _ => .nil
def An.c {ρ : Type} : An ρ → List Co
  | .mk _ _ c => c
  | _ => []

/-- A typed loop: 'B' is what one round does; at most so many rounds. -/
def fix {ρ α : Type} (B : (α → Option ρ) → α → Option ρ) : Nat → α → Option ρ
  | 0, _ => none
  | n + 1, x => B (fix B n) x

/-- Into a shape. -/
def enter {ρ : Type} (T : Tab) (sh : Sh) (co : List Co) (σ : St) (g : sh.X → Option ρ) : Option ρ :=
  norm T co σ fun σ1 => match sh.dec σ1 with
    | some x => g x
    | none => none

def An.plain {ρ : Type} : An ρ → Bool
  | .nil => true
  | .mk l r _ => l.plain && r.plain
  | .loop _ _ _ _ a => a.plain
  | .scope _ a _ => a.plain
  | .sem _ => false

section ev
variable {ρ : Type} (Γ : Orc ρ) (T : Tab)

def semOr (an : An ρ) (σ : St) (k : K ρ) (d : Option ρ) : Option ρ :=
  match an with
  | .sem f => f σ k
  | _ => d

def evG (J : Code → Nat → An ρ → Sem' ρ) : Code → An ρ → St → K ρ → Option ρ
  | .skip, an, σ, k => semOr an σ k (k .normal σ)
  | .region _ ops d, an, σ, k => semOr an σ k (match d with
      | false => evOps Γ T ops ops.toList σ k
      | true => evDrawn Γ T ops σ k)
  | .seq a b, an, σ, k => semOr an σ k (evG J a an.l σ fun e σ' => match e with
      | .normal => norm T an.c σ' fun σ2 => evG J b an.r σ2 k
      | e => k e σ')
  | .cond c a b, an, σ, k => semOr an σ k (match ovl σ c with
      | .one (.val .bool t) => br t (evG J a an.l σ k) (evG J b an.r σ k)
      | _ => none)
  | .block id a, an, σ, k => semOr an σ k (evG J a an.l σ fun e σ' => match e with
      | .normal => norm T an.c σ' (k .normal)
      | .exit i => match Nat.beq i id with
        | true => norm T an.c σ' (k .normal)
        | false => k (.exit i) σ'
      | e => k e σ')
  | .scope a, an, σ, k => semOr an σ k (evG J a an.l σ fun e σ' => match e with
      | .goto l => match an with
        | .scope l0 _ b => match Nat.beq l l0 with
          | true => J a l0 b σ' fun e σ2 => match e with
            | .goto _ => none
            | e => k e σ2
          | false => none
        | _ => none
      | e => k e σ')
  | .loop b, an, σ, k => semOr an σ k (match an with
      | .loop sh c0 c1 n a => enter T sh c0 σ fun x => fix (fun g x => evG J b a (sh.enc x) fun e σ' => match e with
        | .normal => enter T sh c1 σ' g
        | e => k e σ') n x
      | _ => none)
  | .exit id, an, σ, k => semOr an σ k (k (.exit id) σ)
  | .goto l, an, σ, k => semOr an σ k (k (.goto l) σ)
  | .label _, an, σ, k => semOr an σ k (k .normal σ)
  | .ret, an, σ, k => semOr an σ k (k .ret σ)
  | _, an, σ, k => semOr an σ k none

/-- Without jumps. -/
def ev0 : Code → An ρ → St → K ρ → Option ρ := evG Γ T fun _ _ _ _ _ => none

/-- Behind a label. -/
def jump1 (a : Code) (l : Nat) (an : An ρ) : Sem' ρ := fun σ k =>
  match findLabel a l with
  | some rest =>
    match an.plain with
    | true => ev0 Γ T rest an σ k
    | false => none
  | none => none

/-- The symbolic run of code. -/
def ev : Code → An ρ → St → K ρ → Option ρ := evG Γ T (jump1 Γ T)
end ev

def SemOK (P : Program) {ρ : Type} (c : Code) (f : Sem' ρ) : Prop := ∀ (σ : St) (k : K ρ) (r : ρ), f σ k = some r → ∀ (C : Ctx) (β : Nat → Pl) (a : Act) (w : World) (Q : Exit → Act → World → Prop), C.P = P → Sim C β σ a w →
  (∀ e x σ' β' a' w', Sim C β' σ' a' w' → ExRel β' w' (C.N β' σ'.h) e x → k e σ' = some r → Q x a' w') → c.wp P Q a w

def AnOK (P : Program) {ρ : Type} : Code → An ρ → Prop
  | c, .sem f => SemOK P c f
  | .seq a b, an => AnOK P a an.l ∧ AnOK P b an.r
  | .cond _ a b, an => AnOK P a an.l ∧ AnOK P b an.r
  | .block _ a, an => AnOK P a an.l
  | .scope a, an => AnOK P a an.l
  | .loop b, .loop _ _ _ _ a => AnOK P b a
  | _, _ => True

section sound
variable {ρ : Type} {Γ : Orc ρ} {T : Tab} {P : Program}

theorem semOr_some {an : An ρ} {σ : St} {k : K ρ} {d : Option ρ} {r : ρ} (h : semOr an σ k d = some r) : (∃ f, an = .sem f ∧ f σ k = some r) ∨ ((∀ f, an ≠ .sem f) ∧ d = some r) := by
  cases an with
  | sem f => exact .inl ⟨f, rfl, h⟩
  | nil => exact .inr ⟨by simp, h⟩
  | mk l r c => exact .inr ⟨by simp, h⟩
  | loop sh c0 c1 n a => exact .inr ⟨by simp, h⟩
  | scope l a b => exact .inr ⟨by simp, h⟩

theorem AnOK.sem {c : Code} {f : Sem' ρ} (h : AnOK P c (.sem f)) : SemOK P c f := by
  cases c <;> exact h

theorem region_ok (hT : TabOK P T) (hΓ : OrcOK P Γ) (id : Nat) (ops : Array Oper) : SemOK P (.region id ops false) (fun σ k => evOps Γ T ops ops.toList σ k) := by
  intro σ k r h C β a w Q hP hs hq
  subst hP
  refine wp_region ?_
  rw [show List.range ops.size = List.range' 0 ops.toList.length by simp [List.range_eq_range'], wpOps_eq_wpList ops.toList 0 (by simp)]
  exact evOps_sound hT hΓ hq ops.toList β σ a w h hs

theorem enter_sim {C : Ctx} {β : Nat → Pl} {σ : St} {a : Act} {w : World} {sh : Sh} {co : List Co} {g : sh.X → Option ρ} {r : ρ} (hT : TabOK C.P T) (h : enter T sh co σ g = some r) (hs : Sim C β σ a w) :
    ∃ (β' : Nat → Pl) (σ' : St) (x : sh.X), Sim C β' (sh.enc x) a w ∧ g x = some r := by
  obtain ⟨β2, σ2, hs2, hk2⟩ := norm_sim hT h hs
  split at hk2
  · rename_i x hx
    exact ⟨β2, σ2, x, dec_sim hx hs2, hk2⟩
  · cases hk2

theorem evG_sound {J : Code → Nat → An ρ → Sem' ρ} (hT : TabOK P T) (hΓ : OrcOK P Γ) (hm : P.follows .mixedOrders = true) (hJ : ∀ a l an, (∀ rest, findLabel a l = some rest → SemOK P rest (J a l an)) ∧ (findLabel a l = none → ∀ σ k r, J a l an σ k ≠ some r)) : ∀ (c : Code) (an : An ρ), AnOK P c an → SemOK P c (evG Γ T J c an)
  | .skip, an, ha => by
    intro σ k r h C β a w Q hP hs hq
    rcases semOr_some h with ⟨f, rfl, hf⟩ | ⟨_, hd⟩
    · exact ha.sem σ k r hf C β a w Q hP hs hq
    · exact wp_skip (hq .normal .normal σ β a w hs rfl hd)
  | .region id ops d, an, ha => by
    intro σ k r h C β a w Q hP hs hq
    rcases semOr_some h with ⟨f, rfl, hf⟩ | ⟨_, hd⟩
    · exact ha.sem σ k r hf C β a w Q hP hs hq
    · cases d with
      | false => exact region_ok hT hΓ id ops σ k r hd C β a w Q hP hs hq
      | true =>
        subst hP
        exact drawn_ok hT hΓ hm hq hd hs
  | .seq x y, an, ha => by
    intro σ k r h C β a w Q hP hs hq
    rcases semOr_some h with ⟨f, rfl, hf⟩ | ⟨hne, hd⟩
    · exact ha.sem σ k r hf C β a w Q hP hs hq
    · have ha' : AnOK P x an.l ∧ AnOK P y an.r := by cases an <;> first | exact absurd rfl (hne _) | exact ha
      refine wp_seq (evG_sound hT hΓ hm hJ x an.l ha'.1 σ _ r hd C β a w _ hP hs ?_)
      intro e ex σ' β' a' w' hs' hx hk
      cases e with
      | normal =>
        obtain rfl := hx
        obtain ⟨β2, σ2, hs2, hk2⟩ := norm_sim (hP ▸ hT : TabOK C.P T) hk hs'
        exact evG_sound hT hΓ hm hJ y an.r ha'.2 σ2 k r hk2 C β2 a' w' Q hP hs2 hq
      | exit i => obtain rfl := hx; exact hq (.exit i) _ σ' β' a' w' hs' rfl hk
      | goto l => obtain rfl := hx; exact hq (.goto l) _ σ' β' a' w' hs' rfl hk
      | ret => obtain rfl := hx; exact hq .ret _ σ' β' a' w' hs' rfl hk
      | pan t v => have hx' := hx; obtain ⟨z, rfl, _⟩ := hx; exact hq (.pan t v) _ σ' β' a' w' hs' hx' hk
  | .cond c x y, an, ha => by
    intro σ k r h C β a w Q hP hs hq
    rcases semOr_some h with ⟨f, rfl, hf⟩ | ⟨hne, hd⟩
    · exact ha.sem σ k r hf C β a w Q hP hs hq
    · have ha' : AnOK P x an.l ∧ AnOK P y an.r := by cases an <;> first | exact absurd rfl (hne _) | exact ha
      split at hd
      · rename_i t ht
        have hc := ovl_rel hs c
        rw [ht] at hc
        simp only [V.Rel, L.Rel, Ty.Rel, List.cons.injEq, and_true] at hc
        rcases br_some hd with ⟨rfl, h1⟩ | ⟨rfl, h1⟩
        · exact wp_cond_true hc (evG_sound hT hΓ hm hJ x an.l ha'.1 σ k r h1 C β a w Q hP hs hq)
        · exact wp_cond_false hc (evG_sound hT hΓ hm hJ y an.r ha'.2 σ k r h1 C β a w Q hP hs hq)
      · cases hd
  | .block id x, an, ha => by
    intro σ k r h C β a w Q hP hs hq
    rcases semOr_some h with ⟨f, rfl, hf⟩ | ⟨hne, hd⟩
    · exact ha.sem σ k r hf C β a w Q hP hs hq
    · have ha' : AnOK P x an.l := by cases an <;> first | exact absurd rfl (hne _) | exact ha
      refine wp_block (evG_sound hT hΓ hm hJ x an.l ha' σ _ r hd C β a w _ hP hs ?_)
      intro e ex σ' β' a' w' hs' hx hk
      cases e with
      | normal =>
        obtain rfl := hx
        obtain ⟨β2, σ2, hs2, hk2⟩ := norm_sim (hP ▸ hT : TabOK C.P T) hk hs'
        exact hq .normal .normal σ2 β2 a' w' hs2 rfl hk2
      | exit i =>
        obtain rfl := hx
        simp only at hk
        split at hk
        · rename_i hb
          have hb := Nat.eq_of_beq_eq_true hb
          subst hb
          obtain ⟨β2, σ2, hs2, hk2⟩ := norm_sim (hP ▸ hT : TabOK C.P T) hk hs'
          simp only [Exit.inBlock, if_true]
          exact hq .normal .normal σ2 β2 a' w' hs2 rfl hk2
        · rename_i hb
          have hne : i ≠ id := fun e => by rw [e, Nat.beq_refl] at hb; cases hb
          simp only [Exit.inBlock, hne, if_false]
          exact hq (.exit i) _ σ' β' a' w' hs' rfl hk
      | goto l => obtain rfl := hx; exact hq (.goto l) _ σ' β' a' w' hs' rfl hk
      | ret => obtain rfl := hx; exact hq .ret _ σ' β' a' w' hs' rfl hk
      | pan t v => have hx' := hx; obtain ⟨z, rfl, _⟩ := hx; exact hq (.pan t v) _ σ' β' a' w' hs' hx' hk
  | .scope x, an, ha => by
    intro σ k r h C β a w Q hP hs hq
    rcases semOr_some h with ⟨f, rfl, hf⟩ | ⟨hne, hd⟩
    · exact ha.sem σ k r hf C β a w Q hP hs hq
    · have ha' : AnOK P x an.l := by cases an <;> first | exact absurd rfl (hne _) | exact ha
      by_cases hsc : ∃ l0 x' b rest, an = .scope l0 x' b ∧ findLabel x l0 = some rest
      · obtain ⟨l0, x', b, rest, rfl, hfl⟩ := hsc
        refine wp_scope_jumps l0 (fun a' w' => ∃ β' σ', Sim C β' σ' a' w' ∧ (J x l0 b σ' fun e σ2 => match e with | .goto _ => none | e => k e σ2) = some r) (fun _ _ => 0) hfl ?_ ?_
        · refine evG_sound hT hΓ hm hJ x _ ha' σ _ r hd C β a w _ hP hs ?_
          intro e ex σ' β' a' w' hs' hx hk
          cases e with
          | normal => obtain rfl := hx; exact hq .normal _ σ' β' a' w' hs' rfl hk
          | exit i => obtain rfl := hx; exact hq (.exit i) _ σ' β' a' w' hs' rfl hk
          | goto l =>
            obtain rfl := hx
            simp only at hk
            split at hk
            · rename_i hb
              exact ⟨Nat.eq_of_beq_eq_true hb, β', σ', hs', hk⟩
            · cases hk
          | ret => obtain rfl := hx; exact hq .ret _ σ' β' a' w' hs' rfl hk
          | pan t v => have hx' := hx; obtain ⟨z, rfl, _⟩ := hx; exact hq (.pan t v) _ σ' β' a' w' hs' hx' hk
        · rintro a1 w1 ⟨β1, σ1, hs1, h1⟩
          refine (hJ x l0 b).1 rest hfl σ1 _ r h1 C β1 a1 w1 _ hP hs1 ?_
          intro e ex σ' β' a' w' hs' hx hk
          cases e with
          | normal => obtain rfl := hx; exact hq .normal _ σ' β' a' w' hs' rfl hk
          | exit i => obtain rfl := hx; exact hq (.exit i) _ σ' β' a' w' hs' rfl hk
          | goto l => cases hk
          | ret => obtain rfl := hx; exact hq .ret _ σ' β' a' w' hs' rfl hk
          | pan t v => have hx' := hx; obtain ⟨z, rfl, _⟩ := hx; exact hq (.pan t v) _ σ' β' a' w' hs' hx' hk
      · refine wp_scope_straight (evG_sound hT hΓ hm hJ x an.l ha' σ _ r hd C β a w _ hP hs ?_)
        intro e ex σ' β' a' w' hs' hx hk
        cases e with
        | normal => obtain rfl := hx; exact hq .normal _ σ' β' a' w' hs' rfl hk
        | exit i => obtain rfl := hx; exact hq (.exit i) _ σ' β' a' w' hs' rfl hk
        | goto l =>
          exfalso
          simp only at hk
          split at hk
          · rename_i l0 x' b
            split at hk
            · cases hfl : findLabel x l0 with
              | none => exact (hJ x l0 b).2 hfl _ _ _ hk
              | some rest => exact hsc ⟨l0, x', b, rest, rfl, hfl⟩
            · cases hk
          · cases hk
        | ret => obtain rfl := hx; exact hq .ret _ σ' β' a' w' hs' rfl hk
        | pan t v => have hx' := hx; obtain ⟨z, rfl, _⟩ := hx; exact hq (.pan t v) _ σ' β' a' w' hs' hx' hk
  | .loop x, an, ha => by
    intro σ k r h C β a w Q hP hs hq
    rcases semOr_some h with ⟨f, rfl, hf⟩ | ⟨hne, hd⟩
    · exact ha.sem σ k r hf C β a w Q hP hs hq
    · cases an with
      | loop sh c0 c1 n an' =>
        have ha' : AnOK P x an' := ha
        have hT' : TabOK C.P T := hP ▸ hT
        refine wp_loop_rounds n ?_
        obtain ⟨β1, σ1, x1, hs1, h1⟩ := enter_sim hT' hd hs
        clear hd hs h hne ha
        revert x1 β1 a w
        induction n with
        | zero => intro a w β1 x1 _ h; cases h
        | succ n ih =>
          intro a w β1 x1 hs1 h1
          rw [rounds_succ]
          refine evG_sound hT hΓ hm hJ x an' ha' _ _ r h1 C β1 a w _ hP hs1 ?_
          intro e ex σ' β' a' w' hs' hx hk
          cases e with
          | normal =>
            obtain rfl := hx
            obtain ⟨β2, σ2, x2, hs2, hk2⟩ := enter_sim hT' hk hs'
            exact ih a' w' β2 x2 hs2 hk2
          | exit i => obtain rfl := hx; exact hq (.exit i) _ σ' β' a' w' hs' rfl hk
          | goto l => obtain rfl := hx; exact hq (.goto l) _ σ' β' a' w' hs' rfl hk
          | ret => obtain rfl := hx; exact hq .ret _ σ' β' a' w' hs' rfl hk
          | pan t v => have hx' := hx; obtain ⟨z, rfl, _⟩ := hx; exact hq (.pan t v) _ σ' β' a' w' hs' hx' hk
      | _ => cases hd
  | .exit id, an, ha => by
    intro σ k r h C β a w Q hP hs hq
    rcases semOr_some h with ⟨f, rfl, hf⟩ | ⟨_, hd⟩
    · exact ha.sem σ k r hf C β a w Q hP hs hq
    · exact wp_exit (hq (.exit id) _ σ β a w hs rfl hd)
  | .goto l, an, ha => by
    intro σ k r h C β a w Q hP hs hq
    rcases semOr_some h with ⟨f, rfl, hf⟩ | ⟨_, hd⟩
    · exact ha.sem σ k r hf C β a w Q hP hs hq
    · exact wp_goto (hq (.goto l) _ σ β a w hs rfl hd)
  | .label l, an, ha => by
    intro σ k r h C β a w Q hP hs hq
    rcases semOr_some h with ⟨f, rfl, hf⟩ | ⟨_, hd⟩
    · exact ha.sem σ k r hf C β a w Q hP hs hq
    · exact wp_label (hq .normal _ σ β a w hs rfl hd)
  | .ret, an, ha => by
    intro σ k r h C β a w Q hP hs hq
    rcases semOr_some h with ⟨f, rfl, hf⟩ | ⟨_, hd⟩
    · exact ha.sem σ k r hf C β a w Q hP hs hq
    · exact wp_ret (hq .ret _ σ β a w hs rfl hd)
  | .rangeFunc g ps x y, an, ha => by
    intro σ k r h C β a w Q hP hs hq
    rcases semOr_some h with ⟨f, rfl, hf⟩ | ⟨_, hd⟩
    · exact ha.sem σ k r hf C β a w Q hP hs hq
    · cases hd
  | .refuse why, an, ha => by
    intro σ k r h C β a w Q hP hs hq
    rcases semOr_some h with ⟨f, rfl, hf⟩ | ⟨_, hd⟩
    · exact ha.sem σ k r hf C β a w Q hP hs hq
    · cases hd

theorem An.plain_l {ρ : Type} {an : An ρ} (h : an.plain = true) : an.l.plain = true := by
  cases an <;> simp_all [An.plain, An.l]
theorem An.plain_r {ρ : Type} {an : An ρ} (h : an.plain = true) : an.r.plain = true := by
  cases an <;> simp_all [An.plain, An.r]

theorem plain_ok {ρ : Type} : ∀ (c : Code) (an : An ρ), an.plain = true → AnOK P c an
  | .seq a b, an, h => by
    have := And.intro (plain_ok a an.l (An.plain_l h)) (plain_ok b an.r (An.plain_r h))
    cases an <;> first | (cases h; done) | exact this
  | .cond _ a b, an, h => by
    have := And.intro (plain_ok a an.l (An.plain_l h)) (plain_ok b an.r (An.plain_r h))
    cases an <;> first | (cases h; done) | exact this
  | .block _ a, an, h => by
    have := plain_ok a an.l (An.plain_l h)
    cases an <;> first | (cases h; done) | exact this
  | .scope a, an, h => by
    have := plain_ok a an.l (An.plain_l h)
    cases an <;> first | (cases h; done) | exact this
  | .loop b, an, h => by
    cases an with
    | loop sh c0 c1 n a => exact plain_ok b a h
    | sem f => cases h
    | _ => trivial
  | .skip, an, h => by cases an <;> first | (cases h; done) | trivial
  | .region .., an, h => by cases an <;> first | (cases h; done) | trivial
  | .exit _, an, h => by cases an <;> first | (cases h; done) | trivial
  | .goto _, an, h => by cases an <;> first | (cases h; done) | trivial
  | .label _, an, h => by cases an <;> first | (cases h; done) | trivial
  | .ret, an, h => by cases an <;> first | (cases h; done) | trivial
  | .rangeFunc .., an, h => by cases an <;> first | (cases h; done) | trivial
  | .refuse _, an, h => by cases an <;> first | (cases h; done) | trivial


theorem ev0_sound (hT : TabOK P T) (hΓ : OrcOK P Γ) (hm : P.follows .mixedOrders = true) (c : Code) (an : An ρ) (ha : AnOK P c an) : SemOK P c (ev0 Γ T c an) :=
  evG_sound hT hΓ hm (fun _ _ _ => ⟨fun _ _ σ k r h => (by cases h), fun _ σ k r h => (by cases h)⟩) c an ha

theorem ev_sound (hT : TabOK P T) (hΓ : OrcOK P Γ) (hm : P.follows .mixedOrders = true) (c : Code) (an : An ρ) (ha : AnOK P c an) : SemOK P c (ev Γ T c an) := by
  refine evG_sound hT hΓ hm (fun a l an' => ⟨fun rest hf σ k r h => ?_, fun hf σ k r h => ?_⟩) c an ha
  · unfold jump1 at h
    rw [hf] at h
    simp only at h
    split at h
    · rename_i hp
      exact ev0_sound hT hΓ hm rest an' (plain_ok rest an' hp) σ k r h
    · cases h
  · unfold jump1 at h
    rw [hf] at h
    cases h

/-! ### Functions -/

/-- A value that leans on nothing of the call's own, out of one that may. -/
def L.deep (h : List Ob) : L → Option (Bool × L)
  | .val t x => some (true, .val t x)
  | .nilp => some (true, .nilp)
  | .nils => some (true, .nils)
  | .rptr t x off => some (true, .rptr t x off)
  | .own id ver =>
    match h[id]? with
    | some (.arr _ t v rows _) => some (Nat.beq v ver, .val (.slice t) rows)
    | _ => none
  | .sl id ver off len =>
    match h[id]? with
    | some (.arr _ t v rows _) => some (Nat.beq v ver && Nat.ble (off + len) rows.length, .val (.slice t) ((rows.drop off).take len))
    | _ => none
  | .clo f [] => some (true, .clo f [])
  | _ => none

def deeps (h : List Ob) : List L → Option (Bool × List L)
  | [] => some (true, [])
  | l :: ls =>
    match l.deep h, deeps h ls with
    | some (c, x), some (d, r) => some (c && d, x :: r)
    | _, _ => none

def V.deep (h : List Ob) : V → Option (Bool × V)
  | .one l => match l.deep h with
    | some (c, x) => some (c, .one x)
    | none => none
  | .agg ls => match deeps h ls with
    | some (c, x) => some (c, .agg x)
    | none => none
  | _ => none

/-- The results of a function. -/
def resL (T : Tab) (σ : St) : ResultVar → Option (Bool × Sum L (List L))
  | .tmp t =>
    match (σ.r.getD t .poison).deep σ.h with
    | some (c, .one l) => some (c, .inl l)
    | some (c, .agg ls) => some (c, .inr ls)
    | _ => none
  | .cell t ty =>
    match σ.r.getD t .poison with
    | .one l =>
      match loadAt T σ.h ty l with
      | some (c, v) =>
        match v.deep σ.h with
        | some (d, .one l) => some (c && d, .inl l)
        | some (d, .agg ls) => some (c && d, .inr ls)
        | _ => none
      | none => none
    | _ => none

def resLs (T : Tab) (σ : St) : List ResultVar → Option (Bool × List (Sum L (List L)))
  | [] => some (true, [])
  | x :: r =>
    match resL T σ x, resLs T σ r with
    | some (c, l), some (d, ls) => some (c && d, l :: ls)
    | _, _ => none

def tupV : List (Sum L (List L)) → V
  | [.inl l] => .one l
  | [.inr ls] => .agg ls
  | vs => .tup vs

/-- Behind a function's body. -/
def retK (T : Tab) (res : List ResultVar) (σ : St) : Option V :=
  match resLs T σ res with
  | some (c, vs) => chk c (some (tupV vs))
  | none => none

def finK (T : Tab) (res : List ResultVar) : K V := fun e σ =>
  match e with
  | .normal => retK T res σ
  | .ret => retK T res σ
  | _ => none
end sound
end Go.Dec
