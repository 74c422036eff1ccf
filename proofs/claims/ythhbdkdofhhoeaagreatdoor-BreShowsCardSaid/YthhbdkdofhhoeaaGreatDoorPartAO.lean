/- Part of a proof over this seat: a library of my own, and what it says of this seat. No statement is proved here. -/
import Derived.Test.YthhbdkdofhhoeaaGreatDoorPartAN
import Derived.Test.YthhbdkdofhhoeaaGreatDoorPartAK
import Derived.LoopN
import Derived.ScopeJumps
namespace Go.Dec
inductive An (ρ : Type) where
 | nil
 | mk (l r : An ρ) (c : List Co)
 | loop (sh : Sh) (c0 c1 : List Co) (n : Nat) (a : An ρ)
 | scope (l : Nat) (a b : An ρ)
 | sem (f : zV ρ)
 | co (cs : List Co) (a : An ρ)
 | join (sh : Sh) (cs : List Co) (a : An ρ)
def An.l {ρ : Type} : An ρ -> An ρ
 | .mk l _ _ => l
 | .scope _ a _ => a
 | _ => .nil
def An.r {ρ : Type} : An ρ -> An ρ
 | .mk _ r _ => r
 | _ => .nil
def An.c {ρ : Type} : An ρ -> List Co
 | .mk _ _ c => c
 | _ => []
def fix {ρ α : Type} (B : (α -> Option ρ) -> α -> Option ρ) : Nat -> α -> Option ρ
 | 0, _ => none
 | n + 1, x => B (fix B n) x
def enter {ρ : Type} (T : Tab) (sh : Sh) (co : List Co) (σ : St) (g : sh.X -> Option ρ) : Option ρ :=
 norm T co σ fun σ1 => match sh.dec σ1 with
  | some x => g x
  | none => none
def An.plain {ρ : Type} : An ρ -> Bool
 | .nil => true
 | .mk l r _ => l.plain && r.plain
 | .loop _ _ _ _ a => a.plain
 | .scope _ a _ => a.plain
 | .sem _ => false
 | .co _ a => a.plain
 | .join _ _ a => a.plain
def An.fx {ρ : Type} (k : Nat) : An ρ -> Bool
 | .nil => true
 | .mk l r c => l.fx k && (r.fx k && bQ (Co.fx k) c)
 | .loop _ c0 c1 _ a => bQ (Co.fx k) c0 && (bQ (Co.fx k) c1 && a.fx k)
 | .scope _ a b => a.fx k && b.fx k
 | .sem _ => true
 | .co c a => bQ (Co.fx k) c && a.fx k
 | .join _ c a => bQ (Co.fx k) c && a.fx k
section ev
variable {ρ : Type} (Γ : Orc ρ) (T : Tab)
def qK (an : An ρ) (σ : St) (k : K ρ) (d : Option ρ) : Option ρ :=
 match an with
 | .sem f => f σ k
 | _ => d
def jn {ρ α : Type} (f : α -> Option ρ) (x : α) : Option ρ := f x
def evA (f : An ρ -> zV ρ) : An ρ -> zV ρ
 | .co cs a => fun σ k => norm T cs σ fun σ' => evA f a σ' k
 | .join sh cs a => fun σ k => evA f a σ fun e σ' => match e with
  | .normal => enter T sh cs σ' (jn fun x => k .normal (sh.enc x))
  | e => k e σ'
 | an => f an
def evG (J : Code -> Nat -> An ρ -> zV ρ) : Code -> An ρ -> St -> K ρ -> Option ρ
 | .skip, an, σ, k => qK an σ k (k .normal σ)
 | .region _ ops d, an, σ, k => qK an σ k (match d with
   | false => uF Γ T ops ops.toList σ k
   | true => Uq Γ T ops σ k)
 | .seq a b, an, σ, k => qK an σ k (evA T (evG J a) an.l σ fun e σ' => match e with
   | .normal => norm T an.c σ' fun σ2 => evA T (evG J b) an.r σ2 k
   | e => k e σ')
 | .cond c a b, an, σ, k => qK an σ k (match ovl σ c with
   | .one (.val .bool t) => br t (evA T (evG J a) an.l σ k) (evA T (evG J b) an.r σ k)
   | _ => none)
 | .block id a, an, σ, k => qK an σ k (evA T (evG J a) an.l σ fun e σ' => match e with
   | .normal => norm T an.c σ' (k .normal)
   | .exit i => match Nat.beq i id with
    | true => norm T an.c σ' (k .normal)
    | false => k (.exit i) σ'
   | e => k e σ')
 | .scope a, an, σ, k => qK an σ k (evA T (evG J a) an.l σ fun e σ' => match e with
   | .goto l => match an with
    | .scope l0 _ b => match Nat.beq l l0 with
     | true => J a l0 b σ' fun e σ2 => match e with
      | .goto _ => none
      | e => k e σ2
     | false => none
    | _ => none
   | e => k e σ')
 | .loop b, an, σ, k => qK an σ k (match an with
   | .loop sh c0 c1 n a => enter T sh c0 σ fun x => fix (fun g x => evA T (evG J b) a (sh.enc x) fun e σ' => match e with
    | .normal => enter T sh c1 σ' g
    | e => k e σ') n x
   | _ => none)
 | .exit id, an, σ, k => qK an σ k (k (.exit id) σ)
 | .goto l, an, σ, k => qK an σ k (k (.goto l) σ)
 | .label _, an, σ, k => qK an σ k (k .normal σ)
 | .ret, an, σ, k => qK an σ k (k .ret σ)
 | _, an, σ, k => qK an σ k none
def ev0 (c : Code) (an : An ρ) : zV ρ := evA T (evG Γ T (fun _ _ _ _ _ => none) c) an
def zFi (a : Code) (l : Nat) (an : An ρ) : zV ρ := fun σ k =>
 match findLabel a l with
 | some rest =>
  match an.plain with
  | true => ev0 Γ T rest an σ k
  | false => none
 | none => none
def ev (c : Code) (an : An ρ) : zV ρ := evA T (evG Γ T (zFi Γ T) c) an
end ev
def yS (P : Program) (kf : Nat) {ρ : Type} (c : Code) (f : zV ρ) : Prop := ∀ (σ : St) (k : K ρ) (r : ρ), f σ k = some r -> ∀ (C : Ctx) (β : Nat -> Pl) (a : Act) (w : World) (Q : Exit -> Act -> World -> Prop), C.P = P -> C.fix.length <= kf -> Sim C β σ a w ->
 (∀ e x σ' β' a' w', Sim C β' σ' a' w' -> Qx β' w' (C.N β' σ'.h) e x -> k e σ' = some r -> Q x a' w') -> c.wp P Q a w
def nR {ρ : Type} (f : An ρ -> Prop) : An ρ -> Prop
 | .co _ a => nR f a
 | .join _ _ a => nR f a
 | an => f an
def AnG (P : Program) (kf : Nat) {ρ : Type} : Code -> An ρ -> Prop
 | c, .sem f => yS P kf c f
 | .seq a b, an => nR (AnG P kf a) an.l ∧ nR (AnG P kf b) an.r
 | .cond _ a b, an => nR (AnG P kf a) an.l ∧ nR (AnG P kf b) an.r
 | .block _ a, an => nR (AnG P kf a) an.l
 | .scope a, an => nR (AnG P kf a) an.l
 | .loop b, .loop _ _ _ _ a => nR (AnG P kf b) a
 | _, _ => True
def Uv (P : Program) (kf : Nat) {ρ : Type} (c : Code) (an : An ρ) : Prop := nR (AnG P kf c) an
section sound
variable {ρ : Type} {Γ : Orc ρ} {T : Tab} {P : Program}
theorem fE {an : An ρ} {σ : St} {k : K ρ} {d : Option ρ} {r : ρ} (h : qK an σ k d = some r) : (∃ f, an = .sem f ∧ f σ k = some r) ∨ ((∀ f, an ≠ .sem f) ∧ d = some r) := by
 cases an with
 | sem f => exact .inl ⟨f, rfl, h⟩
 | nil => exact .inr ⟨by simp, h⟩
 | mk l r c => exact .inr ⟨by simp, h⟩
 | loop sh c0 c1 n a => exact .inr ⟨by simp, h⟩
 | scope l a b => exact .inr ⟨by simp, h⟩
 | co c a => exact .inr ⟨by simp, h⟩
 | join sh c a => exact .inr ⟨by simp, h⟩
theorem AnG.sem {kf : Nat} {c : Code} {f : zV ρ} (h : AnG P kf c (.sem f)) : yS P kf c f := by
 cases c <;> exact h
theorem zIc {kf : Nat} (hT : bI P T) (hΓ : gT P Γ) (id : Nat) (ops : Array Oper) : yS P kf (.region id ops false) (fun σ k => uF Γ T ops ops.toList σ k) := by
 intro σ k r h C β a w Q hP _ hs hq
 subst hP
 refine wp_region ?_
 rw [show List.range ops.size = List.range' 0 ops.toList.length by simp [List.range_eq_range'], wpOps_eq_wpList ops.toList 0 (by simp)]
 exact rQ hT hΓ hq ops.toList β σ a w h hs
theorem xI {C : Ctx} {β : Nat -> Pl} {σ : St} {a : Act} {w : World} {sh : Sh} {co : List Co} {g : sh.X -> Option ρ} {r : ρ} (hT : bI C.P T) {kf : Nat} (hkf : C.fix.length <= kf) (hfx : bQ (Co.fx kf) co = true) (h : enter T sh co σ g = some r) (hs : Sim C β σ a w) :
  ∃ (β' : Nat -> Pl) (_σ' : St) (x : sh.X), Sim C β' (sh.enc x) a w ∧ g x = some r := by
 obtain ⟨β2, σ2, hs2, hk2⟩ := vT hT hkf hfx h hs
 split at hk2
 ·rename_i x hx
  exact ⟨β2, σ2, x, Uu hx hs2, hk2⟩
 ·cases hk2
theorem iD (hT : bI P T) {kf : Nat} {c : Code} {f : An ρ -> zV ρ} {Q : An ρ -> Prop} (hf : ∀ an, Q an -> an.fx kf = true -> yS P kf c (f an)) : ∀ an, nR Q an -> an.fx kf = true -> yS P kf c (evA T f an)
 | .co cs a, ha, hx => by
  simp only [An.fx, Bool.and_eq_true] at hx
  intro σ k r h C β ac w R hP hkf hs hq
  obtain ⟨β', σ', hs', hk⟩ := vT (hP ▸ hT : bI C.P T) hkf hx.1 h hs
  exact iD hT hf a ha hx.2 σ' k r hk C β' ac w R hP hkf hs' hq
 | .join sh cs a, ha, hx => by
  simp only [An.fx, Bool.and_eq_true] at hx
  intro σ k r h C β ac w R hP hkf hs hq
  refine iD hT hf a ha hx.2 σ _ r h C β ac w R hP hkf hs ?_
  intro e x σ' β' a' w' hs' hxr hk
  cases e with
  | normal =>
   obtain ⟨β2, σ2, x2, hs2, hk2⟩ := xI (hP ▸ hT : bI C.P T) hkf hx.1 hk hs'
   exact hq .normal x (sh.enc x2) β2 a' w' hs2 hxr hk2
  | exit i => exact hq (.exit i) x σ' β' a' w' hs' hxr hk
  | goto l => exact hq (.goto l) x σ' β' a' w' hs' hxr hk
  | ret => exact hq .ret x σ' β' a' w' hs' hxr hk
  | pan t v => exact hq (.pan t v) x σ' β' a' w' hs' hxr hk
 | .nil, ha, hx => hf _ ha hx
 | .mk .., ha, hx => hf _ ha hx
 | .loop .., ha, hx => hf _ ha hx
 | .scope .., ha, hx => hf _ ha hx
 | .sem .., ha, hx => hf _ ha hx
theorem An.Zr {kf : Nat} {an : An ρ} (h : an.fx kf = true) : an.l.fx kf = true := by
 cases an <;> simp_all [An.fx, An.l]
theorem An.zPk {kf : Nat} {an : An ρ} (h : an.fx kf = true) : an.r.fx kf = true := by
 cases an <;> simp_all [An.fx, An.r]
theorem An.zKs {kf : Nat} {an : An ρ} (h : an.fx kf = true) : bQ (Co.fx kf) an.c = true := by
 cases an <;> simp_all [An.fx, An.c, bQ]
theorem kD {kf : Nat} {J : Code -> Nat -> An ρ -> zV ρ} (hT : bI P T) (hΓ : gT P Γ) (hm : P.follows .mixedOrders = true) (hJ : ∀ a l an, (∀ rest, findLabel a l = some rest -> an.fx kf = true -> yS P kf rest (J a l an)) ∧ (findLabel a l = none -> ∀ σ k r, J a l an σ k ≠ some r)) : ∀ (c : Code) (an : An ρ), AnG P kf c an -> an.fx kf = true -> yS P kf c (evG Γ T J c an)
 | .skip, an, ha, hfx => by
  intro σ k r h C β a w Q hP hkf hs hq
  rcases fE h with ⟨f, rfl, hf⟩ | ⟨_, hd⟩
  ·exact (AnG.sem ha) σ k r hf C β a w Q hP hkf hs hq
  ·exact wp_skip (hq .normal .normal σ β a w hs rfl hd)
 | .region id ops d, an, ha, hfx => by
  intro σ k r h C β a w Q hP hkf hs hq
  rcases fE h with ⟨f, rfl, hf⟩ | ⟨_, hd⟩
  ·exact (AnG.sem ha) σ k r hf C β a w Q hP hkf hs hq
  ·cases d with
   | false => exact zIc hT hΓ id ops σ k r hd C β a w Q hP hkf hs hq
   | true =>
    subst hP
    exact zKn hT hΓ hm hq hd hs
 | .seq x y, an, ha, hfx => by
  intro σ k r h C β a w Q hP hkf hs hq
  rcases fE h with ⟨f, rfl, hf⟩ | ⟨hne, hd⟩
  ·exact (AnG.sem ha) σ k r hf C β a w Q hP hkf hs hq
  ·have ha' : nR (AnG P kf x) an.l ∧ nR (AnG P kf y) an.r := by cases an <;> first | exact absurd rfl (hne _) | exact ha
   refine wp_seq (iD hT (kD hT hΓ hm hJ x) an.l ha'.1 (An.Zr hfx) σ _ r hd C β a w _ hP hkf hs ?_)
   intro e ex σ' β' a' w' hs' hx hk
   cases e with
   | normal =>
    obtain rfl := hx
    obtain ⟨β2, σ2, hs2, hk2⟩ := vT (hP ▸ hT : bI C.P T) hkf (An.zKs hfx) hk hs'
    exact iD hT (kD hT hΓ hm hJ y) an.r ha'.2 (An.zPk hfx) σ2 k r hk2 C β2 a' w' Q hP hkf hs2 hq
   | exit i => obtain rfl := hx; exact hq (.exit i) _ σ' β' a' w' hs' rfl hk
   | goto l => obtain rfl := hx; exact hq (.goto l) _ σ' β' a' w' hs' rfl hk
   | ret => obtain rfl := hx; exact hq .ret _ σ' β' a' w' hs' rfl hk
   | pan t v => have hx' := hx; obtain ⟨z, rfl, _⟩ := hx; exact hq (.pan t v) _ σ' β' a' w' hs' hx' hk
 | .cond c x y, an, ha, hfx => by
  intro σ k r h C β a w Q hP hkf hs hq
  rcases fE h with ⟨f, rfl, hf⟩ | ⟨hne, hd⟩
  ·exact (AnG.sem ha) σ k r hf C β a w Q hP hkf hs hq
  ·have ha' : nR (AnG P kf x) an.l ∧ nR (AnG P kf y) an.r := by cases an <;> first | exact absurd rfl (hne _) | exact ha
   split at hd
   ·rename_i t ht
    have hc := aY hs c
    rw [ht] at hc
    simp only [V.Rel, L.Rel, Ty.Rel, List.cons.injEq, and_true] at hc
    rcases Dv hd with ⟨rfl, h1⟩ | ⟨rfl, h1⟩
    ·exact wp_cond_true hc (iD hT (kD hT hΓ hm hJ x) an.l ha'.1 (An.Zr hfx) σ k r h1 C β a w Q hP hkf hs hq)
    ·exact wp_cond_false hc (iD hT (kD hT hΓ hm hJ y) an.r ha'.2 (An.zPk hfx) σ k r h1 C β a w Q hP hkf hs hq)
   ·cases hd
 | .block id x, an, ha, hfx => by
  intro σ k r h C β a w Q hP hkf hs hq
  rcases fE h with ⟨f, rfl, hf⟩ | ⟨hne, hd⟩
  ·exact (AnG.sem ha) σ k r hf C β a w Q hP hkf hs hq
  ·have ha' : nR (AnG P kf x) an.l := by cases an <;> first | exact absurd rfl (hne _) | exact ha
   refine wp_block (iD hT (kD hT hΓ hm hJ x) an.l ha' (An.Zr hfx) σ _ r hd C β a w _ hP hkf hs ?_)
   intro e ex σ' β' a' w' hs' hx hk
   cases e with
   | normal =>
    obtain rfl := hx
    obtain ⟨β2, σ2, hs2, hk2⟩ := vT (hP ▸ hT : bI C.P T) hkf (An.zKs hfx) hk hs'
    exact hq .normal .normal σ2 β2 a' w' hs2 rfl hk2
   | exit i =>
    obtain rfl := hx
    simp only at hk
    split at hk
    ·rename_i hb
     have hb := Nat.eq_of_beq_eq_true hb
     subst hb
     obtain ⟨β2, σ2, hs2, hk2⟩ := vT (hP ▸ hT : bI C.P T) hkf (An.zKs hfx) hk hs'
     simp only [Exit.inBlock, if_true]
     exact hq .normal .normal σ2 β2 a' w' hs2 rfl hk2
    ·rename_i hb
     have hne : i ≠ id := fun e => by rw [e, Nat.beq_refl] at hb; cases hb
     simp only [Exit.inBlock, hne, if_false]
     exact hq (.exit i) _ σ' β' a' w' hs' rfl hk
   | goto l => obtain rfl := hx; exact hq (.goto l) _ σ' β' a' w' hs' rfl hk
   | ret => obtain rfl := hx; exact hq .ret _ σ' β' a' w' hs' rfl hk
   | pan t v => have hx' := hx; obtain ⟨z, rfl, _⟩ := hx; exact hq (.pan t v) _ σ' β' a' w' hs' hx' hk
 | .scope x, an, ha, hfx => by
  intro σ k r h C β a w Q hP hkf hs hq
  rcases fE h with ⟨f, rfl, hf⟩ | ⟨hne, hd⟩
  ·exact (AnG.sem ha) σ k r hf C β a w Q hP hkf hs hq
  ·have ha' : nR (AnG P kf x) an.l := by cases an <;> first | exact absurd rfl (hne _) | exact ha
   by_cases hsc : ∃ l0 x' b rest, an = .scope l0 x' b ∧ findLabel x l0 = some rest
   ·obtain ⟨l0, x', b, rest, rfl, hfl⟩ := hsc
    refine wp_scope_jumps l0 (fun a' w' => ∃ β' σ', Sim C β' σ' a' w' ∧ (J x l0 b σ' fun e σ2 => match e with | .goto _ => none | e => k e σ2) = some r) (fun _ _ => 0) hfl ?_ ?_
    ·refine iD hT (kD hT hΓ hm hJ x) _ ha' (An.Zr hfx) σ _ r hd C β a w _ hP hkf hs ?_
     intro e ex σ' β' a' w' hs' hx hk
     cases e with
     | normal => obtain rfl := hx; exact hq .normal _ σ' β' a' w' hs' rfl hk
     | exit i => obtain rfl := hx; exact hq (.exit i) _ σ' β' a' w' hs' rfl hk
     | goto l =>
      obtain rfl := hx
      simp only at hk
      split at hk
      ·rename_i hb
       exact ⟨Nat.eq_of_beq_eq_true hb, β', σ', hs', hk⟩
      ·cases hk
     | ret => obtain rfl := hx; exact hq .ret _ σ' β' a' w' hs' rfl hk
     | pan t v => have hx' := hx; obtain ⟨z, rfl, _⟩ := hx; exact hq (.pan t v) _ σ' β' a' w' hs' hx' hk
    ·rintro a1 w1 ⟨β1, σ1, hs1, h1⟩
     refine (hJ x l0 b).1 rest hfl (by simp only [An.fx, Bool.and_eq_true] at hfx; exact hfx.2) σ1 _ r h1 C β1 a1 w1 _ hP hkf hs1 ?_
     intro e ex σ' β' a' w' hs' hx hk
     cases e with
     | normal => obtain rfl := hx; exact hq .normal _ σ' β' a' w' hs' rfl hk
     | exit i => obtain rfl := hx; exact hq (.exit i) _ σ' β' a' w' hs' rfl hk
     | goto l => cases hk
     | ret => obtain rfl := hx; exact hq .ret _ σ' β' a' w' hs' rfl hk
     | pan t v => have hx' := hx; obtain ⟨z, rfl, _⟩ := hx; exact hq (.pan t v) _ σ' β' a' w' hs' hx' hk
   ·refine wp_scope_straight (iD hT (kD hT hΓ hm hJ x) an.l ha' (An.Zr hfx) σ _ r hd C β a w _ hP hkf hs ?_)
    intro e ex σ' β' a' w' hs' hx hk
    cases e with
    | normal => obtain rfl := hx; exact hq .normal _ σ' β' a' w' hs' rfl hk
    | exit i => obtain rfl := hx; exact hq (.exit i) _ σ' β' a' w' hs' rfl hk
    | goto l =>
     exfalso
     simp only at hk
     split at hk
     ·rename_i l0 x' b
      split at hk
      ·cases hfl : findLabel x l0 with
       | none => exact (hJ x l0 b).2 hfl _ _ _ hk
       | some rest => exact hsc ⟨l0, x', b, rest, rfl, hfl⟩
      ·cases hk
     ·cases hk
    | ret => obtain rfl := hx; exact hq .ret _ σ' β' a' w' hs' rfl hk
    | pan t v => have hx' := hx; obtain ⟨z, rfl, _⟩ := hx; exact hq (.pan t v) _ σ' β' a' w' hs' hx' hk
 | .loop x, an, ha, hfx => by
  intro σ k r h C β a w Q hP hkf hs hq
  rcases fE h with ⟨f, rfl, hf⟩ | ⟨hne, hd⟩
  ·exact (AnG.sem ha) σ k r hf C β a w Q hP hkf hs hq
  ·cases an with
   | loop sh c0 c1 n an' =>
    have ha' : nR (AnG P kf x) an' := ha
    simp only [An.fx, Bool.and_eq_true] at hfx
    have hT' : bI C.P T := hP ▸ hT
    refine wp_loop_rounds n ?_
    obtain ⟨β1, σ1, x1, hs1, h1⟩ := xI hT' hkf hfx.1 hd hs
    clear hd hs h hne ha
    revert x1 β1 a w
    induction n with
    | zero => intro a w β1 x1 _ h; cases h
    | succ n ih =>
     intro a w β1 x1 hs1 h1
     rw [rounds_succ]
     refine iD hT (kD hT hΓ hm hJ x) an' ha' hfx.2.2 _ _ r h1 C β1 a w _ hP hkf hs1 ?_
     intro e ex σ' β' a' w' hs' hx hk
     cases e with
     | normal =>
      obtain rfl := hx
      obtain ⟨β2, σ2, x2, hs2, hk2⟩ := xI hT' hkf hfx.2.1 hk hs'
      exact ih a' w' β2 x2 hs2 hk2
     | exit i => obtain rfl := hx; exact hq (.exit i) _ σ' β' a' w' hs' rfl hk
     | goto l => obtain rfl := hx; exact hq (.goto l) _ σ' β' a' w' hs' rfl hk
     | ret => obtain rfl := hx; exact hq .ret _ σ' β' a' w' hs' rfl hk
     | pan t v => have hx' := hx; obtain ⟨z, rfl, _⟩ := hx; exact hq (.pan t v) _ σ' β' a' w' hs' hx' hk
   | _ => cases hd
 | .exit id, an, ha, hfx => by
  intro σ k r h C β a w Q hP hkf hs hq
  rcases fE h with ⟨f, rfl, hf⟩ | ⟨_, hd⟩
  ·exact (AnG.sem ha) σ k r hf C β a w Q hP hkf hs hq
  ·exact wp_exit (hq (.exit id) _ σ β a w hs rfl hd)
 | .goto l, an, ha, hfx => by
  intro σ k r h C β a w Q hP hkf hs hq
  rcases fE h with ⟨f, rfl, hf⟩ | ⟨_, hd⟩
  ·exact (AnG.sem ha) σ k r hf C β a w Q hP hkf hs hq
  ·exact wp_goto (hq (.goto l) _ σ β a w hs rfl hd)
 | .label l, an, ha, hfx => by
  intro σ k r h C β a w Q hP hkf hs hq
  rcases fE h with ⟨f, rfl, hf⟩ | ⟨_, hd⟩
  ·exact (AnG.sem ha) σ k r hf C β a w Q hP hkf hs hq
  ·exact wp_label (hq .normal _ σ β a w hs rfl hd)
 | .ret, an, ha, hfx => by
  intro σ k r h C β a w Q hP hkf hs hq
  rcases fE h with ⟨f, rfl, hf⟩ | ⟨_, hd⟩
  ·exact (AnG.sem ha) σ k r hf C β a w Q hP hkf hs hq
  ·exact wp_ret (hq .ret _ σ β a w hs rfl hd)
 | .rangeFunc g ps x y, an, ha, hfx => by
  intro σ k r h C β a w Q hP hkf hs hq
  rcases fE h with ⟨f, rfl, hf⟩ | ⟨_, hd⟩
  ·exact (AnG.sem ha) σ k r hf C β a w Q hP hkf hs hq
  ·cases hd
 | .refuse why, an, ha, hfx => by
  intro σ k r h C β a w Q hP hkf hs hq
  rcases fE h with ⟨f, rfl, hf⟩ | ⟨_, hd⟩
  ·exact (AnG.sem ha) σ k r hf C β a w Q hP hkf hs hq
  ·cases hd
theorem An.Mh {ρ : Type} {an : An ρ} (h : an.plain = true) : an.l.plain = true := by
 cases an <;> simp_all [An.plain, An.l]
theorem An.zDr {ρ : Type} {an : An ρ} (h : an.plain = true) : an.r.plain = true := by
 cases an <;> simp_all [An.plain, An.r]
theorem oN {Q : An ρ -> Prop} (h : ∀ an : An ρ, an.plain = true -> Q an) : ∀ an : An ρ, an.plain = true -> nR Q an
 | .co _ a, hp => oN h a hp
 | .join _ _ a, hp => oN h a hp
 | .nil, hp => h _ hp
 | .mk .., hp => h _ hp
 | .loop .., hp => h _ hp
 | .scope .., hp => h _ hp
 | .sem _, hp => by cases hp
theorem tX {kf : Nat} : ∀ (c : Code) (an : An ρ), an.plain = true -> AnG P kf c an
 | .seq a b, an, h => by
  have := And.intro (oN (tX (kf := kf) a) an.l (An.Mh h)) (oN (tX (kf := kf) b) an.r (An.zDr h))
  cases an <;> first | (cases h; done) | exact this
 | .cond _ a b, an, h => by
  have := And.intro (oN (tX (kf := kf) a) an.l (An.Mh h)) (oN (tX (kf := kf) b) an.r (An.zDr h))
  cases an <;> first | (cases h; done) | exact this
 | .block _ a, an, h => by
  have := oN (tX (kf := kf) a) an.l (An.Mh h)
  cases an <;> first | (cases h; done) | exact this
 | .scope a, an, h => by
  have := oN (tX (kf := kf) a) an.l (An.Mh h)
  cases an <;> first | (cases h; done) | exact this
 | .loop b, an, h => by
  cases an with
  | loop sh c0 c1 n a => exact oN (tX (kf := kf) b) a h
  | sem f => cases h
  | _ => trivial
 | .skip, an, h => by cases an <;> first | (cases h; done) | trivial
 | .region .., an, h => by cases an <;> first | (cases h; done) | trivial
 | .exit _, an, h => by cases an <;> first | (cases h; done) | trivial
 | .goto _, an, h => by cases an <;> first | (cases h; done) | trivial
 | .label _, an, h => by cases an <;> first | (cases h; done) | trivial
 | .ret, an, h => by cases an <;> first | (cases h; done) | trivial
 | .rangeFunc .., an, h => by cases an <;> first | (cases h; done) | trivial
 | .refuse _, an, h => by cases an <;> first | (cases h; done) | trivial
theorem aI {kf : Nat} (c : Code) (an : An ρ) (h : an.plain = true) : Uv P kf c an := oN (tX c) an h
theorem zId {kf : Nat} (hT : bI P T) (hΓ : gT P Γ) (hm : P.follows .mixedOrders = true) (c : Code) (an : An ρ) (ha : Uv P kf c an) (hfx : an.fx kf = true) : yS P kf c (ev0 Γ T c an) :=
 iD hT (kD hT hΓ hm (fun _ _ _ => ⟨fun _ _ _ σ k r h => (by cases h), fun _ σ k r h => (by cases h)⟩) c) an ha hfx
theorem Pg {kf : Nat} (hT : bI P T) (hΓ : gT P Γ) (hm : P.follows .mixedOrders = true) (c : Code) (an : An ρ) (ha : Uv P kf c an) (hfx : an.fx kf = true) : yS P kf c (ev Γ T c an) := by
 refine iD hT (kD hT hΓ hm (fun a l an' => ⟨fun rest hf hx σ k r h => ?_, fun hf σ k r h => ?_⟩) c) an ha hfx
 ·unfold zFi at h
  rw [hf] at h
  simp only at h
  split at h
  ·rename_i hp
   exact zId hT hΓ hm rest an' (aI rest an' hp) hx σ k r h
  ·cases h
 ·unfold zFi at h
  rw [hf] at h
  cases h
def L.deep (h : List Ob) : L -> Option (Bool × L)
 | .val t x => some (true, .val t x)
 | .jQ => some (true, .jQ)
 | .dD => some (true, .dD)
 | .iK t x off => some (true, .iK t x off)
 | .own id ver =>
  match h[id]? with
  | some (.arr _ t v rows _) => some (Nat.beq v ver, .val (.slice t) rows)
  | _ => none
 | .sl id ver off len =>
  match h[id]? with
  | some (.arr _ t v rows _) => some (Nat.beq v ver && Nat.ble (off + len) rows.length, .val (.slice t) ((rows.drop off).take len))
  | _ => none
 | .clo f [] => some (true, .clo f [])
 | _ => none
def Fq (h : List Ob) : List L -> Option (Bool × List L)
 | [] => some (true, [])
 | l :: ls =>
  match l.deep h, Fq h ls with
  | some (c, x), some (d, r) => some (c && d, x :: r)
  | _, _ => none
def V.deep (h : List Ob) : V -> Option (Bool × V)
 | .one l => match l.deep h with
  | some (c, x) => some (c, .one x)
  | none => none
 | .agg ls => match Fq h ls with
  | some (c, x) => some (c, .agg x)
  | none => none
 | _ => none
def zFj (T : Tab) (σ : St) : ResultVar -> Option (Bool × Sum L (List L))
 | .tmp t =>
  match (σ.r.getD t .bB).deep σ.h with
  | some (c, .one l) => some (c, .inl l)
  | some (c, .agg ls) => some (c, .inr ls)
  | _ => none
 | .cell t ty =>
  match σ.r.getD t .bB with
  | .one l =>
   match loadAt T σ.h ty l with
   | some (c, v) =>
    match v.deep σ.h with
    | some (d, .one l) => some (c && d, .inl l)
    | some (d, .agg ls) => some (c && d, .inr ls)
    | _ => none
   | none => none
  | _ => none
def Mi (T : Tab) (σ : St) : List ResultVar -> Option (Bool × List (Sum L (List L)))
 | [] => some (true, [])
 | x :: r =>
  match zFj T σ x, Mi T σ r with
  | some (c, l), some (d, ls) => some (c && d, l :: ls)
  | _, _ => none
def zKt : List (Sum L (List L)) -> V
 | [.inl l] => .one l
 | [.inr ls] => .agg ls
 | vs => .tup vs
end sound
end Go.Dec
namespace Go.Dec
section
variable {T : Tab} {C : Ctx} {β β' : Nat -> Pl} {w : World}
theorem L.Dx {N N' : Nat -> Prop} (hN : ∀ b, b < w.heap.size -> N' b -> N b) : ∀ {l : L} {cs : List Value}, l.isD = true -> l.Rel β w N cs -> l.Rel β' w N' cs
 | .val t x, cs, _, h => by simp only [L.Rel] at *; exact h.mono (Keep.refl _ w) hN
 | .jQ, cs, _, h => by simp only [L.Rel] at *; exact h
 | .dD, cs, _, h => by simp only [L.Rel] at *; exact h
 | .iK t x off, cs, _, h => by simp only [L.Rel] at *; obtain ⟨c, hc, hr⟩ := h; exact ⟨c, hc, hr.mono (Keep.refl _ w) hN⟩
 | .clo f [], cs, _, h => by simp only [L.Rel, L.bW] at *; exact h
 | .clo f (_ :: _), _, hd, _ => by simp [L.isD] at hd
 | .ptr .., _, hd, _ => by simp [L.isD] at hd
 | .jD .., _, hd, _ => by simp [L.isD] at hd
 | .eY .., _, hd, _ => by simp [L.isD] at hd
 | .sl .., _, hd, _ => by simp [L.isD] at hd
 | .own .., _, hd, _ => by simp [L.isD] at hd
 | .bad _, _, hd, _ => by simp [L.isD] at hd
 | .dP .., _, hd, _ => by simp [L.isD] at hd
theorem aD.isD {N N' : Nat -> Prop} (hN : ∀ b, b < w.heap.size -> N' b -> N b) : ∀ {ls : List L} {cs : List Value}, bQ L.isD ls = true -> aD β w N ls cs -> aD β' w N' ls cs
 | [], _, _, h => h
 | l :: ls, _, hd, ⟨c1, c2, e, h1, h2⟩ => by
  simp only [bQ, Bool.and_eq_true] at hd
  exact ⟨c1, c2, e, L.Dx hN hd.1 h1, aD.isD hN hd.2 h2⟩
theorem Uw {N N' : Nat -> Prop} (hN : ∀ b, b < w.heap.size -> N' b -> N b) : ∀ {vs : List (Sum L (List L))} {us : List Value}, bQ zEx vs = true -> aS (iH β w N) vs us -> aS (iH β' w N') vs us
 | [], [], _, _ => trivial
 | .inl l :: vs, u :: us, hd, hr => by
  simp only [bQ, Bool.and_eq_true] at hd
  exact ⟨L.Dx hN hd.1 hr.1, Uw hN hd.2 hr.2⟩
 | .inr ls :: vs, u :: us, hd, hr => by
  simp only [bQ, Bool.and_eq_true] at hd
  obtain ⟨⟨cs, e, h⟩, h2⟩ := hr
  exact ⟨⟨cs, e, h.isD hN hd.1⟩, Uw hN hd.2 h2⟩
 | [], _ :: _, _, h => h.elim
 | .inl _ :: _, [], _, h => h.elim
 | .inr _ :: _, [], _, h => h.elim
theorem V.Dx {N N' : Nat -> Prop} (hN : ∀ b, b < w.heap.size -> N' b -> N b) {v : V} {x : Value} (hd : v.isD = true) (h : v.Rel β w N x) : v.Rel β' w N' x := by
 cases v with
 | one l => exact L.Dx hN hd h
 | agg ls => obtain ⟨cs, e, hr⟩ := h; exact ⟨cs, e, hr.isD hN hd⟩
 | tup vs =>
  obtain ⟨us, e, hr⟩ := h
  exact ⟨us, e, Uw hN hd hr⟩
 | bB => cases hd
theorem Zt {h : List Ob} {e : TypeId} {t : Ty} {ver id off len : Nat} {rows : List t.den} {wr : Bool} {c : Value} {N' : Nat -> Prop} (hh : eO C β h w) (ho : h[id]? = some (.arr e t ver rows wr)) (hsl : dQ (β id) off len c) (hle : off + len <= rows.length)
  (hN : ∀ b, b < w.heap.size -> N' b -> C.N0 b) : (Ty.slice t).Rel w N' ((rows.drop off).take len) [c] := by
 have hob := hh.obj _ _ ho
 simp only [Ob.Rel] at hob
 obtain ⟨_, _, hpv, hpz, hpos, hpl, hob⟩ := hob
 simp only [Ty.Rel]
 refine ⟨c, rfl, ?_⟩
 unfold dQ at hsl
 rcases hob with ⟨hnb, hr0, _⟩ | ⟨b, cur, css, hb, hheap, hall, htake, hcap, hrc, hm⟩
 ·rw [hnb] at hsl
  subst hr0
  exact .inl ⟨hsl.1, by simp⟩
 ·rw [hb] at hsl
  obtain ⟨h1, o, rfl, h3⟩ := hsl
  obtain ⟨hf1, hf2, _⟩ := hh.fresh _ _ _ ho hb
  have hlen : ((rows.drop off).take len).length = len := by simp; omega
  have hl := gP hall
  have hcs := (Cells.of_heap hheap).take (rows.length * t.size)
  rw [htake] at hcs
  have hcs2 := (hcs.drop (off * t.size)).take (len * t.size)
  rw [gN css hl off, kM _ (fun c hc => hl c (List.mem_of_mem_drop hc)) len, Nat.zero_add] at hcs2
  have hN0 : ∀ b, b < w.heap.size -> N' b -> C.N β h b := fun b hb hn => .inl (hN b hb hn)
  have Yh : aS (fun x c => t.Rel w N' x c) ((rows.drop off).take len) ((css.drop off).take len) := ((hall.drop off).take len).mono fun _ _ h => h.mono (Keep.refl _ w) hN0
  refine .inr (.inl ⟨b, o, _, (css.drop off).take len, by rw [hlen], hf2, fun hn => hf1 (hN b hf2 hn), by omega, by omega, Yh, fun c hc => hl c (List.mem_of_mem_drop (List.mem_of_mem_take hc)), ?_⟩)
  rcases h3 with h3 | ⟨h3, _⟩
  ·rw [h3, hpz]; exact hcs2
  ·have hl0 : len = 0 := by omega
   subst hl0
   simpa using Cells.nil
theorem L.pR {h : List Ob} {l l' : L} {cs : List Value} {N' : Nat -> Prop} (hd : l.deep h = some (true, l')) (hh : eO C β h w) (hN : ∀ b, b < w.heap.size -> N' b -> C.N0 b) (hr : l.Rel β w (C.N β h) cs) : l'.Rel β' w N' cs ∧ l'.isD = true := by
 have hN0 : ∀ b, b < w.heap.size -> N' b -> C.N β h b := fun b hb hn => .inl (hN b hb hn)
 have plain : l.isD = true -> l' = l -> l'.Rel β' w N' cs ∧ l'.isD = true := fun h1 h2 => by subst h2; exact ⟨L.Dx hN0 h1 hr, h1⟩
 cases l with
 | val t x => simp only [L.deep, Option.some.injEq, Prod.mk.injEq, true_and] at hd; exact plain rfl hd.symm
 | jQ => simp only [L.deep, Option.some.injEq, Prod.mk.injEq, true_and] at hd; exact plain rfl hd.symm
 | dD => simp only [L.deep, Option.some.injEq, Prod.mk.injEq, true_and] at hd; exact plain rfl hd.symm
 | iK t x off => simp only [L.deep, Option.some.injEq, Prod.mk.injEq, true_and] at hd; exact plain rfl hd.symm
 | clo f cs =>
  cases cs with
  | nil => simp only [L.deep, Option.some.injEq, Prod.mk.injEq, true_and] at hd; exact plain rfl hd.symm
  | cons _ _ => simp [L.deep] at hd
 | own id ver =>
  simp only [L.deep] at hd
  split at hd
  ·rename_i e t v rows wr ho
   simp only [Option.some.injEq, Prod.mk.injEq] at hd
   obtain ⟨hv, rfl⟩ := hd
   have hv := Nat.eq_of_beq_eq_true hv
   have hob := hh.obj _ _ ho
   simp only [Ob.Rel] at hob
   obtain ⟨_, _, hpv, _, _, hpl, _⟩ := hob
   simp only [L.Rel] at hr
   obtain ⟨_, _, _, c, rfl, _, himp⟩ := hr
   have hsl := himp (by rw [hpv, hv])
   rw [hpl] at hsl
   have := Zt hh ho hsl (by omega) hN
   rw [List.drop_zero, List.take_length] at this
   exact ⟨by simpa only [L.Rel] using this, rfl⟩
  ·cases hd
 | sl id ver off len =>
  simp only [L.deep] at hd
  split at hd
  ·rename_i e t v rows wr ho
   simp only [Option.some.injEq, Prod.mk.injEq, Bool.and_eq_true] at hd
   obtain ⟨⟨hv, hle⟩, rfl⟩ := hd
   have hv := Nat.eq_of_beq_eq_true hv
   have hob := hh.obj _ _ ho
   simp only [Ob.Rel] at hob
   obtain ⟨_, _, hpv, _, _, hpl, _⟩ := hob
   simp only [L.Rel] at hr
   obtain ⟨_, _, _, c, rfl, _, himp⟩ := hr
   exact ⟨by simpa only [L.Rel] using Zt hh ho (himp (by rw [hpv, hv])) (Nat.le_of_ble_eq_true hle) hN, rfl⟩
  ·cases hd
 | _ => simp [L.deep] at hd
theorem Vz {h : List Ob} {N' : Nat -> Prop} (hh : eO C β h w) (hN : ∀ b, b < w.heap.size -> N' b -> C.N0 b) : ∀ {ls ls' : List L} {cs : List Value}, Fq h ls = some (true, ls') -> aD β w (C.N β h) ls cs -> aD β' w N' ls' cs ∧ bQ L.isD ls' = true
 | [], ls', cs, hd, hr => by
  simp only [Fq, Option.some.injEq, Prod.mk.injEq, true_and] at hd
  subst hd
  exact ⟨hr, rfl⟩
 | l :: ls, ls', cs, hd, hr => by
  simp only [Fq] at hd
  split at hd
  ·rename_i c x d r h1 h2
   simp only [Option.some.injEq, Prod.mk.injEq, Bool.and_eq_true] at hd
   obtain ⟨⟨rfl, rfl⟩, rfl⟩ := hd
   obtain ⟨c1, c2, e, r1, r2⟩ := hr
   obtain ⟨g1, g2⟩ := L.pR (β' := β') h1 hh hN r1
   obtain ⟨g3, g4⟩ := Vz hh hN h2 r2
   exact ⟨⟨c1, c2, e, g1, g3⟩, by simp only [bQ, g2, g4, Bool.and_self]⟩
  ·cases hd
theorem V.pR {h : List Ob} {v v' : V} {x : Value} {N' : Nat -> Prop} (hd : v.deep h = some (true, v')) (hh : eO C β h w) (hN : ∀ b, b < w.heap.size -> N' b -> C.N0 b) (hr : v.Rel β w (C.N β h) x) : v'.Rel β' w N' x ∧ v'.isD = true := by
 cases v with
 | one l =>
  simp only [V.deep] at hd
  split at hd
  ·rename_i c y h1
   simp only [Option.some.injEq, Prod.mk.injEq] at hd
   obtain ⟨rfl, rfl⟩ := hd
   exact L.pR h1 hh hN hr
  ·cases hd
 | agg ls =>
  simp only [V.deep] at hd
  split at hd
  ·rename_i c y h1
   simp only [Option.some.injEq, Prod.mk.injEq] at hd
   obtain ⟨rfl, rfl⟩ := hd
   obtain ⟨cs, e, hr⟩ := hr
   obtain ⟨g1, g2⟩ := Vz (β' := β') hh hN h1 hr
   exact ⟨⟨cs, e, g1⟩, g2⟩
  ·cases hd
 | _ => simp [V.deep] at hd
theorem Cq {P : Program} {t : TypeId} {x y : Value} (h : (Instr.loadAt t x).run P w = .ok y w) : ∃ a, x = .pointer (some a) ∧ (loadVar t a).run P w = .ok y w := by
 cases x <;> simp only [Instr.loadAt, Instr.sureAddr, Sem.run_bind, run_stuck, Result.andThen, reduceCtorEq] at h
 rename_i a
 cases a with
 | none => simp only [run_stuck, reduceCtorEq] at h
 | some a => exact ⟨a, rfl, by simpa only [Instr.loadAt, Instr.sureAddr, Sem.run_bind, Sem.run_pure, Result.andThen_ok] using h⟩
def nS (tmps : Array Value) : ResultVar -> Sem Value
 | .tmp t => pure (tmps.getD t undef)
 | .cell a t => do loadVar t (<- asAddr (tmps.getD a undef))
theorem Fv {σ : St} {a : Act} (hs : Sim C β σ a w) (t : Nat) : (σ.r.getD t .bB).Rel β w (C.N β σ.h) (a.tmps.getD t undef) := aY hs (.tmp t)
theorem zKu {σ : St} {a : Act} {rv : ResultVar} {s : Sum L (List L)} {N' : Nat -> Prop} (hT : bI C.P T) (hs : Sim C β σ a w) (hN : ∀ b, b < w.heap.size -> N' b -> C.N0 b) (h : zFj T σ rv = some (true, s)) :
  ∃ x, (nS a.tmps rv).run C.P w = .ok x w ∧ iH β' w N' s x ∧ zEx s = true := by
 cases rv with
 | tmp t =>
  simp only [zFj] at h
  have hr := Fv hs t
  refine ⟨a.tmps.getD t undef, rfl, ?_⟩
  split at h
  ·rename_i c l hd
   simp only [Option.some.injEq, Prod.mk.injEq] at h
   obtain ⟨rfl, rfl⟩ := h
   exact V.pR (β' := β') hd hs.heap hN hr
  ·rename_i c ls hd
   simp only [Option.some.injEq, Prod.mk.injEq] at h
   obtain ⟨rfl, rfl⟩ := h
   exact V.pR (β' := β') hd hs.heap hN hr
  ·cases h
 | cell t ty =>
  simp only [zFj] at h
  have hr := Fv hs t
  split at h
  ·rename_i l hl
   rw [hl] at hr
   split at h
   ·rename_i c v hv
    split at h
    ·rename_i d l2 hd
     simp only [Option.some.injEq, Prod.mk.injEq, Bool.and_eq_true] at h
     obtain ⟨⟨rfl, rfl⟩, rfl⟩ := h
     obtain ⟨y, h1, h2⟩ := yH hT hv hs.heap hr
     obtain ⟨ad, h3, h4⟩ := Cq h1
     refine ⟨y, ?_, V.pR (β' := β') hd hs.heap hN h2⟩
     simp only [nS, h3, asAddr, Sem.run_bind, Sem.run_pure, Result.andThen_ok, h4]
    ·rename_i d ls2 hd
     simp only [Option.some.injEq, Prod.mk.injEq, Bool.and_eq_true] at h
     obtain ⟨⟨rfl, rfl⟩, rfl⟩ := h
     obtain ⟨y, h1, h2⟩ := yH hT hv hs.heap hr
     obtain ⟨ad, h3, h4⟩ := Cq h1
     refine ⟨y, ?_, V.pR (β' := β') hd hs.heap hN h2⟩
     simp only [nS, h3, asAddr, Sem.run_bind, Sem.run_pure, Result.andThen_ok, h4]
    ·cases h
   ·cases h
  ·cases h
theorem Wd {σ : St} {a : Act} {N' : Nat -> Prop} (hT : bI C.P T) (hs : Sim C β σ a w) (hN : ∀ b, b < w.heap.size -> N' b -> C.N0 b) : ∀ {rs : List ResultVar} {vs : List (Sum L (List L))}, Mi T σ rs = some (true, vs) ->
  ∀ acc : Array Value, ∃ us : List Value, (rs.foldlM (fun (acc : Array Value) rv => do let v <- nS a.tmps rv; pure (acc.push v)) acc).run C.P w = .ok (acc ++ us.toArray) w ∧ aS (iH β' w N') vs us ∧
   bQ zEx vs = true
 | [], vs, h, acc => by
  simp only [Mi, Option.some.injEq, Prod.mk.injEq, true_and] at h
  subst h
  exact ⟨[], by simp, trivial, rfl⟩
 | rv :: rs, vs, h, acc => by
  simp only [Mi] at h
  split at h
  ·rename_i c s d r h1 h2
   simp only [Option.some.injEq, Prod.mk.injEq, Bool.and_eq_true] at h
   obtain ⟨⟨rfl, rfl⟩, rfl⟩ := h
   obtain ⟨x, g1, g2, g3⟩ := zKu (β' := β') hT hs hN h1
   obtain ⟨us, g4, g5, g6⟩ := Wd hT hs hN h2 (acc.push x)
   refine ⟨x :: us, ?_, ⟨g2, g5⟩, by simp only [bQ, g6, Bool.and_true]; exact g3⟩
   simp only [List.foldlM_cons, Sem.run_bind, g1, Result.andThen_ok, Sem.run_pure, g4]
   simp
  ·cases h
end
def yT (vs : List V) (n : Nat) : List V := vs ++ List.replicate (n - vs.length) .bB
end Go.Dec
