/- Part of a proof over this seat: a library of my own, and what it says of this seat. No statement is proved here. -/
import Derived.Test.YtlimifngdjkogaaGreatDoorPartAW
namespace Go.Ce
section
variable {E : Env} {ih : Runs} {lo n : Nat} {β : Bt} {A : W} {w : World} {a : Act}
def Aft (lo n : Nat) (β : Bt) (A : W) (w : World) (a : Act) (ex : Ex) (tm' : T AV) (A' : W) (x : Exit) (a' : Act) (w' : World) : Prop :=
 ∃ β', Go lo β A w β' A' w' ∧ cK β' n tm' a' ∧ dH β' ex x ∧ a'.defers = a.defers
theorem Qu {ops : Array Oper} {tm : T AV} (hf : cK β n tm a) {j s : Nat} {v : AV} (hs : aO ops.toList j = some s) (hv : tm.get s = some v) :
  (∀ b, v = .bo b -> yielded ops a.tmps j = some b) ∧ (v = .tu [] -> yielded ops a.tmps j = none) := by
 have h1 : (ops[j]?).bind (·.dst) = some s := by
  unfold aO at hs
  rwa [Array.getElem?_toList] at hs
 obtain ⟨hlt, hr⟩ := hf.get s v hv
 have hlt' : s < a.tmps.size := by rw [hf.size]; exact hlt
 have hg : a.tmps[s]? = some (a.tmps.getD s undef) := by
  rw [Array.getD_eq_getD_getElem?, Array.getElem?_eq_getElem hlt']; rfl
 constructor
 ·rintro b rfl
  simp only [AV.Rel] at hr
  unfold yielded
  rw [h1]
  simp only [Option.bind_some]
  rw [hg, hr]
 ·rintro rfl
  obtain ⟨x, e, hx⟩ := hr
  simp only [AV.aF] at hx
  subst hx
  unfold yielded
  rw [h1]
  simp only [Option.bind_some]
  rw [hg, e]
theorem Ad (hE : bV E) (hih : jE E ih) {ops : Array Oper} : ∀ {rs : List Oper} {is : List Nat} {tm tm' : T AV} {A A' : W} {ex : Ex} {β : Bt} {w : World} {a : Act} {Q : Exit -> Act -> World -> Prop},
  kG E ih n lo ops.toList rs tm A = some (ex, tm', A') -> is.map (fun i => ops[i]?) = rs.map some -> aL lo β A w -> cK β n tm a -> (∀ x a' w', Aft lo n β A w a ex tm' A' x a' w' -> Q x a' w') -> wpOps E.P ops Q is a w
 | [], is, tm, tm', A, A', ex, β, w, a, Q, h, hi, hW, hf, hQ => by
  simp only [List.map_nil, List.map_eq_nil_iff] at hi
  subst hi
  simp only [kG, Option.some.injEq, Prod.mk.injEq] at h
  obtain ⟨rfl, rfl, rfl⟩ := h
  exact hQ _ _ _ ⟨β, .refl hW, hf, rfl, rfl⟩
 | o :: rs, is, tm, tm', A, A', ex, β, w, a, Q, h, hi, hW, hf, hQ => by
  match is, hi with
  | i :: is, hi =>
   simp only [List.map_cons, List.cons.injEq] at hi
   obtain ⟨hi0, hi⟩ := hi
   simp only [wpOps, hi0]
   have go : ∀ {h0 : Option (Ex × T AV × W)}, (ob (Gi E ih n lo o tm A) fun x => match x with | (.normal, tm, A) => kG E ih n lo ops.toList rs tm A | x => some x) = some (ex, tm', A') -> o.wp E.P a w (wpOps E.P ops Q is) Q := fun {_} h => by
    replace h := aA h; obtain ⟨r, hr, h⟩ := h
    obtain ⟨ex1, tm1, A1⟩ := r
    refine (zCl hE hih hW hf hr (fun y β' w' he hgo hf' => ?_) (fun t v y β' w' he hgo hf' hv => ?_)).1
    ·subst he
     refine Ad hE hih h hi hgo.rel hf' fun x a' w'' ⟨β'', eT, hf2, hx, hd⟩ => hQ _ _ _ ⟨β'', hgo.trans eT, hf2, hx, by rw [hd, put_defers]⟩
    ·subst he
     simp only [Option.some.injEq, Prod.mk.injEq] at h
     obtain ⟨rfl, rfl, rfl⟩ := h
     exact hQ _ _ _ ⟨β', hgo, hf', ⟨y, rfl, hv⟩, rfl⟩
   have skip : ∀ {tm1 : T AV}, dI n tm o.dst (.tu []) = some tm1 -> kG E ih n lo ops.toList rs tm1 A = some (ex, tm', A') -> wpOps E.P ops Q is (a.put o.dst undef) w := fun {tm1} hp h =>
    Ad hE hih h hi hW (lN hp hf ⟨[], rfl, rfl⟩) fun x a' w'' ⟨β'', eT, hf2, hx, hd⟩ => hQ _ _ _ ⟨β'', eT, hf2, hx, by rw [hd, put_defers]⟩
   simp only [kG] at h
   split at h
   ·rename_i hg
    have hw : Region.wanted o (yielded ops a.tmps) = true := by simp [Region.wanted, hg]
    rw [if_pos hw]
    exact .inl (go (h0 := none) h)
   ·rename_i j want hg
    replace h := aA h; obtain ⟨s, hs, h⟩ := h
    replace h := aA h; obtain ⟨v, hv, h⟩ := h
    obtain ⟨y1, y2⟩ := Qu hf hs hv
    split at h
    ·rename_i b
     have hy := y1 b rfl
     unfold cnd at h
     split at h
     ·rename_i hb
      have hw : Region.wanted o (yielded ops a.tmps) = true := by simp [Region.wanted, hg, hy, beq_iff_eq.1 hb]
      rw [if_pos hw]
      exact .inl (go (h0 := none) h)
     ·rename_i hb
      have hw : ¬ Region.wanted o (yielded ops a.tmps) = true := by
       simp only [Region.wanted, hg, hy]
       intro h3
       have : b = want := by simpa using h3
       subst this
       simp at hb
      rw [if_neg hw]
      replace h := aA h; obtain ⟨tm1, hp, h⟩ := h
      exact skip hp h
    ·have hy := y2 rfl
     have hw : ¬ Region.wanted o (yielded ops a.tmps) = true := by simp [Region.wanted, hg, hy]
     rw [if_neg hw]
     replace h := aA h; obtain ⟨tm1, hp, h⟩ := h
     exact skip hp h
    ·cases h
def zAa (E : Env) (ih : Runs) : Prop := ∀ {n lo : Nat} {id : Nat} {ops : Array Oper} {tm tm' : T AV} {A A' : W} {ex : Ex} {β : Bt} {w : World} {a : Act}, Dm E ih n lo ops.toList tm A = some (ex, tm', A') -> aL lo β A w -> cK β n tm a ->
 (Code.region id ops true).wp E.P (Aft lo n β A w a ex tm' A') a w
theorem zAb {α : Type} (ops : Array α) : (List.range ops.size).map (fun i => ops[i]?) = ops.toList.map some := by
 apply List.ext_getElem?
 intro i
 rw [List.getElem?_map, List.getElem?_map]
 by_cases h : i < ops.size
 ·rw [List.getElem?_range h]
  simp [h]
 ·rw [List.getElem?_eq_none (by simp; omega), List.getElem?_eq_none (by simp; omega)]
  rfl
theorem Ae {β' : Bt} {A1 A' : W} {w1 : World} {a1 : Act} {ex : Ex} {tm' : T AV} {x : Exit} {a' : Act} {w' : World} (hgo : Go lo β A w β' A1 w1) (hd : a1.defers = a.defers) (h : Aft lo n β' A1 w1 a1 ex tm' A' x a' w') : Aft lo n β A w a ex tm' A' x a' w' := by
 obtain ⟨β'', h1, h2, h3, h4⟩ := h
 exact ⟨β'', hgo.trans h1, h2, h3, h4.trans hd⟩
theorem nJ {β' : Bt} {ex : Ex} {x : Exit} (h : dH β' ex x) : (ex = .normal <-> x = .normal) ∧ (∀ i, ex = .exit i <-> x = .exit i) ∧ (∀ l, ex = .goto l <-> x = .goto l) := by
 cases ex
 case pan t v => obtain ⟨y, rfl, _⟩ := h; simp
 all_goals (simp only [dH] at h; subst h; simp)
theorem step_ok (hE : bV E) (hih : jE E ih) (hD : zAa E ih) : jE E (vI E ih) := by
 intro n lo sc c tm A ex tm' A' h β w a hW hf
 cases sc with
 | sc body =>
  simp only [vI] at h
  intro b k cs
  replace h := aA h; obtain ⟨r, hr, h⟩ := h
  obtain ⟨ex1, tm1, A1⟩ := r
  obtain ⟨x, a1, w1, ⟨β1, hgo, hf1, hx, hd⟩, harr⟩ := hih _ _ .pl _ _ _ _ _ _ hr β w a hW hf b (.inScope body :: k) cs
  have other : ∀ (y : Exit), x = y -> (∀ l, y = .goto l -> findLabel body l = none) -> Arrives E.P (lone (b.at a (.code c :: .inScope body :: k)) cs w) b k cs y a1 w1 := fun y hy hl => by
   subst hy
   cases x with
   | normal => exact Steps.trans harr (.one step_inScope)
   | exit id => exact fun k' hk => harr k' (by simp [exitTo, hk])
   | goto l => exact fun k' hk => harr k' (by simp [gotoIn, hl l rfl, hk])
   | ret => exact harr
   | panic ch => exact harr
   | outgrown => exact harr
  split at h
  ·rename_i l tm2 A2 heq
   simp only [Prod.mk.injEq] at heq
   obtain ⟨rfl, rfl, rfl⟩ := heq
   simp only [dH] at hx
   subst hx
   split at h
   ·rename_i rest hl
    obtain ⟨x2, a2, w2, haft, He⟩ := hih _ _ (.sc body) _ _ _ _ _ _ h β1 w1 a1 hgo.rel hf1 b k cs
    refine ⟨x2, a2, w2, Ae hgo hd haft, .of_steps (harr _ (by simp [gotoIn, hl])) He⟩
   ·rename_i hl
    simp only [Option.some.injEq, Prod.mk.injEq] at h
    obtain ⟨rfl, rfl, rfl⟩ := h
    exact ⟨.goto l, a1, w1, ⟨β1, hgo, hf1, rfl, hd⟩, other _ rfl fun l' e => by cases e; exact hl⟩
  ·rename_i hng
   simp only [Option.some.injEq, Prod.mk.injEq] at h
   obtain ⟨rfl, rfl, rfl⟩ := h
   refine ⟨x, a1, w1, ⟨β1, hgo, hf1, hx, hd⟩, other _ rfl fun l e => ?_⟩
   have := ((nJ hx).2.2 l).2 e
   subst this
   exact absurd rfl (hng l tm1 A1)
 | lp body =>
  simp only [vI] at h
  intro b k cs
  replace h := aA h; obtain ⟨r, hr, h⟩ := h
  obtain ⟨ex1, tm1, A1⟩ := r
  obtain ⟨x, a1, w1, ⟨β1, hgo, hf1, hx, hd⟩, harr⟩ := hih _ _ .pl _ _ _ _ _ _ hr β w a hW hf b (.inLoop body :: k) cs
  split at h
  ·rename_i tm2 A2 heq
   simp only [Prod.mk.injEq] at heq
   obtain ⟨rfl, rfl, rfl⟩ := heq
   simp only [dH] at hx
   subst hx
   obtain ⟨x2, a2, w2, haft, He⟩ := hih _ _ (.lp body) _ _ _ _ _ _ h β1 w1 a1 hgo.rel hf1 b k cs
   exact ⟨x2, a2, w2, Ae hgo hd haft, .of_steps (Steps.trans harr (.one step_inLoop)) He⟩
  ·rename_i hnn
   simp only [Option.some.injEq, Prod.mk.injEq] at h
   obtain ⟨rfl, rfl, rfl⟩ := h
   refine ⟨x, a1, w1, ⟨β1, hgo, hf1, hx, hd⟩, ?_⟩
   cases x with
   | normal =>
    have := (nJ hx).1.2 rfl
    subst this
    exact absurd rfl (hnn tm1 A1)
   | exit id => exact .pass (x := .inLoop body) rfl (fun _ _ => .inl (by simp)) harr
   | goto l => exact .pass (x := .inLoop body) rfl (fun _ _ => .inl (by simp)) harr
   | ret => exact .pass (x := .inLoop body) rfl (fun _ _ => .inl (by simp)) harr
   | panic ch => exact .pass (x := .inLoop body) rfl (fun _ _ => .inl (by simp)) harr
   | outgrown => exact .pass (x := .inLoop body) rfl (fun _ _ => .inl (by simp)) harr
 | pl =>
  show c.wp E.P (Aft lo n β A w a ex tm' A') a w
  simp only [vI] at h
  split at h
  ·simp only [Option.some.injEq, Prod.mk.injEq] at h
   obtain ⟨rfl, rfl, rfl⟩ := h
   exact wp_skip ⟨β, .refl hW, hf, rfl, rfl⟩
  ·simp only [Option.some.injEq, Prod.mk.injEq] at h
   obtain ⟨rfl, rfl, rfl⟩ := h
   exact wp_label ⟨β, .refl hW, hf, rfl, rfl⟩
  ·rename_i id ops dr
   split at h
   ·exact wp_region (Ad hE hih h (zAb ops) hW hf fun _ _ _ h => h)
   ·exact hD h hW hf
  ·rename_i x y
   replace h := aA h; obtain ⟨r, hr, h⟩ := h
   obtain ⟨ex1, tm1, A1⟩ := r
   refine wp_seq (wp_mono (hih _ _ .pl _ _ _ _ _ _ hr β w a hW hf) ?_)
   rintro e a1 w1 ⟨β1, hgo, hf1, hx, hd⟩
   split at h
   ·rename_i tm2 A2 heq
    simp only [Prod.mk.injEq] at heq
    obtain ⟨rfl, rfl, rfl⟩ := heq
    simp only [dH] at hx
    subst hx
    exact wp_mono (hih _ _ .pl _ _ _ _ _ _ h β1 w1 a1 hgo.rel hf1) fun _ _ _ ha => Ae hgo hd ha
   ·rename_i hnn
    simp only [Option.some.injEq, Prod.mk.injEq] at h
    obtain ⟨rfl, rfl, rfl⟩ := h
    cases e with
    | normal =>
     have := (nJ hx).1.2 rfl
     subst this
     exact absurd rfl (hnn tm1 A1)
    | _ => exact ⟨β1, hgo, hf1, hx, hd⟩
  ·rename_i zJm x y
   replace h := aA h; obtain ⟨v, hv, h⟩ := h
   have hev := hf.ev zJm v hv
   split at h
   ·simp only [AV.Rel] at hev
    exact wp_cond hev (hih _ _ .pl _ _ _ _ _ _ h β w a hW hf)
   ·simp only [AV.Rel] at hev
    exact wp_cond hev (hih _ _ .pl _ _ _ _ _ _ h β w a hW hf)
   ·cases h
  ·rename_i id x
   replace h := aA h; obtain ⟨r, hr, h⟩ := h
   obtain ⟨ex1, tm1, A1⟩ := r
   refine wp_block (wp_mono (hih _ _ .pl _ _ _ _ _ _ hr β w a hW hf) ?_)
   rintro e a1 w1 ⟨β1, hgo, hf1, hx, hd⟩
   split at h
   ·rename_i i tm2 A2 heq
    simp only [Prod.mk.injEq] at heq
    obtain ⟨rfl, rfl, rfl⟩ := heq
    simp only [Option.some.injEq, Prod.mk.injEq] at h
    obtain ⟨h, rfl, rfl⟩ := h
    simp only [dH] at hx
    subst hx
    simp only [Exit.inBlock]
    unfold cnd at h
    split at h
    ·rename_i hb
     rw [if_pos (Nat.eq_of_beq_eq_true hb)]
     subst h
     exact ⟨β1, hgo, hf1, rfl, hd⟩
    ·rename_i hb
     rw [if_neg (fun e => by subst e; rw [Nat.beq_refl] at hb; cases hb)]
     subst h
     exact ⟨β1, hgo, hf1, rfl, hd⟩
   ·rename_i hne
    simp only [Option.some.injEq, Prod.mk.injEq] at h
    obtain ⟨rfl, rfl, rfl⟩ := h
    cases e with
    | exit i =>
     have := ((nJ hx).2.1 i).2 rfl
     subst this
     exact absurd rfl (hne i tm1 A1)
    | _ => exact ⟨β1, hgo, hf1, hx, hd⟩
  ·rename_i x
   intro b k cs
   obtain ⟨y, a1, w1, haft, harr⟩ := hih _ _ (.lp x) _ _ _ _ _ _ h β w a hW hf b k cs
   exact ⟨y, a1, w1, haft, .of_steps (.one step_loop) harr⟩
  ·rename_i x
   intro b k cs
   obtain ⟨y, a1, w1, haft, harr⟩ := hih _ _ (.sc x) _ _ _ _ _ _ h β w a hW hf b k cs
   exact ⟨y, a1, w1, haft, .of_steps (.one step_scope) harr⟩
  ·simp only [Option.some.injEq, Prod.mk.injEq] at h
   obtain ⟨rfl, rfl, rfl⟩ := h
   exact wp_exit ⟨β, .refl hW, hf, rfl, rfl⟩
  ·simp only [Option.some.injEq, Prod.mk.injEq] at h
   obtain ⟨rfl, rfl, rfl⟩ := h
   exact wp_goto ⟨β, .refl hW, hf, rfl, rfl⟩
  ·simp only [Option.some.injEq, Prod.mk.injEq] at h
   obtain ⟨rfl, rfl, rfl⟩ := h
   exact wp_ret ⟨β, .refl hW, hf, rfl, rfl⟩
  ·cases h
end
end Go.Ce
namespace Go.Ce
def cut (β : Bt) (b : Nat) : Bt := fun id => if id < b then β id else none
theorem iW {β : Bt} {b id : Nat} (h : id < b) : cut β b id = β id := by simp [cut, h]
theorem zAc {β : Bt} {b id : Nat} (h : b <= id) : cut β b id = none := by simp [cut]; omega
theorem bS {β : Bt} {b id : Nat} {p : Nat × Nat × Nat} (h : cut β b id = some p) : id < b ∧ β id = some p := by
 unfold cut at h
 split at h
 ·exact ⟨by assumption, h⟩
 ·cases h
theorem zAd (β : Bt) (b : Nat) : Le (cut β b) β := fun _ _ h => (bS h).2
theorem gW {β β' : Bt} {b b' : Nat} (h : Le β β') (hb : b <= b') : Le (cut β b) (cut β' b') := fun id p hp => by
 obtain ⟨h1, h2⟩ := bS hp
 rw [iW (by omega)]
 exact h _ _ h2
mutual
theorem fJ {β : Bt} {b : Nat} : ∀ {v : AV} {x : Value}, AV.under b v = true -> v.Rel β x -> v.Rel (cut β b) x
 | .bo _, _, _, h => h
 | .it .., _, _, h => h
 | .st _, _, _, h => h
 | .fl .., _, _, h => h
 | .cx .., _, _, h => h
 | .np, _, _, h => h
 | .pt .., _, hu, ⟨c, o, n, h, e⟩ => ⟨c, o, n, by rw [iW (by simpa [AV.under, Nat.blt_eq] using hu)]; exact h, e⟩
 | .ns, _, _, h => h
 | .sl .., _, hu, ⟨c, o, n, k, h, e⟩ => ⟨c, o, n, k, by rw [iW (by simpa [AV.under, Nat.blt_eq] using hu)]; exact h, e⟩
 | .se _, _, _, h => h
 | .nm, _, _, h => h
 | .mp _, _, hu, ⟨c, n, h, e⟩ => ⟨c, n, by rw [iW (by simpa [AV.under, Nat.blt_eq] using hu)]; exact h, e⟩
 | .md .., _, _, h => h
 | .nf, _, _, h => h
 | .fn .., _, hu, ⟨x, y, e, h1, h2⟩ => by
  simp only [AV.under, Bool.and_eq_true] at hu
  exact ⟨x, y, e, iR hu.1 h1, iR hu.2 h2⟩
 | .ni, _, _, h => h
 | .ic .., _, hu, ⟨x, e, h⟩ => ⟨x, e, fJ (by simpa [AV.under] using hu) h⟩
 | .ag _, _, hu, ⟨x, e, h⟩ => ⟨x, e, iR (by simpa [AV.under] using hu) h⟩
 | .tu _, _, hu, ⟨x, e, h⟩ => ⟨x, e, iR (by simpa [AV.under] using hu) h⟩
theorem iR {β : Bt} {b : Nat} : ∀ {l : List AV} {xs : List Value}, AV.fZ b l = true -> AV.aF β l xs -> AV.aF (cut β b) l xs
 | [], _, _, h => h
 | _ :: _, _, hu, ⟨x, xs, e, h, h'⟩ => by
  simp only [AV.fZ, Bool.and_eq_true] at hu
  exact ⟨x, xs, e, fJ hu.1 h, iR hu.2 h'⟩
end
theorem Um : ∀ {a b : List Nat}, nH a b = true -> a = b
 | [], [], _ => rfl
 | [], _ :: _, h => by simp [nH] at h
 | _ :: _, [], h => by simp [nH] at h
 | a :: x, b :: y, h => by
  simp only [nH, cnd] at h
  split at h
  ·rename_i hb
   rw [Nat.eq_of_beq_eq_true hb, Um h]
  ·cases h
mutual
theorem same_eq : ∀ {a b : AV}, AV.same a b = true -> a = b
 | a, b, h => by
  cases a <;> cases b <;> simp only [AV.same, Bool.false_eq_true] at h <;> try rfl
  case bo.bo => rw [beq_iff_eq.1 h]
  case it.it => simp only [Bool.and_eq_true, decide_eq_true_eq] at h; rw [h.1, h.2]
  case st.st => rw [Um h]
  case pt.pt => simp only [Bool.and_eq_true] at h; rw [Nat.eq_of_beq_eq_true h.1, Nat.eq_of_beq_eq_true h.2]
  case mp.mp => rw [Nat.eq_of_beq_eq_true h]
  case sl.sl =>
   simp only [Bool.and_eq_true, beq_iff_eq] at h
   obtain ⟨⟨⟨⟨⟨h1, h2⟩, h3⟩, h4⟩, h5⟩, h6⟩ := h
   rw [Nat.eq_of_beq_eq_true h1, Nat.eq_of_beq_eq_true h2, Nat.eq_of_beq_eq_true h3, Nat.eq_of_beq_eq_true h4, Nat.eq_of_beq_eq_true h5, h6]
  case se.se => rw [beq_iff_eq.1 h]
  case ag.ag => rw [Qv h]
  case ic.ic => simp only [Bool.and_eq_true] at h; rw [Nat.eq_of_beq_eq_true h.1, same_eq h.2]
theorem Qv : ∀ {a b : List AV}, AV.Bc a b = true -> a = b
 | [], [], _ => rfl
 | [], _ :: _, h => by simp [AV.Bc] at h
 | _ :: _, [], h => by simp [AV.Bc] at h
 | a :: x, b :: y, h => by
  simp only [AV.Bc, Bool.and_eq_true] at h
  rw [same_eq h.1, Qv h.2]
end
theorem T.jN {α : Type} : ∀ (a b : T α) (n : Nat), (T.union a b).get n = match a.get n with | some x => some x | none => b.get n
 | .nil, b, n => by simp [T.union, T.get]
 | .node l v r, .nil, n => by
  have : (T.nil : T α).get n = none := rfl
  simp only [T.union, this]
  cases (T.node l v r).get n <;> rfl
 | .node l v r, .node l' v' r', n => by
  rw [T.bL, T.bL (.node l v r), T.bL (.node l' v' r')]
  simp only [T.union, T.vl, T.lf, T.rt]
  split
  ·cases v <;> rfl
  ·split
   ·exact T.jN l l' _
   ·exact T.jN r r' _
theorem T.xV {α : Type} {f : α -> Bool} : ∀ {t : T α} {n : Nat} {x : α}, T.all f t = true -> t.get n = some x -> f x = true
 | .nil, _, _, _, h => by simp [T.get] at h
 | .node l v r, n, x, ha, h => by
  simp only [T.all, Bool.and_eq_true] at ha
  rw [T.bL] at h
  simp only [T.vl, T.lf, T.rt] at h
  split at h
  ·subst h; exact ha.1
  ·split at h
   ·exact T.xV ha.2.1 h
   ·exact T.xV ha.2.2 h
theorem rX (m i : Nat) : bit m i = m.testBit i := by
 unfold bit Nat.testBit
 have h : Nat.land (Nat.shiftRight m i) 1 = 1 &&& (m >>> i) := by
  show (m >>> i) &&& 1 = 1 &&& (m >>> i)
  exact Nat.and_comm _ _
 rw [h]
 have h2 : (1 &&& (m >>> i)) = 0 ∨ (1 &&& (m >>> i)) = 1 := by
  rw [Nat.one_and_eq_mod_two]; omega
 rcases h2 with h2 | h2 <;> rw [h2] <;> rfl
theorem Hf (a b i : Nat) : bit (Nat.lor a b) i = (bit a i || bit b i) := by
 rw [rX, rX, rX]
 show (a ||| b).testBit i = _
 rw [Nat.testBit_or]
theorem Un (k i : Nat) : bit (2 ^ k) i = decide (k = i) := by
 rw [rX, Nat.testBit_two_pow]
theorem Qw : ∀ (l : List Nat) (i : Nat), Bf l i = l[i]?
 | [], _ => by simp [Bf]
 | _ :: _, 0 => by simp [Bf]
 | _ :: r, i + 1 => by simp [Bf, Qw r i]
theorem jV {ms : List Nat} : ∀ {es : List Edge} {d : Nat}, xG ms es = some d ->
  (∀ e ∈ es, Region.binds .any e = true -> bit d e.on = true ∧ e.on < ms.length) ∧ (∀ i, bit d i = true -> ∃ e ∈ es, Region.binds .any e = true ∧ (e.on = i ∨ ∃ m, ms[e.on]? = some m ∧ bit m i = true))
 | [], d, h => by
  simp only [xG, Option.some.injEq] at h
  subst h
  refine ⟨(fun e he => by cases he), fun i hi => ?_⟩
  rw [rX] at hi
  simp at hi
 | e :: es, d, h => by
  simp only [xG] at h
  split at h
  ·rename_i hb
   obtain ⟨h1, h2⟩ := jV h
   refine ⟨fun x hx hbx => ?_, fun i hi => ?_⟩
   ·cases hx with
    | head => rw [hb] at hbx; cases hbx
    | tail _ hx => exact h1 x hx hbx
   ·obtain ⟨x, hx, k⟩ := h2 i hi
    exact ⟨x, .tail _ hx, k⟩
  ·rename_i hb
   replace h := aA h; obtain ⟨m, hm, h⟩ := h
   replace h := aA h; obtain ⟨d', hd, h⟩ := h
   simp only [Option.some.injEq] at h
   subst h
   rw [Qw] at hm
   obtain ⟨h1, h2⟩ := jV hd
   refine ⟨fun x hx hbx => ?_, fun i hi => ?_⟩
   ·rw [Hf, Hf, Un]
    cases hx with
    | head => exact ⟨by simp, (List.getElem?_eq_some_iff.1 hm).1⟩
    | tail _ hx => exact ⟨by simp [(h1 x hx hbx).1], (h1 x hx hbx).2⟩
   ·rw [Hf, Hf, Un, Bool.or_eq_true, Bool.or_eq_true, decide_eq_true_eq] at hi
    rcases hi with (hi | hi) | hi
    ·exact ⟨e, .head _, hb, .inl hi⟩
    ·exact ⟨e, .head _, hb, .inr ⟨m, hm, hi⟩⟩
    ·obtain ⟨x, hx, k⟩ := h2 i hi
     exact ⟨x, .tail _ hx, k⟩
theorem nY : ∀ {r : List Oper} {ms ds : List Nat}, oM ms r = some ds -> ∃ es, ds = ms ++ es ∧ es.length = r.length ∧ ∀ i o, r[i]? = some o -> ∃ d, ds[ms.length + i]? = some d ∧ xG (ds.take (ms.length + i)) o.after.toList = some d
 | [], ms, ds, h => by simp only [oM, Option.some.injEq] at h; subst h; exact ⟨[], by simp, rfl, fun i o h => by simp at h⟩
 | o :: r, ms, ds, h => by
  simp only [oM] at h
  replace h := aA h; obtain ⟨d, hd, h⟩ := h
  obtain ⟨es, rfl, hl, hi⟩ := nY h
  refine ⟨d :: es, by simp, by simp [hl], fun i x hx => ?_⟩
  cases i with
  | zero =>
   simp only [List.getElem?_cons_zero, Option.some.injEq] at hx
   subst hx
   refine ⟨d, by simp, ?_⟩
   rw [List.append_assoc, Nat.add_zero, List.take_left']
   ·exact hd
   ·rfl
  | succ i =>
   simp only [List.getElem?_cons_succ] at hx
   obtain ⟨d', h1, h2⟩ := hi i x hx
   rw [List.length_append, List.length_singleton] at h1 h2
   exact ⟨d', by rw [<- h1]; congr 1; omega, by rw [<- h2]; congr 2; omega⟩
section
variable (E : Env) (ih : Runs) (n lo : Nat)
theorem vM {L : List Oper} : ∀ {r : List Oper} {ds : List Nat} {j : Nat} {s s' : DS}, qZ E ih n lo L j ds r s = some s' ->
  ∃ st : Nat -> DS, st j = s ∧ st (j + r.length) = s' ∧ ∀ i o, r[i]? = some o -> ∃ d, ds[i]? = some d ∧ xI E ih n lo L (j + i) d o (st (j + i)) = some (st (j + i + 1))
 | [], ds, j, s, s', h => by
  simp only [qZ, Option.some.injEq] at h
  subst h
  exact ⟨fun _ => s, rfl, rfl, fun i o h => by simp at h⟩
 | o :: r, [], j, s, s', h => by simp [qZ] at h
 | o :: r, d :: ds, j, s, s', h => by
  simp only [qZ] at h
  replace h := aA h; obtain ⟨s1, hs, h⟩ := h
  obtain ⟨st, h1, h2, h3⟩ := vM h
  refine ⟨fun i => if i = j then s else st i, by simp, ?_, fun i x hx => ?_⟩
  ·simp only [List.length_cons]
   rw [if_neg (by omega), <- h2]
   congr 1
   omega
  ·cases i with
   | zero =>
    simp only [List.getElem?_cons_zero, Option.some.injEq] at hx
    subst hx
    refine ⟨d, rfl, ?_⟩
    simp only [Nat.add_zero, if_true]
    rw [if_neg (by omega), h1]
    exact hs
   | succ i =>
    simp only [List.getElem?_cons_succ] at hx ⊢
    obtain ⟨d', hd', hst⟩ := h3 i x hx
    refine ⟨d', hd', ?_⟩
    rw [if_neg (by omega), if_neg (by omega)]
    rw [show j + (i + 1) = j + 1 + i by omega]
    exact hst
end
end Go.Ce
namespace Go.Ce
theorem iE.symm {B B' : Blk} (h : iE B B') : iE B' B := by
 cases B <;> cases B' <;> simp only [iE] at h ⊢
 obtain ⟨h1, h2, h3, h4⟩ := h
 exact ⟨h1.symm, h3, h2, fun ⟨x, y⟩ => h4 ⟨y, x⟩⟩
structure WP (lo : Nat) (β : Bt) (h : Nat -> Blk -> Prop) (nx : Nat) (w : World) : Prop where
 lo_le : lo <= nx
 blk : ∀ id B, h id B -> ∃ b o n, β id = some (b, o, n) ∧ b < w.heap.size ∧ B.Rel β w.heap b o n
 nx : ∀ id, nx <= id -> β id = none
 here : ∀ id b o n, β id = some (b, o, n) -> b < w.heap.size
 sep : ∀ id id' B B' b o o' n n', id ≠ id' -> h id B -> h id' B' -> β id = some (b, o, n) -> β id' = some (b, o', n') -> iE B B'
 side : ∀ id id' B' b o o' n n', id < lo -> lo <= id' -> h id' B' -> β id = some (b, o, n) -> β id' = some (b, o', n') -> False
theorem WP.of {lo : Nat} {β : Bt} {A : W} {w : World} (h : aL lo β A w) : WP lo β (fun id B => A.H.get id = some B) A.nx w :=
 ⟨h.lo_le, h.blk, h.nx, h.here, h.sep, h.side⟩
theorem WP.to {lo : Nat} {β : Bt} {h : Nat -> Blk -> Prop} {nx : Nat} {A : W} {w : World} (H : WP lo β h nx w) (hs : ∀ id B, A.H.get id = some B -> h id B) (hn : A.nx = nx) : aL lo β A w :=
 ⟨by rw [hn]; exact H.lo_le, fun id B hB => H.blk id B (hs _ _ hB), by rw [hn]; exact H.nx, H.here, fun id id' B B' b o o' n n' hne h1 h2 => H.sep id id' B B' b o o' n n' hne (hs _ _ h1) (hs _ _ h2),
  fun id id' B' b o o' n n' h1 h2 h3 => H.side id id' B' b o o' n n' h1 h2 (hs _ _ h3)⟩
theorem WP.sub {lo : Nat} {β : Bt} {h h' : Nat -> Blk -> Prop} {nx : Nat} {w : World} (H : WP lo β h nx w) (hs : ∀ id B, h' id B -> h id B) : WP lo β h' nx w :=
 ⟨H.lo_le, fun id B hB => H.blk id B (hs _ _ hB), H.nx, H.here, fun id id' B B' b o o' n n' hne h1 h2 => H.sep id id' B B' b o o' n n' hne (hs _ _ h1) (hs _ _ h2),
  fun id id' B' b o o' n n' h1 h2 h3 => H.side id id' B' b o o' n n' h1 h2 (hs _ _ h3)⟩
def mix (β β1 : Bt) (base top : Nat) : Bt := fun id => if base <= id ∧ id < top then β1 id else β id
theorem Hg {β β1 : Bt} {base top id : Nat} (h1 : base <= id) (h2 : id < top) : mix β β1 base top id = β1 id := by simp [mix, h1, h2]
theorem dY {β β1 : Bt} {base top id : Nat} (h : id < base ∨ top <= id) : mix β β1 base top id = β id := by
 unfold mix
 rw [if_neg (by omega)]
structure Cor (lo : Nat) (β0 : Bt) (A0 : W) (w0 : World) (β : Bt) (h : Nat -> Blk -> Prop) (nx : Nat) (w : World) : Prop where
 wp : WP lo β h nx w
 ext : Le β0 β
 size : w0.heap.size <= w.heap.size
 old : ∀ b, b < w0.heap.size -> ¬ Own lo β0 A0 b -> w.heap[b]? = w0.heap[b]?
 back : ∀ id B', id < A0.nx -> h id B' -> ∃ B, A0.H.get id = some B
 fresh : ∀ id b o n, A0.nx <= id -> β id = some (b, o, n) -> w0.heap.size <= b ∨ Own lo β0 A0 b
 old' : ∀ id p, id < A0.nx -> β id = some p -> β0 id = some p
 os : w.os = w0.os
 tape : w.tape = w0.tape
 output : w.output = w0.output
theorem Cor.sub {lo : Nat} {β0 : Bt} {A0 : W} {w0 : World} {β : Bt} {h h' : Nat -> Blk -> Prop} {nx : Nat} {w : World} (H : Cor lo β0 A0 w0 β h nx w) (hs : ∀ id B, h' id B -> h id B) : Cor lo β0 A0 w0 β h' nx w :=
 { H with wp := H.wp.sub hs, back := fun id B hi hB => H.back id B hi (hs _ _ hB) }
section
variable {lo : Nat} {β0 : Bt} {A0 : W} {w0 : World} {β : Bt} {h : Nat -> Blk -> Prop} {nx : Nat} {w : World}
theorem Cor.up (H : Cor lo β0 A0 w0 β h nx w) {id b o n : Nat} {B : Blk} (hl : lo <= id) (hB : h id B) (hb : β id = some (b, o, n)) : w0.heap.size <= b ∨ Own lo β0 A0 b := by
 rcases Nat.lt_or_ge id A0.nx with h1 | h1
 ·obtain ⟨B0, h2⟩ := H.back id B h1 hB
  exact .inr ⟨id, B0, o, n, hl, h2, H.old' id _ h1 hb⟩
 ·exact H.fresh id b o n h1 hb
structure Stp (lo1 : Nat) (β : Bt) (r : Nat -> Blk -> Prop) (base top : Nat) (H1 : T Blk) (w : World) (β1 : Bt) (w1 : World) : Prop where
 le : Le β (mix β β1 base top)
 le1 : Le β1 (mix β β1 base top)
 Qx : Le β1 (cut (mix β β1 base top) top)
 Mt : ∀ id B b o n, r id B -> β id = some (b, o, n) -> w1.heap[b]? = w.heap[b]?
 low : ∀ id, id < base -> mix β β1 base top id = β id
 eq1 : ∀ id B, H1.get id = some B -> mix β β1 base top id = β1 id ∧ id < top
theorem Cor.step (C : Cor lo β0 A0 w0 β h nx w) {base top lo1 : Nat} {H' H1 : T Blk} {β1 : Bt} {w1 : World} (r : Nat -> Blk -> Prop) (hlo : lo <= lo1) (hA0 : A0.nx <= base)
    (hsub : ∀ id B, H'.get id = some B -> h id B) (hr : ∀ id B, r id B -> h id B)
    (hap : ∀ id B id' B' b o n o' n', r id B -> lo1 <= id' -> H'.get id' = some B' -> β id = some (b, o, n) -> β id' = some (b, o', n') -> False)
    (Dy : ∀ id, base <= id -> id < top -> β id = none) (hbt : base <= top) (htop : top <= nx)
    (hW : aL lo1 (cut β base) ⟨H', base⟩ w) (hgo : Go lo1 (cut β base) ⟨H', base⟩ w β1 ⟨H1, top⟩ w1) :
    Cor lo β0 A0 w0 (mix β β1 base top) (fun id B => r id B ∨ H1.get id = some B) nx w1 ∧ Stp lo1 β r base top H1 w β1 w1 := by
  have hlo1 : lo1 <= base := hW.lo_le
  have hlow : ∀ id p, id < base -> β1 id = some p -> β id = some p := fun id p hi hp => (bS (hgo.old' id p hi hp)).2
  have hlow' : ∀ id p, id < base -> β id = some p -> β1 id = some p := fun id p hi hp => hgo.ext id p (by rw [iW hi]; exact hp)
  have zIl : ∀ id, id < base -> β1 id = β id := fun id hi => by
    cases hb : β id with
    | some p => exact hlow' id p hi hb
    | none => cases hb1 : β1 id with
      | none => rfl
      | some p => rw [hlow id p hi hb1] at hb; cases hb
  have zDm : ∀ id, top <= id -> β1 id = none := fun id hi => hgo.rel.nx id hi
  have hle : Le β (mix β β1 base top) := fun id p hp => by
    rcases Nat.lt_or_ge id base with h1 | h1
    · rw [dY (.inl h1)]; exact hp
    · rcases Nat.lt_or_ge id top with h2 | h2
      · rw [Dy id h1 h2] at hp; cases hp
      · rw [dY (.inr h2)]; exact hp
  have hle1 : Le β1 (mix β β1 base top) := fun id p hp => by
    rcases Nat.lt_or_ge id base with h1 | h1
    · rw [dY (.inl h1)]; exact hlow id p h1 hp
    · rcases Nat.lt_or_ge id top with h2 | h2
      · rw [Hg h1 h2]; exact hp
      · rw [zDm id h2] at hp; cases hp
  have zIm : Le β1 (cut (mix β β1 base top) top) := fun id p hp => by
    rcases Nat.lt_or_ge id top with h2 | h2
    · rw [iW h2]; exact hle1 id p hp
    · rw [zDm id h2] at hp; cases hp
  have heq1 : ∀ id B, H1.get id = some B -> mix β β1 base top id = β1 id ∧ id < top := fun id B hB => by
    have h2 : id < top := hgo.rel.lt hB
    refine ⟨?_, h2⟩
    rcases Nat.lt_or_ge id base with h1 | h1
    · rw [dY (.inl h1), zIl id h1]
    · rw [Hg h1 h2]
  have Qy : ∀ id B, r id B -> mix β β1 base top id = β id := fun id B hB => by
    obtain ⟨b, o, n, hb, _⟩ := C.wp.blk id B (hr _ _ hB)
    rw [hle id _ hb, hb]
  have hown : ∀ b, Own lo1 (cut β base) ⟨H', base⟩ b -> ∃ id B o n, lo1 <= id ∧ H'.get id = some B ∧ β id = some (b, o, n) := fun b ⟨id, B, o, n, h1, h2, h3⟩ => ⟨id, B, o, n, h1, h2, (bS h3).2⟩
  have hrk : ∀ id B b o n, r id B -> β id = some (b, o, n) -> w1.heap[b]? = w.heap[b]? := fun id B b o n hB hb =>
    hgo.old b (C.wp.here id b o n hb) fun ho => by
      obtain ⟨id', B', o', n', h1, h2, h3⟩ := hown b ho
      exact hap id B id' B' b o n o' n' hB h1 h2 hb h3
  refine ⟨⟨⟨C.wp.lo_le, ?_, ?_, ?_, ?_, ?_⟩, ?_, ?_, ?_, ?_, ?_, ?_, ?_, ?_, ?_⟩, ⟨hle, hle1, zIm, hrk, fun id hi => dY (.inl hi), heq1⟩⟩
  ·
    rintro id B (hB | hB)
    · obtain ⟨b, o, n, hb, hlt, hrel⟩ := C.wp.blk id B (hr _ _ hB)
      exact ⟨b, o, n, hle _ _ hb, Nat.lt_of_lt_of_le hlt hgo.size, hrel.mono hle (hrk id B b o n hB hb)⟩
    · obtain ⟨b, o, n, hb, hlt, hrel⟩ := hgo.rel.blk id B hB
      exact ⟨b, o, n, hle1 _ _ hb, hlt, hrel.mono hle1 rfl⟩
  · intro id hi
    rw [dY (.inr (by omega))]
    exact C.wp.nx id hi
  · intro id b o n hb
    rcases Nat.lt_or_ge id base with h1 | h1
    · rw [dY (.inl h1)] at hb
      exact Nat.lt_of_lt_of_le (C.wp.here id b o n hb) hgo.size
    · rcases Nat.lt_or_ge id top with h2 | h2
      · rw [Hg h1 h2] at hb; exact hgo.rel.here id b o n hb
      · rw [dY (.inr h2)] at hb
        exact Nat.lt_of_lt_of_le (C.wp.here id b o n hb) hgo.size
  ·
    have cross : ∀ id id' B B' b o o' n n', id ≠ id' -> r id B -> H1.get id' = some B' -> β id = some (b, o, n) -> mix β β1 base top id' = some (b, o', n') -> iE B B' := by
      intro id id' B B' b o o' n n' hne hB hB' hb hb'
      have hbs := C.wp.here id b o n hb
      rw [(heq1 id' B' hB').1] at hb'
      rcases Nat.lt_or_ge id' base with h1 | h1
      · have hb2 := hlow id' _ h1 hb'
        rcases Nat.lt_or_ge id' lo1 with h2 | h2
        · have hk := hgo.keep id' h2
          rw [hB'] at hk
          exact C.wp.sep id id' B B' b o o' n n' hne (hr _ _ hB) (hsub _ _ hk.symm) hb hb2
        · obtain ⟨B0, h0⟩ := hgo.back id' B' h1 hB'
          exact (hap id B id' B0 b o n o' n' hB h2 h0 hb hb2).elim
      · rcases hgo.fresh id' b o' n' h1 hb' with h3 | h3
        · omega
        · obtain ⟨i2, B2, o2, n2, h4, h5, h6⟩ := hown b h3
          exact (hap id B i2 B2 b o n o2 n2 hB h4 h5 hb h6).elim
    intro id id' B B' b o o' n n' hne h1 h2 hb hb'
    rcases h1 with h1 | h1 <;> rcases h2 with h2 | h2
    · rw [Qy _ _ h1] at hb
      rw [Qy _ _ h2] at hb'
      exact C.wp.sep id id' B B' b o o' n n' hne (hr _ _ h1) (hr _ _ h2) hb hb'
    · rw [Qy _ _ h1] at hb
      exact cross id id' B B' b o o' n n' hne h1 h2 hb hb'
    · rw [Qy _ _ h2] at hb'
      exact (cross id' id B' B b o' o n' n (Ne.symm hne) h2 h1 hb' hb).symm
    · rw [(heq1 _ _ h1).1] at hb
      rw [(heq1 _ _ h2).1] at hb'
      exact hgo.rel.sep id id' B B' b o o' n n' hne h1 h2 hb hb'
  ·
    intro id id' B' b o o' n n' hi hi' h2 hb hb'
    rw [dY (.inl (by omega))] at hb
    rcases h2 with h2 | h2
    · rw [Qy _ _ h2] at hb'
      exact C.wp.side id id' B' b o o' n n' hi hi' (hr _ _ h2) hb hb'
    · rw [(heq1 _ _ h2).1] at hb'
      rcases Nat.lt_or_ge id' base with h1 | h1
      · have hb2 := hlow id' _ h1 hb'
        obtain ⟨B0, h0⟩ := hgo.back id' B' h1 h2
        exact C.wp.side id id' B0 b o o' n n' hi hi' (hsub _ _ h0) hb hb2
      · rcases hgo.fresh id' b o' n' h1 hb' with h3 | h3
        · have := C.wp.here id b o n hb
          omega
        · obtain ⟨i2, B2, o2, n2, h4, h5, h6⟩ := hown b h3
          exact C.wp.side id i2 B2 b o o2 n n2 hi (by omega) (hsub _ _ h5) hb h6
  · exact C.ext.trans hle
  · exact Nat.le_trans C.size hgo.size
  · intro b hb ho
    rw [hgo.old b (Nat.lt_of_lt_of_le hb C.size) ?_, C.old b hb ho]
    intro ho1
    obtain ⟨i2, B2, o2, n2, h4, h5, h6⟩ := hown b ho1
    rcases C.up (by omega) (hsub _ _ h5) h6 with h7 | h7
    · omega
    · exact ho h7
  · rintro id B' hi (h1 | h1)
    · exact C.back id B' hi (hr _ _ h1)
    · obtain ⟨B0, h0⟩ := hgo.back id B' (by simp only; omega) h1
      exact C.back id B0 hi (hsub _ _ h0)
  · intro id b o n hi hb
    rcases Nat.lt_or_ge id base with h1 | h1
    · rw [dY (.inl h1)] at hb
      exact C.fresh id b o n hi hb
    · rcases Nat.lt_or_ge id top with h2 | h2
      · rw [Hg h1 h2] at hb
        rcases hgo.fresh id b o n h1 hb with h3 | h3
        · exact .inl (Nat.le_trans C.size h3)
        · obtain ⟨i2, B2, o2, n2, h4, h5, h6⟩ := hown b h3
          exact C.up (by omega) (hsub _ _ h5) h6
      · rw [dY (.inr h2)] at hb
        exact C.fresh id b o n hi hb
  · intro id p hi hb
    rw [dY (.inl (by omega))] at hb
    exact C.old' id p hi hb
  · exact hgo.os.trans C.os
  · exact hgo.tape.trans C.tape
  · exact hgo.output.trans C.output
end
theorem zAe {B B' : Blk} (h : B.lone = true) : ¬ iE B B' := by
 intro hm
 cases B <;> cases B' <;> simp only [iE] at hm
 simp only [Blk.lone, Bool.and_eq_true, Bool.not_eq_true'] at h
 have := hm.2.1 h.1
 rw [h.2] at this
 cases this
end Go.Ce
namespace Go.Ce
section
variable (E : Env) (ih : Runs) (n lo : Nat)
def Wnt (ops : List Oper) (d : Nat) (o : Oper) (s : DS) : Prop :=
 ∀ i want, o.guard = some (i, want) -> bit d i = true ∧ ∃ t, aO ops i = some t ∧ s.tm.get t = some (.bo want)
def Unw (ops : List Oper) (d : Nat) (o : Oper) (s : DS) : Prop :=
 ∃ i want t v, o.guard = some (i, want) ∧ bit d i = true ∧ aO ops i = some t ∧ s.tm.get t = some v ∧ ((∃ b, v = .bo b ∧ (b == want) = false) ∨ v = .tu [])
inductive Kd (ops : List Oper) (j d : Nat) (o : Oper) (s s' : DS) : Prop
 | off (tm' : T AV) (hu : Unw ops d o s) (hp : dI n s.tm o.dst (.tu []) = some tm') (e : s' = { s with tm := tm' })
 | wr (v : AV) (A1 : W) (tm' : T AV) (hw : Wnt ops d o s) (hc : chain d s.hist = true)
   (hr : iO E ih lo o (view s.tm (tmpsOf o.op.operands.toList)) ⟨T.union (bU d s.pend).1 s.H, s.nx⟩ = some (v, A1)) (hp : dI n s.tm o.dst v = some tm')
   (hn : s.nx <= A1.nx) (hrr : vH E ih d A1.nx A1.H s.past = true) (e : s' = { tm := tm', H := A1.H, nx := A1.nx, pend := (bU d s.pend).2, hist := (j, s.H) :: s.hist, past := s.past })
 | hl (v : AV) (A1 : W) (tm' : T AV) (hw : Wnt ops d o s) (hr : iO E ih s.nx o (view s.tm (tmpsOf o.op.operands.toList)) ⟨.nil, s.nx⟩ = some (v, A1)) (hp : dI n s.tm o.dst v = some tm')
   (hn : s.nx <= A1.nx) (hl : T.all Blk.lone A1.H = true) (e : s' = { s with tm := tm', nx := A1.nx, pend := (j, A1.H) :: s.pend })
 | ld (v : AV) (A1 : W) (tm' : T AV) (hw : Wnt ops d o s) (hr : iO E ih s.nx o (view s.tm (tmpsOf o.op.operands.toList)) ⟨s.H, s.nx⟩ = some (v, A1)) (hp : dI n s.tm o.dst v = some tm')
   (hn : A1.nx = s.nx) (hu : AV.under s.nx v = true) (hrd : reads E ih d s.nx o (view s.tm (tmpsOf o.op.operands.toList)) v s.hist = true)
   (e : s' = { s with tm := tm', past := (j, o, view s.tm (tmpsOf o.op.operands.toList), v) :: s.past })
variable {E ih n lo}
theorem Kr {ops : List Oper} {j d : Nat} {o : Oper} {s s' : DS} (hw : Wnt ops d o s) (h : Gj E ih n lo j d o s = some s') : Kd E ih n lo ops j d o s s' := by
 unfold Gj at h
 split at h
 ·obtain ⟨hc, h⟩ := aD h
  replace h := aA h; obtain ⟨⟨v, A1⟩, hr, h⟩ := h
  replace h := aA h; obtain ⟨tm', hp, h⟩ := h
  obtain ⟨hrr, h⟩ := aD h
  rw [Bool.and_eq_true] at hrr
  simp only [Option.some.injEq] at h
  exact .wr v A1 tm' hw hc hr hp (Nat.le_of_ble_eq_true hrr.1) hrr.2 h.symm
 ·split at h
  ·rename_i v A1 hr
   replace h := aA h; obtain ⟨tm', hp, h⟩ := h
   obtain ⟨hl, h⟩ := aD h
   rw [Bool.and_eq_true] at hl
   simp only [Option.some.injEq] at h
   exact .hl v A1 tm' hw hr hp (Nat.le_of_ble_eq_true hl.1) hl.2 h.symm
  ·replace h := aA h; obtain ⟨⟨v, A1⟩, hr, h⟩ := h
   replace h := aA h; obtain ⟨tm', hp, h⟩ := h
   obtain ⟨hc, h⟩ := aD h
   rw [Bool.and_eq_true, Bool.and_eq_true] at hc
   simp only [Option.some.injEq] at h
   exact .ld v A1 tm' hw hr hp (Nat.eq_of_beq_eq_true hc.1.1) hc.1.2 hc.2 h.symm
theorem Tp {ops : List Oper} {j d : Nat} {o : Oper} {s s' : DS} (h : xI E ih n lo ops j d o s = some s') : Kd E ih n lo ops j d o s s' := by
 unfold xI at h
 split at h
 ·rename_i hg
  exact Kr (fun i want hi => by rw [hg] at hi; cases hi) h
 ·rename_i i want hg
  obtain ⟨hb, h⟩ := aD h
  replace h := aA h; obtain ⟨t, ht, h⟩ := h
  replace h := aA h; obtain ⟨v, hv, h⟩ := h
  split at h
  ·rename_i b
   unfold cnd at h
   split at h
   ·rename_i hbw
    have hbe := beq_iff_eq.1 hbw
    refine Kr (fun i' want' hi => ?_) h
    rw [hg] at hi
    simp only [Option.some.injEq, Prod.mk.injEq] at hi
    obtain ⟨rfl, rfl⟩ := hi
    exact ⟨hb, t, ht, by rw [<- hbe]; exact hv⟩
   ·rename_i hbw
    replace h := aA h; obtain ⟨tm', hp, h⟩ := h
    simp only [Option.some.injEq] at h
    exact .off tm' ⟨i, want, t, _, hg, hb, ht, hv, .inl ⟨b, rfl, hbw⟩⟩ hp h.symm
  ·replace h := aA h; obtain ⟨tm', hp, h⟩ := h
   simp only [Option.some.injEq] at h
   exact .off tm' ⟨i, want, t, _, hg, hb, ht, hv, .inr rfl⟩ hp h.symm
  ·cases h
end
theorem jW {α : Type} {l : List α} {x : α} : l ≠ x :: l := fun h => by
 have := congrArg List.length h
 simp at this
theorem Hl (d : Nat) : ∀ l : List (Nat × T Blk), (bU d l).2.length <= l.length
 | [] => Nat.le_refl _
 | p :: r => by
  have := Hl d r
  simp only [bU]
  split
  ·simp only [List.length_cons]; omega
  ·simp only [List.length_cons]; omega
theorem nZ {d : Nat} {x : Nat × T Blk} : ∀ {l : List (Nat × T Blk)}, x ∈ (bU d l).2 -> x ∈ l ∧ bit d x.1 = false
 | [], h => by cases h
 | p :: r, h => by
  simp only [bU] at h
  split at h
  ·obtain ⟨h1, h2⟩ := nZ h
   exact ⟨.tail _ h1, h2⟩
  ·rename_i hb
   cases h with
   | head => exact ⟨.head _, hb⟩
   | tail _ h =>
    obtain ⟨h1, h2⟩ := nZ h
    exact ⟨.tail _ h1, h2⟩
theorem qQ {d id : Nat} {B : Blk} : ∀ {l : List (Nat × T Blk)}, (bU d l).1.get id = some B -> ∃ x ∈ l, bit d x.1 = true ∧ x.2.get id = some B
 | [], h => by simp [bU, T.get] at h
 | p :: r, h => by
  simp only [bU] at h
  split at h
  ·rename_i hb
   simp only [T.jN] at h
   split at h
   ·rename_i x hx
    simp only [Option.some.injEq] at h
    subst h
    exact ⟨p, .head _, hb, hx⟩
   ·obtain ⟨x, h1, h2⟩ := qQ h
    exact ⟨x, .tail _ h1, h2⟩
  ·obtain ⟨x, h1, h2⟩ := qQ h
   exact ⟨x, .tail _ h1, h2⟩
theorem Ho {id : Nat} {B : Blk} {H : T Blk} : ∀ {l : List (Nat × T Blk)}, (mF l H).get id = some B -> H.get id = some B ∨ ∃ x ∈ l, x.2.get id = some B
 | [], h => .inl h
 | p :: r, h => by
  simp only [mF, T.jN] at h
  split at h
  ·rename_i x hx
   simp only [Option.some.injEq] at h
   subst h
   exact .inr ⟨p, .head _, hx⟩
  ·rcases Ho h with h | ⟨x, h1, h2⟩
   ·exact .inl h
   ·exact .inr ⟨x, .tail _ h1, h2⟩
theorem Hq {id : Nat} {H : T Blk} : ∀ {l : List (Nat × T Blk)}, (∀ x ∈ l, x.2.get id = none) -> (mF l H).get id = H.get id
 | [], _ => rfl
 | p :: r, h => by
  simp only [mF, T.jN]
  rw [h p (.head _)]
  exact Hq fun x hx => h x (.tail _ hx)
theorem Ku {d : Nat} {x : Nat × T Blk} : ∀ {l : List (Nat × T Blk)}, chain d l = true -> x ∈ l -> bit d x.1 = true
 | p :: r, h, hx => by
  simp only [chain, Bool.and_eq_true] at h
  cases hx with
  | head => exact h.1
  | tail _ hx => exact Ku h.2 hx
theorem xW {tm : T AV} {t : Nat} {v : AV} : ∀ {ts : List Tmp}, (view tm ts).get t = some v -> tm.get t = some v ∧ t ∈ ts
 | [], h => by simp [view, T.get] at h
 | t0 :: r, h => by
  simp only [view] at h
  split at h
  ·rename_i v0 hv0
   unfold cnd at h
   split at h
   ·rename_i hb
    by_cases ht : t = t0
    ·subst ht
     rw [T.bE _ (by rw [Nat.blt_eq] at hb; exact hb)] at h
     simp only [Option.some.injEq] at h
     subst h
     exact ⟨hv0, .head _⟩
    ·rw [T.aI _ ht] at h
     obtain ⟨h1, h2⟩ := xW h
     exact ⟨h1, .tail _ h2⟩
   ·obtain ⟨h1, h2⟩ := xW h
    exact ⟨h1, .tail _ h2⟩
  ·obtain ⟨h1, h2⟩ := xW h
   exact ⟨h1, .tail _ h2⟩
theorem mG {t : Nat} : ∀ {l : List Operand}, t ∈ tmpsOf l -> Operand.tmp t ∈ l
 | [], h => by cases h
 | .tmp u :: r, h => by
  simp only [tmpsOf] at h
  cases h with
  | head => exact .head _
  | tail _ h => exact .tail _ (mG h)
 | .const _ :: r, h => .tail _ (mG h)
 | .func _ :: r, h => .tail _ (mG h)
 | .global _ :: r, h => .tail _ (mG h)
theorem Dz {n : Nat} {tm tm' : T AV} {d : Option Tmp} {v : AV} (h : dI n tm d v = some tm') : (∀ t, d = some t -> tm'.get t = some v ∧ t < n) ∧ (∀ t, d ≠ some t -> tm'.get t = tm.get t) := by
 cases d with
 | none =>
  simp only [dI, Option.some.injEq] at h
  subst h
  exact ⟨(fun t h => by cases h), fun _ _ => rfl⟩
 | some d =>
  simp only [dI] at h
  obtain ⟨hc, h⟩ := aD h
  simp only [Option.some.injEq] at h
  subst h
  rw [Bool.and_eq_true, Nat.blt_eq, Nat.blt_eq] at hc
  refine ⟨fun t h => ?_, fun t h => T.aI _ fun e => h (by rw [e])⟩
  cases h
  exact ⟨T.bE _ hc.2, hc.1⟩
theorem tO {x : Nat} : ∀ {l : List Nat}, kV x l = true <-> x ∈ l
 | [] => by simp [kV]
 | y :: l => by
  simp only [kV, Bool.or_eq_true, List.mem_cons]
  rw [tO (l := l)]
  constructor
  ·rintro (h | h)
   ·exact .inl (Nat.eq_of_beq_eq_true h)
   ·exact .inr h
  ·rintro (rfl | h)
   ·exact .inl (Nat.beq_refl _)
   ·exact .inr h
theorem xX {t : Nat} : ∀ {l : List Oper} {i : Nat}, aO l i = some t -> t ∈ pG l
 | [], i, h => by simp [aO] at h
 | o :: r, 0, h => by
  simp only [aO, List.getElem?_cons_zero, Option.bind_some] at h
  simp [pG, h]
 | o :: r, i + 1, h => by
  have : aO r i = some t := by simpa [aO] using h
  simp only [pG]
  split
  ·exact .tail _ (xX this)
  ·exact xX this
theorem xY {t : Nat} : ∀ {l : List Oper} {i j : Nat}, distinct (pG l) = true -> aO l i = some t -> aO l j = some t -> i = j
 | [], i, _, _, h, _ => by simp [aO] at h
 | o :: r, i, j, hd, h, h' => by
  have hr : distinct (pG r) = true ∧ ∀ t, o.dst = some t -> t ∉ pG r := by
   simp only [pG] at hd
   split at hd
   ·rename_i d hdd
    simp only [distinct, Bool.and_eq_true, Bool.not_eq_true'] at hd
    refine ⟨hd.2, fun t ht hm => ?_⟩
    rw [hdd] at ht
    cases ht
    rw [tO.2 hm] at hd
    cases hd.1
   ·rename_i hdd
    exact ⟨hd, fun t ht => by rw [hdd] at ht; cases ht⟩
  match i, j with
  | 0, 0 => rfl
  | 0, j + 1 =>
   have h1 : o.dst = some t := by simpa [aO] using h
   have h2 : aO r j = some t := by simpa [aO] using h'
   exact absurd (xX h2) (hr.2 t h1)
  | i + 1, 0 =>
   have h1 : o.dst = some t := by simpa [aO] using h'
   have h2 : aO r i = some t := by simpa [aO] using h
   exact absurd (xX h2) (hr.2 t h1)
  | i + 1, j + 1 =>
   have h1 : aO r i = some t := by simpa [aO] using h
   have h2 : aO r j = some t := by simpa [aO] using h'
   rw [xY hr.1 h1 h2]
theorem yK {ops : List Oper} {o : Oper} {d : Nat} : ∀ {l : List Oper} {k i : Nat} {x : Oper}, xH ops o d l k = true -> l[i]? = some x -> bit d (k + i) = true ∨ zT ops x o = true
 | [], _, _, _, _, h => by simp at h
 | y :: l, k, i, x, h, hx => by
  simp only [xH, Bool.and_eq_true, Bool.or_eq_true] at h
  cases i with
  | zero =>
   simp only [List.getElem?_cons_zero, Option.some.injEq] at hx
   subst hx
   exact h.1
  | succ i =>
   simp only [List.getElem?_cons_succ] at hx
   have := yK h.2 hx
   rwa [show k + 1 + i = k + (i + 1) by omega] at this
theorem pJ {ops : List Oper} : ∀ {l done : List Oper} {ds : List Nat} {j : Nat} {o : Oper}, nI ops done ds l = true -> l[j]? = some o -> ∃ d, ds[j]? = some d ∧ ∀ i x, i < done.length + j -> (done ++ l)[i]? = some x -> bit d i = true ∨ zT ops x o = true
 | [], _, _, _, _, _, h => by simp at h
 | y :: l, done, [], j, o, h, _ => by simp [nI] at h
 | y :: l, done, d :: ds, j, o, h, ho => by
  simp only [nI, Bool.and_eq_true] at h
  cases j with
  | zero =>
   simp only [List.getElem?_cons_zero, Option.some.injEq] at ho
   subst ho
   refine ⟨d, rfl, fun i x hi hx => ?_⟩
   rw [List.getElem?_append_left (by omega)] at hx
   have := yK h.1 hx
   rwa [Nat.zero_add] at this
  | succ j =>
   simp only [List.getElem?_cons_succ] at ho
   obtain ⟨d', h1, h2⟩ := pJ h.2 ho
   refine ⟨d', by simpa using h1, fun i x hi hx => h2 i x (by simp; omega) (by simpa using hx)⟩
theorem zGn {L : List Oper} {ds : List Nat} (h : oM [] L = some ds) : ∀ (j : Nat) {o : Oper} {d : Nat}, L[j]? = some o -> ds[j]? = some d -> ∀ i, bit d i = true -> i < j := by
 obtain ⟨es, he, hl, hs⟩ := nY h
 simp only [List.nil_append] at he
 subst he
 intro j
 induction j using Nat.strongRecOn with
 | _ j IH =>
  intro o d ho hd i hi
  obtain ⟨d', h1, h2⟩ := hs j o ho
  simp only [List.length_nil, Nat.zero_add] at h1 h2
  rw [hd] at h1
  cases h1
  obtain ⟨e, _, _, h3⟩ := (jV h2).2 i hi
  have hon := ((jV h2).1 e (by assumption) (by assumption)).2
  rw [List.length_take] at hon
  rcases h3 with rfl | ⟨m, hm, hb⟩
  ·omega
  ·rw [List.getElem?_take] at hm
   split at hm
   ·rename_i hlt
    cases ho2 : L[e.on]? with
    | none =>
     rw [List.getElem?_eq_none_iff] at ho2
     omega
    | some o2 => exact Nat.lt_trans (IH e.on hlt ho2 hm i hb) hlt
   ·cases hm
def Cl (ds : List Nat) (D : Nat -> Prop) : Prop := ∀ j d, D j -> ds[j]? = some d -> ∀ i, bit d i = true -> D i
theorem Xu {L : List Oper} {ds : List Nat} (h : oM [] L = some ds) {D : Nat -> Prop} (hc : Cl ds D) {j : Nat} {o : Oper} {d : Nat} (ho : L[j]? = some o) (hd : ds[j]? = some d)
  (hr : ∀ e ∈ o.after.toList, Region.binds .any e = true -> D e.on) : ∀ i, bit d i = true -> D i := by
 obtain ⟨es, he, hl, hs⟩ := nY h
 simp only [List.nil_append] at he
 subst he
 intro i hi
 obtain ⟨d', h1, h2⟩ := hs j o ho
 simp only [List.length_nil, Nat.zero_add] at h1 h2
 rw [hd] at h1
 cases h1
 obtain ⟨e, he, hb, h3⟩ := (jV h2).2 i hi
 rcases h3 with rfl | ⟨m, hm, hb2⟩
 ·exact hr e he hb
 ·rw [List.getElem?_take] at hm
  split at hm
  ·exact hc e.on m (hr e he hb) hm i hb2
  ·cases hm
end Go.Ce
