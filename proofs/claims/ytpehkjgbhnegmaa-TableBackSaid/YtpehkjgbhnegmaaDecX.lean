/- The part X: functions that are handed own boxes and rows to work on. No statement is proved here. -/
import Derived.Test.YtpehkjgbhnegmaaDecT
namespace Go.Dec

/-! ### What a call can come to -/

mutual
def L.ids : L → List Nat
  | .ptr id _ => [id]
  | .ornil id _ => [id]
  | .aptr id _ _ _ _ => [id]
  | .eptr id _ _ _ => [id]
  | .sl id _ _ _ => [id]
  | .own id _ => [id]
  | .clo _ caps => L.idss caps
  | _ => []
def L.idss : List L → List Nat
  | [] => []
  | l :: ls => l.ids ++ L.idss ls
end

def V.ids : V → List Nat
  | .one l => l.ids
  | .agg ls => L.idss ls
  | _ => []

def Ob.ids : Ob → List Nat
  | .box _ ls => L.idss ls
  | .arr .. => []

def addIds (acc : List Nat) : List Nat → List Nat
  | [] => acc
  | i :: r => match pos i acc 0 with
    | some _ => addIds acc r
    | none => addIds (acc ++ [i]) r

def reachGo (h : List Ob) : Nat → List Nat → Nat → List Nat
  | 0, acc, _ => acc
  | n + 1, acc, p =>
    match acc[p]? with
    | none => acc
    | some i => match h[i]? with
      | some o => reachGo h n (addIds acc o.ids) (p + 1)
      | none => reachGo h n acc (p + 1)

def idsV : List V → List Nat
  | [] => []
  | v :: vs => v.ids ++ idsV vs

/-- The objects that a call is handed, in the order in which they are come to. -/
def reach (vs : List V) (h : List Ob) : List Nat := reachGo h (h.length + 1) (addIds [] (idsV vs)) 0

/-! ### Into the numbers of the called function, and back -/

mutual
def L.back (f v : Nat → Nat) : L → L
  | .ptr id o => .ptr (f id) o
  | .ornil id o => .ornil (f id) o
  | .aptr id o es i sub => .aptr (f id) o es i sub
  | .eptr id u i o => .eptr (f id) (u + v id) i o
  | .sl id u i n => .sl (f id) (u + v id) i n
  | .own id u => .own (f id) (u + v id)
  | .clo g caps => .clo g (L.backs f v caps)
  | l => l
def L.backs (f v : Nat → Nat) : List L → List L
  | [] => []
  | l :: ls => l.back f v :: L.backs f v ls
end

def V.back (f v : Nat → Nat) : V → V
  | .one l => .one (l.back f v)
  | .agg ls => .agg (L.backs f v ls)
  | _ => .poison

def Ob.back (f v : Nat → Nat) (id : Nat) : Ob → Ob
  | .box e ls => .box e (L.backs f v ls)
  | .arr e t u rows wr => .arr e t (u + v id) rows wr

section
variable {β β' : Nat → Pl} {w : World} {N N' : Nat → Prop}

/-- Of one place, in two numberings. -/
structure PlTo (p q : Pl) (v : Nat) : Prop where
  live : q.live = p.live
  box : q.box = p.box
  blk : q.blk = p.blk
  row : p.box = false → q.ver = p.ver + v ∧ q.size = p.size ∧ q.cap = p.cap ∧ q.len = p.len

theorem PlTo.slOwn {p q : Pl} {v : Nat} (h : PlTo p q v) (hb : p.box = false) {off len : Nat} {c : Value} : SlOwn q off len c ↔ SlOwn p off len c := by
  obtain ⟨_, h2, h3, _⟩ := h.row hb
  unfold SlOwn
  rw [h.blk, h2, h3]

mutual
theorem L.Rel.back {f v : Nat → Nat} (hβ : ∀ j, (β j).live = true → PlTo (β j) (β' (f j)) (v j)) (hN : ∀ b, b < w.heap.size → N' b → N b) : ∀ {l : L} {cs : List Value}, l.Rel β w N cs → (l.back f v).Rel β' w N' cs
  | .val t x, cs, h => by simp only [L.back, L.Rel] at *; exact Ty.Rel.mono (Keep.refl _ w) hN h
  | .ptr id off, cs, h => by
    simp only [L.back, L.Rel] at *
    obtain ⟨h1, h2, h3⟩ := h
    have := hβ id h1
    exact ⟨this.live ▸ h1, this.box ▸ h2, by rw [this.blk]; exact h3⟩
  | .aptr id off es i sub, cs, h => by
    simp only [L.back, L.Rel] at *
    obtain ⟨h1, h2, h3⟩ := h
    have := hβ id h1
    exact ⟨this.live ▸ h1, this.box ▸ h2, by rw [this.blk]; exact h3⟩
  | .nilp, cs, h => by simp only [L.back, L.Rel] at *; exact h
  | .ornil id off, cs, h => by
    simp only [L.back, L.Rel] at *
    obtain ⟨c, e, h⟩ := h
    refine ⟨c, e, ?_⟩
    rcases h with h | ⟨h1, h2, h3⟩
    · exact .inl h
    · have := hβ id h1
      exact .inr ⟨this.live ▸ h1, this.box ▸ h2, by rw [this.blk]; exact h3⟩
  | .eptr id u i off, cs, h => by
    simp only [L.back, L.Rel] at *
    obtain ⟨h1, h2, h3, c, h4, h5, h6⟩ := h
    have := hβ id h1
    obtain ⟨g1, g2, g3, g4⟩ := this.row h2
    refine ⟨this.live ▸ h1, this.box ▸ h2, by omega, c, h4, h5, fun hv => ?_⟩
    rw [this.blk, g2]
    exact h6 (by omega)
  | .rptr t x off, cs, h => by simp only [L.back, L.Rel] at *; obtain ⟨c, hc, hr⟩ := h; exact ⟨c, hc, hr.mono (Keep.refl _ w) hN⟩
  | .sl id u off len, cs, h => by
    simp only [L.back, L.Rel] at *
    obtain ⟨h1, h2, h3, c, h4, h5, h6⟩ := h
    have := hβ id h1
    obtain ⟨g1, g2, g3, g4⟩ := this.row h2
    exact ⟨this.live ▸ h1, this.box ▸ h2, by omega, c, h4, h5, fun hv => (this.slOwn h2).2 (h6 (by omega))⟩
  | .own id u, cs, h => by
    simp only [L.back, L.Rel] at *
    obtain ⟨h1, h2, h3, c, h4, h5, h6⟩ := h
    have := hβ id h1
    obtain ⟨g1, g2, g3, g4⟩ := this.row h2
    exact ⟨this.live ▸ h1, this.box ▸ h2, by omega, c, h4, h5, fun hv => by rw [g4]; exact (this.slOwn h2).2 (h6 (by omega))⟩
  | .nils, cs, h => by simp only [L.back, L.Rel] at *; exact h
  | .clo g caps, cs, h => by
    simp only [L.back, L.Rel] at *
    obtain ⟨us, hc, hr⟩ := h
    exact ⟨us, hc, L.Rels1.back hβ hN hr⟩
  | .bad n, cs, h => by simp only [L.back, L.Rel] at *; exact h
theorem L.Rels1.back {f v : Nat → Nat} (hβ : ∀ j, (β j).live = true → PlTo (β j) (β' (f j)) (v j)) (hN : ∀ b, b < w.heap.size → N' b → N b) : ∀ {ls : List L} {us : List Value}, L.Rels1 β w N ls us → L.Rels1 β' w N' (L.backs f v ls) us
  | [], us, h => by simp only [L.backs, L.Rels1] at *; exact h
  | l :: ls, us, h => by
    simp only [L.backs, L.Rels1] at *
    obtain ⟨u, r, e, h1, h2⟩ := h
    exact ⟨u, r, e, L.Rel.back hβ hN h1, L.Rels1.back hβ hN h2⟩
end

theorem LsRel.back {f v : Nat → Nat} (hβ : ∀ j, (β j).live = true → PlTo (β j) (β' (f j)) (v j)) (hN : ∀ b, b < w.heap.size → N' b → N b) : ∀ {ls : List L} {cs : List Value}, LsRel β w N ls cs → LsRel β' w N' (L.backs f v ls) cs
  | [], _, h => h
  | l :: ls, _, ⟨c1, c2, e, h1, h2⟩ => ⟨c1, c2, e, h1.back hβ hN, LsRel.back hβ hN h2⟩

theorem V.Rel.back {f v : Nat → Nat} (hβ : ∀ j, (β j).live = true → PlTo (β j) (β' (f j)) (v j)) (hN : ∀ b, b < w.heap.size → N' b → N b) {x : V} {u : Value} (h : x.Rel β w N u) : (x.back f v).Rel β' w N' u := by
  cases x with
  | one l => exact L.Rel.back hβ hN h
  | agg ls => obtain ⟨cs, e, h⟩ := h; exact ⟨cs, e, h.back hβ hN⟩
  | _ => trivial

theorem Ob.Rel.back {f v : Nat → Nat} (hβ : ∀ j, (β j).live = true → PlTo (β j) (β' (f j)) (v j)) (hN : ∀ b, b < w.heap.size → N' b → N b) {id : Nat} {o : Ob} (h : o.Rel β w N (β id)) : (o.back f v id).Rel β' w N' (β' (f id)) := by
  cases o with
  | box e ls =>
    simp only [Ob.back, Ob.Rel] at *
    obtain ⟨h1, h2, b, cs, h3, h4, h5⟩ := h
    have := hβ id h1
    exact ⟨this.live ▸ h1, this.box ▸ h2, b, cs, this.blk ▸ h3, h4.back hβ hN, h5⟩
  | arr e t u rows wr =>
    simp only [Ob.back, Ob.Rel] at *
    obtain ⟨h1, h2, h3, h4, h5, h6, h7⟩ := h
    have := hβ id h1
    obtain ⟨g1, g2, g3, g4⟩ := this.row h2
    refine ⟨this.live ▸ h1, this.box ▸ h2, by omega, by rw [g2, h4], h5, by rw [g4, h6], ?_⟩
    rw [this.blk, g3]
    rcases h7 with h7 | ⟨b, cur, css, k1, k2, k3, k4⟩
    · exact .inl h7
    · exact .inr ⟨b, cur, css, k1, k2, k3.mono fun _ _ h => h.mono (Keep.refl _ w) hN, k4⟩

end

/-! ### What a function does that is handed own objects -/

/-- **A function that is handed boxes and rows, told by a plain one over their data.** -/
def Meets (P : Program) (f : FuncId) (si so : Sh) (F : si.X → Option so.X) : Prop :=
  hasBody P f = true ∧ ∀ x y, F x = some y → ∀ (C : Ctx) (β : Nat → Pl) (w : World) (xs : List Value), C.P = P → C.fix.length ≤ si.os.length → Sim C β (si.enc x) { tmps := xs.toArray, defers := [] } w →
    Calls P f xs.toArray w fun e w' => ∃ (us : List Value) (β' : Nat → Pl), e = .returned (retVal us) ∧ Sim C β' (so.enc y) { tmps := us.toArray, defers := [] } w'

def sumsV : List V → Option (List (Sum L (List L)))
  | [] => some []
  | v :: r => match v.sum, sumsV r with
    | some s, some ss => some (s :: ss)
    | _, _ => none

def outV (vs : List V) : V :=
  match sumsV vs with
  | some ss => tupV ss
  | none => .poison

def outH (g : Nat → Option Ob) : Nat → List Ob → List Ob
  | _, [] => []
  | i, o :: r => (match g i with | some o' => o' | none => o) :: outH g (i + 1) r

def backFrom (f v : Nat → Nat) : Nat → List Ob → List Ob
  | _, [] => []
  | j, o :: r => o.back f v j :: backFrom f v (j + 1) r

/-- Rows stay rows. -/
def kindsOK : List Ob → List OS → Bool
  | [], _ => true
  | .box .. :: r, _ :: s => kindsOK r s
  | .arr .. :: r, .row .. :: s => kindsOK r s
  | _, _ => false

def outF (ρ : List Nat) (n : Nat) (j : Nat) : Nat := match ρ[j]? with | some i => i | none => n + (j - ρ.length)
def outU (ρ : List Nat) (h : List Ob) (j : Nat) : Nat := match ρ[j]? with
  | some i => (match h[i]? with | some (.arr _ _ u _ _) => u + 1 | _ => 0)
  | none => 0
def outHeap (ρ : List Nat) (h hy : List Ob) : List Ob :=
  outH (fun i => match pos i ρ 0 with | some j => (match hy[j]? with | some o => some (o.back (outF ρ h.length) (outU ρ h) j) | none => none) | none => none) 0 h ++ backFrom (outF ρ h.length) (outU ρ h) ρ.length (hy.drop ρ.length)

def callOK (ρ : List Nat) (h : List Ob) (si so : Sh) : Bool :=
  nodupB ρ && (allB (fun i => Nat.blt i h.length) ρ && (Nat.beq ρ.length si.os.length && (allB Ob.wr (inH ρ h) && kindsOK (inH ρ h) so.os)))

def peM (si so : Sh) (F : si.X → Option so.X) : PE where
  R := so.X
  use := 2
  run vs h := match si.dec ⟨vs.map (V.ren (reach vs h) h), inH (reach vs h) h⟩ with
    | some x => some (callOK (reach vs h) h si so, F x)
    | none => none
  enc y vs h := (outV ((so.enc y).r.map (V.back (outF (reach vs h) h.length) (outU (reach vs h) h))), outHeap (reach vs h) h (so.enc y).h)

theorem outH_get {g : Nat → Option Ob} : ∀ {h : List Ob} {n i : Nat}, (outH g n h)[i]? = (h[i]?).map fun o => (match g (n + i) with | some o' => o' | none => o)
  | [], n, i => by simp [outH]
  | o :: r, n, 0 => by simp [outH]
  | o :: r, n, i + 1 => by
    simp only [outH, List.getElem?_cons_succ]
    rw [outH_get (h := r), show n + 1 + i = n + (i + 1) by omega]

theorem outH_length {g : Nat → Option Ob} : ∀ {h : List Ob} {n : Nat}, (outH g n h).length = h.length
  | [], _ => rfl
  | _ :: r, n => congrArg (· + 1) (outH_length (h := r) (n := n + 1))

theorem backFrom_get {f v : Nat → Nat} : ∀ {h : List Ob} {n i : Nat}, (backFrom f v n h)[i]? = (h[i]?).map fun o => o.back f v (n + i)
  | [], n, i => by simp [backFrom]
  | o :: r, n, 0 => by simp [backFrom]
  | o :: r, n, i + 1 => by
    simp only [backFrom, List.getElem?_cons_succ]
    rw [backFrom_get (h := r), show n + 1 + i = n + (i + 1) by omega]

theorem backFrom_length {f v : Nat → Nat} : ∀ {h : List Ob} {n : Nat}, (backFrom f v n h).length = h.length
  | [], _ => rfl
  | _ :: r, n => congrArg (· + 1) (backFrom_length (h := r) (n := n + 1))

theorem Ob.back_wr {f v : Nat → Nat} {j : Nat} (o : Ob) : (o.back f v j).wr = o.wr := by cases o <;> rfl

theorem kindsOK_row : ∀ {hc : List Ob} {os : List OS} {j : Nat} {e : TypeId} {t : Ty} {u : Nat} {rows : List t.den} {wr : Bool}, kindsOK hc os = true → hc[j]? = some (.arr e t u rows wr) → ∃ e' t', os[j]? = some (.row e' t')
  | [], _, j, _, _, _, _, _, _, h => by simp at h
  | .box .. :: r, [], j, _, _, _, _, _, hk, _ => by cases hk
  | .box .. :: r, s :: os, 0, _, _, _, _, _, _, h => by simp at h
  | .box .. :: r, s :: os, j + 1, _, _, _, _, _, hk, h => by
    obtain ⟨e', t', h'⟩ := kindsOK_row (hc := r) (os := os) (j := j) hk (by simpa using h)
    exact ⟨e', t', by simpa using h'⟩
  | .arr .. :: r, [], j, _, _, _, _, _, hk, _ => by cases hk
  | .arr .. :: r, .box .. :: os, j, _, _, _, _, _, hk, _ => by cases hk
  | .arr .. :: r, .row e t :: os, 0, _, _, _, _, _, _, _ => ⟨e, t, rfl⟩
  | .arr .. :: r, .row e t :: os, j + 1, _, _, _, _, _, hk, h => by
    obtain ⟨e', t', h'⟩ := kindsOK_row (hc := r) (os := os) (j := j) hk (by simpa using h)
    exact ⟨e', t', by simpa using h'⟩

theorem encOs_row {A : Type} : ∀ {os : List OS} {x : OTs os A} {j : Nat} {e : TypeId} {t : Ty}, os[j]? = some (.row e t) → ∃ rows, (encOs os x).1[j]? = some (.arr e t 0 rows true)
  | [], _, j, _, _, h => by simp at h
  | .box e0 ls :: r, x, 0, _, _, h => by simp at h
  | .box e0 ls :: r, x, j + 1, e, t, h => by
    obtain ⟨rows, h'⟩ := encOs_row (os := r) (x := (encLs ls x).2) (j := j) (by simpa using h)
    exact ⟨rows, by simpa [encOs] using h'⟩
  | .row e0 t0 :: r, x, 0, e, t, h => by
    simp only [List.getElem?_cons_zero, Option.some.injEq, OS.row.injEq] at h
    obtain ⟨rfl, rfl⟩ := h
    exact ⟨x.1, rfl⟩
  | .row e0 t0 :: r, x, j + 1, e, t, h => by
    obtain ⟨rows, h'⟩ := encOs_row (os := r) (x := x.2) (j := j) (by simpa using h)
    exact ⟨rows, by simpa [encOs] using h'⟩

theorem sumsV_rel {β : Nat → Pl} {w : World} {N : Nat → Prop} : ∀ {vs : List V} {us : List Value} {ss : List (Sum L (List L))}, sumsV vs = some ss → All2 (fun v u => V.Rel β w N v u) vs us → All2 (V1Rel β w N) ss us
  | [], [], ss, h, _ => by simp only [sumsV, Option.some.injEq] at h; subst h; trivial
  | v :: vs, u :: us, ss, h, hr => by
    simp only [sumsV] at h
    split at h
    · rename_i s ss' h1 h2
      simp only [Option.some.injEq] at h
      subst h
      exact ⟨V.sum_rel h1 hr.1, sumsV_rel h2 hr.2⟩
    · cases h
  | [], _ :: _, _, _, hr => hr.elim
  | _ :: _, [], _, _, hr => hr.elim

theorem outV_rel {β : Nat → Pl} {w : World} {N : Nat → Prop} {vs : List V} {us : List Value} (hr : All2 (fun v u => V.Rel β w N v u) vs us) : (outV vs).Rel β w N (retVal us) := by
  unfold outV
  split
  · rename_i ss h
    exact tupV_rel (sumsV_rel h hr)
  · trivial

theorem all2_of {α γ : Type} {R : α → γ → Prop} : ∀ {x : List α} {y : List γ}, x.length = y.length → (∀ (i : Nat) (a : α) (b : γ), x[i]? = some a → y[i]? = some b → R a b) → All2 R x y
  | [], [], _, _ => trivial
  | a :: x, b :: y, hl, h => ⟨h 0 a b rfl rfl, all2_of (by simpa using hl) fun i c d hc hd => h (i + 1) c d (by simpa using hc) (by simpa using hd)⟩
  | [], _ :: _, hl, _ => by simp at hl
  | _ :: _, [], hl, _ => by simp at hl
end Go.Dec
