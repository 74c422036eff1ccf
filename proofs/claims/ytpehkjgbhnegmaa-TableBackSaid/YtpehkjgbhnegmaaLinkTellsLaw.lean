/- The law of LinkTells over plain functions. No statement is proved here. -/
import Derived.Test.YtpehkjgbhnegmaaPlainD
namespace Go.Dec

/-- What is taken of a link. -/
def takeS (k : List UInt8 × Bool × Bool × Unit) : (List UInt8 × Bool × Bool × Unit) × Line × Bool × Bool :=
  if k.1 = [] ∨ ((cutLf k.1).2.1 = [] ∧ k.2.2.1 = false) then (k, ([], false, ()), false, false)
  else (((cutLf k.1).2.1, k.2), ((cutLf k.1).1, (cutLf k.1).2.2, ()), ((cutLf k.1).2.1 == []), true)

theorem strings_Cut_lf (n : Nat) {s : List UInt8} (h : s.length < 4294967281) : strings_Cut n (s, [10]) = some (cutLf s) := by
  unfold strings_Cut
  rw [cut_lf, chk_of (decide_eq_true h)]

theorem link_Take_eq (n : Nat) (k : List UInt8 × Bool × Bool × Unit) (h : k.1.length < 4294967281) : link_Take n k = some (takeS k) := by
  obtain ⟨s, g, c, u⟩ := k
  simp only at h
  unfold link_Take takeS
  simp only [strings_Cut_lf n h, ob_s]
  rcases hc : cutLf s with ⟨a, r, e⟩
  by_cases hr : r = []
  · subst hr
    cases c
    · simp
    · by_cases hs : s = []
      · subst hs
        simp
      · have hs2 : (s == []) = false := by simpa using hs
        simp [hs, hs2]
  · have h0 : s ≠ [] := by
      rintro rfl
      simp [cutLf] at hc
      exact hr hc.2.1
    have h1 : (r == []) = false := by simpa using hr
    have h2 : (s == []) = false := by simpa using h0
    simp [h1, h2, hr, h0]

theorem cutLf_len (s : List UInt8) : (cutLf s).2.1.length ≤ s.length := by
  induction s with
  | nil => simp [cutLf]
  | cons c r ih => unfold cutLf; split <;> simp; omega

theorem splitL_eq_nil {s : List UInt8} : splitL s = [] ↔ s = [] := by
  constructor
  · intro h
    have := joinL_splitL s
    rw [h] at this
    simpa [joinL] using this.symm
  · rintro rfl; rfl

theorem ref18_Take_eq {n : Nat} (k : List UInt8 × Bool × Bool × Unit) (h : k.1.length ≤ 100000) (hn : k.1.length + 1 < n) : ref18_Take n k = some (takeS k) := by
  obtain ⟨s, g, c, u⟩ := k
  simp only at h hn
  unfold ref18_Take takeS
  simp only [ref08_Split_eq (n := n) (s := s) (by omega) (by omega), ob_s]
  by_cases hs : s = []
  · subst hs
    simp [splitL_nil]
  · rw [splitL_cut hs]
    have hcl := cutLf_len s
    rcases hc : cutLf s with ⟨a, r, e⟩
    rw [hc] at hcl
    simp only at hcl ⊢
    have hlr : (splitL r).length ≤ r.length + 1 := splitA_len r []
    have hj : ref08_Join n (splitL r) = some r := by
      rw [ref08_Join_eq (by rw [joinL_splitL]; omega) (by omega) (by omega), joinL_splitL]
    have h0 : (((a, e, ()) :: splitL r : List Line).length : Int) = ((splitL r).length : Int) + 1 := by simp
    by_cases hr : r = []
    · subst hr
      cases c
      · simp [splitL_nil]
      · simp [splitL_nil, hs, hj, show ref08_Join n [] = some [] from by simpa [splitL_nil] using hj, inB, getAt]
    · have h1 : splitL r ≠ [] := fun h => hr (splitL_eq_nil.1 h)
      have h2 : 0 < (splitL r).length := List.length_pos_iff.2 h1
      have h3 : ((((a, e, ()) :: splitL r : List Line).length : Int) == 0) = false := by simp; omega
      have h4 : ((((a, e, ()) :: splitL r : List Line).length : Int) == 1) = false := by rw [h0]; simp; omega
      simp only [h3, h4, br_f, Int.toNat_one, List.drop_succ_cons, List.drop_zero, hj, ob_s]
      rw [chk_of (by simp; omega), chk_of (inB_t (by omega) (by simp))]
      simp [hs, hr, getAt]

theorem law18_shown_t (n : Nat) : law18_shown n () = some true := by kernel_rfl

theorem beqS {α : Type} [BEq α] [LawfulBEq α] (a : α) : (a == a) = true := by simp

theorem law18_LinkTells_true {n : Nat} (hn : 1000 ≤ n) (x : (List UInt8 × Bool × Bool × Unit) × List UInt8 × Bool × Unit) : law18_LinkTells n x = some true := by
  obtain ⟨⟨s, g, c, u⟩, t, en, v⟩ := x
  unfold law18_LinkTells
  simp only [law18_shown_t, ob_s]
  by_cases h1 : (s.length : Int) > 300
  · rw [br_of (by simpa using h1)]
  rw [br_not (by simpa using h1)]
  by_cases h2 : (t.length : Int) > 300
  · rw [br_of (by simpa using h2)]
  rw [br_not (by simpa using h2)]
  simp only [Bool.not_true, br_f]
  have hk : link_Known n (s, g, c, u) = some ((takeS (s, g, c, u)).2.1, (takeS (s, g, c, u)).2.2.1, (takeS (s, g, c, u)).2.2.2) := by
    unfold link_Known
    simp only [link_Take_eq n (s, g, c, u) (by simp only; omega), ob_s]
  have hits : ∀ y, law18_its n y = some y := fun y => rfl
  have hp : link_Push n ((s, g, c, u), t, en, v) = ref18_Push n ((s, g, c, u), t, en, v) := rfl
  have hr : ∃ y, ref18_Push n ((s, g, c, u), t, en, v) = some y := by
    unfold ref18_Push
    simp only
    have m : maxStr = 4611686018427387904 := rfl
    cases c
    · cases g
      · cases en
        · rw [br_f, br_f, chk_of (by simp; omega), br_f]; exact ⟨_, rfl⟩
        · rw [br_f, br_f, chk_of (by simp; omega), br_t, chk_of (by simp; omega)]; exact ⟨_, rfl⟩
      · cases en
        · rw [br_f, br_t, chk_of (by simp; omega), chk_of (by simp; omega), br_f]; exact ⟨_, rfl⟩
        · rw [br_f, br_t, chk_of (by simp; omega), chk_of (by simp; omega), br_t, chk_of (by simp; omega)]; exact ⟨_, rfl⟩
    · exact ⟨_, rfl⟩
  obtain ⟨y, hy⟩ := hr
  simp only [link_Take_eq n (s, g, c, u) (by simp only; omega), ref18_Take_eq (n := n) (s, g, c, u) (by simp only; omega) (by simp only; omega), hk, hits, ob_s, hp, hy, beq_self (show TSsbbE.cmp = true from rfl), beq_self (show TSsbE.cmp = true from rfl), beqS, br_t,
    link_Close, ref18_Close, link_Ended, ref18_Ended]
  cases c <;> simp
theorem law18_LinkTells_claim (x : Dens [TSsbbE, TSsbE]) (_ : DensWF [TSsbbE, TSsbE] x) : law18_LinkTells 1000 x = some true := law18_LinkTells_true (Nat.le_refl _) x
end Go.Dec
