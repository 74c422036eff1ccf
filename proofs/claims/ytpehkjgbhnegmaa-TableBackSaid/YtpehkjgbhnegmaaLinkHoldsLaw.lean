/- The laws of LinkHolds and LinkClosed over plain functions. No statement is proved here. -/
import Derived.Test.YtpehkjgbhnegmaaLinkTellsLaw
namespace Go.Dec

theorem table_Split_eq (n : Nat) {s : List UInt8} (h : s.length < 4294967281) : table_Split n s = some (splitL s) := by
  unfold table_Split
  rw [chk_of (decide_eq_true h)]

theorem link_Ended_eq (n : Nat) (s : List UInt8) (g c : Bool) (u : Unit) : link_Ended n (s, g, c, u) = some (c && (s == [])) := by
  cases c <;> rfl

theorem law18_LinkHolds_true {n : Nat} (x : List UInt8 × Bool × Bool × Unit) : law18_LinkHolds n x = some true := by
  obtain ⟨s, g, c, u⟩ := x
  unfold law18_LinkHolds
  simp only [law18_shown_t, ob_s]
  by_cases h1 : (s.length : Int) > 300
  · rw [br_of (by simpa using h1)]
  rw [br_not (by simpa using h1)]
  simp only [Bool.not_true, br_f]
  have hk : link_Known n (s, g, c, u) = some ((takeS (s, g, c, u)).2.1, (takeS (s, g, c, u)).2.2.1, (takeS (s, g, c, u)).2.2.2) := by
    unfold link_Known
    simp only [link_Take_eq n (s, g, c, u) (by simp only; omega), ob_s]
  rw [hk, ob_s, table_Split_eq n (by omega)]
  simp only [ob_s]
  unfold takeS
  simp only
  by_cases h2 : s = [] ∨ ((cutLf s).2.1 = [] ∧ c = false)
  · rw [if_pos h2]
    simp only [br_f]
    rcases h2 with rfl | ⟨h2, rfl⟩
    · cases c <;> simp [splitL_nil, br]
    · by_cases h3 : s = []
      · subst h3; simp [splitL_nil, br]
      · rw [splitL_cut h3, h2]
        simp [splitL_nil, br]
  · rw [if_neg h2]
    simp [br]

theorem law18_LinkClosed_go {n : Nat} {D : List UInt8} {G C g : Bool} (hD : D.length < 4294967281) : ∀ (m : Nat) (d : List UInt8) (cnt : Nat), d.length < m → d.length ≤ 300 → cnt + d.length ≤ 300 →
    fix (law18_LinkClosed_loop0 n) m ((cnt : Int), D, G, C, d, g, true, ()) = some (((cnt + (splitL d).length : Nat) : Int) == ((splitL D).length : Int)) := by
  intro m
  induction m with
  | zero => intro d cnt h; omega
  | succ m ih =>
    intro d cnt hm hd hc
    rw [fix_succ, law18_LinkClosed_loop0]
    simp only [link_Ended_eq, ob_s, Bool.true_and]
    by_cases he : d = []
    · subst he
      rw [br_not (by simp), table_Split_eq n hD, ob_s]
      simp [splitL_nil]
    · have h1 := splitL_cut he
      have hsh := cutLf_short he
      rw [br_of (by simpa using he), link_Take_eq n _ (by simp only; omega), ob_s]
      have ht : takeS (d, g, true, ()) = (((cutLf d).2.1, g, true, ()), ((cutLf d).1, (cutLf d).2.2, ()), ((cutLf d).2.1 == []), true) := by
        unfold takeS
        simp [he]
      rw [ht]
      simp only [Bool.not_true, br_f, link_Ended_eq, ob_s, Bool.true_and, bne_self_eq_false]
      rw [wrapI (by omega) (by omega)]
      have hi := ih (cutLf d).2.1 (cnt + 1) (by omega) (by omega) (by omega)
      rw [show ((cnt + 1 : Nat) : Int) = (cnt : Int) + 1 by omega] at hi
      rw [hi, h1]
      simp only [List.length_cons]
      congr 3
      omega

theorem law18_LinkClosed_true {n : Nat} (hn : 1000 ≤ n) (x : (List UInt8 × Bool × Bool × Unit) × List UInt8 × Bool × Unit) : law18_LinkClosed n x = some true := by
  obtain ⟨⟨s, g, c, u⟩, t, en, v⟩ := x
  unfold law18_LinkClosed
  simp only [law18_shown_t, ob_s]
  by_cases h1 : (s.length : Int) > 300
  · rw [br_of (by simpa using h1)]
  rw [br_not (by simpa using h1)]
  by_cases h2 : (t.length : Int) > 300
  · rw [br_of (by simpa using h2)]
  rw [br_not (by simpa using h2)]
  simp only [Bool.not_true, br_f]
  have hp : link_Push n ((s, g, true, u), t, en, v) = some (s, g, true, u) := rfl
  simp only [link_Close, ob_s, hp, beq_self (show TSsbbE.cmp = true from rfl), Bool.not_true, br_f]
  have := law18_LinkClosed_go (n := n) (D := s) (G := g) (C := c) (g := g) (by omega) n s 0 (by omega) (by omega) (by omega)
  simp only [Nat.zero_add] at this
  rw [show ((0 : Nat) : Int) = 0 from rfl] at this
  rw [this]
  simp

theorem law18_LinkHolds_claim (x : Dens [TSsbbE]) (_ : DensWF [TSsbbE] x) : law18_LinkHolds 1000 x = some true := law18_LinkHolds_true x
theorem law18_LinkClosed_claim (x : Dens [TSsbbE, TSsbE]) (_ : DensWF [TSsbbE, TSsbE] x) : law18_LinkClosed 1000 x = some true := law18_LinkClosed_true (Nat.le_refl _) x
end Go.Dec
