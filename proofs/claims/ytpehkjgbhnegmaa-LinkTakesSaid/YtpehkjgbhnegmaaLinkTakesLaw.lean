/- Part of a proof over this seat. No statement is proved here. -/
import Derived.Test.YtpehkjgbhnegmaaFun
import Derived.Test.YtpehkjgbhnegmaaPlainA
import Derived.Test.YtpehkjgbhnegmaaPlainB
namespace Go.Dec
theorem f14_true (n : Nat) : f14 n () = some true := by kernel_rfl
theorem f44_eq (n : Nat) (s : List UInt8) (h : s.length < 4294967281) : f44 n (s, [10]) = some (cutLf s) := by
  unfold f44
  simp only [cut_lf]
  rw [show decide (s.length < 4294967281) = true from decide_eq_true h]
  rfl

theorem f4_true (n : Nat) (x : Dens f4A) : f4 n x = some true := by
  obtain ⟨s, g, c, u⟩ := x
  unfold f4
  simp only [f14_true, ob_s]
  by_cases hl : s.length ≤ 300
  · have h1 : decide ((s.length : Int) > 300) = false := by simp; omega
    have hm : maxStr = 4611686018427387904 := rfl
    simp only [h1, br_f, Bool.not_true]
    unfold f15
    simp only [f44_eq n s (by omega), ob_s]
    rcases hc : cutLf s with ⟨a, r, e⟩
    cases e with
    | true =>
      obtain ⟨rfl, _⟩ := cutLf_hit hc
      simp only [List.length_append, List.length_cons] at hl
      have k1 : decide (a.length + ([10] : List UInt8).length ≤ maxStr) = true := by simp [hm]; omega
      have k2 : decide ((a ++ [10]).length + r.length ≤ maxStr) = true := by simp [hm]; omega
      have e1 : (a ++ 10 :: r == []) = false := by cases a <;> rfl
      have e2 : ((a ++ [10]) ++ r == a ++ 10 :: r) = true := by simp
      by_cases hr : r = []
      · subst hr
        cases c
        · simp only [beq_self_eq_true, br_t, Bool.not_false, Bool.not_true, ob_s, beq_self (show S2.cmp = true from rfl), beq_self (show S3.cmp = true from rfl)]
        · simp only [beq_self_eq_true, br_t, br_f, Bool.not_true, e1, ob_s, k1, k2, chk_t, e2]
      · have e3 : (r == []) = false := by simpa using hr
        simp only [e3, br_f, e1, ob_s, Bool.not_true, br_t, k1, k2, chk_t, e2, beq_self_eq_true]
    | false =>
      obtain ⟨rfl, rfl, _⟩ := cutLf_miss hc
      have k1 : decide (a.length + ([] : List UInt8).length ≤ maxStr) = true := by simp [hm]; omega
      cases c
      · simp only [beq_self_eq_true, br_t, Bool.not_false, Bool.not_true, ob_s, beq_self (show S2.cmp = true from rfl), beq_self (show S3.cmp = true from rfl)]
      · by_cases ha : a = []
        · subst ha
          simp only [beq_self_eq_true, br_t, br_f, Bool.not_false, Bool.not_true, ob_s, beq_self (show S2.cmp = true from rfl), beq_self (show S3.cmp = true from rfl)]
        · have e1 : (a == []) = false := by simpa using ha
          simp only [beq_self_eq_true, br_t, br_f, Bool.not_true, e1, ob_s, k1, chk_t, List.append_nil]
  · have h1 : decide ((s.length : Int) > 300) = true := by simp; omega
    simp only [h1, br_t]
end Go.Dec
