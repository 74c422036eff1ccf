/- Part of a proof over this seat. No statement is proved here. -/
import Derived.Lib.IndexMore
import Derived.Lib.Index
namespace Go.Dec

/-- A text, up to its first line feed. -/
def cutLf : List UInt8 → List UInt8 × List UInt8 × Bool
  | [] => ([], [], false)
  | b :: r => if b = 10 then ([], r, true) else (b :: (cutLf r).1, (cutLf r).2.1, (cutLf r).2.2)

theorem cut_lf : ∀ s : List UInt8, Go.Lib.cut s [10] = cutLf s
  | [] => by simp [Go.Lib.cut, Go.Lib.index, cutLf]
  | b :: r => by
    have ih := cut_lf r
    have hge := Go.Lib.index_ge r [10]
    by_cases hb : b = 10
    · subst hb
      have hx : Go.Lib.index ((10 : UInt8) :: r) [10] = 0 := by simp [Go.Lib.index]
      simp [Go.Lib.cut, cutLf, hx]
    · have h1 : ([10] : List UInt8).isPrefixOf (b :: r) = false := by simp [List.isPrefixOf, Ne.symm hb]
      have hx : Go.Lib.index (b :: r) [10] = if Go.Lib.index r [10] = -1 then -1 else Go.Lib.index r [10] + 1 := by simp [Go.Lib.index, h1]
      unfold Go.Lib.cut at *
      simp only [cutLf, if_neg hb, ← ih, hx]
      by_cases hi : Go.Lib.index r [10] = -1
      · simp [hi]
      · have h2 : 0 ≤ Go.Lib.index r [10] := by omega
        have h3 : 0 ≤ Go.Lib.index r [10] + 1 := by omega
        have h4 : (Go.Lib.index r [10] + 1).toNat = (Go.Lib.index r [10]).toNat + 1 := by omega
        simp [hi, h2, h3, h4, Nat.add_right_comm]

theorem cutLf_hit : ∀ {s a r : List UInt8}, cutLf s = (a, r, true) → s = a ++ 10 :: r ∧ 10 ∉ a
  | [], _, _, h => by simp [cutLf] at h
  | b :: s, a, r, h => by
    unfold cutLf at h
    split at h
    · rename_i hb
      simp only [Prod.mk.injEq, and_true] at h
      obtain ⟨rfl, rfl⟩ := h
      simp [hb]
    · rename_i hb
      simp only [Prod.mk.injEq] at h
      obtain ⟨rfl, rfl, h3⟩ := h
      have hc : cutLf s = ((cutLf s).1, (cutLf s).2.1, true) := by rw [← h3]
      obtain ⟨h1, h2⟩ := cutLf_hit hc
      exact ⟨by rw [List.cons_append, ← h1], by simp [Ne.symm hb, h2]⟩

theorem cutLf_miss : ∀ {s a r : List UInt8}, cutLf s = (a, r, false) → a = s ∧ r = [] ∧ 10 ∉ s
  | [], _, _, h => by simp [cutLf] at h; simp [h]
  | b :: s, a, r, h => by
    unfold cutLf at h
    split at h
    · simp at h
    · rename_i hb
      simp only [Prod.mk.injEq] at h
      obtain ⟨rfl, rfl, h3⟩ := h
      have hc : cutLf s = ((cutLf s).1, (cutLf s).2.1, false) := by rw [← h3]
      obtain ⟨h1, h2, h4⟩ := cutLf_miss hc
      exact ⟨by rw [h1], h2, by simp [Ne.symm hb, h4]⟩
end Go.Dec
