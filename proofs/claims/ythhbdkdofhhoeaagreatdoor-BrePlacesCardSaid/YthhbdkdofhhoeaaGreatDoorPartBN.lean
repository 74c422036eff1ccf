/- Part of a proof over this seat: a library of my own, and what it says of this seat. No statement is proved here. -/
import Derived.Test.YthhbdkdofhhoeaaGreatDoorPartBL
namespace Go.Dec
theorem parse_good (s : List UInt8) : match parseS s with
    | .inl t => s ≠ [] → t.sz ≤ 120
    | .inr (e, k) => k ≤ s.length ∧ (e = 2 ∨ (40 ≤ e ∧ e ≤ 44)) := by
  cases s with
  | nil => simp [parseS]
  | cons c s0 =>
    have hps : parseS (c :: s0) = match rowS 11 (c :: s0) 0 noEn with
      | .er e k => .inr (e, (c :: s0).length - k)
      | .ok t r _ _ =>
        match r with
        | [] => match t with
          | none => .inr (41, (c :: s0).length)
          | some t => bif decide (t.sz > 120) then .inr (2, 0) else .inl t
        | _ => .inr (41, (c :: s0).length - r.length) := rfl
    rw [hps]
    have hgood := (row_good 11 (c :: s0) 0 noEn (by omega) (by omega) rfl).1
    cases ho : rowS 11 (c :: s0) 0 noEn with
    | er e k =>
      rw [ho] at hgood
      exact ⟨by omega, Or.inr hgood⟩
    | ok t r b2 en2 =>
      simp only
      cases r with
      | cons c2 r2 => exact ⟨by omega, Or.inr ⟨by omega, by omega⟩⟩
      | nil =>
        cases t with
        | none => exact ⟨by omega, Or.inr ⟨by omega, by omega⟩⟩
        | some t =>
          simp only
          by_cases h : t.sz > 120
          · rw [decide_eq_true h]
            exact ⟨by omega, Or.inl rfl⟩
          · rw [decide_eq_false h]
            exact fun _ => by omega
theorem shown_true : law04_shown 2000 () = some true := by decide +kernel
theorem law04_BrePlaces_claim (s : List UInt8) (_ : DensWF [.str] s) : law04_BrePlaces 2000 s = some true := by
  unfold law04_BrePlaces
  simp only
  rw [shown_true]
  by_cases h : s.length > 300
  · rw [br_of (by simp; omega)]; rfl
  · rw [br_not (by simp; omega)]
    simp only [ob_s, Bool.not_true, br_f]
    rw [bre_Parse_eq (by omega) (by omega)]
    simp only [ob_s]
    have hg := parse_good s
    cases hp : parseS s with
    | inl t =>
      simp only [parseT]
      have := t.sz_pos
      rw [br_of (by rfl), br_of (by rfl)]
      exact congrArg some (decide_eq_true (by rw [Pt.enc_len]; omega))
    | inr x =>
      obtain ⟨e, k⟩ := x
      rw [hp] at hg
      simp only at hg
      simp only [parseT]
      have he : ((e : Int) == 0) = false := by rw [Bool.eq_false_iff, ne_eq, beq_iff_eq]; omega
      rw [br_not he, br_of (by exact decide_eq_true (by omega)), br_of (by exact decide_eq_true (by omega)), br_of (by rfl)]
      rcases hg.2 with h2 | ⟨h1, h2⟩
      · subst h2; rfl
      · rw [br_of (by exact decide_eq_true (by omega)), br_of (by exact decide_eq_true (by omega))]
end Go.Dec
