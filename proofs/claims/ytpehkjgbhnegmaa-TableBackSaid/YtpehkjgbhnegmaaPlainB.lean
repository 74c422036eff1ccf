/- Part of a proof over this seat. No statement is proved here. -/
import Derived.Test.YtpehkjgbhnegmaaDecW
namespace Go.Dec

@[simp] theorem br_t {ρ : Type} (x y : Option ρ) : br true x y = x := rfl
@[simp] theorem br_f {ρ : Type} (x y : Option ρ) : br false x y = y := rfl
@[simp] theorem ob_s {α ρ : Type} (a : α) (k : α → Option ρ) : ob (some a) k = k a := rfl
@[simp] theorem chk_t {ρ : Type} (x : Option ρ) : chk true x = x := rfl

theorem beqL_iff {α : Type} {f : α → α → Bool} (hf : ∀ a b, f a b = true ↔ a = b) : ∀ {x y : List α}, beqL f x y = true ↔ x = y
  | [], [] => by simp [beqL]
  | [], _ :: _ => by simp [beqL]
  | _ :: _, [] => by simp [beqL]
  | a :: x, b :: y => by simp [beqL, hf, beqL_iff hf]

theorem beq_iff : ∀ {t : Ty}, t.cmp = true → ∀ {x y : t.den}, t.beq x y = true ↔ x = y
  | .unit, _, _, _ => by simp [Ty.beq]
  | .bool, _, _, _ => by simp [Ty.beq, Ty.beq.Bool.beq']
  | .int _, _, _, _ => by simp [Ty.beq, Ty.beq.Int.beq']
  | .str, _, _, _ => by simp [Ty.beq, Ty.beq.List.beq']
  | .pair a b, h, x, y => by
    simp only [Ty.cmp, Bool.and_eq_true] at h
    simp only [Ty.beq, Bool.and_eq_true, beq_iff h.1, beq_iff h.2]
    exact ⟨fun h => Prod.ext h.1 h.2, fun h => by subst h; exact ⟨rfl, rfl⟩⟩
  | .arr n a, h, x, y => by
    simp only [Ty.cmp] at h
    simp only [Ty.beq]
    exact beqL_iff fun _ _ => beq_iff h
  | .slice _, h, _, _ => by cases h
  | .err, h, _, _ => by cases h
  | .opq, h, _, _ => by cases h

theorem beq_self {t : Ty} (h : t.cmp = true) (x : t.den) : t.beq x x = true := (beq_iff h).2 rfl
theorem beq_false {t : Ty} (h : t.cmp = true) {x y : t.den} (hne : x ≠ y) : t.beq x y = false := by
  cases hb : t.beq x y with
  | false => rfl
  | true => exact absurd ((beq_iff h).1 hb) hne
end Go.Dec
