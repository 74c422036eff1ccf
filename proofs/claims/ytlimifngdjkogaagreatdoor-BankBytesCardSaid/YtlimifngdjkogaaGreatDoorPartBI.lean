/- Part of a proof over this seat: a library of my own, and what it says of this seat. No statement is proved here. -/
import Derived.Test.YtlimifngdjkogaaGreatDoorPartAM
import Derived.Test.YtlimifngdjkogaaGreatDoorPartAG
import Derived.Test.YtlimifngdjkogaaGreatDoorPartAP
namespace Go.Dec
def lT (_n : Nat) (x : List Int × Unit) : Option (List Int × Unit) := some x
def Builder_String (_n : Nat) (x : List Int × Unit) : Option (List UInt8 × List Int × Unit) := chk (x.1.all fun n => decide (0 <= n) && decide (n < 256)) (some (bV x.1, [], ()))
end Go.Dec
namespace Go.Dec
theorem dF {ρ : Type} {b : Bool} (h : b = true) (x : Option ρ) : chk b x = x := by subst h; rfl
theorem lU {ρ : Type} {b : Bool} (h : b = true) (x y : Option ρ) : br b x y = x := by subst h; rfl
theorem nI {ρ : Type} {b : Bool} (h : b = false) (x y : Option ρ) : br b x y = y := by subst h; rfl
theorem jE {α : Type} {d : α} {s pre r : List α} {c : α} (h : s = pre ++ c :: r) : bZ d s (pre.length : Int) = c := by
 subst h
 simp [bZ, List.getD_eq_getElem?_getD]
theorem He (a b : List UInt8) : aL (a ++ b) = aL a ++ aL b := by simp [aL]
theorem Rq : aL [] = [] := rfl
theorem Rs (a : List UInt8) : (aL a).length = a.length := by simp [aL]
theorem Yp (a : List UInt8) : bV (aL a) = a := by
 induction a with
 | nil => rfl
 | cons x a ih =>
  simp only [aL, bV, List.map_cons, List.map_map] at ih ⊢
  rw [ih]
  simp
theorem zDj (a : List UInt8) : ((aL a).all fun n => decide (0 <= n) && decide (n < 256)) = true := by
 rw [List.all_eq_true]
 intro x hx
 obtain ⟨b, _, rfl⟩ := List.mem_map.1 hx
 have := b.toNat_lt
 simp
 omega
theorem Tw (n : Nat) (a : List UInt8) : Builder_String n (aL a, ()) = some (a, [], ()) := by
 unfold Builder_String
 rw [dF (zDj a)]
 simp only [Yp]
end Go.Dec
