/- Part of a proof over this seat: a library of my own, and what it says of this seat. No statement is proved here. -/
import Derived.Test.YtlimifngdjkogaaGreatDoorPartAM
import Derived.Test.YtlimifngdjkogaaGreatDoorPartAG
import Derived.Test.YtlimifngdjkogaaGreatDoorPartAP
namespace Go.Dec
def lS (_n : Nat) (x : List Int × Unit) : Option (List Int × Unit) := some x
def Builder_String (_n : Nat) (x : List Int × Unit) : Option (List UInt8 × List Int × Unit) := chk (x.1.all fun n => decide (0 <= n) && decide (n < 256)) (some (bU x.1, [], ()))
end Go.Dec
namespace Go.Dec
theorem dD {ρ : Type} {b : Bool} (h : b = true) (x : Option ρ) : chk b x = x := by subst h; rfl
theorem lT {ρ : Type} {b : Bool} (h : b = true) (x y : Option ρ) : br b x y = x := by subst h; rfl
theorem nH {ρ : Type} {b : Bool} (h : b = false) (x y : Option ρ) : br b x y = y := by subst h; rfl
theorem jD {α : Type} {d : α} {s pre r : List α} {c : α} (h : s = pre ++ c :: r) : bY d s (pre.length : Int) = c := by
 subst h
 simp [bY, List.getD_eq_getElem?_getD]
theorem Gz (a b : List UInt8) : aK (a ++ b) = aK a ++ aK b := by simp [aK]
theorem Rp : aK [] = [] := rfl
theorem Rq (a : List UInt8) : (aK a).length = a.length := by simp [aK]
theorem Yo (a : List UInt8) : bU (aK a) = a := by
 induction a with
 | nil => rfl
 | cons x a ih =>
  simp only [aK, bU, List.map_cons, List.map_map] at ih ⊢
  rw [ih]
  simp
theorem zDi (a : List UInt8) : ((aK a).all fun n => decide (0 <= n) && decide (n < 256)) = true := by
 rw [List.all_eq_true]
 intro x hx
 obtain ⟨b, _, rfl⟩ := List.mem_map.1 hx
 have := b.toNat_lt
 simp
 omega
theorem Tv (n : Nat) (a : List UInt8) : Builder_String n (aK a, ()) = some (a, [], ()) := by
 unfold Builder_String
 rw [dD (zDi a)]
 simp only [Yo]
end Go.Dec
