/- Part of a proof over this seat: a library of my own, and what it says of this seat. No statement is proved here. -/
import Derived.Test.YtfpipcafiocdoaaGreatDoorPartAI
import Derived.Test.YtfpipcafiocdoaaGreatDoorPartAD
import Derived.Test.YtfpipcafiocdoaaGreatDoorPartAL
namespace Go.Dec
end Go.Dec
namespace Go.Dec
theorem bE {ρ : Type} {b : Bool} (h : b = true) (x : Option ρ) : chk b x = x := by subst h; rfl
theorem eX {ρ : Type} {b : Bool} (h : b = true) (x y : Option ρ) : br b x y = x := by subst h; rfl
theorem bP {ρ : Type} {b : Bool} (h : b = false) (x y : Option ρ) : br b x y = y := by subst h; rfl
theorem nJ {α : Type} {d : α} {s pre r : List α} {c : α} (h : s = pre ++ c :: r) : bH d s (pre.length : Int) = c := by
 subst h
 simp [bH, List.getD_eq_getElem?_getD]
theorem Jy (a b : List UInt8) : aI (a ++ b) = aI a ++ aI b := by simp [aI]
theorem jM (a : List UInt8) : (aI a).length = a.length := by simp [aI]
theorem zBe (a : List UInt8) : gN (aI a) = a := by
 induction a with
 | nil => rfl
 | cons x a ih =>
  simp only [aI, gN, List.map_cons, List.map_map] at ih ⊢
  rw [ih]
  simp
end Go.Dec
