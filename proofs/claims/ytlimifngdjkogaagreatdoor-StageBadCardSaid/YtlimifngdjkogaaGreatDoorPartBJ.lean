/- Part of a proof over this seat: a library of my own, and what it says of this seat. No statement is proved here. -/
import Derived.Test.YtlimifngdjkogaaGreatDoorPartAM
import Derived.Test.YtlimifngdjkogaaGreatDoorPartAG
import Derived.Test.YtlimifngdjkogaaGreatDoorPartAP
namespace Go.Dec
end Go.Dec
namespace Go.Dec
theorem oO {ρ : Type} {b : Bool} (h : b = true) (x : Option ρ) : chk b x = x := by subst h; rfl
theorem kQ {ρ : Type} {b : Bool} (h : b = true) (x y : Option ρ) : br b x y = x := by subst h; rfl
theorem gT {ρ : Type} {b : Bool} (h : b = false) (x y : Option ρ) : br b x y = y := by subst h; rfl
theorem oP {α : Type} {d : α} {s pre r : List α} {c : α} (h : s = pre ++ c :: r) : dP d s (pre.length : Int) = c := by
 subst h
 simp [dP, List.getD_eq_getElem?_getD]
end Go.Dec
