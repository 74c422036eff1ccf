/- Part of a proof over this seat: a library of my own, and what it says of this seat. No statement is proved here. -/
import Derived.Test.YtmpoakdpdflfgaaGreatDoorPartAI
import Derived.Test.YtmpoakdpdflfgaaGreatDoorPartAD
import Derived.Test.YtmpoakdpdflfgaaGreatDoorPartAL
namespace Go.Dec
def sI (_n : Nat) (x : List Int × Unit) : Option (List Int × Unit) := some x
def Builder_String (_n : Nat) (x : List Int × Unit) : Option (List UInt8 × List Int × Unit) := chk (x.1.all fun n => decide (0 <= n) && decide (n < 256)) (some (bE x.1, [], ()))
end Go.Dec
namespace Go.Dec
theorem bW {ρ : Type} {b : Bool} (h : b = true) (x : Option ρ) : chk b x = x := by subst h; rfl
theorem bP {ρ : Type} {b : Bool} (h : b = true) (x y : Option ρ) : br b x y = x := by subst h; rfl
theorem bI {ρ : Type} {b : Bool} (h : b = false) (x y : Option ρ) : br b x y = y := by subst h; rfl
theorem Dy {α : Type} {d : α} {s pre r : List α} {c : α} (h : s = pre ++ c :: r) : bT d s (pre.length : Int) = c := by
 subst h
 simp [bT, List.getD_eq_getElem?_getD]
theorem Wy (a : List UInt8) : (aX a).length = a.length := by simp [aX]
end Go.Dec
