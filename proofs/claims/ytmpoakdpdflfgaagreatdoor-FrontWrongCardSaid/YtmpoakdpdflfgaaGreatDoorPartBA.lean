/- Part of a proof over this seat: a library of my own, and what it says of this seat. No statement is proved here. -/
import Derived.Test.YtmpoakdpdflfgaaGreatDoorPartAI
import Derived.Test.YtmpoakdpdflfgaaGreatDoorPartAD
import Derived.Test.YtmpoakdpdflfgaaGreatDoorPartAL
namespace Go.Dec
def Bg (_n : Nat) (x : List Int × Unit) : Option (List Int × Unit) := some x
def Builder_String (_n : Nat) (x : List Int × Unit) : Option (List UInt8 × List Int × Unit) := chk (x.1.all fun n => decide (0 <= n) && decide (n < 256)) (some (gP x.1, [], ()))
end Go.Dec
namespace Go.Dec
theorem bV {ρ : Type} {b : Bool} (h : b = true) (x : Option ρ) : chk b x = x := by subst h; rfl
theorem bL {ρ : Type} {b : Bool} (h : b = true) (x y : Option ρ) : br b x y = x := by subst h; rfl
theorem bG {ρ : Type} {b : Bool} (h : b = false) (x y : Option ρ) : br b x y = y := by subst h; rfl
theorem Dr {α : Type} {d : α} {s pre r : List α} {c : α} (h : s = pre ++ c :: r) : bS d s (pre.length : Int) = c := by
 subst h
 simp [bS, List.getD_eq_getElem?_getD]
theorem Wn (a : List UInt8) : (aX a).length = a.length := by simp [aX]
end Go.Dec
