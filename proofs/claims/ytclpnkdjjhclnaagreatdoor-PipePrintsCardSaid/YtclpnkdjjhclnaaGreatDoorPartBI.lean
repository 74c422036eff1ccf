/- Part of a proof over this seat: a library of my own, and what it says of this seat. No statement is proved here. -/
import Derived.Test.YtclpnkdjjhclnaaGreatDoorPartAM
import Derived.Test.YtclpnkdjjhclnaaGreatDoorPartAG
import Derived.Test.YtclpnkdjjhclnaaGreatDoorPartAP
namespace Go.Dec
end Go.Dec
namespace Go.Dec
theorem bB {ρ : Type} {b : Bool} (h : b = true) (x : Option ρ) : chk b x = x := by subst h; rfl
theorem dS {ρ : Type} {b : Bool} (h : b = true) (x y : Option ρ) : br b x y = x := by subst h; rfl
theorem cZ {ρ : Type} {b : Bool} (h : b = false) (x y : Option ρ) : br b x y = y := by subst h; rfl
theorem gW {α : Type} {d : α} {s pre r : List α} {c : α} (h : s = pre ++ c :: r) : aY d s (pre.length : Int) = c := by
 subst h
 simp [aY, List.getD_eq_getElem?_getD]
theorem uH (a : List UInt8) : (aO a).length = a.length := by simp [aO]
end Go.Dec
