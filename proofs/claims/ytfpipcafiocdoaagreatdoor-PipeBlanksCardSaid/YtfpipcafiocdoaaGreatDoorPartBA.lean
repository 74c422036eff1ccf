/- Part of a proof over this seat: a library of my own, and what it says of this seat. No statement is proved here. -/
import Derived.Test.YtfpipcafiocdoaaGreatDoorPartAI
import Derived.Test.YtfpipcafiocdoaaGreatDoorPartAD
import Derived.Test.YtfpipcafiocdoaaGreatDoorPartAL
namespace Go.Dec
end Go.Dec
namespace Go.Dec
theorem aL {ρ : Type} {b : Bool} (h : b = true) (x : Option ρ) : chk b x = x:=by subst h; rfl
theorem bJ {ρ : Type} {b : Bool} (h : b = true) (x y : Option ρ) : br b x y = x:=by subst h; rfl
theorem aR {ρ : Type} {b : Bool} (h : b = false) (x y : Option ρ) : br b x y = y:=by subst h; rfl
theorem dO {α : Type} {d : α} {s pre r : List α} {c : α} (h : s = pre ++ c :: r) : aN d s (pre.length : Int) = c:=by
 subst h
 simp [aN,List.getD_eq_getElem?_getD]
theorem mE (a : List UInt8) : (aI a).length = a.length:=by simp [aI]
theorem zEi (a : List UInt8) : fH (aI a) = a:=by
 induction a with
 | nil => rfl
 | cons x a ih =>
  simp only [aI,fH,List.map_cons,List.map_map] at ih ⊢
  rw [ih]
  simp
end Go.Dec
