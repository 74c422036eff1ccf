/- Part of a proof over this seat: a library of my own, and what it says of this seat. No statement is proved here. -/
import Derived.Test.YtfpipcafiocdoaaGreatDoorPartAI
import Derived.Test.YtfpipcafiocdoaaGreatDoorPartAD
import Derived.Test.YtfpipcafiocdoaaGreatDoorPartAL
namespace Go.Dec
end Go.Dec
namespace Go.Dec
theorem aW {ρ : Type} {b : Bool} (h : b = true) (x : Option ρ) : chk b x = x:=by subst h; rfl
theorem bR {ρ : Type} {b : Bool} (h : b = true) (x y : Option ρ) : br b x y = x:=by subst h; rfl
theorem aS {ρ : Type} {b : Bool} (h : b = false) (x y : Option ρ) : br b x y = y:=by subst h; rfl
theorem eG {α : Type} {d : α} {s pre r : List α} {c : α} (h : s = pre ++ c :: r) : aY d s (pre.length : Int) = c:=by
 subst h
 simp [aY,List.getD_eq_getElem?_getD]
theorem lW (a : List UInt8) : (aI a).length = a.length:=by simp [aI]
theorem zDi (a : List UInt8) : fC (aI a) = a:=by
 induction a with
 | nil => rfl
 | cons x a ih =>
  simp only [aI,fC,List.map_cons,List.map_map] at ih ⊢
  rw [ih]
  simp
end Go.Dec
