/- Part of a proof over this seat: a library of my own, and what it says of this seat. No statement is proved here. -/
import Derived.Test.YtmpoakdpdflfgaaGreatDoorPartAI
import Derived.Test.YtmpoakdpdflfgaaGreatDoorPartAD
import Derived.Test.YtmpoakdpdflfgaaGreatDoorPartAL
namespace Go.Dec
def pE (_n:Nat) (x:List Int × Unit):Option (List Int × Unit):=some x
def Builder_String (_n:Nat) (x:List Int × Unit):Option (List UInt8 × List Int × Unit):=chk (x.1.all fun n=>decide (0 <= n) && decide (n < 256)) (some (cZ x.1,[],()))
end Go.Dec
namespace Go.Dec
theorem bV {ρ:Type} {b:Bool} (h:b = true) (x:Option ρ):chk b x = x:=by subst h; rfl
theorem dU {ρ:Type} {b:Bool} (h:b = true) (x y:Option ρ):br b x y = x:=by subst h; rfl
theorem bW {ρ:Type} {b:Bool} (h:b = false) (x y:Option ρ):br b x y = y:=by subst h; rfl
theorem Yb {α:Type} {d:α} {s pre r:List α} {c:α} (h:s = pre ++ c :: r):bL d s (pre.length:Int) = c:=by
 subst h
 simp [bL,List.getD_eq_getElem?_getD]
theorem Ry (a b:List UInt8):aN (a ++ b) = aN a ++ aN b:=by simp [aN]
theorem zCz (a:List UInt8):(aN a).length = a.length:=by simp [aN]
theorem zKc (a:List UInt8):cZ (aN a) = a:=by
 induction a with
 | nil=>rfl
 | cons x a ih =>
  simp only [aN,cZ,List.map_cons,List.map_map] at ih ⊢
  rw [ih]
  simp
theorem zQk (a:List UInt8):((aN a).all fun n=>decide (0 <= n) && decide (n < 256)) = true:=by
 rw [List.all_eq_true]
 intro x hx
 obtain ⟨b,_,rfl⟩:=List.mem_map.1 hx
 have:=b.toNat_lt
 simp
 omega
theorem zFg (n:Nat) (a:List UInt8):Builder_String n (aN a,()) = some (a,[],()):=by
 unfold Builder_String
 rw [bV (zQk a)]
 simp only [zKc]
end Go.Dec
