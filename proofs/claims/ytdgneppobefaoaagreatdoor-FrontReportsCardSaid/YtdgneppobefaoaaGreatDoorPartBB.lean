/- Part of a proof over this seat: a library of my own, and what it says of this seat. No statement is proved here. -/
import Derived.Test.YtdgneppobefaoaaGreatDoorPartAK
import Derived.Test.YtdgneppobefaoaaGreatDoorPartAE
import Derived.Test.YtdgneppobefaoaaGreatDoorPartAM
namespace Go.Dec
def oW (_n:Nat) (x:List Int × Unit):Option (List Int × Unit):=some x
def Builder_String (_n:Nat) (x:List Int × Unit):Option (List UInt8 × List Int × Unit):=chk (x.1.all fun n=>decide (0 <= n) && decide (n < 256)) (some (bE x.1,[],()))
end Go.Dec
namespace Go.Dec
theorem bJ {ρ:Type} {b:Bool} (h:b=true) (x:Option ρ):chk b x=x:=by subst h; rfl
theorem gD {ρ:Type} {b:Bool} (h:b=true) (x y:Option ρ):br b x y=x:=by subst h; rfl
theorem dU {ρ:Type} {b:Bool} (h:b=false) (x y:Option ρ):br b x y=y:=by subst h; rfl
theorem lC {α:Type} {d:α} {s pre r:List α} {c:α} (h:s=pre++c :: r):cO d s (pre.length:Int)=c:=by
 subst h
 simp [cO,List.getD_eq_getElem?_getD]
theorem Ql (a b:List UInt8):aN (a++b)=aN a++aN b:=by simp [aN]
theorem zAe (a:List UInt8):(aN a).length=a.length:=by simp [aN]
theorem zHh (a:List UInt8):bE (aN a)=a:=by
 induction a with
 | nil=>rfl
 | cons x a ih =>
  simp only [aN,bE,List.map_cons,List.map_map] at ih ⊢
  rw [ih]
  simp
theorem zMx (a:List UInt8):((aN a).all fun n=>decide (0 <= n) && decide (n < 256))=true:=by
 rw [List.all_eq_true]
 intro x hx
 obtain ⟨b,_,rfl⟩:=List.mem_map.1 hx
 have:=b.toNat_lt
 simp
 omega
theorem Iu (n:Nat) (a:List UInt8):Builder_String n (aN a,())=some (a,[],()):=by
 unfold Builder_String
 rw [bJ (zMx a)]
 simp only [zHh]
end Go.Dec
