/- Part of a proof over this seat: a library of my own, and what it says of this seat. No statement is proved here. -/
import Derived.Test.YtdgneppobefaoaaGreatDoorPartAI
import Derived.Test.YtdgneppobefaoaaGreatDoorPartAD
import Derived.Test.YtdgneppobefaoaaGreatDoorPartAL
namespace Go.Dec
def uU (_n:Nat) (x:List Int × Unit):Option (List Int × Unit):=some x
def Builder_String (_n:Nat) (x:List Int × Unit):Option (List UInt8 × List Int × Unit):=chk (x.1.all fun n=>decide (0 <= n) && decide (n < 256)) (some (dW x.1,[],()))
end Go.Dec
namespace Go.Dec
theorem bB {ρ:Type} {b:Bool} (h:b=true) (x:Option ρ):chk b x=x:=by subst h; rfl
theorem kP {ρ:Type} {b:Bool} (h:b=true) (x y:Option ρ):br b x y=x:=by subst h; rfl
theorem cK {ρ:Type} {b:Bool} (h:b=false) (x y:Option ρ):br b x y=y:=by subst h; rfl
theorem Ti {α:Type} {d:α} {s pre r:List α} {c:α} (h:s=pre++c :: r):bM d s (pre.length:Int)=c:=by
 subst h
 simp [bM,List.getD_eq_getElem?_getD]
theorem zBs (a b:List UInt8):aX (a++b)=aX a++aX b:=by simp [aX]
theorem zMo (a:List UInt8):(aX a).length=a.length:=by simp [aX]
theorem zVh (a:List UInt8):dW (aX a)=a:=by
 induction a with
 | nil=>rfl
 | cons x a ih =>
  simp only [aX,dW,List.map_cons,List.map_map] at ih ⊢
  rw [ih]
  simp
theorem yCc (a:List UInt8):((aX a).all fun n=>decide (0 <= n) && decide (n < 256))=true:=by
 rw [List.all_eq_true]
 intro x hx
 obtain ⟨b,_,rfl⟩:=List.mem_map.1 hx
 have:=b.toNat_lt
 simp
 omega
theorem zPm (n:Nat) (a:List UInt8):Builder_String n (aX a,())=some (a,[],()):=by
 unfold Builder_String
 rw [bB (yCc a)]
 simp only [zVh]
end Go.Dec
