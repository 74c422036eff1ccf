/- Part of a proof over this seat: a library of my own, and what it says of this seat. No statement is proved here. -/
import Derived.Test.YtfpipcafiocdoaaGreatDoorPartAI
import Derived.Test.YtfpipcafiocdoaaGreatDoorPartAD
import Derived.Test.YtfpipcafiocdoaaGreatDoorPartAL
namespace Go.Dec
def qA (_n:Nat) (x:List Int × Unit):Option (List Int × Unit):=some x
def Builder_String (_n:Nat) (x:List Int × Unit):Option (List UInt8 × List Int × Unit):=chk (x.1.all fun n=>decide (0 <= n) && decide (n < 256)) (some (dB x.1,[],()))
end Go.Dec
namespace Go.Dec
theorem dH {ρ:Type} {b:Bool} (h:b=true) (x:Option ρ):chk b x=x:=by subst h; rfl
theorem kH {ρ:Type} {b:Bool} (h:b=true) (x y:Option ρ):br b x y=x:=by subst h; rfl
theorem gN {ρ:Type} {b:Bool} (h:b=false) (x y:Option ρ):br b x y=y:=by subst h; rfl
theorem zLq {α:Type} {d:α} {s pre r:List α} {c:α} (h:s=pre++c :: r):dO d s (pre.length:Int)=c:=by
 subst h
 simp [dO,List.getD_eq_getElem?_getD]
theorem Qw (a b:List UInt8):aO (a++b)=aO a++aO b:=by simp [aO]
theorem zBn (a:List UInt8):(aO a).length=a.length:=by simp [aO]
theorem zIu (a:List UInt8):dB (aO a)=a:=by
 induction a with
 | nil=>rfl
 | cons x a ih =>
  simp only [aO,dB,List.map_cons,List.map_map] at ih ⊢
  rw [ih]
  simp
theorem zPc (a:List UInt8):((aO a).all fun n=>decide (0 <= n) && decide (n < 256))=true:=by
 rw [List.all_eq_true]
 intro x hx
 obtain ⟨b,_,rfl⟩:=List.mem_map.1 hx
 have:=b.toNat_lt
 simp
 omega
theorem zDq (n:Nat) (a:List UInt8):Builder_String n (aO a,())=some (a,[],()):=by
 unfold Builder_String
 rw [dH (zPc a)]
 simp only [zIu]
end Go.Dec
