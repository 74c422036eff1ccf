/- Part of a proof over this seat: a library of my own, and what it says of this seat. No statement is proved here. -/
import Derived.Test.YtfpipcafiocdoaaGreatDoorPfrtAI
import Derived.Test.YtfpipcafiocdoaaGreatDoorPfrtAD
import Derived.Test.YtfpipcafiocdoaaGreatDoorPfrtAL
namespace Go.Dec
def qF (_n:Nat) (x:List Int × Unit):Option (List Int × Unit):=some x
def Builder_String (_n:Nat) (x:List Int × Unit):Option (List UInt8 × List Int × Unit):=chk (x.1.all fun n=>decide (0 <= n) && decide (n < 256)) (some (dM x.1,[],()))
end Go.Dec
namespace Go.Dec
theorem nP {ρ:Type} {b:Bool} (h:b=true) (x:Option ρ):chk b x=x:=by subst h; rfl
theorem Mi {ρ:Type} {b:Bool} (h:b=true) (x y:Option ρ):br b x y=x:=by subst h; rfl
theorem nQ {ρ:Type} {b:Bool} (h:b=false) (x y:Option ρ):br b x y=y:=by subst h; rfl
theorem Xv {α:Type} {d:α} {s pre r:List α} {c:α} (h:s=pre++c :: r):dI d s (pre.length:Int)=c:=by
 subst h
 simp [dI,List.getD_eq_getElem?_getD]
theorem Tf (a b:List UInt8):aR (a++b)=aR a++aR b:=by simp [aR]
theorem zCq (a:List UInt8):(aR a).length=a.length:=by simp [aR]
theorem zLl (a:List UInt8):dM (aR a)=a:=by
 induction a with
 | nil=>rfl
 | cons x a ih =>
  simp only [aR,dM,List.map_cons,List.map_map] at ih ⊢
  rw [ih]
  simp
theorem zRw (a:List UInt8):((aR a).all fun n=>decide (0 <= n) && decide (n < 256))=true:=by
 rw [List.all_eq_true]
 intro x hx
 obtain ⟨b,_,rfl⟩:=List.mem_map.1 hx
 have:=b.toNat_lt
 simp
 omega
theorem zFt (n:Nat) (a:List UInt8):Builder_String n (aR a,())=some (a,[],()):=by
 unfold Builder_String
 rw [nP (zRw a)]
 simp only [zLl]
end Go.Dec
