/- Part of a proof over this seat: a library of my own, and what it says of this seat. No statement is proved here. -/
import Derived.Test.YtdgneppobefaoaaGreatDoorPartAI
import Derived.Test.YtdgneppobefaoaaGreatDoorPartAD
import Derived.Test.YtdgneppobefaoaaGreatDoorPartAL
namespace Go.Dec
def jV (_n:Nat) (x:List Int × Unit):Option (List Int × Unit):=some x
def Builder_String (_n:Nat) (x:List Int × Unit):Option (List UInt8 × List Int × Unit):=chk (x.1.all fun n=>decide (0 <= n) && decide (n < 256)) (some (dV x.1,[],()))
end Go.Dec
namespace Go.Dec
theorem bK {ρ:Type} {b:Bool} (h:b=true) (x:Option ρ):chk b x=x:=by subst h; rfl
theorem pX {ρ:Type} {b:Bool} (h:b=true) (x y:Option ρ):br b x y=x:=by subst h; rfl
theorem fO {ρ:Type} {b:Bool} (h:b=false) (x y:Option ρ):br b x y=y:=by subst h; rfl
theorem Rx {α:Type} {d:α} {s pre r:List α} {c:α} (h:s=pre++c :: r):bV d s (pre.length:Int)=c:=by
 subst h
 simp [bV,List.getD_eq_getElem?_getD]
theorem Gz (a b:List UInt8):aV (a++b)=aV a++aV b:=by simp [aV]
theorem Ry (a:List UInt8):(aV a).length=a.length:=by simp [aV]
theorem zUs (a:List UInt8):dV (aV a)=a:=by
 induction a with
 | nil=>rfl
 | cons x a ih =>
  simp only [aV,dV,List.map_cons,List.map_map] at ih ⊢
  rw [ih]
  simp
theorem yBs (a:List UInt8):((aV a).all fun n=>decide (0 <= n) && decide (n < 256))=true:=by
 rw [List.all_eq_true]
 intro x hx
 obtain ⟨b,_,rfl⟩:=List.mem_map.1 hx
 have:=b.toNat_lt
 simp
 omega
theorem Wp (n:Nat) (a:List UInt8):Builder_String n (aV a,())=some (a,[],()):=by
 unfold Builder_String
 rw [bK (yBs a)]
 simp only [zUs]
end Go.Dec
