/- Part of a proof over this seat: a library of my own, and what it says of this seat. No statement is proved here. -/
import Derived.Test.YtmpoakdpdflfgaaGreatDoorPnrtAI
import Derived.Test.YtmpoakdpdflfgaaGreatDoorPnrtAD
import Derived.Test.YtmpoakdpdflfgaaGreatDoorPnrtAL
namespace Go.Dec
def pJ (_n:Nat) (x:List Int × Unit):Option (List Int × Unit):=some x
def Builder_String (_n:Nat) (x:List Int × Unit):Option (List UInt8 × List Int × Unit):=chk (x.1.all fun n=>decide (0 <= n) && decide (n < 256)) (some (bZ x.1,[],()))
end Go.Dec
namespace Go.Dec
theorem eB {ρ:Type} {b:Bool} (h:b=true) (x:Option ρ):chk b x=x:=by subst h; rfl
theorem gI {ρ:Type} {b:Bool} (h:b=true) (x y:Option ρ):br b x y=x:=by subst h; rfl
theorem dG {ρ:Type} {b:Bool} (h:b=false) (x y:Option ρ):br b x y=y:=by subst h; rfl
theorem nG {α:Type} {d:α} {s pre r:List α} {c:α} (h:s=pre++c :: r):bD d s (pre.length:Int)=c:=by
 subst h
 simp [bD,List.getD_eq_getElem?_getD]
theorem Sq (a b:List UInt8):aO (a++b)=aO a++aO b:=by simp [aO]
theorem zDc (a:List UInt8):(aO a).length=a.length:=by simp [aO]
theorem zLj (a:List UInt8):bZ (aO a)=a:=by
 induction a with
 | nil=>rfl
 | cons x a ih =>
  simp only [aO,bZ,List.map_cons,List.map_map] at ih ⊢
  rw [ih]
  simp
theorem zRg (a:List UInt8):((aO a).all fun n=>decide (0 <= n) && decide (n < 256))=true:=by
 rw [List.all_eq_true]
 intro x hx
 obtain ⟨b,_,rfl⟩:=List.mem_map.1 hx
 have:=b.toNat_lt
 simp
 omega
theorem zFz (n:Nat) (a:List UInt8):Builder_String n (aO a,())=some (a,[],()):=by
 unfold Builder_String
 rw [eB (zRg a)]
 simp only [zLj]
end Go.Dec
