/- Part of a proof over this seat: a library of my own, and what it says of this seat. No statement is proved here. -/
import Derived.Test.YtmpoakdpdflfgaaGreatDoorPartAI
import Derived.Test.YtmpoakdpdflfgaaGreatDoorPartAD
import Derived.Test.YtmpoakdpdflfgaaGreatDoorPartAL
namespace Go.Dec
def iQ (_n:Nat) (x:List Int × Unit):Option (List Int × Unit):=some x
def Builder_String (_n:Nat) (x:List Int × Unit):Option (List UInt8 × List Int × Unit):=chk (x.1.all fun n=>decide (0 <= n) && decide (n < 256)) (some (dB x.1,[],()))
end Go.Dec
namespace Go.Dec
theorem eD {ρ:Type} {b:Bool} (h:b=true) (x:Option ρ):chk b x=x:=by subst h; rfl
theorem gY {ρ:Type} {b:Bool} (h:b=true) (x y:Option ρ):br b x y=x:=by subst h; rfl
theorem bX {ρ:Type} {b:Bool} (h:b=false) (x y:Option ρ):br b x y=y:=by subst h; rfl
theorem zAf {α:Type} {d:α} {s pre r:List α} {c:α} (h:s=pre++c :: r):bZ d s (pre.length:Int)=c:=by
 subst h
 simp [bZ,List.getD_eq_getElem?_getD]
theorem Bn (a b:List UInt8):aM (a++b)=aM a++aM b:=by simp [aM]
theorem Ll (a:List UInt8):(aM a).length=a.length:=by simp [aM]
theorem zNg (a:List UInt8):dB (aM a)=a:=by
 induction a with
 | nil=>rfl
 | cons x a ih =>
  simp only [aM,dB,List.map_cons,List.map_map] at ih ⊢
  rw [ih]
  simp
theorem zUe (a:List UInt8):((aM a).all fun n=>decide (0 <= n) && decide (n < 256))=true:=by
 rw [List.all_eq_true]
 intro x hx
 obtain ⟨b,_,rfl⟩:=List.mem_map.1 hx
 have:=b.toNat_lt
 simp
 omega
theorem Pz (n:Nat) (a:List UInt8):Builder_String n (aM a,())=some (a,[],()):=by
 unfold Builder_String
 rw [eD (zUe a)]
 simp only [zNg]
end Go.Dec
