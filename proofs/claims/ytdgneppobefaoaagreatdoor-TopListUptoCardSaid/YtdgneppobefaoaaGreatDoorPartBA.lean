/- Part of a proof over this seat: a library of my own, and what it says of this seat. No statement is proved here. -/
import Derived.Test.YtdgneppobefaoaaGreatDoorPartAI
import Derived.Test.YtdgneppobefaoaaGreatDoorPartAD
import Derived.Test.YtdgneppobefaoaaGreatDoorPartAL
namespace Go.Dec
def vT (_n:Nat) (x:List Int × Unit):Option (List Int × Unit):=some x
def Builder_String (_n:Nat) (x:List Int × Unit):Option (List UInt8 × List Int × Unit):=chk (x.1.all fun n=>decide (0 <= n) && decide (n < 256)) (some (dU x.1,[],()))
end Go.Dec
namespace Go.Dec
theorem aV {ρ:Type} {b:Bool} (h:b=true) (x:Option ρ):chk b x=x:=by subst h; rfl
theorem dV {ρ:Type} {b:Bool} (h:b=true) (x y:Option ρ):br b x y=x:=by subst h; rfl
theorem dB {ρ:Type} {b:Bool} (h:b=false) (x y:Option ρ):br b x y=y:=by subst h; rfl
theorem Jq {α:Type} {d:α} {s pre r:List α} {c:α} (h:s=pre++c :: r):bZ d s (pre.length:Int)=c:=by
 subst h
 simp [bZ,List.getD_eq_getElem?_getD]
theorem Jr (a b:List UInt8):bA (a++b)=bA a++bA b:=by simp [bA]
theorem Vi (a:List UInt8):(bA a).length=a.length:=by simp [bA]
theorem zDx (a:List UInt8):dU (bA a)=a:=by
 induction a with
 | nil=>rfl
 | cons x a ih =>
  simp only [bA,dU,List.map_cons,List.map_map] at ih ⊢
  rw [ih]
  simp
theorem yGf (a:List UInt8):((bA a).all fun n=>decide (0 <= n) && decide (n < 256))=true:=by
 rw [List.all_eq_true]
 intro x hx
 obtain ⟨b,_,rfl⟩:=List.mem_map.1 hx
 have:=b.toNat_lt
 simp
 omega
theorem Zg (n:Nat) (a:List UInt8):Builder_String n (bA a,())=some (a,[],()):=by
 unfold Builder_String
 rw [aV (yGf a)]
 simp only [zDx]
end Go.Dec
