/- Part of a proof over this seat: a library of my own, and what it says of this seat. No statement is proved here. -/
import Derived.Test.YtdgneppobefaoaaGreatDoorPartAI
import Derived.Test.YtdgneppobefaoaaGreatDoorPartAD
import Derived.Test.YtdgneppobefaoaaGreatDoorPartAL
namespace Go.Dec
def lT (_n:Nat) (x:List Int × Unit):Option (List Int × Unit):=some x
def Builder_String (_n:Nat) (x:List Int × Unit):Option (List UInt8 × List Int × Unit):=chk (x.1.all fun n=>decide (0 <= n) && decide (n < 256)) (some (cO x.1,[],()))
end Go.Dec
namespace Go.Dec
theorem aS {ρ:Type} {b:Bool} (h:b=true) (x:Option ρ):chk b x=x:=by subst h; rfl
theorem kK {ρ:Type} {b:Bool} (h:b=true) (x y:Option ρ):br b x y=x:=by subst h; rfl
theorem bM {ρ:Type} {b:Bool} (h:b=false) (x y:Option ρ):br b x y=y:=by subst h; rfl
theorem zJn {α:Type} {d:α} {s pre r:List α} {c:α} (h:s=pre++c :: r):bV d s (pre.length:Int)=c:=by
 subst h
 simp [bV,List.getD_eq_getElem?_getD]
theorem Mh (a b:List UInt8):bD (a++b)=bD a++bD b:=by simp [bD]
theorem Wq (a:List UInt8):(bD a).length=a.length:=by simp [bD]
theorem zYq (a:List UInt8):cO (bD a)=a:=by
 induction a with
 | nil=>rfl
 | cons x a ih =>
  simp only [bD,cO,List.map_cons,List.map_map] at ih ⊢
  rw [ih]
  simp
theorem yFx (a:List UInt8):((bD a).all fun n=>decide (0 <= n) && decide (n < 256))=true:=by
 rw [List.all_eq_true]
 intro x hx
 obtain ⟨b,_,rfl⟩:=List.mem_map.1 hx
 have:=b.toNat_lt
 simp
 omega
theorem zAd (n:Nat) (a:List UInt8):Builder_String n (bD a,())=some (a,[],()):=by
 unfold Builder_String
 rw [aS (yFx a)]
 simp only [zYq]
end Go.Dec
