/- Part of a proof over this seat: a library of my own, and what it says of this seat. No statement is proved here. -/
import Derived.Lib.IndexMore
import Derived.Lib.Index
import Derived.Test.YtdgneppobefaoaaGreatDoorPartAK
import Derived.IntWalk
namespace Go.Dec
def dA:List UInt8->List UInt8 × List UInt8 × Bool
 | []=>([],[],false)
 | b :: r=>if b=10 then ([],r,true) else (b :: (dA r).1,(dA r).2.1,(dA r).2.2)
theorem zKy:∀ s:List UInt8,Go.Lib.cut s [10]=dA s
 | []=>by simp [Go.Lib.cut,Go.Lib.index,dA]
 | b :: r=>by
  have ih:=zKy r
  have hge:=Go.Lib.index_ge r [10]
  by_cases hb:b=10
  ·subst hb
   have hx:Go.Lib.index ((10:UInt8) :: r) [10]=0:=by simp [Go.Lib.index]
   simp [Go.Lib.cut,dA,hx]
  ·have h1:([10]:List UInt8).isPrefixOf (b :: r)=false:=by simp [List.isPrefixOf,Ne.symm hb]
   have hx:Go.Lib.index (b :: r) [10]=if Go.Lib.index r [10]=-1 then -1 else Go.Lib.index r [10]+1:=by simp [Go.Lib.index,h1]
   unfold Go.Lib.cut at *
   simp only [dA,if_neg hb,<- ih,hx]
   by_cases hi:Go.Lib.index r [10]=-1
   ·simp [hi]
   ·have h2:0 <= Go.Lib.index r [10]:=by omega
    have h3:0 <= Go.Lib.index r [10]+1:=by omega
    have h4:(Go.Lib.index r [10]+1).toNat=(Go.Lib.index r [10]).toNat+1:=by omega
    simp [hi,h2,h3,h4]
end Go.Dec
namespace Go.Dec
@[simp] theorem zTo {ρ:Type} (x y:Option ρ):br true x y=x:=rfl
@[simp] theorem yIk {ρ:Type} (x y:Option ρ):br false x y=y:=rfl
@[simp] theorem dY {α ρ:Type} (a:α) (k:α->Option ρ):ob (some a) k=k a:=rfl
@[simp] theorem yOh {ρ:Type} (x:Option ρ):chk true x=x:=rfl
end Go.Dec
namespace Go.Dec
theorem yJ {ρ α:Type} {B:(α->Option ρ)->α->Option ρ} {n:Nat} {x:α} (h:0 < n):fix B n x=B (fix B (n - 1)) x:=by
 cases n with
 | zero=>omega
 | succ n=>rfl
theorem Nq {x:Int} (h:-9223372036854775808 <= x) (h2:x <= 9223372036854775807):IntKind.wrap .i64 x=x:=IntWalk.i64_in x ⟨h,h2⟩
theorem yKx {i:Int} {n:Nat} (h:0 <= i) (h2:i < n):inB i n=true:=by simp [inB,h,h2]
theorem yBb {i n:Nat} (h:i < n):inB (i:Int) n=true:=yKx (by omega) (by omega)
abbrev Line:=List UInt8 × Bool × Unit
def jO:List UInt8->List UInt8->List Line
 | w,[]=>match w with
  | []=>[]
  | _=>[(w,false,())]
 | w,c :: r=>if c=10 then (w,true,()) :: jO [] r else jO (w++[c]) r
def bF (s:List UInt8):List Line:=jO [] s
def zIt (l:Line):List UInt8:=l.1++(if l.2.1 then [10] else [])
def joinL (l:List Line):List UInt8:=l.flatMap zIt
theorem Nr:∀ (r w:List UInt8),(jO w r).length <= r.length+1
 | [],w=>by cases w <;> simp [jO]
 | c :: r,w=>by
  unfold jO
  split
  ·have:=Nr r []; simp; omega
  ·have:=Nr r (w++[c]); simp; omega
theorem Ez:∀ (r w:List UInt8),joinL (jO w r)=w++r
 | [],w=>by cases w <;> simp [jO,joinL,zIt]
 | c :: r,w=>by
  unfold jO
  split
  ·rename_i h
   have:=Ez r []
   simp only [joinL,List.flatMap_cons,zIt] at *
   rw [this]
   simp [h]
  ·rw [Ez r (w++[c])]; simp
theorem Sg (s:List UInt8):joinL (bF s)=s:=Ez s []
theorem zAk:∀ (r w:List UInt8),(w ≠ []∨r ≠ [])->jO w r=(w++(dA r).1,(dA r).2.2,()) :: bF (dA r).2.1
 | [],w,h=>by
  cases w with
  | nil=>simp at h
  | cons a w=>simp [jO,dA,bF]
 | c :: r,w,_=>by
  unfold jO dA
  split
  ·simp [bF]
  ·rw [zAk r (w++[c]) (.inl (by simp))]; simp
theorem Dc {s:List UInt8} (h:s ≠ []):bF s=((dA s).1,(dA s).2.2,()) :: bF (dA s).2.1:=by
 have:=zAk s [] (.inr h)
 simpa [bF] using this
theorem Df:bF []=[]:=rfl
theorem Jf {r:List UInt8} (h:r ≠ []):(dA r).2.1.length < r.length:=by
 have hg:∀ r:List UInt8,(dA r).2.1.length <= r.length:=by
  intro r
  induction r with
  | nil=>simp [dA]
  | cons c r ih=>unfold dA; split <;> simp <;> omega
 cases r with
 | nil=>exact absurd rfl h
 | cons c r =>
  have:=hg r
  unfold dA; split <;> simp <;> omega
end Go.Dec
