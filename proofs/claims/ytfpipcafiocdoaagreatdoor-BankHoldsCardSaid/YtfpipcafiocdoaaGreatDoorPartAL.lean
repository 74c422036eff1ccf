/- Part of a proof over this seat: a library of my own, and what it says of this seat. No statement is proved here. -/
import Derived.Lib.IndexMore
import Derived.Lib.Index
import Derived.Test.YtfpipcafiocdoaaGreatDoorPartAK
import Derived.IntWalk
namespace Go.Dec
def dD:List UInt8->List UInt8 × List UInt8 × Bool
 | []=>([],[],false)
 | b :: r=>if b=10 then ([],r,true) else (b :: (dD r).1,(dD r).2.1,(dD r).2.2)
theorem zJt:∀ s:List UInt8,Go.Lib.cut s [10]=dD s
 | []=>by simp [Go.Lib.cut,Go.Lib.index,dD]
 | b :: r=>by
  have ih:=zJt r
  have hge:=Go.Lib.index_ge r [10]
  by_cases hb:b=10
  ·subst hb
   have hx:Go.Lib.index ((10:UInt8) :: r) [10]=0:=by simp [Go.Lib.index]
   simp [Go.Lib.cut,dD,hx]
  ·have h1:([10]:List UInt8).isPrefixOf (b :: r)=false:=by simp [List.isPrefixOf,Ne.symm hb]
   have hx:Go.Lib.index (b :: r) [10]=if Go.Lib.index r [10]=-1 then -1 else Go.Lib.index r [10]+1:=by simp [Go.Lib.index,h1]
   unfold Go.Lib.cut at *
   simp only [dD,if_neg hb,<- ih,hx]
   by_cases hi:Go.Lib.index r [10]=-1
   ·simp [hi]
   ·have h2:0 <= Go.Lib.index r [10]:=by omega
    have h3:0 <= Go.Lib.index r [10]+1:=by omega
    have h4:(Go.Lib.index r [10]+1).toNat=(Go.Lib.index r [10]).toNat+1:=by omega
    simp [hi,h2,h3,h4]
end Go.Dec
namespace Go.Dec
@[simp] theorem zNl {ρ:Type} (x y:Option ρ):br true x y=x:=rfl
@[simp] theorem yFn {ρ:Type} (x y:Option ρ):br false x y=y:=rfl
@[simp] theorem bL {α ρ:Type} (a:α) (k:α->Option ρ):ob (some a) k=k a:=rfl
@[simp] theorem yEr {ρ:Type} (x:Option ρ):chk true x=x:=rfl
end Go.Dec
namespace Go.Dec
theorem lI {ρ α:Type} {B:(α->Option ρ)->α->Option ρ} {n:Nat} {x:α} (h:0 < n):fix B n x=B (fix B (n - 1)) x:=by
 cases n with
 | zero=>omega
 | succ n=>rfl
theorem xU {x:Int} (h:-9223372036854775808 <= x) (h2:x <= 9223372036854775807):IntKind.wrap .i64 x=x:=IntWalk.i64_in x ⟨h,h2⟩
abbrev Line:=List UInt8 × Bool × Unit
def iD:List UInt8->List UInt8->List Line
 | w,[]=>match w with
  | []=>[]
  | _=>[(w,false,())]
 | w,c :: r=>if c=10 then (w,true,()) :: iD [] r else iD (w++[c]) r
def dI (s:List UInt8):List Line:=iD [] s
def zGo (l:Line):List UInt8:=l.1++(if l.2.1 then [10] else [])
def joinL (l:List Line):List UInt8:=l.flatMap zGo
theorem Ej:∀ (r w:List UInt8),(iD w r).length <= r.length+1
 | [],w=>by cases w <;> simp [iD]
 | c :: r,w=>by
  unfold iD
  split
  ·have:=Ej r []; simp; omega
  ·have:=Ej r (w++[c]); simp; omega
theorem zF:∀ (r w:List UInt8),joinL (iD w r)=w++r
 | [],w=>by cases w <;> simp [iD,joinL,zGo]
 | c :: r,w=>by
  unfold iD
  split
  ·rename_i h
   have:=zF r []
   simp only [joinL,List.flatMap_cons,zGo] at *
   rw [this]
   simp [h]
  ·rw [zF r (w++[c])]; simp
theorem Zv (s:List UInt8):joinL (dI s)=s:=zF s []
theorem Qe:∀ (r w:List UInt8),(w ≠ []∨r ≠ [])->iD w r=(w++(dD r).1,(dD r).2.2,()) :: dI (dD r).2.1
 | [],w,h=>by
  cases w with
  | nil=>simp at h
  | cons a w=>simp [iD,dD,dI]
 | c :: r,w,_=>by
  unfold iD dD
  split
  ·simp [dI]
  ·rw [Qe r (w++[c]) (.inl (by simp))]; simp
theorem Qf {s:List UInt8} (h:s ≠ []):dI s=((dD s).1,(dD s).2.2,()) :: dI (dD s).2.1:=by
 have:=Qe s [] (.inr h)
 simpa [dI] using this
theorem zGp:dI []=[]:=rfl
theorem Mk {r:List UInt8} (h:r ≠ []):(dD r).2.1.length < r.length:=by
 have hg:∀ r:List UInt8,(dD r).2.1.length <= r.length:=by
  intro r
  induction r with
  | nil=>simp [dD]
  | cons c r ih=>unfold dD; split <;> simp <;> omega
 cases r with
 | nil=>exact absurd rfl h
 | cons c r =>
  have:=hg r
  unfold dD; split <;> simp <;> omega
end Go.Dec
