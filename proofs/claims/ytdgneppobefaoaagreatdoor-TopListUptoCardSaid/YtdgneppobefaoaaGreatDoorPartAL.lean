/- Part of a proof over this seat: a library of my own, and what it says of this seat. No statement is proved here. -/
import Derived.Lib.IndexMore
import Derived.Lib.Index
import Derived.Test.YtdgneppobefaoaaGreatDoorPartAK
import Derived.IntWalk
namespace Go.Dec
def dQ:List UInt8->List UInt8 × List UInt8 × Bool
 | []=>([],[],false)
 | b :: r=>if b=10 then ([],r,true) else (b :: (dQ r).1,(dQ r).2.1,(dQ r).2.2)
theorem zOa:∀ s:List UInt8,Go.Lib.cut s [10]=dQ s
 | []=>by simp [Go.Lib.cut,Go.Lib.index,dQ]
 | b :: r=>by
  have ih:=zOa r
  have hge:=Go.Lib.index_ge r [10]
  by_cases hb:b=10
  ·subst hb
   have hx:Go.Lib.index ((10:UInt8) :: r) [10]=0:=by simp [Go.Lib.index]
   simp [Go.Lib.cut,dQ,hx]
  ·have h1:([10]:List UInt8).isPrefixOf (b :: r)=false:=by simp [List.isPrefixOf,Ne.symm hb]
   have hx:Go.Lib.index (b :: r) [10]=if Go.Lib.index r [10]=-1 then -1 else Go.Lib.index r [10]+1:=by simp [Go.Lib.index,h1]
   unfold Go.Lib.cut at *
   simp only [dQ,if_neg hb,<- ih,hx]
   by_cases hi:Go.Lib.index r [10]=-1
   ·simp [hi]
   ·have h2:0 <= Go.Lib.index r [10]:=by omega
    have h3:0 <= Go.Lib.index r [10]+1:=by omega
    have h4:(Go.Lib.index r [10]+1).toNat=(Go.Lib.index r [10]).toNat+1:=by omega
    simp [hi,h2,h3,h4]
end Go.Dec
namespace Go.Dec
@[simp] theorem yRu {ρ:Type} (x y:Option ρ):br true x y=x:=rfl
@[simp] theorem yRv {ρ:Type} (x y:Option ρ):br false x y=y:=rfl
@[simp] theorem dD {α ρ:Type} (a:α) (k:α->Option ρ):ob (some a) k=k a:=rfl
@[simp] theorem yTq {ρ:Type} (x:Option ρ):chk true x=x:=rfl
end Go.Dec
namespace Go.Dec
theorem mX {ρ α:Type} {B:(α->Option ρ)->α->Option ρ} {n:Nat} {x:α} (h:0 < n):fix B n x=B (fix B (n - 1)) x:=by
 cases n with
 | zero=>omega
 | succ n=>rfl
theorem Ea {x:Int} (h:-9223372036854775808 <= x) (h2:x <= 9223372036854775807):IntKind.wrap .i64 x=x:=IntWalk.i64_in x ⟨h,h2⟩
theorem yPm {i:Int} {n:Nat} (h:0 <= i) (h2:i < n):inB i n=true:=by simp [inB,h,h2]
theorem zXc {i n:Nat} (h:i < n):inB (i:Int) n=true:=yPm (by omega) (by omega)
abbrev Line:=List UInt8 × Bool × Unit
def iK:List UInt8->List UInt8->List Line
 | w,[]=>match w with
  | []=>[]
  | _=>[(w,false,())]
 | w,c :: r=>if c=10 then (w,true,()) :: iK [] r else iK (w++[c]) r
def bU (s:List UInt8):List Line:=iK [] s
def zLp (l:Line):List UInt8:=l.1++(if l.2.1 then [10] else [])
def joinL (l:List Line):List UInt8:=l.flatMap zLp
theorem Eb:∀ (r w:List UInt8),(iK w r).length <= r.length+1
 | [],w=>by cases w <;> simp [iK]
 | c :: r,w=>by
  unfold iK
  split
  ·have:=Eb r []; simp; omega
  ·have:=Eb r (w++[c]); simp; omega
theorem Gl:∀ (r w:List UInt8),joinL (iK w r)=w++r
 | [],w=>by cases w <;> simp [iK,joinL,zLp]
 | c :: r,w=>by
  unfold iK
  split
  ·rename_i h
   have:=Gl r []
   simp only [joinL,List.flatMap_cons,zLp] at *
   rw [this]
   simp [h]
  ·rw [Gl r (w++[c])]; simp
theorem Un (s:List UInt8):joinL (bU s)=s:=Gl s []
theorem zCo:∀ (r w:List UInt8),(w ≠ []∨r ≠ [])->iK w r=(w++(dQ r).1,(dQ r).2.2,()) :: bU (dQ r).2.1
 | [],w,h=>by
  cases w with
  | nil=>simp at h
  | cons a w=>simp [iK,dQ,bU]
 | c :: r,w,_=>by
  unfold iK dQ
  split
  ·simp [bU]
  ·rw [zCo r (w++[c]) (.inl (by simp))]; simp
theorem Pm {s:List UInt8} (h:s ≠ []):bU s=((dQ s).1,(dQ s).2.2,()) :: bU (dQ s).2.1:=by
 have:=zCo s [] (.inr h)
 simpa [bU] using this
theorem zCp:bU []=[]:=rfl
theorem Kl {r:List UInt8} (h:r ≠ []):(dQ r).2.1.length < r.length:=by
 have hg:∀ r:List UInt8,(dQ r).2.1.length <= r.length:=by
  intro r
  induction r with
  | nil=>simp [dQ]
  | cons c r ih=>unfold dQ; split <;> simp <;> omega
 cases r with
 | nil=>exact absurd rfl h
 | cons c r =>
  have:=hg r
  unfold dQ; split <;> simp <;> omega
end Go.Dec
