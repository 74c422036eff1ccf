/- Part of a proof over this seat: a library of my own, and what it says of this seat. No statement is proved here. -/
import Derived.Lib.IndexMore
import Derived.Lib.Index
import Derived.Test.YtdgneppobefaoaaGreatDoorPartAK
import Derived.IntWalk
namespace Go.Dec
def dV:List UInt8->List UInt8 × List UInt8 × Bool
 | []=>([],[],false)
 | b :: r=>if b=10 then ([],r,true) else (b :: (dV r).1,(dV r).2.1,(dV r).2.2)
theorem zNd:∀ s:List UInt8,Go.Lib.cut s [10]=dV s
 | []=>by simp [Go.Lib.cut,Go.Lib.index,dV]
 | b :: r=>by
  have ih:=zNd r
  have hge:=Go.Lib.index_ge r [10]
  by_cases hb:b=10
  ·subst hb
   have hx:Go.Lib.index ((10:UInt8) :: r) [10]=0:=by simp [Go.Lib.index]
   simp [Go.Lib.cut,dV,hx]
  ·have h1:([10]:List UInt8).isPrefixOf (b :: r)=false:=by simp [List.isPrefixOf,Ne.symm hb]
   have hx:Go.Lib.index (b :: r) [10]=if Go.Lib.index r [10]=-1 then -1 else Go.Lib.index r [10]+1:=by simp [Go.Lib.index,h1]
   unfold Go.Lib.cut at *
   simp only [dV,if_neg hb,<- ih,hx]
   by_cases hi:Go.Lib.index r [10]=-1
   ·simp [hi]
   ·have h2:0 <= Go.Lib.index r [10]:=by omega
    have h3:0 <= Go.Lib.index r [10]+1:=by omega
    have h4:(Go.Lib.index r [10]+1).toNat=(Go.Lib.index r [10]).toNat+1:=by omega
    simp [hi,h2,h3,h4]
end Go.Dec
namespace Go.Dec
@[simp] theorem yNz {ρ:Type} (x y:Option ρ):br true x y=x:=rfl
@[simp] theorem yOa {ρ:Type} (x y:Option ρ):br false x y=y:=rfl
@[simp] theorem dH {α ρ:Type} (a:α) (k:α->Option ρ):ob (some a) k=k a:=rfl
@[simp] theorem yWa {ρ:Type} (x:Option ρ):chk true x=x:=rfl
end Go.Dec
namespace Go.Dec
theorem Bh {ρ α:Type} {B:(α->Option ρ)->α->Option ρ} {n:Nat} {x:α} (h:0 < n):fix B n x=B (fix B (n - 1)) x:=by
 cases n with
 | zero=>omega
 | succ n=>rfl
theorem Lv {x:Int} (h:-9223372036854775808 <= x) (h2:x <= 9223372036854775807):IntKind.wrap .i64 x=x:=IntWalk.i64_in x ⟨h,h2⟩
theorem yQl {i:Int} {n:Nat} (h:0 <= i) (h2:i < n):inB i n=true:=by simp [inB,h,h2]
theorem yOb {i n:Nat} (h:i < n):inB (i:Int) n=true:=yQl (by omega) (by omega)
abbrev Line:=List UInt8 × Bool × Unit
def iO:List UInt8->List UInt8->List Line
 | w,[]=>match w with
  | []=>[]
  | _=>[(w,false,())]
 | w,c :: r=>if c=10 then (w,true,()) :: iO [] r else iO (w++[c]) r
def bY (s:List UInt8):List Line:=iO [] s
def vL (l:Line):List UInt8:=l.1++(if l.2.1 then [10] else [])
def joinL (l:List Line):List UInt8:=l.flatMap vL
theorem Gt:∀ (r w:List UInt8),(iO w r).length <= r.length+1
 | [],w=>by cases w <;> simp [iO]
 | c :: r,w=>by
  unfold iO
  split
  ·have:=Gt r []; simp; omega
  ·have:=Gt r (w++[c]); simp; omega
theorem Jd:∀ (r w:List UInt8),joinL (iO w r)=w++r
 | [],w=>by cases w <;> simp [iO,joinL,vL]
 | c :: r,w=>by
  unfold iO
  split
  ·rename_i h
   have:=Jd r []
   simp only [joinL,List.flatMap_cons,vL] at *
   rw [this]
   simp [h]
  ·rw [Jd r (w++[c])]; simp
theorem Vp (s:List UInt8):joinL (bY s)=s:=Jd s []
theorem zDp:∀ (r w:List UInt8),(w ≠ []∨r ≠ [])->iO w r=(w++(dV r).1,(dV r).2.2,()) :: bY (dV r).2.1
 | [],w,h=>by
  cases w with
  | nil=>simp at h
  | cons a w=>simp [iO,dV,bY]
 | c :: r,w,_=>by
  unfold iO dV
  split
  ·simp [bY]
  ·rw [zDp r (w++[c]) (.inl (by simp))]; simp
theorem Gu {s:List UInt8} (h:s ≠ []):bY s=((dV s).1,(dV s).2.2,()) :: bY (dV s).2.1:=by
 have:=zDp s [] (.inr h)
 simpa [bY] using this
theorem Qz:bY []=[]:=rfl
theorem Cr {r:List UInt8} (h:r ≠ []):(dV r).2.1.length < r.length:=by
 have hg:∀ r:List UInt8,(dV r).2.1.length <= r.length:=by
  intro r
  induction r with
  | nil=>simp [dV]
  | cons c r ih=>unfold dV; split <;> simp <;> omega
 cases r with
 | nil=>exact absurd rfl h
 | cons c r =>
  have:=hg r
  unfold dV; split <;> simp <;> omega
end Go.Dec
