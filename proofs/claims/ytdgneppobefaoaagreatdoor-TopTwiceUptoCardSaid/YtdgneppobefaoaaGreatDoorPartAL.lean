/- Part of a proof over this seat: a library of my own, and what it says of this seat. No statement is proved here. -/
import Derived.Lib.IndexMore
import Derived.Lib.Index
import Derived.Test.YtdgneppobefaoaaGreatDoorPartAK
import Derived.IntWalk
namespace Go.Dec
def dF:List UInt8->List UInt8 × List UInt8 × Bool
 | []=>([],[],false)
 | b :: r=>if b=10 then ([],r,true) else (b :: (dF r).1,(dF r).2.1,(dF r).2.2)
theorem zKg:∀ s:List UInt8,Go.Lib.cut s [10]=dF s
 | []=>by simp [Go.Lib.cut,Go.Lib.index,dF]
 | b :: r=>by
  have ih:=zKg r
  have hge:=Go.Lib.index_ge r [10]
  by_cases hb:b=10
  ·subst hb
   have hx:Go.Lib.index ((10:UInt8) :: r) [10]=0:=by simp [Go.Lib.index]
   simp [Go.Lib.cut,dF,hx]
  ·have h1:([10]:List UInt8).isPrefixOf (b :: r)=false:=by simp [List.isPrefixOf,Ne.symm hb]
   have hx:Go.Lib.index (b :: r) [10]=if Go.Lib.index r [10]=-1 then -1 else Go.Lib.index r [10]+1:=by simp [Go.Lib.index,h1]
   unfold Go.Lib.cut at *
   simp only [dF,if_neg hb,<- ih,hx]
   by_cases hi:Go.Lib.index r [10]=-1
   ·simp [hi]
   ·have h2:0 <= Go.Lib.index r [10]:=by omega
    have h3:0 <= Go.Lib.index r [10]+1:=by omega
    have h4:(Go.Lib.index r [10]+1).toNat=(Go.Lib.index r [10]).toNat+1:=by omega
    simp [hi,h2,h3,h4]
end Go.Dec
namespace Go.Dec
@[simp] theorem yAr {ρ:Type} (x y:Option ρ):br true x y=x:=rfl
@[simp] theorem yHy {ρ:Type} (x y:Option ρ):br false x y=y:=rfl
@[simp] theorem eH {α ρ:Type} (a:α) (k:α->Option ρ):ob (some a) k=k a:=rfl
@[simp] theorem yNu {ρ:Type} (x:Option ρ):chk true x=x:=rfl
end Go.Dec
namespace Go.Dec
theorem rJ {ρ α:Type} {B:(α->Option ρ)->α->Option ρ} {n:Nat} {x:α} (h:0 < n):fix B n x=B (fix B (n - 1)) x:=by
 cases n with
 | zero=>omega
 | succ n=>rfl
theorem Un {x:Int} (h:-9223372036854775808 <= x) (h2:x <= 9223372036854775807):IntKind.wrap .i64 x=x:=IntWalk.i64_in x ⟨h,h2⟩
theorem yKk {i:Int} {n:Nat} (h:0 <= i) (h2:i < n):inB i n=true:=by simp [inB,h,h2]
theorem zSz {i n:Nat} (h:i < n):inB (i:Int) n=true:=yKk (by omega) (by omega)
abbrev Line:=List UInt8 × Bool × Unit
def gL:List UInt8->List UInt8->List Line
 | w,[]=>match w with
  | []=>[]
  | _=>[(w,false,())]
 | w,c :: r=>if c=10 then (w,true,()) :: gL [] r else gL (w++[c]) r
def bT (s:List UInt8):List Line:=gL [] s
def nV (l:Line):List UInt8:=l.1++(if l.2.1 then [10] else [])
def joinL (l:List Line):List UInt8:=l.flatMap nV
theorem Bv:∀ (r w:List UInt8),(gL w r).length <= r.length+1
 | [],w=>by cases w <;> simp [gL]
 | c :: r,w=>by
  unfold gL
  split
  ·have:=Bv r []; simp; omega
  ·have:=Bv r (w++[c]); simp; omega
theorem Du:∀ (r w:List UInt8),joinL (gL w r)=w++r
 | [],w=>by cases w <;> simp [gL,joinL,nV]
 | c :: r,w=>by
  unfold gL
  split
  ·rename_i h
   have:=Du r []
   simp only [joinL,List.flatMap_cons,nV] at *
   rw [this]
   simp [h]
  ·rw [Du r (w++[c])]; simp
theorem Ra (s:List UInt8):joinL (bT s)=s:=Du s []
theorem zAh:∀ (r w:List UInt8),(w ≠ []∨r ≠ [])->gL w r=(w++(dF r).1,(dF r).2.2,()) :: bT (dF r).2.1
 | [],w,h=>by
  cases w with
  | nil=>simp at h
  | cons a w=>simp [gL,dF,bT]
 | c :: r,w,_=>by
  unfold gL dF
  split
  ·simp [bT]
  ·rw [zAh r (w++[c]) (.inl (by simp))]; simp
theorem Mi {s:List UInt8} (h:s ≠ []):bT s=((dF s).1,(dF s).2.2,()) :: bT (dF s).2.1:=by
 have:=zAh s [] (.inr h)
 simpa [bT] using this
theorem zAi:bT []=[]:=rfl
theorem Ib {r:List UInt8} (h:r ≠ []):(dF r).2.1.length < r.length:=by
 have hg:∀ r:List UInt8,(dF r).2.1.length <= r.length:=by
  intro r
  induction r with
  | nil=>simp [dF]
  | cons c r ih=>unfold dF; split <;> simp <;> omega
 cases r with
 | nil=>exact absurd rfl h
 | cons c r =>
  have:=hg r
  unfold dF; split <;> simp <;> omega
end Go.Dec
