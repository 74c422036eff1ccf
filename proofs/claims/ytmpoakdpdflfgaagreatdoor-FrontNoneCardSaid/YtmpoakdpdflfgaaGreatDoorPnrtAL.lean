/- Part of a proof over this seat: a library of my own, and what it says of this seat. No statement is proved here. -/
import Derived.Lib.IndexMore
import Derived.Lib.Index
import Derived.Test.YtmpoakdpdflfgaaGreatDoorPnrtAK
import Derived.IntWalk
namespace Go.Dec
def dF:List UInt8->List UInt8 × List UInt8 × Bool
 | []=>([],[],false)
 | b :: r=>if b=10 then ([],r,true) else (b :: (dF r).1,(dF r).2.1,(dF r).2.2)
theorem zNc:∀ s:List UInt8,Go.Lib.cut s [10]=dF s
 | []=>by simp [Go.Lib.cut,Go.Lib.index,dF]
 | b :: r=>by
  have ih:=zNc r
  have hge:=Go.Lib.index_ge r [10]
  by_cases hb:b=10
  ·subst hb
   have hx:Go.Lib.index ((10:UInt8) :: r) [10]=0:=by simp [Go.Lib.index]
   simp [Go.Lib.cut,dF,hx]
  ·have h1:([10]:List UInt8).isPrefixOf (b :: r)=false:=by simp [List.isPrefixOf,Ne.symm hb]
   have hx:Go.Lib.index (b :: r) [10]=if Go.Lib.index r [10]=-1 then -1 else Go.Lib.index r [10]+1:=by simp [Go.Lib.index,h1]
   unfold Go.Lib.cut at *
   simp only [dF,if_neg hb,<- ih,hx]
   by_cases hi:Go.Lib.index r [10]=-1
   ·simp [hi]
   ·have h2:0 <= Go.Lib.index r [10]:=by omega
    have h3:0 <= Go.Lib.index r [10]+1:=by omega
    have h4:(Go.Lib.index r [10]+1).toNat=(Go.Lib.index r [10]).toNat+1:=by omega
    simp [hi,h2,h3,h4]
end Go.Dec
namespace Go.Dec
@[simp] theorem zJt {ρ:Type} (x y:Option ρ):br true x y=x:=rfl
@[simp] theorem zWx {ρ:Type} (x y:Option ρ):br false x y=y:=rfl
@[simp] theorem kQ {α ρ:Type} (a:α) (k:α->Option ρ):ob (some a) k=k a:=rfl
@[simp] theorem yCb {ρ:Type} (x:Option ρ):chk true x=x:=rfl
end Go.Dec
namespace Go.Dec
theorem fK {ρ α:Type} {B:(α->Option ρ)->α->Option ρ} {n:Nat} {x:α} (h:0 < n):fix B n x=B (fix B (n - 1)) x:=by
 cases n with
 | zero=>omega
 | succ n=>rfl
theorem uD {x:Int} (h:-9223372036854775808 <= x) (h2:x <= 9223372036854775807):IntKind.wrap .i64 x=x:=IntWalk.i64_in x ⟨h,h2⟩
theorem zZw {i:Int} {n:Nat} (h:0 <= i) (h2:i < n):inB i n=true:=by simp [inB,h,h2]
theorem xS {i n:Nat} (h:i < n):inB (i:Int) n=true:=zZw (by omega) (by omega)
abbrev Line:=List UInt8 × Bool × Unit
def fM:List UInt8->List UInt8->List Line
 | w,[]=>match w with
  | []=>[]
  | _=>[(w,false,())]
 | w,c :: r=>if c=10 then (w,true,()) :: fM [] r else fM (w++[c]) r
def bB (s:List UInt8):List Line:=fM [] s
def Qv (l:Line):List UInt8:=l.1++(if l.2.1 then [10] else [])
def joinL (l:List Line):List UInt8:=l.flatMap Qv
theorem qW:∀ (r w:List UInt8),(fM w r).length <= r.length+1
 | [],w=>by cases w <;> simp [fM]
 | c :: r,w=>by
  unfold fM
  split
  ·have:=qW r []; simp; omega
  ·have:=qW r (w++[c]); simp; omega
theorem xU:∀ (r w:List UInt8),joinL (fM w r)=w++r
 | [],w=>by cases w <;> simp [fM,joinL,Qv]
 | c :: r,w=>by
  unfold fM
  split
  ·rename_i h
   have:=xU r []
   simp only [joinL,List.flatMap_cons,Qv] at *
   rw [this]
   simp [h]
  ·rw [xU r (w++[c])]; simp
theorem xV (s:List UInt8):joinL (bB s)=s:=xU s []
theorem Qw:∀ (r w:List UInt8),(w ≠ []∨r ≠ [])->fM w r=(w++(dF r).1,(dF r).2.2,()) :: bB (dF r).2.1
 | [],w,h=>by
  cases w with
  | nil=>simp at h
  | cons a w=>simp [fM,dF,bB]
 | c :: r,w,_=>by
  unfold fM dF
  split
  ·simp [bB]
  ·rw [Qw r (w++[c]) (.inl (by simp))]; simp
theorem Qx {s:List UInt8} (h:s ≠ []):bB s=((dF s).1,(dF s).2.2,()) :: bB (dF s).2.1:=by
 have:=Qw s [] (.inr h)
 simpa [bB] using this
theorem zJu:bB []=[]:=rfl
theorem Nc {r:List UInt8} (h:r ≠ []):(dF r).2.1.length < r.length:=by
 have hg:∀ r:List UInt8,(dF r).2.1.length <= r.length:=by
  intro r
  induction r with
  | nil=>simp [dF]
  | cons c r ih=>unfold dF; split <;> simp <;> omega
 cases r with
 | nil=>exact absurd rfl h
 | cons c r =>
  have:=hg r
  unfold dF; split <;> simp <;> omega
end Go.Dec
