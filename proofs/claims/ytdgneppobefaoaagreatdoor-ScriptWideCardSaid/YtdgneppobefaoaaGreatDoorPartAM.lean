/- Part of a proof over this seat: a library of my own, and what it says of this seat. No statement is proved here. -/
import Derived.Lib.IndexMore
import Derived.Lib.Index
import Derived.Test.YtdgneppobefaoaaGreatDoorPartAL
import Derived.IntWalk
namespace Go.Dec
def dR:List UInt8->List UInt8 × List UInt8 × Bool
 | []=>([],[],false)
 | b :: r=>if b=10 then ([],r,true) else (b :: (dR r).1,(dR r).2.1,(dR r).2.2)
theorem zMg:∀ s:List UInt8,Go.Lib.cut s [10]=dR s
 | []=>by simp [Go.Lib.cut,Go.Lib.index,dR]
 | b :: r=>by
  have ih:=zMg r
  have hge:=Go.Lib.index_ge r [10]
  by_cases hb:b=10
  ·subst hb
   have hx:Go.Lib.index ((10:UInt8) :: r) [10]=0:=by simp [Go.Lib.index]
   simp [Go.Lib.cut,dR,hx]
  ·have h1:([10]:List UInt8).isPrefixOf (b :: r)=false:=by simp [List.isPrefixOf,Ne.symm hb]
   have hx:Go.Lib.index (b :: r) [10]=if Go.Lib.index r [10]=-1 then -1 else Go.Lib.index r [10]+1:=by simp [Go.Lib.index,h1]
   unfold Go.Lib.cut at *
   simp only [dR,if_neg hb,<- ih,hx]
   by_cases hi:Go.Lib.index r [10]=-1
   ·simp [hi]
   ·have h2:0 <= Go.Lib.index r [10]:=by omega
    have h3:0 <= Go.Lib.index r [10]+1:=by omega
    have h4:(Go.Lib.index r [10]+1).toNat=(Go.Lib.index r [10]).toNat+1:=by omega
    simp [hi,h2,h3,h4]
end Go.Dec
namespace Go.Dec
@[simp] theorem yAc {ρ:Type} (x y:Option ρ):br true x y=x:=rfl
@[simp] theorem yAd {ρ:Type} (x y:Option ρ):br false x y=y:=rfl
@[simp] theorem iA {α ρ:Type} (a:α) (k:α->Option ρ):ob (some a) k=k a:=rfl
@[simp] theorem zZn {ρ:Type} (x:Option ρ):chk true x=x:=rfl
theorem zBi {α:Type} {f:α->α->Bool} (hf:∀ a b,f a b=true <-> a=b):∀ {x y:List α},zN f x y=true <-> x=y
 | [],[]=>by simp [zN]
 | [],_ :: _=>by simp [zN]
 | _ :: _,[]=>by simp [zN]
 | a :: x,b :: y=>by simp [zN,hf,zBi hf]
theorem beq_iff:∀ {t:Ty},t.cmp=true->∀ {x y:t.den},t.beq x y=true <-> x=y
 | .unit,_,_,_=>by simp [Ty.beq]
 | .bool,_,_,_=>by simp [Ty.beq,Ty.beq.Bool.beq']
 | .int _,_,_,_=>by simp [Ty.beq,Ty.beq.Int.beq']
 | .str,_,_,_=>by simp [Ty.beq,Ty.beq.List.beq']
 | .pair a b,h,x,y=>by
  simp only [Ty.cmp,aF] at h
  simp only [Ty.beq,aF,beq_iff h.1,beq_iff h.2]
  exact ⟨fun h=>Prod.ext h.1 h.2,fun h=>by subst h; exact ⟨rfl,rfl⟩⟩
 | .arr n a,h,x,y=>by
  simp only [Ty.cmp] at h
  simp only [Ty.beq]
  exact zBi fun _ _=>beq_iff h
 | .slice _,h,_,_=>by cases h
 | .err,h,_,_=>by cases h
 | .opq,h,_,_=>by cases h
end Go.Dec
namespace Go.Dec
theorem zD {ρ α:Type} {B:(α->Option ρ)->α->Option ρ} {n:Nat} {x:α} (h:0 < n):fix B n x=B (fix B (n - 1)) x:=by
 cases n with
 | zero=>omega
 | succ n=>rfl
theorem Ew {x:Int} (h:-9223372036854775808 <= x) (h2:x <= 9223372036854775807):IntKind.wrap .i64 x=x:=IntWalk.i64_in x ⟨h,h2⟩
theorem zXi {i:Int} {n:Nat} (h:0 <= i) (h2:i < n):inB i n=true:=by simp [inB,h,h2]
theorem zVd {i n:Nat} (h:i < n):inB (i:Int) n=true:=zXi (by omega) (by omega)
abbrev Line:=List UInt8 × Bool × Unit
def jF:List UInt8->List UInt8->List Line
 | w,[]=>match w with
  | []=>[]
  | _=>[(w,false,())]
 | w,c :: r=>if c=10 then (w,true,()) :: jF [] r else jF (w++[c]) r
def dW (s:List UInt8):List Line:=jF [] s
def zIo (l:Line):List UInt8:=l.1++(if l.2.1 then [10] else [])
def joinL (l:List Line):List UInt8:=l.flatMap zIo
theorem Ey:∀ (r w:List UInt8),(jF w r).length <= r.length+1
 | [],w=>by cases w <;> simp [jF]
 | c :: r,w=>by
  unfold jF
  split
  ·have:=Ey r []; simp; omega
  ·have:=Ey r (w++[c]); simp; omega
theorem zX:∀ (r w:List UInt8),joinL (jF w r)=w++r
 | [],w=>by cases w <;> simp [jF,joinL,zIo]
 | c :: r,w=>by
  unfold jF
  split
  ·rename_i h
   have:=zX r []
   simp only [joinL,List.flatMap_cons,zIo] at *
   rw [this]
   simp [h]
  ·rw [zX r (w++[c])]; simp
theorem zBj (s:List UInt8):joinL (dW s)=s:=zX s []
theorem Rs:∀ (r w:List UInt8),(w ≠ []∨r ≠ [])->jF w r=(w++(dR r).1,(dR r).2.2,()) :: dW (dR r).2.1
 | [],w,h=>by
  cases w with
  | nil=>simp at h
  | cons a w=>simp [jF,dR,dW]
 | c :: r,w,_=>by
  unfold jF dR
  split
  ·simp [dW]
  ·rw [Rs r (w++[c]) (.inl (by simp))]; simp
theorem Rt {s:List UInt8} (h:s ≠ []):dW s=((dR s).1,(dR s).2.2,()) :: dW (dR s).2.1:=by
 have:=Rs s [] (.inr h)
 simpa [dW] using this
theorem zIp:dW []=[]:=rfl
theorem Nk {r:List UInt8} (h:r ≠ []):(dR r).2.1.length < r.length:=by
 have hg:∀ r:List UInt8,(dR r).2.1.length <= r.length:=by
  intro r
  induction r with
  | nil=>simp [dR]
  | cons c r ih=>unfold dR; split <;> simp <;> omega
 cases r with
 | nil=>exact absurd rfl h
 | cons c r =>
  have:=hg r
  unfold dR; split <;> simp <;> omega
end Go.Dec
