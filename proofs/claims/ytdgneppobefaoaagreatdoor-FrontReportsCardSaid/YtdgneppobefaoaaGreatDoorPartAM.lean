/- Part of a proof over this seat: a library of my own, and what it says of this seat. No statement is proved here. -/
import Derived.Lib.IndexMore
import Derived.Lib.Index
import Derived.Test.YtdgneppobefaoaaGreatDoorPartAL
import Derived.IntWalk
namespace Go.Dec
def dB:List UInt8->List UInt8 × List UInt8 × Bool
 | []=>([],[],false)
 | b :: r=>if b=10 then ([],r,true) else (b :: (dB r).1,(dB r).2.1,(dB r).2.2)
theorem zJa:∀ s:List UInt8,Go.Lib.cut s [10]=dB s
 | []=>by simp [Go.Lib.cut,Go.Lib.index,dB]
 | b :: r=>by
  have ih:=zJa r
  have hge:=Go.Lib.index_ge r [10]
  by_cases hb:b=10
  ·subst hb
   have hx:Go.Lib.index ((10:UInt8) :: r) [10]=0:=by simp [Go.Lib.index]
   simp [Go.Lib.cut,dB,hx]
  ·have h1:([10]:List UInt8).isPrefixOf (b :: r)=false:=by simp [List.isPrefixOf,Ne.symm hb]
   have hx:Go.Lib.index (b :: r) [10]=if Go.Lib.index r [10]=-1 then -1 else Go.Lib.index r [10]+1:=by simp [Go.Lib.index,h1]
   unfold Go.Lib.cut at *
   simp only [dB,if_neg hb,<- ih,hx]
   by_cases hi:Go.Lib.index r [10]=-1
   ·simp [hi]
   ·have h2:0 <= Go.Lib.index r [10]:=by omega
    have h3:0 <= Go.Lib.index r [10]+1:=by omega
    have h4:(Go.Lib.index r [10]+1).toNat=(Go.Lib.index r [10]).toNat+1:=by omega
    simp [hi,h2,h3,h4]
end Go.Dec
namespace Go.Dec
@[simp] theorem zVf {ρ:Type} (x y:Option ρ):br true x y=x:=rfl
@[simp] theorem zVg {ρ:Type} (x y:Option ρ):br false x y=y:=rfl
@[simp] theorem gJ {α ρ:Type} (a:α) (k:α->Option ρ):ob (some a) k=k a:=rfl
@[simp] theorem zUq {ρ:Type} (x:Option ρ):chk true x=x:=rfl
theorem Yk {α:Type} {f:α->α->Bool} (hf:∀ a b,f a b=true <-> a=b):∀ {x y:List α},wD f x y=true <-> x=y
 | [],[]=>by simp [wD]
 | [],_ :: _=>by simp [wD]
 | _ :: _,[]=>by simp [wD]
 | a :: x,b :: y=>by simp [wD,hf,Yk hf]
theorem beq_iff:∀ {t:Ty},t.cmp=true->∀ {x y:t.den},t.beq x y=true <-> x=y
 | .unit,_,_,_=>by simp [Ty.beq]
 | .bool,_,_,_=>by simp [Ty.beq,Ty.beq.Bool.beq']
 | .int _,_,_,_=>by simp [Ty.beq,Ty.beq.Int.beq']
 | .str,_,_,_=>by simp [Ty.beq,Ty.beq.List.beq']
 | .pair a b,h,x,y=>by
  simp only [Ty.cmp,aD] at h
  simp only [Ty.beq,aD,beq_iff h.1,beq_iff h.2]
  exact ⟨fun h=>Prod.ext h.1 h.2,fun h=>by subst h; exact ⟨rfl,rfl⟩⟩
 | .arr n a,h,x,y=>by
  simp only [Ty.cmp] at h
  simp only [Ty.beq]
  exact Yk fun _ _=>beq_iff h
 | .slice _,h,_,_=>by cases h
 | .err,h,_,_=>by cases h
 | .opq,h,_,_=>by cases h
end Go.Dec
namespace Go.Dec
theorem bT {ρ α:Type} {B:(α->Option ρ)->α->Option ρ} {n:Nat} {x:α} (h:0 < n):fix B n x=B (fix B (n - 1)) x:=by
 cases n with
 | zero=>omega
 | succ n=>rfl
theorem lQ {x:Int} (h:-9223372036854775808 <= x) (h2:x <= 9223372036854775807):IntKind.wrap .i64 x=x:=IntWalk.i64_in x ⟨h,h2⟩
theorem zSp {i:Int} {n:Nat} (h:0 <= i) (h2:i < n):inB i n=true:=by simp [inB,h,h2]
theorem qH {i n:Nat} (h:i < n):inB (i:Int) n=true:=zSp (by omega) (by omega)
abbrev Line:=List UInt8 × Bool × Unit
def iE:List UInt8->List UInt8->List Line
 | w,[]=>match w with
  | []=>[]
  | _=>[(w,false,())]
 | w,c :: r=>if c=10 then (w,true,()) :: iE [] r else iE (w++[c]) r
def dI (s:List UInt8):List Line:=iE [] s
def zFn (l:Line):List UInt8:=l.1++(if l.2.1 then [10] else [])
def joinL (l:List Line):List UInt8:=l.flatMap zFn
theorem Ah:∀ (r w:List UInt8),(iE w r).length <= r.length+1
 | [],w=>by cases w <;> simp [iE]
 | c :: r,w=>by
  unfold iE
  split
  ·have:=Ah r []; simp; omega
  ·have:=Ah r (w++[c]); simp; omega
theorem wM:∀ (r w:List UInt8),joinL (iE w r)=w++r
 | [],w=>by cases w <;> simp [iE,joinL,zFn]
 | c :: r,w=>by
  unfold iE
  split
  ·rename_i h
   have:=wM r []
   simp only [joinL,List.flatMap_cons,zFn] at *
   rw [this]
   simp [h]
  ·rw [wM r (w++[c])]; simp
theorem Yl (s:List UInt8):joinL (dI s)=s:=wM s []
theorem Oo:∀ (r w:List UInt8),(w ≠ []∨r ≠ [])->iE w r=(w++(dB r).1,(dB r).2.2,()) :: dI (dB r).2.1
 | [],w,h=>by
  cases w with
  | nil=>simp at h
  | cons a w=>simp [iE,dB,dI]
 | c :: r,w,_=>by
  unfold iE dB
  split
  ·simp [dI]
  ·rw [Oo r (w++[c]) (.inl (by simp))]; simp
theorem Oq {s:List UInt8} (h:s ≠ []):dI s=((dB s).1,(dB s).2.2,()) :: dI (dB s).2.1:=by
 have:=Oo s [] (.inr h)
 simpa [dI] using this
theorem zFo:dI []=[]:=rfl
theorem Io {r:List UInt8} (h:r ≠ []):(dB r).2.1.length < r.length:=by
 have hg:∀ r:List UInt8,(dB r).2.1.length <= r.length:=by
  intro r
  induction r with
  | nil=>simp [dB]
  | cons c r ih=>unfold dB; split <;> simp <;> omega
 cases r with
 | nil=>exact absurd rfl h
 | cons c r =>
  have:=hg r
  unfold dB; split <;> simp <;> omega
end Go.Dec
