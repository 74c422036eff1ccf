/- Part of a proof over this seat: a library of my own, and what it says of this seat. No statement is proved here. -/
import Derived.Lib.IndexMore
import Derived.Lib.Index
import Derived.Test.YtfpipcafiocdoaaGreatDoorPfrtAK
import Derived.IntWalk
namespace Go.Dec
def dG:List UInt8->List UInt8 × List UInt8 × Bool
 | []=>([],[],false)
 | b :: r=>if b=10 then ([],r,true) else (b :: (dG r).1,(dG r).2.1,(dG r).2.2)
theorem zNj:∀ s:List UInt8,Go.Lib.cut s [10]=dG s
 | []=>by simp [Go.Lib.cut,Go.Lib.index,dG]
 | b :: r=>by
  have ih:=zNj r
  have hge:=Go.Lib.index_ge r [10]
  by_cases hb:b=10
  ·subst hb
   have hx:Go.Lib.index ((10:UInt8) :: r) [10]=0:=by simp [Go.Lib.index]
   simp [Go.Lib.cut,dG,hx]
  ·have h1:([10]:List UInt8).isPrefixOf (b :: r)=false:=by simp [List.isPrefixOf,Ne.symm hb]
   have hx:Go.Lib.index (b :: r) [10]=if Go.Lib.index r [10]=-1 then -1 else Go.Lib.index r [10]+1:=by simp [Go.Lib.index,h1]
   unfold Go.Lib.cut at *
   simp only [dG,if_neg hb,<- ih,hx]
   by_cases hi:Go.Lib.index r [10]=-1
   ·simp [hi]
   ·have h2:0 <= Go.Lib.index r [10]:=by omega
    have h3:0 <= Go.Lib.index r [10]+1:=by omega
    have h4:(Go.Lib.index r [10]+1).toNat=(Go.Lib.index r [10]).toNat+1:=by omega
    simp [hi,h2,h3,h4]
end Go.Dec
namespace Go.Dec
@[simp] theorem yGp {ρ:Type} (x y:Option ρ):br true x y=x:=rfl
@[simp] theorem yGq {ρ:Type} (x y:Option ρ):br false x y=y:=rfl
@[simp] theorem Iz {α ρ:Type} (a:α) (k:α->Option ρ):ob (some a) k=k a:=rfl
@[simp] theorem yHt {ρ:Type} (x:Option ρ):chk true x=x:=rfl
end Go.Dec
namespace Go.Dec
theorem xS {ρ α:Type} {B:(α->Option ρ)->α->Option ρ} {n:Nat} {x:α} (h:0 < n):fix B n x=B (fix B (n - 1)) x:=by
 cases n with
 | zero=>omega
 | succ n=>rfl
theorem Lr {x:Int} (h:-9223372036854775808 <= x) (h2:x <= 9223372036854775807):IntKind.wrap .i64 x=x:=IntWalk.i64_in x ⟨h,h2⟩
theorem yEa {i:Int} {n:Nat} (h:0 <= i) (h2:i < n):inB i n=true:=by simp [inB,h,h2]
theorem zYy {i n:Nat} (h:i < n):inB (i:Int) n=true:=yEa (by omega) (by omega)
abbrev Line:=List UInt8 × Bool × Unit
def fT:List UInt8->List UInt8->List Line
 | w,[]=>match w with
  | []=>[]
  | _=>[(w,false,())]
 | w,c :: r=>if c=10 then (w,true,()) :: fT [] r else fT (w++[c]) r
def bD (s:List UInt8):List Line:=fT [] s
def Ri (l:Line):List UInt8:=l.1++(if l.2.1 then [10] else [])
def joinL (l:List Line):List UInt8:=l.flatMap Ri
theorem rW:∀ (r w:List UInt8),(fT w r).length <= r.length+1
 | [],w=>by cases w <;> simp [fT]
 | c :: r,w=>by
  unfold fT
  split
  ·have:=rW r []; simp; omega
  ·have:=rW r (w++[c]); simp; omega
theorem yL:∀ (r w:List UInt8),joinL (fT w r)=w++r
 | [],w=>by cases w <;> simp [fT,joinL,Ri]
 | c :: r,w=>by
  unfold fT
  split
  ·rename_i h
   have:=yL r []
   simp only [joinL,List.flatMap_cons,Ri] at *
   rw [this]
   simp [h]
  ·rw [yL r (w++[c])]; simp
theorem yM (s:List UInt8):joinL (bD s)=s:=yL s []
theorem Rj:∀ (r w:List UInt8),(w ≠ []∨r ≠ [])->fT w r=(w++(dG r).1,(dG r).2.2,()) :: bD (dG r).2.1
 | [],w,h=>by
  cases w with
  | nil=>simp at h
  | cons a w=>simp [fT,dG,bD]
 | c :: r,w,_=>by
  unfold fT dG
  split
  ·simp [bD]
  ·rw [Rj r (w++[c]) (.inl (by simp))]; simp
theorem Rk {s:List UInt8} (h:s ≠ []):bD s=((dG s).1,(dG s).2.2,()) :: bD (dG s).2.1:=by
 have:=Rj s [] (.inr h)
 simpa [bD] using this
theorem zJr:bD []=[]:=rfl
theorem Nh {r:List UInt8} (h:r ≠ []):(dG r).2.1.length < r.length:=by
 have hg:∀ r:List UInt8,(dG r).2.1.length <= r.length:=by
  intro r
  induction r with
  | nil=>simp [dG]
  | cons c r ih=>unfold dG; split <;> simp <;> omega
 cases r with
 | nil=>exact absurd rfl h
 | cons c r =>
  have:=hg r
  unfold dG; split <;> simp <;> omega
end Go.Dec
