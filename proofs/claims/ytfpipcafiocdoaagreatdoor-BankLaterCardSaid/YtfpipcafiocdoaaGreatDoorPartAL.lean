/- Part of a proof over this seat: a library of my own, and what it says of this seat. No statement is proved here. -/
import Derived.Lib.IndexMore
import Derived.Lib.Index
import Derived.Test.YtfpipcafiocdoaaGreatDoorPartAK
import Derived.IntWalk
namespace Go.Dec
def bY:List UInt8->List UInt8 × List UInt8 × Bool
 | []=>([],[],false)
 | b :: r=>if b=10 then ([],r,true) else (b :: (bY r).1,(bY r).2.1,(bY r).2.2)
theorem zKr:∀ s:List UInt8,Go.Lib.cut s [10]=bY s
 | []=>by simp [Go.Lib.cut,Go.Lib.index,bY]
 | b :: r=>by
  have ih:=zKr r
  have hge:=Go.Lib.index_ge r [10]
  by_cases hb:b=10
  ·subst hb
   have hx:Go.Lib.index ((10:UInt8) :: r) [10]=0:=by simp [Go.Lib.index]
   simp [Go.Lib.cut,bY,hx]
  ·have h1:([10]:List UInt8).isPrefixOf (b :: r)=false:=by simp [List.isPrefixOf,Ne.symm hb]
   have hx:Go.Lib.index (b :: r) [10]=if Go.Lib.index r [10]=-1 then -1 else Go.Lib.index r [10]+1:=by simp [Go.Lib.index,h1]
   unfold Go.Lib.cut at *
   simp only [bY,if_neg hb,<- ih,hx]
   by_cases hi:Go.Lib.index r [10]=-1
   ·simp [hi]
   ·have h2:0 <= Go.Lib.index r [10]:=by omega
    have h3:0 <= Go.Lib.index r [10]+1:=by omega
    have h4:(Go.Lib.index r [10]+1).toNat=(Go.Lib.index r [10]).toNat+1:=by omega
    simp [hi,h2,h3,h4]
end Go.Dec
namespace Go.Dec
@[simp] theorem yDk {ρ:Type} (x y:Option ρ):br true x y=x:=rfl
@[simp] theorem yDl {ρ:Type} (x y:Option ρ):br false x y=y:=rfl
@[simp] theorem jW {α ρ:Type} (a:α) (k:α->Option ρ):ob (some a) k=k a:=rfl
@[simp] theorem yEj {ρ:Type} (x:Option ρ):chk true x=x:=rfl
end Go.Dec
namespace Go.Dec
theorem Jo {ρ α:Type} {B:(α->Option ρ)->α->Option ρ} {n:Nat} {x:α} (h:0 < n):fix B n x=B (fix B (n - 1)) x:=by
 cases n with
 | zero=>omega
 | succ n=>rfl
theorem Cz {x:Int} (h:-9223372036854775808 <= x) (h2:x <= 9223372036854775807):IntKind.wrap .i64 x=x:=IntWalk.i64_in x ⟨h,h2⟩
theorem yAx {i:Int} {n:Nat} (h:0 <= i) (h2:i < n):inB i n=true:=by simp [inB,h,h2]
theorem yDm {i n:Nat} (h:i < n):inB (i:Int) n=true:=yAx (by omega) (by omega)
abbrev Line:=List UInt8 × Bool × Unit
def iB:List UInt8->List UInt8->List Line
 | w,[]=>match w with
  | []=>[]
  | _=>[(w,false,())]
 | w,c :: r=>if c=10 then (w,true,()) :: iB [] r else iB (w++[c]) r
def cZ (s:List UInt8):List Line:=iB [] s
def zHa (l:Line):List UInt8:=l.1++(if l.2.1 then [10] else [])
def joinL (l:List Line):List UInt8:=l.flatMap zHa
theorem Da:∀ (r w:List UInt8),(iB w r).length <= r.length+1
 | [],w=>by cases w <;> simp [iB]
 | c :: r,w=>by
  unfold iB
  split
  ·have:=Da r []; simp; omega
  ·have:=Da r (w++[c]); simp; omega
theorem xY:∀ (r w:List UInt8),joinL (iB w r)=w++r
 | [],w=>by cases w <;> simp [iB,joinL,zHa]
 | c :: r,w=>by
  unfold iB
  split
  ·rename_i h
   have:=xY r []
   simp only [joinL,List.flatMap_cons,zHa] at *
   rw [this]
   simp [h]
  ·rw [xY r (w++[c])]; simp
theorem Zy (s:List UInt8):joinL (cZ s)=s:=xY s []
theorem Ph:∀ (r w:List UInt8),(w ≠ []∨r ≠ [])->iB w r=(w++(bY r).1,(bY r).2.2,()) :: cZ (bY r).2.1
 | [],w,h=>by
  cases w with
  | nil=>simp at h
  | cons a w=>simp [iB,bY,cZ]
 | c :: r,w,_=>by
  unfold iB bY
  split
  ·simp [cZ]
  ·rw [Ph r (w++[c]) (.inl (by simp))]; simp
theorem Pj {s:List UInt8} (h:s ≠ []):cZ s=((bY s).1,(bY s).2.2,()) :: cZ (bY s).2.1:=by
 have:=Ph s [] (.inr h)
 simpa [cZ] using this
theorem zHb:cZ []=[]:=rfl
theorem Lg {r:List UInt8} (h:r ≠ []):(bY r).2.1.length < r.length:=by
 have hg:∀ r:List UInt8,(bY r).2.1.length <= r.length:=by
  intro r
  induction r with
  | nil=>simp [bY]
  | cons c r ih=>unfold bY; split <;> simp <;> omega
 cases r with
 | nil=>exact absurd rfl h
 | cons c r =>
  have:=hg r
  unfold bY; split <;> simp <;> omega
end Go.Dec
