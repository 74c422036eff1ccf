/- Part of a proof over this seat: a library of my own, and what it says of this seat. No statement is proved here. -/
import Derived.Lib.IndexMore
import Derived.Lib.Index
import Derived.Test.YtmpoakdpdflfgaaGreatDoorPartAK
import Derived.IntWalk
namespace Go.Dec
def cK:List UInt8->List UInt8 × List UInt8 × Bool
 | []=>([],[],false)
 | b :: r=>if b=10 then ([],r,true) else (b :: (cK r).1,(cK r).2.1,(cK r).2.2)
theorem zPk:∀ s:List UInt8,Go.Lib.cut s [10]=cK s
 | []=>by simp [Go.Lib.cut,Go.Lib.index,cK]
 | b :: r=>by
  have ih:=zPk r
  have hge:=Go.Lib.index_ge r [10]
  by_cases hb:b=10
  ·subst hb
   have hx:Go.Lib.index ((10:UInt8) :: r) [10]=0:=by simp [Go.Lib.index]
   simp [Go.Lib.cut,cK,hx]
  ·have h1:([10]:List UInt8).isPrefixOf (b :: r)=false:=by simp [List.isPrefixOf,Ne.symm hb]
   have hx:Go.Lib.index (b :: r) [10]=if Go.Lib.index r [10]=-1 then -1 else Go.Lib.index r [10]+1:=by simp [Go.Lib.index,h1]
   unfold Go.Lib.cut at *
   simp only [cK,if_neg hb,<- ih,hx]
   by_cases hi:Go.Lib.index r [10]=-1
   ·simp [hi]
   ·have h2:0 <= Go.Lib.index r [10]:=by omega
    have h3:0 <= Go.Lib.index r [10]+1:=by omega
    have h4:(Go.Lib.index r [10]+1).toNat=(Go.Lib.index r [10]).toNat+1:=by omega
    simp [hi,h2,h3,h4]
end Go.Dec
namespace Go.Dec
@[simp] theorem yBo {ρ:Type} (x y:Option ρ):br true x y=x:=rfl
@[simp] theorem zTc {ρ:Type} (x y:Option ρ):br false x y=y:=rfl
@[simp] theorem iP {α ρ:Type} (a:α) (k:α->Option ρ):ob (some a) k=k a:=rfl
@[simp] theorem yHt {ρ:Type} (x:Option ρ):chk true x=x:=rfl
end Go.Dec
namespace Go.Dec
theorem gP {ρ α:Type} {B:(α->Option ρ)->α->Option ρ} {n:Nat} {x:α} (h:0 < n):fix B n x=B (fix B (n - 1)) x:=by
 cases n with
 | zero=>omega
 | succ n=>rfl
theorem pE {x:Int} (h:-9223372036854775808 <= x) (h2:x <= 9223372036854775807):IntKind.wrap .i64 x=x:=IntWalk.i64_in x ⟨h,h2⟩
theorem zLm {i:Int} {n:Nat} (h:0 <= i) (h2:i < n):inB i n=true:=by simp [inB,h,h2]
theorem zTd {i n:Nat} (h:i < n):inB (i:Int) n=true:=zLm (by omega) (by omega)
abbrev Line:=List UInt8 × Bool × Unit
def fE:List UInt8->List UInt8->List Line
 | w,[]=>match w with
  | []=>[]
  | _=>[(w,false,())]
 | w,c :: r=>if c=10 then (w,true,()) :: fE [] r else fE (w++[c]) r
def aL (s:List UInt8):List Line:=fE [] s
def Gg (l:Line):List UInt8:=l.1++(if l.2.1 then [10] else [])
def joinL (l:List Line):List UInt8:=l.flatMap Gg
theorem pF:∀ (r w:List UInt8),(fE w r).length <= r.length+1
 | [],w=>by cases w <;> simp [fE]
 | c :: r,w=>by
  unfold fE
  split
  ·have:=pF r []; simp; omega
  ·have:=pF r (w++[c]); simp; omega
theorem zN:∀ (r w:List UInt8),joinL (fE w r)=w++r
 | [],w=>by cases w <;> simp [fE,joinL,Gg]
 | c :: r,w=>by
  unfold fE
  split
  ·rename_i h
   have:=zN r []
   simp only [joinL,List.flatMap_cons,Gg] at *
   rw [this]
   simp [h]
  ·rw [zN r (w++[c])]; simp
theorem tH (s:List UInt8):joinL (aL s)=s:=zN s []
theorem Tx:∀ (r w:List UInt8),(w ≠ []∨r ≠ [])->fE w r=(w++(cK r).1,(cK r).2.2,()) :: aL (cK r).2.1
 | [],w,h=>by
  cases w with
  | nil=>simp at h
  | cons a w=>simp [fE,cK,aL]
 | c :: r,w,_=>by
  unfold fE cK
  split
  ·simp [aL]
  ·rw [Tx r (w++[c]) (.inl (by simp))]; simp
theorem Tz {s:List UInt8} (h:s ≠ []):aL s=((cK s).1,(cK s).2.2,()) :: aL (cK s).2.1:=by
 have:=Tx s [] (.inr h)
 simpa [aL] using this
theorem zLn:aL []=[]:=rfl
theorem Pv {r:List UInt8} (h:r ≠ []):(cK r).2.1.length < r.length:=by
 have hg:∀ r:List UInt8,(cK r).2.1.length <= r.length:=by
  intro r
  induction r with
  | nil=>simp [cK]
  | cons c r ih=>unfold cK; split <;> simp <;> omega
 cases r with
 | nil=>exact absurd rfl h
 | cons c r =>
  have:=hg r
  unfold cK; split <;> simp <;> omega
end Go.Dec
