/- Part of a proof over this seat: a library of my own, and what it says of this seat. No statement is proved here. -/
import Derived.Lib.IndexMore
import Derived.Lib.Index
import Derived.Test.YtmpoakdpdflfgaaGreatDoorSwAK
import Derived.IntWalk
namespace Go.Dec
def cutLf:List UInt8->List UInt8 × List UInt8 × Bool
 | []=>([],[],false)
 | b :: r=>if b=10 then ([],r,true) else (b :: (cutLf r).1,(cutLf r).2.1,(cutLf r).2.2)
theorem cut_lf:∀ s:List UInt8,Go.Lib.cut s [10]=cutLf s
 | []=>by simp [Go.Lib.cut,Go.Lib.index,cutLf]
 | b :: r=>by
  have ih:=cut_lf r
  have hge:=Go.Lib.index_ge r [10]
  by_cases hb:b=10
  ·subst hb
   have hx:Go.Lib.index ((10:UInt8) :: r) [10]=0:=by simp [Go.Lib.index]
   simp [Go.Lib.cut,cutLf,hx]
  ·have h1:([10]:List UInt8).isPrefixOf (b :: r)=false:=by simp [List.isPrefixOf,Ne.symm hb]
   have hx:Go.Lib.index (b :: r) [10]=if Go.Lib.index r [10]=-1 then -1 else Go.Lib.index r [10]+1:=by simp [Go.Lib.index,h1]
   unfold Go.Lib.cut at *
   simp only [cutLf,if_neg hb,<- ih,hx]
   by_cases hi:Go.Lib.index r [10]=-1
   ·simp [hi]
   ·have h2:0 <= Go.Lib.index r [10]:=by omega
    have h3:0 <= Go.Lib.index r [10]+1:=by omega
    have h4:(Go.Lib.index r [10]+1).toNat=(Go.Lib.index r [10]).toNat+1:=by omega
    simp [hi,h2,h3,h4]
end Go.Dec
namespace Go.Dec
@[simp] theorem br_t {ρ:Type} (x y:Option ρ):br true x y=x:=rfl
@[simp] theorem br_f {ρ:Type} (x y:Option ρ):br false x y=y:=rfl
@[simp] theorem ob_s {α ρ:Type} (a:α) (k:α->Option ρ):ob (some a) k=k a:=rfl
@[simp] theorem chk_t {ρ:Type} (x:Option ρ):chk true x=x:=rfl
end Go.Dec
namespace Go.Dec
theorem fix_pos {ρ α:Type} {B:(α->Option ρ)->α->Option ρ} {n:Nat} {x:α} (h:0 < n):fix B n x=B (fix B (n - 1)) x:=by
 cases n with
 | zero=>omega
 | succ n=>rfl
theorem wrapI {x:Int} (h:-9223372036854775808 <= x) (h2:x <= 9223372036854775807):IntKind.wrap .i64 x=x:=IntWalk.i64_in x ⟨h,h2⟩
theorem inB_t {i:Int} {n:Nat} (h:0 <= i) (h2:i < n):inB i n=true:=by simp [inB,h,h2]
theorem inBn {i n:Nat} (h:i < n):inB (i:Int) n=true:=inB_t (by omega) (by omega)
abbrev Line:=List UInt8 × Bool × Unit
def splitA:List UInt8->List UInt8->List Line
 | w,[]=>match w with
  | []=>[]
  | _=>[(w,false,())]
 | w,c :: r=>if c=10 then (w,true,()) :: splitA [] r else splitA (w++[c]) r
def splitL (s:List UInt8):List Line:=splitA [] s
def line1 (l:Line):List UInt8:=l.1++(if l.2.1 then [10] else [])
def joinL (l:List Line):List UInt8:=l.flatMap line1
theorem splitA_len:∀ (r w:List UInt8),(splitA w r).length <= r.length+1
 | [],w=>by cases w <;> simp [splitA]
 | c :: r,w=>by
  unfold splitA
  split
  ·have:=splitA_len r []; simp; omega
  ·have:=splitA_len r (w++[c]); simp; omega
theorem joinL_splitA:∀ (r w:List UInt8),joinL (splitA w r)=w++r
 | [],w=>by cases w <;> simp [splitA,joinL,line1]
 | c :: r,w=>by
  unfold splitA
  split
  ·rename_i h
   have:=joinL_splitA r []
   simp only [joinL,List.flatMap_cons,line1] at *
   rw [this]
   simp [h]
  ·rw [joinL_splitA r (w++[c])]; simp
theorem joinL_splitL (s:List UInt8):joinL (splitL s)=s:=joinL_splitA s []
theorem splitA_cut:∀ (r w:List UInt8),(w ≠ []∨r ≠ [])->splitA w r=(w++(cutLf r).1,(cutLf r).2.2,()) :: splitL (cutLf r).2.1
 | [],w,h=>by
  cases w with
  | nil=>simp at h
  | cons a w=>simp [splitA,cutLf,splitL]
 | c :: r,w,_=>by
  unfold splitA cutLf
  split
  ·simp [splitL]
  ·rw [splitA_cut r (w++[c]) (.inl (by simp))]; simp
theorem splitL_cut {s:List UInt8} (h:s ≠ []):splitL s=((cutLf s).1,(cutLf s).2.2,()) :: splitL (cutLf s).2.1:=by
 have:=splitA_cut s [] (.inr h)
 simpa [splitL] using this
theorem splitL_nil:splitL []=[]:=rfl
theorem cutLf_short {r:List UInt8} (h:r ≠ []):(cutLf r).2.1.length < r.length:=by
 have hg:∀ r:List UInt8,(cutLf r).2.1.length <= r.length:=by
  intro r
  induction r with
  | nil=>simp [cutLf]
  | cons c r ih=>unfold cutLf; split <;> simp <;> omega
 cases r with
 | nil=>exact absurd rfl h
 | cons c r =>
  have:=hg r
  unfold cutLf; split <;> simp <;> omega
end Go.Dec
