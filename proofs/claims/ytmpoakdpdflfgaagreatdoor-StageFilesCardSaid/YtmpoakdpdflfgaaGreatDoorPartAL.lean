/- Part of a proof over this seat: a library of my own, and what it says of this seat. No statement is proved here. -/
import Derived.Lib.IndexMore
import Derived.Lib.Index
import Derived.Test.YtmpoakdpdflfgaaGreatDoorPartAK
import Derived.IntWalk
namespace Go.Dec
def bX:List UInt8 -> List UInt8 × List UInt8 × Bool
 | []=>([],[],false)
 | b :: r=>if b = 10 then ([],r,true) else (b :: (bX r).1,(bX r).2.1,(bX r).2.2)
theorem zLt:∀ s:List UInt8,Go.Lib.cut s [10] = bX s
 | []=>by simp [Go.Lib.cut,Go.Lib.index,bX]
 | b :: r=>by
  have ih:=zLt r
  have hge:=Go.Lib.index_ge r [10]
  by_cases hb:b = 10
  ·subst hb
   have hx:Go.Lib.index ((10:UInt8) :: r) [10] = 0:=by simp [Go.Lib.index]
   simp [Go.Lib.cut,bX,hx]
  ·have h1:([10]:List UInt8).isPrefixOf (b :: r) = false:=by simp [List.isPrefixOf,Ne.symm hb]
   have hx:Go.Lib.index (b :: r) [10] = if Go.Lib.index r [10] = -1 then -1 else Go.Lib.index r [10] + 1:=by simp [Go.Lib.index,h1]
   unfold Go.Lib.cut at *
   simp only [bX,if_neg hb,<- ih,hx]
   by_cases hi:Go.Lib.index r [10] = -1
   ·simp [hi]
   ·have h2:0 <= Go.Lib.index r [10]:=by omega
    have h3:0 <= Go.Lib.index r [10] + 1:=by omega
    have h4:(Go.Lib.index r [10] + 1).toNat = (Go.Lib.index r [10]).toNat + 1:=by omega
    simp [hi,h2,h3,h4]
end Go.Dec
namespace Go.Dec
@[simp] theorem zWb {ρ:Type} (x y:Option ρ):br true x y = x:=rfl
@[simp] theorem zIi {ρ:Type} (x y:Option ρ):br false x y = y:=rfl
@[simp] theorem gU {α ρ:Type} (a:α) (k:α -> Option ρ):ob (some a) k = k a:=rfl
@[simp] theorem yCh {ρ:Type} (x:Option ρ):chk true x = x:=rfl
end Go.Dec
namespace Go.Dec
theorem eH {ρ α:Type} {B:(α -> Option ρ) -> α -> Option ρ} {n:Nat} {x:α} (h:0 < n):fix B n x = B (fix B (n - 1)) x:=by
 cases n with
 | zero=>omega
 | succ n=>rfl
theorem nP {x:Int} (h:-9223372036854775808 <= x) (h2:x <= 9223372036854775807):IntKind.wrap .i64 x = x:=IntWalk.i64_in x ⟨h,h2⟩
theorem zIj {i:Int} {n:Nat} (h:0 <= i) (h2:i < n):inB i n = true:=by simp [inB,h,h2]
theorem zPj {i n:Nat} (h:i < n):inB (i:Int) n = true:=zIj (by omega) (by omega)
abbrev Line:=List UInt8 × Bool × Unit
def bZ:List UInt8 -> List UInt8 -> List Line
 | w,[]=>match w with
  | []=>[]
  | _=>[(w,false,())]
 | w,c :: r=>if c = 10 then (w,true,()) :: bZ [] r else bZ (w ++ [c]) r
def aH (s:List UInt8):List Line:=bZ [] s
def yU (l:Line):List UInt8:=l.1 ++ (if l.2.1 then [10] else [])
def joinL (l:List Line):List UInt8:=l.flatMap yU
theorem iQ:∀ (r w:List UInt8),(bZ w r).length <= r.length + 1
 | [],w=>by cases w <;> simp [bZ]
 | c :: r,w=>by
  unfold bZ
  split
  ·have:=iQ r []; simp; omega
  ·have:=iQ r (w ++ [c]); simp; omega
theorem xO:∀ (r w:List UInt8),joinL (bZ w r) = w ++ r
 | [],w=>by cases w <;> simp [bZ,joinL,yU]
 | c :: r,w=>by
  unfold bZ
  split
  ·rename_i h
   have:=xO r []
   simp only [joinL,List.flatMap_cons,yU] at *
   rw [this]
   simp [h]
  ·rw [xO r (w ++ [c])]; simp
theorem xP (s:List UInt8):joinL (aH s) = s:=xO s []
theorem Qm:∀ (r w:List UInt8),(w ≠ [] ∨ r ≠ []) -> bZ w r = (w ++ (bX r).1,(bX r).2.2,()) :: aH (bX r).2.1
 | [],w,h=>by
  cases w with
  | nil=>simp at h
  | cons a w=>simp [bZ,bX,aH]
 | c :: r,w,_=>by
  unfold bZ bX
  split
  ·simp [aH]
  ·rw [Qm r (w ++ [c]) (.inl (by simp))]; simp
theorem Di {s:List UInt8} (h:s ≠ []):aH s = ((bX s).1,(bX s).2.2,()) :: aH (bX s).2.1:=by
 have:=Qm s [] (.inr h)
 simpa [aH] using this
theorem Dj:aH [] = []:=rfl
theorem Mi {r:List UInt8} (h:r ≠ []):(bX r).2.1.length < r.length:=by
 have hg:∀ r:List UInt8,(bX r).2.1.length <= r.length:=by
  intro r
  induction r with
  | nil=>simp [bX]
  | cons c r ih=>unfold bX; split <;> simp <;> omega
 cases r with
 | nil=>exact absurd rfl h
 | cons c r =>
  have:=hg r
  unfold bX; split <;> simp <;> omega
end Go.Dec
