/- Part of a proof over this seat: a library of my own, and what it says of this seat. No statement is proved here. -/
import Derived.Lib.IndexMore
import Derived.Lib.Index
import Derived.Test.YtfpipcafiocdoaaGreatDoorPartAK
import Derived.IntWalk
namespace Go.Dec
def bS : List UInt8 -> List UInt8 × List UInt8 × Bool
 | [] => ([],[],false)
 | b :: r => if b = 10 then ([],r,true) else (b :: (bS r).1,(bS r).2.1,(bS r).2.2)
theorem zFt : ∀ s : List UInt8,Go.Lib.cut s [10] = bS s
 | [] => by simp [Go.Lib.cut,Go.Lib.index,bS]
 | b :: r => by
  have ih:=zFt r
  have hge:=Go.Lib.index_ge r [10]
  by_cases hb : b = 10
  ·subst hb
   have hx : Go.Lib.index ((10 : UInt8) :: r) [10] = 0:=by simp [Go.Lib.index]
   simp [Go.Lib.cut,bS,hx]
  ·have h1 : ([10] : List UInt8).isPrefixOf (b :: r) = false:=by simp [List.isPrefixOf,Ne.symm hb]
   have hx : Go.Lib.index (b :: r) [10] = if Go.Lib.index r [10] = -1 then -1 else Go.Lib.index r [10] + 1:=by simp [Go.Lib.index,h1]
   unfold Go.Lib.cut at *
   simp only [bS,if_neg hb,<- ih,hx]
   by_cases hi : Go.Lib.index r [10] = -1
   ·simp [hi]
   ·have h2 : 0 <= Go.Lib.index r [10]:=by omega
    have h3 : 0 <= Go.Lib.index r [10] + 1:=by omega
    have h4 : (Go.Lib.index r [10] + 1).toNat = (Go.Lib.index r [10]).toNat + 1:=by omega
    simp [hi,h2,h3,h4]
end Go.Dec
namespace Go.Dec
@[simp] theorem zPk {ρ : Type} (x y : Option ρ) : br true x y = x:=rfl
@[simp] theorem Db {ρ : Type} (x y : Option ρ) : br false x y = y:=rfl
@[simp] theorem gH {α ρ : Type} (a : α) (k : α -> Option ρ) : ob (some a) k = k a:=rfl
@[simp] theorem zXl {ρ : Type} (x : Option ρ) : chk true x = x:=rfl
end Go.Dec
namespace Go.Dec
theorem vI {ρ α : Type} (B : (α -> Option ρ) -> α -> Option ρ) (n : Nat) (x : α) : fix B (n + 1) x = B (fix B n) x:=rfl
theorem bU {ρ α : Type} {B : (α -> Option ρ) -> α -> Option ρ} {n : Nat} {x : α} (h : 0 < n) : fix B n x = B (fix B (n - 1)) x:=by
 cases n with
 | zero => omega
 | succ n => rfl
theorem fZ {x : Int} (h : -9223372036854775808 <= x) (h2 : x <= 9223372036854775807) : IntKind.wrap .i64 x = x:=IntWalk.i64_in x ⟨h,h2⟩
theorem zCr {i : Int} {n : Nat} (h : 0 <= i) (h2 : i < n) : inB i n = true:=by simp [inB,h,h2]
theorem eZ {i n : Nat} (h : i < n) : inB (i : Int) n = true:=zCr (by omega) (by omega)
abbrev Line:=List UInt8 × Bool × Unit
def gV : List UInt8 -> List UInt8 -> List Line
 | w,[] => match w with
  | [] => []
  | _ => [(w,false,())]
 | w,c :: r => if c = 10 then (w,true,()) :: gV [] r else gV (w ++ [c]) r
def bX (s : List UInt8) : List Line:=gV [] s
def zCs (l : Line) : List UInt8:=l.1 ++ (if l.2.1 then [10] else [])
def joinL (l : List Line) : List UInt8:=l.flatMap zCs
theorem zJ : ∀ (r w : List UInt8),(gV w r).length <= r.length + 1
 | [],w => by cases w <;> simp [gV]
 | c :: r,w => by
  unfold gV
  split
  ·have:=zJ r []; simp; omega
  ·have:=zJ r (w ++ [c]); simp; omega
theorem vJ : ∀ (r w : List UInt8),joinL (gV w r) = w ++ r
 | [],w => by cases w <;> simp [gV,joinL,zCs]
 | c :: r,w => by
  unfold gV
  split
  ·rename_i h
   have:=vJ r []
   simp only [joinL,List.flatMap_cons,zCs] at *
   rw [this]
   simp [h]
  ·rw [vJ r (w ++ [c])]; simp
theorem Wi (s : List UInt8) : joinL (bX s) = s:=vJ s []
theorem La : ∀ (r w : List UInt8),(w ≠ [] ∨ r ≠ []) -> gV w r = (w ++ (bS r).1,(bS r).2.2,()) :: bX (bS r).2.1
 | [],w,h => by
  cases w with
  | nil => simp at h
  | cons a w => simp [gV,bS,bX]
 | c :: r,w,_ => by
  unfold gV bS
  split
  ·simp [bX]
  ·rw [La r (w ++ [c]) (.inl (by simp))]; simp
theorem Lb {s : List UInt8} (h : s ≠ []) : bX s = ((bS s).1,(bS s).2.2,()) :: bX (bS s).2.1:=by
 have:=La s [] (.inr h)
 simpa [bX] using this
theorem zCt : bX [] = []:=rfl
theorem Gx {r : List UInt8} (h : r ≠ []) : (bS r).2.1.length < r.length:=by
 have hg : ∀ r : List UInt8,(bS r).2.1.length <= r.length:=by
  intro r
  induction r with
  | nil => simp [bS]
  | cons c r ih => unfold bS; split <;> simp <;> omega
 cases r with
 | nil => exact absurd rfl h
 | cons c r =>
  have:=hg r
  unfold bS; split <;> simp <;> omega
end Go.Dec
