/- Part of a proof over this seat: a library of my own, and what it says of this seat. No statement is proved here. -/
import Derived.Lib.IndexMore
import Derived.Lib.Index
import Derived.Test.YtfpipcafiocdoaaGreatDoorPartAK
import Derived.IntWalk
namespace Go.Dec
def bQ : List UInt8 -> List UInt8 × List UInt8 × Bool
 | [] => ([],[],false)
 | b :: r => if b = 10 then ([],r,true) else (b :: (bQ r).1,(bQ r).2.1,(bQ r).2.2)
theorem zEq : ∀ s : List UInt8,Go.Lib.cut s [10] = bQ s
 | [] => by simp [Go.Lib.cut,Go.Lib.index,bQ]
 | b :: r => by
  have ih:=zEq r
  have hge:=Go.Lib.index_ge r [10]
  by_cases hb : b = 10
  ·subst hb
   have hx : Go.Lib.index ((10 : UInt8) :: r) [10] = 0:=by simp [Go.Lib.index]
   simp [Go.Lib.cut,bQ,hx]
  ·have h1 : ([10] : List UInt8).isPrefixOf (b :: r) = false:=by simp [List.isPrefixOf,Ne.symm hb]
   have hx : Go.Lib.index (b :: r) [10] = if Go.Lib.index r [10] = -1 then -1 else Go.Lib.index r [10] + 1:=by simp [Go.Lib.index,h1]
   unfold Go.Lib.cut at *
   simp only [bQ,if_neg hb,<- ih,hx]
   by_cases hi : Go.Lib.index r [10] = -1
   ·simp [hi]
   ·have h2 : 0 <= Go.Lib.index r [10]:=by omega
    have h3 : 0 <= Go.Lib.index r [10] + 1:=by omega
    have h4 : (Go.Lib.index r [10] + 1).toNat = (Go.Lib.index r [10]).toNat + 1:=by omega
    simp [hi,h2,h3,h4]
end Go.Dec
namespace Go.Dec
@[simp] theorem zOg {ρ : Type} (x y : Option ρ) : br true x y = x:=rfl
@[simp] theorem Ci {ρ : Type} (x y : Option ρ) : br false x y = y:=rfl
@[simp] theorem gZ {α ρ : Type} (a : α) (k : α -> Option ρ) : ob (some a) k = k a:=rfl
@[simp] theorem zWf {ρ : Type} (x : Option ρ) : chk true x = x:=rfl
end Go.Dec
namespace Go.Dec
theorem vB {ρ α : Type} (B : (α -> Option ρ) -> α -> Option ρ) (n : Nat) (x : α) : fix B (n + 1) x = B (fix B n) x:=rfl
theorem dM {ρ α : Type} {B : (α -> Option ρ) -> α -> Option ρ} {n : Nat} {x : α} (h : 0 < n) : fix B n x = B (fix B (n - 1)) x:=by
 cases n with
 | zero => omega
 | succ n => rfl
theorem jK {x : Int} (h : -9223372036854775808 <= x) (h2 : x <= 9223372036854775807) : IntKind.wrap .i64 x = x:=IntWalk.i64_in x ⟨h,h2⟩
theorem zBr {i : Int} {n : Nat} (h : 0 <= i) (h2 : i < n) : inB i n = true:=by simp [inB,h,h2]
theorem iP {i n : Nat} (h : i < n) : inB (i : Int) n = true:=zBr (by omega) (by omega)
abbrev Line:=List UInt8 × Bool × Unit
def gH : List UInt8 -> List UInt8 -> List Line
 | w,[] => match w with
  | [] => []
  | _ => [(w,false,())]
 | w,c :: r => if c = 10 then (w,true,()) :: gH [] r else gH (w ++ [c]) r
def bV (s : List UInt8) : List Line:=gH [] s
def zBs (l : Line) : List UInt8:=l.1 ++ (if l.2.1 then [10] else [])
def joinL (l : List Line) : List UInt8:=l.flatMap zBs
theorem zA : ∀ (r w : List UInt8),(gH w r).length <= r.length + 1
 | [],w => by cases w <;> simp [gH]
 | c :: r,w => by
  unfold gH
  split
  ·have:=zA r []; simp; omega
  ·have:=zA r (w ++ [c]); simp; omega
theorem vC : ∀ (r w : List UInt8),joinL (gH w r) = w ++ r
 | [],w => by cases w <;> simp [gH,joinL,zBs]
 | c :: r,w => by
  unfold gH
  split
  ·rename_i h
   have:=vC r []
   simp only [joinL,List.flatMap_cons,zBs] at *
   rw [this]
   simp [h]
  ·rw [vC r (w ++ [c])]; simp
theorem Ub (s : List UInt8) : joinL (bV s) = s:=vC s []
theorem Jv : ∀ (r w : List UInt8),(w ≠ [] ∨ r ≠ []) -> gH w r = (w ++ (bQ r).1,(bQ r).2.2,()) :: bV (bQ r).2.1
 | [],w,h => by
  cases w with
  | nil => simp at h
  | cons a w => simp [gH,bQ,bV]
 | c :: r,w,_ => by
  unfold gH bQ
  split
  ·simp [bV]
  ·rw [Jv r (w ++ [c]) (.inl (by simp))]; simp
theorem Jw {s : List UInt8} (h : s ≠ []) : bV s = ((bQ s).1,(bQ s).2.2,()) :: bV (bQ s).2.1:=by
 have:=Jv s [] (.inr h)
 simpa [bV] using this
theorem zBt : bV [] = []:=rfl
theorem Fv {r : List UInt8} (h : r ≠ []) : (bQ r).2.1.length < r.length:=by
 have hg : ∀ r : List UInt8,(bQ r).2.1.length <= r.length:=by
  intro r
  induction r with
  | nil => simp [bQ]
  | cons c r ih => unfold bQ; split <;> simp <;> omega
 cases r with
 | nil => exact absurd rfl h
 | cons c r =>
  have:=hg r
  unfold bQ; split <;> simp <;> omega
end Go.Dec
