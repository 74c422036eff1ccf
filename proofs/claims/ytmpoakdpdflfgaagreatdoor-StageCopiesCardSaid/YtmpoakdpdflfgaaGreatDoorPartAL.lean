/- Part of a proof over this seat: a library of my own, and what it says of this seat. No statement is proved here. -/
import Derived.Lib.IndexMore
import Derived.Lib.Index
import Derived.Test.YtmpoakdpdflfgaaGreatDoorPartAK
import Derived.IntWalk
namespace Go.Dec
def bT : List UInt8 -> List UInt8 × List UInt8 × Bool
 | [] => ([],[],false)
 | b :: r => if b = 10 then ([],r,true) else (b :: (bT r).1,(bT r).2.1,(bT r).2.2)
theorem zLu : ∀ s : List UInt8,Go.Lib.cut s [10] = bT s
 | [] => by simp [Go.Lib.cut,Go.Lib.index,bT]
 | b :: r => by
  have ih:=zLu r
  have hge:=Go.Lib.index_ge r [10]
  by_cases hb : b = 10
  ·subst hb
   have hx : Go.Lib.index ((10 : UInt8) :: r) [10] = 0:=by simp [Go.Lib.index]
   simp [Go.Lib.cut,bT,hx]
  ·have h1 : ([10] : List UInt8).isPrefixOf (b :: r) = false:=by simp [List.isPrefixOf,Ne.symm hb]
   have hx : Go.Lib.index (b :: r) [10] = if Go.Lib.index r [10] = -1 then -1 else Go.Lib.index r [10] + 1:=by simp [Go.Lib.index,h1]
   unfold Go.Lib.cut at *
   simp only [bT,if_neg hb,<- ih,hx]
   by_cases hi : Go.Lib.index r [10] = -1
   ·simp [hi]
   ·have h2 : 0 <= Go.Lib.index r [10]:=by omega
    have h3 : 0 <= Go.Lib.index r [10] + 1:=by omega
    have h4 : (Go.Lib.index r [10] + 1).toNat = (Go.Lib.index r [10]).toNat + 1:=by omega
    simp [hi,h2,h3,h4]
end Go.Dec
namespace Go.Dec
@[simp] theorem zVy {ρ : Type} (x y : Option ρ) : br true x y = x:=rfl
@[simp] theorem zIg {ρ : Type} (x y : Option ρ) : br false x y = y:=rfl
@[simp] theorem iM {α ρ : Type} (a : α) (k : α -> Option ρ) : ob (some a) k = k a:=rfl
@[simp] theorem yCe {ρ : Type} (x : Option ρ) : chk true x = x:=rfl
end Go.Dec
namespace Go.Dec
theorem eH {ρ α : Type} {B : (α -> Option ρ) -> α -> Option ρ} {n : Nat} {x : α} (h : 0 < n) : fix B n x = B (fix B (n - 1)) x:=by
 cases n with
 | zero => omega
 | succ n => rfl
theorem tO {x : Int} (h : -9223372036854775808 <= x) (h2 : x <= 9223372036854775807) : IntKind.wrap .i64 x = x:=IntWalk.i64_in x ⟨h,h2⟩
theorem zIh {i : Int} {n : Nat} (h : 0 <= i) (h2 : i < n) : inB i n = true:=by simp [inB,h,h2]
theorem zPj {i n : Nat} (h : i < n) : inB (i : Int) n = true:=zIh (by omega) (by omega)
abbrev Line:=List UInt8 × Bool × Unit
def eO : List UInt8 -> List UInt8 -> List Line
 | w,[] => match w with
  | [] => []
  | _ => [(w,false,())]
 | w,c :: r => if c = 10 then (w,true,()) :: eO [] r else eO (w ++ [c]) r
def aM (s : List UInt8) : List Line:=eO [] s
def Qm (l : Line) : List UInt8:=l.1 ++ (if l.2.1 then [10] else [])
def joinL (l : List Line) : List UInt8:=l.flatMap Qm
theorem kZ : ∀ (r w : List UInt8),(eO w r).length <= r.length + 1
 | [],w => by cases w <;> simp [eO]
 | c :: r,w => by
  unfold eO
  split
  ·have:=kZ r []; simp; omega
  ·have:=kZ r (w ++ [c]); simp; omega
theorem xP : ∀ (r w : List UInt8),joinL (eO w r) = w ++ r
 | [],w => by cases w <;> simp [eO,joinL,Qm]
 | c :: r,w => by
  unfold eO
  split
  ·rename_i h
   have:=xP r []
   simp only [joinL,List.flatMap_cons,Qm] at *
   rw [this]
   simp [h]
  ·rw [xP r (w ++ [c])]; simp
theorem xQ (s : List UInt8) : joinL (aM s) = s:=xP s []
theorem Qn : ∀ (r w : List UInt8),(w ≠ [] ∨ r ≠ []) -> eO w r = (w ++ (bT r).1,(bT r).2.2,()) :: aM (bT r).2.1
 | [],w,h => by
  cases w with
  | nil => simp at h
  | cons a w => simp [eO,bT,aM]
 | c :: r,w,_ => by
  unfold eO bT
  split
  ·simp [aM]
  ·rw [Qn r (w ++ [c]) (.inl (by simp))]; simp
theorem Qo {s : List UInt8} (h : s ≠ []) : aM s = ((bT s).1,(bT s).2.2,()) :: aM (bT s).2.1:=by
 have:=Qn s [] (.inr h)
 simpa [aM] using this
theorem zIi : aM [] = []:=rfl
theorem Mc {r : List UInt8} (h : r ≠ []) : (bT r).2.1.length < r.length:=by
 have hg : ∀ r : List UInt8,(bT r).2.1.length <= r.length:=by
  intro r
  induction r with
  | nil => simp [bT]
  | cons c r ih => unfold bT; split <;> simp <;> omega
 cases r with
 | nil => exact absurd rfl h
 | cons c r =>
  have:=hg r
  unfold bT; split <;> simp <;> omega
end Go.Dec
