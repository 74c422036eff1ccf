/- Part of a proof over this seat: a library of my own, and what it says of this seat. No statement is proved here. -/
import Derived.Lib.IndexMore
import Derived.Lib.Index
import Derived.Test.YtfpipcafiocdoaaGreatDoorPartAK
import Derived.IntWalk
namespace Go.Dec
def bQ : List UInt8 -> List UInt8 × List UInt8 × Bool
 | [] => ([], [], false)
 | b :: r => if b = 10 then ([], r, true) else (b :: (bQ r).1, (bQ r).2.1, (bQ r).2.2)
theorem zCi : ∀ s : List UInt8, Go.Lib.cut s [10] = bQ s
 | [] => by simp [Go.Lib.cut, Go.Lib.index, bQ]
 | b :: r => by
  have ih := zCi r
  have hge := Go.Lib.index_ge r [10]
  by_cases hb : b = 10
  ·subst hb
   have hx : Go.Lib.index ((10 : UInt8) :: r) [10] = 0 := by simp [Go.Lib.index]
   simp [Go.Lib.cut, bQ, hx]
  ·have h1 : ([10] : List UInt8).isPrefixOf (b :: r) = false := by simp [List.isPrefixOf, Ne.symm hb]
   have hx : Go.Lib.index (b :: r) [10] = if Go.Lib.index r [10] = -1 then -1 else Go.Lib.index r [10] + 1 := by simp [Go.Lib.index, h1]
   unfold Go.Lib.cut at *
   simp only [bQ, if_neg hb, <- ih, hx]
   by_cases hi : Go.Lib.index r [10] = -1
   ·simp [hi]
   ·have h2 : 0 <= Go.Lib.index r [10] := by omega
    have h3 : 0 <= Go.Lib.index r [10] + 1 := by omega
    have h4 : (Go.Lib.index r [10] + 1).toNat = (Go.Lib.index r [10]).toNat + 1 := by omega
    simp [hi, h2, h3, h4]
end Go.Dec
namespace Go.Dec
@[simp] theorem zLo {ρ : Type} (x y : Option ρ) : br true x y = x := rfl
@[simp] theorem Ez {ρ : Type} (x y : Option ρ) : br false x y = y := rfl
@[simp] theorem kH {α ρ : Type} (a : α) (k : α -> Option ρ) : ob (some a) k = k a := rfl
@[simp] theorem zTg {ρ : Type} (x : Option ρ) : chk true x = x := rfl
end Go.Dec
namespace Go.Dec
theorem xV {ρ α : Type} (B : (α -> Option ρ) -> α -> Option ρ) (n : Nat) (x : α) : fix B (n + 1) x = B (fix B n) x := rfl
theorem wI {ρ α : Type} {B : (α -> Option ρ) -> α -> Option ρ} {n : Nat} {x : α} (h : 0 < n) : fix B n x = B (fix B (n - 1)) x := by
 cases n with
 | zero => omega
 | succ n => rfl
theorem qA {x : Int} (h : -9223372036854775808 <= x) (h2 : x <= 9223372036854775807) : IntKind.wrap .i64 x = x := IntWalk.i64_in x ⟨h, h2⟩
theorem zGr {i : Int} {n : Nat} (h : 0 <= i) (h2 : i < n) : inB i n = true := by simp [inB, h, h2]
theorem Fa {i n : Nat} (h : i < n) : inB (i : Int) n = true := zGr (by omega) (by omega)
abbrev Line := List UInt8 × Bool × Unit
def fU : List UInt8 -> List UInt8 -> List Line
 | w, [] => match w with
  | [] => []
  | _ => [(w, false, ())]
 | w, c :: r => if c = 10 then (w, true, ()) :: fU [] r else fU (w ++ [c]) r
def bU (s : List UInt8) : List Line := fU [] s
def Zn (l : Line) : List UInt8 := l.1 ++ (if l.2.1 then [10] else [])
def joinL (l : List Line) : List UInt8 := l.flatMap Zn
theorem xW : ∀ (r w : List UInt8), (fU w r).length <= r.length + 1
 | [], w => by cases w <;> simp [fU]
 | c :: r, w => by
  unfold fU
  split
  ·have := xW r []; simp; omega
  ·have := xW r (w ++ [c]); simp; omega
theorem tY : ∀ (r w : List UInt8), joinL (fU w r) = w ++ r
 | [], w => by cases w <;> simp [fU, joinL, Zn]
 | c :: r, w => by
  unfold fU
  split
  ·rename_i h
   have := tY r []
   simp only [joinL, List.flatMap_cons, Zn] at *
   rw [this]
   simp [h]
  ·rw [tY r (w ++ [c])]; simp
theorem Sy (s : List UInt8) : joinL (bU s) = s := tY s []
theorem Ii : ∀ (r w : List UInt8), (w ≠ [] ∨ r ≠ []) -> fU w r = (w ++ (bQ r).1, (bQ r).2.2, ()) :: bU (bQ r).2.1
 | [], w, h => by
  cases w with
  | nil => simp at h
  | cons a w => simp [fU, bQ, bU]
 | c :: r, w, _ => by
  unfold fU bQ
  split
  ·simp [bU]
  ·rw [Ii r (w ++ [c]) (.inl (by simp))]; simp
theorem Ij {s : List UInt8} (h : s ≠ []) : bU s = ((bQ s).1, (bQ s).2.2, ()) :: bU (bQ s).2.1 := by
 have := Ii s [] (.inr h)
 simpa [bU] using this
theorem Zo : bU [] = [] := rfl
theorem Ec {r : List UInt8} (h : r ≠ []) : (bQ r).2.1.length < r.length := by
 have hg : ∀ r : List UInt8, (bQ r).2.1.length <= r.length := by
  intro r
  induction r with
  | nil => simp [bQ]
  | cons c r ih => unfold bQ; split <;> simp <;> omega
 cases r with
 | nil => exact absurd rfl h
 | cons c r =>
  have := hg r
  unfold bQ; split <;> simp <;> omega
end Go.Dec
