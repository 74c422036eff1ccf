/- Part of a proof over this seat: a library of my own, and what it says of this seat. No statement is proved here. -/
import Derived.Lib.IndexMore
import Derived.Lib.Index
import Derived.Test.YtlimifngdjkogaaGreatDoorPartAO
import Derived.IntWalk
namespace Go.Dec
def bP : List UInt8 -> List UInt8 × List UInt8 × Bool
 | [] => ([], [], false)
 | b :: r => if b = 10 then ([], r, true) else (b :: (bP r).1, (bP r).2.1, (bP r).2.2)
theorem Zq : ∀ s : List UInt8, Go.Lib.cut s [10] = bP s
 | [] => by simp [Go.Lib.cut, Go.Lib.index, bP]
 | b :: r => by
  have ih := Zq r
  have hge := Go.Lib.index_ge r [10]
  by_cases hb : b = 10
  ·subst hb
   have hx : Go.Lib.index ((10 : UInt8) :: r) [10] = 0 := by simp [Go.Lib.index]
   simp [Go.Lib.cut, bP, hx]
  ·have h1 : ([10] : List UInt8).isPrefixOf (b :: r) = false := by simp [List.isPrefixOf, Ne.symm hb]
   have hx : Go.Lib.index (b :: r) [10] = if Go.Lib.index r [10] = -1 then -1 else Go.Lib.index r [10] + 1 := by simp [Go.Lib.index, h1]
   unfold Go.Lib.cut at *
   simp only [bP, if_neg hb, <- ih, hx]
   by_cases hi : Go.Lib.index r [10] = -1
   ·simp [hi]
   ·have h2 : 0 <= Go.Lib.index r [10] := by omega
    have h3 : 0 <= Go.Lib.index r [10] + 1 := by omega
    have h4 : (Go.Lib.index r [10] + 1).toNat = (Go.Lib.index r [10]).toNat + 1 := by omega
    simp [hi, h2, h3, h4]
end Go.Dec
namespace Go.Dec
@[simp] theorem Wv {ρ : Type} (x y : Option ρ) : br true x y = x := rfl
@[simp] theorem Qa {ρ : Type} (x y : Option ρ) : br false x y = y := rfl
@[simp] theorem Qb {α ρ : Type} (a : α) (k : α -> Option ρ) : ob (some a) k = k a := rfl
@[simp] theorem zKs {ρ : Type} (x : Option ρ) : chk true x = x := rfl
end Go.Dec
namespace Go.Dec
theorem mK {ρ α : Type} {B : (α -> Option ρ) -> α -> Option ρ} {n : Nat} {x : α} (h : 0 < n) : fix B n x = B (fix B (n - 1)) x := by
 cases n with
 | zero => omega
 | succ n => rfl
theorem jJ {x : Int} (h : -9223372036854775808 <= x) (h2 : x <= 9223372036854775807) : IntKind.wrap .i64 x = x := IntWalk.i64_in x ⟨h, h2⟩
theorem Ww {i : Int} {n : Nat} (h : 0 <= i) (h2 : i < n) : inB i n = true := by simp [inB, h, h2]
theorem uN {i n : Nat} (h : i < n) : inB (i : Int) n = true := Ww (by omega) (by omega)
abbrev Line := List UInt8 × Bool × Unit
def fG : List UInt8 -> List UInt8 -> List Line
 | w, [] => match w with
  | [] => []
  | _ => [(w, false, ())]
 | w, c :: r => if c = 10 then (w, true, ()) :: fG [] r else fG (w ++ [c]) r
def bS (s : List UInt8) : List Line := fG [] s
def Wx (l : Line) : List UInt8 := l.1 ++ (if l.2.1 then [10] else [])
def joinL (l : List Line) : List UInt8 := l.flatMap Wx
theorem wP : ∀ (r w : List UInt8), (fG w r).length <= r.length + 1
 | [], w => by cases w <;> simp [fG]
 | c :: r, w => by
  unfold fG
  split
  ·have := wP r []; simp; omega
  ·have := wP r (w ++ [c]); simp; omega
theorem sJ : ∀ (r w : List UInt8), joinL (fG w r) = w ++ r
 | [], w => by cases w <;> simp [fG, joinL, Wx]
 | c :: r, w => by
  unfold fG
  split
  ·rename_i h
   have := sJ r []
   simp only [joinL, List.flatMap_cons, Wx] at *
   rw [this]
   simp [h]
  ·rw [sJ r (w ++ [c])]; simp
theorem Qc (s : List UInt8) : joinL (bS s) = s := sJ s []
theorem Ev : ∀ (r w : List UInt8), (w ≠ [] ∨ r ≠ []) -> fG w r = (w ++ (bP r).1, (bP r).2.2, ()) :: bS (bP r).2.1
 | [], w, h => by
  cases w with
  | nil => simp at h
  | cons a w => simp [fG, bP, bS]
 | c :: r, w, _ => by
  unfold fG bP
  split
  ·simp [bS]
  ·rw [Ev r (w ++ [c]) (.inl (by simp))]; simp
theorem Ew {s : List UInt8} (h : s ≠ []) : bS s = ((bP s).1, (bP s).2.2, ()) :: bS (bP s).2.1 := by
 have := Ev s [] (.inr h)
 simpa [bS] using this
theorem Wy : bS [] = [] := rfl
theorem Bn {r : List UInt8} (h : r ≠ []) : (bP r).2.1.length < r.length := by
 have hg : ∀ r : List UInt8, (bP r).2.1.length <= r.length := by
  intro r
  induction r with
  | nil => simp [bP]
  | cons c r ih => unfold bP; split <;> simp <;> omega
 cases r with
 | nil => exact absurd rfl h
 | cons c r =>
  have := hg r
  unfold bP; split <;> simp <;> omega
end Go.Dec
