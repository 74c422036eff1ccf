/- Part of a proof over this seat: a library of my own, and what it says of this seat. No statement is proved here. -/
import Derived.Lib.IndexMore
import Derived.Lib.Index
import Derived.Test.YtmpoakdpdflfgaaGreatDoorPartAK
import Derived.IntWalk
namespace Go.Dec
def bM : List UInt8 -> List UInt8 × List UInt8 × Bool
 | [] => ([], [], false)
 | b :: r => if b = 10 then ([], r, true) else (b :: (bM r).1, (bM r).2.1, (bM r).2.2)
theorem zEp : ∀ s : List UInt8, Go.Lib.cut s [10] = bM s
 | [] => by simp [Go.Lib.cut, Go.Lib.index, bM]
 | b :: r => by
  have ih := zEp r
  have hge := Go.Lib.index_ge r [10]
  by_cases hb : b = 10
  ·subst hb
   have hx : Go.Lib.index ((10 : UInt8) :: r) [10] = 0 := by simp [Go.Lib.index]
   simp [Go.Lib.cut, bM, hx]
  ·have h1 : ([10] : List UInt8).isPrefixOf (b :: r) = false := by simp [List.isPrefixOf, Ne.symm hb]
   have hx : Go.Lib.index (b :: r) [10] = if Go.Lib.index r [10] = -1 then -1 else Go.Lib.index r [10] + 1 := by simp [Go.Lib.index, h1]
   unfold Go.Lib.cut at *
   simp only [bM, if_neg hb, <- ih, hx]
   by_cases hi : Go.Lib.index r [10] = -1
   ·simp [hi]
   ·have h2 : 0 <= Go.Lib.index r [10] := by omega
    have h3 : 0 <= Go.Lib.index r [10] + 1 := by omega
    have h4 : (Go.Lib.index r [10] + 1).toNat = (Go.Lib.index r [10]).toNat + 1 := by omega
    simp [hi, h2, h3, h4]
end Go.Dec
namespace Go.Dec
@[simp] theorem zHd {ρ : Type} (x y : Option ρ) : br true x y = x := rfl
@[simp] theorem zMq {ρ : Type} (x y : Option ρ) : br false x y = y := rfl
@[simp] theorem iQ {α ρ : Type} (a : α) (k : α -> Option ρ) : ob (some a) k = k a := rfl
@[simp] theorem zRl {ρ : Type} (x : Option ρ) : chk true x = x := rfl
end Go.Dec
namespace Go.Dec
theorem qD {ρ α : Type} {B : (α -> Option ρ) -> α -> Option ρ} {n : Nat} {x : α} (h : 0 < n) : fix B n x = B (fix B (n - 1)) x := by
 cases n with
 | zero => omega
 | succ n => rfl
theorem lT {x : Int} (h : -9223372036854775808 <= x) (h2 : x <= 9223372036854775807) : IntKind.wrap .i64 x = x := IntWalk.i64_in x ⟨h, h2⟩
theorem zIu {i : Int} {n : Nat} (h : 0 <= i) (h2 : i < n) : inB i n = true := by simp [inB, h, h2]
theorem Ib {i n : Nat} (h : i < n) : inB (i : Int) n = true := zIu (by omega) (by omega)
abbrev Line := List UInt8 × Bool × Unit
def fV : List UInt8 -> List UInt8 -> List Line
 | w, [] => match w with
  | [] => []
  | _ => [(w, false, ())]
 | w, c :: r => if c = 10 then (w, true, ()) :: fV [] r else fV (w ++ [c]) r
def bR (s : List UInt8) : List Line := fV [] s
def zBp (l : Line) : List UInt8 := l.1 ++ (if l.2.1 then [10] else [])
def joinL (l : List Line) : List UInt8 := l.flatMap zBp
theorem zK : ∀ (r w : List UInt8), (fV w r).length <= r.length + 1
 | [], w => by cases w <;> simp [fV]
 | c :: r, w => by
  unfold fV
  split
  ·have := zK r []; simp; omega
  ·have := zK r (w ++ [c]); simp; omega
theorem vF : ∀ (r w : List UInt8), joinL (fV w r) = w ++ r
 | [], w => by cases w <;> simp [fV, joinL, zBp]
 | c :: r, w => by
  unfold fV
  split
  ·rename_i h
   have := vF r []
   simp only [joinL, List.flatMap_cons, zBp] at *
   rw [this]
   simp [h]
  ·rw [vF r (w ++ [c])]; simp
theorem Vg (s : List UInt8) : joinL (bR s) = s := vF s []
theorem Kl : ∀ (r w : List UInt8), (w ≠ [] ∨ r ≠ []) -> fV w r = (w ++ (bM r).1, (bM r).2.2, ()) :: bR (bM r).2.1
 | [], w, h => by
  cases w with
  | nil => simp at h
  | cons a w => simp [fV, bM, bR]
 | c :: r, w, _ => by
  unfold fV bM
  split
  ·simp [bR]
  ·rw [Kl r (w ++ [c]) (.inl (by simp))]; simp
theorem Km {s : List UInt8} (h : s ≠ []) : bR s = ((bM s).1, (bM s).2.2, ()) :: bR (bM s).2.1 := by
 have := Kl s [] (.inr h)
 simpa [bR] using this
theorem zBq : bR [] = [] := rfl
theorem Gs {r : List UInt8} (h : r ≠ []) : (bM r).2.1.length < r.length := by
 have hg : ∀ r : List UInt8, (bM r).2.1.length <= r.length := by
  intro r
  induction r with
  | nil => simp [bM]
  | cons c r ih => unfold bM; split <;> simp <;> omega
 cases r with
 | nil => exact absurd rfl h
 | cons c r =>
  have := hg r
  unfold bM; split <;> simp <;> omega
end Go.Dec
