/- Part of a proof over this seat: a library of my own, and what it says of this seat. No statement is proved here. -/
import Derived.Lib.IndexMore
import Derived.Lib.Index
import Derived.Test.YtlimifngdjkogaaGreatDoorPartAO
import Derived.IntWalk
namespace Go.Dec
def bF : List UInt8 -> List UInt8 × List UInt8 × Bool
 | [] => ([], [], false)
 | b :: r => if b = 10 then ([], r, true) else (b :: (bF r).1, (bF r).2.1, (bF r).2.2)
theorem Zo : ∀ s : List UInt8, Go.Lib.cut s [10] = bF s
 | [] => by simp [Go.Lib.cut, Go.Lib.index, bF]
 | b :: r => by
  have ih := Zo r
  have hge := Go.Lib.index_ge r [10]
  by_cases hb : b = 10
  ·subst hb
   have hx : Go.Lib.index ((10 : UInt8) :: r) [10] = 0 := by simp [Go.Lib.index]
   simp [Go.Lib.cut, bF, hx]
  ·have h1 : ([10] : List UInt8).isPrefixOf (b :: r) = false := by simp [List.isPrefixOf, Ne.symm hb]
   have hx : Go.Lib.index (b :: r) [10] = if Go.Lib.index r [10] = -1 then -1 else Go.Lib.index r [10] + 1 := by simp [Go.Lib.index, h1]
   unfold Go.Lib.cut at *
   simp only [bF, if_neg hb, <- ih, hx]
   by_cases hi : Go.Lib.index r [10] = -1
   ·simp [hi]
   ·have h2 : 0 <= Go.Lib.index r [10] := by omega
    have h3 : 0 <= Go.Lib.index r [10] + 1 := by omega
    have h4 : (Go.Lib.index r [10] + 1).toNat = (Go.Lib.index r [10]).toNat + 1 := by omega
    simp [hi, h2, h3, h4]
end Go.Dec
namespace Go.Dec
@[simp] theorem zJi {ρ : Type} (x y : Option ρ) : br true x y = x := rfl
@[simp] theorem zBw {ρ : Type} (x y : Option ρ) : br false x y = y := rfl
@[simp] theorem zBx {α ρ : Type} (a : α) (k : α -> Option ρ) : ob (some a) k = k a := rfl
@[simp] theorem zKa {ρ : Type} (x : Option ρ) : chk true x = x := rfl
end Go.Dec
namespace Go.Dec
theorem iZ {ρ α : Type} {B : (α -> Option ρ) -> α -> Option ρ} {n : Nat} {x : α} (h : 0 < n) : fix B n x = B (fix B (n - 1)) x := by
 cases n with
 | zero => omega
 | succ n => rfl
theorem Fv {x : Int} (h : -9223372036854775808 <= x) (h2 : x <= 9223372036854775807) : IntKind.wrap .i64 x = x := IntWalk.i64_in x ⟨h, h2⟩
theorem zIf {i : Int} {n : Nat} (h : 0 <= i) (h2 : i < n) : inB i n = true := by simp [inB, h, h2]
theorem Dh {i n : Nat} (h : i < n) : inB (i : Int) n = true := zIf (by omega) (by omega)
abbrev Line := List UInt8 × Bool × Unit
def eH : List UInt8 -> List UInt8 -> List Line
 | w, [] => match w with
  | [] => []
  | _ => [(w, false, ())]
 | w, c :: r => if c = 10 then (w, true, ()) :: eH [] r else eH (w ++ [c]) r
def bK (s : List UInt8) : List Line := eH [] s
def Wt (l : Line) : List UInt8 := l.1 ++ (if l.2.1 then [10] else [])
def joinL (l : List Line) : List UInt8 := l.flatMap Wt
theorem wW : ∀ (r w : List UInt8), (eH w r).length <= r.length + 1
 | [], w => by cases w <;> simp [eH]
 | c :: r, w => by
  unfold eH
  split
  ·have := wW r []; simp; omega
  ·have := wW r (w ++ [c]); simp; omega
theorem rR : ∀ (r w : List UInt8), joinL (eH w r) = w ++ r
 | [], w => by cases w <;> simp [eH, joinL, Wt]
 | c :: r, w => by
  unfold eH
  split
  ·rename_i h
   have := rR r []
   simp only [joinL, List.flatMap_cons, Wt] at *
   rw [this]
   simp [h]
  ·rw [rR r (w ++ [c])]; simp
theorem Pz (s : List UInt8) : joinL (bK s) = s := rR s []
theorem Fz : ∀ (r w : List UInt8), (w ≠ [] ∨ r ≠ []) -> eH w r = (w ++ (bF r).1, (bF r).2.2, ()) :: bK (bF r).2.1
 | [], w, h => by
  cases w with
  | nil => simp at h
  | cons a w => simp [eH, bF, bK]
 | c :: r, w, _ => by
  unfold eH bF
  split
  ·simp [bK]
  ·rw [Fz r (w ++ [c]) (.inl (by simp))]; simp
theorem Ga {s : List UInt8} (h : s ≠ []) : bK s = ((bF s).1, (bF s).2.2, ()) :: bK (bF s).2.1 := by
 have := Fz s [] (.inr h)
 simpa [bK] using this
theorem Wu : bK [] = [] := rfl
theorem Cj {r : List UInt8} (h : r ≠ []) : (bF r).2.1.length < r.length := by
 have hg : ∀ r : List UInt8, (bF r).2.1.length <= r.length := by
  intro r
  induction r with
  | nil => simp [bF]
  | cons c r ih => unfold bF; split <;> simp <;> omega
 cases r with
 | nil => exact absurd rfl h
 | cons c r =>
  have := hg r
  unfold bF; split <;> simp <;> omega
end Go.Dec
