/- Part of a proof over this seat: a library of my own, and what it says of this seat. No statement is proved here. -/
import Derived.Lib.IndexMore
import Derived.Lib.Index
import Derived.Test.YtclpnkdjjhclnaaGreatDoorPartAO
import Derived.IntWalk
namespace Go.Dec
end Go.Dec
namespace Go.Dec
@[simp] theorem zHp {ρ : Type} (x y : Option ρ) : br true x y = x := rfl
@[simp] theorem Ku {ρ : Type} (x y : Option ρ) : br false x y = y := rfl
@[simp] theorem mP {α ρ : Type} (a : α) (k : α -> Option ρ) : ob (some a) k = k a := rfl
@[simp] theorem zKp {ρ : Type} (x : Option ρ) : chk true x = x := rfl
end Go.Dec
namespace Go.Dec
theorem dF {ρ α : Type} {B : (α -> Option ρ) -> α -> Option ρ} {n : Nat} {x : α} (h : 0 < n) : fix B n x = B (fix B (n - 1)) x := by
 cases n with
 | zero => omega
 | succ n => rfl
theorem nQ {x : Int} (h : -9223372036854775808 <= x) (h2 : x <= 9223372036854775807) : IntKind.wrap .i64 x = x := IntWalk.i64_in x ⟨h, h2⟩
theorem Xv {i : Int} {n : Nat} (h : 0 <= i) (h2 : i < n) : inB i n = true := by simp [inB, h, h2]
theorem kG {i n : Nat} (h : i < n) : inB (i : Int) n = true := Xv (by omega) (by omega)
end Go.Dec
