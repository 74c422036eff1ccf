/- Part of a proof over this seat. No statement is proved here. -/
import Derived.Test.YtpehkjgbhnegmaaProg
import Derived.Test.YtpehkjgbhnegmaaDecT
import Derived.Test.YtpehkjgbhnegmaaShelf
import Derived.KernelRfl
namespace Go.Dec
open Go.Proofs

abbrev f44A : List Ty := [.str, .str]
abbrev f44R : List Ty := [.str, .str, .bool]
def f44 (_n : Nat) (x : Dens f44A) : Option (Dens f44R) := chk (decide (x.1.length < 4294967281)) (some (Go.Lib.cut x.1 x.2))
theorem f44_pure (n : Nat) : Pure Try.prog 44 f44A f44R (f44 n) := by
  refine ⟨by kernel_rfl, fun x y hF w N xs hG _ hx => ?_⟩
  obtain ⟨hc, hy⟩ := chk_some hF
  have hc := of_decide_eq_true hc
  obtain rfl := Option.some.inj hy
  obtain ⟨u, us, rfl, h1, v, rfl, h2⟩ := hx
  simp only [Ty.VRel, Ty.isAgg, Bool.false_eq_true, if_false, Ty.Rel, List.cons.injEq, and_true] at h1 h2
  subst h1 h2
  obtain ⟨m, hm⟩ := hG 0 (Try.prog.globals[0]'(by decide +kernel)) (by rw [Array.getElem?_eq_getElem]) (by kernel_rfl)
  refine (Try.strings_Cut _ _ m w (by simpa [ByteArray.size] using hc) hm).mono ?_
  rintro e w' ⟨rfl, k, rfl⟩
  refine ⟨[_, _, _], rfl, rfl, rfl, rfl, ⟨Nat.le_refl _, fun _ _ _ => rfl⟩, ⟨_, _, rfl, ?_, _, _, rfl, ?_, _, rfl, ?_⟩⟩ <;> simp [Ty.VRel, Ty.isAgg, Ty.Rel]
end Go.Dec
