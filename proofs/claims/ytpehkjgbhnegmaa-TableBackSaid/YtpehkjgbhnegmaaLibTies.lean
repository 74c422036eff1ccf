/- That the library's code in this seat does what is said of it. No statement is proved here. -/
import Derived.Test.YtpehkjgbhnegmaaProg
import Derived.Test.YtpehkjgbhnegmaaLibFuns
import Derived.Test.YtpehkjgbhnegmaaShelf
import Derived.KernelRfl
namespace Go.Dec
open Go.Proofs

abbrev strings_CutA : List Ty := [.str, .str]
abbrev strings_CutR : List Ty := [.str, .str, .bool]
theorem strings_Cut_pure (n : Nat) : Pure Try.prog 44 strings_CutA strings_CutR (strings_Cut n) := by
  refine ⟨by kernel_rfl, fun x y hF w N xs hG _ hx => ?_⟩
  obtain ⟨hc, hy⟩ := chk_some hF
  have hc := of_decide_eq_true hc
  obtain rfl := Option.some.inj hy
  obtain ⟨u, us, rfl, h1, v, rfl, h2⟩ := hx
  simp only [Ty.VRel, Ty.isAgg, Bool.false_eq_true, if_false, Ty.Rel, List.cons.injEq, and_true] at h1 h2
  subst h1 h2
  obtain ⟨m, hm⟩ := hG 0 (Try.prog.globals[0]'(by decide +kernel)) (by rw [Array.getElem?_eq_getElem]) (by kernel_rfl)
  refine (Try.strings_Cut _ _ m w (by simpa [ByteArray.size] using hc) hm).mono ?_
  rintro e w' ⟨rfl, k, rfl⟩
  refine ⟨[_, _, _], rfl, rfl, rfl, rfl, ⟨Nat.le_refl _, fun _ _ _ => rfl⟩, ⟨_, _, rfl, ?_, _, _, rfl, ?_, _, rfl, ?_⟩⟩ <;> simp [Ty.VRel, Ty.isAgg, Ty.Rel]
end Go.Dec
