/- Part of a proof over this seat: a library of my own, and what it says of this seat. No statement is proved here. -/
import Derived.Test.YthhbdkdofhhoeaaGreatDoorPartBI
namespace Go.Dec
open Go.Proofs
set_option linter.unusedVariables false
def ref04_inAn (n : Nat) : An (Dens ref04_inR) := (.mk .nil (.mk (.mk .nil (.mk (.loop ⟨17, [⟨0, false, [.v .str]⟩, ⟨1, false, [.v (.int .u8)]⟩, ⟨5, false, [.v (.int .i64)]⟩], []⟩ [.keep [true, true, false, false, false, true], .gcA 0, .gcA 0] [.keep [true, true, false, false, false, true], .gcA 0, .gcA 0] n .nil) .nil []) []) .nil []) [])
theorem ref04_in_pure (n : Nat) : Pure Tryz.prog 138 ref04_inA ref04_inR (ref04_in n) :=
  pure_of (Γ := orcG _ [] []) (an := ref04_inAn n) Tryz.func138 rfl (by kernel_rfl) tab_ok (orcG_ok (all_nil) (alg_nil)) mixed (plain_ok _ _ rfl) (fun x => by kernel_rfl)
end Go.Dec
