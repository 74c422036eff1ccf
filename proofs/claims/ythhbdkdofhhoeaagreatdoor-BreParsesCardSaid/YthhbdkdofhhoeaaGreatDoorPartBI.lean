/- Part of a proof over this seat: a library of my own, and what it says of this seat. No statement is proved here. -/
import Derived.Test.YthhbdkdofhhoeaaGreatDoorPartBH
namespace Go.Dec
open Go.Proofs
set_option linter.unusedVariables false
def ref02_WordsAn (n : Nat) : An (Dens ref02_WordsR) := (.mk .nil (.mk .nil (.mk (.mk .nil (.mk (.loop ⟨28, [⟨1, false, [.ptr 0 0]⟩, ⟨2, false, [.ptr 1 0]⟩, ⟨3, false, [.ptr 2 0]⟩, ⟨4, false, [.v (.int .i64)]⟩], [.box 30 [.v (.arr 256 .bool)], .box 24 [.v (.arr 4 (.int .u64))], .box 24 [.v (.arr 4 (.int .u64))]]⟩ [.keep [false, true, true, true, true], .gcA 0, .gcA 0] [.keep [false, true, true, true, true], .gcA 0, .gcA 0] n .nil) .nil []) []) .nil []) []) [])
theorem ref02_Words_pure (n : Nat) : Pure Tryz.prog 19 ref02_WordsA ref02_WordsR (ref02_Words n) :=
  pure_of (Γ := orcG _ [] []) (an := ref02_WordsAn n) Tryz.func19 rfl (by kernel_rfl) tab_ok (orcG_ok (all_nil) (alg_nil)) mixed (plain_ok _ _ rfl) (fun x => by kernel_rfl)
end Go.Dec
