/- Part of a proof over this seat: a library of my own, and what it says of this seat. No statement is proved here. -/
import Derived.Test.YthhbdkdofhhoeaaGreatDoorPartBE
namespace Go.Dec
open Go.Proofs
set_option linter.unusedVariables false
def zHk (n:Nat):An (bH Fv):=(.mk .nil (.mk .nil (.mk .nil (.mk (.mk (.loop ⟨46,[⟨0,false,[.v .str]⟩,⟨1,false,[.v (.int .i64)]⟩,⟨6,false,[.v (.int .i64)]⟩,⟨7,false,[.v (.int .i64)]⟩],[]⟩ [.keep [true,true,false,false,false,false,true,true,false,false,false,false,false,false,false,false,false,false,false,false,false,false,false,false,false,false,false,false,false,false],.gcA 0,.gcA 0] [.keep [true,true,false,false,false,false,true,true,false,false,false,false,false,false,false,false,false,false,false,false,false,false,false,false,false,false,false,false,false,false],.gcA 0,.gcA 0] n .nil) .nil []) .nil []) []) []) [])
theorem Yl (n:Nat):Pure Tryz.prog 169 Rp Fv (rO n) :=
 bB (Γ:=bL _ [] []) (an:=zHk n) Tryz.func169 rfl (by kernel_rfl) dI (aS (all_nil) (aT)) mixed (aO _ _ rfl) (fun x=>by kernel_rfl)
end Go.Dec
