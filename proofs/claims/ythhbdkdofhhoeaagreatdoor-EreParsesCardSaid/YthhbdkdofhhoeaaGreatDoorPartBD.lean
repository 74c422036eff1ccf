/- Part of a proof over this seat: a library of my own, and what it says of this seat. No statement is proved here. -/
import Derived.Test.YthhbdkdofhhoeaaGreatDoorPartBC
namespace Go.Dec
open Go.Proofs
set_option linter.unusedVariables false
def zKv (n:Nat):An (bH Jg):=(.mk .nil (.mk .nil (.mk (.mk .nil (.mk (.loop ⟨28,[⟨1,false,[.ptr 0 0]⟩,⟨2,false,[.ptr 1 0]⟩,⟨3,false,[.ptr 2 0]⟩,⟨4,false,[.v (.int .i64)]⟩],[.box 30 [.v (.arr 256 .bool)],.box 24 [.v (.arr 4 (.int .u64))],.box 24 [.v (.arr 4 (.int .u64))]]⟩ [.keep [false,true,true,true,true],.gcA 0,.gcA 0] [.keep [false,true,true,true,true],.gcA 0,.gcA 0] n .nil) .nil []) []) .nil []) []) [])
theorem zBp (n:Nat):Pure Tryz.prog 19 Vb Jg (xR n) :=
 bB (Γ:=bL _ [] []) (an:=zKv n) Tryz.func19 rfl (by kernel_rfl) dI (aS (all_nil) (aT)) mixed (aO _ _ rfl) (fun x=>by kernel_rfl)
end Go.Dec
