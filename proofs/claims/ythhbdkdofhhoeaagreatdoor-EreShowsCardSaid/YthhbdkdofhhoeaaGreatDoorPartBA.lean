/- Part of a proof over this seat: a library of my own, and what it says of this seat. No statement is proved here. -/
import Derived.Test.YthhbdkdofhhoeaaGreatDoorPartAZ
namespace Go.Dec
open Go.Proofs
set_option linter.unusedVariables false
def zKv (n:Nat):An (bW Jm):=(.mk .nil (.mk .nil (.mk (.mk .nil (.mk (.loop ⟨27,[⟨1,false,[.ptr 0 0]⟩,⟨2,false,[.ptr 1 0]⟩,⟨3,false,[.ptr 2 0]⟩,⟨4,false,[.v (.int .i64)]⟩],[.box 24 [.v (.arr 4 (.int .u64))],.box 30 [.v (.arr 256 .bool)],.box 30 [.v (.arr 256 .bool)]]⟩ [.keep [false,true,true,true,true],.gcA 0,.gcA 0] [.keep [false,true,true,true,true],.gcA 0,.gcA 0] n .nil) .nil []) []) .nil []) []) [])
theorem zBt(n:Nat):Pure Tryz.prog 32 Wn Jm (yT n):=
 bT (Γ:=cB _ [] []) (an:=zKv n) Tryz.func32 rfl (by kernel_rfl) dL (aV (all_nil) (aW)) mixed (aN _ _ rfl) (λx=>by kernel_rfl)
end Go.Dec
