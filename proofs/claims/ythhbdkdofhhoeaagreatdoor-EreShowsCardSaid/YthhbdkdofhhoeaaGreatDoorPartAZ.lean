/- Part of a proof over this seat: a library of my own, and what it says of this seat. No statement is proved here. -/
import Derived.Test.YthhbdkdofhhoeaaGreatDoorPartAY
namespace Go.Dec
open Go.Proofs
set_option linter.unusedVariables false
def zGp (n:Nat):An (bW tT):=(.mk .nil (.mk .nil (.mk (.mk .nil (.mk (.loop ⟨20,[⟨1,false,[.ptr 0 0]⟩,⟨3,false,[.own 1]⟩,⟨4,false,[.v (.int .i64)]⟩],[.box 30 [.v (.arr 256 .bool)],.row 5 (.int .u8)]⟩ [.keep [false,true,false,true,true],.gcA 0,.Mk 3 96,.gcA 0] [.keep [false,true,false,true,true],.gcA 0,.gcA 0] n .nil) .nil []) []) .nil []) []) [])
theorem xA(n:Nat):Pure Tryz.prog 88 yY tT (kS n):=
 bT (Γ:=cB _ [] []) (an:=zGp n) Tryz.func88 rfl (by kernel_rfl) dL (aV (all_nil) (aW)) mixed (aN _ _ rfl) (λx=>by kernel_rfl)
def zKu (n:Nat):An (bW Jl) := .nil
theorem zBs(n:Nat):Pure Tryz.prog 56 Wm Jl (yS n):=
 bT (Γ:=cB _ [(88,bQ yY tT (kS n))] []) (an:=zKu n) Tryz.func56 rfl (by kernel_rfl) dL (aV (all_cons (aO (xA n)) (all_nil)) (aW)) mixed (aN _ _ rfl) (λx=>by kernel_rfl)
end Go.Dec
