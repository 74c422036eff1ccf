/- Part of a proof over this seat: a library of my own, and what it says of this seat. No statement is proved here. -/
import Derived.Test.YthhbdkdofhhoeaaGreatDoorPartBA
namespace Go.Dec
open Go.Proofs
set_option linter.unusedVariables false
def zRt (n:Nat):An (bW Ik):=(.mk .nil (.mk (.mk .nil (.mk (.loop ⟨17,[⟨0,false,[.v .str]⟩,⟨1,false,[.v (.int .u8)]⟩,⟨5,false,[.v (.int .i64)]⟩],[]⟩ [.keep (kbm 6 35),.gcA 0,.gcA 0] [.keep (kbm 6 35),.gcA 0,.gcA 0] n .nil) .nil []) []) .nil []) [])
theorem Ow(n:Nat):Pure Tryz.prog 138 Rt Ik (qW n):=
 bT (Γ:=cB _ [] []) (an:=zRt n) Tryz.func138 rfl (by kernel_rfl) dL (aV (all_nil) (aW)) mixed (aN _ _ rfl) (λx=>by kernel_rfl)
def zBu (n:Nat):An (bW Ao) := .nil
theorem Sc(n:Nat):Pure Tryz.prog 112 Lb Ao (rQ n):=
 bT (Γ:=cB _ [(138,bQ Rt Ik (qW n))] []) (an:=zBu n) Tryz.func112 rfl (by kernel_rfl) dL (aV (all_cons (aO (Ow n)) (all_nil)) (aW)) mixed (aN _ _ rfl) (λx=>by kernel_rfl)
def zKw (n:Nat):An (bW Jo):=(.mk .nil (.mk .nil (.mk (.join ⟨88,[⟨1,false,[.ptr 0 0]⟩,⟨3,false,[.v .str]⟩],[.box 30 [.v (.arr 256 .bool)]]⟩ [.keep (kbm 39 10),.gcA 0] .nil) (.mk (.mk .nil (.mk (.loop ⟨88,[⟨1,false,[.ptr 0 0]⟩,⟨3,false,[.v .str]⟩,⟨4,false,[.v (.int .i64)]⟩],[.box 30 [.v (.arr 256 .bool)]]⟩ [.keep (kbm 39 26),.gcA 0,.gcA 0] [.keep (kbm 39 26),.gcA 0,.gcA 0] n (.mk .nil (.mk (.mk (.mk (.join ⟨88,[⟨1,false,[.ptr 0 0]⟩,⟨3,false,[.v .str]⟩,⟨4,false,[.v (.int .i64)]⟩,⟨19,false,[.v (.int .i64)]⟩,⟨20,false,[.v (.int .u8)]⟩,⟨21,false,[.v .bool]⟩],[.box 30 [.v (.arr 256 .bool)]]⟩ [.keep (kbm 39 3670042),.gcA 0] .nil) (.mk .nil (.mk (.join ⟨88,[⟨1,false,[.ptr 0 0]⟩,⟨3,false,[.v .str]⟩,⟨4,false,[.v (.int .i64)]⟩,⟨5,false,[.v (.int .i64)]⟩,⟨19,false,[.v (.int .i64)]⟩,⟨20,false,[.v (.int .u8)]⟩,⟨21,false,[.v .bool]⟩],[.box 30 [.v (.arr 256 .bool)]]⟩ [.keep (kbm 39 3670074),.gcA 0] (.mk (.loop ⟨88,[⟨1,false,[.ptr 0 0]⟩,⟨3,false,[.v .str]⟩,⟨4,false,[.v (.int .i64)]⟩,⟨5,false,[.v (.int .i64)]⟩,⟨19,false,[.v (.int .i64)]⟩,⟨20,false,[.v (.int .u8)]⟩,⟨21,false,[.v .bool]⟩],[.box 30 [.v (.arr 256 .bool)]]⟩ [.keep (kbm 39 3670074),.gcA 0,.gcA 0] [.keep (kbm 39 3670074),.gcA 0,.gcA 0] n .nil) .nil [])) .nil []) []) []) .nil []) .nil []) [])) .nil []) []) (.mk (.join ⟨88,[⟨1,false,[.ptr 0 0]⟩,⟨3,false,[.v .str]⟩],[.box 30 [.v (.arr 256 .bool)]]⟩ [.keep [false,true,false,true],.gcA 0] .nil) (.mk (.join ⟨88,[⟨1,false,[.ptr 0 0]⟩,⟨3,false,[.v .str]⟩],[.box 30 [.v (.arr 256 .bool)]]⟩ [.keep [false,true,false,true],.gcA 0] .nil) (.mk (.join ⟨88,[⟨1,false,[.ptr 0 0]⟩,⟨3,false,[.v .str]⟩],[.box 30 [.v (.arr 256 .bool)]]⟩ [.keep [false,true,false,true],.gcA 0] .nil) .nil []) []) []) []) []) []) [])
theorem zBv(n:Nat):Pure Tryz.prog 113 Wo Jo (yU n):=
 bT (Γ:=cB _ [(138,bQ Rt Ik (qW n)),(88,bQ yY tT (kS n))] []) (an:=zKw n) Tryz.func113 rfl (by kernel_rfl) dL (aV (all_cons (aO (Ow n)) (all_cons (aO (xA n)) (all_nil))) (aW)) mixed (aN _ _ rfl) (λx=>by kernel_rfl)
def zGq (n:Nat):An (bW Gr) := .nil
theorem Yq(n:Nat):Pure Tryz.prog 75 Ru Gr (Bp n):=
 bT (Γ:=cB _ [(56,bQ Wm Jl (yS n)),(88,bQ yY tT (kS n)),(112,bQ Lb Ao (rQ n)),(113,bQ Wo Jo (yU n))] []) (an:=zGq n) Tryz.func75 rfl (by kernel_rfl) dL (aV (all_cons (aO (zBs n)) (all_cons (aO (xA n)) (all_cons (aO (Sc n)) (all_cons (aO (zBv n)) (all_nil))))) (aW)) mixed (aN _ _ rfl) (λx=>by kernel_rfl)
end Go.Dec
namespace Go.Dec
open Go.Proofs
set_option linter.unusedVariables false
def Ho (n:Nat):An (bW pE) := .nil
theorem Df(n:Nat):Pure Tryz.prog 76 wB pE (jC n):=
 bT (Γ:=cB _ [] []) (an:=Ho n) Tryz.func76 rfl (by kernel_rfl) dL (aV (all_nil) (aW)) mixed (aN _ _ rfl) (λx=>by kernel_rfl)
def zRu (n:Nat):An (bW Rv):=(.mk .nil (.mk (.mk .nil (.mk (.loop ⟨15,[⟨2,false,[.v (.int .i64)]⟩,⟨5,true,[.v (.arr 4 (.int .u64))]⟩,⟨6,false,[.v (.int .i64)]⟩],[]⟩ [.keep (kbm 7 100),.gcA 0,.gcA 0] [.keep (kbm 7 100),.gcA 0,.gcA 0] n .nil) .nil []) []) .nil []) [])
theorem zGr(n:Nat):Pure Tryz.prog 33 zFo Rv (Gm n):=
 bT (Γ:=cB _ [(76,bQ wB pE (jC n))] []) (an:=zRu n) Tryz.func33 rfl (by kernel_rfl) dL (aV (all_cons (aO (Df n)) (all_nil)) (aW)) mixed (aN _ _ rfl) (λx=>by kernel_rfl)
end Go.Dec
namespace Go.Dec
open Go.Proofs
set_option linter.unusedVariables false
end Go.Dec
