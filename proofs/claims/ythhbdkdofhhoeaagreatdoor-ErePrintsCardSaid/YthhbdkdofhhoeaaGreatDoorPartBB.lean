/- Part of a proof over this seat: a library of my own, and what it says of this seat. No statement is proved here. -/
import Derived.Test.YthhbdkdofhhoeaaGreatDoorPartBA
namespace Go.Dec
open Go.Proofs
set_option linter.unusedVariables false
def zLp (n:Nat):An (bF qH) := .nil
theorem Qm(n:Nat)(sK:Int->Option (List UInt8))(zLq:Pure Tryz.prog 147 uU qH sK):Pure Tryz.prog 147 uU qH (sJ n sK):=
 aX (Γ:=bK _ [(147,bB uU qH (sK))] []) (an:=zLp n) Tryz.func147 rfl (by kernel_rfl) bW (aS (all_cons (aL (zLq)) (all_nil)) (aT)) mixed (aO _ _ rfl) (λx=>by kernel_rfl)
theorem zBr(n:Nat):Pure Tryz.prog 147 uU qH (oQ n):=Hl (by kernel_rfl) (λn r h=>Qm n r h) n
def zOq (n:Nat):An (bF Lb) := .nil
theorem zEq(n:Nat):Pure Tryz.prog 103 Yk Lb (oF n):=
 aX (Γ:=bK _ [(147,bB uU qH (oQ n))] []) (an:=zOq n) Tryz.func103 rfl (by kernel_rfl) bW (aS (all_cons (aL (zBr n)) (all_nil)) (aT)) mixed (aO _ _ rfl) (λx=>by kernel_rfl)
def yFq (n:Nat):An (bF Ri):=(.mk .nil (.mk (.mk .nil (.mk (.loop ⟨17,[⟨0,false,[.v .str]⟩,⟨1,false,[.v (.int .u8)]⟩,⟨5,false,[.v (.int .i64)]⟩],[]⟩ [.keep (kbm 6 35),.gcA 0,.gcA 0] [.keep (kbm 6 35),.gcA 0,.gcA 0] n .nil) .nil []) []) .nil []) [])
theorem Yo(n:Nat):Pure Tryz.prog 138 zBh Ri (tT n):=
 aX (Γ:=bK _ [] []) (an:=yFq n) Tryz.func138 rfl (by kernel_rfl) bW (aS (all_nil) (aT)) mixed (aO _ _ rfl) (λx=>by kernel_rfl)
def zLr (n:Nat):An (bF Ic) := .nil
theorem zBs(n:Nat):Pure Tryz.prog 112 Um Ic (wK n):=
 aX (Γ:=bK _ [(138,bB zBh Ri (tT n))] []) (an:=zLr n) Tryz.func112 rfl (by kernel_rfl) bW (aS (all_cons (aL (Yo n)) (all_nil)) (aT)) mixed (aO _ _ rfl) (λx=>by kernel_rfl)
def zXb (n:Nat):An (bF Sm):=(.mk .nil (.mk .nil (.mk (.join ⟨88,[⟨1,false,[.ptr 0 0]⟩,⟨3,false,[.v .str]⟩],[.box 30 [.v (.arr 256 .bool)]]⟩ [.keep (kbm 39 10),.gcA 0] .nil) (.mk (.mk .nil (.mk (.loop ⟨88,[⟨1,false,[.ptr 0 0]⟩,⟨3,false,[.v .str]⟩,⟨4,false,[.v (.int .i64)]⟩],[.box 30 [.v (.arr 256 .bool)]]⟩ [.keep (kbm 39 26),.gcA 0,.gcA 0] [.keep (kbm 39 26),.gcA 0,.gcA 0] n (.mk .nil (.mk (.mk (.mk (.join ⟨88,[⟨1,false,[.ptr 0 0]⟩,⟨3,false,[.v .str]⟩,⟨4,false,[.v (.int .i64)]⟩,⟨19,false,[.v (.int .i64)]⟩,⟨20,false,[.v (.int .u8)]⟩,⟨21,false,[.v .bool]⟩],[.box 30 [.v (.arr 256 .bool)]]⟩ [.keep (kbm 39 3670042),.gcA 0] .nil) (.mk .nil (.mk (.join ⟨88,[⟨1,false,[.ptr 0 0]⟩,⟨3,false,[.v .str]⟩,⟨4,false,[.v (.int .i64)]⟩,⟨5,false,[.v (.int .i64)]⟩,⟨19,false,[.v (.int .i64)]⟩,⟨20,false,[.v (.int .u8)]⟩,⟨21,false,[.v .bool]⟩],[.box 30 [.v (.arr 256 .bool)]]⟩ [.keep (kbm 39 3670074),.gcA 0] (.mk (.loop ⟨88,[⟨1,false,[.ptr 0 0]⟩,⟨3,false,[.v .str]⟩,⟨4,false,[.v (.int .i64)]⟩,⟨5,false,[.v (.int .i64)]⟩,⟨19,false,[.v (.int .i64)]⟩,⟨20,false,[.v (.int .u8)]⟩,⟨21,false,[.v .bool]⟩],[.box 30 [.v (.arr 256 .bool)]]⟩ [.keep (kbm 39 3670074),.gcA 0,.gcA 0] [.keep (kbm 39 3670074),.gcA 0,.gcA 0] n .nil) .nil [])) .nil []) []) []) .nil []) .nil []) [])) .nil []) []) (.mk (.join ⟨88,[⟨1,false,[.ptr 0 0]⟩,⟨3,false,[.v .str]⟩],[.box 30 [.v (.arr 256 .bool)]]⟩ [.keep [false,true,false,true],.gcA 0] .nil) (.mk (.join ⟨88,[⟨1,false,[.ptr 0 0]⟩,⟨3,false,[.v .str]⟩],[.box 30 [.v (.arr 256 .bool)]]⟩ [.keep [false,true,false,true],.gcA 0] .nil) (.mk (.join ⟨88,[⟨1,false,[.ptr 0 0]⟩,⟨3,false,[.v .str]⟩],[.box 30 [.v (.arr 256 .bool)]]⟩ [.keep [false,true,false,true],.gcA 0] .nil) .nil []) []) []) []) []) []) [])
theorem zLs(n:Nat):Pure Tryz.prog 113 zFs Sm (Ey n):=
 aX (Γ:=bK _ [(138,bB zBh Ri (tT n)),(88,bB Fb yF (nO n))] []) (an:=zXb n) Tryz.func113 rfl (by kernel_rfl) bW (aS (all_cons (aL (Yo n)) (all_cons (aL (Cq n)) (all_nil))) (aT)) mixed (aO _ _ rfl) (λx=>by kernel_rfl)
def zSg (n:Nat):An (bF Oz) := .nil
theorem zHw(n:Nat):Pure Tryz.prog 75 zBi Oz (Jc n):=
 aX (Γ:=bK _ [(56,bB Sj Jd (vM n)),(88,bB Fb yF (nO n)),(112,bB Um Ic (wK n)),(113,bB zFs Sm (Ey n))] []) (an:=zSg n) Tryz.func75 rfl (by kernel_rfl) bW (aS (all_cons (aL (Rj n)) (all_cons (aL (Cq n)) (all_cons (aL (zBs n)) (all_cons (aL (zLs n)) (all_nil))))) (aT)) mixed (aO _ _ rfl) (λx=>by kernel_rfl)
end Go.Dec
namespace Go.Dec
open Go.Proofs
set_option linter.unusedVariables false
def zOr (n:Nat):An (bF Lc):=(.mk .nil (.mk .nil (.mk .nil (.mk (.mk (.loop ⟨46,[⟨0,false,[.v .str]⟩,⟨1,false,[.v (.int .i64)]⟩,⟨6,false,[.v (.int .i64)]⟩,⟨7,false,[.v (.int .i64)]⟩],[]⟩ [.keep (kbm 30 195),.gcA 0,.gcA 0] [.keep (kbm 30 195),.gcA 0,.gcA 0] n .nil) .nil []) .nil []) []) []) [])
theorem zEr(n:Nat):Pure Tryz.prog 169 Yl Lc (uP n):=
 aX (Γ:=bK _ [] []) (an:=zOr n) Tryz.func169 rfl (by kernel_rfl) bW (aS (all_nil) (aT)) mixed (aO _ _ rfl) (λx=>by kernel_rfl)
end Go.Dec
namespace Go.Dec
open Go.Proofs
set_option linter.unusedVariables false
def zSh (n:Nat):An (bF Pf) := .nil
theorem zHx(n:Nat):Pure Tryz.prog 139 zBj Pf (Aw n):=
 aX (Γ:=bK _ [(169,bB Yl Lc (uP n))] []) (an:=zSh n) Tryz.func139 rfl (by kernel_rfl) bW (aS (all_cons (aL (zEr n)) (all_nil)) (aT)) mixed (aO _ _ rfl) (λx=>by kernel_rfl)
def zXc (n:Nat):An (bF Sn):=(.mk .nil (.mk .nil (.mk (.mk .nil (.mk (.loop ⟨26,[⟨0,false,[.v (.slice aD)]⟩,⟨1,false,[.v (.slice aD)]⟩,⟨5,false,[.v (.int .i64)]⟩],[]⟩ [.keep (kbm 6 35),.gcA 0,.gcA 0] [.keep (kbm 6 35),.gcA 0,.gcA 0] n .nil) .nil []) []) .nil []) []) [])
theorem zLt(n:Nat):Pure Tryz.prog 22 zFt Sn (sN n):=
 aX (Γ:=bK _ [] []) (an:=zXc n) Tryz.func22 rfl (by kernel_rfl) bW (aS (all_nil) (aT)) mixed (aO _ _ rfl) (λx=>by kernel_rfl)
end Go.Dec
