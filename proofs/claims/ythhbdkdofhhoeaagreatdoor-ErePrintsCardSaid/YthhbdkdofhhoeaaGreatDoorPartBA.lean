/- Part of a proof over this seat: a library of my own, and what it says of this seat. No statement is proved here. -/
import Derived.Test.YthhbdkdofhhoeaaGreatDoorPartAZ
namespace Go.Dec
open Go.Proofs
set_option linter.unusedVariables false
def zSd (n:Nat):An (bF Oy):=(.mk .nil (.mk .nil (.mk (.mk .nil (.mk (.loop ⟨28,[⟨1,false,[.ptr 0 0]⟩,⟨2,false,[.ptr 1 0]⟩,⟨3,false,[.ptr 2 0]⟩,⟨4,false,[.v (.int .i64)]⟩],[.box 30 [.v (.arr 256 .bool)],.box 24 [.v (.arr 4 (.int .u64))],.box 24 [.v (.arr 4 (.int .u64))]]⟩ [.keep [false,true,true,true,true],.gcA 0,.gcA 0] [.keep [false,true,true,true,true],.gcA 0,.gcA 0] n .nil) .nil []) []) .nil []) []) [])
theorem zHu(n:Nat):Pure Tryz.prog 19 zBg Oy (Av n):=
 aX (Γ:=bK _ [] []) (an:=zSd n) Tryz.func19 rfl (by kernel_rfl) bW (aS (all_nil) (aT)) mixed (aO _ _ rfl) (λx=>by kernel_rfl)
def zOo (n:Nat):An (bF La):=(.mk .nil (.mk .nil (.mk .nil (.mk (.join ⟨105,[⟨1,false,[.ptr 0 0]⟩,⟨3,false,[.ptr 1 0]⟩],[.box 51 [.v (.int .i64),.v (.arr 4 (.int .u64)),.v (.int .i64),.v (.int .i64),.v (.int .i64),.v (.int .i64),.v (.int .i64)],.box 51 [.v (.int .i64),.v (.arr 4 (.int .u64)),.v (.int .i64),.v (.int .i64),.v (.int .i64),.v (.int .i64),.v (.int .i64)]]⟩ [.keep (kbm 104 10),.gcA 0] (.mk .nil (.mk (.mk (.join ⟨105,[⟨1,false,[.ptr 0 0]⟩,⟨3,false,[.ptr 1 0]⟩,⟨4,false,[.ptr 2 0]⟩,⟨10,false,[.v (.int .i64)]⟩,⟨11,false,[.v .bool]⟩],[.box 51 [.v (.int .i64),.v (.arr 4 (.int .u64)),.v (.int .i64),.v (.int .i64),.v (.int .i64),.v (.int .i64),.v (.int .i64)],.box 51 [.v (.int .i64),.v (.arr 4 (.int .u64)),.v (.int .i64),.v (.int .i64),.v (.int .i64),.v (.int .i64),.v (.int .i64)],.box 24 [.v (.arr 4 (.int .u64))]]⟩ [.keep (kbm 104 3098),.gcA 0] .nil) (.mk .nil (.mk .nil (.mk .nil (.mk (.join ⟨105,[⟨1,false,[.ptr 0 0]⟩,⟨3,false,[.ptr 1 0]⟩,⟨10,false,[.v (.int .i64)]⟩,⟨24,false,[.v .bool]⟩],[.box 51 [.v (.int .i64),.v (.arr 4 (.int .u64)),.v (.int .i64),.v (.int .i64),.v (.int .i64),.v (.int .i64),.v (.int .i64)],.box 51 [.v (.int .i64),.v (.arr 4 (.int .u64)),.v (.int .i64),.v (.int .i64),.v (.int .i64),.v (.int .i64),.v (.int .i64)]]⟩ [.keep (kbm 104 16778250),.gcA 0] .nil) .nil []) []) []) []) []) .nil []) [])) .nil []) []) []) [])
theorem zEp(n:Nat):Pure Tryz.prog 144 Yj La (bZ n):=
 aX (Γ:=bK _ [] []) (an:=zOo n) Tryz.func144 rfl (by kernel_rfl) bW (aS (all_nil) (aT)) mixed (aO _ _ rfl) (λx=>by kernel_rfl)
def zSe (n:Nat):An (bF uS) := .nil
theorem Uq(n:Nat)(iE:(List (Int × List (Int) × Int × Int × Int × Int × Int × Unit) × Int)->Option (Int))(zSf:Pure Tryz.prog 145 yH uS iE):Pure Tryz.prog 145 yH uS (gY n iE):=
 aX (Γ:=bK _ [(145,bB yH uS (iE))] []) (an:=zSe n) Tryz.func145 rfl (by kernel_rfl) bW (aS (all_cons (aL (zSf)) (all_nil)) (aT)) mixed (aO _ _ rfl) (λx=>by kernel_rfl)
theorem zHv(n:Nat):Pure Tryz.prog 145 yH uS (fP n):=Hl (by kernel_rfl) (λn r h=>Uq n r h) n
def zLl (n:Nat):An (bF qG) := .nil
theorem Ql(n:Nat)(bT:(List (Int × List (Int) × Int × Int × Int × Int × Int × Unit) × Int × Bool × Int × List (Bool) × Bool × Unit)->Option (Bool × Int × List (Bool) × Bool × Unit))(zLm:Pure Tryz.prog 146 uT qG bT):Pure Tryz.prog 146 uT qG (eX n bT):=
 aX (Γ:=bK _ [(146,bB uT qG (bT))] []) (an:=zLl n) Tryz.func146 rfl (by kernel_rfl) bW (aS (all_cons (aL (zLm)) (all_nil)) (aT)) mixed (aO _ _ rfl) (λx=>by kernel_rfl)
theorem zBq(n:Nat):Pure Tryz.prog 146 uT qG (iF n):=Hl (by kernel_rfl) (λn r h=>Ql n r h) n
def zWz (n:Nat):An (bF Sk):=(.mk .nil (.mk .nil (.mk (.mk .nil (.mk (.loop ⟨39,[⟨0,false,[.v (.slice aD)]⟩,⟨2,false,[.ptr 0 0]⟩,⟨3,false,[.v (.int .i64)]⟩],[.box 130 [.v .bool,.v (.int .i64),.v (.arr 10 .bool),.v .bool]]⟩ [.keep [true,false,true,true],.gcA 0,.gcA 0] [.keep [true,false,true,true],.gcA 0,.gcA 0] n .nil) .nil []) []) .nil []) []) [])
theorem zLn(n:Nat):Pure Tryz.prog 102 zFq Sk (Mx n):=
 aX (Γ:=bK _ [(144,bB Yj La (bZ n)),(145,bB yH uS (fP n)),(146,bB uT qG (iF n))] []) (an:=zWz n) Tryz.func102 rfl (by kernel_rfl) bW (aS (all_cons (aL (zEp n)) (all_cons (aL (zHv n)) (all_cons (aL (zBq n)) (all_nil)))) (aT)) mixed (aO _ _ rfl) (λx=>by kernel_rfl)
def yAl (n:Nat):An (bF Wy) := .nil
theorem zOp(n:Nat):Pure Tryz.prog 64 zLb Wy (vB n):=
 aX (Γ:=bK _ [(102,bB zFq Sk (Mx n))] []) (an:=yAl n) Tryz.func64 rfl (by kernel_rfl) bW (aS (all_cons (aL (zLn n)) (all_nil)) (aT)) mixed (aO _ _ rfl) (λx=>by kernel_rfl)
def zXa (n:Nat):An (bF Sl):=(.mk .nil (.mk .nil (.mk (.mk .nil (.mk (.loop ⟨27,[⟨1,false,[.ptr 0 0]⟩,⟨2,false,[.ptr 1 0]⟩,⟨3,false,[.ptr 2 0]⟩,⟨4,false,[.v (.int .i64)]⟩],[.box 24 [.v (.arr 4 (.int .u64))],.box 30 [.v (.arr 256 .bool)],.box 30 [.v (.arr 256 .bool)]]⟩ [.keep [false,true,true,true,true],.gcA 0,.gcA 0] [.keep [false,true,true,true,true],.gcA 0,.gcA 0] n .nil) .nil []) []) .nil []) []) [])
theorem zLo(n:Nat):Pure Tryz.prog 32 zFr Sl (Ew n):=
 aX (Γ:=bK _ [] []) (an:=zXa n) Tryz.func32 rfl (by kernel_rfl) bW (aS (all_nil) (aT)) mixed (aO _ _ rfl) (λx=>by kernel_rfl)
end Go.Dec
