/- Part of a proof over this seat: a library of my own, and what it says of this seat. No statement is proved here. -/
import Derived.Test.YthhbdkdofhhoeaaGreatDoorPartBE
namespace Go.Dec
open Go.Proofs
set_option linter.unusedVariables false
def yAp (n:Nat):An (bF Xd):=(.mk .nil (.mk .nil (.mk .nil (.mk .nil (.mk (.mk (.loop ⟨65,[⟨0,false,[.v .str]⟩,⟨1,false,[.v (.int .i64)]⟩,⟨3,false,[.v (.int .i64)]⟩,⟨6,false,[.ptr 0 0]⟩,⟨8,false,[.ptr 1 0]⟩,⟨10,false,[.own 2]⟩],[.box 112 [.v (.slice aD),.v (.int .i64),.v (.int .i64),.v (.int .i64)],.box 112 [.own 3,.v (.int .i64),.v (.int .i64),.v (.int .i64)],.row 3 (.int .i64),.row 51 aD]⟩ [.keep (kbm 11 1355),.gcA 0,.Kv 10 105,.ownB 1 0 38,.gcA 0] [.keep (kbm 11 1355),.gcA 0,.gcA 0] n .nil) .nil []) (.mk (.co [.zUw 10] .nil) .nil []) []) []) []) []) [])
theorem zOw(n:Nat)(bR:(List UInt8 × Int × (List (Int × List (Int) × Int × Int × Int × Int × Int × Unit) × Int × Int × Int × Unit) × Int)->Option ((List (Int × List (Int) × Int × Int × Int × Int × Int × Unit) × Int × Int × Int × Unit) × Int))(yO:Pure Tryz.prog 78 tV pX bR):Pure Tryz.prog 128 zLx Xd (yI n bR):=
 aX (Γ:=bK _ [(161,bB Pq Ga (bJ n)),(162,bB Yp Ld (kQ n)),(163,bB zFx Sz (vV n bR)),(129,bB Ta Jg (kW n))] []) (an:=yAp n) Tryz.func128 rfl (by kernel_rfl) dI (aS (all_cons (aL (Qb n)) (all_cons (aL (zEy n)) (all_cons (aL (zMa n bR yO)) (all_cons (aL (Rm n)) (all_nil))))) (aT)) dY (aO _ _ rfl) (λx=>by kernel_rfl)
def zXl (n:Nat):An (bF pX):=(.mk .nil (.mk .nil (.mk (.loop ⟨48,[⟨0,false,[.v .str]⟩,⟨1,false,[.v (.int .i64)]⟩,⟨3,false,[.v (.int .i64)]⟩,⟨6,false,[.ptr 0 0]⟩,⟨8,false,[.ptr 1 0]⟩,⟨10,false,[.own 2]⟩],[.box 112 [.v (.slice aD),.v (.int .i64),.v (.int .i64),.v (.int .i64)],.box 112 [.own 3,.v (.int .i64),.v (.int .i64),.v (.int .i64)],.row 3 (.int .i64),.row 51 aD]⟩ [.keep (kbm 11 1355),.gcA 0,.Kv 10 105,.ownB 1 0 38,.gcA 0] [.keep (kbm 11 1355),.gcA 0,.gcA 0] n (.mk (.mk .nil (.mk .nil (.mk .nil (.mk (.mk .nil (.mk (.mk (.co [.zUw 10,.zUw 31] .nil) .nil []) .nil []) []) .nil []) []) []) []) .nil [])) .nil []) []) [])
theorem Xg(n:Nat)(bR:(List UInt8 × Int × (List (Int × List (Int) × Int × Int × Int × Int × Int × Unit) × Int × Int × Int × Unit) × Int)->Option ((List (Int × List (Int) × Int × Int × Int × Int × Int × Unit) × Int × Int × Int × Unit) × Int))(yO:Pure Tryz.prog 78 tV pX bR):Pure Tryz.prog 78 tV pX (xP n bR):=
 aX (Γ:=bK _ [(128,bB zLx Xd (yI n bR)),(129,bB Ta Jg (kW n))] []) (an:=zXl n) Tryz.func78 rfl (by kernel_rfl) dI (aS (all_cons (aL (zOw n bR yO)) (all_cons (aL (Rm n)) (all_nil))) (aT)) dY (aO _ _ rfl) (λx=>by kernel_rfl)
theorem zMb(n:Nat):Pure Tryz.prog 78 tV pX (sS n):=Hl (by kernel_rfl) (λn r h=>Xg n r h) n
def zSp (n:Nat):An (bF Py) := .nil
theorem zIi(n:Nat):Pure Tryz.prog 36 zCa Py (Az n):=
 aX (Γ:=bK _ [(78,bB tV pX (sS n))] []) (an:=zSp n) Tryz.func36 rfl (by kernel_rfl) dI (aS (all_cons (aL (zMb n)) (all_nil)) (aT)) dY (aO _ _ rfl) (λx=>by kernel_rfl)
def yAq (n:Nat):An (bF Xe):=(.mk .nil (.mk .nil (.mk (.mk .nil (.mk (.loop ⟨36,[⟨0,false,[.v (.slice aD)]⟩,⟨3,false,[.own 0]⟩,⟨4,false,[.v (.int .i64)]⟩],[.row 51 aD]⟩ [.keep [true,false,false,true,true],.gcA 0,.Kv 3 38,.gcA 0] [.keep [true,false,false,true,true],.gcA 0,.gcA 0] n .nil) .nil []) []) .nil []) []) [])
theorem zOx(n:Nat):Pure Tryz.prog 37 zLy Xe (Ki n):=
 aX (Γ:=bK _ [] []) (an:=yAq n) Tryz.func37 rfl (by kernel_rfl) dI (aS (all_nil) (aT)) dY (aO _ _ rfl) (λx=>by kernel_rfl)
def zXm (n:Nat):An (bF Tc) := .nil
theorem zMc(n:Nat):Pure Tryz.prog 43 zFy Tc (Fj n):=
 aX (Γ:=bK _ [(75,bB zBi Oz (Jc n))] []) (an:=zXm n) Tryz.func43 rfl (by kernel_rfl) dI (aS (all_cons (aL (zHw n)) (all_nil)) (aT)) dY (aO _ _ rfl) (λx=>by kernel_rfl)
def zSq (n:Nat):An (bF uV):=(.mk .nil (.mk .nil (.mk (.mk .nil (.mk (.mk .nil (.mk .nil (.mk .nil (.mk .nil (.mk .nil (.mk .nil (.mk .nil (.mk .nil (.mk .nil (.mk .nil (.mk .nil (.mk (.mk .nil (.mk .nil (.mk (.mk (.mk (.join ⟨133,[⟨5,false,[.ptr 0 0]⟩,⟨6,false,[.v .str]⟩,⟨7,false,[.v .str]⟩,⟨56,false,[.v .bool]⟩],[.box 51 [.v (.int .i64),.v (.arr 4 (.int .u64)),.v (.int .i64),.v (.int .i64),.v (.int .i64),.v (.int .i64),.v (.int .i64)]]⟩ [.keep (kbm 57 72057594037928160),.gcA 0] .nil) (.mk .nil (.mk (.join ⟨133,[⟨5,false,[.ptr 0 0]⟩,⟨6,false,[.v .str]⟩,⟨7,false,[.v .str]⟩,⟨67,false,[.v .bool]⟩],[.box 51 [.v (.int .i64),.v (.arr 4 (.int .u64)),.v (.int .i64),.v (.int .i64),.v (.int .i64),.v (.int .i64),.v (.int .i64)]]⟩ [.keep (kbm 68 147573952589676413152),.gcA 0] .nil) (.mk .nil (.mk (.join ⟨133,[⟨5,false,[.ptr 0 0]⟩,⟨6,false,[.v .str]⟩,⟨7,false,[.v .str]⟩,⟨78,false,[.v .bool]⟩],[.box 51 [.v (.int .i64),.v (.arr 4 (.int .u64)),.v (.int .i64),.v (.int .i64),.v (.int .i64),.v (.int .i64),.v (.int .i64)]]⟩ [.keep (kbm 79 302231454903657293676768),.gcA 0] .nil) .nil []) []) []) []) []) .nil []) .nil []) []) []) .nil []) []) []) []) []) []) []) []) []) []) []) []) .nil []) []) .nil []) []) [])
theorem Ux(n:Nat)(jR:(List (Int × List (Int) × Int × Int × Int × Int × Int × Unit) × Int)->Option (List UInt8))(zSr:Pure Tryz.prog 80 yL uV jR):Pure Tryz.prog 80 yL uV (fU n jR):=
 aX (Γ:=bK _ [(32,bB zFr Sl (Ew n)),(43,bB zFy Tc (Fj n)),(80,bB yL uV (jR)),(103,bB Yk Lb (oF n))] []) (an:=zSq n) Tryz.func80 rfl (by kernel_rfl) dI (aS (all_cons (aL (zLo n)) (all_cons (aL (zMc n)) (all_cons (aL (zSr)) (all_cons (aL (zEq n)) (all_nil))))) (aT)) dY (aO _ _ rfl) (λx=>by kernel_rfl)
theorem zIj(n:Nat):Pure Tryz.prog 80 yL uV (wV n):=Hl (by kernel_rfl) (λn r h=>Ux n r h) n
def zSs (n:Nat):An (bF Pz) := .nil
theorem zIk(n:Nat):Pure Tryz.prog 39 zCb Pz (wW n):=
 aX (Γ:=bK _ [(64,bB zLb Wy (vB n)),(80,bB yL uV (wV n)),(36,bB zCa Py (Az n)),(22,bB zFt Sn (sN n))] []) (an:=zSs n) Tryz.func39 rfl (by kernel_rfl) dI (aS (all_cons (aL (zOp n)) (all_cons (aL (zIj n)) (all_cons (aL (zIi n)) (all_cons (aL (zLt n)) (all_nil))))) (aT)) dY (aO _ _ rfl) (λx=>by kernel_rfl)
def zEz (n:Nat):An (bF Qa) := .nil
theorem Vl(n:Nat):Pure Tryz.prog 11 zHz Qa (Fp n):=
 aX (Γ:=bK _ [(34,bB zBv Pp (wU n)),(38,bB Xc Nc (vD n)),(37,bB zLy Xe (Ki n)),(39,bB zCb Pz (wW n))] []) (an:=zEz n) Tryz.func11 rfl (by kernel_rfl) dI (aS (all_cons (aL (zIe n)) (all_cons (aL (Uw n)) (all_cons (aL (zOx n)) (all_cons (aL (zIk n)) (all_nil))))) (aT)) dY (aO _ _ rfl) (λx=>by kernel_rfl)
end Go.Dec
namespace Go.Dec
open Go.Proofs
set_option linter.unusedVariables false
end Go.Dec
