/- Part of a proof over this seat: a library of my own, and what it says of this seat. No statement is proved here. -/
import Derived.Test.YthhbdkdofhhoeaaGreatDoorProg
import Derived.Test.YthhbdkdofhhoeaaGreatDoorPartAW
import Derived.Test.YthhbdkdofhhoeaaGreatDoorPartAV
import Derived.Test.YthhbdkdofhhoeaaGreatDoorPartAR
import Derived.KernelRfl
namespace Go.Dec
open Go.Proofs
set_option linter.unusedVariables false
def tab:Tab:=[(3,⟨.int .i64,1,8,[.val (.int .i64) 0],some (.int .i64),false⟩),
 (4,⟨.bool,1,1,[.val .bool false],some .bool,false⟩),
 (5,⟨.int .u8,1,1,[.val (.int .u8) 0],some (.int .u8),false⟩),
 (9,⟨.str,1,16,[.val .str []],some .str,false⟩),
 (23,⟨.int .u64,1,8,[.val (.int .u64) 0],some (.int .u64),false⟩),
 (24,⟨.arr 4 23,4,32,[.val (.arr 4 (.int .u64)) ([0,0,0,0])],some (.arr 4 (.int .u64)),true⟩),
 (25,⟨.arr 4 23,4,32,[.val (.arr 4 (.int .u64)) ([0,0,0,0])],some (.arr 4 (.int .u64)),true⟩),
 (26,⟨.int .i64,1,8,[.val (.int .i64) 0],some (.int .i64),false⟩),
 (30,⟨.arr 256 4,256,256,[.val (.arr 256 .bool) ([false,false,false,false,false,false,false,false,false,false,false,false,false,false,false,false,false,false,false,false,false,false,false,false,false,false,false,false,false,false,false,false,false,false,false,false,false,false,false,false,false,false,false,false,false,false,false,false,false,false,false,false,false,false,false,false,false,false,false,false,false,false,false,false,false,false,false,false,false,false,false,false,false,false,false,false,false,false,false,false,false,false,false,false,false,false,false,false,false,false,false,false,false,false,false,false,false,false,false,false,false,false,false,false,false,false,false,false,false,false,false,false,false,false,false,false,false,false,false,false,false,false,false,false,false,false,false,false,false,false,false,false,false,false,false,false,false,false,false,false,false,false,false,false,false,false,false,false,false,false,false,false,false,false,false,false,false,false,false,false,false,false,false,false,false,false,false,false,false,false,false,false,false,false,false,false,false,false,false,false,false,false,false,false,false,false,false,false,false,false,false,false,false,false,false,false,false,false,false,false,false,false,false,false,false,false,false,false,false,false,false,false,false,false,false,false,false,false,false,false,false,false,false,false,false,false,false,false,false,false,false,false,false,false,false,false,false,false,false,false,false,false,false,false,false,false,false,false,false,false,false,false,false,false,false,false])],some (.arr 256 .bool),true⟩),
 (35,⟨.slice 57,1,24,[.bV],some (.slice aC),false⟩),
 (38,⟨.slice 51,1,24,[.bV],some (.slice aC),false⟩),
 (51,⟨.struct [(0,3),(1,24),(5,3),(6,3),(7,3),(8,3),(9,3)],10,80,[.val (.int .i64) 0,.val (.arr 4 (.int .u64)) ([0,0,0,0]),.val (.int .i64) 0,.val (.int .i64) 0,.val (.int .i64) 0,.val (.int .i64) 0,.val (.int .i64) 0],some aC,true⟩),
 (57,⟨.struct [(0,3),(1,25),(5,3),(6,3),(7,3),(8,3),(9,3)],10,80,[.val (.int .i64) 0,.val (.arr 4 (.int .u64)) ([0,0,0,0]),.val (.int .i64) 0,.val (.int .i64) 0,.val (.int .i64) 0,.val (.int .i64) 0,.val (.int .i64) 0],some aC,true⟩),
 (61,⟨.ptr 63,1,8,[.jX],none,false⟩),
 (63,⟨.struct [(0,9),(1,3)],2,24,[.val .str [],.val (.int .i64) 0],some zUc,true⟩),
 (65,⟨.struct [(0,26),(1,3)],2,16,[.val (.int .i64) 0,.val (.int .i64) 0],some Xc,true⟩),
 (78,⟨.ptr 81,1,8,[.jX],none,false⟩),
 (79,⟨.arr 10 4,10,10,[.val (.arr 10 .bool) ([false,false,false,false,false,false,false,false,false,false])],some (.arr 10 .bool),true⟩),
 (81,⟨.struct [(0,9),(1,3),(2,35),(3,3),(4,79)],14,72,[.val .str [],.val (.int .i64) 0,.bV,.val (.int .i64) 0,.val (.arr 10 .bool) ([false,false,false,false,false,false,false,false,false,false])],some uT,false⟩),
 (85,⟨.struct [(0,38),(1,3),(2,79),(12,3),(13,26)],14,64,[.bV,.val (.int .i64) 0,.val (.arr 10 .bool) ([false,false,false,false,false,false,false,false,false,false]),.val (.int .i64) 0,.val (.int .i64) 0],some uU,false⟩),
 (90,⟨.slice 9,1,24,[.bV],some (.slice .str),false⟩),
 (96,⟨.slice 5,1,24,[.bV],some (.slice (.int .u8)),false⟩),
 (105,⟨.slice 3,1,24,[.bV],some (.slice (.int .i64)),false⟩),
 (115,⟨.slice 25,1,24,[.bV],some (.slice (.arr 4 (.int .u64))),false⟩),
 (130,⟨.struct [(0,4),(1,3),(2,79),(12,4)],13,32,[.val .bool false,.val (.int .i64) 0,.val (.arr 10 .bool) ([false,false,false,false,false,false,false,false,false,false]),.val .bool false],some Xd,true⟩),
 (135,⟨.func,1,8,[.val .opq Value.nilFunc],some .opq,false⟩),
 (137,⟨.iface false,1,16,[.val .err false],some .err,false⟩)]
theorem eB:bC Tryz.prog tab:=Sl (by kernel_rfl)
theorem mixed:Tryz.prog.follows .mixedOrders=true:=by kernel_rfl
abbrev nE:List Ty:=[.str,.str]
abbrev jA:List Ty:=[.bool]
abbrev sD:List Ty:=[.str,.str]
abbrev nT:List Ty:=[.bool]
abbrev Ud:List Ty:=[.arr 4 (.int .u64)]
abbrev Jq:List Ty:=[.arr 4 (.int .u64)]
abbrev rG:Sh:=⟨2,[⟨0,false,[.ptr 0 0]⟩,⟨1,false,[.v .str]⟩],[.box 63 [.v .str,.v (.int .i64)]]⟩
abbrev nU:Sh:=⟨1,[⟨0,false,[.v .bool]⟩],[.box 63 [.v .str,.v (.int .i64)]]⟩
abbrev tF:Sh:=⟨2,[⟨0,false,[.ptr 0 0]⟩,⟨1,false,[.v .str]⟩],[.box 63 [.v .str,.v (.int .i64)]]⟩
abbrev pE:Sh:=⟨1,[⟨0,false,[.v .bool]⟩],[.box 63 [.v .str,.v (.int .i64)]]⟩
abbrev tH:Sh:=⟨1,[⟨0,false,[.ptr 0 0]⟩],[.box 63 [.v .str,.v (.int .i64)]]⟩
abbrev tJ:Sh:=⟨0,[],[.box 63 [.v .str,.v (.int .i64)]]⟩
abbrev tK:Sh:=⟨1,[⟨0,true,[.v (.int .i64),.v (.int .i64)]⟩],[.box 63 [.v .str,.v (.int .i64)]]⟩
abbrev Cg:List Ty:=[.int .u8,.int .u8]
abbrev xI:List Ty:=[.arr 4 (.int .u64)]
abbrev Zp:List Ty:=[.slice (.arr 4 (.int .u64))]
abbrev Qk:List Ty:=[.arr 4 (.int .u64)]
abbrev Ql:List Ty:=[.str]
abbrev Hr:List Ty:=[.arr 4 (.int .u64)]
abbrev Xh:List Ty:=[.str]
abbrev Jr:List Ty:=[.arr 4 (.int .u64),.bool]
abbrev Av:Sh:=⟨3,[⟨0,false,[.ptr 0 0]⟩,⟨1,false,[.v .bool]⟩,⟨2,false,[.v .bool]⟩],[.box 63 [.v .str,.v (.int .i64)]]⟩
abbrev uG:Sh:=⟨2,[⟨0,false,[.v (.int .u8)]⟩,⟨1,false,[.v .bool]⟩],[.box 63 [.v .str,.v (.int .i64)]]⟩
abbrev uH:Sh:=⟨1,[⟨0,true,[.v (.int .i64),.v (.int .i64)]⟩],[.box 63 [.v .str,.v (.int .i64)]]⟩
abbrev Ht:Sh:=⟨2,[⟨0,false,[.ptr 0 0]⟩,⟨1,false,[.v .bool]⟩],[.box 63 [.v .str,.v (.int .i64)]]⟩
abbrev yQ:Sh:=⟨1,[⟨0,true,[.v (.arr 4 (.int .u64))]⟩],[.box 63 [.v .str,.v (.int .i64)]]⟩
abbrev yR:Sh:=⟨1,[⟨0,true,[.v (.int .i64),.v (.int .i64)]⟩],[.box 63 [.v .str,.v (.int .i64)]]⟩
abbrev Hu:Sh:=⟨2,[⟨0,false,[.ptr 0 0]⟩,⟨1,false,[.ptr 1 0]⟩],[.box 61 [.ptr 2 0],.box 25 [.v (.arr 4 (.int .u64))],.box 63 [.v .str,.v (.int .i64)]]⟩
abbrev yS:Sh:=⟨0,[],[.box 61 [.ptr 2 0],.box 25 [.v (.arr 4 (.int .u64))],.box 63 [.v .str,.v (.int .i64)]]⟩
abbrev yT:Sh:=⟨1,[⟨0,true,[.v (.int .i64),.v (.int .i64)]⟩],[.box 61 [.ptr 2 0],.box 25 [.v (.arr 4 (.int .u64))],.box 63 [.v .str,.v (.int .i64)]]⟩
abbrev lV:Sh:=⟨1,[⟨0,false,[.clo 45 [(0,0),(1,0)]]⟩],[.box 61 [.ptr 2 0],.box 25 [.v (.arr 4 (.int .u64))],.box 63 [.v .str,.v (.int .i64)]]⟩
abbrev lW:Sh:=⟨1,[⟨0,true,[.v (.int .i64),.v (.int .i64)]⟩],[.box 61 [.ptr 2 0],.box 25 [.v (.arr 4 (.int .u64))],.box 63 [.v .str,.v (.int .i64)]]⟩
abbrev Np:List Ty:=[.str]
abbrev Dm:List Ty:=[.arr 4 (.int .u64),.int .i64,.int .i64]
abbrev yU:List Ty:=[aC]
abbrev tL:List Ty:=[.int .i64]
abbrev Hw:List Ty:=[aC]
abbrev yV:List Ty:=[aC]
abbrev Nq:List Ty:=[aC]
abbrev Dn:List Ty:=[.bool]
abbrev Aw:List Ty:=[.slice (.int .i64),.int .i64]
abbrev uI:List Ty:=[.int .i64]
abbrev xJ:List Ty:=[.slice (.int .i64),.int .i64]
abbrev qB:List Ty:=[.bool]
abbrev zGe:List Ty:=[.slice aC,aC]
abbrev Ue:List Ty:=[.bool]
abbrev Rv:List Ty:=[.slice aC]
abbrev Gb:List Ty:=[.bool]
abbrev pF:Sh:=⟨7,[⟨0,false,[.v (.int .i64)]⟩,⟨1,false,[.ptr 0 0]⟩,⟨2,false,[.ptr 1 0]⟩,⟨3,false,[.ptr 2 0]⟩,⟨4,false,[.ptr 3 0]⟩,⟨5,false,[.ptr 4 0]⟩,⟨6,false,[.ptr 5 0]⟩],[.box 35 [.v (.slice aC)],.box 135 [.clo 142 [(0,0),(1,0),(2,0),(3,0),(4,0),(5,0)]],.box 3 [.v (.int .i64)],.box 4 [.v .bool],.box 79 [.v (.arr 10 .bool)],.box 4 [.v .bool]]⟩
abbrev mG:Sh:=⟨0,[],[.box 35 [.v (.slice aC)],.box 135 [.clo 142 [(0,0),(1,0),(2,0),(3,0),(4,0),(5,0)]],.box 3 [.v (.int .i64)],.box 4 [.v .bool],.box 79 [.v (.arr 10 .bool)],.box 4 [.v .bool]]⟩
abbrev Nr:List Ty:=[.slice aC]
abbrev Dp:List Ty:=[.int .i64,.bool,.bool]
abbrev Js:List Ty:=[.slice aC]
abbrev Dq:List Ty:=[.int .i64,.bool,.bool]
abbrev Zq:List Ty:=[.slice aC]
abbrev Qm:List Ty:=[.bool]
abbrev zBm:List Ty:=[.int .u8]
abbrev Ns:List Ty:=[.str]
abbrev zGf:List Ty:=[.arr 4 (.int .u64),.int .u8]
abbrev Uf:List Ty:=[.bool]
abbrev zBn:List Ty:=[.str]
abbrev Nt:List Ty:=[.slice .str]
abbrev zBo:List Ty:=[.arr 4 (.int .u64)]
abbrev Nu:List Ty:=[.str]
abbrev zGg:List Ty:=[.slice aC]
abbrev Ug:List Ty:=[.str]
abbrev Xi:List Ty:=[.slice aC]
abbrev Jt:List Ty:=[.int .i64]
abbrev zGh:List Ty:=[.slice aC]
abbrev Uh:List Ty:=[.bool]
def vQ (n:Nat):An (cK jA):=.nil
theorem tN (n:Nat):Pure Tryz.prog 166 nE jA (gN n) :=
 dD (Γ:=dB _ [] []) (an:=vQ n) Tryz.func166 rfl (by kernel_rfl) eB (aZ (all_nil) (bA)) mixed (aS _ _ rfl) (fun x=>by kernel_rfl)
def Ky (n:Nat):An (cK nT):=.nil
theorem uV (n:Nat):Pure Tryz.prog 131 sD nT (strings_HasPrefix n) :=
 dD (Γ:=dB _ [(166,bW nE jA (gN n))] []) (an:=Ky n) Tryz.func131 rfl (by kernel_rfl) eB (aZ (all_cons (aT (tN n)) (all_nil)) (bA)) mixed (aS _ _ rfl) (fun x=>by kernel_rfl)
def zPi (n:Nat):An (cK Jq):=(.mk .nil (.mk (.mk .nil (.mk (.loop ⟨15,[⟨1,false,[.ptr 0 0]⟩,⟨2,false,[.ptr 1 0]⟩,⟨4,false,[.v (.int .i64)]⟩],[.box 25 [.v (.arr 4 (.int .u64))],.box 25 [.v (.arr 4 (.int .u64))]]⟩ [.keep [false,true,true,false,true],.gcA 0,.gcA 0] [.keep [false,true,true,false,true],.gcA 0,.gcA 0] n .nil) .nil []) []) .nil []) [])
theorem Nv (n:Nat):Pure Tryz.prog 50 Ud Jq (Cn n) :=
 dD (Γ:=dB _ [] []) (an:=zPi n) Tryz.func50 rfl (by kernel_rfl) eB (aZ (all_nil) (bA)) mixed (aS _ _ rfl) (fun x=>by kernel_rfl)
def Ui (n:Nat):An (nU.X):=.nil
theorem qC (n:Nat):fT Tryz.prog 83 rG nU (dX n) :=
 fU (Γ:=dB _ [(131,bW sD nT (strings_HasPrefix n))] []) (an:=Ui n) (co:=[.gc [0]]) Tryz.func83 rfl (by kernel_rfl) eB (aZ (all_cons (aT (uV n)) (all_nil)) (bA)) mixed (aS _ _ rfl) (by kernel_rfl) (by kernel_rfl) (fun x=>by kernel_rfl)
def Xj (n:Nat):An (pE.X):=.nil
theorem qW (n:Nat):fT Tryz.prog 46 tF pE (dL n) :=
 fU (Γ:=dB _ [(83,peM rG nU (dX n))] []) (an:=Xj n) (co:=[.gc [0]]) Tryz.func46 rfl (by kernel_rfl) eB (aZ (all_cons (eD (qC n)) (all_nil)) (bA)) mixed (aS _ _ rfl) (by kernel_rfl) (by kernel_rfl) (fun x=>by kernel_rfl)
end Go.Dec
