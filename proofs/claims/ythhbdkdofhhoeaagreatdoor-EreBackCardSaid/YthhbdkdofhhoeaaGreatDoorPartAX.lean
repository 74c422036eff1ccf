/- Part of a proof over this seat: a library of my own, and what it says of this seat. No statement is proved here. -/
import Derived.Test.YthhbdkdofhhoeaaGreatDoorProg
import Derived.Test.YthhbdkdofhhoeaaGreatDoorPartAW
import Derived.Test.YthhbdkdofhhoeaaGreatDoorPartAV
import Derived.Test.YthhbdkdofhhoeaaGreatDoorPartAR
import Derived.KernelRfl
namespace Go.Dec
open Go.Proofs
set_option linter.unusedVariables false
def tab:Tab:=[(3,⟨.int .i64,1,8,[.val (.int .i64) 0],some (.int .i64),false⟩),(4,⟨.bool,1,1,[.val .bool false],some .bool,false⟩),(5,⟨.int .u8,1,1,[.val (.int .u8) 0],some (.int .u8),false⟩),(9,⟨.str,1,16,[.val .str []],some .str,false⟩),(23,⟨.int .u64,1,8,[.val (.int .u64) 0],some (.int .u64),false⟩),(24,⟨.arr 4 23,4,32,[.val (.arr 4 (.int .u64)) ([0,0,0,0])],some (.arr 4 (.int .u64)),true⟩),(25,⟨.arr 4 23,4,32,[.val (.arr 4 (.int .u64)) ([0,0,0,0])],some (.arr 4 (.int .u64)),true⟩),(26,⟨.int .i64,1,8,[.val (.int .i64) 0],some (.int .i64),false⟩),(30,⟨.arr 256 4,256,256,[.val (.arr 256 .bool) (List.replicate 256 false)],some (.arr 256 .bool),true⟩),(35,⟨.slice 57,1,24,[.dD],some (.slice aG),false⟩),(38,⟨.slice 51,1,24,[.dD],some (.slice aG),false⟩),(51,⟨.struct [(0,3),(1,24),(5,3),(6,3),(7,3),(8,3),(9,3)],10,80,[.val (.int .i64) 0,.val (.arr 4 (.int .u64)) ([0,0,0,0]),.val (.int .i64) 0,.val (.int .i64) 0,.val (.int .i64) 0,.val (.int .i64) 0,.val (.int .i64) 0],some aG,true⟩),(57,⟨.struct [(0,3),(1,25),(5,3),(6,3),(7,3),(8,3),(9,3)],10,80,[.val (.int .i64) 0,.val (.arr 4 (.int .u64)) ([0,0,0,0]),.val (.int .i64) 0,.val (.int .i64) 0,.val (.int .i64) 0,.val (.int .i64) 0,.val (.int .i64) 0],some aG,true⟩),(61,⟨.ptr 63,1,8,[.lG],none,false⟩),(63,⟨.struct [(0,9),(1,3)],2,24,[.val .str [],.val (.int .i64) 0],some yBd,true⟩),(65,⟨.struct [(0,26),(1,3)],2,16,[.val (.int .i64) 0,.val (.int .i64) 0],some zBe,true⟩),(78,⟨.ptr 81,1,8,[.lG],none,false⟩),(79,⟨.arr 10 4,10,10,[.val (.arr 10 .bool) ([false,false,false,false,false,false,false,false,false,false])],some (.arr 10 .bool),true⟩),(81,⟨.struct [(0,9),(1,3),(2,35),(3,3),(4,79)],14,72,[.val .str [],.val (.int .i64) 0,.dD,.val (.int .i64) 0,.val (.arr 10 .bool) ([false,false,false,false,false,false,false,false,false,false])],some wY,false⟩),(85,⟨.struct [(0,38),(1,3),(2,79),(12,3),(13,26)],14,64,[.dD,.val (.int .i64) 0,.val (.arr 10 .bool) ([false,false,false,false,false,false,false,false,false,false]),.val (.int .i64) 0,.val (.int .i64) 0],some wZ,false⟩),(90,⟨.slice 9,1,24,[.dD],some (.slice .str),false⟩),(96,⟨.slice 5,1,24,[.dD],some (.slice (.int .u8)),false⟩),(105,⟨.slice 3,1,24,[.dD],some (.slice (.int .i64)),false⟩),(115,⟨.slice 25,1,24,[.dD],some (.slice (.arr 4 (.int .u64))),false⟩),(130,⟨.struct [(0,4),(1,3),(2,79),(12,4)],13,32,[.val .bool false,.val (.int .i64) 0,.val (.arr 10 .bool) ([false,false,false,false,false,false,false,false,false,false]),.val .bool false],some zBf,true⟩),(135,⟨.func,1,8,[.val .opq Value.nilFunc],some .opq,false⟩),(137,⟨.iface false,1,16,[.val .err false],some .err,false⟩)]
theorem fC:bI Tryz.prog tab:=Xl (by kernel_rfl)
theorem mixed:Tryz.prog.follows .mixedOrders=true:=by kernel_rfl
abbrev pI:List Ty:=[.str,.str]
abbrev jX:List Ty:=[.bool]
abbrev uT:List Ty:=[.str,.str]
abbrev qA:List Ty:=[.bool]
abbrev Yn:List Ty:=[.arr 4 (.int .u64)]
abbrev Nw:List Ty:=[.arr 4 (.int .u64)]
abbrev uD:Sh:=⟨2,[⟨0,false,[.ptr 0 0]⟩,⟨1,false,[.v .str]⟩],[.box 63 [.v .str,.v (.int .i64)]]⟩
abbrev qB:Sh:=⟨1,[⟨0,false,[.v .bool]⟩],[.box 63 [.v .str,.v (.int .i64)]]⟩
abbrev vR:Sh:=⟨2,[⟨0,false,[.ptr 0 0]⟩,⟨1,false,[.v .str]⟩],[.box 63 [.v .str,.v (.int .i64)]]⟩
abbrev rJ:Sh:=⟨1,[⟨0,false,[.v .bool]⟩],[.box 63 [.v .str,.v (.int .i64)]]⟩
abbrev vS:Sh:=⟨1,[⟨0,false,[.ptr 0 0]⟩],[.box 63 [.v .str,.v (.int .i64)]]⟩
abbrev vT:Sh:=⟨0,[],[.box 63 [.v .str,.v (.int .i64)]]⟩
abbrev vU:Sh:=⟨1,[⟨0,true,[.v (.int .i64),.v (.int .i64)]⟩],[.box 63 [.v .str,.v (.int .i64)]]⟩
abbrev Gc:List Ty:=[.int .u8,.int .u8]
abbrev zT:List Ty:=[.arr 4 (.int .u64)]
abbrev zDs:List Ty:=[.slice (.arr 4 (.int .u64))]
abbrev Vh:List Ty:=[.arr 4 (.int .u64)]
abbrev Vi:List Ty:=[.str]
abbrev Lp:List Ty:=[.arr 4 (.int .u64)]
abbrev zBj:List Ty:=[.str]
abbrev Ny:List Ty:=[.arr 4 (.int .u64),.bool]
abbrev Ej:Sh:=⟨3,[⟨0,false,[.ptr 0 0]⟩,⟨1,false,[.v .bool]⟩,⟨2,false,[.v .bool]⟩],[.box 63 [.v .str,.v (.int .i64)]]⟩
abbrev wJ:Sh:=⟨2,[⟨0,false,[.v (.int .u8)]⟩,⟨1,false,[.v .bool]⟩],[.box 63 [.v .str,.v (.int .i64)]]⟩
abbrev wK:Sh:=⟨1,[⟨0,true,[.v (.int .i64),.v (.int .i64)]⟩],[.box 63 [.v .str,.v (.int .i64)]]⟩
abbrev Lr:Sh:=⟨2,[⟨0,false,[.ptr 0 0]⟩,⟨1,false,[.v .bool]⟩],[.box 63 [.v .str,.v (.int .i64)]]⟩
abbrev Bo:Sh:=⟨1,[⟨0,true,[.v (.arr 4 (.int .u64))]⟩],[.box 63 [.v .str,.v (.int .i64)]]⟩
abbrev Bp:Sh:=⟨1,[⟨0,true,[.v (.int .i64),.v (.int .i64)]⟩],[.box 63 [.v .str,.v (.int .i64)]]⟩
abbrev Ls:Sh:=⟨2,[⟨0,false,[.ptr 0 0]⟩,⟨1,false,[.ptr 1 0]⟩],[.box 61 [.ptr 2 0],.box 25 [.v (.arr 4 (.int .u64))],.box 63 [.v .str,.v (.int .i64)]]⟩
abbrev Bq:Sh:=⟨0,[],[.box 61 [.ptr 2 0],.box 25 [.v (.arr 4 (.int .u64))],.box 63 [.v .str,.v (.int .i64)]]⟩
abbrev Br:Sh:=⟨1,[⟨0,true,[.v (.int .i64),.v (.int .i64)]⟩],[.box 61 [.ptr 2 0],.box 25 [.v (.arr 4 (.int .u64))],.box 63 [.v .str,.v (.int .i64)]]⟩
abbrev nQ:Sh:=⟨1,[⟨0,false,[.clo 45 [(0,0),(1,0)]]⟩],[.box 61 [.ptr 2 0],.box 25 [.v (.arr 4 (.int .u64))],.box 63 [.v .str,.v (.int .i64)]]⟩
abbrev nR:Sh:=⟨1,[⟨0,true,[.v (.int .i64),.v (.int .i64)]⟩],[.box 61 [.ptr 2 0],.box 25 [.v (.arr 4 (.int .u64))],.box 63 [.v .str,.v (.int .i64)]]⟩
abbrev Sj:List Ty:=[.str]
abbrev Hu:List Ty:=[.arr 4 (.int .u64),.int .i64,.int .i64]
abbrev Bt:List Ty:=[aG]
abbrev vV:List Ty:=[.int .i64]
abbrev Lu:List Ty:=[aG]
abbrev Bu:List Ty:=[aG]
abbrev Sk:List Ty:=[aG]
abbrev Hw:List Ty:=[.bool]
abbrev El:List Ty:=[.slice (.int .i64),.int .i64]
abbrev wL:List Ty:=[.int .i64]
abbrev zU:List Ty:=[.slice (.int .i64),.int .i64]
abbrev sH:List Ty:=[.bool]
abbrev zKt:List Ty:=[.slice aG,aG]
abbrev Yo:List Ty:=[.bool]
abbrev Wz:List Ty:=[.slice aG]
abbrev Kh:List Ty:=[.bool]
abbrev rM:Sh:=⟨7,[⟨0,false,[.v (.int .i64)]⟩,⟨1,false,[.ptr 0 0]⟩,⟨2,false,[.ptr 1 0]⟩,⟨3,false,[.ptr 2 0]⟩,⟨4,false,[.ptr 3 0]⟩,⟨5,false,[.ptr 4 0]⟩,⟨6,false,[.ptr 5 0]⟩],[.box 35 [.v (.slice aG)],.box 135 [.clo 142 [(0,0),(1,0),(2,0),(3,0),(4,0),(5,0)]],.box 3 [.v (.int .i64)],.box 4 [.v .bool],.box 79 [.v (.arr 10 .bool)],.box 4 [.v .bool]]⟩
abbrev oC:Sh:=⟨0,[],[.box 35 [.v (.slice aG)],.box 135 [.clo 142 [(0,0),(1,0),(2,0),(3,0),(4,0),(5,0)]],.box 3 [.v (.int .i64)],.box 4 [.v .bool],.box 79 [.v (.arr 10 .bool)],.box 4 [.v .bool]]⟩
abbrev Sl:List Ty:=[.slice aG]
abbrev Hy:List Ty:=[.int .i64,.bool,.bool]
abbrev Yp:List Ty:=[.slice aG]
abbrev Nz:List Ty:=[.int .i64,.bool,.bool]
abbrev zDt:List Ty:=[.slice aG]
abbrev Vj:List Ty:=[.bool]
abbrev zFu:List Ty:=[.int .u8]
abbrev Sm:List Ty:=[.str]
abbrev zKu:List Ty:=[.arr 4 (.int .u64),.int .u8]
abbrev Yq:List Ty:=[.bool]
abbrev zFv:List Ty:=[.str]
abbrev Sn:List Ty:=[.slice .str]
abbrev zFw:List Ty:=[.arr 4 (.int .u64)]
abbrev Sq:List Ty:=[.str]
abbrev Yr:List Ty:=[.slice aG]
abbrev Oa:List Ty:=[.str]
abbrev zBk:List Ty:=[.slice aG]
abbrev Oc:List Ty:=[.int .i64]
def xY (n:Nat):An (dK jX) := .nil
theorem vW (n:Nat):Pure Tryz.prog 166 pI jX (iH n) :=
 dR (Γ:=dP _ [] []) (an:=xY n) Tryz.func166 rfl (by kernel_rfl) fC (bC (all_nil) (bD)) mixed (aU _ _ rfl) (fun x=>by kernel_rfl)
def Qe (n:Nat):An (dK qA) := .nil
theorem xA (n:Nat):Pure Tryz.prog 131 uT qA (strings_HasPrefix n) :=
 dR (Γ:=dP _ [(166,dF pI jX (iH n))] []) (an:=Qe n) Tryz.func131 rfl (by kernel_rfl) fC (bC (all_cons (aV (vW n)) (all_nil)) (bD)) mixed (aU _ _ rfl) (fun x=>by kernel_rfl)
def zVl (n:Nat):An (dK Nw):=(.mk .nil (.mk (.mk .nil (.mk (.loop ⟨15,[⟨1,false,[.ptr 0 0]⟩,⟨2,false,[.ptr 1 0]⟩,⟨4,false,[.v (.int .i64)]⟩],[.box 25 [.v (.arr 4 (.int .u64))],.box 25 [.v (.arr 4 (.int .u64))]]⟩ [.keep [false,true,true,false,true],.gcA 0,.gcA 0] [.keep [false,true,true,false,true],.gcA 0,.gcA 0] n .nil) .nil []) []) .nil []) [])
theorem Sr (n:Nat):Pure Tryz.prog 50 Yn Nw (Gm n) :=
 dR (Γ:=dP _ [] []) (an:=zVl n) Tryz.func50 rfl (by kernel_rfl) fC (bC (all_nil) (bD)) mixed (aU _ _ rfl) (fun x=>by kernel_rfl)
def Yt (n:Nat):An (qB.X) := .nil
theorem sI (n:Nat):gM Tryz.prog 83 uD qB (fA n) :=
 gP (Γ:=dP _ [(131,dF uT qA (strings_HasPrefix n))] []) (an:=Yt n) (co:=[.gc [0]]) Tryz.func83 rfl (by kernel_rfl) fC (bC (all_cons (aV (xA n)) (all_nil)) (bD)) mixed (aU _ _ rfl) (by kernel_rfl) (by kernel_rfl) (fun x=>by kernel_rfl)
def zBl (n:Nat):An (rJ.X) := .nil
theorem tL (n:Nat):gM Tryz.prog 46 vR rJ (dZ n) :=
 gP (Γ:=dP _ [(83,peM uD qB (fA n))] []) (an:=zBl n) (co:=[.gc [0]]) Tryz.func46 rfl (by kernel_rfl) fC (bC (all_cons (fB (sI n)) (all_nil)) (bD)) mixed (aU _ _ rfl) (by kernel_rfl) (by kernel_rfl) (fun x=>by kernel_rfl)
end Go.Dec
namespace Go.Dec
open Go.Proofs
set_option linter.unusedVariables false
theorem tN (n:Nat):zI Tryz.prog 47 vS vT 65 vU (bL n):=zBb (fun x=>⟨_,_,rfl,rfl,rfl⟩)
def zNy (n:Nat):An (dK zT):=(.mk .nil (.mk (.mk .nil (.mk (.loop ⟨24,[⟨1,false,[.v (.int .u8)]⟩,⟨4,false,[.ptr 0 0]⟩,⟨5,false,[.v (.int .i64)]⟩],[.box 25 [.v (.arr 4 (.int .u64))]]⟩ [.keep (kbm 6 50),.gcA 0,.gcA 0] [.keep (kbm 6 50),.gcA 0,.gcA 0] n .nil) .nil []) []) .nil []) [])
theorem Bv (n:Nat):Pure Tryz.prog 87 Gc zT (dL n) :=
 dR (Γ:=dP _ [] []) (an:=zNy n) Tryz.func87 rfl (by kernel_rfl) fC (bC (all_nil) (bD)) mixed (aU _ _ rfl) (fun x=>by kernel_rfl)
def zZg (n:Nat):An (dK Vh):=(.mk .nil (.mk (.mk .nil (.mk (.loop ⟨26,[⟨2,false,[.ptr 0 0]⟩,⟨6,false,[.v (.slice (.arr 4 (.int .u64)))]⟩,⟨7,false,[.v (.int .i64)]⟩,⟨8,false,[.v (.int .i64)]⟩],[.box 25 [.v (.arr 4 (.int .u64))]]⟩ [.keep (kbm 9 452),.gcA 0,.gcA 0] [.keep (kbm 9 452),.gcA 0,.gcA 0] n (.mk .nil (.mk .nil (.mk (.mk (.mk .nil (.mk .nil (.mk (.loop ⟨26,[⟨2,false,[.ptr 0 0]⟩,⟨4,false,[.ptr 1 0]⟩,⟨6,false,[.v (.slice (.arr 4 (.int .u64)))]⟩,⟨7,false,[.v (.int .i64)]⟩,⟨8,false,[.v (.int .i64)]⟩,⟨12,false,[.v (.int .i64)]⟩],[.box 25 [.v (.arr 4 (.int .u64))],.box 25 [.v (.arr 4 (.int .u64))]]⟩ [.keep (kbm 13 4564),.gcA 0,.gcA 0] [.keep (kbm 13 4564),.gcA 0,.gcA 0] n .nil) .nil []) []) []) .nil []) .nil []) []) [])) .nil []) []) .nil []) [])
theorem Xa (n:Nat):Pure Tryz.prog 48 zDs Vh (oL n) :=
 dR (Γ:=dP _ [] []) (an:=zZg n) Tryz.func48 rfl (by kernel_rfl) fC (bC (all_nil) (bD)) mixed (aU _ _ rfl) (fun x=>by kernel_rfl)
def zZh (n:Nat):An (dK Lp):=(.mk .nil (.mk (.mk .nil (.mk (.loop ⟨24,[⟨0,false,[.v .str]⟩,⟨2,false,[.ptr 0 0]⟩,⟨5,false,[.v (.int .i64)]⟩,⟨6,false,[.v (.int .i64)]⟩],[.box 25 [.v (.arr 4 (.int .u64))]]⟩ [.keep (kbm 7 101),.gcA 0,.gcA 0] [.keep (kbm 7 101),.gcA 0,.gcA 0] n .nil) .nil []) []) .nil []) [])
theorem Ki (n:Nat):Pure Tryz.prog 123 Vi Lp (sS n) :=
 dR (Γ:=dP _ [] []) (an:=zZh n) Tryz.func123 rfl (by kernel_rfl) fC (bC (all_nil) (bD)) mixed (aU _ _ rfl) (fun x=>by kernel_rfl)
def zNz (n:Nat):An (dK Ny) := .nil
theorem zDu (n:Nat):Pure Tryz.prog 85 zBj Ny (Dr n) :=
 dR (Γ:=dP _ [(87,dF Gc zT (dL n)),(48,dF zDs Vh (oL n)),(123,dF Vi Lp (sS n))] []) (an:=zNz n) Tryz.func85 rfl (by kernel_rfl) fC (bC (all_cons (aV (Bv n)) (all_cons (aV (Xa n)) (all_cons (aV (Ki n)) (all_nil)))) (bD)) mixed (aU _ _ rfl) (fun x=>by kernel_rfl)
def Sv (n:Nat):An (Sum wJ.X wK.X):=(.mk .nil (.mk (.mk .nil (.mk (.loop ⟨132,[⟨0,false,[.ptr 0 0]⟩,⟨1,false,[.v .bool]⟩,⟨2,false,[.v .bool]⟩,⟨12,false,[.own 1]⟩,⟨13,false,[.v (.int .i64)]⟩,⟨14,false,[.v (.int .i64)]⟩],[.box 63 [.v .str,.v (.int .i64)],.row 9 .str]⟩ [.keep (kbm 112 28679),.gcA 1,.gcA 1] [.keep (kbm 112 28679),.gcA 1,.gcA 1] n (.mk .nil (.mk .nil (.mk (.mk (.mk .nil (.mk .nil (.mk (.join ⟨132,[⟨0,false,[.ptr 0 0]⟩,⟨9,false,[.v .str]⟩],[.box 63 [.v .str,.v (.int .i64)]]⟩ [.keep (kbm 10 513),.gcA 1] .nil) .nil []) []) []) .nil []) .nil []) []) [])) .nil []) []) (.mk .nil (.mk (.join ⟨132,[⟨0,false,[.ptr 0 0]⟩,⟨1,false,[.v .bool]⟩,⟨11,false,[.v .bool]⟩],[.box 63 [.v .str,.v (.int .i64)]]⟩ [.keep (kbm 112 2051),.gcA 1] .nil) (.mk (.join ⟨132,[⟨0,false,[.ptr 0 0]⟩],[.box 63 [.v .str,.v (.int .i64)]]⟩ [.keep [true],.gcA 1] .nil) .nil []) []) []) []) [])
theorem Kj (n:Nat):zI Tryz.prog 86 Ej wJ 65 wK (lM n) :=
 Rp (Γ:=dP _ [(46,peM vR rJ (dZ n)),(131,dF uT qA (strings_HasPrefix n)),(83,peM uD qB (fA n))] [geP 47 vS vT 65 vU (bL n)]) (an:=Sv n) (co:=[.gc [0]]) (cp:=[.gc [0]]) Tryz.func86 rfl (by kernel_rfl) fC (bC (all_cons (fB (tL n)) (all_cons (aV (xA n)) (all_cons (fB (sI n)) (all_nil)))) (dI (Rq (tN n)) (bD))) mixed (aU _ _ rfl) (by kernel_rfl) (by kernel_rfl) (by kernel_rfl) (fun x=>by kernel_rfl)
def zBm (n:Nat):An (Sum Bo.X Bp.X) := .nil
theorem Qf (n:Nat):zI Tryz.prog 49 Lr Bo 65 Bp (mZ n) :=
 Rp (Γ:=dP _ [(46,peM vR rJ (dZ n)),(84,dF zK zL (strings_Cut n)),(85,dF zBj Ny (Dr n)),(83,peM uD qB (fA n)),(87,dF Gc zT (dL n))] [geP 47 vS vT 65 vU (bL n),geP 86 Ej wJ 65 wK (lM n)]) (an:=zBm n) (co:=[.gc [0]]) (cp:=[.gc [0]]) Tryz.func49 rfl (by kernel_rfl) fC (bC (all_cons (fB (tL n)) (all_cons (aV (xV n)) (all_cons (aV (zDu n)) (all_cons (fB (sI n)) (all_cons (aV (Bv n)) (all_nil)))))) (dI (Rq (tN n)) (dI (Rq (Kj n)) (bD)))) mixed (aU _ _ rfl) (by kernel_rfl) (by kernel_rfl) (by kernel_rfl) (fun x=>by kernel_rfl)
def zBn (n:Nat):An (Sum Bq.X Br.X):=(.mk .nil (.mk .nil (.mk (.mk .nil (.mk (.loop ⟨31,[⟨0,false,[.ptr 0 0]⟩,⟨1,false,[.ptr 1 0]⟩,⟨2,false,[.v .bool]⟩,⟨3,false,[.v .bool]⟩],[.box 61 [.ptr 2 0],.box 25 [.v (.arr 4 (.int .u64))],.box 63 [.v .str,.v (.int .i64)]]⟩ [.keep (kbm 16 15),.gcA 3,.gcA 3] [.keep (kbm 16 15),.gcA 3,.gcA 3] n .nil) .nil []) []) .nil []) []) [])
theorem Qg (n:Nat):zI Tryz.prog 45 Ls Bq 65 Br (kR n) :=
 Rp (Γ:=dP _ [(46,peM vR rJ (dZ n)),(48,dF zDs Vh (oL n)),(50,dF Yn Nw (Gm n))] [geP 47 vS vT 65 vU (bL n),geP 49 Lr Bo 65 Bp (mZ n)]) (an:=zBn n) (co:=[.gc [0,1,2]]) (cp:=[.gc [0,1,2]]) Tryz.func45 rfl (by kernel_rfl) fC (bC (all_cons (fB (tL n)) (all_cons (aV (Xa n)) (all_cons (aV (Sr n)) (all_nil)))) (dI (Rq (tN n)) (dI (Rq (Qf n)) (bD)))) mixed (aU _ _ rfl) (by kernel_rfl) (by kernel_rfl) (by kernel_rfl) (fun x=>by kernel_rfl)
theorem zV (n:Nat):gM Tryz.prog 44 nQ nR (fQ n) :=
 zNw (si:=nQ) (so:=nR) (sp:=Br) (sd:=Ls) (od:=Bq) (F:=kR n) (G:=fQ n) (conv:=fun x=>x) (o1:=fun y=>(0,0,y)) (o2:=fun z=>z) (Qg n) rfl (fun x=>⟨rfl,rfl⟩) (fun x=>by unfold fQ ob2;cases kR n x with|none=>rfl|some r=>cases r<;>rfl) (fun y=>⟨rfl,rfl⟩) (fun z=>⟨_,_,rfl,rfl⟩)
def zHa (n:Nat):An (dK Hu) := .nil
theorem Yu (n:Nat):Pure Tryz.prog 17 Sj Hu (qQ n) :=
 dR (Γ:=dP _ [(44,peM nQ nR (fQ n))] []) (an:=zHa n) Tryz.func17 rfl (by kernel_rfl) fC (bC (all_cons (fB (zV n)) (all_nil)) (bD)) mixed (aU _ _ rfl) (fun x=>by kernel_rfl)
end Go.Dec
