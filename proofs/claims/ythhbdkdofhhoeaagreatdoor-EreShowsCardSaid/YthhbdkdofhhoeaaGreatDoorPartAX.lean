/- Part of a proof over this seat: a library of my own, and what it says of this seat. No statement is proved here. -/
import Derived.Test.YthhbdkdofhhoeaaGreatDoorProg
import Derived.Test.YthhbdkdofhhoeaaGreatDoorPartAW
import Derived.Test.YthhbdkdofhhoeaaGreatDoorPartAV
import Derived.Test.YthhbdkdofhhoeaaGreatDoorPartAR
import Derived.KernelRfl
namespace Go.Dec
open Go.Proofs
set_option linter.unusedVariables false
def tab:Tab:=[(3,⟨.int .i64,1,8,[.val (.int .i64) 0],some (.int .i64),false⟩),(4,⟨.bool,1,1,[.val .bool false],some .bool,false⟩),(5,⟨.int .u8,1,1,[.val (.int .u8) 0],some (.int .u8),false⟩),(9,⟨.str,1,16,[.val .str []],some .str,false⟩),(23,⟨.int .u64,1,8,[.val (.int .u64) 0],some (.int .u64),false⟩),(24,⟨.arr 4 23,4,32,[.val (.arr 4 (.int .u64)) ([0,0,0,0])],some (.arr 4 (.int .u64)),true⟩),(25,⟨.arr 4 23,4,32,[.val (.arr 4 (.int .u64)) ([0,0,0,0])],some (.arr 4 (.int .u64)),true⟩),(26,⟨.int .i64,1,8,[.val (.int .i64) 0],some (.int .i64),false⟩),(30,⟨.arr 256 4,256,256,[.val (.arr 256 .bool) (List.replicate 256 false)],some (.arr 256 .bool),true⟩),(35,⟨.slice 57,1,24,[.dA],some (.slice aD),false⟩),(38,⟨.slice 51,1,24,[.dA],some (.slice aD),false⟩),(51,⟨.struct [(0,3),(1,24),(5,3),(6,3),(7,3),(8,3),(9,3)],10,80,[.val (.int .i64) 0,.val (.arr 4 (.int .u64)) ([0,0,0,0]),.val (.int .i64) 0,.val (.int .i64) 0,.val (.int .i64) 0,.val (.int .i64) 0,.val (.int .i64) 0],some aD,true⟩),(57,⟨.struct [(0,3),(1,25),(5,3),(6,3),(7,3),(8,3),(9,3)],10,80,[.val (.int .i64) 0,.val (.arr 4 (.int .u64)) ([0,0,0,0]),.val (.int .i64) 0,.val (.int .i64) 0,.val (.int .i64) 0,.val (.int .i64) 0,.val (.int .i64) 0],some aD,true⟩),(61,⟨.ptr 63,1,8,[.kE],none,false⟩),(63,⟨.struct [(0,9),(1,3)],2,24,[.val .str [],.val (.int .i64) 0],some zZw,true⟩),(65,⟨.struct [(0,26),(1,3)],2,16,[.val (.int .i64) 0,.val (.int .i64) 0],some zAy,true⟩),(78,⟨.ptr 81,1,8,[.kE],none,false⟩),(79,⟨.arr 10 4,10,10,[.val (.arr 10 .bool) ([false,false,false,false,false,false,false,false,false,false])],some (.arr 10 .bool),true⟩),(81,⟨.struct [(0,9),(1,3),(2,35),(3,3),(4,79)],14,72,[.val .str [],.val (.int .i64) 0,.dA,.val (.int .i64) 0,.val (.arr 10 .bool) ([false,false,false,false,false,false,false,false,false,false])],some vY,false⟩),(85,⟨.struct [(0,38),(1,3),(2,79),(12,3),(13,26)],14,64,[.dA,.val (.int .i64) 0,.val (.arr 10 .bool) ([false,false,false,false,false,false,false,false,false,false]),.val (.int .i64) 0,.val (.int .i64) 0],some vZ,false⟩),(90,⟨.slice 9,1,24,[.dA],some (.slice .str),false⟩),(96,⟨.slice 5,1,24,[.dA],some (.slice (.int .u8)),false⟩),(105,⟨.slice 3,1,24,[.dA],some (.slice (.int .i64)),false⟩),(115,⟨.slice 25,1,24,[.dA],some (.slice (.arr 4 (.int .u64))),false⟩),(130,⟨.struct [(0,4),(1,3),(2,79),(12,4)],13,32,[.val .bool false,.val (.int .i64) 0,.val (.arr 10 .bool) ([false,false,false,false,false,false,false,false,false,false]),.val .bool false],some zAz,true⟩),(135,⟨.func,1,8,[.val .opq Value.nilFunc],some .opq,false⟩),(137,⟨.iface false,1,16,[.val .err false],some .err,false⟩)]
theorem dL:bH Tryz.prog tab:=Xd (by kernel_rfl)
theorem mixed:Tryz.prog.follows .mixedOrders=true:=by kernel_rfl
abbrev nQ:List Ty:=[.str,.str]
abbrev jG:List Ty:=[.bool]
abbrev tQ:List Ty:=[.str,.str]
abbrev oG:List Ty:=[.bool]
abbrev Yh:List Ty:=[.arr 4 (.int .u64)]
abbrev Ng:List Ty:=[.arr 4 (.int .u64)]
abbrev sQ:Sh:=⟨2,[⟨0,false,[.ptr 0 0]⟩,⟨1,false,[.v .str]⟩],[.box 63 [.v .str,.v (.int .i64)]]⟩
abbrev oH:Sh:=⟨1,[⟨0,false,[.v .bool]⟩],[.box 63 [.v .str,.v (.int .i64)]]⟩
abbrev uQ:Sh:=⟨2,[⟨0,false,[.ptr 0 0]⟩,⟨1,false,[.v .str]⟩],[.box 63 [.v .str,.v (.int .i64)]]⟩
abbrev qB:Sh:=⟨1,[⟨0,false,[.v .bool]⟩],[.box 63 [.v .str,.v (.int .i64)]]⟩
abbrev uR:Sh:=⟨1,[⟨0,false,[.ptr 0 0]⟩],[.box 63 [.v .str,.v (.int .i64)]]⟩
abbrev uS:Sh:=⟨0,[],[.box 63 [.v .str,.v (.int .i64)]]⟩
abbrev uT:Sh:=⟨1,[⟨0,true,[.v (.int .i64),.v (.int .i64)]⟩],[.box 63 [.v .str,.v (.int .i64)]]⟩
abbrev Eo:List Ty:=[.int .u8,.int .u8]
abbrev yV:List Ty:=[.arr 4 (.int .u64)]
abbrev zDs:List Ty:=[.slice (.arr 4 (.int .u64))]
abbrev Uw:List Ty:=[.arr 4 (.int .u64)]
abbrev Ux:List Ty:=[.str]
abbrev Kw:List Ty:=[.arr 4 (.int .u64)]
abbrev zBi:List Ty:=[.str]
abbrev Nh:List Ty:=[.arr 4 (.int .u64),.bool]
abbrev Dj:Sh:=⟨3,[⟨0,false,[.ptr 0 0]⟩,⟨1,false,[.v .bool]⟩,⟨2,false,[.v .bool]⟩],[.box 63 [.v .str,.v (.int .i64)]]⟩
abbrev vI:Sh:=⟨2,[⟨0,false,[.v (.int .u8)]⟩,⟨1,false,[.v .bool]⟩],[.box 63 [.v .str,.v (.int .i64)]]⟩
abbrev vJ:Sh:=⟨1,[⟨0,true,[.v (.int .i64),.v (.int .i64)]⟩],[.box 63 [.v .str,.v (.int .i64)]]⟩
abbrev Ky:Sh:=⟨2,[⟨0,false,[.ptr 0 0]⟩,⟨1,false,[.v .bool]⟩],[.box 63 [.v .str,.v (.int .i64)]]⟩
abbrev Ah:Sh:=⟨1,[⟨0,true,[.v (.arr 4 (.int .u64))]⟩],[.box 63 [.v .str,.v (.int .i64)]]⟩
abbrev Ai:Sh:=⟨1,[⟨0,true,[.v (.int .i64),.v (.int .i64)]⟩],[.box 63 [.v .str,.v (.int .i64)]]⟩
abbrev Kz:Sh:=⟨2,[⟨0,false,[.ptr 0 0]⟩,⟨1,false,[.ptr 1 0]⟩],[.box 61 [.ptr 2 0],.box 25 [.v (.arr 4 (.int .u64))],.box 63 [.v .str,.v (.int .i64)]]⟩
abbrev Aj:Sh:=⟨0,[],[.box 61 [.ptr 2 0],.box 25 [.v (.arr 4 (.int .u64))],.box 63 [.v .str,.v (.int .i64)]]⟩
abbrev Ak:Sh:=⟨1,[⟨0,true,[.v (.int .i64),.v (.int .i64)]⟩],[.box 61 [.ptr 2 0],.box 25 [.v (.arr 4 (.int .u64))],.box 63 [.v .str,.v (.int .i64)]]⟩
abbrev mF:Sh:=⟨1,[⟨0,false,[.clo 45 [(0,0),(1,0)]]⟩],[.box 61 [.ptr 2 0],.box 25 [.v (.arr 4 (.int .u64))],.box 63 [.v .str,.v (.int .i64)]]⟩
abbrev mG:Sh:=⟨1,[⟨0,true,[.v (.int .i64),.v (.int .i64)]⟩],[.box 61 [.ptr 2 0],.box 25 [.v (.arr 4 (.int .u64))],.box 63 [.v .str,.v (.int .i64)]]⟩
abbrev Rm:List Ty:=[.str]
abbrev Gn:List Ty:=[.arr 4 (.int .u64),.int .i64,.int .i64]
abbrev Al:List Ty:=[aD]
abbrev uU:List Ty:=[.int .i64]
abbrev La:List Ty:=[aD]
abbrev Am:List Ty:=[aD]
abbrev Rn:List Ty:=[aD]
abbrev Gp:List Ty:=[.bool]
abbrev Dk:List Ty:=[.slice (.int .i64),.int .i64]
abbrev vK:List Ty:=[.int .i64]
abbrev yX:List Ty:=[.slice (.int .i64),.int .i64]
abbrev rA:List Ty:=[.bool]
abbrev zKn:List Ty:=[.slice aD,aD]
abbrev Yi:List Ty:=[.bool]
abbrev Wj:List Ty:=[.slice aD]
abbrev Jk:List Ty:=[.bool]
abbrev qC:Sh:=⟨7,[⟨0,false,[.v (.int .i64)]⟩,⟨1,false,[.ptr 0 0]⟩,⟨2,false,[.ptr 1 0]⟩,⟨3,false,[.ptr 2 0]⟩,⟨4,false,[.ptr 3 0]⟩,⟨5,false,[.ptr 4 0]⟩,⟨6,false,[.ptr 5 0]⟩],[.box 35 [.v (.slice aD)],.box 135 [.clo 142 [(0,0),(1,0),(2,0),(3,0),(4,0),(5,0)]],.box 3 [.v (.int .i64)],.box 4 [.v .bool],.box 79 [.v (.arr 10 .bool)],.box 4 [.v .bool]]⟩
abbrev mW:Sh:=⟨0,[],[.box 35 [.v (.slice aD)],.box 135 [.clo 142 [(0,0),(1,0),(2,0),(3,0),(4,0),(5,0)]],.box 3 [.v (.int .i64)],.box 4 [.v .bool],.box 79 [.v (.arr 10 .bool)],.box 4 [.v .bool]]⟩
abbrev Ro:List Ty:=[.slice aD]
abbrev Gq:List Ty:=[.int .i64,.bool,.bool]
abbrev Yj:List Ty:=[.slice aD]
abbrev Ni:List Ty:=[.int .i64,.bool,.bool]
abbrev zDt:List Ty:=[.slice aD]
abbrev Uy:List Ty:=[.bool]
abbrev zFl:List Ty:=[.int .u8]
abbrev Rp:List Ty:=[.str]
abbrev zKo:List Ty:=[.arr 4 (.int .u64),.int .u8]
abbrev Yk:List Ty:=[.bool]
abbrev zFm:List Ty:=[.str]
abbrev Rq:List Ty:=[.slice .str]
abbrev zFn:List Ty:=[.arr 4 (.int .u64)]
abbrev Rs:List Ty:=[.str]
abbrev zKp:List Ty:=[.slice aD]
abbrev Yl:List Ty:=[.str]
abbrev zBj:List Ty:=[.slice aD]
abbrev Nj:List Ty:=[.int .i64]
abbrev yY:List Ty:=[.arr 256 .bool]
abbrev tT:List Ty:=[.str]
abbrev Wm:List Ty:=[.arr 256 .bool]
abbrev Jl:List Ty:=[.int .i64]
abbrev Wn:List Ty:=[.arr 4 (.int .u64)]
abbrev Jm:List Ty:=[.arr 256 .bool]
abbrev Rt:List Ty:=[.str,.int .u8]
abbrev Ik:List Ty:=[.bool]
abbrev Lb:List Ty:=[.int .u8,.str]
abbrev Ao:List Ty:=[.str]
abbrev Wo:List Ty:=[.arr 256 .bool]
abbrev Jo:List Ty:=[.str]
abbrev Ru:List Ty:=[.arr 256 .bool,.str]
abbrev Gr:List Ty:=[.str]
abbrev wB:List Ty:=[.int .u64]
abbrev pE:List Ty:=[.int .i64]
abbrev zFo:List Ty:=[.arr 4 (.int .u64)]
abbrev Rv:List Ty:=[.int .i64]
def wZ (n:Nat):An (bW jG) := .nil
theorem uV(n:Nat):Pure Tryz.prog 166 nQ jG (gP n):=
 bT (Γ:=cB _ [] []) (an:=wZ n) Tryz.func166 rfl (by kernel_rfl) dL (aV (all_nil) (aW)) mixed (aN _ _ rfl) (λx=>by kernel_rfl)
def Pg (n:Nat):An (bW oG) := .nil
theorem wC(n:Nat):Pure Tryz.prog 131 tQ oG (strings_HasPrefix n):=
 bT (Γ:=cB _ [(166,bQ nQ jG (gP n))] []) (an:=Pg n) Tryz.func131 rfl (by kernel_rfl) dL (aV (all_cons (aO (uV n)) (all_nil)) (aW)) mixed (aN _ _ rfl) (λx=>by kernel_rfl)
def zUl (n:Nat):An (bW Ng):=(.mk .nil (.mk (.mk .nil (.mk (.loop ⟨15,[⟨1,false,[.ptr 0 0]⟩,⟨2,false,[.ptr 1 0]⟩,⟨4,false,[.v (.int .i64)]⟩],[.box 25 [.v (.arr 4 (.int .u64))],.box 25 [.v (.arr 4 (.int .u64))]]⟩ [.keep [false,true,true,false,true],.gcA 0,.gcA 0] [.keep [false,true,true,false,true],.gcA 0,.gcA 0] n .nil) .nil []) []) .nil []) [])
theorem Rw(n:Nat):Pure Tryz.prog 50 Yh Ng (Ey n):=
 bT (Γ:=cB _ [] []) (an:=zUl n) Tryz.func50 rfl (by kernel_rfl) dL (aV (all_nil) (aW)) mixed (aN _ _ rfl) (λx=>by kernel_rfl)
def Ym (n:Nat):An (oH.X) := .nil
theorem rC(n:Nat):fV Tryz.prog 83 sQ oH (eG n):=
 fZ (Γ:=cB _ [(131,bQ tQ oG (strings_HasPrefix n))] []) (an:=Ym n) (co:=[.gc [0]]) Tryz.func83 rfl (by kernel_rfl) dL (aV (all_cons (aO (wC n)) (all_nil)) (aW)) mixed (aN _ _ rfl) (by kernel_rfl) (by kernel_rfl) (λx=>by kernel_rfl)
def zBk (n:Nat):An (qB.X) := .nil
theorem sG(n:Nat):fV Tryz.prog 46 uQ qB (dR n):=
 fZ (Γ:=cB _ [(83,peM sQ oH (eG n))] []) (an:=zBk n) (co:=[.gc [0]]) Tryz.func46 rfl (by kernel_rfl) dL (aV (all_cons (eO (rC n)) (all_nil)) (aW)) mixed (aN _ _ rfl) (by kernel_rfl) (by kernel_rfl) (λx=>by kernel_rfl)
end Go.Dec
namespace Go.Dec
open Go.Proofs
set_option linter.unusedVariables false
theorem sH(n:Nat):yI Tryz.prog 47 uR uS 65 uT (bJ n):=zAv (λx=>⟨_,_,rfl,rfl,rfl⟩)
def zNc (n:Nat):An (bW yV):=(.mk .nil (.mk (.mk .nil (.mk (.loop ⟨24,[⟨1,false,[.v (.int .u8)]⟩,⟨4,false,[.ptr 0 0]⟩,⟨5,false,[.v (.int .i64)]⟩],[.box 25 [.v (.arr 4 (.int .u64))]]⟩ [.keep (kbm 6 50),.gcA 0,.gcA 0] [.keep (kbm 6 50),.gcA 0,.gcA 0] n .nil) .nil []) []) .nil []) [])
theorem Ap(n:Nat):Pure Tryz.prog 87 Eo yV (dH n):=
 bT (Γ:=cB _ [] []) (an:=zNc n) Tryz.func87 rfl (by kernel_rfl) dL (aV (all_nil) (aW)) mixed (aN _ _ rfl) (λx=>by kernel_rfl)
def zYh (n:Nat):An (bW Uw):=(.mk .nil (.mk (.mk .nil (.mk (.loop ⟨26,[⟨2,false,[.ptr 0 0]⟩,⟨6,false,[.v (.slice (.arr 4 (.int .u64)))]⟩,⟨7,false,[.v (.int .i64)]⟩,⟨8,false,[.v (.int .i64)]⟩],[.box 25 [.v (.arr 4 (.int .u64))]]⟩ [.keep (kbm 9 452),.gcA 0,.gcA 0] [.keep (kbm 9 452),.gcA 0,.gcA 0] n (.mk .nil (.mk .nil (.mk (.mk (.mk .nil (.mk .nil (.mk (.loop ⟨26,[⟨2,false,[.ptr 0 0]⟩,⟨4,false,[.ptr 1 0]⟩,⟨6,false,[.v (.slice (.arr 4 (.int .u64)))]⟩,⟨7,false,[.v (.int .i64)]⟩,⟨8,false,[.v (.int .i64)]⟩,⟨12,false,[.v (.int .i64)]⟩],[.box 25 [.v (.arr 4 (.int .u64))],.box 25 [.v (.arr 4 (.int .u64))]]⟩ [.keep (kbm 13 4564),.gcA 0,.gcA 0] [.keep (kbm 13 4564),.gcA 0,.gcA 0] n .nil) .nil []) []) []) .nil []) .nil []) []) [])) .nil []) []) .nil []) [])
theorem Wp(n:Nat):Pure Tryz.prog 48 zDs Uw (nG n):=
 bT (Γ:=cB _ [] []) (an:=zYh n) Tryz.func48 rfl (by kernel_rfl) dL (aV (all_nil) (aW)) mixed (aN _ _ rfl) (λx=>by kernel_rfl)
def zYi (n:Nat):An (bW Kw):=(.mk .nil (.mk (.mk .nil (.mk (.loop ⟨24,[⟨0,false,[.v .str]⟩,⟨2,false,[.ptr 0 0]⟩,⟨5,false,[.v (.int .i64)]⟩,⟨6,false,[.v (.int .i64)]⟩],[.box 25 [.v (.arr 4 (.int .u64))]]⟩ [.keep (kbm 7 101),.gcA 0,.gcA 0] [.keep (kbm 7 101),.gcA 0,.gcA 0] n .nil) .nil []) []) .nil []) [])
theorem Jp(n:Nat):Pure Tryz.prog 123 Ux Kw (rO n):=
 bT (Γ:=cB _ [] []) (an:=zYi n) Tryz.func123 rfl (by kernel_rfl) dL (aV (all_nil) (aW)) mixed (aN _ _ rfl) (λx=>by kernel_rfl)
def zNd (n:Nat):An (bW Nh) := .nil
theorem zDu(n:Nat):Pure Tryz.prog 85 zBi Nh (Cn n):=
 bT (Γ:=cB _ [(87,bQ Eo yV (dH n)),(48,bQ zDs Uw (nG n)),(123,bQ Ux Kw (rO n))] []) (an:=zNd n) Tryz.func85 rfl (by kernel_rfl) dL (aV (all_cons (aO (Ap n)) (all_cons (aO (Wp n)) (all_cons (aO (Jp n)) (all_nil)))) (aW)) mixed (aN _ _ rfl) (λx=>by kernel_rfl)
def Rx (n:Nat):An (Sum vI.X vJ.X):=(.mk .nil (.mk (.mk .nil (.mk (.loop ⟨132,[⟨0,false,[.ptr 0 0]⟩,⟨1,false,[.v .bool]⟩,⟨2,false,[.v .bool]⟩,⟨12,false,[.own 1]⟩,⟨13,false,[.v (.int .i64)]⟩,⟨14,false,[.v (.int .i64)]⟩],[.box 63 [.v .str,.v (.int .i64)],.row 9 .str]⟩ [.keep (kbm 112 28679),.gcA 1,.gcA 1] [.keep (kbm 112 28679),.gcA 1,.gcA 1] n (.mk .nil (.mk .nil (.mk (.mk (.mk .nil (.mk .nil (.mk (.join ⟨132,[⟨0,false,[.ptr 0 0]⟩,⟨9,false,[.v .str]⟩],[.box 63 [.v .str,.v (.int .i64)]]⟩ [.keep (kbm 10 513),.gcA 1] .nil) .nil []) []) []) .nil []) .nil []) []) [])) .nil []) []) (.mk .nil (.mk (.join ⟨132,[⟨0,false,[.ptr 0 0]⟩,⟨1,false,[.v .bool]⟩,⟨11,false,[.v .bool]⟩],[.box 63 [.v .str,.v (.int .i64)]]⟩ [.keep (kbm 112 2051),.gcA 1] .nil) (.mk (.join ⟨132,[⟨0,false,[.ptr 0 0]⟩],[.box 63 [.v .str,.v (.int .i64)]]⟩ [.keep [true],.gcA 1] .nil) .nil []) []) []) []) [])
theorem Jq(n:Nat):yI Tryz.prog 86 Dj vI 65 vJ (kI n):=
 Qs (Γ:=cB _ [(46,peM uQ qB (dR n)),(131,bQ tQ oG (strings_HasPrefix n)),(83,peM sQ oH (eG n))] [geP 47 uR uS 65 uT (bJ n)]) (an:=Rx n) (co:=[.gc [0]]) (cp:=[.gc [0]]) Tryz.func86 rfl (by kernel_rfl) dL (aV (all_cons (eO (sG n)) (all_cons (aO (wC n)) (all_cons (eO (rC n)) (all_nil)))) (dF (Qt (sH n)) (aW))) mixed (aN _ _ rfl) (by kernel_rfl) (by kernel_rfl) (by kernel_rfl) (λx=>by kernel_rfl)
def zBl (n:Nat):An (Sum Ah.X Ai.X) := .nil
theorem Ph(n:Nat):yI Tryz.prog 49 Ky Ah 65 Ai (lS n):=
 Qs (Γ:=cB _ [(46,peM uQ qB (dR n)),(84,bQ yK yL (strings_Cut n)),(85,bQ zBi Nh (Cn n)),(83,peM sQ oH (eG n)),(87,bQ Eo yV (dH n))] [geP 47 uR uS 65 uT (bJ n),geP 86 Dj vI 65 vJ (kI n)]) (an:=zBl n) (co:=[.gc [0]]) (cp:=[.gc [0]]) Tryz.func49 rfl (by kernel_rfl) dL (aV (all_cons (eO (sG n)) (all_cons (aO (wU n)) (all_cons (aO (zDu n)) (all_cons (eO (rC n)) (all_cons (aO (Ap n)) (all_nil)))))) (dF (Qt (sH n)) (dF (Qt (Jq n)) (aW)))) mixed (aN _ _ rfl) (by kernel_rfl) (by kernel_rfl) (by kernel_rfl) (λx=>by kernel_rfl)
def zBm (n:Nat):An (Sum Aj.X Ak.X):=(.mk .nil (.mk .nil (.mk (.mk .nil (.mk (.loop ⟨31,[⟨0,false,[.ptr 0 0]⟩,⟨1,false,[.ptr 1 0]⟩,⟨2,false,[.v .bool]⟩,⟨3,false,[.v .bool]⟩],[.box 61 [.ptr 2 0],.box 25 [.v (.arr 4 (.int .u64))],.box 63 [.v .str,.v (.int .i64)]]⟩ [.keep (kbm 16 15),.gcA 3,.gcA 3] [.keep (kbm 16 15),.gcA 3,.gcA 3] n .nil) .nil []) []) .nil []) []) [])
theorem Pj(n:Nat):yI Tryz.prog 45 Kz Aj 65 Ak (jT n):=
 Qs (Γ:=cB _ [(46,peM uQ qB (dR n)),(48,bQ zDs Uw (nG n)),(50,bQ Yh Ng (Ey n))] [geP 47 uR uS 65 uT (bJ n),geP 49 Ky Ah 65 Ai (lS n)]) (an:=zBm n) (co:=[.gc [0,1,2]]) (cp:=[.gc [0,1,2]]) Tryz.func45 rfl (by kernel_rfl) dL (aV (all_cons (eO (sG n)) (all_cons (aO (Wp n)) (all_cons (aO (Rw n)) (all_nil)))) (dF (Qt (sH n)) (dF (Qt (Ph n)) (aW)))) mixed (aN _ _ rfl) (by kernel_rfl) (by kernel_rfl) (by kernel_rfl) (λx=>by kernel_rfl)
theorem yZ(n:Nat):fV Tryz.prog 44 mF mG (fH n):=
 zNa (si:=mF) (so:=mG) (sp:=Ak) (sd:=Kz) (od:=Aj) (F:=jT n) (G:=fH n) (conv:=λx=>x) (o1:=λy=>(0,0,y)) (o2:=λz=>z) (Pj n) rfl (λx=>⟨rfl,rfl⟩) (λx=>by unfold fH ob2;cases jT n x with|none=>rfl|some r=>cases r<;>rfl) (λy=>⟨rfl,rfl⟩) (λz=>⟨_,_,rfl,rfl⟩)
def zGj (n:Nat):An (bW Gn) := .nil
theorem Yn(n:Nat):Pure Tryz.prog 17 Rm Gn (oZ n):=
 bT (Γ:=cB _ [(44,peM mF mG (fH n))] []) (an:=zGj n) Tryz.func17 rfl (by kernel_rfl) dL (aV (all_cons (eO (yZ n)) (all_nil)) (aW)) mixed (aN _ _ rfl) (λx=>by kernel_rfl)
end Go.Dec
