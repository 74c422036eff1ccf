/- Part of a proof over this seat: a library of my own, and what it says of this seat. No statement is proved here. -/
import Derived.Test.YthhbdkdofhhoeaaGreatDoorProg
import Derived.Test.YthhbdkdofhhoeaaGreatDoorPartAW
import Derived.Test.YthhbdkdofhhoeaaGreatDoorPartAV
import Derived.Test.YthhbdkdofhhoeaaGreatDoorPartAR
import Derived.KernelRfl
namespace Go.Dec
open Go.Proofs
set_option linter.unusedVariables false
def tab:Tab:=[(3,⟨.int .i64,1,8,[.val (.int .i64) 0],some (.int .i64),false⟩),(4,⟨.bool,1,1,[.val .bool false],some .bool,false⟩),(5,⟨.int .u8,1,1,[.val (.int .u8) 0],some (.int .u8),false⟩),(9,⟨.str,1,16,[.val .str []],some .str,false⟩),(23,⟨.int .u64,1,8,[.val (.int .u64) 0],some (.int .u64),false⟩),(24,⟨.arr 4 23,4,32,[.val (.arr 4 (.int .u64)) ([0,0,0,0])],some (.arr 4 (.int .u64)),true⟩),(25,⟨.arr 4 23,4,32,[.val (.arr 4 (.int .u64)) ([0,0,0,0])],some (.arr 4 (.int .u64)),true⟩),(26,⟨.int .i64,1,8,[.val (.int .i64) 0],some (.int .i64),false⟩),(30,⟨.arr 256 4,256,256,[.val (.arr 256 .bool) (List.replicate 256 false)],some (.arr 256 .bool),true⟩),(35,⟨.slice 57,1,24,[.bY],some (.slice aC),false⟩),(38,⟨.slice 51,1,24,[.bY],some (.slice aC),false⟩),(51,⟨.struct [(0,3),(1,24),(5,3),(6,3),(7,3),(8,3),(9,3)],10,80,[.val (.int .i64) 0,.val (.arr 4 (.int .u64)) ([0,0,0,0]),.val (.int .i64) 0,.val (.int .i64) 0,.val (.int .i64) 0,.val (.int .i64) 0,.val (.int .i64) 0],some aC,true⟩),(57,⟨.struct [(0,3),(1,25),(5,3),(6,3),(7,3),(8,3),(9,3)],10,80,[.val (.int .i64) 0,.val (.arr 4 (.int .u64)) ([0,0,0,0]),.val (.int .i64) 0,.val (.int .i64) 0,.val (.int .i64) 0,.val (.int .i64) 0,.val (.int .i64) 0],some aC,true⟩),(61,⟨.ptr 63,1,8,[.kJ],none,false⟩),(63,⟨.struct [(0,9),(1,3)],2,24,[.val .str [],.val (.int .i64) 0],some zWp,true⟩),(65,⟨.struct [(0,26),(1,3)],2,16,[.val (.int .i64) 0,.val (.int .i64) 0],some Yq,true⟩),(78,⟨.ptr 81,1,8,[.kJ],none,false⟩),(79,⟨.arr 10 4,10,10,[.val (.arr 10 .bool) ([false,false,false,false,false,false,false,false,false,false])],some (.arr 10 .bool),true⟩),(81,⟨.struct [(0,9),(1,3),(2,35),(3,3),(4,79)],14,72,[.val .str [],.val (.int .i64) 0,.bY,.val (.int .i64) 0,.val (.arr 10 .bool) ([false,false,false,false,false,false,false,false,false,false])],some vW,false⟩),(85,⟨.struct [(0,38),(1,3),(2,79),(12,3),(13,26)],14,64,[.bY,.val (.int .i64) 0,.val (.arr 10 .bool) ([false,false,false,false,false,false,false,false,false,false]),.val (.int .i64) 0,.val (.int .i64) 0],some vX,false⟩),(90,⟨.slice 9,1,24,[.bY],some (.slice .str),false⟩),(96,⟨.slice 5,1,24,[.bY],some (.slice (.int .u8)),false⟩),(105,⟨.slice 3,1,24,[.bY],some (.slice (.int .i64)),false⟩),(115,⟨.slice 25,1,24,[.bY],some (.slice (.arr 4 (.int .u64))),false⟩),(130,⟨.struct [(0,4),(1,3),(2,79),(12,4)],13,32,[.val .bool false,.val (.int .i64) 0,.val (.arr 10 .bool) ([false,false,false,false,false,false,false,false,false,false]),.val .bool false],some Yr,true⟩),(135,⟨.func,1,8,[.val .opq Value.nilFunc],some .opq,false⟩),(137,⟨.iface false,1,16,[.val .err false],some .err,false⟩)]
theorem eT:bC Tryz.prog tab:=Ul (by kernel_rfl)
theorem mixed:Tryz.prog.follows .mixedOrders=true:=by kernel_rfl
abbrev nY:List Ty:=[.str,.str]
abbrev jJ:List Ty:=[.bool]
abbrev tT:List Ty:=[.str,.str]
abbrev oQ:List Ty:=[.bool]
abbrev Vq:List Ty:=[.arr 4 (.int .u64)]
abbrev Lg:List Ty:=[.arr 4 (.int .u64)]
abbrev sQ:Sh:=⟨2,[⟨0,false,[.ptr 0 0]⟩,⟨1,false,[.v .str]⟩],[.box 63 [.v .str,.v (.int .i64)]]⟩
abbrev oU:Sh:=⟨1,[⟨0,false,[.v .bool]⟩],[.box 63 [.v .str,.v (.int .i64)]]⟩
abbrev uR:Sh:=⟨2,[⟨0,false,[.ptr 0 0]⟩,⟨1,false,[.v .str]⟩],[.box 63 [.v .str,.v (.int .i64)]]⟩
abbrev qE:Sh:=⟨1,[⟨0,false,[.v .bool]⟩],[.box 63 [.v .str,.v (.int .i64)]]⟩
abbrev uS:Sh:=⟨1,[⟨0,false,[.ptr 0 0]⟩],[.box 63 [.v .str,.v (.int .i64)]]⟩
abbrev uT:Sh:=⟨0,[],[.box 63 [.v .str,.v (.int .i64)]]⟩
abbrev uU:Sh:=⟨1,[⟨0,true,[.v (.int .i64),.v (.int .i64)]⟩],[.box 63 [.v .str,.v (.int .i64)]]⟩
abbrev Dn:List Ty:=[.int .u8,.int .u8]
abbrev yJ:List Ty:=[.arr 4 (.int .u64)]
abbrev zBg:List Ty:=[.slice (.arr 4 (.int .u64))]
abbrev Sg:List Ty:=[.arr 4 (.int .u64)]
abbrev Si:List Ty:=[.str]
abbrev Jg:List Ty:=[.arr 4 (.int .u64)]
abbrev Yw:List Ty:=[.str]
abbrev Lh:List Ty:=[.arr 4 (.int .u64),.bool]
abbrev Cg:Sh:=⟨3,[⟨0,false,[.ptr 0 0]⟩,⟨1,false,[.v .bool]⟩,⟨2,false,[.v .bool]⟩],[.box 63 [.v .str,.v (.int .i64)]]⟩
abbrev vJ:Sh:=⟨2,[⟨0,false,[.v (.int .u8)]⟩,⟨1,false,[.v .bool]⟩],[.box 63 [.v .str,.v (.int .i64)]]⟩
abbrev vK:Sh:=⟨1,[⟨0,true,[.v (.int .i64),.v (.int .i64)]⟩],[.box 63 [.v .str,.v (.int .i64)]]⟩
abbrev Jh:Sh:=⟨2,[⟨0,false,[.ptr 0 0]⟩,⟨1,false,[.v .bool]⟩],[.box 63 [.v .str,.v (.int .i64)]]⟩
abbrev zQ:Sh:=⟨1,[⟨0,true,[.v (.arr 4 (.int .u64))]⟩],[.box 63 [.v .str,.v (.int .i64)]]⟩
abbrev zR:Sh:=⟨1,[⟨0,true,[.v (.int .i64),.v (.int .i64)]⟩],[.box 63 [.v .str,.v (.int .i64)]]⟩
abbrev Ji:Sh:=⟨2,[⟨0,false,[.ptr 0 0]⟩,⟨1,false,[.ptr 1 0]⟩],[.box 61 [.ptr 2 0],.box 25 [.v (.arr 4 (.int .u64))],.box 63 [.v .str,.v (.int .i64)]]⟩
abbrev zS:Sh:=⟨0,[],[.box 61 [.ptr 2 0],.box 25 [.v (.arr 4 (.int .u64))],.box 63 [.v .str,.v (.int .i64)]]⟩
abbrev zT:Sh:=⟨1,[⟨0,true,[.v (.int .i64),.v (.int .i64)]⟩],[.box 61 [.ptr 2 0],.box 25 [.v (.arr 4 (.int .u64))],.box 63 [.v .str,.v (.int .i64)]]⟩
abbrev mP:Sh:=⟨1,[⟨0,false,[.clo 45 [(0,0),(1,0)]]⟩],[.box 61 [.ptr 2 0],.box 25 [.v (.arr 4 (.int .u64))],.box 63 [.v .str,.v (.int .i64)]]⟩
abbrev mQ:Sh:=⟨1,[⟨0,true,[.v (.int .i64),.v (.int .i64)]⟩],[.box 61 [.ptr 2 0],.box 25 [.v (.arr 4 (.int .u64))],.box 63 [.v .str,.v (.int .i64)]]⟩
abbrev Pp:List Ty:=[.str]
abbrev Et:List Ty:=[.arr 4 (.int .u64),.int .i64,.int .i64]
abbrev zU:List Ty:=[aC]
abbrev uV:List Ty:=[.int .i64]
abbrev Jj:List Ty:=[aC]
abbrev zV:List Ty:=[aC]
abbrev Pq:List Ty:=[aC]
abbrev Eu:List Ty:=[.bool]
abbrev Ch:List Ty:=[.slice (.int .i64),.int .i64]
abbrev vL:List Ty:=[.int .i64]
abbrev yK:List Ty:=[.slice (.int .i64),.int .i64]
abbrev qY:List Ty:=[.bool]
abbrev zHx:List Ty:=[.slice aC,aC]
abbrev Vr:List Ty:=[.bool]
abbrev Ub:List Ty:=[.slice aC]
abbrev Hu:List Ty:=[.bool]
abbrev qF:Sh:=⟨7,[⟨0,false,[.v (.int .i64)]⟩,⟨1,false,[.ptr 0 0]⟩,⟨2,false,[.ptr 1 0]⟩,⟨3,false,[.ptr 2 0]⟩,⟨4,false,[.ptr 3 0]⟩,⟨5,false,[.ptr 4 0]⟩,⟨6,false,[.ptr 5 0]⟩],[.box 35 [.v (.slice aC)],.box 135 [.clo 142 [(0,0),(1,0),(2,0),(3,0),(4,0),(5,0)]],.box 3 [.v (.int .i64)],.box 4 [.v .bool],.box 79 [.v (.arr 10 .bool)],.box 4 [.v .bool]]⟩
abbrev nA:Sh:=⟨0,[],[.box 35 [.v (.slice aC)],.box 135 [.clo 142 [(0,0),(1,0),(2,0),(3,0),(4,0),(5,0)]],.box 3 [.v (.int .i64)],.box 4 [.v .bool],.box 79 [.v (.arr 10 .bool)],.box 4 [.v .bool]]⟩
abbrev Pv:List Ty:=[.slice aC]
abbrev Ev:List Ty:=[.int .i64,.bool,.bool]
abbrev Vs:List Ty:=[.slice aC]
abbrev Li:List Ty:=[.int .i64,.bool,.bool]
abbrev zBh:List Ty:=[.slice aC]
abbrev Sj:List Ty:=[.bool]
abbrev zDf:List Ty:=[.int .u8]
abbrev Pw:List Ty:=[.str]
abbrev zHy:List Ty:=[.arr 4 (.int .u64),.int .u8]
abbrev Vt:List Ty:=[.bool]
abbrev zDg:List Ty:=[.str]
abbrev Px:List Ty:=[.slice .str]
abbrev zDh:List Ty:=[.arr 4 (.int .u64)]
abbrev Py:List Ty:=[.str]
abbrev Vu:List Ty:=[.slice aC]
abbrev Lj:List Ty:=[.str]
abbrev Ll:List Ty:=[.slice aC]
abbrev Dp:List Ty:=[.int .i64]
def wS (n:Nat):An (cO jJ) := .nil
theorem uW(n:Nat):Pure Tryz.prog 166 nY jJ (gW n):=
 dH (Γ:=dD _ [] []) (an:=wS n) Tryz.func166 rfl (by kernel_rfl) eT (aZ (all_nil) (bA)) mixed (aT _ _ rfl) (λx=>by kernel_rfl)
def Mx (n:Nat):An (cO oQ) := .nil
theorem vY(n:Nat):Pure Tryz.prog 131 tT oQ (strings_HasPrefix n):=
 dH (Γ:=dD _ [(166,bZ nY jJ (gW n))] []) (an:=Mx n) Tryz.func131 rfl (by kernel_rfl) eT (aZ (all_cons (aU (uW n)) (all_nil)) (bA)) mixed (aT _ _ rfl) (λx=>by kernel_rfl)
def zRe (n:Nat):An (cO Lg):=(.mk .nil (.mk (.mk .nil (.mk (.loop ⟨15,[⟨1,false,[.ptr 0 0]⟩,⟨2,false,[.ptr 1 0]⟩,⟨4,false,[.v (.int .i64)]⟩],[.box 25 [.v (.arr 4 (.int .u64))],.box 25 [.v (.arr 4 (.int .u64))]]⟩ [.keep [false,true,true,false,true],.gcA 0,.gcA 0] [.keep [false,true,true,false,true],.gcA 0,.gcA 0] n .nil) .nil []) []) .nil []) [])
theorem Pz(n:Nat):Pure Tryz.prog 50 Vq Lg (Dx n):=
 dH (Γ:=dD _ [] []) (an:=zRe n) Tryz.func50 rfl (by kernel_rfl) eT (aZ (all_nil) (bA)) mixed (aT _ _ rfl) (λx=>by kernel_rfl)
def Vv (n:Nat):An (oU.X) := .nil
theorem qZ(n:Nat):gB Tryz.prog 83 sQ oU (eH n):=
 gD (Γ:=dD _ [(131,bZ tT oQ (strings_HasPrefix n))] []) (an:=Vv n) (co:=[.gc [0]]) Tryz.func83 rfl (by kernel_rfl) eT (aZ (all_cons (aU (vY n)) (all_nil)) (bA)) mixed (aT _ _ rfl) (by kernel_rfl) (by kernel_rfl) (λx=>by kernel_rfl)
def Yx (n:Nat):An (qE.X) := .nil
theorem sG(n:Nat):gB Tryz.prog 46 uR qE (dR n):=
 gD (Γ:=dD _ [(83,peM sQ oU (eH n))] []) (an:=Yx n) (co:=[.gc [0]]) Tryz.func46 rfl (by kernel_rfl) eT (aZ (all_cons (eP (qZ n)) (all_nil)) (bA)) mixed (aT _ _ rfl) (by kernel_rfl) (by kernel_rfl) (λx=>by kernel_rfl)
end Go.Dec
namespace Go.Dec
open Go.Proofs
set_option linter.unusedVariables false
theorem sH(n:Nat):xY Tryz.prog 47 uS uT 65 uU (bE n):=Yn (λx=>⟨_,_,rfl,rfl,rfl⟩)
def zKn (n:Nat):An (cO yJ):=(.mk .nil (.mk (.mk .nil (.mk (.loop ⟨24,[⟨1,false,[.v (.int .u8)]⟩,⟨4,false,[.ptr 0 0]⟩,⟨5,false,[.v (.int .i64)]⟩],[.box 25 [.v (.arr 4 (.int .u64))]]⟩ [.keep (kbm 6 50),.gcA 0,.gcA 0] [.keep (kbm 6 50),.gcA 0,.gcA 0] n .nil) .nil []) []) .nil []) [])
theorem zW(n:Nat):Pure Tryz.prog 87 Dn yJ (cZ n):=
 dH (Γ:=dD _ [] []) (an:=zKn n) Tryz.func87 rfl (by kernel_rfl) eT (aZ (all_nil) (bA)) mixed (aT _ _ rfl) (λx=>by kernel_rfl)
def zUv (n:Nat):An (cO Sg):=(.mk .nil (.mk (.mk .nil (.mk (.loop ⟨26,[⟨2,false,[.ptr 0 0]⟩,⟨6,false,[.v (.slice (.arr 4 (.int .u64)))]⟩,⟨7,false,[.v (.int .i64)]⟩,⟨8,false,[.v (.int .i64)]⟩],[.box 25 [.v (.arr 4 (.int .u64))]]⟩ [.keep (kbm 9 452),.gcA 0,.gcA 0] [.keep (kbm 9 452),.gcA 0,.gcA 0] n (.mk .nil (.mk .nil (.mk (.mk (.mk .nil (.mk .nil (.mk (.loop ⟨26,[⟨2,false,[.ptr 0 0]⟩,⟨4,false,[.ptr 1 0]⟩,⟨6,false,[.v (.slice (.arr 4 (.int .u64)))]⟩,⟨7,false,[.v (.int .i64)]⟩,⟨8,false,[.v (.int .i64)]⟩,⟨12,false,[.v (.int .i64)]⟩],[.box 25 [.v (.arr 4 (.int .u64))],.box 25 [.v (.arr 4 (.int .u64))]]⟩ [.keep (kbm 13 4564),.gcA 0,.gcA 0] [.keep (kbm 13 4564),.gcA 0,.gcA 0] n .nil) .nil []) []) []) .nil []) .nil []) []) [])) .nil []) []) .nil []) [])
theorem Uc(n:Nat):Pure Tryz.prog 48 zBg Sg (nJ n):=
 dH (Γ:=dD _ [] []) (an:=zUv n) Tryz.func48 rfl (by kernel_rfl) eT (aZ (all_nil) (bA)) mixed (aT _ _ rfl) (λx=>by kernel_rfl)
def zUw (n:Nat):An (cO Jg):=(.mk .nil (.mk (.mk .nil (.mk (.loop ⟨24,[⟨0,false,[.v .str]⟩,⟨2,false,[.ptr 0 0]⟩,⟨5,false,[.v (.int .i64)]⟩,⟨6,false,[.v (.int .i64)]⟩],[.box 25 [.v (.arr 4 (.int .u64))]]⟩ [.keep (kbm 7 101),.gcA 0,.gcA 0] [.keep (kbm 7 101),.gcA 0,.gcA 0] n .nil) .nil []) []) .nil []) [])
theorem Hw(n:Nat):Pure Tryz.prog 123 Si Jg (rQ n):=
 dH (Γ:=dD _ [] []) (an:=zUw n) Tryz.func123 rfl (by kernel_rfl) eT (aZ (all_nil) (bA)) mixed (aT _ _ rfl) (λx=>by kernel_rfl)
def zKo (n:Nat):An (cO Lh) := .nil
theorem zBi(n:Nat):Pure Tryz.prog 85 Yw Lh (Bj n):=
 dH (Γ:=dD _ [(87,bZ Dn yJ (cZ n)),(48,bZ zBg Sg (nJ n)),(123,bZ Si Jg (rQ n))] []) (an:=zKo n) Tryz.func85 rfl (by kernel_rfl) eT (aZ (all_cons (aU (zW n)) (all_cons (aU (Uc n)) (all_cons (aU (Hw n)) (all_nil)))) (bA)) mixed (aT _ _ rfl) (λx=>by kernel_rfl)
def Qa (n:Nat):An (Sum vJ.X vK.X):=(.mk .nil (.mk (.mk .nil (.mk (.loop ⟨132,[⟨0,false,[.ptr 0 0]⟩,⟨1,false,[.v .bool]⟩,⟨2,false,[.v .bool]⟩,⟨12,false,[.own 1]⟩,⟨13,false,[.v (.int .i64)]⟩,⟨14,false,[.v (.int .i64)]⟩],[.box 63 [.v .str,.v (.int .i64)],.row 9 .str]⟩ [.keep (kbm 112 28679),.gcA 1,.gcA 1] [.keep (kbm 112 28679),.gcA 1,.gcA 1] n (.mk .nil (.mk .nil (.mk (.mk (.mk .nil (.mk .nil (.mk (.join ⟨132,[⟨0,false,[.ptr 0 0]⟩,⟨9,false,[.v .str]⟩],[.box 63 [.v .str,.v (.int .i64)]]⟩ [.keep (kbm 10 513),.gcA 1] .nil) .nil []) []) []) .nil []) .nil []) []) [])) .nil []) []) (.mk .nil (.mk (.join ⟨132,[⟨0,false,[.ptr 0 0]⟩,⟨1,false,[.v .bool]⟩,⟨11,false,[.v .bool]⟩],[.box 63 [.v .str,.v (.int .i64)]]⟩ [.keep (kbm 112 2051),.gcA 1] .nil) (.mk (.join ⟨132,[⟨0,false,[.ptr 0 0]⟩],[.box 63 [.v .str,.v (.int .i64)]]⟩ [.keep [true],.gcA 1] .nil) .nil []) []) []) []) [])
theorem Hy(n:Nat):xY Tryz.prog 86 Cg vJ 65 vK (kN n):=
 Ot (Γ:=dD _ [(46,peM uR qE (dR n)),(131,bZ tT oQ (strings_HasPrefix n)),(83,peM sQ oU (eH n))] [geP 47 uS uT 65 uU (bE n)]) (an:=Qa n) (co:=[.gc [0]]) (cp:=[.gc [0]]) Tryz.func86 rfl (by kernel_rfl) eT (aZ (all_cons (eP (sG n)) (all_cons (aU (vY n)) (all_cons (eP (qZ n)) (all_nil)))) (cK (Ou (sH n)) (bA))) mixed (aT _ _ rfl) (by kernel_rfl) (by kernel_rfl) (by kernel_rfl) (λx=>by kernel_rfl)
def Yy (n:Nat):An (Sum zQ.X zR.X) := .nil
theorem Na(n:Nat):xY Tryz.prog 49 Jh zQ 65 zR (lX n):=
 Ot (Γ:=dD _ [(46,peM uR qE (dR n)),(84,bZ yA yB (strings_Cut n)),(85,bZ Yw Lh (Bj n)),(83,peM sQ oU (eH n)),(87,bZ Dn yJ (cZ n))] [geP 47 uS uT 65 uU (bE n),geP 86 Cg vJ 65 vK (kN n)]) (an:=Yy n) (co:=[.gc [0]]) (cp:=[.gc [0]]) Tryz.func49 rfl (by kernel_rfl) eT (aZ (all_cons (eP (sG n)) (all_cons (aU (wP n)) (all_cons (aU (zBi n)) (all_cons (eP (qZ n)) (all_cons (aU (zW n)) (all_nil)))))) (cK (Ou (sH n)) (cK (Ou (Hy n)) (bA)))) mixed (aT _ _ rfl) (by kernel_rfl) (by kernel_rfl) (by kernel_rfl) (λx=>by kernel_rfl)
def Yz (n:Nat):An (Sum zS.X zT.X):=(.mk .nil (.mk .nil (.mk (.mk .nil (.mk (.loop ⟨31,[⟨0,false,[.ptr 0 0]⟩,⟨1,false,[.ptr 1 0]⟩,⟨2,false,[.v .bool]⟩,⟨3,false,[.v .bool]⟩],[.box 61 [.ptr 2 0],.box 25 [.v (.arr 4 (.int .u64))],.box 63 [.v .str,.v (.int .i64)]]⟩ [.keep (kbm 16 15),.gcA 3,.gcA 3] [.keep (kbm 16 15),.gcA 3,.gcA 3] n .nil) .nil []) []) .nil []) []) [])
theorem Nb(n:Nat):xY Tryz.prog 45 Ji zS 65 zT (jX n):=
 Ot (Γ:=dD _ [(46,peM uR qE (dR n)),(48,bZ zBg Sg (nJ n)),(50,bZ Vq Lg (Dx n))] [geP 47 uS uT 65 uU (bE n),geP 49 Jh zQ 65 zR (lX n)]) (an:=Yz n) (co:=[.gc [0,1,2]]) (cp:=[.gc [0,1,2]]) Tryz.func45 rfl (by kernel_rfl) eT (aZ (all_cons (eP (sG n)) (all_cons (aU (Uc n)) (all_cons (aU (Pz n)) (all_nil)))) (cK (Ou (sH n)) (cK (Ou (Na n)) (bA)))) mixed (aT _ _ rfl) (by kernel_rfl) (by kernel_rfl) (by kernel_rfl) (λx=>by kernel_rfl)
theorem yL(n:Nat):gB Tryz.prog 44 mP mQ (fI n):=
 zKl (si:=mP) (so:=mQ) (sp:=zT) (sd:=Ji) (od:=zS) (F:=jX n) (G:=fI n) (conv:=λx=>x) (o1:=λy=>(0,0,y)) (o2:=λz=>z) (Nb n) rfl (λx=>⟨rfl,rfl⟩) (λx=>by unfold fI ob2;cases jX n x with|none=>rfl|some r=>cases r<;>rfl) (λy=>⟨rfl,rfl⟩) (λz=>⟨_,_,rfl,rfl⟩)
def zEh (n:Nat):An (cO Et) := .nil
theorem Vw(n:Nat):Pure Tryz.prog 17 Pp Et (pQ n):=
 dH (Γ:=dD _ [(44,peM mP mQ (fI n))] []) (an:=zEh n) Tryz.func17 rfl (by kernel_rfl) eT (aZ (all_cons (eP (yL n)) (all_nil)) (bA)) mixed (aT _ _ rfl) (λx=>by kernel_rfl)
end Go.Dec
