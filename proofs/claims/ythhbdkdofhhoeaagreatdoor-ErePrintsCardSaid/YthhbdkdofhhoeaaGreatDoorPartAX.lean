/- Part of a proof over this seat: a library of my own, and what it says of this seat. No statement is proved here. -/
import Derived.Test.YthhbdkdofhhoeaaGreatDoorProg
import Derived.Test.YthhbdkdofhhoeaaGreatDoorPartAW
import Derived.Test.YthhbdkdofhhoeaaGreatDoorPartAV
import Derived.Test.YthhbdkdofhhoeaaGreatDoorPartAR
import Derived.KernelRfl
namespace Go.Dec
open Go.Proofs
set_option linter.unusedVariables false
def tab:Tab:=[(3,⟨.int .i64,1,8,[.val (.int .i64) 0],some (.int .i64),false⟩),(4,⟨.bool,1,1,[.val .bool false],some .bool,false⟩),(5,⟨.int .u8,1,1,[.val (.int .u8) 0],some (.int .u8),false⟩),(9,⟨.str,1,16,[.val .str []],some .str,false⟩),(23,⟨.int .u64,1,8,[.val (.int .u64) 0],some (.int .u64),false⟩),(24,⟨.arr 4 23,4,32,[.val (.arr 4 (.int .u64)) ([0,0,0,0])],some (.arr 4 (.int .u64)),true⟩),(25,⟨.arr 4 23,4,32,[.val (.arr 4 (.int .u64)) ([0,0,0,0])],some (.arr 4 (.int .u64)),true⟩),(26,⟨.int .i64,1,8,[.val (.int .i64) 0],some (.int .i64),false⟩),(30,⟨.arr 256 4,256,256,[.val (.arr 256 .bool) (List.replicate 256 false)],some (.arr 256 .bool),true⟩),(35,⟨.slice 57,1,24,[.dQ],some (.slice aD),false⟩),(38,⟨.slice 51,1,24,[.dQ],some (.slice aD),false⟩),(51,⟨.struct [(0,3),(1,24),(5,3),(6,3),(7,3),(8,3),(9,3)],10,80,[.val (.int .i64) 0,.val (.arr 4 (.int .u64)) ([0,0,0,0]),.val (.int .i64) 0,.val (.int .i64) 0,.val (.int .i64) 0,.val (.int .i64) 0,.val (.int .i64) 0],some aD,true⟩),(57,⟨.struct [(0,3),(1,25),(5,3),(6,3),(7,3),(8,3),(9,3)],10,80,[.val (.int .i64) 0,.val (.arr 4 (.int .u64)) ([0,0,0,0]),.val (.int .i64) 0,.val (.int .i64) 0,.val (.int .i64) 0,.val (.int .i64) 0,.val (.int .i64) 0],some aD,true⟩),(61,⟨.ptr 63,1,8,[.mZ],none,false⟩),(63,⟨.struct [(0,9),(1,3)],2,24,[.val .str [],.val (.int .i64) 0],some yPa,true⟩),(65,⟨.struct [(0,26),(1,3)],2,16,[.val (.int .i64) 0,.val (.int .i64) 0],some zKl,true⟩),(78,⟨.ptr 81,1,8,[.mZ],none,false⟩),(79,⟨.arr 10 4,10,10,[.val (.arr 10 .bool) ([false,false,false,false,false,false,false,false,false,false])],some (.arr 10 .bool),true⟩),(81,⟨.struct [(0,9),(1,3),(2,35),(3,3),(4,79)],14,72,[.val .str [],.val (.int .i64) 0,.dQ,.val (.int .i64) 0,.val (.arr 10 .bool) ([false,false,false,false,false,false,false,false,false,false])],some Aq,false⟩),(85,⟨.struct [(0,38),(1,3),(2,79),(12,3),(13,26)],14,64,[.dQ,.val (.int .i64) 0,.val (.arr 10 .bool) ([false,false,false,false,false,false,false,false,false,false]),.val (.int .i64) 0,.val (.int .i64) 0],some Ar,false⟩),(90,⟨.slice 9,1,24,[.dQ],some (.slice .str),false⟩),(96,⟨.slice 5,1,24,[.dQ],some (.slice (.int .u8)),false⟩),(105,⟨.slice 3,1,24,[.dQ],some (.slice (.int .i64)),false⟩),(115,⟨.slice 25,1,24,[.dQ],some (.slice (.arr 4 (.int .u64))),false⟩),(130,⟨.struct [(0,4),(1,3),(2,79),(12,4)],13,32,[.val .bool false,.val (.int .i64) 0,.val (.arr 10 .bool) ([false,false,false,false,false,false,false,false,false,false]),.val .bool false],some En,true⟩),(135,⟨.func,1,8,[.val .opq Value.nilFunc],some .opq,false⟩),(137,⟨.iface false,1,16,[.val .err false],some .err,false⟩)]
theorem bW:bS Tryz.prog tab:=zGh (by kernel_rfl)
theorem mixed:Tryz.prog.follows .mixedOrders=true:=by kernel_rfl
abbrev rP:List Ty:=[.str,.str]
abbrev lS:List Ty:=[.bool]
abbrev yE:List Ty:=[.str,.str]
abbrev sO:List Ty:=[.bool]
abbrev zHk:List Ty:=[.arr 4 (.int .u64)]
abbrev Ws:List Ty:=[.arr 4 (.int .u64)]
abbrev xO:Sh:=⟨2,[⟨0,false,[.ptr 0 0]⟩,⟨1,false,[.v .str]⟩],[.box 63 [.v .str,.v (.int .i64)]]⟩
abbrev sP:Sh:=⟨1,[⟨0,false,[.v .bool]⟩],[.box 63 [.v .str,.v (.int .i64)]]⟩
abbrev zJ:Sh:=⟨2,[⟨0,false,[.ptr 0 0]⟩,⟨1,false,[.v .str]⟩],[.box 63 [.v .str,.v (.int .i64)]]⟩
abbrev uQ:Sh:=⟨1,[⟨0,false,[.v .bool]⟩],[.box 63 [.v .str,.v (.int .i64)]]⟩
abbrev zK:Sh:=⟨1,[⟨0,false,[.ptr 0 0]⟩],[.box 63 [.v .str,.v (.int .i64)]]⟩
abbrev zL:Sh:=⟨0,[],[.box 63 [.v .str,.v (.int .i64)]]⟩
abbrev zM:Sh:=⟨1,[⟨0,true,[.v (.int .i64),.v (.int .i64)]⟩],[.box 63 [.v .str,.v (.int .i64)]]⟩
abbrev Na:List Ty:=[.int .u8,.int .u8]
abbrev Ez:List Ty:=[.arr 4 (.int .u64)]
abbrev zOi:List Ty:=[.slice (.arr 4 (.int .u64))]
abbrev zEc:List Ty:=[.arr 4 (.int .u64)]
abbrev zEd:List Ty:=[.str]
abbrev Uh:List Ty:=[.arr 4 (.int .u64)]
abbrev zKy:List Ty:=[.str]
abbrev Wu:List Ty:=[.arr 4 (.int .u64),.bool]
abbrev Lj:Sh:=⟨3,[⟨0,false,[.ptr 0 0]⟩,⟨1,false,[.v .bool]⟩,⟨2,false,[.v .bool]⟩],[.box 63 [.v .str,.v (.int .i64)]]⟩
abbrev Ac:Sh:=⟨2,[⟨0,false,[.v (.int .u8)]⟩,⟨1,false,[.v .bool]⟩],[.box 63 [.v .str,.v (.int .i64)]]⟩
abbrev Ad:Sh:=⟨1,[⟨0,true,[.v (.int .i64),.v (.int .i64)]⟩],[.box 63 [.v .str,.v (.int .i64)]]⟩
abbrev Ui:Sh:=⟨2,[⟨0,false,[.ptr 0 0]⟩,⟨1,false,[.v .bool]⟩],[.box 63 [.v .str,.v (.int .i64)]]⟩
abbrev Ht:Sh:=⟨1,[⟨0,true,[.v (.arr 4 (.int .u64))]⟩],[.box 63 [.v .str,.v (.int .i64)]]⟩
abbrev Hu:Sh:=⟨1,[⟨0,true,[.v (.int .i64),.v (.int .i64)]⟩],[.box 63 [.v .str,.v (.int .i64)]]⟩
abbrev Uj:Sh:=⟨2,[⟨0,false,[.ptr 0 0]⟩,⟨1,false,[.ptr 1 0]⟩],[.box 61 [.ptr 2 0],.box 25 [.v (.arr 4 (.int .u64))],.box 63 [.v .str,.v (.int .i64)]]⟩
abbrev Hw:Sh:=⟨0,[],[.box 61 [.ptr 2 0],.box 25 [.v (.arr 4 (.int .u64))],.box 63 [.v .str,.v (.int .i64)]]⟩
abbrev Hy:Sh:=⟨1,[⟨0,true,[.v (.int .i64),.v (.int .i64)]⟩],[.box 61 [.ptr 2 0],.box 25 [.v (.arr 4 (.int .u64))],.box 63 [.v .str,.v (.int .i64)]]⟩
abbrev pU:Sh:=⟨1,[⟨0,false,[.clo 45 [(0,0),(1,0)]]⟩],[.box 61 [.ptr 2 0],.box 25 [.v (.arr 4 (.int .u64))],.box 63 [.v .str,.v (.int .i64)]]⟩
abbrev pV:Sh:=⟨1,[⟨0,true,[.v (.int .i64),.v (.int .i64)]⟩],[.box 61 [.ptr 2 0],.box 25 [.v (.arr 4 (.int .u64))],.box 63 [.v .str,.v (.int .i64)]]⟩
abbrev zAx:List Ty:=[.str]
abbrev Ou:List Ty:=[.arr 4 (.int .u64),.int .i64,.int .i64]
abbrev Hz:List Ty:=[aD]
abbrev zN:List Ty:=[.int .i64]
abbrev Uk:List Ty:=[aD]
abbrev Ia:List Ty:=[aD]
abbrev zAy:List Ty:=[aD]
abbrev Ov:List Ty:=[.bool]
abbrev Ll:List Ty:=[.slice (.int .i64),.int .i64]
abbrev Ae:List Ty:=[.int .i64]
abbrev Fa:List Ty:=[.slice (.int .i64),.int .i64]
abbrev vS:List Ty:=[.bool]
abbrev zWr:List Ty:=[.slice aD,aD]
abbrev zHl:List Ty:=[.bool]
abbrev zFp:List Ty:=[.slice aD]
abbrev Si:List Ty:=[.bool]
abbrev uR:Sh:=⟨7,[⟨0,false,[.v (.int .i64)]⟩,⟨1,false,[.ptr 0 0]⟩,⟨2,false,[.ptr 1 0]⟩,⟨3,false,[.ptr 2 0]⟩,⟨4,false,[.ptr 3 0]⟩,⟨5,false,[.ptr 4 0]⟩,⟨6,false,[.ptr 5 0]⟩],[.box 35 [.v (.slice aD)],.box 135 [.clo 142 [(0,0),(1,0),(2,0),(3,0),(4,0),(5,0)]],.box 3 [.v (.int .i64)],.box 4 [.v .bool],.box 79 [.v (.arr 10 .bool)],.box 4 [.v .bool]]⟩
abbrev qF:Sh:=⟨0,[],[.box 35 [.v (.slice aD)],.box 135 [.clo 142 [(0,0),(1,0),(2,0),(3,0),(4,0),(5,0)]],.box 3 [.v (.int .i64)],.box 4 [.v .bool],.box 79 [.v (.arr 10 .bool)],.box 4 [.v .bool]]⟩
abbrev zAz:List Ty:=[.slice aD]
abbrev Ow:List Ty:=[.int .i64,.bool,.bool]
abbrev zHm:List Ty:=[.slice aD]
abbrev Wv:List Ty:=[.int .i64,.bool,.bool]
abbrev zOj:List Ty:=[.slice aD]
abbrev zEe:List Ty:=[.bool]
abbrev zQt:List Ty:=[.int .u8]
abbrev zBa:List Ty:=[.str]
abbrev zWs:List Ty:=[.arr 4 (.int .u64),.int .u8]
abbrev zHn:List Ty:=[.bool]
abbrev zQu:List Ty:=[.str]
abbrev zBb:List Ty:=[.slice .str]
abbrev zQv:List Ty:=[.arr 4 (.int .u64)]
abbrev zBc:List Ty:=[.str]
abbrev zWt:List Ty:=[.slice aD]
abbrev zHo:List Ty:=[.str]
abbrev zKz:List Ty:=[.slice aD]
abbrev Ww:List Ty:=[.int .i64]
abbrev zLa:List Ty:=[.arr 256 .bool]
abbrev Wx:List Ty:=[.arr 256 .bool]
abbrev Fb:List Ty:=[.arr 256 .bool]
abbrev yF:List Ty:=[.str]
abbrev Sj:List Ty:=[.arr 256 .bool]
abbrev Jd:List Ty:=[.int .i64]
abbrev Fe:List Ty:=[.int .u8,.int .u8]
abbrev yG:List Ty:=[.arr 256 .bool]
abbrev zBd:List Ty:=[.arr 256 .bool,.arr 256 .bool]
abbrev Rf:List Ty:=[.arr 256 .bool]
abbrev zBe:List Ty:=[.str]
abbrev Rh:List Ty:=[.arr 256 .bool]
abbrev zBf:List Ty:=[.str]
abbrev Ox:List Ty:=[.arr 256 .bool,.bool]
abbrev Yi:List Ty:=[.str,.int .i64,.bool,.bool]
abbrev Kz:List Ty:=[.int .u8,.int .i64,.bool]
abbrev Ul:List Ty:=[.str]
abbrev Ib:List Ty:=[.arr 256 .bool,.int .i64,.int .i64]
abbrev zBg:List Ty:=[.arr 256 .bool]
abbrev Oy:List Ty:=[.arr 4 (.int .u64)]
abbrev Yj:List Ty:=[aD]
abbrev La:List Ty:=[.bool]
abbrev yH:List Ty:=[.slice aD,.int .i64]
abbrev uS:List Ty:=[.int .i64]
abbrev uT:List Ty:=[.slice aD,.int .i64,En]
abbrev qG:List Ty:=[En]
abbrev zFq:List Ty:=[.slice aD]
abbrev Sk:List Ty:=[En]
abbrev zLb:List Ty:=[.slice aD]
abbrev Wy:List Ty:=[.bool]
abbrev zFr:List Ty:=[.arr 4 (.int .u64)]
abbrev Sl:List Ty:=[.arr 256 .bool]
abbrev uU:List Ty:=[.int .u64]
abbrev qH:List Ty:=[.str]
abbrev Yk:List Ty:=[.int .i64]
abbrev Lb:List Ty:=[.str]
abbrev zBh:List Ty:=[.str,.int .u8]
abbrev Ri:List Ty:=[.bool]
abbrev Um:List Ty:=[.int .u8,.str]
abbrev Ic:List Ty:=[.str]
abbrev zFs:List Ty:=[.arr 256 .bool]
abbrev Sm:List Ty:=[.str]
abbrev zBi:List Ty:=[.arr 256 .bool,.str]
abbrev Oz:List Ty:=[.str]
abbrev Yl:List Ty:=[.str,.int .i64]
abbrev Lc:List Ty:=[.int .i64,.int .i64]
abbrev zBj:List Ty:=[.str,.int .i64,.str]
abbrev Pf:List Ty:=[.int .i64,.int .i64,.int .i64]
abbrev zFt:List Ty:=[.slice aD,.slice aD]
abbrev Sn:List Ty:=[.bool]
def Cn (n:Nat):An (bF lS) := .nil
theorem zO(n:Nat):Pure Tryz.prog 166 rP lS (jJ n):=
 aX (Γ:=bK _ [] []) (an:=Cn n) Tryz.func166 rfl (by kernel_rfl) bW (aS (all_nil) (aT)) mixed (aO _ _ rfl) (λx=>by kernel_rfl)
def Yv (n:Nat):An (bF sO) := .nil
theorem Ay(n:Nat):Pure Tryz.prog 131 yE sO (strings_HasPrefix n):=
 aX (Γ:=bK _ [(166,bB rP lS (jJ n))] []) (an:=Yv n) Tryz.func131 rfl (by kernel_rfl) bW (aS (all_cons (aL (zO n)) (all_nil)) (aT)) mixed (aO _ _ rfl) (λx=>by kernel_rfl)
def yIq (n:Nat):An (bF Ws):=(.mk .nil (.mk (.mk .nil (.mk (.loop ⟨15,[⟨1,false,[.ptr 0 0]⟩,⟨2,false,[.ptr 1 0]⟩,⟨4,false,[.v (.int .i64)]⟩],[.box 25 [.v (.arr 4 (.int .u64))],.box 25 [.v (.arr 4 (.int .u64))]]⟩ [.keep [false,true,true,false,true],.gcA 0,.gcA 0] [.keep [false,true,true,false,true],.gcA 0,.gcA 0] n .nil) .nil []) []) .nil []) [])
theorem zBk(n:Nat):Pure Tryz.prog 50 zHk Ws (Nl n):=
 aX (Γ:=bK _ [] []) (an:=yIq n) Tryz.func50 rfl (by kernel_rfl) bW (aS (all_nil) (aT)) mixed (aO _ _ rfl) (λx=>by kernel_rfl)
def zHp (n:Nat):An (sP.X) := .nil
theorem vT(n:Nat):iW Tryz.prog 83 xO sP (gK n):=
 iX (Γ:=bK _ [(131,bB yE sO (strings_HasPrefix n))] []) (an:=zHp n) (co:=[.gc [0]]) Tryz.func83 rfl (by kernel_rfl) bW (aS (all_cons (aL (Ay n)) (all_nil)) (aT)) mixed (aO _ _ rfl) (by kernel_rfl) (by kernel_rfl) (λx=>by kernel_rfl)
def zLc (n:Nat):An (uQ.X) := .nil
theorem xA(n:Nat):iW Tryz.prog 46 zJ uQ (fD n):=
 iX (Γ:=bK _ [(83,peM xO sP (gK n))] []) (an:=zLc n) (co:=[.gc [0]]) Tryz.func46 rfl (by kernel_rfl) bW (aS (all_cons (gP (vT n)) (all_nil)) (aT)) mixed (aO _ _ rfl) (by kernel_rfl) (by kernel_rfl) (λx=>by kernel_rfl)
end Go.Dec
namespace Go.Dec
open Go.Proofs
set_option linter.unusedVariables false
theorem xB(n:Nat):Eh Tryz.prog 47 zK zL 65 zM (bV n):=zKi (λx=>⟨_,_,rfl,rfl,rfl⟩)
def yAh (n:Nat):An (bF Ez):=(.mk .nil (.mk (.mk .nil (.mk (.loop ⟨24,[⟨1,false,[.v (.int .u8)]⟩,⟨4,false,[.ptr 0 0]⟩,⟨5,false,[.v (.int .i64)]⟩],[.box 25 [.v (.arr 4 (.int .u64))]]⟩ [.keep (kbm 6 50),.gcA 0,.gcA 0] [.keep (kbm 6 50),.gcA 0,.gcA 0] n .nil) .nil []) []) .nil []) [])
theorem Ie(n:Nat):Pure Tryz.prog 87 Na Ez (eB n):=
 aX (Γ:=bK _ [] []) (an:=yAh n) Tryz.func87 rfl (by kernel_rfl) bW (aS (all_nil) (aT)) mixed (aO _ _ rfl) (λx=>by kernel_rfl)
def yNb (n:Nat):An (bF zEc):=(.mk .nil (.mk (.mk .nil (.mk (.loop ⟨26,[⟨2,false,[.ptr 0 0]⟩,⟨6,false,[.v (.slice (.arr 4 (.int .u64)))]⟩,⟨7,false,[.v (.int .i64)]⟩,⟨8,false,[.v (.int .i64)]⟩],[.box 25 [.v (.arr 4 (.int .u64))]]⟩ [.keep (kbm 9 452),.gcA 0,.gcA 0] [.keep (kbm 9 452),.gcA 0,.gcA 0] n (.mk .nil (.mk .nil (.mk (.mk (.mk .nil (.mk .nil (.mk (.loop ⟨26,[⟨2,false,[.ptr 0 0]⟩,⟨4,false,[.ptr 1 0]⟩,⟨6,false,[.v (.slice (.arr 4 (.int .u64)))]⟩,⟨7,false,[.v (.int .i64)]⟩,⟨8,false,[.v (.int .i64)]⟩,⟨12,false,[.v (.int .i64)]⟩],[.box 25 [.v (.arr 4 (.int .u64))],.box 25 [.v (.arr 4 (.int .u64))]]⟩ [.keep (kbm 13 4564),.gcA 0,.gcA 0] [.keep (kbm 13 4564),.gcA 0,.gcA 0] n .nil) .nil []) []) []) .nil []) .nil []) []) [])) .nil []) []) .nil []) [])
theorem zFu(n:Nat):Pure Tryz.prog 48 zOi zEc (qN n):=
 aX (Γ:=bK _ [] []) (an:=yNb n) Tryz.func48 rfl (by kernel_rfl) bW (aS (all_nil) (aT)) mixed (aO _ _ rfl) (λx=>by kernel_rfl)
def yNc (n:Nat):An (bF Uh):=(.mk .nil (.mk (.mk .nil (.mk (.loop ⟨24,[⟨0,false,[.v .str]⟩,⟨2,false,[.ptr 0 0]⟩,⟨5,false,[.v (.int .i64)]⟩,⟨6,false,[.v (.int .i64)]⟩],[.box 25 [.v (.arr 4 (.int .u64))]]⟩ [.keep (kbm 7 101),.gcA 0,.gcA 0] [.keep (kbm 7 101),.gcA 0,.gcA 0] n .nil) .nil []) []) .nil []) [])
theorem Sq(n:Nat):Pure Tryz.prog 123 zEd Uh (wI n):=
 aX (Γ:=bK _ [] []) (an:=yNc n) Tryz.func123 rfl (by kernel_rfl) bW (aS (all_nil) (aT)) mixed (aO _ _ rfl) (λx=>by kernel_rfl)
def yAi (n:Nat):An (bF Wu) := .nil
theorem zOk(n:Nat):Pure Tryz.prog 85 zKy Wu (Ka n):=
 aX (Γ:=bK _ [(87,bB Na Ez (eB n)),(48,bB zOi zEc (qN n)),(123,bB zEd Uh (wI n))] []) (an:=yAi n) Tryz.func85 rfl (by kernel_rfl) bW (aS (all_cons (aL (Ie n)) (all_cons (aL (zFu n)) (all_cons (aL (Sq n)) (all_nil)))) (aT)) mixed (aO _ _ rfl) (λx=>by kernel_rfl)
def zBl (n:Nat):An (Sum Ac.X Ad.X):=(.mk .nil (.mk (.mk .nil (.mk (.loop ⟨132,[⟨0,false,[.ptr 0 0]⟩,⟨1,false,[.v .bool]⟩,⟨2,false,[.v .bool]⟩,⟨12,false,[.own 1]⟩,⟨13,false,[.v (.int .i64)]⟩,⟨14,false,[.v (.int .i64)]⟩],[.box 63 [.v .str,.v (.int .i64)],.row 9 .str]⟩ [.keep (kbm 112 28679),.gcA 1,.gcA 1] [.keep (kbm 112 28679),.gcA 1,.gcA 1] n (.mk .nil (.mk .nil (.mk (.mk (.mk .nil (.mk .nil (.mk (.join ⟨132,[⟨0,false,[.ptr 0 0]⟩,⟨9,false,[.v .str]⟩],[.box 63 [.v .str,.v (.int .i64)]]⟩ [.keep (kbm 10 513),.gcA 1] .nil) .nil []) []) []) .nil []) .nil []) []) [])) .nil []) []) (.mk .nil (.mk (.join ⟨132,[⟨0,false,[.ptr 0 0]⟩,⟨1,false,[.v .bool]⟩,⟨11,false,[.v .bool]⟩],[.box 63 [.v .str,.v (.int .i64)]]⟩ [.keep (kbm 112 2051),.gcA 1] .nil) (.mk (.join ⟨132,[⟨0,false,[.ptr 0 0]⟩],[.box 63 [.v .str,.v (.int .i64)]]⟩ [.keep [true],.gcA 1] .nil) .nil []) []) []) []) [])
theorem Sr(n:Nat):Eh Tryz.prog 86 Lj Ac 65 Ad (nD n):=
 zAc (Γ:=bK _ [(46,peM zJ uQ (fD n)),(131,bB yE sO (strings_HasPrefix n)),(83,peM xO sP (gK n))] [geP 47 zK zL 65 zM (bV n)]) (an:=zBl n) (co:=[.gc [0]]) (cp:=[.gc [0]]) Tryz.func86 rfl (by kernel_rfl) bW (aS (all_cons (gP (xA n)) (all_cons (aL (Ay n)) (all_cons (gP (vT n)) (all_nil)))) (dU (zAd (xB n)) (aT))) mixed (aO _ _ rfl) (by kernel_rfl) (by kernel_rfl) (by kernel_rfl) (λx=>by kernel_rfl)
def zLd (n:Nat):An (Sum Ht.X Hu.X) := .nil
theorem Yw(n:Nat):Eh Tryz.prog 49 Ui Ht 65 Hu (oO n):=
 zAc (Γ:=bK _ [(46,peM zJ uQ (fD n)),(84,bB Ej El (strings_Cut n)),(85,bB zKy Wu (Ka n)),(83,peM xO sP (gK n)),(87,bB Na Ez (eB n))] [geP 47 zK zL 65 zM (bV n),geP 86 Lj Ac 65 Ad (nD n)]) (an:=zLd n) (co:=[.gc [0]]) (cp:=[.gc [0]]) Tryz.func49 rfl (by kernel_rfl) bW (aS (all_cons (gP (xA n)) (all_cons (aL (Ch n)) (all_cons (aL (zOk n)) (all_cons (gP (vT n)) (all_cons (aL (Ie n)) (all_nil)))))) (dU (zAd (xB n)) (dU (zAd (Sr n)) (aT)))) mixed (aO _ _ rfl) (by kernel_rfl) (by kernel_rfl) (by kernel_rfl) (λx=>by kernel_rfl)
def zLe (n:Nat):An (Sum Hw.X Hy.X):=(.mk .nil (.mk .nil (.mk (.mk .nil (.mk (.loop ⟨31,[⟨0,false,[.ptr 0 0]⟩,⟨1,false,[.ptr 1 0]⟩,⟨2,false,[.v .bool]⟩,⟨3,false,[.v .bool]⟩],[.box 61 [.ptr 2 0],.box 25 [.v (.arr 4 (.int .u64))],.box 63 [.v .str,.v (.int .i64)]]⟩ [.keep (kbm 16 15),.gcA 3,.gcA 3] [.keep (kbm 16 15),.gcA 3,.gcA 3] n .nil) .nil []) []) .nil []) []) [])
theorem Yx(n:Nat):Eh Tryz.prog 45 Uj Hw 65 Hy (mI n):=
 zAc (Γ:=bK _ [(46,peM zJ uQ (fD n)),(48,bB zOi zEc (qN n)),(50,bB zHk Ws (Nl n))] [geP 47 zK zL 65 zM (bV n),geP 49 Ui Ht 65 Hu (oO n)]) (an:=zLe n) (co:=[.gc [0,1,2]]) (cp:=[.gc [0,1,2]]) Tryz.func45 rfl (by kernel_rfl) bW (aS (all_cons (gP (xA n)) (all_cons (aL (zFu n)) (all_cons (aL (zBk n)) (all_nil)))) (dU (zAd (xB n)) (dU (zAd (Yw n)) (aT)))) mixed (aO _ _ rfl) (by kernel_rfl) (by kernel_rfl) (by kernel_rfl) (λx=>by kernel_rfl)
theorem Fg(n:Nat):iW Tryz.prog 44 pU pV (iI n):=
 yAf (si:=pU) (so:=pV) (sp:=Hy) (sd:=Uj) (od:=Hw) (F:=mI n) (G:=iI n) (conv:=λx=>x) (o1:=λy=>(0,0,y)) (o2:=λz=>z) (Yx n) rfl (λx=>⟨rfl,rfl⟩) (λx=>by unfold iI ob2;cases mI n x with|none=>rfl|some r=>cases r<;>rfl) (λy=>⟨rfl,rfl⟩) (λz=>⟨_,_,rfl,rfl⟩)
def zRu (n:Nat):An (bF Ou) := .nil
theorem zHq(n:Nat):Pure Tryz.prog 17 zAx Ou (tO n):=
 aX (Γ:=bK _ [(44,peM pU pV (iI n))] []) (an:=zRu n) Tryz.func17 rfl (by kernel_rfl) bW (aS (all_cons (gP (Fg n)) (all_nil)) (aT)) mixed (aO _ _ rfl) (λx=>by kernel_rfl)
end Go.Dec
