/- Part of a proof over this seat: a library of my own, and what it says of this seat. No statement is proved here. -/
import Derived.Test.YthhbdkdofhhoeaaGreatDoorProg
import Derived.Test.YthhbdkdofhhoeaaGreatDoorPartBC
import Derived.Test.YthhbdkdofhhoeaaGreatDoorPartBB
import Derived.Test.YthhbdkdofhhoeaaGreatDoorPartAS
import Derived.Test.YthhbdkdofhhoeaaGreatDoorPartAL
import Derived.Test.YthhbdkdofhhoeaaGreatDoorPartBD
import Derived.KernelRfl
namespace Go.Dec
open Go.Proofs
set_option linter.unusedVariables false
def yZz:Tab:=[(3,⟨.int .i64,1,8,[.val (.int .i64) 0],some (.int .i64),false⟩),(4,⟨.bool,1,1,[.val .bool false],some .bool,false⟩),(5,⟨.int .u8,1,1,[.val (.int .u8) 0],some (.int .u8),false⟩),(9,⟨.str,1,16,[.val .str []],some .str,false⟩),(23,⟨.int .u64,1,8,[.val (.int .u64) 0],some (.int .u64),false⟩),(24,⟨.arr 4 23,4,32,[.val (.arr 4 (.int .u64)) ([0,0,0,0])],some (.arr 4 (.int .u64)),true⟩),(25,⟨.arr 4 23,4,32,[.val (.arr 4 (.int .u64)) ([0,0,0,0])],some (.arr 4 (.int .u64)),true⟩),(26,⟨.int .i64,1,8,[.val (.int .i64) 0],some (.int .i64),false⟩),(30,⟨.arr 256 4,256,256,[.val (.arr 256 .bool) (List.replicate 256 false)],some (.arr 256 .bool),true⟩),(35,⟨.slice 57,1,24,[.dQ],some (.slice aD),false⟩),(38,⟨.slice 51,1,24,[.dQ],some (.slice aD),false⟩),(51,⟨.struct [(0,3),(1,24),(5,3),(6,3),(7,3),(8,3),(9,3)],10,80,[.val (.int .i64) 0,.val (.arr 4 (.int .u64)) ([0,0,0,0]),.val (.int .i64) 0,.val (.int .i64) 0,.val (.int .i64) 0,.val (.int .i64) 0,.val (.int .i64) 0],some aD,true⟩),(57,⟨.struct [(0,3),(1,25),(5,3),(6,3),(7,3),(8,3),(9,3)],10,80,[.val (.int .i64) 0,.val (.arr 4 (.int .u64)) ([0,0,0,0]),.val (.int .i64) 0,.val (.int .i64) 0,.val (.int .i64) 0,.val (.int .i64) 0,.val (.int .i64) 0],some aD,true⟩),(61,⟨.ptr 63,1,8,[.mZ],none,false⟩),(63,⟨.struct [(0,9),(1,3)],2,24,[.val .str [],.val (.int .i64) 0],some yPa,true⟩),(65,⟨.struct [(0,26),(1,3)],2,16,[.val (.int .i64) 0,.val (.int .i64) 0],some zKl,true⟩),(78,⟨.ptr 81,1,8,[.mZ],none,false⟩),(79,⟨.arr 10 4,10,10,[.val (.arr 10 .bool) ([false,false,false,false,false,false,false,false,false,false])],some (.arr 10 .bool),true⟩),(81,⟨.struct [(0,9),(1,3),(2,35),(3,3),(4,79)],14,72,[.val .str [],.val (.int .i64) 0,.dQ,.val (.int .i64) 0,.val (.arr 10 .bool) ([false,false,false,false,false,false,false,false,false,false])],some Aq,false⟩),(85,⟨.struct [(0,38),(1,3),(2,79),(12,3),(13,26)],14,64,[.dQ,.val (.int .i64) 0,.val (.arr 10 .bool) ([false,false,false,false,false,false,false,false,false,false]),.val (.int .i64) 0,.val (.int .i64) 0],some Ar,false⟩),(90,⟨.slice 9,1,24,[.dQ],some (.slice .str),false⟩),(96,⟨.slice 5,1,24,[.dQ],some (.slice (.int .u8)),false⟩),(104,⟨.ptr 110,1,8,[.mZ],none,false⟩),(105,⟨.slice 3,1,24,[.dQ],some (.slice (.int .i64)),false⟩),(107,⟨.struct [(0,3),(1,3),(2,105),(3,105)],4,64,[.val (.int .i64) 0,.val (.int .i64) 0,.dQ,.dQ],some zAi,false⟩),(108,⟨.slice 107,1,24,[.dQ],some (.slice zAi),false⟩),(110,⟨.struct [(0,9),(1,3),(2,35),(3,3),(4,108),(5,26),(6,3)],7,96,[.val .str [],.val (.int .i64) 0,.dQ,.val (.int .i64) 0,.dQ,.val (.int .i64) 0,.val (.int .i64) 0],some Gn,false⟩),(112,⟨.struct [(0,38),(1,3),(2,3),(3,26)],4,48,[.dQ,.val (.int .i64) 0,.val (.int .i64) 0,.val (.int .i64) 0],some dG,false⟩),(115,⟨.slice 25,1,24,[.dQ],some (.slice (.arr 4 (.int .u64))),false⟩),(130,⟨.struct [(0,4),(1,3),(2,79),(12,4)],13,32,[.val .bool false,.val (.int .i64) 0,.val (.arr 10 .bool) ([false,false,false,false,false,false,false,false,false,false]),.val .bool false],some En,true⟩),(135,⟨.func,1,8,[.val .opq Value.nilFunc],some .opq,false⟩),(137,⟨.iface false,1,16,[.val .err false],some .err,false⟩),(148,⟨.func,1,8,[.val .opq Value.nilFunc],some .opq,false⟩),(149,⟨.map 5 148,1,8,[.val .opq (Value.map none)],none,false⟩)]
theorem dI:bS Tryz.prog yZz:=zGh (by kernel_rfl)
theorem dY:Tryz.prog.follows .mixedOrders=true:=by kernel_rfl
abbrev zEs:Sh:=⟨1,[⟨0,false,[.ptr 0 0]⟩],[.box 110 [.v .str,.v (.int .i64),.own 1,.v (.int .i64),.v .opq,.v (.int .i64),.v (.int .i64)],.row 57 aD]⟩
abbrev Lp:Sh:=⟨1,[⟨0,false,[.v .bool]⟩],[.box 110 [.v .str,.v (.int .i64),.own 1,.v (.int .i64),.v .opq,.v (.int .i64),.v (.int .i64)],.row 57 aD]⟩
abbrev xC:Sh:=⟨1,[⟨0,false,[.ptr 0 0]⟩],[.box 110 [.v .str,.v (.int .i64),.own 1,.v (.int .i64),.any 1,.v (.int .i64),.v (.int .i64)],.row 57 aD]⟩
abbrev xD:Sh:=⟨1,[⟨0,false,[.v .bool]⟩],[.box 110 [.v .str,.v (.int .i64),.own 1,.v (.int .i64),.any 1,.v (.int .i64),.v (.int .i64)],.row 57 aD]⟩
abbrev zHy:Sh:=⟨3,[⟨0,false,[.ptr 0 0]⟩,⟨1,false,[.v (.int .i64)]⟩,⟨2,false,[.v (.int .i64)]⟩],[.box 110 [.v .str,.v (.int .i64),.own 1,.v (.int .i64),.v .opq,.v (.int .i64),.v (.int .i64)],.row 57 aD]⟩
abbrev Po:Sh:=⟨1,[⟨0,false,[.v .bool]⟩],[.box 110 [.v .str,.v (.int .i64),.own 1,.v (.int .i64),.v .opq,.v (.int .i64),.v (.int .i64)],.row 57 aD]⟩
abbrev gF:Sh:=⟨3,[⟨0,false,[.ptr 0 0]⟩,⟨1,false,[.v (.int .i64)]⟩,⟨2,false,[.v (.int .i64)]⟩],[.box 110 [.v .str,.v (.int .i64),.own 1,.v (.int .i64),.any 1,.v (.int .i64),.v (.int .i64)],.row 57 aD]⟩
abbrev gG:Sh:=⟨1,[⟨0,false,[.v .bool]⟩],[.box 110 [.v .str,.v (.int .i64),.own 1,.v (.int .i64),.any 1,.v (.int .i64),.v (.int .i64)],.row 57 aD]⟩
abbrev Rk:Sh:=⟨2,[⟨0,false,[.ptr 0 0]⟩,⟨1,true,[.v (.int .i64),.v (.arr 4 (.int .u64)),.v (.int .i64),.v (.int .i64),.v (.int .i64),.v (.int .i64),.v (.int .i64)]⟩],[.box 110 [.v .str,.v (.int .i64),.own 1,.v (.int .i64),.v .opq,.v (.int .i64),.v (.int .i64)],.row 57 aD]⟩
abbrev Fq:Sh:=⟨1,[⟨0,false,[.v (.int .i64)]⟩],[.box 110 [.v .str,.v (.int .i64),.own 1,.v (.int .i64),.v .opq,.v (.int .i64),.v (.int .i64)],.row 57 aD]⟩
abbrev pG:Sh:=⟨2,[⟨0,false,[.ptr 0 0]⟩,⟨1,true,[.v (.int .i64),.v (.arr 4 (.int .u64)),.v (.int .i64),.v (.int .i64),.v (.int .i64),.v (.int .i64),.v (.int .i64)]⟩],[.box 110 [.v .str,.v (.int .i64),.own 1,.v (.int .i64),.any 1,.v (.int .i64),.v (.int .i64)],.row 57 aD]⟩
abbrev pI:Sh:=⟨1,[⟨0,false,[.v (.int .i64)]⟩],[.box 110 [.v .str,.v (.int .i64),.own 1,.v (.int .i64),.any 1,.v (.int .i64),.v (.int .i64)],.row 57 aD]⟩
abbrev zFw:List Ty:=[.str]
abbrev Sy:List Ty:=[.int .i64]
abbrev zQw:List Ty:=[.str]
abbrev zBt:List Ty:=[.int .i64,.int .i64,.bool]
abbrev vY:Sh:=⟨2,[⟨0,false,[.ptr 0 0]⟩,⟨1,false,[.v (.int .i64)]⟩],[.box 110 [.v .str,.v (.int .i64),.own 1,.v (.int .i64),.own 2,.v (.int .i64),.v (.int .i64)],.row 57 aD,.stk 107 3]⟩
abbrev qR:Sh:=⟨1,[⟨0,false,[.v .bool]⟩],[.box 110 [.v .str,.v (.int .i64),.own 1,.v (.int .i64),.own 2,.v (.int .i64),.v (.int .i64)],.row 57 aD,.stk 107 3]⟩
abbrev yJ:Sh:=⟨1,[⟨0,false,[.ptr 0 0]⟩],[.box 110 [.v .str,.v (.int .i64),.own 1,.v (.int .i64),.own 2,.v (.int .i64),.v (.int .i64)],.row 57 aD,.stk 107 3]⟩
abbrev sU:Sh:=⟨1,[⟨0,false,[.v .bool]⟩],[.box 110 [.v .str,.v (.int .i64),.own 1,.v (.int .i64),.own 2,.v (.int .i64),.v (.int .i64)],.row 57 aD,.stk 107 3]⟩
abbrev Af:Sh:=⟨1,[⟨0,false,[.ptr 0 0]⟩],[.box 110 [.v .str,.v (.int .i64),.own 1,.v (.int .i64),.own 2,.v (.int .i64),.v (.int .i64)],.row 57 aD,.stk 107 3]⟩
abbrev uH:Sh:=⟨1,[⟨0,false,[.v .bool]⟩],[.box 110 [.v .str,.v (.int .i64),.own 1,.v (.int .i64),.own 2,.v (.int .i64),.v (.int .i64)],.row 57 aD,.stk 107 3]⟩
abbrev pJ:Sh:=⟨2,[⟨0,false,[.ptr 0 0]⟩,⟨1,true,[.v (.arr 4 (.int .u64))]⟩],[.box 110 [.v .str,.v (.int .i64),.own 1,.v (.int .i64),.own 2,.v (.int .i64),.v (.int .i64)],.row 57 aD,.stk 107 3]⟩
abbrev mH:Sh:=⟨1,[⟨0,false,[.v .bool]⟩],[.box 110 [.v .str,.v (.int .i64),.own 1,.v (.int .i64),.own 2,.v (.int .i64),.v (.int .i64)],.row 57 aD,.stk 107 3]⟩
abbrev Fv:Sh:=⟨1,[⟨0,false,[.ptr 0 0]⟩],[.box 110 [.v .str,.v (.int .i64),.own 1,.v (.int .i64),.own 2,.v (.int .i64),.v (.int .i64)],.row 57 aD,.stk 107 3]⟩
abbrev xQ:Sh:=⟨1,[⟨0,false,[.v .bool]⟩],[.box 110 [.v .str,.v (.int .i64),.own 1,.v (.int .i64),.own 2,.v (.int .i64),.v (.int .i64)],.row 57 aD,.stk 107 3]⟩
abbrev Cv:Sh:=⟨1,[⟨0,false,[.ptr 0 0]⟩],[.box 110 [.v .str,.v (.int .i64),.own 1,.v (.int .i64),.own 2,.v (.int .i64),.v (.int .i64)],.row 57 aD,.stk 107 3]⟩
abbrev vZ:Sh:=⟨1,[⟨0,false,[.v .bool]⟩],[.box 110 [.v .str,.v (.int .i64),.own 1,.v (.int .i64),.own 2,.v (.int .i64),.v (.int .i64)],.row 57 aD,.stk 107 3]⟩
abbrev xE:Sh:=⟨1,[⟨0,false,[.ptr 0 0]⟩],[.box 110 [.v .str,.v (.int .i64),.own 1,.v (.int .i64),.own 2,.v (.int .i64),.v (.int .i64)],.row 57 aD,.stk 107 3]⟩
abbrev rG:Sh:=⟨1,[⟨0,false,[.v .bool]⟩],[.box 110 [.v .str,.v (.int .i64),.own 1,.v (.int .i64),.own 2,.v (.int .i64),.v (.int .i64)],.row 57 aD,.stk 107 3]⟩
abbrev zEt:Sh:=⟨3,[⟨0,false,[.ptr 0 0]⟩,⟨1,false,[.v (.int .i64)]⟩,⟨2,false,[.own 1]⟩],[.box 110 [.v .str,.v (.int .i64),.own 2,.v (.int .i64),.v .opq,.v (.int .i64),.v (.int .i64)],.row 3 (.int .i64),.row 57 aD]⟩
abbrev Lr:Sh:=⟨1,[⟨0,false,[.v (.int .i64)]⟩],[.box 110 [.v .str,.v (.int .i64),.own 2,.v (.int .i64),.v .opq,.v (.int .i64),.v (.int .i64)],.row 3 (.int .i64),.row 57 aD]⟩
abbrev rH:Sh:=⟨3,[⟨0,false,[.ptr 0 0]⟩,⟨1,false,[.v (.int .i64)]⟩,⟨2,false,[.own 1]⟩],[.box 110 [.v .str,.v (.int .i64),.own 2,.v (.int .i64),.any 1,.v (.int .i64),.v (.int .i64)],.row 3 (.int .i64),.row 57 aD]⟩
abbrev rJ:Sh:=⟨1,[⟨0,false,[.v (.int .i64)]⟩],[.box 110 [.v .str,.v (.int .i64),.own 2,.v (.int .i64),.any 1,.v (.int .i64),.v (.int .i64)],.row 3 (.int .i64),.row 57 aD]⟩
abbrev xR:Sh:=⟨1,[⟨0,false,[.ptr 0 0]⟩],[.box 110 [.v .str,.v (.int .i64),.own 1,.v (.int .i64),.own 2,.v (.int .i64),.v (.int .i64)],.row 57 aD,.stk 107 3]⟩
abbrev sV:Sh:=⟨1,[⟨0,false,[.v .bool]⟩],[.box 110 [.v .str,.v (.int .i64),.own 1,.v (.int .i64),.own 2,.v (.int .i64),.v (.int .i64)],.row 57 aD,.stk 107 3]⟩
abbrev Fz:Sh:=⟨1,[⟨0,false,[.ptr 0 0]⟩],[.box 110 [.v .str,.v (.int .i64),.own 1,.v (.int .i64),.own 2,.v (.int .i64),.v (.int .i64)],.row 57 aD,.stk 107 3]⟩
abbrev xS:Sh:=⟨1,[⟨0,false,[.v .bool]⟩],[.box 110 [.v .str,.v (.int .i64),.own 1,.v (.int .i64),.own 2,.v (.int .i64),.v (.int .i64)],.row 57 aD,.stk 107 3]⟩
abbrev Cw:Sh:=⟨1,[⟨0,false,[.ptr 0 0]⟩],[.box 110 [.v .str,.v (.int .i64),.own 1,.v (.int .i64),.own 2,.v (.int .i64),.v (.int .i64)],.row 57 aD,.stk 107 3]⟩
abbrev wB:Sh:=⟨1,[⟨0,false,[.v .bool]⟩],[.box 110 [.v .str,.v (.int .i64),.own 1,.v (.int .i64),.own 2,.v (.int .i64),.v (.int .i64)],.row 57 aD,.stk 107 3]⟩
abbrev yK:Sh:=⟨1,[⟨0,false,[.ptr 0 0]⟩],[.box 110 [.v .str,.v (.int .i64),.own 1,.v (.int .i64),.own 2,.v (.int .i64),.v (.int .i64)],.row 57 aD,.stk 107 3]⟩
abbrev sW:Sh:=⟨1,[⟨0,false,[.v .bool]⟩],[.box 110 [.v .str,.v (.int .i64),.own 1,.v (.int .i64),.own 2,.v (.int .i64),.v (.int .i64)],.row 57 aD,.stk 107 3]⟩
abbrev Ls:Sh:=⟨1,[⟨0,false,[.ptr 0 0]⟩],[.box 110 [.v .str,.v (.int .i64),.own 1,.v (.int .i64),.own 2,.v (.int .i64),.v (.int .i64)],.row 57 aD,.stk 107 3]⟩
abbrev Ag:Sh:=⟨1,[⟨0,false,[.v .bool]⟩],[.box 110 [.v .str,.v (.int .i64),.own 1,.v (.int .i64),.any 1,.v (.int .i64),.v (.int .i64)],.row 57 aD,.stk 107 3]⟩
abbrev Xa:List Ty:=[.str]
abbrev Nb:List Ty:=[.slice aD,.int .i64,.int .i64]
abbrev zQx:List Ty:=[.arr 4 (.int .u64)]
abbrev zBu:List Ty:=[.str]
abbrev zLw:List Ty:=[aD]
abbrev Xb:List Ty:=[.str]
abbrev Xc:List Ty:=[.slice aD]
abbrev Nc:List Ty:=[.str,.int .i64]
abbrev zBv:List Ty:=[]
abbrev Pp:List Ty:=[.bool]
abbrev Pq:List Ty:=[dG,.int .i64,.int .i64]
abbrev Ga:List Ty:=[dG]
abbrev Yp:List Ty:=[.str,.int .i64]
abbrev Ld:List Ty:=[.bool]
abbrev zBw:List Ty:=[.str,.int .u8]
abbrev Rl:List Ty:=[.bool]
abbrev zBx:List Ty:=[.str,.int .i64]
abbrev Pv:List Ty:=[.bool]
abbrev Jf:List Ty:=[dG,aD]
abbrev Ba:List Ty:=[dG]
abbrev zBy:List Ty:=[dG,.arr 256 .bool]
abbrev Pw:List Ty:=[dG]
abbrev zBz:List Ty:=[.str,.int .i64]
abbrev Px:List Ty:=[.int .i64,.int .i64,.int .i64]
abbrev zFx:List Ty:=[.str,.int .i64,dG,.int .i64]
abbrev Sz:List Ty:=[dG,.int .i64]
abbrev Ta:List Ty:=[dG,.slice (.int .i64),.int .i64]
abbrev Jg:List Ty:=[dG]
abbrev zLx:List Ty:=[.str,.int .i64,dG,.int .i64]
abbrev Xd:List Ty:=[dG,.int .i64]
abbrev tV:List Ty:=[.str,.int .i64,dG,.int .i64]
abbrev pX:List Ty:=[dG,.int .i64]
abbrev zCa:List Ty:=[.str]
abbrev Py:List Ty:=[.slice aD,.int .i64,.int .i64]
abbrev zLy:List Ty:=[.slice aD]
abbrev Xe:List Ty:=[.slice aD]
abbrev zFy:List Ty:=[.arr 256 .bool]
abbrev Tc:List Ty:=[.str]
abbrev yL:List Ty:=[.slice aD,.int .i64]
abbrev uV:List Ty:=[.str]
abbrev zCb:List Ty:=[.slice aD]
abbrev Pz:List Ty:=[.str,.int .i64]
abbrev zHz:List Ty:=[.slice aD]
abbrev Qa:List Ty:=[.bool]
def zCc (n:Nat):An (Lp.X) := .nil
theorem Td(n:Nat):iW Tryz.prog 158 zEs Lp (nH n):=
 iX (Γ:=bK _ [(73,bB nY nZ (strings_IndexByte n))] []) (an:=zCc n) (co:=[.gc [0,1]]) Tryz.func158 rfl (by kernel_rfl) dI (aS (all_cons (aL (nL n)) (all_nil)) (aT)) dY (aO _ _ rfl) (by kernel_rfl) (by kernel_rfl) (λx=>by kernel_rfl)
theorem yM(n:Nat):Ol Tryz.prog 158 4 xC xD (dH n):=
 Qy (j:=4) (λv x=>(x.1,x.2.1,x.2.2.1,v,x.2.2.2)) (λv y=>(y.1,y.2.1,y.2.2.1,y.2.2.2.1,v,y.2.2.2.2)) (Sv n) (λv x=>⟨_,_,rfl,rfl,rfl,rfl⟩) (λv y=>⟨_,_,rfl,rfl,rfl,rfl⟩) (by decide) (Td n)
def zEu (n:Nat):An (Po.X) := .nil
theorem Uu(n:Nat):iW Tryz.prog 125 zHy Po (sQ n):=
 iX (Γ:=bK _ [] []) (an:=zEu n) (co:=[.gc [0,1]]) Tryz.func125 rfl (by kernel_rfl) dI (aS (all_nil) (aT)) dY (aO _ _ rfl) (by kernel_rfl) (by kernel_rfl) (λx=>by kernel_rfl)
theorem eY(n:Nat):Ol Tryz.prog 125 4 gF gG (aV n):=
 Qy (j:=4) (λv x=>(x.1,x.2.1,x.2.2.1,x.2.2.2.1,x.2.2.2.2.1,v,x.2.2.2.2.2)) (λv y=>(y.1,y.2.1,y.2.2.1,y.2.2.2.1,v,y.2.2.2.2)) (Us n) (λv x=>⟨_,_,rfl,rfl,rfl,rfl⟩) (λv y=>⟨_,_,rfl,rfl,rfl,rfl⟩) (by decide) (Uu n)
def zIa (n:Nat):An (Fq.X) := .nil
theorem Gb(n:Nat):iW Tryz.prog 160 Rk Fq (iJ n):=
 iX (Γ:=bK _ [] []) (an:=zIa n) (co:=[.gc [0,1]]) Tryz.func160 rfl (by kernel_rfl) dI (aS (all_nil) (aT)) dY (aO _ _ rfl) (by kernel_rfl) (by kernel_rfl) (λx=>by kernel_rfl)
theorem nR(n:Nat):Ol Tryz.prog 160 4 pG pI (cO n):=
 Qy (j:=4) (λv x=>(x.1,x.2.1,x.2.2.1,x.2.2.2.1,x.2.2.2.2.1,x.2.2.2.2.2.1,x.2.2.2.2.2.2.1,x.2.2.2.2.2.2.2.1,x.2.2.2.2.2.2.2.2.1,x.2.2.2.2.2.2.2.2.2.1,v,x.2.2.2.2.2.2.2.2.2.2)) (λv y=>(y.1,y.2.1,y.2.2.1,y.2.2.2.1,v,y.2.2.2.2)) (Wz n) (λv x=>⟨_,_,rfl,rfl,rfl,rfl⟩) (λv y=>⟨_,_,rfl,rfl,rfl,rfl⟩) (by decide) (Gb n)
def zXh (n:Nat):An (bF Sy) := .nil
theorem zLz(n:Nat):Pure Tryz.prog 191 zFw Sy (zP n):=
 aX (Γ:=bK _ [(167,bB Ud Ue (Bn n))] []) (an:=zXh n) Tryz.func191 rfl (by kernel_rfl) dI (aS (all_cons (aL (zAg n)) (all_nil)) (aT)) dY (aO _ _ rfl) (λx=>by kernel_rfl)
def yFw (n:Nat):An (bF zBt) := .nil
theorem zSi(n:Nat):Pure Tryz.prog 179 zQw zBt (Pj n):=
 aX (Γ:=bK _ [(84,bB Ej El (strings_Cut n)),(191,bB zFw Sy (zP n))] []) (an:=yFw n) Tryz.func179 rfl (by kernel_rfl) dI (aS (all_cons (aL (Ch n)) (all_cons (aL (zLz n)) (all_nil))) (aT)) dY (aO _ _ rfl) (λx=>by kernel_rfl)
def zEv (n:Nat):An (qR.X):=(.mk .nil (.scope 0 (.mk .nil (.mk .nil (.mk .nil (.mk .nil (.mk .nil (.mk .nil (.mk .nil (.mk .nil (.mk (.co [.opn 0 4] .nil) (.mk (.co [.cls 0 4] .nil) .nil []) []) []) []) []) []) []) []) []) []) (.mk .nil (.mk (.co [.opn 0 4] .nil) (.mk (.co [.cls 0 4] .nil) .nil []) []) [])) [])
theorem uW(n:Nat):iW Tryz.prog 159 vY qR (gW n):=
 iX (Γ:=bK _ [(126,Qz 4 4),(84,bB Ej El (strings_Cut n)),(179,bB zQw zBt (Pj n))] [geK 158 4 4 xC xD (dH n),geK 160 4 4 pG pI (cO n),geK 125 4 4 gF gG (aV n)]) (an:=zEv n) (co:=[.gc [0,1,2]]) Tryz.func159 rfl (by kernel_rfl) dI (aS (all_cons (Wm zLv) (all_cons (aL (Ch n)) (all_cons (aL (zSi n)) (all_nil)))) (dU (mV (yM n)) (dU (mV (nR n)) (dU (mV (eY n)) (aT))))) dY (aO _ _ rfl) (by kernel_rfl) (by kernel_rfl) (λx=>by kernel_rfl)
def Yz (n:Nat):An (sU.X) := .nil
theorem zV(n:Nat):iW Tryz.prog 114 yJ sU (kD n):=
 iX (Γ:=bK _ [(159,peM vY qR (gW n))] [geK 158 4 4 xC xD (dH n),geK 125 4 4 gF gG (aV n),geK 160 4 4 pG pI (cO n)]) (an:=Yz n) (co:=[.gc [0,1,2]]) Tryz.func114 rfl (by kernel_rfl) dI (aS (all_cons (gP (uW n)) (all_nil)) (dU (mV (yM n)) (dU (mV (eY n)) (dU (mV (nR n)) (aT))))) dY (aO _ _ rfl) (by kernel_rfl) (by kernel_rfl) (λx=>by kernel_rfl)
def zCd (n:Nat):An (uH.X) := .nil
theorem Bc(n:Nat):iW Tryz.prog 115 Af uH (jO n):=
 iX (Γ:=bK _ [] [geK 125 4 4 gF gG (aV n)]) (an:=zCd n) (co:=[.gc [0,1,2]]) Tryz.func115 rfl (by kernel_rfl) dI (aS (all_nil) (dU (mV (eY n)) (aT))) dY (aO _ _ rfl) (by kernel_rfl) (by kernel_rfl) (λx=>by kernel_rfl)
def zCe (n:Nat):An (mH.X) := .nil
theorem nS(n:Nat):iW Tryz.prog 122 pJ mH (fT n):=
 iX (Γ:=bK _ [(159,peM vY qR (gW n))] [geK 160 4 4 pG pI (cO n)]) (an:=zCe n) (co:=[.gc [0,1,2]]) Tryz.func122 rfl (by kernel_rfl) dI (aS (all_cons (gP (uW n)) (all_nil)) (dU (mV (nR n)) (aT))) dY (aO _ _ rfl) (by kernel_rfl) (by kernel_rfl) (λx=>by kernel_rfl)
end Go.Dec
namespace Go.Dec
open Go.Proofs
set_option linter.unusedVariables false
def zIb (n:Nat):An (xQ.X) := .nil
theorem Gc(n:Nat):iW Tryz.prog 116 Fv xQ (qI n):=
 iX (Γ:=bK _ [(50,bB zHk Ws (Nl n)),(122,peM pJ mH (fT n))] []) (an:=zIb n) (co:=[.gc [0,1,2]]) Tryz.func116 rfl (by kernel_rfl) dI (aS (all_cons (aL (zBk n)) (all_cons (gP (nS n)) (all_nil))) (aT)) dY (aO _ _ rfl) (by kernel_rfl) (by kernel_rfl) (λx=>by kernel_rfl)
def zEw (n:Nat):An (vZ.X) := .nil
theorem Dn(n:Nat):iW Tryz.prog 117 Cv vZ (oI n):=
 iX (Γ:=bK _ [(17,bB zAx Ou (tO n)),(122,peM pJ mH (fT n))] [geK 125 4 4 gF gG (aV n)]) (an:=zEw n) (co:=[.gc [0,1,2]]) Tryz.func117 rfl (by kernel_rfl) dI (aS (all_cons (aL (zHq n)) (all_cons (gP (nS n)) (all_nil))) (dU (mV (eY n)) (aT))) dY (aO _ _ rfl) (by kernel_rfl) (by kernel_rfl) (λx=>by kernel_rfl)
def Xf (n:Nat):An (rG.X) := .nil
theorem yN(n:Nat):iW Tryz.prog 118 xE rG (lI n):=
 iX (Γ:=bK _ [(123,bB zEd Uh (wI n)),(122,peM pJ mH (fT n)),(73,bB nY nZ (strings_IndexByte n)),(87,bB Na Ez (eB n))] [geK 125 4 4 gF gG (aV n)]) (an:=Xf n) (co:=[.gc [0,1,2]]) Tryz.func118 rfl (by kernel_rfl) dI (aS (all_cons (aL (Sq n)) (all_cons (gP (nS n)) (all_cons (aL (nL n)) (all_cons (aL (Ie n)) (all_nil))))) (dU (mV (eY n)) (aT))) dY (aO _ _ rfl) (by kernel_rfl) (by kernel_rfl) (λx=>by kernel_rfl)
def zCf (n:Nat):An (Lr.X):=(.mk .nil (.mk .nil (.mk (.mk .nil (.mk (.loop ⟨32,[⟨0,false,[.ptr 0 0]⟩,⟨1,false,[.v (.int .i64)]⟩,⟨2,false,[.own 1]⟩,⟨7,false,[.v (.int .i64)]⟩,⟨8,false,[.v (.int .i64)]⟩],[.box 110 [.v .str,.v (.int .i64),.own 2,.v (.int .i64),.v .opq,.v (.int .i64),.v (.int .i64)],.row 3 (.int .i64),.row 57 aD]⟩ [.keep (kbm 9 391),.gcA 3,.gcA 3] [.keep (kbm 9 391),.gcA 3,.gcA 3] n .nil) .nil []) []) .nil []) []) [])
theorem Te(n:Nat):iW Tryz.prog 127 zEt Lr (nI n):=
 iX (Γ:=bK _ [(160,peM Rk Fq (iJ n))] []) (an:=zCf n) (co:=[.gc [0,1,2]]) Tryz.func127 rfl (by kernel_rfl) dI (aS (all_cons (gP (Gb n)) (all_nil)) (aT)) dY (aO _ _ rfl) (by kernel_rfl) (by kernel_rfl) (λx=>by kernel_rfl)
theorem qU(n:Nat):Ol Tryz.prog 127 4 rH rJ (fJ n):=
 Qy (j:=4) (λv x=>(x.1,x.2.1,x.2.2.1,x.2.2.2.1,v,x.2.2.2.2)) (λv y=>(y.1,y.2.1,y.2.2.1,y.2.2.2.1,v,y.2.2.2.2)) (Sw n) (λv x=>⟨_,_,rfl,rfl,rfl,rfl⟩) (λv y=>⟨_,_,rfl,rfl,rfl,rfl⟩) (by decide) (Te n)
def zIc (n:Nat):An (sV.X):=(.mk .nil (.mk (.co [.opn 0 4] .nil) (.mk (.mk .nil (.mk (.mk (.co [.cls 0 4] .nil) .nil []) .nil []) []) (.mk .nil (.mk .nil (.mk (.co [.zGx 2 3,.cls 0 4] .nil) .nil []) []) []) []) []) [])
theorem wC(n:Nat):iW Tryz.prog 124 xR sV (iK n):=
 iX (Γ:=bK _ [(126,Qz 4 4)] [geK 125 4 4 gF gG (aV n),geK 127 4 4 rH rJ (fJ n)]) (an:=zIc n) (co:=[.gc [0,1,2]]) Tryz.func124 rfl (by kernel_rfl) dI (aS (all_cons (Wm zLv) (all_nil)) (dU (mV (eY n)) (dU (mV (qU n)) (aT)))) dY (aO _ _ rfl) (by kernel_rfl) (by kernel_rfl) (λx=>by kernel_rfl)
def zId (n:Nat):An (xS.X) := .nil
theorem Gd(n:Nat):iW Tryz.prog 119 Fz xS (nJ n):=
 iX (Γ:=bK _ [(124,peM xR sV (iK n))] []) (an:=zId n) (co:=[.gc [0,1,2]]) Tryz.func119 rfl (by kernel_rfl) dI (aS (all_cons (gP (wC n)) (all_nil)) (aT)) dY (aO _ _ rfl) (by kernel_rfl) (by kernel_rfl) (λx=>by kernel_rfl)
def zEx (n:Nat):An (wB.X) := .nil
theorem Dp(n:Nat):iW Tryz.prog 120 Cw wB (oJ n):=
 iX (Γ:=bK _ [] [geK 125 4 4 gF gG (aV n)]) (an:=zEx n) (co:=[.gc [0,1,2]]) Tryz.func120 rfl (by kernel_rfl) dI (aS (all_nil) (dU (mV (eY n)) (aT))) dY (aO _ _ rfl) (by kernel_rfl) (by kernel_rfl) (λx=>by kernel_rfl)
def Za (n:Nat):An (sW.X):=(.mk .nil (.mk .nil (.mk .nil (.mk (.co [.opn 0 4] .nil) (.mk .nil (.mk (.co [.yLq 0 4] .nil) .nil []) []) []) []) []) [])
theorem zW(n:Nat):iW Tryz.prog 121 yK sW (jG n):=
 iX (Γ:=bK _ [(124,peM xR sV (iK n)),(126,Qz 4 4),(159,peM vY qR (gW n))] [geK 125 4 4 gF gG (aV n),geK 127 4 4 rH rJ (fJ n),geK 160 4 4 pG pI (cO n)]) (an:=Za n) (co:=[.gc [0,1,2]]) Tryz.func121 rfl (by kernel_rfl) dI (aS (all_cons (gP (wC n)) (all_cons (Wm zLv) (all_cons (gP (uW n)) (all_nil)))) (dU (mV (eY n)) (dU (mV (qU n)) (dU (mV (nR n)) (aT))))) dY (aO _ _ rfl) (by kernel_rfl) (by kernel_rfl) (λx=>by kernel_rfl)
def zCg (n:Nat):An (Ag.X):=(.mk .nil (.mk .nil (.mk (.mk (.loop ⟨95,[⟨0,false,[.ptr 0 0]⟩,⟨3,false,[.mp 3]⟩],[.box 110 [.v .str,.v (.int .i64),.own 1,.v (.int .i64),.own 2,.v (.int .i64),.v (.int .i64)],.row 57 aD,.stk 107 3,.fm [(.i .u8 94,114),(.i .u8 36,114),(.i .u8 42,115),(.i .u8 43,115),(.i .u8 63,115),(.i .u8 123,115),(.i .u8 46,116),(.i .u8 91,117),(.i .u8 92,118),(.i .u8 124,119),(.i .u8 40,120),(.i .u8 41,121)]]⟩ [.keep [true,false,false,true],.gcA 3,.gcA 3] [.keep [true,false,false,true],.gcA 3,.gcA 3] n .nil) .nil []) (.mk .nil (.mk .nil (.mk (.co [.opn 0 4] .nil) .nil []) []) []) []) []) [])
theorem Tf(n:Nat):iW Tryz.prog 77 Ls Ag (vU n):=
 iX (Γ:=bK _ [(114,peM yJ sU (kD n)),(115,peM Af uH (jO n)),(116,peM Fv xQ (qI n)),(117,peM Cv vZ (oI n)),(118,peM xE rG (lI n)),(119,peM Fz xS (nJ n)),(120,peM Cw wB (oJ n)),(121,peM yK sW (jG n)),(123,bB zEd Uh (wI n)),(122,peM pJ mH (fT n)),(124,peM xR sV (iK n)),(126,Qz 4 4)] [geM 114 yJ sU (kD n),geM 115 Af uH (jO n),geM 116 Fv xQ (qI n),geM 117 Cv vZ (oI n),geM 118 xE rG (lI n),geM 119 Fz xS (nJ n),geM 120 Cw wB (oJ n),geM 121 yK sW (jG n),geK 125 4 4 gF gG (aV n),geK 127 4 4 rH rJ (fJ n)]) (an:=zCg n) (co:=[.Vu 0 4,.shut 2,.gc [0,1,2]]) Tryz.func77 rfl (by kernel_rfl) dI (aS (all_cons (gP (zV n)) (all_cons (gP (Bc n)) (all_cons (gP (Gc n)) (all_cons (gP (Dn n)) (all_cons (gP (yN n)) (all_cons (gP (Gd n)) (all_cons (gP (Dp n)) (all_cons (gP (zW n)) (all_cons (aL (Sq n)) (all_cons (gP (nS n)) (all_cons (gP (wC n)) (all_cons (Wm zLv) (all_nil))))))))))))) (dU (Jz (zV n)) (dU (Jz (Bc n)) (dU (Jz (Gc n)) (dU (Jz (Dn n)) (dU (Jz (yN n)) (dU (Jz (Gd n)) (dU (Jz (Dp n)) (dU (Jz (zW n)) (dU (mV (eY n)) (dU (mV (qU n)) (aT)))))))))))) dY (aO _ _ rfl) (by kernel_rfl) (by kernel_rfl) (λx=>by kernel_rfl)
def yAm (n:Nat):An (bF Nb):=(.mk .nil (.mk .nil (.mk .nil (.mk (.mk (.co [.ownB 1 2 35] .nil) .nil []) .nil []) []) []) [])
theorem Uv(n:Nat):Pure Tryz.prog 35 Xa Nb (vC n):=
 aX (Γ:=bK _ [(77,peM Ls Ag (vU n))] []) (an:=yAm n) Tryz.func35 rfl (by kernel_rfl) dI (aS (all_cons (gP (Tf n)) (all_nil)) (aT)) dY (aO _ _ rfl) (λx=>by kernel_rfl)
def yFx (n:Nat):An (bF zBu) := .nil
theorem zSj(n:Nat):Pure Tryz.prog 42 zQx zBu (Pk n):=
 aX (Γ:=bK _ [(68,bB Mv Mw (sF n)),(30,bB zQv zBc (Hr n)),(81,bB Lh Li (strings_Contains n))] []) (an:=yFx n) Tryz.func42 rfl (by kernel_rfl) dI (aS (all_cons (aL (Hq n)) (all_cons (aL (zRz n)) (all_cons (aL (Uc n)) (all_nil)))) (aT)) dY (aO _ _ rfl) (λx=>by kernel_rfl)
end Go.Dec
namespace Go.Dec
open Go.Proofs
set_option linter.unusedVariables false
def yAn (n:Nat):An (bF Xb) := .nil
theorem zOu(n:Nat):Pure Tryz.prog 79 zLw Xb (Kg n):=
 aX (Γ:=bK _ [(63,bB Bp Bq (strconv_Itoa n))] []) (an:=yAn n) Tryz.func79 rfl (by kernel_rfl) dI (aS (all_cons (aL (Aa n)) (all_nil)) (aT)) dY (aO _ _ rfl) (λx=>by kernel_rfl)
def yAo (n:Nat):An (bF Nc):=(.mk .nil (.mk .nil (.mk .nil (.mk (.mk .nil (.mk (.loop ⟨134,[⟨0,false,[.v (.slice aD)]⟩,⟨4,false,[.own 0]⟩,⟨17,false,[.v (.slice aD)]⟩,⟨18,false,[.v (.int .i64)]⟩,⟨19,false,[.v (.int .i64)]⟩],[.row 9 .str]⟩ [.keep (kbm 20 917521),.gcA 0,.gcA 0] [.keep (kbm 20 917521),.gcA 0,.gcA 0] n .nil) .nil []) []) .nil []) []) []) [])
theorem Uw(n:Nat):Pure Tryz.prog 38 Xc Nc (vD n):=
 aX (Γ:=bK _ [(24,bB zOj zEe (Er n)),(42,bB zQx zBu (Pk n)),(79,bB zLw Xb (Kg n)),(63,bB Bp Bq (strconv_Itoa n)),(35,bB Xa Nb (vC n)),(27,bB zWt zHo (Np n))] []) (an:=yAo n) Tryz.func38 rfl (by kernel_rfl) dI (aS (all_cons (aL (zFv n)) (all_cons (aL (zSj n)) (all_cons (aL (zOu n)) (all_cons (aL (Aa n)) (all_cons (aL (Uv n)) (all_cons (aL (zWx n)) (all_nil))))))) (aT)) dY (aO _ _ rfl) (λx=>by kernel_rfl)
def zSk (n:Nat):An (bF Pp) := .nil
theorem zIe(n:Nat):Pure Tryz.prog 34 zBv Pp (wU n):=
 aX (Γ:=bK _ [(35,bB Xa Nb (vC n)),(38,bB Xc Nc (vD n)),(40,bB zKz Ww (zAp n))] []) (an:=zSk n) Tryz.func34 rfl (by kernel_rfl) dI (aS (all_cons (aL (Uv n)) (all_cons (aL (Uw n)) (all_cons (aL (zOl n)) (all_nil)))) (aT)) dY (aO _ _ rfl) (λx=>by kernel_rfl)
def zSl (n:Nat):An (bF Ga) := .nil
theorem Qb(n:Nat):Pure Tryz.prog 161 Pq Ga (bJ n):=
 aX (Γ:=bK _ [] []) (an:=zSl n) Tryz.func161 rfl (by kernel_rfl) dI (aS (all_nil) (aT)) dY (aO _ _ rfl) (λx=>by kernel_rfl)
def zOv (n:Nat):An (bF Ld) := .nil
theorem zEy(n:Nat):Pure Tryz.prog 162 Yp Ld (kQ n):=
 aX (Γ:=bK _ [] []) (an:=zOv n) Tryz.func162 rfl (by kernel_rfl) dI (aS (all_nil) (aT)) dY (aO _ _ rfl) (λx=>by kernel_rfl)
def yFy (n:Nat):An (bF Rl):=(.mk .nil (.mk (.mk .nil (.mk (.loop ⟨17,[⟨0,false,[.v .str]⟩,⟨1,false,[.v (.int .u8)]⟩,⟨5,false,[.v (.int .i64)]⟩],[]⟩ [.keep (kbm 6 35),.gcA 0,.gcA 0] [.keep (kbm 6 35),.gcA 0,.gcA 0] n .nil) .nil []) []) .nil []) [])
theorem Yq(n:Nat):Pure Tryz.prog 182 zBw Rl (Ct n):=
 aX (Γ:=bK _ [] []) (an:=yFy n) Tryz.func182 rfl (by kernel_rfl) dI (aS (all_nil) (aT)) dY (aO _ _ rfl) (λx=>by kernel_rfl)
def zSm (n:Nat):An (bF Pv) := .nil
theorem zIf(n:Nat):Pure Tryz.prog 180 zBx Pv (gD n):=
 aX (Γ:=bK _ [(182,bB zBw Rl (Ct n))] []) (an:=zSm n) Tryz.func180 rfl (by kernel_rfl) dI (aS (all_cons (aL (Yq n)) (all_nil)) (aT)) dY (aO _ _ rfl) (λx=>by kernel_rfl)
def zXi (n:Nat):An (bF Ba) := .nil
theorem Gf(n:Nat):Pure Tryz.prog 164 Jf Ba (fG n):=
 aX (Γ:=bK _ [] []) (an:=zXi n) Tryz.func164 rfl (by kernel_rfl) dI (aS (all_nil) (aT)) dY (aO _ _ rfl) (λx=>by kernel_rfl)
def zSn (n:Nat):An (bF Pw) := .nil
theorem zIg(n:Nat):Pure Tryz.prog 181 zBy Pw (nQ n):=
 aX (Γ:=bK _ [(19,bB zBg Oy (Av n)),(164,bB Jf Ba (fG n))] []) (an:=zSn n) Tryz.func181 rfl (by kernel_rfl) dI (aS (all_cons (aL (zHu n)) (all_cons (aL (Gf n)) (all_nil))) (aT)) dY (aO _ _ rfl) (λx=>by kernel_rfl)
def zSo (n:Nat):An (bF Px) := .nil
theorem zIh(n:Nat):Pure Tryz.prog 183 zBz Px (kR n):=
 aX (Γ:=bK _ [(139,bB zBj Pf (Aw n))] []) (an:=zSo n) Tryz.func183 rfl (by kernel_rfl) dI (aS (all_cons (aL (zHx n)) (all_nil)) (aT)) dY (aO _ _ rfl) (λx=>by kernel_rfl)
def zXj (n:Nat):An (bF Sz) := .nil
theorem zMa(n:Nat)(bR:(List UInt8 × Int × (List (Int × List (Int) × Int × Int × Int × Int × Int × Unit) × Int × Int × Int × Unit) × Int)->Option ((List (Int × List (Int) × Int × Int × Int × Int × Int × Unit) × Int × Int × Int × Unit) × Int))(yO:Pure Tryz.prog 78 tV pX bR):Pure Tryz.prog 163 zFx Sz (vV n bR):=
 aX (Γ:=bK _ [(180,bB zBx Pv (gD n)),(161,bB Pq Ga (bJ n)),(164,bB Jf Ba (fG n)),(54,bB Fe yG (dR n)),(181,bB zBy Pw (nQ n)),(183,bB zBz Px (kR n)),(18,bB Ul Ib (wJ n)),(78,bB tV pX (bR)),(29,bB zBe Rh (qO n)),(182,bB zBw Rl (Ct n))] []) (an:=zXj n) Tryz.func163 rfl (by kernel_rfl) dI (aS (all_cons (aL (zIf n)) (all_cons (aL (Qb n)) (all_cons (aL (Gf n)) (all_cons (aL (Cr n)) (all_cons (aL (zIg n)) (all_cons (aL (zIh n)) (all_cons (aL (zBp n)) (all_cons (aL (yO)) (all_cons (aL (Yn n)) (all_cons (aL (Yq n)) (all_nil))))))))))) (aT)) dY (aO _ _ rfl) (λx=>by kernel_rfl)
def zXk (n:Nat):An (bF Jg):=(.mk .nil (.mk (.mk .nil (.mk (.loop ⟨28,[⟨1,false,[.v (.slice (.int .i64))]⟩,⟨2,false,[.v (.int .i64)]⟩,⟨3,false,[.ptr 0 0]⟩,⟨6,false,[.ptr 1 0]⟩,⟨7,false,[.v (.int .i64)]⟩],[.box 112 [.v (.slice aD),.v (.int .i64),.v (.int .i64),.v (.int .i64)],.box 112 [.own 2,.v (.int .i64),.v (.int .i64),.v (.int .i64)],.row 51 aD]⟩ [.keep (kbm 8 206),.gcA 0,.ownB 1 0 38,.gcA 0] [.keep (kbm 8 206),.gcA 0,.gcA 0] n .nil) .nil []) []) .nil []) [])
theorem Rm(n:Nat):Pure Tryz.prog 129 Ta Jg (kW n):=
 aX (Γ:=bK _ [(164,bB Jf Ba (fG n))] []) (an:=zXk n) Tryz.func129 rfl (by kernel_rfl) dI (aS (all_cons (aL (Gf n)) (all_nil)) (aT)) dY (aO _ _ rfl) (λx=>by kernel_rfl)
end Go.Dec
