/- Part of a proof over this seat: a library of my own, and what it says of this seat. No statement is proved here. -/
import Derived.Test.YthhbdkdofhhoeaaGreatDoorProg
import Derived.Test.YthhbdkdofhhoeaaGreatDoorPartBC
import Derived.Test.YthhbdkdofhhoeaaGreatDoorPartBB
import Derived.Test.YthhbdkdofhhoeaaGreatDoorPartAS
import Derived.Test.YthhbdkdofhhoeaaGreatDoorPartAL
import Derived.Test.YthhbdkdofhhoeaaGreatDoorPartBD
import Derived.KernelRfl
namespace Go.Dec
open Go.Proofs
set_option linter.unusedVariables false
def yEf:Tab:=[(3,⟨.int .i64,1,8,[.val (.int .i64) 0],some (.int .i64),false⟩),(4,⟨.bool,1,1,[.val .bool false],some .bool,false⟩),(5,⟨.int .u8,1,1,[.val (.int .u8) 0],some (.int .u8),false⟩),(9,⟨.str,1,16,[.val .str []],some .str,false⟩),(23,⟨.int .u64,1,8,[.val (.int .u64) 0],some (.int .u64),false⟩),(24,⟨.arr 4 23,4,32,[.val (.arr 4 (.int .u64)) ([0,0,0,0])],some (.arr 4 (.int .u64)),true⟩),(25,⟨.arr 4 23,4,32,[.val (.arr 4 (.int .u64)) ([0,0,0,0])],some (.arr 4 (.int .u64)),true⟩),(26,⟨.int .i64,1,8,[.val (.int .i64) 0],some (.int .i64),false⟩),(30,⟨.arr 256 4,256,256,[.val (.arr 256 .bool) (List.replicate 256 false)],some (.arr 256 .bool),true⟩),(35,⟨.slice 57,1,24,[.bY],some (.slice aC),false⟩),(38,⟨.slice 51,1,24,[.bY],some (.slice aC),false⟩),(51,⟨.struct [(0,3),(1,24),(5,3),(6,3),(7,3),(8,3),(9,3)],10,80,[.val (.int .i64) 0,.val (.arr 4 (.int .u64)) ([0,0,0,0]),.val (.int .i64) 0,.val (.int .i64) 0,.val (.int .i64) 0,.val (.int .i64) 0,.val (.int .i64) 0],some aC,true⟩),(57,⟨.struct [(0,3),(1,25),(5,3),(6,3),(7,3),(8,3),(9,3)],10,80,[.val (.int .i64) 0,.val (.arr 4 (.int .u64)) ([0,0,0,0]),.val (.int .i64) 0,.val (.int .i64) 0,.val (.int .i64) 0,.val (.int .i64) 0,.val (.int .i64) 0],some aC,true⟩),(61,⟨.ptr 63,1,8,[.kJ],none,false⟩),(63,⟨.struct [(0,9),(1,3)],2,24,[.val .str [],.val (.int .i64) 0],some zWp,true⟩),(65,⟨.struct [(0,26),(1,3)],2,16,[.val (.int .i64) 0,.val (.int .i64) 0],some Yq,true⟩),(78,⟨.ptr 81,1,8,[.kJ],none,false⟩),(79,⟨.arr 10 4,10,10,[.val (.arr 10 .bool) ([false,false,false,false,false,false,false,false,false,false])],some (.arr 10 .bool),true⟩),(81,⟨.struct [(0,9),(1,3),(2,35),(3,3),(4,79)],14,72,[.val .str [],.val (.int .i64) 0,.bY,.val (.int .i64) 0,.val (.arr 10 .bool) ([false,false,false,false,false,false,false,false,false,false])],some vW,false⟩),(85,⟨.struct [(0,38),(1,3),(2,79),(12,3),(13,26)],14,64,[.bY,.val (.int .i64) 0,.val (.arr 10 .bool) ([false,false,false,false,false,false,false,false,false,false]),.val (.int .i64) 0,.val (.int .i64) 0],some vX,false⟩),(90,⟨.slice 9,1,24,[.bY],some (.slice .str),false⟩),(96,⟨.slice 5,1,24,[.bY],some (.slice (.int .u8)),false⟩),(104,⟨.ptr 110,1,8,[.kJ],none,false⟩),(105,⟨.slice 3,1,24,[.bY],some (.slice (.int .i64)),false⟩),(107,⟨.struct [(0,3),(1,3),(2,105),(3,105)],4,64,[.val (.int .i64) 0,.val (.int .i64) 0,.bY,.bY],some Pf,false⟩),(108,⟨.slice 107,1,24,[.bY],some (.slice Pf),false⟩),(110,⟨.struct [(0,9),(1,3),(2,35),(3,3),(4,108),(5,26),(6,3)],7,96,[.val .str [],.val (.int .i64) 0,.bY,.val (.int .i64) 0,.bY,.val (.int .i64) 0,.val (.int .i64) 0],some yY,false⟩),(112,⟨.struct [(0,38),(1,3),(2,3),(3,26)],4,48,[.bY,.val (.int .i64) 0,.val (.int .i64) 0,.val (.int .i64) 0],some Pg,false⟩),(115,⟨.slice 25,1,24,[.bY],some (.slice (.arr 4 (.int .u64))),false⟩),(130,⟨.struct [(0,4),(1,3),(2,79),(12,4)],13,32,[.val .bool false,.val (.int .i64) 0,.val (.arr 10 .bool) ([false,false,false,false,false,false,false,false,false,false]),.val .bool false],some Yr,true⟩),(135,⟨.func,1,8,[.val .opq Value.nilFunc],some .opq,false⟩),(137,⟨.iface false,1,16,[.val .err false],some .err,false⟩),(148,⟨.func,1,8,[.val .opq Value.nilFunc],some .opq,false⟩),(149,⟨.map 5 148,1,8,[.val .opq (Value.map none)],none,false⟩)]
theorem fD:bC Tryz.prog yEf:=Ul (by kernel_rfl)
theorem gX:Tryz.prog.follows .mixedOrders=true:=by kernel_rfl
abbrev Sv:Sh:=⟨1,[⟨0,false,[.ptr 0 0]⟩],[.box 110 [.v .str,.v (.int .i64),.own 1,.v (.int .i64),.v .opq,.v (.int .i64),.v (.int .i64)],.row 57 aC]⟩
abbrev Ci:Sh:=⟨1,[⟨0,false,[.v .bool]⟩],[.box 110 [.v .str,.v (.int .i64),.own 1,.v (.int .i64),.v .opq,.v (.int .i64),.v (.int .i64)],.row 57 aC]⟩
abbrev sI:Sh:=⟨1,[⟨0,false,[.ptr 0 0]⟩],[.box 110 [.v .str,.v (.int .i64),.own 1,.v (.int .i64),.any 1,.v (.int .i64),.v (.int .i64)],.row 57 aC]⟩
abbrev sJ:Sh:=⟨1,[⟨0,false,[.v .bool]⟩],[.box 110 [.v .str,.v (.int .i64),.own 1,.v (.int .i64),.any 1,.v (.int .i64),.v (.int .i64)],.row 57 aC]⟩
abbrev Wd:Sh:=⟨3,[⟨0,false,[.ptr 0 0]⟩,⟨1,false,[.v (.int .i64)]⟩,⟨2,false,[.v (.int .i64)]⟩],[.box 110 [.v .str,.v (.int .i64),.own 1,.v (.int .i64),.v .opq,.v (.int .i64),.v (.int .i64)],.row 57 aC]⟩
abbrev Fa:Sh:=⟨1,[⟨0,false,[.v .bool]⟩],[.box 110 [.v .str,.v (.int .i64),.own 1,.v (.int .i64),.v .opq,.v (.int .i64),.v (.int .i64)],.row 57 aC]⟩
abbrev eB:Sh:=⟨3,[⟨0,false,[.ptr 0 0]⟩,⟨1,false,[.v (.int .i64)]⟩,⟨2,false,[.v (.int .i64)]⟩],[.box 110 [.v .str,.v (.int .i64),.own 1,.v (.int .i64),.any 1,.v (.int .i64),.v (.int .i64)],.row 57 aC]⟩
abbrev eD:Sh:=⟨1,[⟨0,false,[.v .bool]⟩],[.box 110 [.v .str,.v (.int .i64),.own 1,.v (.int .i64),.any 1,.v (.int .i64),.v (.int .i64)],.row 57 aC]⟩
abbrev Gu:Sh:=⟨2,[⟨0,false,[.ptr 0 0]⟩,⟨1,true,[.v (.int .i64),.v (.arr 4 (.int .u64)),.v (.int .i64),.v (.int .i64),.v (.int .i64),.v (.int .i64),.v (.int .i64)]⟩],[.box 110 [.v .str,.v (.int .i64),.own 1,.v (.int .i64),.v .opq,.v (.int .i64),.v (.int .i64)],.row 57 aC]⟩
abbrev yN:Sh:=⟨1,[⟨0,false,[.v (.int .i64)]⟩],[.box 110 [.v .str,.v (.int .i64),.own 1,.v (.int .i64),.v .opq,.v (.int .i64),.v (.int .i64)],.row 57 aC]⟩
abbrev mI:Sh:=⟨2,[⟨0,false,[.ptr 0 0]⟩,⟨1,true,[.v (.int .i64),.v (.arr 4 (.int .u64)),.v (.int .i64),.v (.int .i64),.v (.int .i64),.v (.int .i64),.v (.int .i64)]⟩],[.box 110 [.v .str,.v (.int .i64),.own 1,.v (.int .i64),.any 1,.v (.int .i64),.v (.int .i64)],.row 57 aC]⟩
abbrev mJ:Sh:=⟨1,[⟨0,false,[.v (.int .i64)]⟩],[.box 110 [.v .str,.v (.int .i64),.own 1,.v (.int .i64),.any 1,.v (.int .i64),.v (.int .i64)],.row 57 aC]⟩
abbrev Ue:List Ty:=[.str]
abbrev Ib:List Ty:=[.int .i64]
abbrev zDi:List Ty:=[.str]
abbrev Qh:List Ty:=[.int .i64,.int .i64,.bool]
abbrev rC:Sh:=⟨2,[⟨0,false,[.ptr 0 0]⟩,⟨1,false,[.v (.int .i64)]⟩],[.box 110 [.v .str,.v (.int .i64),.own 1,.v (.int .i64),.own 2,.v (.int .i64),.v (.int .i64)],.row 57 aC,.stk 107 3]⟩
abbrev nK:Sh:=⟨1,[⟨0,false,[.v .bool]⟩],[.box 110 [.v .str,.v (.int .i64),.own 1,.v (.int .i64),.own 2,.v (.int .i64),.v (.int .i64)],.row 57 aC,.stk 107 3]⟩
abbrev tV:Sh:=⟨1,[⟨0,false,[.ptr 0 0]⟩],[.box 110 [.v .str,.v (.int .i64),.own 1,.v (.int .i64),.own 2,.v (.int .i64),.v (.int .i64)],.row 57 aC,.stk 107 3]⟩
abbrev oW:Sh:=⟨1,[⟨0,false,[.v .bool]⟩],[.box 110 [.v .str,.v (.int .i64),.own 1,.v (.int .i64),.own 2,.v (.int .i64),.v (.int .i64)],.row 57 aC,.stk 107 3]⟩
abbrev vM:Sh:=⟨1,[⟨0,false,[.ptr 0 0]⟩],[.box 110 [.v .str,.v (.int .i64),.own 1,.v (.int .i64),.own 2,.v (.int .i64),.v (.int .i64)],.row 57 aC,.stk 107 3]⟩
abbrev pY:Sh:=⟨1,[⟨0,false,[.v .bool]⟩],[.box 110 [.v .str,.v (.int .i64),.own 1,.v (.int .i64),.own 2,.v (.int .i64),.v (.int .i64)],.row 57 aC,.stk 107 3]⟩
abbrev mK:Sh:=⟨2,[⟨0,false,[.ptr 0 0]⟩,⟨1,true,[.v (.arr 4 (.int .u64))]⟩],[.box 110 [.v .str,.v (.int .i64),.own 1,.v (.int .i64),.own 2,.v (.int .i64),.v (.int .i64)],.row 57 aC,.stk 107 3]⟩
abbrev jW:Sh:=⟨1,[⟨0,false,[.v .bool]⟩],[.box 110 [.v .str,.v (.int .i64),.own 1,.v (.int .i64),.own 2,.v (.int .i64),.v (.int .i64)],.row 57 aC,.stk 107 3]⟩
abbrev yO:Sh:=⟨1,[⟨0,false,[.ptr 0 0]⟩],[.box 110 [.v .str,.v (.int .i64),.own 1,.v (.int .i64),.own 2,.v (.int .i64),.v (.int .i64)],.row 57 aC,.stk 107 3]⟩
abbrev sS:Sh:=⟨1,[⟨0,false,[.v .bool]⟩],[.box 110 [.v .str,.v (.int .i64),.own 1,.v (.int .i64),.own 2,.v (.int .i64),.v (.int .i64)],.row 57 aC,.stk 107 3]⟩
abbrev wT:Sh:=⟨1,[⟨0,false,[.ptr 0 0]⟩],[.box 110 [.v .str,.v (.int .i64),.own 1,.v (.int .i64),.own 2,.v (.int .i64),.v (.int .i64)],.row 57 aC,.stk 107 3]⟩
abbrev rD:Sh:=⟨1,[⟨0,false,[.v .bool]⟩],[.box 110 [.v .str,.v (.int .i64),.own 1,.v (.int .i64),.own 2,.v (.int .i64),.v (.int .i64)],.row 57 aC,.stk 107 3]⟩
abbrev sK:Sh:=⟨1,[⟨0,false,[.ptr 0 0]⟩],[.box 110 [.v .str,.v (.int .i64),.own 1,.v (.int .i64),.own 2,.v (.int .i64),.v (.int .i64)],.row 57 aC,.stk 107 3]⟩
abbrev nT:Sh:=⟨1,[⟨0,false,[.v .bool]⟩],[.box 110 [.v .str,.v (.int .i64),.own 1,.v (.int .i64),.own 2,.v (.int .i64),.v (.int .i64)],.row 57 aC,.stk 107 3]⟩
abbrev Sw:Sh:=⟨3,[⟨0,false,[.ptr 0 0]⟩,⟨1,false,[.v (.int .i64)]⟩,⟨2,false,[.own 1]⟩],[.box 110 [.v .str,.v (.int .i64),.own 2,.v (.int .i64),.v .opq,.v (.int .i64),.v (.int .i64)],.row 3 (.int .i64),.row 57 aC]⟩
abbrev Cj:Sh:=⟨1,[⟨0,false,[.v (.int .i64)]⟩],[.box 110 [.v .str,.v (.int .i64),.own 2,.v (.int .i64),.v .opq,.v (.int .i64),.v (.int .i64)],.row 3 (.int .i64),.row 57 aC]⟩
abbrev nU:Sh:=⟨3,[⟨0,false,[.ptr 0 0]⟩,⟨1,false,[.v (.int .i64)]⟩,⟨2,false,[.own 1]⟩],[.box 110 [.v .str,.v (.int .i64),.own 2,.v (.int .i64),.any 1,.v (.int .i64),.v (.int .i64)],.row 3 (.int .i64),.row 57 aC]⟩
abbrev nV:Sh:=⟨1,[⟨0,false,[.v (.int .i64)]⟩],[.box 110 [.v .str,.v (.int .i64),.own 2,.v (.int .i64),.any 1,.v (.int .i64),.v (.int .i64)],.row 3 (.int .i64),.row 57 aC]⟩
abbrev sU:Sh:=⟨1,[⟨0,false,[.ptr 0 0]⟩],[.box 110 [.v .str,.v (.int .i64),.own 1,.v (.int .i64),.own 2,.v (.int .i64),.v (.int .i64)],.row 57 aC,.stk 107 3]⟩
abbrev oZ:Sh:=⟨1,[⟨0,false,[.v .bool]⟩],[.box 110 [.v .str,.v (.int .i64),.own 1,.v (.int .i64),.own 2,.v (.int .i64),.v (.int .i64)],.row 57 aC,.stk 107 3]⟩
abbrev yP:Sh:=⟨1,[⟨0,false,[.ptr 0 0]⟩],[.box 110 [.v .str,.v (.int .i64),.own 1,.v (.int .i64),.own 2,.v (.int .i64),.v (.int .i64)],.row 57 aC,.stk 107 3]⟩
abbrev sV:Sh:=⟨1,[⟨0,false,[.v .bool]⟩],[.box 110 [.v .str,.v (.int .i64),.own 1,.v (.int .i64),.own 2,.v (.int .i64),.v (.int .i64)],.row 57 aC,.stk 107 3]⟩
abbrev wU:Sh:=⟨1,[⟨0,false,[.ptr 0 0]⟩],[.box 110 [.v .str,.v (.int .i64),.own 1,.v (.int .i64),.own 2,.v (.int .i64),.v (.int .i64)],.row 57 aC,.stk 107 3]⟩
abbrev rE:Sh:=⟨1,[⟨0,false,[.v .bool]⟩],[.box 110 [.v .str,.v (.int .i64),.own 1,.v (.int .i64),.own 2,.v (.int .i64),.v (.int .i64)],.row 57 aC,.stk 107 3]⟩
abbrev tX:Sh:=⟨1,[⟨0,false,[.ptr 0 0]⟩],[.box 110 [.v .str,.v (.int .i64),.own 1,.v (.int .i64),.own 2,.v (.int .i64),.v (.int .i64)],.row 57 aC,.stk 107 3]⟩
abbrev pE:Sh:=⟨1,[⟨0,false,[.v .bool]⟩],[.box 110 [.v .str,.v (.int .i64),.own 1,.v (.int .i64),.own 2,.v (.int .i64),.v (.int .i64)],.row 57 aC,.stk 107 3]⟩
abbrev Ck:Sh:=⟨1,[⟨0,false,[.ptr 0 0]⟩],[.box 110 [.v .str,.v (.int .i64),.own 1,.v (.int .i64),.own 2,.v (.int .i64),.v (.int .i64)],.row 57 aC,.stk 107 3]⟩
abbrev vN:Sh:=⟨1,[⟨0,false,[.v .bool]⟩],[.box 110 [.v .str,.v (.int .i64),.own 1,.v (.int .i64),.any 1,.v (.int .i64),.v (.int .i64)],.row 57 aC,.stk 107 3]⟩
abbrev Dq:List Ty:=[.str]
abbrev yQ:List Ty:=[.slice aC,.int .i64,.int .i64]
abbrev zDj:List Ty:=[.arr 4 (.int .u64)]
abbrev Qi:List Ty:=[.str]
abbrev Zh:List Ty:=[aC]
abbrev Lp:List Ty:=[.str]
abbrev Zi:List Ty:=[.slice aC]
abbrev Lr:List Ty:=[.str,.int .i64]
abbrev Qj:List Ty:=[]
abbrev Fb:List Ty:=[.bool]
abbrev zBj:List Ty:=[.str,.str]
abbrev Jq:List Ty:=[.bool]
def Qk (n:Nat):An (Ci.X) := .nil
theorem Ic(n:Nat):gB Tryz.prog 158 Sv Ci (kP n):=
 gD (Γ:=dD _ [(73,bZ lI lJ (strings_IndexByte n))] []) (an:=Qk n) (co:=[.gc [0,1]]) Tryz.func158 rfl (by kernel_rfl) fD (aZ (all_cons (aU (kU n)) (all_nil)) (bA)) gX (aT _ _ rfl) (by kernel_rfl) (by kernel_rfl) (λx=>by kernel_rfl)
theorem tY(n:Nat):Er Tryz.prog 158 4 sI sJ (bQ n):=
 Gr (j:=4) (λv x=>(x.1,x.2.1,x.2.2.1,v,x.2.2.2)) (λv y=>(y.1,y.2.1,y.2.2.1,y.2.2.2.1,v,y.2.2.2.2)) (Hz n) (λv x=>⟨_,_,rfl,rfl,rfl,rfl⟩) (λv y=>⟨_,_,rfl,rfl,rfl,rfl⟩) (by decide) (Ic n)
def Sy (n:Nat):An (Fa.X) := .nil
theorem Jr(n:Nat):gB Tryz.prog 125 Wd Fa (oV n):=
 gD (Γ:=dD _ [] []) (an:=Sy n) (co:=[.gc [0,1]]) Tryz.func125 rfl (by kernel_rfl) fD (aZ (all_nil) (bA)) gX (aT _ _ rfl) (by kernel_rfl) (by kernel_rfl) (λx=>by kernel_rfl)
theorem dJ(n:Nat):Er Tryz.prog 125 4 eB eD (aN n):=
 Gr (j:=4) (λv x=>(x.1,x.2.1,x.2.2.1,x.2.2.2.1,x.2.2.2.2.1,v,x.2.2.2.2.2)) (λv y=>(y.1,y.2.1,y.2.2.1,y.2.2.2.1,v,y.2.2.2.2)) (Jo n) (λv x=>⟨_,_,rfl,rfl,rfl,rfl⟩) (λv y=>⟨_,_,rfl,rfl,rfl,rfl⟩) (by decide) (Jr n)
def Wh (n:Nat):An (yN.X) := .nil
theorem yR(n:Nat):gB Tryz.prog 160 Gu yN (fJ n):=
 gD (Γ:=dD _ [] []) (an:=Wh n) (co:=[.gc [0,1]]) Tryz.func160 rfl (by kernel_rfl) fD (aZ (all_nil) (bA)) gX (aT _ _ rfl) (by kernel_rfl) (by kernel_rfl) (λx=>by kernel_rfl)
theorem kZ(n:Nat):Er Tryz.prog 160 4 mI mJ (bJ n):=
 Gr (j:=4) (λv x=>(x.1,x.2.1,x.2.2.1,x.2.2.2.1,x.2.2.2.2.1,x.2.2.2.2.2.1,x.2.2.2.2.2.2.1,x.2.2.2.2.2.2.2.1,x.2.2.2.2.2.2.2.2.1,x.2.2.2.2.2.2.2.2.2.1,v,x.2.2.2.2.2.2.2.2.2.2)) (λv y=>(y.1,y.2.1,y.2.2.1,y.2.2.2.1,v,y.2.2.2.2)) (Lm n) (λv x=>⟨_,_,rfl,rfl,rfl,rfl⟩) (λv y=>⟨_,_,rfl,rfl,rfl,rfl⟩) (by decide) (yR n)
def zIf (n:Nat):An (cO Ib) := .nil
theorem Zj(n:Nat):Pure Tryz.prog 191 Ue Ib (uX n):=
 dH (Γ:=dD _ [(167,bZ Jc Jd (wF n))] []) (an:=zIf n) Tryz.func191 rfl (by kernel_rfl) fD (aZ (all_cons (aU (Oy n)) (all_nil)) (bA)) gX (aT _ _ rfl) (λx=>by kernel_rfl)
def zOv (n:Nat):An (cO Qh) := .nil
theorem zEn(n:Nat):Pure Tryz.prog 179 zDi Qh (Ez n):=
 dH (Γ:=dD _ [(84,bZ yA yB (strings_Cut n)),(191,bZ Ue Ib (uX n))] []) (an:=zOv n) Tryz.func179 rfl (by kernel_rfl) fD (aZ (all_cons (aU (wP n)) (all_cons (aU (Zj n)) (all_nil))) (bA)) gX (aT _ _ rfl) (λx=>by kernel_rfl)
def Sz (n:Nat):An (nK.X):=(.mk .nil (.scope 0 (.mk .nil (.mk .nil (.mk .nil (.mk .nil (.mk .nil (.mk .nil (.mk .nil (.mk .nil (.mk (.co [.opn 0 4] .nil) (.mk (.co [.cls 0 4] .nil) .nil []) []) []) []) []) []) []) []) []) []) (.mk .nil (.mk (.co [.opn 0 4] .nil) (.mk (.co [.cls 0 4] .nil) .nil []) []) [])) [])
theorem qG(n:Nat):gB Tryz.prog 159 rC nK (fB n):=
 gD (Γ:=dD _ [(126,Gs 4 4),(84,bZ yA yB (strings_Cut n)),(179,bZ zDi Qh (Ez n))] [geK 158 4 4 sI sJ (bQ n),geK 160 4 4 mI mJ (bJ n),geK 125 4 4 eB eD (aN n)]) (an:=Sz n) (co:=[.gc [0,1,2]]) Tryz.func159 rfl (by kernel_rfl) fD (aZ (all_cons (Ld Zg) (all_cons (aU (wP n)) (all_cons (aU (zEn n)) (all_nil)))) (cK (kH (tY n)) (cK (kH (kZ n)) (cK (kH (dJ n)) (bA))))) gX (aT _ _ rfl) (by kernel_rfl) (by kernel_rfl) (λx=>by kernel_rfl)
def Nf (n:Nat):An (oW.X) := .nil
theorem vB(n:Nat):gB Tryz.prog 114 tV oW (iN n):=
 gD (Γ:=dD _ [(159,peM rC nK (fB n))] [geK 158 4 4 sI sJ (bQ n),geK 125 4 4 eB eD (aN n),geK 160 4 4 mI mJ (bJ n)]) (an:=Nf n) (co:=[.gc [0,1,2]]) Tryz.func114 rfl (by kernel_rfl) fD (aZ (all_cons (eP (qG n)) (all_nil)) (cK (kH (tY n)) (cK (kH (dJ n)) (cK (kH (kZ n)) (bA))))) gX (aT _ _ rfl) (by kernel_rfl) (by kernel_rfl) (λx=>by kernel_rfl)
def Ql (n:Nat):An (pY.X) := .nil
theorem vZ(n:Nat):gB Tryz.prog 115 vM pY (iB n):=
 gD (Γ:=dD _ [] [geK 125 4 4 eB eD (aN n)]) (an:=Ql n) (co:=[.gc [0,1,2]]) Tryz.func115 rfl (by kernel_rfl) fD (aZ (all_nil) (cK (kH (dJ n)) (bA))) gX (aT _ _ rfl) (by kernel_rfl) (by kernel_rfl) (λx=>by kernel_rfl)
def Qm (n:Nat):An (jW.X) := .nil
theorem lC(n:Nat):gB Tryz.prog 122 mK jW (dX n):=
 gD (Γ:=dD _ [(159,peM rC nK (fB n))] [geK 160 4 4 mI mJ (bJ n)]) (an:=Qm n) (co:=[.gc [0,1,2]]) Tryz.func122 rfl (by kernel_rfl) fD (aZ (all_cons (eP (qG n)) (all_nil)) (cK (kH (kZ n)) (bA))) gX (aT _ _ rfl) (by kernel_rfl) (by kernel_rfl) (λx=>by kernel_rfl)
end Go.Dec
namespace Go.Dec
open Go.Proofs
set_option linter.unusedVariables false
def Wi (n:Nat):An (sS.X) := .nil
theorem yS(n:Nat):gB Tryz.prog 116 yO sS (nC n):=
 gD (Γ:=dD _ [(50,bZ Vq Lg (Dx n)),(122,peM mK jW (dX n))] []) (an:=Wi n) (co:=[.gc [0,1,2]]) Tryz.func116 rfl (by kernel_rfl) fD (aZ (all_cons (aU (Pz n)) (all_cons (eP (lC n)) (all_nil))) (bA)) gX (aT _ _ rfl) (by kernel_rfl) (by kernel_rfl) (λx=>by kernel_rfl)
def Ta (n:Nat):An (rD.X) := .nil
theorem xE(n:Nat):gB Tryz.prog 117 wT rD (lQ n):=
 gD (Γ:=dD _ [(17,bZ Pp Et (pQ n)),(122,peM mK jW (dX n))] [geK 125 4 4 eB eD (aN n)]) (an:=Ta n) (co:=[.gc [0,1,2]]) Tryz.func117 rfl (by kernel_rfl) fD (aZ (all_cons (aU (Vw n)) (all_cons (eP (lC n)) (all_nil))) (cK (kH (dJ n)) (bA))) gX (aT _ _ rfl) (by kernel_rfl) (by kernel_rfl) (λx=>by kernel_rfl)
def Ls (n:Nat):An (nT.X) := .nil
theorem tZ(n:Nat):gB Tryz.prog 118 sK nT (jG n):=
 gD (Γ:=dD _ [(123,bZ Si Jg (rQ n)),(122,peM mK jW (dX n)),(73,bZ lI lJ (strings_IndexByte n)),(87,bZ Dn yJ (cZ n))] [geK 125 4 4 eB eD (aN n)]) (an:=Ls n) (co:=[.gc [0,1,2]]) Tryz.func118 rfl (by kernel_rfl) fD (aZ (all_cons (aU (Hw n)) (all_cons (eP (lC n)) (all_cons (aU (kU n)) (all_cons (aU (zW n)) (all_nil))))) (cK (kH (dJ n)) (bA))) gX (aT _ _ rfl) (by kernel_rfl) (by kernel_rfl) (λx=>by kernel_rfl)
def Qn (n:Nat):An (Cj.X):=(.mk .nil (.mk .nil (.mk (.mk .nil (.mk (.loop ⟨32,[⟨0,false,[.ptr 0 0]⟩,⟨1,false,[.v (.int .i64)]⟩,⟨2,false,[.own 1]⟩,⟨7,false,[.v (.int .i64)]⟩,⟨8,false,[.v (.int .i64)]⟩],[.box 110 [.v .str,.v (.int .i64),.own 2,.v (.int .i64),.v .opq,.v (.int .i64),.v (.int .i64)],.row 3 (.int .i64),.row 57 aC]⟩ [.keep (kbm 9 391),.gcA 3,.gcA 3] [.keep (kbm 9 391),.gcA 3,.gcA 3] n .nil) .nil []) []) .nil []) []) [])
theorem Ie(n:Nat):gB Tryz.prog 127 Sw Cj (kQ n):=
 gD (Γ:=dD _ [(160,peM Gu yN (fJ n))] []) (an:=Qn n) (co:=[.gc [0,1,2]]) Tryz.func127 rfl (by kernel_rfl) fD (aZ (all_cons (eP (yR n)) (all_nil)) (bA)) gX (aT _ _ rfl) (by kernel_rfl) (by kernel_rfl) (λx=>by kernel_rfl)
theorem nL(n:Nat):Er Tryz.prog 127 4 nU nV (dU n):=
 Gr (j:=4) (λv x=>(x.1,x.2.1,x.2.2.1,x.2.2.2.1,v,x.2.2.2.2)) (λv y=>(y.1,y.2.1,y.2.2.1,y.2.2.2.1,v,y.2.2.2.2)) (Ia n) (λv x=>⟨_,_,rfl,rfl,rfl,rfl⟩) (λv y=>⟨_,_,rfl,rfl,rfl,rfl⟩) (by decide) (Ie n)
def Wj (n:Nat):An (oZ.X):=(.mk .nil (.mk (.co [.opn 0 4] .nil) (.mk (.mk .nil (.mk (.mk (.co [.cls 0 4] .nil) .nil []) .nil []) []) (.mk .nil (.mk .nil (.mk (.co [.Ve 2 3,.cls 0 4] .nil) .nil []) []) []) []) []) [])
theorem rF(n:Nat):gB Tryz.prog 124 sU oZ (fK n):=
 gD (Γ:=dD _ [(126,Gs 4 4)] [geK 125 4 4 eB eD (aN n),geK 127 4 4 nU nV (dU n)]) (an:=Wj n) (co:=[.gc [0,1,2]]) Tryz.func124 rfl (by kernel_rfl) fD (aZ (all_cons (Ld Zg) (all_nil)) (cK (kH (dJ n)) (cK (kH (nL n)) (bA)))) gX (aT _ _ rfl) (by kernel_rfl) (by kernel_rfl) (λx=>by kernel_rfl)
def Wm (n:Nat):An (sV.X) := .nil
theorem yT(n:Nat):gB Tryz.prog 119 yP sV (kR n):=
 gD (Γ:=dD _ [(124,peM sU oZ (fK n))] []) (an:=Wm n) (co:=[.gc [0,1,2]]) Tryz.func119 rfl (by kernel_rfl) fD (aZ (all_cons (eP (rF n)) (all_nil)) (bA)) gX (aT _ _ rfl) (by kernel_rfl) (by kernel_rfl) (λx=>by kernel_rfl)
def Tc (n:Nat):An (rE.X) := .nil
theorem xG(n:Nat):gB Tryz.prog 120 wU rE (lS n):=
 gD (Γ:=dD _ [] [geK 125 4 4 eB eD (aN n)]) (an:=Tc n) (co:=[.gc [0,1,2]]) Tryz.func120 rfl (by kernel_rfl) fD (aZ (all_nil) (cK (kH (dJ n)) (bA))) gX (aT _ _ rfl) (by kernel_rfl) (by kernel_rfl) (λx=>by kernel_rfl)
def Ng (n:Nat):An (pE.X):=(.mk .nil (.mk .nil (.mk .nil (.mk (.co [.opn 0 4] .nil) (.mk .nil (.mk (.co [.zTs 0 4] .nil) .nil []) []) []) []) []) [])
theorem vC(n:Nat):gB Tryz.prog 121 tX pE (gU n):=
 gD (Γ:=dD _ [(124,peM sU oZ (fK n)),(126,Gs 4 4),(159,peM rC nK (fB n))] [geK 125 4 4 eB eD (aN n),geK 127 4 4 nU nV (dU n),geK 160 4 4 mI mJ (bJ n)]) (an:=Ng n) (co:=[.gc [0,1,2]]) Tryz.func121 rfl (by kernel_rfl) fD (aZ (all_cons (eP (rF n)) (all_cons (Ld Zg) (all_cons (eP (qG n)) (all_nil)))) (cK (kH (dJ n)) (cK (kH (nL n)) (cK (kH (kZ n)) (bA))))) gX (aT _ _ rfl) (by kernel_rfl) (by kernel_rfl) (λx=>by kernel_rfl)
def Qo (n:Nat):An (vN.X):=(.mk .nil (.mk .nil (.mk (.mk (.loop ⟨95,[⟨0,false,[.ptr 0 0]⟩,⟨3,false,[.mp 3]⟩],[.box 110 [.v .str,.v (.int .i64),.own 1,.v (.int .i64),.own 2,.v (.int .i64),.v (.int .i64)],.row 57 aC,.stk 107 3,.fm [(.i .u8 94,114),(.i .u8 36,114),(.i .u8 42,115),(.i .u8 43,115),(.i .u8 63,115),(.i .u8 123,115),(.i .u8 46,116),(.i .u8 91,117),(.i .u8 92,118),(.i .u8 124,119),(.i .u8 40,120),(.i .u8 41,121)]]⟩ [.keep [true,false,false,true],.gcA 3,.gcA 3] [.keep [true,false,false,true],.gcA 3,.gcA 3] n .nil) .nil []) (.mk .nil (.mk .nil (.mk (.co [.opn 0 4] .nil) .nil []) []) []) []) []) [])
theorem Ig(n:Nat):gB Tryz.prog 77 Ck vN (rA n):=
 gD (Γ:=dD _ [(114,peM tV oW (iN n)),(115,peM vM pY (iB n)),(116,peM yO sS (nC n)),(117,peM wT rD (lQ n)),(118,peM sK nT (jG n)),(119,peM yP sV (kR n)),(120,peM wU rE (lS n)),(121,peM tX pE (gU n)),(123,bZ Si Jg (rQ n)),(122,peM mK jW (dX n)),(124,peM sU oZ (fK n)),(126,Gs 4 4)] [geM 114 tV oW (iN n),geM 115 vM pY (iB n),geM 116 yO sS (nC n),geM 117 wT rD (lQ n),geM 118 sK nT (jG n),geM 119 yP sV (kR n),geM 120 wU rE (lS n),geM 121 tX pE (gU n),geK 125 4 4 eB eD (aN n),geK 127 4 4 nU nV (dU n)]) (an:=Qo n) (co:=[.Kr 0 4,.shut 2,.gc [0,1,2]]) Tryz.func77 rfl (by kernel_rfl) fD (aZ (all_cons (eP (vB n)) (all_cons (eP (vZ n)) (all_cons (eP (yS n)) (all_cons (eP (xE n)) (all_cons (eP (tZ n)) (all_cons (eP (yT n)) (all_cons (eP (xG n)) (all_cons (eP (vC n)) (all_cons (aU (Hw n)) (all_cons (eP (lC n)) (all_cons (eP (rF n)) (all_cons (Ld Zg) (all_nil))))))))))))) (cK (Bh (vB n)) (cK (Bh (vZ n)) (cK (Bh (yS n)) (cK (Bh (xE n)) (cK (Bh (tZ n)) (cK (Bh (yT n)) (cK (Bh (xG n)) (cK (Bh (vC n)) (cK (kH (dJ n)) (cK (kH (nL n)) (bA)))))))))))) gX (aT _ _ rfl) (by kernel_rfl) (by kernel_rfl) (λx=>by kernel_rfl)
def zKq (n:Nat):An (cO yQ):=(.mk .nil (.mk .nil (.mk .nil (.mk (.mk (.co [.ownB 1 2 35] .nil) .nil []) .nil []) []) []) [])
theorem zX(n:Nat):Pure Tryz.prog 35 Dq yQ (jY n):=
 dH (Γ:=dD _ [(77,peM Ck vN (rA n))] []) (an:=zKq n) Tryz.func35 rfl (by kernel_rfl) fD (aZ (all_cons (eP (Ig n)) (all_nil)) (bA)) gX (aT _ _ rfl) (λx=>by kernel_rfl)
def zOw (n:Nat):An (cO Qi) := .nil
theorem zEo(n:Nat):Pure Tryz.prog 42 zDj Qi (Vz n):=
 dH (Γ:=dD _ [(68,bZ Dl Dm (oO n)),(30,bZ zDh Py (Lf n)),(81,bZ Cc Ce (strings_Contains n))] []) (an:=zOw n) Tryz.func42 rfl (by kernel_rfl) fD (aZ (all_cons (aU (zP n)) (all_cons (aU (zEm n)) (all_cons (aU (Jb n)) (all_nil)))) (bA)) gX (aT _ _ rfl) (λx=>by kernel_rfl)
end Go.Dec
namespace Go.Dec
open Go.Proofs
set_option linter.unusedVariables false
def zKr (n:Nat):An (cO Lp) := .nil
theorem zBk(n:Nat):Pure Tryz.prog 79 Zh Lp (Qf n):=
 dH (Γ:=dD _ [(63,bZ wH wI (strconv_Itoa n))] []) (an:=zKr n) Tryz.func79 rfl (by kernel_rfl) fD (aZ (all_cons (aU (vH n)) (all_nil)) (bA)) gX (aT _ _ rfl) (λx=>by kernel_rfl)
def zKs (n:Nat):An (cO Lr):=(.mk .nil (.mk .nil (.mk .nil (.mk (.mk .nil (.mk (.loop ⟨134,[⟨0,false,[.v (.slice aC)]⟩,⟨4,false,[.own 0]⟩,⟨17,false,[.v (.slice aC)]⟩,⟨18,false,[.v (.int .i64)]⟩,⟨19,false,[.v (.int .i64)]⟩],[.row 9 .str]⟩ [.keep (kbm 20 917521),.gcA 0,.gcA 0] [.keep (kbm 20 917521),.gcA 0,.gcA 0] n .nil) .nil []) []) .nil []) []) []) [])
theorem zBl(n:Nat):Pure Tryz.prog 38 Zi Lr (Qg n):=
 dH (Γ:=dD _ [(24,bZ zBh Sj (yF n)),(42,bZ zDj Qi (Vz n)),(79,bZ Zh Lp (Qf n)),(63,bZ wH wI (strconv_Itoa n)),(35,bZ Dq yQ (jY n)),(27,bZ Vu Lj (sD n))] []) (an:=zKs n) Tryz.func38 rfl (by kernel_rfl) fD (aZ (all_cons (aU (Ud n)) (all_cons (aU (zEo n)) (all_cons (aU (zBk n)) (all_cons (aU (vH n)) (all_cons (aU (zX n)) (all_cons (aU (Qe n)) (all_nil))))))) (bA)) gX (aT _ _ rfl) (λx=>by kernel_rfl)
def zEp (n:Nat):An (cO Fb) := .nil
theorem Wn(n:Nat):Pure Tryz.prog 34 Qj Fb (kY n):=
 dH (Γ:=dD _ [(35,bZ Dq yQ (jY n)),(38,bZ Zi Lr (Qg n)),(40,bZ Ll Dp (qK n))] []) (an:=zEp n) Tryz.func34 rfl (by kernel_rfl) fD (aZ (all_cons (aU (zX n)) (all_cons (aU (zBl n)) (all_cons (aU (Jm n)) (all_nil)))) (bA)) gX (aT _ _ rfl) (λx=>by kernel_rfl)
end Go.Dec
