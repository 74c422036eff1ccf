/- Part of a proof over this seat: a library of my own, and what it says of this seat. No statement is proved here. -/
import Derived.Test.YthhbdkdofhhoeaaGreatDoorProg
import Derived.Test.YthhbdkdofhhoeaaGreatDoorPartBH
import Derived.Test.YthhbdkdofhhoeaaGreatDoorPartBG
import Derived.Test.YthhbdkdofhhoeaaGreatDoorPartAS
import Derived.Test.YthhbdkdofhhoeaaGreatDoorPartAL
import Derived.Test.YthhbdkdofhhoeaaGreatDoorPartBI
import Derived.KernelRfl
namespace Go.Dec
open Go.Proofs
set_option linter.unusedVariables false
def yBj:Tab:=[(3,⟨.int .i64,1,8,[.val (.int .i64) 0],some (.int .i64),false⟩),
 (4,⟨.bool,1,1,[.val .bool false],some .bool,false⟩),
 (5,⟨.int .u8,1,1,[.val (.int .u8) 0],some (.int .u8),false⟩),
 (9,⟨.str,1,16,[.val .str []],some .str,false⟩),
 (23,⟨.int .u64,1,8,[.val (.int .u64) 0],some (.int .u64),false⟩),
 (24,⟨.arr 4 23,4,32,[.val (.arr 4 (.int .u64)) ([0,0,0,0])],some (.arr 4 (.int .u64)),true⟩),
 (25,⟨.arr 4 23,4,32,[.val (.arr 4 (.int .u64)) ([0,0,0,0])],some (.arr 4 (.int .u64)),true⟩),
 (26,⟨.int .i64,1,8,[.val (.int .i64) 0],some (.int .i64),false⟩),
 (30,⟨.arr 256 4,256,256,[.val (.arr 256 .bool) ([false,false,false,false,false,false,false,false,false,false,false,false,false,false,false,false,false,false,false,false,false,false,false,false,false,false,false,false,false,false,false,false,false,false,false,false,false,false,false,false,false,false,false,false,false,false,false,false,false,false,false,false,false,false,false,false,false,false,false,false,false,false,false,false,false,false,false,false,false,false,false,false,false,false,false,false,false,false,false,false,false,false,false,false,false,false,false,false,false,false,false,false,false,false,false,false,false,false,false,false,false,false,false,false,false,false,false,false,false,false,false,false,false,false,false,false,false,false,false,false,false,false,false,false,false,false,false,false,false,false,false,false,false,false,false,false,false,false,false,false,false,false,false,false,false,false,false,false,false,false,false,false,false,false,false,false,false,false,false,false,false,false,false,false,false,false,false,false,false,false,false,false,false,false,false,false,false,false,false,false,false,false,false,false,false,false,false,false,false,false,false,false,false,false,false,false,false,false,false,false,false,false,false,false,false,false,false,false,false,false,false,false,false,false,false,false,false,false,false,false,false,false,false,false,false,false,false,false,false,false,false,false,false,false,false,false,false,false,false,false,false,false,false,false,false,false,false,false,false,false,false,false,false,false,false,false])],some (.arr 256 .bool),true⟩),
 (35,⟨.slice 57,1,24,[.bV],some (.slice aC),false⟩),
 (38,⟨.slice 51,1,24,[.bV],some (.slice aC),false⟩),
 (51,⟨.struct [(0,3),(1,24),(5,3),(6,3),(7,3),(8,3),(9,3)],10,80,[.val (.int .i64) 0,.val (.arr 4 (.int .u64)) ([0,0,0,0]),.val (.int .i64) 0,.val (.int .i64) 0,.val (.int .i64) 0,.val (.int .i64) 0,.val (.int .i64) 0],some aC,true⟩),
 (57,⟨.struct [(0,3),(1,25),(5,3),(6,3),(7,3),(8,3),(9,3)],10,80,[.val (.int .i64) 0,.val (.arr 4 (.int .u64)) ([0,0,0,0]),.val (.int .i64) 0,.val (.int .i64) 0,.val (.int .i64) 0,.val (.int .i64) 0,.val (.int .i64) 0],some aC,true⟩),
 (61,⟨.ptr 63,1,8,[.jX],none,false⟩),
 (63,⟨.struct [(0,9),(1,3)],2,24,[.val .str [],.val (.int .i64) 0],some zUc,true⟩),
 (65,⟨.struct [(0,26),(1,3)],2,16,[.val (.int .i64) 0,.val (.int .i64) 0],some Xc,true⟩),
 (78,⟨.ptr 81,1,8,[.jX],none,false⟩),
 (79,⟨.arr 10 4,10,10,[.val (.arr 10 .bool) ([false,false,false,false,false,false,false,false,false,false])],some (.arr 10 .bool),true⟩),
 (81,⟨.struct [(0,9),(1,3),(2,35),(3,3),(4,79)],14,72,[.val .str [],.val (.int .i64) 0,.bV,.val (.int .i64) 0,.val (.arr 10 .bool) ([false,false,false,false,false,false,false,false,false,false])],some uT,false⟩),
 (85,⟨.struct [(0,38),(1,3),(2,79),(12,3),(13,26)],14,64,[.bV,.val (.int .i64) 0,.val (.arr 10 .bool) ([false,false,false,false,false,false,false,false,false,false]),.val (.int .i64) 0,.val (.int .i64) 0],some uU,false⟩),
 (90,⟨.slice 9,1,24,[.bV],some (.slice .str),false⟩),
 (96,⟨.slice 5,1,24,[.bV],some (.slice (.int .u8)),false⟩),
 (104,⟨.ptr 110,1,8,[.jX],none,false⟩),
 (105,⟨.slice 3,1,24,[.bV],some (.slice (.int .i64)),false⟩),
 (107,⟨.struct [(0,3),(1,3),(2,105),(3,105)],4,64,[.val (.int .i64) 0,.val (.int .i64) 0,.bV,.bV],some Nb,false⟩),
 (108,⟨.slice 107,1,24,[.bV],some (.slice Nb),false⟩),
 (110,⟨.struct [(0,9),(1,3),(2,35),(3,3),(4,108),(5,26),(6,3)],7,96,[.val .str [],.val (.int .i64) 0,.bV,.val (.int .i64) 0,.bV,.val (.int .i64) 0,.val (.int .i64) 0],some xZ,false⟩),
 (112,⟨.struct [(0,38),(1,3),(2,3),(3,26)],4,48,[.bV,.val (.int .i64) 0,.val (.int .i64) 0,.val (.int .i64) 0],some Nc,false⟩),
 (115,⟨.slice 25,1,24,[.bV],some (.slice (.arr 4 (.int .u64))),false⟩),
 (130,⟨.struct [(0,4),(1,3),(2,79),(12,4)],13,32,[.val .bool false,.val (.int .i64) 0,.val (.arr 10 .bool) ([false,false,false,false,false,false,false,false,false,false]),.val .bool false],some Xd,true⟩),
 (135,⟨.func,1,8,[.val .opq Value.nilFunc],some .opq,false⟩),
 (137,⟨.iface false,1,16,[.val .err false],some .err,false⟩),
 (148,⟨.func,1,8,[.val .opq Value.nilFunc],some .opq,false⟩),
 (149,⟨.map 5 148,1,8,[.val .opq (Value.map none)],none,false⟩)]
theorem eZ:bC Tryz.prog yBj:=Sl (by kernel_rfl)
theorem gP:Tryz.prog.follows .mixedOrders=true:=by kernel_rfl
abbrev Qu:Sh:=⟨1,[⟨0,false,[.ptr 0 0]⟩],[.box 110 [.v .str,.v (.int .i64),.own 1,.v (.int .i64),.v .opq,.v (.int .i64),.v (.int .i64)],.row 57 aC]⟩
abbrev Ay:Sh:=⟨1,[⟨0,false,[.v .bool]⟩],[.box 110 [.v .str,.v (.int .i64),.own 1,.v (.int .i64),.v .opq,.v (.int .i64),.v (.int .i64)],.row 57 aC]⟩
abbrev qY:Sh:=⟨1,[⟨0,false,[.ptr 0 0]⟩],[.box 110 [.v .str,.v (.int .i64),.own 1,.v (.int .i64),.any 1,.v (.int .i64),.v (.int .i64)],.row 57 aC]⟩
abbrev qZ:Sh:=⟨1,[⟨0,false,[.v .bool]⟩],[.box 110 [.v .str,.v (.int .i64),.own 1,.v (.int .i64),.any 1,.v (.int .i64),.v (.int .i64)],.row 57 aC]⟩
abbrev Un:Sh:=⟨3,[⟨0,false,[.ptr 0 0]⟩,⟨1,false,[.v (.int .i64)]⟩,⟨2,false,[.v (.int .i64)]⟩],[.box 110 [.v .str,.v (.int .i64),.own 1,.v (.int .i64),.v .opq,.v (.int .i64),.v (.int .i64)],.row 57 aC]⟩
abbrev Dw:Sh:=⟨1,[⟨0,false,[.v .bool]⟩],[.box 110 [.v .str,.v (.int .i64),.own 1,.v (.int .i64),.v .opq,.v (.int .i64),.v (.int .i64)],.row 57 aC]⟩
abbrev dV:Sh:=⟨3,[⟨0,false,[.ptr 0 0]⟩,⟨1,false,[.v (.int .i64)]⟩,⟨2,false,[.v (.int .i64)]⟩],[.box 110 [.v .str,.v (.int .i64),.own 1,.v (.int .i64),.any 1,.v (.int .i64),.v (.int .i64)],.row 57 aC]⟩
abbrev dW:Sh:=⟨1,[⟨0,false,[.v .bool]⟩],[.box 110 [.v .str,.v (.int .i64),.own 1,.v (.int .i64),.any 1,.v (.int .i64),.v (.int .i64)],.row 57 aC]⟩
abbrev Ew:Sh:=⟨2,[⟨0,false,[.ptr 0 0]⟩,⟨1,true,[.v (.int .i64),.v (.arr 4 (.int .u64)),.v (.int .i64),.v (.int .i64),.v (.int .i64),.v (.int .i64),.v (.int .i64)]⟩],[.box 110 [.v .str,.v (.int .i64),.own 1,.v (.int .i64),.v .opq,.v (.int .i64),.v (.int .i64)],.row 57 aC]⟩
abbrev xO:Sh:=⟨1,[⟨0,false,[.v (.int .i64)]⟩],[.box 110 [.v .str,.v (.int .i64),.own 1,.v (.int .i64),.v .opq,.v (.int .i64),.v (.int .i64)],.row 57 aC]⟩
abbrev lN:Sh:=⟨2,[⟨0,false,[.ptr 0 0]⟩,⟨1,true,[.v (.int .i64),.v (.arr 4 (.int .u64)),.v (.int .i64),.v (.int .i64),.v (.int .i64),.v (.int .i64),.v (.int .i64)]⟩],[.box 110 [.v .str,.v (.int .i64),.own 1,.v (.int .i64),.any 1,.v (.int .i64),.v (.int .i64)],.row 57 aC]⟩
abbrev lQ:Sh:=⟨1,[⟨0,false,[.v (.int .i64)]⟩],[.box 110 [.v .str,.v (.int .i64),.own 1,.v (.int .i64),.any 1,.v (.int .i64),.v (.int .i64)],.row 57 aC]⟩
abbrev Ry:List Ty:=[.str]
abbrev Gh:List Ty:=[.int .i64]
abbrev zBp:List Ty:=[.str]
abbrev Od:List Ty:=[.int .i64,.int .i64,.bool]
abbrev qE:Sh:=⟨2,[⟨0,false,[.ptr 0 0]⟩,⟨1,false,[.v (.int .i64)]⟩],[.box 110 [.v .str,.v (.int .i64),.own 1,.v (.int .i64),.own 2,.v (.int .i64),.v (.int .i64)],.row 57 aC,.stk 107 3]⟩
abbrev mR:Sh:=⟨1,[⟨0,false,[.v .bool]⟩],[.box 110 [.v .str,.v (.int .i64),.own 1,.v (.int .i64),.own 2,.v (.int .i64),.v (.int .i64)],.row 57 aC,.stk 107 3]⟩
abbrev sF:Sh:=⟨1,[⟨0,false,[.ptr 0 0]⟩],[.box 110 [.v .str,.v (.int .i64),.own 1,.v (.int .i64),.own 2,.v (.int .i64),.v (.int .i64)],.row 57 aC,.stk 107 3]⟩
abbrev nW:Sh:=⟨1,[⟨0,false,[.v .bool]⟩],[.box 110 [.v .str,.v (.int .i64),.own 1,.v (.int .i64),.own 2,.v (.int .i64),.v (.int .i64)],.row 57 aC,.stk 107 3]⟩
abbrev uJ:Sh:=⟨1,[⟨0,false,[.ptr 0 0]⟩],[.box 110 [.v .str,.v (.int .i64),.own 1,.v (.int .i64),.own 2,.v (.int .i64),.v (.int .i64)],.row 57 aC,.stk 107 3]⟩
abbrev oO:Sh:=⟨1,[⟨0,false,[.v .bool]⟩],[.box 110 [.v .str,.v (.int .i64),.own 1,.v (.int .i64),.own 2,.v (.int .i64),.v (.int .i64)],.row 57 aC,.stk 107 3]⟩
abbrev lS:Sh:=⟨2,[⟨0,false,[.ptr 0 0]⟩,⟨1,true,[.v (.arr 4 (.int .u64))]⟩],[.box 110 [.v .str,.v (.int .i64),.own 1,.v (.int .i64),.own 2,.v (.int .i64),.v (.int .i64)],.row 57 aC,.stk 107 3]⟩
abbrev jO:Sh:=⟨1,[⟨0,false,[.v .bool]⟩],[.box 110 [.v .str,.v (.int .i64),.own 1,.v (.int .i64),.own 2,.v (.int .i64),.v (.int .i64)],.row 57 aC,.stk 107 3]⟩
abbrev xP:Sh:=⟨1,[⟨0,false,[.ptr 0 0]⟩],[.box 110 [.v .str,.v (.int .i64),.own 1,.v (.int .i64),.own 2,.v (.int .i64),.v (.int .i64)],.row 57 aC,.stk 107 3]⟩
abbrev rH:Sh:=⟨1,[⟨0,false,[.v .bool]⟩],[.box 110 [.v .str,.v (.int .i64),.own 1,.v (.int .i64),.own 2,.v (.int .i64),.v (.int .i64)],.row 57 aC,.stk 107 3]⟩
abbrev vR:Sh:=⟨1,[⟨0,false,[.ptr 0 0]⟩],[.box 110 [.v .str,.v (.int .i64),.own 1,.v (.int .i64),.own 2,.v (.int .i64),.v (.int .i64)],.row 57 aC,.stk 107 3]⟩
abbrev qF:Sh:=⟨1,[⟨0,false,[.v .bool]⟩],[.box 110 [.v .str,.v (.int .i64),.own 1,.v (.int .i64),.own 2,.v (.int .i64),.v (.int .i64)],.row 57 aC,.stk 107 3]⟩
abbrev rA:Sh:=⟨1,[⟨0,false,[.ptr 0 0]⟩],[.box 110 [.v .str,.v (.int .i64),.own 1,.v (.int .i64),.own 2,.v (.int .i64),.v (.int .i64)],.row 57 aC,.stk 107 3]⟩
abbrev mZ:Sh:=⟨1,[⟨0,false,[.v .bool]⟩],[.box 110 [.v .str,.v (.int .i64),.own 1,.v (.int .i64),.own 2,.v (.int .i64),.v (.int .i64)],.row 57 aC,.stk 107 3]⟩
abbrev Qv:Sh:=⟨3,[⟨0,false,[.ptr 0 0]⟩,⟨1,false,[.v (.int .i64)]⟩,⟨2,false,[.own 1]⟩],[.box 110 [.v .str,.v (.int .i64),.own 2,.v (.int .i64),.v .opq,.v (.int .i64),.v (.int .i64)],.row 3 (.int .i64),.row 57 aC]⟩
abbrev Az:Sh:=⟨1,[⟨0,false,[.v (.int .i64)]⟩],[.box 110 [.v .str,.v (.int .i64),.own 2,.v (.int .i64),.v .opq,.v (.int .i64),.v (.int .i64)],.row 3 (.int .i64),.row 57 aC]⟩
abbrev nA:Sh:=⟨3,[⟨0,false,[.ptr 0 0]⟩,⟨1,false,[.v (.int .i64)]⟩,⟨2,false,[.own 1]⟩],[.box 110 [.v .str,.v (.int .i64),.own 2,.v (.int .i64),.any 1,.v (.int .i64),.v (.int .i64)],.row 3 (.int .i64),.row 57 aC]⟩
abbrev nC:Sh:=⟨1,[⟨0,false,[.v (.int .i64)]⟩],[.box 110 [.v .str,.v (.int .i64),.own 2,.v (.int .i64),.any 1,.v (.int .i64),.v (.int .i64)],.row 3 (.int .i64),.row 57 aC]⟩
abbrev rJ:Sh:=⟨1,[⟨0,false,[.ptr 0 0]⟩],[.box 110 [.v .str,.v (.int .i64),.own 1,.v (.int .i64),.own 2,.v (.int .i64),.v (.int .i64)],.row 57 aC,.stk 107 3]⟩
abbrev nX:Sh:=⟨1,[⟨0,false,[.v .bool]⟩],[.box 110 [.v .str,.v (.int .i64),.own 1,.v (.int .i64),.own 2,.v (.int .i64),.v (.int .i64)],.row 57 aC,.stk 107 3]⟩
abbrev xQ:Sh:=⟨1,[⟨0,false,[.ptr 0 0]⟩],[.box 110 [.v .str,.v (.int .i64),.own 1,.v (.int .i64),.own 2,.v (.int .i64),.v (.int .i64)],.row 57 aC,.stk 107 3]⟩
abbrev rM:Sh:=⟨1,[⟨0,false,[.v .bool]⟩],[.box 110 [.v .str,.v (.int .i64),.own 1,.v (.int .i64),.own 2,.v (.int .i64),.v (.int .i64)],.row 57 aC,.stk 107 3]⟩
abbrev vS:Sh:=⟨1,[⟨0,false,[.ptr 0 0]⟩],[.box 110 [.v .str,.v (.int .i64),.own 1,.v (.int .i64),.own 2,.v (.int .i64),.v (.int .i64)],.row 57 aC,.stk 107 3]⟩
abbrev qG:Sh:=⟨1,[⟨0,false,[.v .bool]⟩],[.box 110 [.v .str,.v (.int .i64),.own 1,.v (.int .i64),.own 2,.v (.int .i64),.v (.int .i64)],.row 57 aC,.stk 107 3]⟩
abbrev sG:Sh:=⟨1,[⟨0,false,[.ptr 0 0]⟩],[.box 110 [.v .str,.v (.int .i64),.own 1,.v (.int .i64),.own 2,.v (.int .i64),.v (.int .i64)],.row 57 aC,.stk 107 3]⟩
abbrev nY:Sh:=⟨1,[⟨0,false,[.v .bool]⟩],[.box 110 [.v .str,.v (.int .i64),.own 1,.v (.int .i64),.own 2,.v (.int .i64),.v (.int .i64)],.row 57 aC,.stk 107 3]⟩
abbrev Ba:Sh:=⟨1,[⟨0,false,[.ptr 0 0]⟩],[.box 110 [.v .str,.v (.int .i64),.own 1,.v (.int .i64),.own 2,.v (.int .i64),.v (.int .i64)],.row 57 aC,.stk 107 3]⟩
abbrev uK:Sh:=⟨1,[⟨0,false,[.v .bool]⟩],[.box 110 [.v .str,.v (.int .i64),.own 1,.v (.int .i64),.any 1,.v (.int .i64),.v (.int .i64)],.row 57 aC,.stk 107 3]⟩
abbrev Ch:List Ty:=[.str]
abbrev xR:List Ty:=[.slice aC,.int .i64,.int .i64]
abbrev zBq:List Ty:=[.arr 4 (.int .u64)]
abbrev Oe:List Ty:=[.str]
abbrev Xu:List Ty:=[aC]
abbrev Jv:List Ty:=[.str]
abbrev Xv:List Ty:=[.slice aC]
abbrev Jw:List Ty:=[.str,.int .i64]
abbrev Og:List Ty:=[]
abbrev Dx:List Ty:=[.bool]
abbrev Uo:List Ty:=[.str]
abbrev Dy:List Ty:=[.bool]
def Oh (n:Nat):An (Ay.X):=.nil
theorem Gi (n:Nat):fT Tryz.prog 158 Qu Ay (kE n) :=
 fU (Γ:=dB _ [(73,bW kT kU (strings_IndexByte n))] []) (an:=Oh n) (co:=[.gc [0,1]]) Tryz.func158 rfl (by kernel_rfl) eZ (aZ (all_cons (aT (kI n)) (all_nil)) (bA)) gP (aS _ _ rfl) (by kernel_rfl) (by kernel_rfl) (fun x=>by kernel_rfl)
theorem sH (n:Nat):Dk Tryz.prog 158 4 qY qZ (bN n) :=
 Es (j:=4) (fun v x=>(x.1,x.2.1,x.2.2.1,v,x.2.2.2)) (fun v y=>(y.1,y.2.1,y.2.2.1,y.2.2.2.1,v,y.2.2.2.2)) (Gf n) (fun v x=>⟨_,_,rfl,rfl,rfl,rfl⟩) (fun v y=>⟨_,_,rfl,rfl,rfl,rfl⟩) (by decide) (Gi n)
def Qw (n:Nat):An (Dw.X):=.nil
theorem Ic (n:Nat):fT Tryz.prog 125 Un Dw (nV n) :=
 fU (Γ:=dB _ [] []) (an:=Qw n) (co:=[.gc [0,1]]) Tryz.func125 rfl (by kernel_rfl) eZ (aZ (all_nil) (bA)) gP (aS _ _ rfl) (by kernel_rfl) (by kernel_rfl) (fun x=>by kernel_rfl)
theorem dG (n:Nat):Dk Tryz.prog 125 4 dV dW (aN n) :=
 Es (j:=4) (fun v x=>(x.1,x.2.1,x.2.2.1,x.2.2.2.1,x.2.2.2.2.1,v,x.2.2.2.2.2)) (fun v y=>(y.1,y.2.1,y.2.2.1,y.2.2.2.1,v,y.2.2.2.2)) (Ia n) (fun v x=>⟨_,_,rfl,rfl,rfl,rfl⟩) (fun v y=>⟨_,_,rfl,rfl,rfl,rfl⟩) (by decide) (Ic n)
def Uq (n:Nat):An (xO.X):=.nil
theorem xS (n:Nat):fT Tryz.prog 160 Ew xO (fF n) :=
 fU (Γ:=dB _ [] []) (an:=Uq n) (co:=[.gc [0,1]]) Tryz.func160 rfl (by kernel_rfl) eZ (aZ (all_nil) (bA)) gP (aS _ _ rfl) (by kernel_rfl) (by kernel_rfl) (fun x=>by kernel_rfl)
theorem kM (n:Nat):Dk Tryz.prog 160 4 lN lQ (bI n) :=
 Es (j:=4) (fun v x=>(x.1,x.2.1,x.2.2.1,x.2.2.2.1,x.2.2.2.2.1,x.2.2.2.2.2.1,x.2.2.2.2.2.2.1,x.2.2.2.2.2.2.2.1,x.2.2.2.2.2.2.2.2.1,x.2.2.2.2.2.2.2.2.2.1,v,x.2.2.2.2.2.2.2.2.2.2)) (fun v y=>(y.1,y.2.1,y.2.2.1,y.2.2.2.1,v,y.2.2.2.2)) (Ju n) (fun v x=>⟨_,_,rfl,rfl,rfl,rfl⟩) (fun v y=>⟨_,_,rfl,rfl,rfl,rfl⟩) (by decide) (xS n)
def zGq (n:Nat):An (cK Gh):=.nil
theorem Xw (n:Nat):Pure Tryz.prog 191 Ry Gh (tO n) :=
 dD (Γ:=dB _ [(167,bW Hf Hg (vD n))] []) (an:=zGq n) Tryz.func191 rfl (by kernel_rfl) eZ (aZ (all_cons (aT (Mx n)) (all_nil)) (bA)) gP (aS _ _ rfl) (fun x=>by kernel_rfl)
def zNe (n:Nat):An (cK Od):=.nil
theorem zCt (n:Nat):Pure Tryz.prog 179 zBp Od (Dv n) :=
 dD (Γ:=dB _ [(84,bW wZ xA (strings_Cut n)),(191,bW Ry Gh (tO n))] []) (an:=zNe n) Tryz.func179 rfl (by kernel_rfl) eZ (aZ (all_cons (aT (vN n)) (all_cons (aT (Xw n)) (all_nil))) (bA)) gP (aS _ _ rfl) (fun x=>by kernel_rfl)
def Qx (n:Nat):An (mR.X):=(.mk .nil (.scope 0 (.mk .nil (.mk .nil (.mk .nil (.mk .nil (.mk .nil (.mk .nil (.mk .nil (.mk .nil (.mk (.co [.opn 0 4] .nil) (.mk (.co [.cls 0 4] .nil) .nil []) []) []) []) []) []) []) []) []) []) (.mk .nil (.mk (.co [.opn 0 4] .nil) (.mk (.co [.cls 0 4] .nil) .nil []) []) [])) [])
theorem pG (n:Nat):fT Tryz.prog 159 qE mR (eX n) :=
 fU (Γ:=dB _ [(126,Et 4 4),(84,bW wZ xA (strings_Cut n)),(179,bW zBp Od (Dv n))] [geK 158 4 4 qY qZ (bN n),geK 160 4 4 lN lQ (bI n),geK 125 4 4 dV dW (aN n)]) (an:=Qx n) (co:=[.gc [0,1,2]]) Tryz.func159 rfl (by kernel_rfl) eZ (aZ (all_cons (Jm Xt) (all_cons (aT (vN n)) (all_cons (aT (zCt n)) (all_nil)))) (bZ (jV (sH n)) (bZ (jV (kM n)) (bZ (jV (dG n)) (bA))))) gP (aS _ _ rfl) (by kernel_rfl) (by kernel_rfl) (fun x=>by kernel_rfl)
def Lc (n:Nat):An (nW.X):=.nil
theorem tV (n:Nat):fT Tryz.prog 114 sF nW (iH n) :=
 fU (Γ:=dB _ [(159,peM qE mR (eX n))] [geK 158 4 4 qY qZ (bN n),geK 125 4 4 dV dW (aN n),geK 160 4 4 lN lQ (bI n)]) (an:=Lc n) (co:=[.gc [0,1,2]]) Tryz.func114 rfl (by kernel_rfl) eZ (aZ (all_cons (eD (pG n)) (all_nil)) (bZ (jV (sH n)) (bZ (jV (dG n)) (bZ (jV (kM n)) (bA))))) gP (aS _ _ rfl) (by kernel_rfl) (by kernel_rfl) (fun x=>by kernel_rfl)
def Oi (n:Nat):An (oO.X):=.nil
theorem uW (n:Nat):fT Tryz.prog 115 uJ oO (gV n) :=
 fU (Γ:=dB _ [] [geK 125 4 4 dV dW (aN n)]) (an:=Oi n) (co:=[.gc [0,1,2]]) Tryz.func115 rfl (by kernel_rfl) eZ (aZ (all_nil) (bZ (jV (dG n)) (bA))) gP (aS _ _ rfl) (by kernel_rfl) (by kernel_rfl) (fun x=>by kernel_rfl)
def Oj (n:Nat):An (jO.X):=.nil
theorem kN (n:Nat):fT Tryz.prog 122 lS jO (dQ n) :=
 fU (Γ:=dB _ [(159,peM qE mR (eX n))] [geK 160 4 4 lN lQ (bI n)]) (an:=Oj n) (co:=[.gc [0,1,2]]) Tryz.func122 rfl (by kernel_rfl) eZ (aZ (all_cons (eD (pG n)) (all_nil)) (bZ (jV (kM n)) (bA))) gP (aS _ _ rfl) (by kernel_rfl) (by kernel_rfl) (fun x=>by kernel_rfl)
end Go.Dec
