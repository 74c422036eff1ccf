/- Part of a proof over this seat: a library of my own, and what it says of this seat. No statement is proved here. -/
import Derived.Test.YthhbdkdofhhoeaaGreatDoorProg
import Derived.Test.YthhbdkdofhhoeaaGreatDoorPartBH
import Derived.Test.YthhbdkdofhhoeaaGreatDoorPartBG
import Derived.Test.YthhbdkdofhhoeaaGreatDoorPartAS
import Derived.Test.YthhbdkdofhhoeaaGreatDoorPartAL
import Derived.Test.YthhbdkdofhhoeaaGreatDoorPartBI
import Derived.KernelRfl
namespace Go.Dec
open Go.Proofs
set_option linter.unusedVariables false
def yNz:Tab:=[(3,⟨.int .i64,1,8,[.val (.int .i64) 0],some (.int .i64),false⟩),
 (4,⟨.bool,1,1,[.val .bool false],some .bool,false⟩),
 (5,⟨.int .u8,1,1,[.val (.int .u8) 0],some (.int .u8),false⟩),
 (9,⟨.str,1,16,[.val .str []],some .str,false⟩),
 (23,⟨.int .u64,1,8,[.val (.int .u64) 0],some (.int .u64),false⟩),
 (24,⟨.arr 4 23,4,32,[.val (.arr 4 (.int .u64)) ([0,0,0,0])],some (.arr 4 (.int .u64)),true⟩),
 (25,⟨.arr 4 23,4,32,[.val (.arr 4 (.int .u64)) ([0,0,0,0])],some (.arr 4 (.int .u64)),true⟩),
 (26,⟨.int .i64,1,8,[.val (.int .i64) 0],some (.int .i64),false⟩),
 (30,⟨.arr 256 4,256,256,[.val (.arr 256 .bool) ([false,false,false,false,false,false,false,false,false,false,false,false,false,false,false,false,false,false,false,false,false,false,false,false,false,false,false,false,false,false,false,false,false,false,false,false,false,false,false,false,false,false,false,false,false,false,false,false,false,false,false,false,false,false,false,false,false,false,false,false,false,false,false,false,false,false,false,false,false,false,false,false,false,false,false,false,false,false,false,false,false,false,false,false,false,false,false,false,false,false,false,false,false,false,false,false,false,false,false,false,false,false,false,false,false,false,false,false,false,false,false,false,false,false,false,false,false,false,false,false,false,false,false,false,false,false,false,false,false,false,false,false,false,false,false,false,false,false,false,false,false,false,false,false,false,false,false,false,false,false,false,false,false,false,false,false,false,false,false,false,false,false,false,false,false,false,false,false,false,false,false,false,false,false,false,false,false,false,false,false,false,false,false,false,false,false,false,false,false,false,false,false,false,false,false,false,false,false,false,false,false,false,false,false,false,false,false,false,false,false,false,false,false,false,false,false,false,false,false,false,false,false,false,false,false,false,false,false,false,false,false,false,false,false,false,false,false,false,false,false,false,false,false,false,false,false,false,false,false,false,false,false,false,false,false,false])],some (.arr 256 .bool),true⟩),
 (35,⟨.slice 57,1,24,[.dG],some (.slice aC),false⟩),
 (38,⟨.slice 51,1,24,[.dG],some (.slice aC),false⟩),
 (51,⟨.struct [(0,3),(1,24),(5,3),(6,3),(7,3),(8,3),(9,3)],10,80,[.val (.int .i64) 0,.val (.arr 4 (.int .u64)) ([0,0,0,0]),.val (.int .i64) 0,.val (.int .i64) 0,.val (.int .i64) 0,.val (.int .i64) 0,.val (.int .i64) 0],some aC,true⟩),
 (57,⟨.struct [(0,3),(1,25),(5,3),(6,3),(7,3),(8,3),(9,3)],10,80,[.val (.int .i64) 0,.val (.arr 4 (.int .u64)) ([0,0,0,0]),.val (.int .i64) 0,.val (.int .i64) 0,.val (.int .i64) 0,.val (.int .i64) 0,.val (.int .i64) 0],some aC,true⟩),
 (61,⟨.ptr 63,1,8,[.lC],none,false⟩),
 (63,⟨.struct [(0,9),(1,3)],2,24,[.val .str [],.val (.int .i64) 0],some yEo,true⟩),
 (65,⟨.struct [(0,26),(1,3)],2,16,[.val (.int .i64) 0,.val (.int .i64) 0],some zEg,true⟩),
 (78,⟨.ptr 81,1,8,[.lC],none,false⟩),
 (79,⟨.arr 10 4,10,10,[.val (.arr 10 .bool) ([false,false,false,false,false,false,false,false,false,false])],some (.arr 10 .bool),true⟩),
 (81,⟨.struct [(0,9),(1,3),(2,35),(3,3),(4,79)],14,72,[.val .str [],.val (.int .i64) 0,.dG,.val (.int .i64) 0,.val (.arr 10 .bool) ([false,false,false,false,false,false,false,false,false,false])],some xM,false⟩),
 (85,⟨.struct [(0,38),(1,3),(2,79),(12,3),(13,26)],14,64,[.dG,.val (.int .i64) 0,.val (.arr 10 .bool) ([false,false,false,false,false,false,false,false,false,false]),.val (.int .i64) 0,.val (.int .i64) 0],some xO,false⟩),
 (90,⟨.slice 9,1,24,[.dG],some (.slice .str),false⟩),
 (96,⟨.slice 5,1,24,[.dG],some (.slice (.int .u8)),false⟩),
 (104,⟨.ptr 110,1,8,[.lC],none,false⟩),
 (105,⟨.slice 3,1,24,[.dG],some (.slice (.int .i64)),false⟩),
 (107,⟨.struct [(0,3),(1,3),(2,105),(3,105)],4,64,[.val (.int .i64) 0,.val (.int .i64) 0,.dG,.dG],some Ue,false⟩),
 (108,⟨.slice 107,1,24,[.dG],some (.slice Ue),false⟩),
 (110,⟨.struct [(0,9),(1,3),(2,35),(3,3),(4,108),(5,26),(6,3)],7,96,[.val .str [],.val (.int .i64) 0,.dG,.val (.int .i64) 0,.dG,.val (.int .i64) 0,.val (.int .i64) 0],some Bu,false⟩),
 (112,⟨.struct [(0,38),(1,3),(2,3),(3,26)],4,48,[.dG,.val (.int .i64) 0,.val (.int .i64) 0,.val (.int .i64) 0],some bY,false⟩),
 (115,⟨.slice 25,1,24,[.dG],some (.slice (.arr 4 (.int .u64))),false⟩),
 (130,⟨.struct [(0,4),(1,3),(2,79),(12,4)],13,32,[.val .bool false,.val (.int .i64) 0,.val (.arr 10 .bool) ([false,false,false,false,false,false,false,false,false,false]),.val .bool false],some zEh,true⟩),
 (135,⟨.func,1,8,[.val .opq Value.nilFunc],some .opq,false⟩),
 (137,⟨.iface false,1,16,[.val .err false],some .err,false⟩),
 (148,⟨.func,1,8,[.val .opq Value.nilFunc],some .opq,false⟩),
 (149,⟨.map 5 148,1,8,[.val .opq (Value.map none)],none,false⟩)]
theorem dF:bK Tryz.prog yNz:=Zy (by kernel_rfl)
theorem dW:Tryz.prog.follows .mixedOrders=true:=by kernel_rfl
abbrev Ym:Sh:=⟨1,[⟨0,false,[.ptr 0 0]⟩],[.box 110 [.v .str,.v (.int .i64),.own 1,.v (.int .i64),.v .opq,.v (.int .i64),.v (.int .i64)],.row 57 aC]⟩
abbrev Gh:Sh:=⟨1,[⟨0,false,[.v .bool]⟩],[.box 110 [.v .str,.v (.int .i64),.own 1,.v (.int .i64),.v .opq,.v (.int .i64),.v (.int .i64)],.row 57 aC]⟩
abbrev uG:Sh:=⟨1,[⟨0,false,[.ptr 0 0]⟩],[.box 110 [.v .str,.v (.int .i64),.own 1,.v (.int .i64),.any 1,.v (.int .i64),.v (.int .i64)],.row 57 aC]⟩
abbrev uH:Sh:=⟨1,[⟨0,false,[.v .bool]⟩],[.box 110 [.v .str,.v (.int .i64),.own 1,.v (.int .i64),.any 1,.v (.int .i64),.v (.int .i64)],.row 57 aC]⟩
abbrev zBs:Sh:=⟨3,[⟨0,false,[.ptr 0 0]⟩,⟨1,false,[.v (.int .i64)]⟩,⟨2,false,[.v (.int .i64)]⟩],[.box 110 [.v .str,.v (.int .i64),.own 1,.v (.int .i64),.v .opq,.v (.int .i64),.v (.int .i64)],.row 57 aC]⟩
abbrev Jm:Sh:=⟨1,[⟨0,false,[.v .bool]⟩],[.box 110 [.v .str,.v (.int .i64),.own 1,.v (.int .i64),.v .opq,.v (.int .i64),.v (.int .i64)],.row 57 aC]⟩
abbrev fC:Sh:=⟨3,[⟨0,false,[.ptr 0 0]⟩,⟨1,false,[.v (.int .i64)]⟩,⟨2,false,[.v (.int .i64)]⟩],[.box 110 [.v .str,.v (.int .i64),.own 1,.v (.int .i64),.any 1,.v (.int .i64),.v (.int .i64)],.row 57 aC]⟩
abbrev fD:Sh:=⟨1,[⟨0,false,[.v .bool]⟩],[.box 110 [.v .str,.v (.int .i64),.own 1,.v (.int .i64),.any 1,.v (.int .i64),.v (.int .i64)],.row 57 aC]⟩
abbrev Lf:Sh:=⟨2,[⟨0,false,[.ptr 0 0]⟩,⟨1,true,[.v (.int .i64),.v (.arr 4 (.int .u64)),.v (.int .i64),.v (.int .i64),.v (.int .i64),.v (.int .i64),.v (.int .i64)]⟩],[.box 110 [.v .str,.v (.int .i64),.own 1,.v (.int .i64),.v .opq,.v (.int .i64),.v (.int .i64)],.row 57 aC]⟩
abbrev Ay:Sh:=⟨1,[⟨0,false,[.v (.int .i64)]⟩],[.box 110 [.v .str,.v (.int .i64),.own 1,.v (.int .i64),.v .opq,.v (.int .i64),.v (.int .i64)],.row 57 aC]⟩
abbrev nD:Sh:=⟨2,[⟨0,false,[.ptr 0 0]⟩,⟨1,true,[.v (.int .i64),.v (.arr 4 (.int .u64)),.v (.int .i64),.v (.int .i64),.v (.int .i64),.v (.int .i64),.v (.int .i64)]⟩],[.box 110 [.v .str,.v (.int .i64),.own 1,.v (.int .i64),.any 1,.v (.int .i64),.v (.int .i64)],.row 57 aC]⟩
abbrev nE:Sh:=⟨1,[⟨0,false,[.v (.int .i64)]⟩],[.box 110 [.v .str,.v (.int .i64),.own 1,.v (.int .i64),.any 1,.v (.int .i64),.v (.int .i64)],.row 57 aC]⟩
abbrev Zo:List Ty:=[.str]
abbrev Ms:List Ty:=[.int .i64]
abbrev zJp:List Ty:=[.str]
abbrev Vm:List Ty:=[.int .i64,.int .i64,.bool]
abbrev sP:Sh:=⟨2,[⟨0,false,[.ptr 0 0]⟩,⟨1,false,[.v (.int .i64)]⟩],[.box 110 [.v .str,.v (.int .i64),.own 1,.v (.int .i64),.own 2,.v (.int .i64),.v (.int .i64)],.row 57 aC,.stk 107 3]⟩
abbrev oH:Sh:=⟨1,[⟨0,false,[.v .bool]⟩],[.box 110 [.v .str,.v (.int .i64),.own 1,.v (.int .i64),.own 2,.v (.int .i64),.v (.int .i64)],.row 57 aC,.stk 107 3]⟩
abbrev vK:Sh:=⟨1,[⟨0,false,[.ptr 0 0]⟩],[.box 110 [.v .str,.v (.int .i64),.own 1,.v (.int .i64),.own 2,.v (.int .i64),.v (.int .i64)],.row 57 aC,.stk 107 3]⟩
abbrev qK:Sh:=⟨1,[⟨0,false,[.v .bool]⟩],[.box 110 [.v .str,.v (.int .i64),.own 1,.v (.int .i64),.own 2,.v (.int .i64),.v (.int .i64)],.row 57 aC,.stk 107 3]⟩
abbrev xB:Sh:=⟨1,[⟨0,false,[.ptr 0 0]⟩],[.box 110 [.v .str,.v (.int .i64),.own 1,.v (.int .i64),.own 2,.v (.int .i64),.v (.int .i64)],.row 57 aC,.stk 107 3]⟩
abbrev rF:Sh:=⟨1,[⟨0,false,[.v .bool]⟩],[.box 110 [.v .str,.v (.int .i64),.own 1,.v (.int .i64),.own 2,.v (.int .i64),.v (.int .i64)],.row 57 aC,.stk 107 3]⟩
abbrev nG:Sh:=⟨2,[⟨0,false,[.ptr 0 0]⟩,⟨1,true,[.v (.arr 4 (.int .u64))]⟩],[.box 110 [.v .str,.v (.int .i64),.own 1,.v (.int .i64),.own 2,.v (.int .i64),.v (.int .i64)],.row 57 aC,.stk 107 3]⟩
abbrev kN:Sh:=⟨1,[⟨0,false,[.v .bool]⟩],[.box 110 [.v .str,.v (.int .i64),.own 1,.v (.int .i64),.own 2,.v (.int .i64),.v (.int .i64)],.row 57 aC,.stk 107 3]⟩
abbrev Az:Sh:=⟨1,[⟨0,false,[.ptr 0 0]⟩],[.box 110 [.v .str,.v (.int .i64),.own 1,.v (.int .i64),.own 2,.v (.int .i64),.v (.int .i64)],.row 57 aC,.stk 107 3]⟩
abbrev uS:Sh:=⟨1,[⟨0,false,[.v .bool]⟩],[.box 110 [.v .str,.v (.int .i64),.own 1,.v (.int .i64),.own 2,.v (.int .i64),.v (.int .i64)],.row 57 aC,.stk 107 3]⟩
abbrev yV:Sh:=⟨1,[⟨0,false,[.ptr 0 0]⟩],[.box 110 [.v .str,.v (.int .i64),.own 1,.v (.int .i64),.own 2,.v (.int .i64),.v (.int .i64)],.row 57 aC,.stk 107 3]⟩
abbrev sQ:Sh:=⟨1,[⟨0,false,[.v .bool]⟩],[.box 110 [.v .str,.v (.int .i64),.own 1,.v (.int .i64),.own 2,.v (.int .i64),.v (.int .i64)],.row 57 aC,.stk 107 3]⟩
abbrev uI:Sh:=⟨1,[⟨0,false,[.ptr 0 0]⟩],[.box 110 [.v .str,.v (.int .i64),.own 1,.v (.int .i64),.own 2,.v (.int .i64),.v (.int .i64)],.row 57 aC,.stk 107 3]⟩
abbrev oW:Sh:=⟨1,[⟨0,false,[.v .bool]⟩],[.box 110 [.v .str,.v (.int .i64),.own 1,.v (.int .i64),.own 2,.v (.int .i64),.v (.int .i64)],.row 57 aC,.stk 107 3]⟩
abbrev Yn:Sh:=⟨3,[⟨0,false,[.ptr 0 0]⟩,⟨1,false,[.v (.int .i64)]⟩,⟨2,false,[.own 1]⟩],[.box 110 [.v .str,.v (.int .i64),.own 2,.v (.int .i64),.v .opq,.v (.int .i64),.v (.int .i64)],.row 3 (.int .i64),.row 57 aC]⟩
abbrev Gi:Sh:=⟨1,[⟨0,false,[.v (.int .i64)]⟩],[.box 110 [.v .str,.v (.int .i64),.own 2,.v (.int .i64),.v .opq,.v (.int .i64),.v (.int .i64)],.row 3 (.int .i64),.row 57 aC]⟩
abbrev oZ:Sh:=⟨3,[⟨0,false,[.ptr 0 0]⟩,⟨1,false,[.v (.int .i64)]⟩,⟨2,false,[.own 1]⟩],[.box 110 [.v .str,.v (.int .i64),.own 2,.v (.int .i64),.any 1,.v (.int .i64),.v (.int .i64)],.row 3 (.int .i64),.row 57 aC]⟩
abbrev pE:Sh:=⟨1,[⟨0,false,[.v (.int .i64)]⟩],[.box 110 [.v .str,.v (.int .i64),.own 2,.v (.int .i64),.any 1,.v (.int .i64),.v (.int .i64)],.row 3 (.int .i64),.row 57 aC]⟩
abbrev uT:Sh:=⟨1,[⟨0,false,[.ptr 0 0]⟩],[.box 110 [.v .str,.v (.int .i64),.own 1,.v (.int .i64),.own 2,.v (.int .i64),.v (.int .i64)],.row 57 aC,.stk 107 3]⟩
abbrev qL:Sh:=⟨1,[⟨0,false,[.v .bool]⟩],[.box 110 [.v .str,.v (.int .i64),.own 1,.v (.int .i64),.own 2,.v (.int .i64),.v (.int .i64)],.row 57 aC,.stk 107 3]⟩
abbrev Ba:Sh:=⟨1,[⟨0,false,[.ptr 0 0]⟩],[.box 110 [.v .str,.v (.int .i64),.own 1,.v (.int .i64),.own 2,.v (.int .i64),.v (.int .i64)],.row 57 aC,.stk 107 3]⟩
abbrev uU:Sh:=⟨1,[⟨0,false,[.v .bool]⟩],[.box 110 [.v .str,.v (.int .i64),.own 1,.v (.int .i64),.own 2,.v (.int .i64),.v (.int .i64)],.row 57 aC,.stk 107 3]⟩
abbrev yX:Sh:=⟨1,[⟨0,false,[.ptr 0 0]⟩],[.box 110 [.v .str,.v (.int .i64),.own 1,.v (.int .i64),.own 2,.v (.int .i64),.v (.int .i64)],.row 57 aC,.stk 107 3]⟩
abbrev sS:Sh:=⟨1,[⟨0,false,[.v .bool]⟩],[.box 110 [.v .str,.v (.int .i64),.own 1,.v (.int .i64),.own 2,.v (.int .i64),.v (.int .i64)],.row 57 aC,.stk 107 3]⟩
abbrev vL:Sh:=⟨1,[⟨0,false,[.ptr 0 0]⟩],[.box 110 [.v .str,.v (.int .i64),.own 1,.v (.int .i64),.own 2,.v (.int .i64),.v (.int .i64)],.row 57 aC,.stk 107 3]⟩
abbrev qM:Sh:=⟨1,[⟨0,false,[.v .bool]⟩],[.box 110 [.v .str,.v (.int .i64),.own 1,.v (.int .i64),.own 2,.v (.int .i64),.v (.int .i64)],.row 57 aC,.stk 107 3]⟩
abbrev Gj:Sh:=⟨1,[⟨0,false,[.ptr 0 0]⟩],[.box 110 [.v .str,.v (.int .i64),.own 1,.v (.int .i64),.own 2,.v (.int .i64),.v (.int .i64)],.row 57 aC,.stk 107 3]⟩
abbrev xC:Sh:=⟨1,[⟨0,false,[.v .bool]⟩],[.box 110 [.v .str,.v (.int .i64),.own 1,.v (.int .i64),.any 1,.v (.int .i64),.v (.int .i64)],.row 57 aC,.stk 107 3]⟩
abbrev Hu:List Ty:=[.str]
abbrev Bc:List Ty:=[.slice aC,.int .i64,.int .i64]
abbrev zJq:List Ty:=[.arr 4 (.int .u64)]
abbrev Vn:List Ty:=[.str]
abbrev zFd:List Ty:=[aC]
abbrev Qr:List Ty:=[.str]
abbrev zFe:List Ty:=[.slice aC]
abbrev Qs:List Ty:=[.str,.int .i64]
abbrev Vo:List Ty:=[]
abbrev Jo:List Ty:=[.bool]
abbrev Jp:List Ty:=[bY,.int .i64,.int .i64]
abbrev Bd:List Ty:=[bY]
abbrev Rt:List Ty:=[.str,.int .i64]
abbrev Fz:List Ty:=[.bool]
abbrev Vp:List Ty:=[.str,.int .u8]
abbrev Lg:List Ty:=[.bool]
abbrev Vq:List Ty:=[.str,.int .i64]
abbrev Jq:List Ty:=[.bool]
abbrev Dx:List Ty:=[bY,aC]
abbrev xW:List Ty:=[bY]
abbrev Vr:List Ty:=[bY,.arr 256 .bool]
abbrev Jr:List Ty:=[bY]
abbrev Vs:List Ty:=[.str,.int .i64]
abbrev Js:List Ty:=[.int .i64,.int .i64,.int .i64]
abbrev Zp:List Ty:=[.str,.int .i64,bY,.int .i64]
abbrev Mt:List Ty:=[bY,.int .i64]
abbrev Mv:List Ty:=[bY,.slice (.int .i64),.int .i64]
abbrev Dy:List Ty:=[bY]
abbrev zFf:List Ty:=[.str,.int .i64,bY,.int .i64]
abbrev Qt:List Ty:=[bY,.int .i64]
abbrev rA:List Ty:=[.str,.int .i64,bY,.int .i64]
abbrev nP:List Ty:=[bY,.int .i64]
abbrev Vt:List Ty:=[.str]
abbrev Jt:List Ty:=[.slice aC,.int .i64,.int .i64]
abbrev zFg:List Ty:=[.slice aC]
abbrev Qu:List Ty:=[.slice aC]
abbrev zBt:List Ty:=[.str]
abbrev Ju:List Ty:=[.bool]
def Vu (n:Nat):An (Gh.X):=.nil
theorem Mw (n:Nat):gT Tryz.prog 158 Ym Gh (lI n) :=
 gU (Γ:=bL _ [(73,bG mE mF (strings_IndexByte n))] []) (an:=Vu n) (co:=[.gc [0,1]]) Tryz.func158 rfl (by kernel_rfl) dF (aS (all_cons (aM (lN n)) (all_nil)) (aT)) dW (aO _ _ rfl) (by kernel_rfl) (by kernel_rfl) (fun x=>by kernel_rfl)
theorem vM (n:Nat):Iz Tryz.prog 158 4 uG uH (bZ n) :=
 Kw (j:=4) (fun v x=>(x.1,x.2.1,x.2.2.1,v,x.2.2.2)) (fun v y=>(y.1,y.2.1,y.2.2.1,y.2.2.2.1,v,y.2.2.2.2)) (Mq n) (fun v x=>⟨_,_,rfl,rfl,rfl,rfl⟩) (fun v y=>⟨_,_,rfl,rfl,rfl,rfl⟩) (by decide) (Mw n)
def Yo (n:Nat):An (Jm.X):=.nil
theorem Ol (n:Nat):gT Tryz.prog 125 zBs Jm (qI n) :=
 gU (Γ:=bL _ [] []) (an:=Yo n) (co:=[.gc [0,1]]) Tryz.func125 rfl (by kernel_rfl) dF (aS (all_nil) (aT)) dW (aO _ _ rfl) (by kernel_rfl) (by kernel_rfl) (fun x=>by kernel_rfl)
theorem dV (n:Nat):Iz Tryz.prog 125 4 fC fD (aR n) :=
 Kw (j:=4) (fun v x=>(x.1,x.2.1,x.2.2.1,x.2.2.2.1,x.2.2.2.2.1,v,x.2.2.2.2.2)) (fun v y=>(y.1,y.2.1,y.2.2.1,y.2.2.2.1,v,y.2.2.2.2)) (Oi n) (fun v x=>⟨_,_,rfl,rfl,rfl,rfl⟩) (fun v y=>⟨_,_,rfl,rfl,rfl,rfl⟩) (by decide) (Ol n)
def zBu (n:Nat):An (Ay.X):=.nil
theorem Bf (n:Nat):gT Tryz.prog 160 Lf Ay (gG n) :=
 gU (Γ:=bL _ [] []) (an:=zBu n) (co:=[.gc [0,1]]) Tryz.func160 rfl (by kernel_rfl) dF (aS (all_nil) (aT)) dW (aO _ _ rfl) (by kernel_rfl) (by kernel_rfl) (fun x=>by kernel_rfl)
theorem lV (n:Nat):Iz Tryz.prog 160 4 nD nE (bS n) :=
 Kw (j:=4) (fun v x=>(x.1,x.2.1,x.2.2.1,x.2.2.2.1,x.2.2.2.2.1,x.2.2.2.2.2.1,x.2.2.2.2.2.2.1,x.2.2.2.2.2.2.2.1,x.2.2.2.2.2.2.2.2.1,x.2.2.2.2.2.2.2.2.2.1,v,x.2.2.2.2.2.2.2.2.2.2)) (fun v y=>(y.1,y.2.1,y.2.2.1,y.2.2.2.1,v,y.2.2.2.2)) (Qq n) (fun v x=>⟨_,_,rfl,rfl,rfl,rfl⟩) (fun v y=>⟨_,_,rfl,rfl,rfl,rfl⟩) (by decide) (Bf n)
def zPl (n:Nat):An (bH Ms):=.nil
theorem zFh (n:Nat):Pure Tryz.prog 191 Zo Ms (wN n) :=
 bB (Γ:=bL _ [(167,bG Ns Nt (yC n))] []) (an:=zPl n) Tryz.func191 rfl (by kernel_rfl) dF (aS (all_cons (aM (Uc n)) (all_nil)) (aT)) dW (aO _ _ rfl) (fun x=>by kernel_rfl)
def zWx (n:Nat):An (bH Vm):=.nil
theorem zKx (n:Nat):Pure Tryz.prog 179 zJp Vm (Jk n) :=
 bB (Γ:=bL _ [(84,bG Ae Af (strings_Cut n)),(191,bG Zo Ms (wN n))] []) (an:=zWx n) Tryz.func179 rfl (by kernel_rfl) dF (aS (all_cons (aM (yN n)) (all_cons (aM (zFh n)) (all_nil))) (aT)) dW (aO _ _ rfl) (fun x=>by kernel_rfl)
def Yp (n:Nat):An (oH.X):=(.mk .nil (.scope 0 (.mk .nil (.mk .nil (.mk .nil (.mk .nil (.mk .nil (.mk .nil (.mk .nil (.mk .nil (.mk (.co [.opn 0 4] .nil) (.mk (.co [.cls 0 4] .nil) .nil []) []) []) []) []) []) []) []) []) []) (.mk .nil (.mk (.co [.opn 0 4] .nil) (.mk (.co [.cls 0 4] .nil) .nil []) []) [])) [])
theorem rR (n:Nat):gT Tryz.prog 159 sP oH (fQ n) :=
 gU (Γ:=bL _ [(126,Ky 4 4),(84,bG Ae Af (strings_Cut n)),(179,bG zJp Vm (Jk n))] [geK 158 4 4 uG uH (bZ n),geK 160 4 4 nD nE (bS n),geK 125 4 4 fC fD (aR n)]) (an:=Yp n) (co:=[.gc [0,1,2]]) Tryz.func159 rfl (by kernel_rfl) dF (aS (all_cons (Qf zFc) (all_cons (aM (yN n)) (all_cons (aM (zKx n)) (all_nil)))) (dK (kW (vM n)) (dK (kW (lV n)) (dK (kW (dV n)) (aT))))) dW (aO _ _ rfl) (by kernel_rfl) (by kernel_rfl) (fun x=>by kernel_rfl)
def Sg (n:Nat):An (qK.X):=.nil
theorem wR (n:Nat):gT Tryz.prog 114 vK qK (iW n) :=
 gU (Γ:=bL _ [(159,peM sP oH (fQ n))] [geK 158 4 4 uG uH (bZ n),geK 125 4 4 fC fD (aR n),geK 160 4 4 nD nE (bS n)]) (an:=Sg n) (co:=[.gc [0,1,2]]) Tryz.func114 rfl (by kernel_rfl) dF (aS (all_cons (fI (rR n)) (all_nil)) (dK (kW (vM n)) (dK (kW (dV n)) (dK (kW (lV n)) (aT))))) dW (aO _ _ rfl) (by kernel_rfl) (by kernel_rfl) (fun x=>by kernel_rfl)
def Vv (n:Nat):An (rF.X):=.nil
theorem xX (n:Nat):gT Tryz.prog 115 xB rF (iJ n) :=
 gU (Γ:=bL _ [] [geK 125 4 4 fC fD (aR n)]) (an:=Vv n) (co:=[.gc [0,1,2]]) Tryz.func115 rfl (by kernel_rfl) dF (aS (all_nil) (dK (kW (dV n)) (aT))) dW (aO _ _ rfl) (by kernel_rfl) (by kernel_rfl) (fun x=>by kernel_rfl)
def Vw (n:Nat):An (kN.X):=.nil
theorem lW (n:Nat):gT Tryz.prog 122 nG kN (eY n) :=
 gU (Γ:=bL _ [(159,peM sP oH (fQ n))] [geK 160 4 4 nD nE (bS n)]) (an:=Vw n) (co:=[.gc [0,1,2]]) Tryz.func122 rfl (by kernel_rfl) dF (aS (all_cons (fI (rR n)) (all_nil)) (dK (kW (lV n)) (aT))) dW (aO _ _ rfl) (by kernel_rfl) (by kernel_rfl) (fun x=>by kernel_rfl)
end Go.Dec
