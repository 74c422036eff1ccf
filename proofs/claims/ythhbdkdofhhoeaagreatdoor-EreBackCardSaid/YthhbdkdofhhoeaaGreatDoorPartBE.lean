/- Part of a proof over this seat: a library of my own, and what it says of this seat. No statement is proved here. -/
import Derived.Test.YthhbdkdofhhoeaaGreatDoorProg
import Derived.Test.YthhbdkdofhhoeaaGreatDoorPartBC
import Derived.Test.YthhbdkdofhhoeaaGreatDoorPartBB
import Derived.Test.YthhbdkdofhhoeaaGreatDoorPartAS
import Derived.Test.YthhbdkdofhhoeaaGreatDoorPartAL
import Derived.Test.YthhbdkdofhhoeaaGreatDoorPartBD
import Derived.KernelRfl
namespace Go.Dec
open Go.Proofs
set_option linter.unusedVariables false
def yJa:Tab:=[(3,⟨.int .i64,1,8,[.val (.int .i64) 0],some (.int .i64),false⟩),(4,⟨.bool,1,1,[.val .bool false],some .bool,false⟩),(5,⟨.int .u8,1,1,[.val (.int .u8) 0],some (.int .u8),false⟩),(9,⟨.str,1,16,[.val .str []],some .str,false⟩),(23,⟨.int .u64,1,8,[.val (.int .u64) 0],some (.int .u64),false⟩),(24,⟨.arr 4 23,4,32,[.val (.arr 4 (.int .u64)) ([0,0,0,0])],some (.arr 4 (.int .u64)),true⟩),(25,⟨.arr 4 23,4,32,[.val (.arr 4 (.int .u64)) ([0,0,0,0])],some (.arr 4 (.int .u64)),true⟩),(26,⟨.int .i64,1,8,[.val (.int .i64) 0],some (.int .i64),false⟩),(30,⟨.arr 256 4,256,256,[.val (.arr 256 .bool) (List.replicate 256 false)],some (.arr 256 .bool),true⟩),(35,⟨.slice 57,1,24,[.dD],some (.slice aG),false⟩),(38,⟨.slice 51,1,24,[.dD],some (.slice aG),false⟩),(51,⟨.struct [(0,3),(1,24),(5,3),(6,3),(7,3),(8,3),(9,3)],10,80,[.val (.int .i64) 0,.val (.arr 4 (.int .u64)) ([0,0,0,0]),.val (.int .i64) 0,.val (.int .i64) 0,.val (.int .i64) 0,.val (.int .i64) 0,.val (.int .i64) 0],some aG,true⟩),(57,⟨.struct [(0,3),(1,25),(5,3),(6,3),(7,3),(8,3),(9,3)],10,80,[.val (.int .i64) 0,.val (.arr 4 (.int .u64)) ([0,0,0,0]),.val (.int .i64) 0,.val (.int .i64) 0,.val (.int .i64) 0,.val (.int .i64) 0,.val (.int .i64) 0],some aG,true⟩),(61,⟨.ptr 63,1,8,[.lG],none,false⟩),(63,⟨.struct [(0,9),(1,3)],2,24,[.val .str [],.val (.int .i64) 0],some yBd,true⟩),(65,⟨.struct [(0,26),(1,3)],2,16,[.val (.int .i64) 0,.val (.int .i64) 0],some zBe,true⟩),(78,⟨.ptr 81,1,8,[.lG],none,false⟩),(79,⟨.arr 10 4,10,10,[.val (.arr 10 .bool) ([false,false,false,false,false,false,false,false,false,false])],some (.arr 10 .bool),true⟩),(81,⟨.struct [(0,9),(1,3),(2,35),(3,3),(4,79)],14,72,[.val .str [],.val (.int .i64) 0,.dD,.val (.int .i64) 0,.val (.arr 10 .bool) ([false,false,false,false,false,false,false,false,false,false])],some wY,false⟩),(85,⟨.struct [(0,38),(1,3),(2,79),(12,3),(13,26)],14,64,[.dD,.val (.int .i64) 0,.val (.arr 10 .bool) ([false,false,false,false,false,false,false,false,false,false]),.val (.int .i64) 0,.val (.int .i64) 0],some wZ,false⟩),(90,⟨.slice 9,1,24,[.dD],some (.slice .str),false⟩),(96,⟨.slice 5,1,24,[.dD],some (.slice (.int .u8)),false⟩),(104,⟨.ptr 110,1,8,[.lG],none,false⟩),(105,⟨.slice 3,1,24,[.dD],some (.slice (.int .i64)),false⟩),(107,⟨.struct [(0,3),(1,3),(2,105),(3,105)],4,64,[.val (.int .i64) 0,.val (.int .i64) 0,.dD,.dD],some Rw,false⟩),(108,⟨.slice 107,1,24,[.dD],some (.slice Rw),false⟩),(110,⟨.struct [(0,9),(1,3),(2,35),(3,3),(4,108),(5,26),(6,3)],7,96,[.val .str [],.val (.int .i64) 0,.dD,.val (.int .i64) 0,.dD,.val (.int .i64) 0,.val (.int .i64) 0],some Am,false⟩),(112,⟨.struct [(0,38),(1,3),(2,3),(3,26)],4,48,[.dD,.val (.int .i64) 0,.val (.int .i64) 0,.val (.int .i64) 0],some Rx,false⟩),(115,⟨.slice 25,1,24,[.dD],some (.slice (.arr 4 (.int .u64))),false⟩),(130,⟨.struct [(0,4),(1,3),(2,79),(12,4)],13,32,[.val .bool false,.val (.int .i64) 0,.val (.arr 10 .bool) ([false,false,false,false,false,false,false,false,false,false]),.val .bool false],some zBf,true⟩),(135,⟨.func,1,8,[.val .opq Value.nilFunc],some .opq,false⟩),(137,⟨.iface false,1,16,[.val .err false],some .err,false⟩),(148,⟨.func,1,8,[.val .opq Value.nilFunc],some .opq,false⟩),(149,⟨.map 5 148,1,8,[.val .opq (Value.map none)],none,false⟩)]
theorem fJ:bI Tryz.prog yJa:=Xl (by kernel_rfl)
theorem iI:Tryz.prog.follows .mixedOrders=true:=by kernel_rfl
abbrev Vt:Sh:=⟨1,[⟨0,false,[.ptr 0 0]⟩],[.box 110 [.v .str,.v (.int .i64),.own 1,.v (.int .i64),.v .opq,.v (.int .i64),.v (.int .i64)],.row 57 aG]⟩
abbrev Em:Sh:=⟨1,[⟨0,false,[.v .bool]⟩],[.box 110 [.v .str,.v (.int .i64),.own 1,.v (.int .i64),.v .opq,.v (.int .i64),.v (.int .i64)],.row 57 aG]⟩
abbrev tO:Sh:=⟨1,[⟨0,false,[.ptr 0 0]⟩],[.box 110 [.v .str,.v (.int .i64),.own 1,.v (.int .i64),.any 1,.v (.int .i64),.v (.int .i64)],.row 57 aG]⟩
abbrev tQ:Sh:=⟨1,[⟨0,false,[.v .bool]⟩],[.box 110 [.v .str,.v (.int .i64),.own 1,.v (.int .i64),.any 1,.v (.int .i64),.v (.int .i64)],.row 57 aG]⟩
abbrev Yx:Sh:=⟨3,[⟨0,false,[.ptr 0 0]⟩,⟨1,false,[.v (.int .i64)]⟩,⟨2,false,[.v (.int .i64)]⟩],[.box 110 [.v .str,.v (.int .i64),.own 1,.v (.int .i64),.v .opq,.v (.int .i64),.v (.int .i64)],.row 57 aG]⟩
abbrev Ie:Sh:=⟨1,[⟨0,false,[.v .bool]⟩],[.box 110 [.v .str,.v (.int .i64),.own 1,.v (.int .i64),.v .opq,.v (.int .i64),.v (.int .i64)],.row 57 aG]⟩
abbrev eX:Sh:=⟨3,[⟨0,false,[.ptr 0 0]⟩,⟨1,false,[.v (.int .i64)]⟩,⟨2,false,[.v (.int .i64)]⟩],[.box 110 [.v .str,.v (.int .i64),.own 1,.v (.int .i64),.any 1,.v (.int .i64),.v (.int .i64)],.row 57 aG]⟩
abbrev eY:Sh:=⟨1,[⟨0,false,[.v .bool]⟩],[.box 110 [.v .str,.v (.int .i64),.own 1,.v (.int .i64),.any 1,.v (.int .i64),.v (.int .i64)],.row 57 aG]⟩
abbrev Jl:Sh:=⟨2,[⟨0,false,[.ptr 0 0]⟩,⟨1,true,[.v (.int .i64),.v (.arr 4 (.int .u64)),.v (.int .i64),.v (.int .i64),.v (.int .i64),.v (.int .i64),.v (.int .i64)]⟩],[.box 110 [.v .str,.v (.int .i64),.own 1,.v (.int .i64),.v .opq,.v (.int .i64),.v (.int .i64)],.row 57 aG]⟩
abbrev zX:Sh:=⟨1,[⟨0,false,[.v (.int .i64)]⟩],[.box 110 [.v .str,.v (.int .i64),.own 1,.v (.int .i64),.v .opq,.v (.int .i64),.v (.int .i64)],.row 57 aG]⟩
abbrev nH:Sh:=⟨2,[⟨0,false,[.ptr 0 0]⟩,⟨1,true,[.v (.int .i64),.v (.arr 4 (.int .u64)),.v (.int .i64),.v (.int .i64),.v (.int .i64),.v (.int .i64),.v (.int .i64)]⟩],[.box 110 [.v .str,.v (.int .i64),.own 1,.v (.int .i64),.any 1,.v (.int .i64),.v (.int .i64)],.row 57 aG]⟩
abbrev nI:Sh:=⟨1,[⟨0,false,[.v (.int .i64)]⟩],[.box 110 [.v .str,.v (.int .i64),.own 1,.v (.int .i64),.any 1,.v (.int .i64),.v (.int .i64)],.row 57 aG]⟩
abbrev Xc:List Ty:=[.str]
abbrev Km:List Ty:=[.int .i64]
abbrev zFx:List Ty:=[.str]
abbrev Tc:List Ty:=[.int .i64,.int .i64,.bool]
abbrev sK:Sh:=⟨2,[⟨0,false,[.ptr 0 0]⟩,⟨1,false,[.v (.int .i64)]⟩],[.box 110 [.v .str,.v (.int .i64),.own 1,.v (.int .i64),.own 2,.v (.int .i64),.v (.int .i64)],.row 57 aG,.stk 107 3]⟩
abbrev oM:Sh:=⟨1,[⟨0,false,[.v .bool]⟩],[.box 110 [.v .str,.v (.int .i64),.own 1,.v (.int .i64),.own 2,.v (.int .i64),.v (.int .i64)],.row 57 aG,.stk 107 3]⟩
abbrev uU:Sh:=⟨1,[⟨0,false,[.ptr 0 0]⟩],[.box 110 [.v .str,.v (.int .i64),.own 1,.v (.int .i64),.own 2,.v (.int .i64),.v (.int .i64)],.row 57 aG,.stk 107 3]⟩
abbrev qD:Sh:=⟨1,[⟨0,false,[.v .bool]⟩],[.box 110 [.v .str,.v (.int .i64),.own 1,.v (.int .i64),.own 2,.v (.int .i64),.v (.int .i64)],.row 57 aG,.stk 107 3]⟩
abbrev wM:Sh:=⟨1,[⟨0,false,[.ptr 0 0]⟩],[.box 110 [.v .str,.v (.int .i64),.own 1,.v (.int .i64),.own 2,.v (.int .i64),.v (.int .i64)],.row 57 aG,.stk 107 3]⟩
abbrev qY:Sh:=⟨1,[⟨0,false,[.v .bool]⟩],[.box 110 [.v .str,.v (.int .i64),.own 1,.v (.int .i64),.own 2,.v (.int .i64),.v (.int .i64)],.row 57 aG,.stk 107 3]⟩
abbrev nJ:Sh:=⟨2,[⟨0,false,[.ptr 0 0]⟩,⟨1,true,[.v (.arr 4 (.int .u64))]⟩],[.box 110 [.v .str,.v (.int .i64),.own 1,.v (.int .i64),.own 2,.v (.int .i64),.v (.int .i64)],.row 57 aG,.stk 107 3]⟩
abbrev kP:Sh:=⟨1,[⟨0,false,[.v .bool]⟩],[.box 110 [.v .str,.v (.int .i64),.own 1,.v (.int .i64),.own 2,.v (.int .i64),.v (.int .i64)],.row 57 aG,.stk 107 3]⟩
abbrev zY:Sh:=⟨1,[⟨0,false,[.ptr 0 0]⟩],[.box 110 [.v .str,.v (.int .i64),.own 1,.v (.int .i64),.own 2,.v (.int .i64),.v (.int .i64)],.row 57 aG,.stk 107 3]⟩
abbrev uE:Sh:=⟨1,[⟨0,false,[.v .bool]⟩],[.box 110 [.v .str,.v (.int .i64),.own 1,.v (.int .i64),.own 2,.v (.int .i64),.v (.int .i64)],.row 57 aG,.stk 107 3]⟩
abbrev xZ:Sh:=⟨1,[⟨0,false,[.ptr 0 0]⟩],[.box 110 [.v .str,.v (.int .i64),.own 1,.v (.int .i64),.own 2,.v (.int .i64),.v (.int .i64)],.row 57 aG,.stk 107 3]⟩
abbrev sM:Sh:=⟨1,[⟨0,false,[.v .bool]⟩],[.box 110 [.v .str,.v (.int .i64),.own 1,.v (.int .i64),.own 2,.v (.int .i64),.v (.int .i64)],.row 57 aG,.stk 107 3]⟩
abbrev tT:Sh:=⟨1,[⟨0,false,[.ptr 0 0]⟩],[.box 110 [.v .str,.v (.int .i64),.own 1,.v (.int .i64),.own 2,.v (.int .i64),.v (.int .i64)],.row 57 aG,.stk 107 3]⟩
abbrev oW:Sh:=⟨1,[⟨0,false,[.v .bool]⟩],[.box 110 [.v .str,.v (.int .i64),.own 1,.v (.int .i64),.own 2,.v (.int .i64),.v (.int .i64)],.row 57 aG,.stk 107 3]⟩
abbrev Vu:Sh:=⟨3,[⟨0,false,[.ptr 0 0]⟩,⟨1,false,[.v (.int .i64)]⟩,⟨2,false,[.own 1]⟩],[.box 110 [.v .str,.v (.int .i64),.own 2,.v (.int .i64),.v .opq,.v (.int .i64),.v (.int .i64)],.row 3 (.int .i64),.row 57 aG]⟩
abbrev En:Sh:=⟨1,[⟨0,false,[.v (.int .i64)]⟩],[.box 110 [.v .str,.v (.int .i64),.own 2,.v (.int .i64),.v .opq,.v (.int .i64),.v (.int .i64)],.row 3 (.int .i64),.row 57 aG]⟩
abbrev oZ:Sh:=⟨3,[⟨0,false,[.ptr 0 0]⟩,⟨1,false,[.v (.int .i64)]⟩,⟨2,false,[.own 1]⟩],[.box 110 [.v .str,.v (.int .i64),.own 2,.v (.int .i64),.any 1,.v (.int .i64),.v (.int .i64)],.row 3 (.int .i64),.row 57 aG]⟩
abbrev pE:Sh:=⟨1,[⟨0,false,[.v (.int .i64)]⟩],[.box 110 [.v .str,.v (.int .i64),.own 2,.v (.int .i64),.any 1,.v (.int .i64),.v (.int .i64)],.row 3 (.int .i64),.row 57 aG]⟩
abbrev uF:Sh:=⟨1,[⟨0,false,[.ptr 0 0]⟩],[.box 110 [.v .str,.v (.int .i64),.own 1,.v (.int .i64),.own 2,.v (.int .i64),.v (.int .i64)],.row 57 aG,.stk 107 3]⟩
abbrev qE:Sh:=⟨1,[⟨0,false,[.v .bool]⟩],[.box 110 [.v .str,.v (.int .i64),.own 1,.v (.int .i64),.own 2,.v (.int .i64),.v (.int .i64)],.row 57 aG,.stk 107 3]⟩
abbrev zZ:Sh:=⟨1,[⟨0,false,[.ptr 0 0]⟩],[.box 110 [.v .str,.v (.int .i64),.own 1,.v (.int .i64),.own 2,.v (.int .i64),.v (.int .i64)],.row 57 aG,.stk 107 3]⟩
abbrev uG:Sh:=⟨1,[⟨0,false,[.v .bool]⟩],[.box 110 [.v .str,.v (.int .i64),.own 1,.v (.int .i64),.own 2,.v (.int .i64),.v (.int .i64)],.row 57 aG,.stk 107 3]⟩
abbrev yA:Sh:=⟨1,[⟨0,false,[.ptr 0 0]⟩],[.box 110 [.v .str,.v (.int .i64),.own 1,.v (.int .i64),.own 2,.v (.int .i64),.v (.int .i64)],.row 57 aG,.stk 107 3]⟩
abbrev sN:Sh:=⟨1,[⟨0,false,[.v .bool]⟩],[.box 110 [.v .str,.v (.int .i64),.own 1,.v (.int .i64),.own 2,.v (.int .i64),.v (.int .i64)],.row 57 aG,.stk 107 3]⟩
abbrev uV:Sh:=⟨1,[⟨0,false,[.ptr 0 0]⟩],[.box 110 [.v .str,.v (.int .i64),.own 1,.v (.int .i64),.own 2,.v (.int .i64),.v (.int .i64)],.row 57 aG,.stk 107 3]⟩
abbrev qF:Sh:=⟨1,[⟨0,false,[.v .bool]⟩],[.box 110 [.v .str,.v (.int .i64),.own 1,.v (.int .i64),.own 2,.v (.int .i64),.v (.int .i64)],.row 57 aG,.stk 107 3]⟩
abbrev Eo:Sh:=⟨1,[⟨0,false,[.ptr 0 0]⟩],[.box 110 [.v .str,.v (.int .i64),.own 1,.v (.int .i64),.own 2,.v (.int .i64),.v (.int .i64)],.row 57 aG,.stk 107 3]⟩
abbrev wN:Sh:=⟨1,[⟨0,false,[.v .bool]⟩],[.box 110 [.v .str,.v (.int .i64),.own 1,.v (.int .i64),.any 1,.v (.int .i64),.v (.int .i64)],.row 57 aG,.stk 107 3]⟩
abbrev Gd:List Ty:=[.str]
abbrev Aa:List Ty:=[.slice aG,.int .i64,.int .i64]
abbrev zFy:List Ty:=[.arr 4 (.int .u64)]
abbrev Td:List Ty:=[.str]
abbrev zBu:List Ty:=[aG]
abbrev Oe:List Ty:=[.str]
abbrev Og:List Ty:=[.slice aG]
abbrev Gf:List Ty:=[.str,.int .i64]
abbrev Te:List Ty:=[]
abbrev Ig:List Ty:=[.bool]
abbrev zDw:List Ty:=[.str]
abbrev Md:List Ty:=[.bool]
def Tf (n:Nat):An (Em.X) := .nil
theorem Kn (n:Nat):gM Tryz.prog 158 Vt Em (lN n) :=
 gP (Γ:=dP _ [(73,dF mM mO (strings_IndexByte n))] []) (an:=Tf n) (co:=[.gc [0,1]]) Tryz.func158 rfl (by kernel_rfl) fJ (bC (all_cons (aV (lV n)) (all_nil)) (bD)) iI (aU _ _ rfl) (by kernel_rfl) (by kernel_rfl) (fun x=>by kernel_rfl)
theorem uW (n:Nat):Ho Tryz.prog 158 4 tO tQ (bV n) :=
 Ji (j:=4) (fun v x=>(x.1,x.2.1,x.2.2.1,v,x.2.2.2)) (fun v y=>(y.1,y.2.1,y.2.2.1,y.2.2.2.1,v,y.2.2.2.2)) (Kk n) (fun v x=>⟨_,_,rfl,rfl,rfl,rfl⟩) (fun v y=>⟨_,_,rfl,rfl,rfl,rfl⟩) (by decide) (Kn n)
def Vv (n:Nat):An (Ie.X) := .nil
theorem Me (n:Nat):gM Tryz.prog 125 Yx Ie (qC n) :=
 gP (Γ:=dP _ [] []) (an:=Vv n) (co:=[.gc [0,1]]) Tryz.func125 rfl (by kernel_rfl) fJ (bC (all_nil) (bD)) iI (aU _ _ rfl) (by kernel_rfl) (by kernel_rfl) (fun x=>by kernel_rfl)
theorem dS (n:Nat):Ho Tryz.prog 125 4 eX eY (aO n) :=
 Ji (j:=4) (fun v x=>(x.1,x.2.1,x.2.2.1,x.2.2.2.1,x.2.2.2.2.1,v,x.2.2.2.2.2)) (fun v y=>(y.1,y.2.1,y.2.2.1,y.2.2.2.1,v,y.2.2.2.2)) (Ma n) (fun v x=>⟨_,_,rfl,rfl,rfl,rfl⟩) (fun v y=>⟨_,_,rfl,rfl,rfl,rfl⟩) (by decide) (Me n)
def Yy (n:Nat):An (zX.X) := .nil
theorem Ab (n:Nat):gM Tryz.prog 160 Jl zX (fT n) :=
 gP (Γ:=dP _ [] []) (an:=Yy n) (co:=[.gc [0,1]]) Tryz.func160 rfl (by kernel_rfl) fJ (bC (all_nil) (bD)) iI (aU _ _ rfl) (by kernel_rfl) (by kernel_rfl) (fun x=>by kernel_rfl)
theorem lZ (n:Nat):Ho Tryz.prog 160 4 nH nI (bQ n) :=
 Ji (j:=4) (fun v x=>(x.1,x.2.1,x.2.2.1,x.2.2.2.1,x.2.2.2.2.1,x.2.2.2.2.2.1,x.2.2.2.2.2.2.1,x.2.2.2.2.2.2.2.1,x.2.2.2.2.2.2.2.2.1,x.2.2.2.2.2.2.2.2.2.1,v,x.2.2.2.2.2.2.2.2.2.2)) (fun v y=>(y.1,y.2.1,y.2.2.1,y.2.2.2.1,v,y.2.2.2.2)) (Od n) (fun v x=>⟨_,_,rfl,rfl,rfl,rfl⟩) (fun v y=>⟨_,_,rfl,rfl,rfl,rfl⟩) (by decide) (Ab n)
def zLb (n:Nat):An (dK Km) := .nil
theorem zBv (n:Nat):Pure Tryz.prog 191 Xc Km (vX n) :=
 dR (Γ:=dP _ [(167,dF Lj Ll (xI n))] []) (an:=zLb n) Tryz.func191 rfl (by kernel_rfl) fJ (bC (all_cons (aV (Ru n)) (all_nil)) (bD)) iI (aU _ _ rfl) (fun x=>by kernel_rfl)
def zSv (n:Nat):An (dK Tc) := .nil
theorem zHg (n:Nat):Pure Tryz.prog 179 zFx Tc (Ib n) :=
 dR (Γ:=dP _ [(84,dF zK zL (strings_Cut n)),(191,dF Xc Km (vX n))] []) (an:=zSv n) Tryz.func179 rfl (by kernel_rfl) fJ (bC (all_cons (aV (xV n)) (all_cons (aV (zBv n)) (all_nil))) (bD)) iI (aU _ _ rfl) (fun x=>by kernel_rfl)
def Vw (n:Nat):An (oM.X):=(.mk .nil (.scope 0 (.mk .nil (.mk .nil (.mk .nil (.mk .nil (.mk .nil (.mk .nil (.mk .nil (.mk .nil (.mk (.co [.opn 0 4] .nil) (.mk (.co [.cls 0 4] .nil) .nil []) []) []) []) []) []) []) []) []) []) (.mk .nil (.mk (.co [.opn 0 4] .nil) (.mk (.co [.cls 0 4] .nil) .nil []) []) [])) [])
theorem rO (n:Nat):gM Tryz.prog 159 sK oM (fH n) :=
 gP (Γ:=dP _ [(126,Jj 4 4),(84,dF zK zL (strings_Cut n)),(179,dF zFx Tc (Ib n))] [geK 158 4 4 tO tQ (bV n),geK 160 4 4 nH nI (bQ n),geK 125 4 4 eX eY (aO n)]) (an:=Vw n) (co:=[.gc [0,1,2]]) Tryz.func159 rfl (by kernel_rfl) fJ (bC (all_cons (Nu zBt) (all_cons (aV (xV n)) (all_cons (aV (zHg n)) (all_nil)))) (dI (lC (uW n)) (dI (lC (lZ n)) (dI (lC (dS n)) (bD))))) iI (aU _ _ rfl) (by kernel_rfl) (by kernel_rfl) (fun x=>by kernel_rfl)
def Qi (n:Nat):An (qD.X) := .nil
theorem wC (n:Nat):gM Tryz.prog 114 uU qD (jB n) :=
 gP (Γ:=dP _ [(159,peM sK oM (fH n))] [geK 158 4 4 tO tQ (bV n),geK 125 4 4 eX eY (aO n),geK 160 4 4 nH nI (bQ n)]) (an:=Qi n) (co:=[.gc [0,1,2]]) Tryz.func114 rfl (by kernel_rfl) fJ (bC (all_cons (fB (rO n)) (all_nil)) (dI (lC (uW n)) (dI (lC (dS n)) (dI (lC (lZ n)) (bD))))) iI (aU _ _ rfl) (by kernel_rfl) (by kernel_rfl) (fun x=>by kernel_rfl)
def Tg (n:Nat):An (qY.X) := .nil
theorem xB (n:Nat):gM Tryz.prog 115 wM qY (iO n) :=
 gP (Γ:=dP _ [] [geK 125 4 4 eX eY (aO n)]) (an:=Tg n) (co:=[.gc [0,1,2]]) Tryz.func115 rfl (by kernel_rfl) fJ (bC (all_nil) (dI (lC (dS n)) (bD))) iI (aU _ _ rfl) (by kernel_rfl) (by kernel_rfl) (fun x=>by kernel_rfl)
def Ti (n:Nat):An (kP.X) := .nil
theorem mD (n:Nat):gM Tryz.prog 122 nJ kP (eP n) :=
 gP (Γ:=dP _ [(159,peM sK oM (fH n))] [geK 160 4 4 nH nI (bQ n)]) (an:=Ti n) (co:=[.gc [0,1,2]]) Tryz.func122 rfl (by kernel_rfl) fJ (bC (all_cons (fB (rO n)) (all_nil)) (dI (lC (lZ n)) (bD))) iI (aU _ _ rfl) (by kernel_rfl) (by kernel_rfl) (fun x=>by kernel_rfl)
end Go.Dec
namespace Go.Dec
open Go.Proofs
set_option linter.unusedVariables false
def Yz (n:Nat):An (uE.X) := .nil
theorem Ac (n:Nat):gM Tryz.prog 116 zY uE (oD n) :=
 gP (Γ:=dP _ [(50,dF Yn Nw (Gm n)),(122,peM nJ kP (eP n))] []) (an:=Yz n) (co:=[.gc [0,1,2]]) Tryz.func116 rfl (by kernel_rfl) fJ (bC (all_cons (aV (Sr n)) (all_cons (fB (mD n)) (all_nil))) (bD)) iI (aU _ _ rfl) (by kernel_rfl) (by kernel_rfl) (fun x=>by kernel_rfl)
def Vx (n:Nat):An (sM.X) := .nil
theorem yO (n:Nat):gM Tryz.prog 117 xZ sM (mR n) :=
 gP (Γ:=dP _ [(17,dF Sj Hu (qQ n)),(122,peM nJ kP (eP n))] [geK 125 4 4 eX eY (aO n)]) (an:=Vx n) (co:=[.gc [0,1,2]]) Tryz.func117 rfl (by kernel_rfl) fJ (bC (all_cons (aV (Yu n)) (all_cons (fB (mD n)) (all_nil))) (dI (lC (dS n)) (bD))) iI (aU _ _ rfl) (by kernel_rfl) (by kernel_rfl) (fun x=>by kernel_rfl)
def Oh (n:Nat):An (oW.X) := .nil
theorem uX (n:Nat):gM Tryz.prog 118 tT oW (jV n) :=
 gP (Γ:=dP _ [(123,dF Vi Lp (sS n)),(122,peM nJ kP (eP n)),(73,dF mM mO (strings_IndexByte n)),(87,dF Gc zT (dL n))] [geK 125 4 4 eX eY (aO n)]) (an:=Oh n) (co:=[.gc [0,1,2]]) Tryz.func118 rfl (by kernel_rfl) fJ (bC (all_cons (aV (Ki n)) (all_cons (fB (mD n)) (all_cons (aV (lV n)) (all_cons (aV (Bv n)) (all_nil))))) (dI (lC (dS n)) (bD))) iI (aU _ _ rfl) (by kernel_rfl) (by kernel_rfl) (fun x=>by kernel_rfl)
def Tj (n:Nat):An (En.X):=(.mk .nil (.mk .nil (.mk (.mk .nil (.mk (.loop ⟨32,[⟨0,false,[.ptr 0 0]⟩,⟨1,false,[.v (.int .i64)]⟩,⟨2,false,[.own 1]⟩,⟨7,false,[.v (.int .i64)]⟩,⟨8,false,[.v (.int .i64)]⟩],[.box 110 [.v .str,.v (.int .i64),.own 2,.v (.int .i64),.v .opq,.v (.int .i64),.v (.int .i64)],.row 3 (.int .i64),.row 57 aG]⟩ [.keep (kbm 9 391),.gcA 3,.gcA 3] [.keep (kbm 9 391),.gcA 3,.gcA 3] n .nil) .nil []) []) .nil []) []) [])
theorem Ko (n:Nat):gM Tryz.prog 127 Vu En (lQ n) :=
 gP (Γ:=dP _ [(160,peM Jl zX (fT n))] []) (an:=Tj n) (co:=[.gc [0,1,2]]) Tryz.func127 rfl (by kernel_rfl) fJ (bC (all_cons (fB (Ab n)) (all_nil)) (bD)) iI (aU _ _ rfl) (by kernel_rfl) (by kernel_rfl) (fun x=>by kernel_rfl)
theorem oN (n:Nat):Ho Tryz.prog 127 4 oZ pE (eG n) :=
 Ji (j:=4) (fun v x=>(x.1,x.2.1,x.2.2.1,x.2.2.2.1,v,x.2.2.2.2)) (fun v y=>(y.1,y.2.1,y.2.2.1,y.2.2.2.1,v,y.2.2.2.2)) (Kl n) (fun v x=>⟨_,_,rfl,rfl,rfl,rfl⟩) (fun v y=>⟨_,_,rfl,rfl,rfl,rfl⟩) (by decide) (Ko n)
def Za (n:Nat):An (qE.X):=(.mk .nil (.mk (.co [.opn 0 4] .nil) (.mk (.mk .nil (.mk (.mk (.co [.cls 0 4] .nil) .nil []) .nil []) []) (.mk .nil (.mk .nil (.mk (.co [.Yd 2 3,.cls 0 4] .nil) .nil []) []) []) []) []) [])
theorem sO (n:Nat):gM Tryz.prog 124 uF qE (fU n) :=
 gP (Γ:=dP _ [(126,Jj 4 4)] [geK 125 4 4 eX eY (aO n),geK 127 4 4 oZ pE (eG n)]) (an:=Za n) (co:=[.gc [0,1,2]]) Tryz.func124 rfl (by kernel_rfl) fJ (bC (all_cons (Nu zBt) (all_nil)) (dI (lC (dS n)) (dI (lC (oN n)) (bD)))) iI (aU _ _ rfl) (by kernel_rfl) (by kernel_rfl) (fun x=>by kernel_rfl)
def Zb (n:Nat):An (uG.X) := .nil
theorem Ad (n:Nat):gM Tryz.prog 119 zZ uG (lS n) :=
 gP (Γ:=dP _ [(124,peM uF qE (fU n))] []) (an:=Zb n) (co:=[.gc [0,1,2]]) Tryz.func119 rfl (by kernel_rfl) fJ (bC (all_cons (fB (sO n)) (all_nil)) (bD)) iI (aU _ _ rfl) (by kernel_rfl) (by kernel_rfl) (fun x=>by kernel_rfl)
def Vy (n:Nat):An (sN.X) := .nil
theorem yP (n:Nat):gM Tryz.prog 120 yA sN (mU n) :=
 gP (Γ:=dP _ [] [geK 125 4 4 eX eY (aO n)]) (an:=Vy n) (co:=[.gc [0,1,2]]) Tryz.func120 rfl (by kernel_rfl) fJ (bC (all_nil) (dI (lC (dS n)) (bD))) iI (aU _ _ rfl) (by kernel_rfl) (by kernel_rfl) (fun x=>by kernel_rfl)
def Qj (n:Nat):An (qF.X):=(.mk .nil (.mk .nil (.mk .nil (.mk (.co [.opn 0 4] .nil) (.mk .nil (.mk (.co [.zYd 0 4] .nil) .nil []) []) []) []) []) [])
theorem wD (n:Nat):gM Tryz.prog 121 uV qF (iF n) :=
 gP (Γ:=dP _ [(124,peM uF qE (fU n)),(126,Jj 4 4),(159,peM sK oM (fH n))] [geK 125 4 4 eX eY (aO n),geK 127 4 4 oZ pE (eG n),geK 160 4 4 nH nI (bQ n)]) (an:=Qj n) (co:=[.gc [0,1,2]]) Tryz.func121 rfl (by kernel_rfl) fJ (bC (all_cons (fB (sO n)) (all_cons (Nu zBt) (all_cons (fB (rO n)) (all_nil)))) (dI (lC (dS n)) (dI (lC (oN n)) (dI (lC (lZ n)) (bD))))) iI (aU _ _ rfl) (by kernel_rfl) (by kernel_rfl) (fun x=>by kernel_rfl)
def Tm (n:Nat):An (wN.X):=(.mk .nil (.mk .nil (.mk (.mk (.loop ⟨95,[⟨0,false,[.ptr 0 0]⟩,⟨3,false,[.mp 3]⟩],[.box 110 [.v .str,.v (.int .i64),.own 1,.v (.int .i64),.own 2,.v (.int .i64),.v (.int .i64)],.row 57 aG,.stk 107 3,.fm [(.i .u8 94,114),(.i .u8 36,114),(.i .u8 42,115),(.i .u8 43,115),(.i .u8 63,115),(.i .u8 123,115),(.i .u8 46,116),(.i .u8 91,117),(.i .u8 92,118),(.i .u8 124,119),(.i .u8 40,120),(.i .u8 41,121)]]⟩ [.keep [true,false,false,true],.gcA 3,.gcA 3] [.keep [true,false,false,true],.gcA 3,.gcA 3] n .nil) .nil []) (.mk .nil (.mk .nil (.mk (.co [.opn 0 4] .nil) .nil []) []) []) []) []) [])
theorem Kq (n:Nat):gM Tryz.prog 77 Eo wN (sJ n) :=
 gP (Γ:=dP _ [(114,peM uU qD (jB n)),(115,peM wM qY (iO n)),(116,peM zY uE (oD n)),(117,peM xZ sM (mR n)),(118,peM tT oW (jV n)),(119,peM zZ uG (lS n)),(120,peM yA sN (mU n)),(121,peM uV qF (iF n)),(123,dF Vi Lp (sS n)),(122,peM nJ kP (eP n)),(124,peM uF qE (fU n)),(126,Jj 4 4)] [geM 114 uU qD (jB n),geM 115 wM qY (iO n),geM 116 zY uE (oD n),geM 117 xZ sM (mR n),geM 118 tT oW (jV n),geM 119 zZ uG (lS n),geM 120 yA sN (mU n),geM 121 uV qF (iF n),geK 125 4 4 eX eY (aO n),geK 127 4 4 oZ pE (eG n)]) (an:=Tm n) (co:=[.Nj 0 4,.shut 2,.gc [0,1,2]]) Tryz.func77 rfl (by kernel_rfl) fJ (bC (all_cons (fB (wC n)) (all_cons (fB (xB n)) (all_cons (fB (Ac n)) (all_cons (fB (yO n)) (all_cons (fB (uX n)) (all_cons (fB (Ad n)) (all_cons (fB (yP n)) (all_cons (fB (wD n)) (all_cons (aV (Ki n)) (all_cons (fB (mD n)) (all_cons (fB (sO n)) (all_cons (Nu zBt) (all_nil))))))))))))) (dI (Dq (wC n)) (dI (Dq (xB n)) (dI (Dq (Ac n)) (dI (Dq (yO n)) (dI (Dq (uX n)) (dI (Dq (Ad n)) (dI (Dq (yP n)) (dI (Dq (wD n)) (dI (lC (dS n)) (dI (lC (oN n)) (bD)))))))))))) iI (aU _ _ rfl) (by kernel_rfl) (by kernel_rfl) (fun x=>by kernel_rfl)
def zOb (n:Nat):An (dK Aa):=(.mk .nil (.mk .nil (.mk .nil (.mk (.mk (.co [.ownB 1 2 35] .nil) .nil []) .nil []) []) []) [])
theorem Bw (n:Nat):Pure Tryz.prog 35 Gd Aa (kS n) :=
 dR (Γ:=dP _ [(77,peM Eo wN (sJ n))] []) (an:=zOb n) Tryz.func35 rfl (by kernel_rfl) fJ (bC (all_cons (fB (Kq n)) (all_nil)) (bD)) iI (aU _ _ rfl) (fun x=>by kernel_rfl)
def zSw (n:Nat):An (dK Td) := .nil
theorem zHh (n:Nat):Pure Tryz.prog 42 zFy Td (Ic n) :=
 dR (Γ:=dP _ [(68,dF Ga Gb (pX n)),(30,dF zFw Sq (Bn n)),(81,dF Eh Ei (strings_Contains n))] []) (an:=zSw n) Tryz.func42 rfl (by kernel_rfl) fJ (bC (all_cons (aV (Bl n)) (all_cons (aV (zHf n)) (all_cons (aV (Li n)) (all_nil)))) (bD)) iI (aU _ _ rfl) (fun x=>by kernel_rfl)
end Go.Dec
namespace Go.Dec
open Go.Proofs
set_option linter.unusedVariables false
def zOc (n:Nat):An (dK Oe) := .nil
theorem zDx (n:Nat):Pure Tryz.prog 79 zBu Oe (Du n) :=
 dR (Γ:=dP _ [(63,dF xK xL (strconv_Itoa n))] []) (an:=zOc n) Tryz.func79 rfl (by kernel_rfl) fJ (bC (all_cons (aV (wH n)) (all_nil)) (bD)) iI (aU _ _ rfl) (fun x=>by kernel_rfl)
def zOd (n:Nat):An (dK Gf):=(.mk .nil (.mk .nil (.mk .nil (.mk (.mk .nil (.mk (.loop ⟨134,[⟨0,false,[.v (.slice aG)]⟩,⟨4,false,[.own 0]⟩,⟨17,false,[.v (.slice aG)]⟩,⟨18,false,[.v (.int .i64)]⟩,⟨19,false,[.v (.int .i64)]⟩],[.row 9 .str]⟩ [.keep (kbm 20 917521),.gcA 0,.gcA 0] [.keep (kbm 20 917521),.gcA 0,.gcA 0] n .nil) .nil []) []) .nil []) []) []) [])
theorem Mf (n:Nat):Pure Tryz.prog 38 Og Gf (rT n) :=
 dR (Γ:=dP _ [(24,dF zDt Vj (zP n)),(42,dF zFy Td (Ic n)),(79,dF zBu Oe (Du n)),(63,dF xK xL (strconv_Itoa n)),(35,dF Gd Aa (kS n)),(27,dF Yr Oa (vO n))] []) (an:=zOd n) Tryz.func38 rfl (by kernel_rfl) fJ (bC (all_cons (aV (Xb n)) (all_cons (aV (zHh n)) (all_cons (aV (zDx n)) (all_cons (aV (wH n)) (all_cons (aV (Bw n)) (all_cons (aV (Ta n)) (all_nil))))))) (bD)) iI (aU _ _ rfl) (fun x=>by kernel_rfl)
def zHi (n:Nat):An (dK Ig) := .nil
theorem Zc (n:Nat):Pure Tryz.prog 34 Te Ig (tJ n) :=
 dR (Γ:=dP _ [(35,dF Gd Aa (kS n)),(38,dF Og Gf (rT n)),(40,dF zBk Oc (Si n))] []) (an:=zHi n) Tryz.func34 rfl (by kernel_rfl) fJ (bC (all_cons (aV (Bw n)) (all_cons (aV (Mf n)) (all_cons (aV (zDv n)) (all_nil)))) (bD)) iI (aU _ _ rfl) (fun x=>by kernel_rfl)
end Go.Dec
