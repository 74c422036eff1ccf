/- Part of a proof over this seat: a library of my own, and what it says of this seat. No statement is proved here. -/
import Derived.Test.YthhbdkdofhhoeaaGreatDoorProg
import Derived.Test.YthhbdkdofhhoeaaGreatDoorPartBC
import Derived.Test.YthhbdkdofhhoeaaGreatDoorPartBB
import Derived.Test.YthhbdkdofhhoeaaGreatDoorPartAS
import Derived.Test.YthhbdkdofhhoeaaGreatDoorPartAL
import Derived.Test.YthhbdkdofhhoeaaGreatDoorPartBD
import Derived.KernelRfl
namespace Go.Dec
open Go.Proofs
set_option linter.unusedVariables false
def yHv:Tab:=[(3,⟨.int .i64,1,8,[.val (.int .i64) 0],some (.int .i64),false⟩),(4,⟨.bool,1,1,[.val .bool false],some .bool,false⟩),(5,⟨.int .u8,1,1,[.val (.int .u8) 0],some (.int .u8),false⟩),(9,⟨.str,1,16,[.val .str []],some .str,false⟩),(23,⟨.int .u64,1,8,[.val (.int .u64) 0],some (.int .u64),false⟩),(24,⟨.arr 4 23,4,32,[.val (.arr 4 (.int .u64)) ([0,0,0,0])],some (.arr 4 (.int .u64)),true⟩),(25,⟨.arr 4 23,4,32,[.val (.arr 4 (.int .u64)) ([0,0,0,0])],some (.arr 4 (.int .u64)),true⟩),(26,⟨.int .i64,1,8,[.val (.int .i64) 0],some (.int .i64),false⟩),(30,⟨.arr 256 4,256,256,[.val (.arr 256 .bool) (List.replicate 256 false)],some (.arr 256 .bool),true⟩),(35,⟨.slice 57,1,24,[.dA],some (.slice aD),false⟩),(38,⟨.slice 51,1,24,[.dA],some (.slice aD),false⟩),(51,⟨.struct [(0,3),(1,24),(5,3),(6,3),(7,3),(8,3),(9,3)],10,80,[.val (.int .i64) 0,.val (.arr 4 (.int .u64)) ([0,0,0,0]),.val (.int .i64) 0,.val (.int .i64) 0,.val (.int .i64) 0,.val (.int .i64) 0,.val (.int .i64) 0],some aD,true⟩),(57,⟨.struct [(0,3),(1,25),(5,3),(6,3),(7,3),(8,3),(9,3)],10,80,[.val (.int .i64) 0,.val (.arr 4 (.int .u64)) ([0,0,0,0]),.val (.int .i64) 0,.val (.int .i64) 0,.val (.int .i64) 0,.val (.int .i64) 0,.val (.int .i64) 0],some aD,true⟩),(61,⟨.ptr 63,1,8,[.kE],none,false⟩),(63,⟨.struct [(0,9),(1,3)],2,24,[.val .str [],.val (.int .i64) 0],some zZw,true⟩),(65,⟨.struct [(0,26),(1,3)],2,16,[.val (.int .i64) 0,.val (.int .i64) 0],some zAy,true⟩),(78,⟨.ptr 81,1,8,[.kE],none,false⟩),(79,⟨.arr 10 4,10,10,[.val (.arr 10 .bool) ([false,false,false,false,false,false,false,false,false,false])],some (.arr 10 .bool),true⟩),(81,⟨.struct [(0,9),(1,3),(2,35),(3,3),(4,79)],14,72,[.val .str [],.val (.int .i64) 0,.dA,.val (.int .i64) 0,.val (.arr 10 .bool) ([false,false,false,false,false,false,false,false,false,false])],some vY,false⟩),(85,⟨.struct [(0,38),(1,3),(2,79),(12,3),(13,26)],14,64,[.dA,.val (.int .i64) 0,.val (.arr 10 .bool) ([false,false,false,false,false,false,false,false,false,false]),.val (.int .i64) 0,.val (.int .i64) 0],some vZ,false⟩),(90,⟨.slice 9,1,24,[.dA],some (.slice .str),false⟩),(96,⟨.slice 5,1,24,[.dA],some (.slice (.int .u8)),false⟩),(104,⟨.ptr 110,1,8,[.kE],none,false⟩),(105,⟨.slice 3,1,24,[.dA],some (.slice (.int .i64)),false⟩),(107,⟨.struct [(0,3),(1,3),(2,105),(3,105)],4,64,[.val (.int .i64) 0,.val (.int .i64) 0,.dA,.dA],some Qy,false⟩),(108,⟨.slice 107,1,24,[.dA],some (.slice Qy),false⟩),(110,⟨.struct [(0,9),(1,3),(2,35),(3,3),(4,108),(5,26),(6,3)],7,96,[.val .str [],.val (.int .i64) 0,.dA,.val (.int .i64) 0,.dA,.val (.int .i64) 0,.val (.int .i64) 0],some zP,false⟩),(112,⟨.struct [(0,38),(1,3),(2,3),(3,26)],4,48,[.dA,.val (.int .i64) 0,.val (.int .i64) 0,.val (.int .i64) 0],some Qz,false⟩),(115,⟨.slice 25,1,24,[.dA],some (.slice (.arr 4 (.int .u64))),false⟩),(130,⟨.struct [(0,4),(1,3),(2,79),(12,4)],13,32,[.val .bool false,.val (.int .i64) 0,.val (.arr 10 .bool) ([false,false,false,false,false,false,false,false,false,false]),.val .bool false],some zAz,true⟩),(135,⟨.func,1,8,[.val .opq Value.nilFunc],some .opq,false⟩),(137,⟨.iface false,1,16,[.val .err false],some .err,false⟩),(148,⟨.func,1,8,[.val .opq Value.nilFunc],some .opq,false⟩),(149,⟨.map 5 148,1,8,[.val .opq (Value.map none)],none,false⟩)]
theorem eZ:bH Tryz.prog yHv:=Xd (by kernel_rfl)
theorem gG:Tryz.prog.follows .mixedOrders=true:=by kernel_rfl
abbrev Vh:Sh:=⟨1,[⟨0,false,[.ptr 0 0]⟩],[.box 110 [.v .str,.v (.int .i64),.own 1,.v (.int .i64),.v .opq,.v (.int .i64),.v (.int .i64)],.row 57 aD]⟩
abbrev Dl:Sh:=⟨1,[⟨0,false,[.v .bool]⟩],[.box 110 [.v .str,.v (.int .i64),.own 1,.v (.int .i64),.v .opq,.v (.int .i64),.v (.int .i64)],.row 57 aD]⟩
abbrev sI:Sh:=⟨1,[⟨0,false,[.ptr 0 0]⟩],[.box 110 [.v .str,.v (.int .i64),.own 1,.v (.int .i64),.any 1,.v (.int .i64),.v (.int .i64)],.row 57 aD]⟩
abbrev sJ:Sh:=⟨1,[⟨0,false,[.v .bool]⟩],[.box 110 [.v .str,.v (.int .i64),.own 1,.v (.int .i64),.any 1,.v (.int .i64),.v (.int .i64)],.row 57 aD]⟩
abbrev Yr:Sh:=⟨3,[⟨0,false,[.ptr 0 0]⟩,⟨1,false,[.v (.int .i64)]⟩,⟨2,false,[.v (.int .i64)]⟩],[.box 110 [.v .str,.v (.int .i64),.own 1,.v (.int .i64),.v .opq,.v (.int .i64),.v (.int .i64)],.row 57 aD]⟩
abbrev Gv:Sh:=⟨1,[⟨0,false,[.v .bool]⟩],[.box 110 [.v .str,.v (.int .i64),.own 1,.v (.int .i64),.v .opq,.v (.int .i64),.v (.int .i64)],.row 57 aD]⟩
abbrev eB:Sh:=⟨3,[⟨0,false,[.ptr 0 0]⟩,⟨1,false,[.v (.int .i64)]⟩,⟨2,false,[.v (.int .i64)]⟩],[.box 110 [.v .str,.v (.int .i64),.own 1,.v (.int .i64),.any 1,.v (.int .i64),.v (.int .i64)],.row 57 aD]⟩
abbrev eD:Sh:=⟨1,[⟨0,false,[.v .bool]⟩],[.box 110 [.v .str,.v (.int .i64),.own 1,.v (.int .i64),.any 1,.v (.int .i64),.v (.int .i64)],.row 57 aD]⟩
abbrev Il:Sh:=⟨2,[⟨0,false,[.ptr 0 0]⟩,⟨1,true,[.v (.int .i64),.v (.arr 4 (.int .u64)),.v (.int .i64),.v (.int .i64),.v (.int .i64),.v (.int .i64),.v (.int .i64)]⟩],[.box 110 [.v .str,.v (.int .i64),.own 1,.v (.int .i64),.v .opq,.v (.int .i64),.v (.int .i64)],.row 57 aD]⟩
abbrev zC:Sh:=⟨1,[⟨0,false,[.v (.int .i64)]⟩],[.box 110 [.v .str,.v (.int .i64),.own 1,.v (.int .i64),.v .opq,.v (.int .i64),.v (.int .i64)],.row 57 aD]⟩
abbrev lX:Sh:=⟨2,[⟨0,false,[.ptr 0 0]⟩,⟨1,true,[.v (.int .i64),.v (.arr 4 (.int .u64)),.v (.int .i64),.v (.int .i64),.v (.int .i64),.v (.int .i64),.v (.int .i64)]⟩],[.box 110 [.v .str,.v (.int .i64),.own 1,.v (.int .i64),.any 1,.v (.int .i64),.v (.int .i64)],.row 57 aD]⟩
abbrev lY:Sh:=⟨1,[⟨0,false,[.v (.int .i64)]⟩],[.box 110 [.v .str,.v (.int .i64),.own 1,.v (.int .i64),.any 1,.v (.int .i64),.v (.int .i64)],.row 57 aD]⟩
abbrev Ws:List Ty:=[.str]
abbrev Jt:List Ty:=[.int .i64]
abbrev zFp:List Ty:=[.str]
abbrev Si:List Ty:=[.int .i64,.int .i64,.bool]
abbrev rE:Sh:=⟨2,[⟨0,false,[.ptr 0 0]⟩,⟨1,false,[.v (.int .i64)]⟩],[.box 110 [.v .str,.v (.int .i64),.own 1,.v (.int .i64),.own 2,.v (.int .i64),.v (.int .i64)],.row 57 aD,.stk 107 3]⟩
abbrev nI:Sh:=⟨1,[⟨0,false,[.v .bool]⟩],[.box 110 [.v .str,.v (.int .i64),.own 1,.v (.int .i64),.own 2,.v (.int .i64),.v (.int .i64)],.row 57 aD,.stk 107 3]⟩
abbrev tV:Sh:=⟨1,[⟨0,false,[.ptr 0 0]⟩],[.box 110 [.v .str,.v (.int .i64),.own 1,.v (.int .i64),.own 2,.v (.int .i64),.v (.int .i64)],.row 57 aD,.stk 107 3]⟩
abbrev oJ:Sh:=⟨1,[⟨0,false,[.v .bool]⟩],[.box 110 [.v .str,.v (.int .i64),.own 1,.v (.int .i64),.own 2,.v (.int .i64),.v (.int .i64)],.row 57 aD,.stk 107 3]⟩
abbrev vL:Sh:=⟨1,[⟨0,false,[.ptr 0 0]⟩],[.box 110 [.v .str,.v (.int .i64),.own 1,.v (.int .i64),.own 2,.v (.int .i64),.v (.int .i64)],.row 57 aD,.stk 107 3]⟩
abbrev pJ:Sh:=⟨1,[⟨0,false,[.v .bool]⟩],[.box 110 [.v .str,.v (.int .i64),.own 1,.v (.int .i64),.own 2,.v (.int .i64),.v (.int .i64)],.row 57 aD,.stk 107 3]⟩
abbrev lZ:Sh:=⟨2,[⟨0,false,[.ptr 0 0]⟩,⟨1,true,[.v (.arr 4 (.int .u64))]⟩],[.box 110 [.v .str,.v (.int .i64),.own 1,.v (.int .i64),.own 2,.v (.int .i64),.v (.int .i64)],.row 57 aD,.stk 107 3]⟩
abbrev jS:Sh:=⟨1,[⟨0,false,[.v .bool]⟩],[.box 110 [.v .str,.v (.int .i64),.own 1,.v (.int .i64),.own 2,.v (.int .i64),.v (.int .i64)],.row 57 aD,.stk 107 3]⟩
abbrev zD:Sh:=⟨1,[⟨0,false,[.ptr 0 0]⟩],[.box 110 [.v .str,.v (.int .i64),.own 1,.v (.int .i64),.own 2,.v (.int .i64),.v (.int .i64)],.row 57 aD,.stk 107 3]⟩
abbrev sS:Sh:=⟨1,[⟨0,false,[.v .bool]⟩],[.box 110 [.v .str,.v (.int .i64),.own 1,.v (.int .i64),.own 2,.v (.int .i64),.v (.int .i64)],.row 57 aD,.stk 107 3]⟩
abbrev xC:Sh:=⟨1,[⟨0,false,[.ptr 0 0]⟩],[.box 110 [.v .str,.v (.int .i64),.own 1,.v (.int .i64),.own 2,.v (.int .i64),.v (.int .i64)],.row 57 aD,.stk 107 3]⟩
abbrev rF:Sh:=⟨1,[⟨0,false,[.v .bool]⟩],[.box 110 [.v .str,.v (.int .i64),.own 1,.v (.int .i64),.own 2,.v (.int .i64),.v (.int .i64)],.row 57 aD,.stk 107 3]⟩
abbrev sK:Sh:=⟨1,[⟨0,false,[.ptr 0 0]⟩],[.box 110 [.v .str,.v (.int .i64),.own 1,.v (.int .i64),.own 2,.v (.int .i64),.v (.int .i64)],.row 57 aD,.stk 107 3]⟩
abbrev nM:Sh:=⟨1,[⟨0,false,[.v .bool]⟩],[.box 110 [.v .str,.v (.int .i64),.own 1,.v (.int .i64),.own 2,.v (.int .i64),.v (.int .i64)],.row 57 aD,.stk 107 3]⟩
abbrev Vi:Sh:=⟨3,[⟨0,false,[.ptr 0 0]⟩,⟨1,false,[.v (.int .i64)]⟩,⟨2,false,[.own 1]⟩],[.box 110 [.v .str,.v (.int .i64),.own 2,.v (.int .i64),.v .opq,.v (.int .i64),.v (.int .i64)],.row 3 (.int .i64),.row 57 aD]⟩
abbrev Dm:Sh:=⟨1,[⟨0,false,[.v (.int .i64)]⟩],[.box 110 [.v .str,.v (.int .i64),.own 2,.v (.int .i64),.v .opq,.v (.int .i64),.v (.int .i64)],.row 3 (.int .i64),.row 57 aD]⟩
abbrev nN:Sh:=⟨3,[⟨0,false,[.ptr 0 0]⟩,⟨1,false,[.v (.int .i64)]⟩,⟨2,false,[.own 1]⟩],[.box 110 [.v .str,.v (.int .i64),.own 2,.v (.int .i64),.any 1,.v (.int .i64),.v (.int .i64)],.row 3 (.int .i64),.row 57 aD]⟩
abbrev nO:Sh:=⟨1,[⟨0,false,[.v (.int .i64)]⟩],[.box 110 [.v .str,.v (.int .i64),.own 2,.v (.int .i64),.any 1,.v (.int .i64),.v (.int .i64)],.row 3 (.int .i64),.row 57 aD]⟩
abbrev sU:Sh:=⟨1,[⟨0,false,[.ptr 0 0]⟩],[.box 110 [.v .str,.v (.int .i64),.own 1,.v (.int .i64),.own 2,.v (.int .i64),.v (.int .i64)],.row 57 aD,.stk 107 3]⟩
abbrev oK:Sh:=⟨1,[⟨0,false,[.v .bool]⟩],[.box 110 [.v .str,.v (.int .i64),.own 1,.v (.int .i64),.own 2,.v (.int .i64),.v (.int .i64)],.row 57 aD,.stk 107 3]⟩
abbrev zF:Sh:=⟨1,[⟨0,false,[.ptr 0 0]⟩],[.box 110 [.v .str,.v (.int .i64),.own 1,.v (.int .i64),.own 2,.v (.int .i64),.v (.int .i64)],.row 57 aD,.stk 107 3]⟩
abbrev sV:Sh:=⟨1,[⟨0,false,[.v .bool]⟩],[.box 110 [.v .str,.v (.int .i64),.own 1,.v (.int .i64),.own 2,.v (.int .i64),.v (.int .i64)],.row 57 aD,.stk 107 3]⟩
abbrev xD:Sh:=⟨1,[⟨0,false,[.ptr 0 0]⟩],[.box 110 [.v .str,.v (.int .i64),.own 1,.v (.int .i64),.own 2,.v (.int .i64),.v (.int .i64)],.row 57 aD,.stk 107 3]⟩
abbrev rG:Sh:=⟨1,[⟨0,false,[.v .bool]⟩],[.box 110 [.v .str,.v (.int .i64),.own 1,.v (.int .i64),.own 2,.v (.int .i64),.v (.int .i64)],.row 57 aD,.stk 107 3]⟩
abbrev tX:Sh:=⟨1,[⟨0,false,[.ptr 0 0]⟩],[.box 110 [.v .str,.v (.int .i64),.own 1,.v (.int .i64),.own 2,.v (.int .i64),.v (.int .i64)],.row 57 aD,.stk 107 3]⟩
abbrev oL:Sh:=⟨1,[⟨0,false,[.v .bool]⟩],[.box 110 [.v .str,.v (.int .i64),.own 1,.v (.int .i64),.own 2,.v (.int .i64),.v (.int .i64)],.row 57 aD,.stk 107 3]⟩
abbrev Dn:Sh:=⟨1,[⟨0,false,[.ptr 0 0]⟩],[.box 110 [.v .str,.v (.int .i64),.own 1,.v (.int .i64),.own 2,.v (.int .i64),.v (.int .i64)],.row 57 aD,.stk 107 3]⟩
abbrev vM:Sh:=⟨1,[⟨0,false,[.v .bool]⟩],[.box 110 [.v .str,.v (.int .i64),.own 1,.v (.int .i64),.any 1,.v (.int .i64),.v (.int .i64)],.row 57 aD,.stk 107 3]⟩
abbrev Ep:List Ty:=[.str]
abbrev zG:List Ty:=[.slice aD,.int .i64,.int .i64]
abbrev Sj:List Ty:=[.arr 4 (.int .u64)]
abbrev Im:List Ty:=[.str]
abbrev zBy:List Ty:=[aD]
abbrev Nl:List Ty:=[.str]
abbrev zBz:List Ty:=[.slice aD]
abbrev Nn:List Ty:=[.str,.int .i64]
abbrev Sk:List Ty:=[]
abbrev Gw:List Ty:=[.bool]
abbrev Wu:List Ty:=[.arr 256 .bool]
abbrev Ju:List Ty:=[.str]
abbrev zCa:List Ty:=[.arr 4 (.int .u64)]
abbrev Io:List Ty:=[.bool]
def Sl (n:Nat):An (Dl.X) := .nil
theorem Jv(n:Nat):fV Tryz.prog 158 Vh Dl (kK n):=
 fZ (Γ:=cB _ [(73,bQ lF lG (strings_IndexByte n))] []) (an:=Sl n) (co:=[.gc [0,1]]) Tryz.func158 rfl (by kernel_rfl) eZ (aV (all_cons (aO (kP n)) (all_nil)) (aW)) gG (aN _ _ rfl) (by kernel_rfl) (by kernel_rfl) (λx=>by kernel_rfl)
theorem tY(n:Nat):Gf Tryz.prog 158 4 sI sJ (bV n):=
 Ig (j:=4) (λv x=>(x.1,x.2.1,x.2.2.1,v,x.2.2.2)) (λv y=>(y.1,y.2.1,y.2.2.1,y.2.2.2.1,v,y.2.2.2.2)) (Jr n) (λv x=>⟨_,_,rfl,rfl,rfl,rfl⟩) (λv y=>⟨_,_,rfl,rfl,rfl,rfl⟩) (by decide) (Jv n)
def Vj (n:Nat):An (Gv.X) := .nil
theorem Lg(n:Nat):fV Tryz.prog 125 Yr Gv (oI n):=
 fZ (Γ:=cB _ [] []) (an:=Vj n) (co:=[.gc [0,1]]) Tryz.func125 rfl (by kernel_rfl) eZ (aV (all_nil) (aW)) gG (aN _ _ rfl) (by kernel_rfl) (by kernel_rfl) (λx=>by kernel_rfl)
theorem dM(n:Nat):Gf Tryz.prog 125 4 eB eD (aM n):=
 Ig (j:=4) (λv x=>(x.1,x.2.1,x.2.2.1,x.2.2.2.1,x.2.2.2.2.1,v,x.2.2.2.2.2)) (λv y=>(y.1,y.2.1,y.2.2.1,y.2.2.2.1,v,y.2.2.2.2)) (Le n) (λv x=>⟨_,_,rfl,rfl,rfl,rfl⟩) (λv y=>⟨_,_,rfl,rfl,rfl,rfl⟩) (by decide) (Lg n)
def Yt (n:Nat):An (zC.X) := .nil
theorem zH(n:Nat):fV Tryz.prog 160 Il zC (fI n):=
 fZ (Γ:=cB _ [] []) (an:=Yt n) (co:=[.gc [0,1]]) Tryz.func160 rfl (by kernel_rfl) eZ (aV (all_nil) (aW)) gG (aN _ _ rfl) (by kernel_rfl) (by kernel_rfl) (λx=>by kernel_rfl)
theorem kU(n:Nat):Gf Tryz.prog 160 4 lX lY (bN n):=
 Ig (j:=4) (λv x=>(x.1,x.2.1,x.2.2.1,x.2.2.2.1,x.2.2.2.2.1,x.2.2.2.2.2.1,x.2.2.2.2.2.2.1,x.2.2.2.2.2.2.2.1,x.2.2.2.2.2.2.2.2.1,x.2.2.2.2.2.2.2.2.2.1,v,x.2.2.2.2.2.2.2.2.2.2)) (λv y=>(y.1,y.2.1,y.2.2.1,y.2.2.2.1,v,y.2.2.2.2)) (Nk n) (λv x=>⟨_,_,rfl,rfl,rfl,rfl⟩) (λv y=>⟨_,_,rfl,rfl,rfl,rfl⟩) (by decide) (zH n)
def zLa (n:Nat):An (bW Jt) := .nil
theorem zCb(n:Nat):Pure Tryz.prog 191 Ws Jt (uW n):=
 bT (Γ:=cB _ [(167,bQ Kq Kr (wI n))] []) (an:=zLa n) Tryz.func191 rfl (by kernel_rfl) eZ (aV (all_cons (aO (Qw n)) (all_nil)) (aW)) gG (aN _ _ rfl) (λx=>by kernel_rfl)
def zRw (n:Nat):An (bW Si) := .nil
theorem zGs(n:Nat):Pure Tryz.prog 179 zFp Si (Gu n):=
 bT (Γ:=cB _ [(84,bQ yK yL (strings_Cut n)),(191,bQ Ws Jt (uW n))] []) (an:=zRw n) Tryz.func179 rfl (by kernel_rfl) eZ (aV (all_cons (aO (wU n)) (all_cons (aO (zCb n)) (all_nil))) (aW)) gG (aN _ _ rfl) (λx=>by kernel_rfl)
def Vk (n:Nat):An (nI.X):=(.mk .nil (.scope 0 (.mk .nil (.mk .nil (.mk .nil (.mk .nil (.mk .nil (.mk .nil (.mk .nil (.mk .nil (.mk (.co [.opn 0 4] .nil) (.mk (.co [.cls 0 4] .nil) .nil []) []) []) []) []) []) []) []) []) []) (.mk .nil (.mk (.co [.opn 0 4] .nil) (.mk (.co [.cls 0 4] .nil) .nil []) []) [])) [])
theorem qD(n:Nat):fV Tryz.prog 159 rE nI (fA n):=
 fZ (Γ:=cB _ [(126,Ih 4 4),(84,bQ yK yL (strings_Cut n)),(179,bQ zFp Si (Gu n))] [geK 158 4 4 sI sJ (bV n),geK 160 4 4 lX lY (bN n),geK 125 4 4 eB eD (aM n)]) (an:=Vk n) (co:=[.gc [0,1,2]]) Tryz.func159 rfl (by kernel_rfl) eZ (aV (all_cons (Nb zBx) (all_cons (aO (wU n)) (all_cons (aO (zGs n)) (all_nil)))) (dF (jZ (tY n)) (dF (jZ (kU n)) (dF (jZ (dM n)) (aW))))) gG (aN _ _ rfl) (by kernel_rfl) (by kernel_rfl) (λx=>by kernel_rfl)
def Pm (n:Nat):An (oJ.X) := .nil
theorem vB(n:Nat):fV Tryz.prog 114 tV oJ (iK n):=
 fZ (Γ:=cB _ [(159,peM rE nI (fA n))] [geK 158 4 4 sI sJ (bV n),geK 125 4 4 eB eD (aM n),geK 160 4 4 lX lY (bN n)]) (an:=Pm n) (co:=[.gc [0,1,2]]) Tryz.func114 rfl (by kernel_rfl) eZ (aV (all_cons (eO (qD n)) (all_nil)) (dF (jZ (tY n)) (dF (jZ (dM n)) (dF (jZ (kU n)) (aW))))) gG (aN _ _ rfl) (by kernel_rfl) (by kernel_rfl) (λx=>by kernel_rfl)
def Sm (n:Nat):An (pJ.X) := .nil
theorem wD(n:Nat):fV Tryz.prog 115 vL pJ (gZ n):=
 fZ (Γ:=cB _ [] [geK 125 4 4 eB eD (aM n)]) (an:=Sm n) (co:=[.gc [0,1,2]]) Tryz.func115 rfl (by kernel_rfl) eZ (aV (all_nil) (dF (jZ (dM n)) (aW))) gG (aN _ _ rfl) (by kernel_rfl) (by kernel_rfl) (λx=>by kernel_rfl)
def Sn (n:Nat):An (jS.X) := .nil
theorem kV(n:Nat):fV Tryz.prog 122 lZ jS (dX n):=
 fZ (Γ:=cB _ [(159,peM rE nI (fA n))] [geK 160 4 4 lX lY (bN n)]) (an:=Sn n) (co:=[.gc [0,1,2]]) Tryz.func122 rfl (by kernel_rfl) eZ (aV (all_cons (eO (qD n)) (all_nil)) (dF (jZ (kU n)) (aW))) gG (aN _ _ rfl) (by kernel_rfl) (by kernel_rfl) (λx=>by kernel_rfl)
end Go.Dec
namespace Go.Dec
open Go.Proofs
set_option linter.unusedVariables false
def Yu (n:Nat):An (sS.X) := .nil
theorem zI(n:Nat):fV Tryz.prog 116 zD sS (mX n):=
 fZ (Γ:=cB _ [(50,bQ Yh Ng (Ey n)),(122,peM lZ jS (dX n))] []) (an:=Yu n) (co:=[.gc [0,1,2]]) Tryz.func116 rfl (by kernel_rfl) eZ (aV (all_cons (aO (Rw n)) (all_cons (eO (kV n)) (all_nil))) (aW)) gG (aN _ _ rfl) (by kernel_rfl) (by kernel_rfl) (λx=>by kernel_rfl)
def Vl (n:Nat):An (rF.X) := .nil
theorem xR(n:Nat):fV Tryz.prog 117 xC rF (lI n):=
 fZ (Γ:=cB _ [(17,bQ Rm Gn (oZ n)),(122,peM lZ jS (dX n))] [geK 125 4 4 eB eD (aM n)]) (an:=Vl n) (co:=[.gc [0,1,2]]) Tryz.func117 rfl (by kernel_rfl) eZ (aV (all_cons (aO (Yn n)) (all_cons (eO (kV n)) (all_nil))) (dF (jZ (dM n)) (aW))) gG (aN _ _ rfl) (by kernel_rfl) (by kernel_rfl) (λx=>by kernel_rfl)
def Np (n:Nat):An (nM.X) := .nil
theorem tZ(n:Nat):fV Tryz.prog 118 sK nM (jE n):=
 fZ (Γ:=cB _ [(123,bQ Ux Kw (rO n)),(122,peM lZ jS (dX n)),(73,bQ lF lG (strings_IndexByte n)),(87,bQ Eo yV (dH n))] [geK 125 4 4 eB eD (aM n)]) (an:=Np n) (co:=[.gc [0,1,2]]) Tryz.func118 rfl (by kernel_rfl) eZ (aV (all_cons (aO (Jp n)) (all_cons (eO (kV n)) (all_cons (aO (kP n)) (all_cons (aO (Ap n)) (all_nil))))) (dF (jZ (dM n)) (aW))) gG (aN _ _ rfl) (by kernel_rfl) (by kernel_rfl) (λx=>by kernel_rfl)
def Sq (n:Nat):An (Dm.X):=(.mk .nil (.mk .nil (.mk (.mk .nil (.mk (.loop ⟨32,[⟨0,false,[.ptr 0 0]⟩,⟨1,false,[.v (.int .i64)]⟩,⟨2,false,[.own 1]⟩,⟨7,false,[.v (.int .i64)]⟩,⟨8,false,[.v (.int .i64)]⟩],[.box 110 [.v .str,.v (.int .i64),.own 2,.v (.int .i64),.v .opq,.v (.int .i64),.v (.int .i64)],.row 3 (.int .i64),.row 57 aD]⟩ [.keep (kbm 9 391),.gcA 3,.gcA 3] [.keep (kbm 9 391),.gcA 3,.gcA 3] n .nil) .nil []) []) .nil []) []) [])
theorem Jw(n:Nat):fV Tryz.prog 127 Vi Dm (kL n):=
 fZ (Γ:=cB _ [(160,peM Il zC (fI n))] []) (an:=Sq n) (co:=[.gc [0,1,2]]) Tryz.func127 rfl (by kernel_rfl) eZ (aV (all_cons (eO (zH n)) (all_nil)) (aW)) gG (aN _ _ rfl) (by kernel_rfl) (by kernel_rfl) (λx=>by kernel_rfl)
theorem nJ(n:Nat):Gf Tryz.prog 127 4 nN nO (dU n):=
 Ig (j:=4) (λv x=>(x.1,x.2.1,x.2.2.1,x.2.2.2.1,v,x.2.2.2.2)) (λv y=>(y.1,y.2.1,y.2.2.1,y.2.2.2.1,v,y.2.2.2.2)) (Js n) (λv x=>⟨_,_,rfl,rfl,rfl,rfl⟩) (λv y=>⟨_,_,rfl,rfl,rfl,rfl⟩) (by decide) (Jw n)
def Yv (n:Nat):An (oK.X):=(.mk .nil (.mk (.co [.opn 0 4] .nil) (.mk (.mk .nil (.mk (.mk (.co [.cls 0 4] .nil) .nil []) .nil []) []) (.mk .nil (.mk .nil (.mk (.co [.Xv 2 3,.cls 0 4] .nil) .nil []) []) []) []) []) [])
theorem rH(n:Nat):fV Tryz.prog 124 sU oK (fJ n):=
 fZ (Γ:=cB _ [(126,Ih 4 4)] [geK 125 4 4 eB eD (aM n),geK 127 4 4 nN nO (dU n)]) (an:=Yv n) (co:=[.gc [0,1,2]]) Tryz.func124 rfl (by kernel_rfl) eZ (aV (all_cons (Nb zBx) (all_nil)) (dF (jZ (dM n)) (dF (jZ (nJ n)) (aW)))) gG (aN _ _ rfl) (by kernel_rfl) (by kernel_rfl) (λx=>by kernel_rfl)
def Yw (n:Nat):An (sV.X) := .nil
theorem zJ(n:Nat):fV Tryz.prog 119 zF sV (kM n):=
 fZ (Γ:=cB _ [(124,peM sU oK (fJ n))] []) (an:=Yw n) (co:=[.gc [0,1,2]]) Tryz.func119 rfl (by kernel_rfl) eZ (aV (all_cons (eO (rH n)) (all_nil)) (aW)) gG (aN _ _ rfl) (by kernel_rfl) (by kernel_rfl) (λx=>by kernel_rfl)
def Vm (n:Nat):An (rG.X) := .nil
theorem xS(n:Nat):fV Tryz.prog 120 xD rG (lJ n):=
 fZ (Γ:=cB _ [] [geK 125 4 4 eB eD (aM n)]) (an:=Vm n) (co:=[.gc [0,1,2]]) Tryz.func120 rfl (by kernel_rfl) eZ (aV (all_nil) (dF (jZ (dM n)) (aW))) gG (aN _ _ rfl) (by kernel_rfl) (by kernel_rfl) (λx=>by kernel_rfl)
def Pn (n:Nat):An (oL.X):=(.mk .nil (.mk .nil (.mk .nil (.mk (.co [.opn 0 4] .nil) (.mk .nil (.mk (.co [.zXd 0 4] .nil) .nil []) []) []) []) []) [])
theorem vC(n:Nat):fV Tryz.prog 121 tX oL (gL n):=
 fZ (Γ:=cB _ [(124,peM sU oK (fJ n)),(126,Ih 4 4),(159,peM rE nI (fA n))] [geK 125 4 4 eB eD (aM n),geK 127 4 4 nN nO (dU n),geK 160 4 4 lX lY (bN n)]) (an:=Pn n) (co:=[.gc [0,1,2]]) Tryz.func121 rfl (by kernel_rfl) eZ (aV (all_cons (eO (rH n)) (all_cons (Nb zBx) (all_cons (eO (qD n)) (all_nil)))) (dF (jZ (dM n)) (dF (jZ (nJ n)) (dF (jZ (kU n)) (aW))))) gG (aN _ _ rfl) (by kernel_rfl) (by kernel_rfl) (λx=>by kernel_rfl)
def Sr (n:Nat):An (vM.X):=(.mk .nil (.mk .nil (.mk (.mk (.loop ⟨95,[⟨0,false,[.ptr 0 0]⟩,⟨3,false,[.mp 3]⟩],[.box 110 [.v .str,.v (.int .i64),.own 1,.v (.int .i64),.own 2,.v (.int .i64),.v (.int .i64)],.row 57 aD,.stk 107 3,.fm [(.i .u8 94,114),(.i .u8 36,114),(.i .u8 42,115),(.i .u8 43,115),(.i .u8 63,115),(.i .u8 123,115),(.i .u8 46,116),(.i .u8 91,117),(.i .u8 92,118),(.i .u8 124,119),(.i .u8 40,120),(.i .u8 41,121)]]⟩ [.keep [true,false,false,true],.gcA 3,.gcA 3] [.keep [true,false,false,true],.gcA 3,.gcA 3] n .nil) .nil []) (.mk .nil (.mk .nil (.mk (.co [.opn 0 4] .nil) .nil []) []) []) []) []) [])
theorem Jy(n:Nat):fV Tryz.prog 77 Dn vM (rD n):=
 fZ (Γ:=cB _ [(114,peM tV oJ (iK n)),(115,peM vL pJ (gZ n)),(116,peM zD sS (mX n)),(117,peM xC rF (lI n)),(118,peM sK nM (jE n)),(119,peM zF sV (kM n)),(120,peM xD rG (lJ n)),(121,peM tX oL (gL n)),(123,bQ Ux Kw (rO n)),(122,peM lZ jS (dX n)),(124,peM sU oK (fJ n)),(126,Ih 4 4)] [geM 114 tV oJ (iK n),geM 115 vL pJ (gZ n),geM 116 zD sS (mX n),geM 117 xC rF (lI n),geM 118 sK nM (jE n),geM 119 zF sV (kM n),geM 120 xD rG (lJ n),geM 121 tX oL (gL n),geK 125 4 4 eB eD (aM n),geK 127 4 4 nN nO (dU n)]) (an:=Sr n) (co:=[.Ml 0 4,.shut 2,.gc [0,1,2]]) Tryz.func77 rfl (by kernel_rfl) eZ (aV (all_cons (eO (vB n)) (all_cons (eO (wD n)) (all_cons (eO (zI n)) (all_cons (eO (xR n)) (all_cons (eO (tZ n)) (all_cons (eO (zJ n)) (all_cons (eO (xS n)) (all_cons (eO (vC n)) (all_cons (aO (Jp n)) (all_cons (eO (kV n)) (all_cons (eO (rH n)) (all_cons (Nb zBx) (all_nil))))))))))))) (dF (Cm (vB n)) (dF (Cm (wD n)) (dF (Cm (zI n)) (dF (Cm (xR n)) (dF (Cm (tZ n)) (dF (Cm (zJ n)) (dF (Cm (xS n)) (dF (Cm (vC n)) (dF (jZ (dM n)) (dF (jZ (nJ n)) (aW)))))))))))) gG (aN _ _ rfl) (by kernel_rfl) (by kernel_rfl) (λx=>by kernel_rfl)
def zNf (n:Nat):An (bW zG):=(.mk .nil (.mk .nil (.mk .nil (.mk (.mk (.co [.ownB 1 2 35] .nil) .nil []) .nil []) []) []) [])
theorem Ar(n:Nat):Pure Tryz.prog 35 Ep zG (mM n):=
 bT (Γ:=cB _ [(77,peM Dn vM (rD n))] []) (an:=zNf n) Tryz.func35 rfl (by kernel_rfl) eZ (aV (all_cons (eO (Jy n)) (all_nil)) (aW)) gG (aN _ _ rfl) (λx=>by kernel_rfl)
def zRx (n:Nat):An (bW Im) := .nil
theorem Ox(n:Nat):Pure Tryz.prog 42 Sj Im (xB n):=
 bT (Γ:=cB _ [(68,bQ Em En (oD n)),(30,bQ zFn Rs (Ag n)),(81,bQ Dh Di (strings_Contains n))] []) (an:=zRx n) Tryz.func42 rfl (by kernel_rfl) eZ (aV (all_cons (aO (Af n)) (all_cons (aO (zGo n)) (all_cons (aO (Ko n)) (all_nil)))) (aW)) gG (aN _ _ rfl) (λx=>by kernel_rfl)
end Go.Dec
namespace Go.Dec
open Go.Proofs
set_option linter.unusedVariables false
def zNg (n:Nat):An (bW Nl) := .nil
theorem zDw(n:Nat):Pure Tryz.prog 79 zBy Nl (Sd n):=
 bT (Γ:=cB _ [(63,bQ wK wL (strconv_Itoa n))] []) (an:=zNg n) Tryz.func79 rfl (by kernel_rfl) eZ (aV (all_cons (aO (vG n)) (all_nil)) (aW)) gG (aN _ _ rfl) (λx=>by kernel_rfl)
def zNh (n:Nat):An (bW Nn):=(.mk .nil (.mk .nil (.mk .nil (.mk (.mk .nil (.mk (.loop ⟨134,[⟨0,false,[.v (.slice aD)]⟩,⟨4,false,[.own 0]⟩,⟨17,false,[.v (.slice aD)]⟩,⟨18,false,[.v (.int .i64)]⟩,⟨19,false,[.v (.int .i64)]⟩],[.row 9 .str]⟩ [.keep (kbm 20 917521),.gcA 0,.gcA 0] [.keep (kbm 20 917521),.gcA 0,.gcA 0] n .nil) .nil []) []) .nil []) []) []) [])
theorem zDx(n:Nat):Pure Tryz.prog 38 zBz Nn (Sg n):=
 bT (Γ:=cB _ [(24,bQ zDt Uy (Rh n)),(42,bQ Sj Im (xB n)),(79,bQ zBy Nl (Sd n)),(63,bQ wK wL (strconv_Itoa n)),(35,bQ Ep zG (mM n)),(27,bQ zKp Yl (Uu n))] []) (an:=zNh n) Tryz.func38 rfl (by kernel_rfl) eZ (aV (all_cons (aO (Wq n)) (all_cons (aO (Ox n)) (all_cons (aO (zDw n)) (all_cons (aO (vG n)) (all_cons (aO (Ar n)) (all_cons (aO (zKt n)) (all_nil))))))) (aW)) gG (aN _ _ rfl) (λx=>by kernel_rfl)
def zGt (n:Nat):An (bW Gw) := .nil
theorem Yx(n:Nat):Pure Tryz.prog 34 Sk Gw (Br n):=
 bT (Γ:=cB _ [(35,bQ Ep zG (mM n)),(38,bQ zBz Nn (Sg n)),(40,bQ zBj Nj (Rk n))] []) (an:=zGt n) Tryz.func34 rfl (by kernel_rfl) eZ (aV (all_cons (aO (Ar n)) (all_cons (aO (zDx n)) (all_cons (aO (zDv n)) (all_nil)))) (aW)) gG (aN _ _ rfl) (λx=>by kernel_rfl)
end Go.Dec
