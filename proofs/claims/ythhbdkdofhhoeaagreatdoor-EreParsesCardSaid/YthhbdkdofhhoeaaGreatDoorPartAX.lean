/- Part of a proof over this seat: a library of my own, and what it says of this seat. No statement is proved here. -/
import Derived.Test.YthhbdkdofhhoeaaGreatDoorProg
import Derived.Test.YthhbdkdofhhoeaaGreatDoorPartAW
import Derived.Test.YthhbdkdofhhoeaaGreatDoorPartAV
import Derived.Test.YthhbdkdofhhoeaaGreatDoorPartAR
import Derived.KernelRfl
namespace Go.Dec
open Go.Proofs
set_option linter.unusedVariables false
def tab:Tab:=[(3,⟨.int .i64,1,8,[.val (.int .i64) 0],some (.int .i64),false⟩),
 (4,⟨.bool,1,1,[.val .bool false],some .bool,false⟩),
 (5,⟨.int .u8,1,1,[.val (.int .u8) 0],some (.int .u8),false⟩),
 (9,⟨.str,1,16,[.val .str []],some .str,false⟩),
 (23,⟨.int .u64,1,8,[.val (.int .u64) 0],some (.int .u64),false⟩),
 (24,⟨.arr 4 23,4,32,[.val (.arr 4 (.int .u64)) ([0,0,0,0])],some (.arr 4 (.int .u64)),true⟩),
 (25,⟨.arr 4 23,4,32,[.val (.arr 4 (.int .u64)) ([0,0,0,0])],some (.arr 4 (.int .u64)),true⟩),
 (26,⟨.int .i64,1,8,[.val (.int .i64) 0],some (.int .i64),false⟩),
 (30,⟨.arr 256 4,256,256,[.val (.arr 256 .bool) ([false,false,false,false,false,false,false,false,false,false,false,false,false,false,false,false,false,false,false,false,false,false,false,false,false,false,false,false,false,false,false,false,false,false,false,false,false,false,false,false,false,false,false,false,false,false,false,false,false,false,false,false,false,false,false,false,false,false,false,false,false,false,false,false,false,false,false,false,false,false,false,false,false,false,false,false,false,false,false,false,false,false,false,false,false,false,false,false,false,false,false,false,false,false,false,false,false,false,false,false,false,false,false,false,false,false,false,false,false,false,false,false,false,false,false,false,false,false,false,false,false,false,false,false,false,false,false,false,false,false,false,false,false,false,false,false,false,false,false,false,false,false,false,false,false,false,false,false,false,false,false,false,false,false,false,false,false,false,false,false,false,false,false,false,false,false,false,false,false,false,false,false,false,false,false,false,false,false,false,false,false,false,false,false,false,false,false,false,false,false,false,false,false,false,false,false,false,false,false,false,false,false,false,false,false,false,false,false,false,false,false,false,false,false,false,false,false,false,false,false,false,false,false,false,false,false,false,false,false,false,false,false,false,false,false,false,false,false,false,false,false,false,false,false,false,false,false,false,false,false,false,false,false,false,false,false])],some (.arr 256 .bool),true⟩),
 (35,⟨.slice 57,1,24,[.dG],some (.slice aC),false⟩),
 (38,⟨.slice 51,1,24,[.dG],some (.slice aC),false⟩),
 (51,⟨.struct [(0,3),(1,24),(5,3),(6,3),(7,3),(8,3),(9,3)],10,80,[.val (.int .i64) 0,.val (.arr 4 (.int .u64)) ([0,0,0,0]),.val (.int .i64) 0,.val (.int .i64) 0,.val (.int .i64) 0,.val (.int .i64) 0,.val (.int .i64) 0],some aC,true⟩),
 (57,⟨.struct [(0,3),(1,25),(5,3),(6,3),(7,3),(8,3),(9,3)],10,80,[.val (.int .i64) 0,.val (.arr 4 (.int .u64)) ([0,0,0,0]),.val (.int .i64) 0,.val (.int .i64) 0,.val (.int .i64) 0,.val (.int .i64) 0,.val (.int .i64) 0],some aC,true⟩),
 (61,⟨.ptr 63,1,8,[.lC],none,false⟩),
 (63,⟨.struct [(0,9),(1,3)],2,24,[.val .str [],.val (.int .i64) 0],some yEo,true⟩),
 (65,⟨.struct [(0,26),(1,3)],2,16,[.val (.int .i64) 0,.val (.int .i64) 0],some zEg,true⟩),
 (78,⟨.ptr 81,1,8,[.lC],none,false⟩),
 (79,⟨.arr 10 4,10,10,[.val (.arr 10 .bool) ([false,false,false,false,false,false,false,false,false,false])],some (.arr 10 .bool),true⟩),
 (81,⟨.struct [(0,9),(1,3),(2,35),(3,3),(4,79)],14,72,[.val .str [],.val (.int .i64) 0,.dG,.val (.int .i64) 0,.val (.arr 10 .bool) ([false,false,false,false,false,false,false,false,false,false])],some xM,false⟩),
 (85,⟨.struct [(0,38),(1,3),(2,79),(12,3),(13,26)],14,64,[.dG,.val (.int .i64) 0,.val (.arr 10 .bool) ([false,false,false,false,false,false,false,false,false,false]),.val (.int .i64) 0,.val (.int .i64) 0],some xO,false⟩),
 (90,⟨.slice 9,1,24,[.dG],some (.slice .str),false⟩),
 (96,⟨.slice 5,1,24,[.dG],some (.slice (.int .u8)),false⟩),
 (105,⟨.slice 3,1,24,[.dG],some (.slice (.int .i64)),false⟩),
 (115,⟨.slice 25,1,24,[.dG],some (.slice (.arr 4 (.int .u64))),false⟩),
 (130,⟨.struct [(0,4),(1,3),(2,79),(12,4)],13,32,[.val .bool false,.val (.int .i64) 0,.val (.arr 10 .bool) ([false,false,false,false,false,false,false,false,false,false]),.val .bool false],some zEh,true⟩),
 (135,⟨.func,1,8,[.val .opq Value.nilFunc],some .opq,false⟩),
 (137,⟨.iface false,1,16,[.val .err false],some .err,false⟩)]
theorem dI:bK Tryz.prog tab:=Zy (by kernel_rfl)
theorem mixed:Tryz.prog.follows .mixedOrders=true:=by kernel_rfl
abbrev pI:List Ty:=[.str,.str]
abbrev jY:List Ty:=[.bool]
abbrev vH:List Ty:=[.str,.str]
abbrev qG:List Ty:=[.bool]
abbrev zBe:List Ty:=[.arr 4 (.int .u64)]
abbrev Ql:List Ty:=[.arr 4 (.int .u64)]
abbrev uQ:Sh:=⟨2,[⟨0,false,[.ptr 0 0]⟩,⟨1,false,[.v .str]⟩],[.box 63 [.v .str,.v (.int .i64)]]⟩
abbrev qH:Sh:=⟨1,[⟨0,false,[.v .bool]⟩],[.box 63 [.v .str,.v (.int .i64)]]⟩
abbrev wH:Sh:=⟨2,[⟨0,false,[.ptr 0 0]⟩,⟨1,false,[.v .str]⟩],[.box 63 [.v .str,.v (.int .i64)]]⟩
abbrev rP:Sh:=⟨1,[⟨0,false,[.v .bool]⟩],[.box 63 [.v .str,.v (.int .i64)]]⟩
abbrev wI:Sh:=⟨1,[⟨0,false,[.ptr 0 0]⟩],[.box 63 [.v .str,.v (.int .i64)]]⟩
abbrev wJ:Sh:=⟨0,[],[.box 63 [.v .str,.v (.int .i64)]]⟩
abbrev wK:Sh:=⟨1,[⟨0,true,[.v (.int .i64),.v (.int .i64)]⟩],[.box 63 [.v .str,.v (.int .i64)]]⟩
abbrev Ht:List Ty:=[.int .u8,.int .u8]
abbrev Ap:List Ty:=[.arr 4 (.int .u64)]
abbrev zHf:List Ty:=[.slice (.arr 4 (.int .u64))]
abbrev Xy:List Ty:=[.arr 4 (.int .u64)]
abbrev Xz:List Ty:=[.str]
abbrev Ny:List Ty:=[.arr 4 (.int .u64)]
abbrev zEm:List Ty:=[.str]
abbrev Qm:List Ty:=[.arr 4 (.int .u64),.bool]
abbrev Gd:Sh:=⟨3,[⟨0,false,[.ptr 0 0]⟩,⟨1,false,[.v .bool]⟩,⟨2,false,[.v .bool]⟩],[.box 63 [.v .str,.v (.int .i64)]]⟩
abbrev wY:Sh:=⟨2,[⟨0,false,[.v (.int .u8)]⟩,⟨1,false,[.v .bool]⟩],[.box 63 [.v .str,.v (.int .i64)]]⟩
abbrev wZ:Sh:=⟨1,[⟨0,true,[.v (.int .i64),.v (.int .i64)]⟩],[.box 63 [.v .str,.v (.int .i64)]]⟩
abbrev Nz:Sh:=⟨2,[⟨0,false,[.ptr 0 0]⟩,⟨1,false,[.v .bool]⟩],[.box 63 [.v .str,.v (.int .i64)]]⟩
abbrev Cu:Sh:=⟨1,[⟨0,true,[.v (.arr 4 (.int .u64))]⟩],[.box 63 [.v .str,.v (.int .i64)]]⟩
abbrev Cv:Sh:=⟨1,[⟨0,true,[.v (.int .i64),.v (.int .i64)]⟩],[.box 63 [.v .str,.v (.int .i64)]]⟩
abbrev Oa:Sh:=⟨2,[⟨0,false,[.ptr 0 0]⟩,⟨1,false,[.ptr 1 0]⟩],[.box 61 [.ptr 2 0],.box 25 [.v (.arr 4 (.int .u64))],.box 63 [.v .str,.v (.int .i64)]]⟩
abbrev Cw:Sh:=⟨0,[],[.box 61 [.ptr 2 0],.box 25 [.v (.arr 4 (.int .u64))],.box 63 [.v .str,.v (.int .i64)]]⟩
abbrev Cx:Sh:=⟨1,[⟨0,true,[.v (.int .i64),.v (.int .i64)]⟩],[.box 61 [.ptr 2 0],.box 25 [.v (.arr 4 (.int .u64))],.box 63 [.v .str,.v (.int .i64)]]⟩
abbrev nK:Sh:=⟨1,[⟨0,false,[.clo 45 [(0,0),(1,0)]]⟩],[.box 61 [.ptr 2 0],.box 25 [.v (.arr 4 (.int .u64))],.box 63 [.v .str,.v (.int .i64)]]⟩
abbrev nL:Sh:=⟨1,[⟨0,true,[.v (.int .i64),.v (.int .i64)]⟩],[.box 61 [.ptr 2 0],.box 25 [.v (.arr 4 (.int .u64))],.box 63 [.v .str,.v (.int .i64)]]⟩
abbrev Ur:List Ty:=[.str]
abbrev Jb:List Ty:=[.arr 4 (.int .u64),.int .i64,.int .i64]
abbrev Cy:List Ty:=[aC]
abbrev wL:List Ty:=[.int .i64]
abbrev Oc:List Ty:=[aC]
abbrev Cz:List Ty:=[aC]
abbrev Us:List Ty:=[aC]
abbrev Jc:List Ty:=[.bool]
abbrev Gf:List Ty:=[.slice (.int .i64),.int .i64]
abbrev xA:List Ty:=[.int .i64]
abbrev Aq:List Ty:=[.slice (.int .i64),.int .i64]
abbrev sJ:List Ty:=[.bool]
abbrev zOy:List Ty:=[.slice aC,aC]
abbrev zBf:List Ty:=[.bool]
abbrev Zk:List Ty:=[.slice aC]
abbrev Mg:List Ty:=[.bool]
abbrev rQ:Sh:=⟨7,[⟨0,false,[.v (.int .i64)]⟩,⟨1,false,[.ptr 0 0]⟩,⟨2,false,[.ptr 1 0]⟩,⟨3,false,[.ptr 2 0]⟩,⟨4,false,[.ptr 3 0]⟩,⟨5,false,[.ptr 4 0]⟩,⟨6,false,[.ptr 5 0]⟩],[.box 35 [.v (.slice aC)],.box 135 [.clo 142 [(0,0),(1,0),(2,0),(3,0),(4,0),(5,0)]],.box 3 [.v (.int .i64)],.box 4 [.v .bool],.box 79 [.v (.arr 10 .bool)],.box 4 [.v .bool]]⟩
abbrev nT:Sh:=⟨0,[],[.box 35 [.v (.slice aC)],.box 135 [.clo 142 [(0,0),(1,0),(2,0),(3,0),(4,0),(5,0)]],.box 3 [.v (.int .i64)],.box 4 [.v .bool],.box 79 [.v (.arr 10 .bool)],.box 4 [.v .bool]]⟩
abbrev Ut:List Ty:=[.slice aC]
abbrev Jd:List Ty:=[.int .i64,.bool,.bool]
abbrev zBg:List Ty:=[.slice aC]
abbrev Qn:List Ty:=[.int .i64,.bool,.bool]
abbrev Ya:List Ty:=[.slice aC]
abbrev Od:List Ty:=[.bool]
abbrev zJm:List Ty:=[.int .u8]
abbrev Uu:List Ty:=[.str]
abbrev zOz:List Ty:=[.arr 4 (.int .u64),.int .u8]
abbrev zBh:List Ty:=[.bool]
abbrev zJn:List Ty:=[.str]
abbrev Uv:List Ty:=[.slice .str]
abbrev zJo:List Ty:=[.arr 4 (.int .u64)]
abbrev Uw:List Ty:=[.str]
abbrev zPa:List Ty:=[.slice aC]
abbrev zBi:List Ty:=[.str]
abbrev zEn:List Ty:=[.slice aC]
abbrev Qo:List Ty:=[.int .i64]
abbrev zEo:List Ty:=[.arr 256 .bool]
abbrev Qp:List Ty:=[.arr 256 .bool]
abbrev Ux:List Ty:=[.arr 256 .bool]
abbrev Je:List Ty:=[.str]
abbrev Zl:List Ty:=[.arr 256 .bool]
abbrev Mh:List Ty:=[.int .i64]
abbrev Ar:List Ty:=[.int .u8,.int .u8]
abbrev vI:List Ty:=[.arr 256 .bool]
abbrev Uy:List Ty:=[.arr 256 .bool,.arr 256 .bool]
abbrev Ld:List Ty:=[.arr 256 .bool]
abbrev Uz:List Ty:=[.str]
abbrev Le:List Ty:=[.arr 256 .bool]
abbrev Va:List Ty:=[.str]
abbrev Jf:List Ty:=[.arr 256 .bool,.bool]
abbrev Ro:List Ty:=[.str,.int .i64,.bool,.bool]
abbrev Fq:List Ty:=[.int .u8,.int .i64,.bool]
abbrev Oe:List Ty:=[.str]
abbrev Da:List Ty:=[.arr 256 .bool,.int .i64,.int .i64]
abbrev Vb:List Ty:=[.arr 256 .bool]
abbrev Jg:List Ty:=[.arr 4 (.int .u64)]
abbrev Rp:List Ty:=[.str,.int .i64]
abbrev Fv:List Ty:=[.int .i64,.int .i64]
abbrev Vd:List Ty:=[.str,.int .i64,.str]
abbrev Jh:List Ty:=[.int .i64,.int .i64,.int .i64]
abbrev Zm:List Ty:=[.slice aC,.slice aC]
abbrev Mi:List Ty:=[.bool]
def yR (n:Nat):An (bH jY):=.nil
theorem wM (n:Nat):Pure Tryz.prog 166 pI jY (iF n) :=
 bB (Γ:=bL _ [] []) (an:=yR n) Tryz.func166 rfl (by kernel_rfl) dI (aS (all_nil) (aT)) mixed (aO _ _ rfl) (fun x=>by kernel_rfl)
def Rz (n:Nat):An (bH qG):=.nil
theorem xU (n:Nat):Pure Tryz.prog 131 vH qG (strings_HasPrefix n) :=
 bB (Γ:=bL _ [(166,bG pI jY (iF n))] []) (an:=Rz n) Tryz.func131 rfl (by kernel_rfl) dI (aS (all_cons (aM (wM n)) (all_nil)) (aT)) mixed (aO _ _ rfl) (fun x=>by kernel_rfl)
def zZg (n:Nat):An (bH Ql):=(.mk .nil (.mk (.mk .nil (.mk (.loop ⟨15,[⟨1,false,[.ptr 0 0]⟩,⟨2,false,[.ptr 1 0]⟩,⟨4,false,[.v (.int .i64)]⟩],[.box 25 [.v (.arr 4 (.int .u64))],.box 25 [.v (.arr 4 (.int .u64))]]⟩ [.keep [false,true,true,false,true],.gcA 0,.gcA 0] [.keep [false,true,true,false,true],.gcA 0,.gcA 0] n .nil) .nil []) []) .nil []) [])
theorem Ve (n:Nat):Pure Tryz.prog 50 zBe Ql (Ia n) :=
 bB (Γ:=bL _ [] []) (an:=zZg n) Tryz.func50 rfl (by kernel_rfl) dI (aS (all_nil) (aT)) mixed (aO _ _ rfl) (fun x=>by kernel_rfl)
def zBj (n:Nat):An (qH.X):=.nil
theorem sK (n:Nat):gT Tryz.prog 83 uQ qH (fF n) :=
 gU (Γ:=bL _ [(131,bG vH qG (strings_HasPrefix n))] []) (an:=zBj n) (co:=[.gc [0]]) Tryz.func83 rfl (by kernel_rfl) dI (aS (all_cons (aM (xU n)) (all_nil)) (aT)) mixed (aO _ _ rfl) (by kernel_rfl) (by kernel_rfl) (fun x=>by kernel_rfl)
def zEp (n:Nat):An (rP.X):=.nil
theorem uE (n:Nat):gT Tryz.prog 46 wH rP (eD n) :=
 gU (Γ:=bL _ [(83,peM uQ qH (fF n))] []) (an:=zEp n) (co:=[.gc [0]]) Tryz.func46 rfl (by kernel_rfl) dI (aS (all_cons (fI (sK n)) (all_nil)) (aT)) mixed (aO _ _ rfl) (by kernel_rfl) (by kernel_rfl) (fun x=>by kernel_rfl)
end Go.Dec
