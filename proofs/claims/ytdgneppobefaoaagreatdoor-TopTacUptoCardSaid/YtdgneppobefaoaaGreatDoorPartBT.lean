/- Part of a proof over this seat: a library of my own, and what it says of this seat. No statement is proved here. -/
import Derived.Test.YtdgneppobefaoaaGreatDoorProg
import Derived.Test.YtdgneppobefaoaaGreatDoorPartBS
import Derived.Test.YtdgneppobefaoaaGreatDoorPartBP
import Derived.Test.YtdgneppobefaoaaGreatDoorPartBR
import Derived.KernelRfl
namespace Go.Dec
open Go.Proofs
set_option linter.unusedVariables false
def tab:Tab:=[(3,⟨.int .i64,1,8,[.val (.int .i64) 0],some (.int .i64),false⟩),
 (4,⟨.bool,1,1,[.val .bool false],some .bool,false⟩),
 (5,⟨.int .u8,1,1,[.val (.int .u8) 0],some (.int .u8),false⟩),
 (9,⟨.str,1,16,[.val .str []],some .str,false⟩),
 (22,⟨.slice 28,1,24,[.aO],some (.slice aD),false⟩),
 (28,⟨.struct [(0,9),(1,4)],2,24,[.val .str [],.val .bool false],some aD,true⟩),
 (31,⟨.slice 5,1,24,[.aO],some (.slice (.int .u8)),false⟩),
 (32,⟨.slice 183,1,24,[.aO],some (.slice aK),false⟩),
 (33,⟨.slice 70,1,24,[.aO],some (.slice aC),false⟩),
 (35,⟨.struct [(0,4),(1,32),(2,33)],3,56,[.val .bool false,.aO,.aO],some pX,false⟩),
 (36,⟨.int .i64,1,8,[.val (.int .i64) 0],some (.int .i64),false⟩),
 (40,⟨.slice 45,1,24,[.aO],some (.slice aP),false⟩),
 (41,⟨.slice 3,1,24,[.aO],some (.slice (.int .i64)),false⟩),
 (43,⟨.struct [(0,9),(1,40),(2,41),(3,3),(4,3)],5,80,[.val .str [],.aO,.aO,.val (.int .i64) 0,.val (.int .i64) 0],some uX,false⟩),
 (45,⟨.struct [(0,9),(1,9)],2,32,[.val .str [],.val .str []],some aP,true⟩),
 (65,⟨.struct [(0,3),(1,3),(2,3)],3,24,[.val (.int .i64) 0,.val (.int .i64) 0,.val (.int .i64) 0],some uF,true⟩),
 (67,⟨.struct [(0,65),(3,65),(6,4)],7,56,[.val (.int .i64) 0,.val (.int .i64) 0,.val (.int .i64) 0,.val (.int .i64) 0,.val (.int .i64) 0,.val (.int .i64) 0,.val .bool false],some yT,true⟩),
 (68,⟨.slice 243,1,24,[.aO],some (.slice Du),false⟩),
 (70,⟨.struct [(0,67),(7,5),(8,9),(9,9),(10,3),(11,3),(12,3),(13,68),(14,4),(15,4)],16,152,[.val (.int .i64) 0,.val (.int .i64) 0,.val (.int .i64) 0,.val (.int .i64) 0,.val (.int .i64) 0,.val (.int .i64) 0,.val .bool false,.val (.int .u8) 0,.val .str [],.val .str [],.val (.int .i64) 0,.val (.int .i64) 0,.val (.int .i64) 0,.aO,.val .bool false,.val .bool false],some aC,false⟩),
 (76,⟨.ptr 78,1,8,[.jJ],none,false⟩),
 (78,⟨.struct [(0,76),(1,31)],2,32,[.jJ,.aO],none,false⟩),
 (87,⟨.iface false,1,16,[.val .err false],some .err,false⟩),
 (92,⟨.int .u64,1,8,[.val (.int .u64) 0],some (.int .u64),false⟩),
 (99,⟨.slice 135,1,24,[.aO],some (.slice aG),false⟩),
 (101,⟨.struct [(0,9),(1,40),(2,41),(3,3),(4,3)],5,80,[.val .str [],.aO,.aO,.val (.int .i64) 0,.val (.int .i64) 0],some uX,false⟩),
 (102,⟨.slice 4,1,24,[.aO],some (.slice .bool),false⟩),
 (103,⟨.slice 139,1,24,[.aO],some (.slice aA),false⟩),
 (104,⟨.slice 22,1,24,[.aO],some (.slice (.slice aD)),false⟩),
 (105,⟨.slice 142,1,24,[.aO],some (.slice aQ),false⟩),
 (106,⟨.slice 143,1,24,[.aO],some (.slice aD),false⟩),
 (108,⟨.struct [(0,99),(1,102),(2,4),(3,103),(4,102),(5,104),(6,105),(7,106),(8,40),(9,41),(10,3),(11,3),(12,3)],13,248,[.aO,.aO,.val .bool false,.aO,.aO,.aO,.aO,.aO,.aO,.aO,.val (.int .i64) 0,.val (.int .i64) 0,.val (.int .i64) 0],some gF,false⟩),
 (113,⟨.func,1,8,[.val .opq Value.nilFunc],some .opq,false⟩),
 (133,⟨.slice 9,1,24,[.aO],some (.slice .str),false⟩),
 (135,⟨.struct [(0,35),(3,4),(4,133),(5,4)],6,96,[.val .bool false,.aO,.aO,.val .bool false,.aO,.val .bool false],some aG,false⟩),
 (136,⟨.slice 334,1,24,[.aO],some (.slice eH),false⟩),
 (137,⟨.slice 366,1,24,[.aO],some (.slice aD),false⟩),
 (139,⟨.struct [(0,3),(1,3),(2,3),(3,3),(4,3),(5,9),(6,9),(7,4),(8,4),(9,4),(10,136),(11,137)],12,128,[.val (.int .i64) 0,.val (.int .i64) 0,.val (.int .i64) 0,.val (.int .i64) 0,.val (.int .i64) 0,.val .str [],.val .str [],.val .bool false,.val .bool false,.val .bool false,.aO,.aO],some aA,false⟩),
 (142,⟨.struct [(0,9),(1,4),(2,4)],3,24,[.val .str [],.val .bool false,.val .bool false],some aQ,true⟩),
 (143,⟨.struct [(0,9),(1,4)],2,24,[.val .str [],.val .bool false],some aD,true⟩),
 (169,⟨.func,1,8,[.val .opq Value.nilFunc],some .opq,false⟩),
 (171,⟨.ptr 108,1,8,[.jJ],none,false⟩),
 (181,⟨.slice 187,1,24,[.aO],some (.slice qZ),false⟩),
 (183,⟨.struct [(0,181),(1,4)],2,32,[.aO,.val .bool false],some aK,false⟩),
 (185,⟨.arr 4 92,4,32,[.val (.arr 4 (.int .u64)) ([0,0,0,0])],some (.arr 4 (.int .u64)),true⟩),
 (187,⟨.struct [(0,3),(1,185),(5,3),(6,3),(7,3),(8,3),(9,3)],10,80,[.val (.int .i64) 0,.val (.arr 4 (.int .u64)) ([0,0,0,0]),.val (.int .i64) 0,.val (.int .i64) 0,.val (.int .i64) 0,.val (.int .i64) 0,.val (.int .i64) 0],some qZ,true⟩),
 (243,⟨.struct [(0,9),(1,3)],2,24,[.val .str [],.val (.int .i64) 0],some Du,true⟩),
 (334,⟨.struct [(0,4),(1,3)],2,16,[.val .bool false,.val (.int .i64) 0],some eH,true⟩),
 (366,⟨.struct [(0,9),(1,4)],2,24,[.val .str [],.val .bool false],some aD,true⟩)]
theorem bQ:aY Tryz.prog tab:=Xp (by kernel_rfl)
theorem mixed:Tryz.prog.follows .mixedOrders=true:=by kernel_rfl
abbrev Gq:Sh:=⟨2,[⟨0,true,[.v .bool,.v (.slice aK),.v (.slice aC),.v .bool,.v (.slice .str),.v .bool]⟩,⟨1,false,[.ptr 0 0]⟩],[.box 135 [.v .bool,.v (.slice aK),.v (.slice aC),.v .bool,.v (.slice .str),.v .bool]]⟩
abbrev vP:Sh:=⟨1,[⟨0,false,[.v .bool]⟩],[.box 135 [.v .bool,.v (.slice aK),.v (.slice aC),.v .bool,.v (.slice .str),.v .bool]]⟩
abbrev iG:Sh:=⟨2,[⟨0,false,[.v (.slice aG)]⟩,⟨1,false,[.clo 100 [(0,0)]]⟩],[.box 135 [.v .bool,.v (.slice aK),.v (.slice aC),.v .bool,.v (.slice .str),.v .bool]]⟩
abbrev eB:Sh:=⟨1,[⟨0,false,[.v (.int .i64)]⟩],[.box 135 [.v .bool,.v (.slice aK),.v (.slice aC),.v .bool,.v (.slice .str),.v .bool]]⟩
abbrev gH:Sh:=⟨2,[⟨0,false,[.v (.slice aG)]⟩,⟨1,false,[.clo 100 [(0,0)]]⟩],[.box 135 [.v .bool,.v (.slice aK),.v (.slice aC),.v .bool,.v (.slice .str),.v .bool]]⟩
abbrev dO:Sh:=⟨1,[⟨0,false,[.v .bool]⟩],[.box 135 [.v .bool,.v (.slice aK),.v (.slice aC),.v .bool,.v (.slice .str),.v .bool]]⟩
abbrev Mg:List Ty:=[.slice aG]
abbrev yZ:List Ty:=[.slice .bool]
abbrev zHl:List Ty:=[pX]
abbrev Ug:List Ty:=[aA]
abbrev zHm:List Ty:=[.slice aG,.str,.slice aP,.bool]
abbrev Uh:List Ty:=[gF,.int .i64]
abbrev Ap:Sh:=⟨2,[⟨0,false,[.ptr 0 0]⟩,⟨1,false,[.v (.int .i64)]⟩],[.box 108 [.v (.slice aG),.v (.slice .bool),.v .bool,.v (.slice aA),.v (.slice .bool),.v (.slice (.slice aD)),.v (.slice aQ),.v (.slice aD),.v (.slice aP),.v (.slice (.int .i64)),.v (.int .i64),.v (.int .i64),.v (.int .i64)]]⟩
abbrev rH:Sh:=⟨1,[⟨0,false,[.v .bool]⟩],[.box 108 [.v (.slice aG),.v (.slice .bool),.v .bool,.v (.slice aA),.v (.slice .bool),.v (.slice (.slice aD)),.v (.slice aQ),.v (.slice aD),.v (.slice aP),.v (.slice (.int .i64)),.v (.int .i64),.v (.int .i64),.v (.int .i64)]]⟩
abbrev Qc:List Ty:=[aQ]
abbrev Dy:List Ty:=[aQ,aD,.bool,.bool]
abbrev Xh:List Ty:=[aQ]
abbrev Js:List Ty:=[aD,.bool,.bool]
abbrev Xi:List Ty:=[aQ]
abbrev Jt:List Ty:=[.bool]
abbrev Cb:Sh:=⟨2,[⟨0,false,[.ptr 0 0]⟩,⟨1,false,[.v (.int .i64)]⟩],[.box 108 [.v (.slice aG),.v (.slice .bool),.v .bool,.v (.slice aA),.v (.slice .bool),.v (.slice (.slice aD)),.v (.slice aQ),.v (.slice aD),.v (.slice aP),.v (.slice (.int .i64)),.v (.int .i64),.v (.int .i64),.v (.int .i64)]]⟩
abbrev tK:Sh:=⟨1,[⟨0,false,[.v .bool]⟩],[.box 108 [.v (.slice aG),.v (.slice .bool),.v .bool,.v (.slice aA),.v (.slice .bool),.v (.slice (.slice aD)),.v (.slice aQ),.v (.slice aD),.v (.slice aP),.v (.slice (.int .i64)),.v (.int .i64),.v (.int .i64),.v (.int .i64)]]⟩
abbrev Qd:List Ty:=[gF]
abbrev Dz:List Ty:=[.int .i64]
abbrev uJ:Sh:=Ac aA
abbrev uK:Sh:=tY 139 aA
abbrev Aq:Sh:=Ac .bool
abbrev Ar:Sh:=tY 4 .bool
abbrev rJ:Sh:=Ac (.slice aD)
abbrev rM:Sh:=tY 22 (.slice aD)
abbrev uL:Sh:=Ac aQ
abbrev uM:Sh:=tY 142 aQ
abbrev Cc:Sh:=Ac (.int .i64)
abbrev Cg:Sh:=tY 3 (.int .i64)
abbrev Ch:List Ty:=[.slice aD]
abbrev tL:List Ty:=[.clip aD]
abbrev Ci:Sh:=⟨1,[⟨0,true,[.v (.slice aG),.v (.slice .bool),.v .bool,.v (.slice aA),.v (.slice .bool),.v (.slice (.slice aD)),.v (.slice aQ),.v (.slice aD),.v (.slice aP),.v (.slice (.int .i64)),.v (.int .i64),.v (.int .i64),.v (.int .i64)]⟩],[]⟩
abbrev tN:Sh:=⟨1,[⟨0,false,[.ptr 0 0]⟩],[.box 108 [.v (.slice aG),.v (.slice .bool),.v .bool,.own 1,.own 2,.own 3,.own 4,.v (.clip aD),.v (.slice aP),.own 5,.v (.int .i64),.v (.int .i64),.v (.int .i64)],.row 139 aA,.row 4 .bool,.row 22 (.slice aD),.row 142 aQ,.row 3 (.int .i64)]⟩
abbrev Ju:List Ty:=[aQ]
abbrev zT:List Ty:=[aQ]
abbrev Au:Sh:=⟨2,[⟨0,false,[.ptr 0 0]⟩,⟨1,false,[.v (.int .i64)]⟩],[.box 108 [.v (.slice aG),.v (.slice .bool),.v .bool,.own 1,.own 2,.own 3,.own 4,.v (.clip aD),.v (.slice aP),.own 5,.v (.int .i64),.v (.int .i64),.v (.int .i64)],.row 139 aA,.row 4 .bool,.row 22 (.slice aD),.row 142 aQ,.row 3 (.int .i64)]⟩
abbrev rO:Sh:=⟨0,[],[.box 108 [.v (.slice aG),.v (.slice .bool),.v .bool,.own 1,.own 2,.own 3,.own 4,.v (.clip aD),.v (.slice aP),.own 5,.v (.int .i64),.v (.int .i64),.v (.int .i64)],.row 139 aA,.row 4 .bool,.row 22 (.slice aD),.row 142 aQ,.row 3 (.int .i64)]⟩
abbrev tO:Sh:=⟨3,[⟨0,false,[.ptr 0 0]⟩,⟨1,false,[.v (.int .i64)]⟩,⟨2,false,[.v (.int .i64)]⟩],[.box 108 [.v (.slice aG),.v (.slice .bool),.v .bool,.own 1,.own 2,.own 3,.own 4,.v (.clip aD),.v (.slice aP),.own 5,.v (.int .i64),.v (.int .i64),.v (.int .i64)],.row 139 aA,.row 4 .bool,.row 22 (.slice aD),.row 142 aQ,.row 3 (.int .i64)]⟩
abbrev nA:Sh:=⟨0,[],[.box 108 [.v (.slice aG),.v (.slice .bool),.v .bool,.own 1,.own 2,.own 3,.own 4,.v (.clip aD),.v (.slice aP),.own 5,.v (.int .i64),.v (.int .i64),.v (.int .i64)],.row 139 aA,.row 4 .bool,.row 22 (.slice aD),.row 142 aQ,.row 3 (.int .i64)]⟩
abbrev xU:Sh:=⟨2,[⟨0,false,[.ptr 0 0]⟩,⟨1,false,[.v (.int .i64)]⟩],[.box 108 [.v (.slice aG),.v (.slice .bool),.v .bool,.own 1,.own 2,.own 3,.own 4,.v (.clip aD),.v (.slice aP),.own 5,.v (.int .i64),.v (.int .i64),.v (.int .i64)],.row 139 aA,.row 4 .bool,.row 22 (.slice aD),.row 142 aQ,.row 3 (.int .i64)]⟩
abbrev qF:Sh:=⟨0,[],[.box 108 [.v (.slice aG),.v (.slice .bool),.v .bool,.own 1,.own 2,.own 3,.own 4,.v (.clip aD),.v (.slice aP),.own 5,.v (.int .i64),.v (.int .i64),.v (.int .i64)],.row 139 aA,.row 4 .bool,.row 22 (.slice aD),.row 142 aQ,.row 3 (.int .i64)]⟩
abbrev wI:Sh:=⟨2,[⟨0,false,[.ptr 0 0]⟩,⟨1,false,[.v (.int .i64)]⟩],[.box 108 [.v (.slice aG),.v (.slice .bool),.v .bool,.own 1,.own 2,.own 3,.own 4,.v (.clip aD),.v (.slice aP),.own 5,.v (.int .i64),.v (.int .i64),.v (.int .i64)],.row 139 aA,.row 4 .bool,.row 22 (.slice aD),.row 142 aQ,.row 3 (.int .i64)]⟩
abbrev nP:Sh:=⟨1,[⟨0,false,[.v .bool]⟩],[.box 108 [.v (.slice aG),.v (.slice .bool),.v .bool,.own 1,.own 2,.own 3,.own 4,.v (.clip aD),.v (.slice aP),.own 5,.v (.int .i64),.v (.int .i64),.v (.int .i64)],.row 139 aA,.row 4 .bool,.row 22 (.slice aD),.row 142 aQ,.row 3 (.int .i64)]⟩
abbrev Av:Sh:=⟨3,[⟨0,false,[.ptr 0 0]⟩,⟨1,false,[.v (.int .i64)]⟩,⟨2,false,[.v (.slice aD)]⟩],[.box 108 [.v (.slice aG),.v (.slice .bool),.v .bool,.own 1,.own 2,.own 3,.own 4,.v (.clip aD),.v (.slice aP),.own 5,.v (.int .i64),.v (.int .i64),.v (.int .i64)],.row 139 aA,.row 4 .bool,.row 22 (.slice aD),.row 142 aQ,.row 3 (.int .i64)]⟩
abbrev rP:Sh:=⟨0,[],[.box 108 [.v (.slice aG),.v (.slice .bool),.v .bool,.own 1,.own 2,.own 3,.own 4,.v (.slice aD),.v (.slice aP),.own 5,.v (.int .i64),.v (.int .i64),.v (.int .i64)],.row 139 aA,.row 4 .bool,.row 22 (.slice aD),.row 142 aQ,.row 3 (.int .i64)]⟩
abbrev wJ:Sh:=⟨2,[⟨0,false,[.ptr 0 0]⟩,⟨1,false,[.v (.int .i64)]⟩],[.box 108 [.v (.slice aG),.v (.slice .bool),.v .bool,.own 1,.own 2,.own 3,.own 4,.v (.slice aD),.v (.slice aP),.own 5,.v (.int .i64),.v (.int .i64),.v (.int .i64)],.row 139 aA,.row 4 .bool,.row 22 (.slice aD),.row 142 aQ,.row 3 (.int .i64)]⟩
abbrev nQ:Sh:=⟨1,[⟨0,false,[.v .bool]⟩],[.box 108 [.v (.slice aG),.v (.slice .bool),.v .bool,.own 1,.own 2,.own 3,.own 4,.v (.slice aD),.v (.slice aP),.own 5,.v (.int .i64),.v (.int .i64),.v (.int .i64)],.row 139 aA,.row 4 .bool,.row 22 (.slice aD),.row 142 aQ,.row 3 (.int .i64)]⟩
abbrev wK:Sh:=⟨2,[⟨0,false,[.ptr 0 0]⟩,⟨1,false,[.v (.int .i64)]⟩],[.box 108 [.v (.slice aG),.v (.slice .bool),.v .bool,.own 1,.own 2,.own 3,.own 4,.v (.slice aD),.v (.slice aP),.own 5,.v (.int .i64),.v (.int .i64),.v (.int .i64)],.row 139 aA,.row 4 .bool,.row 22 (.slice aD),.row 142 aQ,.row 3 (.int .i64)]⟩
abbrev nR:Sh:=⟨0,[],[.box 108 [.v (.slice aG),.v (.slice .bool),.v .bool,.own 1,.own 2,.own 3,.own 4,.v (.slice aD),.v (.slice aP),.own 5,.v (.int .i64),.v (.int .i64),.v (.int .i64)],.row 139 aA,.row 4 .bool,.row 22 (.slice aD),.row 142 aQ,.row 3 (.int .i64)]⟩
abbrev xO:Sh:=⟨3,[⟨0,false,[.ptr 0 0]⟩,⟨1,false,[.v (.int .i64)]⟩,⟨2,false,[.v (.int .i64)]⟩],[.box 108 [.v (.slice aG),.v (.slice .bool),.v .bool,.own 1,.own 2,.own 3,.own 4,.v (.slice aD),.v (.slice aP),.own 5,.v (.int .i64),.v (.int .i64),.v (.int .i64)],.row 139 aA,.row 4 .bool,.row 22 (.slice aD),.row 142 aQ,.row 3 (.int .i64)]⟩
abbrev pG:Sh:=⟨0,[],[.box 108 [.v (.slice aG),.v (.slice .bool),.v .bool,.own 1,.own 2,.own 3,.own 4,.v (.slice aD),.v (.slice aP),.own 5,.v (.int .i64),.v (.int .i64),.v (.int .i64)],.row 139 aA,.row 4 .bool,.row 22 (.slice aD),.row 142 aQ,.row 3 (.int .i64)]⟩
abbrev Cj:Sh:=⟨2,[⟨0,false,[.ptr 0 0]⟩,⟨1,false,[.v (.int .i64)]⟩],[.box 108 [.v (.slice aG),.v (.slice .bool),.v .bool,.own 1,.own 2,.own 3,.own 4,.v (.clip aD),.v (.slice aP),.own 5,.v (.int .i64),.v (.int .i64),.v (.int .i64)],.row 139 aA,.row 4 .bool,.row 22 (.slice aD),.row 142 aQ,.row 3 (.int .i64)]⟩
abbrev tQ:Sh:=⟨0,[],[.box 108 [.v (.slice aG),.v (.slice .bool),.v .bool,.own 1,.own 2,.own 3,.own 4,.v (.slice aD),.v (.slice aP),.own 5,.v (.int .i64),.v (.int .i64),.v (.int .i64)],.row 139 aA,.row 4 .bool,.row 22 (.slice aD),.row 142 aQ,.row 3 (.int .i64)]⟩
abbrev Aw:Sh:=⟨2,[⟨0,false,[.ptr 0 0]⟩,⟨1,false,[.v (.int .i64)]⟩],[.box 108 [.v (.slice aG),.v (.slice .bool),.v .bool,.own 1,.own 2,.own 3,.own 4,.v (.clip aD),.v (.slice aP),.own 5,.v (.int .i64),.v (.int .i64),.v (.int .i64)],.row 139 aA,.row 4 .bool,.row 22 (.slice aD),.row 142 aQ,.row 3 (.int .i64)]⟩
abbrev rQ:Sh:=⟨3,[⟨0,true,[.v .str,.v .bool]⟩,⟨1,false,[.v .bool]⟩,⟨2,false,[.v .bool]⟩],[.box 108 [.v (.slice aG),.v (.slice .bool),.v .bool,.own 1,.own 2,.own 3,.own 4,.v (.clip aD),.v (.slice aP),.own 5,.v (.int .i64),.v (.int .i64),.v (.int .i64)],.row 139 aA,.row 4 .bool,.row 22 (.slice aD),.row 142 aQ,.row 3 (.int .i64)]⟩
abbrev zCt:List Ty:=[aA,aD,.bool]
abbrev Qe:List Ty:=[aA]
abbrev zCu:List Ty:=[gF]
abbrev Qf:List Ty:=[gF]
abbrev zHn:List Ty:=[gF,.int .i64]
abbrev Ui:List Ty:=[gF,.int .i64]
abbrev nS:Sh:=⟨2,[⟨0,false,[.ptr 0 0]⟩,⟨1,false,[.v .str]⟩],[.box 78 [.bU 0 0,.own 1],.row 5 (.int .u8)]⟩
abbrev jB:Sh:=⟨2,[⟨0,false,[.v (.int .i64)]⟩,⟨1,false,[.v .err]⟩],[.box 78 [.bU 0 0,.own 1],.row 5 (.int .u8)]⟩
abbrev Xj:List Ty:=[.slice aD]
abbrev Jv:List Ty:=[.str]
abbrev Uj:Sh:=⟨5,[⟨0,false,[.v (.slice aG)]⟩,⟨1,false,[.ptr 0 0]⟩,⟨2,false,[.ptr 1 0]⟩,⟨3,false,[.ptr 2 0]⟩,⟨4,false,[.ptr 3 0]⟩],[.box 9 [.v .str],.box 40 [.v (.slice aP)],.box 4 [.v .bool],.box 3 [.v (.int .i64)]]⟩
abbrev Gr:Sh:=⟨2,[⟨0,true,[.v .str,.v (.slice aP),.v (.slice (.int .i64)),.v (.int .i64),.v (.int .i64)]⟩,⟨1,false,[.v (.int .i64)]⟩],[.box 9 [.v .str],.box 40 [.v (.slice aP)],.box 4 [.v .bool],.box 3 [.v (.int .i64)]]⟩
abbrev zCv:List Ty:=[uX]
abbrev Qg:List Ty:=[.int .i64]
abbrev pK:Sh:=⟨3,[⟨0,false,[.v .str]⟩,⟨1,false,[.v (.slice aP)]⟩,⟨2,false,[.clo 40 [(0,0),(1,0),(2,0),(3,0)]]⟩],[.box 9 [.v .str],.box 40 [.v (.slice aP)],.box 4 [.v .bool],.box 3 [.v (.int .i64)]]⟩
abbrev kC:Sh:=⟨3,[⟨0,true,[.v .str,.v (.slice aP),.v (.slice (.int .i64)),.v (.int .i64),.v (.int .i64)]⟩,⟨1,false,[.v (.int .i64)]⟩,⟨2,false,[.v (.int .i64)]⟩],[.box 9 [.v .str],.box 40 [.v (.slice aP)],.box 4 [.v .bool],.box 3 [.v (.int .i64)]]⟩
abbrev zCw:List Ty:=[.str,.str,.slice aP,.bool,.int .i64]
abbrev Qh:List Ty:=[uX,.int .i64,.int .i64]
abbrev zHo:List Ty:=[.str,.str]
abbrev Uk:List Ty:=[.str,.bool]
abbrev zPt:List Ty:=[.str]
abbrev Xk:List Ty:=[.bool]
def Wq (n:Nat):An (vP.X):=.nil
theorem Mh (n:Nat):cZ Tryz.prog 100 Gq vP (xL n) :=
 bL (Γ:=bX _ [(101,eP Fv Fz (xB n))] []) (an:=Wq n) (co:=[.gc [0]]) Tryz.func100 rfl (by kernel_rfl) bQ (aR (all_cons (bR (Pn n)) (all_nil)) (aS)) mixed (aL _ _ rfl) (by kernel_rfl) (by kernel_rfl) (fun x=>by kernel_rfl)
def nT (n:Nat):An (eB.X):=(.mk .nil (.mk (.mk .nil (.mk (.loop ⟨19,[⟨0,false,[.v (.slice aG)]⟩,⟨1,false,[.clo 100 [(0,0)]]⟩,⟨7,false,[.v (.int .i64)]⟩,⟨8,false,[.v (.int .i64)]⟩],[.box 135 [.v .bool,.v (.slice aK),.v (.slice aC),.v .bool,.v (.slice .str),.v .bool]]⟩ [.keep [true,true,false,false,false,false,false,true,true],.gcA 1,.gcA 1] [.keep [true,true,false,false,false,false,false,true,true],.gcA 1,.gcA 1] n .nil) .nil []) []) .nil []) [])
theorem mM (n:Nat):cZ Tryz.prog 145 iG eB (eG n) :=
 bL (Γ:=bX _ [(100,peM Gq vP (xL n))] []) (an:=nT n) (co:=[.gc [0]]) Tryz.func145 rfl (by kernel_rfl) bQ (aR (all_cons (bJ (Mh n)) (all_nil)) (aS)) mixed (aL _ _ rfl) (by kernel_rfl) (by kernel_rfl) (fun x=>by kernel_rfl)
def mU (n:Nat):An (dO.X):=.nil
theorem lI (n:Nat):cZ Tryz.prog 99 gH dO (dS n) :=
 bL (Γ:=bX _ [(145,peM iG eB (eG n))] []) (an:=mU n) (co:=[.gc [0]]) Tryz.func99 rfl (by kernel_rfl) bQ (aR (all_cons (bJ (mM n)) (all_nil)) (aS)) mixed (aL _ _ rfl) (by kernel_rfl) (by kernel_rfl) (fun x=>by kernel_rfl)
def zCx (n:Nat):An (bG yZ):=(.mk .nil (.mk .nil (.mk (.mk .nil (.mk (.loop ⟨26,[⟨0,false,[.v (.slice aG)]⟩,⟨3,false,[.own 0]⟩,⟨9,false,[.v (.slice aG)]⟩,⟨10,false,[.v (.int .i64)]⟩,⟨11,false,[.v (.int .i64)]⟩],[.row 4 .bool]⟩ [.keep [true,false,false,true,false,false,false,false,false,true,true,true],.gcA 0,.gcA 0] [.keep [true,false,false,true,false,false,false,false,false,true,true,true],.gcA 0,.gcA 0] n .nil) .nil []) []) .nil []) []) [])
theorem Ul (n:Nat):Pure Tryz.prog 65 Mg yZ (Br n) :=
 dR (Γ:=bX _ [(99,peM gH dO (dS n))] []) (an:=zCx n) Tryz.func65 rfl (by kernel_rfl) bQ (aR (all_cons (bJ (lI n)) (all_nil)) (aS)) mixed (aL _ _ rfl) (fun x=>by kernel_rfl)
def zWe (n:Nat):An (bG Ug):=.nil
theorem zIc (n:Nat):Pure Tryz.prog 66 zHl Ug (Zh n) :=
 dR (Γ:=bX _ [] []) (an:=zWe n) Tryz.func66 rfl (by kernel_rfl) bQ (aR (all_nil) (aS)) mixed (aL _ _ rfl) (fun x=>by kernel_rfl)
def zWf (n:Nat):An (bG Uh):=(.mk .nil (.mk .nil (.mk .nil (.mk (.mk .nil (.mk (.loop ⟨80,[⟨0,false,[.v (.slice aG)]⟩,⟨1,false,[.v .str]⟩,⟨8,false,[.ptr 0 0]⟩,⟨10,false,[.ptr 1 0]⟩,⟨37,false,[.v (.slice aG)]⟩,⟨38,false,[.v (.int .i64)]⟩,⟨39,false,[.v (.int .i64)]⟩],[.box 108 [.v (.slice aG),.v (.slice .bool),.v .bool,.own 2,.v (.slice .bool),.v (.slice (.slice aD)),.v (.slice aQ),.own 3,.v (.slice aP),.v (.slice (.int .i64)),.v (.int .i64),.v (.int .i64),.v (.int .i64)],.box 108 [.v (.slice aG),.v (.slice .bool),.v .bool,.own 4,.v (.slice .bool),.v (.slice (.slice aD)),.own 5,.own 6,.v (.slice aP),.v (.slice (.int .i64)),.v (.int .i64),.v (.int .i64),.v (.int .i64)],.row 139 aA,.row 143 aD,.row 139 aA,.row 142 aQ,.row 143 aD]⟩ [.keep [true,true,false,false,false,false,false,false,true,false,true,false,false,false,false,false,false,false,false,false,false,false,false,false,false,false,false,false,false,false,false,false,false,false,false,false,false,true,true,true],.gcA 0,.ownB 0 3 103,.ownB 0 7 106,.ownB 1 3 103,.ownB 1 7 106,.gcA 0] [.keep [true,true,false,false,false,false,false,false,true,false,true,false,false,false,false,false,false,false,false,false,false,false,false,false,false,false,false,false,false,false,false,false,false,false,false,false,false,true,true,true],.gcA 0,.gcA 0] n .nil) .nil []) []) (.mk .nil (.mk (.mk .nil (.mk (.loop ⟨80,[⟨8,false,[.ptr 0 0]⟩,⟨10,false,[.ptr 1 0]⟩,⟨62,false,[.v (.slice aD)]⟩,⟨63,false,[.v (.int .i64)]⟩,⟨64,false,[.v (.int .i64)]⟩],[.box 108 [.v (.slice aG),.v (.slice .bool),.v .bool,.own 2,.v (.slice .bool),.v (.slice (.slice aD)),.v (.slice aQ),.own 3,.v (.slice aP),.v (.slice (.int .i64)),.v (.int .i64),.v (.int .i64),.v (.int .i64)],.box 108 [.v (.slice aG),.v (.slice .bool),.v .bool,.own 4,.v (.slice .bool),.v (.slice (.slice aD)),.own 5,.own 6,.v (.slice aP),.v (.slice (.int .i64)),.v (.int .i64),.v (.int .i64),.v (.int .i64)],.row 139 aA,.row 143 aD,.row 139 aA,.row 142 aQ,.row 143 aD]⟩ [.keep [false,false,false,false,false,false,false,false,true,false,true,false,false,false,false,false,false,false,false,false,false,false,false,false,false,false,false,false,false,false,false,false,false,false,false,false,false,false,false,false,false,false,false,false,false,false,false,false,false,false,false,false,false,false,false,false,false,false,false,false,false,false,true,true,true],.gcA 0,.gcA 0] [.keep [false,false,false,false,false,false,false,false,true,false,true,false,false,false,false,false,false,false,false,false,false,false,false,false,false,false,false,false,false,false,false,false,false,false,false,false,false,false,false,false,false,false,false,false,false,false,false,false,false,false,false,false,false,false,false,false,false,false,false,false,false,false,true,true,true],.gcA 0,.gcA 0] n .nil) .nil []) []) .nil []) []) []) []) []) [])
theorem zId (n:Nat):Pure Tryz.prog 41 zHm Uh (Gg n) :=
 dR (Γ:=bX _ [(65,eP Mg yZ (Br n)),(66,eP zHl Ug (Zh n)),(9,eP wZ xA (jF n))] []) (an:=zWf n) Tryz.func41 rfl (by kernel_rfl) bQ (aR (all_cons (bR (Ul n)) (all_cons (bR (zIc n)) (all_cons (bR (vG n)) (all_nil)))) (aS)) mixed (aL _ _ rfl) (fun x=>by kernel_rfl)
def Qz (n:Nat):An (rH.X):=.nil
theorem Gy (n:Nat):cZ Tryz.prog 149 Ap rH (tF n) :=
 bL (Γ:=bX _ [] []) (an:=Qz n) (co:=[.gc [0]]) Tryz.func149 rfl (by kernel_rfl) bQ (aR (all_nil) (aS)) mixed (aL _ _ rfl) (by kernel_rfl) (by kernel_rfl) (fun x=>by kernel_rfl)
def zPu (n:Nat):An (bG Dy):=(.mk .nil (.scope 0 .nil .nil) [])
theorem Mi (n:Nat):Pure Tryz.prog 163 Qc Dy (nV n) :=
 dR (Γ:=bX _ [(38,eP Tj Tm (strings_Cut n))] []) (an:=zPu n) Tryz.func163 rfl (by kernel_rfl) bQ (aR (all_cons (bR (Zb n)) (all_nil)) (aS)) mixed (aL _ _ rfl) (fun x=>by kernel_rfl)
def zOd (n:Nat):An (bG Js):=.nil
theorem zCy (n:Nat):Pure Tryz.prog 151 Xh Js (sN n) :=
 dR (Γ:=bX _ [(163,eP Qc Dy (nV n))] []) (an:=zOd n) Tryz.func151 rfl (by kernel_rfl) bQ (aR (all_cons (bR (Mi n)) (all_nil)) (aS)) mixed (aL _ _ rfl) (fun x=>by kernel_rfl)
def zOe (n:Nat):An (bG Jt):=.nil
theorem zCz (n:Nat):Pure Tryz.prog 152 Xi Jt (Dw n) :=
 dR (Γ:=bX _ [] []) (an:=zOe n) Tryz.func152 rfl (by kernel_rfl) bQ (aR (all_nil) (aS)) mixed (aL _ _ rfl) (fun x=>by kernel_rfl)
def Um (n:Nat):An (tK.X):=.nil
theorem Jw (n:Nat):cZ Tryz.prog 102 Cb tK (oW n) :=
 bL (Γ:=bX _ [(149,peM Ap rH (tF n)),(151,eP Xh Js (sN n)),(152,eP Xi Jt (Dw n))] []) (an:=Um n) (co:=[.gc [0]]) Tryz.func102 rfl (by kernel_rfl) bQ (aR (all_cons (bJ (Gy n)) (all_cons (bR (zCy n)) (all_cons (bR (zCz n)) (all_nil)))) (aS)) mixed (aL _ _ rfl) (by kernel_rfl) (by kernel_rfl) (fun x=>by kernel_rfl)
def zPv (n:Nat):An (bG Dz):=(.mk .nil (.mk (.mk .nil (.mk (.loop ⟨15,[⟨1,false,[.ptr 0 0]⟩,⟨3,false,[.v (.int .i64)]⟩],[.box 108 [.v (.slice aG),.v (.slice .bool),.v .bool,.v (.slice aA),.v (.slice .bool),.v (.slice (.slice aD)),.v (.slice aQ),.v (.slice aD),.v (.slice aP),.v (.slice (.int .i64)),.v (.int .i64),.v (.int .i64),.v (.int .i64)]]⟩ [.keep [false,true,false,true],.gcA 0,.gcA 0] [.keep [false,true,false,true],.gcA 0,.gcA 0] n .nil) .nil []) []) .nil []) [])
theorem Mj (n:Nat):Pure Tryz.prog 67 Qd Dz (gK n) :=
 dR (Γ:=bX _ [(102,peM Cb tK (oW n))] []) (an:=zPv n) Tryz.func67 rfl (by kernel_rfl) bQ (aR (all_cons (bJ (Jw n)) (all_nil)) (aS)) mixed (aL _ _ rfl) (fun x=>by kernel_rfl)
theorem Ay (n:Nat):cZ Tryz.prog 153 uJ uK (nN n) :=
 pW (T:=tab) Tryz.func153 rfl rfl rfl Tryz.underlying103 (by kernel_rfl) bQ rfl rfl rfl rfl (by decide) (by decide) (fun _=>rfl)
theorem Gz (n:Nat):cZ Tryz.prog 154 Aq Ar (tH n) :=
 pW (T:=tab) Tryz.func154 rfl rfl rfl Tryz.underlying102 (by kernel_rfl) bQ rfl rfl rfl rfl (by decide) (by decide) (fun _=>rfl)
theorem xP (n:Nat):cZ Tryz.prog 155 rJ rM (lU n) :=
 pW (T:=tab) Tryz.func155 rfl rfl rfl Tryz.underlying104 (by kernel_rfl) bQ rfl rfl rfl rfl (by decide) (by decide) (fun _=>rfl)
theorem Az (n:Nat):cZ Tryz.prog 156 uL uM (nO n) :=
 pW (T:=tab) Tryz.func156 rfl rfl rfl Tryz.underlying105 (by kernel_rfl) bQ rfl rfl rfl rfl (by decide) (by decide) (fun _=>rfl)
theorem Jy (n:Nat):cZ Tryz.prog 157 Cc Cg (slices_Clone_int n) :=
 pW (T:=tab) Tryz.func157 rfl rfl rfl Tryz.underlying41 (by kernel_rfl) bQ rfl rfl rfl rfl (by decide) (by decide) (fun _=>rfl)
def Un (n:Nat):An (bG tL):=.nil
theorem Mk (n:Nat):Pure Tryz.prog 158 Ch tL (jA n) :=
 dR (Γ:=bX _ [] []) (an:=Un n) Tryz.func158 rfl (by kernel_rfl) bQ (aR (all_nil) (aS)) mixed (aL _ _ rfl) (fun x=>by kernel_rfl)
def Uo (n:Nat):An (tN.X):=.nil
theorem Jz (n:Nat):cZ Tryz.prog 103 Ci tN (lC n) :=
 bL (Γ:=bX _ [(153,peM uJ uK (nN n)),(154,peM Aq Ar (tH n)),(155,peM rJ rM (lU n)),(156,peM uL uM (nO n)),(157,peM Cc Cg (slices_Clone_int n)),(158,eP Ch tL (jA n))] []) (an:=Uo n) (co:=[.gc [0,1,2,3,4,5]]) Tryz.func103 rfl (by kernel_rfl) bQ (aR (all_cons (bJ (Ay n)) (all_cons (bJ (Gz n)) (all_cons (bJ (xP n)) (all_cons (bJ (Az n)) (all_cons (bJ (Jy n)) (all_cons (bR (Mk n)) (all_nil))))))) (aS)) mixed (aL _ _ rfl) (by kernel_rfl) (by kernel_rfl) (fun x=>by kernel_rfl)
def zOf (n:Nat):An (bG zT):=.nil
theorem Ja (n:Nat):Pure Tryz.prog 208 Ju zT (xM n) :=
 dR (Γ:=bX _ [] []) (an:=zOf n) Tryz.func208 rfl (by kernel_rfl) bQ (aR (all_nil) (aS)) mixed (aL _ _ rfl) (fun x=>by kernel_rfl)
def Ra (n:Nat):An (rO.X):=.nil
theorem He (n:Nat):cZ Tryz.prog 164 Au rO (tJ n) :=
 bL (Γ:=bX _ [(208,eP Ju zT (xM n))] []) (an:=Ra n) (co:=[.gc [0,1,2,3,4,5]]) Tryz.func164 rfl (by kernel_rfl) bQ (aR (all_cons (bR (Ja n)) (all_nil)) (aS)) mixed (aL _ _ rfl) (by kernel_rfl) (by kernel_rfl) (fun x=>by kernel_rfl)
def Uq (n:Nat):An (nA.X):=.nil
theorem uN (n:Nat):cZ Tryz.prog 108 tO nA (lD n) :=
 bL (Γ:=bX _ [(164,peM Au rO (tJ n))] []) (an:=Uq n) (co:=[.gc [0,1,2,3,4,5]]) Tryz.func108 rfl (by kernel_rfl) bQ (aR (all_cons (bJ (He n)) (all_nil)) (aS)) mixed (aL _ _ rfl) (by kernel_rfl) (by kernel_rfl) (fun x=>by kernel_rfl)
def Qi (n:Nat):An (qF.X):=.nil
theorem Gs (n:Nat):cZ Tryz.prog 104 xU qF (mK n) :=
 bL (Γ:=bX _ [(108,peM tO nA (lD n)),(159,eP uV Bo (nK n))] []) (an:=Qi n) (co:=[.gc [0,1,2,3,4,5]]) Tryz.func104 rfl (by kernel_rfl) bQ (aR (all_cons (bJ (uN n)) (all_cons (bR (Wi n)) (all_nil))) (aS)) mixed (aL _ _ rfl) (by kernel_rfl) (by kernel_rfl) (fun x=>by kernel_rfl)
def Ka (n:Nat):An (nP.X):=.nil
theorem Bu (n:Nat):cZ Tryz.prog 149 wI nP (oZ n) :=
 bL (Γ:=bX _ [] []) (an:=Ka n) (co:=[.gc [0,1,2,3,4,5]]) Tryz.func149 rfl (by kernel_rfl) bQ (aR (all_nil) (aS)) mixed (aL _ _ rfl) (by kernel_rfl) (by kernel_rfl) (fun x=>by kernel_rfl)
def Rb (n:Nat):An (rP.X):=(.mk .nil (.mk .nil (.mk (.join ⟨101,[⟨0,false,[.ptr 0 0]⟩,⟨2,false,[.v (.slice aD)]⟩,⟨6,false,[.v (.int .i64)]⟩],[.box 108 [.v (.slice aG),.v (.slice .bool),.v .bool,.own 1,.own 2,.own 3,.own 4,.v (.clip aD),.v (.slice aP),.own 5,.v (.int .i64),.v (.int .i64),.v (.int .i64)],.row 139 aA,.row 4 .bool,.row 22 (.slice aD),.row 142 aQ,.row 3 (.int .i64)]⟩ [.keep [true,false,true,false,false,false,true],.gcA 6] .nil) (.mk (.join ⟨101,[⟨0,false,[.ptr 0 0]⟩,⟨2,false,[.v (.slice aD)]⟩,⟨6,false,[.v (.int .i64)]⟩],[.box 108 [.v (.slice aG),.v (.slice .bool),.v .bool,.own 1,.own 2,.own 3,.own 4,.v (.clip aD),.v (.slice aP),.own 5,.v (.int .i64),.v (.int .i64),.v (.int .i64)],.row 139 aA,.row 4 .bool,.row 22 (.slice aD),.row 142 aQ,.row 3 (.int .i64)]⟩ [.keep [true,false,true,false,false,false,true],.gcA 6] .nil) (.mk .nil (.mk (.loop ⟨101,[⟨0,false,[.ptr 0 0]⟩,⟨6,false,[.v (.int .i64)]⟩,⟨79,false,[.v (.slice aD)]⟩,⟨80,false,[.v (.int .i64)]⟩,⟨81,false,[.v (.int .i64)]⟩],[.box 108 [.v (.slice aG),.v (.slice .bool),.v .bool,.own 1,.own 2,.own 3,.own 4,.v (.clip aD),.v (.slice aP),.own 5,.v (.int .i64),.v (.int .i64),.v (.int .i64)],.row 139 aA,.row 4 .bool,.row 22 (.slice aD),.row 142 aQ,.row 3 (.int .i64)]⟩ [.keep [true,false,false,false,false,false,true,false,false,false,false,false,false,false,false,false,false,false,false,false,false,false,false,false,false,false,false,false,false,false,false,false,false,false,false,false,false,false,false,false,false,false,false,false,false,false,false,false,false,false,false,false,false,false,false,false,false,false,false,false,false,false,false,false,false,false,false,false,false,false,false,false,false,false,false,false,false,false,false,true,true,true],.gcA 6,.gcA 6] [.keep [true,false,false,false,false,false,true,false,false,false,false,false,false,false,false,false,false,false,false,false,false,false,false,false,false,false,false,false,false,false,false,false,false,false,false,false,false,false,false,false,false,false,false,false,false,false,false,false,false,false,false,false,false,false,false,false,false,false,false,false,false,false,false,false,false,false,false,false,false,false,false,false,false,false,false,false,false,false,false,true,true,true],.gcA 6,.gcA 6] n .nil) .nil []) []) []) []) []) [])
theorem Hf (n:Nat):cZ Tryz.prog 162 Av rP (kE n) :=
 bL (Γ:=bX _ [(149,peM wI nP (oZ n)),(9,eP wZ xA (jF n))] []) (an:=Rb n) (co:=[.gc [0,1,2,3,4,5]]) Tryz.func162 rfl (by kernel_rfl) bQ (aR (all_cons (bJ (Bu n)) (all_cons (bR (vG n)) (all_nil))) (aS)) mixed (aL _ _ rfl) (by kernel_rfl) (by kernel_rfl) (fun x=>by kernel_rfl)
def Kc (n:Nat):An (nQ.X):=.nil
theorem Bv (n:Nat):cZ Tryz.prog 149 wJ nQ (kR n) :=
 bL (Γ:=bX _ [] []) (an:=Kc n) (co:=[.gc [0,1,2,3,4,5]]) Tryz.func149 rfl (by kernel_rfl) bQ (aR (all_nil) (aS)) mixed (aL _ _ rfl) (by kernel_rfl) (by kernel_rfl) (fun x=>by kernel_rfl)
def Ke (n:Nat):An (nR.X):=.nil
theorem Bw (n:Nat):cZ Tryz.prog 164 wK nR (pE n) :=
 bL (Γ:=bX _ [(208,eP Ju zT (xM n))] []) (an:=Ke n) (co:=[.gc [0,1,2,3,4,5]]) Tryz.func164 rfl (by kernel_rfl) bQ (aR (all_cons (bR (Ja n)) (all_nil)) (aS)) mixed (aL _ _ rfl) (by kernel_rfl) (by kernel_rfl) (fun x=>by kernel_rfl)
def Ml (n:Nat):An (pG.X):=.nil
theorem Ea (n:Nat):cZ Tryz.prog 108 xO pG (qE n) :=
 bL (Γ:=bX _ [(164,peM wK nR (pE n))] []) (an:=Ml n) (co:=[.gc [0,1,2,3,4,5]]) Tryz.func108 rfl (by kernel_rfl) bQ (aR (all_cons (bJ (Bw n)) (all_nil)) (aS)) mixed (aL _ _ rfl) (by kernel_rfl) (by kernel_rfl) (fun x=>by kernel_rfl)
def Ur (n:Nat):An (tQ.X):=.nil
theorem Kg (n:Nat):cZ Tryz.prog 105 Cj tQ (lF n) :=
 bL (Γ:=bX _ [(161,eP Dv sJ (mI n)),(162,peM Av rP (kE n)),(149,peM wJ nQ (kR n)),(108,peM xO pG (qE n))] []) (an:=Ur n) (co:=[.gc [0,1,2,3,4,5]]) Tryz.func105 rfl (by kernel_rfl) bQ (aR (all_cons (bR (zEq n)) (all_cons (bJ (Hf n)) (all_cons (bJ (Bv n)) (all_cons (bJ (Ea n)) (all_nil))))) (aS)) mixed (aL _ _ rfl) (by kernel_rfl) (by kernel_rfl) (fun x=>by kernel_rfl)
def Rc (n:Nat):An (rQ.X):=.nil
theorem Hg (n:Nat):cZ Tryz.prog 106 Aw rQ (mZ n) :=
 bL (Γ:=bX _ [(163,eP Qc Dy (nV n))] []) (an:=Rc n) (co:=[.gc [0,1,2,3,4,5]]) Tryz.func106 rfl (by kernel_rfl) bQ (aR (all_cons (bR (Mi n)) (all_nil)) (aS)) mixed (aL _ _ rfl) (by kernel_rfl) (by kernel_rfl) (fun x=>by kernel_rfl)
def zPw (n:Nat):An (bG Qe):=.nil
theorem zFa (n:Nat):Pure Tryz.prog 107 zCt Qe (Iy n) :=
 dR (Γ:=bX _ [] []) (an:=zPw n) Tryz.func107 rfl (by kernel_rfl) bQ (aR (all_nil) (aS)) mixed (aL _ _ rfl) (fun x=>by kernel_rfl)
def zPx (n:Nat):An (bG Qf):=(.mk .nil (.scope 0 .nil .nil) [])
theorem zFb (n:Nat):Pure Tryz.prog 68 zCu Qf (iK n) :=
 dR (Γ:=bX _ [(67,eP Qd Dz (gK n)),(103,peM Ci tN (lC n)),(104,peM xU qF (mK n)),(105,peM Cj tQ (lF n)),(106,peM Aw rQ (mZ n)),(107,eP zCt Qe (Iy n)),(108,peM tO nA (lD n))] []) (an:=zPx n) Tryz.func68 rfl (by kernel_rfl) bQ (aR (all_cons (bR (Mj n)) (all_cons (bJ (Jz n)) (all_cons (bJ (Gs n)) (all_cons (bJ (Kg n)) (all_cons (bJ (Hg n)) (all_cons (bR (zFa n)) (all_cons (bJ (uN n)) (all_nil)))))))) (aS)) mixed (aL _ _ rfl) (fun x=>by kernel_rfl)
def zWg (n:Nat):An (bG Ui):=(.mk .nil (.mk (.mk .nil (.mk (.loop ⟨19,[⟨1,false,[.v (.int .i64)]⟩,⟨2,false,[.ptr 0 0]⟩,⟨4,false,[.ptr 1 0]⟩,⟨6,false,[.v (.int .i64)]⟩],[.box 108 [.v (.slice aG),.v (.slice .bool),.v .bool,.v (.slice aA),.v (.slice .bool),.v (.slice (.slice aD)),.v (.slice aQ),.v (.slice aD),.v (.slice aP),.v (.slice (.int .i64)),.v (.int .i64),.v (.int .i64),.v (.int .i64)],.box 108 [.v (.slice aG),.v (.slice .bool),.v .bool,.own 2,.v (.slice .bool),.v (.slice (.slice aD)),.v (.slice aQ),.own 3,.v (.slice aP),.v (.slice (.int .i64)),.v (.int .i64),.v (.int .i64),.v (.int .i64)],.row 139 aA,.row 143 aD]⟩ [.keep [false,true,true,false,true,false,true],.gcA 0,.ownB 1 3 103,.ownB 1 7 106,.gcA 0] [.keep [false,true,true,false,true,false,true],.gcA 0,.gcA 0] n .nil) .nil []) []) .nil []) [])
theorem zIe (n:Nat):Pure Tryz.prog 42 zHn Ui (Gn n) :=
 dR (Γ:=bX _ [(67,eP Qd Dz (gK n)),(68,eP zCu Qf (iK n))] []) (an:=zWg n) Tryz.func42 rfl (by kernel_rfl) bQ (aR (all_cons (bR (Mj n)) (all_cons (bR (zFb n)) (all_nil))) (aS)) mixed (aL _ _ rfl) (fun x=>by kernel_rfl)
def xQ (n:Nat):An (jB.X):=.nil
theorem uO (n:Nat):cZ Tryz.prog 30 nS jB (dH n) :=
 bL (Γ:=bX _ [(54,peM yR yS (uU n))] []) (an:=xQ n) (co:=[.gc [0,1]]) Tryz.func30 rfl (by kernel_rfl) bQ (aR (all_cons (bJ (Qv n)) (all_nil)) (aS)) mixed (aL _ _ rfl) (by kernel_rfl) (by kernel_rfl) (fun x=>by kernel_rfl)
def zOg (n:Nat):An (bG Jv):=(.mk .nil (.mk .nil (.mk .nil (.mk (.mk .nil (.mk (.loop ⟨23,[⟨3,false,[.ptr 0 0]⟩,⟨4,false,[.v .str]⟩,⟨7,false,[.v (.slice aD)]⟩,⟨8,false,[.v (.int .i64)]⟩,⟨9,false,[.v (.int .i64)]⟩],[.box 78 [.bU 0 0,.own 1],.row 5 (.int .u8)]⟩ [.keep [false,false,false,true,true,false,false,true,true,true],.gcA 0,.ownB 0 1 31,.orn 0 0 0 0,.gcA 0] [.keep [false,false,false,true,true,false,false,true,true,true],.gcA 0,.gcA 0] n .nil) .nil []) []) .nil []) []) []) [])
theorem zDa (n:Nat):Pure Tryz.prog 43 Xj Jv (pF n) :=
 dR (Γ:=bX _ [(30,peM nS jB (dH n)),(26,peM wY qJ (Builder_String n))] []) (an:=zOg n) Tryz.func43 rfl (by kernel_rfl) bQ (aR (all_cons (bJ (uO n)) (all_cons (bJ (Pj n)) (all_nil))) (aS)) mixed (aL _ _ rfl) (fun x=>by kernel_rfl)
def zIf (n:Nat):An (Gr.X):=.nil
theorem Ws (n:Nat):cZ Tryz.prog 40 Uj Gr (zS n) :=
 bL (Γ:=bX _ [(41,eP zHm Uh (Gg n)),(42,eP zHn Ui (Gn n)),(43,eP Xj Jv (pF n))] []) (an:=zIf n) (co:=[.gc [0,1,2,3]]) Tryz.func40 rfl (by kernel_rfl) bQ (aR (all_cons (bR (zId n)) (all_cons (bR (zIe n)) (all_cons (bR (zDa n)) (all_nil)))) (aS)) mixed (aL _ _ rfl) (by kernel_rfl) (by kernel_rfl) (fun x=>by kernel_rfl)
def zPy (n:Nat):An (bG Qg):=.nil
theorem zFc (n:Nat):Pure Tryz.prog 64 zCv Qg (Uf n) :=
 dR (Γ:=bX _ [] []) (an:=zPy n) Tryz.func64 rfl (by kernel_rfl) bQ (aR (all_nil) (aS)) mixed (aL _ _ rfl) (fun x=>by kernel_rfl)
def Ba (n:Nat):An (kC.X):=.nil
theorem wL (n:Nat):cZ Tryz.prog 39 pK kC (gQ n) :=
 bL (Γ:=bX _ [(63,eP uW Bp (nJ n)),(40,peM Uj Gr (zS n)),(64,eP zCv Qg (Uf n))] []) (an:=Ba n) (co:=[.gc [0,1,2,3]]) Tryz.func39 rfl (by kernel_rfl) bQ (aR (all_cons (bR (Wh n)) (all_cons (bJ (Ws n)) (all_cons (bR (zFc n)) (all_nil)))) (aS)) mixed (aL _ _ rfl) (by kernel_rfl) (by kernel_rfl) (fun x=>by kernel_rfl)
def zPz (n:Nat):An (bG Qh):=.nil
theorem zFd (n:Nat):Pure Tryz.prog 21 zCw Qh (Iz n) :=
 dR (Γ:=bX _ [(39,peM pK kC (gQ n))] []) (an:=zPz n) Tryz.func21 rfl (by kernel_rfl) bQ (aR (all_cons (bJ (wL n)) (all_nil)) (aS)) mixed (aL _ _ rfl) (fun x=>by kernel_rfl)
def zWh (n:Nat):An (bG Uk):=.nil
theorem zIg (n:Nat):Pure Tryz.prog 11 zHo Uk (Gp n) :=
 dR (Γ:=bX _ [(21,eP zCw Qh (Iz n))] []) (an:=zWh n) Tryz.func11 rfl (by kernel_rfl) bQ (aR (all_cons (bR (zFd n)) (all_nil)) (aS)) mixed (aL _ _ rfl) (fun x=>by kernel_rfl)
def zOh (n:Nat):An (bG Xk):=(.mk .nil (.mk .nil (.mk .nil (.mk .nil (.mk .nil (.mk (.mk .nil (.mk (.loop ⟨66,[⟨3,false,[.v (.slice aD)]⟩,⟨4,false,[.v .str]⟩,⟨5,false,[.v .bool]⟩,⟨6,false,[.v .str]⟩,⟨7,false,[.v (.int .i64)]⟩],[]⟩ [.keep [false,false,false,true,true,true,true,true],.gcA 0,.gcA 0] [.keep [false,false,false,true,true,true,true,true],.gcA 0,.gcA 0] n .nil) .nil []) []) .nil []) []) []) []) []) [])
theorem Zn (n:Nat):Pure Tryz.prog 3 zPt Xk (Qb n) :=
 dR (Γ:=bX _ [(9,eP wZ xA (jF n)),(10,eP zHh zHi (showntop n)),(11,eP zHo Uk (Gp n))] []) (an:=zOh n) Tryz.func3 rfl (by kernel_rfl) bQ (aR (all_cons (bR (vG n)) (all_cons (bR (zIa n)) (all_cons (bR (zIg n)) (all_nil)))) (aS)) mixed (aL _ _ rfl) (fun x=>by kernel_rfl)
end Go.Dec
