/- Part of a proof over this seat: a library of my own, and what it says of this seat. No statement is proved here. -/
import Derived.Test.YtdgneppobefaoaaGreatDoorProg
import Derived.Test.YtdgneppobefaoaaGreatDoorPartBR
import Derived.Test.YtdgneppobefaoaaGreatDoorPartBQ
import Derived.KernelRfl
namespace Go.Dec
open Go.Proofs
set_option linter.unusedVariables false
def tab:Tab:=[(3,⟨.int .i64,1,8,[.val (.int .i64) 0],some (.int .i64),false⟩),
 (4,⟨.bool,1,1,[.val .bool false],some .bool,false⟩),
 (5,⟨.int .u8,1,1,[.val (.int .u8) 0],some (.int .u8),false⟩),
 (9,⟨.str,1,16,[.val .str []],some .str,false⟩),
 (22,⟨.slice 28,1,24,[.aW],some (.slice aD),false⟩),
 (28,⟨.struct [(0,9),(1,4)],2,24,[.val .str [],.val .bool false],some aD,true⟩),
 (31,⟨.slice 5,1,24,[.aW],some (.slice (.int .u8)),false⟩),
 (32,⟨.slice 183,1,24,[.aW],some (.slice aK),false⟩),
 (33,⟨.slice 70,1,24,[.aW],some (.slice aC),false⟩),
 (35,⟨.struct [(0,4),(1,32),(2,33)],3,56,[.val .bool false,.aW,.aW],some tQ,false⟩),
 (36,⟨.int .i64,1,8,[.val (.int .i64) 0],some (.int .i64),false⟩),
 (40,⟨.slice 45,1,24,[.aW],some (.slice aP),false⟩),
 (41,⟨.slice 3,1,24,[.aW],some (.slice (.int .i64)),false⟩),
 (43,⟨.struct [(0,9),(1,40),(2,41),(3,3),(4,3)],5,80,[.val .str [],.aW,.aW,.val (.int .i64) 0,.val (.int .i64) 0],some uJ,false⟩),
 (45,⟨.struct [(0,9),(1,9)],2,32,[.val .str [],.val .str []],some aP,true⟩),
 (65,⟨.struct [(0,3),(1,3),(2,3)],3,24,[.val (.int .i64) 0,.val (.int .i64) 0,.val (.int .i64) 0],some wI,true⟩),
 (67,⟨.struct [(0,65),(3,65),(6,4)],7,56,[.val (.int .i64) 0,.val (.int .i64) 0,.val (.int .i64) 0,.val (.int .i64) 0,.val (.int .i64) 0,.val (.int .i64) 0,.val .bool false],some Kg,true⟩),
 (68,⟨.slice 243,1,24,[.aW],some (.slice Uy),false⟩),
 (70,⟨.struct [(0,67),(7,5),(8,9),(9,9),(10,3),(11,3),(12,3),(13,68),(14,4),(15,4)],16,152,[.val (.int .i64) 0,.val (.int .i64) 0,.val (.int .i64) 0,.val (.int .i64) 0,.val (.int .i64) 0,.val (.int .i64) 0,.val .bool false,.val (.int .u8) 0,.val .str [],.val .str [],.val (.int .i64) 0,.val (.int .i64) 0,.val (.int .i64) 0,.aW,.val .bool false,.val .bool false],some aC,false⟩),
 (76,⟨.ptr 78,1,8,[.jE],none,false⟩),
 (78,⟨.struct [(0,76),(1,31)],2,32,[.jE,.aW],none,false⟩),
 (87,⟨.iface false,1,16,[.val .err false],some .err,false⟩),
 (92,⟨.int .u64,1,8,[.val (.int .u64) 0],some (.int .u64),false⟩),
 (99,⟨.slice 135,1,24,[.aW],some (.slice aG),false⟩),
 (101,⟨.struct [(0,9),(1,40),(2,41),(3,3),(4,3)],5,80,[.val .str [],.aW,.aW,.val (.int .i64) 0,.val (.int .i64) 0],some uJ,false⟩),
 (102,⟨.slice 4,1,24,[.aW],some (.slice .bool),false⟩),
 (103,⟨.slice 139,1,24,[.aW],some (.slice aA),false⟩),
 (104,⟨.slice 22,1,24,[.aW],some (.slice (.slice aD)),false⟩),
 (105,⟨.slice 142,1,24,[.aW],some (.slice aO),false⟩),
 (106,⟨.slice 143,1,24,[.aW],some (.slice aD),false⟩),
 (108,⟨.struct [(0,99),(1,102),(2,4),(3,103),(4,102),(5,104),(6,105),(7,106),(8,40),(9,41),(10,3),(11,3),(12,3)],13,248,[.aW,.aW,.val .bool false,.aW,.aW,.aW,.aW,.aW,.aW,.aW,.val (.int .i64) 0,.val (.int .i64) 0,.val (.int .i64) 0],some gG,false⟩),
 (113,⟨.func,1,8,[.val .opq Value.nilFunc],some .opq,false⟩),
 (133,⟨.slice 9,1,24,[.aW],some (.slice .str),false⟩),
 (135,⟨.struct [(0,35),(3,4),(4,133),(5,4)],6,96,[.val .bool false,.aW,.aW,.val .bool false,.aW,.val .bool false],some aG,false⟩),
 (136,⟨.slice 334,1,24,[.aW],some (.slice fV),false⟩),
 (137,⟨.slice 366,1,24,[.aW],some (.slice aD),false⟩),
 (139,⟨.struct [(0,3),(1,3),(2,3),(3,3),(4,3),(5,9),(6,9),(7,4),(8,4),(9,4),(10,136),(11,137)],12,128,[.val (.int .i64) 0,.val (.int .i64) 0,.val (.int .i64) 0,.val (.int .i64) 0,.val (.int .i64) 0,.val .str [],.val .str [],.val .bool false,.val .bool false,.val .bool false,.aW,.aW],some aA,false⟩),
 (142,⟨.struct [(0,9),(1,4),(2,4)],3,24,[.val .str [],.val .bool false,.val .bool false],some aO,true⟩),
 (143,⟨.struct [(0,9),(1,4)],2,24,[.val .str [],.val .bool false],some aD,true⟩),
 (169,⟨.func,1,8,[.val .opq Value.nilFunc],some .opq,false⟩),
 (171,⟨.ptr 108,1,8,[.jE],none,false⟩),
 (181,⟨.slice 187,1,24,[.aW],some (.slice Ee),false⟩),
 (183,⟨.struct [(0,181),(1,4)],2,32,[.aW,.val .bool false],some aK,false⟩),
 (185,⟨.arr 4 92,4,32,[.val (.arr 4 (.int .u64)) ([0,0,0,0])],some (.arr 4 (.int .u64)),true⟩),
 (187,⟨.struct [(0,3),(1,185),(5,3),(6,3),(7,3),(8,3),(9,3)],10,80,[.val (.int .i64) 0,.val (.arr 4 (.int .u64)) ([0,0,0,0]),.val (.int .i64) 0,.val (.int .i64) 0,.val (.int .i64) 0,.val (.int .i64) 0,.val (.int .i64) 0],some Ee,true⟩),
 (243,⟨.struct [(0,9),(1,3)],2,24,[.val .str [],.val (.int .i64) 0],some Uy,true⟩),
 (282,⟨.ptr 284,1,8,[.jE],none,false⟩),
 (284,⟨.struct [(0,139),(12,35),(15,4),(16,40),(17,106)],18,240,[.val (.int .i64) 0,.val (.int .i64) 0,.val (.int .i64) 0,.val (.int .i64) 0,.val (.int .i64) 0,.val .str [],.val .str [],.val .bool false,.val .bool false,.val .bool false,.aW,.aW,.val .bool false,.aW,.aW,.val .bool false,.aW,.aW],some zPa,false⟩),
 (329,⟨.func,1,8,[.val .opq Value.nilFunc],some .opq,false⟩),
 (330,⟨.slice 65,1,24,[.aW],some (.slice wI),false⟩),
 (334,⟨.struct [(0,4),(1,3)],2,16,[.val .bool false,.val (.int .i64) 0],some fV,true⟩),
 (338,⟨.struct [(0,3),(1,4),(2,102)],3,40,[.val (.int .i64) 0,.val .bool false,.aW],some yFe,false⟩),
 (366,⟨.struct [(0,9),(1,4)],2,24,[.val .str [],.val .bool false],some aD,true⟩)]
theorem aU:bA Tryz.prog tab:=zIr (by kernel_rfl)
theorem mixed:Tryz.prog.follows .mixedOrders=true:=by kernel_rfl
abbrev Es:Sh:=⟨2,[⟨0,true,[.v .bool,.v (.slice aK),.v (.slice aC),.v .bool,.v (.slice .str),.v .bool]⟩,⟨1,false,[.ptr 0 0]⟩],[.box 135 [.v .bool,.v (.slice aK),.v (.slice aC),.v .bool,.v (.slice .str),.v .bool]]⟩
abbrev uW:Sh:=⟨1,[⟨0,false,[.v .bool]⟩],[.box 135 [.v .bool,.v (.slice aK),.v (.slice aC),.v .bool,.v (.slice .str),.v .bool]]⟩
abbrev iI:Sh:=⟨2,[⟨0,false,[.v (.slice aG)]⟩,⟨1,false,[.clo 100 [(0,0)]]⟩],[.box 135 [.v .bool,.v (.slice aK),.v (.slice aC),.v .bool,.v (.slice .str),.v .bool]]⟩
abbrev dY:Sh:=⟨1,[⟨0,false,[.v (.int .i64)]⟩],[.box 135 [.v .bool,.v (.slice aK),.v (.slice aC),.v .bool,.v (.slice .str),.v .bool]]⟩
abbrev gI:Sh:=⟨2,[⟨0,false,[.v (.slice aG)]⟩,⟨1,false,[.clo 100 [(0,0)]]⟩],[.box 135 [.v .bool,.v (.slice aK),.v (.slice aC),.v .bool,.v (.slice .str),.v .bool]]⟩
abbrev dL:Sh:=⟨1,[⟨0,false,[.v .bool]⟩],[.box 135 [.v .bool,.v (.slice aK),.v (.slice aC),.v .bool,.v (.slice .str),.v .bool]]⟩
abbrev Kr:List Ty:=[.slice aG]
abbrev yA:List Ty:=[.slice .bool]
abbrev zGx:List Ty:=[tQ]
abbrev Ta:List Ty:=[aA]
abbrev zGy:List Ty:=[.slice aG,.str,.slice aP,.bool]
abbrev Tc:List Ty:=[gG,.int .i64]
abbrev zN:Sh:=⟨2,[⟨0,false,[.ptr 0 0]⟩,⟨1,false,[.v (.int .i64)]⟩],[.box 108 [.v (.slice aG),.v (.slice .bool),.v .bool,.v (.slice aA),.v (.slice .bool),.v (.slice (.slice aD)),.v (.slice aO),.v (.slice aD),.v (.slice aP),.v (.slice (.int .i64)),.v (.int .i64),.v (.int .i64),.v (.int .i64)]]⟩
abbrev qQ:Sh:=⟨1,[⟨0,false,[.v .bool]⟩],[.box 108 [.v (.slice aG),.v (.slice .bool),.v .bool,.v (.slice aA),.v (.slice .bool),.v (.slice (.slice aD)),.v (.slice aO),.v (.slice aD),.v (.slice aP),.v (.slice (.int .i64)),.v (.int .i64),.v (.int .i64),.v (.int .i64)]]⟩
abbrev Om:List Ty:=[aO]
abbrev Cr:List Ty:=[aO,aD,.bool,.bool]
abbrev Wq:List Ty:=[aO]
abbrev Ik:List Ty:=[aD,.bool,.bool]
abbrev Ws:List Ty:=[aO]
abbrev Il:List Ty:=[.bool]
abbrev Ap:Sh:=⟨2,[⟨0,false,[.ptr 0 0]⟩,⟨1,false,[.v (.int .i64)]⟩],[.box 108 [.v (.slice aG),.v (.slice .bool),.v .bool,.v (.slice aA),.v (.slice .bool),.v (.slice (.slice aD)),.v (.slice aO),.v (.slice aD),.v (.slice aP),.v (.slice (.int .i64)),.v (.int .i64),.v (.int .i64),.v (.int .i64)]]⟩
abbrev sQ:Sh:=⟨1,[⟨0,false,[.v .bool]⟩],[.box 108 [.v (.slice aG),.v (.slice .bool),.v .bool,.v (.slice aA),.v (.slice .bool),.v (.slice (.slice aD)),.v (.slice aO),.v (.slice aD),.v (.slice aP),.v (.slice (.int .i64)),.v (.int .i64),.v (.int .i64),.v (.int .i64)]]⟩
abbrev Oo:List Ty:=[gG]
abbrev Ct:List Ty:=[.int .i64]
abbrev tT:Sh:=zG aA
abbrev tV:Sh:=tK 139 aA
abbrev zO:Sh:=zG .bool
abbrev zP:Sh:=tK 4 .bool
abbrev qR:Sh:=zG (.slice aD)
abbrev qU:Sh:=tK 22 (.slice aD)
abbrev tX:Sh:=zG aO
abbrev tY:Sh:=tK 142 aO
abbrev Aq:Sh:=zG (.int .i64)
abbrev Ar:Sh:=tK 3 (.int .i64)
abbrev Au:List Ty:=[.slice aD]
abbrev sS:List Ty:=[.clip aD]
abbrev Av:Sh:=⟨1,[⟨0,true,[.v (.slice aG),.v (.slice .bool),.v .bool,.v (.slice aA),.v (.slice .bool),.v (.slice (.slice aD)),.v (.slice aO),.v (.slice aD),.v (.slice aP),.v (.slice (.int .i64)),.v (.int .i64),.v (.int .i64),.v (.int .i64)]⟩],[]⟩
abbrev sU:Sh:=⟨1,[⟨0,false,[.ptr 0 0]⟩],[.box 108 [.v (.slice aG),.v (.slice .bool),.v .bool,.own 1,.own 2,.own 3,.own 4,.v (.clip aD),.v (.slice aP),.own 5,.v (.int .i64),.v (.int .i64),.v (.int .i64)],.row 139 aA,.row 4 .bool,.row 22 (.slice aD),.row 142 aO,.row 3 (.int .i64)]⟩
abbrev Im:List Ty:=[aO]
abbrev yV:List Ty:=[aO]
abbrev zQ:Sh:=⟨2,[⟨0,false,[.ptr 0 0]⟩,⟨1,false,[.v (.int .i64)]⟩],[.box 108 [.v (.slice aG),.v (.slice .bool),.v .bool,.own 1,.own 2,.own 3,.own 4,.v (.clip aD),.v (.slice aP),.own 5,.v (.int .i64),.v (.int .i64),.v (.int .i64)],.row 139 aA,.row 4 .bool,.row 22 (.slice aD),.row 142 aO,.row 3 (.int .i64)]⟩
abbrev qV:Sh:=⟨0,[],[.box 108 [.v (.slice aG),.v (.slice .bool),.v .bool,.own 1,.own 2,.own 3,.own 4,.v (.clip aD),.v (.slice aP),.own 5,.v (.int .i64),.v (.int .i64),.v (.int .i64)],.row 139 aA,.row 4 .bool,.row 22 (.slice aD),.row 142 aO,.row 3 (.int .i64)]⟩
abbrev sV:Sh:=⟨3,[⟨0,false,[.ptr 0 0]⟩,⟨1,false,[.v (.int .i64)]⟩,⟨2,false,[.v (.int .i64)]⟩],[.box 108 [.v (.slice aG),.v (.slice .bool),.v .bool,.own 1,.own 2,.own 3,.own 4,.v (.clip aD),.v (.slice aP),.own 5,.v (.int .i64),.v (.int .i64),.v (.int .i64)],.row 139 aA,.row 4 .bool,.row 22 (.slice aD),.row 142 aO,.row 3 (.int .i64)]⟩
abbrev mR:Sh:=⟨0,[],[.box 108 [.v (.slice aG),.v (.slice .bool),.v .bool,.own 1,.own 2,.own 3,.own 4,.v (.clip aD),.v (.slice aP),.own 5,.v (.int .i64),.v (.int .i64),.v (.int .i64)],.row 139 aA,.row 4 .bool,.row 22 (.slice aD),.row 142 aO,.row 3 (.int .i64)]⟩
abbrev wZ:Sh:=⟨2,[⟨0,false,[.ptr 0 0]⟩,⟨1,false,[.v (.int .i64)]⟩],[.box 108 [.v (.slice aG),.v (.slice .bool),.v .bool,.own 1,.own 2,.own 3,.own 4,.v (.clip aD),.v (.slice aP),.own 5,.v (.int .i64),.v (.int .i64),.v (.int .i64)],.row 139 aA,.row 4 .bool,.row 22 (.slice aD),.row 142 aO,.row 3 (.int .i64)]⟩
abbrev pR:Sh:=⟨0,[],[.box 108 [.v (.slice aG),.v (.slice .bool),.v .bool,.own 1,.own 2,.own 3,.own 4,.v (.clip aD),.v (.slice aP),.own 5,.v (.int .i64),.v (.int .i64),.v (.int .i64)],.row 139 aA,.row 4 .bool,.row 22 (.slice aD),.row 142 aO,.row 3 (.int .i64)]⟩
abbrev yB:Sh:=⟨3,[⟨0,false,[.ptr 0 0]⟩,⟨1,false,[.v .str]⟩,⟨2,false,[.v .bool]⟩],[.box 284 [.v (.int .i64),.v (.int .i64),.v (.int .i64),.v (.int .i64),.v (.int .i64),.v .str,.v .str,.v .bool,.v .bool,.v .bool,.v (.slice fV),.v (.slice aD),.v .bool,.v (.slice aK),.v (.slice aC),.v .bool,.v (.slice aP),.own 1],.row 143 aD]⟩
abbrev rY:Sh:=⟨0,[],[.box 284 [.v (.int .i64),.v (.int .i64),.v (.int .i64),.v (.int .i64),.v (.int .i64),.v .str,.v .str,.v .bool,.v .bool,.v .bool,.v (.slice fV),.v (.slice aD),.v .bool,.v (.slice aK),.v (.slice aC),.v .bool,.v (.slice aP),.own 1],.row 143 aD]⟩
abbrev zR:Sh:=⟨1,[⟨0,false,[.ptr 0 0]⟩],[.box 284 [.v (.int .i64),.v (.int .i64),.v (.int .i64),.v (.int .i64),.v (.int .i64),.v .str,.v .str,.v .bool,.v .bool,.v .bool,.v (.slice fV),.v (.slice aD),.v .bool,.v (.slice aK),.v (.slice aC),.v .bool,.v (.slice aP),.own 1],.row 143 aD]⟩
abbrev qW:Sh:=⟨0,[],[.box 284 [.v (.int .i64),.v (.int .i64),.v (.int .i64),.v (.int .i64),.v (.int .i64),.v .str,.v .str,.v .bool,.v .bool,.v .bool,.v (.slice fV),.v (.slice aD),.v .bool,.v (.slice aK),.v (.slice aC),.v .bool,.v (.slice aP),.own 1],.row 143 aD]⟩
abbrev Et:Sh:=⟨1,[⟨0,false,[.ptr 0 0]⟩],[.box 284 [.v (.int .i64),.v (.int .i64),.v (.int .i64),.v (.int .i64),.v (.int .i64),.v .str,.v .str,.v .bool,.v .bool,.v .bool,.v (.slice fV),.v (.slice aD),.v .bool,.v (.slice aK),.v (.slice aC),.v .bool,.v (.slice aP),.own 1],.row 143 aD]⟩
abbrev uX:Sh:=⟨0,[],[.box 284 [.v (.int .i64),.v (.int .i64),.v (.int .i64),.v (.int .i64),.v (.int .i64),.v .str,.v .str,.v .bool,.v .bool,.v .bool,.v (.slice fV),.v (.slice aD),.v .bool,.v (.slice aK),.v (.slice aC),.v .bool,.v (.slice aP),.own 1],.row 143 aD]⟩
abbrev Td:Sh:=⟨2,[⟨0,true,[.v .str,.v .str]⟩,⟨1,false,[.ptr 0 0]⟩],[.box 9 [.v .str]]⟩
abbrev Eu:Sh:=⟨1,[⟨0,false,[.v .bool]⟩],[.box 9 [.v .str]]⟩
abbrev jS:Sh:=⟨2,[⟨0,false,[.v (.slice aP)]⟩,⟨1,false,[.clo 243 [(0,0)]]⟩],[.box 9 [.v .str]]⟩
abbrev fK:Sh:=⟨1,[⟨0,false,[.v (.int .i64)]⟩],[.box 9 [.v .str]]⟩
abbrev zCm:List Ty:=[.slice aP,.str]
abbrev Oq:List Ty:=[.str,.bool]
abbrev lI:List Ty:=[.str,.str]
abbrev gW:List Ty:=[.bool]
abbrev lJ:List Ty:=[.str,.str]
abbrev gX:List Ty:=[.str,.bool]
abbrev zS:List Ty:=[.str,.str]
abbrev qX:List Ty:=[.str,.bool]
abbrev Ev:Sh:=⟨1,[⟨0,false,[.ptr 0 0]⟩],[.box 284 [.v (.int .i64),.v (.int .i64),.v (.int .i64),.v (.int .i64),.v (.int .i64),.v .str,.v .str,.v .bool,.v .bool,.v .bool,.v (.slice fV),.v (.slice aD),.v .bool,.v (.slice aK),.v (.slice aC),.v .bool,.v (.slice aP),.own 1],.row 143 aD]⟩
abbrev uY:Sh:=⟨0,[],[.box 284 [.v (.int .i64),.v (.int .i64),.v (.int .i64),.v (.int .i64),.v (.int .i64),.v .str,.v .str,.v .bool,.v .bool,.v .bool,.v (.slice fV),.v (.slice aD),.v .bool,.v (.slice aK),.v (.slice aC),.v .bool,.v (.slice aP),.own 1],.row 143 aD]⟩
abbrev Ku:Sh:=⟨1,[⟨0,false,[.ptr 0 0]⟩],[.box 284 [.v (.int .i64),.v (.int .i64),.v (.int .i64),.v (.int .i64),.v (.int .i64),.v .str,.v .str,.v .bool,.v .bool,.v .bool,.v (.slice fV),.v (.slice aD),.v .bool,.v (.slice aK),.v (.slice aC),.v .bool,.v (.slice aP),.own 1],.row 143 aD]⟩
abbrev yC:Sh:=⟨0,[],[.box 284 [.v (.int .i64),.v (.int .i64),.v (.int .i64),.v (.int .i64),.v (.int .i64),.v .str,.v .str,.v .bool,.v .bool,.v .bool,.v (.slice fV),.v (.slice aD),.v .bool,.v (.slice aK),.v (.slice aC),.v .bool,.v (.slice aP),.own 1],.row 143 aD]⟩
abbrev sG:Sh:=zG fV
abbrev sH:Sh:=tK 334 fV
abbrev Ew:Sh:=⟨2,[⟨0,false,[.ptr 0 0]⟩,⟨1,true,[.v (.int .i64),.v (.int .i64),.v (.int .i64),.v (.int .i64),.v (.int .i64),.v (.int .i64),.v .bool,.v (.int .u8),.v .str,.v .str,.v (.int .i64),.v (.int .i64),.v (.int .i64),.v (.slice Uy),.v .bool,.v .bool]⟩],[.box 284 [.v (.int .i64),.v (.int .i64),.v (.int .i64),.v (.int .i64),.v (.int .i64),.v .str,.v .str,.v .bool,.v .bool,.v .bool,.v (.slice fV),.v (.slice aD),.v .bool,.v (.slice aK),.v (.slice aC),.v .bool,.v (.slice aP),.own 1],.row 143 aD]⟩
abbrev uZ:Sh:=⟨1,[⟨0,false,[.v .bool]⟩],[.box 284 [.v (.int .i64),.v (.int .i64),.v (.int .i64),.v (.int .i64),.v (.int .i64),.v .str,.v .str,.v .bool,.v .bool,.v .bool,.own 2,.v (.slice aD),.v .bool,.v (.slice aK),.v (.slice aC),.v .bool,.v (.slice aP),.own 1],.row 143 aD,.row 334 fV]⟩
abbrev Aw:Sh:=⟨3,[⟨0,false,[.ptr 0 0]⟩,⟨1,false,[.v .str]⟩,⟨2,false,[.v .bool]⟩],[.box 284 [.v (.int .i64),.v (.int .i64),.v (.int .i64),.v (.int .i64),.v (.int .i64),.v .str,.v .str,.v .bool,.v .bool,.v .bool,.own 1,.v (.slice aD),.v .bool,.v (.slice aK),.v (.slice aC),.v .bool,.v (.slice aP),.own 2],.row 334 fV,.row 143 aD]⟩
abbrev sW:Sh:=⟨0,[],[.box 284 [.v (.int .i64),.v (.int .i64),.v (.int .i64),.v (.int .i64),.v (.int .i64),.v .str,.v .str,.v .bool,.v .bool,.v .bool,.own 1,.v (.slice aD),.v .bool,.v (.slice aK),.v (.slice aC),.v .bool,.v (.slice aP),.own 2],.row 334 fV,.row 143 aD]⟩
abbrev vL:Sh:=⟨1,[⟨0,false,[.ptr 0 0]⟩],[.box 284 [.v (.int .i64),.v (.int .i64),.v (.int .i64),.v (.int .i64),.v (.int .i64),.v .str,.v .str,.v .bool,.v .bool,.v .bool,.own 1,.v (.slice aD),.v .bool,.v (.slice aK),.v (.slice aC),.v .bool,.v (.slice aP),.own 2],.row 334 fV,.row 143 aD]⟩
abbrev nG:Sh:=⟨0,[],[.box 284 [.v (.int .i64),.v (.int .i64),.v (.int .i64),.v (.int .i64),.v (.int .i64),.v .str,.v .str,.v .bool,.v .bool,.v .bool,.own 1,.v (.slice aD),.v .bool,.v (.slice aK),.v (.slice aC),.v .bool,.v (.slice aP),.own 2],.row 334 fV,.row 143 aD]⟩
abbrev Ay:Sh:=⟨2,[⟨0,false,[.ptr 0 0]⟩,⟨1,true,[.v (.int .i64),.v (.int .i64),.v (.int .i64),.v (.int .i64),.v (.int .i64),.v (.int .i64),.v .bool,.v (.int .u8),.v .str,.v .str,.v (.int .i64),.v (.int .i64),.v (.int .i64),.v (.slice Uy),.v .bool,.v .bool]⟩],[.box 284 [.v (.int .i64),.v (.int .i64),.v (.int .i64),.v (.int .i64),.v (.int .i64),.v .str,.v .str,.v .bool,.v .bool,.v .bool,.own 1,.v (.slice aD),.v .bool,.v (.slice aK),.v (.slice aC),.v .bool,.v (.slice aP),.own 2],.row 334 fV,.row 143 aD]⟩
abbrev sZ:Sh:=⟨0,[],[.box 284 [.v (.int .i64),.v (.int .i64),.v (.int .i64),.v (.int .i64),.v (.int .i64),.v .str,.v .str,.v .bool,.v .bool,.v .bool,.own 1,.v (.slice aD),.v .bool,.v (.slice aK),.v (.slice aC),.v .bool,.v (.slice aP),.own 2],.row 334 fV,.row 143 aD]⟩
abbrev zCn:List Ty:=[tQ,.bool,aA,.slice aP]
abbrev Ot:List Ty:=[aA,.slice aP,.slice aD]
abbrev vM:Sh:=⟨2,[⟨0,false,[.ptr 0 0]⟩,⟨1,false,[.v (.int .i64)]⟩],[.box 108 [.v (.slice aG),.v (.slice .bool),.v .bool,.own 1,.own 2,.own 3,.own 4,.v (.clip aD),.v (.slice aP),.own 5,.v (.int .i64),.v (.int .i64),.v (.int .i64)],.row 139 aA,.row 4 .bool,.row 22 (.slice aD),.row 142 aO,.row 3 (.int .i64)]⟩
abbrev nH:Sh:=⟨1,[⟨0,false,[.v .bool]⟩],[.box 108 [.v (.slice aG),.v (.slice .bool),.v .bool,.own 1,.own 2,.own 3,.own 4,.v (.clip aD),.v (.slice aP),.own 5,.v (.int .i64),.v (.int .i64),.v (.int .i64)],.row 139 aA,.row 4 .bool,.row 22 (.slice aD),.row 142 aO,.row 3 (.int .i64)]⟩
abbrev zT:Sh:=⟨3,[⟨0,false,[.ptr 0 0]⟩,⟨1,false,[.v (.int .i64)]⟩,⟨2,false,[.v (.slice aD)]⟩],[.box 108 [.v (.slice aG),.v (.slice .bool),.v .bool,.own 1,.own 2,.own 3,.own 4,.v (.clip aD),.v (.slice aP),.own 5,.v (.int .i64),.v (.int .i64),.v (.int .i64)],.row 139 aA,.row 4 .bool,.row 22 (.slice aD),.row 142 aO,.row 3 (.int .i64)]⟩
abbrev qY:Sh:=⟨0,[],[.box 108 [.v (.slice aG),.v (.slice .bool),.v .bool,.own 1,.own 2,.own 3,.own 4,.v (.slice aD),.v (.slice aP),.own 5,.v (.int .i64),.v (.int .i64),.v (.int .i64)],.row 139 aA,.row 4 .bool,.row 22 (.slice aD),.row 142 aO,.row 3 (.int .i64)]⟩
abbrev vN:Sh:=⟨2,[⟨0,false,[.ptr 0 0]⟩,⟨1,false,[.v (.int .i64)]⟩],[.box 108 [.v (.slice aG),.v (.slice .bool),.v .bool,.own 1,.own 2,.own 3,.own 4,.v (.slice aD),.v (.slice aP),.own 5,.v (.int .i64),.v (.int .i64),.v (.int .i64)],.row 139 aA,.row 4 .bool,.row 22 (.slice aD),.row 142 aO,.row 3 (.int .i64)]⟩
abbrev nI:Sh:=⟨1,[⟨0,false,[.v .bool]⟩],[.box 108 [.v (.slice aG),.v (.slice .bool),.v .bool,.own 1,.own 2,.own 3,.own 4,.v (.slice aD),.v (.slice aP),.own 5,.v (.int .i64),.v (.int .i64),.v (.int .i64)],.row 139 aA,.row 4 .bool,.row 22 (.slice aD),.row 142 aO,.row 3 (.int .i64)]⟩
abbrev vO:Sh:=⟨2,[⟨0,false,[.ptr 0 0]⟩,⟨1,false,[.v (.int .i64)]⟩],[.box 108 [.v (.slice aG),.v (.slice .bool),.v .bool,.own 1,.own 2,.own 3,.own 4,.v (.slice aD),.v (.slice aP),.own 5,.v (.int .i64),.v (.int .i64),.v (.int .i64)],.row 139 aA,.row 4 .bool,.row 22 (.slice aD),.row 142 aO,.row 3 (.int .i64)]⟩
abbrev nJ:Sh:=⟨0,[],[.box 108 [.v (.slice aG),.v (.slice .bool),.v .bool,.own 1,.own 2,.own 3,.own 4,.v (.slice aD),.v (.slice aP),.own 5,.v (.int .i64),.v (.int .i64),.v (.int .i64)],.row 139 aA,.row 4 .bool,.row 22 (.slice aD),.row 142 aO,.row 3 (.int .i64)]⟩
abbrev wU:Sh:=⟨3,[⟨0,false,[.ptr 0 0]⟩,⟨1,false,[.v (.int .i64)]⟩,⟨2,false,[.v (.int .i64)]⟩],[.box 108 [.v (.slice aG),.v (.slice .bool),.v .bool,.own 1,.own 2,.own 3,.own 4,.v (.slice aD),.v (.slice aP),.own 5,.v (.int .i64),.v (.int .i64),.v (.int .i64)],.row 139 aA,.row 4 .bool,.row 22 (.slice aD),.row 142 aO,.row 3 (.int .i64)]⟩
abbrev oM:Sh:=⟨0,[],[.box 108 [.v (.slice aG),.v (.slice .bool),.v .bool,.own 1,.own 2,.own 3,.own 4,.v (.slice aD),.v (.slice aP),.own 5,.v (.int .i64),.v (.int .i64),.v (.int .i64)],.row 139 aA,.row 4 .bool,.row 22 (.slice aD),.row 142 aO,.row 3 (.int .i64)]⟩
abbrev Az:Sh:=⟨2,[⟨0,false,[.ptr 0 0]⟩,⟨1,false,[.v (.int .i64)]⟩],[.box 108 [.v (.slice aG),.v (.slice .bool),.v .bool,.own 1,.own 2,.own 3,.own 4,.v (.clip aD),.v (.slice aP),.own 5,.v (.int .i64),.v (.int .i64),.v (.int .i64)],.row 139 aA,.row 4 .bool,.row 22 (.slice aD),.row 142 aO,.row 3 (.int .i64)]⟩
abbrev tC:Sh:=⟨0,[],[.box 108 [.v (.slice aG),.v (.slice .bool),.v .bool,.own 1,.own 2,.own 3,.own 4,.v (.slice aD),.v (.slice aP),.own 5,.v (.int .i64),.v (.int .i64),.v (.int .i64)],.row 139 aA,.row 4 .bool,.row 22 (.slice aD),.row 142 aO,.row 3 (.int .i64)]⟩
abbrev zU:Sh:=⟨2,[⟨0,false,[.ptr 0 0]⟩,⟨1,false,[.v (.int .i64)]⟩],[.box 108 [.v (.slice aG),.v (.slice .bool),.v .bool,.own 1,.own 2,.own 3,.own 4,.v (.clip aD),.v (.slice aP),.own 5,.v (.int .i64),.v (.int .i64),.v (.int .i64)],.row 139 aA,.row 4 .bool,.row 22 (.slice aD),.row 142 aO,.row 3 (.int .i64)]⟩
abbrev qZ:Sh:=⟨3,[⟨0,true,[.v .str,.v .bool]⟩,⟨1,false,[.v .bool]⟩,⟨2,false,[.v .bool]⟩],[.box 108 [.v (.slice aG),.v (.slice .bool),.v .bool,.own 1,.own 2,.own 3,.own 4,.v (.clip aD),.v (.slice aP),.own 5,.v (.int .i64),.v (.int .i64),.v (.int .i64)],.row 139 aA,.row 4 .bool,.row 22 (.slice aD),.row 142 aO,.row 3 (.int .i64)]⟩
abbrev zCo:List Ty:=[aA,aD,.bool]
abbrev Ou:List Ty:=[aA]
abbrev zCp:List Ty:=[gG]
abbrev Ov:List Ty:=[gG]
abbrev zGz:List Ty:=[gG,.int .i64]
abbrev Te:List Ty:=[gG,.int .i64]
abbrev jA:Sh:=⟨2,[⟨0,false,[.ptr 0 0]⟩,⟨1,false,[.v .str]⟩],[.box 78 [.bQ 0 0,.own 1],.row 5 (.int .u8)]⟩
abbrev fM:Sh:=⟨2,[⟨0,false,[.v (.int .i64)]⟩,⟨1,false,[.v .err]⟩],[.box 78 [.bQ 0 0,.own 1],.row 5 (.int .u8)]⟩
abbrev Wt:List Ty:=[.slice aD]
abbrev Io:List Ty:=[.str]
abbrev Tf:Sh:=⟨5,[⟨0,false,[.v (.slice aG)]⟩,⟨1,false,[.ptr 0 0]⟩,⟨2,false,[.ptr 1 0]⟩,⟨3,false,[.ptr 2 0]⟩,⟨4,false,[.ptr 3 0]⟩],[.box 9 [.v .str],.box 40 [.v (.slice aP)],.box 4 [.v .bool],.box 3 [.v (.int .i64)]]⟩
abbrev Ey:Sh:=⟨2,[⟨0,true,[.v .str,.v (.slice aP),.v (.slice (.int .i64)),.v (.int .i64),.v (.int .i64)]⟩,⟨1,false,[.v (.int .i64)]⟩],[.box 9 [.v .str],.box 40 [.v (.slice aP)],.box 4 [.v .bool],.box 3 [.v (.int .i64)]]⟩
abbrev zCq:List Ty:=[uJ]
abbrev Ow:List Ty:=[.int .i64]
abbrev oP:Sh:=⟨3,[⟨0,false,[.v .str]⟩,⟨1,false,[.v (.slice aP)]⟩,⟨2,false,[.clo 40 [(0,0),(1,0),(2,0),(3,0)]]⟩],[.box 9 [.v .str],.box 40 [.v (.slice aP)],.box 4 [.v .bool],.box 3 [.v (.int .i64)]]⟩
abbrev jW:Sh:=⟨3,[⟨0,true,[.v .str,.v (.slice aP),.v (.slice (.int .i64)),.v (.int .i64),.v (.int .i64)]⟩,⟨1,false,[.v (.int .i64)]⟩,⟨2,false,[.v (.int .i64)]⟩],[.box 9 [.v .str],.box 40 [.v (.slice aP)],.box 4 [.v .bool],.box 3 [.v (.int .i64)]]⟩
abbrev zCr:List Ty:=[.str,.str,.slice aP,.bool,.int .i64]
abbrev Ox:List Ty:=[uJ,.int .i64,.int .i64]
abbrev zHa:List Ty:=[.str,.str]
abbrev Tg:List Ty:=[.str,.bool]
abbrev oQ:Sh:=⟨2,[⟨0,false,[.ptr 0 0]⟩,⟨1,false,[.v (.int .u8)]⟩],[.box 78 [.bQ 0 0,.own 1],.row 5 (.int .u8)]⟩
abbrev jX:Sh:=⟨1,[⟨0,false,[.v .err]⟩],[.box 78 [.bQ 0 0,.own 1],.row 5 (.int .u8)]⟩
abbrev Wu:List Ty:=[.slice aD]
abbrev Ip:List Ty:=[.str]
abbrev zHn:List Ty:=[.str]
abbrev Pk:List Ty:=[.bool]
def Vn (n:Nat):An (uW.X):=.nil
theorem Kv (n:Nat):cO Tryz.prog 100 Es uW (wJ n) :=
 bL (Γ:=bX _ [(101,eB Ec Ed (wH n))] []) (an:=Vn n) (co:=[.gc [0]]) Tryz.func100 rfl (by kernel_rfl) aU (aQ (all_cons (bP (Nz n)) (all_nil)) (aR)) mixed (aL _ _ rfl) (by kernel_rfl) (by kernel_rfl) (fun x=>by kernel_rfl)
def nK (n:Nat):An (dY.X):=(.mk .nil (.mk (.mk .nil (.mk (.loop ⟨19,[⟨0,false,[.v (.slice aG)]⟩,⟨1,false,[.clo 100 [(0,0)]]⟩,⟨7,false,[.v (.int .i64)]⟩,⟨8,false,[.v (.int .i64)]⟩],[.box 135 [.v .bool,.v (.slice aK),.v (.slice aC),.v .bool,.v (.slice .str),.v .bool]]⟩ [.keep [true,true,false,false,false,false,false,true,true],.gcA 1,.gcA 1] [.keep [true,true,false,false,false,false,false,true,true],.gcA 1,.gcA 1] n .nil) .nil []) []) .nil []) [])
theorem mF (n:Nat):cO Tryz.prog 145 iI dY (eD n) :=
 bL (Γ:=bX _ [(100,peM Es uW (wJ n))] []) (an:=nK n) (co:=[.gc [0]]) Tryz.func145 rfl (by kernel_rfl) aU (aQ (all_cons (bI (Kv n)) (all_nil)) (aR)) mixed (aL _ _ rfl) (by kernel_rfl) (by kernel_rfl) (fun x=>by kernel_rfl)
def mK (n:Nat):An (dL.X):=.nil
theorem lD (n:Nat):cO Tryz.prog 99 gI dL (dR n) :=
 bL (Γ:=bX _ [(145,peM iI dY (eD n))] []) (an:=mK n) (co:=[.gc [0]]) Tryz.func99 rfl (by kernel_rfl) aU (aQ (all_cons (bI (mF n)) (all_nil)) (aR)) mixed (aL _ _ rfl) (by kernel_rfl) (by kernel_rfl) (fun x=>by kernel_rfl)
def zCs (n:Nat):An (bF yA):=(.mk .nil (.mk .nil (.mk (.mk .nil (.mk (.loop ⟨26,[⟨0,false,[.v (.slice aG)]⟩,⟨3,false,[.own 0]⟩,⟨9,false,[.v (.slice aG)]⟩,⟨10,false,[.v (.int .i64)]⟩,⟨11,false,[.v (.int .i64)]⟩],[.row 4 .bool]⟩ [.keep [true,false,false,true,false,false,false,false,false,true,true,true],.gcA 0,.gcA 0] [.keep [true,false,false,true,false,false,false,false,false,true,true,true],.gcA 0,.gcA 0] n .nil) .nil []) []) .nil []) []) [])
theorem Ti (n:Nat):Pure Tryz.prog 65 Kr yA (Ah n) :=
 dQ (Γ:=bX _ [(99,peM gI dL (dR n))] []) (an:=zCs n) Tryz.func65 rfl (by kernel_rfl) aU (aQ (all_cons (bI (lD n)) (all_nil)) (aR)) mixed (aL _ _ rfl) (fun x=>by kernel_rfl)
def zVs (n:Nat):An (bF Ta):=.nil
theorem zHo (n:Nat):Pure Tryz.prog 66 zGx Ta (Yl n) :=
 dQ (Γ:=bX _ [] []) (an:=zVs n) Tryz.func66 rfl (by kernel_rfl) aU (aQ (all_nil) (aR)) mixed (aL _ _ rfl) (fun x=>by kernel_rfl)
def zVt (n:Nat):An (bF Tc):=(.mk .nil (.mk .nil (.mk .nil (.mk (.mk .nil (.mk (.loop ⟨80,[⟨0,false,[.v (.slice aG)]⟩,⟨1,false,[.v .str]⟩,⟨8,false,[.ptr 0 0]⟩,⟨10,false,[.ptr 1 0]⟩,⟨37,false,[.v (.slice aG)]⟩,⟨38,false,[.v (.int .i64)]⟩,⟨39,false,[.v (.int .i64)]⟩],[.box 108 [.v (.slice aG),.v (.slice .bool),.v .bool,.own 2,.v (.slice .bool),.v (.slice (.slice aD)),.v (.slice aO),.own 3,.v (.slice aP),.v (.slice (.int .i64)),.v (.int .i64),.v (.int .i64),.v (.int .i64)],.box 108 [.v (.slice aG),.v (.slice .bool),.v .bool,.own 4,.v (.slice .bool),.v (.slice (.slice aD)),.own 5,.own 6,.v (.slice aP),.v (.slice (.int .i64)),.v (.int .i64),.v (.int .i64),.v (.int .i64)],.row 139 aA,.row 143 aD,.row 139 aA,.row 142 aO,.row 143 aD]⟩ [.keep [true,true,false,false,false,false,false,false,true,false,true,false,false,false,false,false,false,false,false,false,false,false,false,false,false,false,false,false,false,false,false,false,false,false,false,false,false,true,true,true],.gcA 0,.ownB 0 3 103,.ownB 0 7 106,.ownB 1 3 103,.ownB 1 7 106,.gcA 0] [.keep [true,true,false,false,false,false,false,false,true,false,true,false,false,false,false,false,false,false,false,false,false,false,false,false,false,false,false,false,false,false,false,false,false,false,false,false,false,true,true,true],.gcA 0,.gcA 0] n .nil) .nil []) []) (.mk .nil (.mk (.mk .nil (.mk (.loop ⟨80,[⟨8,false,[.ptr 0 0]⟩,⟨10,false,[.ptr 1 0]⟩,⟨62,false,[.v (.slice aD)]⟩,⟨63,false,[.v (.int .i64)]⟩,⟨64,false,[.v (.int .i64)]⟩],[.box 108 [.v (.slice aG),.v (.slice .bool),.v .bool,.own 2,.v (.slice .bool),.v (.slice (.slice aD)),.v (.slice aO),.own 3,.v (.slice aP),.v (.slice (.int .i64)),.v (.int .i64),.v (.int .i64),.v (.int .i64)],.box 108 [.v (.slice aG),.v (.slice .bool),.v .bool,.own 4,.v (.slice .bool),.v (.slice (.slice aD)),.own 5,.own 6,.v (.slice aP),.v (.slice (.int .i64)),.v (.int .i64),.v (.int .i64),.v (.int .i64)],.row 139 aA,.row 143 aD,.row 139 aA,.row 142 aO,.row 143 aD]⟩ [.keep [false,false,false,false,false,false,false,false,true,false,true,false,false,false,false,false,false,false,false,false,false,false,false,false,false,false,false,false,false,false,false,false,false,false,false,false,false,false,false,false,false,false,false,false,false,false,false,false,false,false,false,false,false,false,false,false,false,false,false,false,false,false,true,true,true],.gcA 0,.gcA 0] [.keep [false,false,false,false,false,false,false,false,true,false,true,false,false,false,false,false,false,false,false,false,false,false,false,false,false,false,false,false,false,false,false,false,false,false,false,false,false,false,false,false,false,false,false,false,false,false,false,false,false,false,false,false,false,false,false,false,false,false,false,false,false,false,true,true,true],.gcA 0,.gcA 0] n .nil) .nil []) []) .nil []) []) []) []) []) [])
theorem zHp (n:Nat):Pure Tryz.prog 41 zGy Tc (Ef n) :=
 dQ (Γ:=bX _ [(65,eB Kr yA (Ah n)),(66,eB zGx Ta (Yl n)),(9,eB wF wG (jC n))] []) (an:=zVt n) Tryz.func41 rfl (by kernel_rfl) aU (aQ (all_cons (bP (Ti n)) (all_cons (bP (zHo n)) (all_cons (bP (uS n)) (all_nil)))) (aR)) mixed (aL _ _ rfl) (fun x=>by kernel_rfl)
def Px (n:Nat):An (qQ.X):=.nil
theorem Fh (n:Nat):cO Tryz.prog 149 zN qQ (sM n) :=
 bL (Γ:=bX _ [] []) (an:=Px n) (co:=[.gc [0]]) Tryz.func149 rfl (by kernel_rfl) aU (aQ (all_nil) (aR)) mixed (aL _ _ rfl) (by kernel_rfl) (by kernel_rfl) (fun x=>by kernel_rfl)
def zPb (n:Nat):An (bF Cr):=(.mk .nil (.scope 0 .nil .nil) [])
theorem Kw (n:Nat):Pure Tryz.prog 163 Om Cr (nM n) :=
 dQ (Γ:=bX _ [(38,eB Rz Sb (strings_Cut n))] []) (an:=zPb n) Tryz.func163 rfl (by kernel_rfl) aU (aQ (all_cons (bP (Yj n)) (all_nil)) (aR)) mixed (aL _ _ rfl) (fun x=>by kernel_rfl)
def zNl (n:Nat):An (bF Ik):=.nil
theorem zCt (n:Nat):Pure Tryz.prog 151 Wq Ik (rU n) :=
 dQ (Γ:=bX _ [(163,eB Om Cr (nM n))] []) (an:=zNl n) Tryz.func151 rfl (by kernel_rfl) aU (aQ (all_cons (bP (Kw n)) (all_nil)) (aR)) mixed (aL _ _ rfl) (fun x=>by kernel_rfl)
def zNm (n:Nat):An (bF Il):=.nil
theorem zCu (n:Nat):Pure Tryz.prog 152 Ws Il (Cn n) :=
 dQ (Γ:=bX _ [] []) (an:=zNm n) Tryz.func152 rfl (by kernel_rfl) aU (aQ (all_nil) (aR)) mixed (aL _ _ rfl) (fun x=>by kernel_rfl)
def Tj (n:Nat):An (sQ.X):=.nil
theorem Iq (n:Nat):cO Tryz.prog 102 Ap sQ (oF n) :=
 bL (Γ:=bX _ [(149,peM zN qQ (sM n)),(151,eB Wq Ik (rU n)),(152,eB Ws Il (Cn n))] []) (an:=Tj n) (co:=[.gc [0]]) Tryz.func102 rfl (by kernel_rfl) aU (aQ (all_cons (bI (Fh n)) (all_cons (bP (zCt n)) (all_cons (bP (zCu n)) (all_nil)))) (aR)) mixed (aL _ _ rfl) (by kernel_rfl) (by kernel_rfl) (fun x=>by kernel_rfl)
def zPc (n:Nat):An (bF Ct):=(.mk .nil (.mk (.mk .nil (.mk (.loop ⟨15,[⟨1,false,[.ptr 0 0]⟩,⟨3,false,[.v (.int .i64)]⟩],[.box 108 [.v (.slice aG),.v (.slice .bool),.v .bool,.v (.slice aA),.v (.slice .bool),.v (.slice (.slice aD)),.v (.slice aO),.v (.slice aD),.v (.slice aP),.v (.slice (.int .i64)),.v (.int .i64),.v (.int .i64),.v (.int .i64)]]⟩ [.keep [false,true,false,true],.gcA 0,.gcA 0] [.keep [false,true,false,true],.gcA 0,.gcA 0] n .nil) .nil []) []) .nil []) [])
theorem Ky (n:Nat):Pure Tryz.prog 67 Oo Ct (gM n) :=
 dQ (Γ:=bX _ [(102,peM Ap sQ (oF n))] []) (an:=zPc n) Tryz.func67 rfl (by kernel_rfl) aU (aQ (all_cons (bI (Iq n)) (all_nil)) (aR)) mixed (aL _ _ rfl) (fun x=>by kernel_rfl)
theorem zV (n:Nat):cO Tryz.prog 153 tT tV (nC n) :=
 pG (T:=tab) Tryz.func153 rfl rfl rfl Tryz.underlying103 (by kernel_rfl) aU rfl rfl rfl rfl (by decide) (by decide) (fun _=>rfl)
theorem Fj (n:Nat):cO Tryz.prog 154 zO zP (sN n) :=
 pG (T:=tab) Tryz.func154 rfl rfl rfl Tryz.underlying102 (by kernel_rfl) aU rfl rfl rfl rfl (by decide) (by decide) (fun _=>rfl)
theorem wW (n:Nat):cO Tryz.prog 155 qR qU (lN n) :=
 pG (T:=tab) Tryz.func155 rfl rfl rfl Tryz.underlying104 (by kernel_rfl) aU rfl rfl rfl rfl (by decide) (by decide) (fun _=>rfl)
theorem zW (n:Nat):cO Tryz.prog 156 tX tY (nD n) :=
 pG (T:=tab) Tryz.func156 rfl rfl rfl Tryz.underlying105 (by kernel_rfl) aU rfl rfl rfl rfl (by decide) (by decide) (fun _=>rfl)
theorem Ir (n:Nat):cO Tryz.prog 157 Aq Ar (slices_Clone_int n) :=
 pG (T:=tab) Tryz.func157 rfl rfl rfl Tryz.underlying41 (by kernel_rfl) aU rfl rfl rfl rfl (by decide) (by decide) (fun _=>rfl)
def Tm (n:Nat):An (bF sS):=.nil
theorem Kz (n:Nat):Pure Tryz.prog 158 Au sS (iY n) :=
 dQ (Γ:=bX _ [] []) (an:=Tm n) Tryz.func158 rfl (by kernel_rfl) aU (aQ (all_nil) (aR)) mixed (aL _ _ rfl) (fun x=>by kernel_rfl)
def Tn (n:Nat):An (sU.X):=.nil
theorem Iu (n:Nat):cO Tryz.prog 103 Av sU (kX n) :=
 bL (Γ:=bX _ [(153,peM tT tV (nC n)),(154,peM zO zP (sN n)),(155,peM qR qU (lN n)),(156,peM tX tY (nD n)),(157,peM Aq Ar (slices_Clone_int n)),(158,eB Au sS (iY n))] []) (an:=Tn n) (co:=[.gc [0,1,2,3,4,5]]) Tryz.func103 rfl (by kernel_rfl) aU (aQ (all_cons (bI (zV n)) (all_cons (bI (Fj n)) (all_cons (bI (wW n)) (all_cons (bI (zW n)) (all_cons (bI (Ir n)) (all_cons (bP (Kz n)) (all_nil))))))) (aR)) mixed (aL _ _ rfl) (by kernel_rfl) (by kernel_rfl) (fun x=>by kernel_rfl)
def zNn (n:Nat):An (bF yV):=.nil
theorem Hu (n:Nat):Pure Tryz.prog 208 Im yV (wK n) :=
 dQ (Γ:=bX _ [] []) (an:=zNn n) Tryz.func208 rfl (by kernel_rfl) aU (aQ (all_nil) (aR)) mixed (aL _ _ rfl) (fun x=>by kernel_rfl)
def Py (n:Nat):An (qV.X):=.nil
theorem Fp (n:Nat):cO Tryz.prog 164 zQ qV (sO n) :=
 bL (Γ:=bX _ [(208,eB Im yV (wK n))] []) (an:=Py n) (co:=[.gc [0,1,2,3,4,5]]) Tryz.func164 rfl (by kernel_rfl) aU (aQ (all_cons (bP (Hu n)) (all_nil)) (aR)) mixed (aL _ _ rfl) (by kernel_rfl) (by kernel_rfl) (fun x=>by kernel_rfl)
def Tp (n:Nat):An (mR.X):=.nil
theorem tZ (n:Nat):cO Tryz.prog 108 sV mR (kY n) :=
 bL (Γ:=bX _ [(164,peM zQ qV (sO n))] []) (an:=Tp n) (co:=[.gc [0,1,2,3,4,5]]) Tryz.func108 rfl (by kernel_rfl) aU (aQ (all_cons (bI (Fp n)) (all_nil)) (aR)) mixed (aL _ _ rfl) (by kernel_rfl) (by kernel_rfl) (fun x=>by kernel_rfl)
def Oy (n:Nat):An (pR.X):=.nil
theorem Ez (n:Nat):cO Tryz.prog 104 wZ pR (mD n) :=
 bL (Γ:=bX _ [(108,peM sV mR (kY n)),(159,eB uH Af (kW n))] []) (an:=Oy n) (co:=[.gc [0,1,2,3,4,5]]) Tryz.func104 rfl (by kernel_rfl) aU (aQ (all_cons (bI (tZ n)) (all_cons (bP (Vm n)) (all_nil))) (aR)) mixed (aL _ _ rfl) (by kernel_rfl) (by kernel_rfl) (fun x=>by kernel_rfl)
def zCv (n:Nat):An (rY.X):=.nil
theorem xA (n:Nat):cO Tryz.prog 315 yB rY (lU n) :=
 bL (Γ:=bX _ [] []) (an:=zCv n) (co:=[.gc [0,1]]) Tryz.func315 rfl (by kernel_rfl) aU (aQ (all_nil) (aR)) mixed (aL _ _ rfl) (by kernel_rfl) (by kernel_rfl) (fun x=>by kernel_rfl)
def Pz (n:Nat):An (qW.X):=.nil
theorem Fq (n:Nat):cO Tryz.prog 244 zR qW (sP n) :=
 bL (Γ:=bX _ [(315,peM yB rY (lU n))] []) (an:=Pz n) (co:=[.gc [0,1]]) Tryz.func244 rfl (by kernel_rfl) aU (aQ (all_cons (bI (xA n)) (all_nil)) (aR)) mixed (aL _ _ rfl) (by kernel_rfl) (by kernel_rfl) (fun x=>by kernel_rfl)
def Vo (n:Nat):An (uX.X):=.nil
theorem La (n:Nat):cO Tryz.prog 203 Et uX (wS n) :=
 bL (Γ:=bX _ [(244,peM zR qW (sP n))] []) (an:=Vo n) (co:=[.gc [0,1]]) Tryz.func203 rfl (by kernel_rfl) aU (aQ (all_cons (bI (Fq n)) (all_nil)) (aR)) mixed (aL _ _ rfl) (by kernel_rfl) (by kernel_rfl) (fun x=>by kernel_rfl)
def zHq (n:Nat):An (Eu.X):=.nil
theorem Vp (n:Nat):cO Tryz.prog 243 Td Eu (Ij n) :=
 bL (Γ:=bX _ [] []) (an:=zHq n) (co:=[.gc [0]]) Tryz.func243 rfl (by kernel_rfl) aU (aQ (all_nil) (aR)) mixed (aL _ _ rfl) (by kernel_rfl) (by kernel_rfl) (fun x=>by kernel_rfl)
def rA (n:Nat):An (fK.X):=(.mk .nil (.mk (.mk .nil (.mk (.loop ⟨19,[⟨0,false,[.v (.slice aP)]⟩,⟨1,false,[.clo 243 [(0,0)]]⟩,⟨7,false,[.v (.int .i64)]⟩,⟨8,false,[.v (.int .i64)]⟩],[.box 9 [.v .str]]⟩ [.keep [true,true,false,false,false,false,false,true,true],.gcA 1,.gcA 1] [.keep [true,true,false,false,false,false,false,true,true],.gcA 1,.gcA 1] n .nil) .nil []) []) .nil []) [])
theorem oN (n:Nat):cO Tryz.prog 242 jS fK (fQ n) :=
 bL (Γ:=bX _ [(243,peM Td Eu (Ij n))] []) (an:=rA n) (co:=[.gc [0]]) Tryz.func242 rfl (by kernel_rfl) aU (aQ (all_cons (bI (Vp n)) (all_nil)) (aR)) mixed (aL _ _ rfl) (by kernel_rfl) (by kernel_rfl) (fun x=>by kernel_rfl)
def zPd (n:Nat):An (bF Oq):=.nil
theorem zFe (n:Nat):Pure Tryz.prog 202 zCm Oq (Sq n) :=
 dQ (Γ:=bX _ [(242,peM jS fK (fQ n))] []) (an:=zPd n) Tryz.func202 rfl (by kernel_rfl) aU (aQ (all_cons (bI (oN n)) (all_nil)) (aR)) mixed (aL _ _ rfl) (fun x=>by kernel_rfl)
def vB (n:Nat):An (bF gW):=.nil
theorem rZ (n:Nat):Pure Tryz.prog 86 lI gW (iG n) :=
 dQ (Γ:=bX _ [] []) (an:=vB n) Tryz.func86 rfl (by kernel_rfl) aU (aQ (all_nil) (aR)) mixed (aL _ _ rfl) (fun x=>by kernel_rfl)
def vC (n:Nat):An (bF gX):=.nil
theorem sD (n:Nat):Pure Tryz.prog 55 lJ gX (iH n) :=
 dQ (Γ:=bX _ [(86,eB lI gW (iG n))] []) (an:=vC n) Tryz.func55 rfl (by kernel_rfl) aU (aQ (all_cons (bP (rZ n)) (all_nil)) (aR)) mixed (aL _ _ rfl) (fun x=>by kernel_rfl)
def Qa (n:Nat):An (bF qX):=.nil
theorem Iw (n:Nat):Pure Tryz.prog 32 zS qX (strings_CutSuffix n) :=
 dQ (Γ:=bX _ [(55,eB lJ gX (iH n))] []) (an:=Qa n) Tryz.func32 rfl (by kernel_rfl) aU (aQ (all_cons (bP (sD n)) (all_nil)) (aR)) mixed (aL _ _ rfl) (fun x=>by kernel_rfl)
def Vq (n:Nat):An (uY.X):=(.mk (.mk .nil (.mk (.loop ⟨51,[⟨0,false,[.ptr 0 0]⟩,⟨12,false,[.v (.slice aD)]⟩,⟨13,false,[.v (.int .i64)]⟩,⟨14,false,[.v (.int .i64)]⟩],[.box 284 [.v (.int .i64),.v (.int .i64),.v (.int .i64),.v (.int .i64),.v (.int .i64),.v .str,.v .str,.v .bool,.v .bool,.v .bool,.v (.slice fV),.v (.slice aD),.v .bool,.v (.slice aK),.v (.slice aC),.v .bool,.v (.slice aP),.own 1],.row 143 aD]⟩ [.keep [true,false,false,false,false,false,false,false,false,false,false,false,true,true,true],.gcA 2,.gcA 2] [.keep [true,false,false,false,false,false,false,false,false,false,false,false,true,true,true],.gcA 2,.gcA 2] n .nil) .nil []) []) .nil [])
theorem Lb (n:Nat):cO Tryz.prog 245 Ev uY (wT n) :=
 bL (Γ:=bX _ [(315,peM yB rY (lU n)),(202,eB zCm Oq (Sq n)),(32,eB zS qX (strings_CutSuffix n))] []) (an:=Vq n) (co:=[.gc [0,1]]) Tryz.func245 rfl (by kernel_rfl) aU (aQ (all_cons (bI (xA n)) (all_cons (bP (zFe n)) (all_cons (bP (Iw n)) (all_nil)))) (aR)) mixed (aL _ _ rfl) (by kernel_rfl) (by kernel_rfl) (fun x=>by kernel_rfl)
def zCw (n:Nat):An (yC.X):=.nil
theorem Qb (n:Nat):cO Tryz.prog 204 Ku yC (Ai n) :=
 bL (Γ:=bX _ [(245,peM Ev uY (wT n))] []) (an:=zCw n) (co:=[.gc [0,1]]) Tryz.func204 rfl (by kernel_rfl) aU (aQ (all_cons (bI (Lb n)) (all_nil)) (aR)) mixed (aL _ _ rfl) (by kernel_rfl) (by kernel_rfl) (fun x=>by kernel_rfl)
theorem yD (n:Nat):cO Tryz.prog 249 sG sH (mJ n) :=
 pG (T:=tab) Tryz.func249 rfl rfl rfl Tryz.underlying136 (by kernel_rfl) aU rfl rfl rfl rfl (by decide) (by decide) (fun _=>rfl)
def Vr (n:Nat):An (uZ.X):=(.mk .nil (.mk .nil (.mk (.mk .nil (.mk (.loop ⟨100,[⟨0,false,[.ptr 0 0]⟩,⟨3,false,[.ptr 2 0]⟩,⟨5,false,[.own 3]⟩,⟨23,false,[.own 4]⟩,⟨24,false,[.v (.int .i64)]⟩,⟨25,false,[.v (.int .i64)]⟩],[.box 284 [.v (.int .i64),.v (.int .i64),.v (.int .i64),.v (.int .i64),.v (.int .i64),.v .str,.v .str,.v .bool,.v .bool,.v .bool,.v (.slice fV),.v (.slice aD),.v .bool,.v (.slice aK),.v (.slice aC),.v .bool,.v (.slice aP),.own 1],.row 143 aD,.box 70 [.v (.int .i64),.v (.int .i64),.v (.int .i64),.v (.int .i64),.v (.int .i64),.v (.int .i64),.v .bool,.v (.int .u8),.v .str,.v .str,.v (.int .i64),.v (.int .i64),.v (.int .i64),.v (.slice Uy),.v .bool,.v .bool],.row 4 .bool,.row 65 wI]⟩ [.keep [true,false,false,true,false,true,false,false,false,false,false,false,false,false,false,false,false,false,false,false,false,false,false,true,true,true],.gcA 2,.gcA 2] [.keep [true,false,false,true,false,true,false,false,false,false,false,false,false,false,false,false,false,false,false,false,false,false,false,true,true,true],.gcA 2,.gcA 2] n .nil) .nil []) []) (.mk (.co [.zZy 5] .nil) .nil []) []) []) [])
theorem Lc (n:Nat):cO Tryz.prog 205 Ew uZ (mE n) :=
 bL (Γ:=bX _ [(248,eB He Sc (uT n)),(249,peM sG sH (mJ n))] []) (an:=Vr n) (co:=[.gc [0,1,6]]) Tryz.func205 rfl (by kernel_rfl) aU (aQ (all_cons (bP (zHl n)) (all_cons (bI (yD n)) (all_nil))) (aR)) mixed (aL _ _ rfl) (by kernel_rfl) (by kernel_rfl) (fun x=>by kernel_rfl)
def Tq (n:Nat):An (sW.X):=.nil
theorem Iy (n:Nat):cO Tryz.prog 315 Aw sW (uU n) :=
 bL (Γ:=bX _ [] []) (an:=Tq n) (co:=[.gc [0,1,2]]) Tryz.func315 rfl (by kernel_rfl) aU (aQ (all_nil) (aR)) mixed (aL _ _ rfl) (by kernel_rfl) (by kernel_rfl) (fun x=>by kernel_rfl)
def Iz (n:Nat):An (nG.X):=.nil
theorem Aj (n:Nat):cO Tryz.prog 244 vL nG (oI n) :=
 bL (Γ:=bX _ [(315,peM Aw sW (uU n))] []) (an:=Iz n) (co:=[.gc [0,1,2]]) Tryz.func244 rfl (by kernel_rfl) aU (aQ (all_cons (bI (Iy n)) (all_nil)) (aR)) mixed (aL _ _ rfl) (by kernel_rfl) (by kernel_rfl) (fun x=>by kernel_rfl)
def Tt (n:Nat):An (sZ.X):=.nil
theorem Ja (n:Nat):cO Tryz.prog 261 Ay sZ (uV n) :=
 bL (Γ:=bX _ [(244,peM vL nG (oI n))] []) (an:=Tt n) (co:=[.gc [0,1,2]]) Tryz.func261 rfl (by kernel_rfl) aU (aQ (all_cons (bI (Aj n)) (all_nil)) (aR)) mixed (aL _ _ rfl) (by kernel_rfl) (by kernel_rfl) (fun x=>by kernel_rfl)
def zPe (n:Nat):An (bF Ot):=(.mk .nil (.mk .nil (.mk (.mk (.mk .nil (.mk .nil (.mk .nil (.mk (.mk (.co [.ownB 3 17 106] .nil) .nil []) (.mk .nil (.mk (.co [.ownB 3 17 106] .nil) .nil []) []) []) []) []) []) .nil []) .nil []) []) [])
theorem zFf (n:Nat):Pure Tryz.prog 161 zCn Ot (nN n) :=
 dQ (Γ:=bX _ [(203,peM Et uX (wS n)),(204,peM Ku yC (Ai n)),(205,peM Ew uZ (mE n)),(206,peH 112 261),(261,peM Ay sZ (uV n))] []) (an:=zPe n) Tryz.func161 rfl (by kernel_rfl) aU (aQ (all_cons (bI (La n)) (all_cons (bI (Qb n)) (all_cons (bI (Lc n)) (all_cons (yIs (zUy.ok _ (by simp [zEr]))) (all_cons (bI (Ja n)) (all_nil)))))) (aR)) mixed (aL _ _ rfl) (fun x=>by kernel_rfl)
def Jb (n:Nat):An (nH.X):=.nil
theorem Ak (n:Nat):cO Tryz.prog 149 vM nH (oJ n) :=
 bL (Γ:=bX _ [] []) (an:=Jb n) (co:=[.gc [0,1,2,3,4,5]]) Tryz.func149 rfl (by kernel_rfl) aU (aQ (all_nil) (aR)) mixed (aL _ _ rfl) (by kernel_rfl) (by kernel_rfl) (fun x=>by kernel_rfl)
def Qc (n:Nat):An (qY.X):=(.mk .nil (.mk .nil (.mk (.join ⟨101,[⟨0,false,[.ptr 0 0]⟩,⟨2,false,[.v (.slice aD)]⟩,⟨6,false,[.v (.int .i64)]⟩],[.box 108 [.v (.slice aG),.v (.slice .bool),.v .bool,.own 1,.own 2,.own 3,.own 4,.v (.clip aD),.v (.slice aP),.own 5,.v (.int .i64),.v (.int .i64),.v (.int .i64)],.row 139 aA,.row 4 .bool,.row 22 (.slice aD),.row 142 aO,.row 3 (.int .i64)]⟩ [.keep [true,false,true,false,false,false,true],.gcA 6] .nil) (.mk (.join ⟨101,[⟨0,false,[.ptr 0 0]⟩,⟨2,false,[.v (.slice aD)]⟩,⟨6,false,[.v (.int .i64)]⟩],[.box 108 [.v (.slice aG),.v (.slice .bool),.v .bool,.own 1,.own 2,.own 3,.own 4,.v (.clip aD),.v (.slice aP),.own 5,.v (.int .i64),.v (.int .i64),.v (.int .i64)],.row 139 aA,.row 4 .bool,.row 22 (.slice aD),.row 142 aO,.row 3 (.int .i64)]⟩ [.keep [true,false,true,false,false,false,true],.gcA 6] .nil) (.mk .nil (.mk (.loop ⟨101,[⟨0,false,[.ptr 0 0]⟩,⟨6,false,[.v (.int .i64)]⟩,⟨79,false,[.v (.slice aD)]⟩,⟨80,false,[.v (.int .i64)]⟩,⟨81,false,[.v (.int .i64)]⟩],[.box 108 [.v (.slice aG),.v (.slice .bool),.v .bool,.own 1,.own 2,.own 3,.own 4,.v (.clip aD),.v (.slice aP),.own 5,.v (.int .i64),.v (.int .i64),.v (.int .i64)],.row 139 aA,.row 4 .bool,.row 22 (.slice aD),.row 142 aO,.row 3 (.int .i64)]⟩ [.keep [true,false,false,false,false,false,true,false,false,false,false,false,false,false,false,false,false,false,false,false,false,false,false,false,false,false,false,false,false,false,false,false,false,false,false,false,false,false,false,false,false,false,false,false,false,false,false,false,false,false,false,false,false,false,false,false,false,false,false,false,false,false,false,false,false,false,false,false,false,false,false,false,false,false,false,false,false,false,false,true,true,true],.gcA 6,.gcA 6] [.keep [true,false,false,false,false,false,true,false,false,false,false,false,false,false,false,false,false,false,false,false,false,false,false,false,false,false,false,false,false,false,false,false,false,false,false,false,false,false,false,false,false,false,false,false,false,false,false,false,false,false,false,false,false,false,false,false,false,false,false,false,false,false,false,false,false,false,false,false,false,false,false,false,false,false,false,false,false,false,false,true,true,true],.gcA 6,.gcA 6] n .nil) .nil []) []) []) []) []) [])
theorem Fv (n:Nat):cO Tryz.prog 162 zT qY (jZ n) :=
 bL (Γ:=bX _ [(149,peM vM nH (oJ n)),(9,eB wF wG (jC n))] []) (an:=Qc n) (co:=[.gc [0,1,2,3,4,5]]) Tryz.func162 rfl (by kernel_rfl) aU (aQ (all_cons (bI (Ak n)) (all_cons (bP (uS n)) (all_nil))) (aR)) mixed (aL _ _ rfl) (by kernel_rfl) (by kernel_rfl) (fun x=>by kernel_rfl)
def Jc (n:Nat):An (nI.X):=.nil
theorem Al (n:Nat):cO Tryz.prog 149 vN nI (kL n) :=
 bL (Γ:=bX _ [] []) (an:=Jc n) (co:=[.gc [0,1,2,3,4,5]]) Tryz.func149 rfl (by kernel_rfl) aU (aQ (all_nil) (aR)) mixed (aL _ _ rfl) (by kernel_rfl) (by kernel_rfl) (fun x=>by kernel_rfl)
def Jd (n:Nat):An (nJ.X):=.nil
theorem Am (n:Nat):cO Tryz.prog 164 vO nJ (oK n) :=
 bL (Γ:=bX _ [(208,eB Im yV (wK n))] []) (an:=Jd n) (co:=[.gc [0,1,2,3,4,5]]) Tryz.func164 rfl (by kernel_rfl) aU (aQ (all_cons (bP (Hu n)) (all_nil)) (aR)) mixed (aL _ _ rfl) (by kernel_rfl) (by kernel_rfl) (fun x=>by kernel_rfl)
def Ld (n:Nat):An (oM.X):=.nil
theorem Cu (n:Nat):cO Tryz.prog 108 wU oM (pQ n) :=
 bL (Γ:=bX _ [(164,peM vO nJ (oK n))] []) (an:=Ld n) (co:=[.gc [0,1,2,3,4,5]]) Tryz.func108 rfl (by kernel_rfl) aU (aQ (all_cons (bI (Am n)) (all_nil)) (aR)) mixed (aL _ _ rfl) (by kernel_rfl) (by kernel_rfl) (fun x=>by kernel_rfl)
def Tv (n:Nat):An (tC.X):=.nil
theorem Je (n:Nat):cO Tryz.prog 105 Az tC (kZ n) :=
 bL (Γ:=bX _ [(161,eB zCn Ot (nN n)),(162,peM zT qY (jZ n)),(149,peM vN nI (kL n)),(108,peM wU oM (pQ n))] []) (an:=Tv n) (co:=[.gc [0,1,2,3,4,5]]) Tryz.func105 rfl (by kernel_rfl) aU (aQ (all_cons (bP (zFf n)) (all_cons (bI (Fv n)) (all_cons (bI (Al n)) (all_cons (bI (Cu n)) (all_nil))))) (aR)) mixed (aL _ _ rfl) (by kernel_rfl) (by kernel_rfl) (fun x=>by kernel_rfl)
def Qd (n:Nat):An (qZ.X):=.nil
theorem Fz (n:Nat):cO Tryz.prog 106 zU qZ (mQ n) :=
 bL (Γ:=bX _ [(163,eB Om Cr (nM n))] []) (an:=Qd n) (co:=[.gc [0,1,2,3,4,5]]) Tryz.func106 rfl (by kernel_rfl) aU (aQ (all_cons (bP (Kw n)) (all_nil)) (aR)) mixed (aL _ _ rfl) (by kernel_rfl) (by kernel_rfl) (fun x=>by kernel_rfl)
def zPf (n:Nat):An (bF Ou):=.nil
theorem zFg (n:Nat):Pure Tryz.prog 107 zCo Ou (Hr n) :=
 dQ (Γ:=bX _ [] []) (an:=zPf n) Tryz.func107 rfl (by kernel_rfl) aU (aQ (all_nil) (aR)) mixed (aL _ _ rfl) (fun x=>by kernel_rfl)
def zPg (n:Nat):An (bF Ov):=(.mk .nil (.scope 0 .nil .nil) [])
theorem zFh (n:Nat):Pure Tryz.prog 68 zCp Ov (iM n) :=
 dQ (Γ:=bX _ [(67,eB Oo Ct (gM n)),(103,peM Av sU (kX n)),(104,peM wZ pR (mD n)),(105,peM Az tC (kZ n)),(106,peM zU qZ (mQ n)),(107,eB zCo Ou (Hr n)),(108,peM sV mR (kY n))] []) (an:=zPg n) Tryz.func68 rfl (by kernel_rfl) aU (aQ (all_cons (bP (Ky n)) (all_cons (bI (Iu n)) (all_cons (bI (Ez n)) (all_cons (bI (Je n)) (all_cons (bI (Fz n)) (all_cons (bP (zFg n)) (all_cons (bI (tZ n)) (all_nil)))))))) (aR)) mixed (aL _ _ rfl) (fun x=>by kernel_rfl)
def zVu (n:Nat):An (bF Te):=(.mk .nil (.mk (.mk .nil (.mk (.loop ⟨19,[⟨1,false,[.v (.int .i64)]⟩,⟨2,false,[.ptr 0 0]⟩,⟨4,false,[.ptr 1 0]⟩,⟨6,false,[.v (.int .i64)]⟩],[.box 108 [.v (.slice aG),.v (.slice .bool),.v .bool,.v (.slice aA),.v (.slice .bool),.v (.slice (.slice aD)),.v (.slice aO),.v (.slice aD),.v (.slice aP),.v (.slice (.int .i64)),.v (.int .i64),.v (.int .i64),.v (.int .i64)],.box 108 [.v (.slice aG),.v (.slice .bool),.v .bool,.own 2,.v (.slice .bool),.v (.slice (.slice aD)),.v (.slice aO),.own 3,.v (.slice aP),.v (.slice (.int .i64)),.v (.int .i64),.v (.int .i64),.v (.int .i64)],.row 139 aA,.row 143 aD]⟩ [.keep [false,true,true,false,true,false,true],.gcA 0,.ownB 1 3 103,.ownB 1 7 106,.gcA 0] [.keep [false,true,true,false,true,false,true],.gcA 0,.gcA 0] n .nil) .nil []) []) .nil []) [])
theorem zHr (n:Nat):Pure Tryz.prog 42 zGz Te (Eo n) :=
 dQ (Γ:=bX _ [(67,eB Oo Ct (gM n)),(68,eB zCp Ov (iM n))] []) (an:=zVu n) Tryz.func42 rfl (by kernel_rfl) aU (aQ (all_cons (bP (Ky n)) (all_cons (bP (zFh n)) (all_nil))) (aR)) mixed (aL _ _ rfl) (fun x=>by kernel_rfl)
def wX (n:Nat):An (fM.X):=.nil
theorem kM (n:Nat):cO Tryz.prog 30 jA fM (bR n) :=
 bL (Γ:=bX _ [(54,peM rR rT (jV n))] []) (an:=wX n) (co:=[.gc [0,1]]) Tryz.func30 rfl (by kernel_rfl) aU (aQ (all_cons (bI (wY n)) (all_nil)) (aR)) mixed (aL _ _ rfl) (by kernel_rfl) (by kernel_rfl) (fun x=>by kernel_rfl)
def zNo (n:Nat):An (bF Io):=(.mk .nil (.mk .nil (.mk .nil (.mk (.mk .nil (.mk (.loop ⟨23,[⟨3,false,[.ptr 0 0]⟩,⟨4,false,[.v .str]⟩,⟨7,false,[.v (.slice aD)]⟩,⟨8,false,[.v (.int .i64)]⟩,⟨9,false,[.v (.int .i64)]⟩],[.box 78 [.bQ 0 0,.own 1],.row 5 (.int .u8)]⟩ [.keep [false,false,false,true,true,false,false,true,true,true],.gcA 0,.ownB 0 1 31,.orn 0 0 0 0,.gcA 0] [.keep [false,false,false,true,true,false,false,true,true,true],.gcA 0,.gcA 0] n .nil) .nil []) []) .nil []) []) []) [])
theorem zCx (n:Nat):Pure Tryz.prog 43 Wt Io (rW n) :=
 dQ (Γ:=bX _ [(30,peM jA fM (bR n)),(26,peM pY lY (Builder_String n))] []) (an:=zNo n) Tryz.func43 rfl (by kernel_rfl) aU (aQ (all_cons (bI (kM n)) (all_cons (bI (wE n)) (all_nil))) (aR)) mixed (aL _ _ rfl) (fun x=>by kernel_rfl)
def zHs (n:Nat):An (Ey.X):=.nil
theorem Vs (n:Nat):cO Tryz.prog 40 Tf Ey (yU n) :=
 bL (Γ:=bX _ [(41,eB zGy Tc (Ef n)),(42,eB zGz Te (Eo n)),(43,eB Wt Io (rW n))] []) (an:=zHs n) (co:=[.gc [0,1,2,3]]) Tryz.func40 rfl (by kernel_rfl) aU (aQ (all_cons (bP (zHp n)) (all_cons (bP (zHr n)) (all_cons (bP (zCx n)) (all_nil)))) (aR)) mixed (aL _ _ rfl) (by kernel_rfl) (by kernel_rfl) (fun x=>by kernel_rfl)
def zPh (n:Nat):An (bF Ow):=.nil
theorem zFi (n:Nat):Pure Tryz.prog 64 zCq Ow (Sz n) :=
 dQ (Γ:=bX _ [] []) (an:=zPh n) Tryz.func64 rfl (by kernel_rfl) aU (aQ (all_nil) (aR)) mixed (aL _ _ rfl) (fun x=>by kernel_rfl)
def zX (n:Nat):An (jW.X):=.nil
theorem vP (n:Nat):cO Tryz.prog 39 oP jW (gU n) :=
 bL (Γ:=bX _ [(63,eB uI Ag (kV n)),(40,peM Tf Ey (yU n)),(64,eB zCq Ow (Sz n))] []) (an:=zX n) (co:=[.gc [0,1,2,3]]) Tryz.func39 rfl (by kernel_rfl) aU (aQ (all_cons (bP (Vl n)) (all_cons (bI (Vs n)) (all_cons (bP (zFi n)) (all_nil)))) (aR)) mixed (aL _ _ rfl) (by kernel_rfl) (by kernel_rfl) (fun x=>by kernel_rfl)
def zPi (n:Nat):An (bF Ox):=.nil
theorem zFj (n:Nat):Pure Tryz.prog 21 zCr Ox (Ht n) :=
 dQ (Γ:=bX _ [(39,peM oP jW (gU n))] []) (an:=zPi n) Tryz.func21 rfl (by kernel_rfl) aU (aQ (all_cons (bI (vP n)) (all_nil)) (aR)) mixed (aL _ _ rfl) (fun x=>by kernel_rfl)
def zVv (n:Nat):An (bF Tg):=.nil
theorem zHt (n:Nat):Pure Tryz.prog 11 zHa Tg (Ep n) :=
 dQ (Γ:=bX _ [(21,eB zCr Ox (Ht n))] []) (an:=zVv n) Tryz.func11 rfl (by kernel_rfl) aU (aQ (all_cons (bP (zFj n)) (all_nil)) (aR)) mixed (aL _ _ rfl) (fun x=>by kernel_rfl)
def zY (n:Nat):An (jX.X):=.nil
theorem vQ (n:Nat):cO Tryz.prog 31 oQ jX (eU n) :=
 bL (Γ:=bX _ [(54,peM rR rT (jV n))] []) (an:=zY n) (co:=[.gc [0,1]]) Tryz.func31 rfl (by kernel_rfl) aU (aQ (all_cons (bI (wY n)) (all_nil)) (aR)) mixed (aL _ _ rfl) (by kernel_rfl) (by kernel_rfl) (fun x=>by kernel_rfl)
def zNp (n:Nat):An (bF Ip):=(.mk .nil (.mk .nil (.mk (.mk .nil (.mk (.loop ⟨20,[⟨3,false,[.ptr 0 0]⟩,⟨6,false,[.v (.slice aD)]⟩,⟨7,false,[.v (.int .i64)]⟩,⟨8,false,[.v (.int .i64)]⟩],[.box 78 [.bQ 0 0,.own 1],.row 5 (.int .u8)]⟩ [.keep [false,false,false,true,false,false,true,true,true],.gcA 0,.ownB 0 1 31,.orn 0 0 0 0,.gcA 0] [.keep [false,false,false,true,false,false,true,true,true],.gcA 0,.gcA 0] n .nil) .nil []) []) .nil []) []) [])
theorem zCy (n:Nat):Pure Tryz.prog 18 Wu Ip (rX n) :=
 dQ (Γ:=bX _ [(30,peM jA fM (bR n)),(31,peM oQ jX (eU n)),(26,peM pY lY (Builder_String n))] []) (an:=zNp n) Tryz.func18 rfl (by kernel_rfl) aU (aQ (all_cons (bI (kM n)) (all_cons (bI (vQ n)) (all_cons (bI (wE n)) (all_nil)))) (aR)) mixed (aL _ _ rfl) (fun x=>by kernel_rfl)
def zFk (n:Nat):An (bF Pk):=(.mk .nil (.mk .nil (.mk .nil (.mk .nil (.mk .nil (.mk (.mk .nil (.mk (.loop ⟨50,[⟨3,false,[.v (.slice aD)]⟩,⟨4,false,[.v .str]⟩,⟨5,false,[.v .bool]⟩,⟨6,false,[.own 0]⟩,⟨7,false,[.v (.int .i64)]⟩],[.row 28 aD]⟩ [.keep [false,false,false,true,true,true,true,true],.gcA 0,.zZx 6 22,.gcA 0] [.keep [false,false,false,true,true,true,true,true],.gcA 0,.gcA 0] n .nil) .nil []) []) .nil []) []) []) []) []) [])
theorem Vh (n:Nat):Pure Tryz.prog 6 zHn Pk (Er n) :=
 dQ (Γ:=bX _ [(9,eB wF wG (jC n)),(10,eB zGt zGu (showntop n)),(11,eB zHa Tg (Ep n)),(18,eB Wu Ip (rX n))] []) (an:=zFk n) Tryz.func6 rfl (by kernel_rfl) aU (aQ (all_cons (bP (uS n)) (all_cons (bP (zHm n)) (all_cons (bP (zHt n)) (all_cons (bP (zCy n)) (all_nil))))) (aR)) mixed (aL _ _ rfl) (fun x=>by kernel_rfl)
end Go.Dec
