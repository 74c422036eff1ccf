/- Part of a proof over this seat: a library of my own, and what it says of this seat. No statement is proved here. -/
import Derived.Test.YtdgneppobefaoaaGreatDoorProg
import Derived.Test.YtdgneppobefaoaaGreatDoorPartBT
import Derived.Test.YtdgneppobefaoaaGreatDoorPartBS
import Derived.KernelRfl
namespace Go.Dec
open Go.Proofs
set_option linter.unusedVariables false
def tab:Tab:=[(3,⟨.int .i64,1,8,[.val (.int .i64) 0],some (.int .i64),false⟩),
 (4,⟨.bool,1,1,[.val .bool false],some .bool,false⟩),
 (5,⟨.int .u8,1,1,[.val (.int .u8) 0],some (.int .u8),false⟩),
 (9,⟨.str,1,16,[.val .str []],some .str,false⟩),
 (22,⟨.slice 28,1,24,[.bF],some (.slice aI),false⟩),
 (28,⟨.struct [(0,9),(1,4)],2,24,[.val .str [],.val .bool false],some aI,true⟩),
 (31,⟨.slice 5,1,24,[.bF],some (.slice (.int .u8)),false⟩),
 (32,⟨.slice 183,1,24,[.bF],some (.slice aR),false⟩),
 (33,⟨.slice 70,1,24,[.bF],some (.slice aG),false⟩),
 (35,⟨.struct [(0,4),(1,32),(2,33)],3,56,[.val .bool false,.bF,.bF],some vH,false⟩),
 (36,⟨.int .i64,1,8,[.val (.int .i64) 0],some (.int .i64),false⟩),
 (40,⟨.slice 45,1,24,[.bF],some (.slice bC),false⟩),
 (41,⟨.slice 3,1,24,[.bF],some (.slice (.int .i64)),false⟩),
 (43,⟨.struct [(0,9),(1,40),(2,41),(3,3),(4,3)],5,80,[.val .str [],.bF,.bF,.val (.int .i64) 0,.val (.int .i64) 0],some vW,false⟩),
 (45,⟨.struct [(0,9),(1,9)],2,32,[.val .str [],.val .str []],some bC,true⟩),
 (65,⟨.struct [(0,3),(1,3),(2,3)],3,24,[.val (.int .i64) 0,.val (.int .i64) 0,.val (.int .i64) 0],some xW,true⟩),
 (67,⟨.struct [(0,65),(3,65),(6,4)],7,56,[.val (.int .i64) 0,.val (.int .i64) 0,.val (.int .i64) 0,.val (.int .i64) 0,.val (.int .i64) 0,.val (.int .i64) 0,.val .bool false],some Nh,true⟩),
 (68,⟨.slice 243,1,24,[.bF],some (.slice Xu),false⟩),
 (70,⟨.struct [(0,67),(7,5),(8,9),(9,9),(10,3),(11,3),(12,3),(13,68),(14,4),(15,4)],16,152,[.val (.int .i64) 0,.val (.int .i64) 0,.val (.int .i64) 0,.val (.int .i64) 0,.val (.int .i64) 0,.val (.int .i64) 0,.val .bool false,.val (.int .u8) 0,.val .str [],.val .str [],.val (.int .i64) 0,.val (.int .i64) 0,.val (.int .i64) 0,.bF,.val .bool false,.val .bool false],some aG,false⟩),
 (76,⟨.ptr 78,1,8,[.jZ],none,false⟩),
 (78,⟨.struct [(0,76),(1,31)],2,32,[.jZ,.bF],none,false⟩),
 (87,⟨.iface false,1,16,[.val .err false],some .err,false⟩),
 (92,⟨.int .u64,1,8,[.val (.int .u64) 0],some (.int .u64),false⟩),
 (99,⟨.slice 135,1,24,[.bF],some (.slice aM),false⟩),
 (101,⟨.struct [(0,9),(1,40),(2,41),(3,3),(4,3)],5,80,[.val .str [],.bF,.bF,.val (.int .i64) 0,.val (.int .i64) 0],some vW,false⟩),
 (102,⟨.slice 4,1,24,[.bF],some (.slice .bool),false⟩),
 (103,⟨.slice 139,1,24,[.bF],some (.slice aC),false⟩),
 (104,⟨.slice 22,1,24,[.bF],some (.slice (.slice aI)),false⟩),
 (105,⟨.slice 142,1,24,[.bF],some (.slice aY),false⟩),
 (106,⟨.slice 143,1,24,[.bF],some (.slice aI),false⟩),
 (108,⟨.struct [(0,99),(1,102),(2,4),(3,103),(4,102),(5,104),(6,105),(7,106),(8,40),(9,41),(10,3),(11,3),(12,3)],13,248,[.bF,.bF,.val .bool false,.bF,.bF,.bF,.bF,.bF,.bF,.bF,.val (.int .i64) 0,.val (.int .i64) 0,.val (.int .i64) 0],some iC,false⟩),
 (113,⟨.func,1,8,[.val .opq Value.nilFunc],some .opq,false⟩),
 (133,⟨.slice 9,1,24,[.bF],some (.slice .str),false⟩),
 (135,⟨.struct [(0,35),(3,4),(4,133),(5,4)],6,96,[.val .bool false,.bF,.bF,.val .bool false,.bF,.val .bool false],some aM,false⟩),
 (136,⟨.slice 334,1,24,[.bF],some (.slice iR),false⟩),
 (137,⟨.slice 366,1,24,[.bF],some (.slice aI),false⟩),
 (139,⟨.struct [(0,3),(1,3),(2,3),(3,3),(4,3),(5,9),(6,9),(7,4),(8,4),(9,4),(10,136),(11,137)],12,128,[.val (.int .i64) 0,.val (.int .i64) 0,.val (.int .i64) 0,.val (.int .i64) 0,.val (.int .i64) 0,.val .str [],.val .str [],.val .bool false,.val .bool false,.val .bool false,.bF,.bF],some aC,false⟩),
 (142,⟨.struct [(0,9),(1,4),(2,4)],3,24,[.val .str [],.val .bool false,.val .bool false],some aY,true⟩),
 (143,⟨.struct [(0,9),(1,4)],2,24,[.val .str [],.val .bool false],some aI,true⟩),
 (169,⟨.func,1,8,[.val .opq Value.nilFunc],some .opq,false⟩),
 (171,⟨.ptr 108,1,8,[.jZ],none,false⟩),
 (181,⟨.slice 187,1,24,[.bF],some (.slice Gw),false⟩),
 (183,⟨.struct [(0,181),(1,4)],2,32,[.bF,.val .bool false],some aR,false⟩),
 (185,⟨.arr 4 92,4,32,[.val (.arr 4 (.int .u64)) ([0,0,0,0])],some (.arr 4 (.int .u64)),true⟩),
 (187,⟨.struct [(0,3),(1,185),(5,3),(6,3),(7,3),(8,3),(9,3)],10,80,[.val (.int .i64) 0,.val (.arr 4 (.int .u64)) ([0,0,0,0]),.val (.int .i64) 0,.val (.int .i64) 0,.val (.int .i64) 0,.val (.int .i64) 0,.val (.int .i64) 0],some Gw,true⟩),
 (243,⟨.struct [(0,9),(1,3)],2,24,[.val .str [],.val (.int .i64) 0],some Xu,true⟩),
 (282,⟨.ptr 284,1,8,[.jZ],none,false⟩),
 (284,⟨.struct [(0,139),(12,35),(15,4),(16,40),(17,106)],18,240,[.val (.int .i64) 0,.val (.int .i64) 0,.val (.int .i64) 0,.val (.int .i64) 0,.val (.int .i64) 0,.val .str [],.val .str [],.val .bool false,.val .bool false,.val .bool false,.bF,.bF,.val .bool false,.bF,.bF,.val .bool false,.bF,.bF],some zSx,false⟩),
 (329,⟨.func,1,8,[.val .opq Value.nilFunc],some .opq,false⟩),
 (330,⟨.slice 65,1,24,[.bF],some (.slice xW),false⟩),
 (334,⟨.struct [(0,4),(1,3)],2,16,[.val .bool false,.val (.int .i64) 0],some iR,true⟩),
 (338,⟨.struct [(0,3),(1,4),(2,102)],3,40,[.val (.int .i64) 0,.val .bool false,.bF],some yKa,false⟩),
 (366,⟨.struct [(0,9),(1,4)],2,24,[.val .str [],.val .bool false],some aI,true⟩)]
theorem aZ:bK Tryz.prog tab:=zMl (by kernel_rfl)
theorem mixed:Tryz.prog.follows .mixedOrders=true:=by kernel_rfl
abbrev Hr:Sh:=⟨2,[⟨0,true,[.v .bool,.v (.slice aR),.v (.slice aG),.v .bool,.v (.slice .str),.v .bool]⟩,⟨1,false,[.ptr 0 0]⟩],[.box 135 [.v .bool,.v (.slice aR),.v (.slice aG),.v .bool,.v (.slice .str),.v .bool]]⟩
abbrev wI:Sh:=⟨1,[⟨0,false,[.v .bool]⟩],[.box 135 [.v .bool,.v (.slice aR),.v (.slice aG),.v .bool,.v (.slice .str),.v .bool]]⟩
abbrev jG:Sh:=⟨2,[⟨0,false,[.v (.slice aM)]⟩,⟨1,false,[.clo 100 [(0,0)]]⟩],[.box 135 [.v .bool,.v (.slice aR),.v (.slice aG),.v .bool,.v (.slice .str),.v .bool]]⟩
abbrev fH:Sh:=⟨1,[⟨0,false,[.v (.int .i64)]⟩],[.box 135 [.v .bool,.v (.slice aR),.v (.slice aG),.v .bool,.v (.slice .str),.v .bool]]⟩
abbrev iF:Sh:=⟨2,[⟨0,false,[.v (.slice aM)]⟩,⟨1,false,[.clo 100 [(0,0)]]⟩],[.box 135 [.v .bool,.v (.slice aR),.v (.slice aG),.v .bool,.v (.slice .str),.v .bool]]⟩
abbrev eO:Sh:=⟨1,[⟨0,false,[.v .bool]⟩],[.box 135 [.v .bool,.v (.slice aR),.v (.slice aG),.v .bool,.v (.slice .str),.v .bool]]⟩
abbrev Nt:List Ty:=[.slice aM]
abbrev zP:List Ty:=[.slice .bool]
abbrev zKi:List Ty:=[vH]
abbrev Vx:List Ty:=[aC]
abbrev zKj:List Ty:=[.slice aM,.str,.slice bC,.bool]
abbrev Vy:List Ty:=[iC,.int .i64]
abbrev Bp:Sh:=⟨2,[⟨0,false,[.ptr 0 0]⟩,⟨1,false,[.v (.int .i64)]⟩],[.box 108 [.v (.slice aM),.v (.slice .bool),.v .bool,.v (.slice aC),.v (.slice .bool),.v (.slice (.slice aI)),.v (.slice aY),.v (.slice aI),.v (.slice bC),.v (.slice (.int .i64)),.v (.int .i64),.v (.int .i64),.v (.int .i64)]]⟩
abbrev sM:Sh:=⟨1,[⟨0,false,[.v .bool]⟩],[.box 108 [.v (.slice aM),.v (.slice .bool),.v .bool,.v (.slice aC),.v (.slice .bool),.v (.slice (.slice aI)),.v (.slice aY),.v (.slice aI),.v (.slice bC),.v (.slice (.int .i64)),.v (.int .i64),.v (.int .i64),.v (.int .i64)]]⟩
abbrev Rp:List Ty:=[aY]
abbrev Ew:List Ty:=[aY,aI,.bool,.bool]
abbrev Zi:List Ty:=[aY]
abbrev La:List Ty:=[aI,.bool,.bool]
abbrev Zj:List Ty:=[aY]
abbrev Lb:List Ty:=[.bool]
abbrev Db:Sh:=⟨2,[⟨0,false,[.ptr 0 0]⟩,⟨1,false,[.v (.int .i64)]⟩],[.box 108 [.v (.slice aM),.v (.slice .bool),.v .bool,.v (.slice aC),.v (.slice .bool),.v (.slice (.slice aI)),.v (.slice aY),.v (.slice aI),.v (.slice bC),.v (.slice (.int .i64)),.v (.int .i64),.v (.int .i64),.v (.int .i64)]]⟩
abbrev uT:Sh:=⟨1,[⟨0,false,[.v .bool]⟩],[.box 108 [.v (.slice aM),.v (.slice .bool),.v .bool,.v (.slice aC),.v (.slice .bool),.v (.slice (.slice aI)),.v (.slice aY),.v (.slice aI),.v (.slice bC),.v (.slice (.int .i64)),.v (.int .i64),.v (.int .i64),.v (.int .i64)]]⟩
abbrev Rq:List Ty:=[iC]
abbrev Ey:List Ty:=[.int .i64]
abbrev vI:Sh:=Ba aC
abbrev vJ:Sh:=vD 139 aC
abbrev Bq:Sh:=Ba .bool
abbrev Br:Sh:=vD 4 .bool
abbrev sN:Sh:=Ba (.slice aI)
abbrev sO:Sh:=vD 22 (.slice aI)
abbrev vK:Sh:=Ba aY
abbrev vL:Sh:=vD 142 aY
abbrev Dc:Sh:=Ba (.int .i64)
abbrev Df:Sh:=vD 3 (.int .i64)
abbrev Dh:List Ty:=[.slice aI]
abbrev uU:List Ty:=[.clip aI]
abbrev Di:Sh:=⟨1,[⟨0,true,[.v (.slice aM),.v (.slice .bool),.v .bool,.v (.slice aC),.v (.slice .bool),.v (.slice (.slice aI)),.v (.slice aY),.v (.slice aI),.v (.slice bC),.v (.slice (.int .i64)),.v (.int .i64),.v (.int .i64),.v (.int .i64)]⟩],[]⟩
abbrev uV:Sh:=⟨1,[⟨0,false,[.ptr 0 0]⟩],[.box 108 [.v (.slice aM),.v (.slice .bool),.v .bool,.own 1,.own 2,.own 3,.own 4,.v (.clip aI),.v (.slice bC),.own 5,.v (.int .i64),.v (.int .i64),.v (.int .i64)],.row 139 aC,.row 4 .bool,.row 22 (.slice aI),.row 142 aY,.row 3 (.int .i64)]⟩
abbrev Lc:List Ty:=[aY]
abbrev Am:List Ty:=[aY]
abbrev Bu:Sh:=⟨2,[⟨0,false,[.ptr 0 0]⟩,⟨1,false,[.v (.int .i64)]⟩],[.box 108 [.v (.slice aM),.v (.slice .bool),.v .bool,.own 1,.own 2,.own 3,.own 4,.v (.clip aI),.v (.slice bC),.own 5,.v (.int .i64),.v (.int .i64),.v (.int .i64)],.row 139 aC,.row 4 .bool,.row 22 (.slice aI),.row 142 aY,.row 3 (.int .i64)]⟩
abbrev sP:Sh:=⟨0,[],[.box 108 [.v (.slice aM),.v (.slice .bool),.v .bool,.own 1,.own 2,.own 3,.own 4,.v (.clip aI),.v (.slice bC),.own 5,.v (.int .i64),.v (.int .i64),.v (.int .i64)],.row 139 aC,.row 4 .bool,.row 22 (.slice aI),.row 142 aY,.row 3 (.int .i64)]⟩
abbrev uW:Sh:=⟨3,[⟨0,false,[.ptr 0 0]⟩,⟨1,false,[.v (.int .i64)]⟩,⟨2,false,[.v (.int .i64)]⟩],[.box 108 [.v (.slice aM),.v (.slice .bool),.v .bool,.own 1,.own 2,.own 3,.own 4,.v (.clip aI),.v (.slice bC),.own 5,.v (.int .i64),.v (.int .i64),.v (.int .i64)],.row 139 aC,.row 4 .bool,.row 22 (.slice aI),.row 142 aY,.row 3 (.int .i64)]⟩
abbrev oI:Sh:=⟨0,[],[.box 108 [.v (.slice aM),.v (.slice .bool),.v .bool,.own 1,.own 2,.own 3,.own 4,.v (.clip aI),.v (.slice bC),.own 5,.v (.int .i64),.v (.int .i64),.v (.int .i64)],.row 139 aC,.row 4 .bool,.row 22 (.slice aI),.row 142 aY,.row 3 (.int .i64)]⟩
abbrev yN:Sh:=⟨2,[⟨0,false,[.ptr 0 0]⟩,⟨1,false,[.v (.int .i64)]⟩],[.box 108 [.v (.slice aM),.v (.slice .bool),.v .bool,.own 1,.own 2,.own 3,.own 4,.v (.clip aI),.v (.slice bC),.own 5,.v (.int .i64),.v (.int .i64),.v (.int .i64)],.row 139 aC,.row 4 .bool,.row 22 (.slice aI),.row 142 aY,.row 3 (.int .i64)]⟩
abbrev rF:Sh:=⟨0,[],[.box 108 [.v (.slice aM),.v (.slice .bool),.v .bool,.own 1,.own 2,.own 3,.own 4,.v (.clip aI),.v (.slice bC),.own 5,.v (.int .i64),.v (.int .i64),.v (.int .i64)],.row 139 aC,.row 4 .bool,.row 22 (.slice aI),.row 142 aY,.row 3 (.int .i64)]⟩
abbrev zQ:Sh:=⟨3,[⟨0,false,[.ptr 0 0]⟩,⟨1,false,[.v .str]⟩,⟨2,false,[.v .bool]⟩],[.box 284 [.v (.int .i64),.v (.int .i64),.v (.int .i64),.v (.int .i64),.v (.int .i64),.v .str,.v .str,.v .bool,.v .bool,.v .bool,.v (.slice iR),.v (.slice aI),.v .bool,.v (.slice aR),.v (.slice aG),.v .bool,.v (.slice bC),.own 1],.row 143 aI]⟩
abbrev uF:Sh:=⟨0,[],[.box 284 [.v (.int .i64),.v (.int .i64),.v (.int .i64),.v (.int .i64),.v (.int .i64),.v .str,.v .str,.v .bool,.v .bool,.v .bool,.v (.slice iR),.v (.slice aI),.v .bool,.v (.slice aR),.v (.slice aG),.v .bool,.v (.slice bC),.own 1],.row 143 aI]⟩
abbrev Bv:Sh:=⟨1,[⟨0,false,[.ptr 0 0]⟩],[.box 284 [.v (.int .i64),.v (.int .i64),.v (.int .i64),.v (.int .i64),.v (.int .i64),.v .str,.v .str,.v .bool,.v .bool,.v .bool,.v (.slice iR),.v (.slice aI),.v .bool,.v (.slice aR),.v (.slice aG),.v .bool,.v (.slice bC),.own 1],.row 143 aI]⟩
abbrev sQ:Sh:=⟨0,[],[.box 284 [.v (.int .i64),.v (.int .i64),.v (.int .i64),.v (.int .i64),.v (.int .i64),.v .str,.v .str,.v .bool,.v .bool,.v .bool,.v (.slice iR),.v (.slice aI),.v .bool,.v (.slice aR),.v (.slice aG),.v .bool,.v (.slice bC),.own 1],.row 143 aI]⟩
abbrev Ht:Sh:=⟨1,[⟨0,false,[.ptr 0 0]⟩],[.box 284 [.v (.int .i64),.v (.int .i64),.v (.int .i64),.v (.int .i64),.v (.int .i64),.v .str,.v .str,.v .bool,.v .bool,.v .bool,.v (.slice iR),.v (.slice aI),.v .bool,.v (.slice aR),.v (.slice aG),.v .bool,.v (.slice bC),.own 1],.row 143 aI]⟩
abbrev wJ:Sh:=⟨0,[],[.box 284 [.v (.int .i64),.v (.int .i64),.v (.int .i64),.v (.int .i64),.v (.int .i64),.v .str,.v .str,.v .bool,.v .bool,.v .bool,.v (.slice iR),.v (.slice aI),.v .bool,.v (.slice aR),.v (.slice aG),.v .bool,.v (.slice bC),.own 1],.row 143 aI]⟩
abbrev Vz:Sh:=⟨2,[⟨0,true,[.v .str,.v .str]⟩,⟨1,false,[.ptr 0 0]⟩],[.box 9 [.v .str]]⟩
abbrev Hu:Sh:=⟨1,[⟨0,false,[.v .bool]⟩],[.box 9 [.v .str]]⟩
abbrev kP:Sh:=⟨2,[⟨0,false,[.v (.slice bC)]⟩,⟨1,false,[.clo 243 [(0,0)]]⟩],[.box 9 [.v .str]]⟩
abbrev gQ:Sh:=⟨1,[⟨0,false,[.v (.int .i64)]⟩],[.box 9 [.v .str]]⟩
abbrev zEx:List Ty:=[.slice bC,.str]
abbrev Rs:List Ty:=[.str,.bool]
abbrev iV:List Ty:=[.str,.str]
abbrev fO:List Ty:=[.bool]
abbrev mK:List Ty:=[.str,.str]
abbrev iW:List Ty:=[.str,.bool]
abbrev sS:List Ty:=[.str,.str]
abbrev nQ:List Ty:=[.str,.bool]
abbrev Hw:Sh:=⟨1,[⟨0,false,[.ptr 0 0]⟩],[.box 284 [.v (.int .i64),.v (.int .i64),.v (.int .i64),.v (.int .i64),.v (.int .i64),.v .str,.v .str,.v .bool,.v .bool,.v .bool,.v (.slice iR),.v (.slice aI),.v .bool,.v (.slice aR),.v (.slice aG),.v .bool,.v (.slice bC),.own 1],.row 143 aI]⟩
abbrev wK:Sh:=⟨0,[],[.box 284 [.v (.int .i64),.v (.int .i64),.v (.int .i64),.v (.int .i64),.v (.int .i64),.v .str,.v .str,.v .bool,.v .bool,.v .bool,.v (.slice iR),.v (.slice aI),.v .bool,.v (.slice aR),.v (.slice aG),.v .bool,.v (.slice bC),.own 1],.row 143 aI]⟩
abbrev Nu:Sh:=⟨1,[⟨0,false,[.ptr 0 0]⟩],[.box 284 [.v (.int .i64),.v (.int .i64),.v (.int .i64),.v (.int .i64),.v (.int .i64),.v .str,.v .str,.v .bool,.v .bool,.v .bool,.v (.slice iR),.v (.slice aI),.v .bool,.v (.slice aR),.v (.slice aG),.v .bool,.v (.slice bC),.own 1],.row 143 aI]⟩
abbrev zR:Sh:=⟨0,[],[.box 284 [.v (.int .i64),.v (.int .i64),.v (.int .i64),.v (.int .i64),.v (.int .i64),.v .str,.v .str,.v .bool,.v .bool,.v .bool,.v (.slice iR),.v (.slice aI),.v .bool,.v (.slice aR),.v (.slice aG),.v .bool,.v (.slice bC),.own 1],.row 143 aI]⟩
abbrev uK:Sh:=Ba iR
abbrev uL:Sh:=vD 334 iR
abbrev Hy:Sh:=⟨2,[⟨0,false,[.ptr 0 0]⟩,⟨1,true,[.v (.int .i64),.v (.int .i64),.v (.int .i64),.v (.int .i64),.v (.int .i64),.v (.int .i64),.v .bool,.v (.int .u8),.v .str,.v .str,.v (.int .i64),.v (.int .i64),.v (.int .i64),.v (.slice Xu),.v .bool,.v .bool]⟩],[.box 284 [.v (.int .i64),.v (.int .i64),.v (.int .i64),.v (.int .i64),.v (.int .i64),.v .str,.v .str,.v .bool,.v .bool,.v .bool,.v (.slice iR),.v (.slice aI),.v .bool,.v (.slice aR),.v (.slice aG),.v .bool,.v (.slice bC),.own 1],.row 143 aI]⟩
abbrev wL:Sh:=⟨1,[⟨0,false,[.v .bool]⟩],[.box 284 [.v (.int .i64),.v (.int .i64),.v (.int .i64),.v (.int .i64),.v (.int .i64),.v .str,.v .str,.v .bool,.v .bool,.v .bool,.own 2,.v (.slice aI),.v .bool,.v (.slice aR),.v (.slice aG),.v .bool,.v (.slice bC),.own 1],.row 143 aI,.row 334 iR]⟩
abbrev Wd:List Ty:=[.int .u8]
abbrev Hz:List Ty:=[.str]
abbrev gT:Sh:=⟨2,[⟨0,false,[.ptr 0 0]⟩,⟨1,false,[.v .str]⟩],[.box 78 [.cZ 0 0,.own 1],.row 5 (.int .u8)]⟩
abbrev eY:Sh:=⟨2,[⟨0,false,[.v (.int .i64)]⟩,⟨1,false,[.v .err]⟩],[.box 78 [.cZ 0 0,.own 1],.row 5 (.int .u8)]⟩
abbrev Sk:Sh:=⟨4,[⟨0,false,[.v .str]⟩,⟨1,false,[.ptr 0 0]⟩,⟨2,false,[.ptr 1 0]⟩,⟨3,false,[.ptr 2 0]⟩],[.box 3 [.v (.int .i64)],.box 3 [.v (.int .i64)],.box 78 [.cZ 2 0,.own 3],.row 5 (.int .u8)]⟩
abbrev Cw:Sh:=⟨0,[],[.box 3 [.v (.int .i64)],.box 3 [.v (.int .i64)],.box 78 [.cZ 2 0,.own 3],.row 5 (.int .u8)]⟩
abbrev Ld:List Ty:=[.str,.int .i64]
abbrev Ao:List Ty:=[.str]
abbrev mE:List Ty:=[.str,.str]
abbrev iI:List Ty:=[.str]
abbrev yO:List Ty:=[.str,.str]
abbrev rG:List Ty:=[.str]
abbrev Dj:Sh:=⟨3,[⟨0,false,[.ptr 0 0]⟩,⟨1,false,[.v .str]⟩,⟨2,false,[.v .bool]⟩],[.box 284 [.v (.int .i64),.v (.int .i64),.v (.int .i64),.v (.int .i64),.v (.int .i64),.v .str,.v .str,.v .bool,.v .bool,.v .bool,.own 1,.v (.slice aI),.v .bool,.v (.slice aR),.v (.slice aG),.v .bool,.v (.slice bC),.own 2],.row 334 iR,.row 143 aI]⟩
abbrev uX:Sh:=⟨0,[],[.box 284 [.v (.int .i64),.v (.int .i64),.v (.int .i64),.v (.int .i64),.v (.int .i64),.v .str,.v .str,.v .bool,.v .bool,.v .bool,.own 1,.v (.slice aI),.v .bool,.v (.slice aR),.v (.slice aG),.v .bool,.v (.slice bC),.own 2],.row 334 iR,.row 143 aI]⟩
abbrev Ia:Sh:=⟨2,[⟨0,false,[.ptr 0 0]⟩,⟨1,true,[.v (.int .i64),.v (.int .i64),.v (.int .i64),.v (.int .i64),.v (.int .i64),.v (.int .i64),.v .bool,.v (.int .u8),.v .str,.v .str,.v (.int .i64),.v (.int .i64),.v (.int .i64),.v (.slice Xu),.v .bool,.v .bool]⟩],[.box 284 [.v (.int .i64),.v (.int .i64),.v (.int .i64),.v (.int .i64),.v (.int .i64),.v .str,.v .str,.v .bool,.v .bool,.v .bool,.own 1,.v (.slice aI),.v .bool,.v (.slice aR),.v (.slice aG),.v .bool,.v (.slice bC),.own 2],.row 334 iR,.row 143 aI]⟩
abbrev wM:Sh:=⟨0,[],[.box 284 [.v (.int .i64),.v (.int .i64),.v (.int .i64),.v (.int .i64),.v (.int .i64),.v .str,.v .str,.v .bool,.v .bool,.v .bool,.own 1,.v (.slice aI),.v .bool,.v (.slice aR),.v (.slice aG),.v .bool,.v (.slice bC),.own 2],.row 334 iR,.row 143 aI]⟩
abbrev zEy:List Ty:=[vH,.bool,aC,.slice bC]
abbrev Rt:List Ty:=[aC,.slice bC,.slice aI]
abbrev xA:Sh:=⟨2,[⟨0,false,[.ptr 0 0]⟩,⟨1,false,[.v (.int .i64)]⟩],[.box 108 [.v (.slice aM),.v (.slice .bool),.v .bool,.own 1,.own 2,.own 3,.own 4,.v (.clip aI),.v (.slice bC),.own 5,.v (.int .i64),.v (.int .i64),.v (.int .i64)],.row 139 aC,.row 4 .bool,.row 22 (.slice aI),.row 142 aY,.row 3 (.int .i64)]⟩
abbrev oV:Sh:=⟨1,[⟨0,false,[.v .bool]⟩],[.box 108 [.v (.slice aM),.v (.slice .bool),.v .bool,.own 1,.own 2,.own 3,.own 4,.v (.clip aI),.v (.slice bC),.own 5,.v (.int .i64),.v (.int .i64),.v (.int .i64)],.row 139 aC,.row 4 .bool,.row 22 (.slice aI),.row 142 aY,.row 3 (.int .i64)]⟩
abbrev Bw:Sh:=⟨3,[⟨0,false,[.ptr 0 0]⟩,⟨1,false,[.v (.int .i64)]⟩,⟨2,false,[.v (.slice aI)]⟩],[.box 108 [.v (.slice aM),.v (.slice .bool),.v .bool,.own 1,.own 2,.own 3,.own 4,.v (.clip aI),.v (.slice bC),.own 5,.v (.int .i64),.v (.int .i64),.v (.int .i64)],.row 139 aC,.row 4 .bool,.row 22 (.slice aI),.row 142 aY,.row 3 (.int .i64)]⟩
abbrev sU:Sh:=⟨0,[],[.box 108 [.v (.slice aM),.v (.slice .bool),.v .bool,.own 1,.own 2,.own 3,.own 4,.v (.slice aI),.v (.slice bC),.own 5,.v (.int .i64),.v (.int .i64),.v (.int .i64)],.row 139 aC,.row 4 .bool,.row 22 (.slice aI),.row 142 aY,.row 3 (.int .i64)]⟩
abbrev xB:Sh:=⟨2,[⟨0,false,[.ptr 0 0]⟩,⟨1,false,[.v (.int .i64)]⟩],[.box 108 [.v (.slice aM),.v (.slice .bool),.v .bool,.own 1,.own 2,.own 3,.own 4,.v (.slice aI),.v (.slice bC),.own 5,.v (.int .i64),.v (.int .i64),.v (.int .i64)],.row 139 aC,.row 4 .bool,.row 22 (.slice aI),.row 142 aY,.row 3 (.int .i64)]⟩
abbrev oW:Sh:=⟨1,[⟨0,false,[.v .bool]⟩],[.box 108 [.v (.slice aM),.v (.slice .bool),.v .bool,.own 1,.own 2,.own 3,.own 4,.v (.slice aI),.v (.slice bC),.own 5,.v (.int .i64),.v (.int .i64),.v (.int .i64)],.row 139 aC,.row 4 .bool,.row 22 (.slice aI),.row 142 aY,.row 3 (.int .i64)]⟩
abbrev xC:Sh:=⟨2,[⟨0,false,[.ptr 0 0]⟩,⟨1,false,[.v (.int .i64)]⟩],[.box 108 [.v (.slice aM),.v (.slice .bool),.v .bool,.own 1,.own 2,.own 3,.own 4,.v (.slice aI),.v (.slice bC),.own 5,.v (.int .i64),.v (.int .i64),.v (.int .i64)],.row 139 aC,.row 4 .bool,.row 22 (.slice aI),.row 142 aY,.row 3 (.int .i64)]⟩
abbrev oZ:Sh:=⟨0,[],[.box 108 [.v (.slice aM),.v (.slice .bool),.v .bool,.own 1,.own 2,.own 3,.own 4,.v (.slice aI),.v (.slice bC),.own 5,.v (.int .i64),.v (.int .i64),.v (.int .i64)],.row 139 aC,.row 4 .bool,.row 22 (.slice aI),.row 142 aY,.row 3 (.int .i64)]⟩
abbrev yH:Sh:=⟨3,[⟨0,false,[.ptr 0 0]⟩,⟨1,false,[.v (.int .i64)]⟩,⟨2,false,[.v (.int .i64)]⟩],[.box 108 [.v (.slice aM),.v (.slice .bool),.v .bool,.own 1,.own 2,.own 3,.own 4,.v (.slice aI),.v (.slice bC),.own 5,.v (.int .i64),.v (.int .i64),.v (.int .i64)],.row 139 aC,.row 4 .bool,.row 22 (.slice aI),.row 142 aY,.row 3 (.int .i64)]⟩
abbrev qM:Sh:=⟨0,[],[.box 108 [.v (.slice aM),.v (.slice .bool),.v .bool,.own 1,.own 2,.own 3,.own 4,.v (.slice aI),.v (.slice bC),.own 5,.v (.int .i64),.v (.int .i64),.v (.int .i64)],.row 139 aC,.row 4 .bool,.row 22 (.slice aI),.row 142 aY,.row 3 (.int .i64)]⟩
abbrev Dk:Sh:=⟨2,[⟨0,false,[.ptr 0 0]⟩,⟨1,false,[.v (.int .i64)]⟩],[.box 108 [.v (.slice aM),.v (.slice .bool),.v .bool,.own 1,.own 2,.own 3,.own 4,.v (.clip aI),.v (.slice bC),.own 5,.v (.int .i64),.v (.int .i64),.v (.int .i64)],.row 139 aC,.row 4 .bool,.row 22 (.slice aI),.row 142 aY,.row 3 (.int .i64)]⟩
abbrev uY:Sh:=⟨0,[],[.box 108 [.v (.slice aM),.v (.slice .bool),.v .bool,.own 1,.own 2,.own 3,.own 4,.v (.slice aI),.v (.slice bC),.own 5,.v (.int .i64),.v (.int .i64),.v (.int .i64)],.row 139 aC,.row 4 .bool,.row 22 (.slice aI),.row 142 aY,.row 3 (.int .i64)]⟩
abbrev Bz:Sh:=⟨2,[⟨0,false,[.ptr 0 0]⟩,⟨1,false,[.v (.int .i64)]⟩],[.box 108 [.v (.slice aM),.v (.slice .bool),.v .bool,.own 1,.own 2,.own 3,.own 4,.v (.clip aI),.v (.slice bC),.own 5,.v (.int .i64),.v (.int .i64),.v (.int .i64)],.row 139 aC,.row 4 .bool,.row 22 (.slice aI),.row 142 aY,.row 3 (.int .i64)]⟩
abbrev sV:Sh:=⟨3,[⟨0,true,[.v .str,.v .bool]⟩,⟨1,false,[.v .bool]⟩,⟨2,false,[.v .bool]⟩],[.box 108 [.v (.slice aM),.v (.slice .bool),.v .bool,.own 1,.own 2,.own 3,.own 4,.v (.clip aI),.v (.slice bC),.own 5,.v (.int .i64),.v (.int .i64),.v (.int .i64)],.row 139 aC,.row 4 .bool,.row 22 (.slice aI),.row 142 aY,.row 3 (.int .i64)]⟩
abbrev zEz:List Ty:=[aC,aI,.bool]
abbrev Ru:List Ty:=[aC]
abbrev zFa:List Ty:=[iC]
abbrev Rv:List Ty:=[iC]
abbrev zKk:List Ty:=[iC,.int .i64]
abbrev Wh:List Ty:=[iC,.int .i64]
abbrev Zk:List Ty:=[.slice aI]
abbrev Lf:List Ty:=[.str]
abbrev Wi:Sh:=⟨5,[⟨0,false,[.v (.slice aM)]⟩,⟨1,false,[.ptr 0 0]⟩,⟨2,false,[.ptr 1 0]⟩,⟨3,false,[.ptr 2 0]⟩,⟨4,false,[.ptr 3 0]⟩],[.box 9 [.v .str],.box 40 [.v (.slice bC)],.box 4 [.v .bool],.box 3 [.v (.int .i64)]]⟩
abbrev Ib:Sh:=⟨2,[⟨0,true,[.v .str,.v (.slice bC),.v (.slice (.int .i64)),.v (.int .i64),.v (.int .i64)]⟩,⟨1,false,[.v (.int .i64)]⟩],[.box 9 [.v .str],.box 40 [.v (.slice bC)],.box 4 [.v .bool],.box 3 [.v (.int .i64)]]⟩
abbrev zFb:List Ty:=[vW]
abbrev Rw:List Ty:=[.int .i64]
abbrev qP:Sh:=⟨3,[⟨0,false,[.v .str]⟩,⟨1,false,[.v (.slice bC)]⟩,⟨2,false,[.clo 40 [(0,0),(1,0),(2,0),(3,0)]]⟩],[.box 9 [.v .str],.box 40 [.v (.slice bC)],.box 4 [.v .bool],.box 3 [.v (.int .i64)]]⟩
abbrev kT:Sh:=⟨3,[⟨0,true,[.v .str,.v (.slice bC),.v (.slice (.int .i64)),.v (.int .i64),.v (.int .i64)]⟩,⟨1,false,[.v (.int .i64)]⟩,⟨2,false,[.v (.int .i64)]⟩],[.box 9 [.v .str],.box 40 [.v (.slice bC)],.box 4 [.v .bool],.box 3 [.v (.int .i64)]]⟩
abbrev zFc:List Ty:=[.str,.str,.slice bC,.bool,.int .i64]
abbrev Rx:List Ty:=[vW,.int .i64,.int .i64]
abbrev zKl:List Ty:=[.str,.str]
abbrev Wj:List Ty:=[.str,.bool]
abbrev mM:List Ty:=[.str,.str]
abbrev iX:List Ty:=[.bool]
abbrev mO:List Ty:=[.str,.str]
abbrev iY:List Ty:=[.str,.bool]
abbrev Ca:List Ty:=[.str,.str]
abbrev sW:List Ty:=[.str,.bool]
abbrev Zl:List Ty:=[.str]
abbrev Lg:List Ty:=[.str,.int .i64]
abbrev zRd:List Ty:=[.str]
abbrev Wm:List Ty:=[.bool]
def Yk (n:Nat):An (wI.X):=.nil
theorem Nv (n:Nat):dP Tryz.prog 100 Hr wI (xX n) :=
 dA (Γ:=cO _ [(101,dO Gt Gu (xV n))] []) (an:=Yk n) (co:=[.gc [0]]) Tryz.func100 rfl (by kernel_rfl) aZ (aT (all_cons (bH (Qw n)) (all_nil)) (aU)) mixed (aQ _ _ rfl) (by kernel_rfl) (by kernel_rfl) (fun x=>by kernel_rfl)
def pF (n:Nat):An (fH.X):=(.mk .nil (.mk (.mk .nil (.mk (.loop ⟨19,[⟨0,false,[.v (.slice aM)]⟩,⟨1,false,[.clo 100 [(0,0)]]⟩,⟨7,false,[.v (.int .i64)]⟩,⟨8,false,[.v (.int .i64)]⟩],[.box 135 [.v .bool,.v (.slice aR),.v (.slice aG),.v .bool,.v (.slice .str),.v .bool]]⟩ [.keep [true,true,false,false,false,false,false,true,true],.gcA 1,.gcA 1] [.keep [true,true,false,false,false,false,false,true,true],.gcA 1,.gcA 1] n .nil) .nil []) []) .nil []) [])
theorem nR (n:Nat):dP Tryz.prog 145 jG fH (fK n) :=
 dA (Γ:=cO _ [(100,peM Hr wI (xX n))] []) (an:=pF n) (co:=[.gc [0]]) Tryz.func145 rfl (by kernel_rfl) aZ (aT (all_cons (bY (Nv n)) (all_nil)) (aU)) mixed (aQ _ _ rfl) (by kernel_rfl) (by kernel_rfl) (fun x=>by kernel_rfl)
def nY (n:Nat):An (eO.X):=.nil
theorem mF (n:Nat):dP Tryz.prog 99 iF eO (eX n) :=
 dA (Γ:=cO _ [(145,peM jG fH (fK n))] []) (an:=nY n) (co:=[.gc [0]]) Tryz.func99 rfl (by kernel_rfl) aZ (aT (all_cons (bY (nR n)) (all_nil)) (aU)) mixed (aQ _ _ rfl) (by kernel_rfl) (by kernel_rfl) (fun x=>by kernel_rfl)
def zFd (n:Nat):An (bP zP):=(.mk .nil (.mk .nil (.mk (.mk .nil (.mk (.loop ⟨26,[⟨0,false,[.v (.slice aM)]⟩,⟨3,false,[.own 0]⟩,⟨9,false,[.v (.slice aM)]⟩,⟨10,false,[.v (.int .i64)]⟩,⟨11,false,[.v (.int .i64)]⟩],[.row 4 .bool]⟩ [.keep [true,false,false,true,false,false,false,false,false,true,true,true],.gcA 0,.gcA 0] [.keep [true,false,false,true,false,false,false,false,false,true,true,true],.gcA 0,.gcA 0] n .nil) .nil []) []) .nil []) []) [])
theorem Wn (n:Nat):Pure Tryz.prog 65 Nt zP (Cu n) :=
 dK (Γ:=cO _ [(99,peM iF eO (eX n))] []) (an:=zFd n) Tryz.func65 rfl (by kernel_rfl) aZ (aT (all_cons (bY (mF n)) (all_nil)) (aU)) mixed (aQ _ _ rfl) (fun x=>by kernel_rfl)
def yAa (n:Nat):An (bP Vx):=.nil
theorem zLa (n:Nat):Pure Tryz.prog 66 zKi Vx (zBi n) :=
 dK (Γ:=cO _ [] []) (an:=yAa n) Tryz.func66 rfl (by kernel_rfl) aZ (aT (all_nil) (aU)) mixed (aQ _ _ rfl) (fun x=>by kernel_rfl)
def yAb (n:Nat):An (bP Vy):=(.mk .nil (.mk .nil (.mk .nil (.mk (.mk .nil (.mk (.loop ⟨80,[⟨0,false,[.v (.slice aM)]⟩,⟨1,false,[.v .str]⟩,⟨8,false,[.ptr 0 0]⟩,⟨10,false,[.ptr 1 0]⟩,⟨37,false,[.v (.slice aM)]⟩,⟨38,false,[.v (.int .i64)]⟩,⟨39,false,[.v (.int .i64)]⟩],[.box 108 [.v (.slice aM),.v (.slice .bool),.v .bool,.own 2,.v (.slice .bool),.v (.slice (.slice aI)),.v (.slice aY),.own 3,.v (.slice bC),.v (.slice (.int .i64)),.v (.int .i64),.v (.int .i64),.v (.int .i64)],.box 108 [.v (.slice aM),.v (.slice .bool),.v .bool,.own 4,.v (.slice .bool),.v (.slice (.slice aI)),.own 5,.own 6,.v (.slice bC),.v (.slice (.int .i64)),.v (.int .i64),.v (.int .i64),.v (.int .i64)],.row 139 aC,.row 143 aI,.row 139 aC,.row 142 aY,.row 143 aI]⟩ [.keep [true,true,false,false,false,false,false,false,true,false,true,false,false,false,false,false,false,false,false,false,false,false,false,false,false,false,false,false,false,false,false,false,false,false,false,false,false,true,true,true],.gcA 0,.ownB 0 3 103,.ownB 0 7 106,.ownB 1 3 103,.ownB 1 7 106,.gcA 0] [.keep [true,true,false,false,false,false,false,false,true,false,true,false,false,false,false,false,false,false,false,false,false,false,false,false,false,false,false,false,false,false,false,false,false,false,false,false,false,true,true,true],.gcA 0,.gcA 0] n .nil) .nil []) []) (.mk .nil (.mk (.mk .nil (.mk (.loop ⟨80,[⟨8,false,[.ptr 0 0]⟩,⟨10,false,[.ptr 1 0]⟩,⟨62,false,[.v (.slice aI)]⟩,⟨63,false,[.v (.int .i64)]⟩,⟨64,false,[.v (.int .i64)]⟩],[.box 108 [.v (.slice aM),.v (.slice .bool),.v .bool,.own 2,.v (.slice .bool),.v (.slice (.slice aI)),.v (.slice aY),.own 3,.v (.slice bC),.v (.slice (.int .i64)),.v (.int .i64),.v (.int .i64),.v (.int .i64)],.box 108 [.v (.slice aM),.v (.slice .bool),.v .bool,.own 4,.v (.slice .bool),.v (.slice (.slice aI)),.own 5,.own 6,.v (.slice bC),.v (.slice (.int .i64)),.v (.int .i64),.v (.int .i64),.v (.int .i64)],.row 139 aC,.row 143 aI,.row 139 aC,.row 142 aY,.row 143 aI]⟩ [.keep [false,false,false,false,false,false,false,false,true,false,true,false,false,false,false,false,false,false,false,false,false,false,false,false,false,false,false,false,false,false,false,false,false,false,false,false,false,false,false,false,false,false,false,false,false,false,false,false,false,false,false,false,false,false,false,false,false,false,false,false,false,false,true,true,true],.gcA 0,.gcA 0] [.keep [false,false,false,false,false,false,false,false,true,false,true,false,false,false,false,false,false,false,false,false,false,false,false,false,false,false,false,false,false,false,false,false,false,false,false,false,false,false,false,false,false,false,false,false,false,false,false,false,false,false,false,false,false,false,false,false,false,false,false,false,false,false,true,true,true],.gcA 0,.gcA 0] n .nil) .nil []) []) .nil []) []) []) []) []) [])
theorem zLb (n:Nat):Pure Tryz.prog 41 zKj Vy (Gx n) :=
 dK (Γ:=cO _ [(65,dO Nt zP (Cu n)),(66,dO zKi Vx (zBi n)),(9,dO xS xU (gJ n))] []) (an:=yAb n) Tryz.func41 rfl (by kernel_rfl) aZ (aT (all_cons (bH (Wn n)) (all_cons (bH (zLa n)) (all_cons (bH (wF n)) (all_nil)))) (aU)) mixed (aQ _ _ rfl) (fun x=>by kernel_rfl)
def Sz (n:Nat):An (sM.X):=.nil
theorem Ij (n:Nat):dP Tryz.prog 149 Bp sM (uP n) :=
 dA (Γ:=cO _ [] []) (an:=Sz n) (co:=[.gc [0]]) Tryz.func149 rfl (by kernel_rfl) aZ (aT (all_nil) (aU)) mixed (aQ _ _ rfl) (by kernel_rfl) (by kernel_rfl) (fun x=>by kernel_rfl)
def zSy (n:Nat):An (bP Ew):=(.mk .nil (.scope 0 .nil .nil) [])
theorem Nw (n:Nat):Pure Tryz.prog 163 Rp Ew (pI n) :=
 dK (Γ:=cO _ [(38,dO Vj Vk (strings_Cut n))] []) (an:=zSy n) Tryz.func163 rfl (by kernel_rfl) aZ (aT (all_cons (bH (zBf n)) (all_nil)) (aU)) mixed (aQ _ _ rfl) (fun x=>by kernel_rfl)
def zRe (n:Nat):An (bP La):=.nil
theorem zFe (n:Nat):Pure Tryz.prog 151 Zi La (tY n) :=
 dK (Γ:=cO _ [(163,dO Rp Ew (pI n))] []) (an:=zRe n) Tryz.func151 rfl (by kernel_rfl) aZ (aT (all_cons (bH (Nw n)) (all_nil)) (aU)) mixed (aQ _ _ rfl) (fun x=>by kernel_rfl)
def zRf (n:Nat):An (bP Lb):=.nil
theorem zFf (n:Nat):Pure Tryz.prog 152 Zj Lb (Eo n) :=
 dK (Γ:=cO _ [] []) (an:=zRf n) Tryz.func152 rfl (by kernel_rfl) aZ (aT (all_nil) (aU)) mixed (aQ _ _ rfl) (fun x=>by kernel_rfl)
def Wo (n:Nat):An (uT.X):=.nil
theorem Lh (n:Nat):dP Tryz.prog 102 Db uT (qF n) :=
 dA (Γ:=cO _ [(149,peM Bp sM (uP n)),(151,dO Zi La (tY n)),(152,dO Zj Lb (Eo n))] []) (an:=Wo n) (co:=[.gc [0]]) Tryz.func102 rfl (by kernel_rfl) aZ (aT (all_cons (bY (Ij n)) (all_cons (bH (zFe n)) (all_cons (bH (zFf n)) (all_nil)))) (aU)) mixed (aQ _ _ rfl) (by kernel_rfl) (by kernel_rfl) (fun x=>by kernel_rfl)
def zSz (n:Nat):An (bP Ey):=(.mk .nil (.mk (.mk .nil (.mk (.loop ⟨15,[⟨1,false,[.ptr 0 0]⟩,⟨3,false,[.v (.int .i64)]⟩],[.box 108 [.v (.slice aM),.v (.slice .bool),.v .bool,.v (.slice aC),.v (.slice .bool),.v (.slice (.slice aI)),.v (.slice aY),.v (.slice aI),.v (.slice bC),.v (.slice (.int .i64)),.v (.int .i64),.v (.int .i64),.v (.int .i64)]]⟩ [.keep [false,true,false,true],.gcA 0,.gcA 0] [.keep [false,true,false,true],.gcA 0,.gcA 0] n .nil) .nil []) []) .nil []) [])
theorem Ny (n:Nat):Pure Tryz.prog 67 Rq Ey (iM n) :=
 dK (Γ:=cO _ [(102,peM Db uT (qF n))] []) (an:=zSz n) Tryz.func67 rfl (by kernel_rfl) aZ (aT (all_cons (bY (Lh n)) (all_nil)) (aU)) mixed (aQ _ _ rfl) (fun x=>by kernel_rfl)
theorem Cb (n:Nat):dP Tryz.prog 153 vI vJ (oP n) :=
 qX (T:=tab) Tryz.func153 rfl rfl rfl Tryz.underlying103 (by kernel_rfl) aZ rfl rfl rfl rfl (by decide) (by decide) (fun _=>rfl)
theorem Ik (n:Nat):dP Tryz.prog 154 Bq Br (uQ n) :=
 qX (T:=tab) Tryz.func154 rfl rfl rfl Tryz.underlying102 (by kernel_rfl) aZ rfl rfl rfl rfl (by decide) (by decide) (fun _=>rfl)
theorem yJ (n:Nat):dP Tryz.prog 155 sN sO (mR n) :=
 qX (T:=tab) Tryz.func155 rfl rfl rfl Tryz.underlying104 (by kernel_rfl) aZ rfl rfl rfl rfl (by decide) (by decide) (fun _=>rfl)
theorem Cc (n:Nat):dP Tryz.prog 156 vK vL (oQ n) :=
 qX (T:=tab) Tryz.func156 rfl rfl rfl Tryz.underlying105 (by kernel_rfl) aZ rfl rfl rfl rfl (by decide) (by decide) (fun _=>rfl)
theorem Li (n:Nat):dP Tryz.prog 157 Dc Df (slices_Clone_int n) :=
 qX (T:=tab) Tryz.func157 rfl rfl rfl Tryz.underlying41 (by kernel_rfl) aZ rfl rfl rfl rfl (by decide) (by decide) (fun _=>rfl)
def Wp (n:Nat):An (bP uU):=.nil
theorem Nz (n:Nat):Pure Tryz.prog 158 Dh uU (jV n) :=
 dK (Γ:=cO _ [] []) (an:=Wp n) Tryz.func158 rfl (by kernel_rfl) aZ (aT (all_nil) (aU)) mixed (aQ _ _ rfl) (fun x=>by kernel_rfl)
def Wq (n:Nat):An (uV.X):=.nil
theorem Lj (n:Nat):dP Tryz.prog 103 Di uV (lX n) :=
 dA (Γ:=cO _ [(153,peM vI vJ (oP n)),(154,peM Bq Br (uQ n)),(155,peM sN sO (mR n)),(156,peM vK vL (oQ n)),(157,peM Dc Df (slices_Clone_int n)),(158,dO Dh uU (jV n))] []) (an:=Wq n) (co:=[.gc [0,1,2,3,4,5]]) Tryz.func103 rfl (by kernel_rfl) aZ (aT (all_cons (bY (Cb n)) (all_cons (bY (Ik n)) (all_cons (bY (yJ n)) (all_cons (bY (Cc n)) (all_cons (bY (Li n)) (all_cons (bH (Nz n)) (all_nil))))))) (aU)) mixed (aQ _ _ rfl) (by kernel_rfl) (by kernel_rfl) (fun x=>by kernel_rfl)
def zRg (n:Nat):An (bP Am):=.nil
theorem Ke (n:Nat):Pure Tryz.prog 208 Lc Am (xY n) :=
 dK (Γ:=cO _ [] []) (an:=zRg n) Tryz.func208 rfl (by kernel_rfl) aZ (aT (all_nil) (aU)) mixed (aQ _ _ rfl) (fun x=>by kernel_rfl)
def Ta (n:Nat):An (sP.X):=.nil
theorem Il (n:Nat):dP Tryz.prog 164 Bu sP (uR n) :=
 dA (Γ:=cO _ [(208,dO Lc Am (xY n))] []) (an:=Ta n) (co:=[.gc [0,1,2,3,4,5]]) Tryz.func164 rfl (by kernel_rfl) aZ (aT (all_cons (bH (Ke n)) (all_nil)) (aU)) mixed (aQ _ _ rfl) (by kernel_rfl) (by kernel_rfl) (fun x=>by kernel_rfl)
def Ws (n:Nat):An (oI.X):=.nil
theorem vM (n:Nat):dP Tryz.prog 108 uW oI (lY n) :=
 dA (Γ:=cO _ [(164,peM Bu sP (uR n))] []) (an:=Ws n) (co:=[.gc [0,1,2,3,4,5]]) Tryz.func108 rfl (by kernel_rfl) aZ (aT (all_cons (bY (Il n)) (all_nil)) (aU)) mixed (aQ _ _ rfl) (by kernel_rfl) (by kernel_rfl) (fun x=>by kernel_rfl)
def Ry (n:Nat):An (rF.X):=.nil
theorem Ic (n:Nat):dP Tryz.prog 104 yN rF (nL n) :=
 dA (Γ:=cO _ [(108,peM uW oI (lY n)),(159,dO vU Cr (lW n))] []) (an:=Ry n) (co:=[.gc [0,1,2,3,4,5]]) Tryz.func104 rfl (by kernel_rfl) aZ (aT (all_cons (bY (vM n)) (all_cons (bH (Yj n)) (all_nil))) (aU)) mixed (aQ _ _ rfl) (by kernel_rfl) (by kernel_rfl) (fun x=>by kernel_rfl)
def zFg (n:Nat):An (uF.X):=.nil
theorem yP (n:Nat):dP Tryz.prog 315 zQ uF (mZ n) :=
 dA (Γ:=cO _ [] []) (an:=zFg n) (co:=[.gc [0,1]]) Tryz.func315 rfl (by kernel_rfl) aZ (aT (all_nil) (aU)) mixed (aQ _ _ rfl) (by kernel_rfl) (by kernel_rfl) (fun x=>by kernel_rfl)
def Tc (n:Nat):An (sQ.X):=.nil
theorem Im (n:Nat):dP Tryz.prog 244 Bv sQ (uS n) :=
 dA (Γ:=cO _ [(315,peM zQ uF (mZ n))] []) (an:=Tc n) (co:=[.gc [0,1]]) Tryz.func244 rfl (by kernel_rfl) aZ (aT (all_cons (bY (yP n)) (all_nil)) (aU)) mixed (aQ _ _ rfl) (by kernel_rfl) (by kernel_rfl) (fun x=>by kernel_rfl)
def Yl (n:Nat):An (wJ.X):=.nil
theorem Oa (n:Nat):dP Tryz.prog 203 Ht wJ (yC n) :=
 dA (Γ:=cO _ [(244,peM Bv sQ (uS n))] []) (an:=Yl n) (co:=[.gc [0,1]]) Tryz.func203 rfl (by kernel_rfl) aZ (aT (all_cons (bY (Im n)) (all_nil)) (aU)) mixed (aQ _ _ rfl) (by kernel_rfl) (by kernel_rfl) (fun x=>by kernel_rfl)
def zLc (n:Nat):An (Hu.X):=.nil
theorem Ym (n:Nat):dP Tryz.prog 243 Vz Hu (Ky n) :=
 dA (Γ:=cO _ [] []) (an:=zLc n) (co:=[.gc [0]]) Tryz.func243 rfl (by kernel_rfl) aZ (aT (all_nil) (aU)) mixed (aQ _ _ rfl) (by kernel_rfl) (by kernel_rfl) (fun x=>by kernel_rfl)
def sZ (n:Nat):An (gQ.X):=(.mk .nil (.mk (.mk .nil (.mk (.loop ⟨19,[⟨0,false,[.v (.slice bC)]⟩,⟨1,false,[.clo 243 [(0,0)]]⟩,⟨7,false,[.v (.int .i64)]⟩,⟨8,false,[.v (.int .i64)]⟩],[.box 9 [.v .str]]⟩ [.keep [true,true,false,false,false,false,false,true,true],.gcA 1,.gcA 1] [.keep [true,true,false,false,false,false,false,true,true],.gcA 1,.gcA 1] n .nil) .nil []) []) .nil []) [])
theorem qN (n:Nat):dP Tryz.prog 242 kP gQ (gV n) :=
 dA (Γ:=cO _ [(243,peM Vz Hu (Ky n))] []) (an:=sZ n) (co:=[.gc [0]]) Tryz.func242 rfl (by kernel_rfl) aZ (aT (all_cons (bY (Ym n)) (all_nil)) (aU)) mixed (aQ _ _ rfl) (by kernel_rfl) (by kernel_rfl) (fun x=>by kernel_rfl)
def zTa (n:Nat):An (bP Rs):=.nil
theorem zIi (n:Nat):Pure Tryz.prog 202 zEx Rs (Vu n) :=
 dK (Γ:=cO _ [(242,peM kP gQ (gV n))] []) (an:=zTa n) Tryz.func202 rfl (by kernel_rfl) aZ (aT (all_cons (bY (qN n)) (all_nil)) (aU)) mixed (aQ _ _ rfl) (fun x=>by kernel_rfl)
def wN (n:Nat):An (bP fO):=.nil
theorem kQ (n:Nat):Pure Tryz.prog 86 iV fO (bR n) :=
 dK (Γ:=cO _ [] []) (an:=wN n) Tryz.func86 rfl (by kernel_rfl) aZ (aT (all_nil) (aU)) mixed (aQ _ _ rfl) (fun x=>by kernel_rfl)
def wO (n:Nat):An (bP iW):=.nil
theorem uG (n:Nat):Pure Tryz.prog 55 mK iW (gB n) :=
 dK (Γ:=cO _ [(86,dO iV fO (bR n))] []) (an:=wO n) Tryz.func55 rfl (by kernel_rfl) aZ (aT (all_cons (bH (kQ n)) (all_nil)) (aU)) mixed (aQ _ _ rfl) (fun x=>by kernel_rfl)
def Td (n:Nat):An (bP nQ):=.nil
theorem vN (n:Nat):Pure Tryz.prog 32 sS nQ (strings_CutSuffix n) :=
 dK (Γ:=cO _ [(55,dO mK iW (gB n))] []) (an:=Td n) Tryz.func32 rfl (by kernel_rfl) aZ (aT (all_cons (bH (uG n)) (all_nil)) (aU)) mixed (aQ _ _ rfl) (fun x=>by kernel_rfl)
def Yn (n:Nat):An (wK.X):=(.mk (.mk .nil (.mk (.loop ⟨51,[⟨0,false,[.ptr 0 0]⟩,⟨12,false,[.v (.slice aI)]⟩,⟨13,false,[.v (.int .i64)]⟩,⟨14,false,[.v (.int .i64)]⟩],[.box 284 [.v (.int .i64),.v (.int .i64),.v (.int .i64),.v (.int .i64),.v (.int .i64),.v .str,.v .str,.v .bool,.v .bool,.v .bool,.v (.slice iR),.v (.slice aI),.v .bool,.v (.slice aR),.v (.slice aG),.v .bool,.v (.slice bC),.own 1],.row 143 aI]⟩ [.keep [true,false,false,false,false,false,false,false,false,false,false,false,true,true,true],.gcA 2,.gcA 2] [.keep [true,false,false,false,false,false,false,false,false,false,false,false,true,true,true],.gcA 2,.gcA 2] n .nil) .nil []) []) .nil [])
theorem Oc (n:Nat):dP Tryz.prog 245 Hw wK (yD n) :=
 dA (Γ:=cO _ [(315,peM zQ uF (mZ n)),(202,dO zEx Rs (Vu n)),(32,dO sS nQ (strings_CutSuffix n))] []) (an:=Yn n) (co:=[.gc [0,1]]) Tryz.func245 rfl (by kernel_rfl) aZ (aT (all_cons (bY (yP n)) (all_cons (bH (zIi n)) (all_cons (bH (vN n)) (all_nil)))) (aU)) mixed (aQ _ _ rfl) (by kernel_rfl) (by kernel_rfl) (fun x=>by kernel_rfl)
def zFh (n:Nat):An (zR.X):=.nil
theorem Te (n:Nat):dP Tryz.prog 204 Nu zR (Cv n) :=
 dA (Γ:=cO _ [(245,peM Hw wK (yD n))] []) (an:=zFh n) (co:=[.gc [0,1]]) Tryz.func204 rfl (by kernel_rfl) aZ (aT (all_cons (bY (Oc n)) (all_nil)) (aU)) mixed (aQ _ _ rfl) (by kernel_rfl) (by kernel_rfl) (fun x=>by kernel_rfl)
theorem zS (n:Nat):dP Tryz.prog 249 uK uL (nW n) :=
 qX (T:=tab) Tryz.func249 rfl rfl rfl Tryz.underlying136 (by kernel_rfl) aZ rfl rfl rfl rfl (by decide) (by decide) (fun _=>rfl)
def Yo (n:Nat):An (wL.X):=(.mk .nil (.mk .nil (.mk (.mk .nil (.mk (.loop ⟨100,[⟨0,false,[.ptr 0 0]⟩,⟨3,false,[.ptr 2 0]⟩,⟨5,false,[.own 3]⟩,⟨23,false,[.own 4]⟩,⟨24,false,[.v (.int .i64)]⟩,⟨25,false,[.v (.int .i64)]⟩],[.box 284 [.v (.int .i64),.v (.int .i64),.v (.int .i64),.v (.int .i64),.v (.int .i64),.v .str,.v .str,.v .bool,.v .bool,.v .bool,.v (.slice iR),.v (.slice aI),.v .bool,.v (.slice aR),.v (.slice aG),.v .bool,.v (.slice bC),.own 1],.row 143 aI,.box 70 [.v (.int .i64),.v (.int .i64),.v (.int .i64),.v (.int .i64),.v (.int .i64),.v (.int .i64),.v .bool,.v (.int .u8),.v .str,.v .str,.v (.int .i64),.v (.int .i64),.v (.int .i64),.v (.slice Xu),.v .bool,.v .bool],.row 4 .bool,.row 65 xW]⟩ [.keep [true,false,false,true,false,true,false,false,false,false,false,false,false,false,false,false,false,false,false,false,false,false,false,true,true,true],.gcA 2,.gcA 2] [.keep [true,false,false,true,false,true,false,false,false,false,false,false,false,false,false,false,false,false,false,false,false,false,false,true,true,true],.gcA 2,.gcA 2] n .nil) .nil []) []) (.mk (.co [.yEm 5] .nil) .nil []) []) []) [])
theorem Od (n:Nat):dP Tryz.prog 205 Hy wL (nN n) :=
 dA (Γ:=cO _ [(248,dO Js Vm (wG n)),(249,peM uK uL (nW n))] []) (an:=Yo n) (co:=[.gc [0,1,6]]) Tryz.func205 rfl (by kernel_rfl) aZ (aT (all_cons (bH (zKv n)) (all_cons (bY (zS n)) (all_nil))) (aU)) mixed (aQ _ _ rfl) (by kernel_rfl) (by kernel_rfl) (fun x=>by kernel_rfl)
def zLd (n:Nat):An (bP Hz):=.nil
theorem zBs (n:Nat):Pure Tryz.prog 61 Wd Hz (nX n) :=
 dK (Γ:=cO _ [(94,dO yL yM (iL n)),(95,dO nI nJ (strings_Repeat n))] []) (an:=zLd n) Tryz.func61 rfl (by kernel_rfl) aZ (aT (all_cons (bH (Ig n)) (all_cons (bH (Sv n)) (all_nil))) (aU)) mixed (aQ _ _ rfl) (fun x=>by kernel_rfl)
def yK (n:Nat):An (eY.X):=.nil
theorem iD (n:Nat):dP Tryz.prog 30 gT eY (aX n) :=
 dA (Γ:=cO _ [(54,peM zN zO (vT n))] []) (an:=yK n) (co:=[.gc [0,1]]) Tryz.func30 rfl (by kernel_rfl) aZ (aT (all_cons (bY (Sr n)) (all_nil)) (aU)) mixed (aQ _ _ rfl) (by kernel_rfl) (by kernel_rfl) (fun x=>by kernel_rfl)
def zIj (n:Nat):An (Cw.X):=.nil
theorem Wt (n:Nat):dP Tryz.prog 60 Sk Cw (yE n) :=
 dA (Γ:=cO _ [(30,peM gT eY (aX n))] []) (an:=zIj n) (co:=[.gc [0,1,2,3]]) Tryz.func60 rfl (by kernel_rfl) aZ (aT (all_cons (bY (iD n)) (all_nil)) (aU)) mixed (aQ _ _ rfl) (by kernel_rfl) (by kernel_rfl) (fun x=>by kernel_rfl)
def zRh (n:Nat):An (bP Ao):=(.mk .nil (.mk .nil (.mk .nil (.mk .nil (.mk (.mk .nil (.mk (.loop ⟨24,[⟨0,false,[.v .str]⟩,⟨5,false,[.ptr 0 0]⟩,⟨7,false,[.clo 60 [(1,0),(2,0),(0,0)]]⟩,⟨11,false,[.v (.int .i64)]⟩,⟨12,false,[.v (.int .i64)]⟩],[.box 78 [.cZ 0 0,.own 3],.box 3 [.v (.int .i64)],.box 3 [.v (.int .i64)],.row 5 (.int .u8)]⟩ [.keep [true,false,false,false,false,true,false,true,false,false,false,true,true],.gcA 0,.ownB 0 1 31,.orn 0 0 0 0,.gcA 0] [.keep [true,false,false,false,false,true,false,true,false,false,false,true,true],.gcA 0,.gcA 0] n .nil) .nil []) []) .nil []) []) []) []) [])
theorem Kg (n:Nat):Pure Tryz.prog 36 Ld Ao (nO n) :=
 dK (Γ:=cO _ [(61,dO Wd Hz (nX n)),(60,peM Sk Cw (yE n)),(30,peM gT eY (aX n)),(26,peM rO nH (Builder_String n))] []) (an:=zRh n) Tryz.func36 rfl (by kernel_rfl) aZ (aT (all_cons (bH (zBs n)) (all_cons (bY (Wt n)) (all_cons (bY (iD n)) (all_cons (bY (xR n)) (all_nil))))) (aU)) mixed (aQ _ _ rfl) (fun x=>by kernel_rfl)
def vO (n:Nat):An (bP iI):=.nil
theorem tC (n:Nat):Pure Tryz.prog 299 mE iI (fM n) :=
 dK (Γ:=cO _ [(86,dO iV fO (bR n))] []) (an:=vO n) Tryz.func299 rfl (by kernel_rfl) aZ (aT (all_cons (bH (kQ n)) (all_nil)) (aU)) mixed (aQ _ _ rfl) (fun x=>by kernel_rfl)
def Rz (n:Nat):An (bP rG):=.nil
theorem Io (n:Nat):Pure Tryz.prog 230 yO rG (strings_TrimSuffix n) :=
 dK (Γ:=cO _ [(299,dO mE iI (fM n))] []) (an:=Rz n) Tryz.func230 rfl (by kernel_rfl) aZ (aT (all_cons (bH (tC n)) (all_nil)) (aU)) mixed (aQ _ _ rfl) (fun x=>by kernel_rfl)
def Wu (n:Nat):An (uX.X):=.nil
theorem Ll (n:Nat):dP Tryz.prog 315 Dj uX (qJ n) :=
 dA (Γ:=cO _ [] []) (an:=Wu n) (co:=[.gc [0,1,2]]) Tryz.func315 rfl (by kernel_rfl) aZ (aT (all_nil) (aU)) mixed (aQ _ _ rfl) (by kernel_rfl) (by kernel_rfl) (fun x=>by kernel_rfl)
def Yp (n:Nat):An (wM.X):=.nil
theorem Oe (n:Nat):dP Tryz.prog 259 Ia wM (nP n) :=
 dA (Γ:=cO _ [(36,dO Ld Ao (nO n)),(230,dO yO rG (strings_TrimSuffix n)),(315,peM Dj uX (qJ n))] []) (an:=Yp n) (co:=[.gc [0,1,2]]) Tryz.func259 rfl (by kernel_rfl) aZ (aT (all_cons (bH (Kg n)) (all_cons (bH (Io n)) (all_cons (bY (Ll n)) (all_nil)))) (aU)) mixed (aQ _ _ rfl) (by kernel_rfl) (by kernel_rfl) (fun x=>by kernel_rfl)
def zTb (n:Nat):An (bP Rt):=(.mk .nil (.mk .nil (.mk (.mk (.mk .nil (.mk .nil (.mk .nil (.mk (.mk (.co [.ownB 3 17 106] .nil) .nil []) (.mk .nil (.mk (.co [.ownB 3 17 106] .nil) .nil []) []) []) []) []) []) .nil []) .nil []) []) [])
theorem zIk (n:Nat):Pure Tryz.prog 161 zEy Rt (pJ n) :=
 dK (Γ:=cO _ [(203,peM Ht wJ (yC n)),(204,peM Nu zR (Cv n)),(205,peM Hy wL (nN n)),(206,peH 108 259),(259,peM Ia wM (nP n))] []) (an:=zTb n) Tryz.func161 rfl (by kernel_rfl) aZ (aT (all_cons (bY (Oa n)) (all_cons (bY (Te n)) (all_cons (bY (Od n)) (all_cons (yNm (zZa.ok _ (by simp [zHr]))) (all_cons (bY (Oe n)) (all_nil)))))) (aU)) mixed (aQ _ _ rfl) (fun x=>by kernel_rfl)
def Lm (n:Nat):An (oV.X):=.nil
theorem Cy (n:Nat):dP Tryz.prog 149 xA oV (qK n) :=
 dA (Γ:=cO _ [] []) (an:=Lm n) (co:=[.gc [0,1,2,3,4,5]]) Tryz.func149 rfl (by kernel_rfl) aZ (aT (all_nil) (aU)) mixed (aQ _ _ rfl) (by kernel_rfl) (by kernel_rfl) (fun x=>by kernel_rfl)
def Tf (n:Nat):An (sU.X):=(.mk .nil (.mk .nil (.mk (.join ⟨101,[⟨0,false,[.ptr 0 0]⟩,⟨2,false,[.v (.slice aI)]⟩,⟨6,false,[.v (.int .i64)]⟩],[.box 108 [.v (.slice aM),.v (.slice .bool),.v .bool,.own 1,.own 2,.own 3,.own 4,.v (.clip aI),.v (.slice bC),.own 5,.v (.int .i64),.v (.int .i64),.v (.int .i64)],.row 139 aC,.row 4 .bool,.row 22 (.slice aI),.row 142 aY,.row 3 (.int .i64)]⟩ [.keep [true,false,true,false,false,false,true],.gcA 6] .nil) (.mk (.join ⟨101,[⟨0,false,[.ptr 0 0]⟩,⟨2,false,[.v (.slice aI)]⟩,⟨6,false,[.v (.int .i64)]⟩],[.box 108 [.v (.slice aM),.v (.slice .bool),.v .bool,.own 1,.own 2,.own 3,.own 4,.v (.clip aI),.v (.slice bC),.own 5,.v (.int .i64),.v (.int .i64),.v (.int .i64)],.row 139 aC,.row 4 .bool,.row 22 (.slice aI),.row 142 aY,.row 3 (.int .i64)]⟩ [.keep [true,false,true,false,false,false,true],.gcA 6] .nil) (.mk .nil (.mk (.loop ⟨101,[⟨0,false,[.ptr 0 0]⟩,⟨6,false,[.v (.int .i64)]⟩,⟨79,false,[.v (.slice aI)]⟩,⟨80,false,[.v (.int .i64)]⟩,⟨81,false,[.v (.int .i64)]⟩],[.box 108 [.v (.slice aM),.v (.slice .bool),.v .bool,.own 1,.own 2,.own 3,.own 4,.v (.clip aI),.v (.slice bC),.own 5,.v (.int .i64),.v (.int .i64),.v (.int .i64)],.row 139 aC,.row 4 .bool,.row 22 (.slice aI),.row 142 aY,.row 3 (.int .i64)]⟩ [.keep [true,false,false,false,false,false,true,false,false,false,false,false,false,false,false,false,false,false,false,false,false,false,false,false,false,false,false,false,false,false,false,false,false,false,false,false,false,false,false,false,false,false,false,false,false,false,false,false,false,false,false,false,false,false,false,false,false,false,false,false,false,false,false,false,false,false,false,false,false,false,false,false,false,false,false,false,false,false,false,true,true,true],.gcA 6,.gcA 6] [.keep [true,false,false,false,false,false,true,false,false,false,false,false,false,false,false,false,false,false,false,false,false,false,false,false,false,false,false,false,false,false,false,false,false,false,false,false,false,false,false,false,false,false,false,false,false,false,false,false,false,false,false,false,false,false,false,false,false,false,false,false,false,false,false,false,false,false,false,false,false,false,false,false,false,false,false,false,false,false,false,true,true,true],.gcA 6,.gcA 6] n .nil) .nil []) []) []) []) []) [])
theorem Ip (n:Nat):dP Tryz.prog 162 Bw sU (kV n) :=
 dA (Γ:=cO _ [(149,peM xA oV (qK n)),(9,dO xS xU (gJ n))] []) (an:=Tf n) (co:=[.gc [0,1,2,3,4,5]]) Tryz.func162 rfl (by kernel_rfl) aZ (aT (all_cons (bY (Cy n)) (all_cons (bH (wF n)) (all_nil))) (aU)) mixed (aQ _ _ rfl) (by kernel_rfl) (by kernel_rfl) (fun x=>by kernel_rfl)
def Lp (n:Nat):An (oW.X):=.nil
theorem Cz (n:Nat):dP Tryz.prog 149 xB oW (lI n) :=
 dA (Γ:=cO _ [] []) (an:=Lp n) (co:=[.gc [0,1,2,3,4,5]]) Tryz.func149 rfl (by kernel_rfl) aZ (aT (all_nil) (aU)) mixed (aQ _ _ rfl) (by kernel_rfl) (by kernel_rfl) (fun x=>by kernel_rfl)
def Lr (n:Nat):An (oZ.X):=.nil
theorem Da (n:Nat):dP Tryz.prog 164 xC oZ (qL n) :=
 dA (Γ:=cO _ [(208,dO Lc Am (xY n))] []) (an:=Lr n) (co:=[.gc [0,1,2,3,4,5]]) Tryz.func164 rfl (by kernel_rfl) aZ (aT (all_cons (bH (Ke n)) (all_nil)) (aU)) mixed (aQ _ _ rfl) (by kernel_rfl) (by kernel_rfl) (fun x=>by kernel_rfl)
def Og (n:Nat):An (qM.X):=.nil
theorem Ez (n:Nat):dP Tryz.prog 108 yH qM (rE n) :=
 dA (Γ:=cO _ [(164,peM xC oZ (qL n))] []) (an:=Og n) (co:=[.gc [0,1,2,3,4,5]]) Tryz.func108 rfl (by kernel_rfl) aZ (aT (all_cons (bY (Da n)) (all_nil)) (aU)) mixed (aQ _ _ rfl) (by kernel_rfl) (by kernel_rfl) (fun x=>by kernel_rfl)
def Wv (n:Nat):An (uY.X):=.nil
theorem Ls (n:Nat):dP Tryz.prog 105 Dk uY (lZ n) :=
 dA (Γ:=cO _ [(161,dO zEy Rt (pJ n)),(162,peM Bw sU (kV n)),(149,peM xB oW (lI n)),(108,peM yH qM (rE n))] []) (an:=Wv n) (co:=[.gc [0,1,2,3,4,5]]) Tryz.func105 rfl (by kernel_rfl) aZ (aT (all_cons (bH (zIk n)) (all_cons (bY (Ip n)) (all_cons (bY (Cz n)) (all_cons (bY (Ez n)) (all_nil))))) (aU)) mixed (aQ _ _ rfl) (by kernel_rfl) (by kernel_rfl) (fun x=>by kernel_rfl)
def Tg (n:Nat):An (sV.X):=.nil
theorem Iq (n:Nat):dP Tryz.prog 106 Bz sV (oG n) :=
 dA (Γ:=cO _ [(163,dO Rp Ew (pI n))] []) (an:=Tg n) (co:=[.gc [0,1,2,3,4,5]]) Tryz.func106 rfl (by kernel_rfl) aZ (aT (all_cons (bH (Nw n)) (all_nil)) (aU)) mixed (aQ _ _ rfl) (by kernel_rfl) (by kernel_rfl) (fun x=>by kernel_rfl)
def zTc (n:Nat):An (bP Ru):=.nil
theorem zIl (n:Nat):Pure Tryz.prog 107 zEz Ru (Ka n) :=
 dK (Γ:=cO _ [] []) (an:=zTc n) Tryz.func107 rfl (by kernel_rfl) aZ (aT (all_nil) (aU)) mixed (aQ _ _ rfl) (fun x=>by kernel_rfl)
def zTd (n:Nat):An (bP Rv):=(.mk .nil (.scope 0 .nil .nil) [])
theorem zIm (n:Nat):Pure Tryz.prog 68 zFa Rv (jK n) :=
 dK (Γ:=cO _ [(67,dO Rq Ey (iM n)),(103,peM Di uV (lX n)),(104,peM yN rF (nL n)),(105,peM Dk uY (lZ n)),(106,peM Bz sV (oG n)),(107,dO zEz Ru (Ka n)),(108,peM uW oI (lY n))] []) (an:=zTd n) Tryz.func68 rfl (by kernel_rfl) aZ (aT (all_cons (bH (Ny n)) (all_cons (bY (Lj n)) (all_cons (bY (Ic n)) (all_cons (bY (Ls n)) (all_cons (bY (Iq n)) (all_cons (bH (zIl n)) (all_cons (bY (vM n)) (all_nil)))))))) (aU)) mixed (aQ _ _ rfl) (fun x=>by kernel_rfl)
def yAc (n:Nat):An (bP Wh):=(.mk .nil (.mk (.mk .nil (.mk (.loop ⟨19,[⟨1,false,[.v (.int .i64)]⟩,⟨2,false,[.ptr 0 0]⟩,⟨4,false,[.ptr 1 0]⟩,⟨6,false,[.v (.int .i64)]⟩],[.box 108 [.v (.slice aM),.v (.slice .bool),.v .bool,.v (.slice aC),.v (.slice .bool),.v (.slice (.slice aI)),.v (.slice aY),.v (.slice aI),.v (.slice bC),.v (.slice (.int .i64)),.v (.int .i64),.v (.int .i64),.v (.int .i64)],.box 108 [.v (.slice aM),.v (.slice .bool),.v .bool,.own 2,.v (.slice .bool),.v (.slice (.slice aI)),.v (.slice aY),.own 3,.v (.slice bC),.v (.slice (.int .i64)),.v (.int .i64),.v (.int .i64),.v (.int .i64)],.row 139 aC,.row 143 aI]⟩ [.keep [false,true,true,false,true,false,true],.gcA 0,.ownB 1 3 103,.ownB 1 7 106,.gcA 0] [.keep [false,true,true,false,true,false,true],.gcA 0,.gcA 0] n .nil) .nil []) []) .nil []) [])
theorem zLe (n:Nat):Pure Tryz.prog 42 zKk Wh (Ho n) :=
 dK (Γ:=cO _ [(67,dO Rq Ey (iM n)),(68,dO zFa Rv (jK n))] []) (an:=yAc n) Tryz.func42 rfl (by kernel_rfl) aZ (aT (all_cons (bH (Ny n)) (all_cons (bH (zIm n)) (all_nil))) (aU)) mixed (aQ _ _ rfl) (fun x=>by kernel_rfl)
def zRi (n:Nat):An (bP Lf):=(.mk .nil (.mk .nil (.mk .nil (.mk (.mk .nil (.mk (.loop ⟨23,[⟨3,false,[.ptr 0 0]⟩,⟨4,false,[.v .str]⟩,⟨7,false,[.v (.slice aI)]⟩,⟨8,false,[.v (.int .i64)]⟩,⟨9,false,[.v (.int .i64)]⟩],[.box 78 [.cZ 0 0,.own 1],.row 5 (.int .u8)]⟩ [.keep [false,false,false,true,true,false,false,true,true,true],.gcA 0,.ownB 0 1 31,.orn 0 0 0 0,.gcA 0] [.keep [false,false,false,true,true,false,false,true,true,true],.gcA 0,.gcA 0] n .nil) .nil []) []) .nil []) []) []) [])
theorem zFi (n:Nat):Pure Tryz.prog 43 Zk Lf (uE n) :=
 dK (Γ:=cO _ [(30,peM gT eY (aX n)),(26,peM rO nH (Builder_String n))] []) (an:=zRi n) Tryz.func43 rfl (by kernel_rfl) aZ (aT (all_cons (bY (iD n)) (all_cons (bY (xR n)) (all_nil))) (aU)) mixed (aQ _ _ rfl) (fun x=>by kernel_rfl)
def zLf (n:Nat):An (Ib.X):=.nil
theorem Yq (n:Nat):dP Tryz.prog 40 Wi Ib (Al n) :=
 dA (Γ:=cO _ [(41,dO zKj Vy (Gx n)),(42,dO zKk Wh (Ho n)),(43,dO Zk Lf (uE n))] []) (an:=zLf n) (co:=[.gc [0,1,2,3]]) Tryz.func40 rfl (by kernel_rfl) aZ (aT (all_cons (bH (zLb n)) (all_cons (bH (zLe n)) (all_cons (bH (zFi n)) (all_nil)))) (aU)) mixed (aQ _ _ rfl) (by kernel_rfl) (by kernel_rfl) (fun x=>by kernel_rfl)
def zTe (n:Nat):An (bP Rw):=.nil
theorem zIn (n:Nat):Pure Tryz.prog 64 zFb Rw (Vw n) :=
 dK (Γ:=cO _ [] []) (an:=zTe n) Tryz.func64 rfl (by kernel_rfl) aZ (aT (all_nil) (aU)) mixed (aQ _ _ rfl) (fun x=>by kernel_rfl)
def Cg (n:Nat):An (kT.X):=.nil
theorem xD (n:Nat):dP Tryz.prog 39 qP kT (iT n) :=
 dA (Γ:=cO _ [(63,dO vV Ct (lV n)),(40,peM Wi Ib (Al n)),(64,dO zFb Rw (Vw n))] []) (an:=Cg n) (co:=[.gc [0,1,2,3]]) Tryz.func39 rfl (by kernel_rfl) aZ (aT (all_cons (bH (Yi n)) (all_cons (bY (Yq n)) (all_cons (bH (zIn n)) (all_nil)))) (aU)) mixed (aQ _ _ rfl) (by kernel_rfl) (by kernel_rfl) (fun x=>by kernel_rfl)
def zTf (n:Nat):An (bP Rx):=.nil
theorem zIo (n:Nat):Pure Tryz.prog 21 zFc Rx (Kc n) :=
 dK (Γ:=cO _ [(39,peM qP kT (iT n))] []) (an:=zTf n) Tryz.func21 rfl (by kernel_rfl) aZ (aT (all_cons (bY (xD n)) (all_nil)) (aU)) mixed (aQ _ _ rfl) (fun x=>by kernel_rfl)
def yAd (n:Nat):An (bP Wj):=.nil
theorem zLg (n:Nat):Pure Tryz.prog 11 zKl Wj (Hq n) :=
 dK (Γ:=cO _ [(21,dO zFc Rx (Kc n))] []) (an:=yAd n) Tryz.func11 rfl (by kernel_rfl) aZ (aT (all_cons (bH (zIo n)) (all_nil)) (aU)) mixed (aQ _ _ rfl) (fun x=>by kernel_rfl)
def wP (n:Nat):An (bP iX):=.nil
theorem uH (n:Nat):Pure Tryz.prog 44 mM iX (dH n) :=
 dK (Γ:=cO _ [] []) (an:=wP n) Tryz.func44 rfl (by kernel_rfl) aZ (aT (all_nil) (aU)) mixed (aQ _ _ rfl) (fun x=>by kernel_rfl)
def wQ (n:Nat):An (bP iY):=.nil
theorem uI (n:Nat):Pure Tryz.prog 56 mO iY (eG n) :=
 dK (Γ:=cO _ [(44,dO mM iX (dH n))] []) (an:=wQ n) Tryz.func56 rfl (by kernel_rfl) aZ (aT (all_cons (bH (uH n)) (all_nil)) (aU)) mixed (aQ _ _ rfl) (fun x=>by kernel_rfl)
def Ti (n:Nat):An (bP sW):=.nil
theorem Lu (n:Nat):Pure Tryz.prog 33 Ca sW (strings_CutPrefix n) :=
 dK (Γ:=cO _ [(56,dO mO iY (eG n))] []) (an:=Ti n) Tryz.func33 rfl (by kernel_rfl) aZ (aT (all_cons (bH (uI n)) (all_nil)) (aU)) mixed (aQ _ _ rfl) (fun x=>by kernel_rfl)
def zRj (n:Nat):An (bP Lg):=(.mk .nil (.mk .nil (.mk .nil (.mk .nil (.mk (.mk (.loop ⟨83,[⟨0,false,[.v .str]⟩,⟨4,false,[.v .str]⟩,⟨6,false,[.own 0]⟩],[.row 5 (.int .u8)]⟩ [.keep [true,false,false,false,true,false,true],.gcA 0,.yEl 6 31,.gcA 0] [.keep [true,false,false,false,true,false,true],.gcA 0,.gcA 0] n .nil) .nil []) (.mk .nil (.mk (.mk .nil (.mk (.loop ⟨83,[⟨0,false,[.v .str]⟩,⟨12,false,[.v .str]⟩,⟨73,false,[.v (.int .i64)]⟩],[]⟩ [.keep [true,false,false,false,false,false,false,false,false,false,false,false,true,false,false,false,false,false,false,false,false,false,false,false,false,false,false,false,false,false,false,false,false,false,false,false,false,false,false,false,false,false,false,false,false,false,false,false,false,false,false,false,false,false,false,false,false,false,false,false,false,false,false,false,false,false,false,false,false,false,false,false,false,true],.gcA 0,.gcA 0] [.keep [true,false,false,false,false,false,false,false,false,false,false,false,true,false,false,false,false,false,false,false,false,false,false,false,false,false,false,false,false,false,false,false,false,false,false,false,false,false,false,false,false,false,false,false,false,false,false,false,false,false,false,false,false,false,false,false,false,false,false,false,false,false,false,false,false,false,false,false,false,false,false,false,false,true],.gcA 0,.gcA 0] n .nil) .nil []) []) .nil []) []) []) []) []) []) [])
theorem zFj (n:Nat):Pure Tryz.prog 19 Zl Lg (yG n) :=
 dK (Γ:=cO _ [(32,dO sS nQ (strings_CutSuffix n)),(33,dO Ca sW (strings_CutPrefix n)),(34,dO Bl Bn (strings_IndexByte n)),(35,dO sI sJ (fP n)),(36,dO Ld Ao (nO n))] []) (an:=zRj n) Tryz.func19 rfl (by kernel_rfl) aZ (aT (all_cons (bH (vN n)) (all_cons (bH (Lu n)) (all_cons (bH (Ku n)) (all_cons (bH (Kv n)) (all_cons (bH (Kg n)) (all_nil)))))) (aU)) mixed (aQ _ _ rfl) (fun x=>by kernel_rfl)
def zLh (n:Nat):An (bP Wm):=(.mk .nil (.mk .nil (.mk .nil (.mk .nil (.mk .nil (.mk .nil (.mk (.mk .nil (.mk (.loop ⟨63,[⟨3,false,[.v (.slice aI)]⟩,⟨6,false,[.v (.slice aI)]⟩,⟨7,false,[.v (.int .i64)]⟩],[]⟩ [.keep [false,false,false,true,false,false,true,true],.gcA 0,.gcA 0] [.keep [false,false,false,true,false,false,true,true],.gcA 0,.gcA 0] n .nil) .nil []) []) .nil []) []) []) []) []) []) [])
theorem Zo (n:Nat):Pure Tryz.prog 8 zRd Wm (Kz n) :=
 dK (Γ:=cO _ [(9,dO xS xU (gJ n)),(10,dO zKe zKf (showntop n)),(11,dO zKl Wj (Hq n)),(19,dO Zl Lg (yG n))] []) (an:=zLh n) Tryz.func8 rfl (by kernel_rfl) aZ (aT (all_cons (bH (wF n)) (all_cons (bH (zKz n)) (all_cons (bH (zLg n)) (all_cons (bH (zFj n)) (all_nil))))) (aU)) mixed (aQ _ _ rfl) (fun x=>by kernel_rfl)
end Go.Dec
