/- Part of a proof over this seat: a library of my own, and what it says of this seat. No statement is proved here. -/
import Derived.Test.YtfbilefiaminnaaGreatDoorProg
import Derived.Test.YtfbilefiaminnaaGreatDoorPartAP
import Derived.Test.YtfbilefiaminnaaGreatDoorPartBF
import Derived.Test.YtfbilefiaminnaaGreatDoorPartBE
import Derived.KernelRfl
namespace Go.Dec
abbrev cO:List OS:=[.box 80 [.v .str,.v .bool,.v (.int .i64),.v (.int .i64),.v .bool,.own 1,.own 2,.v (.int .i64),.v (.int .i64),.v (.int .i64),.v (.int .i64),.v (.int .i64),.v (.int .i64),.v .bool,.v (.int .u8),.v .str,.v .str,.v (.int .i64),.v (.int .i64),.v (.int .i64),.v (.slice oF),.v .bool,.v .bool,.own 3,.own 4,.mp 5],.row 87 bQ,.row 77 aC,.row 118 gP,.row 118 gP,.dm .str (.int .i64)]
abbrev yBy:List OS:=[.box 80 [.v .str,.v .bool,.v (.int .i64),.v (.int .i64),.v .bool,.own 2,.own 3,.v (.int .i64),.v (.int .i64),.v (.int .i64),.v (.int .i64),.v (.int .i64),.v (.int .i64),.v .bool,.v (.int .u8),.v .str,.v .str,.v (.int .i64),.v (.int .i64),.v (.int .i64),.v (.slice oF),.v .bool,.v .bool,.own 4,.own 5,.mp 6],.fm [(.i .u8 123,71),(.i .u8 125,72),(.i .u8 58,73),(.i .u8 115,74),(.i .u8 121,75),(.i .u8 61,76),(.i .u8 100,76),(.i .u8 68,76),(.i .u8 103,76),(.i .u8 71,76),(.i .u8 104,76),(.i .u8 72,76),(.i .u8 110,76),(.i .u8 78,76),(.i .u8 112,76),(.i .u8 80,76),(.i .u8 120,76),(.i .u8 97,77),(.i .u8 105,77),(.i .u8 99,77),(.i .u8 98,78),(.i .u8 116,78),(.i .u8 84,78),(.i .u8 108,79),(.i .u8 113,79),(.i .u8 81,79),(.i .u8 114,80),(.i .u8 119,80)],.row 87 bQ,.row 77 aC,.row 118 gP,.row 118 gP,.dm .str (.int .i64)]
abbrev nM:List OS:=[.box 213 [.v .str,.v (.int .i64),.own 1,.v (.int .i64),.v (.arr 10 .bool)],.row 125 bA]
abbrev zNu:List OS:=[.box 80 [.v .str,.v .bool,.v (.int .i64),.v .opq,.v .bool,.own 1,.v .opq,.v (.int .i64),.v (.int .i64),.v (.int .i64),.v (.int .i64),.v (.int .i64),.v (.int .i64),.v .bool,.v (.int .u8),.v .str,.v .str,.v (.int .i64),.v (.int .i64),.v (.int .i64),.v (.slice oF),.v .bool,.v .bool,.own 2,.v .opq,.mp 3],.row 87 bQ,.row 118 gP,.dm .str (.int .i64)]
abbrev ySs:List OS:=[.box 80 [.v .str,.v .bool,.v (.int .i64),.v (.int .i64),.v .bool,.own 1,.own 2,.v (.int .i64),.v (.int .i64),.v (.int .i64),.v (.int .i64),.v (.int .i64),.v (.int .i64),.v .bool,.v (.int .u8),.v .str,.v .str,.v (.int .i64),.v (.int .i64),.v (.int .i64),.v (.slice oF),.v .bool,.v .bool,.own 3,.own 4,.mp 5],.row 87 bQ,.row 77 aC,.row 118 gP,.row 118 gP,.dm .str (.int .i64),.dm .str (.int .i64)]
abbrev ySt:List OS:=[.box 80 [.v .str,.v .bool,.v (.int .i64),.any 1,.v .bool,.own 1,.any 1,.v (.int .i64),.v (.int .i64),.v (.int .i64),.v (.int .i64),.v (.int .i64),.v (.int .i64),.v .bool,.v (.int .u8),.v .str,.v .str,.v (.int .i64),.v (.int .i64),.v (.int .i64),.v (.slice oF),.v .bool,.v .bool,.own 2,.any 1,.mp 3],.row 87 bQ,.row 118 gP,.dm .str (.int .i64)]
abbrev yBz:List OS:=[.box 210 [.ptr 2 0],.box 9 [.v .str],.box 213 [.v .str,.v (.int .i64),.own 3,.v (.int .i64),.v (.arr 10 .bool)],.row 125 bA]
abbrev yCa:List OS:=[.box 213 [.v .str,.v (.int .i64),.own 1,.v (.int .i64),.v (.arr 10 .bool)],.row 125 bA,.row 3 (.int .i64)]
abbrev Gt:List OS:=[.box 269 [.v .str,.v (.int .i64)]]
abbrev zKp:List OS:=[.box 267 [.ptr 2 0],.box 123 [.v (.arr 4 (.int .u64))],.box 269 [.v .str,.v (.int .i64)]]
abbrev zEj:List OS:=[.box 195 [.fC 0 0,.own 1],.row 5 (.int .u8)]
abbrev zQm:List OS:=[.box 9 [.v .str],.box 195 [.fC 1 0,.own 2],.row 5 (.int .u8)]
abbrev Ul:List OS:=[.box 204 [.v (.arr 256 .bool)]]
abbrev yVb:List OS:=[.box 85 [.v (.slice bA)],.box 250 [.clo 178 [(0,0),(1,0),(2,0),(3,0),(4,0),(5,0)]],.box 3 [.v (.int .i64)],.box 4 [.v .bool],.box 211 [.v (.arr 10 .bool)],.box 4 [.v .bool]]
open Go.Proofs
set_option linter.unusedVariables false
def tab:Tab:=[(3,⟨.int .i64,1,8,[.val (.int .i64) 0],some (.int .i64),false⟩),(4,⟨.bool,1,1,[.val .bool false],some .bool,false⟩),(5,⟨.int .u8,1,1,[.val (.int .u8) 0],some (.int .u8),false⟩),(9,⟨.str,1,16,[.val .str []],some .str,false⟩),(32,⟨.slice 9,1,24,[.bJ],some (.slice .str),false⟩),(36,⟨.slice 87,1,24,[.bJ],some (.slice bQ),false⟩),(37,⟨.slice 77,1,24,[.bJ],some (.slice aC),false⟩),(39,⟨.struct [(0,4),(1,36),(2,37)],3,56,[.val .bool false,.bJ,.bJ],some oO,false⟩),(57,⟨.int .i64,1,8,[.val (.int .i64) 0],some (.int .i64),false⟩),(69,⟨.ptr 80,1,8,[.lF],none,false⟩),(70,⟨.map 9 3,1,8,[.val .opq (Value.map none)],none,false⟩),(72,⟨.struct [(0,3),(1,3),(2,3)],3,24,[.val (.int .i64) 0,.val (.int .i64) 0,.val (.int .i64) 0],some Wi,true⟩),(74,⟨.struct [(0,72),(3,72),(6,4)],7,56,[.val (.int .i64) 0,.val (.int .i64) 0,.val (.int .i64) 0,.val (.int .i64) 0,.val (.int .i64) 0,.val (.int .i64) 0,.val .bool false],some zG,true⟩),(75,⟨.slice 134,1,24,[.bJ],some (.slice oF),false⟩),(77,⟨.struct [(0,74),(7,5),(8,9),(9,9),(10,3),(11,3),(12,3),(13,75),(14,4),(15,4)],16,152,[.val (.int .i64) 0,.val (.int .i64) 0,.val (.int .i64) 0,.val (.int .i64) 0,.val (.int .i64) 0,.val (.int .i64) 0,.val .bool false,.val (.int .u8) 0,.val .str [],.val .str [],.val (.int .i64) 0,.val (.int .i64) 0,.val (.int .i64) 0,.bJ,.val .bool false,.val .bool false],some aC,false⟩),(78,⟨.slice 118,1,24,[.bJ],some (.slice gP),false⟩),(80,⟨.struct [(0,9),(1,4),(2,3),(3,3),(4,39),(7,77),(23,78),(24,78),(25,70)],26,304,[.val .str [],.val .bool false,.val (.int .i64) 0,.val (.int .i64) 0,.val .bool false,.bJ,.bJ,.val (.int .i64) 0,.val (.int .i64) 0,.val (.int .i64) 0,.val (.int .i64) 0,.val (.int .i64) 0,.val (.int .i64) 0,.val .bool false,.val (.int .u8) 0,.val .str [],.val .str [],.val (.int .i64) 0,.val (.int .i64) 0,.val (.int .i64) 0,.bJ,.val .bool false,.val .bool false,.bJ,.bJ,.val .opq (Value.map none)],none,false⟩),(85,⟨.slice 125,1,24,[.bJ],some (.slice bA),false⟩),(87,⟨.struct [(0,85),(1,4)],2,32,[.bJ,.val .bool false],some bQ,false⟩),(100,⟨.func,1,8,[.val .opq Value.nilFunc],some .opq,false⟩),(113,⟨.map 5 147,1,8,[.val .opq (Value.map none)],none,false⟩),(118,⟨.struct [(0,3),(1,3),(2,9)],3,32,[.val (.int .i64) 0,.val (.int .i64) 0,.val .str []],some gP,true⟩),(121,⟨.int .u64,1,8,[.val (.int .u64) 0],some (.int .u64),false⟩),(123,⟨.arr 4 121,4,32,[.val (.arr 4 (.int .u64)) ([0,0,0,0])],some (.arr 4 (.int .u64)),true⟩),(125,⟨.struct [(0,3),(1,123),(5,3),(6,3),(7,3),(8,3),(9,3)],10,80,[.val (.int .i64) 0,.val (.arr 4 (.int .u64)) ([0,0,0,0]),.val (.int .i64) 0,.val (.int .i64) 0,.val (.int .i64) 0,.val (.int .i64) 0,.val (.int .i64) 0],some bA,true⟩),(127,⟨.arr 256 4,256,256,[.val (.arr 256 .bool) (List.replicate 256 false)],some (.arr 256 .bool),true⟩),(134,⟨.struct [(0,9),(1,3)],2,24,[.val .str [],.val (.int .i64) 0],some oF,true⟩),(147,⟨.func,1,8,[.val .opq Value.nilFunc],some .opq,false⟩),(149,⟨.slice 5,1,24,[.bJ],some (.slice (.int .u8)),false⟩),(173,⟨.arr 256 5,256,256,[.val (.arr 256 (.int .u8)) (List.replicate 256 0)],some (.arr 256 (.int .u8)),true⟩),(193,⟨.ptr 195,1,8,[.lF],none,false⟩),(195,⟨.struct [(0,193),(1,149)],2,32,[.lF,.bJ],none,false⟩),(198,⟨.iface false,1,16,[.val .err false],some .err,false⟩),(204,⟨.arr 256 4,256,256,[.val (.arr 256 .bool) (List.replicate 256 false)],some (.arr 256 .bool),true⟩),(208,⟨.ptr 204,1,8,[.lF],none,false⟩),(210,⟨.ptr 213,1,8,[.lF],none,false⟩),(211,⟨.arr 10 4,10,10,[.val (.arr 10 .bool) ([false,false,false,false,false,false,false,false,false,false])],some (.arr 10 .bool),true⟩),(213,⟨.struct [(0,9),(1,3),(2,85),(3,3),(4,211)],14,72,[.val .str [],.val (.int .i64) 0,.bJ,.val (.int .i64) 0,.val (.arr 10 .bool) ([false,false,false,false,false,false,false,false,false,false])],some Ic,false⟩),(215,⟨.struct [(0,57),(1,3)],2,16,[.val (.int .i64) 0,.val (.int .i64) 0],some yUi,true⟩),(219,⟨.slice 3,1,24,[.bJ],some (.slice (.int .i64)),false⟩),(233,⟨.arr 2 3,2,16,[.val (.arr 2 (.int .i64)) ([0,0])],some (.arr 2 (.int .i64)),true⟩),(234,⟨.arr 7 233,14,112,[.val (.arr 7 (.arr 2 (.int .i64))) ([[0,0],[0,0],[0,0],[0,0],[0,0],[0,0],[0,0]])],some (.arr 7 (.arr 2 (.int .i64))),true⟩),(250,⟨.func,1,8,[.val .opq Value.nilFunc],some .opq,false⟩),(267,⟨.ptr 269,1,8,[.lF],none,false⟩),(269,⟨.struct [(0,9),(1,3)],2,24,[.val .str [],.val (.int .i64) 0],some oF,true⟩),(284,⟨.slice 123,1,24,[.bJ],some (.slice (.arr 4 (.int .u64))),false⟩)]
theorem aR:bM Tryz.prog tab:=zDa (by kernel_rfl)
theorem mixed:Tryz.prog.follows .mixedOrders=true:=by kernel_rfl
abbrev mD:Sh:=⟨2,[⟨0,false,[.ptr 0 0]⟩,⟨1,false,[.v .str]⟩],cO⟩
abbrev kF:Sh:=⟨1,[⟨0,false,[.v .bool]⟩],cO⟩
abbrev Bw:List Ty:=[.str,.int .i64]
abbrev yB:List Ty:=[.str,.int .i64]
abbrev Kg:List Ty:=[.str,.int .u8]
abbrev zJ:List Ty:=[.str]
abbrev zK:List Ty:=[.str]
abbrev sO:List Ty:=[.arr 256 .bool,.bool]
abbrev tH:Sh:=⟨2,[⟨0,false,[.ptr 0 0]⟩,⟨1,false,[.v (.int .u8)]⟩],Ul⟩
abbrev nH:Sh:=⟨1,[⟨0,false,[.v .bool]⟩],Ul⟩
abbrev Ih:Sh:=⟨2,[⟨0,false,[.v .str]⟩,⟨1,false,[.ptr 0 0]⟩],Ul⟩
abbrev yC:Sh:=⟨1,[⟨0,false,[.v .str]⟩],Ul⟩
abbrev Gu:List Ty:=[.str,.str]
abbrev yY:List Ty:=[.str]
abbrev Sm:List Ty:=[.str,.int .i64]
abbrev Ja:List Ty:=[.int .i64]
abbrev iT:Sh:=⟨1,[⟨0,false,[.ptr 0 0]⟩],cO⟩
abbrev gJ:Sh:=⟨0,[],cO⟩
abbrev Ii:List Ty:=[.str,.int .u8]
abbrev yD:List Ty:=[.str]
abbrev Gp:Sh:=⟨2,[⟨0,false,[.v .str]⟩,⟨1,false,[.ptr 0 0]⟩],Ul⟩
abbrev wN:Sh:=⟨1,[⟨0,false,[.v .str]⟩],Ul⟩
abbrev Rb:List Ty:=[.str,.str]
abbrev Ec:List Ty:=[.str]
abbrev zAc:List Ty:=[.str,.int .i64,.str]
abbrev Qf:List Ty:=[.str,.int .i64]
abbrev qU:Sh:=⟨2,[⟨0,false,[.ptr 0 0]⟩,⟨1,false,[.v .str]⟩],cO⟩
abbrev mU:Sh:=⟨1,[⟨0,false,[.v .str]⟩],cO⟩
abbrev zFq:List Ty:=[.str,.int .i64]
abbrev Sn:List Ty:=[.int .i64,.int .i64,.int .i64]
abbrev fF:Sh:=⟨1,[⟨0,false,[.v (.int .i64)]⟩],[]⟩
abbrev fG:Sh:=⟨0,[],[]⟩
abbrev fH:Sh:=⟨1,[⟨0,false,[.v (.int .i64)]⟩],[]⟩
abbrev sP:Sh:=⟨2,[⟨0,false,[.ptr 0 0]⟩,⟨1,false,[.v (.int .i64)]⟩],cO⟩
abbrev nW:Sh:=⟨1,[⟨0,false,[.v (.int .i64)]⟩],cO⟩
abbrev nX:Sh:=⟨1,[⟨0,false,[.v (.int .i64)]⟩],cO⟩
abbrev wB:Sh:=⟨2,[⟨0,false,[.ptr 0 0]⟩,⟨1,false,[.v .str]⟩],cO⟩
abbrev qV:Sh:=⟨1,[⟨0,false,[.v .bool]⟩],cO⟩
abbrev sM:Sh:=⟨1,[⟨0,false,[.ptr 0 0]⟩],cO⟩
abbrev nY:Sh:=⟨1,[⟨0,false,[.v (.int .u8)]⟩],cO⟩
abbrev nZ:Sh:=⟨1,[⟨0,false,[.v (.int .i64)]⟩],cO⟩
abbrev rF:Sh:=⟨2,[⟨0,false,[.ptr 0 0]⟩,⟨1,false,[.v .str]⟩],zEj⟩
abbrev lN:Sh:=⟨2,[⟨0,false,[.v (.int .i64)]⟩,⟨1,false,[.v .err]⟩],zEj⟩
abbrev zFr:Sh:=⟨3,[⟨0,false,[.v .str]⟩,⟨1,false,[.ptr 0 0]⟩,⟨2,false,[.ptr 1 0]⟩],zQm⟩
abbrev Sq:Sh:=⟨1,[⟨0,false,[.v .bool]⟩],zQm⟩
abbrev Bg:Sh:=⟨2,[⟨0,false,[.v .str]⟩,⟨1,false,[.clo 141 [(0,0),(1,0)]]⟩],zQm⟩
abbrev tJ:Sh:=⟨1,[⟨0,false,[.v (.int .i64)]⟩],zQm⟩
abbrev wI:List Ty:=[.str,.str]
abbrev oM:List Ty:=[.bool]
abbrev jE:List Ty:=[.str,.str]
abbrev iD:List Ty:=[.bool]
abbrev zLy:List Ty:=[.str,.int .i64,.int .u8]
abbrev zAd:List Ty:=[.str,.int .i64,.int .i64]
abbrev zL:Sh:=⟨1,[⟨0,false,[.v (.int .i64)]⟩],[]⟩
abbrev vH:Sh:=⟨0,[],[]⟩
abbrev vI:Sh:=⟨1,[⟨0,false,[.v (.int .i64)]⟩],[]⟩
abbrev wC:Sh:=⟨2,[⟨0,false,[.ptr 0 0]⟩,⟨1,false,[.v (.int .u8)]⟩],cO⟩
abbrev qW:Sh:=⟨1,[⟨0,false,[.v .str]⟩],cO⟩
abbrev qX:Sh:=⟨1,[⟨0,false,[.v (.int .i64)]⟩],cO⟩
abbrev qA:Sh:=⟨2,[⟨0,false,[.ptr 0 0]⟩,⟨1,false,[.v .str]⟩],nM⟩
abbrev mE:Sh:=⟨1,[⟨0,false,[.v .bool]⟩],nM⟩
abbrev vJ:Sh:=⟨2,[⟨0,false,[.ptr 0 0]⟩,⟨1,false,[.v .str]⟩],nM⟩
abbrev rG:Sh:=⟨1,[⟨0,false,[.v .bool]⟩],nM⟩
abbrev sQ:Sh:=⟨2,[⟨0,false,[.ptr 0 0]⟩,⟨1,true,[.v (.int .i64),.v (.arr 4 (.int .u64)),.v (.int .i64),.v (.int .i64),.v (.int .i64),.v (.int .i64),.v (.int .i64)]⟩],nM⟩
abbrev pG:Sh:=⟨1,[⟨0,false,[.v (.int .i64)]⟩],nM⟩
abbrev Rc:Sh:=⟨1,[⟨0,false,[.ptr 0 0]⟩],nM⟩
abbrev Ed:Sh:=⟨1,[⟨0,false,[.v .bool]⟩],nM⟩
abbrev zNv:List Ty:=[.arr 4 (.int .u64)]
abbrev zEk:List Ty:=[.arr 4 (.int .u64)]
abbrev Gv:Sh:=⟨2,[⟨0,false,[.ptr 0 0]⟩,⟨1,true,[.v (.arr 4 (.int .u64))]⟩],nM⟩
abbrev yZ:Sh:=⟨1,[⟨0,false,[.v (.int .i64)]⟩],nM⟩
abbrev Di:Sh:=⟨2,[⟨0,false,[.ptr 0 0]⟩,⟨1,false,[.v .str]⟩],Gt⟩
abbrev xI:Sh:=⟨1,[⟨0,false,[.v .bool]⟩],Gt⟩
abbrev Gf:Sh:=⟨2,[⟨0,false,[.ptr 0 0]⟩,⟨1,false,[.v .str]⟩],Gt⟩
abbrev zM:Sh:=⟨1,[⟨0,false,[.v .bool]⟩],Gt⟩
abbrev Gg:Sh:=⟨1,[⟨0,false,[.ptr 0 0]⟩],Gt⟩
abbrev Gh:Sh:=⟨0,[],Gt⟩
abbrev Gi:Sh:=⟨1,[⟨0,true,[.v (.int .i64),.v (.int .i64)]⟩],Gt⟩
abbrev Um:List Ty:=[.int .u8,.int .u8]
abbrev Mf:List Ty:=[.arr 4 (.int .u64)]
abbrev zTo:List Ty:=[.slice (.arr 4 (.int .u64))]
abbrev zKq:List Ty:=[.arr 4 (.int .u64)]
abbrev zKr:List Ty:=[.str]
abbrev zBx:List Ty:=[.arr 4 (.int .u64)]
abbrev zQn:List Ty:=[.str]
abbrev zEl:List Ty:=[.arr 4 (.int .u64),.bool]
abbrev Tf:Sh:=⟨3,[⟨0,false,[.ptr 0 0]⟩,⟨1,false,[.v .bool]⟩,⟨2,false,[.v .bool]⟩],Gt⟩
abbrev Gw:Sh:=⟨2,[⟨0,false,[.v (.int .u8)]⟩,⟨1,false,[.v .bool]⟩],Gt⟩
abbrev Gx:Sh:=⟨1,[⟨0,true,[.v (.int .i64),.v (.int .i64)]⟩],Gt⟩
abbrev zBy:Sh:=⟨2,[⟨0,false,[.ptr 0 0]⟩,⟨1,false,[.v .bool]⟩],Gt⟩
abbrev Oj:Sh:=⟨1,[⟨0,true,[.v (.arr 4 (.int .u64))]⟩],Gt⟩
abbrev Ol:Sh:=⟨1,[⟨0,true,[.v (.int .i64),.v (.int .i64)]⟩],Gt⟩
abbrev zBz:Sh:=⟨2,[⟨0,false,[.ptr 0 0]⟩,⟨1,false,[.ptr 1 0]⟩],zKp⟩
abbrev Om:Sh:=⟨0,[],zKp⟩
abbrev Oo:Sh:=⟨1,[⟨0,true,[.v (.int .i64),.v (.int .i64)]⟩],zKp⟩
abbrev uM:Sh:=⟨1,[⟨0,false,[.clo 206 [(0,0),(1,0)]]⟩],zKp⟩
abbrev uN:Sh:=⟨1,[⟨0,true,[.v (.int .i64),.v (.int .i64)]⟩],zKp⟩
abbrev zIh:List Ty:=[.str]
abbrev Wx:List Ty:=[.arr 4 (.int .u64),.int .i64,.int .i64]
abbrev rH:Sh:=⟨3,[⟨0,false,[.ptr 0 0]⟩,⟨1,false,[.v (.int .i64)]⟩,⟨2,false,[.v (.int .i64)]⟩],nM⟩
abbrev rJ:Sh:=⟨0,[],nM⟩
abbrev rM:Sh:=⟨1,[⟨0,true,[.v (.int .i64),.v (.int .i64)]⟩],nM⟩
abbrev Rf:Sh:=⟨1,[⟨0,false,[.ptr 0 0]⟩],nM⟩
abbrev Ee:Sh:=⟨1,[⟨0,false,[.v (.int .i64)]⟩],nM⟩
abbrev Tg:Sh:=⟨2,[⟨0,false,[.ptr 0 0]⟩,⟨1,false,[.v (.int .i64)]⟩],nM⟩
abbrev Gy:Sh:=⟨1,[⟨0,false,[.v (.int .i64)]⟩],nM⟩
abbrev Gz:Sh:=⟨1,[⟨0,true,[.v (.int .i64),.v (.int .i64)]⟩],nM⟩
abbrev Ti:Sh:=⟨2,[⟨0,false,[.ptr 0 0]⟩,⟨1,false,[.v (.int .i64)]⟩],nM⟩
abbrev He:Sh:=⟨1,[⟨0,false,[.v (.int .i64)]⟩],nM⟩
abbrev Hf:Sh:=⟨1,[⟨0,true,[.v (.int .i64),.v (.int .i64)]⟩],nM⟩
abbrev Ni:Sh:=⟨2,[⟨0,false,[.ptr 0 0]⟩,⟨1,false,[.v .bool]⟩],nM⟩
abbrev Ce:Sh:=⟨1,[⟨0,false,[.v (.int .i64)]⟩],nM⟩
abbrev Cg:Sh:=⟨1,[⟨0,true,[.v (.int .i64),.v (.int .i64)]⟩],nM⟩
abbrev Wy:Sh:=⟨2,[⟨0,false,[.ptr 0 0]⟩,⟨1,false,[.v .bool]⟩],nM⟩
abbrev Jl:Sh:=⟨1,[⟨0,false,[.v (.int .i64)]⟩],nM⟩
abbrev Jm:Sh:=⟨1,[⟨0,true,[.v (.int .i64),.v (.int .i64)]⟩],nM⟩
abbrev mM:Sh:=⟨1,[⟨0,false,[.ptr 0 0]⟩],nM⟩
abbrev kJ:Sh:=⟨1,[⟨0,false,[.v (.int .i64)]⟩],nM⟩
abbrev kK:Sh:=⟨1,[⟨0,true,[.v (.int .i64),.v (.int .i64)]⟩],nM⟩
abbrev zIi:Sh:=⟨2,[⟨0,false,[.ptr 0 0]⟩,⟨1,false,[.ptr 1 0]⟩],yBz⟩
abbrev Wz:Sh:=⟨0,[],yBz⟩
abbrev Xa:Sh:=⟨1,[⟨0,true,[.v (.int .i64),.v (.int .i64)]⟩],yBz⟩
abbrev wO:Sh:=⟨1,[⟨0,false,[.clo 137 [(0,0),(1,0)]]⟩],yBz⟩
abbrev wP:Sh:=⟨1,[⟨0,true,[.v (.int .i64),.v (.int .i64)]⟩],yBz⟩
abbrev zQo:List Ty:=[.str]
abbrev zEm:List Ty:=[.slice bA,.int .i64,.int .i64]
abbrev yE:Sh:=⟨2,[⟨0,false,[.ptr 0 0]⟩,⟨1,false,[.v (.int .u8)]⟩],cO⟩
abbrev rV:Sh:=⟨1,[⟨0,false,[.v (.int .i64)]⟩],cO⟩
abbrev rW:Sh:=⟨1,[⟨0,false,[.v (.int .i64)]⟩],cO⟩
abbrev Ch:Sh:=⟨1,[⟨0,false,[.ptr 0 0]⟩],cO⟩
abbrev wD:Sh:=⟨0,[],cO⟩
abbrev Ij:Sh:=⟨2,[⟨0,false,[.ptr 0 0]⟩,⟨1,false,[.v .bool]⟩],cO⟩
abbrev yF:Sh:=⟨2,[⟨0,true,[.v (.int .i64),.v (.int .i64),.v (.int .i64)]⟩,⟨1,false,[.v .bool]⟩],cO⟩
abbrev yG:Sh:=⟨1,[⟨0,false,[.v (.int .i64)]⟩],cO⟩
abbrev zCa:List Ty:=[Wi]
abbrev Oq:List Ty:=[.bool]
abbrev zVm:List Ty:=[zG]
abbrev zIj:List Ty:=[.bool]
abbrev Ef:Sh:=⟨1,[⟨0,false,[.ptr 0 0]⟩],cO⟩
abbrev vK:Sh:=⟨1,[⟨0,false,[.v (.int .i64)]⟩],cO⟩
abbrev vL:Sh:=⟨1,[⟨0,false,[.v (.int .i64)]⟩],cO⟩
abbrev kZ:Sh:=⟨1,[⟨0,false,[.ptr 0 0]⟩],cO⟩
abbrev jF:Sh:=⟨0,[],cO⟩
abbrev Af:Sh:=⟨1,[⟨0,false,[.ptr 0 0]⟩],cO⟩
abbrev uO:Sh:=⟨0,[],cO⟩
abbrev Mg:Sh:=⟨1,[⟨0,false,[.ptr 0 0]⟩],cO⟩
abbrev Ag:Sh:=⟨0,[],cO⟩
abbrev Ah:Sh:=⟨1,[⟨0,false,[.v (.int .i64)]⟩],cO⟩
abbrev Nj:Sh:=⟨1,[⟨0,false,[.ptr 0 0]⟩],cO⟩
abbrev Ci:Sh:=⟨1,[⟨0,false,[.v .str]⟩],cO⟩
abbrev Cj:Sh:=⟨1,[⟨0,false,[.v (.int .i64)]⟩],cO⟩
abbrev uP:Sh:=⟨1,[⟨0,false,[.ptr 0 0]⟩],cO⟩
abbrev pI:Sh:=⟨0,[],cO⟩
abbrev pJ:Sh:=⟨1,[⟨0,false,[.v (.int .i64)]⟩],cO⟩
abbrev Mh:Sh:=⟨1,[⟨0,false,[.ptr 0 0]⟩],cO⟩
abbrev Ai:Sh:=⟨0,[],cO⟩
abbrev Aj:Sh:=⟨1,[⟨0,false,[.v (.int .i64)]⟩],cO⟩
abbrev zCb:Sh:=⟨2,[⟨0,false,[.ptr 0 0]⟩,⟨1,false,[.ptr 1 0]⟩],[.box 9 [.v .str],.box 75 [.own 2],.row 134 oF]⟩
abbrev Ot:Sh:=⟨0,[],[.box 9 [.v .str],.box 75 [.own 2],.row 134 oF]⟩
abbrev zIk:List Ty:=[.str]
abbrev Xb:List Ty:=[.slice oF,.int .i64,.int .i64]
abbrev zLz:List Ty:=[.slice oF]
abbrev zAe:List Ty:=[.int .i64]
abbrev zCc:List Ty:=[bA]
abbrev Ou:List Ty:=[.int .i64]
abbrev zCd:List Ty:=[bA]
abbrev Ov:List Ty:=[bA]
abbrev zIl:List Ty:=[bA]
abbrev Xc:List Ty:=[.bool]
abbrev Tj:List Ty:=[.slice (.int .i64),.int .i64]
abbrev Hg:List Ty:=[.int .i64]
abbrev Mi:List Ty:=[.slice (.int .i64),.int .i64]
abbrev Ak:List Ty:=[.bool]
abbrev yCb:List Ty:=[.slice bA,bA]
abbrev zNw:List Ty:=[.bool]
abbrev zMa:List Ty:=[.slice bA]
abbrev zAf:List Ty:=[.bool]
abbrev zN:Sh:=⟨7,[⟨0,false,[.v (.int .i64)]⟩,⟨1,false,[.ptr 0 0]⟩,⟨2,false,[.ptr 1 0]⟩,⟨3,false,[.ptr 2 0]⟩,⟨4,false,[.ptr 3 0]⟩,⟨5,false,[.ptr 4 0]⟩,⟨6,false,[.ptr 5 0]⟩],yVb⟩
abbrev vB:Sh:=⟨0,[],yVb⟩
abbrev zIm:List Ty:=[.slice bA]
abbrev Xd:List Ty:=[.int .i64,.bool,.bool]
abbrev yCc:List Ty:=[.slice bA]
abbrev zNx:List Ty:=[.int .i64,.bool,.bool]
abbrev zQp:List Ty:=[.slice bA]
abbrev zEn:List Ty:=[.int .i64]
abbrev Mj:Sh:=⟨1,[⟨0,false,[.ptr 0 0]⟩],cO⟩
abbrev Al:Sh:=⟨1,[⟨0,false,[.v .bool]⟩],cO⟩
abbrev Am:Sh:=⟨1,[⟨0,false,[.v (.int .i64)]⟩],cO⟩
abbrev Mk:Sh:=⟨1,[⟨0,false,[.ptr 0 0]⟩],cO⟩
abbrev Ao:Sh:=⟨0,[],cO⟩
abbrev Ap:Sh:=⟨1,[⟨0,false,[.v (.int .i64)]⟩],cO⟩
abbrev zIn:List Ty:=[.str]
abbrev Xe:List Ty:=[.str,.int .i64,.int .i64]
abbrev zMb:List Ty:=[]
abbrev zAg:List Ty:=[.arr 256 (.int .u8)]
abbrev zMc:List Ty:=[.str,.str]
abbrev zAh:List Ty:=[.arr 256 (.int .u8),.int .i64]
abbrev pK:Sh:=⟨1,[⟨0,false,[.ptr 0 0]⟩],cO⟩
abbrev lQ:Sh:=⟨0,[],cO⟩
abbrev lS:Sh:=⟨1,[⟨0,false,[.v (.int .i64)]⟩],cO⟩
abbrev Eh:Sh:=⟨1,[⟨0,false,[.ptr 0 0]⟩],cO⟩
abbrev vM:Sh:=⟨0,[],cO⟩
abbrev vN:Sh:=⟨1,[⟨0,false,[.v (.int .i64)]⟩],cO⟩
abbrev zFs:Sh:=⟨2,[⟨0,false,[.v .str]⟩,⟨1,false,[.ptr 0 0]⟩],zEj⟩
abbrev Sr:Sh:=⟨1,[⟨0,false,[.v .bool]⟩],zEj⟩
abbrev Bh:Sh:=⟨2,[⟨0,false,[.v .str]⟩,⟨1,false,[.clo 124 [(0,0)]]⟩],zEj⟩
abbrev tK:Sh:=⟨1,[⟨0,false,[.v (.int .i64)]⟩],zEj⟩
abbrev zMd:List Ty:=[.str,.int .i64]
abbrev zAi:List Ty:=[.str,.int .i64,.int .i64]
abbrev Nk:Sh:=⟨1,[⟨0,false,[.ptr 0 0]⟩],cO⟩
abbrev Ck:Sh:=⟨0,[],cO⟩
abbrev Cm:Sh:=⟨1,[⟨0,false,[.v (.int .i64)]⟩],cO⟩
abbrev Ei:Sh:=⟨1,[⟨0,false,[.ptr 0 0]⟩],zNu⟩
abbrev vO:Sh:=⟨0,[],zNu⟩
abbrev Ik:Sh:=⟨2,[⟨0,false,[.ptr 0 0]⟩,⟨1,false,[.v .str]⟩],zNu⟩
abbrev yH:Sh:=⟨1,[⟨0,false,[.v .str]⟩],zNu⟩
abbrev zAj:Sh:=⟨1,[⟨0,false,[.ptr 0 0]⟩],zNu⟩
abbrev yI:Sh:=⟨1,[⟨0,false,[.v .str]⟩],zNu⟩
abbrev yJ:Sh:=⟨1,[⟨0,false,[.v (.int .i64)]⟩],zNu⟩
abbrev vP:Sh:=⟨1,[⟨0,false,[.ptr 0 0]⟩],ySt⟩
abbrev Ej:Sh:=⟨1,[⟨0,false,[.v .str]⟩],ySt⟩
abbrev El:Sh:=⟨1,[⟨0,false,[.v (.int .i64)]⟩],ySt⟩
abbrev Kh:Sh:=⟨1,[⟨0,false,[.ptr 0 0]⟩],cO⟩
abbrev zO:Sh:=⟨0,[],cO⟩
abbrev zP:Sh:=⟨1,[⟨0,false,[.v (.int .i64)]⟩],cO⟩
abbrev Il:Sh:=⟨1,[⟨0,false,[.ptr 0 0]⟩],cO⟩
abbrev yK:Sh:=⟨0,[],cO⟩
abbrev yL:Sh:=⟨1,[⟨0,false,[.v (.int .i64)]⟩],cO⟩
abbrev Nl:Sh:=⟨1,[⟨0,false,[.ptr 0 0]⟩],cO⟩
abbrev Cn:Sh:=⟨0,[],cO⟩
abbrev Cq:Sh:=⟨1,[⟨0,false,[.v (.int .i64)]⟩],cO⟩
abbrev Im:Sh:=⟨2,[⟨0,false,[.ptr 0 0]⟩,⟨1,false,[.mp 1]⟩],yBy⟩
abbrev yM:Sh:=⟨0,[],yBy⟩
abbrev yN:Sh:=⟨1,[⟨0,false,[.v (.int .i64)]⟩],yBy⟩
abbrev Ml:Sh:=⟨1,[⟨0,false,[.ptr 0 0]⟩],cO⟩
abbrev Aq:Sh:=⟨0,[],cO⟩
abbrev Ar:Sh:=⟨1,[⟨0,false,[.v (.int .i64)]⟩],cO⟩
abbrev mF:Sh:=⟨1,[⟨0,false,[.clo 1000030 [(0,0)]]⟩],cO⟩
abbrev mG:Sh:=⟨1,[⟨0,false,[.v (.int .i64)]⟩],cO⟩
abbrev Sv:List Ty:=[.str,.bool]
abbrev Jb:List Ty:=[oO,.int .i64,.int .i64]
def zIo (n:Nat):An (kF.X) := .nil
theorem jZ(n:Nat):dV Tryz.prog 49 mD kF (dD n):=
 dL (Γ:=bB _ [(81,bS kX kY (strings_IndexByte n))] []) (an:=zIo n) (co:=[.gc [0,1,2,3,4,5]]) Tryz.func49 rfl (by kernel_rfl) aR (aH (all_cons (aQ (jY n)) (all_nil)) (aI)) mixed (aF _ _ rfl) (by kernel_rfl) (by kernel_rfl) (λx=>by kernel_rfl)
def yCd (n:Nat):An (dB yB) := .nil
theorem xJ(n:Nat):Pure Tryz.prog 110 Bw yB (lM n):=
 bT (Γ:=bB _ [] []) (an:=yCd n) Tryz.func110 rfl (by kernel_rfl) aR (aH (all_nil) (aI)) mixed (aF _ _ rfl) (λx=>by kernel_rfl)
def zAk (n:Nat):An (dB zJ):=(.mk .nil (.mk (.mk (.loop ⟨17,[⟨0,false,[.v .str]⟩,⟨1,false,[.v (.int .u8)]⟩],[]⟩ [.keep [true,true],.gcA 0,.gcA 0] [.keep [true,true],.gcA 0,.gcA 0] n .nil) .nil []) .nil []) [])
theorem Un(n:Nat):Pure Tryz.prog 146 Kg zJ (strings_trimLeftByte n):=
 bT (Γ:=bB _ [] []) (an:=zAk n) Tryz.func146 rfl (by kernel_rfl) aR (aH (all_nil) (aI)) mixed (aF _ _ rfl) (λx=>by kernel_rfl)
def zAl (n:Nat):An (dB sO):=(.mk .nil (.mk (.mk .nil (.mk (.loop ⟨21,[⟨0,false,[.v .str]⟩,⟨2,false,[.ptr 0 0]⟩,⟨4,false,[.v (.int .i64)]⟩],Ul⟩ [.keep [true,false,true,false,true],.gcA 0,.gcA 0] [.keep [true,false,true,false,true],.gcA 0,.gcA 0] n .nil) .nil []) []) .nil []) [])
theorem Dj(n:Nat):Pure Tryz.prog 131 zK sO (strings_makeASCIISet n):=
 bT (Γ:=bB _ [] []) (an:=zAl n) Tryz.func131 rfl (by kernel_rfl) aR (aH (all_nil) (aI)) mixed (aF _ _ rfl) (λx=>by kernel_rfl)
def Rh (n:Nat):An (nH.X) := .nil
theorem wJ(n:Nat):dV Tryz.prog 149 tH nH (gB n):=
 dL (Γ:=bB _ [] []) (an:=Rh n) (co:=[.gc [0]]) Tryz.func149 rfl (by kernel_rfl) aR (aH (all_nil) (aI)) mixed (aF _ _ rfl) (by kernel_rfl) (by kernel_rfl) (λx=>by kernel_rfl)
def Yc (n:Nat):An (yC.X):=(.mk .nil (.mk (.mk (.loop ⟨16,[⟨0,false,[.v .str]⟩,⟨1,false,[.ptr 0 0]⟩],Ul⟩ [.keep [true,true],.gcA 1,.gcA 1] [.keep [true,true],.gcA 1,.gcA 1] n .nil) .nil []) .nil []) [])
theorem Ri(n:Nat):dV Tryz.prog 147 Ih yC (strings_trimLeftASCII n):=
 dL (Γ:=bB _ [(149,peM tH nH (gB n))] []) (an:=Yc n) (co:=[.gc [0]]) Tryz.func147 rfl (by kernel_rfl) aR (aH (all_cons (aZ (wJ n)) (all_nil)) (aI)) mixed (aF _ _ rfl) (by kernel_rfl) (by kernel_rfl) (λx=>by kernel_rfl)
def zIp (n:Nat):An (dB yY) := .nil
theorem Ki(n:Nat):Pure Tryz.prog 129 Gu yY (jP n):=
 bT (Γ:=bB _ [(146,bS Kg zJ (strings_trimLeftByte n)),(131,bS zK sO (strings_makeASCIISet n)),(147,peM Ih yC (strings_trimLeftASCII n))] []) (an:=zIp n) Tryz.func129 rfl (by kernel_rfl) aR (aH (all_cons (aQ (Un n)) (all_cons (aQ (Dj n)) (all_cons (aZ (Ri n)) (all_nil)))) (aI)) mixed (aF _ _ rfl) (λx=>by kernel_rfl)
def zTp (n:Nat):An (dB Ja) := .nil
theorem Tm(n:Nat):Pure Tryz.prog 109 Sm Ja (nA n):=
 bT (Γ:=bB _ [(110,bS Bw yB (lM n)),(129,bS Gu yY (jP n))] []) (an:=zTp n) Tryz.func109 rfl (by kernel_rfl) aR (aH (all_cons (aQ (xJ n)) (all_cons (aQ (Ki n)) (all_nil))) (aI)) mixed (aF _ _ rfl) (λx=>by kernel_rfl)
def zAm (n:Nat):An (gJ.X) := .nil
theorem gY(n:Nat):dV Tryz.prog 82 iT gJ (bL n):=
 dL (Γ:=bB _ [(109,bS Sm Ja (nA n))] []) (an:=zAm n) (co:=[.gc [0,1,2,3,4,5]]) Tryz.func82 rfl (by kernel_rfl) aR (aH (all_cons (aQ (Tm n)) (all_nil)) (aI)) mixed (aF _ _ rfl) (by kernel_rfl) (by kernel_rfl) (λx=>by kernel_rfl)
def Yd (n:Nat):An (dB yD):=(.mk .nil (.mk (.mk (.loop ⟨23,[⟨0,false,[.v .str]⟩,⟨1,false,[.v (.int .u8)]⟩],[]⟩ [.keep [true,true],.gcA 0,.gcA 0] [.keep [true,true],.gcA 0,.gcA 0] n .nil) .nil []) .nil []) [])
theorem Sw(n:Nat):Pure Tryz.prog 130 Ii yD (strings_trimRightByte n):=
 bT (Γ:=bB _ [] []) (an:=Yd n) Tryz.func130 rfl (by kernel_rfl) aR (aH (all_nil) (aI)) mixed (aF _ _ rfl) (λx=>by kernel_rfl)
def Xf (n:Nat):An (wN.X):=(.mk .nil (.mk (.mk (.loop ⟨22,[⟨0,false,[.v .str]⟩,⟨1,false,[.ptr 0 0]⟩],Ul⟩ [.keep [true,true],.gcA 1,.gcA 1] [.keep [true,true],.gcA 1,.gcA 1] n .nil) .nil []) .nil []) [])
theorem Ow(n:Nat):dV Tryz.prog 132 Gp wN (strings_trimRightASCII n):=
 dL (Γ:=bB _ [(149,peM tH nH (gB n))] []) (an:=Xf n) (co:=[.gc [0]]) Tryz.func132 rfl (by kernel_rfl) aR (aH (all_cons (aZ (wJ n)) (all_nil)) (aI)) mixed (aF _ _ rfl) (by kernel_rfl) (by kernel_rfl) (λx=>by kernel_rfl)
def zGa (n:Nat):An (dB Ec) := .nil
theorem zAn(n:Nat):Pure Tryz.prog 111 Rb Ec (kC n):=
 bT (Γ:=bB _ [(130,bS Ii yD (strings_trimRightByte n)),(131,bS zK sO (strings_makeASCIISet n)),(132,peM Gp wN (strings_trimRightASCII n))] []) (an:=zGa n) Tryz.func111 rfl (by kernel_rfl) aR (aH (all_cons (aQ (Sw n)) (all_cons (aQ (Dj n)) (all_cons (aZ (Ow n)) (all_nil)))) (aI)) mixed (aF _ _ rfl) (λx=>by kernel_rfl)
def yCe (n:Nat):An (dB Qf):=(.mk .nil (.mk .nil (.mk .nil (.mk (.mk (.loop ⟨43,[⟨1,false,[.v (.int .i64)]⟩,⟨2,false,[.v .str]⟩,⟨8,false,[.v .str]⟩,⟨9,false,[.v (.int .i64)]⟩],[]⟩ [.keep (kbm 10 774),.gcA 0,.gcA 0] [.keep (kbm 10 774),.gcA 0,.gcA 0] n .nil) .nil []) .nil []) []) []) [])
theorem Zj(n:Nat):Pure Tryz.prog 83 zAc Qf (rR n):=
 bT (Γ:=bB _ [(110,bS Bw yB (lM n)),(81,bS kX kY (strings_IndexByte n)),(111,bS Rb Ec (kC n))] []) (an:=yCe n) Tryz.func83 rfl (by kernel_rfl) aR (aH (all_cons (aQ (xJ n)) (all_cons (aQ (jY n)) (all_cons (aQ (zAn n)) (all_nil)))) (aI)) mixed (aF _ _ rfl) (λx=>by kernel_rfl)
def zEo (n:Nat):An (mU.X) := .nil
theorem pO(n:Nat):dV Tryz.prog 50 qU mU (eB n):=
 dL (Γ:=bB _ [(82,peM iT gJ (bL n)),(83,bS zAc Qf (rR n))] []) (an:=zEo n) (co:=[.gc [0,1,2,3,4,5]]) Tryz.func50 rfl (by kernel_rfl) aR (aH (all_cons (aZ (gY n)) (all_cons (aQ (Zj n)) (all_nil))) (aI)) mixed (aF _ _ rfl) (by kernel_rfl) (by kernel_rfl) (λx=>by kernel_rfl)
def zTq (n:Nat):An (dB Sn) := .nil
theorem zLa(n:Nat):Pure Tryz.prog 127 zFq Sn (Dy n):=
 bT (Γ:=bB _ [(110,bS Bw yB (lM n)),(129,bS Gu yY (jP n)),(145,bS Qx Qy (tX n))] []) (an:=zTq n) Tryz.func127 rfl (by kernel_rfl) aR (aH (all_cons (aQ (xJ n)) (all_cons (aQ (Ki n)) (all_cons (aQ (zAb n)) (all_nil)))) (aI)) mixed (aF _ _ rfl) (λx=>by kernel_rfl)
theorem cZ(n:Nat):cK Tryz.prog 52 fF fG 57 fH (aW n):=yEu (λx=>⟨_,_,rfl,rfl,rfl⟩)
def zAo (n:Nat):An (Sum nW.X nX.X) := .nil
theorem tL(n:Nat):cK Tryz.prog 107 sP nW 57 nX (dY n):=
 dN (Γ:=bB _ [(127,bS zFq Sn (Dy n))] [geP 52 fF fG 57 fH (aW n)]) (an:=zAo n) (co:=[.gc [0,1,2,3,4,5]]) (cp:=[.gc [0,1,2,3,4,5]]) Tryz.func107 rfl (by kernel_rfl) aR (aH (all_cons (aQ (zLa n)) (all_nil)) (aS (bG (cZ n)) (aI))) mixed (aF _ _ rfl) (by kernel_rfl) (by kernel_rfl) (by kernel_rfl) (λx=>by kernel_rfl)
def zEp (n:Nat):An (qV.X) := .nil
theorem vQ(n:Nat):dV Tryz.prog 85 wB qV (dH n):=
 dL (Γ:=bB _ [(49,peM mD kF (dD n))] []) (an:=zEp n) (co:=[.gc [0,1,2,3,4,5]]) Tryz.func85 rfl (by kernel_rfl) aR (aH (all_cons (aZ (jZ n)) (all_nil)) (aI)) mixed (aF _ _ rfl) (by kernel_rfl) (by kernel_rfl) (λx=>by kernel_rfl)
def zGb (n:Nat):An (Sum nY.X nZ.X) := .nil
theorem qJ(n:Nat):cK Tryz.prog 86 sM nY 57 nZ (fO n):=
 dN (Γ:=bB _ [] [geP 52 fF fG 57 fH (aW n)]) (an:=zGb n) (co:=[.gc [0,1,2,3,4,5]]) (cp:=[.gc [0,1,2,3,4,5]]) Tryz.func86 rfl (by kernel_rfl) aR (aH (all_nil) (aS (bG (cZ n)) (aI))) mixed (aF _ _ rfl) (by kernel_rfl) (by kernel_rfl) (by kernel_rfl) (λx=>by kernel_rfl)
def Nb (n:Nat):An (lN.X) := .nil
theorem uT(n:Nat):dV Tryz.prog 125 rF lN (eP n):=
 dL (Γ:=bB _ [(144,peM Oe Og (Iy n))] []) (an:=Nb n) (co:=[.gc [0,1]]) Tryz.func125 rfl (by kernel_rfl) aR (aH (all_cons (aZ (zFz n)) (all_nil)) (aI)) mixed (aF _ _ rfl) (by kernel_rfl) (by kernel_rfl) (λx=>by kernel_rfl)
def zTr (n:Nat):An (Sq.X) := .nil
theorem zIq(n:Nat):dV Tryz.prog 141 zFr Sq (sH n):=
 dL (Γ:=bB _ [(125,peM rF lN (eP n))] []) (an:=zTr n) (co:=[.gc [0,1,2]]) Tryz.func141 rfl (by kernel_rfl) aR (aH (all_cons (aZ (uT n)) (all_nil)) (aI)) mixed (aF _ _ rfl) (by kernel_rfl) (by kernel_rfl) (λx=>by kernel_rfl)
def Rj (n:Nat):An (tJ.X):=(.mk .nil (.mk (.mk .nil (.mk .nil (.mk (.mk (.loop ⟨35,[⟨0,false,[.v .str]⟩,⟨1,false,[.clo 141 [(0,0),(1,0)]]⟩,⟨5,false,[.v (.int .i64)]⟩],zQm⟩ [.keep (kbm 6 35),.gcA 3,.gcA 3] [.keep (kbm 6 35),.gcA 3,.gcA 3] n .nil) .nil []) .nil []) []) []) .nil []) [])
theorem Kn(n:Nat):dV Tryz.prog 123 Bg tJ (kG n):=
 dL (Γ:=bB _ [(141,peM zFr Sq (sH n))] []) (an:=Rj n) (co:=[.gc [0,1,2]]) Tryz.func123 rfl (by kernel_rfl) aR (aH (all_cons (aZ (zIq n)) (all_nil)) (aI)) mixed (aF _ _ rfl) (by kernel_rfl) (by kernel_rfl) (λx=>by kernel_rfl)
def Jo (n:Nat):An (dB oM) := .nil
theorem Gj(n:Nat):Pure Tryz.prog 46 wI oM (iB n):=
 bT (Γ:=bB _ [] []) (an:=Jo n) Tryz.func46 rfl (by kernel_rfl) aR (aH (all_nil) (aI)) mixed (aF _ _ rfl) (λx=>by kernel_rfl)
def zGc (n:Nat):An (dB iD) := .nil
theorem iG(n:Nat):Pure Tryz.prog 28 jE iD (strings_HasPrefix n):=
 bT (Γ:=bB _ [(46,bS wI oM (iB n))] []) (an:=zGc n) Tryz.func28 rfl (by kernel_rfl) aR (aH (all_cons (aQ (Gj n)) (all_nil)) (aI)) mixed (aF _ _ rfl) (λx=>by kernel_rfl)
def yCf (n:Nat):An (dB zAd):=(.mk .nil (.mk .nil (.mk .nil (.mk .nil (.mk .nil (.mk (.co [.ownB 2 1 149,.orn 2 0 2 0] .nil) .nil []) []) []) []) []) [])
theorem zQq(n:Nat):Pure Tryz.prog 119 zLy zAd (Lj n):=
 bT (Γ:=bB _ [(110,bS Bw yB (lM n)),(123,peM Bg tJ (kG n)),(28,bS jE iD (strings_HasPrefix n)),(126,peM Dh xH (Builder_String n))] []) (an:=yCf n) Tryz.func119 rfl (by kernel_rfl) aR (aH (all_cons (aQ (xJ n)) (all_cons (aZ (Kn n)) (all_cons (aQ (iG n)) (all_cons (aZ (Me n)) (all_nil))))) (aI)) mixed (aF _ _ rfl) (λx=>by kernel_rfl)
def zXg (n:Nat):An (Sum vH.X vI.X) := .nil
theorem uE(n:Nat):cK Tryz.prog 100 zL vH 57 vI (iF n):=
 dN (Γ:=bB _ [] [geP 52 fF fG 57 fH (aW n)]) (an:=zXg n) (co:=[.gc []]) (cp:=[.gc []]) Tryz.func100 rfl (by kernel_rfl) aR (aH (all_nil) (aS (bG (cZ n)) (aI))) mixed (aF _ _ rfl) (by kernel_rfl) (by kernel_rfl) (by kernel_rfl) (λx=>by kernel_rfl)
def zEq (n:Nat):An (Sum qW.X qX.X) := .nil
theorem vR(n:Nat):cK Tryz.prog 99 wC qW 57 qX (fA n):=
 dN (Γ:=bB _ [(119,bS zLy zAd (Lj n))] [geP 100 zL vH 57 vI (iF n)]) (an:=zEq n) (co:=[.gc [0,1,2,3,4,5]]) (cp:=[.gc [0,1,2,3,4,5]]) Tryz.func99 rfl (by kernel_rfl) aR (aH (all_cons (aQ (zQq n)) (all_nil)) (aS (bG (uE n)) (aI))) mixed (aF _ _ rfl) (by kernel_rfl) (by kernel_rfl) (by kernel_rfl) (λx=>by kernel_rfl)
def zIr (n:Nat):An (mE.X) := .nil
theorem nD(n:Nat):dV Tryz.prog 158 qA mE (bF n):=
 dL (Γ:=bB _ [(28,bS jE iD (strings_HasPrefix n))] []) (an:=zIr n) (co:=[.gc [0,1]]) Tryz.func158 rfl (by kernel_rfl) aR (aH (all_cons (aQ (iG n)) (all_nil)) (aI)) mixed (aF _ _ rfl) (by kernel_rfl) (by kernel_rfl) (λx=>by kernel_rfl)
def zLb (n:Nat):An (rG.X) := .nil
theorem sS(n:Nat):dV Tryz.prog 155 vJ rG (dQ n):=
 dL (Γ:=bB _ [(158,peM qA mE (bF n))] []) (an:=zLb n) (co:=[.gc [0,1]]) Tryz.func155 rfl (by kernel_rfl) aR (aH (all_cons (aZ (nD n)) (all_nil)) (aI)) mixed (aF _ _ rfl) (by kernel_rfl) (by kernel_rfl) (λx=>by kernel_rfl)
def zNy (n:Nat):An (pG.X) := .nil
theorem pQ(n:Nat):dV Tryz.prog 156 sQ pG (dG n):=
 dL (Γ:=bB _ [] []) (an:=zNy n) (co:=[.gc [0,1]]) Tryz.func156 rfl (by kernel_rfl) aR (aH (all_nil) (aI)) mixed (aF _ _ rfl) (by kernel_rfl) (by kernel_rfl) (λx=>by kernel_rfl)
def zGd (n:Nat):An (Ed.X) := .nil
theorem Ye(n:Nat):dV Tryz.prog 157 Rc Ed (tQ n):=
 dL (Γ:=bB _ [(158,peM qA mE (bF n))] []) (an:=zGd n) (co:=[.gc [0,1]]) Tryz.func157 rfl (by kernel_rfl) aR (aH (all_cons (aZ (nD n)) (all_nil)) (aI)) mixed (aF _ _ rfl) (by kernel_rfl) (by kernel_rfl) (λx=>by kernel_rfl)
def yOg (n:Nat):An (dB zEk):=(.mk .nil (.mk (.mk .nil (.mk (.loop ⟨15,[⟨1,false,[.ptr 0 0]⟩,⟨2,false,[.ptr 1 0]⟩,⟨4,false,[.v (.int .i64)]⟩],[.box 123 [.v (.arr 4 (.int .u64))],.box 123 [.v (.arr 4 (.int .u64))]]⟩ [.keep [false,true,true,false,true],.gcA 0,.gcA 0] [.keep [false,true,true,false,true],.gcA 0,.gcA 0] n .nil) .nil []) []) .nil []) [])
theorem zIs(n:Nat):Pure Tryz.prog 189 zNv zEk (Vf n):=
 bT (Γ:=bB _ [] []) (an:=yOg n) Tryz.func189 rfl (by kernel_rfl) aR (aH (all_nil) (aI)) mixed (aF _ _ rfl) (λx=>by kernel_rfl)
def zIt (n:Nat):An (yZ.X) := .nil
theorem Io(n:Nat):dV Tryz.prog 188 Gv yZ (dZ n):=
 dL (Γ:=bB _ [(156,peM sQ pG (dG n))] []) (an:=zIt n) (co:=[.gc [0,1]]) Tryz.func188 rfl (by kernel_rfl) aR (aH (all_cons (aZ (pQ n)) (all_nil)) (aI)) mixed (aF _ _ rfl) (by kernel_rfl) (by kernel_rfl) (λx=>by kernel_rfl)
def zNz (n:Nat):An (xI.X) := .nil
theorem Au(n:Nat):dV Tryz.prog 219 Di xI (gD n):=
 dL (Γ:=bB _ [(28,bS jE iD (strings_HasPrefix n))] []) (an:=zNz n) (co:=[.gc [0]]) Tryz.func219 rfl (by kernel_rfl) aR (aH (all_cons (aQ (iG n)) (all_nil)) (aI)) mixed (aF _ _ rfl) (by kernel_rfl) (by kernel_rfl) (λx=>by kernel_rfl)
def zQr (n:Nat):An (zM.X) := .nil
theorem Cr(n:Nat):dV Tryz.prog 207 Gf zM (fM n):=
 dL (Γ:=bB _ [(219,peM Di xI (gD n))] []) (an:=zQr n) (co:=[.gc [0]]) Tryz.func207 rfl (by kernel_rfl) aR (aH (all_cons (aZ (Au n)) (all_nil)) (aI)) mixed (aF _ _ rfl) (by kernel_rfl) (by kernel_rfl) (λx=>by kernel_rfl)
theorem Ct(n:Nat):cK Tryz.prog 208 Gg Gh 215 Gi (bU n):=zQe (λx=>⟨_,_,rfl,rfl,rfl⟩)
def yEz (n:Nat):An (dB Mf):=(.mk .nil (.mk (.mk .nil (.mk (.loop ⟨24,[⟨1,false,[.v (.int .u8)]⟩,⟨4,false,[.ptr 0 0]⟩,⟨5,false,[.v (.int .i64)]⟩],[.box 123 [.v (.arr 4 (.int .u64))]]⟩ [.keep (kbm 6 50),.gcA 0,.gcA 0] [.keep (kbm 6 50),.gcA 0,.gcA 0] n .nil) .nil []) []) .nil []) [])
theorem Ox(n:Nat):Pure Tryz.prog 195 Um Mf (dW n):=
 bT (Γ:=bB _ [] []) (an:=yEz n) Tryz.func195 rfl (by kernel_rfl) aR (aH (all_nil) (aI)) mixed (aF _ _ rfl) (λx=>by kernel_rfl)
def ySu (n:Nat):An (dB zKq):=(.mk .nil (.mk (.mk .nil (.mk (.loop ⟨26,[⟨2,false,[.ptr 0 0]⟩,⟨6,false,[.v (.slice (.arr 4 (.int .u64)))]⟩,⟨7,false,[.v (.int .i64)]⟩,⟨8,false,[.v (.int .i64)]⟩],[.box 123 [.v (.arr 4 (.int .u64))]]⟩ [.keep (kbm 9 452),.gcA 0,.gcA 0] [.keep (kbm 9 452),.gcA 0,.gcA 0] n (.mk .nil (.mk .nil (.mk (.mk (.mk .nil (.mk .nil (.mk (.loop ⟨26,[⟨2,false,[.ptr 0 0]⟩,⟨4,false,[.ptr 1 0]⟩,⟨6,false,[.v (.slice (.arr 4 (.int .u64)))]⟩,⟨7,false,[.v (.int .i64)]⟩,⟨8,false,[.v (.int .i64)]⟩,⟨12,false,[.v (.int .i64)]⟩],[.box 123 [.v (.arr 4 (.int .u64))],.box 123 [.v (.arr 4 (.int .u64))]]⟩ [.keep (kbm 13 4564),.gcA 0,.gcA 0] [.keep (kbm 13 4564),.gcA 0,.gcA 0] n .nil) .nil []) []) []) .nil []) .nil []) []) [])) .nil []) []) .nil []) [])
theorem zMe(n:Nat):Pure Tryz.prog 209 zTo zKq (vD n):=
 bT (Γ:=bB _ [] []) (an:=ySu n) Tryz.func209 rfl (by kernel_rfl) aR (aH (all_nil) (aI)) mixed (aF _ _ rfl) (λx=>by kernel_rfl)
def ySv (n:Nat):An (dB zBx):=(.mk .nil (.mk (.mk .nil (.mk (.loop ⟨24,[⟨0,false,[.v .str]⟩,⟨2,false,[.ptr 0 0]⟩,⟨5,false,[.v (.int .i64)]⟩,⟨6,false,[.v (.int .i64)]⟩],[.box 123 [.v (.arr 4 (.int .u64))]]⟩ [.keep (kbm 7 101),.gcA 0,.gcA 0] [.keep (kbm 7 101),.gcA 0,.gcA 0] n .nil) .nil []) []) .nil []) [])
theorem zAp(n:Nat):Pure Tryz.prog 170 zKr zBx (xB n):=
 bT (Γ:=bB _ [] []) (an:=ySv n) Tryz.func170 rfl (by kernel_rfl) aR (aH (all_nil) (aI)) mixed (aF _ _ rfl) (λx=>by kernel_rfl)
def yFa (n:Nat):An (dB zEl) := .nil
theorem zTs(n:Nat):Pure Tryz.prog 220 zQn zEl (Qq n):=
 bT (Γ:=bB _ [(195,bS Um Mf (dW n)),(209,bS zTo zKq (vD n)),(170,bS zKr zBx (xB n))] []) (an:=yFa n) Tryz.func220 rfl (by kernel_rfl) aR (aH (all_cons (aQ (Ox n)) (all_cons (aQ (zMe n)) (all_cons (aQ (zAp n)) (all_nil)))) (aI)) mixed (aF _ _ rfl) (λx=>by kernel_rfl)
def zIu (n:Nat):An (Sum Gw.X Gx.X):=(.mk .nil (.mk (.mk .nil (.mk (.loop ⟨132,[⟨0,false,[.ptr 0 0]⟩,⟨1,false,[.v .bool]⟩,⟨2,false,[.v .bool]⟩,⟨12,false,[.own 1]⟩,⟨13,false,[.v (.int .i64)]⟩,⟨14,false,[.v (.int .i64)]⟩],[.box 269 [.v .str,.v (.int .i64)],.row 9 .str]⟩ [.keep (kbm 106 28679),.gcA 1,.gcA 1] [.keep (kbm 106 28679),.gcA 1,.gcA 1] n (.mk .nil (.mk .nil (.mk (.mk (.mk .nil (.mk .nil (.mk (.join ⟨132,[⟨0,false,[.ptr 0 0]⟩,⟨9,false,[.v .str]⟩],Gt⟩ [.keep (kbm 10 513),.gcA 1] .nil) .nil []) []) []) .nil []) .nil []) []) [])) .nil []) []) (.mk .nil (.mk (.join ⟨132,[⟨0,false,[.ptr 0 0]⟩,⟨1,false,[.v .bool]⟩,⟨11,false,[.v .bool]⟩],Gt⟩ [.keep (kbm 106 2051),.gcA 1] .nil) (.mk (.join ⟨132,[⟨0,false,[.ptr 0 0]⟩],Gt⟩ [.keep [true],.gcA 1] .nil) .nil []) []) []) []) [])
theorem zAq(n:Nat):cK Tryz.prog 221 Tf Gw 215 Gx (rC n):=
 dN (Γ:=bB _ [(207,peM Gf zM (fM n)),(28,bS jE iD (strings_HasPrefix n)),(219,peM Di xI (gD n))] [geP 208 Gg Gh 215 Gi (bU n)]) (an:=zIu n) (co:=[.gc [0]]) (cp:=[.gc [0]]) Tryz.func221 rfl (by kernel_rfl) aR (aH (all_cons (aZ (Cr n)) (all_cons (aQ (iG n)) (all_cons (aZ (Au n)) (all_nil)))) (aS (bG (Ct n)) (aI))) mixed (aF _ _ rfl) (by kernel_rfl) (by kernel_rfl) (by kernel_rfl) (λx=>by kernel_rfl)
def zQs (n:Nat):An (Sum Oj.X Ol.X) := .nil
theorem zGe(n:Nat):cK Tryz.prog 210 zBy Oj 215 Ol (tC n):=
 dN (Γ:=bB _ [(207,peM Gf zM (fM n)),(212,bS zId zIe (strings_Cut n)),(220,bS zQn zEl (Qq n)),(219,peM Di xI (gD n)),(195,bS Um Mf (dW n))] [geP 208 Gg Gh 215 Gi (bU n),geP 221 Tf Gw 215 Gx (rC n)]) (an:=zQs n) (co:=[.gc [0]]) (cp:=[.gc [0]]) Tryz.func210 rfl (by kernel_rfl) aR (aH (all_cons (aZ (Cr n)) (all_cons (aQ (zNp n)) (all_cons (aQ (zTs n)) (all_cons (aZ (Au n)) (all_cons (aQ (Ox n)) (all_nil)))))) (aS (bG (Ct n)) (aS (bG (zAq n)) (aI)))) mixed (aF _ _ rfl) (by kernel_rfl) (by kernel_rfl) (by kernel_rfl) (λx=>by kernel_rfl)
def zQt (n:Nat):An (Sum Om.X Oo.X):=(.mk .nil (.mk .nil (.mk (.mk .nil (.mk (.loop ⟨31,[⟨0,false,[.ptr 0 0]⟩,⟨1,false,[.ptr 1 0]⟩,⟨2,false,[.v .bool]⟩,⟨3,false,[.v .bool]⟩],zKp⟩ [.keep [true,true,true,true],.gcA 3,.gcA 3] [.keep [true,true,true,true],.gcA 3,.gcA 3] n .nil) .nil []) []) .nil []) []) [])
theorem zGf(n:Nat):cK Tryz.prog 206 zBz Om 215 Oo (qB n):=
 dN (Γ:=bB _ [(207,peM Gf zM (fM n)),(209,bS zTo zKq (vD n)),(189,bS zNv zEk (Vf n))] [geP 208 Gg Gh 215 Gi (bU n),geP 210 zBy Oj 215 Ol (tC n)]) (an:=zQt n) (co:=[.gc [0,1,2]]) (cp:=[.gc [0,1,2]]) Tryz.func206 rfl (by kernel_rfl) aR (aH (all_cons (aZ (Cr n)) (all_cons (aQ (zMe n)) (all_cons (aQ (zIs n)) (all_nil)))) (aS (bG (Ct n)) (aS (bG (zGe n)) (aI)))) mixed (aF _ _ rfl) (by kernel_rfl) (by kernel_rfl) (by kernel_rfl) (λx=>by kernel_rfl)
theorem Mq(n:Nat):dV Tryz.prog 136 uM uN (iN n):=
 zLu (si:=uM) (so:=uN) (sp:=Oo) (sd:=zBz) (od:=Om) (F:=qB n) (G:=iN n) (conv:=λx=>x) (o1:=λy=>(0,0,y)) (o2:=λz=>z) (zGf n) rfl (λx=>⟨rfl,rfl⟩) (λx=>by unfold iN ob2;cases qB n x with|none=>rfl|some r=>cases r<;>rfl) (λy=>⟨rfl,rfl⟩) (λz=>⟨_,_,rfl,rfl⟩)
def zXh (n:Nat):An (dB Wx) := .nil
theorem zOa(n:Nat):Pure Tryz.prog 190 zIh Wx (xZ n):=
 bT (Γ:=bB _ [(136,peM uM uN (iN n))] []) (an:=zXh n) Tryz.func190 rfl (by kernel_rfl) aR (aH (all_cons (aZ (Mq n)) (all_nil)) (aI)) mixed (aF _ _ rfl) (λx=>by kernel_rfl)
theorem oC(n:Nat):cK Tryz.prog 139 rH rJ 215 rM (aL n):=zKx (λx=>⟨_,_,_,_,rfl,rfl,rfl⟩)
def zGg (n:Nat):An (Ee.X):=(.mk .nil (.mk .nil (.mk (.mk (.loop ⟨67,[⟨0,false,[.ptr 0 0]⟩,⟨3,false,[.v (.int .i64)]⟩],nM⟩ [.keep [true,false,false,true],.gcA 2,.gcA 2] [.keep [true,false,false,true],.gcA 2,.gcA 2] n .nil) .nil []) .nil []) []) [])
theorem Yf(n:Nat):dV Tryz.prog 187 Rf Ee (pX n):=
 dL (Γ:=bB _ [(205,bS zFn zFo (strconv_Atoi n))] []) (an:=zGg n) (co:=[.gc [0,1]]) Tryz.func187 rfl (by kernel_rfl) aR (aH (all_cons (aQ (zKy n)) (all_nil)) (aI)) mixed (aF _ _ rfl) (by kernel_rfl) (by kernel_rfl) (λx=>by kernel_rfl)
def zIv (n:Nat):An (Sum Gy.X Gz.X):=(.mk .nil (.scope 0 .nil .nil) [])
theorem zAr(n:Nat):cK Tryz.prog 159 Tg Gy 215 Gz (vE n):=
 dN (Γ:=bB _ [(155,peM vJ rG (dQ n)),(156,peM sQ pG (dG n)),(158,peM qA mE (bF n)),(187,peM Rf Ee (pX n))] [geP 139 rH rJ 215 rM (aL n)]) (an:=zIv n) (co:=[.gc [0,1]]) (cp:=[.gc [0,1]]) Tryz.func159 rfl (by kernel_rfl) aR (aH (all_cons (aZ (sS n)) (all_cons (aZ (pQ n)) (all_cons (aZ (nD n)) (all_cons (aZ (Yf n)) (all_nil))))) (aS (bG (oC n)) (aI))) mixed (aF _ _ rfl) (by kernel_rfl) (by kernel_rfl) (by kernel_rfl) (λx=>by kernel_rfl)
def zIw (n:Nat):An (Sum He.X Hf.X) := .nil
theorem zAs(n:Nat)(aT:(List UInt8 × Int × Int × List (Bool) × List (Int × List (Int) × Int × Int × Int × Int × Int × Unit) × Unit)->Option (Sum (Int × List UInt8 × Int × Int × List (Bool) × List (Int × List (Int) × Int × Int × Int × Int × Int × Unit) × Unit) (Int × Int × List UInt8 × Int × Int × List (Bool) × List (Int × List (Int) × Int × Int × Int × Int × Int × Unit) × Unit)))(nN:cK Tryz.prog 138 mM kJ 215 kK aT):cK Tryz.prog 211 Ti He 215 Hf (vF n aT):=
 dN (Γ:=bB _ [(155,peM vJ rG (dQ n)),(156,peM sQ pG (dG n))] [geP 139 rH rJ 215 rM (aL n),geP 138 mM kJ 215 kK (aT)]) (an:=zIw n) (co:=[.gc [0,1]]) (cp:=[.gc [0,1]]) Tryz.func211 rfl (by kernel_rfl) aR (aH (all_cons (aZ (sS n)) (all_cons (aZ (pQ n)) (all_nil))) (aS (bG (oC n)) (aS (bG (nN)) (aI)))) mixed (aF _ _ rfl) (by kernel_rfl) (by kernel_rfl) (by kernel_rfl) (λx=>by kernel_rfl)
def zEr (n:Nat):An (Sum Ce.X Cg.X) := .nil
theorem Xg(n:Nat)(aT:(List UInt8 × Int × Int × List (Bool) × List (Int × List (Int) × Int × Int × Int × Int × Int × Unit) × Unit)->Option (Sum (Int × List UInt8 × Int × Int × List (Bool) × List (Int × List (Int) × Int × Int × Int × Int × Int × Unit) × Unit) (Int × Int × List UInt8 × Int × Int × List (Bool) × List (Int × List (Int) × Int × Int × Int × Int × Int × Unit) × Unit)))(nN:cK Tryz.prog 138 mM kJ 215 kK aT):cK Tryz.prog 191 Ni Ce 215 Cg (xC n aT):=
 dN (Γ:=bB _ [(156,peM sQ pG (dG n)),(170,bS zKr zBx (xB n)),(188,peM Gv yZ (dZ n)),(81,bS kX kY (strings_IndexByte n)),(195,bS Um Mf (dW n))] [geP 139 rH rJ 215 rM (aL n),geP 211 Ti He 215 Hf (vF n aT)]) (an:=zEr n) (co:=[.gc [0,1]]) (cp:=[.gc [0,1]]) Tryz.func191 rfl (by kernel_rfl) aR (aH (all_cons (aZ (pQ n)) (all_cons (aQ (zAp n)) (all_cons (aZ (Io n)) (all_cons (aQ (jY n)) (all_cons (aQ (Ox n)) (all_nil)))))) (aS (bG (oC n)) (aS (bG (zAs n aT nN)) (aI)))) mixed (aF _ _ rfl) (by kernel_rfl) (by kernel_rfl) (by kernel_rfl) (λx=>by kernel_rfl)
def zLc (n:Nat):An (Sum Jl.X Jm.X) := .nil
theorem zCe(n:Nat)(aT:(List UInt8 × Int × Int × List (Bool) × List (Int × List (Int) × Int × Int × Int × Int × Int × Unit) × Unit)->Option (Sum (Int × List UInt8 × Int × Int × List (Bool) × List (Int × List (Int) × Int × Int × Int × Int × Int × Unit) × Unit) (Int × Int × List UInt8 × Int × Int × List (Bool) × List (Int × List (Int) × Int × Int × Int × Int × Int × Unit) × Unit)))(nN:cK Tryz.prog 138 mM kJ 215 kK aT):cK Tryz.prog 160 Wy Jl 215 Jm (xD n aT):=
 dN (Γ:=bB _ [(155,peM vJ rG (dQ n)),(189,bS zNv zEk (Vf n)),(188,peM Gv yZ (dZ n)),(158,peM qA mE (bF n)),(190,bS zIh Wx (xZ n)),(170,bS zKr zBx (xB n))] [geP 139 rH rJ 215 rM (aL n),geP 191 Ni Ce 215 Cg (xC n aT)]) (an:=zLc n) (co:=[.gc [0,1]]) (cp:=[.gc [0,1]]) Tryz.func160 rfl (by kernel_rfl) aR (aH (all_cons (aZ (sS n)) (all_cons (aQ (zIs n)) (all_cons (aZ (Io n)) (all_cons (aZ (nD n)) (all_cons (aQ (zOa n)) (all_cons (aQ (zAp n)) (all_nil))))))) (aS (bG (oC n)) (aS (bG (Xg n aT nN)) (aI)))) mixed (aF _ _ rfl) (by kernel_rfl) (by kernel_rfl) (by kernel_rfl) (λx=>by kernel_rfl)
def zOb (n:Nat):An (Sum kJ.X kK.X):=(.mk .nil (.mk .nil (.mk (.join ⟨83,[⟨0,false,[.ptr 0 0]⟩,⟨3,false,[.own 2]⟩],yCa⟩ [.keep (kbm 33 9),.zDm 3 219,.gcA 2] .nil) (.mk (.join ⟨83,[⟨0,false,[.ptr 0 0]⟩,⟨3,false,[.own 2]⟩],yCa⟩ [.keep [true,false,false,true],.gcA 2] (.mk .nil (.mk (.loop ⟨83,[⟨0,false,[.ptr 0 0]⟩,⟨3,false,[.own 2]⟩,⟨4,false,[.v .bool]⟩],yCa⟩ [.keep (kbm 33 25),.gcA 2,.zDm 3 219,.gcA 2] [.keep (kbm 33 25),.gcA 2,.gcA 2] n (.mk .nil (.mk (.mk (.mk (.mk (.join ⟨83,[⟨0,false,[.ptr 0 0]⟩,⟨3,false,[.own 2]⟩,⟨4,false,[.v .bool]⟩,⟨36,false,[.v .bool]⟩],yCa⟩ [.keep (kbm 37 68719476761),.gcA 2] .nil) .nil []) .nil []) .nil []) .nil []) [])) .nil []) [])) (.mk .nil (.mk .nil (.mk (.mk .nil (.mk (.loop ⟨83,[⟨0,false,[.ptr 0 0]⟩,⟨3,false,[.own 2]⟩,⟨5,false,[.v (.int .i64)]⟩,⟨6,false,[.v (.int .i64)]⟩],yCa⟩ [.keep (kbm 7 105),.gcA 2,.gcA 2] [.keep (kbm 7 105),.gcA 2,.gcA 2] n .nil) .nil []) []) .nil []) []) []) []) []) []) [])
theorem Uo(n:Nat)(aT:(List UInt8 × Int × Int × List (Bool) × List (Int × List (Int) × Int × Int × Int × Int × Int × Unit) × Unit)->Option (Sum (Int × List UInt8 × Int × Int × List (Bool) × List (Int × List (Int) × Int × Int × Int × Int × Int × Unit) × Unit) (Int × Int × List UInt8 × Int × Int × List (Bool) × List (Int × List (Int) × Int × Int × Int × Int × Int × Unit) × Unit)))(nN:cK Tryz.prog 138 mM kJ 215 kK aT):cK Tryz.prog 138 mM kJ 215 kK (vW n aT):=
 dN (Γ:=bB _ [(155,peM vJ rG (dQ n)),(156,peM sQ pG (dG n)),(157,peM Rc Ed (tQ n)),(158,peM qA mE (bF n))] [geP 160 Wy Jl 215 Jm (xD n aT),geP 159 Tg Gy 215 Gz (vE n)]) (an:=zOb n) (co:=[.gc [0,1]]) (cp:=[.gc [0,1]]) Tryz.func138 rfl (by kernel_rfl) aR (aH (all_cons (aZ (sS n)) (all_cons (aZ (pQ n)) (all_cons (aZ (Ye n)) (all_cons (aZ (nD n)) (all_nil))))) (aS (bG (zCe n aT nN)) (aS (bG (zAr n)) (aI)))) mixed (aF _ _ rfl) (by kernel_rfl) (by kernel_rfl) (by kernel_rfl) (λx=>by kernel_rfl)
theorem zEs(n:Nat):cK Tryz.prog 138 mM kJ 215 kK (lK n):=zPt (by kernel_rfl) (λn r h=>Uo n r h) n
def zXi (n:Nat):An (Sum Wz.X Xa.X) := .nil
theorem zLd(n:Nat):cK Tryz.prog 137 zIi Wz 215 Xa (Ie n):=
 dN (Γ:=bB _ [] [geP 138 mM kJ 215 kK (lK n),geP 139 rH rJ 215 rM (aL n)]) (an:=zXi n) (co:=[.gc [0,1,2,3]]) (cp:=[.gc [0,1,2,3]]) Tryz.func137 rfl (by kernel_rfl) aR (aH (all_nil) (aS (bG (zEs n)) (aS (bG (oC n)) (aI)))) mixed (aF _ _ rfl) (by kernel_rfl) (by kernel_rfl) (by kernel_rfl) (λx=>by kernel_rfl)
theorem Oy(n:Nat):dV Tryz.prog 136 wO wP (jX n):=
 zLu (si:=wO) (so:=wP) (sp:=Xa) (sd:=zIi) (od:=Wz) (F:=Ie n) (G:=jX n) (conv:=λx=>x) (o1:=λy=>(0,0,y)) (o2:=λz=>z) (zLd n) rfl (λx=>⟨rfl,rfl⟩) (λx=>by unfold jX ob2;cases Ie n x with|none=>rfl|some r=>cases r<;>rfl) (λy=>⟨rfl,rfl⟩) (λz=>⟨_,_,rfl,rfl⟩)
def yFb (n:Nat):An (dB zEm):=(.mk .nil (.mk .nil (.mk .nil (.mk (.co [.ownB 1 2 85] .nil) .nil []) []) []) [])
theorem zTt(n:Nat):Pure Tryz.prog 116 zQo zEm (Ke n):=
 bT (Γ:=bB _ [(136,peM wO wP (jX n))] []) (an:=yFb n) Tryz.func116 rfl (by kernel_rfl) aR (aH (all_cons (aZ (Oy n)) (all_nil)) (aI)) mixed (aF _ _ rfl) (λx=>by kernel_rfl)
def Yg (n:Nat):An (Sum rV.X rW.X) := .nil
theorem zU(n:Nat):cK Tryz.prog 97 yE rV 57 rW (fT n):=
 dN (Γ:=bB _ [(116,bS zQo zEm (Ke n))] [geP 99 wC qW 57 qX (fA n),geP 100 zL vH 57 vI (iF n),geP 52 fF fG 57 fH (aW n)]) (an:=Yg n) (co:=[.gc [0,1,2,3,4,5]]) (cp:=[.gc [0,1,2,3,4,5]]) Tryz.func97 rfl (by kernel_rfl) aR (aH (all_cons (aQ (zTt n)) (all_nil)) (aS (bG (vR n)) (aS (bG (uE n)) (aS (bG (cZ n)) (aI))))) mixed (aF _ _ rfl) (by kernel_rfl) (by kernel_rfl) (by kernel_rfl) (λx=>by kernel_rfl)
def zEt (n:Nat):An (wD.X) := .nil
theorem Em(n:Nat):dV Tryz.prog 121 Ch wD (iC n):=
 dL (Γ:=bB _ [] []) (an:=zEt n) (co:=[.gc [0,1,2,3,4,5]]) Tryz.func121 rfl (by kernel_rfl) aR (aH (all_nil) (aI)) mixed (aF _ _ rfl) (by kernel_rfl) (by kernel_rfl) (λx=>by kernel_rfl)
def Yh (n:Nat):An (Sum yF.X yG.X):=(.mk .nil (.mk (.mk (.mk .nil (.mk .nil (.mk .nil (.mk .nil (.mk .nil (.mk .nil (.mk (.join ⟨60,[⟨0,false,[.ptr 0 0]⟩,⟨1,false,[.v .bool]⟩,⟨4,false,[.ptr 6 0]⟩,⟨41,false,[.v .bool]⟩],[.box 80 [.v .str,.v .bool,.v (.int .i64),.v (.int .i64),.v .bool,.own 1,.own 2,.v (.int .i64),.v (.int .i64),.v (.int .i64),.v (.int .i64),.v (.int .i64),.v (.int .i64),.v .bool,.v (.int .u8),.v .str,.v .str,.v (.int .i64),.v (.int .i64),.v (.int .i64),.v (.slice oF),.v .bool,.v .bool,.own 3,.own 4,.mp 5],.row 87 bQ,.row 77 aC,.row 118 gP,.row 118 gP,.dm .str (.int .i64),.box 72 [.v (.int .i64),.v (.int .i64),.v (.int .i64)]]⟩ [.keep (kbm 42 2199023255571),.gcA 6] .nil) .nil []) []) []) []) []) []) []) .nil []) .nil []) [])
theorem Rk(n:Nat):cK Tryz.prog 112 Ij yF 57 yG (kM n):=
 dN (Γ:=bB _ [(49,peM mD kF (dD n)),(85,peM wB qV (dH n)),(121,peM Ch wD (iC n))] [geP 107 sP nW 57 nX (dY n),geP 86 sM nY 57 nZ (fO n),geP 97 yE rV 57 rW (fT n)]) (an:=Yh n) (co:=[.gc [0,1,2,3,4,5]]) (cp:=[.gc [0,1,2,3,4,5]]) Tryz.func112 rfl (by kernel_rfl) aR (aH (all_cons (aZ (jZ n)) (all_cons (aZ (vQ n)) (all_cons (aZ (Em n)) (all_nil)))) (aS (bG (tL n)) (aS (bG (qJ n)) (aS (bG (zU n)) (aI))))) mixed (aF _ _ rfl) (by kernel_rfl) (by kernel_rfl) (by kernel_rfl) (λx=>by kernel_rfl)
def zQu (n:Nat):An (dB Oq) := .nil
theorem zIx(n:Nat):Pure Tryz.prog 134 zCa Oq (wU n):=
 bT (Γ:=bB _ [] []) (an:=zQu n) Tryz.func134 rfl (by kernel_rfl) aR (aH (all_nil) (aI)) mixed (aF _ _ rfl) (λx=>by kernel_rfl)
def yLc (n:Nat):An (dB zIj) := .nil
theorem zXj(n:Nat):Pure Tryz.prog 113 zVm zIj (Oc n):=
 bT (Γ:=bB _ [(134,bS zCa Oq (wU n))] []) (an:=yLc n) Tryz.func113 rfl (by kernel_rfl) aR (aH (all_cons (aQ (zIx n)) (all_nil)) (aI)) mixed (aF _ _ rfl) (λx=>by kernel_rfl)
def Uq (n:Nat):An (Sum vK.X vL.X) := .nil
theorem Nc(n:Nat):cK Tryz.prog 84 Ef vK 57 vL (lX n):=
 dN (Γ:=bB _ [(82,peM iT gJ (bL n)),(85,peM wB qV (dH n)),(113,bS zVm zIj (Oc n))] [geP 112 Ij yF 57 yG (kM n),geP 52 fF fG 57 fH (aW n)]) (an:=Uq n) (co:=[.gc [0,1,2,3,4,5]]) (cp:=[.gc [0,1,2,3,4,5]]) Tryz.func84 rfl (by kernel_rfl) aR (aH (all_cons (aZ (gY n)) (all_cons (aZ (vQ n)) (all_cons (aQ (zXj n)) (all_nil)))) (aS (bG (Rk n)) (aS (bG (cZ n)) (aI)))) mixed (aF _ _ rfl) (by kernel_rfl) (by kernel_rfl) (by kernel_rfl) (λx=>by kernel_rfl)
def zGh (n:Nat):An (jF.X) := .nil
theorem jG(n:Nat):dV Tryz.prog 94 kZ jF (bZ n):=
 dL (Γ:=bB _ [] []) (an:=zGh n) (co:=[.gc [0,1,2,3,4,5]]) Tryz.func94 rfl (by kernel_rfl) aR (aH (all_nil) (aI)) mixed (aF _ _ rfl) (by kernel_rfl) (by kernel_rfl) (λx=>by kernel_rfl)
def zCf (n:Nat):An (uO.X) := .nil
theorem Dk(n:Nat):dV Tryz.prog 71 Af uO (mQ n):=
 dL (Γ:=bB _ [(94,peM kZ jF (bZ n))] []) (an:=zCf n) (co:=[.gc [0,1,2,3,4,5]]) Tryz.func71 rfl (by kernel_rfl) aR (aH (all_cons (aZ (jG n)) (all_nil)) (aI)) mixed (aF _ _ rfl) (by kernel_rfl) (by kernel_rfl) (λx=>by kernel_rfl)
def zCg (n:Nat):An (Sum Ag.X Ah.X):=(.mk .nil (.mk .nil (.mk .nil (.mk .nil (.mk .nil (.co [.yQi 0 23] .nil) []) []) []) []) [])
theorem Ur(n:Nat):cK Tryz.prog 72 Mg Ag 57 Ah (qN n):=
 dN (Γ:=bB _ [(94,peM kZ jF (bZ n))] [geP 52 fF fG 57 fH (aW n)]) (an:=zCg n) (co:=[.gc [0,1,2,3,4,5]]) (cp:=[.gc [0,1,2,3,4,5]]) Tryz.func72 rfl (by kernel_rfl) aR (aH (all_cons (aZ (jG n)) (all_nil)) (aS (bG (cZ n)) (aI))) mixed (aF _ _ rfl) (by kernel_rfl) (by kernel_rfl) (by kernel_rfl) (λx=>by kernel_rfl)
def zEu (n:Nat):An (Sum Ci.X Cj.X) := .nil
theorem Xh(n:Nat):cK Tryz.prog 95 Nj Ci 57 Cj (sI n):=
 dN (Γ:=bB _ [(50,peM qU mU (eB n)),(115,bS Ac Ad (strings_ContainsAny n))] [geP 52 fF fG 57 fH (aW n)]) (an:=zEu n) (co:=[.gc [0,1,2,3,4,5]]) (cp:=[.gc [0,1,2,3,4,5]]) Tryz.func95 rfl (by kernel_rfl) aR (aH (all_cons (aZ (pO n)) (all_cons (aQ (Ea n)) (all_nil))) (aS (bG (cZ n)) (aI))) mixed (aF _ _ rfl) (by kernel_rfl) (by kernel_rfl) (by kernel_rfl) (λx=>by kernel_rfl)
def zCh (n:Nat):An (Sum pI.X pJ.X) := .nil
theorem uQ(n:Nat):cK Tryz.prog 96 uP pI 57 pJ (eH n):=
 dN (Γ:=bB _ [(82,peM iT gJ (bL n)),(49,peM mD kF (dD n))] [geP 52 fF fG 57 fH (aW n)]) (an:=zCh n) (co:=[.gc [0,1,2,3,4,5]]) (cp:=[.gc [0,1,2,3,4,5]]) Tryz.func96 rfl (by kernel_rfl) aR (aH (all_cons (aZ (gY n)) (all_cons (aZ (jZ n)) (all_nil))) (aS (bG (cZ n)) (aI))) mixed (aF _ _ rfl) (by kernel_rfl) (by kernel_rfl) (by kernel_rfl) (λx=>by kernel_rfl)
def zCi (n:Nat):An (Sum Ai.X Aj.X) := .nil
theorem Us(n:Nat):cK Tryz.prog 73 Mh Ai 57 Aj (qO n):=
 dN (Γ:=bB _ [] [geP 95 Nj Ci 57 Cj (sI n),geP 52 fF fG 57 fH (aW n),geP 96 uP pI 57 pJ (eH n)]) (an:=zCi n) (co:=[.gc [0,1,2,3,4,5]]) (cp:=[.gc [0,1,2,3,4,5]]) Tryz.func73 rfl (by kernel_rfl) aR (aH (all_nil) (aS (bG (Xh n)) (aS (bG (cZ n)) (aS (bG (uQ n)) (aI))))) mixed (aF _ _ rfl) (by kernel_rfl) (by kernel_rfl) (by kernel_rfl) (λx=>by kernel_rfl)
def zQv (n:Nat):An (Ot.X) := .nil
theorem zGi(n:Nat):dV Tryz.prog 118 zCb Ot (qD n):=
 dL (Γ:=bB _ [] []) (an:=zQv n) (co:=[.gc [0,1,2]]) Tryz.func118 rfl (by kernel_rfl) aR (aH (all_nil) (aI)) mixed (aF _ _ rfl) (by kernel_rfl) (by kernel_rfl) (λx=>by kernel_rfl)
def zXk (n:Nat):An (dB Xb):=(.mk .nil (.mk .nil (.mk .nil (.mk (.mk .nil (.mk (.loop ⟨76,[⟨0,false,[.v .str]⟩,⟨2,false,[.ptr 0 0]⟩,⟨5,false,[.ptr 1 0]⟩,⟨6,false,[.clo 118 [(1,0),(0,0)]]⟩,⟨7,false,[.v (.int .i64)]⟩],[.box 75 [.own 2],.box 9 [.v .str],.row 134 oF]⟩ [.keep (kbm 8 229),.gcA 0,.gcA 0,.ownB 0 0 75,.gcA 0] [.keep (kbm 8 229),.gcA 0,.gcA 0,.ownB 0 0 75,.gcA 0] n (.mk .nil (.mk (.mk (.scope 0 .nil .nil) .nil []) .nil []) [])) .nil []) []) .nil []) []) []) [])
theorem zOc(n:Nat):Pure Tryz.prog 98 zIk Xb (Ig n):=
 bT (Γ:=bB _ [(118,peM zCb Ot (qD n)),(81,bS kX kY (strings_IndexByte n))] []) (an:=zXk n) Tryz.func98 rfl (by kernel_rfl) aR (aH (all_cons (aZ (zGi n)) (all_cons (aQ (jY n)) (all_nil))) (aI)) mixed (aF _ _ rfl) (λx=>by kernel_rfl)
def yCg (n:Nat):An (dB zAe):=(.mk .nil (.mk (.mk .nil (.mk (.loop ⟨17,[⟨2,false,[.v (.int .i64)]⟩,⟨5,false,[.v (.slice oF)]⟩,⟨6,false,[.v (.int .i64)]⟩,⟨7,false,[.v (.int .i64)]⟩],[]⟩ [.keep (kbm 8 228),.gcA 0,.gcA 0] [.keep (kbm 8 228),.gcA 0,.gcA 0] n .nil) .nil []) []) .nil []) [])
theorem zQw(n:Nat):Pure Tryz.prog 101 zLz zAe (Ll n):=
 bT (Γ:=bB _ [] []) (an:=yCg n) Tryz.func101 rfl (by kernel_rfl) aR (aH (all_nil) (aI)) mixed (aF _ _ rfl) (λx=>by kernel_rfl)
def zQx (n:Nat):An (dB Ou) := .nil
theorem zIy(n:Nat):Pure Tryz.prog 175 zCc Ou (qC n):=
 bT (Γ:=bB _ [] []) (an:=zQx n) Tryz.func175 rfl (by kernel_rfl) aR (aH (all_nil) (aI)) mixed (aF _ _ rfl) (λx=>by kernel_rfl)
def zQy (n:Nat):An (dB Ov) := .nil
theorem zIz(n:Nat):Pure Tryz.prog 196 zCd Ov (dJ n):=
 bT (Γ:=bB _ [] []) (an:=zQy n) Tryz.func196 rfl (by kernel_rfl) aR (aH (all_nil) (aI)) mixed (aF _ _ rfl) (λx=>by kernel_rfl)
def zXl (n:Nat):An (dB Xc) := .nil
theorem zOd(n:Nat):Pure Tryz.prog 176 zIl Xc (yA n):=
 bT (Γ:=bB _ [(196,bS zCd Ov (dJ n))] []) (an:=zXl n) Tryz.func176 rfl (by kernel_rfl) aR (aH (all_cons (aQ (zIz n)) (all_nil)) (aI)) mixed (aF _ _ rfl) (λx=>by kernel_rfl)
def zJa (n:Nat):An (dB Hg):=(.mk .nil (.mk (.mk .nil (.mk (.loop ⟨19,[⟨0,false,[.v (.slice (.int .i64))]⟩,⟨1,false,[.v (.int .i64)]⟩,⟨7,false,[.v (.int .i64)]⟩,⟨8,false,[.v (.int .i64)]⟩],[]⟩ [.keep (kbm 9 387),.gcA 0,.gcA 0] [.keep (kbm 9 387),.gcA 0,.gcA 0] n .nil) .nil []) []) .nil []) [])
theorem zCj(n:Nat):Pure Tryz.prog 214 Tj Hg (Jj n):=
 bT (Γ:=bB _ [] []) (an:=zJa n) Tryz.func214 rfl (by kernel_rfl) aR (aH (all_nil) (aI)) mixed (aF _ _ rfl) (λx=>by kernel_rfl)
def zCk (n:Nat):An (dB Ak) := .nil
theorem Xi(n:Nat):Pure Tryz.prog 197 Mi Ak (vX n):=
 bT (Γ:=bB _ [(214,bS Tj Hg (Jj n))] []) (an:=zCk n) Tryz.func197 rfl (by kernel_rfl) aR (aH (all_cons (aQ (zCj n)) (all_nil)) (aI)) mixed (aF _ _ rfl) (λx=>by kernel_rfl)
def yOh (n:Nat):An (dB zNw) := .nil
theorem yCh(n:Nat):Pure Tryz.prog 177 yCb zNw (pY n):=
 bT (Γ:=bB _ [(197,bS Mi Ak (vX n))] []) (an:=yOh n) Tryz.func177 rfl (by kernel_rfl) aR (aH (all_cons (aQ (Xi n)) (all_nil)) (aI)) mixed (aF _ _ rfl) (λx=>by kernel_rfl)
def yCi (n:Nat):An (dB zAf):=(.mk .nil (.mk .nil (.mk (.mk .nil (.mk (.loop ⟨80,[⟨0,false,[.v (.slice bA)]⟩,⟨3,false,[.own 0]⟩,⟨8,false,[.v (.slice bA)]⟩,⟨9,false,[.v (.int .i64)]⟩,⟨10,false,[.v (.int .i64)]⟩],[.row 3 (.int .i64)]⟩ [.keep (kbm 55 1801),.gcA 0,.zDm 3 219,.gcA 0] [.keep (kbm 55 1801),.gcA 0,.gcA 0] n .nil) .nil []) []) .nil []) []) [])
theorem zQz(n:Nat):Pure Tryz.prog 142 zMa zAf (Fz n):=
 bT (Γ:=bB _ [(175,bS zCc Ou (qC n)),(176,bS zIl Xc (yA n)),(177,bS yCb zNw (pY n))] []) (an:=yCi n) Tryz.func142 rfl (by kernel_rfl) aR (aH (all_cons (aQ (zIy n)) (all_cons (aQ (zOd n)) (all_cons (aQ (yCh n)) (all_nil)))) (aI)) mixed (aF _ _ rfl) (λx=>by kernel_rfl)
def zRa (n:Nat):An (vB.X) := .nil
theorem Xj(n:Nat)(fJ:(Int × List (Int × List (Int) × Int × Int × Int × Int × Int × Unit) × Int × Bool × List (Bool) × Bool × Unit)->Option (List (Int × List (Int) × Int × Int × Int × Int × Int × Unit) × Int × Bool × List (Bool) × Bool × Unit))(zRb:dV Tryz.prog 178 zN vB fJ):dV Tryz.prog 178 zN vB (eZ n fJ):=
 dL (Γ:=bB _ [(178,peM zN vB (fJ))] []) (an:=zRa n) (co:=[.gc [0,1,2,3,4,5]]) Tryz.func178 rfl (by kernel_rfl) aR (aH (all_cons (aZ (zRb)) (all_nil)) (aI)) mixed (aF _ _ rfl) (by kernel_rfl) (by kernel_rfl) (λx=>by kernel_rfl)
theorem zGj(n:Nat):dV Tryz.prog 178 zN vB (tF n):=zVg (by kernel_rfl) (λn r h=>Xj n r h) n
def zXm (n:Nat):An (dB Xd) := .nil
theorem zOe(n:Nat):Pure Tryz.prog 143 zIm Xd (Qd n):=
 bT (Γ:=bB _ [(178,peM zN vB (tF n))] []) (an:=zXm n) Tryz.func143 rfl (by kernel_rfl) aR (aH (all_cons (aZ (zGj n)) (all_nil)) (aI)) mixed (aF _ _ rfl) (λx=>by kernel_rfl)
def yOi (n:Nat):An (dB zNx) := .nil
theorem yCj(n:Nat):Pure Tryz.prog 120 yCc zNx (Vh n):=
 bT (Γ:=bB _ [(142,bS zMa zAf (Fz n)),(143,bS zIm Xd (Qd n))] []) (an:=yOi n) Tryz.func120 rfl (by kernel_rfl) aR (aH (all_cons (aQ (zQz n)) (all_cons (aQ (zOe n)) (all_nil))) (aI)) mixed (aF _ _ rfl) (λx=>by kernel_rfl)
def yFc (n:Nat):An (dB zEn) := .nil
theorem zTu(n:Nat):Pure Tryz.prog 102 zQp zEn (Qr n):=
 bT (Γ:=bB _ [(120,bS yCc zNx (Vh n))] []) (an:=yFc n) Tryz.func102 rfl (by kernel_rfl) aR (aH (all_cons (aQ (yCj n)) (all_nil)) (aI)) mixed (aF _ _ rfl) (λx=>by kernel_rfl)
def zCl (n:Nat):An (Sum Al.X Am.X):=(.mk .nil (.mk .nil (.mk .nil (.mk (.loop ⟨96,[⟨0,false,[.ptr 0 0]⟩,⟨3,false,[.mp 6]⟩],ySs⟩ [.keep [true,false,false,true],.gcA 6,.gcA 6] [.keep [true,false,false,true],.gcA 6,.gcA 6] n (.mk (.mk .nil (.mk (.join ⟨96,[⟨0,false,[.ptr 0 0]⟩,⟨3,false,[.mp 6]⟩,⟨4,false,[.v .str]⟩],ySs⟩ [.keep [true,false,false,true,true],.gcA 6] .nil) (.mk (.join ⟨96,[⟨0,false,[.ptr 0 0]⟩,⟨3,false,[.mp 6]⟩,⟨4,false,[.v .str]⟩],ySs⟩ [.keep [true,false,false,true,true],.gcA 6] .nil) .nil []) []) []) .nil [])) .nil []) []) []) [])
theorem Ut(n:Nat):cK Tryz.prog 103 Mj Al 57 Am (iJ n):=
 dN (Γ:=bB _ [(49,peM mD kF (dD n)),(121,peM Ch wD (iC n)),(50,peM qU mU (eB n))] [geP 107 sP nW 57 nX (dY n),geP 52 fF fG 57 fH (aW n)]) (an:=zCl n) (co:=[.gc [0,1,2,3,4,5]]) (cp:=[.gc [0,1,2,3,4,5]]) Tryz.func103 rfl (by kernel_rfl) aR (aH (all_cons (aZ (jZ n)) (all_cons (aZ (Em n)) (all_cons (aZ (pO n)) (all_nil)))) (aS (bG (tL n)) (aS (bG (cZ n)) (aI)))) mixed (aF _ _ rfl) (by kernel_rfl) (by kernel_rfl) (by kernel_rfl) (λx=>by kernel_rfl)
def zCm (n:Nat):An (Sum Ao.X Ap.X) := .nil
theorem Uu(n:Nat):cK Tryz.prog 74 Mk Ao 57 Ap (qP n):=
 dN (Γ:=bB _ [(98,bS zIk Xb (Ig n)),(101,bS zLz zAe (Ll n)),(102,bS zQp zEn (Qr n)),(94,peM kZ jF (bZ n))] [geP 86 sM nY 57 nZ (fO n),geP 97 yE rV 57 rW (fT n),geP 99 wC qW 57 qX (fA n),geP 100 zL vH 57 vI (iF n),geP 52 fF fG 57 fH (aW n),geP 103 Mj Al 57 Am (iJ n),geP 96 uP pI 57 pJ (eH n)]) (an:=zCm n) (co:=[.gc [0,1,2,3,4,5]]) (cp:=[.gc [0,1,2,3,4,5]]) Tryz.func74 rfl (by kernel_rfl) aR (aH (all_cons (aQ (zOc n)) (all_cons (aQ (zQw n)) (all_cons (aQ (zTu n)) (all_cons (aZ (jG n)) (all_nil))))) (aS (bG (qJ n)) (aS (bG (zU n)) (aS (bG (vR n)) (aS (bG (uE n)) (aS (bG (cZ n)) (aS (bG (Ut n)) (aS (bG (uQ n)) (aI))))))))) mixed (aF _ _ rfl) (by kernel_rfl) (by kernel_rfl) (by kernel_rfl) (λx=>by kernel_rfl)
def zXn (n:Nat):An (dB Xe):=(.mk .nil (.mk .nil (.mk (.mk .nil (.mk (.loop ⟨49,[⟨0,false,[.v .str]⟩,⟨5,false,[.own 0]⟩,⟨6,false,[.v (.int .i64)]⟩],[.row 5 (.int .u8)]⟩ [.keep (kbm 7 97),.gcA 0,.zDm 5 149,.gcA 0] [.keep (kbm 7 97),.gcA 0,.gcA 0] n .nil) .nil []) []) .nil []) []) [])
theorem zOf(n:Nat):Pure Tryz.prog 104 zIn Xe (Bu n):=
 bT (Γ:=bB _ [(81,bS kX kY (strings_IndexByte n))] []) (an:=zXn n) Tryz.func104 rfl (by kernel_rfl) aR (aH (all_cons (aQ (jY n)) (all_nil)) (aI)) mixed (aF _ _ rfl) (λx=>by kernel_rfl)
def yCk (n:Nat):An (dB zAg):=(.mk .nil (.mk (.mk .nil (.mk (.loop ⟨11,[⟨0,false,[.ptr 0 0]⟩,⟨2,false,[.v (.int .i64)]⟩],[.box 173 [.v (.arr 256 (.int .u8))]]⟩ [.keep [true,false,true],.gcA 0,.gcA 0] [.keep [true,false,true],.gcA 0,.gcA 0] n .nil) .nil []) []) .nil []) [])
theorem zRc(n:Nat):Pure Tryz.prog 122 zMb zAg (Lr n):=
 bT (Γ:=bB _ [] []) (an:=yCk n) Tryz.func122 rfl (by kernel_rfl) aR (aH (all_nil) (aI)) mixed (aF _ _ rfl) (λx=>by kernel_rfl)
def yCl (n:Nat):An (dB zAh):=(.mk .nil (.mk .nil (.mk .nil (.mk .nil (.mk (.mk .nil (.mk (.loop ⟨38,[⟨0,false,[.v .str]⟩,⟨1,false,[.v .str]⟩,⟨4,false,[.ptr 0 0]⟩,⟨6,false,[.ptr 1 0]⟩,⟨7,false,[.ptr 2 0]⟩,⟨18,false,[.v (.int .i64)]⟩,⟨19,false,[.v (.int .i64)]⟩],[.box 173 [.v (.arr 256 (.int .u8))],.box 173 [.v (.arr 256 (.int .u8))],.box 127 [.v (.arr 256 .bool)]]⟩ [.keep (kbm 20 786643),.gcA 0,.gcA 0] [.keep (kbm 20 786643),.gcA 0,.gcA 0] n .nil) .nil []) []) .nil []) []) []) []) [])
theorem zRd(n:Nat):Pure Tryz.prog 105 zMc zAh (Ls n):=
 bT (Γ:=bB _ [(122,bS zMb zAg (Lr n))] []) (an:=yCl n) Tryz.func105 rfl (by kernel_rfl) aR (aH (all_cons (aQ (zRc n)) (all_nil)) (aI)) mixed (aF _ _ rfl) (λx=>by kernel_rfl)
def zCn (n:Nat):An (Sum lQ.X lS.X) := .nil
theorem oJ(n:Nat):cK Tryz.prog 76 pK lQ 57 lS (aX n):=
 dN (Γ:=bB _ [(94,peM kZ jF (bZ n))] [geP 96 uP pI 57 pJ (eH n)]) (an:=zCn n) (co:=[.gc [0,1,2,3,4,5]]) (cp:=[.gc [0,1,2,3,4,5]]) Tryz.func76 rfl (by kernel_rfl) aR (aH (all_cons (aZ (jG n)) (all_nil)) (aS (bG (uQ n)) (aI))) mixed (aF _ _ rfl) (by kernel_rfl) (by kernel_rfl) (by kernel_rfl) (λx=>by kernel_rfl)
def Uv (n:Nat):An (Sum vM.X vN.X) := .nil
theorem Nf(n:Nat):cK Tryz.prog 75 Eh vM 57 vN (lY n):=
 dN (Γ:=bB _ [(104,bS zIn Xe (Bu n)),(105,bS zMc zAh (Ls n))] [geP 86 sM nY 57 nZ (fO n),geP 99 wC qW 57 qX (fA n),geP 100 zL vH 57 vI (iF n),geP 76 pK lQ 57 lS (aX n)]) (an:=Uv n) (co:=[.gc [0,1,2,3,4,5]]) (cp:=[.gc [0,1,2,3,4,5]]) Tryz.func75 rfl (by kernel_rfl) aR (aH (all_cons (aQ (zOf n)) (all_cons (aQ (zRd n)) (all_nil))) (aS (bG (qJ n)) (aS (bG (vR n)) (aS (bG (uE n)) (aS (bG (oJ n)) (aI)))))) mixed (aF _ _ rfl) (by kernel_rfl) (by kernel_rfl) (by kernel_rfl) (λx=>by kernel_rfl)
def zTv (n:Nat):An (Sr.X) := .nil
theorem zJb(n:Nat):dV Tryz.prog 124 zFs Sr (sJ n):=
 dL (Γ:=bB _ [(125,peM rF lN (eP n))] []) (an:=zTv n) (co:=[.gc [0,1]]) Tryz.func124 rfl (by kernel_rfl) aR (aH (all_cons (aZ (uT n)) (all_nil)) (aI)) mixed (aF _ _ rfl) (by kernel_rfl) (by kernel_rfl) (λx=>by kernel_rfl)
def Rl (n:Nat):An (tK.X):=(.mk .nil (.mk (.mk .nil (.mk .nil (.mk (.mk (.loop ⟨35,[⟨0,false,[.v .str]⟩,⟨1,false,[.clo 124 [(0,0)]]⟩,⟨5,false,[.v (.int .i64)]⟩],zEj⟩ [.keep (kbm 6 35),.gcA 2,.gcA 2] [.keep (kbm 6 35),.gcA 2,.gcA 2] n .nil) .nil []) .nil []) []) []) .nil []) [])
theorem Ko(n:Nat):dV Tryz.prog 123 Bh tK (kH n):=
 dL (Γ:=bB _ [(124,peM zFs Sr (sJ n))] []) (an:=Rl n) (co:=[.gc [0,1]]) Tryz.func123 rfl (by kernel_rfl) aR (aH (all_cons (aZ (zJb n)) (all_nil)) (aI)) mixed (aF _ _ rfl) (by kernel_rfl) (by kernel_rfl) (λx=>by kernel_rfl)
def yCm (n:Nat):An (dB zAi):=(.mk .nil (.mk .nil (.mk .nil (.mk (.co [.ownB 0 1 149,.orn 0 0 0 0] .nil) .nil []) []) []) [])
theorem zRe(n:Nat):Pure Tryz.prog 106 zMd zAi (Lu n):=
 bT (Γ:=bB _ [(110,bS Bw yB (lM n)),(123,peM Bh tK (kH n)),(28,bS jE iD (strings_HasPrefix n)),(126,peM Dh xH (Builder_String n))] []) (an:=yCm n) Tryz.func106 rfl (by kernel_rfl) aR (aH (all_cons (aQ (xJ n)) (all_cons (aZ (Ko n)) (all_cons (aQ (iG n)) (all_cons (aZ (Me n)) (all_nil))))) (aI)) mixed (aF _ _ rfl) (λx=>by kernel_rfl)
def zEv (n:Nat):An (Sum Ck.X Cm.X):=(.mk .nil (.mk (.join ⟨61,[⟨0,false,[.ptr 0 0]⟩],cO⟩ [.keep [true],.gcA 6] .nil) (.mk (.join ⟨61,[⟨0,false,[.ptr 0 0]⟩],cO⟩ [.keep [true],.gcA 6] .nil) .nil []) []) [])
theorem Xk(n:Nat):cK Tryz.prog 77 Nk Ck 57 Cm (kV n):=
 dN (Γ:=bB _ [(82,peM iT gJ (bL n)),(28,bS jE iD (strings_HasPrefix n)),(106,bS zMd zAi (Lu n)),(94,peM kZ jF (bZ n))] [geP 52 fF fG 57 fH (aW n),geP 100 zL vH 57 vI (iF n)]) (an:=zEv n) (co:=[.gc [0,1,2,3,4,5]]) (cp:=[.gc [0,1,2,3,4,5]]) Tryz.func77 rfl (by kernel_rfl) aR (aH (all_cons (aZ (gY n)) (all_cons (aQ (iG n)) (all_cons (aQ (zRe n)) (all_cons (aZ (jG n)) (all_nil))))) (aS (bG (cZ n)) (aS (bG (uE n)) (aI)))) mixed (aF _ _ rfl) (by kernel_rfl) (by kernel_rfl) (by kernel_rfl) (λx=>by kernel_rfl)
def Uw (n:Nat):An (vO.X) := .nil
theorem Ng(n:Nat):dV Tryz.prog 82 Ei vO (gV n):=
 dL (Γ:=bB _ [(109,bS Sm Ja (nA n))] []) (an:=Uw n) (co:=[.gc [0,1,2,3]]) Tryz.func82 rfl (by kernel_rfl) aR (aH (all_cons (aQ (Tm n)) (all_nil)) (aI)) mixed (aF _ _ rfl) (by kernel_rfl) (by kernel_rfl) (λx=>by kernel_rfl)
def Yi (n:Nat):An (yH.X) := .nil
theorem Rm(n:Nat):dV Tryz.prog 50 Ik yH (iO n):=
 dL (Γ:=bB _ [(82,peM Ei vO (gV n)),(83,bS zAc Qf (rR n))] []) (an:=Yi n) (co:=[.gc [0,1,2,3]]) Tryz.func50 rfl (by kernel_rfl) aR (aH (all_cons (aZ (Ng n)) (all_cons (aQ (Zj n)) (all_nil))) (aI)) mixed (aF _ _ rfl) (by kernel_rfl) (by kernel_rfl) (λx=>by kernel_rfl)
def Yj (n:Nat):An (Sum yI.X yJ.X) := .nil
theorem Rn(n:Nat):cK Tryz.prog 95 zAj yI 57 yJ (iP n):=
 dN (Γ:=bB _ [(50,peM Ik yH (iO n)),(115,bS Ac Ad (strings_ContainsAny n))] [geP 52 fF fG 57 fH (aW n)]) (an:=Yj n) (co:=[.gc [0,1,2,3]]) (cp:=[.gc [0,1,2,3]]) Tryz.func95 rfl (by kernel_rfl) aR (aH (all_cons (aZ (Rm n)) (all_cons (aQ (Ea n)) (all_nil))) (aS (bG (cZ n)) (aI))) mixed (aF _ _ rfl) (by kernel_rfl) (by kernel_rfl) (by kernel_rfl) (λx=>by kernel_rfl)
theorem Nh(n:Nat):zNr Tryz.prog 95 (List.map (λp=>p.1) [(3,3),(6,6),(24,24)]) vP Ej 57 El (gW n):=
 yEx (js:=[(3,3),(6,6),(24,24)]) (λvs x=>(x.1,x.2.1,x.2.2.1,(vs.getD 0 undef),x.2.2.2.1,(vs.getD 1 undef),x.2.2.2.2.1,x.2.2.2.2.2.1,x.2.2.2.2.2.2.1,x.2.2.2.2.2.2.2.1,x.2.2.2.2.2.2.2.2.1,x.2.2.2.2.2.2.2.2.2.1,x.2.2.2.2.2.2.2.2.2.2.1,x.2.2.2.2.2.2.2.2.2.2.2.1,x.2.2.2.2.2.2.2.2.2.2.2.2.1,x.2.2.2.2.2.2.2.2.2.2.2.2.2.1,x.2.2.2.2.2.2.2.2.2.2.2.2.2.2.1,x.2.2.2.2.2.2.2.2.2.2.2.2.2.2.2.1,x.2.2.2.2.2.2.2.2.2.2.2.2.2.2.2.2.1,x.2.2.2.2.2.2.2.2.2.2.2.2.2.2.2.2.2.1,x.2.2.2.2.2.2.2.2.2.2.2.2.2.2.2.2.2.2.1,x.2.2.2.2.2.2.2.2.2.2.2.2.2.2.2.2.2.2.2.1,(vs.getD 2 undef),x.2.2.2.2.2.2.2.2.2.2.2.2.2.2.2.2.2.2.2.2)) (λvs y=>(y.1,y.2.1,y.2.2.1,y.2.2.2.1,(vs.getD 0 undef),y.2.2.2.2.1,(vs.getD 1 undef),y.2.2.2.2.2.1,y.2.2.2.2.2.2.1,y.2.2.2.2.2.2.2.1,y.2.2.2.2.2.2.2.2.1,y.2.2.2.2.2.2.2.2.2.1,y.2.2.2.2.2.2.2.2.2.2.1,y.2.2.2.2.2.2.2.2.2.2.2.1,y.2.2.2.2.2.2.2.2.2.2.2.2.1,y.2.2.2.2.2.2.2.2.2.2.2.2.2.1,y.2.2.2.2.2.2.2.2.2.2.2.2.2.2.1,y.2.2.2.2.2.2.2.2.2.2.2.2.2.2.2.1,y.2.2.2.2.2.2.2.2.2.2.2.2.2.2.2.2.1,y.2.2.2.2.2.2.2.2.2.2.2.2.2.2.2.2.2.1,y.2.2.2.2.2.2.2.2.2.2.2.2.2.2.2.2.2.2.1,y.2.2.2.2.2.2.2.2.2.2.2.2.2.2.2.2.2.2.2.1,y.2.2.2.2.2.2.2.2.2.2.2.2.2.2.2.2.2.2.2.2.1,(vs.getD 2 undef),y.2.2.2.2.2.2.2.2.2.2.2.2.2.2.2.2.2.2.2.2.2)) (λvs z=>(z.1,z.2.1,z.2.2.1,z.2.2.2.1,(vs.getD 0 undef),z.2.2.2.2.1,(vs.getD 1 undef),z.2.2.2.2.2.1,z.2.2.2.2.2.2.1,z.2.2.2.2.2.2.2.1,z.2.2.2.2.2.2.2.2.1,z.2.2.2.2.2.2.2.2.2.1,z.2.2.2.2.2.2.2.2.2.2.1,z.2.2.2.2.2.2.2.2.2.2.2.1,z.2.2.2.2.2.2.2.2.2.2.2.2.1,z.2.2.2.2.2.2.2.2.2.2.2.2.2.1,z.2.2.2.2.2.2.2.2.2.2.2.2.2.2.1,z.2.2.2.2.2.2.2.2.2.2.2.2.2.2.2.1,z.2.2.2.2.2.2.2.2.2.2.2.2.2.2.2.2.1,z.2.2.2.2.2.2.2.2.2.2.2.2.2.2.2.2.2.1,z.2.2.2.2.2.2.2.2.2.2.2.2.2.2.2.2.2.2.1,z.2.2.2.2.2.2.2.2.2.2.2.2.2.2.2.2.2.2.2.1,z.2.2.2.2.2.2.2.2.2.2.2.2.2.2.2.2.2.2.2.2.1,(vs.getD 2 undef),z.2.2.2.2.2.2.2.2.2.2.2.2.2.2.2.2.2.2.2.2.2)) (Ra n) (λvs x h=>by obtain⟨a,b,c,rfl⟩:=yKy h;exact⟨80,zNs (vP.enc x).h[0]?,_,by kernel_rfl,InK.three (by kernel_rfl) (by kernel_rfl) (by kernel_rfl) (by kernel_rfl) (by kernel_rfl) (by kernel_rfl),by kernel_rfl⟩) (λvs y h=>by obtain⟨a,b,c,rfl⟩:=yKy h;exact⟨80,zNs (yI.enc ((λvs y=>(y.1,y.2.1,y.2.2.1,y.2.2.2.1,(vs.getD 0 undef),y.2.2.2.2.1,(vs.getD 1 undef),y.2.2.2.2.2.1,y.2.2.2.2.2.2.1,y.2.2.2.2.2.2.2.1,y.2.2.2.2.2.2.2.2.1,y.2.2.2.2.2.2.2.2.2.1,y.2.2.2.2.2.2.2.2.2.2.1,y.2.2.2.2.2.2.2.2.2.2.2.1,y.2.2.2.2.2.2.2.2.2.2.2.2.1,y.2.2.2.2.2.2.2.2.2.2.2.2.2.1,y.2.2.2.2.2.2.2.2.2.2.2.2.2.2.1,y.2.2.2.2.2.2.2.2.2.2.2.2.2.2.2.1,y.2.2.2.2.2.2.2.2.2.2.2.2.2.2.2.2.1,y.2.2.2.2.2.2.2.2.2.2.2.2.2.2.2.2.2.1,y.2.2.2.2.2.2.2.2.2.2.2.2.2.2.2.2.2.2.1,y.2.2.2.2.2.2.2.2.2.2.2.2.2.2.2.2.2.2.2.1,y.2.2.2.2.2.2.2.2.2.2.2.2.2.2.2.2.2.2.2.2.1,(vs.getD 2 undef),y.2.2.2.2.2.2.2.2.2.2.2.2.2.2.2.2.2.2.2.2.2)) [a,b,c] y)).h[0]?,_,by kernel_rfl,Oh.three (by kernel_rfl) (by kernel_rfl) (by kernel_rfl) (by kernel_rfl) (by kernel_rfl) (by kernel_rfl),by kernel_rfl⟩) (λvs z h=>by obtain⟨a,b,c,rfl⟩:=yKy h;exact⟨80,zNs (yJ.enc ((λvs z=>(z.1,z.2.1,z.2.2.1,z.2.2.2.1,(vs.getD 0 undef),z.2.2.2.2.1,(vs.getD 1 undef),z.2.2.2.2.2.1,z.2.2.2.2.2.2.1,z.2.2.2.2.2.2.2.1,z.2.2.2.2.2.2.2.2.1,z.2.2.2.2.2.2.2.2.2.1,z.2.2.2.2.2.2.2.2.2.2.1,z.2.2.2.2.2.2.2.2.2.2.2.1,z.2.2.2.2.2.2.2.2.2.2.2.2.1,z.2.2.2.2.2.2.2.2.2.2.2.2.2.1,z.2.2.2.2.2.2.2.2.2.2.2.2.2.2.1,z.2.2.2.2.2.2.2.2.2.2.2.2.2.2.2.1,z.2.2.2.2.2.2.2.2.2.2.2.2.2.2.2.2.1,z.2.2.2.2.2.2.2.2.2.2.2.2.2.2.2.2.2.1,z.2.2.2.2.2.2.2.2.2.2.2.2.2.2.2.2.2.2.1,z.2.2.2.2.2.2.2.2.2.2.2.2.2.2.2.2.2.2.2.1,z.2.2.2.2.2.2.2.2.2.2.2.2.2.2.2.2.2.2.2.2.1,(vs.getD 2 undef),z.2.2.2.2.2.2.2.2.2.2.2.2.2.2.2.2.2.2.2.2.2)) [a,b,c] z)).h[0]?,_,by kernel_rfl,Oh.three (by kernel_rfl) (by kernel_rfl) (by kernel_rfl) (by kernel_rfl) (by kernel_rfl) (by kernel_rfl),by kernel_rfl⟩) (by decide) (Rn n)
def zAt (n:Nat):An (Sum zO.X zP.X) := .nil
theorem Sy(n:Nat):cK Tryz.prog 78 Kh zO 57 zP (jQ n):=
 yEy (Γ:=bB _ [] [geP 76 pK lQ 57 lS (aX n)]) (an:=zAt n) (co:=[.gc [0,1,2,3,4,5]]) (cp:=[.gc [0,1,2,3,4,5]]) (j:=16) (rid:=0) (oL:=List.map (λp=>p.1) [(3,3),(6,6),(24,24)]) (zIg:=zYh [(3,3),(6,6),(24,24)]) (gen:=yBu [(3,3),(6,6),(24,24)] 0 vP Ej 57 El (gW n)) (g:=95) Tryz.func78 rfl (by kernel_rfl) aR (aH (all_nil) (aS (bG (oJ n)) (aI))) mixed (yOa (Nh n)) (aF _ _ rfl) (by kernel_rfl) (by kernel_rfl) (by kernel_rfl) (λx=>by kernel_rfl)
def Yk (n:Nat):An (Sum yK.X yL.X):=(.mk .nil (.mk (.join ⟨43,[⟨0,false,[.ptr 0 0]⟩],cO⟩ [.keep [true],.gcA 6] .nil) .nil []) [])
theorem Ro(n:Nat):cK Tryz.prog 79 Il yK 57 yL (iQ n):=
 dN (Γ:=bB _ [(82,peM iT gJ (bL n)),(49,peM mD kF (dD n))] [geP 107 sP nW 57 nX (dY n),geP 52 fF fG 57 fH (aW n),geP 76 pK lQ 57 lS (aX n)]) (an:=Yk n) (co:=[.gc [0,1,2,3,4,5]]) (cp:=[.gc [0,1,2,3,4,5]]) Tryz.func79 rfl (by kernel_rfl) aR (aH (all_cons (aZ (gY n)) (all_cons (aZ (jZ n)) (all_nil))) (aS (bG (tL n)) (aS (bG (cZ n)) (aS (bG (oJ n)) (aI))))) mixed (aF _ _ rfl) (by kernel_rfl) (by kernel_rfl) (by kernel_rfl) (λx=>by kernel_rfl)
def zEw (n:Nat):An (Sum Cn.X Cq.X) := .nil
theorem Xl(n:Nat):cK Tryz.prog 80 Nl Cn 57 Cq (nT n):=
 dN (Γ:=bB _ [(50,peM qU mU (eB n)),(94,peM kZ jF (bZ n))] [geP 52 fF fG 57 fH (aW n)]) (an:=zEw n) (co:=[.gc [0,1,2,3,4,5]]) (cp:=[.gc [0,1,2,3,4,5]]) Tryz.func80 rfl (by kernel_rfl) aR (aH (all_cons (aZ (pO n)) (all_cons (aZ (jG n)) (all_nil))) (aS (bG (cZ n)) (aI))) mixed (aF _ _ rfl) (by kernel_rfl) (by kernel_rfl) (by kernel_rfl) (λx=>by kernel_rfl)
def Yl (n:Nat):An (Sum yM.X yN.X):=(.mk .nil (.mk .nil (.mk .nil (.mk (.join ⟨88,[⟨0,false,[.ptr 0 0]⟩,⟨1,false,[.mp 1]⟩,⟨4,false,[.v (.int .i64)]⟩],yBy⟩ [.keep (kbm 67 19),.gcA 7] .nil) (.mk .nil (.mk (.join ⟨88,[⟨0,false,[.ptr 0 0]⟩,⟨1,false,[.mp 1]⟩],yBy⟩ [.keep [true,true],.gcA 7] .nil) .nil []) []) []) []) []) [])
theorem Rp(n:Nat):cK Tryz.prog 51 Im yM 57 yN (nU n):=
 dN (Γ:=bB _ [(82,peM iT gJ (bL n)),(85,peM wB qV (dH n)),(81,bS kX kY (strings_IndexByte n)),(71,peM Af uO (mQ n))] [geM 71 Af uO (mQ n),geP 84 Ef vK 57 vL (lX n),geP 86 sM nY 57 nZ (fO n),geP 52 fF fG 57 fH (aW n),geP 72 Mg Ag 57 Ah (qN n),geP 73 Mh Ai 57 Aj (qO n),geP 74 Mk Ao 57 Ap (qP n),geP 75 Eh vM 57 vN (lY n),geP 76 pK lQ 57 lS (aX n),geP 77 Nk Ck 57 Cm (kV n),geP 78 Kh zO 57 zP (jQ n),geP 79 Il yK 57 yL (iQ n),geP 80 Nl Cn 57 Cq (nT n)]) (an:=Yl n) (co:=[.gc [0,1,2,3,4,5,6]]) (cp:=[.gc [0,1,2,3,4,5,6]]) Tryz.func51 rfl (by kernel_rfl) aR (aH (all_cons (aZ (gY n)) (all_cons (aZ (vQ n)) (all_cons (aQ (jY n)) (all_cons (aZ (Dk n)) (all_nil))))) (aS (xAe (Dk n)) (aS (bG (Nc n)) (aS (bG (qJ n)) (aS (bG (cZ n)) (aS (bG (Ur n)) (aS (bG (Us n)) (aS (bG (Uu n)) (aS (bG (Nf n)) (aS (bG (oJ n)) (aS (bG (Xk n)) (aS (bG (Sy n)) (aS (bG (Ro n)) (aS (bG (Xl n)) (aI))))))))))))))) mixed (aF _ _ rfl) (by kernel_rfl) (by kernel_rfl) (by kernel_rfl) (λx=>by kernel_rfl)
def zCo (n:Nat):An (Sum Aq.X Ar.X):=(.mk .nil (.mk (.mk (.loop ⟨104,[⟨0,false,[.ptr 0 0]⟩,⟨2,false,[.mp 6]⟩],[.box 80 [.v .str,.v .bool,.v (.int .i64),.v (.int .i64),.v .bool,.own 1,.own 2,.v (.int .i64),.v (.int .i64),.v (.int .i64),.v (.int .i64),.v (.int .i64),.v (.int .i64),.v .bool,.v (.int .u8),.v .str,.v .str,.v (.int .i64),.v (.int .i64),.v (.int .i64),.v (.slice oF),.v .bool,.v .bool,.own 3,.own 4,.mp 5],.row 87 bQ,.row 77 aC,.row 118 gP,.row 118 gP,.dm .str (.int .i64),.fm [(.i .u8 123,71),(.i .u8 125,72),(.i .u8 58,73),(.i .u8 115,74),(.i .u8 121,75),(.i .u8 61,76),(.i .u8 100,76),(.i .u8 68,76),(.i .u8 103,76),(.i .u8 71,76),(.i .u8 104,76),(.i .u8 72,76),(.i .u8 110,76),(.i .u8 78,76),(.i .u8 112,76),(.i .u8 80,76),(.i .u8 120,76),(.i .u8 97,77),(.i .u8 105,77),(.i .u8 99,77),(.i .u8 98,78),(.i .u8 116,78),(.i .u8 84,78),(.i .u8 108,79),(.i .u8 113,79),(.i .u8 81,79),(.i .u8 114,80),(.i .u8 119,80)]]⟩ [.keep [true,false,true],.gcA 6,.gcA 6] [.keep [true,false,true],.gcA 6,.gcA 6] n .nil) .nil []) (.mk (.join ⟨104,[⟨0,false,[.ptr 0 0]⟩],cO⟩ [.keep [true],.gcA 6] .nil) (.mk .nil (.mk (.loop ⟨104,[⟨0,false,[.ptr 0 0]⟩,⟨60,false,[.own 4]⟩,⟨61,false,[.v (.int .i64)]⟩,⟨62,false,[.v (.int .i64)]⟩],cO⟩ [.keep (kbm 63 8070450532247928833),.gcA 6,.gcA 6] [.keep (kbm 63 8070450532247928833),.gcA 6,.gcA 6] n (.mk .nil (.mk .nil (.mk (.mk (.mk .nil (.mk .nil (.mk (.join ⟨104,[⟨0,false,[.ptr 0 0]⟩,⟨5,false,[.ptr 6 0]⟩,⟨6,false,[.v (.int .i64)]⟩,⟨7,false,[.v .bool]⟩,⟨60,false,[.own 4]⟩,⟨61,false,[.v (.int .i64)]⟩,⟨62,false,[.v (.int .i64)]⟩],[.box 80 [.v .str,.v .bool,.v (.int .i64),.v (.int .i64),.v .bool,.own 1,.own 2,.v (.int .i64),.v (.int .i64),.v (.int .i64),.v (.int .i64),.v (.int .i64),.v (.int .i64),.v .bool,.v (.int .u8),.v .str,.v .str,.v (.int .i64),.v (.int .i64),.v (.int .i64),.v (.slice oF),.v .bool,.v .bool,.own 3,.own 4,.mp 5],.row 87 bQ,.row 77 aC,.row 118 gP,.row 118 gP,.dm .str (.int .i64),.box 118 [.v (.int .i64),.v (.int .i64),.v .str]]⟩ [.keep (kbm 63 8070450532247929057),.gcA 6] .nil) .nil []) []) []) .nil []) .nil []) []) [])) .nil []) []) []) []) [])
theorem Ux(n:Nat):cK Tryz.prog 30 Ml Aq 57 Ar (mR n):=
 dN (Γ:=bB _ [(48,peM Ww Eb (Zy n)),(49,peM mD kF (dD n)),(50,peM qU mU (eB n))] [geP 51 Im yM 57 yN (nU n),geP 52 fF fG 57 fH (aW n)]) (an:=zCo n) (co:=[.gc [0,1,2,3,4,5]]) (cp:=[.gc [0,1,2,3,4,5]]) Tryz.func30 rfl (by kernel_rfl) aR (aH (all_cons (aZ (zKz n)) (all_cons (aZ (jZ n)) (all_cons (aZ (pO n)) (all_nil)))) (aS (bG (Rp n)) (aS (bG (cZ n)) (aI)))) mixed (aF _ _ rfl) (by kernel_rfl) (by kernel_rfl) (by kernel_rfl) (λx=>by kernel_rfl)
theorem Bj(n:Nat):dV Tryz.prog 29 mF mG (bV n):=
 yBo (si:=mF) (so:=mG) (sp:=Ar) (sd:=Ml) (od:=Aq) (F:=mR n) (G:=bV n) (conv:=λx=>x) (o1:=λy=>(0,y)) (o2:=λz=>z) (Ux n) rfl (λx=>⟨rfl,rfl⟩) (λx=>by unfold bV ob2;cases mR n x with|none=>rfl|some r=>cases r<;>rfl) (λy=>⟨rfl,rfl⟩) (λz=>⟨_,rfl,rfl⟩)
def zTw (n:Nat):An (dB Jb):=(.mk .nil (.mk .nil (.mk .nil (.mk .nil (.mk (.mk (.co [.ownB 2 5 36,.ownB 2 6 37,.ownB 2 23 78,.ownB 2 24 78] .nil) .nil []) .nil []) []) []) []) [])
theorem Tn(n:Nat):Pure Tryz.prog 17 Sv Jb (sK n):=
 bT (Γ:=bB _ [(29,peM mF mG (bV n)),(28,bS jE iD (strings_HasPrefix n))] []) (an:=zTw n) Tryz.func17 rfl (by kernel_rfl) aR (aH (all_cons (aZ (Bj n)) (all_cons (aQ (iG n)) (all_nil))) (aI)) mixed (aF _ _ rfl) (λx=>by kernel_rfl)
end Go.Dec
