/- Part of a proof over this seat: a library of my own, and what it says of this seat. No statement is proved here. -/
import Derived.Test.YtfbilefiaminnaaGreatDoorProg
import Derived.Test.YtfbilefiaminnaaGreatDoorPartAP
import Derived.Test.YtfbilefiaminnaaGreatDoorPartBF
import Derived.Test.YtfbilefiaminnaaGreatDoorPartBE
import Derived.KernelRfl
namespace Go.Dec
abbrev cO:List OS:=[.box 80 [.v .str,.v .bool,.v (.int .i64),.v (.int .i64),.v .bool,.own 1,.own 2,.v (.int .i64),.v (.int .i64),.v (.int .i64),.v (.int .i64),.v (.int .i64),.v (.int .i64),.v .bool,.v (.int .u8),.v .str,.v .str,.v (.int .i64),.v (.int .i64),.v (.int .i64),.v (.slice oF),.v .bool,.v .bool,.own 3,.own 4,.mp 5],.row 87 bQ,.row 77 aC,.row 118 gP,.row 118 gP,.dm .str (.int .i64)]
abbrev yBz:List OS:=[.box 80 [.v .str,.v .bool,.v (.int .i64),.v (.int .i64),.v .bool,.own 2,.own 3,.v (.int .i64),.v (.int .i64),.v (.int .i64),.v (.int .i64),.v (.int .i64),.v (.int .i64),.v .bool,.v (.int .u8),.v .str,.v .str,.v (.int .i64),.v (.int .i64),.v (.int .i64),.v (.slice oF),.v .bool,.v .bool,.own 4,.own 5,.mp 6],.fm [(.i .u8 123,71),(.i .u8 125,72),(.i .u8 58,73),(.i .u8 115,74),(.i .u8 121,75),(.i .u8 61,76),(.i .u8 100,76),(.i .u8 68,76),(.i .u8 103,76),(.i .u8 71,76),(.i .u8 104,76),(.i .u8 72,76),(.i .u8 110,76),(.i .u8 78,76),(.i .u8 112,76),(.i .u8 80,76),(.i .u8 120,76),(.i .u8 97,77),(.i .u8 105,77),(.i .u8 99,77),(.i .u8 98,78),(.i .u8 116,78),(.i .u8 84,78),(.i .u8 108,79),(.i .u8 113,79),(.i .u8 81,79),(.i .u8 114,80),(.i .u8 119,80)],.row 87 bQ,.row 77 aC,.row 118 gP,.row 118 gP,.dm .str (.int .i64)]
abbrev nM:List OS:=[.box 213 [.v .str,.v (.int .i64),.own 1,.v (.int .i64),.v (.arr 10 .bool)],.row 125 bA]
abbrev zNv:List OS:=[.box 80 [.v .str,.v .bool,.v (.int .i64),.v .opq,.v .bool,.own 1,.v .opq,.v (.int .i64),.v (.int .i64),.v (.int .i64),.v (.int .i64),.v (.int .i64),.v (.int .i64),.v .bool,.v (.int .u8),.v .str,.v .str,.v (.int .i64),.v (.int .i64),.v (.int .i64),.v (.slice oF),.v .bool,.v .bool,.own 2,.v .opq,.mp 3],.row 87 bQ,.row 118 gP,.dm .str (.int .i64)]
abbrev ySt:List OS:=[.box 80 [.v .str,.v .bool,.v (.int .i64),.v (.int .i64),.v .bool,.own 1,.own 2,.v (.int .i64),.v (.int .i64),.v (.int .i64),.v (.int .i64),.v (.int .i64),.v (.int .i64),.v .bool,.v (.int .u8),.v .str,.v .str,.v (.int .i64),.v (.int .i64),.v (.int .i64),.v (.slice oF),.v .bool,.v .bool,.own 3,.own 4,.mp 5],.row 87 bQ,.row 77 aC,.row 118 gP,.row 118 gP,.dm .str (.int .i64),.dm .str (.int .i64)]
abbrev ySu:List OS:=[.box 80 [.v .str,.v .bool,.v (.int .i64),.any 1,.v .bool,.own 1,.any 1,.v (.int .i64),.v (.int .i64),.v (.int .i64),.v (.int .i64),.v (.int .i64),.v (.int .i64),.v .bool,.v (.int .u8),.v .str,.v .str,.v (.int .i64),.v (.int .i64),.v (.int .i64),.v (.slice oF),.v .bool,.v .bool,.own 2,.any 1,.mp 3],.row 87 bQ,.row 118 gP,.dm .str (.int .i64)]
abbrev yCa:List OS:=[.box 210 [.ptr 2 0],.box 9 [.v .str],.box 213 [.v .str,.v (.int .i64),.own 3,.v (.int .i64),.v (.arr 10 .bool)],.row 125 bA]
abbrev yCb:List OS:=[.box 213 [.v .str,.v (.int .i64),.own 1,.v (.int .i64),.v (.arr 10 .bool)],.row 125 bA,.row 3 (.int .i64)]
abbrev Gu:List OS:=[.box 269 [.v .str,.v (.int .i64)]]
abbrev zKq:List OS:=[.box 267 [.ptr 2 0],.box 123 [.v (.arr 4 (.int .u64))],.box 269 [.v .str,.v (.int .i64)]]
abbrev zEk:List OS:=[.box 195 [.fC 0 0,.own 1],.row 5 (.int .u8)]
abbrev zQn:List OS:=[.box 9 [.v .str],.box 195 [.fC 1 0,.own 2],.row 5 (.int .u8)]
abbrev Um:List OS:=[.box 204 [.v (.arr 256 .bool)]]
abbrev yVc:List OS:=[.box 85 [.v (.slice bA)],.box 250 [.clo 178 [(0,0),(1,0),(2,0),(3,0),(4,0),(5,0)]],.box 3 [.v (.int .i64)],.box 4 [.v .bool],.box 211 [.v (.arr 10 .bool)],.box 4 [.v .bool]]
open Go.Proofs
set_option linter.unusedVariables false
def tab:Tab:=[(3,⟨.int .i64,1,8,[.val (.int .i64) 0],some (.int .i64),false⟩),(4,⟨.bool,1,1,[.val .bool false],some .bool,false⟩),(5,⟨.int .u8,1,1,[.val (.int .u8) 0],some (.int .u8),false⟩),(9,⟨.str,1,16,[.val .str []],some .str,false⟩),(32,⟨.slice 9,1,24,[.bJ],some (.slice .str),false⟩),(36,⟨.slice 87,1,24,[.bJ],some (.slice bQ),false⟩),(37,⟨.slice 77,1,24,[.bJ],some (.slice aC),false⟩),(39,⟨.struct [(0,4),(1,36),(2,37)],3,56,[.val .bool false,.bJ,.bJ],some oO,false⟩),(57,⟨.int .i64,1,8,[.val (.int .i64) 0],some (.int .i64),false⟩),(69,⟨.ptr 80,1,8,[.lF],none,false⟩),(70,⟨.map 9 3,1,8,[.val .opq (Value.map none)],none,false⟩),(72,⟨.struct [(0,3),(1,3),(2,3)],3,24,[.val (.int .i64) 0,.val (.int .i64) 0,.val (.int .i64) 0],some Wj,true⟩),(74,⟨.struct [(0,72),(3,72),(6,4)],7,56,[.val (.int .i64) 0,.val (.int .i64) 0,.val (.int .i64) 0,.val (.int .i64) 0,.val (.int .i64) 0,.val (.int .i64) 0,.val .bool false],some zG,true⟩),(75,⟨.slice 134,1,24,[.bJ],some (.slice oF),false⟩),(77,⟨.struct [(0,74),(7,5),(8,9),(9,9),(10,3),(11,3),(12,3),(13,75),(14,4),(15,4)],16,152,[.val (.int .i64) 0,.val (.int .i64) 0,.val (.int .i64) 0,.val (.int .i64) 0,.val (.int .i64) 0,.val (.int .i64) 0,.val .bool false,.val (.int .u8) 0,.val .str [],.val .str [],.val (.int .i64) 0,.val (.int .i64) 0,.val (.int .i64) 0,.bJ,.val .bool false,.val .bool false],some aC,false⟩),(78,⟨.slice 118,1,24,[.bJ],some (.slice gP),false⟩),(80,⟨.struct [(0,9),(1,4),(2,3),(3,3),(4,39),(7,77),(23,78),(24,78),(25,70)],26,304,[.val .str [],.val .bool false,.val (.int .i64) 0,.val (.int .i64) 0,.val .bool false,.bJ,.bJ,.val (.int .i64) 0,.val (.int .i64) 0,.val (.int .i64) 0,.val (.int .i64) 0,.val (.int .i64) 0,.val (.int .i64) 0,.val .bool false,.val (.int .u8) 0,.val .str [],.val .str [],.val (.int .i64) 0,.val (.int .i64) 0,.val (.int .i64) 0,.bJ,.val .bool false,.val .bool false,.bJ,.bJ,.val .opq (Value.map none)],none,false⟩),(85,⟨.slice 125,1,24,[.bJ],some (.slice bA),false⟩),(87,⟨.struct [(0,85),(1,4)],2,32,[.bJ,.val .bool false],some bQ,false⟩),(100,⟨.func,1,8,[.val .opq Value.nilFunc],some .opq,false⟩),(113,⟨.map 5 147,1,8,[.val .opq (Value.map none)],none,false⟩),(118,⟨.struct [(0,3),(1,3),(2,9)],3,32,[.val (.int .i64) 0,.val (.int .i64) 0,.val .str []],some gP,true⟩),(121,⟨.int .u64,1,8,[.val (.int .u64) 0],some (.int .u64),false⟩),(123,⟨.arr 4 121,4,32,[.val (.arr 4 (.int .u64)) ([0,0,0,0])],some (.arr 4 (.int .u64)),true⟩),(125,⟨.struct [(0,3),(1,123),(5,3),(6,3),(7,3),(8,3),(9,3)],10,80,[.val (.int .i64) 0,.val (.arr 4 (.int .u64)) ([0,0,0,0]),.val (.int .i64) 0,.val (.int .i64) 0,.val (.int .i64) 0,.val (.int .i64) 0,.val (.int .i64) 0],some bA,true⟩),(127,⟨.arr 256 4,256,256,[.val (.arr 256 .bool) (List.replicate 256 false)],some (.arr 256 .bool),true⟩),(134,⟨.struct [(0,9),(1,3)],2,24,[.val .str [],.val (.int .i64) 0],some oF,true⟩),(147,⟨.func,1,8,[.val .opq Value.nilFunc],some .opq,false⟩),(149,⟨.slice 5,1,24,[.bJ],some (.slice (.int .u8)),false⟩),(173,⟨.arr 256 5,256,256,[.val (.arr 256 (.int .u8)) (List.replicate 256 0)],some (.arr 256 (.int .u8)),true⟩),(193,⟨.ptr 195,1,8,[.lF],none,false⟩),(195,⟨.struct [(0,193),(1,149)],2,32,[.lF,.bJ],none,false⟩),(198,⟨.iface false,1,16,[.val .err false],some .err,false⟩),(204,⟨.arr 256 4,256,256,[.val (.arr 256 .bool) (List.replicate 256 false)],some (.arr 256 .bool),true⟩),(208,⟨.ptr 204,1,8,[.lF],none,false⟩),(210,⟨.ptr 213,1,8,[.lF],none,false⟩),(211,⟨.arr 10 4,10,10,[.val (.arr 10 .bool) ([false,false,false,false,false,false,false,false,false,false])],some (.arr 10 .bool),true⟩),(213,⟨.struct [(0,9),(1,3),(2,85),(3,3),(4,211)],14,72,[.val .str [],.val (.int .i64) 0,.bJ,.val (.int .i64) 0,.val (.arr 10 .bool) ([false,false,false,false,false,false,false,false,false,false])],some Ie,false⟩),(215,⟨.struct [(0,57),(1,3)],2,16,[.val (.int .i64) 0,.val (.int .i64) 0],some yUj,true⟩),(219,⟨.slice 3,1,24,[.bJ],some (.slice (.int .i64)),false⟩),(233,⟨.arr 2 3,2,16,[.val (.arr 2 (.int .i64)) ([0,0])],some (.arr 2 (.int .i64)),true⟩),(234,⟨.arr 7 233,14,112,[.val (.arr 7 (.arr 2 (.int .i64))) ([[0,0],[0,0],[0,0],[0,0],[0,0],[0,0],[0,0]])],some (.arr 7 (.arr 2 (.int .i64))),true⟩),(250,⟨.func,1,8,[.val .opq Value.nilFunc],some .opq,false⟩),(267,⟨.ptr 269,1,8,[.lF],none,false⟩),(269,⟨.struct [(0,9),(1,3)],2,24,[.val .str [],.val (.int .i64) 0],some oF,true⟩),(284,⟨.slice 123,1,24,[.bJ],some (.slice (.arr 4 (.int .u64))),false⟩)]
theorem aR:bM Tryz.prog tab:=zDb (by kernel_rfl)
theorem mixed:Tryz.prog.follows .mixedOrders=true:=by kernel_rfl
abbrev mD:Sh:=⟨2,[⟨0,false,[.ptr 0 0]⟩,⟨1,false,[.v .str]⟩],cO⟩
abbrev kF:Sh:=⟨1,[⟨0,false,[.v .bool]⟩],cO⟩
abbrev Bw:List Ty:=[.str,.int .i64]
abbrev yB:List Ty:=[.str,.int .i64]
abbrev Kh:List Ty:=[.str,.int .u8]
abbrev zJ:List Ty:=[.str]
abbrev zK:List Ty:=[.str]
abbrev sO:List Ty:=[.arr 256 .bool,.bool]
abbrev tH:Sh:=⟨2,[⟨0,false,[.ptr 0 0]⟩,⟨1,false,[.v (.int .u8)]⟩],Um⟩
abbrev nH:Sh:=⟨1,[⟨0,false,[.v .bool]⟩],Um⟩
abbrev Ii:Sh:=⟨2,[⟨0,false,[.v .str]⟩,⟨1,false,[.ptr 0 0]⟩],Um⟩
abbrev yC:Sh:=⟨1,[⟨0,false,[.v .str]⟩],Um⟩
abbrev Gv:List Ty:=[.str,.str]
abbrev yY:List Ty:=[.str]
abbrev Sn:List Ty:=[.str,.int .i64]
abbrev Jb:List Ty:=[.int .i64]
abbrev iT:Sh:=⟨1,[⟨0,false,[.ptr 0 0]⟩],cO⟩
abbrev gJ:Sh:=⟨0,[],cO⟩
abbrev Ij:List Ty:=[.str,.int .u8]
abbrev yD:List Ty:=[.str]
abbrev Gq:Sh:=⟨2,[⟨0,false,[.v .str]⟩,⟨1,false,[.ptr 0 0]⟩],Um⟩
abbrev wN:Sh:=⟨1,[⟨0,false,[.v .str]⟩],Um⟩
abbrev Rc:List Ty:=[.str,.str]
abbrev Ed:List Ty:=[.str]
abbrev zAd:List Ty:=[.str,.int .i64,.str]
abbrev Qg:List Ty:=[.str,.int .i64]
abbrev qU:Sh:=⟨2,[⟨0,false,[.ptr 0 0]⟩,⟨1,false,[.v .str]⟩],cO⟩
abbrev mU:Sh:=⟨1,[⟨0,false,[.v .str]⟩],cO⟩
abbrev zFr:List Ty:=[.str,.int .i64]
abbrev Sq:List Ty:=[.int .i64,.int .i64,.int .i64]
abbrev fF:Sh:=⟨1,[⟨0,false,[.v (.int .i64)]⟩],[]⟩
abbrev fG:Sh:=⟨0,[],[]⟩
abbrev fH:Sh:=⟨1,[⟨0,false,[.v (.int .i64)]⟩],[]⟩
abbrev sP:Sh:=⟨2,[⟨0,false,[.ptr 0 0]⟩,⟨1,false,[.v (.int .i64)]⟩],cO⟩
abbrev nW:Sh:=⟨1,[⟨0,false,[.v (.int .i64)]⟩],cO⟩
abbrev nX:Sh:=⟨1,[⟨0,false,[.v (.int .i64)]⟩],cO⟩
abbrev wB:Sh:=⟨2,[⟨0,false,[.ptr 0 0]⟩,⟨1,false,[.v .str]⟩],cO⟩
abbrev qV:Sh:=⟨1,[⟨0,false,[.v .bool]⟩],cO⟩
abbrev sM:Sh:=⟨1,[⟨0,false,[.ptr 0 0]⟩],cO⟩
abbrev nY:Sh:=⟨1,[⟨0,false,[.v (.int .u8)]⟩],cO⟩
abbrev nZ:Sh:=⟨1,[⟨0,false,[.v (.int .i64)]⟩],cO⟩
abbrev rF:Sh:=⟨2,[⟨0,false,[.ptr 0 0]⟩,⟨1,false,[.v .str]⟩],zEk⟩
abbrev lN:Sh:=⟨2,[⟨0,false,[.v (.int .i64)]⟩,⟨1,false,[.v .err]⟩],zEk⟩
abbrev zFs:Sh:=⟨3,[⟨0,false,[.v .str]⟩,⟨1,false,[.ptr 0 0]⟩,⟨2,false,[.ptr 1 0]⟩],zQn⟩
abbrev Sr:Sh:=⟨1,[⟨0,false,[.v .bool]⟩],zQn⟩
abbrev Bg:Sh:=⟨2,[⟨0,false,[.v .str]⟩,⟨1,false,[.clo 141 [(0,0),(1,0)]]⟩],zQn⟩
abbrev tJ:Sh:=⟨1,[⟨0,false,[.v (.int .i64)]⟩],zQn⟩
abbrev wI:List Ty:=[.str,.str]
abbrev oM:List Ty:=[.bool]
abbrev jE:List Ty:=[.str,.str]
abbrev iD:List Ty:=[.bool]
abbrev zLz:List Ty:=[.str,.int .i64,.int .u8]
abbrev zAe:List Ty:=[.str,.int .i64,.int .i64]
abbrev zL:Sh:=⟨1,[⟨0,false,[.v (.int .i64)]⟩],[]⟩
abbrev vH:Sh:=⟨0,[],[]⟩
abbrev vI:Sh:=⟨1,[⟨0,false,[.v (.int .i64)]⟩],[]⟩
abbrev wC:Sh:=⟨2,[⟨0,false,[.ptr 0 0]⟩,⟨1,false,[.v (.int .u8)]⟩],cO⟩
abbrev qW:Sh:=⟨1,[⟨0,false,[.v .str]⟩],cO⟩
abbrev qX:Sh:=⟨1,[⟨0,false,[.v (.int .i64)]⟩],cO⟩
abbrev qA:Sh:=⟨2,[⟨0,false,[.ptr 0 0]⟩,⟨1,false,[.v .str]⟩],nM⟩
abbrev mE:Sh:=⟨1,[⟨0,false,[.v .bool]⟩],nM⟩
abbrev vJ:Sh:=⟨2,[⟨0,false,[.ptr 0 0]⟩,⟨1,false,[.v .str]⟩],nM⟩
abbrev rG:Sh:=⟨1,[⟨0,false,[.v .bool]⟩],nM⟩
abbrev sQ:Sh:=⟨2,[⟨0,false,[.ptr 0 0]⟩,⟨1,true,[.v (.int .i64),.v (.arr 4 (.int .u64)),.v (.int .i64),.v (.int .i64),.v (.int .i64),.v (.int .i64),.v (.int .i64)]⟩],nM⟩
abbrev pG:Sh:=⟨1,[⟨0,false,[.v (.int .i64)]⟩],nM⟩
abbrev Rf:Sh:=⟨1,[⟨0,false,[.ptr 0 0]⟩],nM⟩
abbrev Ee:Sh:=⟨1,[⟨0,false,[.v .bool]⟩],nM⟩
abbrev zNw:List Ty:=[.arr 4 (.int .u64)]
abbrev zEl:List Ty:=[.arr 4 (.int .u64)]
abbrev Gw:Sh:=⟨2,[⟨0,false,[.ptr 0 0]⟩,⟨1,true,[.v (.arr 4 (.int .u64))]⟩],nM⟩
abbrev yZ:Sh:=⟨1,[⟨0,false,[.v (.int .i64)]⟩],nM⟩
abbrev Dj:Sh:=⟨2,[⟨0,false,[.ptr 0 0]⟩,⟨1,false,[.v .str]⟩],Gu⟩
abbrev xI:Sh:=⟨1,[⟨0,false,[.v .bool]⟩],Gu⟩
abbrev Gg:Sh:=⟨2,[⟨0,false,[.ptr 0 0]⟩,⟨1,false,[.v .str]⟩],Gu⟩
abbrev zM:Sh:=⟨1,[⟨0,false,[.v .bool]⟩],Gu⟩
abbrev Gh:Sh:=⟨1,[⟨0,false,[.ptr 0 0]⟩],Gu⟩
abbrev Gi:Sh:=⟨0,[],Gu⟩
abbrev Gj:Sh:=⟨1,[⟨0,true,[.v (.int .i64),.v (.int .i64)]⟩],Gu⟩
abbrev Un:List Ty:=[.int .u8,.int .u8]
abbrev Mg:List Ty:=[.arr 4 (.int .u64)]
abbrev zTp:List Ty:=[.slice (.arr 4 (.int .u64))]
abbrev zKr:List Ty:=[.arr 4 (.int .u64)]
abbrev zKs:List Ty:=[.str]
abbrev zBy:List Ty:=[.arr 4 (.int .u64)]
abbrev zQo:List Ty:=[.str]
abbrev zEm:List Ty:=[.arr 4 (.int .u64),.bool]
abbrev Tg:Sh:=⟨3,[⟨0,false,[.ptr 0 0]⟩,⟨1,false,[.v .bool]⟩,⟨2,false,[.v .bool]⟩],Gu⟩
abbrev Gx:Sh:=⟨2,[⟨0,false,[.v (.int .u8)]⟩,⟨1,false,[.v .bool]⟩],Gu⟩
abbrev Gy:Sh:=⟨1,[⟨0,true,[.v (.int .i64),.v (.int .i64)]⟩],Gu⟩
abbrev zBz:Sh:=⟨2,[⟨0,false,[.ptr 0 0]⟩,⟨1,false,[.v .bool]⟩],Gu⟩
abbrev Ol:Sh:=⟨1,[⟨0,true,[.v (.arr 4 (.int .u64))]⟩],Gu⟩
abbrev Om:Sh:=⟨1,[⟨0,true,[.v (.int .i64),.v (.int .i64)]⟩],Gu⟩
abbrev zCa:Sh:=⟨2,[⟨0,false,[.ptr 0 0]⟩,⟨1,false,[.ptr 1 0]⟩],zKq⟩
abbrev Oo:Sh:=⟨0,[],zKq⟩
abbrev Oq:Sh:=⟨1,[⟨0,true,[.v (.int .i64),.v (.int .i64)]⟩],zKq⟩
abbrev uM:Sh:=⟨1,[⟨0,false,[.clo 206 [(0,0),(1,0)]]⟩],zKq⟩
abbrev uN:Sh:=⟨1,[⟨0,true,[.v (.int .i64),.v (.int .i64)]⟩],zKq⟩
abbrev zIi:List Ty:=[.str]
abbrev Wy:List Ty:=[.arr 4 (.int .u64),.int .i64,.int .i64]
abbrev rH:Sh:=⟨3,[⟨0,false,[.ptr 0 0]⟩,⟨1,false,[.v (.int .i64)]⟩,⟨2,false,[.v (.int .i64)]⟩],nM⟩
abbrev rJ:Sh:=⟨0,[],nM⟩
abbrev rM:Sh:=⟨1,[⟨0,true,[.v (.int .i64),.v (.int .i64)]⟩],nM⟩
abbrev Rh:Sh:=⟨1,[⟨0,false,[.ptr 0 0]⟩],nM⟩
abbrev Ef:Sh:=⟨1,[⟨0,false,[.v (.int .i64)]⟩],nM⟩
abbrev Ti:Sh:=⟨2,[⟨0,false,[.ptr 0 0]⟩,⟨1,false,[.v (.int .i64)]⟩],nM⟩
abbrev Gz:Sh:=⟨1,[⟨0,false,[.v (.int .i64)]⟩],nM⟩
abbrev He:Sh:=⟨1,[⟨0,true,[.v (.int .i64),.v (.int .i64)]⟩],nM⟩
abbrev Tj:Sh:=⟨2,[⟨0,false,[.ptr 0 0]⟩,⟨1,false,[.v (.int .i64)]⟩],nM⟩
abbrev Hf:Sh:=⟨1,[⟨0,false,[.v (.int .i64)]⟩],nM⟩
abbrev Hg:Sh:=⟨1,[⟨0,true,[.v (.int .i64),.v (.int .i64)]⟩],nM⟩
abbrev Nj:Sh:=⟨2,[⟨0,false,[.ptr 0 0]⟩,⟨1,false,[.v .bool]⟩],nM⟩
abbrev Cg:Sh:=⟨1,[⟨0,false,[.v (.int .i64)]⟩],nM⟩
abbrev Ch:Sh:=⟨1,[⟨0,true,[.v (.int .i64),.v (.int .i64)]⟩],nM⟩
abbrev Wz:Sh:=⟨2,[⟨0,false,[.ptr 0 0]⟩,⟨1,false,[.v .bool]⟩],nM⟩
abbrev Jm:Sh:=⟨1,[⟨0,false,[.v (.int .i64)]⟩],nM⟩
abbrev Jo:Sh:=⟨1,[⟨0,true,[.v (.int .i64),.v (.int .i64)]⟩],nM⟩
abbrev mM:Sh:=⟨1,[⟨0,false,[.ptr 0 0]⟩],nM⟩
abbrev kJ:Sh:=⟨1,[⟨0,false,[.v (.int .i64)]⟩],nM⟩
abbrev kK:Sh:=⟨1,[⟨0,true,[.v (.int .i64),.v (.int .i64)]⟩],nM⟩
abbrev zIj:Sh:=⟨2,[⟨0,false,[.ptr 0 0]⟩,⟨1,false,[.ptr 1 0]⟩],yCa⟩
abbrev Xa:Sh:=⟨0,[],yCa⟩
abbrev Xb:Sh:=⟨1,[⟨0,true,[.v (.int .i64),.v (.int .i64)]⟩],yCa⟩
abbrev wO:Sh:=⟨1,[⟨0,false,[.clo 137 [(0,0),(1,0)]]⟩],yCa⟩
abbrev wP:Sh:=⟨1,[⟨0,true,[.v (.int .i64),.v (.int .i64)]⟩],yCa⟩
abbrev zQp:List Ty:=[.str]
abbrev zEn:List Ty:=[.slice bA,.int .i64,.int .i64]
abbrev yE:Sh:=⟨2,[⟨0,false,[.ptr 0 0]⟩,⟨1,false,[.v (.int .u8)]⟩],cO⟩
abbrev rV:Sh:=⟨1,[⟨0,false,[.v (.int .i64)]⟩],cO⟩
abbrev rW:Sh:=⟨1,[⟨0,false,[.v (.int .i64)]⟩],cO⟩
abbrev Ci:Sh:=⟨1,[⟨0,false,[.ptr 0 0]⟩],cO⟩
abbrev wD:Sh:=⟨0,[],cO⟩
abbrev Ik:Sh:=⟨2,[⟨0,false,[.ptr 0 0]⟩,⟨1,false,[.v .bool]⟩],cO⟩
abbrev yF:Sh:=⟨2,[⟨0,true,[.v (.int .i64),.v (.int .i64),.v (.int .i64)]⟩,⟨1,false,[.v .bool]⟩],cO⟩
abbrev yG:Sh:=⟨1,[⟨0,false,[.v (.int .i64)]⟩],cO⟩
abbrev zCb:List Ty:=[Wj]
abbrev Ot:List Ty:=[.bool]
abbrev zVn:List Ty:=[zG]
abbrev zIk:List Ty:=[.bool]
abbrev Eh:Sh:=⟨1,[⟨0,false,[.ptr 0 0]⟩],cO⟩
abbrev vK:Sh:=⟨1,[⟨0,false,[.v (.int .i64)]⟩],cO⟩
abbrev vL:Sh:=⟨1,[⟨0,false,[.v (.int .i64)]⟩],cO⟩
abbrev kZ:Sh:=⟨1,[⟨0,false,[.ptr 0 0]⟩],cO⟩
abbrev jF:Sh:=⟨0,[],cO⟩
abbrev Af:Sh:=⟨1,[⟨0,false,[.ptr 0 0]⟩],cO⟩
abbrev uO:Sh:=⟨0,[],cO⟩
abbrev Mh:Sh:=⟨1,[⟨0,false,[.ptr 0 0]⟩],cO⟩
abbrev Ag:Sh:=⟨0,[],cO⟩
abbrev Ah:Sh:=⟨1,[⟨0,false,[.v (.int .i64)]⟩],cO⟩
abbrev Nk:Sh:=⟨1,[⟨0,false,[.ptr 0 0]⟩],cO⟩
abbrev Cj:Sh:=⟨1,[⟨0,false,[.v .str]⟩],cO⟩
abbrev Ck:Sh:=⟨1,[⟨0,false,[.v (.int .i64)]⟩],cO⟩
abbrev uP:Sh:=⟨1,[⟨0,false,[.ptr 0 0]⟩],cO⟩
abbrev pI:Sh:=⟨0,[],cO⟩
abbrev pJ:Sh:=⟨1,[⟨0,false,[.v (.int .i64)]⟩],cO⟩
abbrev Mi:Sh:=⟨1,[⟨0,false,[.ptr 0 0]⟩],cO⟩
abbrev Ai:Sh:=⟨0,[],cO⟩
abbrev Aj:Sh:=⟨1,[⟨0,false,[.v (.int .i64)]⟩],cO⟩
abbrev zCc:Sh:=⟨2,[⟨0,false,[.ptr 0 0]⟩,⟨1,false,[.ptr 1 0]⟩],[.box 9 [.v .str],.box 75 [.own 2],.row 134 oF]⟩
abbrev Ou:Sh:=⟨0,[],[.box 9 [.v .str],.box 75 [.own 2],.row 134 oF]⟩
abbrev zIl:List Ty:=[.str]
abbrev Xc:List Ty:=[.slice oF,.int .i64,.int .i64]
abbrev zMa:List Ty:=[.slice oF]
abbrev zAf:List Ty:=[.int .i64]
abbrev zCd:List Ty:=[bA]
abbrev Ov:List Ty:=[.int .i64]
abbrev zCe:List Ty:=[bA]
abbrev Ow:List Ty:=[bA]
abbrev zIm:List Ty:=[bA]
abbrev Xd:List Ty:=[.bool]
abbrev Tm:List Ty:=[.slice (.int .i64),.int .i64]
abbrev Hl:List Ty:=[.int .i64]
abbrev Mj:List Ty:=[.slice (.int .i64),.int .i64]
abbrev Ak:List Ty:=[.bool]
abbrev yCc:List Ty:=[.slice bA,bA]
abbrev zNx:List Ty:=[.bool]
abbrev zMb:List Ty:=[.slice bA]
abbrev zAg:List Ty:=[.bool]
abbrev zN:Sh:=⟨7,[⟨0,false,[.v (.int .i64)]⟩,⟨1,false,[.ptr 0 0]⟩,⟨2,false,[.ptr 1 0]⟩,⟨3,false,[.ptr 2 0]⟩,⟨4,false,[.ptr 3 0]⟩,⟨5,false,[.ptr 4 0]⟩,⟨6,false,[.ptr 5 0]⟩],yVc⟩
abbrev vB:Sh:=⟨0,[],yVc⟩
abbrev zIn:List Ty:=[.slice bA]
abbrev Xe:List Ty:=[.int .i64,.bool,.bool]
abbrev yCd:List Ty:=[.slice bA]
abbrev zNy:List Ty:=[.int .i64,.bool,.bool]
abbrev zQq:List Ty:=[.slice bA]
abbrev zEo:List Ty:=[.int .i64]
abbrev Mk:Sh:=⟨1,[⟨0,false,[.ptr 0 0]⟩],cO⟩
abbrev Al:Sh:=⟨1,[⟨0,false,[.v .bool]⟩],cO⟩
abbrev Am:Sh:=⟨1,[⟨0,false,[.v (.int .i64)]⟩],cO⟩
abbrev Ml:Sh:=⟨1,[⟨0,false,[.ptr 0 0]⟩],cO⟩
abbrev Ao:Sh:=⟨0,[],cO⟩
abbrev Ap:Sh:=⟨1,[⟨0,false,[.v (.int .i64)]⟩],cO⟩
abbrev zIo:List Ty:=[.str]
abbrev Xf:List Ty:=[.str,.int .i64,.int .i64]
abbrev zMc:List Ty:=[]
abbrev zAh:List Ty:=[.arr 256 (.int .u8)]
abbrev zMd:List Ty:=[.str,.str]
abbrev zAi:List Ty:=[.arr 256 (.int .u8),.int .i64]
abbrev pK:Sh:=⟨1,[⟨0,false,[.ptr 0 0]⟩],cO⟩
abbrev lQ:Sh:=⟨0,[],cO⟩
abbrev lS:Sh:=⟨1,[⟨0,false,[.v (.int .i64)]⟩],cO⟩
abbrev Ei:Sh:=⟨1,[⟨0,false,[.ptr 0 0]⟩],cO⟩
abbrev vM:Sh:=⟨0,[],cO⟩
abbrev vN:Sh:=⟨1,[⟨0,false,[.v (.int .i64)]⟩],cO⟩
abbrev zFt:Sh:=⟨2,[⟨0,false,[.v .str]⟩,⟨1,false,[.ptr 0 0]⟩],zEk⟩
abbrev Sv:Sh:=⟨1,[⟨0,false,[.v .bool]⟩],zEk⟩
abbrev Bh:Sh:=⟨2,[⟨0,false,[.v .str]⟩,⟨1,false,[.clo 124 [(0,0)]]⟩],zEk⟩
abbrev tK:Sh:=⟨1,[⟨0,false,[.v (.int .i64)]⟩],zEk⟩
abbrev zMe:List Ty:=[.str,.int .i64]
abbrev zAj:List Ty:=[.str,.int .i64,.int .i64]
abbrev Nl:Sh:=⟨1,[⟨0,false,[.ptr 0 0]⟩],cO⟩
abbrev Cm:Sh:=⟨0,[],cO⟩
abbrev Cn:Sh:=⟨1,[⟨0,false,[.v (.int .i64)]⟩],cO⟩
abbrev Ej:Sh:=⟨1,[⟨0,false,[.ptr 0 0]⟩],zNv⟩
abbrev vO:Sh:=⟨0,[],zNv⟩
abbrev Il:Sh:=⟨2,[⟨0,false,[.ptr 0 0]⟩,⟨1,false,[.v .str]⟩],zNv⟩
abbrev yH:Sh:=⟨1,[⟨0,false,[.v .str]⟩],zNv⟩
abbrev zAk:Sh:=⟨1,[⟨0,false,[.ptr 0 0]⟩],zNv⟩
abbrev yI:Sh:=⟨1,[⟨0,false,[.v .str]⟩],zNv⟩
abbrev yJ:Sh:=⟨1,[⟨0,false,[.v (.int .i64)]⟩],zNv⟩
abbrev vP:Sh:=⟨1,[⟨0,false,[.ptr 0 0]⟩],ySu⟩
abbrev El:Sh:=⟨1,[⟨0,false,[.v .str]⟩],ySu⟩
abbrev Em:Sh:=⟨1,[⟨0,false,[.v (.int .i64)]⟩],ySu⟩
abbrev Ki:Sh:=⟨1,[⟨0,false,[.ptr 0 0]⟩],cO⟩
abbrev zO:Sh:=⟨0,[],cO⟩
abbrev zP:Sh:=⟨1,[⟨0,false,[.v (.int .i64)]⟩],cO⟩
abbrev Im:Sh:=⟨1,[⟨0,false,[.ptr 0 0]⟩],cO⟩
abbrev yK:Sh:=⟨0,[],cO⟩
abbrev yL:Sh:=⟨1,[⟨0,false,[.v (.int .i64)]⟩],cO⟩
abbrev Nn:Sh:=⟨1,[⟨0,false,[.ptr 0 0]⟩],cO⟩
abbrev Cq:Sh:=⟨0,[],cO⟩
abbrev Cr:Sh:=⟨1,[⟨0,false,[.v (.int .i64)]⟩],cO⟩
abbrev Io:Sh:=⟨2,[⟨0,false,[.ptr 0 0]⟩,⟨1,false,[.mp 1]⟩],yBz⟩
abbrev yM:Sh:=⟨0,[],yBz⟩
abbrev yN:Sh:=⟨1,[⟨0,false,[.v (.int .i64)]⟩],yBz⟩
abbrev Mq:Sh:=⟨1,[⟨0,false,[.ptr 0 0]⟩],cO⟩
abbrev Aq:Sh:=⟨0,[],cO⟩
abbrev Ar:Sh:=⟨1,[⟨0,false,[.v (.int .i64)]⟩],cO⟩
abbrev mF:Sh:=⟨1,[⟨0,false,[.clo 1000030 [(0,0)]]⟩],cO⟩
abbrev mG:Sh:=⟨1,[⟨0,false,[.v (.int .i64)]⟩],cO⟩
abbrev Sw:List Ty:=[.str,.bool]
abbrev Jc:List Ty:=[oO,.int .i64,.int .i64]
def zIp (n:Nat):An (kF.X) := .nil
theorem jZ(n:Nat):dV Tryz.prog 49 mD kF (dD n):=
 dL (Γ:=bB _ [(81,bS kX kY (strings_IndexByte n))] []) (an:=zIp n) (co:=[.gc [0,1,2,3,4,5]]) Tryz.func49 rfl (by kernel_rfl) aR (aH (all_cons (aQ (jY n)) (all_nil)) (aI)) mixed (aF _ _ rfl) (by kernel_rfl) (by kernel_rfl) (λx=>by kernel_rfl)
def yCe (n:Nat):An (dB yB) := .nil
theorem xJ(n:Nat):Pure Tryz.prog 110 Bw yB (lM n):=
 bT (Γ:=bB _ [] []) (an:=yCe n) Tryz.func110 rfl (by kernel_rfl) aR (aH (all_nil) (aI)) mixed (aF _ _ rfl) (λx=>by kernel_rfl)
def zAl (n:Nat):An (dB zJ):=(.mk .nil (.mk (.mk (.loop ⟨17,[⟨0,false,[.v .str]⟩,⟨1,false,[.v (.int .u8)]⟩],[]⟩ [.keep [true,true],.gcA 0,.gcA 0] [.keep [true,true],.gcA 0,.gcA 0] n .nil) .nil []) .nil []) [])
theorem Uo(n:Nat):Pure Tryz.prog 146 Kh zJ (strings_trimLeftByte n):=
 bT (Γ:=bB _ [] []) (an:=zAl n) Tryz.func146 rfl (by kernel_rfl) aR (aH (all_nil) (aI)) mixed (aF _ _ rfl) (λx=>by kernel_rfl)
def zAm (n:Nat):An (dB sO):=(.mk .nil (.mk (.mk .nil (.mk (.loop ⟨21,[⟨0,false,[.v .str]⟩,⟨2,false,[.ptr 0 0]⟩,⟨4,false,[.v (.int .i64)]⟩],Um⟩ [.keep [true,false,true,false,true],.gcA 0,.gcA 0] [.keep [true,false,true,false,true],.gcA 0,.gcA 0] n .nil) .nil []) []) .nil []) [])
theorem Dk(n:Nat):Pure Tryz.prog 131 zK sO (strings_makeASCIISet n):=
 bT (Γ:=bB _ [] []) (an:=zAm n) Tryz.func131 rfl (by kernel_rfl) aR (aH (all_nil) (aI)) mixed (aF _ _ rfl) (λx=>by kernel_rfl)
def Ri (n:Nat):An (nH.X) := .nil
theorem wJ(n:Nat):dV Tryz.prog 149 tH nH (gB n):=
 dL (Γ:=bB _ [] []) (an:=Ri n) (co:=[.gc [0]]) Tryz.func149 rfl (by kernel_rfl) aR (aH (all_nil) (aI)) mixed (aF _ _ rfl) (by kernel_rfl) (by kernel_rfl) (λx=>by kernel_rfl)
def Yd (n:Nat):An (yC.X):=(.mk .nil (.mk (.mk (.loop ⟨16,[⟨0,false,[.v .str]⟩,⟨1,false,[.ptr 0 0]⟩],Um⟩ [.keep [true,true],.gcA 1,.gcA 1] [.keep [true,true],.gcA 1,.gcA 1] n .nil) .nil []) .nil []) [])
theorem Rj(n:Nat):dV Tryz.prog 147 Ii yC (strings_trimLeftASCII n):=
 dL (Γ:=bB _ [(149,peM tH nH (gB n))] []) (an:=Yd n) (co:=[.gc [0]]) Tryz.func147 rfl (by kernel_rfl) aR (aH (all_cons (aZ (wJ n)) (all_nil)) (aI)) mixed (aF _ _ rfl) (by kernel_rfl) (by kernel_rfl) (λx=>by kernel_rfl)
def zIq (n:Nat):An (dB yY) := .nil
theorem Kj(n:Nat):Pure Tryz.prog 129 Gv yY (jP n):=
 bT (Γ:=bB _ [(146,bS Kh zJ (strings_trimLeftByte n)),(131,bS zK sO (strings_makeASCIISet n)),(147,peM Ii yC (strings_trimLeftASCII n))] []) (an:=zIq n) Tryz.func129 rfl (by kernel_rfl) aR (aH (all_cons (aQ (Uo n)) (all_cons (aQ (Dk n)) (all_cons (aZ (Rj n)) (all_nil)))) (aI)) mixed (aF _ _ rfl) (λx=>by kernel_rfl)
def zTq (n:Nat):An (dB Jb) := .nil
theorem Tn(n:Nat):Pure Tryz.prog 109 Sn Jb (nA n):=
 bT (Γ:=bB _ [(110,bS Bw yB (lM n)),(129,bS Gv yY (jP n))] []) (an:=zTq n) Tryz.func109 rfl (by kernel_rfl) aR (aH (all_cons (aQ (xJ n)) (all_cons (aQ (Kj n)) (all_nil))) (aI)) mixed (aF _ _ rfl) (λx=>by kernel_rfl)
def zAn (n:Nat):An (gJ.X) := .nil
theorem gY(n:Nat):dV Tryz.prog 82 iT gJ (bL n):=
 dL (Γ:=bB _ [(109,bS Sn Jb (nA n))] []) (an:=zAn n) (co:=[.gc [0,1,2,3,4,5]]) Tryz.func82 rfl (by kernel_rfl) aR (aH (all_cons (aQ (Tn n)) (all_nil)) (aI)) mixed (aF _ _ rfl) (by kernel_rfl) (by kernel_rfl) (λx=>by kernel_rfl)
def Ye (n:Nat):An (dB yD):=(.mk .nil (.mk (.mk (.loop ⟨23,[⟨0,false,[.v .str]⟩,⟨1,false,[.v (.int .u8)]⟩],[]⟩ [.keep [true,true],.gcA 0,.gcA 0] [.keep [true,true],.gcA 0,.gcA 0] n .nil) .nil []) .nil []) [])
theorem Sy(n:Nat):Pure Tryz.prog 130 Ij yD (strings_trimRightByte n):=
 bT (Γ:=bB _ [] []) (an:=Ye n) Tryz.func130 rfl (by kernel_rfl) aR (aH (all_nil) (aI)) mixed (aF _ _ rfl) (λx=>by kernel_rfl)
def Xg (n:Nat):An (wN.X):=(.mk .nil (.mk (.mk (.loop ⟨22,[⟨0,false,[.v .str]⟩,⟨1,false,[.ptr 0 0]⟩],Um⟩ [.keep [true,true],.gcA 1,.gcA 1] [.keep [true,true],.gcA 1,.gcA 1] n .nil) .nil []) .nil []) [])
theorem Ox(n:Nat):dV Tryz.prog 132 Gq wN (strings_trimRightASCII n):=
 dL (Γ:=bB _ [(149,peM tH nH (gB n))] []) (an:=Xg n) (co:=[.gc [0]]) Tryz.func132 rfl (by kernel_rfl) aR (aH (all_cons (aZ (wJ n)) (all_nil)) (aI)) mixed (aF _ _ rfl) (by kernel_rfl) (by kernel_rfl) (λx=>by kernel_rfl)
def zGb (n:Nat):An (dB Ed) := .nil
theorem zAo(n:Nat):Pure Tryz.prog 111 Rc Ed (kC n):=
 bT (Γ:=bB _ [(130,bS Ij yD (strings_trimRightByte n)),(131,bS zK sO (strings_makeASCIISet n)),(132,peM Gq wN (strings_trimRightASCII n))] []) (an:=zGb n) Tryz.func111 rfl (by kernel_rfl) aR (aH (all_cons (aQ (Sy n)) (all_cons (aQ (Dk n)) (all_cons (aZ (Ox n)) (all_nil)))) (aI)) mixed (aF _ _ rfl) (λx=>by kernel_rfl)
def yCf (n:Nat):An (dB Qg):=(.mk .nil (.mk .nil (.mk .nil (.mk (.mk (.loop ⟨43,[⟨1,false,[.v (.int .i64)]⟩,⟨2,false,[.v .str]⟩,⟨8,false,[.v .str]⟩,⟨9,false,[.v (.int .i64)]⟩],[]⟩ [.keep (kbm 10 774),.gcA 0,.gcA 0] [.keep (kbm 10 774),.gcA 0,.gcA 0] n .nil) .nil []) .nil []) []) []) [])
theorem Zk(n:Nat):Pure Tryz.prog 83 zAd Qg (rR n):=
 bT (Γ:=bB _ [(110,bS Bw yB (lM n)),(81,bS kX kY (strings_IndexByte n)),(111,bS Rc Ed (kC n))] []) (an:=yCf n) Tryz.func83 rfl (by kernel_rfl) aR (aH (all_cons (aQ (xJ n)) (all_cons (aQ (jY n)) (all_cons (aQ (zAo n)) (all_nil)))) (aI)) mixed (aF _ _ rfl) (λx=>by kernel_rfl)
def zEp (n:Nat):An (mU.X) := .nil
theorem pO(n:Nat):dV Tryz.prog 50 qU mU (eB n):=
 dL (Γ:=bB _ [(82,peM iT gJ (bL n)),(83,bS zAd Qg (rR n))] []) (an:=zEp n) (co:=[.gc [0,1,2,3,4,5]]) Tryz.func50 rfl (by kernel_rfl) aR (aH (all_cons (aZ (gY n)) (all_cons (aQ (Zk n)) (all_nil))) (aI)) mixed (aF _ _ rfl) (by kernel_rfl) (by kernel_rfl) (λx=>by kernel_rfl)
def zTr (n:Nat):An (dB Sq) := .nil
theorem zLb(n:Nat):Pure Tryz.prog 127 zFr Sq (Dz n):=
 bT (Γ:=bB _ [(110,bS Bw yB (lM n)),(129,bS Gv yY (jP n)),(145,bS Qy Qz (tX n))] []) (an:=zTr n) Tryz.func127 rfl (by kernel_rfl) aR (aH (all_cons (aQ (xJ n)) (all_cons (aQ (Kj n)) (all_cons (aQ (zAc n)) (all_nil)))) (aI)) mixed (aF _ _ rfl) (λx=>by kernel_rfl)
theorem cZ(n:Nat):cK Tryz.prog 52 fF fG 57 fH (aW n):=yEv (λx=>⟨_,_,rfl,rfl,rfl⟩)
def zAp (n:Nat):An (Sum nW.X nX.X) := .nil
theorem tL(n:Nat):cK Tryz.prog 107 sP nW 57 nX (dY n):=
 dN (Γ:=bB _ [(127,bS zFr Sq (Dz n))] [geP 52 fF fG 57 fH (aW n)]) (an:=zAp n) (co:=[.gc [0,1,2,3,4,5]]) (cp:=[.gc [0,1,2,3,4,5]]) Tryz.func107 rfl (by kernel_rfl) aR (aH (all_cons (aQ (zLb n)) (all_nil)) (aS (bG (cZ n)) (aI))) mixed (aF _ _ rfl) (by kernel_rfl) (by kernel_rfl) (by kernel_rfl) (λx=>by kernel_rfl)
def zEq (n:Nat):An (qV.X) := .nil
theorem vQ(n:Nat):dV Tryz.prog 85 wB qV (dH n):=
 dL (Γ:=bB _ [(49,peM mD kF (dD n))] []) (an:=zEq n) (co:=[.gc [0,1,2,3,4,5]]) Tryz.func85 rfl (by kernel_rfl) aR (aH (all_cons (aZ (jZ n)) (all_nil)) (aI)) mixed (aF _ _ rfl) (by kernel_rfl) (by kernel_rfl) (λx=>by kernel_rfl)
def zGc (n:Nat):An (Sum nY.X nZ.X) := .nil
theorem qJ(n:Nat):cK Tryz.prog 86 sM nY 57 nZ (fO n):=
 dN (Γ:=bB _ [] [geP 52 fF fG 57 fH (aW n)]) (an:=zGc n) (co:=[.gc [0,1,2,3,4,5]]) (cp:=[.gc [0,1,2,3,4,5]]) Tryz.func86 rfl (by kernel_rfl) aR (aH (all_nil) (aS (bG (cZ n)) (aI))) mixed (aF _ _ rfl) (by kernel_rfl) (by kernel_rfl) (by kernel_rfl) (λx=>by kernel_rfl)
def Nc (n:Nat):An (lN.X) := .nil
theorem uT(n:Nat):dV Tryz.prog 125 rF lN (eP n):=
 dL (Γ:=bB _ [(144,peM Og Oh (Iz n))] []) (an:=Nc n) (co:=[.gc [0,1]]) Tryz.func125 rfl (by kernel_rfl) aR (aH (all_cons (aZ (zGa n)) (all_nil)) (aI)) mixed (aF _ _ rfl) (by kernel_rfl) (by kernel_rfl) (λx=>by kernel_rfl)
def zTs (n:Nat):An (Sr.X) := .nil
theorem zIr(n:Nat):dV Tryz.prog 141 zFs Sr (sH n):=
 dL (Γ:=bB _ [(125,peM rF lN (eP n))] []) (an:=zTs n) (co:=[.gc [0,1,2]]) Tryz.func141 rfl (by kernel_rfl) aR (aH (all_cons (aZ (uT n)) (all_nil)) (aI)) mixed (aF _ _ rfl) (by kernel_rfl) (by kernel_rfl) (λx=>by kernel_rfl)
def Rk (n:Nat):An (tJ.X):=(.mk .nil (.mk (.mk .nil (.mk .nil (.mk (.mk (.loop ⟨35,[⟨0,false,[.v .str]⟩,⟨1,false,[.clo 141 [(0,0),(1,0)]]⟩,⟨5,false,[.v (.int .i64)]⟩],zQn⟩ [.keep (kbm 6 35),.gcA 3,.gcA 3] [.keep (kbm 6 35),.gcA 3,.gcA 3] n .nil) .nil []) .nil []) []) []) .nil []) [])
theorem Ko(n:Nat):dV Tryz.prog 123 Bg tJ (kG n):=
 dL (Γ:=bB _ [(141,peM zFs Sr (sH n))] []) (an:=Rk n) (co:=[.gc [0,1,2]]) Tryz.func123 rfl (by kernel_rfl) aR (aH (all_cons (aZ (zIr n)) (all_nil)) (aI)) mixed (aF _ _ rfl) (by kernel_rfl) (by kernel_rfl) (λx=>by kernel_rfl)
def Jp (n:Nat):An (dB oM) := .nil
theorem Gl(n:Nat):Pure Tryz.prog 46 wI oM (iB n):=
 bT (Γ:=bB _ [] []) (an:=Jp n) Tryz.func46 rfl (by kernel_rfl) aR (aH (all_nil) (aI)) mixed (aF _ _ rfl) (λx=>by kernel_rfl)
def zGd (n:Nat):An (dB iD) := .nil
theorem iG(n:Nat):Pure Tryz.prog 28 jE iD (strings_HasPrefix n):=
 bT (Γ:=bB _ [(46,bS wI oM (iB n))] []) (an:=zGd n) Tryz.func28 rfl (by kernel_rfl) aR (aH (all_cons (aQ (Gl n)) (all_nil)) (aI)) mixed (aF _ _ rfl) (λx=>by kernel_rfl)
def yCg (n:Nat):An (dB zAe):=(.mk .nil (.mk .nil (.mk .nil (.mk .nil (.mk .nil (.mk (.co [.ownB 2 1 149,.orn 2 0 2 0] .nil) .nil []) []) []) []) []) [])
theorem zQr(n:Nat):Pure Tryz.prog 119 zLz zAe (Ll n):=
 bT (Γ:=bB _ [(110,bS Bw yB (lM n)),(123,peM Bg tJ (kG n)),(28,bS jE iD (strings_HasPrefix n)),(126,peM Di xH (Builder_String n))] []) (an:=yCg n) Tryz.func119 rfl (by kernel_rfl) aR (aH (all_cons (aQ (xJ n)) (all_cons (aZ (Ko n)) (all_cons (aQ (iG n)) (all_cons (aZ (Mf n)) (all_nil))))) (aI)) mixed (aF _ _ rfl) (λx=>by kernel_rfl)
def zXh (n:Nat):An (Sum vH.X vI.X) := .nil
theorem uE(n:Nat):cK Tryz.prog 100 zL vH 57 vI (iF n):=
 dN (Γ:=bB _ [] [geP 52 fF fG 57 fH (aW n)]) (an:=zXh n) (co:=[.gc []]) (cp:=[.gc []]) Tryz.func100 rfl (by kernel_rfl) aR (aH (all_nil) (aS (bG (cZ n)) (aI))) mixed (aF _ _ rfl) (by kernel_rfl) (by kernel_rfl) (by kernel_rfl) (λx=>by kernel_rfl)
def zEr (n:Nat):An (Sum qW.X qX.X) := .nil
theorem vR(n:Nat):cK Tryz.prog 99 wC qW 57 qX (fA n):=
 dN (Γ:=bB _ [(119,bS zLz zAe (Ll n))] [geP 100 zL vH 57 vI (iF n)]) (an:=zEr n) (co:=[.gc [0,1,2,3,4,5]]) (cp:=[.gc [0,1,2,3,4,5]]) Tryz.func99 rfl (by kernel_rfl) aR (aH (all_cons (aQ (zQr n)) (all_nil)) (aS (bG (uE n)) (aI))) mixed (aF _ _ rfl) (by kernel_rfl) (by kernel_rfl) (by kernel_rfl) (λx=>by kernel_rfl)
def zIs (n:Nat):An (mE.X) := .nil
theorem nD(n:Nat):dV Tryz.prog 158 qA mE (bF n):=
 dL (Γ:=bB _ [(28,bS jE iD (strings_HasPrefix n))] []) (an:=zIs n) (co:=[.gc [0,1]]) Tryz.func158 rfl (by kernel_rfl) aR (aH (all_cons (aQ (iG n)) (all_nil)) (aI)) mixed (aF _ _ rfl) (by kernel_rfl) (by kernel_rfl) (λx=>by kernel_rfl)
def zLc (n:Nat):An (rG.X) := .nil
theorem sS(n:Nat):dV Tryz.prog 155 vJ rG (dQ n):=
 dL (Γ:=bB _ [(158,peM qA mE (bF n))] []) (an:=zLc n) (co:=[.gc [0,1]]) Tryz.func155 rfl (by kernel_rfl) aR (aH (all_cons (aZ (nD n)) (all_nil)) (aI)) mixed (aF _ _ rfl) (by kernel_rfl) (by kernel_rfl) (λx=>by kernel_rfl)
def zNz (n:Nat):An (pG.X) := .nil
theorem pQ(n:Nat):dV Tryz.prog 156 sQ pG (dG n):=
 dL (Γ:=bB _ [] []) (an:=zNz n) (co:=[.gc [0,1]]) Tryz.func156 rfl (by kernel_rfl) aR (aH (all_nil) (aI)) mixed (aF _ _ rfl) (by kernel_rfl) (by kernel_rfl) (λx=>by kernel_rfl)
def zGe (n:Nat):An (Ee.X) := .nil
theorem Yf(n:Nat):dV Tryz.prog 157 Rf Ee (tQ n):=
 dL (Γ:=bB _ [(158,peM qA mE (bF n))] []) (an:=zGe n) (co:=[.gc [0,1]]) Tryz.func157 rfl (by kernel_rfl) aR (aH (all_cons (aZ (nD n)) (all_nil)) (aI)) mixed (aF _ _ rfl) (by kernel_rfl) (by kernel_rfl) (λx=>by kernel_rfl)
def yOh (n:Nat):An (dB zEl):=(.mk .nil (.mk (.mk .nil (.mk (.loop ⟨15,[⟨1,false,[.ptr 0 0]⟩,⟨2,false,[.ptr 1 0]⟩,⟨4,false,[.v (.int .i64)]⟩],[.box 123 [.v (.arr 4 (.int .u64))],.box 123 [.v (.arr 4 (.int .u64))]]⟩ [.keep [false,true,true,false,true],.gcA 0,.gcA 0] [.keep [false,true,true,false,true],.gcA 0,.gcA 0] n .nil) .nil []) []) .nil []) [])
theorem zIt(n:Nat):Pure Tryz.prog 189 zNw zEl (Vg n):=
 bT (Γ:=bB _ [] []) (an:=yOh n) Tryz.func189 rfl (by kernel_rfl) aR (aH (all_nil) (aI)) mixed (aF _ _ rfl) (λx=>by kernel_rfl)
def zIu (n:Nat):An (yZ.X) := .nil
theorem Ip(n:Nat):dV Tryz.prog 188 Gw yZ (dZ n):=
 dL (Γ:=bB _ [(156,peM sQ pG (dG n))] []) (an:=zIu n) (co:=[.gc [0,1]]) Tryz.func188 rfl (by kernel_rfl) aR (aH (all_cons (aZ (pQ n)) (all_nil)) (aI)) mixed (aF _ _ rfl) (by kernel_rfl) (by kernel_rfl) (λx=>by kernel_rfl)
def zOa (n:Nat):An (xI.X) := .nil
theorem Au(n:Nat):dV Tryz.prog 219 Dj xI (gD n):=
 dL (Γ:=bB _ [(28,bS jE iD (strings_HasPrefix n))] []) (an:=zOa n) (co:=[.gc [0]]) Tryz.func219 rfl (by kernel_rfl) aR (aH (all_cons (aQ (iG n)) (all_nil)) (aI)) mixed (aF _ _ rfl) (by kernel_rfl) (by kernel_rfl) (λx=>by kernel_rfl)
def zQs (n:Nat):An (zM.X) := .nil
theorem Ct(n:Nat):dV Tryz.prog 207 Gg zM (fM n):=
 dL (Γ:=bB _ [(219,peM Dj xI (gD n))] []) (an:=zQs n) (co:=[.gc [0]]) Tryz.func207 rfl (by kernel_rfl) aR (aH (all_cons (aZ (Au n)) (all_nil)) (aI)) mixed (aF _ _ rfl) (by kernel_rfl) (by kernel_rfl) (λx=>by kernel_rfl)
theorem Cu(n:Nat):cK Tryz.prog 208 Gh Gi 215 Gj (bU n):=zQf (λx=>⟨_,_,rfl,rfl,rfl⟩)
def yFa (n:Nat):An (dB Mg):=(.mk .nil (.mk (.mk .nil (.mk (.loop ⟨24,[⟨1,false,[.v (.int .u8)]⟩,⟨4,false,[.ptr 0 0]⟩,⟨5,false,[.v (.int .i64)]⟩],[.box 123 [.v (.arr 4 (.int .u64))]]⟩ [.keep (kbm 6 50),.gcA 0,.gcA 0] [.keep (kbm 6 50),.gcA 0,.gcA 0] n .nil) .nil []) []) .nil []) [])
theorem Oy(n:Nat):Pure Tryz.prog 195 Un Mg (dW n):=
 bT (Γ:=bB _ [] []) (an:=yFa n) Tryz.func195 rfl (by kernel_rfl) aR (aH (all_nil) (aI)) mixed (aF _ _ rfl) (λx=>by kernel_rfl)
def ySv (n:Nat):An (dB zKr):=(.mk .nil (.mk (.mk .nil (.mk (.loop ⟨26,[⟨2,false,[.ptr 0 0]⟩,⟨6,false,[.v (.slice (.arr 4 (.int .u64)))]⟩,⟨7,false,[.v (.int .i64)]⟩,⟨8,false,[.v (.int .i64)]⟩],[.box 123 [.v (.arr 4 (.int .u64))]]⟩ [.keep (kbm 9 452),.gcA 0,.gcA 0] [.keep (kbm 9 452),.gcA 0,.gcA 0] n (.mk .nil (.mk .nil (.mk (.mk (.mk .nil (.mk .nil (.mk (.loop ⟨26,[⟨2,false,[.ptr 0 0]⟩,⟨4,false,[.ptr 1 0]⟩,⟨6,false,[.v (.slice (.arr 4 (.int .u64)))]⟩,⟨7,false,[.v (.int .i64)]⟩,⟨8,false,[.v (.int .i64)]⟩,⟨12,false,[.v (.int .i64)]⟩],[.box 123 [.v (.arr 4 (.int .u64))],.box 123 [.v (.arr 4 (.int .u64))]]⟩ [.keep (kbm 13 4564),.gcA 0,.gcA 0] [.keep (kbm 13 4564),.gcA 0,.gcA 0] n .nil) .nil []) []) []) .nil []) .nil []) []) [])) .nil []) []) .nil []) [])
theorem zMf(n:Nat):Pure Tryz.prog 209 zTp zKr (vD n):=
 bT (Γ:=bB _ [] []) (an:=ySv n) Tryz.func209 rfl (by kernel_rfl) aR (aH (all_nil) (aI)) mixed (aF _ _ rfl) (λx=>by kernel_rfl)
def ySw (n:Nat):An (dB zBy):=(.mk .nil (.mk (.mk .nil (.mk (.loop ⟨24,[⟨0,false,[.v .str]⟩,⟨2,false,[.ptr 0 0]⟩,⟨5,false,[.v (.int .i64)]⟩,⟨6,false,[.v (.int .i64)]⟩],[.box 123 [.v (.arr 4 (.int .u64))]]⟩ [.keep (kbm 7 101),.gcA 0,.gcA 0] [.keep (kbm 7 101),.gcA 0,.gcA 0] n .nil) .nil []) []) .nil []) [])
theorem zAq(n:Nat):Pure Tryz.prog 170 zKs zBy (xB n):=
 bT (Γ:=bB _ [] []) (an:=ySw n) Tryz.func170 rfl (by kernel_rfl) aR (aH (all_nil) (aI)) mixed (aF _ _ rfl) (λx=>by kernel_rfl)
def yFb (n:Nat):An (dB zEm) := .nil
theorem zTt(n:Nat):Pure Tryz.prog 220 zQo zEm (Qr n):=
 bT (Γ:=bB _ [(195,bS Un Mg (dW n)),(209,bS zTp zKr (vD n)),(170,bS zKs zBy (xB n))] []) (an:=yFb n) Tryz.func220 rfl (by kernel_rfl) aR (aH (all_cons (aQ (Oy n)) (all_cons (aQ (zMf n)) (all_cons (aQ (zAq n)) (all_nil)))) (aI)) mixed (aF _ _ rfl) (λx=>by kernel_rfl)
def zIv (n:Nat):An (Sum Gx.X Gy.X):=(.mk .nil (.mk (.mk .nil (.mk (.loop ⟨132,[⟨0,false,[.ptr 0 0]⟩,⟨1,false,[.v .bool]⟩,⟨2,false,[.v .bool]⟩,⟨12,false,[.own 1]⟩,⟨13,false,[.v (.int .i64)]⟩,⟨14,false,[.v (.int .i64)]⟩],[.box 269 [.v .str,.v (.int .i64)],.row 9 .str]⟩ [.keep (kbm 106 28679),.gcA 1,.gcA 1] [.keep (kbm 106 28679),.gcA 1,.gcA 1] n (.mk .nil (.mk .nil (.mk (.mk (.mk .nil (.mk .nil (.mk (.join ⟨132,[⟨0,false,[.ptr 0 0]⟩,⟨9,false,[.v .str]⟩],Gu⟩ [.keep (kbm 10 513),.gcA 1] .nil) .nil []) []) []) .nil []) .nil []) []) [])) .nil []) []) (.mk .nil (.mk (.join ⟨132,[⟨0,false,[.ptr 0 0]⟩,⟨1,false,[.v .bool]⟩,⟨11,false,[.v .bool]⟩],Gu⟩ [.keep (kbm 106 2051),.gcA 1] .nil) (.mk (.join ⟨132,[⟨0,false,[.ptr 0 0]⟩],Gu⟩ [.keep [true],.gcA 1] .nil) .nil []) []) []) []) [])
theorem zAr(n:Nat):cK Tryz.prog 221 Tg Gx 215 Gy (rC n):=
 dN (Γ:=bB _ [(207,peM Gg zM (fM n)),(28,bS jE iD (strings_HasPrefix n)),(219,peM Dj xI (gD n))] [geP 208 Gh Gi 215 Gj (bU n)]) (an:=zIv n) (co:=[.gc [0]]) (cp:=[.gc [0]]) Tryz.func221 rfl (by kernel_rfl) aR (aH (all_cons (aZ (Ct n)) (all_cons (aQ (iG n)) (all_cons (aZ (Au n)) (all_nil)))) (aS (bG (Cu n)) (aI))) mixed (aF _ _ rfl) (by kernel_rfl) (by kernel_rfl) (by kernel_rfl) (λx=>by kernel_rfl)
def zQt (n:Nat):An (Sum Ol.X Om.X) := .nil
theorem zGf(n:Nat):cK Tryz.prog 210 zBz Ol 215 Om (tC n):=
 dN (Γ:=bB _ [(207,peM Gg zM (fM n)),(212,bS zIe zIf (strings_Cut n)),(220,bS zQo zEm (Qr n)),(219,peM Dj xI (gD n)),(195,bS Un Mg (dW n))] [geP 208 Gh Gi 215 Gj (bU n),geP 221 Tg Gx 215 Gy (rC n)]) (an:=zQt n) (co:=[.gc [0]]) (cp:=[.gc [0]]) Tryz.func210 rfl (by kernel_rfl) aR (aH (all_cons (aZ (Ct n)) (all_cons (aQ (zNq n)) (all_cons (aQ (zTt n)) (all_cons (aZ (Au n)) (all_cons (aQ (Oy n)) (all_nil)))))) (aS (bG (Cu n)) (aS (bG (zAr n)) (aI)))) mixed (aF _ _ rfl) (by kernel_rfl) (by kernel_rfl) (by kernel_rfl) (λx=>by kernel_rfl)
def zQu (n:Nat):An (Sum Oo.X Oq.X):=(.mk .nil (.mk .nil (.mk (.mk .nil (.mk (.loop ⟨31,[⟨0,false,[.ptr 0 0]⟩,⟨1,false,[.ptr 1 0]⟩,⟨2,false,[.v .bool]⟩,⟨3,false,[.v .bool]⟩],zKq⟩ [.keep [true,true,true,true],.gcA 3,.gcA 3] [.keep [true,true,true,true],.gcA 3,.gcA 3] n .nil) .nil []) []) .nil []) []) [])
theorem zGg(n:Nat):cK Tryz.prog 206 zCa Oo 215 Oq (qB n):=
 dN (Γ:=bB _ [(207,peM Gg zM (fM n)),(209,bS zTp zKr (vD n)),(189,bS zNw zEl (Vg n))] [geP 208 Gh Gi 215 Gj (bU n),geP 210 zBz Ol 215 Om (tC n)]) (an:=zQu n) (co:=[.gc [0,1,2]]) (cp:=[.gc [0,1,2]]) Tryz.func206 rfl (by kernel_rfl) aR (aH (all_cons (aZ (Ct n)) (all_cons (aQ (zMf n)) (all_cons (aQ (zIt n)) (all_nil)))) (aS (bG (Cu n)) (aS (bG (zGf n)) (aI)))) mixed (aF _ _ rfl) (by kernel_rfl) (by kernel_rfl) (by kernel_rfl) (λx=>by kernel_rfl)
theorem Mr(n:Nat):dV Tryz.prog 136 uM uN (iN n):=
 zLv (si:=uM) (so:=uN) (sp:=Oq) (sd:=zCa) (od:=Oo) (F:=qB n) (G:=iN n) (conv:=λx=>x) (o1:=λy=>(0,0,y)) (o2:=λz=>z) (zGg n) rfl (λx=>⟨rfl,rfl⟩) (λx=>by unfold iN ob2;cases qB n x with|none=>rfl|some r=>cases r<;>rfl) (λy=>⟨rfl,rfl⟩) (λz=>⟨_,_,rfl,rfl⟩)
def zXi (n:Nat):An (dB Wy) := .nil
theorem zOb(n:Nat):Pure Tryz.prog 190 zIi Wy (xZ n):=
 bT (Γ:=bB _ [(136,peM uM uN (iN n))] []) (an:=zXi n) Tryz.func190 rfl (by kernel_rfl) aR (aH (all_cons (aZ (Mr n)) (all_nil)) (aI)) mixed (aF _ _ rfl) (λx=>by kernel_rfl)
theorem oC(n:Nat):cK Tryz.prog 139 rH rJ 215 rM (aL n):=zKy (λx=>⟨_,_,_,_,rfl,rfl,rfl⟩)
def zGh (n:Nat):An (Ef.X):=(.mk .nil (.mk .nil (.mk (.mk (.loop ⟨67,[⟨0,false,[.ptr 0 0]⟩,⟨3,false,[.v (.int .i64)]⟩],nM⟩ [.keep [true,false,false,true],.gcA 2,.gcA 2] [.keep [true,false,false,true],.gcA 2,.gcA 2] n .nil) .nil []) .nil []) []) [])
theorem Yg(n:Nat):dV Tryz.prog 187 Rh Ef (pX n):=
 dL (Γ:=bB _ [(205,bS zFo zFp (strconv_Atoi n))] []) (an:=zGh n) (co:=[.gc [0,1]]) Tryz.func187 rfl (by kernel_rfl) aR (aH (all_cons (aQ (zKz n)) (all_nil)) (aI)) mixed (aF _ _ rfl) (by kernel_rfl) (by kernel_rfl) (λx=>by kernel_rfl)
def zIw (n:Nat):An (Sum Gz.X He.X):=(.mk .nil (.scope 0 .nil .nil) [])
theorem zAs(n:Nat):cK Tryz.prog 159 Ti Gz 215 He (vE n):=
 dN (Γ:=bB _ [(155,peM vJ rG (dQ n)),(156,peM sQ pG (dG n)),(158,peM qA mE (bF n)),(187,peM Rh Ef (pX n))] [geP 139 rH rJ 215 rM (aL n)]) (an:=zIw n) (co:=[.gc [0,1]]) (cp:=[.gc [0,1]]) Tryz.func159 rfl (by kernel_rfl) aR (aH (all_cons (aZ (sS n)) (all_cons (aZ (pQ n)) (all_cons (aZ (nD n)) (all_cons (aZ (Yg n)) (all_nil))))) (aS (bG (oC n)) (aI))) mixed (aF _ _ rfl) (by kernel_rfl) (by kernel_rfl) (by kernel_rfl) (λx=>by kernel_rfl)
def zIx (n:Nat):An (Sum Hf.X Hg.X) := .nil
theorem zAt(n:Nat)(aT:(List UInt8 × Int × Int × List (Bool) × List (Int × List (Int) × Int × Int × Int × Int × Int × Unit) × Unit)->Option (Sum (Int × List UInt8 × Int × Int × List (Bool) × List (Int × List (Int) × Int × Int × Int × Int × Int × Unit) × Unit) (Int × Int × List UInt8 × Int × Int × List (Bool) × List (Int × List (Int) × Int × Int × Int × Int × Int × Unit) × Unit)))(nN:cK Tryz.prog 138 mM kJ 215 kK aT):cK Tryz.prog 211 Tj Hf 215 Hg (vF n aT):=
 dN (Γ:=bB _ [(155,peM vJ rG (dQ n)),(156,peM sQ pG (dG n))] [geP 139 rH rJ 215 rM (aL n),geP 138 mM kJ 215 kK (aT)]) (an:=zIx n) (co:=[.gc [0,1]]) (cp:=[.gc [0,1]]) Tryz.func211 rfl (by kernel_rfl) aR (aH (all_cons (aZ (sS n)) (all_cons (aZ (pQ n)) (all_nil))) (aS (bG (oC n)) (aS (bG (nN)) (aI)))) mixed (aF _ _ rfl) (by kernel_rfl) (by kernel_rfl) (by kernel_rfl) (λx=>by kernel_rfl)
def zEs (n:Nat):An (Sum Cg.X Ch.X) := .nil
theorem Xh(n:Nat)(aT:(List UInt8 × Int × Int × List (Bool) × List (Int × List (Int) × Int × Int × Int × Int × Int × Unit) × Unit)->Option (Sum (Int × List UInt8 × Int × Int × List (Bool) × List (Int × List (Int) × Int × Int × Int × Int × Int × Unit) × Unit) (Int × Int × List UInt8 × Int × Int × List (Bool) × List (Int × List (Int) × Int × Int × Int × Int × Int × Unit) × Unit)))(nN:cK Tryz.prog 138 mM kJ 215 kK aT):cK Tryz.prog 191 Nj Cg 215 Ch (xC n aT):=
 dN (Γ:=bB _ [(156,peM sQ pG (dG n)),(170,bS zKs zBy (xB n)),(188,peM Gw yZ (dZ n)),(81,bS kX kY (strings_IndexByte n)),(195,bS Un Mg (dW n))] [geP 139 rH rJ 215 rM (aL n),geP 211 Tj Hf 215 Hg (vF n aT)]) (an:=zEs n) (co:=[.gc [0,1]]) (cp:=[.gc [0,1]]) Tryz.func191 rfl (by kernel_rfl) aR (aH (all_cons (aZ (pQ n)) (all_cons (aQ (zAq n)) (all_cons (aZ (Ip n)) (all_cons (aQ (jY n)) (all_cons (aQ (Oy n)) (all_nil)))))) (aS (bG (oC n)) (aS (bG (zAt n aT nN)) (aI)))) mixed (aF _ _ rfl) (by kernel_rfl) (by kernel_rfl) (by kernel_rfl) (λx=>by kernel_rfl)
def zLd (n:Nat):An (Sum Jm.X Jo.X) := .nil
theorem zCf(n:Nat)(aT:(List UInt8 × Int × Int × List (Bool) × List (Int × List (Int) × Int × Int × Int × Int × Int × Unit) × Unit)->Option (Sum (Int × List UInt8 × Int × Int × List (Bool) × List (Int × List (Int) × Int × Int × Int × Int × Int × Unit) × Unit) (Int × Int × List UInt8 × Int × Int × List (Bool) × List (Int × List (Int) × Int × Int × Int × Int × Int × Unit) × Unit)))(nN:cK Tryz.prog 138 mM kJ 215 kK aT):cK Tryz.prog 160 Wz Jm 215 Jo (xD n aT):=
 dN (Γ:=bB _ [(155,peM vJ rG (dQ n)),(189,bS zNw zEl (Vg n)),(188,peM Gw yZ (dZ n)),(158,peM qA mE (bF n)),(190,bS zIi Wy (xZ n)),(170,bS zKs zBy (xB n))] [geP 139 rH rJ 215 rM (aL n),geP 191 Nj Cg 215 Ch (xC n aT)]) (an:=zLd n) (co:=[.gc [0,1]]) (cp:=[.gc [0,1]]) Tryz.func160 rfl (by kernel_rfl) aR (aH (all_cons (aZ (sS n)) (all_cons (aQ (zIt n)) (all_cons (aZ (Ip n)) (all_cons (aZ (nD n)) (all_cons (aQ (zOb n)) (all_cons (aQ (zAq n)) (all_nil))))))) (aS (bG (oC n)) (aS (bG (Xh n aT nN)) (aI)))) mixed (aF _ _ rfl) (by kernel_rfl) (by kernel_rfl) (by kernel_rfl) (λx=>by kernel_rfl)
def zOc (n:Nat):An (Sum kJ.X kK.X):=(.mk .nil (.mk .nil (.mk (.join ⟨83,[⟨0,false,[.ptr 0 0]⟩,⟨3,false,[.own 2]⟩],yCb⟩ [.keep (kbm 33 9),.zDn 3 219,.gcA 2] .nil) (.mk (.join ⟨83,[⟨0,false,[.ptr 0 0]⟩,⟨3,false,[.own 2]⟩],yCb⟩ [.keep [true,false,false,true],.gcA 2] (.mk .nil (.mk (.loop ⟨83,[⟨0,false,[.ptr 0 0]⟩,⟨3,false,[.own 2]⟩,⟨4,false,[.v .bool]⟩],yCb⟩ [.keep (kbm 33 25),.gcA 2,.zDn 3 219,.gcA 2] [.keep (kbm 33 25),.gcA 2,.gcA 2] n (.mk .nil (.mk (.mk (.mk (.mk (.join ⟨83,[⟨0,false,[.ptr 0 0]⟩,⟨3,false,[.own 2]⟩,⟨4,false,[.v .bool]⟩,⟨36,false,[.v .bool]⟩],yCb⟩ [.keep (kbm 37 68719476761),.gcA 2] .nil) .nil []) .nil []) .nil []) .nil []) [])) .nil []) [])) (.mk .nil (.mk .nil (.mk (.mk .nil (.mk (.loop ⟨83,[⟨0,false,[.ptr 0 0]⟩,⟨3,false,[.own 2]⟩,⟨5,false,[.v (.int .i64)]⟩,⟨6,false,[.v (.int .i64)]⟩],yCb⟩ [.keep (kbm 7 105),.gcA 2,.gcA 2] [.keep (kbm 7 105),.gcA 2,.gcA 2] n .nil) .nil []) []) .nil []) []) []) []) []) []) [])
theorem Uq(n:Nat)(aT:(List UInt8 × Int × Int × List (Bool) × List (Int × List (Int) × Int × Int × Int × Int × Int × Unit) × Unit)->Option (Sum (Int × List UInt8 × Int × Int × List (Bool) × List (Int × List (Int) × Int × Int × Int × Int × Int × Unit) × Unit) (Int × Int × List UInt8 × Int × Int × List (Bool) × List (Int × List (Int) × Int × Int × Int × Int × Int × Unit) × Unit)))(nN:cK Tryz.prog 138 mM kJ 215 kK aT):cK Tryz.prog 138 mM kJ 215 kK (vW n aT):=
 dN (Γ:=bB _ [(155,peM vJ rG (dQ n)),(156,peM sQ pG (dG n)),(157,peM Rf Ee (tQ n)),(158,peM qA mE (bF n))] [geP 160 Wz Jm 215 Jo (xD n aT),geP 159 Ti Gz 215 He (vE n)]) (an:=zOc n) (co:=[.gc [0,1]]) (cp:=[.gc [0,1]]) Tryz.func138 rfl (by kernel_rfl) aR (aH (all_cons (aZ (sS n)) (all_cons (aZ (pQ n)) (all_cons (aZ (Yf n)) (all_cons (aZ (nD n)) (all_nil))))) (aS (bG (zCf n aT nN)) (aS (bG (zAs n)) (aI)))) mixed (aF _ _ rfl) (by kernel_rfl) (by kernel_rfl) (by kernel_rfl) (λx=>by kernel_rfl)
theorem zEt(n:Nat):cK Tryz.prog 138 mM kJ 215 kK (lK n):=zPu (by kernel_rfl) (λn r h=>Uq n r h) n
def zXj (n:Nat):An (Sum Xa.X Xb.X) := .nil
theorem zLe(n:Nat):cK Tryz.prog 137 zIj Xa 215 Xb (Ig n):=
 dN (Γ:=bB _ [] [geP 138 mM kJ 215 kK (lK n),geP 139 rH rJ 215 rM (aL n)]) (an:=zXj n) (co:=[.gc [0,1,2,3]]) (cp:=[.gc [0,1,2,3]]) Tryz.func137 rfl (by kernel_rfl) aR (aH (all_nil) (aS (bG (zEt n)) (aS (bG (oC n)) (aI)))) mixed (aF _ _ rfl) (by kernel_rfl) (by kernel_rfl) (by kernel_rfl) (λx=>by kernel_rfl)
theorem Oz(n:Nat):dV Tryz.prog 136 wO wP (jX n):=
 zLv (si:=wO) (so:=wP) (sp:=Xb) (sd:=zIj) (od:=Xa) (F:=Ig n) (G:=jX n) (conv:=λx=>x) (o1:=λy=>(0,0,y)) (o2:=λz=>z) (zLe n) rfl (λx=>⟨rfl,rfl⟩) (λx=>by unfold jX ob2;cases Ig n x with|none=>rfl|some r=>cases r<;>rfl) (λy=>⟨rfl,rfl⟩) (λz=>⟨_,_,rfl,rfl⟩)
def yFc (n:Nat):An (dB zEn):=(.mk .nil (.mk .nil (.mk .nil (.mk (.co [.ownB 1 2 85] .nil) .nil []) []) []) [])
theorem zTu(n:Nat):Pure Tryz.prog 116 zQp zEn (Kg n):=
 bT (Γ:=bB _ [(136,peM wO wP (jX n))] []) (an:=yFc n) Tryz.func116 rfl (by kernel_rfl) aR (aH (all_cons (aZ (Oz n)) (all_nil)) (aI)) mixed (aF _ _ rfl) (λx=>by kernel_rfl)
def Yh (n:Nat):An (Sum rV.X rW.X) := .nil
theorem zU(n:Nat):cK Tryz.prog 97 yE rV 57 rW (fT n):=
 dN (Γ:=bB _ [(116,bS zQp zEn (Kg n))] [geP 99 wC qW 57 qX (fA n),geP 100 zL vH 57 vI (iF n),geP 52 fF fG 57 fH (aW n)]) (an:=Yh n) (co:=[.gc [0,1,2,3,4,5]]) (cp:=[.gc [0,1,2,3,4,5]]) Tryz.func97 rfl (by kernel_rfl) aR (aH (all_cons (aQ (zTu n)) (all_nil)) (aS (bG (vR n)) (aS (bG (uE n)) (aS (bG (cZ n)) (aI))))) mixed (aF _ _ rfl) (by kernel_rfl) (by kernel_rfl) (by kernel_rfl) (λx=>by kernel_rfl)
def zEu (n:Nat):An (wD.X) := .nil
theorem En(n:Nat):dV Tryz.prog 121 Ci wD (iC n):=
 dL (Γ:=bB _ [] []) (an:=zEu n) (co:=[.gc [0,1,2,3,4,5]]) Tryz.func121 rfl (by kernel_rfl) aR (aH (all_nil) (aI)) mixed (aF _ _ rfl) (by kernel_rfl) (by kernel_rfl) (λx=>by kernel_rfl)
def Yi (n:Nat):An (Sum yF.X yG.X):=(.mk .nil (.mk (.mk (.mk .nil (.mk .nil (.mk .nil (.mk .nil (.mk .nil (.mk .nil (.mk (.join ⟨60,[⟨0,false,[.ptr 0 0]⟩,⟨1,false,[.v .bool]⟩,⟨4,false,[.ptr 6 0]⟩,⟨41,false,[.v .bool]⟩],[.box 80 [.v .str,.v .bool,.v (.int .i64),.v (.int .i64),.v .bool,.own 1,.own 2,.v (.int .i64),.v (.int .i64),.v (.int .i64),.v (.int .i64),.v (.int .i64),.v (.int .i64),.v .bool,.v (.int .u8),.v .str,.v .str,.v (.int .i64),.v (.int .i64),.v (.int .i64),.v (.slice oF),.v .bool,.v .bool,.own 3,.own 4,.mp 5],.row 87 bQ,.row 77 aC,.row 118 gP,.row 118 gP,.dm .str (.int .i64),.box 72 [.v (.int .i64),.v (.int .i64),.v (.int .i64)]]⟩ [.keep (kbm 42 2199023255571),.gcA 6] .nil) .nil []) []) []) []) []) []) []) .nil []) .nil []) [])
theorem Rl(n:Nat):cK Tryz.prog 112 Ik yF 57 yG (kM n):=
 dN (Γ:=bB _ [(49,peM mD kF (dD n)),(85,peM wB qV (dH n)),(121,peM Ci wD (iC n))] [geP 107 sP nW 57 nX (dY n),geP 86 sM nY 57 nZ (fO n),geP 97 yE rV 57 rW (fT n)]) (an:=Yi n) (co:=[.gc [0,1,2,3,4,5]]) (cp:=[.gc [0,1,2,3,4,5]]) Tryz.func112 rfl (by kernel_rfl) aR (aH (all_cons (aZ (jZ n)) (all_cons (aZ (vQ n)) (all_cons (aZ (En n)) (all_nil)))) (aS (bG (tL n)) (aS (bG (qJ n)) (aS (bG (zU n)) (aI))))) mixed (aF _ _ rfl) (by kernel_rfl) (by kernel_rfl) (by kernel_rfl) (λx=>by kernel_rfl)
def zQv (n:Nat):An (dB Ot) := .nil
theorem zIy(n:Nat):Pure Tryz.prog 134 zCb Ot (wU n):=
 bT (Γ:=bB _ [] []) (an:=zQv n) Tryz.func134 rfl (by kernel_rfl) aR (aH (all_nil) (aI)) mixed (aF _ _ rfl) (λx=>by kernel_rfl)
def yLd (n:Nat):An (dB zIk) := .nil
theorem zXk(n:Nat):Pure Tryz.prog 113 zVn zIk (Od n):=
 bT (Γ:=bB _ [(134,bS zCb Ot (wU n))] []) (an:=yLd n) Tryz.func113 rfl (by kernel_rfl) aR (aH (all_cons (aQ (zIy n)) (all_nil)) (aI)) mixed (aF _ _ rfl) (λx=>by kernel_rfl)
def Ur (n:Nat):An (Sum vK.X vL.X) := .nil
theorem Nf(n:Nat):cK Tryz.prog 84 Eh vK 57 vL (lX n):=
 dN (Γ:=bB _ [(82,peM iT gJ (bL n)),(85,peM wB qV (dH n)),(113,bS zVn zIk (Od n))] [geP 112 Ik yF 57 yG (kM n),geP 52 fF fG 57 fH (aW n)]) (an:=Ur n) (co:=[.gc [0,1,2,3,4,5]]) (cp:=[.gc [0,1,2,3,4,5]]) Tryz.func84 rfl (by kernel_rfl) aR (aH (all_cons (aZ (gY n)) (all_cons (aZ (vQ n)) (all_cons (aQ (zXk n)) (all_nil)))) (aS (bG (Rl n)) (aS (bG (cZ n)) (aI)))) mixed (aF _ _ rfl) (by kernel_rfl) (by kernel_rfl) (by kernel_rfl) (λx=>by kernel_rfl)
def zGi (n:Nat):An (jF.X) := .nil
theorem jG(n:Nat):dV Tryz.prog 94 kZ jF (bZ n):=
 dL (Γ:=bB _ [] []) (an:=zGi n) (co:=[.gc [0,1,2,3,4,5]]) Tryz.func94 rfl (by kernel_rfl) aR (aH (all_nil) (aI)) mixed (aF _ _ rfl) (by kernel_rfl) (by kernel_rfl) (λx=>by kernel_rfl)
def zCg (n:Nat):An (uO.X) := .nil
theorem Dl(n:Nat):dV Tryz.prog 71 Af uO (mQ n):=
 dL (Γ:=bB _ [(94,peM kZ jF (bZ n))] []) (an:=zCg n) (co:=[.gc [0,1,2,3,4,5]]) Tryz.func71 rfl (by kernel_rfl) aR (aH (all_cons (aZ (jG n)) (all_nil)) (aI)) mixed (aF _ _ rfl) (by kernel_rfl) (by kernel_rfl) (λx=>by kernel_rfl)
def zCh (n:Nat):An (Sum Ag.X Ah.X):=(.mk .nil (.mk .nil (.mk .nil (.mk .nil (.mk .nil (.co [.yQj 0 23] .nil) []) []) []) []) [])
theorem Us(n:Nat):cK Tryz.prog 72 Mh Ag 57 Ah (qN n):=
 dN (Γ:=bB _ [(94,peM kZ jF (bZ n))] [geP 52 fF fG 57 fH (aW n)]) (an:=zCh n) (co:=[.gc [0,1,2,3,4,5]]) (cp:=[.gc [0,1,2,3,4,5]]) Tryz.func72 rfl (by kernel_rfl) aR (aH (all_cons (aZ (jG n)) (all_nil)) (aS (bG (cZ n)) (aI))) mixed (aF _ _ rfl) (by kernel_rfl) (by kernel_rfl) (by kernel_rfl) (λx=>by kernel_rfl)
def zEv (n:Nat):An (Sum Cj.X Ck.X) := .nil
theorem Xi(n:Nat):cK Tryz.prog 95 Nk Cj 57 Ck (sI n):=
 dN (Γ:=bB _ [(50,peM qU mU (eB n)),(115,bS Ac Ad (strings_ContainsAny n))] [geP 52 fF fG 57 fH (aW n)]) (an:=zEv n) (co:=[.gc [0,1,2,3,4,5]]) (cp:=[.gc [0,1,2,3,4,5]]) Tryz.func95 rfl (by kernel_rfl) aR (aH (all_cons (aZ (pO n)) (all_cons (aQ (Eb n)) (all_nil))) (aS (bG (cZ n)) (aI))) mixed (aF _ _ rfl) (by kernel_rfl) (by kernel_rfl) (by kernel_rfl) (λx=>by kernel_rfl)
def zCi (n:Nat):An (Sum pI.X pJ.X) := .nil
theorem uQ(n:Nat):cK Tryz.prog 96 uP pI 57 pJ (eH n):=
 dN (Γ:=bB _ [(82,peM iT gJ (bL n)),(49,peM mD kF (dD n))] [geP 52 fF fG 57 fH (aW n)]) (an:=zCi n) (co:=[.gc [0,1,2,3,4,5]]) (cp:=[.gc [0,1,2,3,4,5]]) Tryz.func96 rfl (by kernel_rfl) aR (aH (all_cons (aZ (gY n)) (all_cons (aZ (jZ n)) (all_nil))) (aS (bG (cZ n)) (aI))) mixed (aF _ _ rfl) (by kernel_rfl) (by kernel_rfl) (by kernel_rfl) (λx=>by kernel_rfl)
def zCj (n:Nat):An (Sum Ai.X Aj.X) := .nil
theorem Ut(n:Nat):cK Tryz.prog 73 Mi Ai 57 Aj (qO n):=
 dN (Γ:=bB _ [] [geP 95 Nk Cj 57 Ck (sI n),geP 52 fF fG 57 fH (aW n),geP 96 uP pI 57 pJ (eH n)]) (an:=zCj n) (co:=[.gc [0,1,2,3,4,5]]) (cp:=[.gc [0,1,2,3,4,5]]) Tryz.func73 rfl (by kernel_rfl) aR (aH (all_nil) (aS (bG (Xi n)) (aS (bG (cZ n)) (aS (bG (uQ n)) (aI))))) mixed (aF _ _ rfl) (by kernel_rfl) (by kernel_rfl) (by kernel_rfl) (λx=>by kernel_rfl)
def zQw (n:Nat):An (Ou.X) := .nil
theorem zGj(n:Nat):dV Tryz.prog 118 zCc Ou (qD n):=
 dL (Γ:=bB _ [] []) (an:=zQw n) (co:=[.gc [0,1,2]]) Tryz.func118 rfl (by kernel_rfl) aR (aH (all_nil) (aI)) mixed (aF _ _ rfl) (by kernel_rfl) (by kernel_rfl) (λx=>by kernel_rfl)
def zXl (n:Nat):An (dB Xc):=(.mk .nil (.mk .nil (.mk .nil (.mk (.mk .nil (.mk (.loop ⟨76,[⟨0,false,[.v .str]⟩,⟨2,false,[.ptr 0 0]⟩,⟨5,false,[.ptr 1 0]⟩,⟨6,false,[.clo 118 [(1,0),(0,0)]]⟩,⟨7,false,[.v (.int .i64)]⟩],[.box 75 [.own 2],.box 9 [.v .str],.row 134 oF]⟩ [.keep (kbm 8 229),.gcA 0,.gcA 0,.ownB 0 0 75,.gcA 0] [.keep (kbm 8 229),.gcA 0,.gcA 0,.ownB 0 0 75,.gcA 0] n (.mk .nil (.mk (.mk (.scope 0 .nil .nil) .nil []) .nil []) [])) .nil []) []) .nil []) []) []) [])
theorem zOd(n:Nat):Pure Tryz.prog 98 zIl Xc (Ih n):=
 bT (Γ:=bB _ [(118,peM zCc Ou (qD n)),(81,bS kX kY (strings_IndexByte n))] []) (an:=zXl n) Tryz.func98 rfl (by kernel_rfl) aR (aH (all_cons (aZ (zGj n)) (all_cons (aQ (jY n)) (all_nil))) (aI)) mixed (aF _ _ rfl) (λx=>by kernel_rfl)
def yCh (n:Nat):An (dB zAf):=(.mk .nil (.mk (.mk .nil (.mk (.loop ⟨17,[⟨2,false,[.v (.int .i64)]⟩,⟨5,false,[.v (.slice oF)]⟩,⟨6,false,[.v (.int .i64)]⟩,⟨7,false,[.v (.int .i64)]⟩],[]⟩ [.keep (kbm 8 228),.gcA 0,.gcA 0] [.keep (kbm 8 228),.gcA 0,.gcA 0] n .nil) .nil []) []) .nil []) [])
theorem zQx(n:Nat):Pure Tryz.prog 101 zMa zAf (Lm n):=
 bT (Γ:=bB _ [] []) (an:=yCh n) Tryz.func101 rfl (by kernel_rfl) aR (aH (all_nil) (aI)) mixed (aF _ _ rfl) (λx=>by kernel_rfl)
def zQy (n:Nat):An (dB Ov) := .nil
theorem zIz(n:Nat):Pure Tryz.prog 175 zCd Ov (qC n):=
 bT (Γ:=bB _ [] []) (an:=zQy n) Tryz.func175 rfl (by kernel_rfl) aR (aH (all_nil) (aI)) mixed (aF _ _ rfl) (λx=>by kernel_rfl)
def zQz (n:Nat):An (dB Ow) := .nil
theorem zJa(n:Nat):Pure Tryz.prog 196 zCe Ow (dJ n):=
 bT (Γ:=bB _ [] []) (an:=zQz n) Tryz.func196 rfl (by kernel_rfl) aR (aH (all_nil) (aI)) mixed (aF _ _ rfl) (λx=>by kernel_rfl)
def zXm (n:Nat):An (dB Xd) := .nil
theorem zOe(n:Nat):Pure Tryz.prog 176 zIm Xd (yA n):=
 bT (Γ:=bB _ [(196,bS zCe Ow (dJ n))] []) (an:=zXm n) Tryz.func176 rfl (by kernel_rfl) aR (aH (all_cons (aQ (zJa n)) (all_nil)) (aI)) mixed (aF _ _ rfl) (λx=>by kernel_rfl)
def zJb (n:Nat):An (dB Hl):=(.mk .nil (.mk (.mk .nil (.mk (.loop ⟨19,[⟨0,false,[.v (.slice (.int .i64))]⟩,⟨1,false,[.v (.int .i64)]⟩,⟨7,false,[.v (.int .i64)]⟩,⟨8,false,[.v (.int .i64)]⟩],[]⟩ [.keep (kbm 9 387),.gcA 0,.gcA 0] [.keep (kbm 9 387),.gcA 0,.gcA 0] n .nil) .nil []) []) .nil []) [])
theorem zCk(n:Nat):Pure Tryz.prog 214 Tm Hl (Jk n):=
 bT (Γ:=bB _ [] []) (an:=zJb n) Tryz.func214 rfl (by kernel_rfl) aR (aH (all_nil) (aI)) mixed (aF _ _ rfl) (λx=>by kernel_rfl)
def zCl (n:Nat):An (dB Ak) := .nil
theorem Xj(n:Nat):Pure Tryz.prog 197 Mj Ak (vX n):=
 bT (Γ:=bB _ [(214,bS Tm Hl (Jk n))] []) (an:=zCl n) Tryz.func197 rfl (by kernel_rfl) aR (aH (all_cons (aQ (zCk n)) (all_nil)) (aI)) mixed (aF _ _ rfl) (λx=>by kernel_rfl)
def yOi (n:Nat):An (dB zNx) := .nil
theorem yCi(n:Nat):Pure Tryz.prog 177 yCc zNx (pY n):=
 bT (Γ:=bB _ [(197,bS Mj Ak (vX n))] []) (an:=yOi n) Tryz.func177 rfl (by kernel_rfl) aR (aH (all_cons (aQ (Xj n)) (all_nil)) (aI)) mixed (aF _ _ rfl) (λx=>by kernel_rfl)
def yCj (n:Nat):An (dB zAg):=(.mk .nil (.mk .nil (.mk (.mk .nil (.mk (.loop ⟨80,[⟨0,false,[.v (.slice bA)]⟩,⟨3,false,[.own 0]⟩,⟨8,false,[.v (.slice bA)]⟩,⟨9,false,[.v (.int .i64)]⟩,⟨10,false,[.v (.int .i64)]⟩],[.row 3 (.int .i64)]⟩ [.keep (kbm 55 1801),.gcA 0,.zDn 3 219,.gcA 0] [.keep (kbm 55 1801),.gcA 0,.gcA 0] n .nil) .nil []) []) .nil []) []) [])
theorem zRa(n:Nat):Pure Tryz.prog 142 zMb zAg (Ga n):=
 bT (Γ:=bB _ [(175,bS zCd Ov (qC n)),(176,bS zIm Xd (yA n)),(177,bS yCc zNx (pY n))] []) (an:=yCj n) Tryz.func142 rfl (by kernel_rfl) aR (aH (all_cons (aQ (zIz n)) (all_cons (aQ (zOe n)) (all_cons (aQ (yCi n)) (all_nil)))) (aI)) mixed (aF _ _ rfl) (λx=>by kernel_rfl)
def zRb (n:Nat):An (vB.X) := .nil
theorem Xk(n:Nat)(fJ:(Int × List (Int × List (Int) × Int × Int × Int × Int × Int × Unit) × Int × Bool × List (Bool) × Bool × Unit)->Option (List (Int × List (Int) × Int × Int × Int × Int × Int × Unit) × Int × Bool × List (Bool) × Bool × Unit))(zRc:dV Tryz.prog 178 zN vB fJ):dV Tryz.prog 178 zN vB (eZ n fJ):=
 dL (Γ:=bB _ [(178,peM zN vB (fJ))] []) (an:=zRb n) (co:=[.gc [0,1,2,3,4,5]]) Tryz.func178 rfl (by kernel_rfl) aR (aH (all_cons (aZ (zRc)) (all_nil)) (aI)) mixed (aF _ _ rfl) (by kernel_rfl) (by kernel_rfl) (λx=>by kernel_rfl)
theorem zGk(n:Nat):dV Tryz.prog 178 zN vB (tF n):=zVh (by kernel_rfl) (λn r h=>Xk n r h) n
def zXn (n:Nat):An (dB Xe) := .nil
theorem zOf(n:Nat):Pure Tryz.prog 143 zIn Xe (Qe n):=
 bT (Γ:=bB _ [(178,peM zN vB (tF n))] []) (an:=zXn n) Tryz.func143 rfl (by kernel_rfl) aR (aH (all_cons (aZ (zGk n)) (all_nil)) (aI)) mixed (aF _ _ rfl) (λx=>by kernel_rfl)
def yOj (n:Nat):An (dB zNy) := .nil
theorem yCk(n:Nat):Pure Tryz.prog 120 yCd zNy (Vi n):=
 bT (Γ:=bB _ [(142,bS zMb zAg (Ga n)),(143,bS zIn Xe (Qe n))] []) (an:=yOj n) Tryz.func120 rfl (by kernel_rfl) aR (aH (all_cons (aQ (zRa n)) (all_cons (aQ (zOf n)) (all_nil))) (aI)) mixed (aF _ _ rfl) (λx=>by kernel_rfl)
def yFd (n:Nat):An (dB zEo) := .nil
theorem zTv(n:Nat):Pure Tryz.prog 102 zQq zEo (Qs n):=
 bT (Γ:=bB _ [(120,bS yCd zNy (Vi n))] []) (an:=yFd n) Tryz.func102 rfl (by kernel_rfl) aR (aH (all_cons (aQ (yCk n)) (all_nil)) (aI)) mixed (aF _ _ rfl) (λx=>by kernel_rfl)
def zCm (n:Nat):An (Sum Al.X Am.X):=(.mk .nil (.mk .nil (.mk .nil (.mk (.loop ⟨96,[⟨0,false,[.ptr 0 0]⟩,⟨3,false,[.mp 6]⟩],ySt⟩ [.keep [true,false,false,true],.gcA 6,.gcA 6] [.keep [true,false,false,true],.gcA 6,.gcA 6] n (.mk (.mk .nil (.mk (.join ⟨96,[⟨0,false,[.ptr 0 0]⟩,⟨3,false,[.mp 6]⟩,⟨4,false,[.v .str]⟩],ySt⟩ [.keep [true,false,false,true,true],.gcA 6] .nil) (.mk (.join ⟨96,[⟨0,false,[.ptr 0 0]⟩,⟨3,false,[.mp 6]⟩,⟨4,false,[.v .str]⟩],ySt⟩ [.keep [true,false,false,true,true],.gcA 6] .nil) .nil []) []) []) .nil [])) .nil []) []) []) [])
theorem Uu(n:Nat):cK Tryz.prog 103 Mk Al 57 Am (iJ n):=
 dN (Γ:=bB _ [(49,peM mD kF (dD n)),(121,peM Ci wD (iC n)),(50,peM qU mU (eB n))] [geP 107 sP nW 57 nX (dY n),geP 52 fF fG 57 fH (aW n)]) (an:=zCm n) (co:=[.gc [0,1,2,3,4,5]]) (cp:=[.gc [0,1,2,3,4,5]]) Tryz.func103 rfl (by kernel_rfl) aR (aH (all_cons (aZ (jZ n)) (all_cons (aZ (En n)) (all_cons (aZ (pO n)) (all_nil)))) (aS (bG (tL n)) (aS (bG (cZ n)) (aI)))) mixed (aF _ _ rfl) (by kernel_rfl) (by kernel_rfl) (by kernel_rfl) (λx=>by kernel_rfl)
def zCn (n:Nat):An (Sum Ao.X Ap.X) := .nil
theorem Uv(n:Nat):cK Tryz.prog 74 Ml Ao 57 Ap (qP n):=
 dN (Γ:=bB _ [(98,bS zIl Xc (Ih n)),(101,bS zMa zAf (Lm n)),(102,bS zQq zEo (Qs n)),(94,peM kZ jF (bZ n))] [geP 86 sM nY 57 nZ (fO n),geP 97 yE rV 57 rW (fT n),geP 99 wC qW 57 qX (fA n),geP 100 zL vH 57 vI (iF n),geP 52 fF fG 57 fH (aW n),geP 103 Mk Al 57 Am (iJ n),geP 96 uP pI 57 pJ (eH n)]) (an:=zCn n) (co:=[.gc [0,1,2,3,4,5]]) (cp:=[.gc [0,1,2,3,4,5]]) Tryz.func74 rfl (by kernel_rfl) aR (aH (all_cons (aQ (zOd n)) (all_cons (aQ (zQx n)) (all_cons (aQ (zTv n)) (all_cons (aZ (jG n)) (all_nil))))) (aS (bG (qJ n)) (aS (bG (zU n)) (aS (bG (vR n)) (aS (bG (uE n)) (aS (bG (cZ n)) (aS (bG (Uu n)) (aS (bG (uQ n)) (aI))))))))) mixed (aF _ _ rfl) (by kernel_rfl) (by kernel_rfl) (by kernel_rfl) (λx=>by kernel_rfl)
def zXo (n:Nat):An (dB Xf):=(.mk .nil (.mk .nil (.mk (.mk .nil (.mk (.loop ⟨49,[⟨0,false,[.v .str]⟩,⟨5,false,[.own 0]⟩,⟨6,false,[.v (.int .i64)]⟩],[.row 5 (.int .u8)]⟩ [.keep (kbm 7 97),.gcA 0,.zDn 5 149,.gcA 0] [.keep (kbm 7 97),.gcA 0,.gcA 0] n .nil) .nil []) []) .nil []) []) [])
theorem zOg(n:Nat):Pure Tryz.prog 104 zIo Xf (Bu n):=
 bT (Γ:=bB _ [(81,bS kX kY (strings_IndexByte n))] []) (an:=zXo n) Tryz.func104 rfl (by kernel_rfl) aR (aH (all_cons (aQ (jY n)) (all_nil)) (aI)) mixed (aF _ _ rfl) (λx=>by kernel_rfl)
def yCl (n:Nat):An (dB zAh):=(.mk .nil (.mk (.mk .nil (.mk (.loop ⟨11,[⟨0,false,[.ptr 0 0]⟩,⟨2,false,[.v (.int .i64)]⟩],[.box 173 [.v (.arr 256 (.int .u8))]]⟩ [.keep [true,false,true],.gcA 0,.gcA 0] [.keep [true,false,true],.gcA 0,.gcA 0] n .nil) .nil []) []) .nil []) [])
theorem zRd(n:Nat):Pure Tryz.prog 122 zMc zAh (Ls n):=
 bT (Γ:=bB _ [] []) (an:=yCl n) Tryz.func122 rfl (by kernel_rfl) aR (aH (all_nil) (aI)) mixed (aF _ _ rfl) (λx=>by kernel_rfl)
def yCm (n:Nat):An (dB zAi):=(.mk .nil (.mk .nil (.mk .nil (.mk .nil (.mk (.mk .nil (.mk (.loop ⟨38,[⟨0,false,[.v .str]⟩,⟨1,false,[.v .str]⟩,⟨4,false,[.ptr 0 0]⟩,⟨6,false,[.ptr 1 0]⟩,⟨7,false,[.ptr 2 0]⟩,⟨18,false,[.v (.int .i64)]⟩,⟨19,false,[.v (.int .i64)]⟩],[.box 173 [.v (.arr 256 (.int .u8))],.box 173 [.v (.arr 256 (.int .u8))],.box 127 [.v (.arr 256 .bool)]]⟩ [.keep (kbm 20 786643),.gcA 0,.gcA 0] [.keep (kbm 20 786643),.gcA 0,.gcA 0] n .nil) .nil []) []) .nil []) []) []) []) [])
theorem zRe(n:Nat):Pure Tryz.prog 105 zMd zAi (Lu n):=
 bT (Γ:=bB _ [(122,bS zMc zAh (Ls n))] []) (an:=yCm n) Tryz.func105 rfl (by kernel_rfl) aR (aH (all_cons (aQ (zRd n)) (all_nil)) (aI)) mixed (aF _ _ rfl) (λx=>by kernel_rfl)
def zCo (n:Nat):An (Sum lQ.X lS.X) := .nil
theorem oJ(n:Nat):cK Tryz.prog 76 pK lQ 57 lS (aX n):=
 dN (Γ:=bB _ [(94,peM kZ jF (bZ n))] [geP 96 uP pI 57 pJ (eH n)]) (an:=zCo n) (co:=[.gc [0,1,2,3,4,5]]) (cp:=[.gc [0,1,2,3,4,5]]) Tryz.func76 rfl (by kernel_rfl) aR (aH (all_cons (aZ (jG n)) (all_nil)) (aS (bG (uQ n)) (aI))) mixed (aF _ _ rfl) (by kernel_rfl) (by kernel_rfl) (by kernel_rfl) (λx=>by kernel_rfl)
def Uw (n:Nat):An (Sum vM.X vN.X) := .nil
theorem Ng(n:Nat):cK Tryz.prog 75 Ei vM 57 vN (lY n):=
 dN (Γ:=bB _ [(104,bS zIo Xf (Bu n)),(105,bS zMd zAi (Lu n))] [geP 86 sM nY 57 nZ (fO n),geP 99 wC qW 57 qX (fA n),geP 100 zL vH 57 vI (iF n),geP 76 pK lQ 57 lS (aX n)]) (an:=Uw n) (co:=[.gc [0,1,2,3,4,5]]) (cp:=[.gc [0,1,2,3,4,5]]) Tryz.func75 rfl (by kernel_rfl) aR (aH (all_cons (aQ (zOg n)) (all_cons (aQ (zRe n)) (all_nil))) (aS (bG (qJ n)) (aS (bG (vR n)) (aS (bG (uE n)) (aS (bG (oJ n)) (aI)))))) mixed (aF _ _ rfl) (by kernel_rfl) (by kernel_rfl) (by kernel_rfl) (λx=>by kernel_rfl)
def zTw (n:Nat):An (Sv.X) := .nil
theorem zJc(n:Nat):dV Tryz.prog 124 zFt Sv (sJ n):=
 dL (Γ:=bB _ [(125,peM rF lN (eP n))] []) (an:=zTw n) (co:=[.gc [0,1]]) Tryz.func124 rfl (by kernel_rfl) aR (aH (all_cons (aZ (uT n)) (all_nil)) (aI)) mixed (aF _ _ rfl) (by kernel_rfl) (by kernel_rfl) (λx=>by kernel_rfl)
def Rm (n:Nat):An (tK.X):=(.mk .nil (.mk (.mk .nil (.mk .nil (.mk (.mk (.loop ⟨35,[⟨0,false,[.v .str]⟩,⟨1,false,[.clo 124 [(0,0)]]⟩,⟨5,false,[.v (.int .i64)]⟩],zEk⟩ [.keep (kbm 6 35),.gcA 2,.gcA 2] [.keep (kbm 6 35),.gcA 2,.gcA 2] n .nil) .nil []) .nil []) []) []) .nil []) [])
theorem Kq(n:Nat):dV Tryz.prog 123 Bh tK (kH n):=
 dL (Γ:=bB _ [(124,peM zFt Sv (sJ n))] []) (an:=Rm n) (co:=[.gc [0,1]]) Tryz.func123 rfl (by kernel_rfl) aR (aH (all_cons (aZ (zJc n)) (all_nil)) (aI)) mixed (aF _ _ rfl) (by kernel_rfl) (by kernel_rfl) (λx=>by kernel_rfl)
def yCn (n:Nat):An (dB zAj):=(.mk .nil (.mk .nil (.mk .nil (.mk (.co [.ownB 0 1 149,.orn 0 0 0 0] .nil) .nil []) []) []) [])
theorem zRf(n:Nat):Pure Tryz.prog 106 zMe zAj (Lv n):=
 bT (Γ:=bB _ [(110,bS Bw yB (lM n)),(123,peM Bh tK (kH n)),(28,bS jE iD (strings_HasPrefix n)),(126,peM Di xH (Builder_String n))] []) (an:=yCn n) Tryz.func106 rfl (by kernel_rfl) aR (aH (all_cons (aQ (xJ n)) (all_cons (aZ (Kq n)) (all_cons (aQ (iG n)) (all_cons (aZ (Mf n)) (all_nil))))) (aI)) mixed (aF _ _ rfl) (λx=>by kernel_rfl)
def zEw (n:Nat):An (Sum Cm.X Cn.X):=(.mk .nil (.mk (.join ⟨61,[⟨0,false,[.ptr 0 0]⟩],cO⟩ [.keep [true],.gcA 6] .nil) (.mk (.join ⟨61,[⟨0,false,[.ptr 0 0]⟩],cO⟩ [.keep [true],.gcA 6] .nil) .nil []) []) [])
theorem Xl(n:Nat):cK Tryz.prog 77 Nl Cm 57 Cn (kV n):=
 dN (Γ:=bB _ [(82,peM iT gJ (bL n)),(28,bS jE iD (strings_HasPrefix n)),(106,bS zMe zAj (Lv n)),(94,peM kZ jF (bZ n))] [geP 52 fF fG 57 fH (aW n),geP 100 zL vH 57 vI (iF n)]) (an:=zEw n) (co:=[.gc [0,1,2,3,4,5]]) (cp:=[.gc [0,1,2,3,4,5]]) Tryz.func77 rfl (by kernel_rfl) aR (aH (all_cons (aZ (gY n)) (all_cons (aQ (iG n)) (all_cons (aQ (zRf n)) (all_cons (aZ (jG n)) (all_nil))))) (aS (bG (cZ n)) (aS (bG (uE n)) (aI)))) mixed (aF _ _ rfl) (by kernel_rfl) (by kernel_rfl) (by kernel_rfl) (λx=>by kernel_rfl)
def Ux (n:Nat):An (vO.X) := .nil
theorem Nh(n:Nat):dV Tryz.prog 82 Ej vO (gV n):=
 dL (Γ:=bB _ [(109,bS Sn Jb (nA n))] []) (an:=Ux n) (co:=[.gc [0,1,2,3]]) Tryz.func82 rfl (by kernel_rfl) aR (aH (all_cons (aQ (Tn n)) (all_nil)) (aI)) mixed (aF _ _ rfl) (by kernel_rfl) (by kernel_rfl) (λx=>by kernel_rfl)
def Yj (n:Nat):An (yH.X) := .nil
theorem Rn(n:Nat):dV Tryz.prog 50 Il yH (iO n):=
 dL (Γ:=bB _ [(82,peM Ej vO (gV n)),(83,bS zAd Qg (rR n))] []) (an:=Yj n) (co:=[.gc [0,1,2,3]]) Tryz.func50 rfl (by kernel_rfl) aR (aH (all_cons (aZ (Nh n)) (all_cons (aQ (Zk n)) (all_nil))) (aI)) mixed (aF _ _ rfl) (by kernel_rfl) (by kernel_rfl) (λx=>by kernel_rfl)
def Yk (n:Nat):An (Sum yI.X yJ.X) := .nil
theorem Ro(n:Nat):cK Tryz.prog 95 zAk yI 57 yJ (iP n):=
 dN (Γ:=bB _ [(50,peM Il yH (iO n)),(115,bS Ac Ad (strings_ContainsAny n))] [geP 52 fF fG 57 fH (aW n)]) (an:=Yk n) (co:=[.gc [0,1,2,3]]) (cp:=[.gc [0,1,2,3]]) Tryz.func95 rfl (by kernel_rfl) aR (aH (all_cons (aZ (Rn n)) (all_cons (aQ (Eb n)) (all_nil))) (aS (bG (cZ n)) (aI))) mixed (aF _ _ rfl) (by kernel_rfl) (by kernel_rfl) (by kernel_rfl) (λx=>by kernel_rfl)
theorem Ni(n:Nat):zNs Tryz.prog 95 (List.map (λp=>p.1) [(3,3),(6,6),(24,24)]) vP El 57 Em (gW n):=
 yEy (js:=[(3,3),(6,6),(24,24)]) (λvs x=>(x.1,x.2.1,x.2.2.1,(vs.getD 0 undef),x.2.2.2.1,(vs.getD 1 undef),x.2.2.2.2.1,x.2.2.2.2.2.1,x.2.2.2.2.2.2.1,x.2.2.2.2.2.2.2.1,x.2.2.2.2.2.2.2.2.1,x.2.2.2.2.2.2.2.2.2.1,x.2.2.2.2.2.2.2.2.2.2.1,x.2.2.2.2.2.2.2.2.2.2.2.1,x.2.2.2.2.2.2.2.2.2.2.2.2.1,x.2.2.2.2.2.2.2.2.2.2.2.2.2.1,x.2.2.2.2.2.2.2.2.2.2.2.2.2.2.1,x.2.2.2.2.2.2.2.2.2.2.2.2.2.2.2.1,x.2.2.2.2.2.2.2.2.2.2.2.2.2.2.2.2.1,x.2.2.2.2.2.2.2.2.2.2.2.2.2.2.2.2.2.1,x.2.2.2.2.2.2.2.2.2.2.2.2.2.2.2.2.2.2.1,x.2.2.2.2.2.2.2.2.2.2.2.2.2.2.2.2.2.2.2.1,(vs.getD 2 undef),x.2.2.2.2.2.2.2.2.2.2.2.2.2.2.2.2.2.2.2.2)) (λvs y=>(y.1,y.2.1,y.2.2.1,y.2.2.2.1,(vs.getD 0 undef),y.2.2.2.2.1,(vs.getD 1 undef),y.2.2.2.2.2.1,y.2.2.2.2.2.2.1,y.2.2.2.2.2.2.2.1,y.2.2.2.2.2.2.2.2.1,y.2.2.2.2.2.2.2.2.2.1,y.2.2.2.2.2.2.2.2.2.2.1,y.2.2.2.2.2.2.2.2.2.2.2.1,y.2.2.2.2.2.2.2.2.2.2.2.2.1,y.2.2.2.2.2.2.2.2.2.2.2.2.2.1,y.2.2.2.2.2.2.2.2.2.2.2.2.2.2.1,y.2.2.2.2.2.2.2.2.2.2.2.2.2.2.2.1,y.2.2.2.2.2.2.2.2.2.2.2.2.2.2.2.2.1,y.2.2.2.2.2.2.2.2.2.2.2.2.2.2.2.2.2.1,y.2.2.2.2.2.2.2.2.2.2.2.2.2.2.2.2.2.2.1,y.2.2.2.2.2.2.2.2.2.2.2.2.2.2.2.2.2.2.2.1,y.2.2.2.2.2.2.2.2.2.2.2.2.2.2.2.2.2.2.2.2.1,(vs.getD 2 undef),y.2.2.2.2.2.2.2.2.2.2.2.2.2.2.2.2.2.2.2.2.2)) (λvs z=>(z.1,z.2.1,z.2.2.1,z.2.2.2.1,(vs.getD 0 undef),z.2.2.2.2.1,(vs.getD 1 undef),z.2.2.2.2.2.1,z.2.2.2.2.2.2.1,z.2.2.2.2.2.2.2.1,z.2.2.2.2.2.2.2.2.1,z.2.2.2.2.2.2.2.2.2.1,z.2.2.2.2.2.2.2.2.2.2.1,z.2.2.2.2.2.2.2.2.2.2.2.1,z.2.2.2.2.2.2.2.2.2.2.2.2.1,z.2.2.2.2.2.2.2.2.2.2.2.2.2.1,z.2.2.2.2.2.2.2.2.2.2.2.2.2.2.1,z.2.2.2.2.2.2.2.2.2.2.2.2.2.2.2.1,z.2.2.2.2.2.2.2.2.2.2.2.2.2.2.2.2.1,z.2.2.2.2.2.2.2.2.2.2.2.2.2.2.2.2.2.1,z.2.2.2.2.2.2.2.2.2.2.2.2.2.2.2.2.2.2.1,z.2.2.2.2.2.2.2.2.2.2.2.2.2.2.2.2.2.2.2.1,z.2.2.2.2.2.2.2.2.2.2.2.2.2.2.2.2.2.2.2.2.1,(vs.getD 2 undef),z.2.2.2.2.2.2.2.2.2.2.2.2.2.2.2.2.2.2.2.2.2)) (Rb n) (λvs x h=>by obtain⟨a,b,c,rfl⟩:=yKz h;exact⟨80,zNt (vP.enc x).h[0]?,_,by kernel_rfl,InK.three (by kernel_rfl) (by kernel_rfl) (by kernel_rfl) (by kernel_rfl) (by kernel_rfl) (by kernel_rfl),by kernel_rfl⟩) (λvs y h=>by obtain⟨a,b,c,rfl⟩:=yKz h;exact⟨80,zNt (yI.enc ((λvs y=>(y.1,y.2.1,y.2.2.1,y.2.2.2.1,(vs.getD 0 undef),y.2.2.2.2.1,(vs.getD 1 undef),y.2.2.2.2.2.1,y.2.2.2.2.2.2.1,y.2.2.2.2.2.2.2.1,y.2.2.2.2.2.2.2.2.1,y.2.2.2.2.2.2.2.2.2.1,y.2.2.2.2.2.2.2.2.2.2.1,y.2.2.2.2.2.2.2.2.2.2.2.1,y.2.2.2.2.2.2.2.2.2.2.2.2.1,y.2.2.2.2.2.2.2.2.2.2.2.2.2.1,y.2.2.2.2.2.2.2.2.2.2.2.2.2.2.1,y.2.2.2.2.2.2.2.2.2.2.2.2.2.2.2.1,y.2.2.2.2.2.2.2.2.2.2.2.2.2.2.2.2.1,y.2.2.2.2.2.2.2.2.2.2.2.2.2.2.2.2.2.1,y.2.2.2.2.2.2.2.2.2.2.2.2.2.2.2.2.2.2.1,y.2.2.2.2.2.2.2.2.2.2.2.2.2.2.2.2.2.2.2.1,y.2.2.2.2.2.2.2.2.2.2.2.2.2.2.2.2.2.2.2.2.1,(vs.getD 2 undef),y.2.2.2.2.2.2.2.2.2.2.2.2.2.2.2.2.2.2.2.2.2)) [a,b,c] y)).h[0]?,_,by kernel_rfl,Oi.three (by kernel_rfl) (by kernel_rfl) (by kernel_rfl) (by kernel_rfl) (by kernel_rfl) (by kernel_rfl),by kernel_rfl⟩) (λvs z h=>by obtain⟨a,b,c,rfl⟩:=yKz h;exact⟨80,zNt (yJ.enc ((λvs z=>(z.1,z.2.1,z.2.2.1,z.2.2.2.1,(vs.getD 0 undef),z.2.2.2.2.1,(vs.getD 1 undef),z.2.2.2.2.2.1,z.2.2.2.2.2.2.1,z.2.2.2.2.2.2.2.1,z.2.2.2.2.2.2.2.2.1,z.2.2.2.2.2.2.2.2.2.1,z.2.2.2.2.2.2.2.2.2.2.1,z.2.2.2.2.2.2.2.2.2.2.2.1,z.2.2.2.2.2.2.2.2.2.2.2.2.1,z.2.2.2.2.2.2.2.2.2.2.2.2.2.1,z.2.2.2.2.2.2.2.2.2.2.2.2.2.2.1,z.2.2.2.2.2.2.2.2.2.2.2.2.2.2.2.1,z.2.2.2.2.2.2.2.2.2.2.2.2.2.2.2.2.1,z.2.2.2.2.2.2.2.2.2.2.2.2.2.2.2.2.2.1,z.2.2.2.2.2.2.2.2.2.2.2.2.2.2.2.2.2.2.1,z.2.2.2.2.2.2.2.2.2.2.2.2.2.2.2.2.2.2.2.1,z.2.2.2.2.2.2.2.2.2.2.2.2.2.2.2.2.2.2.2.2.1,(vs.getD 2 undef),z.2.2.2.2.2.2.2.2.2.2.2.2.2.2.2.2.2.2.2.2.2)) [a,b,c] z)).h[0]?,_,by kernel_rfl,Oi.three (by kernel_rfl) (by kernel_rfl) (by kernel_rfl) (by kernel_rfl) (by kernel_rfl) (by kernel_rfl),by kernel_rfl⟩) (by decide) (Ro n)
def zAu (n:Nat):An (Sum zO.X zP.X) := .nil
theorem Sz(n:Nat):cK Tryz.prog 78 Ki zO 57 zP (jQ n):=
 yEz (Γ:=bB _ [] [geP 76 pK lQ 57 lS (aX n)]) (an:=zAu n) (co:=[.gc [0,1,2,3,4,5]]) (cp:=[.gc [0,1,2,3,4,5]]) (j:=16) (rid:=0) (oL:=List.map (λp=>p.1) [(3,3),(6,6),(24,24)]) (zIh:=zYi [(3,3),(6,6),(24,24)]) (gen:=yBv [(3,3),(6,6),(24,24)] 0 vP El 57 Em (gW n)) (g:=95) Tryz.func78 rfl (by kernel_rfl) aR (aH (all_nil) (aS (bG (oJ n)) (aI))) mixed (yOb (Ni n)) (aF _ _ rfl) (by kernel_rfl) (by kernel_rfl) (by kernel_rfl) (λx=>by kernel_rfl)
def Yl (n:Nat):An (Sum yK.X yL.X):=(.mk .nil (.mk (.join ⟨43,[⟨0,false,[.ptr 0 0]⟩],cO⟩ [.keep [true],.gcA 6] .nil) .nil []) [])
theorem Rp(n:Nat):cK Tryz.prog 79 Im yK 57 yL (iQ n):=
 dN (Γ:=bB _ [(82,peM iT gJ (bL n)),(49,peM mD kF (dD n))] [geP 107 sP nW 57 nX (dY n),geP 52 fF fG 57 fH (aW n),geP 76 pK lQ 57 lS (aX n)]) (an:=Yl n) (co:=[.gc [0,1,2,3,4,5]]) (cp:=[.gc [0,1,2,3,4,5]]) Tryz.func79 rfl (by kernel_rfl) aR (aH (all_cons (aZ (gY n)) (all_cons (aZ (jZ n)) (all_nil))) (aS (bG (tL n)) (aS (bG (cZ n)) (aS (bG (oJ n)) (aI))))) mixed (aF _ _ rfl) (by kernel_rfl) (by kernel_rfl) (by kernel_rfl) (λx=>by kernel_rfl)
def zEx (n:Nat):An (Sum Cq.X Cr.X) := .nil
theorem Xm(n:Nat):cK Tryz.prog 80 Nn Cq 57 Cr (nT n):=
 dN (Γ:=bB _ [(50,peM qU mU (eB n)),(94,peM kZ jF (bZ n))] [geP 52 fF fG 57 fH (aW n)]) (an:=zEx n) (co:=[.gc [0,1,2,3,4,5]]) (cp:=[.gc [0,1,2,3,4,5]]) Tryz.func80 rfl (by kernel_rfl) aR (aH (all_cons (aZ (pO n)) (all_cons (aZ (jG n)) (all_nil))) (aS (bG (cZ n)) (aI))) mixed (aF _ _ rfl) (by kernel_rfl) (by kernel_rfl) (by kernel_rfl) (λx=>by kernel_rfl)
def Ym (n:Nat):An (Sum yM.X yN.X):=(.mk .nil (.mk .nil (.mk .nil (.mk (.join ⟨88,[⟨0,false,[.ptr 0 0]⟩,⟨1,false,[.mp 1]⟩,⟨4,false,[.v (.int .i64)]⟩],yBz⟩ [.keep (kbm 67 19),.gcA 7] .nil) (.mk .nil (.mk (.join ⟨88,[⟨0,false,[.ptr 0 0]⟩,⟨1,false,[.mp 1]⟩],yBz⟩ [.keep [true,true],.gcA 7] .nil) .nil []) []) []) []) []) [])
theorem Rq(n:Nat):cK Tryz.prog 51 Io yM 57 yN (nU n):=
 dN (Γ:=bB _ [(82,peM iT gJ (bL n)),(85,peM wB qV (dH n)),(81,bS kX kY (strings_IndexByte n)),(71,peM Af uO (mQ n))] [geM 71 Af uO (mQ n),geP 84 Eh vK 57 vL (lX n),geP 86 sM nY 57 nZ (fO n),geP 52 fF fG 57 fH (aW n),geP 72 Mh Ag 57 Ah (qN n),geP 73 Mi Ai 57 Aj (qO n),geP 74 Ml Ao 57 Ap (qP n),geP 75 Ei vM 57 vN (lY n),geP 76 pK lQ 57 lS (aX n),geP 77 Nl Cm 57 Cn (kV n),geP 78 Ki zO 57 zP (jQ n),geP 79 Im yK 57 yL (iQ n),geP 80 Nn Cq 57 Cr (nT n)]) (an:=Ym n) (co:=[.gc [0,1,2,3,4,5,6]]) (cp:=[.gc [0,1,2,3,4,5,6]]) Tryz.func51 rfl (by kernel_rfl) aR (aH (all_cons (aZ (gY n)) (all_cons (aZ (vQ n)) (all_cons (aQ (jY n)) (all_cons (aZ (Dl n)) (all_nil))))) (aS (xAf (Dl n)) (aS (bG (Nf n)) (aS (bG (qJ n)) (aS (bG (cZ n)) (aS (bG (Us n)) (aS (bG (Ut n)) (aS (bG (Uv n)) (aS (bG (Ng n)) (aS (bG (oJ n)) (aS (bG (Xl n)) (aS (bG (Sz n)) (aS (bG (Rp n)) (aS (bG (Xm n)) (aI))))))))))))))) mixed (aF _ _ rfl) (by kernel_rfl) (by kernel_rfl) (by kernel_rfl) (λx=>by kernel_rfl)
def zCp (n:Nat):An (Sum Aq.X Ar.X):=(.mk .nil (.mk (.mk (.loop ⟨104,[⟨0,false,[.ptr 0 0]⟩,⟨2,false,[.mp 6]⟩],[.box 80 [.v .str,.v .bool,.v (.int .i64),.v (.int .i64),.v .bool,.own 1,.own 2,.v (.int .i64),.v (.int .i64),.v (.int .i64),.v (.int .i64),.v (.int .i64),.v (.int .i64),.v .bool,.v (.int .u8),.v .str,.v .str,.v (.int .i64),.v (.int .i64),.v (.int .i64),.v (.slice oF),.v .bool,.v .bool,.own 3,.own 4,.mp 5],.row 87 bQ,.row 77 aC,.row 118 gP,.row 118 gP,.dm .str (.int .i64),.fm [(.i .u8 123,71),(.i .u8 125,72),(.i .u8 58,73),(.i .u8 115,74),(.i .u8 121,75),(.i .u8 61,76),(.i .u8 100,76),(.i .u8 68,76),(.i .u8 103,76),(.i .u8 71,76),(.i .u8 104,76),(.i .u8 72,76),(.i .u8 110,76),(.i .u8 78,76),(.i .u8 112,76),(.i .u8 80,76),(.i .u8 120,76),(.i .u8 97,77),(.i .u8 105,77),(.i .u8 99,77),(.i .u8 98,78),(.i .u8 116,78),(.i .u8 84,78),(.i .u8 108,79),(.i .u8 113,79),(.i .u8 81,79),(.i .u8 114,80),(.i .u8 119,80)]]⟩ [.keep [true,false,true],.gcA 6,.gcA 6] [.keep [true,false,true],.gcA 6,.gcA 6] n .nil) .nil []) (.mk (.join ⟨104,[⟨0,false,[.ptr 0 0]⟩],cO⟩ [.keep [true],.gcA 6] .nil) (.mk .nil (.mk (.loop ⟨104,[⟨0,false,[.ptr 0 0]⟩,⟨60,false,[.own 4]⟩,⟨61,false,[.v (.int .i64)]⟩,⟨62,false,[.v (.int .i64)]⟩],cO⟩ [.keep (kbm 63 8070450532247928833),.gcA 6,.gcA 6] [.keep (kbm 63 8070450532247928833),.gcA 6,.gcA 6] n (.mk .nil (.mk .nil (.mk (.mk (.mk .nil (.mk .nil (.mk (.join ⟨104,[⟨0,false,[.ptr 0 0]⟩,⟨5,false,[.ptr 6 0]⟩,⟨6,false,[.v (.int .i64)]⟩,⟨7,false,[.v .bool]⟩,⟨60,false,[.own 4]⟩,⟨61,false,[.v (.int .i64)]⟩,⟨62,false,[.v (.int .i64)]⟩],[.box 80 [.v .str,.v .bool,.v (.int .i64),.v (.int .i64),.v .bool,.own 1,.own 2,.v (.int .i64),.v (.int .i64),.v (.int .i64),.v (.int .i64),.v (.int .i64),.v (.int .i64),.v .bool,.v (.int .u8),.v .str,.v .str,.v (.int .i64),.v (.int .i64),.v (.int .i64),.v (.slice oF),.v .bool,.v .bool,.own 3,.own 4,.mp 5],.row 87 bQ,.row 77 aC,.row 118 gP,.row 118 gP,.dm .str (.int .i64),.box 118 [.v (.int .i64),.v (.int .i64),.v .str]]⟩ [.keep (kbm 63 8070450532247929057),.gcA 6] .nil) .nil []) []) []) .nil []) .nil []) []) [])) .nil []) []) []) []) [])
theorem Uy(n:Nat):cK Tryz.prog 30 Mq Aq 57 Ar (mR n):=
 dN (Γ:=bB _ [(48,peM Wx Ec (Zz n)),(49,peM mD kF (dD n)),(50,peM qU mU (eB n))] [geP 51 Io yM 57 yN (nU n),geP 52 fF fG 57 fH (aW n)]) (an:=zCp n) (co:=[.gc [0,1,2,3,4,5]]) (cp:=[.gc [0,1,2,3,4,5]]) Tryz.func30 rfl (by kernel_rfl) aR (aH (all_cons (aZ (zLa n)) (all_cons (aZ (jZ n)) (all_cons (aZ (pO n)) (all_nil)))) (aS (bG (Rq n)) (aS (bG (cZ n)) (aI)))) mixed (aF _ _ rfl) (by kernel_rfl) (by kernel_rfl) (by kernel_rfl) (λx=>by kernel_rfl)
theorem Bj(n:Nat):dV Tryz.prog 29 mF mG (bV n):=
 yBp (si:=mF) (so:=mG) (sp:=Ar) (sd:=Mq) (od:=Aq) (F:=mR n) (G:=bV n) (conv:=λx=>x) (o1:=λy=>(0,y)) (o2:=λz=>z) (Uy n) rfl (λx=>⟨rfl,rfl⟩) (λx=>by unfold bV ob2;cases mR n x with|none=>rfl|some r=>cases r<;>rfl) (λy=>⟨rfl,rfl⟩) (λz=>⟨_,rfl,rfl⟩)
def zTx (n:Nat):An (dB Jc):=(.mk .nil (.mk .nil (.mk .nil (.mk .nil (.mk (.mk (.co [.ownB 2 5 36,.ownB 2 6 37,.ownB 2 23 78,.ownB 2 24 78] .nil) .nil []) .nil []) []) []) []) [])
theorem Tp(n:Nat):Pure Tryz.prog 17 Sw Jc (sK n):=
 bT (Γ:=bB _ [(29,peM mF mG (bV n)),(28,bS jE iD (strings_HasPrefix n))] []) (an:=zTx n) Tryz.func17 rfl (by kernel_rfl) aR (aH (all_cons (aZ (Bj n)) (all_cons (aQ (iG n)) (all_nil))) (aI)) mixed (aF _ _ rfl) (λx=>by kernel_rfl)
end Go.Dec
