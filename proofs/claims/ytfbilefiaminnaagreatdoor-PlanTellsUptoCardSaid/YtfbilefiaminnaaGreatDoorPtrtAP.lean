import Derived.Test.YtfbilefiaminnaaGreatDoorPtrtAO
open Go.Proofs.Tryz renaming prog->qEr
namespace Go.Dec
abbrev dB:List OS:=[.box 80 [.v .str,.v .bool,.v (.int .i64),.v (.int .i64),.v .bool,.own 1,.own 2,.v (.int .i64),.v (.int .i64),.v (.int .i64),.v (.int .i64),.v (.int .i64),.v (.int .i64),.v .bool,.v (.int .u8),.v .str,.v .str,.v (.int .i64),.v (.int .i64),.v (.int .i64),.v (.slice iL),.v .bool,.v .bool,.own 3,.own 4,.mp 5],.row 87 aU,.row 77 aB,.row 118 gG,.row 118 gG,.dm .str (.int .i64)]
abbrev yHa:List OS:=[.box 80 [.v .str,.v .bool,.v (.int .i64),.v (.int .i64),.v .bool,.own 2,.own 3,.v (.int .i64),.v (.int .i64),.v (.int .i64),.v (.int .i64),.v (.int .i64),.v (.int .i64),.v .bool,.v (.int .u8),.v .str,.v .str,.v (.int .i64),.v (.int .i64),.v (.int .i64),.v (.slice iL),.v .bool,.v .bool,.own 4,.own 5,.mp 6],.fm [(.i .u8 123,71),(.i .u8 125,72),(.i .u8 58,73),(.i .u8 115,74),(.i .u8 121,75),(.i .u8 61,76),(.i .u8 100,76),(.i .u8 68,76),(.i .u8 103,76),(.i .u8 71,76),(.i .u8 104,76),(.i .u8 72,76),(.i .u8 110,76),(.i .u8 78,76),(.i .u8 112,76),(.i .u8 80,76),(.i .u8 120,76),(.i .u8 97,77),(.i .u8 105,77),(.i .u8 99,77),(.i .u8 98,78),(.i .u8 116,78),(.i .u8 84,78),(.i .u8 108,79),(.i .u8 113,79),(.i .u8 81,79),(.i .u8 114,80),(.i .u8 119,80)],.row 87 aU,.row 77 aB,.row 118 gG,.row 118 gG,.dm .str (.int .i64)]
abbrev nW:List OS:=[.box 213 [.v .str,.v (.int .i64),.own 1,.v (.int .i64),.v (.arr 10 .bool)],.row 125 aT]
abbrev zSn:List OS:=[.box 80 [.v .str,.v .bool,.v (.int .i64),.v .opq,.v .bool,.own 1,.v .opq,.v (.int .i64),.v (.int .i64),.v (.int .i64),.v (.int .i64),.v (.int .i64),.v (.int .i64),.v .bool,.v (.int .u8),.v .str,.v .str,.v (.int .i64),.v (.int .i64),.v (.int .i64),.v (.slice iL),.v .bool,.v .bool,.own 2,.v .opq,.mp 3],.row 87 aU,.row 118 gG,.dm .str (.int .i64)]
abbrev yYy:List OS:=[.box 80 [.v .str,.v .bool,.v (.int .i64),.v (.int .i64),.v .bool,.own 1,.own 2,.v (.int .i64),.v (.int .i64),.v (.int .i64),.v (.int .i64),.v (.int .i64),.v (.int .i64),.v .bool,.v (.int .u8),.v .str,.v .str,.v (.int .i64),.v (.int .i64),.v (.int .i64),.v (.slice iL),.v .bool,.v .bool,.own 3,.own 4,.mp 5],.row 87 aU,.row 77 aB,.row 118 gG,.row 118 gG,.dm .str (.int .i64),.dm .str (.int .i64)]
abbrev yYz:List OS:=[.box 80 [.v .str,.v .bool,.v (.int .i64),.any 1,.v .bool,.own 1,.any 1,.v (.int .i64),.v (.int .i64),.v (.int .i64),.v (.int .i64),.v (.int .i64),.v (.int .i64),.v .bool,.v (.int .u8),.v .str,.v .str,.v (.int .i64),.v (.int .i64),.v (.int .i64),.v (.slice iL),.v .bool,.v .bool,.own 2,.any 1,.mp 3],.row 87 aU,.row 118 gG,.dm .str (.int .i64)]
abbrev yHb:List OS:=[.box 210 [.ptr 2 0],.box 9 [.v .str],.box 213 [.v .str,.v (.int .i64),.own 3,.v (.int .i64),.v (.arr 10 .bool)],.row 125 aT]
abbrev yHc:List OS:=[.box 213 [.v .str,.v (.int .i64),.own 1,.v (.int .i64),.v (.arr 10 .bool)],.row 125 aT,.row 3 (.int .i64)]
abbrev Io:List OS:=[.box 269 [.v .str,.v (.int .i64)]]
abbrev zOm:List OS:=[.box 267 [.ptr 2 0],.box 123 [.v (.arr 4 (.int .u64))],.box 269 [.v .str,.v (.int .i64)]]
abbrev zHo:List OS:=[.box 195 [.fD 0 0,.own 1],.row 5 (.int .u8)]
abbrev zVx:List OS:=[.box 9 [.v .str],.box 195 [.fD 1 0,.own 2],.row 5 (.int .u8)]
abbrev Xd:List OS:=[.box 204 [.v (.arr 256 .bool)]]
abbrev xBl:List OS:=[.box 85 [.v (.slice aT)],.box 250 [.clo 178 [(0,0),(1,0),(2,0),(3,0),(4,0),(5,0)]],.box 3 [.v (.int .i64)],.box 4 [.v .bool],.box 211 [.v (.arr 10 .bool)],.box 4 [.v .bool]]
open Go.Proofs
set_option linter.unusedVariables false
def tab:Tab:=[(3,⟨.int .i64,1,8,[.val (.int .i64) 0],some (.int .i64),false⟩),(4,⟨.bool,1,1,[.val .bool false],some .bool,false⟩),(5,⟨.int .u8,1,1,[.val (.int .u8) 0],some (.int .u8),false⟩),(9,⟨.str,1,16,[.val .str []],some .str,false⟩),(32,⟨.slice 9,1,24,[.aZ],some (.slice .str),false⟩),(36,⟨.slice 87,1,24,[.aZ],some (.slice aU),false⟩),(37,⟨.slice 77,1,24,[.aZ],some (.slice aB),false⟩),(39,⟨.struct [(0,4),(1,36),(2,37)],3,56,[.val .bool false,.aZ,.aZ],some iH,false⟩),(57,⟨.int .i64,1,8,[.val (.int .i64) 0],some (.int .i64),false⟩),(69,⟨.ptr 80,1,8,[.jC],none,false⟩),(70,⟨.map 9 3,1,8,[.val .opq (Value.map none)],none,false⟩),(72,⟨.struct [(0,3),(1,3),(2,3)],3,24,[.val (.int .i64) 0,.val (.int .i64) 0,.val (.int .i64) 0],some Fh,true⟩),(74,⟨.struct [(0,72),(3,72),(6,4)],7,56,[.val (.int .i64) 0,.val (.int .i64) 0,.val (.int .i64) 0,.val (.int .i64) 0,.val (.int .i64) 0,.val (.int .i64) 0,.val .bool false],some rQ,true⟩),(75,⟨.slice 134,1,24,[.aZ],some (.slice iL),false⟩),(77,⟨.struct [(0,74),(7,5),(8,9),(9,9),(10,3),(11,3),(12,3),(13,75),(14,4),(15,4)],16,152,[.val (.int .i64) 0,.val (.int .i64) 0,.val (.int .i64) 0,.val (.int .i64) 0,.val (.int .i64) 0,.val (.int .i64) 0,.val .bool false,.val (.int .u8) 0,.val .str [],.val .str [],.val (.int .i64) 0,.val (.int .i64) 0,.val (.int .i64) 0,.aZ,.val .bool false,.val .bool false],some aB,false⟩),(78,⟨.slice 118,1,24,[.aZ],some (.slice gG),false⟩),(80,⟨.struct [(0,9),(1,4),(2,3),(3,3),(4,39),(7,77),(23,78),(24,78),(25,70)],26,304,[.val .str [],.val .bool false,.val (.int .i64) 0,.val (.int .i64) 0,.val .bool false,.aZ,.aZ,.val (.int .i64) 0,.val (.int .i64) 0,.val (.int .i64) 0,.val (.int .i64) 0,.val (.int .i64) 0,.val (.int .i64) 0,.val .bool false,.val (.int .u8) 0,.val .str [],.val .str [],.val (.int .i64) 0,.val (.int .i64) 0,.val (.int .i64) 0,.aZ,.val .bool false,.val .bool false,.aZ,.aZ,.val .opq (Value.map none)],none,false⟩),(85,⟨.slice 125,1,24,[.aZ],some (.slice aT),false⟩),(87,⟨.struct [(0,85),(1,4)],2,32,[.aZ,.val .bool false],some aU,false⟩),(100,⟨.func,1,8,[.val .opq Value.nilFunc],some .opq,false⟩),(113,⟨.map 5 147,1,8,[.val .opq (Value.map none)],none,false⟩),(118,⟨.struct [(0,3),(1,3),(2,9)],3,32,[.val (.int .i64) 0,.val (.int .i64) 0,.val .str []],some gG,true⟩),(121,⟨.int .u64,1,8,[.val (.int .u64) 0],some (.int .u64),false⟩),(123,⟨.arr 4 121,4,32,[.val (.arr 4 (.int .u64)) ([0,0,0,0])],some (.arr 4 (.int .u64)),true⟩),(125,⟨.struct [(0,3),(1,123),(5,3),(6,3),(7,3),(8,3),(9,3)],10,80,[.val (.int .i64) 0,.val (.arr 4 (.int .u64)) ([0,0,0,0]),.val (.int .i64) 0,.val (.int .i64) 0,.val (.int .i64) 0,.val (.int .i64) 0,.val (.int .i64) 0],some aT,true⟩),(127,⟨.arr 256 4,256,256,[.val (.arr 256 .bool) (List.replicate 256 false)],some (.arr 256 .bool),true⟩),(134,⟨.struct [(0,9),(1,3)],2,24,[.val .str [],.val (.int .i64) 0],some iL,true⟩),(147,⟨.func,1,8,[.val .opq Value.nilFunc],some .opq,false⟩),(149,⟨.slice 5,1,24,[.aZ],some (.slice (.int .u8)),false⟩),(173,⟨.arr 256 5,256,256,[.val (.arr 256 (.int .u8)) (List.replicate 256 0)],some (.arr 256 (.int .u8)),true⟩),(193,⟨.ptr 195,1,8,[.jC],none,false⟩),(195,⟨.struct [(0,193),(1,149)],2,32,[.jC,.aZ],none,false⟩),(198,⟨.iface false,1,16,[.val .err false],some .err,false⟩),(204,⟨.arr 256 4,256,256,[.val (.arr 256 .bool) (List.replicate 256 false)],some (.arr 256 .bool),true⟩),(208,⟨.ptr 204,1,8,[.jC],none,false⟩),(210,⟨.ptr 213,1,8,[.jC],none,false⟩),(211,⟨.arr 10 4,10,10,[.val (.arr 10 .bool) ([false,false,false,false,false,false,false,false,false,false])],some (.arr 10 .bool),true⟩),(213,⟨.struct [(0,9),(1,3),(2,85),(3,3),(4,211)],14,72,[.val .str [],.val (.int .i64) 0,.aZ,.val (.int .i64) 0,.val (.arr 10 .bool) ([false,false,false,false,false,false,false,false,false,false])],some yP,false⟩),(215,⟨.struct [(0,57),(1,3)],2,16,[.val (.int .i64) 0,.val (.int .i64) 0],some yPd,true⟩),(219,⟨.slice 3,1,24,[.aZ],some (.slice (.int .i64)),false⟩),(233,⟨.arr 2 3,2,16,[.val (.arr 2 (.int .i64)) ([0,0])],some (.arr 2 (.int .i64)),true⟩),(234,⟨.arr 7 233,14,112,[.val (.arr 7 (.arr 2 (.int .i64))) ([[0,0],[0,0],[0,0],[0,0],[0,0],[0,0],[0,0]])],some (.arr 7 (.arr 2 (.int .i64))),true⟩),(250,⟨.func,1,8,[.val .opq Value.nilFunc],some .opq,false⟩),(267,⟨.ptr 269,1,8,[.jC],none,false⟩),(269,⟨.struct [(0,9),(1,3)],2,24,[.val .str [],.val (.int .i64) 0],some iL,true⟩),(284,⟨.slice 123,1,24,[.aZ],some (.slice (.arr 4 (.int .u64))),false⟩)]
theorem aV:bU qEr tab:=Yc (by kernel_rfl)
theorem mixed:qEr.follows .mixedOrders=true:=by kernel_rfl
abbrev mJ:Sh:=⟨2,[⟨0,false,[.ptr 0 0]⟩,⟨1,false,[.v .str]⟩],dB⟩
abbrev kK:Sh:=⟨1,[⟨0,false,[.v .bool]⟩],dB⟩
abbrev Df:List Ty:=[.str,.int .i64]
abbrev Mf:List Ty:=[.str,.int .u8]
abbrev Ae:List Ty:=[.str]
abbrev tJ:List Ty:=[.arr 256 .bool,.bool]
abbrev uE:Sh:=⟨2,[⟨0,false,[.ptr 0 0]⟩,⟨1,false,[.v (.int .u8)]⟩],Xd⟩
abbrev nR:Sh:=⟨1,[⟨0,false,[.v .bool]⟩],Xd⟩
abbrev Jw:Sh:=⟨2,[⟨0,false,[.v .str]⟩,⟨1,false,[.ptr 0 0]⟩],Xd⟩
abbrev yX:Sh:=⟨1,[⟨0,false,[.v .str]⟩],Xd⟩
abbrev Ip:List Ty:=[.str,.str]
abbrev Ko:List Ty:=[.int .i64]
abbrev iV:Sh:=⟨1,[⟨0,false,[.ptr 0 0]⟩],dB⟩
abbrev gM:Sh:=⟨0,[],dB⟩
abbrev zDg:List Ty:=[.str,.int .i64,.str]
abbrev nE:Sh:=⟨1,[⟨0,false,[.v .str]⟩],dB⟩
abbrev Vg:List Ty:=[.int .i64,.int .i64,.int .i64]
abbrev fG:Sh:=⟨1,[⟨0,false,[.v (.int .i64)]⟩],[]⟩
abbrev fH:Sh:=⟨0,[],[]⟩
abbrev tK:Sh:=⟨2,[⟨0,false,[.ptr 0 0]⟩,⟨1,false,[.v (.int .i64)]⟩],dB⟩
abbrev oH:Sh:=⟨1,[⟨0,false,[.v (.int .i64)]⟩],dB⟩
abbrev oJ:Sh:=⟨1,[⟨0,false,[.v (.int .u8)]⟩],dB⟩
abbrev rT:Sh:=⟨2,[⟨0,false,[.ptr 0 0]⟩,⟨1,false,[.v .str]⟩],zHo⟩
abbrev lW:Sh:=⟨2,[⟨0,false,[.v (.int .i64)]⟩,⟨1,false,[.v .err]⟩],zHo⟩
abbrev zJg:Sh:=⟨3,[⟨0,false,[.v .str]⟩,⟨1,false,[.ptr 0 0]⟩,⟨2,false,[.ptr 1 0]⟩],zVx⟩
abbrev Vh:Sh:=⟨1,[⟨0,false,[.v .bool]⟩],zVx⟩
abbrev Cq:Sh:=⟨2,[⟨0,false,[.v .str]⟩,⟨1,false,[.clo 141 [(0,0),(1,0)]]⟩],zVx⟩
abbrev uF:Sh:=⟨1,[⟨0,false,[.v (.int .i64)]⟩],zVx⟩
abbrev oW:List Ty:=[.bool]
abbrev zQr:List Ty:=[.str,.int .i64,.int .u8]
abbrev zDh:List Ty:=[.str,.int .i64,.int .i64]
abbrev wV:Sh:=⟨2,[⟨0,false,[.ptr 0 0]⟩,⟨1,false,[.v (.int .u8)]⟩],dB⟩
abbrev qJ:Sh:=⟨2,[⟨0,false,[.ptr 0 0]⟩,⟨1,false,[.v .str]⟩],nW⟩
abbrev mK:Sh:=⟨1,[⟨0,false,[.v .bool]⟩],nW⟩
abbrev tL:Sh:=⟨2,[⟨0,false,[.ptr 0 0]⟩,⟨1,true,[.v (.int .i64),.v (.arr 4 (.int .u64)),.v (.int .i64),.v (.int .i64),.v (.int .i64),.v (.int .i64),.v (.int .i64)]⟩],nW⟩
abbrev pU:Sh:=⟨1,[⟨0,false,[.v (.int .i64)]⟩],nW⟩
abbrev Tz:Sh:=⟨1,[⟨0,false,[.ptr 0 0]⟩],nW⟩
abbrev zSo:List Ty:=[.arr 4 (.int .u64)]
abbrev Iq:Sh:=⟨2,[⟨0,false,[.ptr 0 0]⟩,⟨1,true,[.v (.arr 4 (.int .u64))]⟩],nW⟩
abbrev Ep:Sh:=⟨2,[⟨0,false,[.ptr 0 0]⟩,⟨1,false,[.v .str]⟩],Io⟩
abbrev yC:Sh:=⟨1,[⟨0,false,[.v .bool]⟩],Io⟩
abbrev Hz:Sh:=⟨1,[⟨0,false,[.ptr 0 0]⟩],Io⟩
abbrev Ia:Sh:=⟨0,[],Io⟩
abbrev Ib:Sh:=⟨1,[⟨0,true,[.v (.int .i64),.v (.int .i64)]⟩],Io⟩
abbrev Xe:List Ty:=[.int .u8,.int .u8]
abbrev zYy:List Ty:=[.slice (.arr 4 (.int .u64))]
abbrev zHq:List Ty:=[.arr 4 (.int .u64),.bool]
abbrev Vy:Sh:=⟨3,[⟨0,false,[.ptr 0 0]⟩,⟨1,false,[.v .bool]⟩,⟨2,false,[.v .bool]⟩],Io⟩
abbrev Ir:Sh:=⟨2,[⟨0,false,[.v (.int .u8)]⟩,⟨1,false,[.v .bool]⟩],Io⟩
abbrev zFf:Sh:=⟨2,[⟨0,false,[.ptr 0 0]⟩,⟨1,false,[.v .bool]⟩],Io⟩
abbrev Qr:Sh:=⟨1,[⟨0,true,[.v (.arr 4 (.int .u64))]⟩],Io⟩
abbrev zFg:Sh:=⟨2,[⟨0,false,[.ptr 0 0]⟩,⟨1,false,[.ptr 1 0]⟩],zOm⟩
abbrev Qt:Sh:=⟨0,[],zOm⟩
abbrev Qu:Sh:=⟨1,[⟨0,true,[.v (.int .i64),.v (.int .i64)]⟩],zOm⟩
abbrev vD:Sh:=⟨1,[⟨0,false,[.clo 206 [(0,0),(1,0)]]⟩],zOm⟩
abbrev Zi:List Ty:=[.arr 4 (.int .u64),.int .i64,.int .i64]
abbrev rV:Sh:=⟨3,[⟨0,false,[.ptr 0 0]⟩,⟨1,false,[.v (.int .i64)]⟩,⟨2,false,[.v (.int .i64)]⟩],nW⟩
abbrev rW:Sh:=⟨0,[],nW⟩
abbrev rX:Sh:=⟨1,[⟨0,true,[.v (.int .i64),.v (.int .i64)]⟩],nW⟩
abbrev Vz:Sh:=⟨2,[⟨0,false,[.ptr 0 0]⟩,⟨1,false,[.v (.int .i64)]⟩],nW⟩
abbrev Pv:Sh:=⟨2,[⟨0,false,[.ptr 0 0]⟩,⟨1,false,[.v .bool]⟩],nW⟩
abbrev zMb:Sh:=⟨2,[⟨0,false,[.ptr 0 0]⟩,⟨1,false,[.ptr 1 0]⟩],yHb⟩
abbrev Zk:Sh:=⟨0,[],yHb⟩
abbrev Zl:Sh:=⟨1,[⟨0,true,[.v (.int .i64),.v (.int .i64)]⟩],yHb⟩
abbrev xH:Sh:=⟨1,[⟨0,false,[.clo 137 [(0,0),(1,0)]]⟩],yHb⟩
abbrev zHr:List Ty:=[.slice aT,.int .i64,.int .i64]
abbrev Jz:Sh:=⟨2,[⟨0,false,[.ptr 0 0]⟩,⟨1,false,[.v .bool]⟩],dB⟩
abbrev zA:Sh:=⟨2,[⟨0,true,[.v (.int .i64),.v (.int .i64),.v (.int .i64)]⟩,⟨1,false,[.v .bool]⟩],dB⟩
abbrev zFh:List Ty:=[Fh]
abbrev yBb:List Ty:=[rQ]
abbrev zFi:Sh:=⟨2,[⟨0,false,[.ptr 0 0]⟩,⟨1,false,[.ptr 1 0]⟩],[.box 9 [.v .str],.box 75 [.own 2],.row 134 iL]⟩
abbrev Qw:Sh:=⟨0,[],[.box 9 [.v .str],.box 75 [.own 2],.row 134 iL]⟩
abbrev Zm:List Ty:=[.slice iL,.int .i64,.int .i64]
abbrev zQs:List Ty:=[.slice iL]
abbrev zFj:List Ty:=[aT]
abbrev Wh:List Ty:=[.slice (.int .i64),.int .i64]
abbrev yHd:List Ty:=[.slice aT,aT]
abbrev zQt:List Ty:=[.slice aT]
abbrev Ai:Sh:=⟨7,[⟨0,false,[.v (.int .i64)]⟩,⟨1,false,[.ptr 0 0]⟩,⟨2,false,[.ptr 1 0]⟩,⟨3,false,[.ptr 2 0]⟩,⟨4,false,[.ptr 3 0]⟩,⟨5,false,[.ptr 4 0]⟩,⟨6,false,[.ptr 5 0]⟩],xBl⟩
abbrev vT:Sh:=⟨0,[],xBl⟩
abbrev Zo:List Ty:=[.int .i64,.bool,.bool]
abbrev zQu:List Ty:=[]
abbrev zDk:List Ty:=[.arr 256 (.int .u8)]
abbrev zDl:List Ty:=[.arr 256 (.int .u8),.int .i64]
abbrev zJh:Sh:=⟨2,[⟨0,false,[.v .str]⟩,⟨1,false,[.ptr 0 0]⟩],zHo⟩
abbrev Vi:Sh:=⟨1,[⟨0,false,[.v .bool]⟩],zHo⟩
abbrev Cr:Sh:=⟨2,[⟨0,false,[.v .str]⟩,⟨1,false,[.clo 124 [(0,0)]]⟩],zHo⟩
abbrev uG:Sh:=⟨1,[⟨0,false,[.v (.int .i64)]⟩],zHo⟩
abbrev Gg:Sh:=⟨1,[⟨0,false,[.ptr 0 0]⟩],zSn⟩
abbrev wI:Sh:=⟨0,[],zSn⟩
abbrev Ka:Sh:=⟨2,[⟨0,false,[.ptr 0 0]⟩,⟨1,false,[.v .str]⟩],zSn⟩
abbrev zC:Sh:=⟨1,[⟨0,false,[.v .str]⟩],zSn⟩
abbrev zF:Sh:=⟨1,[⟨0,false,[.v (.int .i64)]⟩],zSn⟩
abbrev wJ:Sh:=⟨1,[⟨0,false,[.ptr 0 0]⟩],yYz⟩
abbrev Gh:Sh:=⟨1,[⟨0,false,[.v .str]⟩],yYz⟩
abbrev Gi:Sh:=⟨1,[⟨0,false,[.v (.int .i64)]⟩],yYz⟩
abbrev Ke:Sh:=⟨2,[⟨0,false,[.ptr 0 0]⟩,⟨1,false,[.mp 1]⟩],yHa⟩
abbrev zI:Sh:=⟨0,[],yHa⟩
abbrev zJ:Sh:=⟨1,[⟨0,false,[.v (.int .i64)]⟩],yHa⟩
abbrev mM:Sh:=⟨1,[⟨0,false,[.clo 1000030 [(0,0)]]⟩],dB⟩
abbrev Vj:List Ty:=[.str,.bool]
abbrev Kq:List Ty:=[iH,.int .i64,.int .i64]
def zMh (n:Nat):An (kK.X) := .nil
theorem kG(n:Nat):dV qEr 49 mJ kK (dG n):=
 dO (Γ:=bA _ [(81,bN lG lH (strings_IndexByte n))] []) (an:=zMh n) (co:=[.gc [0,1,2,3,4,5]]) Tryz.func49 rfl (by kernel_rfl) aV (aG (all_cons (aN (kF n)) (all_nil)) (aH)) mixed (aF _ _ rfl) (by kernel_rfl) (by kernel_rfl) (λx=>by kernel_rfl)
def yHf (n:Nat):An (bT Df) := .nil
theorem yD(n:Nat):Pure qEr 110 Df Df (lU n):=
 bH (Γ:=bA _ [] []) (an:=yHf n) Tryz.func110 rfl (by kernel_rfl) aV (aG (all_nil) (aH)) mixed (aF _ _ rfl) (λx=>by kernel_rfl)
def zDo (n:Nat):An (bT Ae):=(.mk .nil (.mk (.mk (.loop ⟨17,[⟨0,false,[.v .str]⟩,⟨1,false,[.v (.int .u8)]⟩],[]⟩ [.keep [true,true],.gcA 0,.gcA 0] [.keep [true,true],.gcA 0,.gcA 0] n .nil) .nil []) .nil []) [])
theorem Xf(n:Nat):Pure qEr 146 Mf Ae (strings_trimLeftByte n):=
 bH (Γ:=bA _ [] []) (an:=zDo n) Tryz.func146 rfl (by kernel_rfl) aV (aG (all_nil) (aH)) mixed (aF _ _ rfl) (λx=>by kernel_rfl)
def zDp (n:Nat):An (bT tJ):=(.mk .nil (.mk (.mk .nil (.mk (.loop ⟨21,[⟨0,false,[.v .str]⟩,⟨2,false,[.ptr 0 0]⟩,⟨4,false,[.v (.int .i64)]⟩],Xd⟩ [.keep [true,false,true,false,true],.gcA 0,.gcA 0] [.keep [true,false,true,false,true],.gcA 0,.gcA 0] n .nil) .nil []) []) .nil []) [])
theorem Er(n:Nat):Pure qEr 131 Ae tJ (strings_makeASCIISet n):=
 bH (Γ:=bA _ [] []) (an:=zDp n) Tryz.func131 rfl (by kernel_rfl) aV (aG (all_nil) (aH)) mixed (aF _ _ rfl) (λx=>by kernel_rfl)
def Ub (n:Nat):An (nR.X) := .nil
theorem xC(n:Nat):dV qEr 149 uE nR (gF n):=
 dO (Γ:=bA _ [] []) (an:=Ub n) (co:=[.gc [0]]) Tryz.func149 rfl (by kernel_rfl) aV (aG (all_nil) (aH)) mixed (aF _ _ rfl) (by kernel_rfl) (by kernel_rfl) (λx=>by kernel_rfl)
def zBd (n:Nat):An (yX.X):=(.mk .nil (.mk (.mk (.loop ⟨16,[⟨0,false,[.v .str]⟩,⟨1,false,[.ptr 0 0]⟩],Xd⟩ [.keep [true,true],.gcA 1,.gcA 1] [.keep [true,true],.gcA 1,.gcA 1] n .nil) .nil []) .nil []) [])
theorem Uc(n:Nat):dV qEr 147 Jw yX (strings_trimLeftASCII n):=
 dO (Γ:=bA _ [(149,peM uE nR (gF n))] []) (an:=zBd n) (co:=[.gc [0]]) Tryz.func147 rfl (by kernel_rfl) aV (aG (all_cons (bF (xC n)) (all_nil)) (aH)) mixed (aF _ _ rfl) (by kernel_rfl) (by kernel_rfl) (λx=>by kernel_rfl)
def zMi (n:Nat):An (bT Ae) := .nil
theorem Mh(n:Nat):Pure qEr 129 Ip Ae (jU n):=
 bH (Γ:=bA _ [(146,bN Mf Ae (strings_trimLeftByte n)),(131,bN Ae tJ (strings_makeASCIISet n)),(147,peM Jw yX (strings_trimLeftASCII n))] []) (an:=zMi n) Tryz.func129 rfl (by kernel_rfl) aV (aG (all_cons (aN (Xf n)) (all_cons (aN (Er n)) (all_cons (bF (Uc n)) (all_nil)))) (aH)) mixed (aF _ _ rfl) (λx=>by kernel_rfl)
def zYz (n:Nat):An (bT Ko) := .nil
theorem Wi(n:Nat):Pure qEr 109 Df Ko (nM n):=
 bH (Γ:=bA _ [(110,bN Df Df (lU n)),(129,bN Ip Ae (jU n))] []) (an:=zYz n) Tryz.func109 rfl (by kernel_rfl) aV (aG (all_cons (aN (yD n)) (all_cons (aN (Mh n)) (all_nil))) (aH)) mixed (aF _ _ rfl) (λx=>by kernel_rfl)
def zDq (n:Nat):An (gM.X) := .nil
theorem gZ(n:Nat):dV qEr 82 iV gM (bR n):=
 dO (Γ:=bA _ [(109,bN Df Ko (nM n))] []) (an:=zDq n) (co:=[.gc [0,1,2,3,4,5]]) Tryz.func82 rfl (by kernel_rfl) aV (aG (all_cons (aN (Wi n)) (all_nil)) (aH)) mixed (aF _ _ rfl) (by kernel_rfl) (by kernel_rfl) (λx=>by kernel_rfl)
def zBe (n:Nat):An (bT Ae):=(.mk .nil (.mk (.mk (.loop ⟨23,[⟨0,false,[.v .str]⟩,⟨1,false,[.v (.int .u8)]⟩],[]⟩ [.keep [true,true],.gcA 0,.gcA 0] [.keep [true,true],.gcA 0,.gcA 0] n .nil) .nil []) .nil []) [])
theorem Vk(n:Nat):Pure qEr 130 Mf Ae (strings_trimRightByte n):=
 bH (Γ:=bA _ [] []) (an:=zBe n) Tryz.func130 rfl (by kernel_rfl) aV (aG (all_nil) (aH)) mixed (aF _ _ rfl) (λx=>by kernel_rfl)
def Zq (n:Nat):An (yX.X):=(.mk .nil (.mk (.mk (.loop ⟨22,[⟨0,false,[.v .str]⟩,⟨1,false,[.ptr 0 0]⟩],Xd⟩ [.keep [true,true],.gcA 1,.gcA 1] [.keep [true,true],.gcA 1,.gcA 1] n .nil) .nil []) .nil []) [])
theorem Qz(n:Nat):dV qEr 132 Jw yX (strings_trimRightASCII n):=
 dO (Γ:=bA _ [(149,peM uE nR (gF n))] []) (an:=Zq n) (co:=[.gc [0]]) Tryz.func132 rfl (by kernel_rfl) aV (aG (all_cons (bF (xC n)) (all_nil)) (aH)) mixed (aF _ _ rfl) (by kernel_rfl) (by kernel_rfl) (λx=>by kernel_rfl)
def zJq (n:Nat):An (bT Ae) := .nil
theorem zDr(n:Nat):Pure qEr 111 Ip Ae (kH n):=
 bH (Γ:=bA _ [(130,bN Mf Ae (strings_trimRightByte n)),(131,bN Ae tJ (strings_makeASCIISet n)),(132,peM Jw yX (strings_trimRightASCII n))] []) (an:=zJq n) Tryz.func111 rfl (by kernel_rfl) aV (aG (all_cons (aN (Vk n)) (all_cons (aN (Er n)) (all_cons (bF (Qz n)) (all_nil)))) (aH)) mixed (aF _ _ rfl) (λx=>by kernel_rfl)
def yHg (n:Nat):An (bT Df):=(.mk .nil (.mk .nil (.mk .nil (.mk (.mk (.loop ⟨43,[⟨1,false,[.v (.int .i64)]⟩,⟨2,false,[.v .str]⟩,⟨8,false,[.v .str]⟩,⟨9,false,[.v (.int .i64)]⟩],[]⟩ [.keep (kbm 10 774),.gcA 0,.gcA 0] [.keep (kbm 10 774),.gcA 0,.gcA 0] n .nil) .nil []) .nil []) []) []) [])
theorem zCm(n:Nat):Pure qEr 83 zDg Df (sD n):=
 bH (Γ:=bA _ [(110,bN Df Df (lU n)),(81,bN lG lH (strings_IndexByte n)),(111,bN Ip Ae (kH n))] []) (an:=yHg n) Tryz.func83 rfl (by kernel_rfl) aV (aG (all_cons (aN (yD n)) (all_cons (aN (kF n)) (all_cons (aN (zDr n)) (all_nil)))) (aH)) mixed (aF _ _ rfl) (λx=>by kernel_rfl)
def zHt (n:Nat):An (nE.X) := .nil
theorem pY(n:Nat):dV qEr 50 mJ nE (eB n):=
 dO (Γ:=bA _ [(82,peM iV gM (bR n)),(83,bN zDg Df (sD n))] []) (an:=zHt n) (co:=[.gc [0,1,2,3,4,5]]) Tryz.func50 rfl (by kernel_rfl) aV (aG (all_cons (bF (gZ n)) (all_cons (aN (zCm n)) (all_nil))) (aH)) mixed (aF _ _ rfl) (by kernel_rfl) (by kernel_rfl) (λx=>by kernel_rfl)
def zZa (n:Nat):An (bT Vg) := .nil
theorem zOx(n:Nat):Pure qEr 127 Df Vg (Fj n):=
 bH (Γ:=bA _ [(110,bN Df Df (lU n)),(129,bN Ip Ae (jU n)),(145,bN Tq Tt (uO n))] []) (an:=zZa n) Tryz.func127 rfl (by kernel_rfl) aV (aG (all_cons (aN (yD n)) (all_cons (aN (Mh n)) (all_cons (aN (zDf n)) (all_nil)))) (aH)) mixed (aF _ _ rfl) (λx=>by kernel_rfl)
theorem dD(n:Nat):dA qEr 52 fG fH 57 fG (bB n):=yKc (λx=>⟨_,_,rfl,rfl,rfl⟩)
def zDs (n:Nat):An (Sum oH.X oH.X) := .nil
theorem uH(n:Nat):dA qEr 107 tK oH 57 oH (dY n):=
 dP (Γ:=bA _ [(127,bN Df Vg (Fj n))] [geP 52 fG fH 57 fG (bB n)]) (an:=zDs n) (co:=[.gc [0,1,2,3,4,5]]) (cp:=[.gc [0,1,2,3,4,5]]) Tryz.func107 rfl (by kernel_rfl) aV (aG (all_cons (aN (zOx n)) (all_nil)) (aW (bO (dD n)) (aH))) mixed (aF _ _ rfl) (by kernel_rfl) (by kernel_rfl) (by kernel_rfl) (λx=>by kernel_rfl)
def zHu (n:Nat):An (kK.X) := .nil
theorem wK(n:Nat):dV qEr 85 mJ kK (dK n):=
 dO (Γ:=bA _ [(49,peM mJ kK (dG n))] []) (an:=zHu n) (co:=[.gc [0,1,2,3,4,5]]) Tryz.func85 rfl (by kernel_rfl) aV (aG (all_cons (bF (kG n)) (all_nil)) (aH)) mixed (aF _ _ rfl) (by kernel_rfl) (by kernel_rfl) (λx=>by kernel_rfl)
def zJr (n:Nat):An (Sum oJ.X oH.X) := .nil
theorem qU(n:Nat):dA qEr 86 iV oJ 57 oH (fP n):=
 dP (Γ:=bA _ [] [geP 52 fG fH 57 fG (bB n)]) (an:=zJr n) (co:=[.gc [0,1,2,3,4,5]]) (cp:=[.gc [0,1,2,3,4,5]]) Tryz.func86 rfl (by kernel_rfl) aV (aG (all_nil) (aW (bO (dD n)) (aH))) mixed (aF _ _ rfl) (by kernel_rfl) (by kernel_rfl) (by kernel_rfl) (λx=>by kernel_rfl)
def Pk (n:Nat):An (lW.X) := .nil
theorem vL(n:Nat):dV qEr 125 rT lW (eT n):=
 dO (Γ:=bA _ [(144,peM Qn Qo (Kl n))] []) (an:=Pk n) (co:=[.gc [0,1]]) Tryz.func125 rfl (by kernel_rfl) aV (aG (all_cons (bF (zJp n)) (all_nil)) (aH)) mixed (aF _ _ rfl) (by kernel_rfl) (by kernel_rfl) (λx=>by kernel_rfl)
def zZb (n:Nat):An (Vh.X) := .nil
theorem zMj(n:Nat):dV qEr 141 zJg Vh (sQ n):=
 dO (Γ:=bA _ [(125,peM rT lW (eT n))] []) (an:=zZb n) (co:=[.gc [0,1,2]]) Tryz.func141 rfl (by kernel_rfl) aV (aG (all_cons (bF (vL n)) (all_nil)) (aH)) mixed (aF _ _ rfl) (by kernel_rfl) (by kernel_rfl) (λx=>by kernel_rfl)
def Ud (n:Nat):An (uF.X):=(.mk .nil (.mk (.mk .nil (.mk .nil (.mk (.mk (.loop ⟨35,[⟨0,false,[.v .str]⟩,⟨1,false,[.clo 141 [(0,0),(1,0)]]⟩,⟨5,false,[.v (.int .i64)]⟩],zVx⟩ [.keep (kbm 6 35),.gcA 3,.gcA 3] [.keep (kbm 6 35),.gcA 3,.gcA 3] n .nil) .nil []) .nil []) []) []) .nil []) [])
theorem Mq(n:Nat):dV qEr 123 Cq uF (kM n):=
 dO (Γ:=bA _ [(141,peM zJg Vh (sQ n))] []) (an:=Ud n) (co:=[.gc [0,1,2]]) Tryz.func123 rfl (by kernel_rfl) aV (aG (all_cons (bF (zMj n)) (all_nil)) (aH)) mixed (aF _ _ rfl) (by kernel_rfl) (by kernel_rfl) (λx=>by kernel_rfl)
def Lf (n:Nat):An (bT oW) := .nil
theorem Ic(n:Nat):Pure qEr 46 Ip oW (iC n):=
 bH (Γ:=bA _ [] []) (an:=Lf n) Tryz.func46 rfl (by kernel_rfl) aV (aG (all_nil) (aH)) mixed (aF _ _ rfl) (λx=>by kernel_rfl)
def zJs (n:Nat):An (bT oW) := .nil
theorem iJ(n:Nat):Pure qEr 28 Ip oW (strings_HasPrefix n):=
 bH (Γ:=bA _ [(46,bN Ip oW (iC n))] []) (an:=zJs n) Tryz.func28 rfl (by kernel_rfl) aV (aG (all_cons (aN (Ic n)) (all_nil)) (aH)) mixed (aF _ _ rfl) (λx=>by kernel_rfl)
def yHh (n:Nat):An (bT zDh):=(.mk .nil (.mk .nil (.mk .nil (.mk .nil (.mk .nil (.mk (.co [.ownB 2 1 149,.orn 2 0 2 0] .nil) .nil []) []) []) []) []) [])
theorem zWb(n:Nat):Pure qEr 119 zQr zDh (Nr n):=
 bH (Γ:=bA _ [(110,bN Df Df (lU n)),(123,peM Cq uF (kM n)),(28,bN Ip oW (strings_HasPrefix n)),(126,peM Qn yB (Builder_String n))] []) (an:=yHh n) Tryz.func119 rfl (by kernel_rfl) aV (aG (all_cons (aN (yD n)) (all_cons (bF (Mq n)) (all_cons (aN (iJ n)) (all_cons (bF (Oh n)) (all_nil))))) (aH)) mixed (aF _ _ rfl) (λx=>by kernel_rfl)
def yCa (n:Nat):An (Sum fH.X fG.X) := .nil
theorem uS(n:Nat):dA qEr 100 fG fH 57 fG (iI n):=
 dP (Γ:=bA _ [] [geP 52 fG fH 57 fG (bB n)]) (an:=yCa n) (co:=[.gc []]) (cp:=[.gc []]) Tryz.func100 rfl (by kernel_rfl) aV (aG (all_nil) (aW (bO (dD n)) (aH))) mixed (aF _ _ rfl) (by kernel_rfl) (by kernel_rfl) (by kernel_rfl) (λx=>by kernel_rfl)
def zHv (n:Nat):An (Sum nE.X oH.X) := .nil
theorem wL(n:Nat):dA qEr 99 wV nE 57 oH (fB n):=
 dP (Γ:=bA _ [(119,bN zQr zDh (Nr n))] [geP 100 fG fH 57 fG (iI n)]) (an:=zHv n) (co:=[.gc [0,1,2,3,4,5]]) (cp:=[.gc [0,1,2,3,4,5]]) Tryz.func99 rfl (by kernel_rfl) aV (aG (all_cons (aN (zWb n)) (all_nil)) (aW (bO (uS n)) (aH))) mixed (aF _ _ rfl) (by kernel_rfl) (by kernel_rfl) (by kernel_rfl) (λx=>by kernel_rfl)
def zMk (n:Nat):An (mK.X) := .nil
theorem nO(n:Nat):dV qEr 158 qJ mK (bL n):=
 dO (Γ:=bA _ [(28,bN Ip oW (strings_HasPrefix n))] []) (an:=zMk n) (co:=[.gc [0,1]]) Tryz.func158 rfl (by kernel_rfl) aV (aG (all_cons (aN (iJ n)) (all_nil)) (aH)) mixed (aF _ _ rfl) (by kernel_rfl) (by kernel_rfl) (λx=>by kernel_rfl)
def zOy (n:Nat):An (mK.X) := .nil
theorem tN(n:Nat):dV qEr 155 qJ mK (dQ n):=
 dO (Γ:=bA _ [(158,peM qJ mK (bL n))] []) (an:=zOy n) (co:=[.gc [0,1]]) Tryz.func155 rfl (by kernel_rfl) aV (aG (all_cons (bF (nO n)) (all_nil)) (aH)) mixed (aF _ _ rfl) (by kernel_rfl) (by kernel_rfl) (λx=>by kernel_rfl)
def zSr (n:Nat):An (pU.X) := .nil
theorem qA(n:Nat):dV qEr 156 tL pU (dJ n):=
 dO (Γ:=bA _ [] []) (an:=zSr n) (co:=[.gc [0,1]]) Tryz.func156 rfl (by kernel_rfl) aV (aG (all_nil) (aH)) mixed (aF _ _ rfl) (by kernel_rfl) (by kernel_rfl) (λx=>by kernel_rfl)
def zJt (n:Nat):An (mK.X) := .nil
theorem zBf(n:Nat):dV qEr 157 Tz mK (uL n):=
 dO (Γ:=bA _ [(158,peM qJ mK (bL n))] []) (an:=zJt n) (co:=[.gc [0,1]]) Tryz.func157 rfl (by kernel_rfl) aV (aG (all_cons (bF (nO n)) (all_nil)) (aH)) mixed (aF _ _ rfl) (by kernel_rfl) (by kernel_rfl) (λx=>by kernel_rfl)
def yUh (n:Nat):An (bT zSo):=(.mk .nil (.mk (.mk .nil (.mk (.loop ⟨15,[⟨1,false,[.ptr 0 0]⟩,⟨2,false,[.ptr 1 0]⟩,⟨4,false,[.v (.int .i64)]⟩],[.box 123 [.v (.arr 4 (.int .u64))],.box 123 [.v (.arr 4 (.int .u64))]]⟩ [.keep [false,true,true,false,true],.gcA 0,.gcA 0] [.keep [false,true,true,false,true],.gcA 0,.gcA 0] n .nil) .nil []) []) .nil []) [])
theorem zMl(n:Nat):Pure qEr 189 zSo zSo (Xv n):=
 bH (Γ:=bA _ [] []) (an:=yUh n) Tryz.func189 rfl (by kernel_rfl) aV (aG (all_nil) (aH)) mixed (aF _ _ rfl) (λx=>by kernel_rfl)
def zMm (n:Nat):An (pU.X) := .nil
theorem Kg(n:Nat):dV qEr 188 Iq pU (dZ n):=
 dO (Γ:=bA _ [(156,peM tL pU (dJ n))] []) (an:=zMm n) (co:=[.gc [0,1]]) Tryz.func188 rfl (by kernel_rfl) aV (aG (all_cons (bF (qA n)) (all_nil)) (aH)) mixed (aF _ _ rfl) (by kernel_rfl) (by kernel_rfl) (λx=>by kernel_rfl)
def zSs (n:Nat):An (yC.X) := .nil
theorem Cb(n:Nat):dV qEr 219 Ep yC (gH n):=
 dO (Γ:=bA _ [(28,bN Ip oW (strings_HasPrefix n))] []) (an:=zSs n) (co:=[.gc [0]]) Tryz.func219 rfl (by kernel_rfl) aV (aG (all_cons (aN (iJ n)) (all_nil)) (aH)) mixed (aF _ _ rfl) (by kernel_rfl) (by kernel_rfl) (λx=>by kernel_rfl)
def zWc (n:Nat):An (yC.X) := .nil
theorem Dy(n:Nat):dV qEr 207 Ep yC (fO n):=
 dO (Γ:=bA _ [(219,peM Ep yC (gH n))] []) (an:=zWc n) (co:=[.gc [0]]) Tryz.func207 rfl (by kernel_rfl) aV (aG (all_cons (bF (Cb n)) (all_nil)) (aH)) mixed (aF _ _ rfl) (by kernel_rfl) (by kernel_rfl) (λx=>by kernel_rfl)
theorem Dz(n:Nat):dA qEr 208 Hz Ia 215 Ib (bY n):=zVp (λx=>⟨_,_,rfl,rfl,rfl⟩)
def yKh (n:Nat):An (bT zSo):=(.mk .nil (.mk (.mk .nil (.mk (.loop ⟨24,[⟨1,false,[.v (.int .u8)]⟩,⟨4,false,[.ptr 0 0]⟩,⟨5,false,[.v (.int .i64)]⟩],[.box 123 [.v (.arr 4 (.int .u64))]]⟩ [.keep (kbm 6 50),.gcA 0,.gcA 0] [.keep (kbm 6 50),.gcA 0,.gcA 0] n .nil) .nil []) []) .nil []) [])
theorem Ra(n:Nat):Pure qEr 195 Xe zSo (dW n):=
 bH (Γ:=bA _ [] []) (an:=yKh n) Tryz.func195 rfl (by kernel_rfl) aV (aG (all_nil) (aH)) mixed (aF _ _ rfl) (λx=>by kernel_rfl)
def yZa (n:Nat):An (bT zSo):=(.mk .nil (.mk (.mk .nil (.mk (.loop ⟨26,[⟨2,false,[.ptr 0 0]⟩,⟨6,false,[.v (.slice (.arr 4 (.int .u64)))]⟩,⟨7,false,[.v (.int .i64)]⟩,⟨8,false,[.v (.int .i64)]⟩],[.box 123 [.v (.arr 4 (.int .u64))]]⟩ [.keep (kbm 9 452),.gcA 0,.gcA 0] [.keep (kbm 9 452),.gcA 0,.gcA 0] n (.mk .nil (.mk .nil (.mk (.mk (.mk .nil (.mk .nil (.mk (.loop ⟨26,[⟨2,false,[.ptr 0 0]⟩,⟨4,false,[.ptr 1 0]⟩,⟨6,false,[.v (.slice (.arr 4 (.int .u64)))]⟩,⟨7,false,[.v (.int .i64)]⟩,⟨8,false,[.v (.int .i64)]⟩,⟨12,false,[.v (.int .i64)]⟩],[.box 123 [.v (.arr 4 (.int .u64))],.box 123 [.v (.arr 4 (.int .u64))]]⟩ [.keep (kbm 13 4564),.gcA 0,.gcA 0] [.keep (kbm 13 4564),.gcA 0,.gcA 0] n .nil) .nil []) []) []) .nil []) .nil []) []) [])) .nil []) []) .nil []) [])
theorem zQx(n:Nat):Pure qEr 209 zYy zSo (vV n):=
 bH (Γ:=bA _ [] []) (an:=yZa n) Tryz.func209 rfl (by kernel_rfl) aV (aG (all_nil) (aH)) mixed (aF _ _ rfl) (λx=>by kernel_rfl)
def yZb (n:Nat):An (bT zSo):=(.mk .nil (.mk (.mk .nil (.mk (.loop ⟨24,[⟨0,false,[.v .str]⟩,⟨2,false,[.ptr 0 0]⟩,⟨5,false,[.v (.int .i64)]⟩,⟨6,false,[.v (.int .i64)]⟩],[.box 123 [.v (.arr 4 (.int .u64))]]⟩ [.keep (kbm 7 101),.gcA 0,.gcA 0] [.keep (kbm 7 101),.gcA 0,.gcA 0] n .nil) .nil []) []) .nil []) [])
theorem zDt(n:Nat):Pure qEr 170 Ae zSo (xW n):=
 bH (Γ:=bA _ [] []) (an:=yZb n) Tryz.func170 rfl (by kernel_rfl) aV (aG (all_nil) (aH)) mixed (aF _ _ rfl) (λx=>by kernel_rfl)
def yKi (n:Nat):An (bT zHq) := .nil
theorem zZc(n:Nat):Pure qEr 220 Ae zHq (Tc n):=
 bH (Γ:=bA _ [(195,bN Xe zSo (dW n)),(209,bN zYy zSo (vV n)),(170,bN Ae zSo (xW n))] []) (an:=yKi n) Tryz.func220 rfl (by kernel_rfl) aV (aG (all_cons (aN (Ra n)) (all_cons (aN (zQx n)) (all_cons (aN (zDt n)) (all_nil)))) (aH)) mixed (aF _ _ rfl) (λx=>by kernel_rfl)
def zMn (n:Nat):An (Sum Ir.X Ib.X):=(.mk .nil (.mk (.mk .nil (.mk (.loop ⟨132,[⟨0,false,[.ptr 0 0]⟩,⟨1,false,[.v .bool]⟩,⟨2,false,[.v .bool]⟩,⟨12,false,[.own 1]⟩,⟨13,false,[.v (.int .i64)]⟩,⟨14,false,[.v (.int .i64)]⟩],[.box 269 [.v .str,.v (.int .i64)],.row 9 .str]⟩ [.keep (kbm 106 28679),.gcA 1,.gcA 1] [.keep (kbm 106 28679),.gcA 1,.gcA 1] n (.mk .nil (.mk .nil (.mk (.mk (.mk .nil (.mk .nil (.mk (.join ⟨132,[⟨0,false,[.ptr 0 0]⟩,⟨9,false,[.v .str]⟩],Io⟩ [.keep (kbm 10 513),.gcA 1] .nil) .nil []) []) []) .nil []) .nil []) []) [])) .nil []) []) (.mk .nil (.mk (.join ⟨132,[⟨0,false,[.ptr 0 0]⟩,⟨1,false,[.v .bool]⟩,⟨11,false,[.v .bool]⟩],Io⟩ [.keep (kbm 106 2051),.gcA 1] .nil) (.mk (.join ⟨132,[⟨0,false,[.ptr 0 0]⟩],Io⟩ [.keep [true],.gcA 1] .nil) .nil []) []) []) []) [])
theorem zDu(n:Nat):dA qEr 221 Vy Ir 215 Ib (rP n):=
 dP (Γ:=bA _ [(207,peM Ep yC (fO n)),(28,bN Ip oW (strings_HasPrefix n)),(219,peM Ep yC (gH n))] [geP 208 Hz Ia 215 Ib (bY n)]) (an:=zMn n) (co:=[.gc [0]]) (cp:=[.gc [0]]) Tryz.func221 rfl (by kernel_rfl) aV (aG (all_cons (bF (Dy n)) (all_cons (aN (iJ n)) (all_cons (bF (Cb n)) (all_nil)))) (aW (bO (Dz n)) (aH))) mixed (aF _ _ rfl) (by kernel_rfl) (by kernel_rfl) (by kernel_rfl) (λx=>by kernel_rfl)
def zWd (n:Nat):An (Sum Qr.X Ib.X) := .nil
theorem zJu(n:Nat):dA qEr 210 zFf Qr 215 Ib (tY n):=
 dP (Γ:=bA _ [(207,peM Ep yC (fO n)),(212,bN zLw zLx (strings_Cut n)),(220,bN Ae zHq (Tc n)),(219,peM Ep yC (gH n)),(195,bN Xe zSo (dW n))] [geP 208 Hz Ia 215 Ib (bY n),geP 221 Vy Ir 215 Ib (rP n)]) (an:=zWd n) (co:=[.gc [0]]) (cp:=[.gc [0]]) Tryz.func210 rfl (by kernel_rfl) aV (aG (all_cons (bF (Dy n)) (all_cons (aN (zSi n)) (all_cons (aN (zZc n)) (all_cons (bF (Cb n)) (all_cons (aN (Ra n)) (all_nil)))))) (aW (bO (Dz n)) (aW (bO (zDu n)) (aH)))) mixed (aF _ _ rfl) (by kernel_rfl) (by kernel_rfl) (by kernel_rfl) (λx=>by kernel_rfl)
def zWe (n:Nat):An (Sum Qt.X Qu.X):=(.mk .nil (.mk .nil (.mk (.mk .nil (.mk (.loop ⟨31,[⟨0,false,[.ptr 0 0]⟩,⟨1,false,[.ptr 1 0]⟩,⟨2,false,[.v .bool]⟩,⟨3,false,[.v .bool]⟩],zOm⟩ [.keep [true,true,true,true],.gcA 3,.gcA 3] [.keep [true,true,true,true],.gcA 3,.gcA 3] n .nil) .nil []) []) .nil []) []) [])
theorem zJv(n:Nat):dA qEr 206 zFg Qt 215 Qu (qK n):=
 dP (Γ:=bA _ [(207,peM Ep yC (fO n)),(209,bN zYy zSo (vV n)),(189,bN zSo zSo (Xv n))] [geP 208 Hz Ia 215 Ib (bY n),geP 210 zFf Qr 215 Ib (tY n)]) (an:=zWe n) (co:=[.gc [0,1,2]]) (cp:=[.gc [0,1,2]]) Tryz.func206 rfl (by kernel_rfl) aV (aG (all_cons (bF (Dy n)) (all_cons (aN (zQx n)) (all_cons (aN (zMl n)) (all_nil)))) (aW (bO (Dz n)) (aW (bO (zJu n)) (aH)))) mixed (aF _ _ rfl) (by kernel_rfl) (by kernel_rfl) (by kernel_rfl) (λx=>by kernel_rfl)
theorem Ou(n:Nat):dV qEr 136 vD Qu (iQ n):=
 zQn (si:=vD) (so:=Qu) (sp:=Qu) (sd:=zFg) (od:=Qt) (F:=qK n) (G:=iQ n) (conv:=λx=>x) (o1:=λy=>(0,0,y)) (o2:=λz=>z) (zJv n) rfl (λx=>⟨rfl,rfl⟩) (λx=>by unfold iQ ob2;cases qK n x with|none=>rfl|some r=>cases r<;>rfl) (λy=>⟨rfl,rfl⟩) (λz=>⟨_,_,rfl,rfl⟩)
def yCb (n:Nat):An (bT Zi) := .nil
theorem zSt(n:Nat):Pure qEr 190 Ae Zi (yS n):=
 bH (Γ:=bA _ [(136,peM vD Qu (iQ n))] []) (an:=yCb n) Tryz.func190 rfl (by kernel_rfl) aV (aG (all_cons (bF (Ou n)) (all_nil)) (aH)) mixed (aF _ _ rfl) (λx=>by kernel_rfl)
theorem oL(n:Nat):dA qEr 139 rV rW 215 rX (aR n):=zOu (λx=>⟨_,_,_,_,rfl,rfl,rfl⟩)
def zJw (n:Nat):An (pU.X):=(.mk .nil (.mk .nil (.mk (.mk (.loop ⟨67,[⟨0,false,[.ptr 0 0]⟩,⟨3,false,[.v (.int .i64)]⟩],nW⟩ [.keep [true,false,false,true],.gcA 2,.gcA 2] [.keep [true,false,false,true],.gcA 2,.gcA 2] n .nil) .nil []) .nil []) []) [])
theorem zBg(n:Nat):dV qEr 187 Tz pU (qG n):=
 dO (Γ:=bA _ [(205,bN zJc zJd (strconv_Atoi n))] []) (an:=zJw n) (co:=[.gc [0,1]]) Tryz.func187 rfl (by kernel_rfl) aV (aG (all_cons (aN (zOv n)) (all_nil)) (aH)) mixed (aF _ _ rfl) (by kernel_rfl) (by kernel_rfl) (λx=>by kernel_rfl)
def zMo (n:Nat):An (Sum pU.X rX.X):=(.mk .nil (.scope 0 .nil .nil) [])
theorem zDv(n:Nat):dA qEr 159 Vz pU 215 rX (vX n):=
 dP (Γ:=bA _ [(155,peM qJ mK (dQ n)),(156,peM tL pU (dJ n)),(158,peM qJ mK (bL n)),(187,peM Tz pU (qG n))] [geP 139 rV rW 215 rX (aR n)]) (an:=zMo n) (co:=[.gc [0,1]]) (cp:=[.gc [0,1]]) Tryz.func159 rfl (by kernel_rfl) aV (aG (all_cons (bF (tN n)) (all_cons (bF (qA n)) (all_cons (bF (nO n)) (all_cons (bF (zBg n)) (all_nil))))) (aW (bO (oL n)) (aH))) mixed (aF _ _ rfl) (by kernel_rfl) (by kernel_rfl) (by kernel_rfl) (λx=>by kernel_rfl)
def zMp (n:Nat):An (Sum pU.X rX.X) := .nil
theorem zDw(n:Nat)(aX:(List UInt8 × Int × Int × List (Bool) × List (Int × List (Int) × Int × Int × Int × Int × Int × Unit) × Unit)->Option (Sum (Int × List UInt8 × Int × Int × List (Bool) × List (Int × List (Int) × Int × Int × Int × Int × Int × Unit) × Unit) (Int × Int × List UInt8 × Int × Int × List (Bool) × List (Int × List (Int) × Int × Int × Int × Int × Int × Unit) × Unit)))(nX:dA qEr 138 Tz pU 215 rX aX):dA qEr 211 Vz pU 215 rX (vY n aX):=
 dP (Γ:=bA _ [(155,peM qJ mK (dQ n)),(156,peM tL pU (dJ n))] [geP 139 rV rW 215 rX (aR n),geP 138 Tz pU 215 rX (aX)]) (an:=zMp n) (co:=[.gc [0,1]]) (cp:=[.gc [0,1]]) Tryz.func211 rfl (by kernel_rfl) aV (aG (all_cons (bF (tN n)) (all_cons (bF (qA n)) (all_nil))) (aW (bO (oL n)) (aW (bO (nX)) (aH)))) mixed (aF _ _ rfl) (by kernel_rfl) (by kernel_rfl) (by kernel_rfl) (λx=>by kernel_rfl)
def zHw (n:Nat):An (Sum pU.X rX.X) := .nil
theorem Zr(n:Nat)(aX:(List UInt8 × Int × Int × List (Bool) × List (Int × List (Int) × Int × Int × Int × Int × Int × Unit) × Unit)->Option (Sum (Int × List UInt8 × Int × Int × List (Bool) × List (Int × List (Int) × Int × Int × Int × Int × Int × Unit) × Unit) (Int × Int × List UInt8 × Int × Int × List (Bool) × List (Int × List (Int) × Int × Int × Int × Int × Int × Unit) × Unit)))(nX:dA qEr 138 Tz pU 215 rX aX):dA qEr 191 Pv pU 215 rX (xX n aX):=
 dP (Γ:=bA _ [(156,peM tL pU (dJ n)),(170,bN Ae zSo (xW n)),(188,peM Iq pU (dZ n)),(81,bN lG lH (strings_IndexByte n)),(195,bN Xe zSo (dW n))] [geP 139 rV rW 215 rX (aR n),geP 211 Vz pU 215 rX (vY n aX)]) (an:=zHw n) (co:=[.gc [0,1]]) (cp:=[.gc [0,1]]) Tryz.func191 rfl (by kernel_rfl) aV (aG (all_cons (bF (qA n)) (all_cons (aN (zDt n)) (all_cons (bF (Kg n)) (all_cons (aN (kF n)) (all_cons (aN (Ra n)) (all_nil)))))) (aW (bO (oL n)) (aW (bO (zDw n aX nX)) (aH)))) mixed (aF _ _ rfl) (by kernel_rfl) (by kernel_rfl) (by kernel_rfl) (λx=>by kernel_rfl)
def zOz (n:Nat):An (Sum pU.X rX.X) := .nil
theorem zFl(n:Nat)(aX:(List UInt8 × Int × Int × List (Bool) × List (Int × List (Int) × Int × Int × Int × Int × Int × Unit) × Unit)->Option (Sum (Int × List UInt8 × Int × Int × List (Bool) × List (Int × List (Int) × Int × Int × Int × Int × Int × Unit) × Unit) (Int × Int × List UInt8 × Int × Int × List (Bool) × List (Int × List (Int) × Int × Int × Int × Int × Int × Unit) × Unit)))(nX:dA qEr 138 Tz pU 215 rX aX):dA qEr 160 Pv pU 215 rX (xY n aX):=
 dP (Γ:=bA _ [(155,peM qJ mK (dQ n)),(189,bN zSo zSo (Xv n)),(188,peM Iq pU (dZ n)),(158,peM qJ mK (bL n)),(190,bN Ae Zi (yS n)),(170,bN Ae zSo (xW n))] [geP 139 rV rW 215 rX (aR n),geP 191 Pv pU 215 rX (xX n aX)]) (an:=zOz n) (co:=[.gc [0,1]]) (cp:=[.gc [0,1]]) Tryz.func160 rfl (by kernel_rfl) aV (aG (all_cons (bF (tN n)) (all_cons (aN (zMl n)) (all_cons (bF (Kg n)) (all_cons (bF (nO n)) (all_cons (aN (zSt n)) (all_cons (aN (zDt n)) (all_nil))))))) (aW (bO (oL n)) (aW (bO (Zr n aX nX)) (aH)))) mixed (aF _ _ rfl) (by kernel_rfl) (by kernel_rfl) (by kernel_rfl) (λx=>by kernel_rfl)
def zSu (n:Nat):An (Sum pU.X rX.X):=(.mk .nil (.mk .nil (.mk (.join ⟨83,[⟨0,false,[.ptr 0 0]⟩,⟨3,false,[.own 2]⟩],yHc⟩ [.keep (kbm 33 9),.Ng 3 219,.gcA 2] .nil) (.mk (.join ⟨83,[⟨0,false,[.ptr 0 0]⟩,⟨3,false,[.own 2]⟩],yHc⟩ [.keep [true,false,false,true],.gcA 2] (.mk .nil (.mk (.loop ⟨83,[⟨0,false,[.ptr 0 0]⟩,⟨3,false,[.own 2]⟩,⟨4,false,[.v .bool]⟩],yHc⟩ [.keep (kbm 33 25),.gcA 2,.Ng 3 219,.gcA 2] [.keep (kbm 33 25),.gcA 2,.gcA 2] n (.mk .nil (.mk (.mk (.mk (.mk (.join ⟨83,[⟨0,false,[.ptr 0 0]⟩,⟨3,false,[.own 2]⟩,⟨4,false,[.v .bool]⟩,⟨36,false,[.v .bool]⟩],yHc⟩ [.keep (kbm 37 68719476761),.gcA 2] .nil) .nil []) .nil []) .nil []) .nil []) [])) .nil []) [])) (.mk .nil (.mk .nil (.mk (.mk .nil (.mk (.loop ⟨83,[⟨0,false,[.ptr 0 0]⟩,⟨3,false,[.own 2]⟩,⟨5,false,[.v (.int .i64)]⟩,⟨6,false,[.v (.int .i64)]⟩],yHc⟩ [.keep (kbm 7 105),.gcA 2,.gcA 2] [.keep (kbm 7 105),.gcA 2,.gcA 2] n .nil) .nil []) []) .nil []) []) []) []) []) []) [])
theorem Xg(n:Nat)(aX:(List UInt8 × Int × Int × List (Bool) × List (Int × List (Int) × Int × Int × Int × Int × Int × Unit) × Unit)->Option (Sum (Int × List UInt8 × Int × Int × List (Bool) × List (Int × List (Int) × Int × Int × Int × Int × Int × Unit) × Unit) (Int × Int × List UInt8 × Int × Int × List (Bool) × List (Int × List (Int) × Int × Int × Int × Int × Int × Unit) × Unit)))(nX:dA qEr 138 Tz pU 215 rX aX):dA qEr 138 Tz pU 215 rX (wQ n aX):=
 dP (Γ:=bA _ [(155,peM qJ mK (dQ n)),(156,peM tL pU (dJ n)),(157,peM Tz mK (uL n)),(158,peM qJ mK (bL n))] [geP 160 Pv pU 215 rX (xY n aX),geP 159 Vz pU 215 rX (vX n)]) (an:=zSu n) (co:=[.gc [0,1]]) (cp:=[.gc [0,1]]) Tryz.func138 rfl (by kernel_rfl) aV (aG (all_cons (bF (tN n)) (all_cons (bF (qA n)) (all_cons (bF (zBf n)) (all_cons (bF (nO n)) (all_nil))))) (aW (bO (zFl n aX nX)) (aW (bO (zDv n)) (aH)))) mixed (aF _ _ rfl) (by kernel_rfl) (by kernel_rfl) (by kernel_rfl) (λx=>by kernel_rfl)
theorem zHx(n:Nat):dA qEr 138 Tz pU 215 rX (lT n):=zVc (by kernel_rfl) (λn r h=>Xg n r h) n
def yCc (n:Nat):An (Sum Zk.X Zl.X) := .nil
theorem zPa(n:Nat):dA qEr 137 zMb Zk 215 Zl (Jo n):=
 dP (Γ:=bA _ [] [geP 138 Tz pU 215 rX (lT n),geP 139 rV rW 215 rX (aR n)]) (an:=yCc n) (co:=[.gc [0,1,2,3]]) (cp:=[.gc [0,1,2,3]]) Tryz.func137 rfl (by kernel_rfl) aV (aG (all_nil) (aW (bO (zHx n)) (aW (bO (oL n)) (aH)))) mixed (aF _ _ rfl) (by kernel_rfl) (by kernel_rfl) (by kernel_rfl) (λx=>by kernel_rfl)
theorem Rb(n:Nat):dV qEr 136 xH Zl (kE n):=
 zQn (si:=xH) (so:=Zl) (sp:=Zl) (sd:=zMb) (od:=Zk) (F:=Jo n) (G:=kE n) (conv:=λx=>x) (o1:=λy=>(0,0,y)) (o2:=λz=>z) (zPa n) rfl (λx=>⟨rfl,rfl⟩) (λx=>by unfold kE ob2;cases Jo n x with|none=>rfl|some r=>cases r<;>rfl) (λy=>⟨rfl,rfl⟩) (λz=>⟨_,_,rfl,rfl⟩)
def yKj (n:Nat):An (bT zHr):=(.mk .nil (.mk .nil (.mk .nil (.mk (.co [.ownB 1 2 85] .nil) .nil []) []) []) [])
theorem zZd(n:Nat):Pure qEr 116 Ae zHr (Lx n):=
 bH (Γ:=bA _ [(136,peM xH Zl (kE n))] []) (an:=yKj n) Tryz.func116 rfl (by kernel_rfl) aV (aG (all_cons (bF (Rb n)) (all_nil)) (aH)) mixed (aF _ _ rfl) (λx=>by kernel_rfl)
def zBh (n:Nat):An (Sum oH.X oH.X) := .nil
theorem Ar(n:Nat):dA qEr 97 wV oH 57 oH (fZ n):=
 dP (Γ:=bA _ [(116,bN Ae zHr (Lx n))] [geP 99 wV nE 57 oH (fB n),geP 100 fG fH 57 fG (iI n),geP 52 fG fH 57 fG (bB n)]) (an:=zBh n) (co:=[.gc [0,1,2,3,4,5]]) (cp:=[.gc [0,1,2,3,4,5]]) Tryz.func97 rfl (by kernel_rfl) aV (aG (all_cons (aN (zZd n)) (all_nil)) (aW (bO (wL n)) (aW (bO (uS n)) (aW (bO (dD n)) (aH))))) mixed (aF _ _ rfl) (by kernel_rfl) (by kernel_rfl) (by kernel_rfl) (λx=>by kernel_rfl)
def zHy (n:Nat):An (gM.X) := .nil
theorem Gj(n:Nat):dV qEr 121 iV gM (iD n):=
 dO (Γ:=bA _ [] []) (an:=zHy n) (co:=[.gc [0,1,2,3,4,5]]) Tryz.func121 rfl (by kernel_rfl) aV (aG (all_nil) (aH)) mixed (aF _ _ rfl) (by kernel_rfl) (by kernel_rfl) (λx=>by kernel_rfl)
def zBi (n:Nat):An (Sum zA.X oH.X):=(.mk .nil (.mk (.mk (.mk .nil (.mk .nil (.mk .nil (.mk .nil (.mk .nil (.mk .nil (.mk (.join ⟨60,[⟨0,false,[.ptr 0 0]⟩,⟨1,false,[.v .bool]⟩,⟨4,false,[.ptr 6 0]⟩,⟨41,false,[.v .bool]⟩],[.box 80 [.v .str,.v .bool,.v (.int .i64),.v (.int .i64),.v .bool,.own 1,.own 2,.v (.int .i64),.v (.int .i64),.v (.int .i64),.v (.int .i64),.v (.int .i64),.v (.int .i64),.v .bool,.v (.int .u8),.v .str,.v .str,.v (.int .i64),.v (.int .i64),.v (.int .i64),.v (.slice iL),.v .bool,.v .bool,.own 3,.own 4,.mp 5],.row 87 aU,.row 77 aB,.row 118 gG,.row 118 gG,.dm .str (.int .i64),.box 72 [.v (.int .i64),.v (.int .i64),.v (.int .i64)]]⟩ [.keep (kbm 42 2199023255571),.gcA 6] .nil) .nil []) []) []) []) []) []) []) .nil []) .nil []) [])
theorem Ue(n:Nat):dA qEr 112 Jz zA 57 oH (kT n):=
 dP (Γ:=bA _ [(49,peM mJ kK (dG n)),(85,peM mJ kK (dK n)),(121,peM iV gM (iD n))] [geP 107 tK oH 57 oH (dY n),geP 86 iV oJ 57 oH (fP n),geP 97 wV oH 57 oH (fZ n)]) (an:=zBi n) (co:=[.gc [0,1,2,3,4,5]]) (cp:=[.gc [0,1,2,3,4,5]]) Tryz.func112 rfl (by kernel_rfl) aV (aG (all_cons (bF (kG n)) (all_cons (bF (wK n)) (all_cons (bF (Gj n)) (all_nil)))) (aW (bO (uH n)) (aW (bO (qU n)) (aW (bO (Ar n)) (aH))))) mixed (aF _ _ rfl) (by kernel_rfl) (by kernel_rfl) (by kernel_rfl) (λx=>by kernel_rfl)
def zWf (n:Nat):An (bT oW) := .nil
theorem zMq(n:Nat):Pure qEr 134 zFh oW (xO n):=
 bH (Γ:=bA _ [] []) (an:=zWf n) Tryz.func134 rfl (by kernel_rfl) aV (aG (all_nil) (aH)) mixed (aF _ _ rfl) (λx=>by kernel_rfl)
def yQv (n:Nat):An (bT oW) := .nil
theorem yCd(n:Nat):Pure qEr 113 yBb oW (Ql n):=
 bH (Γ:=bA _ [(134,bN zFh oW (xO n))] []) (an:=yQv n) Tryz.func113 rfl (by kernel_rfl) aV (aG (all_cons (aN (zMq n)) (all_nil)) (aH)) mixed (aF _ _ rfl) (λx=>by kernel_rfl)
def Xh (n:Nat):An (Sum oH.X oH.X) := .nil
theorem Pm(n:Nat):dA qEr 84 iV oH 57 oH (mG n):=
 dP (Γ:=bA _ [(82,peM iV gM (bR n)),(85,peM mJ kK (dK n)),(113,bN yBb oW (Ql n))] [geP 112 Jz zA 57 oH (kT n),geP 52 fG fH 57 fG (bB n)]) (an:=Xh n) (co:=[.gc [0,1,2,3,4,5]]) (cp:=[.gc [0,1,2,3,4,5]]) Tryz.func84 rfl (by kernel_rfl) aV (aG (all_cons (bF (gZ n)) (all_cons (bF (wK n)) (all_cons (aN (yCd n)) (all_nil)))) (aW (bO (Ue n)) (aW (bO (dD n)) (aH)))) mixed (aF _ _ rfl) (by kernel_rfl) (by kernel_rfl) (by kernel_rfl) (λx=>by kernel_rfl)
def zJx (n:Nat):An (gM.X) := .nil
theorem jK(n:Nat):dV qEr 94 iV gM (cO n):=
 dO (Γ:=bA _ [] []) (an:=zJx n) (co:=[.gc [0,1,2,3,4,5]]) Tryz.func94 rfl (by kernel_rfl) aV (aG (all_nil) (aH)) mixed (aF _ _ rfl) (by kernel_rfl) (by kernel_rfl) (λx=>by kernel_rfl)
def zFm (n:Nat):An (gM.X) := .nil
theorem Es(n:Nat):dV qEr 71 iV gM (nC n):=
 dO (Γ:=bA _ [(94,peM iV gM (cO n))] []) (an:=zFm n) (co:=[.gc [0,1,2,3,4,5]]) Tryz.func71 rfl (by kernel_rfl) aV (aG (all_cons (bF (jK n)) (all_nil)) (aH)) mixed (aF _ _ rfl) (by kernel_rfl) (by kernel_rfl) (λx=>by kernel_rfl)
def zFn (n:Nat):An (Sum gM.X oH.X):=(.mk .nil (.mk .nil (.mk .nil (.mk .nil (.mk .nil (.co [.yWo 0 23] .nil) []) []) []) []) [])
theorem Xi(n:Nat):dA qEr 72 iV gM 57 oH (qY n):=
 dP (Γ:=bA _ [(94,peM iV gM (cO n))] [geP 52 fG fH 57 fG (bB n)]) (an:=zFn n) (co:=[.gc [0,1,2,3,4,5]]) (cp:=[.gc [0,1,2,3,4,5]]) Tryz.func72 rfl (by kernel_rfl) aV (aG (all_cons (bF (jK n)) (all_nil)) (aW (bO (dD n)) (aH))) mixed (aF _ _ rfl) (by kernel_rfl) (by kernel_rfl) (by kernel_rfl) (λx=>by kernel_rfl)
def zHz (n:Nat):An (Sum nE.X oH.X) := .nil
theorem Zt(n:Nat):dA qEr 95 iV nE 57 oH (sS n):=
 dP (Γ:=bA _ [(50,peM mJ nE (eB n)),(115,bN Bg Bh (strings_ContainsAny n))] [geP 52 fG fH 57 fG (bB n)]) (an:=zHz n) (co:=[.gc [0,1,2,3,4,5]]) (cp:=[.gc [0,1,2,3,4,5]]) Tryz.func95 rfl (by kernel_rfl) aV (aG (all_cons (bF (pY n)) (all_cons (aN (Fv n)) (all_nil))) (aW (bO (dD n)) (aH))) mixed (aF _ _ rfl) (by kernel_rfl) (by kernel_rfl) (by kernel_rfl) (λx=>by kernel_rfl)
def zFo (n:Nat):An (Sum gM.X oH.X) := .nil
theorem vH(n:Nat):dA qEr 96 iV gM 57 oH (eO n):=
 dP (Γ:=bA _ [(82,peM iV gM (bR n)),(49,peM mJ kK (dG n))] [geP 52 fG fH 57 fG (bB n)]) (an:=zFo n) (co:=[.gc [0,1,2,3,4,5]]) (cp:=[.gc [0,1,2,3,4,5]]) Tryz.func96 rfl (by kernel_rfl) aV (aG (all_cons (bF (gZ n)) (all_cons (bF (kG n)) (all_nil))) (aW (bO (dD n)) (aH))) mixed (aF _ _ rfl) (by kernel_rfl) (by kernel_rfl) (by kernel_rfl) (λx=>by kernel_rfl)
def zFp (n:Nat):An (Sum gM.X oH.X) := .nil
theorem Xj(n:Nat):dA qEr 73 iV gM 57 oH (qZ n):=
 dP (Γ:=bA _ [] [geP 95 iV nE 57 oH (sS n),geP 52 fG fH 57 fG (bB n),geP 96 iV gM 57 oH (eO n)]) (an:=zFp n) (co:=[.gc [0,1,2,3,4,5]]) (cp:=[.gc [0,1,2,3,4,5]]) Tryz.func73 rfl (by kernel_rfl) aV (aG (all_nil) (aW (bO (Zt n)) (aW (bO (dD n)) (aW (bO (vH n)) (aH))))) mixed (aF _ _ rfl) (by kernel_rfl) (by kernel_rfl) (by kernel_rfl) (λx=>by kernel_rfl)
def zWg (n:Nat):An (Qw.X) := .nil
theorem zJy(n:Nat):dV qEr 118 zFi Qw (qM n):=
 dO (Γ:=bA _ [] []) (an:=zWg n) (co:=[.gc [0,1,2]]) Tryz.func118 rfl (by kernel_rfl) aV (aG (all_nil) (aH)) mixed (aF _ _ rfl) (by kernel_rfl) (by kernel_rfl) (λx=>by kernel_rfl)
def yCe (n:Nat):An (bT Zm):=(.mk .nil (.mk .nil (.mk .nil (.mk (.mk .nil (.mk (.loop ⟨76,[⟨0,false,[.v .str]⟩,⟨2,false,[.ptr 0 0]⟩,⟨5,false,[.ptr 1 0]⟩,⟨6,false,[.clo 118 [(1,0),(0,0)]]⟩,⟨7,false,[.v (.int .i64)]⟩],[.box 75 [.own 2],.box 9 [.v .str],.row 134 iL]⟩ [.keep (kbm 8 229),.gcA 0,.gcA 0,.ownB 0 0 75,.gcA 0] [.keep (kbm 8 229),.gcA 0,.gcA 0,.ownB 0 0 75,.gcA 0] n (.mk .nil (.mk (.mk (.scope 0 .nil .nil) .nil []) .nil []) [])) .nil []) []) .nil []) []) []) [])
theorem zSv(n:Nat):Pure qEr 98 Ae Zm (Jq n):=
 bH (Γ:=bA _ [(118,peM zFi Qw (qM n)),(81,bN lG lH (strings_IndexByte n))] []) (an:=yCe n) Tryz.func98 rfl (by kernel_rfl) aV (aG (all_cons (bF (zJy n)) (all_cons (aN (kF n)) (all_nil))) (aH)) mixed (aF _ _ rfl) (λx=>by kernel_rfl)
def yHi (n:Nat):An (bT Ko):=(.mk .nil (.mk (.mk .nil (.mk (.loop ⟨17,[⟨2,false,[.v (.int .i64)]⟩,⟨5,false,[.v (.slice iL)]⟩,⟨6,false,[.v (.int .i64)]⟩,⟨7,false,[.v (.int .i64)]⟩],[]⟩ [.keep (kbm 8 228),.gcA 0,.gcA 0] [.keep (kbm 8 228),.gcA 0,.gcA 0] n .nil) .nil []) []) .nil []) [])
theorem zWh(n:Nat):Pure qEr 101 zQs Ko (Ns n):=
 bH (Γ:=bA _ [] []) (an:=yHi n) Tryz.func101 rfl (by kernel_rfl) aV (aG (all_nil) (aH)) mixed (aF _ _ rfl) (λx=>by kernel_rfl)
def zWi (n:Nat):An (bT Ko) := .nil
theorem zMr(n:Nat):Pure qEr 175 zFj Ko (qL n):=
 bH (Γ:=bA _ [] []) (an:=zWi n) Tryz.func175 rfl (by kernel_rfl) aV (aG (all_nil) (aH)) mixed (aF _ _ rfl) (λx=>by kernel_rfl)
def zWj (n:Nat):An (bT zFj) := .nil
theorem zMs(n:Nat):Pure qEr 196 zFj zFj (dM n):=
 bH (Γ:=bA _ [] []) (an:=zWj n) Tryz.func196 rfl (by kernel_rfl) aV (aG (all_nil) (aH)) mixed (aF _ _ rfl) (λx=>by kernel_rfl)
def yCf (n:Nat):An (bT oW) := .nil
theorem zSw(n:Nat):Pure qEr 176 zFj oW (yT n):=
 bH (Γ:=bA _ [(196,bN zFj zFj (dM n))] []) (an:=yCf n) Tryz.func176 rfl (by kernel_rfl) aV (aG (all_cons (aN (zMs n)) (all_nil)) (aH)) mixed (aF _ _ rfl) (λx=>by kernel_rfl)
def zMt (n:Nat):An (bT Ko):=(.mk .nil (.mk (.mk .nil (.mk (.loop ⟨19,[⟨0,false,[.v (.slice (.int .i64))]⟩,⟨1,false,[.v (.int .i64)]⟩,⟨7,false,[.v (.int .i64)]⟩,⟨8,false,[.v (.int .i64)]⟩],[]⟩ [.keep (kbm 9 387),.gcA 0,.gcA 0] [.keep (kbm 9 387),.gcA 0,.gcA 0] n .nil) .nil []) []) .nil []) [])
theorem zFq(n:Nat):Pure qEr 214 Wh Ko (La n):=
 bH (Γ:=bA _ [] []) (an:=zMt n) Tryz.func214 rfl (by kernel_rfl) aV (aG (all_nil) (aH)) mixed (aF _ _ rfl) (λx=>by kernel_rfl)
def zFr (n:Nat):An (bT oW) := .nil
theorem Zu(n:Nat):Pure qEr 197 Wh oW (wR n):=
 bH (Γ:=bA _ [(214,bN Wh Ko (La n))] []) (an:=zFr n) Tryz.func197 rfl (by kernel_rfl) aV (aG (all_cons (aN (zFq n)) (all_nil)) (aH)) mixed (aF _ _ rfl) (λx=>by kernel_rfl)
def yUi (n:Nat):An (bT oW) := .nil
theorem yHj(n:Nat):Pure qEr 177 yHd oW (qH n):=
 bH (Γ:=bA _ [(197,bN Wh oW (wR n))] []) (an:=yUi n) Tryz.func177 rfl (by kernel_rfl) aV (aG (all_cons (aN (Zu n)) (all_nil)) (aH)) mixed (aF _ _ rfl) (λx=>by kernel_rfl)
def yHk (n:Nat):An (bT oW):=(.mk .nil (.mk .nil (.mk (.mk .nil (.mk (.loop ⟨80,[⟨0,false,[.v (.slice aT)]⟩,⟨3,false,[.own 0]⟩,⟨8,false,[.v (.slice aT)]⟩,⟨9,false,[.v (.int .i64)]⟩,⟨10,false,[.v (.int .i64)]⟩],[.row 3 (.int .i64)]⟩ [.keep (kbm 55 1801),.gcA 0,.Ng 3 219,.gcA 0] [.keep (kbm 55 1801),.gcA 0,.gcA 0] n .nil) .nil []) []) .nil []) []) [])
theorem zWk(n:Nat):Pure qEr 142 zQt oW (Ho n):=
 bH (Γ:=bA _ [(175,bN zFj Ko (qL n)),(176,bN zFj oW (yT n)),(177,bN yHd oW (qH n))] []) (an:=yHk n) Tryz.func142 rfl (by kernel_rfl) aV (aG (all_cons (aN (zMr n)) (all_cons (aN (zSw n)) (all_cons (aN (yHj n)) (all_nil)))) (aH)) mixed (aF _ _ rfl) (λx=>by kernel_rfl)
def zWl (n:Nat):An (vT.X) := .nil
theorem Zv(n:Nat)(fK:(Int × List (Int × List (Int) × Int × Int × Int × Int × Int × Unit) × Int × Bool × List (Bool) × Bool × Unit)->Option (List (Int × List (Int) × Int × Int × Int × Int × Int × Unit) × Int × Bool × List (Bool) × Bool × Unit))(zWm:dV qEr 178 Ai vT fK):dV qEr 178 Ai vT (fA n fK):=
 dO (Γ:=bA _ [(178,peM Ai vT (fK))] []) (an:=zWl n) (co:=[.gc [0,1,2,3,4,5]]) Tryz.func178 rfl (by kernel_rfl) aV (aG (all_cons (bF (zWm)) (all_nil)) (aH)) mixed (aF _ _ rfl) (by kernel_rfl) (by kernel_rfl) (λx=>by kernel_rfl)
theorem zJz(n:Nat):dV qEr 178 Ai vT (tZ n):=yAv (by kernel_rfl) (λn r h=>Zv n r h) n
def yCg (n:Nat):An (bT Zo) := .nil
theorem zSx(n:Nat):Pure qEr 143 zQt Zo (Sd n):=
 bH (Γ:=bA _ [(178,peM Ai vT (tZ n))] []) (an:=yCg n) Tryz.func143 rfl (by kernel_rfl) aV (aG (all_cons (bF (zJz n)) (all_nil)) (aH)) mixed (aF _ _ rfl) (λx=>by kernel_rfl)
def yUj (n:Nat):An (bT Zo) := .nil
theorem yHl(n:Nat):Pure qEr 120 zQt Zo (Xx n):=
 bH (Γ:=bA _ [(142,bN zQt oW (Ho n)),(143,bN zQt Zo (Sd n))] []) (an:=yUj n) Tryz.func120 rfl (by kernel_rfl) aV (aG (all_cons (aN (zWk n)) (all_cons (aN (zSx n)) (all_nil))) (aH)) mixed (aF _ _ rfl) (λx=>by kernel_rfl)
def yKk (n:Nat):An (bT Ko) := .nil
theorem zZe(n:Nat):Pure qEr 102 zQt Ko (Td n):=
 bH (Γ:=bA _ [(120,bN zQt Zo (Xx n))] []) (an:=yKk n) Tryz.func102 rfl (by kernel_rfl) aV (aG (all_cons (aN (yHl n)) (all_nil)) (aH)) mixed (aF _ _ rfl) (λx=>by kernel_rfl)
def zFs (n:Nat):An (Sum kK.X oH.X):=(.mk .nil (.mk .nil (.mk .nil (.mk (.loop ⟨96,[⟨0,false,[.ptr 0 0]⟩,⟨3,false,[.mp 6]⟩],yYy⟩ [.keep [true,false,false,true],.gcA 6,.gcA 6] [.keep [true,false,false,true],.gcA 6,.gcA 6] n (.mk (.mk .nil (.mk (.join ⟨96,[⟨0,false,[.ptr 0 0]⟩,⟨3,false,[.mp 6]⟩,⟨4,false,[.v .str]⟩],yYy⟩ [.keep [true,false,false,true,true],.gcA 6] .nil) (.mk (.join ⟨96,[⟨0,false,[.ptr 0 0]⟩,⟨3,false,[.mp 6]⟩,⟨4,false,[.v .str]⟩],yYy⟩ [.keep [true,false,false,true,true],.gcA 6] .nil) .nil []) []) []) .nil [])) .nil []) []) []) [])
theorem Xk(n:Nat):dA qEr 103 iV kK 57 oH (iN n):=
 dP (Γ:=bA _ [(49,peM mJ kK (dG n)),(121,peM iV gM (iD n)),(50,peM mJ nE (eB n))] [geP 107 tK oH 57 oH (dY n),geP 52 fG fH 57 fG (bB n)]) (an:=zFs n) (co:=[.gc [0,1,2,3,4,5]]) (cp:=[.gc [0,1,2,3,4,5]]) Tryz.func103 rfl (by kernel_rfl) aV (aG (all_cons (bF (kG n)) (all_cons (bF (Gj n)) (all_cons (bF (pY n)) (all_nil)))) (aW (bO (uH n)) (aW (bO (dD n)) (aH)))) mixed (aF _ _ rfl) (by kernel_rfl) (by kernel_rfl) (by kernel_rfl) (λx=>by kernel_rfl)
def zFt (n:Nat):An (Sum gM.X oH.X) := .nil
theorem Xl(n:Nat):dA qEr 74 iV gM 57 oH (rA n):=
 dP (Γ:=bA _ [(98,bN Ae Zm (Jq n)),(101,bN zQs Ko (Ns n)),(102,bN zQt Ko (Td n)),(94,peM iV gM (cO n))] [geP 86 iV oJ 57 oH (fP n),geP 97 wV oH 57 oH (fZ n),geP 99 wV nE 57 oH (fB n),geP 100 fG fH 57 fG (iI n),geP 52 fG fH 57 fG (bB n),geP 103 iV kK 57 oH (iN n),geP 96 iV gM 57 oH (eO n)]) (an:=zFt n) (co:=[.gc [0,1,2,3,4,5]]) (cp:=[.gc [0,1,2,3,4,5]]) Tryz.func74 rfl (by kernel_rfl) aV (aG (all_cons (aN (zSv n)) (all_cons (aN (zWh n)) (all_cons (aN (zZe n)) (all_cons (bF (jK n)) (all_nil))))) (aW (bO (qU n)) (aW (bO (Ar n)) (aW (bO (wL n)) (aW (bO (uS n)) (aW (bO (dD n)) (aW (bO (Xk n)) (aW (bO (vH n)) (aH))))))))) mixed (aF _ _ rfl) (by kernel_rfl) (by kernel_rfl) (by kernel_rfl) (λx=>by kernel_rfl)
def yCh (n:Nat):An (bT zDh):=(.mk .nil (.mk .nil (.mk (.mk .nil (.mk (.loop ⟨49,[⟨0,false,[.v .str]⟩,⟨5,false,[.own 0]⟩,⟨6,false,[.v (.int .i64)]⟩],[.row 5 (.int .u8)]⟩ [.keep (kbm 7 97),.gcA 0,.Ng 5 149,.gcA 0] [.keep (kbm 7 97),.gcA 0,.gcA 0] n .nil) .nil []) []) .nil []) []) [])
theorem zSy(n:Nat):Pure qEr 104 Ae zDh (Db n):=
 bH (Γ:=bA _ [(81,bN lG lH (strings_IndexByte n))] []) (an:=yCh n) Tryz.func104 rfl (by kernel_rfl) aV (aG (all_cons (aN (kF n)) (all_nil)) (aH)) mixed (aF _ _ rfl) (λx=>by kernel_rfl)
def yHm (n:Nat):An (bT zDk):=(.mk .nil (.mk (.mk .nil (.mk (.loop ⟨11,[⟨0,false,[.ptr 0 0]⟩,⟨2,false,[.v (.int .i64)]⟩],[.box 173 [.v (.arr 256 (.int .u8))]]⟩ [.keep [true,false,true],.gcA 0,.gcA 0] [.keep [true,false,true],.gcA 0,.gcA 0] n .nil) .nil []) []) .nil []) [])
theorem zWn(n:Nat):Pure qEr 122 zQu zDk (Nv n):=
 bH (Γ:=bA _ [] []) (an:=yHm n) Tryz.func122 rfl (by kernel_rfl) aV (aG (all_nil) (aH)) mixed (aF _ _ rfl) (λx=>by kernel_rfl)
def yHn (n:Nat):An (bT zDl):=(.mk .nil (.mk .nil (.mk .nil (.mk .nil (.mk (.mk .nil (.mk (.loop ⟨38,[⟨0,false,[.v .str]⟩,⟨1,false,[.v .str]⟩,⟨4,false,[.ptr 0 0]⟩,⟨6,false,[.ptr 1 0]⟩,⟨7,false,[.ptr 2 0]⟩,⟨18,false,[.v (.int .i64)]⟩,⟨19,false,[.v (.int .i64)]⟩],[.box 173 [.v (.arr 256 (.int .u8))],.box 173 [.v (.arr 256 (.int .u8))],.box 127 [.v (.arr 256 .bool)]]⟩ [.keep (kbm 20 786643),.gcA 0,.gcA 0] [.keep (kbm 20 786643),.gcA 0,.gcA 0] n .nil) .nil []) []) .nil []) []) []) []) [])
theorem zWo(n:Nat):Pure qEr 105 Ip zDl (Nw n):=
 bH (Γ:=bA _ [(122,bN zQu zDk (Nv n))] []) (an:=yHn n) Tryz.func105 rfl (by kernel_rfl) aV (aG (all_cons (aN (zWn n)) (all_nil)) (aH)) mixed (aF _ _ rfl) (λx=>by kernel_rfl)
def zFu (n:Nat):An (Sum gM.X oH.X) := .nil
theorem oQ(n:Nat):dA qEr 76 iV gM 57 oH (bC n):=
 dP (Γ:=bA _ [(94,peM iV gM (cO n))] [geP 96 iV gM 57 oH (eO n)]) (an:=zFu n) (co:=[.gc [0,1,2,3,4,5]]) (cp:=[.gc [0,1,2,3,4,5]]) Tryz.func76 rfl (by kernel_rfl) aV (aG (all_cons (bF (jK n)) (all_nil)) (aW (bO (vH n)) (aH))) mixed (aF _ _ rfl) (by kernel_rfl) (by kernel_rfl) (by kernel_rfl) (λx=>by kernel_rfl)
def Xm (n:Nat):An (Sum gM.X oH.X) := .nil
theorem Pn(n:Nat):dA qEr 75 iV gM 57 oH (mH n):=
 dP (Γ:=bA _ [(104,bN Ae zDh (Db n)),(105,bN Ip zDl (Nw n))] [geP 86 iV oJ 57 oH (fP n),geP 99 wV nE 57 oH (fB n),geP 100 fG fH 57 fG (iI n),geP 76 iV gM 57 oH (bC n)]) (an:=Xm n) (co:=[.gc [0,1,2,3,4,5]]) (cp:=[.gc [0,1,2,3,4,5]]) Tryz.func75 rfl (by kernel_rfl) aV (aG (all_cons (aN (zSy n)) (all_cons (aN (zWo n)) (all_nil))) (aW (bO (qU n)) (aW (bO (wL n)) (aW (bO (uS n)) (aW (bO (oQ n)) (aH)))))) mixed (aF _ _ rfl) (by kernel_rfl) (by kernel_rfl) (by kernel_rfl) (λx=>by kernel_rfl)
def zZf (n:Nat):An (Vi.X) := .nil
theorem zMu(n:Nat):dV qEr 124 zJh Vi (sU n):=
 dO (Γ:=bA _ [(125,peM rT lW (eT n))] []) (an:=zZf n) (co:=[.gc [0,1]]) Tryz.func124 rfl (by kernel_rfl) aV (aG (all_cons (bF (vL n)) (all_nil)) (aH)) mixed (aF _ _ rfl) (by kernel_rfl) (by kernel_rfl) (λx=>by kernel_rfl)
def Uf (n:Nat):An (uG.X):=(.mk .nil (.mk (.mk .nil (.mk .nil (.mk (.mk (.loop ⟨35,[⟨0,false,[.v .str]⟩,⟨1,false,[.clo 124 [(0,0)]]⟩,⟨5,false,[.v (.int .i64)]⟩],zHo⟩ [.keep (kbm 6 35),.gcA 2,.gcA 2] [.keep (kbm 6 35),.gcA 2,.gcA 2] n .nil) .nil []) .nil []) []) []) .nil []) [])
theorem Mr(n:Nat):dV qEr 123 Cr uG (kN n):=
 dO (Γ:=bA _ [(124,peM zJh Vi (sU n))] []) (an:=Uf n) (co:=[.gc [0,1]]) Tryz.func123 rfl (by kernel_rfl) aV (aG (all_cons (bF (zMu n)) (all_nil)) (aH)) mixed (aF _ _ rfl) (by kernel_rfl) (by kernel_rfl) (λx=>by kernel_rfl)
def yHo (n:Nat):An (bT zDh):=(.mk .nil (.mk .nil (.mk .nil (.mk (.co [.ownB 0 1 149,.orn 0 0 0 0] .nil) .nil []) []) []) [])
theorem zWp(n:Nat):Pure qEr 106 Df zDh (Ny n):=
 bH (Γ:=bA _ [(110,bN Df Df (lU n)),(123,peM Cr uG (kN n)),(28,bN Ip oW (strings_HasPrefix n)),(126,peM Qn yB (Builder_String n))] []) (an:=yHo n) Tryz.func106 rfl (by kernel_rfl) aV (aG (all_cons (aN (yD n)) (all_cons (bF (Mr n)) (all_cons (aN (iJ n)) (all_cons (bF (Oh n)) (all_nil))))) (aH)) mixed (aF _ _ rfl) (λx=>by kernel_rfl)
def zIa (n:Nat):An (Sum gM.X oH.X):=(.mk .nil (.mk (.join ⟨61,[⟨0,false,[.ptr 0 0]⟩],dB⟩ [.keep [true],.gcA 6] .nil) (.mk (.join ⟨61,[⟨0,false,[.ptr 0 0]⟩],dB⟩ [.keep [true],.gcA 6] .nil) .nil []) []) [])
theorem Zw(n:Nat):dA qEr 77 iV gM 57 oH (lD n):=
 dP (Γ:=bA _ [(82,peM iV gM (bR n)),(28,bN Ip oW (strings_HasPrefix n)),(106,bN Df zDh (Ny n)),(94,peM iV gM (cO n))] [geP 52 fG fH 57 fG (bB n),geP 100 fG fH 57 fG (iI n)]) (an:=zIa n) (co:=[.gc [0,1,2,3,4,5]]) (cp:=[.gc [0,1,2,3,4,5]]) Tryz.func77 rfl (by kernel_rfl) aV (aG (all_cons (bF (gZ n)) (all_cons (aN (iJ n)) (all_cons (aN (zWp n)) (all_cons (bF (jK n)) (all_nil))))) (aW (bO (dD n)) (aW (bO (uS n)) (aH)))) mixed (aF _ _ rfl) (by kernel_rfl) (by kernel_rfl) (by kernel_rfl) (λx=>by kernel_rfl)
def Xn (n:Nat):An (wI.X) := .nil
theorem Po(n:Nat):dV qEr 82 Gg wI (gW n):=
 dO (Γ:=bA _ [(109,bN Df Ko (nM n))] []) (an:=Xn n) (co:=[.gc [0,1,2,3]]) Tryz.func82 rfl (by kernel_rfl) aV (aG (all_cons (aN (Wi n)) (all_nil)) (aH)) mixed (aF _ _ rfl) (by kernel_rfl) (by kernel_rfl) (λx=>by kernel_rfl)
def zBj (n:Nat):An (zC.X) := .nil
theorem Ug(n:Nat):dV qEr 50 Ka zC (iR n):=
 dO (Γ:=bA _ [(82,peM Gg wI (gW n)),(83,bN zDg Df (sD n))] []) (an:=zBj n) (co:=[.gc [0,1,2,3]]) Tryz.func50 rfl (by kernel_rfl) aV (aG (all_cons (bF (Po n)) (all_cons (aN (zCm n)) (all_nil))) (aH)) mixed (aF _ _ rfl) (by kernel_rfl) (by kernel_rfl) (λx=>by kernel_rfl)
def zBk (n:Nat):An (Sum zC.X zF.X) := .nil
theorem Uh(n:Nat):dA qEr 95 Gg zC 57 zF (iT n):=
 dP (Γ:=bA _ [(50,peM Ka zC (iR n)),(115,bN Bg Bh (strings_ContainsAny n))] [geP 52 fG fH 57 fG (bB n)]) (an:=zBk n) (co:=[.gc [0,1,2,3]]) (cp:=[.gc [0,1,2,3]]) Tryz.func95 rfl (by kernel_rfl) aV (aG (all_cons (bF (Ug n)) (all_cons (aN (Fv n)) (all_nil))) (aW (bO (dD n)) (aH))) mixed (aF _ _ rfl) (by kernel_rfl) (by kernel_rfl) (by kernel_rfl) (λx=>by kernel_rfl)
theorem Pp(n:Nat):zSk qEr 95 (List.map (λp=>p.1) [(3,3),(6,6),(24,24)]) wJ Gh 57 Gi (gX n):=
 yKf (js:=[(3,3),(6,6),(24,24)]) (λvs x=>(x.1,x.2.1,x.2.2.1,(vs.getD 0 undef),x.2.2.2.1,(vs.getD 1 undef),x.2.2.2.2.1,x.2.2.2.2.2.1,x.2.2.2.2.2.2.1,x.2.2.2.2.2.2.2.1,x.2.2.2.2.2.2.2.2.1,x.2.2.2.2.2.2.2.2.2.1,x.2.2.2.2.2.2.2.2.2.2.1,x.2.2.2.2.2.2.2.2.2.2.2.1,x.2.2.2.2.2.2.2.2.2.2.2.2.1,x.2.2.2.2.2.2.2.2.2.2.2.2.2.1,x.2.2.2.2.2.2.2.2.2.2.2.2.2.2.1,x.2.2.2.2.2.2.2.2.2.2.2.2.2.2.2.1,x.2.2.2.2.2.2.2.2.2.2.2.2.2.2.2.2.1,x.2.2.2.2.2.2.2.2.2.2.2.2.2.2.2.2.2.1,x.2.2.2.2.2.2.2.2.2.2.2.2.2.2.2.2.2.2.1,x.2.2.2.2.2.2.2.2.2.2.2.2.2.2.2.2.2.2.2.1,(vs.getD 2 undef),x.2.2.2.2.2.2.2.2.2.2.2.2.2.2.2.2.2.2.2.2)) (λvs y=>(y.1,y.2.1,y.2.2.1,y.2.2.2.1,(vs.getD 0 undef),y.2.2.2.2.1,(vs.getD 1 undef),y.2.2.2.2.2.1,y.2.2.2.2.2.2.1,y.2.2.2.2.2.2.2.1,y.2.2.2.2.2.2.2.2.1,y.2.2.2.2.2.2.2.2.2.1,y.2.2.2.2.2.2.2.2.2.2.1,y.2.2.2.2.2.2.2.2.2.2.2.1,y.2.2.2.2.2.2.2.2.2.2.2.2.1,y.2.2.2.2.2.2.2.2.2.2.2.2.2.1,y.2.2.2.2.2.2.2.2.2.2.2.2.2.2.1,y.2.2.2.2.2.2.2.2.2.2.2.2.2.2.2.1,y.2.2.2.2.2.2.2.2.2.2.2.2.2.2.2.2.1,y.2.2.2.2.2.2.2.2.2.2.2.2.2.2.2.2.2.1,y.2.2.2.2.2.2.2.2.2.2.2.2.2.2.2.2.2.2.1,y.2.2.2.2.2.2.2.2.2.2.2.2.2.2.2.2.2.2.2.1,y.2.2.2.2.2.2.2.2.2.2.2.2.2.2.2.2.2.2.2.2.1,(vs.getD 2 undef),y.2.2.2.2.2.2.2.2.2.2.2.2.2.2.2.2.2.2.2.2.2)) (λvs z=>(z.1,z.2.1,z.2.2.1,z.2.2.2.1,(vs.getD 0 undef),z.2.2.2.2.1,(vs.getD 1 undef),z.2.2.2.2.2.1,z.2.2.2.2.2.2.1,z.2.2.2.2.2.2.2.1,z.2.2.2.2.2.2.2.2.1,z.2.2.2.2.2.2.2.2.2.1,z.2.2.2.2.2.2.2.2.2.2.1,z.2.2.2.2.2.2.2.2.2.2.2.1,z.2.2.2.2.2.2.2.2.2.2.2.2.1,z.2.2.2.2.2.2.2.2.2.2.2.2.2.1,z.2.2.2.2.2.2.2.2.2.2.2.2.2.2.1,z.2.2.2.2.2.2.2.2.2.2.2.2.2.2.2.1,z.2.2.2.2.2.2.2.2.2.2.2.2.2.2.2.2.1,z.2.2.2.2.2.2.2.2.2.2.2.2.2.2.2.2.2.1,z.2.2.2.2.2.2.2.2.2.2.2.2.2.2.2.2.2.2.1,z.2.2.2.2.2.2.2.2.2.2.2.2.2.2.2.2.2.2.2.1,z.2.2.2.2.2.2.2.2.2.2.2.2.2.2.2.2.2.2.2.2.1,(vs.getD 2 undef),z.2.2.2.2.2.2.2.2.2.2.2.2.2.2.2.2.2.2.2.2.2)) (Tw n) (λvs x h=>by obtain⟨a,b,c,rfl⟩:=yQr h;exact⟨80,zSl (wJ.enc x).h[0]?,_,by kernel_rfl,InK.three (by kernel_rfl) (by kernel_rfl) (by kernel_rfl) (by kernel_rfl) (by kernel_rfl) (by kernel_rfl),by kernel_rfl⟩) (λvs y h=>by obtain⟨a,b,c,rfl⟩:=yQr h;exact⟨80,zSl (zC.enc ((λvs y=>(y.1,y.2.1,y.2.2.1,y.2.2.2.1,(vs.getD 0 undef),y.2.2.2.2.1,(vs.getD 1 undef),y.2.2.2.2.2.1,y.2.2.2.2.2.2.1,y.2.2.2.2.2.2.2.1,y.2.2.2.2.2.2.2.2.1,y.2.2.2.2.2.2.2.2.2.1,y.2.2.2.2.2.2.2.2.2.2.1,y.2.2.2.2.2.2.2.2.2.2.2.1,y.2.2.2.2.2.2.2.2.2.2.2.2.1,y.2.2.2.2.2.2.2.2.2.2.2.2.2.1,y.2.2.2.2.2.2.2.2.2.2.2.2.2.2.1,y.2.2.2.2.2.2.2.2.2.2.2.2.2.2.2.1,y.2.2.2.2.2.2.2.2.2.2.2.2.2.2.2.2.1,y.2.2.2.2.2.2.2.2.2.2.2.2.2.2.2.2.2.1,y.2.2.2.2.2.2.2.2.2.2.2.2.2.2.2.2.2.2.1,y.2.2.2.2.2.2.2.2.2.2.2.2.2.2.2.2.2.2.2.1,y.2.2.2.2.2.2.2.2.2.2.2.2.2.2.2.2.2.2.2.2.1,(vs.getD 2 undef),y.2.2.2.2.2.2.2.2.2.2.2.2.2.2.2.2.2.2.2.2.2)) [a,b,c] y)).h[0]?,_,by kernel_rfl,Qp.three (by kernel_rfl) (by kernel_rfl) (by kernel_rfl) (by kernel_rfl) (by kernel_rfl) (by kernel_rfl),by kernel_rfl⟩) (λvs z h=>by obtain⟨a,b,c,rfl⟩:=yQr h;exact⟨80,zSl (zF.enc ((λvs z=>(z.1,z.2.1,z.2.2.1,z.2.2.2.1,(vs.getD 0 undef),z.2.2.2.2.1,(vs.getD 1 undef),z.2.2.2.2.2.1,z.2.2.2.2.2.2.1,z.2.2.2.2.2.2.2.1,z.2.2.2.2.2.2.2.2.1,z.2.2.2.2.2.2.2.2.2.1,z.2.2.2.2.2.2.2.2.2.2.1,z.2.2.2.2.2.2.2.2.2.2.2.1,z.2.2.2.2.2.2.2.2.2.2.2.2.1,z.2.2.2.2.2.2.2.2.2.2.2.2.2.1,z.2.2.2.2.2.2.2.2.2.2.2.2.2.2.1,z.2.2.2.2.2.2.2.2.2.2.2.2.2.2.2.1,z.2.2.2.2.2.2.2.2.2.2.2.2.2.2.2.2.1,z.2.2.2.2.2.2.2.2.2.2.2.2.2.2.2.2.2.1,z.2.2.2.2.2.2.2.2.2.2.2.2.2.2.2.2.2.2.1,z.2.2.2.2.2.2.2.2.2.2.2.2.2.2.2.2.2.2.2.1,z.2.2.2.2.2.2.2.2.2.2.2.2.2.2.2.2.2.2.2.2.1,(vs.getD 2 undef),z.2.2.2.2.2.2.2.2.2.2.2.2.2.2.2.2.2.2.2.2.2)) [a,b,c] z)).h[0]?,_,by kernel_rfl,Qp.three (by kernel_rfl) (by kernel_rfl) (by kernel_rfl) (by kernel_rfl) (by kernel_rfl) (by kernel_rfl),by kernel_rfl⟩) (by decide) (Uh n)
def zDx (n:Nat):An (Sum gM.X oH.X) := .nil
theorem Vl(n:Nat):dA qEr 78 iV gM 57 oH (jV n):=
 yKg (Γ:=bA _ [] [geP 76 iV gM 57 oH (bC n)]) (an:=zDx n) (co:=[.gc [0,1,2,3,4,5]]) (cp:=[.gc [0,1,2,3,4,5]]) (j:=16) (rid:=0) (oV:=List.map (λp=>p.1) [(3,3),(6,6),(24,24)]) (zLz:=yDm [(3,3),(6,6),(24,24)]) (gen:=yGw [(3,3),(6,6),(24,24)] 0 wJ Gh 57 Gi (gX n)) (g:=95) Tryz.func78 rfl (by kernel_rfl) aV (aG (all_nil) (aW (bO (oQ n)) (aH))) mixed (yUb (Pp n)) (aF _ _ rfl) (by kernel_rfl) (by kernel_rfl) (by kernel_rfl) (λx=>by kernel_rfl)
def zBl (n:Nat):An (Sum gM.X oH.X):=(.mk .nil (.mk (.join ⟨43,[⟨0,false,[.ptr 0 0]⟩],dB⟩ [.keep [true],.gcA 6] .nil) .nil []) [])
theorem Ui(n:Nat):dA qEr 79 iV gM 57 oH (iU n):=
 dP (Γ:=bA _ [(82,peM iV gM (bR n)),(49,peM mJ kK (dG n))] [geP 107 tK oH 57 oH (dY n),geP 52 fG fH 57 fG (bB n),geP 76 iV gM 57 oH (bC n)]) (an:=zBl n) (co:=[.gc [0,1,2,3,4,5]]) (cp:=[.gc [0,1,2,3,4,5]]) Tryz.func79 rfl (by kernel_rfl) aV (aG (all_cons (bF (gZ n)) (all_cons (bF (kG n)) (all_nil))) (aW (bO (uH n)) (aW (bO (dD n)) (aW (bO (oQ n)) (aH))))) mixed (aF _ _ rfl) (by kernel_rfl) (by kernel_rfl) (by kernel_rfl) (λx=>by kernel_rfl)
def zIb (n:Nat):An (Sum gM.X oH.X) := .nil
theorem Zx(n:Nat):dA qEr 80 iV gM 57 oH (oD n):=
 dP (Γ:=bA _ [(50,peM mJ nE (eB n)),(94,peM iV gM (cO n))] [geP 52 fG fH 57 fG (bB n)]) (an:=zIb n) (co:=[.gc [0,1,2,3,4,5]]) (cp:=[.gc [0,1,2,3,4,5]]) Tryz.func80 rfl (by kernel_rfl) aV (aG (all_cons (bF (pY n)) (all_cons (bF (jK n)) (all_nil))) (aW (bO (dD n)) (aH))) mixed (aF _ _ rfl) (by kernel_rfl) (by kernel_rfl) (by kernel_rfl) (λx=>by kernel_rfl)
def zBm (n:Nat):An (Sum zI.X zJ.X):=(.mk .nil (.mk .nil (.mk .nil (.mk (.join ⟨88,[⟨0,false,[.ptr 0 0]⟩,⟨1,false,[.mp 1]⟩,⟨4,false,[.v (.int .i64)]⟩],yHa⟩ [.keep (kbm 67 19),.gcA 7] .nil) (.mk .nil (.mk (.join ⟨88,[⟨0,false,[.ptr 0 0]⟩,⟨1,false,[.mp 1]⟩],yHa⟩ [.keep [true,true],.gcA 7] .nil) .nil []) []) []) []) []) [])
theorem Uj(n:Nat):dA qEr 51 Ke zI 57 zJ (oF n):=
 dP (Γ:=bA _ [(82,peM iV gM (bR n)),(85,peM mJ kK (dK n)),(81,bN lG lH (strings_IndexByte n)),(71,peM iV gM (nC n))] [geM 71 iV gM (nC n),geP 84 iV oH 57 oH (mG n),geP 86 iV oJ 57 oH (fP n),geP 52 fG fH 57 fG (bB n),geP 72 iV gM 57 oH (qY n),geP 73 iV gM 57 oH (qZ n),geP 74 iV gM 57 oH (rA n),geP 75 iV gM 57 oH (mH n),geP 76 iV gM 57 oH (bC n),geP 77 iV gM 57 oH (lD n),geP 78 iV gM 57 oH (jV n),geP 79 iV gM 57 oH (iU n),geP 80 iV gM 57 oH (oD n)]) (an:=zBm n) (co:=[.gc [0,1,2,3,4,5,6]]) (cp:=[.gc [0,1,2,3,4,5,6]]) Tryz.func51 rfl (by kernel_rfl) aV (aG (all_cons (bF (gZ n)) (all_cons (bF (wK n)) (all_cons (aN (kF n)) (all_cons (bF (Es n)) (all_nil))))) (aW (xGx (Es n)) (aW (bO (Pm n)) (aW (bO (qU n)) (aW (bO (dD n)) (aW (bO (Xi n)) (aW (bO (Xj n)) (aW (bO (Xl n)) (aW (bO (Pn n)) (aW (bO (oQ n)) (aW (bO (Zw n)) (aW (bO (Vl n)) (aW (bO (Ui n)) (aW (bO (Zx n)) (aH))))))))))))))) mixed (aF _ _ rfl) (by kernel_rfl) (by kernel_rfl) (by kernel_rfl) (λx=>by kernel_rfl)
def zFv (n:Nat):An (Sum gM.X oH.X):=(.mk .nil (.mk (.mk (.loop ⟨104,[⟨0,false,[.ptr 0 0]⟩,⟨2,false,[.mp 6]⟩],[.box 80 [.v .str,.v .bool,.v (.int .i64),.v (.int .i64),.v .bool,.own 1,.own 2,.v (.int .i64),.v (.int .i64),.v (.int .i64),.v (.int .i64),.v (.int .i64),.v (.int .i64),.v .bool,.v (.int .u8),.v .str,.v .str,.v (.int .i64),.v (.int .i64),.v (.int .i64),.v (.slice iL),.v .bool,.v .bool,.own 3,.own 4,.mp 5],.row 87 aU,.row 77 aB,.row 118 gG,.row 118 gG,.dm .str (.int .i64),.fm [(.i .u8 123,71),(.i .u8 125,72),(.i .u8 58,73),(.i .u8 115,74),(.i .u8 121,75),(.i .u8 61,76),(.i .u8 100,76),(.i .u8 68,76),(.i .u8 103,76),(.i .u8 71,76),(.i .u8 104,76),(.i .u8 72,76),(.i .u8 110,76),(.i .u8 78,76),(.i .u8 112,76),(.i .u8 80,76),(.i .u8 120,76),(.i .u8 97,77),(.i .u8 105,77),(.i .u8 99,77),(.i .u8 98,78),(.i .u8 116,78),(.i .u8 84,78),(.i .u8 108,79),(.i .u8 113,79),(.i .u8 81,79),(.i .u8 114,80),(.i .u8 119,80)]]⟩ [.keep [true,false,true],.gcA 6,.gcA 6] [.keep [true,false,true],.gcA 6,.gcA 6] n .nil) .nil []) (.mk (.join ⟨104,[⟨0,false,[.ptr 0 0]⟩],dB⟩ [.keep [true],.gcA 6] .nil) (.mk .nil (.mk (.loop ⟨104,[⟨0,false,[.ptr 0 0]⟩,⟨60,false,[.own 4]⟩,⟨61,false,[.v (.int .i64)]⟩,⟨62,false,[.v (.int .i64)]⟩],dB⟩ [.keep (kbm 63 8070450532247928833),.gcA 6,.gcA 6] [.keep (kbm 63 8070450532247928833),.gcA 6,.gcA 6] n (.mk .nil (.mk .nil (.mk (.mk (.mk .nil (.mk .nil (.mk (.join ⟨104,[⟨0,false,[.ptr 0 0]⟩,⟨5,false,[.ptr 6 0]⟩,⟨6,false,[.v (.int .i64)]⟩,⟨7,false,[.v .bool]⟩,⟨60,false,[.own 4]⟩,⟨61,false,[.v (.int .i64)]⟩,⟨62,false,[.v (.int .i64)]⟩],[.box 80 [.v .str,.v .bool,.v (.int .i64),.v (.int .i64),.v .bool,.own 1,.own 2,.v (.int .i64),.v (.int .i64),.v (.int .i64),.v (.int .i64),.v (.int .i64),.v (.int .i64),.v .bool,.v (.int .u8),.v .str,.v .str,.v (.int .i64),.v (.int .i64),.v (.int .i64),.v (.slice iL),.v .bool,.v .bool,.own 3,.own 4,.mp 5],.row 87 aU,.row 77 aB,.row 118 gG,.row 118 gG,.dm .str (.int .i64),.box 118 [.v (.int .i64),.v (.int .i64),.v .str]]⟩ [.keep (kbm 63 8070450532247929057),.gcA 6] .nil) .nil []) []) []) .nil []) .nil []) []) [])) .nil []) []) []) []) [])
theorem Xo(n:Nat):dA qEr 30 iV gM 57 oH (nD n):=
 dP (Γ:=bA _ [(48,peM Zh Fz (zDe n)),(49,peM mJ kK (dG n)),(50,peM mJ nE (eB n))] [geP 51 Ke zI 57 zJ (oF n),geP 52 fG fH 57 fG (bB n)]) (an:=zFv n) (co:=[.gc [0,1,2,3,4,5]]) (cp:=[.gc [0,1,2,3,4,5]]) Tryz.func30 rfl (by kernel_rfl) aV (aG (all_cons (bF (zOw n)) (all_cons (bF (kG n)) (all_cons (bF (pY n)) (all_nil)))) (aW (bO (Uj n)) (aW (bO (dD n)) (aH)))) mixed (aF _ _ rfl) (by kernel_rfl) (by kernel_rfl) (by kernel_rfl) (λx=>by kernel_rfl)
theorem Ct(n:Nat):dV qEr 29 mM oH (bZ n):=
 yGq (si:=mM) (so:=oH) (sp:=oH) (sd:=iV) (od:=gM) (F:=nD n) (G:=bZ n) (conv:=λx=>x) (o1:=λy=>(0,y)) (o2:=λz=>z) (Xo n) rfl (λx=>⟨rfl,rfl⟩) (λx=>by unfold bZ ob2;cases nD n x with|none=>rfl|some r=>cases r<;>rfl) (λy=>⟨rfl,rfl⟩) (λz=>⟨_,rfl,rfl⟩)
def zZg (n:Nat):An (bT Kq):=(.mk .nil (.mk .nil (.mk .nil (.mk .nil (.mk (.mk (.co [.ownB 2 5 36,.ownB 2 6 37,.ownB 2 23 78,.ownB 2 24 78] .nil) .nil []) .nil []) []) []) []) [])
theorem Wj(n:Nat):Pure qEr 17 Vj Kq (sV n):=
 bH (Γ:=bA _ [(29,peM mM oH (bZ n)),(28,bN Ip oW (strings_HasPrefix n))] []) (an:=zZg n) Tryz.func17 rfl (by kernel_rfl) aV (aG (all_cons (bF (Ct n)) (all_cons (aN (iJ n)) (all_nil))) (aH)) mixed (aF _ _ rfl) (λx=>by kernel_rfl)
end Go.Dec
