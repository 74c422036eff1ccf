/- Part of a proof over this seat: a library of my own, and what it says of this seat. No statement is proved here. -/
import Derived.Test.YtdgneppobefaoaaGreatDoorProg
import Derived.Test.YtdgneppobefaoaaGreatDoorPartBO
import Derived.Test.YtdgneppobefaoaaGreatDoorPartBN
import Derived.KernelRfl
import Derived.Test.YtdgneppobefaoaaGreatDoorPartBP
import Derived.Test.YtdgneppobefaoaaGreatDoorPartAL
namespace Go.Dec
open Go.Proofs
set_option linter.unusedVariables false
def tab:Tab:=[(3,⟨.int .i64,1,8,[.val (.int .i64) 0],some (.int .i64),false⟩),
 (4,⟨.bool,1,1,[.val .bool false],some .bool,false⟩),
 (5,⟨.int .u8,1,1,[.val (.int .u8) 0],some (.int .u8),false⟩),
 (9,⟨.str,1,16,[.val .str []],some .str,false⟩),
 (30,⟨.int .u16,1,2,[.val (.int .u16) 0],some (.int .u16),false⟩),
 (31,⟨.slice 5,1,24,[.bV],some (.slice (.int .u8)),false⟩),
 (32,⟨.slice 183,1,24,[.bV],some (.slice aH),false⟩),
 (33,⟨.slice 70,1,24,[.bV],some (.slice aD),false⟩),
 (35,⟨.struct [(0,4),(1,32),(2,33)],3,56,[.val .bool false,.bV,.bV],some Nq,false⟩),
 (36,⟨.int .i64,1,8,[.val (.int .i64) 0],some (.int .i64),false⟩),
 (62,⟨.ptr 73,1,8,[.kD],none,false⟩),
 (63,⟨.map 9 3,1,8,[.val .opq (Value.map none)],none,false⟩),
 (65,⟨.struct [(0,3),(1,3),(2,3)],3,24,[.val (.int .i64) 0,.val (.int .i64) 0,.val (.int .i64) 0],some Km,true⟩),
 (67,⟨.struct [(0,65),(3,65),(6,4)],7,56,[.val (.int .i64) 0,.val (.int .i64) 0,.val (.int .i64) 0,.val (.int .i64) 0,.val (.int .i64) 0,.val (.int .i64) 0,.val .bool false],some vJ,true⟩),
 (68,⟨.slice 243,1,24,[.bV],some (.slice bW),false⟩),
 (70,⟨.struct [(0,67),(7,5),(8,9),(9,9),(10,3),(11,3),(12,3),(13,68),(14,4),(15,4)],16,152,[.val (.int .i64) 0,.val (.int .i64) 0,.val (.int .i64) 0,.val (.int .i64) 0,.val (.int .i64) 0,.val (.int .i64) 0,.val .bool false,.val (.int .u8) 0,.val .str [],.val .str [],.val (.int .i64) 0,.val (.int .i64) 0,.val (.int .i64) 0,.bV,.val .bool false,.val .bool false],some aD,false⟩),
 (71,⟨.slice 119,1,24,[.bV],some (.slice aO),false⟩),
 (73,⟨.struct [(0,9),(1,4),(2,3),(3,3),(4,35),(7,70),(23,71),(24,71),(25,63)],26,304,[.val .str [],.val .bool false,.val (.int .i64) 0,.val (.int .i64) 0,.val .bool false,.bV,.bV,.val (.int .i64) 0,.val (.int .i64) 0,.val (.int .i64) 0,.val (.int .i64) 0,.val (.int .i64) 0,.val (.int .i64) 0,.val .bool false,.val (.int .u8) 0,.val .str [],.val .str [],.val (.int .i64) 0,.val (.int .i64) 0,.val (.int .i64) 0,.bV,.val .bool false,.val .bool false,.bV,.bV,.val .opq (Value.map none)],none,false⟩),
 (92,⟨.int .u64,1,8,[.val (.int .u64) 0],some (.int .u64),false⟩),
 (114,⟨.map 5 146,1,8,[.val .opq (Value.map none)],none,false⟩),
 (119,⟨.struct [(0,3),(1,3),(2,9)],3,32,[.val (.int .i64) 0,.val (.int .i64) 0,.val .str []],some aO,true⟩),
 (146,⟨.func,1,8,[.val .opq Value.nilFunc],some .opq,false⟩),
 (181,⟨.slice 187,1,24,[.bV],some (.slice Af),false⟩),
 (183,⟨.struct [(0,181),(1,4)],2,32,[.bV,.val .bool false],some aH,false⟩),
 (185,⟨.arr 4 92,4,32,[.val (.arr 4 (.int .u64)) ([0,0,0,0])],some (.arr 4 (.int .u64)),true⟩),
 (187,⟨.struct [(0,3),(1,185),(5,3),(6,3),(7,3),(8,3),(9,3)],10,80,[.val (.int .i64) 0,.val (.arr 4 (.int .u64)) ([0,0,0,0]),.val (.int .i64) 0,.val (.int .i64) 0,.val (.int .i64) 0,.val (.int .i64) 0,.val (.int .i64) 0],some Af,true⟩),
 (243,⟨.struct [(0,9),(1,3)],2,24,[.val .str [],.val (.int .i64) 0],some bW,true⟩),
 (253,⟨.arr 256 4,256,256,[.val (.arr 256 .bool) ([false,false,false,false,false,false,false,false,false,false,false,false,false,false,false,false,false,false,false,false,false,false,false,false,false,false,false,false,false,false,false,false,false,false,false,false,false,false,false,false,false,false,false,false,false,false,false,false,false,false,false,false,false,false,false,false,false,false,false,false,false,false,false,false,false,false,false,false,false,false,false,false,false,false,false,false,false,false,false,false,false,false,false,false,false,false,false,false,false,false,false,false,false,false,false,false,false,false,false,false,false,false,false,false,false,false,false,false,false,false,false,false,false,false,false,false,false,false,false,false,false,false,false,false,false,false,false,false,false,false,false,false,false,false,false,false,false,false,false,false,false,false,false,false,false,false,false,false,false,false,false,false,false,false,false,false,false,false,false,false,false,false,false,false,false,false,false,false,false,false,false,false,false,false,false,false,false,false,false,false,false,false,false,false,false,false,false,false,false,false,false,false,false,false,false,false,false,false,false,false,false,false,false,false,false,false,false,false,false,false,false,false,false,false,false,false,false,false,false,false,false,false,false,false,false,false,false,false,false,false,false,false,false,false,false,false,false,false,false,false,false,false,false,false,false,false,false,false,false,false,false,false,false,false,false,false])],some (.arr 256 .bool),true⟩),
 (257,⟨.ptr 253,1,8,[.kD],none,false⟩),
 (309,⟨.arr 2 3,2,16,[.val (.arr 2 (.int .i64)) ([0,0])],some (.arr 2 (.int .i64)),true⟩),
 (310,⟨.arr 7 309,14,112,[.val (.arr 7 (.arr 2 (.int .i64))) ([[0,0],[0,0],[0,0],[0,0],[0,0],[0,0],[0,0]])],some (.arr 7 (.arr 2 (.int .i64))),true⟩)]
theorem dK:aU Tryz.prog tab:=Zx (by kernel_rfl)
theorem mixed:Tryz.prog.follows .mixedOrders=true:=by kernel_rfl
abbrev jZ:Sh:=⟨2,[⟨0,false,[.ptr 0 0]⟩,⟨1,false,[.v .str]⟩],[.box 73 [.v .str,.v .bool,.v (.int .i64),.v (.int .i64),.v .bool,.own 1,.own 2,.v (.int .i64),.v (.int .i64),.v (.int .i64),.v (.int .i64),.v (.int .i64),.v (.int .i64),.v .bool,.v (.int .u8),.v .str,.v .str,.v (.int .i64),.v (.int .i64),.v (.int .i64),.v (.slice bW),.v .bool,.v .bool,.own 3,.own 4,.mp 5],.row 183 aH,.row 70 aD,.row 119 aO,.row 119 aO,.dm .str (.int .i64)]⟩
abbrev iM:Sh:=⟨1,[⟨0,false,[.v .bool]⟩],[.box 73 [.v .str,.v .bool,.v (.int .i64),.v (.int .i64),.v .bool,.own 1,.own 2,.v (.int .i64),.v (.int .i64),.v (.int .i64),.v (.int .i64),.v (.int .i64),.v (.int .i64),.v .bool,.v (.int .u8),.v .str,.v .str,.v (.int .i64),.v (.int .i64),.v (.int .i64),.v (.slice bW),.v .bool,.v .bool,.own 3,.own 4,.mp 5],.row 183 aH,.row 70 aD,.row 119 aO,.row 119 aO,.dm .str (.int .i64)]⟩
abbrev Ci:List Ty:=[.str,.int .i64]
abbrev wG:List Ty:=[.str,.int .i64]
abbrev tV:List Ty:=[.str,.int .u8]
abbrev nC:List Ty:=[.str]
abbrev nD:List Ty:=[.str]
abbrev jR:List Ty:=[.arr 256 .bool,.bool]
abbrev jW:Sh:=⟨2,[⟨0,false,[.ptr 0 0]⟩,⟨1,false,[.v (.int .u8)]⟩],[.box 253 [.v (.arr 256 .bool)]]⟩
abbrev gN:Sh:=⟨1,[⟨0,false,[.v .bool]⟩],[.box 253 [.v (.arr 256 .bool)]]⟩
abbrev sI:Sh:=⟨2,[⟨0,false,[.v .str]⟩,⟨1,false,[.ptr 0 0]⟩],[.box 253 [.v (.arr 256 .bool)]]⟩
abbrev mF:Sh:=⟨1,[⟨0,false,[.v .str]⟩],[.box 253 [.v (.arr 256 .bool)]]⟩
abbrev xR:List Ty:=[.str,.str]
abbrev rV:List Ty:=[.str]
abbrev Ib:List Ty:=[.str,.int .i64]
abbrev xO:List Ty:=[.int .i64]
abbrev gY:Sh:=⟨1,[⟨0,false,[.ptr 0 0]⟩],[.box 73 [.v .str,.v .bool,.v (.int .i64),.v (.int .i64),.v .bool,.own 1,.own 2,.v (.int .i64),.v (.int .i64),.v (.int .i64),.v (.int .i64),.v (.int .i64),.v (.int .i64),.v .bool,.v (.int .u8),.v .str,.v .str,.v (.int .i64),.v (.int .i64),.v (.int .i64),.v (.slice bW),.v .bool,.v .bool,.own 3,.own 4,.mp 5],.row 183 aH,.row 70 aD,.row 119 aO,.row 119 aO,.dm .str (.int .i64)]⟩
abbrev eY:Sh:=⟨0,[],[.box 73 [.v .str,.v .bool,.v (.int .i64),.v (.int .i64),.v .bool,.own 1,.own 2,.v (.int .i64),.v (.int .i64),.v (.int .i64),.v (.int .i64),.v (.int .i64),.v (.int .i64),.v .bool,.v (.int .u8),.v .str,.v .str,.v (.int .i64),.v (.int .i64),.v (.int .i64),.v (.slice bW),.v .bool,.v .bool,.own 3,.own 4,.mp 5],.row 183 aH,.row 70 aD,.row 119 aO,.row 119 aO,.dm .str (.int .i64)]⟩
abbrev sJ:List Ty:=[.str,.int .u8]
abbrev mG:List Ty:=[.str]
abbrev rO:Sh:=⟨2,[⟨0,false,[.v .str]⟩,⟨1,false,[.ptr 0 0]⟩],[.box 253 [.v (.arr 256 .bool)]]⟩
abbrev lG:Sh:=⟨1,[⟨0,false,[.v .str]⟩],[.box 253 [.v (.arr 256 .bool)]]⟩
abbrev wX:List Ty:=[.str,.str]
abbrev qL:List Ty:=[.str]
abbrev Nr:List Ty:=[.str,.int .i64,.str]
abbrev Cj:List Ty:=[.str,.int .i64]
abbrev uR:Sh:=⟨2,[⟨0,false,[.ptr 0 0]⟩,⟨1,false,[.v .str]⟩],[.box 73 [.v .str,.v .bool,.v (.int .i64),.v (.int .i64),.v .bool,.own 1,.own 2,.v (.int .i64),.v (.int .i64),.v (.int .i64),.v (.int .i64),.v (.int .i64),.v (.int .i64),.v .bool,.v (.int .u8),.v .str,.v .str,.v (.int .i64),.v (.int .i64),.v (.int .i64),.v (.slice bW),.v .bool,.v .bool,.own 3,.own 4,.mp 5],.row 183 aH,.row 70 aD,.row 119 aO,.row 119 aO,.dm .str (.int .i64)]⟩
abbrev pE:Sh:=⟨1,[⟨0,false,[.v .str]⟩],[.box 73 [.v .str,.v .bool,.v (.int .i64),.v (.int .i64),.v .bool,.own 1,.own 2,.v (.int .i64),.v (.int .i64),.v (.int .i64),.v (.int .i64),.v (.int .i64),.v (.int .i64),.v .bool,.v (.int .u8),.v .str,.v .str,.v (.int .i64),.v (.int .i64),.v (.int .i64),.v (.slice bW),.v .bool,.v .bool,.own 3,.own 4,.mp 5],.row 183 aH,.row 70 aD,.row 119 aO,.row 119 aO,.dm .str (.int .i64)]⟩
abbrev kY:Sh:=⟨2,[⟨0,false,[.ptr 0 0]⟩,⟨1,false,[.v .str]⟩],[.box 73 [.v .str,.v .bool,.v (.int .i64),.v (.int .i64),.v .bool,.own 1,.own 2,.v (.int .i64),.v (.int .i64),.v (.int .i64),.v (.int .i64),.v (.int .i64),.v (.int .i64),.v .bool,.v (.int .u8),.v .str,.v .str,.v (.int .i64),.v (.int .i64),.v (.int .i64),.v (.slice bW),.v .bool,.v .bool,.own 3,.own 4,.mp 5],.row 183 aH,.row 70 aD,.row 119 aO,.row 119 aO,.dm .str (.int .i64)]⟩
abbrev iU:Sh:=⟨1,[⟨0,false,[.v .bool]⟩],[.box 73 [.v .str,.v .bool,.v (.int .i64),.v (.int .i64),.v .bool,.own 1,.own 2,.v (.int .i64),.v (.int .i64),.v (.int .i64),.v (.int .i64),.v (.int .i64),.v (.int .i64),.v .bool,.v (.int .u8),.v .str,.v .str,.v (.int .i64),.v (.int .i64),.v (.int .i64),.v (.slice bW),.v .bool,.v .bool,.own 3,.own 4,.mp 5],.row 183 aH,.row 70 aD,.row 119 aO,.row 119 aO,.dm .str (.int .i64)]⟩
abbrev nE:Sh:=⟨1,[⟨0,false,[.v (.int .i64)]⟩],[]⟩
abbrev nG:Sh:=⟨0,[],[]⟩
abbrev nH:Sh:=⟨1,[⟨0,false,[.v (.int .i64)]⟩],[]⟩
abbrev qM:Sh:=⟨1,[⟨0,false,[.ptr 0 0]⟩],[.box 73 [.v .str,.v .bool,.v (.int .i64),.v (.int .i64),.v .bool,.own 1,.own 2,.v (.int .i64),.v (.int .i64),.v (.int .i64),.v (.int .i64),.v (.int .i64),.v (.int .i64),.v .bool,.v (.int .u8),.v .str,.v .str,.v (.int .i64),.v (.int .i64),.v (.int .i64),.v (.slice bW),.v .bool,.v .bool,.own 3,.own 4,.mp 5],.row 183 aH,.row 70 aD,.row 119 aO,.row 119 aO,.dm .str (.int .i64)]⟩
abbrev lV:Sh:=⟨1,[⟨0,false,[.v (.int .u8)]⟩],[.box 73 [.v .str,.v .bool,.v (.int .i64),.v (.int .i64),.v .bool,.own 1,.own 2,.v (.int .i64),.v (.int .i64),.v (.int .i64),.v (.int .i64),.v (.int .i64),.v (.int .i64),.v .bool,.v (.int .u8),.v .str,.v .str,.v (.int .i64),.v (.int .i64),.v (.int .i64),.v (.slice bW),.v .bool,.v .bool,.own 3,.own 4,.mp 5],.row 183 aH,.row 70 aD,.row 119 aO,.row 119 aO,.dm .str (.int .i64)]⟩
abbrev lW:Sh:=⟨1,[⟨0,false,[.v (.int .i64)]⟩],[.box 73 [.v .str,.v .bool,.v (.int .i64),.v (.int .i64),.v .bool,.own 1,.own 2,.v (.int .i64),.v (.int .i64),.v (.int .i64),.v (.int .i64),.v (.int .i64),.v (.int .i64),.v .bool,.v (.int .u8),.v .str,.v .str,.v (.int .i64),.v (.int .i64),.v (.int .i64),.v (.slice bW),.v .bool,.v .bool,.own 3,.own 4,.mp 5],.row 183 aH,.row 70 aD,.row 119 aO,.row 119 aO,.dm .str (.int .i64)]⟩
abbrev sK:Sh:=⟨2,[⟨0,false,[.ptr 0 0]⟩,⟨1,false,[.v .bool]⟩],[.box 73 [.v .str,.v .bool,.v (.int .i64),.v (.int .i64),.v .bool,.own 1,.own 2,.v (.int .i64),.v (.int .i64),.v (.int .i64),.v (.int .i64),.v (.int .i64),.v (.int .i64),.v .bool,.v (.int .u8),.v .str,.v .str,.v (.int .i64),.v (.int .i64),.v (.int .i64),.v (.slice bW),.v .bool,.v .bool,.own 3,.own 4,.mp 5],.row 183 aH,.row 70 aD,.row 119 aO,.row 119 aO,.dm .str (.int .i64)]⟩
abbrev mH:Sh:=⟨2,[⟨0,true,[.v (.int .i64),.v (.int .i64),.v (.int .i64)]⟩,⟨1,false,[.v .bool]⟩],[.box 73 [.v .str,.v .bool,.v (.int .i64),.v (.int .i64),.v .bool,.own 1,.own 2,.v (.int .i64),.v (.int .i64),.v (.int .i64),.v (.int .i64),.v (.int .i64),.v (.int .i64),.v .bool,.v (.int .u8),.v .str,.v .str,.v (.int .i64),.v (.int .i64),.v (.int .i64),.v (.slice bW),.v .bool,.v .bool,.own 3,.own 4,.mp 5],.row 183 aH,.row 70 aD,.row 119 aO,.row 119 aO,.dm .str (.int .i64)]⟩
abbrev mI:Sh:=⟨1,[⟨0,false,[.v (.int .i64)]⟩],[.box 73 [.v .str,.v .bool,.v (.int .i64),.v (.int .i64),.v .bool,.own 1,.own 2,.v (.int .i64),.v (.int .i64),.v (.int .i64),.v (.int .i64),.v (.int .i64),.v (.int .i64),.v .bool,.v (.int .u8),.v .str,.v .str,.v (.int .i64),.v (.int .i64),.v (.int .i64),.v (.slice bW),.v .bool,.v .bool,.own 3,.own 4,.mp 5],.row 183 aH,.row 70 aD,.row 119 aO,.row 119 aO,.dm .str (.int .i64)]⟩
abbrev Dx:List Ty:=[Km]
abbrev vN:List Ty:=[.bool]
abbrev Ye:List Ty:=[vJ]
abbrev Kn:List Ty:=[.bool]
abbrev qN:Sh:=⟨1,[⟨0,false,[.ptr 0 0]⟩],[.box 73 [.v .str,.v .bool,.v (.int .i64),.v (.int .i64),.v .bool,.own 1,.own 2,.v (.int .i64),.v (.int .i64),.v (.int .i64),.v (.int .i64),.v (.int .i64),.v (.int .i64),.v .bool,.v (.int .u8),.v .str,.v .str,.v (.int .i64),.v (.int .i64),.v (.int .i64),.v (.slice bW),.v .bool,.v .bool,.own 3,.own 4,.mp 5],.row 183 aH,.row 70 aD,.row 119 aO,.row 119 aO,.dm .str (.int .i64)]⟩
abbrev kU:Sh:=⟨1,[⟨0,false,[.v (.int .i64)]⟩],[.box 73 [.v .str,.v .bool,.v (.int .i64),.v (.int .i64),.v .bool,.own 1,.own 2,.v (.int .i64),.v (.int .i64),.v (.int .i64),.v (.int .i64),.v (.int .i64),.v (.int .i64),.v .bool,.v (.int .u8),.v .str,.v .str,.v (.int .i64),.v (.int .i64),.v (.int .i64),.v (.slice bW),.v .bool,.v .bool,.own 3,.own 4,.mp 5],.row 183 aH,.row 70 aD,.row 119 aO,.row 119 aO,.dm .str (.int .i64)]⟩
abbrev kV:Sh:=⟨1,[⟨0,false,[.v (.int .i64)]⟩],[.box 73 [.v .str,.v .bool,.v (.int .i64),.v (.int .i64),.v .bool,.own 1,.own 2,.v (.int .i64),.v (.int .i64),.v (.int .i64),.v (.int .i64),.v (.int .i64),.v (.int .i64),.v .bool,.v (.int .u8),.v .str,.v .str,.v (.int .i64),.v (.int .i64),.v (.int .i64),.v (.slice bW),.v .bool,.v .bool,.own 3,.own 4,.mp 5],.row 183 aH,.row 70 aD,.row 119 aO,.row 119 aO,.dm .str (.int .i64)]⟩
abbrev wY:Sh:=⟨1,[⟨0,false,[.ptr 0 0]⟩],[.box 73 [.v .str,.v .bool,.v (.int .i64),.v (.int .i64),.v .bool,.own 1,.own 2,.v (.int .i64),.v (.int .i64),.v (.int .i64),.v (.int .i64),.v (.int .i64),.v (.int .i64),.v .bool,.v (.int .u8),.v .str,.v .str,.v (.int .i64),.v (.int .i64),.v (.int .i64),.v (.slice bW),.v .bool,.v .bool,.own 3,.own 4,.mp 5],.row 183 aH,.row 70 aD,.row 119 aO,.row 119 aO,.dm .str (.int .i64)]⟩
abbrev qO:Sh:=⟨0,[],[.box 73 [.v .str,.v .bool,.v (.int .i64),.v (.int .i64),.v .bool,.own 1,.own 2,.v (.int .i64),.v (.int .i64),.v (.int .i64),.v (.int .i64),.v (.int .i64),.v (.int .i64),.v .bool,.v (.int .u8),.v .str,.v .str,.v (.int .i64),.v (.int .i64),.v (.int .i64),.v (.slice bW),.v .bool,.v .bool,.own 3,.own 4,.mp 5],.row 183 aH,.row 70 aD,.row 119 aO,.row 119 aO,.dm .str (.int .i64)]⟩
abbrev uN:Sh:=⟨1,[⟨0,false,[.ptr 0 0]⟩],[.box 73 [.v .str,.v .bool,.v (.int .i64),.v (.int .i64),.v .bool,.own 1,.own 2,.v (.int .i64),.v (.int .i64),.v (.int .i64),.v (.int .i64),.v (.int .i64),.v (.int .i64),.v .bool,.v (.int .u8),.v .str,.v .str,.v (.int .i64),.v (.int .i64),.v (.int .i64),.v (.slice bW),.v .bool,.v .bool,.own 3,.own 4,.mp 5],.row 183 aH,.row 70 aD,.row 119 aO,.row 119 aO,.dm .str (.int .i64)]⟩
abbrev oF:Sh:=⟨0,[],[.box 73 [.v .str,.v .bool,.v (.int .i64),.v (.int .i64),.v .bool,.own 1,.own 2,.v (.int .i64),.v (.int .i64),.v (.int .i64),.v (.int .i64),.v (.int .i64),.v (.int .i64),.v .bool,.v (.int .u8),.v .str,.v .str,.v (.int .i64),.v (.int .i64),.v (.int .i64),.v (.slice bW),.v .bool,.v .bool,.own 3,.own 4,.mp 5],.row 183 aH,.row 70 aD,.row 119 aO,.row 119 aO,.dm .str (.int .i64)]⟩
abbrev oG:Sh:=⟨1,[⟨0,false,[.v (.int .i64)]⟩],[.box 73 [.v .str,.v .bool,.v (.int .i64),.v (.int .i64),.v .bool,.own 1,.own 2,.v (.int .i64),.v (.int .i64),.v (.int .i64),.v (.int .i64),.v (.int .i64),.v (.int .i64),.v .bool,.v (.int .u8),.v .str,.v .str,.v (.int .i64),.v (.int .i64),.v (.int .i64),.v (.slice bW),.v .bool,.v .bool,.own 3,.own 4,.mp 5],.row 183 aH,.row 70 aD,.row 119 aO,.row 119 aO,.dm .str (.int .i64)]⟩
abbrev uO:Sh:=⟨1,[⟨0,false,[.ptr 0 0]⟩],[.box 73 [.v .str,.v .bool,.v (.int .i64),.v (.int .i64),.v .bool,.own 1,.own 2,.v (.int .i64),.v (.int .i64),.v (.int .i64),.v (.int .i64),.v (.int .i64),.v (.int .i64),.v .bool,.v (.int .u8),.v .str,.v .str,.v (.int .i64),.v (.int .i64),.v (.int .i64),.v (.slice bW),.v .bool,.v .bool,.own 3,.own 4,.mp 5],.row 183 aH,.row 70 aD,.row 119 aO,.row 119 aO,.dm .str (.int .i64)]⟩
abbrev oH:Sh:=⟨0,[],[.box 73 [.v .str,.v .bool,.v (.int .i64),.v (.int .i64),.v .bool,.own 1,.own 2,.v (.int .i64),.v (.int .i64),.v (.int .i64),.v (.int .i64),.v (.int .i64),.v (.int .i64),.v .bool,.v (.int .u8),.v .str,.v .str,.v (.int .i64),.v (.int .i64),.v (.int .i64),.v (.slice bW),.v .bool,.v .bool,.own 3,.own 4,.mp 5],.row 183 aH,.row 70 aD,.row 119 aO,.row 119 aO,.dm .str (.int .i64)]⟩
abbrev oI:Sh:=⟨1,[⟨0,false,[.v (.int .i64)]⟩],[.box 73 [.v .str,.v .bool,.v (.int .i64),.v (.int .i64),.v .bool,.own 1,.own 2,.v (.int .i64),.v (.int .i64),.v (.int .i64),.v (.int .i64),.v (.int .i64),.v (.int .i64),.v .bool,.v (.int .u8),.v .str,.v .str,.v (.int .i64),.v (.int .i64),.v (.int .i64),.v (.slice bW),.v .bool,.v .bool,.own 3,.own 4,.mp 5],.row 183 aH,.row 70 aD,.row 119 aO,.row 119 aO,.dm .str (.int .i64)]⟩
abbrev sM:Sh:=⟨2,[⟨0,false,[.ptr 0 0]⟩,⟨1,false,[.mp 1]⟩],[.box 73 [.v .str,.v .bool,.v (.int .i64),.v (.int .i64),.v .bool,.own 2,.own 3,.v (.int .i64),.v (.int .i64),.v (.int .i64),.v (.int .i64),.v (.int .i64),.v (.int .i64),.v .bool,.v (.int .u8),.v .str,.v .str,.v (.int .i64),.v (.int .i64),.v (.int .i64),.v (.slice bW),.v .bool,.v .bool,.own 4,.own 5,.mp 6],.fm [(.i .u8 123,69),(.i .u8 125,70),(.i .u8 58,71),(.i .u8 115,72),(.i .u8 121,73),(.i .u8 61,74),(.i .u8 100,74),(.i .u8 68,74),(.i .u8 103,74),(.i .u8 71,74),(.i .u8 104,74),(.i .u8 72,74),(.i .u8 110,74),(.i .u8 78,74),(.i .u8 112,74),(.i .u8 80,74),(.i .u8 120,74),(.i .u8 97,75),(.i .u8 105,75),(.i .u8 99,75),(.i .u8 98,76),(.i .u8 116,76),(.i .u8 84,76),(.i .u8 108,77),(.i .u8 113,77),(.i .u8 81,77),(.i .u8 114,78),(.i .u8 119,78)],.row 183 aH,.row 70 aD,.row 119 aO,.row 119 aO,.dm .str (.int .i64)]⟩
abbrev mJ:Sh:=⟨0,[],[.box 73 [.v .str,.v .bool,.v (.int .i64),.v (.int .i64),.v .bool,.own 2,.own 3,.v (.int .i64),.v (.int .i64),.v (.int .i64),.v (.int .i64),.v (.int .i64),.v (.int .i64),.v .bool,.v (.int .u8),.v .str,.v .str,.v (.int .i64),.v (.int .i64),.v (.int .i64),.v (.slice bW),.v .bool,.v .bool,.own 4,.own 5,.mp 6],.fm [(.i .u8 123,69),(.i .u8 125,70),(.i .u8 58,71),(.i .u8 115,72),(.i .u8 121,73),(.i .u8 61,74),(.i .u8 100,74),(.i .u8 68,74),(.i .u8 103,74),(.i .u8 71,74),(.i .u8 104,74),(.i .u8 72,74),(.i .u8 110,74),(.i .u8 78,74),(.i .u8 112,74),(.i .u8 80,74),(.i .u8 120,74),(.i .u8 97,75),(.i .u8 105,75),(.i .u8 99,75),(.i .u8 98,76),(.i .u8 116,76),(.i .u8 84,76),(.i .u8 108,77),(.i .u8 113,77),(.i .u8 81,77),(.i .u8 114,78),(.i .u8 119,78)],.row 183 aH,.row 70 aD,.row 119 aO,.row 119 aO,.dm .str (.int .i64)]⟩
abbrev mK:Sh:=⟨1,[⟨0,false,[.v (.int .i64)]⟩],[.box 73 [.v .str,.v .bool,.v (.int .i64),.v (.int .i64),.v .bool,.own 2,.own 3,.v (.int .i64),.v (.int .i64),.v (.int .i64),.v (.int .i64),.v (.int .i64),.v (.int .i64),.v .bool,.v (.int .u8),.v .str,.v .str,.v (.int .i64),.v (.int .i64),.v (.int .i64),.v (.slice bW),.v .bool,.v .bool,.own 4,.own 5,.mp 6],.fm [(.i .u8 123,69),(.i .u8 125,70),(.i .u8 58,71),(.i .u8 115,72),(.i .u8 121,73),(.i .u8 61,74),(.i .u8 100,74),(.i .u8 68,74),(.i .u8 103,74),(.i .u8 71,74),(.i .u8 104,74),(.i .u8 72,74),(.i .u8 110,74),(.i .u8 78,74),(.i .u8 112,74),(.i .u8 80,74),(.i .u8 120,74),(.i .u8 97,75),(.i .u8 105,75),(.i .u8 99,75),(.i .u8 98,76),(.i .u8 116,76),(.i .u8 84,76),(.i .u8 108,77),(.i .u8 113,77),(.i .u8 81,77),(.i .u8 114,78),(.i .u8 119,78)],.row 183 aH,.row 70 aD,.row 119 aO,.row 119 aO,.dm .str (.int .i64)]⟩
abbrev uP:Sh:=⟨1,[⟨0,false,[.ptr 0 0]⟩],[.box 73 [.v .str,.v .bool,.v (.int .i64),.v (.int .i64),.v .bool,.own 1,.own 2,.v (.int .i64),.v (.int .i64),.v (.int .i64),.v (.int .i64),.v (.int .i64),.v (.int .i64),.v .bool,.v (.int .u8),.v .str,.v .str,.v (.int .i64),.v (.int .i64),.v (.int .i64),.v (.slice bW),.v .bool,.v .bool,.own 3,.own 4,.mp 5],.row 183 aH,.row 70 aD,.row 119 aO,.row 119 aO,.dm .str (.int .i64)]⟩
abbrev oJ:Sh:=⟨0,[],[.box 73 [.v .str,.v .bool,.v (.int .i64),.v (.int .i64),.v .bool,.own 1,.own 2,.v (.int .i64),.v (.int .i64),.v (.int .i64),.v (.int .i64),.v (.int .i64),.v (.int .i64),.v .bool,.v (.int .u8),.v .str,.v .str,.v (.int .i64),.v (.int .i64),.v (.int .i64),.v (.slice bW),.v .bool,.v .bool,.own 3,.own 4,.mp 5],.row 183 aH,.row 70 aD,.row 119 aO,.row 119 aO,.dm .str (.int .i64)]⟩
abbrev oK:Sh:=⟨1,[⟨0,false,[.v (.int .i64)]⟩],[.box 73 [.v .str,.v .bool,.v (.int .i64),.v (.int .i64),.v .bool,.own 1,.own 2,.v (.int .i64),.v (.int .i64),.v (.int .i64),.v (.int .i64),.v (.int .i64),.v (.int .i64),.v .bool,.v (.int .u8),.v .str,.v .str,.v (.int .i64),.v (.int .i64),.v (.int .i64),.v (.slice bW),.v .bool,.v .bool,.own 3,.own 4,.mp 5],.row 183 aH,.row 70 aD,.row 119 aO,.row 119 aO,.dm .str (.int .i64)]⟩
abbrev fV:Sh:=⟨1,[⟨0,false,[.clo 1000024 [(0,0)]]⟩],[.box 73 [.v .str,.v .bool,.v (.int .i64),.v (.int .i64),.v .bool,.own 1,.own 2,.v (.int .i64),.v (.int .i64),.v (.int .i64),.v (.int .i64),.v (.int .i64),.v (.int .i64),.v .bool,.v (.int .u8),.v .str,.v .str,.v (.int .i64),.v (.int .i64),.v (.int .i64),.v (.slice bW),.v .bool,.v .bool,.own 3,.own 4,.mp 5],.row 183 aH,.row 70 aD,.row 119 aO,.row 119 aO,.dm .str (.int .i64)]⟩
abbrev fZ:Sh:=⟨1,[⟨0,false,[.v (.int .i64)]⟩],[.box 73 [.v .str,.v .bool,.v (.int .i64),.v (.int .i64),.v .bool,.own 1,.own 2,.v (.int .i64),.v (.int .i64),.v (.int .i64),.v (.int .i64),.v (.int .i64),.v (.int .i64),.v .bool,.v (.int .u8),.v .str,.v .str,.v (.int .i64),.v (.int .i64),.v (.int .i64),.v (.slice bW),.v .bool,.v .bool,.own 3,.own 4,.mp 5],.row 183 aH,.row 70 aD,.row 119 aO,.row 119 aO,.dm .str (.int .i64)]⟩
abbrev kZ:List Ty:=[.str,.str]
abbrev iC:List Ty:=[.bool]
abbrev wZ:List Ty:=[.str,.str]
abbrev qP:List Ty:=[.bool]
abbrev Ic:List Ty:=[.str,.bool]
abbrev xP:List Ty:=[Nq,.int .i64,.int .i64]
abbrev rW:List Ty:=[.int .u16,.bool,.bool]
abbrev xS:List Ty:=[.bool]
def Ko (n:Nat):An (iM.X):=.nil
theorem jA (n:Nat):rA Tryz.prog 47 jZ iM (bU n) :=
 qC (Γ:=gT _ [(34,lF lQ lS (strings_IndexByte n))] []) (an:=Ko n) (co:=[.gc [0,1,2,3,4,5]]) Tryz.func47 rfl (by kernel_rfl) dK (cK (all_cons (fQ (mE n)) (all_nil)) (cO)) mixed (bM _ _ rfl) (by kernel_rfl) (by kernel_rfl) (fun x=>by kernel_rfl)
def zDs (n:Nat):An (dD wG):=.nil
theorem Br (n:Nat):Pure Tryz.prog 124 Ci wG (rJ n) :=
 jP (Γ:=gT _ [] []) (an:=zDs n) Tryz.func124 rfl (by kernel_rfl) dK (cK (all_nil) (cO)) mixed (bM _ _ rfl) (fun x=>by kernel_rfl)
def Ck (n:Nat):An (dD nC):=(.mk .nil (.mk (.mk (.loop ⟨17,[⟨0,false,[.v .str]⟩,⟨1,false,[.v (.int .u8)]⟩],[]⟩ [.keep [true,true],.gcA 0,.gcA 0] [.keep [true,true],.gcA 0,.gcA 0] n .nil) .nil []) .nil []) [])
theorem yV (n:Nat):Pure Tryz.prog 218 tV nC (strings_trimLeftByte n) :=
 jP (Γ:=gT _ [] []) (an:=Ck n) Tryz.func218 rfl (by kernel_rfl) dK (cK (all_nil) (cO)) mixed (bM _ _ rfl) (fun x=>by kernel_rfl)
def Cm (n:Nat):An (dD jR):=(.mk .nil (.mk (.mk .nil (.mk (.loop ⟨21,[⟨0,false,[.v .str]⟩,⟨2,false,[.ptr 0 0]⟩,⟨4,false,[.v (.int .i64)]⟩],[.box 253 [.v (.arr 256 .bool)]]⟩ [.keep [true,false,true,false,true],.gcA 0,.gcA 0] [.keep [true,false,true,false,true],.gcA 0,.gcA 0] n .nil) .nil []) []) .nil []) [])
theorem pK (n:Nat):Pure Tryz.prog 179 nD jR (strings_makeASCIISet n) :=
 jP (Γ:=gT _ [] []) (an:=Cm n) Tryz.func179 rfl (by kernel_rfl) dK (cK (all_nil) (cO)) mixed (bM _ _ rfl) (fun x=>by kernel_rfl)
def xA (n:Nat):An (gN.X):=.nil
theorem lC (n:Nat):rA Tryz.prog 221 jW gN (dL n) :=
 qC (Γ:=gT _ [] []) (an:=xA n) (co:=[.gc [0]]) Tryz.func221 rfl (by kernel_rfl) dK (cK (all_nil) (cO)) mixed (bM _ _ rfl) (by kernel_rfl) (by kernel_rfl) (fun x=>by kernel_rfl)
def Ai (n:Nat):An (mF.X):=(.mk .nil (.mk (.mk (.loop ⟨16,[⟨0,false,[.v .str]⟩,⟨1,false,[.ptr 0 0]⟩],[.box 253 [.v (.arr 256 .bool)]]⟩ [.keep [true,true],.gcA 1,.gcA 1] [.keep [true,true],.gcA 1,.gcA 1] n .nil) .nil []) .nil []) [])
theorem xB (n:Nat):rA Tryz.prog 219 sI mF (strings_trimLeftASCII n) :=
 qC (Γ:=gT _ [(221,peM jW gN (dL n))] []) (an:=Ai n) (co:=[.gc [0]]) Tryz.func219 rfl (by kernel_rfl) dK (cK (all_cons (iK (lC n)) (all_nil)) (cO)) mixed (bM _ _ rfl) (by kernel_rfl) (by kernel_rfl) (fun x=>by kernel_rfl)
def Kq (n:Nat):An (dD rV):=.nil
theorem Dy (n:Nat):Pure Tryz.prog 177 xR rV (gU n) :=
 jP (Γ:=gT _ [(218,lF tV nC (strings_trimLeftByte n)),(179,lF nD jR (strings_makeASCIISet n)),(219,peM sI mF (strings_trimLeftASCII n))] []) (an:=Kq n) Tryz.func177 rfl (by kernel_rfl) dK (cK (all_cons (fQ (yV n)) (all_cons (fQ (pK n)) (all_cons (iK (xB n)) (all_nil)))) (cO)) mixed (bM _ _ rfl) (fun x=>by kernel_rfl)
def Vp (n:Nat):An (dD xO):=.nil
theorem Mk (n:Nat):Pure Tryz.prog 123 Ib xO (qJ n) :=
 jP (Γ:=gT _ [(124,lF Ci wG (rJ n)),(177,lF xR rV (gU n))] []) (an:=Vp n) Tryz.func123 rfl (by kernel_rfl) dK (cK (all_cons (fQ (Br n)) (all_cons (fQ (Dy n)) (all_nil))) (cO)) mixed (bM _ _ rfl) (fun x=>by kernel_rfl)
def Cn (n:Nat):An (eY.X):=.nil
theorem gP (n:Nat):rA Tryz.prog 79 gY eY (bF n) :=
 qC (Γ:=gT _ [(123,lF Ib xO (qJ n))] []) (an:=Cn n) (co:=[.gc [0,1,2,3,4,5]]) Tryz.func79 rfl (by kernel_rfl) dK (cK (all_cons (fQ (Mk n)) (all_nil)) (cO)) mixed (bM _ _ rfl) (by kernel_rfl) (by kernel_rfl) (fun x=>by kernel_rfl)
def Aj (n:Nat):An (dD mG):=(.mk .nil (.mk (.mk (.loop ⟨23,[⟨0,false,[.v .str]⟩,⟨1,false,[.v (.int .u8)]⟩],[]⟩ [.keep [true,true],.gcA 0,.gcA 0] [.keep [true,true],.gcA 0,.gcA 0] n .nil) .nil []) .nil []) [])
theorem xQ (n:Nat):Pure Tryz.prog 178 sJ mG (strings_trimRightByte n) :=
 jP (Γ:=gT _ [] []) (an:=Aj n) Tryz.func178 rfl (by kernel_rfl) dK (cK (all_nil) (cO)) mixed (bM _ _ rfl) (fun x=>by kernel_rfl)
def Ag (n:Nat):An (lG.X):=(.mk .nil (.mk (.mk (.loop ⟨22,[⟨0,false,[.v .str]⟩,⟨1,false,[.ptr 0 0]⟩],[.box 253 [.v (.arr 256 .bool)]]⟩ [.keep [true,true],.gcA 1,.gcA 1] [.keep [true,true],.gcA 1,.gcA 1] n .nil) .nil []) .nil []) [])
theorem vO (n:Nat):rA Tryz.prog 180 rO lG (strings_trimRightASCII n) :=
 qC (Γ:=gT _ [(221,peM jW gN (dL n))] []) (an:=Ag n) (co:=[.gc [0]]) Tryz.func180 rfl (by kernel_rfl) dK (cK (all_cons (iK (lC n)) (all_nil)) (cO)) mixed (bM _ _ rfl) (by kernel_rfl) (by kernel_rfl) (fun x=>by kernel_rfl)
def Ii (n:Nat):An (dD qL):=.nil
theorem Cq (n:Nat):Pure Tryz.prog 125 wX qL (jY n) :=
 jP (Γ:=gT _ [(178,lF sJ mG (strings_trimRightByte n)),(179,lF nD jR (strings_makeASCIISet n)),(180,peM rO lG (strings_trimRightASCII n))] []) (an:=Ii n) Tryz.func125 rfl (by kernel_rfl) dK (cK (all_cons (fQ (xQ n)) (all_cons (fQ (pK n)) (all_cons (iK (vO n)) (all_nil)))) (cO)) mixed (bM _ _ rfl) (fun x=>by kernel_rfl)
def zDt (n:Nat):An (dD Cj):=(.mk .nil (.mk .nil (.mk .nil (.mk (.mk (.loop ⟨43,[⟨1,false,[.v (.int .i64)]⟩,⟨2,false,[.v .str]⟩,⟨8,false,[.v .str]⟩,⟨9,false,[.v (.int .i64)]⟩],[]⟩ [.keep [false,true,true,false,false,false,false,false,true,true],.gcA 0,.gcA 0] [.keep [false,true,true,false,false,false,false,false,true,true],.gcA 0,.gcA 0] n .nil) .nil []) .nil []) []) []) [])
theorem Tx (n:Nat):Pure Tryz.prog 80 Nr Cj (Gw n) :=
 jP (Γ:=gT _ [(124,lF Ci wG (rJ n)),(34,lF lQ lS (strings_IndexByte n)),(125,lF wX qL (jY n))] []) (an:=zDt n) Tryz.func80 rfl (by kernel_rfl) dK (cK (all_cons (fQ (Br n)) (all_cons (fQ (mE n)) (all_cons (fQ (Cq n)) (all_nil)))) (cO)) mixed (bM _ _ rfl) (fun x=>by kernel_rfl)
def Ho (n:Nat):An (pE.X):=.nil
theorem Ah (n:Nat):rA Tryz.prog 48 uR pE (qK n) :=
 qC (Γ:=gT _ [(79,peM gY eY (bF n)),(80,lF Nr Cj (Gw n))] []) (an:=Ho n) (co:=[.gc [0,1,2,3,4,5]]) Tryz.func48 rfl (by kernel_rfl) dK (cK (all_cons (iK (gP n)) (all_cons (fQ (Tx n)) (all_nil))) (cO)) mixed (bM _ _ rfl) (by kernel_rfl) (by kernel_rfl) (fun x=>by kernel_rfl)
def Hq (n:Nat):An (iU.X):=.nil
theorem kW (n:Nat):rA Tryz.prog 82 kY iU (bY n) :=
 qC (Γ:=gT _ [(47,peM jZ iM (bU n))] []) (an:=Hq n) (co:=[.gc [0,1,2,3,4,5]]) Tryz.func82 rfl (by kernel_rfl) dK (cK (all_cons (iK (jA n)) (all_nil)) (cO)) mixed (bM _ _ rfl) (by kernel_rfl) (by kernel_rfl) (fun x=>by kernel_rfl)
theorem kC (n:Nat):mW Tryz.prog 50 nE nG 36 nH (dA n):=zEw (fun x=>⟨_,_,rfl,rfl,rfl⟩)
def Ij (n:Nat):An (Sum lV.X lW.X):=.nil
theorem rP (n:Nat):mW Tryz.prog 83 qM lV 36 lW (eG n) :=
 qD (Γ:=gT _ [] [geP 50 nE nG 36 nH (dA n)]) (an:=Ij n) (co:=[.gc [0,1,2,3,4,5]]) (cp:=[.gc [0,1,2,3,4,5]]) Tryz.func83 rfl (by kernel_rfl) dK (cK (all_nil) (jV (oL (kC n)) (cO))) mixed (bM _ _ rfl) (by kernel_rfl) (by kernel_rfl) (by kernel_rfl) (fun x=>by kernel_rfl)
def Ak (n:Nat):An (Sum mH.X mI.X):=(.mk .nil (.mk (.mk (.mk .nil (.mk .nil (.mk .nil (.mk .nil (.mk .nil (.mk .nil (.mk (.join ⟨60,[⟨0,false,[.ptr 0 0]⟩,⟨1,false,[.v .bool]⟩,⟨4,false,[.ptr 6 0]⟩,⟨41,false,[.v .bool]⟩],[.box 73 [.v .str,.v .bool,.v (.int .i64),.v (.int .i64),.v .bool,.own 1,.own 2,.v (.int .i64),.v (.int .i64),.v (.int .i64),.v (.int .i64),.v (.int .i64),.v (.int .i64),.v .bool,.v (.int .u8),.v .str,.v .str,.v (.int .i64),.v (.int .i64),.v (.int .i64),.v (.slice bW),.v .bool,.v .bool,.own 3,.own 4,.mp 5],.row 183 aH,.row 70 aD,.row 119 aO,.row 119 aO,.dm .str (.int .i64),.box 65 [.v (.int .i64),.v (.int .i64),.v (.int .i64)]]⟩ [.keep [true,true,false,false,true,false,false,false,false,false,false,false,false,false,false,false,false,false,false,false,false,false,false,false,false,false,false,false,false,false,false,false,false,false,false,false,false,false,false,false,false,true],.gcA 6] .nil) .nil []) []) []) []) []) []) []) .nil []) .nil []) [])
theorem xC (n:Nat):mW Tryz.prog 126 sK mH 36 mI (eX n) :=
 qD (Γ:=gT _ [(47,peM jZ iM (bU n)),(82,peM kY iU (bY n))] [geP 83 qM lV 36 lW (eG n)]) (an:=Ak n) (co:=[.gc [0,1,2,3,4,5]]) (cp:=[.gc [0,1,2,3,4,5]]) Tryz.func126 rfl (by kernel_rfl) dK (cK (all_cons (iK (jA n)) (all_cons (iK (kW n)) (all_nil))) (jV (oL (rP n)) (cO))) mixed (bM _ _ rfl) (by kernel_rfl) (by kernel_rfl) (by kernel_rfl) (fun x=>by kernel_rfl)
def Tz (n:Nat):An (dD vN):=.nil
theorem Kr (n:Nat):Pure Tryz.prog 182 Dx vN (sS n) :=
 jP (Γ:=gT _ [] []) (an:=Tz n) Tryz.func182 rfl (by kernel_rfl) dK (cK (all_nil) (cO)) mixed (bM _ _ rfl) (fun x=>by kernel_rfl)
def zKw (n:Nat):An (dD Kn):=.nil
theorem Ym (n:Nat):Pure Tryz.prog 127 Ye Kn (Hl n) :=
 jP (Γ:=gT _ [(182,lF Dx vN (sS n))] []) (an:=zKw n) Tryz.func127 rfl (by kernel_rfl) dK (cK (all_cons (fQ (Kr n)) (all_nil)) (cO)) mixed (bM _ _ rfl) (fun x=>by kernel_rfl)
def yX (n:Nat):An (Sum kU.X kV.X):=.nil
theorem uQ (n:Nat):mW Tryz.prog 81 qN kU 36 kV (fT n) :=
 qD (Γ:=gT _ [(79,peM gY eY (bF n)),(82,peM kY iU (bY n)),(127,lF Ye Kn (Hl n))] [geP 126 sK mH 36 mI (eX n),geP 50 nE nG 36 nH (dA n)]) (an:=yX n) (co:=[.gc [0,1,2,3,4,5]]) (cp:=[.gc [0,1,2,3,4,5]]) Tryz.func81 rfl (by kernel_rfl) dK (cK (all_cons (iK (gP n)) (all_cons (iK (kW n)) (all_cons (fQ (Ym n)) (all_nil)))) (jV (oL (xC n)) (jV (oL (kC n)) (cO)))) mixed (bM _ _ rfl) (by kernel_rfl) (by kernel_rfl) (by kernel_rfl) (fun x=>by kernel_rfl)
def Ik (n:Nat):An (qO.X):=.nil
theorem Al (n:Nat):rA Tryz.prog 109 wY qO (rU n) :=
 qC (Γ:=gT _ [] []) (an:=Ik n) (co:=[.gc [0,1,2,3,4,5]]) Tryz.func109 rfl (by kernel_rfl) dK (cK (all_nil) (cO)) mixed (bM _ _ rfl) (by kernel_rfl) (by kernel_rfl) (fun x=>by kernel_rfl)
def Dz (n:Nat):An (Sum oF.X oG.X):=.nil
theorem yY (n:Nat):mW Tryz.prog 111 uN oF 36 oG (oZ n) :=
 qD (Γ:=gT _ [(79,peM gY eY (bF n)),(47,peM jZ iM (bU n))] [geP 50 nE nG 36 nH (dA n)]) (an:=Dz n) (co:=[.gc [0,1,2,3,4,5]]) (cp:=[.gc [0,1,2,3,4,5]]) Tryz.func111 rfl (by kernel_rfl) dK (cK (all_cons (iK (gP n)) (all_cons (iK (jA n)) (all_nil))) (jV (oL (kC n)) (cO))) mixed (bM _ _ rfl) (by kernel_rfl) (by kernel_rfl) (by kernel_rfl) (fun x=>by kernel_rfl)
def Ea (n:Nat):An (Sum oH.X oI.X):=.nil
theorem yZ (n:Nat):mW Tryz.prog 74 uO oH 36 oI (bD n) :=
 qD (Γ:=gT _ [(109,peM wY qO (rU n))] [geP 111 uN oF 36 oG (oZ n)]) (an:=Ea n) (co:=[.gc [0,1,2,3,4,5]]) (cp:=[.gc [0,1,2,3,4,5]]) Tryz.func74 rfl (by kernel_rfl) dK (cK (all_cons (iK (Al n)) (all_nil)) (jV (oL (yY n)) (cO))) mixed (bM _ _ rfl) (by kernel_rfl) (by kernel_rfl) (by kernel_rfl) (fun x=>by kernel_rfl)
def Am (n:Nat):An (Sum mJ.X mK.X):=(.mk .nil (.mk .nil (.mk .nil (.mk (.join ⟨88,[⟨0,false,[.ptr 0 0]⟩,⟨1,false,[.mp 1]⟩,⟨4,false,[.v (.int .i64)]⟩],[.box 73 [.v .str,.v .bool,.v (.int .i64),.v (.int .i64),.v .bool,.own 2,.own 3,.v (.int .i64),.v (.int .i64),.v (.int .i64),.v (.int .i64),.v (.int .i64),.v (.int .i64),.v .bool,.v (.int .u8),.v .str,.v .str,.v (.int .i64),.v (.int .i64),.v (.int .i64),.v (.slice bW),.v .bool,.v .bool,.own 4,.own 5,.mp 6],.fm [(.i .u8 123,69),(.i .u8 125,70),(.i .u8 58,71),(.i .u8 115,72),(.i .u8 121,73),(.i .u8 61,74),(.i .u8 100,74),(.i .u8 68,74),(.i .u8 103,74),(.i .u8 71,74),(.i .u8 104,74),(.i .u8 72,74),(.i .u8 110,74),(.i .u8 78,74),(.i .u8 112,74),(.i .u8 80,74),(.i .u8 120,74),(.i .u8 97,75),(.i .u8 105,75),(.i .u8 99,75),(.i .u8 98,76),(.i .u8 116,76),(.i .u8 84,76),(.i .u8 108,77),(.i .u8 113,77),(.i .u8 81,77),(.i .u8 114,78),(.i .u8 119,78)],.row 183 aH,.row 70 aD,.row 119 aO,.row 119 aO,.dm .str (.int .i64)]⟩ [.keep [true,true,false,false,true,false,false,false,false,false,false,false,false,false,false,false,false,false,false,false,false,false,false,false,false,false,false,false,false,false,false,false,false,false,false,false,false,false,false,false,false,false,false,false,false,false,false,false,false,false,false,false,false,false,false,false,false,false,false,false,false,false,false,false,false,false,false],.gcA 7] .nil) (.mk .nil (.mk (.join ⟨88,[⟨0,false,[.ptr 0 0]⟩,⟨1,false,[.mp 1]⟩],[.box 73 [.v .str,.v .bool,.v (.int .i64),.v (.int .i64),.v .bool,.own 2,.own 3,.v (.int .i64),.v (.int .i64),.v (.int .i64),.v (.int .i64),.v (.int .i64),.v (.int .i64),.v .bool,.v (.int .u8),.v .str,.v .str,.v (.int .i64),.v (.int .i64),.v (.int .i64),.v (.slice bW),.v .bool,.v .bool,.own 4,.own 5,.mp 6],.fm [(.i .u8 123,69),(.i .u8 125,70),(.i .u8 58,71),(.i .u8 115,72),(.i .u8 121,73),(.i .u8 61,74),(.i .u8 100,74),(.i .u8 68,74),(.i .u8 103,74),(.i .u8 71,74),(.i .u8 104,74),(.i .u8 72,74),(.i .u8 110,74),(.i .u8 78,74),(.i .u8 112,74),(.i .u8 80,74),(.i .u8 120,74),(.i .u8 97,75),(.i .u8 105,75),(.i .u8 99,75),(.i .u8 98,76),(.i .u8 116,76),(.i .u8 84,76),(.i .u8 108,77),(.i .u8 113,77),(.i .u8 81,77),(.i .u8 114,78),(.i .u8 119,78)],.row 183 aH,.row 70 aD,.row 119 aO,.row 119 aO,.dm .str (.int .i64)]⟩ [.keep [true,true],.gcA 7] .nil) .nil []) []) []) []) []) [])
theorem xD (n:Nat):mW Tryz.prog 49 sM mJ 36 mK (gX n) :=
 qD (Γ:=gT _ [(79,peM gY eY (bF n)),(82,peM kY iU (bY n)),(34,lF lQ lS (strings_IndexByte n))] [geP 81 qN kU 36 kV (fT n),geP 83 qM lV 36 lW (eG n),geP 50 nE nG 36 nH (dA n),geP 74 uO oH 36 oI (bD n)]) (an:=Am n) (co:=[.gc [0,1,2,3,4,5,6]]) (cp:=[.gc [0,1,2,3,4,5,6]]) Tryz.func49 rfl (by kernel_rfl) dK (cK (all_cons (iK (gP n)) (all_cons (iK (kW n)) (all_cons (fQ (mE n)) (all_nil)))) (jV (oL (uQ n)) (jV (oL (rP n)) (jV (oL (kC n)) (jV (oL (yZ n)) (cO)))))) mixed (bM _ _ rfl) (by kernel_rfl) (by kernel_rfl) (by kernel_rfl) (fun x=>by kernel_rfl)
def Eb (n:Nat):An (Sum oJ.X oK.X):=(.mk .nil (.mk (.mk (.loop ⟨104,[⟨0,false,[.ptr 0 0]⟩,⟨2,false,[.mp 6]⟩],[.box 73 [.v .str,.v .bool,.v (.int .i64),.v (.int .i64),.v .bool,.own 1,.own 2,.v (.int .i64),.v (.int .i64),.v (.int .i64),.v (.int .i64),.v (.int .i64),.v (.int .i64),.v .bool,.v (.int .u8),.v .str,.v .str,.v (.int .i64),.v (.int .i64),.v (.int .i64),.v (.slice bW),.v .bool,.v .bool,.own 3,.own 4,.mp 5],.row 183 aH,.row 70 aD,.row 119 aO,.row 119 aO,.dm .str (.int .i64),.fm [(.i .u8 123,69),(.i .u8 125,70),(.i .u8 58,71),(.i .u8 115,72),(.i .u8 121,73),(.i .u8 61,74),(.i .u8 100,74),(.i .u8 68,74),(.i .u8 103,74),(.i .u8 71,74),(.i .u8 104,74),(.i .u8 72,74),(.i .u8 110,74),(.i .u8 78,74),(.i .u8 112,74),(.i .u8 80,74),(.i .u8 120,74),(.i .u8 97,75),(.i .u8 105,75),(.i .u8 99,75),(.i .u8 98,76),(.i .u8 116,76),(.i .u8 84,76),(.i .u8 108,77),(.i .u8 113,77),(.i .u8 81,77),(.i .u8 114,78),(.i .u8 119,78)]]⟩ [.keep [true,false,true],.gcA 6,.gcA 6] [.keep [true,false,true],.gcA 6,.gcA 6] n .nil) .nil []) (.mk (.join ⟨104,[⟨0,false,[.ptr 0 0]⟩],[.box 73 [.v .str,.v .bool,.v (.int .i64),.v (.int .i64),.v .bool,.own 1,.own 2,.v (.int .i64),.v (.int .i64),.v (.int .i64),.v (.int .i64),.v (.int .i64),.v (.int .i64),.v .bool,.v (.int .u8),.v .str,.v .str,.v (.int .i64),.v (.int .i64),.v (.int .i64),.v (.slice bW),.v .bool,.v .bool,.own 3,.own 4,.mp 5],.row 183 aH,.row 70 aD,.row 119 aO,.row 119 aO,.dm .str (.int .i64)]⟩ [.keep [true],.gcA 6] .nil) (.mk .nil (.mk (.loop ⟨104,[⟨0,false,[.ptr 0 0]⟩,⟨60,false,[.own 4]⟩,⟨61,false,[.v (.int .i64)]⟩,⟨62,false,[.v (.int .i64)]⟩],[.box 73 [.v .str,.v .bool,.v (.int .i64),.v (.int .i64),.v .bool,.own 1,.own 2,.v (.int .i64),.v (.int .i64),.v (.int .i64),.v (.int .i64),.v (.int .i64),.v (.int .i64),.v .bool,.v (.int .u8),.v .str,.v .str,.v (.int .i64),.v (.int .i64),.v (.int .i64),.v (.slice bW),.v .bool,.v .bool,.own 3,.own 4,.mp 5],.row 183 aH,.row 70 aD,.row 119 aO,.row 119 aO,.dm .str (.int .i64)]⟩ [.keep [true,false,false,false,false,false,false,false,false,false,false,false,false,false,false,false,false,false,false,false,false,false,false,false,false,false,false,false,false,false,false,false,false,false,false,false,false,false,false,false,false,false,false,false,false,false,false,false,false,false,false,false,false,false,false,false,false,false,false,false,true,true,true],.gcA 6,.gcA 6] [.keep [true,false,false,false,false,false,false,false,false,false,false,false,false,false,false,false,false,false,false,false,false,false,false,false,false,false,false,false,false,false,false,false,false,false,false,false,false,false,false,false,false,false,false,false,false,false,false,false,false,false,false,false,false,false,false,false,false,false,false,false,true,true,true],.gcA 6,.gcA 6] n (.mk .nil (.mk .nil (.mk (.mk (.mk .nil (.mk .nil (.mk (.join ⟨104,[⟨0,false,[.ptr 0 0]⟩,⟨5,false,[.ptr 6 0]⟩,⟨6,false,[.v (.int .i64)]⟩,⟨7,false,[.v .bool]⟩,⟨60,false,[.own 4]⟩,⟨61,false,[.v (.int .i64)]⟩,⟨62,false,[.v (.int .i64)]⟩],[.box 73 [.v .str,.v .bool,.v (.int .i64),.v (.int .i64),.v .bool,.own 1,.own 2,.v (.int .i64),.v (.int .i64),.v (.int .i64),.v (.int .i64),.v (.int .i64),.v (.int .i64),.v .bool,.v (.int .u8),.v .str,.v .str,.v (.int .i64),.v (.int .i64),.v (.int .i64),.v (.slice bW),.v .bool,.v .bool,.own 3,.own 4,.mp 5],.row 183 aH,.row 70 aD,.row 119 aO,.row 119 aO,.dm .str (.int .i64),.box 119 [.v (.int .i64),.v (.int .i64),.v .str]]⟩ [.keep [true,false,false,false,false,true,true,true,false,false,false,false,false,false,false,false,false,false,false,false,false,false,false,false,false,false,false,false,false,false,false,false,false,false,false,false,false,false,false,false,false,false,false,false,false,false,false,false,false,false,false,false,false,false,false,false,false,false,false,false,true,true,true],.gcA 6] .nil) .nil []) []) []) .nil []) .nil []) []) [])) .nil []) []) []) []) [])
theorem zA (n:Nat):mW Tryz.prog 24 uP oJ 36 oK (dO n) :=
 qD (Γ:=gT _ [(46,peM Ae qI (sH n)),(47,peM jZ iM (bU n)),(48,peM uR pE (qK n))] [geP 49 sM mJ 36 mK (gX n),geP 50 nE nG 36 nH (dA n)]) (an:=Eb n) (co:=[.gc [0,1,2,3,4,5]]) (cp:=[.gc [0,1,2,3,4,5]]) Tryz.func24 rfl (by kernel_rfl) dK (cK (all_cons (iK (Mj n)) (all_cons (iK (jA n)) (all_cons (iK (Ah n)) (all_nil)))) (jV (oL (xD n)) (jV (oL (kC n)) (cO)))) mixed (bM _ _ rfl) (by kernel_rfl) (by kernel_rfl) (by kernel_rfl) (fun x=>by kernel_rfl)
theorem oO (n:Nat):rA Tryz.prog 23 fV fZ (aV n) :=
 zDd (si:=fV) (so:=fZ) (sp:=oK) (sd:=uP) (od:=oJ) (F:=dO n) (G:=aV n) (conv:=fun x=>x) (o1:=fun y=>(0,y)) (o2:=fun z=>z) (zA n) rfl (fun x=>⟨rfl,rfl⟩) (fun x=>by unfold aV ob2; cases dO n x with | none=>rfl | some r=>cases r <;> rfl) (fun y=>⟨rfl,rfl⟩) (fun z=>⟨_,rfl,rfl⟩)
def tK (n:Nat):An (dD iC):=.nil
theorem rM (n:Nat):Pure Tryz.prog 44 kZ iC (eT n) :=
 jP (Γ:=gT _ [] []) (an:=tK n) Tryz.func44 rfl (by kernel_rfl) dK (cK (all_nil) (cO)) mixed (bM _ _ rfl) (fun x=>by kernel_rfl)
def Il (n:Nat):An (dD qP):=.nil
theorem Cr (n:Nat):Pure Tryz.prog 22 wZ qP (strings_HasPrefix n) :=
 jP (Γ:=gT _ [(44,lF kZ iC (eT n))] []) (an:=Il n) Tryz.func22 rfl (by kernel_rfl) dK (cK (all_cons (fQ (rM n)) (all_nil)) (cO)) mixed (bM _ _ rfl) (fun x=>by kernel_rfl)
def Vq (n:Nat):An (dD xP):=(.mk .nil (.mk .nil (.mk .nil (.mk .nil (.mk (.mk (.co [.ownB 2 5 32,.ownB 2 6 33,.ownB 2 23 71,.ownB 2 24 71] .nil) .nil []) .nil []) []) []) []) [])
theorem Ml (n:Nat):Pure Tryz.prog 12 Ic xP (gJ n) :=
 jP (Γ:=gT _ [(23,peM fV fZ (aV n)),(22,lF wZ qP (strings_HasPrefix n))] []) (an:=Vq n) Tryz.func12 rfl (by kernel_rfl) dK (cK (all_cons (iK (oO n)) (all_cons (fQ (Cr n)) (all_nil))) (cO)) mixed (bM _ _ rfl) (fun x=>by kernel_rfl)
def Ku (n:Nat):An (dD xS):=(.mk .nil (.mk .nil (.mk .nil (.mk (.mk .nil (.mk (.loop ⟨88,[⟨1,false,[.v .bool]⟩,⟨2,false,[.v .bool]⟩,⟨7,false,[.v (.int .i64)]⟩,⟨8,false,[.own 0]⟩,⟨9,false,[.v (.int .i64)]⟩],[.row 5 (.int .u8)]⟩ [.keep [false,true,true,false,false,false,false,true,true,true],.gcA 0,.gcA 0] [.keep [false,true,true,false,false,false,false,true,true,true],.gcA 0,.gcA 0] n .nil) .nil []) []) .nil []) []) []) [])
theorem Cu (n:Nat):Pure Tryz.prog 4 rW xS (oD n) :=
 jP (Γ:=gT _ [(12,lF Ic xP (gJ n)),(13,lF zDe zDf (shown13 n))] []) (an:=Ku n) Tryz.func4 rfl (by kernel_rfl) dK (cK (all_cons (fQ (Ml n)) (all_cons (fQ (zDg n)) (all_nil))) (cO)) mixed (bM _ _ rfl) (fun x=>by kernel_rfl)
end Go.Dec
namespace Go.Dec
theorem Yf (x:dD rW) (hx:Rq rW x):oD 5000 x=some true:=by
 obtain ⟨h,_⟩:=hx
 have h1:(0:Int) <= x.1:=h.1
 have h2:x.1 <= 65535:=h.2
 exact Qh x h1 h2
end Go.Dec
