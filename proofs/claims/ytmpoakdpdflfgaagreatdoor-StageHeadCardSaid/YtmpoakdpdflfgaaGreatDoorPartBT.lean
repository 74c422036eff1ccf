/- Part of a proof over this seat: a library of my own, and what it says of this seat. No statement is proved here. -/
import Derived.Test.YtmpoakdpdflfgaaGreatDoorProg
import Derived.Test.YtmpoakdpdflfgaaGreatDoorPartBS
import Derived.Test.YtmpoakdpdflfgaaGreatDoorPartBR
import Derived.KernelRfl
namespace Go.Dec
open Go.Proofs
set_option linter.unusedVariables false
def tab:Tab:=[(3,⟨.int .i64,1,8,[.val (.int .i64) 0],some (.int .i64),false⟩),
 (4,⟨.bool,1,1,[.val .bool false],some .bool,false⟩),
 (5,⟨.int .u8,1,1,[.val (.int .u8) 0],some (.int .u8),false⟩),
 (9,⟨.str,1,16,[.val .str []],some .str,false⟩),
 (23,⟨.slice 225,1,24,[.aW],some (.slice aH),false⟩),
 (24,⟨.slice 50,1,24,[.aW],some (.slice aB),false⟩),
 (26,⟨.struct [(0,4),(1,23),(2,24)],3,56,[.val .bool false,.aW,.aW],some qQ,false⟩),
 (27,⟨.slice 9,1,24,[.aW],some (.slice .str),false⟩),
 (29,⟨.struct [(0,26),(3,4),(4,27),(5,4)],6,96,[.val .bool false,.aW,.aW,.val .bool false,.aW,.val .bool false],some Cn,false⟩),
 (30,⟨.slice 90,1,24,[.aW],some (.slice aI),false⟩),
 (31,⟨.slice 38,1,24,[.aW],some (.slice bI),false⟩),
 (33,⟨.struct [(0,30),(1,31),(2,3),(3,3)],4,64,[.aW,.aW,.val (.int .i64) 0,.val (.int .i64) 0],some Bo,false⟩),
 (34,⟨.int .i64,1,8,[.val (.int .i64) 0],some (.int .i64),false⟩),
 (38,⟨.struct [(0,9),(1,9)],2,32,[.val .str [],.val .str []],some bI,true⟩),
 (40,⟨.slice 83,1,24,[.aW],some (.slice aI),false⟩),
 (45,⟨.struct [(0,3),(1,3),(2,3)],3,24,[.val (.int .i64) 0,.val (.int .i64) 0,.val (.int .i64) 0],some Dz,true⟩),
 (47,⟨.struct [(0,45),(3,45),(6,4)],7,56,[.val (.int .i64) 0,.val (.int .i64) 0,.val (.int .i64) 0,.val (.int .i64) 0,.val (.int .i64) 0,.val (.int .i64) 0,.val .bool false],some Ea,true⟩),
 (48,⟨.slice 312,1,24,[.aW],some (.slice Nw),false⟩),
 (50,⟨.struct [(0,47),(7,5),(8,9),(9,9),(10,3),(11,3),(12,3),(13,48),(14,4),(15,4)],16,152,[.val (.int .i64) 0,.val (.int .i64) 0,.val (.int .i64) 0,.val (.int .i64) 0,.val (.int .i64) 0,.val (.int .i64) 0,.val .bool false,.val (.int .u8) 0,.val .str [],.val .str [],.val (.int .i64) 0,.val (.int .i64) 0,.val (.int .i64) 0,.aW,.val .bool false,.val .bool false],some aB,false⟩),
 (65,⟨.slice 4,1,24,[.aW],some (.slice .bool),false⟩),
 (75,⟨.slice 173,1,24,[.aW],some (.slice bY),false⟩),
 (76,⟨.slice 217,1,24,[.aW],some (.slice aI),false⟩),
 (78,⟨.struct [(0,3),(1,3),(2,3),(3,3),(4,3),(5,9),(6,9),(7,4),(8,4),(9,4),(10,75),(11,76)],12,128,[.val (.int .i64) 0,.val (.int .i64) 0,.val (.int .i64) 0,.val (.int .i64) 0,.val (.int .i64) 0,.val .str [],.val .str [],.val .bool false,.val .bool false,.val .bool false,.aW,.aW],some bF,false⟩),
 (83,⟨.struct [(0,9),(1,4)],2,24,[.val .str [],.val .bool false],some aI,true⟩),
 (86,⟨.ptr 89,1,8,[.iM],none,false⟩),
 (87,⟨.slice 5,1,24,[.aW],some (.slice (.int .u8)),false⟩),
 (89,⟨.struct [(0,86),(1,87)],2,32,[.iM,.aW],none,false⟩),
 (90,⟨.struct [(0,9),(1,4)],2,24,[.val .str [],.val .bool false],some aI,true⟩),
 (92,⟨.iface false,1,16,[.val .err false],some .err,false⟩),
 (100,⟨.func,1,8,[.val .opq Value.nilFunc],some .opq,false⟩),
 (133,⟨.ptr 135,1,8,[.iM],none,false⟩),
 (135,⟨.struct [(0,78),(12,26),(15,4),(16,31),(17,30)],18,240,[.val (.int .i64) 0,.val (.int .i64) 0,.val (.int .i64) 0,.val (.int .i64) 0,.val (.int .i64) 0,.val .str [],.val .str [],.val .bool false,.val .bool false,.val .bool false,.aW,.aW,.val .bool false,.aW,.aW,.val .bool false,.aW,.aW],some zIj,false⟩),
 (168,⟨.slice 45,1,24,[.aW],some (.slice Dz),false⟩),
 (170,⟨.slice 230,1,24,[.aW],some (.slice zU),false⟩),
 (173,⟨.struct [(0,4),(1,3)],2,16,[.val .bool false,.val (.int .i64) 0],some bY,true⟩),
 (177,⟨.struct [(0,3),(1,4),(2,65)],3,40,[.val (.int .i64) 0,.val .bool false,.aW],some zZo,false⟩),
 (217,⟨.struct [(0,9),(1,4)],2,24,[.val .str [],.val .bool false],some aI,true⟩),
 (225,⟨.struct [(0,170),(1,4)],2,32,[.aW,.val .bool false],some aH,false⟩),
 (226,⟨.int .u64,1,8,[.val (.int .u64) 0],some (.int .u64),false⟩),
 (228,⟨.arr 4 226,4,32,[.val (.arr 4 (.int .u64)) ([0,0,0,0])],some (.arr 4 (.int .u64)),true⟩),
 (230,⟨.struct [(0,3),(1,228),(5,3),(6,3),(7,3),(8,3),(9,3)],10,80,[.val (.int .i64) 0,.val (.arr 4 (.int .u64)) ([0,0,0,0]),.val (.int .i64) 0,.val (.int .i64) 0,.val (.int .i64) 0,.val (.int .i64) 0,.val (.int .i64) 0],some zU,true⟩),
 (312,⟨.struct [(0,9),(1,3)],2,24,[.val .str [],.val (.int .i64) 0],some Nw,true⟩)]
theorem bU:aV Tryz.prog tab:=zCt (by kernel_rfl)
theorem mixed:Tryz.prog.follows .mixedOrders=true:=by kernel_rfl
abbrev Mt:Sh:=⟨2,[⟨0,true,[.v .str,.v .str]⟩,⟨1,false,[.ptr 0 0]⟩],[.box 9 [.v .str]]⟩
abbrev zY:Sh:=⟨1,[⟨0,false,[.v .bool]⟩],[.box 9 [.v .str]]⟩
abbrev iK:Sh:=⟨2,[⟨0,false,[.v (.slice bI)]⟩,⟨1,false,[.clo 32 [(0,0)]]⟩],[.box 9 [.v .str]]⟩
abbrev dZ:Sh:=⟨1,[⟨0,false,[.v (.int .i64)]⟩],[.box 9 [.v .str]]⟩
abbrev yP:List Ty:=[.slice bI,.str]
abbrev uF:List Ty:=[.str,.bool]
abbrev Mv:List Ty:=[Cn,.str,.slice bI]
abbrev zZ:List Ty:=[.slice aI,.int .i64]
abbrev zAo:List Ty:=[qQ]
abbrev Mw:List Ty:=[bF]
abbrev Qa:List Ty:=[bF]
abbrev Cr:List Ty:=[bF]
abbrev Wm:List Ty:=[bF,aI,.bool]
abbrev Im:List Ty:=[bF]
abbrev vK:Sh:=⟨3,[⟨0,false,[.ptr 0 0]⟩,⟨1,false,[.v .str]⟩,⟨2,false,[.v .bool]⟩],[.box 135 [.v (.int .i64),.v (.int .i64),.v (.int .i64),.v (.int .i64),.v (.int .i64),.v .str,.v .str,.v .bool,.v .bool,.v .bool,.v (.slice bY),.v (.slice aI),.v .bool,.v (.slice aH),.v (.slice aB),.v .bool,.v (.slice bI),.own 1],.row 90 aI]⟩
abbrev pX:Sh:=⟨0,[],[.box 135 [.v (.int .i64),.v (.int .i64),.v (.int .i64),.v (.int .i64),.v (.int .i64),.v .str,.v .str,.v .bool,.v .bool,.v .bool,.v (.slice bY),.v (.slice aI),.v .bool,.v (.slice aH),.v (.slice aB),.v .bool,.v (.slice bI),.own 1],.row 90 aI]⟩
abbrev wU:Sh:=⟨1,[⟨0,false,[.ptr 0 0]⟩],[.box 135 [.v (.int .i64),.v (.int .i64),.v (.int .i64),.v (.int .i64),.v (.int .i64),.v .str,.v .str,.v .bool,.v .bool,.v .bool,.v (.slice bY),.v (.slice aI),.v .bool,.v (.slice aH),.v (.slice aB),.v .bool,.v (.slice bI),.own 1],.row 90 aI]⟩
abbrev oI:Sh:=⟨0,[],[.box 135 [.v (.int .i64),.v (.int .i64),.v (.int .i64),.v (.int .i64),.v (.int .i64),.v .str,.v .str,.v .bool,.v .bool,.v .bool,.v (.slice bY),.v (.slice aI),.v .bool,.v (.slice aH),.v (.slice aB),.v .bool,.v (.slice bI),.own 1],.row 90 aI]⟩
abbrev Aa:Sh:=⟨1,[⟨0,false,[.ptr 0 0]⟩],[.box 135 [.v (.int .i64),.v (.int .i64),.v (.int .i64),.v (.int .i64),.v (.int .i64),.v .str,.v .str,.v .bool,.v .bool,.v .bool,.v (.slice bY),.v (.slice aI),.v .bool,.v (.slice aH),.v (.slice aB),.v .bool,.v (.slice bI),.own 1],.row 90 aI]⟩
abbrev rQ:Sh:=⟨0,[],[.box 135 [.v (.int .i64),.v (.int .i64),.v (.int .i64),.v (.int .i64),.v (.int .i64),.v .str,.v .str,.v .bool,.v .bool,.v .bool,.v (.slice bY),.v (.slice aI),.v .bool,.v (.slice aH),.v (.slice aB),.v .bool,.v (.slice bI),.own 1],.row 90 aI]⟩
abbrev jW:List Ty:=[.str,.str]
abbrev fK:List Ty:=[.bool]
abbrev jX:List Ty:=[.str,.str]
abbrev fM:List Ty:=[.str,.bool]
abbrev oJ:List Ty:=[.str,.str]
abbrev kW:List Ty:=[.str,.bool]
abbrev Ab:Sh:=⟨1,[⟨0,false,[.ptr 0 0]⟩],[.box 135 [.v (.int .i64),.v (.int .i64),.v (.int .i64),.v (.int .i64),.v (.int .i64),.v .str,.v .str,.v .bool,.v .bool,.v .bool,.v (.slice bY),.v (.slice aI),.v .bool,.v (.slice aH),.v (.slice aB),.v .bool,.v (.slice bI),.own 1],.row 90 aI]⟩
abbrev rR:Sh:=⟨0,[],[.box 135 [.v (.int .i64),.v (.int .i64),.v (.int .i64),.v (.int .i64),.v (.int .i64),.v .str,.v .str,.v .bool,.v .bool,.v .bool,.v (.slice bY),.v (.slice aI),.v .bool,.v (.slice aH),.v (.slice aB),.v .bool,.v (.slice bI),.own 1],.row 90 aI]⟩
abbrev Eo:Sh:=⟨1,[⟨0,false,[.ptr 0 0]⟩],[.box 135 [.v (.int .i64),.v (.int .i64),.v (.int .i64),.v (.int .i64),.v (.int .i64),.v .str,.v .str,.v .bool,.v .bool,.v .bool,.v (.slice bY),.v (.slice aI),.v .bool,.v (.slice aH),.v (.slice aB),.v .bool,.v (.slice bI),.own 1],.row 90 aI]⟩
abbrev vL:Sh:=⟨0,[],[.box 135 [.v (.int .i64),.v (.int .i64),.v (.int .i64),.v (.int .i64),.v (.int .i64),.v .str,.v .str,.v .bool,.v .bool,.v .bool,.v (.slice bY),.v (.slice aI),.v .bool,.v (.slice aH),.v (.slice aB),.v .bool,.v (.slice bI),.own 1],.row 90 aI]⟩
abbrev qB:Sh:=zEc bY
abbrev qC:Sh:=Kl 173 bY
abbrev Ac:Sh:=⟨2,[⟨0,false,[.ptr 0 0]⟩,⟨1,true,[.v (.int .i64),.v (.int .i64),.v (.int .i64),.v (.int .i64),.v (.int .i64),.v (.int .i64),.v .bool,.v (.int .u8),.v .str,.v .str,.v (.int .i64),.v (.int .i64),.v (.int .i64),.v (.slice Nw),.v .bool,.v .bool]⟩],[.box 135 [.v (.int .i64),.v (.int .i64),.v (.int .i64),.v (.int .i64),.v (.int .i64),.v .str,.v .str,.v .bool,.v .bool,.v .bool,.v (.slice bY),.v (.slice aI),.v .bool,.v (.slice aH),.v (.slice aB),.v .bool,.v (.slice bI),.own 1],.row 90 aI]⟩
abbrev rT:Sh:=⟨1,[⟨0,false,[.v .bool]⟩],[.box 135 [.v (.int .i64),.v (.int .i64),.v (.int .i64),.v (.int .i64),.v (.int .i64),.v .str,.v .str,.v .bool,.v .bool,.v .bool,.own 2,.v (.slice aI),.v .bool,.v (.slice aH),.v (.slice aB),.v .bool,.v (.slice bI),.own 1],.row 90 aI,.row 173 bY]⟩
abbrev qG:Sh:=⟨3,[⟨0,false,[.ptr 0 0]⟩,⟨1,false,[.v .str]⟩,⟨2,false,[.v .bool]⟩],[.box 135 [.v (.int .i64),.v (.int .i64),.v (.int .i64),.v (.int .i64),.v (.int .i64),.v .str,.v .str,.v .bool,.v .bool,.v .bool,.own 1,.v (.slice aI),.v .bool,.v (.slice aH),.v (.slice aB),.v .bool,.v (.slice bI),.own 2],.row 173 bY,.row 90 aI]⟩
abbrev lH:Sh:=⟨0,[],[.box 135 [.v (.int .i64),.v (.int .i64),.v (.int .i64),.v (.int .i64),.v (.int .i64),.v .str,.v .str,.v .bool,.v .bool,.v .bool,.own 1,.v (.slice aI),.v .bool,.v (.slice aH),.v (.slice aB),.v .bool,.v (.slice bI),.own 2],.row 173 bY,.row 90 aI]⟩
abbrev sN:Sh:=⟨1,[⟨0,false,[.ptr 0 0]⟩],[.box 135 [.v (.int .i64),.v (.int .i64),.v (.int .i64),.v (.int .i64),.v (.int .i64),.v .str,.v .str,.v .bool,.v .bool,.v .bool,.own 1,.v (.slice aI),.v .bool,.v (.slice aH),.v (.slice aB),.v .bool,.v (.slice bI),.own 2],.row 173 bY,.row 90 aI]⟩
abbrev lU:Sh:=⟨0,[],[.box 135 [.v (.int .i64),.v (.int .i64),.v (.int .i64),.v (.int .i64),.v (.int .i64),.v .str,.v .str,.v .bool,.v .bool,.v .bool,.own 1,.v (.slice aI),.v .bool,.v (.slice aH),.v (.slice aB),.v .bool,.v (.slice bI),.own 2],.row 173 bY,.row 90 aI]⟩
abbrev uJ:Sh:=⟨1,[⟨0,false,[.ptr 0 0]⟩],[.box 135 [.v (.int .i64),.v (.int .i64),.v (.int .i64),.v (.int .i64),.v (.int .i64),.v .str,.v .str,.v .bool,.v .bool,.v .bool,.own 1,.v (.slice aI),.v .bool,.v (.slice aH),.v (.slice aB),.v .bool,.v (.slice bI),.own 2],.row 173 bY,.row 90 aI]⟩
abbrev nC:Sh:=⟨0,[],[.box 135 [.v (.int .i64),.v (.int .i64),.v (.int .i64),.v (.int .i64),.v (.int .i64),.v .str,.v .str,.v .bool,.v .bool,.v .bool,.own 1,.v (.slice aI),.v .bool,.v (.slice aH),.v (.slice aB),.v .bool,.v (.slice bI),.own 2],.row 173 bY,.row 90 aI]⟩
abbrev uK:Sh:=⟨1,[⟨0,false,[.ptr 0 0]⟩],[.box 135 [.v (.int .i64),.v (.int .i64),.v (.int .i64),.v (.int .i64),.v (.int .i64),.v .str,.v .str,.v .bool,.v .bool,.v .bool,.own 1,.v (.slice aI),.v .bool,.v (.slice aH),.v (.slice aB),.v .bool,.v (.slice bI),.own 2],.row 173 bY,.row 90 aI]⟩
abbrev nD:Sh:=⟨0,[],[.box 135 [.v (.int .i64),.v (.int .i64),.v (.int .i64),.v (.int .i64),.v (.int .i64),.v .str,.v .str,.v .bool,.v .bool,.v .bool,.own 1,.v (.slice aI),.v .bool,.v (.slice aH),.v (.slice aB),.v .bool,.v (.slice bI),.own 2],.row 173 bY,.row 90 aI]⟩
abbrev Bw:Sh:=⟨2,[⟨0,false,[.ptr 0 0]⟩,⟨1,false,[.v (.int .i64)]⟩],[.box 135 [.v (.int .i64),.v (.int .i64),.v (.int .i64),.v (.int .i64),.v (.int .i64),.v .str,.v .str,.v .bool,.v .bool,.v .bool,.own 1,.v (.slice aI),.v .bool,.v (.slice aH),.v (.slice aB),.v .bool,.v (.slice bI),.own 2],.row 173 bY,.row 90 aI]⟩
abbrev uG:Sh:=⟨0,[],[.box 135 [.v (.int .i64),.v (.int .i64),.v (.int .i64),.v (.int .i64),.v (.int .i64),.v .str,.v .str,.v .bool,.v .bool,.v .bool,.own 1,.v (.slice aI),.v .bool,.v (.slice aH),.v (.slice aB),.v .bool,.v (.slice bI),.own 2],.row 173 bY,.row 90 aI]⟩
abbrev Ad:Sh:=⟨2,[⟨0,false,[.ptr 0 0]⟩,⟨1,true,[.v (.int .i64),.v (.int .i64),.v (.int .i64),.v (.int .i64),.v (.int .i64),.v (.int .i64),.v .bool,.v (.int .u8),.v .str,.v .str,.v (.int .i64),.v (.int .i64),.v (.int .i64),.v (.slice Nw),.v .bool,.v .bool]⟩],[.box 135 [.v (.int .i64),.v (.int .i64),.v (.int .i64),.v (.int .i64),.v (.int .i64),.v .str,.v .str,.v .bool,.v .bool,.v .bool,.own 1,.v (.slice aI),.v .bool,.v (.slice aH),.v (.slice aB),.v .bool,.v (.slice bI),.own 2],.row 173 bY,.row 90 aI]⟩
abbrev rU:Sh:=⟨0,[],[.box 135 [.v (.int .i64),.v (.int .i64),.v (.int .i64),.v (.int .i64),.v (.int .i64),.v .str,.v .str,.v .bool,.v .bool,.v .bool,.own 1,.v (.slice aI),.v .bool,.v (.slice aH),.v (.slice aB),.v .bool,.v (.slice bI),.own 2],.row 173 bY,.row 90 aI]⟩
abbrev Wn:List Ty:=[qQ,.bool,bF,.slice bI]
abbrev Io:List Ty:=[bF,.slice bI,.slice aI]
abbrev Wo:List Ty:=[Cn,.str,.slice bI,.int .i64]
abbrev Ip:List Ty:=[Bo,.int .i64]
abbrev gV:Sh:=⟨2,[⟨0,false,[.ptr 0 0]⟩,⟨1,false,[.v .str]⟩],[.box 89 [.bB 0 0,.own 1],.row 5 (.int .u8)]⟩
abbrev eB:Sh:=⟨2,[⟨0,false,[.v (.int .i64)]⟩,⟨1,false,[.v .err]⟩],[.box 89 [.bB 0 0,.own 1],.row 5 (.int .u8)]⟩
abbrev mV:Sh:=⟨2,[⟨0,false,[.ptr 0 0]⟩,⟨1,false,[.v (.int .u8)]⟩],[.box 89 [.bB 0 0,.own 1],.row 5 (.int .u8)]⟩
abbrev iR:Sh:=⟨1,[⟨0,false,[.v .err]⟩],[.box 89 [.bB 0 0,.own 1],.row 5 (.int .u8)]⟩
abbrev Qb:List Ty:=[.slice aI]
abbrev Ct:List Ty:=[.str]
abbrev Qc:List Ty:=[.slice aI]
abbrev Cu:List Ty:=[.str]
abbrev Sk:List Ty:=[.str,.int .u8,.int .u8]
abbrev Ae:List Ty:=[.bool]
def zAy (n:Nat):An (zY.X):=.nil
theorem Ov (n:Nat):gB Tryz.prog 32 Mt zY (Cq n) :=
 eG (Γ:=fC _ [] []) (an:=zAy n) (co:=[.gc [0]]) Tryz.func32 rfl (by kernel_rfl) bU (bK (all_nil) (bL)) mixed (bC _ _ rfl) (by kernel_rfl) (by kernel_rfl) (fun x=>by kernel_rfl)
def oK (n:Nat):An (dZ.X):=(.mk .nil (.mk (.mk .nil (.mk (.loop ⟨19,[⟨0,false,[.v (.slice bI)]⟩,⟨1,false,[.clo 32 [(0,0)]]⟩,⟨7,false,[.v (.int .i64)]⟩,⟨8,false,[.v (.int .i64)]⟩],[.box 9 [.v .str]]⟩ [.keep [true,true,false,false,false,false,false,true,true],.gcA 1,.gcA 1] [.keep [true,true,false,false,false,false,false,true,true],.gcA 1,.gcA 1] n .nil) .nil []) []) .nil []) [])
theorem mQ (n:Nat):gB Tryz.prog 31 iK dZ (eO n) :=
 eG (Γ:=fC _ [(32,peM Mt zY (Cq n))] []) (an:=oK n) (co:=[.gc [0]]) Tryz.func31 rfl (by kernel_rfl) bU (bK (all_cons (dH (Ov n)) (all_nil)) (bL)) mixed (bC _ _ rfl) (by kernel_rfl) (by kernel_rfl) (fun x=>by kernel_rfl)
def zIk (n:Nat):An (bG uF):=.nil
theorem vM (n:Nat):Pure Tryz.prog 13 yP uF (lX n) :=
 jF (Γ:=fC _ [(31,peM iK dZ (eO n))] []) (an:=zIk n) Tryz.func13 rfl (by kernel_rfl) bU (bK (all_cons (dH (mQ n)) (all_nil)) (bL)) mixed (bC _ _ rfl) (fun x=>by kernel_rfl)
def zAz (n:Nat):An (bG zZ):=(.mk .nil (.mk .nil (.mk (.mk .nil (.mk (.loop ⟨57,[⟨2,false,[.v (.slice bI)]⟩,⟨6,false,[.own 0]⟩,⟨7,false,[.v (.int .i64)]⟩,⟨24,false,[.v (.slice .str)]⟩,⟨25,false,[.v (.int .i64)]⟩,⟨26,false,[.v (.int .i64)]⟩],[.row 83 aI]⟩ [.keep [false,false,true,false,false,false,true,true,false,false,false,false,false,false,false,false,false,false,false,false,false,false,false,false,true,true,true],.gcA 0,.zSi 6 40,.gcA 0] [.keep [false,false,true,false,false,false,true,true,false,false,false,false,false,false,false,false,false,false,false,false,false,false,false,false,true,true,true],.gcA 0,.gcA 0] n .nil) .nil []) []) (.mk (.mk .nil (.mk (.loop ⟨57,[⟨6,false,[.own 0]⟩,⟨7,false,[.v (.int .i64)]⟩,⟨46,false,[.v (.int .i64)]⟩,⟨47,false,[.v (.int .i64)]⟩],[.row 83 aI]⟩ [.keep [false,false,false,false,false,false,true,true,false,false,false,false,false,false,false,false,false,false,false,false,false,false,false,false,false,false,false,false,false,false,false,false,false,false,false,false,false,false,false,false,false,false,false,false,false,false,true,true],.gcA 0,.gcA 0] [.keep [false,false,false,false,false,false,true,true,false,false,false,false,false,false,false,false,false,false,false,false,false,false,false,false,false,false,false,false,false,false,false,false,false,false,false,false,false,false,false,false,false,false,false,false,false,false,true,true],.gcA 0,.gcA 0] n .nil) .nil []) []) .nil []) []) []) [])
theorem Sl (n:Nat):Pure Tryz.prog 23 Mv zZ (qR n) :=
 jF (Γ:=fC _ [(12,peM xC xD (gD n)),(13,jO yP uF (lX n))] []) (an:=zAz n) Tryz.func23 rfl (by kernel_rfl) bU (bK (all_cons (dH (Ls n)) (all_cons (dP (vM n)) (all_nil))) (bL)) mixed (bC _ _ rfl) (fun x=>by kernel_rfl)
def zOi (n:Nat):An (bG Mw):=.nil
theorem zBa (n:Nat):Pure Tryz.prog 24 zAo Mw (Ie n) :=
 jF (Γ:=fC _ [] []) (an:=zOi n) Tryz.func24 rfl (by kernel_rfl) bU (bK (all_nil) (bL)) mixed (bC _ _ rfl) (fun x=>by kernel_rfl)
def zGz (n:Nat):An (bG Cr):=.nil
theorem Wp (n:Nat):Pure Tryz.prog 25 Qa Cr (kM n) :=
 jF (Γ:=fC _ [] []) (an:=zGz n) Tryz.func25 rfl (by kernel_rfl) bU (bK (all_nil) (bL)) mixed (bC _ _ rfl) (fun x=>by kernel_rfl)
def zIl (n:Nat):An (bG Im):=.nil
theorem Yv (n:Nat):Pure Tryz.prog 26 Wm Im (lY n) :=
 jF (Γ:=fC _ [] []) (an:=zIl n) Tryz.func26 rfl (by kernel_rfl) bU (bK (all_nil) (bL)) mixed (bC _ _ rfl) (fun x=>by kernel_rfl)
def Wq (n:Nat):An (pX.X):=.nil
theorem uL (n:Nat):gB Tryz.prog 142 vK pX (kE n) :=
 eG (Γ:=fC _ [] []) (an:=Wq n) (co:=[.gc [0,1]]) Tryz.func142 rfl (by kernel_rfl) bU (bK (all_nil) (bL)) mixed (bC _ _ rfl) (by kernel_rfl) (by kernel_rfl) (fun x=>by kernel_rfl)
def Jg (n:Nat):An (oI.X):=.nil
theorem Ai (n:Nat):gB Tryz.prog 80 wU oI (qF n) :=
 eG (Γ:=fC _ [(142,peM vK pX (kE n))] []) (an:=Jg n) (co:=[.gc [0,1]]) Tryz.func80 rfl (by kernel_rfl) bU (bK (all_cons (dH (uL n)) (all_nil)) (bL)) mixed (bC _ _ rfl) (by kernel_rfl) (by kernel_rfl) (fun x=>by kernel_rfl)
def Ow (n:Nat):An (rQ.X):=.nil
theorem Ep (n:Nat):gB Tryz.prog 51 Aa rQ (tQ n) :=
 eG (Γ:=fC _ [(80,peM wU oI (qF n))] []) (an:=Ow n) (co:=[.gc [0,1]]) Tryz.func51 rfl (by kernel_rfl) bU (bK (all_cons (dH (Ai n)) (all_nil)) (bL)) mixed (bC _ _ rfl) (by kernel_rfl) (by kernel_rfl) (fun x=>by kernel_rfl)
def rV (n:Nat):An (bG fK):=.nil
theorem pY (n:Nat):Pure Tryz.prog 265 jW fK (gG n) :=
 jF (Γ:=fC _ [] []) (an:=rV n) Tryz.func265 rfl (by kernel_rfl) bU (bK (all_nil) (bL)) mixed (bC _ _ rfl) (fun x=>by kernel_rfl)
def rW (n:Nat):An (bG fM):=.nil
theorem qA (n:Nat):Pure Tryz.prog 213 jX fM (gH n) :=
 jF (Γ:=fC _ [(265,jO jW fK (gG n))] []) (an:=rW n) Tryz.func213 rfl (by kernel_rfl) bU (bK (all_cons (dP (pY n)) (all_nil)) (bL)) mixed (bC _ _ rfl) (fun x=>by kernel_rfl)
def Jh (n:Nat):An (bG kW):=.nil
theorem qU (n:Nat):Pure Tryz.prog 143 oJ kW (strings_CutSuffix n) :=
 jF (Γ:=fC _ [(213,jO jX fM (gH n))] []) (an:=Jh n) Tryz.func143 rfl (by kernel_rfl) bU (bK (all_cons (dP (qA n)) (all_nil)) (bL)) mixed (bC _ _ rfl) (fun x=>by kernel_rfl)
def Ox (n:Nat):An (rR.X):=(.mk (.mk .nil (.mk (.loop ⟨51,[⟨0,false,[.ptr 0 0]⟩,⟨12,false,[.v (.slice aI)]⟩,⟨13,false,[.v (.int .i64)]⟩,⟨14,false,[.v (.int .i64)]⟩],[.box 135 [.v (.int .i64),.v (.int .i64),.v (.int .i64),.v (.int .i64),.v (.int .i64),.v .str,.v .str,.v .bool,.v .bool,.v .bool,.v (.slice bY),.v (.slice aI),.v .bool,.v (.slice aH),.v (.slice aB),.v .bool,.v (.slice bI),.own 1],.row 90 aI]⟩ [.keep [true,false,false,false,false,false,false,false,false,false,false,false,true,true,true],.gcA 2,.gcA 2] [.keep [true,false,false,false,false,false,false,false,false,false,false,false,true,true,true],.gcA 2,.gcA 2] n .nil) .nil []) []) .nil [])
theorem Er (n:Nat):gB Tryz.prog 81 Ab rR (uD n) :=
 eG (Γ:=fC _ [(142,peM vK pX (kE n)),(13,jO yP uF (lX n)),(143,jO oJ kW (strings_CutSuffix n))] []) (an:=Ox n) (co:=[.gc [0,1]]) Tryz.func81 rfl (by kernel_rfl) bU (bK (all_cons (dH (uL n)) (all_cons (dP (vM n)) (all_cons (dP (qU n)) (all_nil)))) (bL)) mixed (bC _ _ rfl) (by kernel_rfl) (by kernel_rfl) (fun x=>by kernel_rfl)
def Ws (n:Nat):An (vL.X):=.nil
theorem Ji (n:Nat):gB Tryz.prog 52 Eo vL (xE n) :=
 eG (Γ:=fC _ [(81,peM Ab rR (uD n))] []) (an:=Ws n) (co:=[.gc [0,1]]) Tryz.func52 rfl (by kernel_rfl) bU (bK (all_cons (dH (Er n)) (all_nil)) (bL)) mixed (bC _ _ rfl) (by kernel_rfl) (by kernel_rfl) (fun x=>by kernel_rfl)
theorem vN (n:Nat):gB Tryz.prog 85 qB qC (lD n) :=
 zHv (T:=tab) Tryz.func85 rfl rfl rfl Tryz.underlying75 (by kernel_rfl) bU rfl rfl rfl rfl (by decide) (by decide) (fun _=>rfl)
def Oy (n:Nat):An (rT.X):=(.mk .nil (.mk .nil (.mk (.mk .nil (.mk (.loop ⟨100,[⟨0,false,[.ptr 0 0]⟩,⟨3,false,[.ptr 2 0]⟩,⟨5,false,[.own 3]⟩,⟨23,false,[.own 4]⟩,⟨24,false,[.v (.int .i64)]⟩,⟨25,false,[.v (.int .i64)]⟩],[.box 135 [.v (.int .i64),.v (.int .i64),.v (.int .i64),.v (.int .i64),.v (.int .i64),.v .str,.v .str,.v .bool,.v .bool,.v .bool,.v (.slice bY),.v (.slice aI),.v .bool,.v (.slice aH),.v (.slice aB),.v .bool,.v (.slice bI),.own 1],.row 90 aI,.box 50 [.v (.int .i64),.v (.int .i64),.v (.int .i64),.v (.int .i64),.v (.int .i64),.v (.int .i64),.v .bool,.v (.int .u8),.v .str,.v .str,.v (.int .i64),.v (.int .i64),.v (.int .i64),.v (.slice Nw),.v .bool,.v .bool],.row 4 .bool,.row 45 Dz]⟩ [.keep [true,false,false,true,false,true,false,false,false,false,false,false,false,false,false,false,false,false,false,false,false,false,false,true,true,true],.gcA 2,.gcA 2] [.keep [true,false,false,true,false,true,false,false,false,false,false,false,false,false,false,false,false,false,false,false,false,false,false,true,true,true],.gcA 2,.gcA 2] n .nil) .nil []) []) (.mk (.co [.zSj 5] .nil) .nil []) []) []) [])
theorem Es (n:Nat):gB Tryz.prog 53 Ac rT (kU n) :=
 eG (Γ:=fC _ [(84,jO nW wS (vI n)),(85,peM qB qC (lD n))] []) (an:=Oy n) (co:=[.gc [0,1,6]]) Tryz.func53 rfl (by kernel_rfl) bU (bK (all_cons (dP (zAx n)) (all_cons (dH (vN n)) (all_nil))) (bL)) mixed (bC _ _ rfl) (by kernel_rfl) (by kernel_rfl) (fun x=>by kernel_rfl)
def Mx (n:Nat):An (lH.X):=.nil
theorem qV (n:Nat):gB Tryz.prog 142 qG lH (gU n) :=
 eG (Γ:=fC _ [] []) (an:=Mx n) (co:=[.gc [0,1,2]]) Tryz.func142 rfl (by kernel_rfl) bU (bK (all_nil) (bL)) mixed (bC _ _ rfl) (by kernel_rfl) (by kernel_rfl) (fun x=>by kernel_rfl)
def Cv (n:Nat):An (lU.X):=.nil
theorem xI (n:Nat):gB Tryz.prog 80 sN lU (mP n) :=
 eG (Γ:=fC _ [(142,peM qG lH (gU n))] []) (an:=Cv n) (co:=[.gc [0,1,2]]) Tryz.func80 rfl (by kernel_rfl) bU (bK (all_cons (dH (qV n)) (all_nil)) (bL)) mixed (bC _ _ rfl) (by kernel_rfl) (by kernel_rfl) (fun x=>by kernel_rfl)
def Iq (n:Nat):An (nC.X):=.nil
theorem Af (n:Nat):gB Tryz.prog 51 uJ nC (oD n) :=
 eG (Γ:=fC _ [(80,peM sN lU (mP n))] []) (an:=Iq n) (co:=[.gc [0,1,2]]) Tryz.func51 rfl (by kernel_rfl) bU (bK (all_cons (dH (xI n)) (all_nil)) (bL)) mixed (bC _ _ rfl) (by kernel_rfl) (by kernel_rfl) (fun x=>by kernel_rfl)
def Ir (n:Nat):An (nD.X):=(.mk (.mk .nil (.mk (.loop ⟨51,[⟨0,false,[.ptr 0 0]⟩,⟨12,false,[.v (.slice aI)]⟩,⟨13,false,[.v (.int .i64)]⟩,⟨14,false,[.v (.int .i64)]⟩],[.box 135 [.v (.int .i64),.v (.int .i64),.v (.int .i64),.v (.int .i64),.v (.int .i64),.v .str,.v .str,.v .bool,.v .bool,.v .bool,.own 1,.v (.slice aI),.v .bool,.v (.slice aH),.v (.slice aB),.v .bool,.v (.slice bI),.own 2],.row 173 bY,.row 90 aI]⟩ [.keep [true,false,false,false,false,false,false,false,false,false,false,false,true,true,true],.gcA 3,.gcA 3] [.keep [true,false,false,false,false,false,false,false,false,false,false,false,true,true,true],.gcA 3,.gcA 3] n .nil) .nil []) []) .nil [])
theorem Ag (n:Nat):gB Tryz.prog 81 uK nD (oF n) :=
 eG (Γ:=fC _ [(142,peM qG lH (gU n)),(13,jO yP uF (lX n)),(143,jO oJ kW (strings_CutSuffix n))] []) (an:=Ir n) (co:=[.gc [0,1,2]]) Tryz.func81 rfl (by kernel_rfl) bU (bK (all_cons (dH (qV n)) (all_cons (dP (vM n)) (all_cons (dP (qU n)) (all_nil)))) (bL)) mixed (bC _ _ rfl) (by kernel_rfl) (by kernel_rfl) (fun x=>by kernel_rfl)
def Sm (n:Nat):An (uG.X):=.nil
theorem Iu (n:Nat):gB Tryz.prog 150 Bw uG (pW n) :=
 eG (Γ:=fC _ [] []) (an:=Sm n) (co:=[.gc [0,1,2]]) Tryz.func150 rfl (by kernel_rfl) bU (bK (all_nil) (bL)) mixed (bC _ _ rfl) (by kernel_rfl) (by kernel_rfl) (fun x=>by kernel_rfl)
def Oz (n:Nat):An (rU.X):=.nil
theorem Et (n:Nat):gB Tryz.prog 99 Ad rU (uE n) :=
 eG (Γ:=fC _ [(51,peM uJ nC (oD n)),(81,peM uK nD (oF n)),(150,peM Bw uG (pW n))] []) (an:=Oz n) (co:=[.gc [0,1,2]]) Tryz.func99 rfl (by kernel_rfl) bU (bK (all_cons (dH (Af n)) (all_cons (dH (Ag n)) (all_cons (dH (Iu n)) (all_nil)))) (bL)) mixed (bC _ _ rfl) (by kernel_rfl) (by kernel_rfl) (fun x=>by kernel_rfl)
def zIm (n:Nat):An (bG Io):=(.mk .nil (.mk .nil (.mk (.mk (.mk .nil (.mk .nil (.mk .nil (.mk (.mk (.co [.ownB 3 17 30] .nil) .nil []) (.mk .nil (.mk (.co [.ownB 3 17 30] .nil) .nil []) []) []) []) []) []) .nil []) .nil []) []) [])
theorem Yw (n:Nat):Pure Tryz.prog 27 Wn Io (iH n) :=
 jF (Γ:=fC _ [(51,peM Aa rQ (tQ n)),(52,peM Eo vL (xE n)),(53,peM Ac rT (kU n)),(54,peH 113 99),(99,peM Ad rU (uE n))] []) (an:=zIm n) Tryz.func27 rfl (by kernel_rfl) bU (bK (all_cons (dH (Ep n)) (all_cons (dH (Ji n)) (all_cons (dH (Es n)) (all_cons (yCi (zNr.ok _ (by simp [Yi]))) (all_cons (dH (Et n)) (all_nil)))))) (bL)) mixed (bC _ _ rfl) (fun x=>by kernel_rfl)
def zIn (n:Nat):An (bG Ip):=(.mk .nil (.scope 1 .nil (.loop ⟨88,[⟨2,false,[.v (.slice bI)]⟩,⟨3,false,[.v (.int .i64)]⟩,⟨4,false,[.ptr 0 0]⟩,⟨8,false,[.ptr 1 0]⟩,⟨10,false,[.v (.slice aI)]⟩,⟨11,false,[.v (.int .i64)]⟩,⟨12,false,[.ptr 2 0]⟩],[.box 29 [.v .bool,.v (.slice aH),.v (.slice aB),.v .bool,.v (.slice .str),.v .bool],.box 33 [.own 3,.v (.slice bI),.v (.int .i64),.v (.int .i64)],.box 78 [.v (.int .i64),.v (.int .i64),.v (.int .i64),.v (.int .i64),.v (.int .i64),.v .str,.v .str,.v .bool,.v .bool,.v .bool,.v (.slice bY),.v (.slice aI)],.row 90 aI]⟩ [.keep [false,false,true,true,true,false,false,false,true,false,true,true,true],.gcA 0,.ownB 1 0 30,.gcA 0] [.keep [false,false,true,true,true,false,false,false,true,false,true,true,true],.gcA 0,.gcA 0] n (.scope 0 .nil .nil))) [])
theorem Yx (n:Nat):Pure Tryz.prog 10 Wo Ip (wT n) :=
 jF (Γ:=fC _ [(22,jO bR gF (qP n)),(23,jO Mv zZ (qR n)),(24,jO zAo Mw (Ie n)),(25,jO Qa Cr (kM n)),(26,jO Wm Im (lY n)),(27,jO Wn Io (iH n))] []) (an:=zIn n) Tryz.func10 rfl (by kernel_rfl) bU (bK (all_cons (dP (Rv n)) (all_cons (dP (Sl n)) (all_cons (dP (zBa n)) (all_cons (dP (Wp n)) (all_cons (dP (Yv n)) (all_cons (dP (Yw n)) (all_nil))))))) (bL)) mixed (bC _ _ rfl) (fun x=>by kernel_rfl)
def uH (n:Nat):An (eB.X):=.nil
theorem jD (n:Nat):gB Tryz.prog 28 gV eB (bD n) :=
 eG (Γ:=fC _ [(55,peM pO pQ (iQ n))] []) (an:=uH n) (co:=[.gc [0,1]]) Tryz.func28 rfl (by kernel_rfl) bU (bK (all_cons (dH (uI n)) (all_nil)) (bL)) mixed (bC _ _ rfl) (by kernel_rfl) (by kernel_rfl) (fun x=>by kernel_rfl)
def wV (n:Nat):An (iR.X):=.nil
theorem sO (n:Nat):gB Tryz.prog 33 mV iR (dO n) :=
 eG (Γ:=fC _ [(55,peM pO pQ (iQ n))] []) (an:=wV n) (co:=[.gc [0,1]]) Tryz.func33 rfl (by kernel_rfl) bU (bK (all_cons (dH (uI n)) (all_nil)) (bL)) mixed (bC _ _ rfl) (by kernel_rfl) (by kernel_rfl) (fun x=>by kernel_rfl)
def zHa (n:Nat):An (bG Ct):=(.mk .nil (.mk .nil (.mk (.mk .nil (.mk (.loop ⟨20,[⟨3,false,[.ptr 0 0]⟩,⟨6,false,[.v (.slice aI)]⟩,⟨7,false,[.v (.int .i64)]⟩,⟨8,false,[.v (.int .i64)]⟩],[.box 89 [.bB 0 0,.own 1],.row 5 (.int .u8)]⟩ [.keep [false,false,false,true,false,false,true,true,true],.gcA 0,.ownB 0 1 87,.orn 0 0 0 0,.gcA 0] [.keep [false,false,false,true,false,false,true,true,true],.gcA 0,.gcA 0] n .nil) .nil []) []) .nil []) []) [])
theorem Wt (n:Nat):Pure Tryz.prog 14 Qb Ct (yO n) :=
 jF (Γ:=fC _ [(28,peM gV eB (bD n)),(33,peM mV iR (dO n)),(29,peM nI kL (Builder_String n))] []) (an:=zHa n) Tryz.func14 rfl (by kernel_rfl) bU (bK (all_cons (dH (jD n)) (all_cons (dH (sO n)) (all_cons (dH (tO n)) (all_nil)))) (bL)) mixed (bC _ _ rfl) (fun x=>by kernel_rfl)
def zHb (n:Nat):An (bG Cu):=(.mk .nil (.mk .nil (.mk .nil (.mk (.mk .nil (.mk (.loop ⟨23,[⟨3,false,[.ptr 0 0]⟩,⟨4,false,[.v .str]⟩,⟨7,false,[.v (.slice aI)]⟩,⟨8,false,[.v (.int .i64)]⟩,⟨9,false,[.v (.int .i64)]⟩],[.box 89 [.bB 0 0,.own 1],.row 5 (.int .u8)]⟩ [.keep [false,false,false,true,true,false,false,true,true,true],.gcA 0,.ownB 0 1 87,.orn 0 0 0 0,.gcA 0] [.keep [false,false,false,true,true,false,false,true,true,true],.gcA 0,.gcA 0] n .nil) .nil []) []) .nil []) []) []) [])
theorem Wu (n:Nat):Pure Tryz.prog 11 Qc Cu (kV n) :=
 jF (Γ:=fC _ [(28,peM gV eB (bD n)),(29,peM nI kL (Builder_String n))] []) (an:=zHb n) Tryz.func11 rfl (by kernel_rfl) bU (bK (all_cons (dH (jD n)) (all_cons (dH (tO n)) (all_nil))) (bL)) mixed (bC _ _ rfl) (fun x=>by kernel_rfl)
def Pf (n:Nat):An (bG Ae):=.nil
theorem Ev (n:Nat):Pure Tryz.prog 6 Sk Ae (nJ n) :=
 jF (Γ:=fC _ [(9,jO zGc zGd (shown16 n)),(10,jO Wo Ip (wT n)),(12,jO Lp Lr (qO n)),(14,jO Qb Ct (yO n)),(11,jO Qc Cu (kV n))] []) (an:=Pf n) Tryz.func6 rfl (by kernel_rfl) bU (bK (all_cons (dP (zGe n)) (all_cons (dP (Yx n)) (all_cons (dP (Rw n)) (all_cons (dP (Wt n)) (all_cons (dP (Wu n)) (all_nil)))))) (bL)) mixed (bC _ _ rfl) (fun x=>by kernel_rfl)
end Go.Dec
