/- Part of a proof over this seat: a library of my own, and what it says of this seat. No statement is proved here. -/
import Derived.Test.YtmpoakdpdflfgaaGreatDoorProg
import Derived.Test.YtmpoakdpdflfgaaGreatDoorPnrtBS
import Derived.Test.YtmpoakdpdflfgaaGreatDoorPnrtBR
import Derived.Test.YtmpoakdpdflfgaaGreatDoorPnrtBQ
import Derived.KernelRfl
namespace Go.Dec
open Go.Proofs
set_option linter.unusedVariables false
def tab:Tab:=[(3,⟨.int .i64,1,8,[.val (.int .i64) 0],some (.int .i64),false⟩),
 (4,⟨.bool,1,1,[.val .bool false],some .bool,false⟩),
 (5,⟨.int .u8,1,1,[.val (.int .u8) 0],some (.int .u8),false⟩),
 (9,⟨.str,1,16,[.val .str []],some .str,false⟩),
 (23,⟨.slice 225,1,24,[.aL],some (.slice bT),false⟩),
 (24,⟨.slice 50,1,24,[.aL],some (.slice aN),false⟩),
 (26,⟨.struct [(0,4),(1,23),(2,24)],3,56,[.val .bool false,.aL,.aL],some Au,false⟩),
 (27,⟨.slice 9,1,24,[.aL],some (.slice .str),false⟩),
 (29,⟨.struct [(0,26),(3,4),(4,27),(5,4)],6,96,[.val .bool false,.aL,.aL,.val .bool false,.aL,.val .bool false],some aH,false⟩),
 (30,⟨.slice 90,1,24,[.aL],some (.slice bL),false⟩),
 (31,⟨.slice 38,1,24,[.aL],some (.slice aU),false⟩),
 (33,⟨.struct [(0,30),(1,31),(2,3),(3,3)],4,64,[.aL,.aL,.val (.int .i64) 0,.val (.int .i64) 0],some Td,false⟩),
 (34,⟨.int .i64,1,8,[.val (.int .i64) 0],some (.int .i64),false⟩),
 (38,⟨.struct [(0,9),(1,9)],2,32,[.val .str [],.val .str []],some aU,true⟩),
 (40,⟨.slice 83,1,24,[.aL],some (.slice bL),false⟩),
 (45,⟨.struct [(0,3),(1,3),(2,3)],3,24,[.val (.int .i64) 0,.val (.int .i64) 0,.val (.int .i64) 0],some Tc,true⟩),
 (47,⟨.struct [(0,45),(3,45),(6,4)],7,56,[.val (.int .i64) 0,.val (.int .i64) 0,.val (.int .i64) 0,.val (.int .i64) 0,.val (.int .i64) 0,.val (.int .i64) 0,.val .bool false],some Cn,true⟩),
 (48,⟨.slice 312,1,24,[.aL],some (.slice zLn),false⟩),
 (50,⟨.struct [(0,47),(7,5),(8,9),(9,9),(10,3),(11,3),(12,3),(13,48),(14,4),(15,4)],16,152,[.val (.int .i64) 0,.val (.int .i64) 0,.val (.int .i64) 0,.val (.int .i64) 0,.val (.int .i64) 0,.val (.int .i64) 0,.val .bool false,.val (.int .u8) 0,.val .str [],.val .str [],.val (.int .i64) 0,.val (.int .i64) 0,.val (.int .i64) 0,.aL,.val .bool false,.val .bool false],some aN,false⟩),
 (56,⟨.slice 27,1,24,[.aL],some (.slice (.slice .str)),false⟩),
 (59,⟨.slice 3,1,24,[.aL],some (.slice (.int .i64)),false⟩),
 (61,⟨.struct [(0,9),(1,31),(2,59),(3,3),(4,3)],5,80,[.val .str [],.aL,.aL,.val (.int .i64) 0,.val (.int .i64) 0],some kD,false⟩),
 (65,⟨.slice 4,1,24,[.aL],some (.slice .bool),false⟩),
 (67,⟨.slice 123,1,24,[.aL],some (.slice aU),false⟩),
 (75,⟨.slice 173,1,24,[.aL],some (.slice zLo),false⟩),
 (76,⟨.slice 217,1,24,[.aL],some (.slice bL),false⟩),
 (78,⟨.struct [(0,3),(1,3),(2,3),(3,3),(4,3),(5,9),(6,9),(7,4),(8,4),(9,4),(10,75),(11,76)],12,128,[.val (.int .i64) 0,.val (.int .i64) 0,.val (.int .i64) 0,.val (.int .i64) 0,.val (.int .i64) 0,.val .str [],.val .str [],.val .bool false,.val .bool false,.val .bool false,.aL,.aL],some aF,false⟩),
 (83,⟨.struct [(0,9),(1,4)],2,24,[.val .str [],.val .bool false],some bL,true⟩),
 (86,⟨.ptr 89,1,8,[.iO],none,false⟩),
 (87,⟨.slice 5,1,24,[.aL],some (.slice (.int .u8)),false⟩),
 (89,⟨.struct [(0,86),(1,87)],2,32,[.iO,.aL],none,false⟩),
 (90,⟨.struct [(0,9),(1,4)],2,24,[.val .str [],.val .bool false],some bL,true⟩),
 (92,⟨.iface false,1,16,[.val .err false],some .err,false⟩),
 (109,⟨.slice 29,1,24,[.aL],some (.slice aH),false⟩),
 (111,⟨.struct [(0,9),(1,31),(2,59),(3,3),(4,3)],5,80,[.val .str [],.aL,.aL,.val (.int .i64) 0,.val (.int .i64) 0],some kD,false⟩),
 (112,⟨.slice 78,1,24,[.aL],some (.slice aF),false⟩),
 (113,⟨.slice 40,1,24,[.aL],some (.slice (.slice bL)),false⟩),
 (114,⟨.slice 148,1,24,[.aL],some (.slice eD),false⟩),
 (116,⟨.struct [(0,109),(1,65),(2,4),(3,112),(4,65),(5,113),(6,114),(7,30),(8,31),(9,59),(10,3),(11,3),(12,3)],13,248,[.aL,.aL,.val .bool false,.aL,.aL,.aL,.aL,.aL,.aL,.aL,.val (.int .i64) 0,.val (.int .i64) 0,.val (.int .i64) 0],some mJ,false⟩),
 (120,⟨.func,1,8,[.val .opq Value.nilFunc],some .opq,false⟩),
 (123,⟨.struct [(0,9),(1,9)],2,32,[.val .str [],.val .str []],some aU,true⟩),
 (148,⟨.struct [(0,9),(1,4),(2,4)],3,24,[.val .str [],.val .bool false,.val .bool false],some eD,true⟩),
 (170,⟨.slice 230,1,24,[.aL],some (.slice yO),false⟩),
 (173,⟨.struct [(0,4),(1,3)],2,16,[.val .bool false,.val (.int .i64) 0],some zLo,true⟩),
 (190,⟨.func,1,8,[.val .opq Value.nilFunc],some .opq,false⟩),
 (192,⟨.ptr 116,1,8,[.iO],none,false⟩),
 (217,⟨.struct [(0,9),(1,4)],2,24,[.val .str [],.val .bool false],some bL,true⟩),
 (225,⟨.struct [(0,170),(1,4)],2,32,[.aL,.val .bool false],some bT,false⟩),
 (226,⟨.int .u64,1,8,[.val (.int .u64) 0],some (.int .u64),false⟩),
 (228,⟨.arr 4 226,4,32,[.val (.arr 4 (.int .u64)) ([0,0,0,0])],some (.arr 4 (.int .u64)),true⟩),
 (230,⟨.struct [(0,3),(1,228),(5,3),(6,3),(7,3),(8,3),(9,3)],10,80,[.val (.int .i64) 0,.val (.arr 4 (.int .u64)) ([0,0,0,0]),.val (.int .i64) 0,.val (.int .i64) 0,.val (.int .i64) 0,.val (.int .i64) 0,.val (.int .i64) 0],some yO,true⟩),
 (306,⟨.func,1,8,[.val .opq Value.nilFunc],some .opq,false⟩),
 (312,⟨.struct [(0,9),(1,3)],2,24,[.val .str [],.val (.int .i64) 0],some zLn,true⟩)]
theorem bU:aT Tryz.prog tab:=Nu (by kernel_rfl)
theorem mixed:Tryz.prog.follows .mixedOrders=true:=by kernel_rfl
abbrev yU:List Ty:=[.str,.slice aU]
abbrev rU:List Ty:=[.slice aH,.int .i64,.int .i64]
abbrev yV:Sh:=⟨2,[⟨0,true,[.v .bool,.v (.slice bT),.v (.slice aN),.v .bool,.v (.slice .str),.v .bool]⟩,⟨1,false,[.ptr 0 0]⟩],[.box 29 [.v .bool,.v (.slice bT),.v (.slice aN),.v .bool,.v (.slice .str),.v .bool]]⟩
abbrev qB:Sh:=⟨1,[⟨0,false,[.v .bool]⟩],[.box 29 [.v .bool,.v (.slice bT),.v (.slice aN),.v .bool,.v (.slice .str),.v .bool]]⟩
abbrev gJ:Sh:=⟨2,[⟨0,false,[.v (.slice aH)]⟩,⟨1,false,[.clo 111 [(0,0)]]⟩],[.box 29 [.v .bool,.v (.slice bT),.v (.slice aN),.v .bool,.v (.slice .str),.v .bool]]⟩
abbrev dL:Sh:=⟨1,[⟨0,false,[.v (.int .i64)]⟩],[.box 29 [.v .bool,.v (.slice bT),.v (.slice aN),.v .bool,.v (.slice .str),.v .bool]]⟩
abbrev fF:Sh:=⟨2,[⟨0,false,[.v (.slice aH)]⟩,⟨1,false,[.clo 111 [(0,0)]]⟩],[.box 29 [.v .bool,.v (.slice bT),.v (.slice aN),.v .bool,.v (.slice .str),.v .bool]]⟩
abbrev dB:Sh:=⟨1,[⟨0,false,[.v .bool]⟩],[.box 29 [.v .bool,.v (.slice bT),.v (.slice aN),.v .bool,.v (.slice .str),.v .bool]]⟩
abbrev Cy:List Ty:=[.slice aH]
abbrev tJ:List Ty:=[.slice .bool]
abbrev Xu:List Ty:=[Au]
abbrev Kk:List Ty:=[aF]
abbrev Xv:List Ty:=[.slice aH,.str,.slice aU,.bool]
abbrev Kl:List Ty:=[mJ,.int .i64]
abbrev vF:Sh:=⟨2,[⟨0,false,[.ptr 0 0]⟩,⟨1,false,[.v (.int .i64)]⟩],[.box 116 [.v (.slice aH),.v (.slice .bool),.v .bool,.v (.slice aF),.v (.slice .bool),.v (.slice (.slice bL)),.v (.slice eD),.v (.slice bL),.v (.slice aU),.v (.slice (.int .i64)),.v (.int .i64),.v (.int .i64),.v (.int .i64)]]⟩
abbrev nM:Sh:=⟨1,[⟨0,false,[.v .bool]⟩],[.box 116 [.v (.slice aH),.v (.slice .bool),.v .bool,.v (.slice aF),.v (.slice .bool),.v (.slice (.slice bL)),.v (.slice eD),.v (.slice bL),.v (.slice aU),.v (.slice (.int .i64)),.v (.int .i64),.v (.int .i64),.v (.int .i64)]]⟩
abbrev qL:List Ty:=[aF]
abbrev lG:List Ty:=[.bool]
abbrev eZ:Sh:=⟨2,[⟨0,false,[.v (.slice aF)]⟩,⟨1,false,[.clo 238 []]⟩],[]⟩
abbrev cZ:Sh:=⟨1,[⟨0,false,[.v (.int .i64)]⟩],[]⟩
abbrev eH:Sh:=⟨2,[⟨0,false,[.v (.slice aF)]⟩,⟨1,false,[.clo 238 []]⟩],[]⟩
abbrev bY:Sh:=⟨1,[⟨0,false,[.v .bool]⟩],[]⟩
abbrev rW:Sh:=⟨2,[⟨0,false,[.ptr 0 0]⟩,⟨1,false,[.v (.int .i64)]⟩],[.box 116 [.v (.slice aH),.v (.slice .bool),.v .bool,.v (.slice aF),.v (.slice .bool),.v (.slice (.slice bL)),.v (.slice eD),.v (.slice bL),.v (.slice aU),.v (.slice (.int .i64)),.v (.int .i64),.v (.int .i64),.v (.int .i64)]]⟩
abbrev mM:Sh:=⟨1,[⟨0,false,[.v .bool]⟩],[.box 116 [.v (.slice aH),.v (.slice .bool),.v .bool,.v (.slice aF),.v (.slice .bool),.v (.slice (.slice bL)),.v (.slice eD),.v (.slice bL),.v (.slice aU),.v (.slice (.int .i64)),.v (.int .i64),.v (.int .i64),.v (.int .i64)]]⟩
abbrev Tv:List Ty:=[eD]
abbrev Gl:List Ty:=[eD,bL,.bool,.bool]
abbrev Ni:List Ty:=[eD]
abbrev Av:List Ty:=[bL,.bool,.bool]
abbrev Nj:List Ty:=[eD]
abbrev Aw:List Ty:=[.bool]
abbrev vT:Sh:=⟨2,[⟨0,false,[.ptr 0 0]⟩,⟨1,false,[.v (.int .i64)]⟩],[.box 116 [.v (.slice aH),.v (.slice .bool),.v .bool,.v (.slice aF),.v (.slice .bool),.v (.slice (.slice bL)),.v (.slice eD),.v (.slice bL),.v (.slice aU),.v (.slice (.int .i64)),.v (.int .i64),.v (.int .i64),.v (.int .i64)]]⟩
abbrev oJ:Sh:=⟨1,[⟨0,false,[.v .bool]⟩],[.box 116 [.v (.slice aH),.v (.slice .bool),.v .bool,.v (.slice aF),.v (.slice .bool),.v (.slice (.slice bL)),.v (.slice eD),.v (.slice bL),.v (.slice aU),.v (.slice (.int .i64)),.v (.int .i64),.v (.int .i64),.v (.int .i64)]]⟩
abbrev Tw:List Ty:=[mJ]
abbrev Gm:List Ty:=[.int .i64]
abbrev Xw:List Ty:=[mJ,.int .i64]
abbrev Km:List Ty:=[mJ,.int .i64]
abbrev lH:Sh:=⟨2,[⟨0,false,[.ptr 0 0]⟩,⟨1,false,[.v .str]⟩],[.box 89 [.bJ 0 0,.own 1],.row 5 (.int .u8)]⟩
abbrev gW:Sh:=⟨2,[⟨0,false,[.v (.int .i64)]⟩,⟨1,false,[.v .err]⟩],[.box 89 [.bJ 0 0,.own 1],.row 5 (.int .u8)]⟩
abbrev Ay:List Ty:=[.slice bL]
abbrev uM:List Ty:=[.str]
abbrev Kn:Sh:=⟨5,[⟨0,false,[.v (.slice aH)]⟩,⟨1,false,[.ptr 0 0]⟩,⟨2,false,[.ptr 1 0]⟩,⟨3,false,[.ptr 2 0]⟩,⟨4,false,[.ptr 3 0]⟩],[.box 9 [.v .str],.box 31 [.v (.slice aU)],.box 4 [.v .bool],.box 3 [.v (.int .i64)]]⟩
abbrev yX:Sh:=⟨2,[⟨0,true,[.v .str,.v (.slice aU),.v (.slice (.int .i64)),.v (.int .i64),.v (.int .i64)]⟩,⟨1,false,[.v (.int .i64)]⟩],[.box 9 [.v .str],.box 31 [.v (.slice aU)],.box 4 [.v .bool],.box 3 [.v (.int .i64)]]⟩
abbrev Gn:List Ty:=[kD]
abbrev wT:List Ty:=[.int .i64]
abbrev mF:Sh:=⟨3,[⟨0,false,[.v .str]⟩,⟨1,false,[.v (.slice aU)]⟩,⟨2,false,[.clo 41 [(0,0),(1,0),(2,0),(3,0)]]⟩],[.box 9 [.v .str],.box 31 [.v (.slice aU)],.box 4 [.v .bool],.box 3 [.v (.int .i64)]]⟩
abbrev iT:Sh:=⟨3,[⟨0,true,[.v .str,.v (.slice aU),.v (.slice (.int .i64)),.v (.int .i64),.v (.int .i64)]⟩,⟨1,false,[.v (.int .i64)]⟩,⟨2,false,[.v (.int .i64)]⟩],[.box 9 [.v .str],.box 31 [.v (.slice aU)],.box 4 [.v .bool],.box 3 [.v (.int .i64)]]⟩
abbrev Tx:List Ty:=[.str,.str,.slice aU,.bool,.int .i64]
abbrev Gp:List Ty:=[kD,.int .i64,.int .i64]
abbrev Xx:List Ty:=[.slice aH,.str,.slice aU,.int .i64]
abbrev Ko:List Ty:=[kD,.int .i64]
abbrev Gz:Sh:=⟨4,[⟨0,false,[.v (.slice aH)]⟩,⟨1,false,[.ptr 0 0]⟩,⟨2,false,[.ptr 1 0]⟩,⟨3,false,[.ptr 2 0]⟩],[.box 9 [.v .str],.box 31 [.v (.slice aU)],.box 3 [.v (.int .i64)]]⟩
abbrev vP:Sh:=⟨2,[⟨0,true,[.v .str,.v (.slice aU),.v (.slice (.int .i64)),.v (.int .i64),.v (.int .i64)]⟩,⟨1,false,[.v (.int .i64)]⟩],[.box 9 [.v .str],.box 31 [.v (.slice aU)],.box 3 [.v (.int .i64)]]⟩
abbrev lK:Sh:=⟨3,[⟨0,false,[.v .str]⟩,⟨1,false,[.v (.slice aU)]⟩,⟨2,false,[.clo 44 [(0,0),(1,0),(2,0)]]⟩],[.box 9 [.v .str],.box 31 [.v (.slice aU)],.box 3 [.v (.int .i64)]]⟩
abbrev iI:Sh:=⟨3,[⟨0,true,[.v .str,.v (.slice aU),.v (.slice (.int .i64)),.v (.int .i64),.v (.int .i64)]⟩,⟨1,false,[.v (.int .i64)]⟩,⟨2,false,[.v (.int .i64)]⟩],[.box 9 [.v .str],.box 31 [.v (.slice aU)],.box 3 [.v (.int .i64)]]⟩
abbrev Nk:List Ty:=[.str,.str,.slice aU,.int .i64]
abbrev Az:List Ty:=[kD,.int .i64,.int .i64]
abbrev Kq:List Ty:=[.slice aU]
abbrev yY:List Ty:=[.slice aU]
abbrev Nl:List Ty:=[.slice aU,.slice aU]
abbrev Ba:List Ty:=[.bool]
abbrev Qa:List Ty:=[.str,.slice .bool,.slice aU]
abbrev yZ:List Ty:=[.bool]
def Yf (n:Nat):An (bQ rU):=(.mk .nil (.mk .nil (.mk .nil (.mk (.mk .nil (.mk (.loop ⟨34,[⟨1,false,[.v (.slice aU)]⟩,⟨4,false,[.own 0]⟩,⟨20,false,[.v (.slice (.slice .str))]⟩,⟨21,false,[.v (.int .i64)]⟩,⟨22,false,[.v (.int .i64)]⟩],[.row 29 aH]⟩ [.keep [false,true,false,false,true,false,false,false,false,false,false,false,false,false,false,false,false,false,false,false,true,true,true],.gcA 0,.Uv 4 109,.gcA 0] [.keep [false,true,false,false,true,false,false,false,false,false,false,false,false,false,false,false,false,false,false,false,true,true,true],.gcA 0,.gcA 0] n .nil) .nil []) []) .nil []) []) []) [])
theorem zA (n:Nat):Pure Tryz.prog 60 yU rU (kS n) :=
 dV (Γ:=dP _ [(16,dU Gy vN (rE n)),(109,dU yK yL (rH n))] []) (an:=Yf n) Tryz.func60 rfl (by kernel_rfl) bU (bF (all_cons (bI (Mi n)) (all_cons (bI (Gc n)) (all_nil))) (bG)) mixed (aV _ _ rfl) (fun x=>by kernel_rfl)
def Mj (n:Nat):An (qB.X):=.nil
theorem Cz (n:Nat):jB Tryz.prog 111 yV qB (rM n) :=
 fH (Γ:=dP _ [(112,dU yM yN (rJ n))] []) (an:=Mj n) (co:=[.gc [0]]) Tryz.func111 rfl (by kernel_rfl) bU (bF (all_cons (bI (Gd n)) (all_nil)) (bG)) mixed (aV _ _ rfl) (by kernel_rfl) (by kernel_rfl) (fun x=>by kernel_rfl)
def lI (n:Nat):An (dL.X):=(.mk .nil (.mk (.mk .nil (.mk (.loop ⟨19,[⟨0,false,[.v (.slice aH)]⟩,⟨1,false,[.clo 111 [(0,0)]]⟩,⟨7,false,[.v (.int .i64)]⟩,⟨8,false,[.v (.int .i64)]⟩],[.box 29 [.v .bool,.v (.slice bT),.v (.slice aN),.v .bool,.v (.slice .str),.v .bool]]⟩ [.keep [true,true,false,false,false,false,false,true,true],.gcA 1,.gcA 1] [.keep [true,true,false,false,false,false,false,true,true],.gcA 1,.gcA 1] n .nil) .nil []) []) .nil []) [])
theorem kL (n:Nat):jB Tryz.prog 165 gJ dL (dM n) :=
 fH (Γ:=dP _ [(111,peM yV qB (rM n))] []) (an:=lI n) (co:=[.gc [0]]) Tryz.func165 rfl (by kernel_rfl) bU (bF (all_cons (iB (Cz n)) (all_nil)) (bG)) mixed (aV _ _ rfl) (by kernel_rfl) (by kernel_rfl) (fun x=>by kernel_rfl)
def kT (n:Nat):An (dB.X):=.nil
theorem jT (n:Nat):jB Tryz.prog 110 fF dB (dH n) :=
 fH (Γ:=dP _ [(165,peM gJ dL (dM n))] []) (an:=kT n) (co:=[.gc [0]]) Tryz.func110 rfl (by kernel_rfl) bU (bF (all_cons (iB (kL n)) (all_nil)) (bG)) mixed (aV _ _ rfl) (by kernel_rfl) (by kernel_rfl) (fun x=>by kernel_rfl)
def Tz (n:Nat):An (bQ tJ):=(.mk .nil (.mk .nil (.mk (.mk .nil (.mk (.loop ⟨26,[⟨0,false,[.v (.slice aH)]⟩,⟨3,false,[.own 0]⟩,⟨9,false,[.v (.slice aH)]⟩,⟨10,false,[.v (.int .i64)]⟩,⟨11,false,[.v (.int .i64)]⟩],[.row 4 .bool]⟩ [.keep [true,false,false,true,false,false,false,false,false,true,true,true],.gcA 0,.gcA 0] [.keep [true,false,false,true,false,false,false,false,false,true,true,true],.gcA 0,.gcA 0] n .nil) .nil []) []) .nil []) []) [])
theorem Kr (n:Nat):Pure Tryz.prog 62 Cy tJ (vO n) :=
 dV (Γ:=dP _ [(110,peM fF dB (dH n))] []) (an:=Tz n) Tryz.func62 rfl (by kernel_rfl) bU (bF (all_cons (iB (jT n)) (all_nil)) (bG)) mixed (aV _ _ rfl) (fun x=>by kernel_rfl)
def zLz (n:Nat):An (bQ Kk):=.nil
theorem Yg (n:Nat):Pure Tryz.prog 24 Xu Kk (Py n) :=
 dV (Γ:=dP _ [] []) (an:=zLz n) Tryz.func24 rfl (by kernel_rfl) bU (bF (all_nil) (bG)) mixed (aV _ _ rfl) (fun x=>by kernel_rfl)
def zMa (n:Nat):An (bQ Kl):=(.mk .nil (.mk .nil (.mk .nil (.mk (.mk .nil (.mk (.loop ⟨80,[⟨0,false,[.v (.slice aH)]⟩,⟨1,false,[.v .str]⟩,⟨8,false,[.ptr 0 0]⟩,⟨10,false,[.ptr 1 0]⟩,⟨37,false,[.v (.slice aH)]⟩,⟨38,false,[.v (.int .i64)]⟩,⟨39,false,[.v (.int .i64)]⟩],[.box 116 [.v (.slice aH),.v (.slice .bool),.v .bool,.own 2,.v (.slice .bool),.v (.slice (.slice bL)),.v (.slice eD),.own 3,.v (.slice aU),.v (.slice (.int .i64)),.v (.int .i64),.v (.int .i64),.v (.int .i64)],.box 116 [.v (.slice aH),.v (.slice .bool),.v .bool,.own 4,.v (.slice .bool),.v (.slice (.slice bL)),.v (.slice eD),.own 5,.v (.slice aU),.v (.slice (.int .i64)),.v (.int .i64),.v (.int .i64),.v (.int .i64)],.row 78 aF,.row 90 bL,.row 78 aF,.row 90 bL]⟩ [.keep [true,true,false,false,false,false,false,false,true,false,true,false,false,false,false,false,false,false,false,false,false,false,false,false,false,false,false,false,false,false,false,false,false,false,false,false,false,true,true,true],.gcA 0,.ownB 0 3 112,.ownB 0 7 30,.ownB 1 3 112,.ownB 1 7 30,.gcA 0] [.keep [true,true,false,false,false,false,false,false,true,false,true,false,false,false,false,false,false,false,false,false,false,false,false,false,false,false,false,false,false,false,false,false,false,false,false,false,false,true,true,true],.gcA 0,.gcA 0] n .nil) .nil []) []) (.mk .nil (.mk (.mk .nil (.mk (.loop ⟨80,[⟨8,false,[.ptr 0 0]⟩,⟨10,false,[.ptr 1 0]⟩,⟨62,false,[.v (.slice bL)]⟩,⟨63,false,[.v (.int .i64)]⟩,⟨64,false,[.v (.int .i64)]⟩],[.box 116 [.v (.slice aH),.v (.slice .bool),.v .bool,.own 2,.v (.slice .bool),.v (.slice (.slice bL)),.v (.slice eD),.own 3,.v (.slice aU),.v (.slice (.int .i64)),.v (.int .i64),.v (.int .i64),.v (.int .i64)],.box 116 [.v (.slice aH),.v (.slice .bool),.v .bool,.own 4,.v (.slice .bool),.v (.slice (.slice bL)),.v (.slice eD),.own 5,.v (.slice aU),.v (.slice (.int .i64)),.v (.int .i64),.v (.int .i64),.v (.int .i64)],.row 78 aF,.row 90 bL,.row 78 aF,.row 90 bL]⟩ [.keep [false,false,false,false,false,false,false,false,true,false,true,false,false,false,false,false,false,false,false,false,false,false,false,false,false,false,false,false,false,false,false,false,false,false,false,false,false,false,false,false,false,false,false,false,false,false,false,false,false,false,false,false,false,false,false,false,false,false,false,false,false,false,true,true,true],.gcA 0,.gcA 0] [.keep [false,false,false,false,false,false,false,false,true,false,true,false,false,false,false,false,false,false,false,false,false,false,false,false,false,false,false,false,false,false,false,false,false,false,false,false,false,false,false,false,false,false,false,false,false,false,false,false,false,false,false,false,false,false,false,false,false,false,false,false,false,false,true,true,true],.gcA 0,.gcA 0] n .nil) .nil []) []) .nil []) []) []) []) []) [])
theorem Yh (n:Nat):Pure Tryz.prog 42 Xv Kl (yP n) :=
 dV (Γ:=dP _ [(62,dU Cy tJ (vO n)),(24,dU Xu Kk (Py n)),(12,dU yH yI (jE n))] []) (an:=zMa n) Tryz.func42 rfl (by kernel_rfl) bU (bF (all_cons (bI (Kr n)) (all_cons (bI (Yg n)) (all_cons (bI (yJ n)) (all_nil)))) (bG)) mixed (aV _ _ rfl) (fun x=>by kernel_rfl)
def Hu (n:Nat):An (nM.X):=.nil
theorem zC (n:Nat):jB Tryz.prog 167 vF nM (oI n) :=
 fH (Γ:=dP _ [] []) (an:=Hu n) (co:=[.gc [0]]) Tryz.func167 rfl (by kernel_rfl) bU (bF (all_nil) (bG)) mixed (aV _ _ rfl) (by kernel_rfl) (by kernel_rfl) (fun x=>by kernel_rfl)
def Bc (n:Nat):An (bQ lG):=.nil
theorem wU (n:Nat):Pure Tryz.prog 238 qL lG (lX n) :=
 dV (Γ:=dP _ [] []) (an:=Bc n) Tryz.func238 rfl (by kernel_rfl) bU (bF (all_nil) (bG)) mixed (aV _ _ rfl) (fun x=>by kernel_rfl)
def kM (n:Nat):An (cZ.X):=(.mk .nil (.mk (.mk .nil (.mk (.loop ⟨19,[⟨0,false,[.v (.slice aF)]⟩,⟨1,false,[.clo 238 []]⟩,⟨7,false,[.v (.int .i64)]⟩,⟨8,false,[.v (.int .i64)]⟩],[]⟩ [.keep [true,true,false,false,false,false,false,true,true],.gcA 0,.gcA 0] [.keep [true,true,false,false,false,false,false,true,true],.gcA 0,.gcA 0] n .nil) .nil []) []) .nil []) [])
theorem jJ (n:Nat):jB Tryz.prog 290 eZ cZ (dA n) :=
 fH (Γ:=dP _ [(238,dU qL lG (lX n))] []) (an:=kM n) (co:=[.gc []]) Tryz.func290 rfl (by kernel_rfl) bU (bF (all_cons (bI (wU n)) (all_nil)) (bG)) mixed (aV _ _ rfl) (by kernel_rfl) (by kernel_rfl) (fun x=>by kernel_rfl)
def jU (n:Nat):An (bY.X):=.nil
theorem iU (n:Nat):jB Tryz.prog 237 eH bY (cK n) :=
 fH (Γ:=dP _ [(290,peM eZ cZ (dA n))] []) (an:=jU n) (co:=[.gc []]) Tryz.func237 rfl (by kernel_rfl) bU (bF (all_cons (iB (jJ n)) (all_nil)) (bG)) mixed (aV _ _ rfl) (by kernel_rfl) (by kernel_rfl) (fun x=>by kernel_rfl)
def Gq (n:Nat):An (mM.X):=.nil
theorem zB (n:Nat):jB Tryz.prog 168 rW mM (nL n) :=
 fH (Γ:=dP _ [(237,peM eH bY (cK n))] []) (an:=Gq n) (co:=[.gc [0]]) Tryz.func168 rfl (by kernel_rfl) bU (bF (all_cons (iB (iU n)) (all_nil)) (bG)) mixed (aV _ _ rfl) (by kernel_rfl) (by kernel_rfl) (fun x=>by kernel_rfl)
def zGc (n:Nat):An (bQ Gl):=(.mk .nil (.scope 0 .nil .nil) [])
theorem Vy (n:Nat):Pure Tryz.prog 178 Tv Gl (Ka n) :=
 dV (Γ:=dP _ [(38,dU yD yE (strings_Cut n))] []) (an:=zGc n) Tryz.func178 rfl (by kernel_rfl) bU (bF (all_cons (bI (yF n)) (all_nil)) (bG)) mixed (aV _ _ rfl) (fun x=>by kernel_rfl)
def zEm (n:Nat):An (bQ Av):=.nil
theorem Ua (n:Nat):Pure Tryz.prog 169 Ni Av (Gf n) :=
 dV (Γ:=dP _ [(178,dU Tv Gl (Ka n))] []) (an:=zEm n) Tryz.func169 rfl (by kernel_rfl) bU (bF (all_cons (bI (Vy n)) (all_nil)) (bG)) mixed (aV _ _ rfl) (fun x=>by kernel_rfl)
def zEn (n:Nat):An (bQ Aw):=.nil
theorem Ub (n:Nat):Pure Tryz.prog 170 Nj Aw (Gg n) :=
 dV (Γ:=dP _ [] []) (an:=zEn n) Tryz.func170 rfl (by kernel_rfl) bU (bF (all_nil) (bG)) mixed (aV _ _ rfl) (fun x=>by kernel_rfl)
def Ku (n:Nat):An (oJ.X):=.nil
theorem Bf (n:Nat):jB Tryz.prog 113 vT oJ (qA n) :=
 fH (Γ:=dP _ [(167,peM vF nM (oI n)),(168,peM rW mM (nL n)),(169,dU Ni Av (Gf n)),(170,dU Nj Aw (Gg n))] []) (an:=Ku n) (co:=[.gc [0]]) Tryz.func113 rfl (by kernel_rfl) bU (bF (all_cons (iB (zC n)) (all_cons (iB (zB n)) (all_cons (bI (Ua n)) (all_cons (bI (Ub n)) (all_nil))))) (bG)) mixed (aV _ _ rfl) (by kernel_rfl) (by kernel_rfl) (fun x=>by kernel_rfl)
def zGd (n:Nat):An (bQ Gm):=(.mk .nil (.mk (.mk .nil (.mk (.loop ⟨15,[⟨1,false,[.ptr 0 0]⟩,⟨3,false,[.v (.int .i64)]⟩],[.box 116 [.v (.slice aH),.v (.slice .bool),.v .bool,.v (.slice aF),.v (.slice .bool),.v (.slice (.slice bL)),.v (.slice eD),.v (.slice bL),.v (.slice aU),.v (.slice (.int .i64)),.v (.int .i64),.v (.int .i64),.v (.int .i64)]]⟩ [.keep [false,true,false,true],.gcA 0,.gcA 0] [.keep [false,true,false,true],.gcA 0,.gcA 0] n .nil) .nil []) []) .nil []) [])
theorem Vz (n:Nat):Pure Tryz.prog 63 Tw Gm (Ki n) :=
 dV (Γ:=dP _ [(113,peM vT oJ (qA n))] []) (an:=zGd n) Tryz.func63 rfl (by kernel_rfl) bU (bF (all_cons (iB (Bf n)) (all_nil)) (bG)) mixed (aV _ _ rfl) (fun x=>by kernel_rfl)
def zMb (n:Nat):An (bQ Km):=(.mk .nil (.mk (.mk .nil (.mk (.loop ⟨19,[⟨1,false,[.v (.int .i64)]⟩,⟨2,false,[.ptr 0 0]⟩,⟨4,false,[.ptr 1 0]⟩,⟨6,false,[.v (.int .i64)]⟩],[.box 116 [.v (.slice aH),.v (.slice .bool),.v .bool,.v (.slice aF),.v (.slice .bool),.v (.slice (.slice bL)),.v (.slice eD),.v (.slice bL),.v (.slice aU),.v (.slice (.int .i64)),.v (.int .i64),.v (.int .i64),.v (.int .i64)],.box 116 [.v (.slice aH),.v (.slice .bool),.v .bool,.own 2,.v (.slice .bool),.v (.slice (.slice bL)),.v (.slice eD),.own 3,.v (.slice aU),.v (.slice (.int .i64)),.v (.int .i64),.v (.int .i64),.v (.int .i64)],.row 78 aF,.row 90 bL]⟩ [.keep [false,true,true,false,true,false,true],.gcA 0,.ownB 1 3 112,.ownB 1 7 30,.gcA 0] [.keep [false,true,true,false,true,false,true],.gcA 0,.gcA 0] n .nil) .nil []) []) .nil []) [])
theorem Yi (n:Nat):Pure Tryz.prog 43 Xw Km (Gh n) :=
 dV (Γ:=dP _ [(63,dU Tw Gm (Ki n)),(64,dU Ae Af (tF n))] []) (an:=zMb n) Tryz.func43 rfl (by kernel_rfl) bU (bF (all_cons (bI (Vz n)) (all_cons (bI (Hr n)) (all_nil))) (bG)) mixed (aV _ _ rfl) (fun x=>by kernel_rfl)
def rV (n:Nat):An (gW.X):=.nil
theorem oV (n:Nat):jB Tryz.prog 28 lH gW (bW n) :=
 fH (Γ:=dP _ [(55,peM sW sZ (pJ n))] []) (an:=rV n) (co:=[.gc [0,1]]) Tryz.func28 rfl (by kernel_rfl) bU (bF (all_cons (iB (Hl n)) (all_nil)) (bG)) mixed (aV _ _ rfl) (by kernel_rfl) (by kernel_rfl) (fun x=>by kernel_rfl)
def zEo (n:Nat):An (bQ uM):=(.mk .nil (.mk .nil (.mk .nil (.mk (.mk .nil (.mk (.loop ⟨23,[⟨3,false,[.ptr 0 0]⟩,⟨4,false,[.v .str]⟩,⟨7,false,[.v (.slice bL)]⟩,⟨8,false,[.v (.int .i64)]⟩,⟨9,false,[.v (.int .i64)]⟩],[.box 89 [.bJ 0 0,.own 1],.row 5 (.int .u8)]⟩ [.keep [false,false,false,true,true,false,false,true,true,true],.gcA 0,.ownB 0 1 87,.orn 0 0 0 0,.gcA 0] [.keep [false,false,false,true,true,false,false,true,true,true],.gcA 0,.gcA 0] n .nil) .nil []) []) .nil []) []) []) [])
theorem Ah (n:Nat):Pure Tryz.prog 11 Ay uM (kK n) :=
 dV (Γ:=dP _ [(28,peM lH gW (bW n)),(29,peM rD mR (Builder_String n))] []) (an:=zEo n) Tryz.func11 rfl (by kernel_rfl) bU (bF (all_cons (iB (oV n)) (all_cons (iB (Fp n)) (all_nil))) (bG)) mixed (aV _ _ rfl) (fun x=>by kernel_rfl)
def Yj (n:Nat):An (yX.X):=.nil
theorem Mk (n:Nat):jB Tryz.prog 41 Kn yX (uL n) :=
 fH (Γ:=dP _ [(42,dU Xv Kl (yP n)),(43,dU Xw Km (Gh n)),(11,dU Ay uM (kK n))] []) (an:=Yj n) (co:=[.gc [0,1,2,3]]) Tryz.func41 rfl (by kernel_rfl) bU (bF (all_cons (bI (Yh n)) (all_cons (bI (Yi n)) (all_cons (bI (Ah n)) (all_nil)))) (bG)) mixed (aV _ _ rfl) (by kernel_rfl) (by kernel_rfl) (fun x=>by kernel_rfl)
def zGe (n:Nat):An (bQ wT):=.nil
theorem Da (n:Nat):Pure Tryz.prog 61 Gn wT (vC n) :=
 dV (Γ:=dP _ [] []) (an:=zGe n) Tryz.func61 rfl (by kernel_rfl) bU (bF (all_nil) (bG)) mixed (aV _ _ rfl) (fun x=>by kernel_rfl)
def vG (n:Nat):An (iT.X):=.nil
theorem qM (n:Nat):jB Tryz.prog 40 mF iT (fT n) :=
 fH (Γ:=dP _ [(60,dU yU rU (kS n)),(41,peM Kn yX (uL n)),(61,dU Gn wT (vC n))] []) (an:=vG n) (co:=[.gc [0,1,2,3]]) Tryz.func40 rfl (by kernel_rfl) bU (bF (all_cons (bI (zA n)) (all_cons (iB (Mk n)) (all_cons (bI (Da n)) (all_nil)))) (bG)) mixed (aV _ _ rfl) (by kernel_rfl) (by kernel_rfl) (fun x=>by kernel_rfl)
def zGf (n:Nat):An (bQ Gp):=.nil
theorem Wd (n:Nat):Pure Tryz.prog 17 Tx Gp (vD n) :=
 dV (Γ:=dP _ [(40,peM mF iT (fT n))] []) (an:=zGf n) Tryz.func17 rfl (by kernel_rfl) bU (bF (all_cons (iB (qM n)) (all_nil)) (bG)) mixed (aV _ _ rfl) (fun x=>by kernel_rfl)
def zMc (n:Nat):An (bQ Ko):=(.mk .nil (.mk (.mk .nil (.mk .nil (.mk .nil (.mk (.mk .nil (.mk (.loop ⟨81,[⟨3,false,[.v (.int .i64)]⟩,⟨8,false,[.ptr 0 0]⟩,⟨9,false,[.v (.int .i64)]⟩,⟨22,false,[.v (.slice aH)]⟩,⟨23,false,[.v (.int .i64)]⟩,⟨24,false,[.v (.int .i64)]⟩],[.box 111 [.v .str,.v (.slice aU),.own 1,.v (.int .i64),.v (.int .i64)],.row 3 (.int .i64)]⟩ [.keep [false,false,false,true,false,false,false,false,true,true,false,false,false,false,false,false,false,false,false,false,false,false,true,true,true],.gcA 0,.ownB 0 2 59,.gcA 0] [.keep [false,false,false,true,false,false,false,false,true,true,false,false,false,false,false,false,false,false,false,false,false,false,true,true,true],.gcA 0,.gcA 0] n .nil) .nil []) []) .nil []) []) []) []) .nil []) [])
theorem Yk (n:Nat):Pure Tryz.prog 45 Xx Ko (Gj n) :=
 dV (Γ:=dP _ [(12,dU yH yI (jE n)),(10,dU Ac Ad (oD n)),(11,dU Ay uM (kK n))] []) (an:=zMc n) Tryz.func45 rfl (by kernel_rfl) bU (bF (all_cons (bI (yJ n)) (all_cons (bI (Hq n)) (all_cons (bI (Ah n)) (all_nil)))) (bG)) mixed (aV _ _ rfl) (fun x=>by kernel_rfl)
def Wh (n:Nat):An (vP.X):=.nil
theorem Kv (n:Nat):jB Tryz.prog 44 Gz vP (rP n) :=
 fH (Γ:=dP _ [(45,dU Xx Ko (Gj n))] []) (an:=Wh n) (co:=[.gc [0,1,2]]) Tryz.func44 rfl (by kernel_rfl) bU (bF (all_cons (bI (Yk n)) (all_nil)) (bG)) mixed (aV _ _ rfl) (by kernel_rfl) (by kernel_rfl) (fun x=>by kernel_rfl)
def tK (n:Nat):An (iI.X):=.nil
theorem qC (n:Nat):jB Tryz.prog 40 lK iI (fE n) :=
 fH (Γ:=dP _ [(60,dU yU rU (kS n)),(44,peM Gz vP (rP n)),(61,dU Gn wT (vC n))] []) (an:=tK n) (co:=[.gc [0,1,2]]) Tryz.func40 rfl (by kernel_rfl) bU (bF (all_cons (bI (zA n)) (all_cons (iB (Kv n)) (all_cons (bI (Da n)) (all_nil)))) (bG)) mixed (aV _ _ rfl) (by kernel_rfl) (by kernel_rfl) (fun x=>by kernel_rfl)
def zEp (n:Nat):An (bQ Az):=.nil
theorem Uc (n:Nat):Pure Tryz.prog 18 Nk Az (rQ n) :=
 dV (Γ:=dP _ [(40,peM lK iI (fE n))] []) (an:=zEp n) Tryz.func18 rfl (by kernel_rfl) bU (bF (all_cons (iB (qC n)) (all_nil)) (bG)) mixed (aV _ _ rfl) (fun x=>by kernel_rfl)
def Yl (n:Nat):An (bQ yY):=(.mk .nil (.mk .nil (.mk (.mk .nil (.mk (.loop ⟨20,[⟨0,false,[.v (.slice aU)]⟩,⟨3,false,[.own 0]⟩,⟨4,false,[.v (.int .i64)]⟩],[.row 123 aU]⟩ [.keep [true,false,false,true,true],.gcA 0,.Uv 3 67,.gcA 0] [.keep [true,false,false,true,true],.gcA 0,.gcA 0] n .nil) .nil []) []) .nil []) []) [])
theorem Qb (n:Nat):Pure Tryz.prog 20 Kq yY (oU n) :=
 dV (Γ:=dP _ [] []) (an:=Yl n) Tryz.func20 rfl (by kernel_rfl) bU (bF (all_nil) (bG)) mixed (aV _ _ rfl) (fun x=>by kernel_rfl)
def zEq (n:Nat):An (bQ Ba):=(.mk .nil (.mk .nil (.mk (.mk .nil (.mk (.loop ⟨26,[⟨0,false,[.v (.slice aU)]⟩,⟨1,false,[.v (.slice aU)]⟩,⟨5,false,[.v (.int .i64)]⟩],[]⟩ [.keep [true,true,false,false,false,true],.gcA 0,.gcA 0] [.keep [true,true,false,false,false,true],.gcA 0,.gcA 0] n .nil) .nil []) []) .nil []) []) [])
theorem Ud (n:Nat):Pure Tryz.prog 19 Nl Ba (rR n) :=
 dV (Γ:=dP _ [] []) (an:=zEq n) Tryz.func19 rfl (by kernel_rfl) bU (bF (all_nil) (bG)) mixed (aV _ _ rfl) (fun x=>by kernel_rfl)
def Ml (n:Nat):An (bQ yZ):=(.mk .nil (.mk .nil (.mk (.mk .nil (.mk (.loop ⟨136,[⟨0,false,[.v .str]⟩,⟨1,false,[.v (.slice .bool)]⟩,⟨2,false,[.v (.slice aU)]⟩,⟨7,false,[.v (.int .i64)]⟩],[]⟩ [.keep [true,true,true,false,false,false,false,true],.gcA 0,.gcA 0] [.keep [true,true,true,false,false,false,false,true],.gcA 0,.gcA 0] n .nil) .nil []) []) (.mk .nil (.mk (.mk .nil (.mk (.loop ⟨136,[⟨0,false,[.v .str]⟩,⟨1,false,[.v (.slice .bool)]⟩,⟨2,false,[.v (.slice aU)]⟩,⟨8,false,[.v .str]⟩,⟨9,false,[.v (.int .i64)]⟩],[]⟩ [.keep [true,true,true,false,false,false,false,false,true,true],.gcA 0,.gcA 0] [.keep [true,true,true,false,false,false,false,false,true,true],.gcA 0,.gcA 0] n .nil) .nil []) []) .nil []) []) []) []) [])
theorem Db (n:Nat):Pure Tryz.prog 8 Qa yZ (rT n) :=
 dV (Γ:=dP _ [(15,dU zDm zDn (shown22 n)),(17,dU Tx Gp (vD n)),(18,dU Nk Az (rQ n)),(20,dU Kq yY (oU n)),(19,dU Nl Ba (rR n))] []) (an:=Ml n) Tryz.func8 rfl (by kernel_rfl) bU (bF (all_cons (bI (zDo n)) (all_cons (bI (Wd n)) (all_cons (bI (Uc n)) (all_cons (bI (Qb n)) (all_cons (bI (Ud n)) (all_nil)))))) (bG)) mixed (aV _ _ rfl) (fun x=>by kernel_rfl)
end Go.Dec
