/- Part of a proof over this seat: a library of my own, and what it says of this seat. No statement is proved here. -/
import Derived.Test.YtfpipcafiocdoaaGreatDoorProg
import Derived.Test.YtfpipcafiocdoaaGreatDoorPfrtBR
import Derived.Test.YtfpipcafiocdoaaGreatDoorPfrtBQ
import Derived.KernelRfl
namespace Go.Dec
open Go.Proofs
set_option linter.unusedVariables false
def tab:Tab:=[(3,⟨.int .i64,1,8,[.val (.int .i64) 0],some (.int .i64),false⟩),
 (4,⟨.bool,1,1,[.val .bool false],some .bool,false⟩),
 (5,⟨.int .u8,1,1,[.val (.int .u8) 0],some (.int .u8),false⟩),
 (9,⟨.str,1,16,[.val .str []],some .str,false⟩),
 (25,⟨.int .i64,1,8,[.val (.int .i64) 0],some (.int .i64),false⟩),
 (32,⟨.slice 5,1,24,[.aX],some (.slice (.int .u8)),false⟩),
 (33,⟨.slice 9,1,24,[.aX],some (.slice .str),false⟩),
 (37,⟨.slice 179,1,24,[.aX],some (.slice bU),false⟩),
 (38,⟨.slice 61,1,24,[.aX],some (.slice aQ),false⟩),
 (40,⟨.struct [(0,4),(1,37),(2,38)],3,56,[.val .bool false,.aX,.aX],some Ap,false⟩),
 (43,⟨.slice 134,1,24,[.aX],some (.slice zLr),false⟩),
 (44,⟨.slice 169,1,24,[.aX],some (.slice aO),false⟩),
 (46,⟨.struct [(0,3),(1,3),(2,3),(3,3),(4,3),(5,9),(6,9),(7,4),(8,4),(9,4),(10,43),(11,44)],12,128,[.val (.int .i64) 0,.val (.int .i64) 0,.val (.int .i64) 0,.val (.int .i64) 0,.val (.int .i64) 0,.val .str [],.val .str [],.val .bool false,.val .bool false,.val .bool false,.aX,.aX],some aB,false⟩),
 (50,⟨.struct [(0,9),(1,4)],2,24,[.val .str [],.val .bool false],some aO,true⟩),
 (51,⟨.slice 63,1,24,[.aX],some (.slice dY),false⟩),
 (52,⟨.slice 102,1,24,[.aX],some (.slice aO),false⟩),
 (56,⟨.struct [(0,3),(1,3),(2,3)],3,24,[.val (.int .i64) 0,.val (.int .i64) 0,.val (.int .i64) 0],some Tj,true⟩),
 (58,⟨.struct [(0,56),(3,56),(6,4)],7,56,[.val (.int .i64) 0,.val (.int .i64) 0,.val (.int .i64) 0,.val (.int .i64) 0,.val (.int .i64) 0,.val (.int .i64) 0,.val .bool false],some Cv,true⟩),
 (59,⟨.slice 300,1,24,[.aX],some (.slice zLq),false⟩),
 (61,⟨.struct [(0,58),(7,5),(8,9),(9,9),(10,3),(11,3),(12,3),(13,59),(14,4),(15,4)],16,152,[.val (.int .i64) 0,.val (.int .i64) 0,.val (.int .i64) 0,.val (.int .i64) 0,.val (.int .i64) 0,.val (.int .i64) 0,.val .bool false,.val (.int .u8) 0,.val .str [],.val .str [],.val (.int .i64) 0,.val (.int .i64) 0,.val (.int .i64) 0,.aX,.val .bool false,.val .bool false],some aQ,false⟩),
 (63,⟨.struct [(0,9),(1,9)],2,32,[.val .str [],.val .str []],some dY,true⟩),
 (66,⟨.slice 68,1,24,[.aX],some (.slice aK),false⟩),
 (68,⟨.struct [(0,40),(3,4),(4,33),(5,4)],6,96,[.val .bool false,.aX,.aX,.val .bool false,.aX,.val .bool false],some aK,false⟩),
 (69,⟨.slice 4,1,24,[.aX],some (.slice .bool),false⟩),
 (70,⟨.slice 46,1,24,[.aX],some (.slice aB),false⟩),
 (71,⟨.slice 112,1,24,[.aX],some (.slice (.slice aO)),false⟩),
 (72,⟨.slice 111,1,24,[.aX],some (.slice bE),false⟩),
 (73,⟨.slice 3,1,24,[.aX],some (.slice (.int .i64)),false⟩),
 (75,⟨.struct [(0,66),(1,69),(2,4),(3,70),(4,69),(5,71),(6,72),(7,52),(8,51),(9,73),(10,3),(11,3),(12,3)],13,248,[.aX,.aX,.val .bool false,.aX,.aX,.aX,.aX,.aX,.aX,.aX,.val (.int .i64) 0,.val (.int .i64) 0,.val (.int .i64) 0],some jF,false⟩),
 (99,⟨.ptr 101,1,8,[.iQ],none,false⟩),
 (101,⟨.struct [(0,99),(1,32)],2,32,[.iQ,.aX],none,false⟩),
 (102,⟨.struct [(0,9),(1,4)],2,24,[.val .str [],.val .bool false],some aO,true⟩),
 (104,⟨.iface false,1,16,[.val .err false],some .err,false⟩),
 (111,⟨.struct [(0,9),(1,4),(2,4)],3,24,[.val .str [],.val .bool false,.val .bool false],some bE,true⟩),
 (112,⟨.slice 50,1,24,[.aX],some (.slice aO),false⟩),
 (131,⟨.slice 184,1,24,[.aX],some (.slice yU),false⟩),
 (134,⟨.struct [(0,4),(1,3)],2,16,[.val .bool false,.val (.int .i64) 0],some zLr,true⟩),
 (146,⟨.func,1,8,[.val .opq Value.nilFunc],some .opq,false⟩),
 (150,⟨.ptr 75,1,8,[.iQ],none,false⟩),
 (169,⟨.struct [(0,9),(1,4)],2,24,[.val .str [],.val .bool false],some aO,true⟩),
 (179,⟨.struct [(0,131),(1,4)],2,32,[.aX,.val .bool false],some bU,false⟩),
 (180,⟨.int .u64,1,8,[.val (.int .u64) 0],some (.int .u64),false⟩),
 (182,⟨.arr 4 180,4,32,[.val (.arr 4 (.int .u64)) ([0,0,0,0])],some (.arr 4 (.int .u64)),true⟩),
 (184,⟨.struct [(0,3),(1,182),(5,3),(6,3),(7,3),(8,3),(9,3)],10,80,[.val (.int .i64) 0,.val (.arr 4 (.int .u64)) ([0,0,0,0]),.val (.int .i64) 0,.val (.int .i64) 0,.val (.int .i64) 0,.val (.int .i64) 0,.val (.int .i64) 0],some yU,true⟩),
 (248,⟨.func,1,8,[.val .opq Value.nilFunc],some .opq,false⟩),
 (300,⟨.struct [(0,9),(1,3)],2,24,[.val .str [],.val (.int .i64) 0],some zLq,true⟩)]
theorem bR:aU Tryz.prog tab:=Zo (by kernel_rfl)
theorem mixed:Tryz.prog.follows .mixedOrders=true:=by kernel_rfl
abbrev zA:Sh:=⟨2,[⟨0,true,[.v .bool,.v (.slice bU),.v (.slice aQ),.v .bool,.v (.slice .str),.v .bool]⟩,⟨1,false,[.ptr 0 0]⟩],[.box 68 [.v .bool,.v (.slice bU),.v (.slice aQ),.v .bool,.v (.slice .str),.v .bool]]⟩
abbrev qX:Sh:=⟨1,[⟨0,false,[.v .bool]⟩],[.box 68 [.v .bool,.v (.slice bU),.v (.slice aQ),.v .bool,.v (.slice .str),.v .bool]]⟩
abbrev gN:Sh:=⟨2,[⟨0,false,[.v (.slice aK)]⟩,⟨1,false,[.clo 84 [(0,0)]]⟩],[.box 68 [.v .bool,.v (.slice bU),.v (.slice aQ),.v .bool,.v (.slice .str),.v .bool]]⟩
abbrev dP:Sh:=⟨1,[⟨0,false,[.v (.int .i64)]⟩],[.box 68 [.v .bool,.v (.slice bU),.v (.slice aQ),.v .bool,.v (.slice .str),.v .bool]]⟩
abbrev fM:Sh:=⟨2,[⟨0,false,[.v (.slice aK)]⟩,⟨1,false,[.clo 84 [(0,0)]]⟩],[.box 68 [.v .bool,.v (.slice bU),.v (.slice aQ),.v .bool,.v (.slice .str),.v .bool]]⟩
abbrev dB:Sh:=⟨1,[⟨0,false,[.v .bool]⟩],[.box 68 [.v .bool,.v (.slice bU),.v (.slice aQ),.v .bool,.v (.slice .str),.v .bool]]⟩
abbrev Df:List Ty:=[.slice aK]
abbrev uF:List Ty:=[.slice .bool]
abbrev Xz:List Ty:=[Ap]
abbrev Ko:List Ty:=[aB]
abbrev Ya:List Ty:=[.slice aK,.str,.slice dY,.bool]
abbrev Kq:List Ty:=[jF,.int .i64]
abbrev vN:Sh:=⟨2,[⟨0,false,[.ptr 0 0]⟩,⟨1,false,[.v (.int .i64)]⟩],[.box 75 [.v (.slice aK),.v (.slice .bool),.v .bool,.v (.slice aB),.v (.slice .bool),.v (.slice (.slice aO)),.v (.slice bE),.v (.slice aO),.v (.slice dY),.v (.slice (.int .i64)),.v (.int .i64),.v (.int .i64),.v (.int .i64)]]⟩
abbrev nT:Sh:=⟨1,[⟨0,false,[.v .bool]⟩],[.box 75 [.v (.slice aK),.v (.slice .bool),.v .bool,.v (.slice aB),.v (.slice .bool),.v (.slice (.slice aO)),.v (.slice bE),.v (.slice aO),.v (.slice dY),.v (.slice (.int .i64)),.v (.int .i64),.v (.int .i64),.v (.int .i64)]]⟩
abbrev rH:List Ty:=[aB]
abbrev kZ:List Ty:=[.bool]
abbrev fJ:Sh:=⟨2,[⟨0,false,[.v (.slice aB)]⟩,⟨1,false,[.clo 188 []]⟩],[]⟩
abbrev cO:Sh:=⟨1,[⟨0,false,[.v (.int .i64)]⟩],[]⟩
abbrev eG:Sh:=⟨2,[⟨0,false,[.v (.slice aB)]⟩,⟨1,false,[.clo 188 []]⟩],[]⟩
abbrev bY:Sh:=⟨1,[⟨0,false,[.v .bool]⟩],[]⟩
abbrev sN:Sh:=⟨2,[⟨0,false,[.ptr 0 0]⟩,⟨1,false,[.v (.int .i64)]⟩],[.box 75 [.v (.slice aK),.v (.slice .bool),.v .bool,.v (.slice aB),.v (.slice .bool),.v (.slice (.slice aO)),.v (.slice bE),.v (.slice aO),.v (.slice dY),.v (.slice (.int .i64)),.v (.int .i64),.v (.int .i64),.v (.int .i64)]]⟩
abbrev mP:Sh:=⟨1,[⟨0,false,[.v .bool]⟩],[.box 75 [.v (.slice aK),.v (.slice .bool),.v .bool,.v (.slice aB),.v (.slice .bool),.v (.slice (.slice aO)),.v (.slice bE),.v (.slice aO),.v (.slice dY),.v (.slice (.int .i64)),.v (.int .i64),.v (.int .i64),.v (.int .i64)]]⟩
abbrev Ud:List Ty:=[bE]
abbrev Gm:List Ty:=[bE,aO,.bool,.bool]
abbrev Nl:List Ty:=[bE]
abbrev Ar:List Ty:=[aO,.bool,.bool]
abbrev Nn:List Ty:=[bE]
abbrev Au:List Ty:=[.bool]
abbrev wI:Sh:=⟨2,[⟨0,false,[.ptr 0 0]⟩,⟨1,false,[.v (.int .i64)]⟩],[.box 75 [.v (.slice aK),.v (.slice .bool),.v .bool,.v (.slice aB),.v (.slice .bool),.v (.slice (.slice aO)),.v (.slice bE),.v (.slice aO),.v (.slice dY),.v (.slice (.int .i64)),.v (.int .i64),.v (.int .i64),.v (.int .i64)]]⟩
abbrev oW:Sh:=⟨1,[⟨0,false,[.v .bool]⟩],[.box 75 [.v (.slice aK),.v (.slice .bool),.v .bool,.v (.slice aB),.v (.slice .bool),.v (.slice (.slice aO)),.v (.slice bE),.v (.slice aO),.v (.slice dY),.v (.slice (.int .i64)),.v (.int .i64),.v (.int .i64),.v (.int .i64)]]⟩
abbrev Gn:List Ty:=[jF]
abbrev xO:List Ty:=[.int .i64]
abbrev pV:Sh:=yK aB
abbrev pW:Sh:=rV 46 aB
abbrev vO:Sh:=yK .bool
abbrev vP:Sh:=rV 4 .bool
abbrev nU:Sh:=yK (.slice aO)
abbrev nV:Sh:=rV 112 (.slice aO)
abbrev pX:Sh:=yK bE
abbrev pY:Sh:=rV 111 bE
abbrev wJ:Sh:=yK (.int .i64)
abbrev wK:Sh:=rV 3 (.int .i64)
abbrev wL:List Ty:=[.slice aO]
abbrev oZ:List Ty:=[.clip aO]
abbrev wM:Sh:=⟨1,[⟨0,true,[.v (.slice aK),.v (.slice .bool),.v .bool,.v (.slice aB),.v (.slice .bool),.v (.slice (.slice aO)),.v (.slice bE),.v (.slice aO),.v (.slice dY),.v (.slice (.int .i64)),.v (.int .i64),.v (.int .i64),.v (.int .i64)]⟩],[]⟩
abbrev pE:Sh:=⟨1,[⟨0,false,[.ptr 0 0]⟩],[.box 75 [.v (.slice aK),.v (.slice .bool),.v .bool,.own 1,.own 2,.own 3,.own 4,.v (.clip aO),.v (.slice dY),.own 5,.v (.int .i64),.v (.int .i64),.v (.int .i64)],.row 46 aB,.row 4 .bool,.row 112 (.slice aO),.row 111 bE,.row 3 (.int .i64)]⟩
abbrev Np:List Ty:=[bE]
abbrev Av:List Ty:=[bE]
abbrev vQ:Sh:=⟨2,[⟨0,false,[.ptr 0 0]⟩,⟨1,false,[.v (.int .i64)]⟩],[.box 75 [.v (.slice aK),.v (.slice .bool),.v .bool,.own 1,.own 2,.own 3,.own 4,.v (.clip aO),.v (.slice dY),.own 5,.v (.int .i64),.v (.int .i64),.v (.int .i64)],.row 46 aB,.row 4 .bool,.row 112 (.slice aO),.row 111 bE,.row 3 (.int .i64)]⟩
abbrev nW:Sh:=⟨0,[],[.box 75 [.v (.slice aK),.v (.slice .bool),.v .bool,.own 1,.own 2,.own 3,.own 4,.v (.clip aO),.v (.slice dY),.own 5,.v (.int .i64),.v (.int .i64),.v (.int .i64)],.row 46 aB,.row 4 .bool,.row 112 (.slice aO),.row 111 bE,.row 3 (.int .i64)]⟩
abbrev Nq:List Ty:=[.slice aK,.int .i64]
abbrev Aw:List Ty:=[.int .i64]
abbrev rJ:Sh:=⟨2,[⟨0,false,[.ptr 0 0]⟩,⟨1,false,[.v (.int .i64)]⟩],[.box 75 [.v (.slice aK),.v (.slice .bool),.v .bool,.own 1,.own 2,.own 3,.own 4,.v (.clip aO),.v (.slice dY),.own 5,.v (.int .i64),.v (.int .i64),.v (.int .i64)],.row 46 aB,.row 4 .bool,.row 112 (.slice aO),.row 111 bE,.row 3 (.int .i64)]⟩
abbrev lC:Sh:=⟨1,[⟨0,false,[.v .bool]⟩],[.box 75 [.v (.slice aK),.v (.slice .bool),.v .bool,.own 1,.own 2,.own 3,.own 4,.v (.clip aO),.v (.slice dY),.own 5,.v (.int .i64),.v (.int .i64),.v (.int .i64)],.row 46 aB,.row 4 .bool,.row 112 (.slice aO),.row 111 bE,.row 3 (.int .i64)]⟩
abbrev wN:Sh:=⟨3,[⟨0,false,[.ptr 0 0]⟩,⟨1,false,[.v (.int .i64)]⟩,⟨2,false,[.v (.int .i64)]⟩],[.box 75 [.v (.slice aK),.v (.slice .bool),.v .bool,.own 1,.own 2,.own 3,.own 4,.v (.clip aO),.v (.slice dY),.own 5,.v (.int .i64),.v (.int .i64),.v (.int .i64)],.row 46 aB,.row 4 .bool,.row 112 (.slice aO),.row 111 bE,.row 3 (.int .i64)]⟩
abbrev pF:Sh:=⟨0,[],[.box 75 [.v (.slice aK),.v (.slice .bool),.v .bool,.own 1,.own 2,.own 3,.own 4,.v (.clip aO),.v (.slice dY),.own 5,.v (.int .i64),.v (.int .i64),.v (.int .i64)],.row 46 aB,.row 4 .bool,.row 112 (.slice aO),.row 111 bE,.row 3 (.int .i64)]⟩
abbrev sO:Sh:=⟨2,[⟨0,false,[.ptr 0 0]⟩,⟨1,false,[.v (.int .i64)]⟩],[.box 75 [.v (.slice aK),.v (.slice .bool),.v .bool,.own 1,.own 2,.own 3,.own 4,.v (.clip aO),.v (.slice dY),.own 5,.v (.int .i64),.v (.int .i64),.v (.int .i64)],.row 46 aB,.row 4 .bool,.row 112 (.slice aO),.row 111 bE,.row 3 (.int .i64)]⟩
abbrev mQ:Sh:=⟨0,[],[.box 75 [.v (.slice aK),.v (.slice .bool),.v .bool,.own 1,.own 2,.own 3,.own 4,.v (.clip aO),.v (.slice dY),.own 5,.v (.int .i64),.v (.int .i64),.v (.int .i64)],.row 46 aB,.row 4 .bool,.row 112 (.slice aO),.row 111 bE,.row 3 (.int .i64)]⟩
abbrev Ue:List Ty:=[jF]
abbrev Gp:List Ty:=[jF]
abbrev Yb:List Ty:=[jF,.int .i64]
abbrev Kr:List Ty:=[jF,.int .i64]
abbrev lD:Sh:=⟨2,[⟨0,false,[.ptr 0 0]⟩,⟨1,false,[.v .str]⟩],[.box 101 [.bJ 0 0,.own 1],.row 5 (.int .u8)]⟩
abbrev iB:Sh:=⟨2,[⟨0,false,[.v (.int .i64)]⟩,⟨1,false,[.v .err]⟩],[.box 101 [.bJ 0 0,.own 1],.row 5 (.int .u8)]⟩
abbrev Nr:List Ty:=[.slice aO]
abbrev Ay:List Ty:=[.str]
abbrev Uf:List Ty:=[.str,.int .u8,.bool]
abbrev Ad:List Ty:=[.bool]
def Mq (n:Nat):An (qX.X):=.nil
theorem Dh (n:Nat):gB Tryz.prog 84 zA qX (sI n) :=
 gM (Γ:=fP _ [(85,iU sH yT (uU n))] []) (an:=Mq n) (co:=[.gc [0]]) Tryz.func84 rfl (by kernel_rfl) bR (bP (all_cons (dL (Qb n)) (all_nil)) (bQ)) mixed (bG _ _ rfl) (by kernel_rfl) (by kernel_rfl) (fun x=>by kernel_rfl)
def lF (n:Nat):An (dP.X):=(.mk .nil (.mk (.mk .nil (.mk (.loop ⟨19,[⟨0,false,[.v (.slice aK)]⟩,⟨1,false,[.clo 84 [(0,0)]]⟩,⟨7,false,[.v (.int .i64)]⟩,⟨8,false,[.v (.int .i64)]⟩],[.box 68 [.v .bool,.v (.slice bU),.v (.slice aQ),.v .bool,.v (.slice .str),.v .bool]]⟩ [.keep [true,true,false,false,false,false,false,true,true],.gcA 1,.gcA 1] [.keep [true,true,false,false,false,false,false,true,true],.gcA 1,.gcA 1] n .nil) .nil []) []) .nil []) [])
theorem kG (n:Nat):gB Tryz.prog 127 gN dP (dS n) :=
 gM (Γ:=fP _ [(84,peM zA qX (sI n))] []) (an:=lF n) (co:=[.gc [0]]) Tryz.func127 rfl (by kernel_rfl) bR (bP (all_cons (fG (Dh n)) (all_nil)) (bQ)) mixed (bG _ _ rfl) (by kernel_rfl) (by kernel_rfl) (fun x=>by kernel_rfl)
def kL (n:Nat):An (dB.X):=.nil
theorem jQ (n:Nat):gB Tryz.prog 83 fM dB (dH n) :=
 gM (Γ:=fP _ [(127,peM gN dP (dS n))] []) (an:=kL n) (co:=[.gc [0]]) Tryz.func83 rfl (by kernel_rfl) bR (bP (all_cons (fG (kG n)) (all_nil)) (bQ)) mixed (bG _ _ rfl) (by kernel_rfl) (by kernel_rfl) (fun x=>by kernel_rfl)
def Ug (n:Nat):An (bI uF):=(.mk .nil (.mk .nil (.mk (.mk .nil (.mk (.loop ⟨26,[⟨0,false,[.v (.slice aK)]⟩,⟨3,false,[.own 0]⟩,⟨9,false,[.v (.slice aK)]⟩,⟨10,false,[.v (.int .i64)]⟩,⟨11,false,[.v (.int .i64)]⟩],[.row 4 .bool]⟩ [.keep [true,false,false,true,false,false,false,false,false,true,true,true],.gcA 0,.gcA 0] [.keep [true,false,false,true,false,false,false,false,false,true,true,true],.gcA 0,.gcA 0] n .nil) .nil []) []) .nil []) []) [])
theorem Ku (n:Nat):Pure Tryz.prog 43 Df uF (wB n) :=
 gX (Γ:=fP _ [(83,peM fM dB (dH n))] []) (an:=Ug n) Tryz.func43 rfl (by kernel_rfl) bR (bP (all_cons (fG (jQ n)) (all_nil)) (bQ)) mixed (bG _ _ rfl) (fun x=>by kernel_rfl)
def zMb (n:Nat):An (bI Ko):=.nil
theorem Yl (n:Nat):Pure Tryz.prog 18 Xz Ko (Qc n) :=
 gX (Γ:=fP _ [] []) (an:=zMb n) Tryz.func18 rfl (by kernel_rfl) bR (bP (all_nil) (bQ)) mixed (bG _ _ rfl) (fun x=>by kernel_rfl)
def zMc (n:Nat):An (bI Kq):=(.mk .nil (.mk .nil (.mk .nil (.mk (.mk .nil (.mk (.loop ⟨80,[⟨0,false,[.v (.slice aK)]⟩,⟨1,false,[.v .str]⟩,⟨8,false,[.ptr 0 0]⟩,⟨10,false,[.ptr 1 0]⟩,⟨37,false,[.v (.slice aK)]⟩,⟨38,false,[.v (.int .i64)]⟩,⟨39,false,[.v (.int .i64)]⟩],[.box 75 [.v (.slice aK),.v (.slice .bool),.v .bool,.own 2,.v (.slice .bool),.v (.slice (.slice aO)),.v (.slice bE),.own 3,.v (.slice dY),.v (.slice (.int .i64)),.v (.int .i64),.v (.int .i64),.v (.int .i64)],.box 75 [.v (.slice aK),.v (.slice .bool),.v .bool,.own 4,.v (.slice .bool),.v (.slice (.slice aO)),.own 5,.own 6,.v (.slice dY),.v (.slice (.int .i64)),.v (.int .i64),.v (.int .i64),.v (.int .i64)],.row 46 aB,.row 102 aO,.row 46 aB,.row 111 bE,.row 102 aO]⟩ [.keep [true,true,false,false,false,false,false,false,true,false,true,false,false,false,false,false,false,false,false,false,false,false,false,false,false,false,false,false,false,false,false,false,false,false,false,false,false,true,true,true],.gcA 0,.ownB 0 3 70,.ownB 0 7 52,.ownB 1 3 70,.ownB 1 7 52,.gcA 0] [.keep [true,true,false,false,false,false,false,false,true,false,true,false,false,false,false,false,false,false,false,false,false,false,false,false,false,false,false,false,false,false,false,false,false,false,false,false,false,true,true,true],.gcA 0,.gcA 0] n .nil) .nil []) []) (.mk .nil (.mk (.mk .nil (.mk (.loop ⟨80,[⟨8,false,[.ptr 0 0]⟩,⟨10,false,[.ptr 1 0]⟩,⟨62,false,[.v (.slice aO)]⟩,⟨63,false,[.v (.int .i64)]⟩,⟨64,false,[.v (.int .i64)]⟩],[.box 75 [.v (.slice aK),.v (.slice .bool),.v .bool,.own 2,.v (.slice .bool),.v (.slice (.slice aO)),.v (.slice bE),.own 3,.v (.slice dY),.v (.slice (.int .i64)),.v (.int .i64),.v (.int .i64),.v (.int .i64)],.box 75 [.v (.slice aK),.v (.slice .bool),.v .bool,.own 4,.v (.slice .bool),.v (.slice (.slice aO)),.own 5,.own 6,.v (.slice dY),.v (.slice (.int .i64)),.v (.int .i64),.v (.int .i64),.v (.int .i64)],.row 46 aB,.row 102 aO,.row 46 aB,.row 111 bE,.row 102 aO]⟩ [.keep [false,false,false,false,false,false,false,false,true,false,true,false,false,false,false,false,false,false,false,false,false,false,false,false,false,false,false,false,false,false,false,false,false,false,false,false,false,false,false,false,false,false,false,false,false,false,false,false,false,false,false,false,false,false,false,false,false,false,false,false,false,false,true,true,true],.gcA 0,.gcA 0] [.keep [false,false,false,false,false,false,false,false,true,false,true,false,false,false,false,false,false,false,false,false,false,false,false,false,false,false,false,false,false,false,false,false,false,false,false,false,false,false,false,false,false,false,false,false,false,false,false,false,false,false,false,false,false,false,false,false,false,false,false,false,false,false,true,true,true],.gcA 0,.gcA 0] n .nil) .nil []) []) .nil []) []) []) []) []) [])
theorem Ym (n:Nat):Pure Tryz.prog 22 Ya Kq (yV n) :=
 gX (Γ:=fP _ [(43,iU Df uF (wB n)),(18,iU Xz Ko (Qc n)),(44,iU Jw Jy (mO n))] []) (an:=zMc n) Tryz.func22 rfl (by kernel_rfl) bR (bP (all_cons (dL (Ku n)) (all_cons (dL (Yl n)) (all_cons (dL (Pz n)) (all_nil)))) (bQ)) mixed (bG _ _ rfl) (fun x=>by kernel_rfl)
def Hr (n:Nat):An (nT.X):=.nil
theorem zD (n:Nat):gB Tryz.prog 123 vN nT (oU n) :=
 gM (Γ:=fP _ [] []) (an:=Hr n) (co:=[.gc [0]]) Tryz.func123 rfl (by kernel_rfl) bR (bP (all_nil) (bQ)) mixed (bG _ _ rfl) (by kernel_rfl) (by kernel_rfl) (fun x=>by kernel_rfl)
def Az (n:Nat):An (bI kZ):=.nil
theorem xP (n:Nat):Pure Tryz.prog 188 rH kZ (lY n) :=
 gX (Γ:=fP _ [] []) (an:=Az n) Tryz.func188 rfl (by kernel_rfl) bR (bP (all_nil) (bQ)) mixed (bG _ _ rfl) (fun x=>by kernel_rfl)
def kH (n:Nat):An (cO.X):=(.mk .nil (.mk (.mk .nil (.mk (.loop ⟨19,[⟨0,false,[.v (.slice aB)]⟩,⟨1,false,[.clo 188 []]⟩,⟨7,false,[.v (.int .i64)]⟩,⟨8,false,[.v (.int .i64)]⟩],[]⟩ [.keep [true,true,false,false,false,false,false,true,true],.gcA 0,.gcA 0] [.keep [true,true,false,false,false,false,false,true,true],.gcA 0,.gcA 0] n .nil) .nil []) []) .nil []) [])
theorem jJ (n:Nat):gB Tryz.prog 240 fJ cO (dA n) :=
 gM (Γ:=fP _ [(188,iU rH kZ (lY n))] []) (an:=kH n) (co:=[.gc []]) Tryz.func240 rfl (by kernel_rfl) bR (bP (all_cons (dL (xP n)) (all_nil)) (bQ)) mixed (bG _ _ rfl) (by kernel_rfl) (by kernel_rfl) (fun x=>by kernel_rfl)
def jR (n:Nat):An (bY.X):=.nil
theorem iV (n:Nat):gB Tryz.prog 187 eG bY (cK n) :=
 gM (Γ:=fP _ [(240,peM fJ cO (dA n))] []) (an:=jR n) (co:=[.gc []]) Tryz.func187 rfl (by kernel_rfl) bR (bP (all_cons (fG (jJ n)) (all_nil)) (bQ)) mixed (bG _ _ rfl) (by kernel_rfl) (by kernel_rfl) (fun x=>by kernel_rfl)
def Gq (n:Nat):An (mP.X):=.nil
theorem zB (n:Nat):gB Tryz.prog 124 sN mP (nR n) :=
 gM (Γ:=fP _ [(187,peM eG bY (cK n))] []) (an:=Gq n) (co:=[.gc [0]]) Tryz.func124 rfl (by kernel_rfl) bR (bP (all_cons (fG (iV n)) (all_nil)) (bQ)) mixed (bG _ _ rfl) (by kernel_rfl) (by kernel_rfl) (fun x=>by kernel_rfl)
def zFw (n:Nat):An (bI Gm):=(.mk .nil (.scope 0 .nil .nil) [])
theorem Wj (n:Nat):Pure Tryz.prog 141 Ud Gm (Kg n) :=
 gX (Γ:=fP _ [(29,iU Ju Jv (strings_Cut n))] []) (an:=zFw n) Tryz.func141 rfl (by kernel_rfl) bR (bP (all_cons (dL (Px n)) (all_nil)) (bQ)) mixed (bG _ _ rfl) (fun x=>by kernel_rfl)
def zDt (n:Nat):An (bI Ar):=.nil
theorem Uh (n:Nat):Pure Tryz.prog 125 Nl Ar (Gg n) :=
 gX (Γ:=fP _ [(141,iU Ud Gm (Kg n))] []) (an:=zDt n) Tryz.func125 rfl (by kernel_rfl) bR (bP (all_cons (dL (Wj n)) (all_nil)) (bQ)) mixed (bG _ _ rfl) (fun x=>by kernel_rfl)
def zDu (n:Nat):An (bI Au):=.nil
theorem Ui (n:Nat):Pure Tryz.prog 126 Nn Au (Gh n) :=
 gX (Γ:=fP _ [] []) (an:=zDu n) Tryz.func126 rfl (by kernel_rfl) bR (bP (all_nil) (bQ)) mixed (bG _ _ rfl) (fun x=>by kernel_rfl)
def Kv (n:Nat):An (oW.X):=.nil
theorem Ba (n:Nat):gB Tryz.prog 82 wI oW (qR n) :=
 gM (Γ:=fP _ [(123,peM vN nT (oU n)),(124,peM sN mP (nR n)),(125,iU Nl Ar (Gg n)),(126,iU Nn Au (Gh n))] []) (an:=Kv n) (co:=[.gc [0]]) Tryz.func82 rfl (by kernel_rfl) bR (bP (all_cons (fG (zD n)) (all_cons (fG (zB n)) (all_cons (dL (Uh n)) (all_cons (dL (Ui n)) (all_nil))))) (bQ)) mixed (bG _ _ rfl) (by kernel_rfl) (by kernel_rfl) (fun x=>by kernel_rfl)
def zFx (n:Nat):An (bI xO):=(.mk .nil (.mk (.mk .nil (.mk (.loop ⟨15,[⟨1,false,[.ptr 0 0]⟩,⟨3,false,[.v (.int .i64)]⟩],[.box 75 [.v (.slice aK),.v (.slice .bool),.v .bool,.v (.slice aB),.v (.slice .bool),.v (.slice (.slice aO)),.v (.slice bE),.v (.slice aO),.v (.slice dY),.v (.slice (.int .i64)),.v (.int .i64),.v (.int .i64),.v (.int .i64)]]⟩ [.keep [false,true,false,true],.gcA 0,.gcA 0] [.keep [false,true,false,true],.gcA 0,.gcA 0] n .nil) .nil []) []) .nil []) [])
theorem Di (n:Nat):Pure Tryz.prog 42 Gn xO (vL n) :=
 gX (Γ:=fP _ [(82,peM wI oW (qR n))] []) (an:=zFx n) Tryz.func42 rfl (by kernel_rfl) bR (bP (all_cons (fG (Ba n)) (all_nil)) (bQ)) mixed (bG _ _ rfl) (fun x=>by kernel_rfl)
theorem vR (n:Nat):gB Tryz.prog 132 pV pW (kX n) :=
 pK (T:=tab) Tryz.func132 rfl rfl rfl Tryz.underlying70 (by kernel_rfl) bR rfl rfl rfl rfl (by decide) (by decide) (fun _=>rfl)
theorem zF (n:Nat):gB Tryz.prog 133 vO vP (oV n) :=
 pK (T:=tab) Tryz.func133 rfl rfl rfl Tryz.underlying69 (by kernel_rfl) bR rfl rfl rfl rfl (by decide) (by decide) (fun _=>rfl)
theorem sK (n:Nat):gB Tryz.prog 134 nU nV (jX n) :=
 pK (T:=tab) Tryz.func134 rfl rfl rfl Tryz.underlying71 (by kernel_rfl) bR rfl rfl rfl rfl (by decide) (by decide) (fun _=>rfl)
theorem vS (n:Nat):gB Tryz.prog 135 pX pY (kY n) :=
 pK (T:=tab) Tryz.func135 rfl rfl rfl Tryz.underlying72 (by kernel_rfl) bR rfl rfl rfl rfl (by decide) (by decide) (fun _=>rfl)
theorem Bc (n:Nat):gB Tryz.prog 136 wJ wK (slices_Clone_int n) :=
 pK (T:=tab) Tryz.func136 rfl rfl rfl Tryz.underlying73 (by kernel_rfl) bR rfl rfl rfl rfl (by decide) (by decide) (fun _=>rfl)
def Kw (n:Nat):An (bI oZ):=.nil
theorem Dj (n:Nat):Pure Tryz.prog 137 wL oZ (qU n) :=
 gX (Γ:=fP _ [] []) (an:=Kw n) Tryz.func137 rfl (by kernel_rfl) bR (bP (all_nil) (bQ)) mixed (bG _ _ rfl) (fun x=>by kernel_rfl)
def Ky (n:Nat):An (pE.X):=.nil
theorem Bf (n:Nat):gB Tryz.prog 87 wM pE (qV n) :=
 gM (Γ:=fP _ [(132,peM pV pW (kX n)),(133,peM vO vP (oV n)),(134,peM nU nV (jX n)),(135,peM pX pY (kY n)),(136,peM wJ wK (slices_Clone_int n)),(137,iU wL oZ (qU n))] []) (an:=Ky n) (co:=[.gc [0,1,2,3,4,5]]) Tryz.func87 rfl (by kernel_rfl) bR (bP (all_cons (fG (vR n)) (all_cons (fG (zF n)) (all_cons (fG (sK n)) (all_cons (fG (vS n)) (all_cons (fG (Bc n)) (all_cons (dL (Dj n)) (all_nil))))))) (bQ)) mixed (bG _ _ rfl) (by kernel_rfl) (by kernel_rfl) (fun x=>by kernel_rfl)
def zDv (n:Nat):An (bI Av):=.nil
theorem Uj (n:Nat):Pure Tryz.prog 197 Np Av (Gi n) :=
 gX (Γ:=fP _ [] []) (an:=zDv n) Tryz.func197 rfl (by kernel_rfl) bR (bP (all_nil) (bQ)) mixed (bG _ _ rfl) (fun x=>by kernel_rfl)
def Ht (n:Nat):An (nW.X):=.nil
theorem zG (n:Nat):gB Tryz.prog 142 vQ nW (kQ n) :=
 gM (Γ:=fP _ [(197,iU Np Av (Gi n))] []) (an:=Ht n) (co:=[.gc [0,1,2,3,4,5]]) Tryz.func142 rfl (by kernel_rfl) bR (bP (all_cons (dL (Uj n)) (all_nil)) (bQ)) mixed (bG _ _ rfl) (by kernel_rfl) (by kernel_rfl) (fun x=>by kernel_rfl)
def zDw (n:Nat):An (bI Aw):=(.mk .nil (.mk .nil (.mk (.mk .nil (.mk (.loop ⟨34,[⟨0,false,[.v (.slice aK)]⟩,⟨5,false,[.v (.int .i64)]⟩],[]⟩ [.keep [true,false,false,false,false,true],.gcA 0,.gcA 0] [.keep [true,false,false,false,false,true],.gcA 0,.gcA 0] n .nil) .nil []) []) .nil []) []) [])
theorem Uk (n:Nat):Pure Tryz.prog 143 Nq Aw (Gj n) :=
 gX (Γ:=fP _ [(128,iU qG vZ (sG n))] []) (an:=zDw n) Tryz.func143 rfl (by kernel_rfl) bR (bP (all_cons (dL (Ml n)) (all_nil)) (bQ)) mixed (bG _ _ rfl) (fun x=>by kernel_rfl)
def Bg (n:Nat):An (lC.X):=.nil
theorem wC (n:Nat):gB Tryz.prog 123 rJ lC (mD n) :=
 gM (Γ:=fP _ [] []) (an:=Bg n) (co:=[.gc [0,1,2,3,4,5]]) Tryz.func123 rfl (by kernel_rfl) bR (bP (all_nil) (bQ)) mixed (bG _ _ rfl) (by kernel_rfl) (by kernel_rfl) (fun x=>by kernel_rfl)
def Kz (n:Nat):An (pF.X):=(.mk .nil (.mk (.join ⟨49,[⟨0,false,[.ptr 0 0]⟩,⟨1,false,[.v (.int .i64)]⟩],[.box 75 [.v (.slice aK),.v (.slice .bool),.v .bool,.own 1,.own 2,.own 3,.own 4,.v (.clip aO),.v (.slice dY),.own 5,.v (.int .i64),.v (.int .i64),.v (.int .i64)],.row 46 aB,.row 4 .bool,.row 112 (.slice aO),.row 111 bE,.row 3 (.int .i64)]⟩ [.keep [true,true],.gcA 6] .nil) (.mk .nil (.mk .nil (.mk (.loop ⟨49,[⟨0,false,[.ptr 0 0]⟩,⟨1,false,[.v (.int .i64)]⟩,⟨6,false,[.v (.int .i64)]⟩],[.box 75 [.v (.slice aK),.v (.slice .bool),.v .bool,.own 1,.own 2,.own 3,.own 4,.v (.clip aO),.v (.slice dY),.own 5,.v (.int .i64),.v (.int .i64),.v (.int .i64)],.row 46 aB,.row 4 .bool,.row 112 (.slice aO),.row 111 bE,.row 3 (.int .i64)]⟩ [.keep [true,true,false,false,false,false,true],.gcA 6,.gcA 6] [.keep [true,true,false,false,false,false,true],.gcA 6,.gcA 6] n .nil) .nil []) []) []) []) [])
theorem Bh (n:Nat):gB Tryz.prog 91 wN pF (qW n) :=
 gM (Γ:=fP _ [(142,peM vQ nW (kQ n)),(143,iU Nq Aw (Gj n)),(123,peM rJ lC (mD n))] []) (an:=Kz n) (co:=[.gc [0,1,2,3,4,5]]) Tryz.func91 rfl (by kernel_rfl) bR (bP (all_cons (fG (zG n)) (all_cons (dL (Uk n)) (all_cons (fG (wC n)) (all_nil)))) (bQ)) mixed (bG _ _ rfl) (by kernel_rfl) (by kernel_rfl) (fun x=>by kernel_rfl)
def Gr (n:Nat):An (mQ.X):=.nil
theorem zC (n:Nat):gB Tryz.prog 88 sO mQ (nS n) :=
 gM (Γ:=fP _ [(91,peM wN pF (qW n)),(138,iU wG wH (qQ n)),(139,iU wE wF (qP n))] []) (an:=Gr n) (co:=[.gc [0,1,2,3,4,5]]) Tryz.func88 rfl (by kernel_rfl) bR (bP (all_cons (fG (Bh n)) (all_cons (dL (Cu n)) (all_cons (dL (Ct n)) (all_nil)))) (bQ)) mixed (bG _ _ rfl) (by kernel_rfl) (by kernel_rfl) (fun x=>by kernel_rfl)
def zFy (n:Nat):An (bI Gp):=(.mk .nil (.scope 0 .nil .nil) [])
theorem Wm (n:Nat):Pure Tryz.prog 45 Ue Gp (Kn n) :=
 gX (Γ:=fP _ [(42,iU Gn xO (vL n)),(87,peM wM pE (qV n)),(88,peM sO mQ (nS n))] []) (an:=zFy n) Tryz.func45 rfl (by kernel_rfl) bR (bP (all_cons (dL (Di n)) (all_cons (fG (Bf n)) (all_cons (fG (zC n)) (all_nil)))) (bQ)) mixed (bG _ _ rfl) (fun x=>by kernel_rfl)
def zMd (n:Nat):An (bI Kr):=(.mk .nil (.mk (.mk .nil (.mk (.loop ⟨19,[⟨1,false,[.v (.int .i64)]⟩,⟨2,false,[.ptr 0 0]⟩,⟨4,false,[.ptr 1 0]⟩,⟨6,false,[.v (.int .i64)]⟩],[.box 75 [.v (.slice aK),.v (.slice .bool),.v .bool,.v (.slice aB),.v (.slice .bool),.v (.slice (.slice aO)),.v (.slice bE),.v (.slice aO),.v (.slice dY),.v (.slice (.int .i64)),.v (.int .i64),.v (.int .i64),.v (.int .i64)],.box 75 [.v (.slice aK),.v (.slice .bool),.v .bool,.own 2,.v (.slice .bool),.v (.slice (.slice aO)),.v (.slice bE),.own 3,.v (.slice dY),.v (.slice (.int .i64)),.v (.int .i64),.v (.int .i64),.v (.int .i64)],.row 46 aB,.row 102 aO]⟩ [.keep [false,true,true,false,true,false,true],.gcA 0,.ownB 1 3 70,.ownB 1 7 52,.gcA 0] [.keep [false,true,true,false,true,false,true],.gcA 0,.gcA 0] n .nil) .nil []) []) .nil []) [])
theorem Yn (n:Nat):Pure Tryz.prog 23 Yb Kr (Gl n) :=
 gX (Γ:=fP _ [(42,iU Gn xO (vL n)),(45,iU Ue Gp (Kn n))] []) (an:=zMd n) Tryz.func23 rfl (by kernel_rfl) bR (bP (all_cons (dL (Di n)) (all_cons (dL (Wm n)) (all_nil))) (bQ)) mixed (bG _ _ rfl) (fun x=>by kernel_rfl)
def sM (n:Nat):An (iB.X):=.nil
theorem qA (n:Nat):gB Tryz.prog 40 lD iB (bW n) :=
 gM (Γ:=fP _ [(81,peM uD uE (qF n))] []) (an:=sM n) (co:=[.gc [0,1]]) Tryz.func40 rfl (by kernel_rfl) bR (bP (all_cons (fG (Ho n)) (all_nil)) (bQ)) mixed (bG _ _ rfl) (by kernel_rfl) (by kernel_rfl) (fun x=>by kernel_rfl)
def zDx (n:Nat):An (bI Ay):=(.mk .nil (.mk .nil (.mk .nil (.mk (.mk .nil (.mk (.loop ⟨23,[⟨3,false,[.ptr 0 0]⟩,⟨4,false,[.v .str]⟩,⟨7,false,[.v (.slice aO)]⟩,⟨8,false,[.v (.int .i64)]⟩,⟨9,false,[.v (.int .i64)]⟩],[.box 101 [.bJ 0 0,.own 1],.row 5 (.int .u8)]⟩ [.keep [false,false,false,true,true,false,false,true,true,true],.gcA 0,.ownB 0 1 32,.orn 0 0 0 0,.gcA 0] [.keep [false,false,false,true,true,false,false,true,true,true],.gcA 0,.gcA 0] n .nil) .nil []) []) .nil []) []) []) [])
theorem Ul (n:Nat):Pure Tryz.prog 20 Nr Ay (mE n) :=
 gX (Γ:=fP _ [(40,peM lD iB (bW n)),(41,peM sF mW (Builder_String n))] []) (an:=zDx n) Tryz.func20 rfl (by kernel_rfl) bR (bP (all_cons (fG (qA n)) (all_cons (fG (Ga n)) (all_nil))) (bQ)) mixed (bG _ _ rfl) (fun x=>by kernel_rfl)
def Qh (n:Nat):An (bI Ad):=(.mk .nil (.mk .nil (.mk .nil (.mk (.mk .nil (.mk (.loop ⟨101,[⟨0,false,[.v .str]⟩,⟨1,false,[.v (.int .u8)]⟩,⟨2,false,[.v .bool]⟩,⟨7,false,[.own 0]⟩,⟨8,false,[.v (.int .i64)]⟩],[.row 68 aK]⟩ [.keep [true,true,true,false,false,false,false,true,true,false,false,false,false,false,false,false,false,false,false,false,false,false,false,false,false,false,false,false,false,false,false,false,false,false,false,false,false,false,false,false,false,false,false,false,false,false,false,false,false,false,false,false,false,false,false,false,false,false,false,false,false,false,false,false,false,false,false,false,false,false,false,false,false,false,false,false,false,false,false,false,false,false,false,false,false,false,false,false,false,false,false],.gcA 0,.zQb 7 66,.gcA 0] [.keep [true,true,true,false,false,false,false,true,true,false,false,false,false,false,false,false,false,false,false,false,false,false,false,false,false,false,false,false,false,false,false,false,false,false,false,false,false,false,false,false,false,false,false,false,false,false,false,false,false,false,false,false,false,false,false,false,false,false,false,false,false,false,false,false,false,false,false,false,false,false,false,false,false,false,false,false,false,false,false,false,false,false,false,false,false,false,false,false,false,false,false],.gcA 0,.gcA 0] n .nil) .nil []) []) (.mk (.co [.zQc 7] .nil) .nil []) []) []) []) [])
theorem He (n:Nat):Pure Tryz.prog 8 Uf Ad (oN n) :=
 gX (Γ:=fP _ [(21,iU zCx zCy (shown20 n)),(22,iU Ya Kq (yV n)),(23,iU Yb Kr (Gl n)),(20,iU Nr Ay (mE n))] []) (an:=Qh n) Tryz.func8 rfl (by kernel_rfl) bR (bP (all_cons (dL (zCz n)) (all_cons (dL (Ym n)) (all_cons (dL (Yn n)) (all_cons (dL (Ul n)) (all_nil))))) (bQ)) mixed (bG _ _ rfl) (fun x=>by kernel_rfl)
end Go.Dec
