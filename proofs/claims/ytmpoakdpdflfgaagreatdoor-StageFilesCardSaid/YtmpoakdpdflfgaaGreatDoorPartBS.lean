/- Part of a proof over this seat: a library of my own, and what it says of this seat. No statement is proved here. -/
import Derived.Test.YtmpoakdpdflfgaaGreatDoorProg
import Derived.Test.YtmpoakdpdflfgaaGreatDoorPartBR
import Derived.Test.YtmpoakdpdflfgaaGreatDoorPartBQ
import Derived.KernelRfl
namespace Go.Dec
open Go.Proofs
set_option linter.unusedVariables false
def tab:Tab:=[(3,⟨.int .i64,1,8,[.val (.int .i64) 0],some (.int .i64),false⟩),
 (4,⟨.bool,1,1,[.val .bool false],some .bool,false⟩),
 (5,⟨.int .u8,1,1,[.val (.int .u8) 0],some (.int .u8),false⟩),
 (9,⟨.str,1,16,[.val .str []],some .str,false⟩),
 (23,⟨.slice 225,1,24,[.aW],some (.slice aR),false⟩),
 (24,⟨.slice 50,1,24,[.aW],some (.slice aG),false⟩),
 (26,⟨.struct [(0,4),(1,23),(2,24)],3,56,[.val .bool false,.aW,.aW],some oN,false⟩),
 (27,⟨.slice 9,1,24,[.aW],some (.slice .str),false⟩),
 (29,⟨.struct [(0,26),(3,4),(4,27),(5,4)],6,96,[.val .bool false,.aW,.aW,.val .bool false,.aW,.val .bool false],some zV,false⟩),
 (30,⟨.slice 90,1,24,[.aW],some (.slice aS),false⟩),
 (31,⟨.slice 38,1,24,[.aW],some (.slice dD),false⟩),
 (33,⟨.struct [(0,30),(1,31),(2,3),(3,3)],4,64,[.aW,.aW,.val (.int .i64) 0,.val (.int .i64) 0],some zD,false⟩),
 (34,⟨.int .i64,1,8,[.val (.int .i64) 0],some (.int .i64),false⟩),
 (38,⟨.struct [(0,9),(1,9)],2,32,[.val .str [],.val .str []],some dD,true⟩),
 (40,⟨.slice 83,1,24,[.aW],some (.slice aS),false⟩),
 (45,⟨.struct [(0,3),(1,3),(2,3)],3,24,[.val (.int .i64) 0,.val (.int .i64) 0,.val (.int .i64) 0],some Bg,true⟩),
 (47,⟨.struct [(0,45),(3,45),(6,4)],7,56,[.val (.int .i64) 0,.val (.int .i64) 0,.val (.int .i64) 0,.val (.int .i64) 0,.val (.int .i64) 0,.val (.int .i64) 0,.val .bool false],some Bh,true⟩),
 (48,⟨.slice 312,1,24,[.aW],some (.slice Sc),false⟩),
 (50,⟨.struct [(0,47),(7,5),(8,9),(9,9),(10,3),(11,3),(12,3),(13,48),(14,4),(15,4)],16,152,[.val (.int .i64) 0,.val (.int .i64) 0,.val (.int .i64) 0,.val (.int .i64) 0,.val (.int .i64) 0,.val (.int .i64) 0,.val .bool false,.val (.int .u8) 0,.val .str [],.val .str [],.val (.int .i64) 0,.val (.int .i64) 0,.val (.int .i64) 0,.aW,.val .bool false,.val .bool false],some aG,false⟩),
 (65,⟨.slice 4,1,24,[.aW],some (.slice .bool),false⟩),
 (75,⟨.slice 173,1,24,[.aW],some (.slice gP),false⟩),
 (76,⟨.slice 217,1,24,[.aW],some (.slice aS),false⟩),
 (78,⟨.struct [(0,3),(1,3),(2,3),(3,3),(4,3),(5,9),(6,9),(7,4),(8,4),(9,4),(10,75),(11,76)],12,128,[.val (.int .i64) 0,.val (.int .i64) 0,.val (.int .i64) 0,.val (.int .i64) 0,.val (.int .i64) 0,.val .str [],.val .str [],.val .bool false,.val .bool false,.val .bool false,.aW,.aW],some bD,false⟩),
 (83,⟨.struct [(0,9),(1,4)],2,24,[.val .str [],.val .bool false],some aS,true⟩),
 (86,⟨.ptr 89,1,8,[.iE],none,false⟩),
 (87,⟨.slice 5,1,24,[.aW],some (.slice (.int .u8)),false⟩),
 (89,⟨.struct [(0,86),(1,87)],2,32,[.iE,.aW],none,false⟩),
 (90,⟨.struct [(0,9),(1,4)],2,24,[.val .str [],.val .bool false],some aS,true⟩),
 (92,⟨.iface false,1,16,[.val .err false],some .err,false⟩),
 (100,⟨.func,1,8,[.val .opq Value.nilFunc],some .opq,false⟩),
 (133,⟨.ptr 135,1,8,[.iE],none,false⟩),
 (135,⟨.struct [(0,78),(12,26),(15,4),(16,31),(17,30)],18,240,[.val (.int .i64) 0,.val (.int .i64) 0,.val (.int .i64) 0,.val (.int .i64) 0,.val (.int .i64) 0,.val .str [],.val .str [],.val .bool false,.val .bool false,.val .bool false,.aW,.aW,.val .bool false,.aW,.aW,.val .bool false,.aW,.aW],some zFi,false⟩),
 (168,⟨.slice 45,1,24,[.aW],some (.slice Bg),false⟩),
 (170,⟨.slice 230,1,24,[.aW],some (.slice xY),false⟩),
 (173,⟨.struct [(0,4),(1,3)],2,16,[.val .bool false,.val (.int .i64) 0],some gP,true⟩),
 (177,⟨.struct [(0,3),(1,4),(2,65)],3,40,[.val (.int .i64) 0,.val .bool false,.aW],some zUc,false⟩),
 (217,⟨.struct [(0,9),(1,4)],2,24,[.val .str [],.val .bool false],some aS,true⟩),
 (225,⟨.struct [(0,170),(1,4)],2,32,[.aW,.val .bool false],some aR,false⟩),
 (226,⟨.int .u64,1,8,[.val (.int .u64) 0],some (.int .u64),false⟩),
 (228,⟨.arr 4 226,4,32,[.val (.arr 4 (.int .u64)) ([0,0,0,0])],some (.arr 4 (.int .u64)),true⟩),
 (230,⟨.struct [(0,3),(1,228),(5,3),(6,3),(7,3),(8,3),(9,3)],10,80,[.val (.int .i64) 0,.val (.arr 4 (.int .u64)) ([0,0,0,0]),.val (.int .i64) 0,.val (.int .i64) 0,.val (.int .i64) 0,.val (.int .i64) 0,.val (.int .i64) 0],some xY,true⟩),
 (312,⟨.struct [(0,9),(1,3)],2,24,[.val .str [],.val (.int .i64) 0],some Sc,true⟩)]
theorem dW:aV Tryz.prog tab:=Zy (by kernel_rfl)
theorem mixed:Tryz.prog.follows .mixedOrders = true:=by kernel_rfl
abbrev Jl:Sh:=⟨2,[⟨0,true,[.v .str,.v .str]⟩,⟨1,false,[.ptr 0 0]⟩],[.box 9 [.v .str]]⟩
abbrev xZ:Sh:=⟨1,[⟨0,false,[.v .bool]⟩],[.box 9 [.v .str]]⟩
abbrev iC:Sh:=⟨2,[⟨0,false,[.v (.slice dD)]⟩,⟨1,false,[.clo 32 [(0,0)]]⟩],[.box 9 [.v .str]]⟩
abbrev dV:Sh:=⟨1,[⟨0,false,[.v (.int .i64)]⟩],[.box 9 [.v .str]]⟩
abbrev Ey:List Ty:=[.slice dD,.str]
abbrev wP:List Ty:=[.str,.bool]
abbrev Jm:List Ty:=[zV,.str,.slice dD]
abbrev yA:List Ty:=[.slice aS,.int .i64]
abbrev Yj:List Ty:=[oN]
abbrev Jo:List Ty:=[bD]
abbrev Mq:List Ty:=[bD]
abbrev zY:List Ty:=[bD]
abbrev Tf:List Ty:=[bD,aS,.bool]
abbrev Ez:List Ty:=[bD]
abbrev sU:Sh:=⟨3,[⟨0,false,[.ptr 0 0]⟩,⟨1,false,[.v .str]⟩,⟨2,false,[.v .bool]⟩],[.box 135 [.v (.int .i64),.v (.int .i64),.v (.int .i64),.v (.int .i64),.v (.int .i64),.v .str,.v .str,.v .bool,.v .bool,.v .bool,.v (.slice gP),.v (.slice aS),.v .bool,.v (.slice aR),.v (.slice aG),.v .bool,.v (.slice dD),.own 1],.row 90 aS]⟩
abbrev nW:Sh:=⟨0,[],[.box 135 [.v (.int .i64),.v (.int .i64),.v (.int .i64),.v (.int .i64),.v (.int .i64),.v .str,.v .str,.v .bool,.v .bool,.v .bool,.v (.slice gP),.v (.slice aS),.v .bool,.v (.slice aR),.v (.slice aG),.v .bool,.v (.slice dD),.own 1],.row 90 aS]⟩
abbrev uT:Sh:=⟨1,[⟨0,false,[.ptr 0 0]⟩],[.box 135 [.v (.int .i64),.v (.int .i64),.v (.int .i64),.v (.int .i64),.v (.int .i64),.v .str,.v .str,.v .bool,.v .bool,.v .bool,.v (.slice gP),.v (.slice aS),.v .bool,.v (.slice aR),.v (.slice aG),.v .bool,.v (.slice dD),.own 1],.row 90 aS]⟩
abbrev nA:Sh:=⟨0,[],[.box 135 [.v (.int .i64),.v (.int .i64),.v (.int .i64),.v (.int .i64),.v (.int .i64),.v .str,.v .str,.v .bool,.v .bool,.v .bool,.v (.slice gP),.v (.slice aS),.v .bool,.v (.slice aR),.v (.slice aG),.v .bool,.v (.slice dD),.own 1],.row 90 aS]⟩
abbrev yB:Sh:=⟨1,[⟨0,false,[.ptr 0 0]⟩],[.box 135 [.v (.int .i64),.v (.int .i64),.v (.int .i64),.v (.int .i64),.v (.int .i64),.v .str,.v .str,.v .bool,.v .bool,.v .bool,.v (.slice gP),.v (.slice aS),.v .bool,.v (.slice aR),.v (.slice aG),.v .bool,.v (.slice dD),.own 1],.row 90 aS]⟩
abbrev pX:Sh:=⟨0,[],[.box 135 [.v (.int .i64),.v (.int .i64),.v (.int .i64),.v (.int .i64),.v (.int .i64),.v .str,.v .str,.v .bool,.v .bool,.v .bool,.v (.slice gP),.v (.slice aS),.v .bool,.v (.slice aR),.v (.slice aG),.v .bool,.v (.slice dD),.own 1],.row 90 aS]⟩
abbrev jJ:List Ty:=[.str,.str]
abbrev fE:List Ty:=[.bool]
abbrev jK:List Ty:=[.str,.str]
abbrev fF:List Ty:=[.str,.bool]
abbrev uU:List Ty:=[.str,.str]
abbrev nC:List Ty:=[.str,.bool]
abbrev yC:Sh:=⟨1,[⟨0,false,[.ptr 0 0]⟩],[.box 135 [.v (.int .i64),.v (.int .i64),.v (.int .i64),.v (.int .i64),.v (.int .i64),.v .str,.v .str,.v .bool,.v .bool,.v .bool,.v (.slice gP),.v (.slice aS),.v .bool,.v (.slice aR),.v (.slice aG),.v .bool,.v (.slice dD),.own 1],.row 90 aS]⟩
abbrev pY:Sh:=⟨0,[],[.box 135 [.v (.int .i64),.v (.int .i64),.v (.int .i64),.v (.int .i64),.v (.int .i64),.v .str,.v .str,.v .bool,.v .bool,.v .bool,.v (.slice gP),.v (.slice aS),.v .bool,.v (.slice aR),.v (.slice aG),.v .bool,.v (.slice dD),.own 1],.row 90 aS]⟩
abbrev Ca:Sh:=⟨1,[⟨0,false,[.ptr 0 0]⟩],[.box 135 [.v (.int .i64),.v (.int .i64),.v (.int .i64),.v (.int .i64),.v (.int .i64),.v .str,.v .str,.v .bool,.v .bool,.v .bool,.v (.slice gP),.v (.slice aS),.v .bool,.v (.slice aR),.v (.slice aG),.v .bool,.v (.slice dD),.own 1],.row 90 aS]⟩
abbrev sV:Sh:=⟨0,[],[.box 135 [.v (.int .i64),.v (.int .i64),.v (.int .i64),.v (.int .i64),.v (.int .i64),.v .str,.v .str,.v .bool,.v .bool,.v .bool,.v (.slice gP),.v (.slice aS),.v .bool,.v (.slice aR),.v (.slice aG),.v .bool,.v (.slice dD),.own 1],.row 90 aS]⟩
abbrev nZ:Sh:=zBh gP
abbrev oC:Sh:=Hr 173 gP
abbrev yD:Sh:=⟨2,[⟨0,false,[.ptr 0 0]⟩,⟨1,true,[.v (.int .i64),.v (.int .i64),.v (.int .i64),.v (.int .i64),.v (.int .i64),.v (.int .i64),.v .bool,.v (.int .u8),.v .str,.v .str,.v (.int .i64),.v (.int .i64),.v (.int .i64),.v (.slice Sc),.v .bool,.v .bool]⟩],[.box 135 [.v (.int .i64),.v (.int .i64),.v (.int .i64),.v (.int .i64),.v (.int .i64),.v .str,.v .str,.v .bool,.v .bool,.v .bool,.v (.slice gP),.v (.slice aS),.v .bool,.v (.slice aR),.v (.slice aG),.v .bool,.v (.slice dD),.own 1],.row 90 aS]⟩
abbrev qA:Sh:=⟨1,[⟨0,false,[.v .bool]⟩],[.box 135 [.v (.int .i64),.v (.int .i64),.v (.int .i64),.v (.int .i64),.v (.int .i64),.v .str,.v .str,.v .bool,.v .bool,.v .bool,.own 2,.v (.slice aS),.v .bool,.v (.slice aR),.v (.slice aG),.v .bool,.v (.slice dD),.own 1],.row 90 aS,.row 173 gP]⟩
abbrev Tg:List Ty:=[oN,.bool,bD,.slice dD]
abbrev Fa:List Ty:=[bD,.slice dD,.slice aS]
abbrev Ti:List Ty:=[zV,.str,.slice dD,.int .i64]
abbrev Fb:List Ty:=[zD,.int .i64]
abbrev kU:Sh:=⟨2,[⟨0,false,[.ptr 0 0]⟩,⟨1,false,[.v .str]⟩],[.box 89 [.bC 0 0,.own 1],.row 5 (.int .u8)]⟩
abbrev gL:Sh:=⟨2,[⟨0,false,[.v (.int .i64)]⟩,⟨1,false,[.v .err]⟩],[.box 89 [.bC 0 0,.own 1],.row 5 (.int .u8)]⟩
abbrev Mr:List Ty:=[.slice aS]
abbrev zZ:List Ty:=[.str]
abbrev Ll:List Ty:=[.str,.str,.bool]
abbrev vJ:List Ty:=[.bool]
def Yt (n:Nat):An (xZ.X):=.nil
theorem Lm (n:Nat):kL Tryz.prog 32 Jl xZ (zW n) :=
 lF (Γ:=jD _ [] []) (an:=Yt n) (co:=[.gc [0]]) Tryz.func32 rfl (by kernel_rfl) dW (dF (all_nil) (dG)) mixed (bS _ _ rfl) (by kernel_rfl) (by kernel_rfl) (fun x=>by kernel_rfl)
def nD (n:Nat):An (dV.X):=(.mk .nil (.mk (.mk .nil (.mk (.loop ⟨19,[⟨0,false,[.v (.slice dD)]⟩,⟨1,false,[.clo 32 [(0,0)]]⟩,⟨7,false,[.v (.int .i64)]⟩,⟨8,false,[.v (.int .i64)]⟩],[.box 9 [.v .str]]⟩ [.keep [true,true,false,false,false,false,false,true,true],.gcA 1,.gcA 1] [.keep [true,true,false,false,false,false,false,true,true],.gcA 1,.gcA 1] n .nil) .nil []) []) .nil []) [])
theorem lQ (n:Nat):kL Tryz.prog 31 iC dV (dY n) :=
 lF (Γ:=jD _ [(32,peM Jl xZ (zW n))] []) (an:=nD n) (co:=[.gc [0]]) Tryz.func31 rfl (by kernel_rfl) dW (dF (all_cons (jW (Lm n)) (all_nil)) (dG)) mixed (bS _ _ rfl) (by kernel_rfl) (by kernel_rfl) (fun x=>by kernel_rfl)
def zFj (n:Nat):An (bE wP):=.nil
theorem Cb (n:Nat):Pure Tryz.prog 13 Ey wP (jY n) :=
 jO (Γ:=jD _ [(31,peM iC dV (dY n))] []) (an:=zFj n) Tryz.func13 rfl (by kernel_rfl) dW (dF (all_cons (jW (lQ n)) (all_nil)) (dG)) mixed (bS _ _ rfl) (fun x=>by kernel_rfl)
def Yu (n:Nat):An (bE yA):=(.mk .nil (.mk .nil (.mk (.mk .nil (.mk (.loop ⟨57,[⟨2,false,[.v (.slice dD)]⟩,⟨6,false,[.own 0]⟩,⟨7,false,[.v (.int .i64)]⟩,⟨24,false,[.v (.slice .str)]⟩,⟨25,false,[.v (.int .i64)]⟩,⟨26,false,[.v (.int .i64)]⟩],[.row 83 aS]⟩ [.keep [false,false,true,false,false,false,true,true,false,false,false,false,false,false,false,false,false,false,false,false,false,false,false,false,true,true,true],.gcA 0,.zOp 6 40,.gcA 0] [.keep [false,false,true,false,false,false,true,true,false,false,false,false,false,false,false,false,false,false,false,false,false,false,false,false,true,true,true],.gcA 0,.gcA 0] n .nil) .nil []) []) (.mk (.mk .nil (.mk (.loop ⟨57,[⟨6,false,[.own 0]⟩,⟨7,false,[.v (.int .i64)]⟩,⟨46,false,[.v (.int .i64)]⟩,⟨47,false,[.v (.int .i64)]⟩],[.row 83 aS]⟩ [.keep [false,false,false,false,false,false,true,true,false,false,false,false,false,false,false,false,false,false,false,false,false,false,false,false,false,false,false,false,false,false,false,false,false,false,false,false,false,false,false,false,false,false,false,false,false,false,true,true],.gcA 0,.gcA 0] [.keep [false,false,false,false,false,false,true,true,false,false,false,false,false,false,false,false,false,false,false,false,false,false,false,false,false,false,false,false,false,false,false,false,false,false,false,false,false,false,false,false,false,false,false,false,false,false,true,true],.gcA 0,.gcA 0] n .nil) .nil []) []) .nil []) []) []) [])
theorem Pg (n:Nat):Pure Tryz.prog 23 Jm yA (iU n) :=
 jO (Γ:=jD _ [(12,peM vD vE (fQ n)),(13,lY Ey wP (jY n))] []) (an:=Yu n) Tryz.func23 rfl (by kernel_rfl) dW (dF (all_cons (jW (Iu n)) (all_cons (gH (Cb n)) (all_nil))) (dG)) mixed (bS _ _ rfl) (fun x=>by kernel_rfl)
def zKs (n:Nat):An (bE Jo):=.nil
theorem Yv (n:Nat):Pure Tryz.prog 24 Yj Jo (Et n) :=
 jO (Γ:=jD _ [] []) (an:=zKs n) Tryz.func24 rfl (by kernel_rfl) dW (dF (all_nil) (dG)) mixed (bS _ _ rfl) (fun x=>by kernel_rfl)
def zEb (n:Nat):An (bE zY):=.nil
theorem Tj (n:Nat):Pure Tryz.prog 25 Mq zY (jZ n) :=
 jO (Γ:=jD _ [] []) (an:=zEb n) Tryz.func25 rfl (by kernel_rfl) dW (dF (all_nil) (dG)) mixed (bS _ _ rfl) (fun x=>by kernel_rfl)
def zFk (n:Nat):An (bE Ez):=.nil
theorem Vq (n:Nat):Pure Tryz.prog 26 Tf Ez (kX n) :=
 jO (Γ:=jD _ [] []) (an:=zFk n) Tryz.func26 rfl (by kernel_rfl) dW (dF (all_nil) (dG)) mixed (bS _ _ rfl) (fun x=>by kernel_rfl)
def Tm (n:Nat):An (nW.X):=.nil
theorem rO (n:Nat):kL Tryz.prog 142 sU nW (jR n) :=
 lF (Γ:=jD _ [] []) (an:=Tm n) (co:=[.gc [0,1]]) Tryz.func142 rfl (by kernel_rfl) dW (dF (all_nil) (dG)) mixed (bS _ _ rfl) (by kernel_rfl) (by kernel_rfl) (fun x=>by kernel_rfl)
def Gf (n:Nat):An (nA.X):=.nil
theorem yF (n:Nat):kL Tryz.prog 80 uT nA (oF n) :=
 lF (Γ:=jD _ [(142,peM sU nW (jR n))] []) (an:=Gf n) (co:=[.gc [0,1]]) Tryz.func80 rfl (by kernel_rfl) dW (dF (all_cons (jW (rO n)) (all_nil)) (dG)) mixed (bS _ _ rfl) (by kernel_rfl) (by kernel_rfl) (fun x=>by kernel_rfl)
def Lp (n:Nat):An (pX.X):=.nil
theorem Cc (n:Nat):kL Tryz.prog 51 yB pX (rG n) :=
 lF (Γ:=jD _ [(80,peM uT nA (oF n))] []) (an:=Lp n) (co:=[.gc [0,1]]) Tryz.func51 rfl (by kernel_rfl) dW (dF (all_cons (jW (yF n)) (all_nil)) (dG)) mixed (bS _ _ rfl) (by kernel_rfl) (by kernel_rfl) (fun x=>by kernel_rfl)
def qB (n:Nat):An (bE fE):=.nil
theorem nX (n:Nat):Pure Tryz.prog 265 jJ fE (fU n) :=
 jO (Γ:=jD _ [] []) (an:=qB n) Tryz.func265 rfl (by kernel_rfl) dW (dF (all_nil) (dG)) mixed (bS _ _ rfl) (fun x=>by kernel_rfl)
def qC (n:Nat):An (bE fF):=.nil
theorem nY (n:Nat):Pure Tryz.prog 213 jK fF (fV n) :=
 jO (Γ:=jD _ [(265,lY jJ fE (fU n))] []) (an:=qC n) Tryz.func213 rfl (by kernel_rfl) dW (dF (all_cons (gH (nX n)) (all_nil)) (dG)) mixed (bS _ _ rfl) (fun x=>by kernel_rfl)
def Gg (n:Nat):An (bE nC):=.nil
theorem Aa (n:Nat):Pure Tryz.prog 143 uU nC (strings_CutSuffix n) :=
 jO (Γ:=jD _ [(213,lY jK fF (fV n))] []) (an:=Gg n) Tryz.func143 rfl (by kernel_rfl) dW (dF (all_cons (gH (nY n)) (all_nil)) (dG)) mixed (bS _ _ rfl) (fun x=>by kernel_rfl)
def Lr (n:Nat):An (pY.X):=(.mk (.mk .nil (.mk (.loop ⟨51,[⟨0,false,[.ptr 0 0]⟩,⟨12,false,[.v (.slice aS)]⟩,⟨13,false,[.v (.int .i64)]⟩,⟨14,false,[.v (.int .i64)]⟩],[.box 135 [.v (.int .i64),.v (.int .i64),.v (.int .i64),.v (.int .i64),.v (.int .i64),.v .str,.v .str,.v .bool,.v .bool,.v .bool,.v (.slice gP),.v (.slice aS),.v .bool,.v (.slice aR),.v (.slice aG),.v .bool,.v (.slice dD),.own 1],.row 90 aS]⟩ [.keep [true,false,false,false,false,false,false,false,false,false,false,false,true,true,true],.gcA 2,.gcA 2] [.keep [true,false,false,false,false,false,false,false,false,false,false,false,true,true,true],.gcA 2,.gcA 2] n .nil) .nil []) []) .nil [])
theorem Cg (n:Nat):kL Tryz.prog 81 yC pY (rH n) :=
 lF (Γ:=jD _ [(142,peM sU nW (jR n)),(13,lY Ey wP (jY n)),(143,lY uU nC (strings_CutSuffix n))] []) (an:=Lr n) (co:=[.gc [0,1]]) Tryz.func81 rfl (by kernel_rfl) dW (dF (all_cons (jW (rO n)) (all_cons (gH (Cb n)) (all_cons (gH (Aa n)) (all_nil)))) (dG)) mixed (bS _ _ rfl) (by kernel_rfl) (by kernel_rfl) (fun x=>by kernel_rfl)
def Tn (n:Nat):An (sV.X):=.nil
theorem Gh (n:Nat):kL Tryz.prog 52 Ca sV (vG n) :=
 lF (Γ:=jD _ [(81,peM yC pY (rH n))] []) (an:=Tn n) (co:=[.gc [0,1]]) Tryz.func52 rfl (by kernel_rfl) dW (dF (all_cons (jW (Cg n)) (all_nil)) (dG)) mixed (bS _ _ rfl) (by kernel_rfl) (by kernel_rfl) (fun x=>by kernel_rfl)
theorem sW (n:Nat):kL Tryz.prog 85 nZ oC (kJ n) :=
 zEt (T:=tab) Tryz.func85 rfl rfl rfl Tryz.underlying75 (by kernel_rfl) dW rfl rfl rfl rfl (by decide) (by decide) (fun _=>rfl)
def Ls (n:Nat):An (qA.X):=(.mk .nil (.mk .nil (.mk (.mk .nil (.mk (.loop ⟨100,[⟨0,false,[.ptr 0 0]⟩,⟨3,false,[.ptr 2 0]⟩,⟨5,false,[.own 3]⟩,⟨23,false,[.own 4]⟩,⟨24,false,[.v (.int .i64)]⟩,⟨25,false,[.v (.int .i64)]⟩],[.box 135 [.v (.int .i64),.v (.int .i64),.v (.int .i64),.v (.int .i64),.v (.int .i64),.v .str,.v .str,.v .bool,.v .bool,.v .bool,.v (.slice gP),.v (.slice aS),.v .bool,.v (.slice aR),.v (.slice aG),.v .bool,.v (.slice dD),.own 1],.row 90 aS,.box 50 [.v (.int .i64),.v (.int .i64),.v (.int .i64),.v (.int .i64),.v (.int .i64),.v (.int .i64),.v .bool,.v (.int .u8),.v .str,.v .str,.v (.int .i64),.v (.int .i64),.v (.int .i64),.v (.slice Sc),.v .bool,.v .bool],.row 4 .bool,.row 45 Bg]⟩ [.keep [true,false,false,true,false,true,false,false,false,false,false,false,false,false,false,false,false,false,false,false,false,false,false,true,true,true],.gcA 2,.gcA 2] [.keep [true,false,false,true,false,true,false,false,false,false,false,false,false,false,false,false,false,false,false,false,false,false,false,true,true,true],.gcA 2,.gcA 2] n .nil) .nil []) []) .nil []) []) [])
theorem Ch (n:Nat):kL Tryz.prog 53 yD qA (rJ n) :=
 lF (Γ:=jD _ [(84,lY Bc Bf (vF n)),(85,peM nZ oC (kJ n))] []) (an:=Ls n) (co:=[.gc [0,1,6]]) Tryz.func53 rfl (by kernel_rfl) dW (dF (all_cons (gH (Iw n)) (all_cons (jW (sW n)) (all_nil))) (dG)) mixed (bS _ _ rfl) (by kernel_rfl) (by kernel_rfl) (fun x=>by kernel_rfl)
def zFl (n:Nat):An (bE Fa):=(.mk .nil (.mk .nil (.mk (.mk (.mk .nil (.mk .nil (.mk .nil (.mk (.mk (.co [.ownB 3 17 30] .nil) .nil []) (.mk .nil (.mk (.co [.ownB 3 17 30] .nil) .nil []) []) []) []) []) []) .nil []) .nil []) []) [])
theorem Vr (n:Nat):Pure Tryz.prog 27 Tg Fa (mX n) :=
 jO (Γ:=jD _ [(51,peM yB pX (rG n)),(52,peM Ca sV (vG n)),(53,peM yD qA (rJ n))] []) (an:=zFl n) Tryz.func27 rfl (by kernel_rfl) dW (dF (all_cons (jW (Cc n)) (all_cons (jW (Gh n)) (all_cons (jW (Ch n)) (all_nil)))) (dG)) mixed (bS _ _ rfl) (fun x=>by kernel_rfl)
def zFm (n:Nat):An (bE Fb):=(.mk .nil (.scope 1 .nil (.loop ⟨88,[⟨2,false,[.v (.slice dD)]⟩,⟨3,false,[.v (.int .i64)]⟩,⟨4,false,[.ptr 0 0]⟩,⟨8,false,[.ptr 1 0]⟩,⟨10,false,[.v (.slice aS)]⟩,⟨11,false,[.v (.int .i64)]⟩,⟨12,false,[.ptr 2 0]⟩],[.box 29 [.v .bool,.v (.slice aR),.v (.slice aG),.v .bool,.v (.slice .str),.v .bool],.box 33 [.own 3,.v (.slice dD),.v (.int .i64),.v (.int .i64)],.box 78 [.v (.int .i64),.v (.int .i64),.v (.int .i64),.v (.int .i64),.v (.int .i64),.v .str,.v .str,.v .bool,.v .bool,.v .bool,.v (.slice gP),.v (.slice aS)],.row 90 aS]⟩ [.keep [false,false,true,true,true,false,false,false,true,false,true,true,true],.gcA 0,.ownB 1 0 30,.gcA 0] [.keep [false,false,true,true,true,false,false,false,true,false,true,true,true],.gcA 0,.gcA 0] n (.scope 0 .nil .nil))) [])
theorem Vs (n:Nat):Pure Tryz.prog 10 Ti Fb (qM n) :=
 jO (Γ:=jD _ [(22,lY bK fT (iT n)),(23,lY Jm yA (iU n)),(24,lY Yj Jo (Et n)),(25,lY Mq zY (jZ n)),(26,lY Tf Ez (kX n)),(27,lY Tg Fa (mX n))] []) (an:=zFm n) Tryz.func10 rfl (by kernel_rfl) dW (dF (all_cons (gH (Ot n)) (all_cons (gH (Pg n)) (all_cons (gH (Yv n)) (all_cons (gH (Tj n)) (all_cons (gH (Vq n)) (all_cons (gH (Vr n)) (all_nil))))))) (dG)) mixed (bS _ _ rfl) (fun x=>by kernel_rfl)
def rM (n:Nat):An (gL.X):=.nil
theorem oO (n:Nat):kL Tryz.prog 28 kU gL (bQ n) :=
 lF (Γ:=jD _ [(55,peM sQ sS (pE n))] []) (an:=rM n) (co:=[.gc [0,1]]) Tryz.func28 rfl (by kernel_rfl) dW (dF (all_cons (jW (Gd n)) (all_nil)) (dG)) mixed (bS _ _ rfl) (by kernel_rfl) (by kernel_rfl) (fun x=>by kernel_rfl)
def zEc (n:Nat):An (bE zZ):=(.mk .nil (.mk .nil (.mk .nil (.mk (.mk .nil (.mk (.loop ⟨23,[⟨3,false,[.ptr 0 0]⟩,⟨4,false,[.v .str]⟩,⟨7,false,[.v (.slice aS)]⟩,⟨8,false,[.v (.int .i64)]⟩,⟨9,false,[.v (.int .i64)]⟩],[.box 89 [.bC 0 0,.own 1],.row 5 (.int .u8)]⟩ [.keep [false,false,false,true,true,false,false,true,true,true],.gcA 0,.ownB 0 1 87,.orn 0 0 0 0,.gcA 0] [.keep [false,false,false,true,true,false,false,true,true,true],.gcA 0,.gcA 0] n .nil) .nil []) []) .nil []) []) []) [])
theorem Tp (n:Nat):Pure Tryz.prog 11 Mr zZ (bM n) :=
 jO (Γ:=jD _ [(28,peM kU gL (bQ n)),(29,peM rC mH (Builder_String n))] []) (an:=zEc n) Tryz.func11 rfl (by kernel_rfl) dW (dF (all_cons (jW (oO n)) (all_cons (jW (Ep n)) (all_nil))) (dG)) mixed (bS _ _ rfl) (fun x=>by kernel_rfl)
def Jp (n:Nat):An (bE vJ):=(.mk .nil (.mk .nil (.mk .nil (.mk .nil (.mk (.co [.zOq 7] .nil) .nil []) []) []) []) [])
theorem Ac (n:Nat):Pure Tryz.prog 4 Ll vJ (pW n) :=
 jO (Γ:=jD _ [(9,lY zDh zDi (shown16 n)),(10,lY Ti Fb (qM n)),(11,lY Mr zZ (bM n))] []) (an:=Jp n) Tryz.func4 rfl (by kernel_rfl) dW (dF (all_cons (gH (zDj n)) (all_cons (gH (Vs n)) (all_cons (gH (Tp n)) (all_nil)))) (dG)) mixed (bS _ _ rfl) (fun x=>by kernel_rfl)
end Go.Dec
