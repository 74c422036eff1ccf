/- Part of a proof over this seat: a library of my own, and what it says of this seat. No statement is proved here. -/
import Derived.Test.YtmpoakdpdflfgaaGreatDoorProg
import Derived.Test.YtmpoakdpdflfgaaGreatDoorPartBR
import Derived.Test.YtmpoakdpdflfgaaGreatDoorPartBQ
import Derived.KernelRfl
namespace Go.Dec
open Go.Proofs
set_option linter.unusedVariables false
def tab : Tab:=[(3,⟨.int .i64,1,8,[.val (.int .i64) 0],some (.int .i64),false⟩),
 (4,⟨.bool,1,1,[.val .bool false],some .bool,false⟩),
 (5,⟨.int .u8,1,1,[.val (.int .u8) 0],some (.int .u8),false⟩),
 (9,⟨.str,1,16,[.val .str []],some .str,false⟩),
 (23,⟨.slice 225,1,24,[.aW],some (.slice aR),false⟩),
 (24,⟨.slice 50,1,24,[.aW],some (.slice aG),false⟩),
 (26,⟨.struct [(0,4),(1,23),(2,24)],3,56,[.val .bool false,.aW,.aW],some oO,false⟩),
 (27,⟨.slice 9,1,24,[.aW],some (.slice .str),false⟩),
 (29,⟨.struct [(0,26),(3,4),(4,27),(5,4)],6,96,[.val .bool false,.aW,.aW,.val .bool false,.aW,.val .bool false],some zU,false⟩),
 (30,⟨.slice 90,1,24,[.aW],some (.slice aT),false⟩),
 (31,⟨.slice 38,1,24,[.aW],some (.slice cK),false⟩),
 (33,⟨.struct [(0,30),(1,31),(2,3),(3,3)],4,64,[.aW,.aW,.val (.int .i64) 0,.val (.int .i64) 0],some zC,false⟩),
 (34,⟨.int .i64,1,8,[.val (.int .i64) 0],some (.int .i64),false⟩),
 (38,⟨.struct [(0,9),(1,9)],2,32,[.val .str [],.val .str []],some cK,true⟩),
 (40,⟨.slice 83,1,24,[.aW],some (.slice aT),false⟩),
 (45,⟨.struct [(0,3),(1,3),(2,3)],3,24,[.val (.int .i64) 0,.val (.int .i64) 0,.val (.int .i64) 0],some Bg,true⟩),
 (47,⟨.struct [(0,45),(3,45),(6,4)],7,56,[.val (.int .i64) 0,.val (.int .i64) 0,.val (.int .i64) 0,.val (.int .i64) 0,.val (.int .i64) 0,.val (.int .i64) 0,.val .bool false],some Bh,true⟩),
 (48,⟨.slice 312,1,24,[.aW],some (.slice Si),false⟩),
 (50,⟨.struct [(0,47),(7,5),(8,9),(9,9),(10,3),(11,3),(12,3),(13,48),(14,4),(15,4)],16,152,[.val (.int .i64) 0,.val (.int .i64) 0,.val (.int .i64) 0,.val (.int .i64) 0,.val (.int .i64) 0,.val (.int .i64) 0,.val .bool false,.val (.int .u8) 0,.val .str [],.val .str [],.val (.int .i64) 0,.val (.int .i64) 0,.val (.int .i64) 0,.aW,.val .bool false,.val .bool false],some aG,false⟩),
 (65,⟨.slice 4,1,24,[.aW],some (.slice .bool),false⟩),
 (75,⟨.slice 173,1,24,[.aW],some (.slice gM),false⟩),
 (76,⟨.slice 217,1,24,[.aW],some (.slice aT),false⟩),
 (78,⟨.struct [(0,3),(1,3),(2,3),(3,3),(4,3),(5,9),(6,9),(7,4),(8,4),(9,4),(10,75),(11,76)],12,128,[.val (.int .i64) 0,.val (.int .i64) 0,.val (.int .i64) 0,.val (.int .i64) 0,.val (.int .i64) 0,.val .str [],.val .str [],.val .bool false,.val .bool false,.val .bool false,.aW,.aW],some bD,false⟩),
 (83,⟨.struct [(0,9),(1,4)],2,24,[.val .str [],.val .bool false],some aT,true⟩),
 (86,⟨.ptr 89,1,8,[.iA],none,false⟩),
 (87,⟨.slice 5,1,24,[.aW],some (.slice (.int .u8)),false⟩),
 (89,⟨.struct [(0,86),(1,87)],2,32,[.iA,.aW],none,false⟩),
 (90,⟨.struct [(0,9),(1,4)],2,24,[.val .str [],.val .bool false],some aT,true⟩),
 (92,⟨.iface false,1,16,[.val .err false],some .err,false⟩),
 (100,⟨.func,1,8,[.val .opq Value.nilFunc],some .opq,false⟩),
 (133,⟨.ptr 135,1,8,[.iA],none,false⟩),
 (135,⟨.struct [(0,78),(12,26),(15,4),(16,31),(17,30)],18,240,[.val (.int .i64) 0,.val (.int .i64) 0,.val (.int .i64) 0,.val (.int .i64) 0,.val (.int .i64) 0,.val .str [],.val .str [],.val .bool false,.val .bool false,.val .bool false,.aW,.aW,.val .bool false,.aW,.aW,.val .bool false,.aW,.aW],some zFk,false⟩),
 (168,⟨.slice 45,1,24,[.aW],some (.slice Bg),false⟩),
 (170,⟨.slice 230,1,24,[.aW],some (.slice xZ),false⟩),
 (173,⟨.struct [(0,4),(1,3)],2,16,[.val .bool false,.val (.int .i64) 0],some gM,true⟩),
 (177,⟨.struct [(0,3),(1,4),(2,65)],3,40,[.val (.int .i64) 0,.val .bool false,.aW],some zUb,false⟩),
 (217,⟨.struct [(0,9),(1,4)],2,24,[.val .str [],.val .bool false],some aT,true⟩),
 (225,⟨.struct [(0,170),(1,4)],2,32,[.aW,.val .bool false],some aR,false⟩),
 (226,⟨.int .u64,1,8,[.val (.int .u64) 0],some (.int .u64),false⟩),
 (228,⟨.arr 4 226,4,32,[.val (.arr 4 (.int .u64)) ([0,0,0,0])],some (.arr 4 (.int .u64)),true⟩),
 (230,⟨.struct [(0,3),(1,228),(5,3),(6,3),(7,3),(8,3),(9,3)],10,80,[.val (.int .i64) 0,.val (.arr 4 (.int .u64)) ([0,0,0,0]),.val (.int .i64) 0,.val (.int .i64) 0,.val (.int .i64) 0,.val (.int .i64) 0,.val (.int .i64) 0],some xZ,true⟩),
 (312,⟨.struct [(0,9),(1,3)],2,24,[.val .str [],.val (.int .i64) 0],some Si,true⟩)]
theorem dP : aV Tryz.prog tab:=zAb (by kernel_rfl)
theorem mixed : Tryz.prog.follows .mixedOrders = true:=by kernel_rfl
abbrev Jo : Sh:=⟨2,[⟨0,true,[.v .str,.v .str]⟩,⟨1,false,[.ptr 0 0]⟩],[.box 9 [.v .str]]⟩
abbrev yA : Sh:=⟨1,[⟨0,false,[.v .bool]⟩],[.box 9 [.v .str]]⟩
abbrev gY : Sh:=⟨2,[⟨0,false,[.v (.slice cK)]⟩,⟨1,false,[.clo 32 [(0,0)]]⟩],[.box 9 [.v .str]]⟩
abbrev dO : Sh:=⟨1,[⟨0,false,[.v (.int .i64)]⟩],[.box 9 [.v .str]]⟩
abbrev Ev : List Ty:=[.slice cK,.str]
abbrev wP : List Ty:=[.str,.bool]
abbrev Jp : List Ty:=[zU,.str,.slice cK]
abbrev yB : List Ty:=[.slice aT,.int .i64]
abbrev Yr : List Ty:=[oO]
abbrev Jq : List Ty:=[bD]
abbrev Mh : List Ty:=[bD]
abbrev zX : List Ty:=[bD]
abbrev Ti : List Ty:=[bD,aT,.bool]
abbrev Ew : List Ty:=[bD]
abbrev sS : Sh:=⟨3,[⟨0,false,[.ptr 0 0]⟩,⟨1,false,[.v .str]⟩,⟨2,false,[.v .bool]⟩],[.box 135 [.v (.int .i64),.v (.int .i64),.v (.int .i64),.v (.int .i64),.v (.int .i64),.v .str,.v .str,.v .bool,.v .bool,.v .bool,.v (.slice gM),.v (.slice aT),.v .bool,.v (.slice aR),.v (.slice aG),.v .bool,.v (.slice cK),.own 1],.row 90 aT]⟩
abbrev nW : Sh:=⟨0,[],[.box 135 [.v (.int .i64),.v (.int .i64),.v (.int .i64),.v (.int .i64),.v (.int .i64),.v .str,.v .str,.v .bool,.v .bool,.v .bool,.v (.slice gM),.v (.slice aT),.v .bool,.v (.slice aR),.v (.slice aG),.v .bool,.v (.slice cK),.own 1],.row 90 aT]⟩
abbrev uS : Sh:=⟨1,[⟨0,false,[.ptr 0 0]⟩],[.box 135 [.v (.int .i64),.v (.int .i64),.v (.int .i64),.v (.int .i64),.v (.int .i64),.v .str,.v .str,.v .bool,.v .bool,.v .bool,.v (.slice gM),.v (.slice aT),.v .bool,.v (.slice aR),.v (.slice aG),.v .bool,.v (.slice cK),.own 1],.row 90 aT]⟩
abbrev nC : Sh:=⟨0,[],[.box 135 [.v (.int .i64),.v (.int .i64),.v (.int .i64),.v (.int .i64),.v (.int .i64),.v .str,.v .str,.v .bool,.v .bool,.v .bool,.v (.slice gM),.v (.slice aT),.v .bool,.v (.slice aR),.v (.slice aG),.v .bool,.v (.slice cK),.own 1],.row 90 aT]⟩
abbrev yC : Sh:=⟨1,[⟨0,false,[.ptr 0 0]⟩],[.box 135 [.v (.int .i64),.v (.int .i64),.v (.int .i64),.v (.int .i64),.v (.int .i64),.v .str,.v .str,.v .bool,.v .bool,.v .bool,.v (.slice gM),.v (.slice aT),.v .bool,.v (.slice aR),.v (.slice aG),.v .bool,.v (.slice cK),.own 1],.row 90 aT]⟩
abbrev pW : Sh:=⟨0,[],[.box 135 [.v (.int .i64),.v (.int .i64),.v (.int .i64),.v (.int .i64),.v (.int .i64),.v .str,.v .str,.v .bool,.v .bool,.v .bool,.v (.slice gM),.v (.slice aT),.v .bool,.v (.slice aR),.v (.slice aG),.v .bool,.v (.slice cK),.own 1],.row 90 aT]⟩
abbrev jH : List Ty:=[.str,.str]
abbrev eY : List Ty:=[.bool]
abbrev jI : List Ty:=[.str,.str]
abbrev eZ : List Ty:=[.str,.bool]
abbrev uT : List Ty:=[.str,.str]
abbrev nD : List Ty:=[.str,.bool]
abbrev yD : Sh:=⟨1,[⟨0,false,[.ptr 0 0]⟩],[.box 135 [.v (.int .i64),.v (.int .i64),.v (.int .i64),.v (.int .i64),.v (.int .i64),.v .str,.v .str,.v .bool,.v .bool,.v .bool,.v (.slice gM),.v (.slice aT),.v .bool,.v (.slice aR),.v (.slice aG),.v .bool,.v (.slice cK),.own 1],.row 90 aT]⟩
abbrev pX : Sh:=⟨0,[],[.box 135 [.v (.int .i64),.v (.int .i64),.v (.int .i64),.v (.int .i64),.v (.int .i64),.v .str,.v .str,.v .bool,.v .bool,.v .bool,.v (.slice gM),.v (.slice aT),.v .bool,.v (.slice aR),.v (.slice aG),.v .bool,.v (.slice cK),.own 1],.row 90 aT]⟩
abbrev Ca : Sh:=⟨1,[⟨0,false,[.ptr 0 0]⟩],[.box 135 [.v (.int .i64),.v (.int .i64),.v (.int .i64),.v (.int .i64),.v (.int .i64),.v .str,.v .str,.v .bool,.v .bool,.v .bool,.v (.slice gM),.v (.slice aT),.v .bool,.v (.slice aR),.v (.slice aG),.v .bool,.v (.slice cK),.own 1],.row 90 aT]⟩
abbrev sU : Sh:=⟨0,[],[.box 135 [.v (.int .i64),.v (.int .i64),.v (.int .i64),.v (.int .i64),.v (.int .i64),.v .str,.v .str,.v .bool,.v .bool,.v .bool,.v (.slice gM),.v (.slice aT),.v .bool,.v (.slice aR),.v (.slice aG),.v .bool,.v (.slice cK),.own 1],.row 90 aT]⟩
abbrev nZ : Sh:=zBl gM
abbrev oC : Sh:=Hr 173 gM
abbrev yE : Sh:=⟨2,[⟨0,false,[.ptr 0 0]⟩,⟨1,true,[.v (.int .i64),.v (.int .i64),.v (.int .i64),.v (.int .i64),.v (.int .i64),.v (.int .i64),.v .bool,.v (.int .u8),.v .str,.v .str,.v (.int .i64),.v (.int .i64),.v (.int .i64),.v (.slice Si),.v .bool,.v .bool]⟩],[.box 135 [.v (.int .i64),.v (.int .i64),.v (.int .i64),.v (.int .i64),.v (.int .i64),.v .str,.v .str,.v .bool,.v .bool,.v .bool,.v (.slice gM),.v (.slice aT),.v .bool,.v (.slice aR),.v (.slice aG),.v .bool,.v (.slice cK),.own 1],.row 90 aT]⟩
abbrev pY : Sh:=⟨1,[⟨0,false,[.v .bool]⟩],[.box 135 [.v (.int .i64),.v (.int .i64),.v (.int .i64),.v (.int .i64),.v (.int .i64),.v .str,.v .str,.v .bool,.v .bool,.v .bool,.own 2,.v (.slice aT),.v .bool,.v (.slice aR),.v (.slice aG),.v .bool,.v (.slice cK),.own 1],.row 90 aT,.row 173 gM]⟩
abbrev Tj : List Ty:=[oO,.bool,bD,.slice cK]
abbrev Ey : List Ty:=[bD,.slice cK,.slice aT]
abbrev Tm : List Ty:=[zU,.str,.slice cK,.int .i64]
abbrev Ez : List Ty:=[zC,.int .i64]
abbrev kQ : Sh:=⟨2,[⟨0,false,[.ptr 0 0]⟩,⟨1,false,[.v .str]⟩],[.box 89 [.bC 0 0,.own 1],.row 5 (.int .u8)]⟩
abbrev gJ : Sh:=⟨2,[⟨0,false,[.v (.int .i64)]⟩,⟨1,false,[.v .err]⟩],[.box 89 [.bC 0 0,.own 1],.row 5 (.int .u8)]⟩
abbrev Mi : List Ty:=[.slice aT]
abbrev zY : List Ty:=[.str]
abbrev Jr : List Ty:=[.str,.bool]
abbrev uU : List Ty:=[.bool]
def Zb (n : Nat) : An (yA.X):=.nil
theorem Lg (n : Nat) : kH Tryz.prog 32 Jo yA (zV n) :=
 kY (Γ:=jB _ [] []) (an:=Zb n) (co:=[.gc [0]]) Tryz.func32 rfl (by kernel_rfl) dP (cO (all_nil) (cZ)) mixed (bQ _ _ rfl) (by kernel_rfl) (by kernel_rfl) (fun x => by kernel_rfl)
def nE (n : Nat) : An (dO.X):=(.mk .nil (.mk (.mk .nil (.mk (.loop ⟨19,[⟨0,false,[.v (.slice cK)]⟩,⟨1,false,[.clo 32 [(0,0)]]⟩,⟨7,false,[.v (.int .i64)]⟩,⟨8,false,[.v (.int .i64)]⟩],[.box 9 [.v .str]]⟩ [.keep [true,true,false,false,false,false,false,true,true],.gcA 1,.gcA 1] [.keep [true,true,false,false,false,false,false,true,true],.gcA 1,.gcA 1] n .nil) .nil []) []) .nil []) [])
theorem lK (n : Nat) : kH Tryz.prog 31 gY dO (dR n) :=
 kY (Γ:=jB _ [(32,peM Jo yA (zV n))] []) (an:=nE n) (co:=[.gc [0]]) Tryz.func31 rfl (by kernel_rfl) dP (cO (all_cons (jU (Lg n)) (all_nil)) (cZ)) mixed (bQ _ _ rfl) (by kernel_rfl) (by kernel_rfl) (fun x => by kernel_rfl)
def zFl (n : Nat) : An (bE wP):=.nil
theorem Cb (n : Nat) : Pure Tryz.prog 13 Ev wP (mV n) :=
 jM (Γ:=jB _ [(31,peM gY dO (dR n))] []) (an:=zFl n) Tryz.func13 rfl (by kernel_rfl) dP (cO (all_cons (jU (lK n)) (all_nil)) (cZ)) mixed (bQ _ _ rfl) (fun x => by kernel_rfl)
def Zc (n : Nat) : An (bE yB):=(.mk .nil (.mk .nil (.mk (.mk .nil (.mk (.loop ⟨57,[⟨2,false,[.v (.slice cK)]⟩,⟨6,false,[.own 0]⟩,⟨7,false,[.v (.int .i64)]⟩,⟨24,false,[.v (.slice .str)]⟩,⟨25,false,[.v (.int .i64)]⟩,⟨26,false,[.v (.int .i64)]⟩],[.row 83 aT]⟩ [.keep [false,false,true,false,false,false,true,true,false,false,false,false,false,false,false,false,false,false,false,false,false,false,false,false,true,true,true],.gcA 0,.zOp 6 40,.gcA 0] [.keep [false,false,true,false,false,false,true,true,false,false,false,false,false,false,false,false,false,false,false,false,false,false,false,false,true,true,true],.gcA 0,.gcA 0] n .nil) .nil []) []) (.mk (.mk .nil (.mk (.loop ⟨57,[⟨6,false,[.own 0]⟩,⟨7,false,[.v (.int .i64)]⟩,⟨46,false,[.v (.int .i64)]⟩,⟨47,false,[.v (.int .i64)]⟩],[.row 83 aT]⟩ [.keep [false,false,false,false,false,false,true,true,false,false,false,false,false,false,false,false,false,false,false,false,false,false,false,false,false,false,false,false,false,false,false,false,false,false,false,false,false,false,false,false,false,false,false,false,false,false,true,true],.gcA 0,.gcA 0] [.keep [false,false,false,false,false,false,true,true,false,false,false,false,false,false,false,false,false,false,false,false,false,false,false,false,false,false,false,false,false,false,false,false,false,false,false,false,false,false,false,false,false,false,false,false,false,false,true,true],.gcA 0,.gcA 0] n .nil) .nil []) []) .nil []) []) []) [])
theorem Ph (n : Nat) : Pure Tryz.prog 23 Jp yB (iQ n) :=
 jM (Γ:=jB _ [(12,peM vC vD (fK n)),(13,kX Ev wP (mV n))] []) (an:=Zc n) Tryz.func23 rfl (by kernel_rfl) dP (cO (all_cons (jU (Iy n)) (all_cons (fQ (Cb n)) (all_nil))) (cZ)) mixed (bQ _ _ rfl) (fun x => by kernel_rfl)
def zKr (n : Nat) : An (bE Jq):=.nil
theorem Zd (n : Nat) : Pure Tryz.prog 24 Yr Jq (Er n) :=
 jM (Γ:=jB _ [] []) (an:=zKr n) Tryz.func24 rfl (by kernel_rfl) dP (cO (all_nil) (cZ)) mixed (bQ _ _ rfl) (fun x => by kernel_rfl)
def zEf (n : Nat) : An (bE zX):=.nil
theorem Tn (n : Nat) : Pure Tryz.prog 25 Mh zX (jW n) :=
 jM (Γ:=jB _ [] []) (an:=zEf n) Tryz.func25 rfl (by kernel_rfl) dP (cO (all_nil) (cZ)) mixed (bQ _ _ rfl) (fun x => by kernel_rfl)
def zFm (n : Nat) : An (bE Ew):=.nil
theorem Wv (n : Nat) : Pure Tryz.prog 26 Ti Ew (kS n) :=
 jM (Γ:=jB _ [] []) (an:=zFm n) Tryz.func26 rfl (by kernel_rfl) dP (cO (all_nil) (cZ)) mixed (bQ _ _ rfl) (fun x => by kernel_rfl)
def Tp (n : Nat) : An (nW.X):=.nil
theorem rM (n : Nat) : kH Tryz.prog 142 sS nW (jP n) :=
 kY (Γ:=jB _ [] []) (an:=Tp n) (co:=[.gc [0,1]]) Tryz.func142 rfl (by kernel_rfl) dP (cO (all_nil) (cZ)) mixed (bQ _ _ rfl) (by kernel_rfl) (by kernel_rfl) (fun x => by kernel_rfl)
def Gb (n : Nat) : An (nC.X):=.nil
theorem yG (n : Nat) : kH Tryz.prog 80 uS nC (oF n) :=
 kY (Γ:=jB _ [(142,peM sS nW (jP n))] []) (an:=Gb n) (co:=[.gc [0,1]]) Tryz.func80 rfl (by kernel_rfl) dP (cO (all_cons (jU (rM n)) (all_nil)) (cZ)) mixed (bQ _ _ rfl) (by kernel_rfl) (by kernel_rfl) (fun x => by kernel_rfl)
def Lh (n : Nat) : An (pW.X):=.nil
theorem Cc (n : Nat) : kH Tryz.prog 51 yC pW (rF n) :=
 kY (Γ:=jB _ [(80,peM uS nC (oF n))] []) (an:=Lh n) (co:=[.gc [0,1]]) Tryz.func51 rfl (by kernel_rfl) dP (cO (all_cons (jU (yG n)) (all_nil)) (cZ)) mixed (bQ _ _ rfl) (by kernel_rfl) (by kernel_rfl) (fun x => by kernel_rfl)
def qA (n : Nat) : An (bE eY):=.nil
theorem nX (n : Nat) : Pure Tryz.prog 265 jH eY (fO n) :=
 jM (Γ:=jB _ [] []) (an:=qA n) Tryz.func265 rfl (by kernel_rfl) dP (cO (all_nil) (cZ)) mixed (bQ _ _ rfl) (fun x => by kernel_rfl)
def qB (n : Nat) : An (bE eZ):=.nil
theorem nY (n : Nat) : Pure Tryz.prog 213 jI eZ (fP n) :=
 jM (Γ:=jB _ [(265,kX jH eY (fO n))] []) (an:=qB n) Tryz.func213 rfl (by kernel_rfl) dP (cO (all_cons (fQ (nX n)) (all_nil)) (cZ)) mixed (bQ _ _ rfl) (fun x => by kernel_rfl)
def Gc (n : Nat) : An (bE nD):=.nil
theorem zZ (n : Nat) : Pure Tryz.prog 143 uT nD (strings_CutSuffix n) :=
 jM (Γ:=jB _ [(213,kX jI eZ (fP n))] []) (an:=Gc n) Tryz.func143 rfl (by kernel_rfl) dP (cO (all_cons (fQ (nY n)) (all_nil)) (cZ)) mixed (bQ _ _ rfl) (fun x => by kernel_rfl)
def Li (n : Nat) : An (pX.X):=(.mk (.mk .nil (.mk (.loop ⟨51,[⟨0,false,[.ptr 0 0]⟩,⟨12,false,[.v (.slice aT)]⟩,⟨13,false,[.v (.int .i64)]⟩,⟨14,false,[.v (.int .i64)]⟩],[.box 135 [.v (.int .i64),.v (.int .i64),.v (.int .i64),.v (.int .i64),.v (.int .i64),.v .str,.v .str,.v .bool,.v .bool,.v .bool,.v (.slice gM),.v (.slice aT),.v .bool,.v (.slice aR),.v (.slice aG),.v .bool,.v (.slice cK),.own 1],.row 90 aT]⟩ [.keep [true,false,false,false,false,false,false,false,false,false,false,false,true,true,true],.gcA 2,.gcA 2] [.keep [true,false,false,false,false,false,false,false,false,false,false,false,true,true,true],.gcA 2,.gcA 2] n .nil) .nil []) []) .nil [])
theorem Cg (n : Nat) : kH Tryz.prog 81 yD pX (rG n) :=
 kY (Γ:=jB _ [(142,peM sS nW (jP n)),(13,kX Ev wP (mV n)),(143,kX uT nD (strings_CutSuffix n))] []) (an:=Li n) (co:=[.gc [0,1]]) Tryz.func81 rfl (by kernel_rfl) dP (cO (all_cons (jU (rM n)) (all_cons (fQ (Cb n)) (all_cons (fQ (zZ n)) (all_nil)))) (cZ)) mixed (bQ _ _ rfl) (by kernel_rfl) (by kernel_rfl) (fun x => by kernel_rfl)
def Tq (n : Nat) : An (sU.X):=.nil
theorem Gd (n : Nat) : kH Tryz.prog 52 Ca sU (vF n) :=
 kY (Γ:=jB _ [(81,peM yD pX (rG n))] []) (an:=Tq n) (co:=[.gc [0,1]]) Tryz.func52 rfl (by kernel_rfl) dP (cO (all_cons (jU (Cg n)) (all_nil)) (cZ)) mixed (bQ _ _ rfl) (by kernel_rfl) (by kernel_rfl) (fun x => by kernel_rfl)
theorem sV (n : Nat) : kH Tryz.prog 85 nZ oC (kF n) :=
 zEv (T:=tab) Tryz.func85 rfl rfl rfl Tryz.underlying75 (by kernel_rfl) dP rfl rfl rfl rfl (by decide) (by decide) (fun _ => rfl)
def Lj (n : Nat) : An (pY.X):=(.mk .nil (.mk .nil (.mk (.mk .nil (.mk (.loop ⟨100,[⟨0,false,[.ptr 0 0]⟩,⟨3,false,[.ptr 2 0]⟩,⟨5,false,[.own 3]⟩,⟨23,false,[.own 4]⟩,⟨24,false,[.v (.int .i64)]⟩,⟨25,false,[.v (.int .i64)]⟩],[.box 135 [.v (.int .i64),.v (.int .i64),.v (.int .i64),.v (.int .i64),.v (.int .i64),.v .str,.v .str,.v .bool,.v .bool,.v .bool,.v (.slice gM),.v (.slice aT),.v .bool,.v (.slice aR),.v (.slice aG),.v .bool,.v (.slice cK),.own 1],.row 90 aT,.box 50 [.v (.int .i64),.v (.int .i64),.v (.int .i64),.v (.int .i64),.v (.int .i64),.v (.int .i64),.v .bool,.v (.int .u8),.v .str,.v .str,.v (.int .i64),.v (.int .i64),.v (.int .i64),.v (.slice Si),.v .bool,.v .bool],.row 4 .bool,.row 45 Bg]⟩ [.keep [true,false,false,true,false,true,false,false,false,false,false,false,false,false,false,false,false,false,false,false,false,false,false,true,true,true],.gcA 2,.gcA 2] [.keep [true,false,false,true,false,true,false,false,false,false,false,false,false,false,false,false,false,false,false,false,false,false,false,true,true,true],.gcA 2,.gcA 2] n .nil) .nil []) []) .nil []) []) [])
theorem Ch (n : Nat) : kH Tryz.prog 53 yE pY (rH n) :=
 kY (Γ:=jB _ [(84,kX Bc Bf (vE n)),(85,peM nZ oC (kF n))] []) (an:=Lj n) (co:=[.gc [0,1,6]]) Tryz.func53 rfl (by kernel_rfl) dP (cO (all_cons (fQ (Iz n)) (all_cons (jU (sV n)) (all_nil))) (cZ)) mixed (bQ _ _ rfl) (by kernel_rfl) (by kernel_rfl) (fun x => by kernel_rfl)
def zFn (n : Nat) : An (bE Ey):=(.mk .nil (.mk .nil (.mk (.mk (.mk .nil (.mk .nil (.mk .nil (.mk (.mk (.co [.ownB 3 17 30] .nil) .nil []) (.mk .nil (.mk (.co [.ownB 3 17 30] .nil) .nil []) []) []) []) []) []) .nil []) .nil []) []) [])
theorem Ww (n : Nat) : Pure Tryz.prog 27 Tj Ey (mY n) :=
 jM (Γ:=jB _ [(51,peM yC pW (rF n)),(52,peM Ca sU (vF n)),(53,peM yE pY (rH n))] []) (an:=zFn n) Tryz.func27 rfl (by kernel_rfl) dP (cO (all_cons (jU (Cc n)) (all_cons (jU (Gd n)) (all_cons (jU (Ch n)) (all_nil)))) (cZ)) mixed (bQ _ _ rfl) (fun x => by kernel_rfl)
def zFo (n : Nat) : An (bE Ez):=(.mk .nil (.scope 1 .nil (.loop ⟨88,[⟨2,false,[.v (.slice cK)]⟩,⟨3,false,[.v (.int .i64)]⟩,⟨4,false,[.ptr 0 0]⟩,⟨8,false,[.ptr 1 0]⟩,⟨10,false,[.v (.slice aT)]⟩,⟨11,false,[.v (.int .i64)]⟩,⟨12,false,[.ptr 2 0]⟩],[.box 29 [.v .bool,.v (.slice aR),.v (.slice aG),.v .bool,.v (.slice .str),.v .bool],.box 33 [.own 3,.v (.slice cK),.v (.int .i64),.v (.int .i64)],.box 78 [.v (.int .i64),.v (.int .i64),.v (.int .i64),.v (.int .i64),.v (.int .i64),.v .str,.v .str,.v .bool,.v .bool,.v .bool,.v (.slice gM),.v (.slice aT)],.row 90 aT]⟩ [.keep [false,false,true,true,true,false,false,false,true,false,true,true,true],.gcA 0,.ownB 1 0 30,.gcA 0] [.keep [false,false,true,true,true,false,false,false,true,false,true,true,true],.gcA 0,.gcA 0] n (.scope 0 .nil .nil))) [])
theorem Wx (n : Nat) : Pure Tryz.prog 10 Tm Ez (qL n) :=
 jM (Γ:=jB _ [(22,kX bK fM (iP n)),(23,kX Jp yB (iQ n)),(24,kX Yr Jq (Er n)),(25,kX Mh zX (jW n)),(26,kX Ti Ew (kS n)),(27,kX Tj Ey (mY n))] []) (an:=zFo n) Tryz.func10 rfl (by kernel_rfl) dP (cO (all_cons (fQ (Oq n)) (all_cons (fQ (Ph n)) (all_cons (fQ (Zd n)) (all_cons (fQ (Tn n)) (all_cons (fQ (Wv n)) (all_cons (fQ (Ww n)) (all_nil))))))) (cZ)) mixed (bQ _ _ rfl) (fun x => by kernel_rfl)
def rJ (n : Nat) : An (gJ.X):=.nil
theorem oP (n : Nat) : kH Tryz.prog 28 kQ gJ (bM n) :=
 kY (Γ:=jB _ [(55,peM sP sQ (pF n))] []) (an:=rJ n) (co:=[.gc [0,1]]) Tryz.func28 rfl (by kernel_rfl) dP (cO (all_cons (jU (Ga n)) (all_nil)) (cZ)) mixed (bQ _ _ rfl) (by kernel_rfl) (by kernel_rfl) (fun x => by kernel_rfl)
def zEg (n : Nat) : An (bE zY):=(.mk .nil (.mk .nil (.mk .nil (.mk (.mk .nil (.mk (.loop ⟨23,[⟨3,false,[.ptr 0 0]⟩,⟨4,false,[.v .str]⟩,⟨7,false,[.v (.slice aT)]⟩,⟨8,false,[.v (.int .i64)]⟩,⟨9,false,[.v (.int .i64)]⟩],[.box 89 [.bC 0 0,.own 1],.row 5 (.int .u8)]⟩ [.keep [false,false,false,true,true,false,false,true,true,true],.gcA 0,.ownB 0 1 87,.orn 0 0 0 0,.gcA 0] [.keep [false,false,false,true,true,false,false,true,true,true],.gcA 0,.gcA 0] n .nil) .nil []) []) .nil []) []) []) [])
theorem Tt (n : Nat) : Pure Tryz.prog 11 Mi zY (iN n) :=
 jM (Γ:=jB _ [(28,peM kQ gJ (bM n)),(29,peM rA mG (Builder_String n))] []) (an:=zEg n) Tryz.func11 rfl (by kernel_rfl) dP (cO (all_cons (jU (oP n)) (all_cons (jU (En n)) (all_nil))) (cZ)) mixed (bQ _ _ rfl) (fun x => by kernel_rfl)
def Gf (n : Nat) : An (bE uU):=(.mk .nil (.mk .nil (.mk .nil (.mk .nil (.mk .nil (.mk .nil (.mk (.co [.zAp 31,.zOq 0 4,.zAp 8,.zAp 30] .nil) .nil []) []) []) []) []) []) [])
theorem zJ (n : Nat) : Pure Tryz.prog 3 Jr uU (oG n) :=
 jM (Γ:=jB _ [(9,kX zDl zDm (shown16 n)),(10,kX Tm Ez (qL n)),(11,kX Mi zY (iN n)),(12,kX Iu Iw (lX n))] []) (an:=Gf n) Tryz.func3 rfl (by kernel_rfl) dP (cO (all_cons (fQ (zDn n)) (all_cons (fQ (Wx n)) (all_cons (fQ (Tt n)) (all_cons (fQ (Ot n)) (all_nil))))) (cZ)) mixed (bQ _ _ rfl) (fun x => by kernel_rfl)
end Go.Dec
