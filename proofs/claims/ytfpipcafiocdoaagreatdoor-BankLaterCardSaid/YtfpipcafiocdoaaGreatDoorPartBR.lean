/- Part of a proof over this seat: a library of my own, and what it says of this seat. No statement is proved here. -/
import Derived.Test.YtfpipcafiocdoaaGreatDoorProg
import Derived.Test.YtfpipcafiocdoaaGreatDoorPartBQ
import Derived.Test.YtfpipcafiocdoaaGreatDoorPartBP
import Derived.Test.YtfpipcafiocdoaaGreatDoorPartBL
import Derived.Test.YtfpipcafiocdoaaGreatDoorPartBO
import Derived.KernelRfl
namespace Go.Dec
open Go.Proofs
set_option linter.unusedVariables false
def tab:Tab:=[(3,⟨.int .i64,1,8,[.val (.int .i64) 0],some (.int .i64),false⟩),
 (4,⟨.bool,1,1,[.val .bool false],some .bool,false⟩),
 (5,⟨.int .u8,1,1,[.val (.int .u8) 0],some (.int .u8),false⟩),
 (9,⟨.str,1,16,[.val .str []],some .str,false⟩),
 (37,⟨.slice 179,1,24,[.aS],some (.slice aK),false⟩),
 (38,⟨.slice 61,1,24,[.aS],some (.slice aB),false⟩),
 (40,⟨.struct [(0,4),(1,37),(2,38)],3,56,[.val .bool false,.aS,.aS],some pQ,false⟩),
 (43,⟨.slice 134,1,24,[.aS],some (.slice dR),false⟩),
 (44,⟨.slice 169,1,24,[.aS],some (.slice aT),false⟩),
 (46,⟨.struct [(0,3),(1,3),(2,3),(3,3),(4,3),(5,9),(6,9),(7,4),(8,4),(9,4),(10,43),(11,44)],12,128,[.val (.int .i64) 0,.val (.int .i64) 0,.val (.int .i64) 0,.val (.int .i64) 0,.val (.int .i64) 0,.val .str [],.val .str [],.val .bool false,.val .bool false,.val .bool false,.aS,.aS],some bJ,false⟩),
 (51,⟨.slice 63,1,24,[.aS],some (.slice cO),false⟩),
 (52,⟨.slice 102,1,24,[.aS],some (.slice aT),false⟩),
 (56,⟨.struct [(0,3),(1,3),(2,3)],3,24,[.val (.int .i64) 0,.val (.int .i64) 0,.val (.int .i64) 0],some yG,true⟩),
 (58,⟨.struct [(0,56),(3,56),(6,4)],7,56,[.val (.int .i64) 0,.val (.int .i64) 0,.val (.int .i64) 0,.val (.int .i64) 0,.val (.int .i64) 0,.val (.int .i64) 0,.val .bool false],some tY,true⟩),
 (59,⟨.slice 300,1,24,[.aS],some (.slice wW),false⟩),
 (61,⟨.struct [(0,58),(7,5),(8,9),(9,9),(10,3),(11,3),(12,3),(13,59),(14,4),(15,4)],16,152,[.val (.int .i64) 0,.val (.int .i64) 0,.val (.int .i64) 0,.val (.int .i64) 0,.val (.int .i64) 0,.val (.int .i64) 0,.val .bool false,.val (.int .u8) 0,.val .str [],.val .str [],.val (.int .i64) 0,.val (.int .i64) 0,.val (.int .i64) 0,.aS,.val .bool false,.val .bool false],some aB,false⟩),
 (63,⟨.struct [(0,9),(1,9)],2,32,[.val .str [],.val .str []],some cO,true⟩),
 (69,⟨.slice 4,1,24,[.aS],some (.slice .bool),false⟩),
 (93,⟨.ptr 95,1,8,[.iO],none,false⟩),
 (95,⟨.struct [(0,46),(12,40),(15,4),(16,51),(17,52)],18,240,[.val (.int .i64) 0,.val (.int .i64) 0,.val (.int .i64) 0,.val (.int .i64) 0,.val (.int .i64) 0,.val .str [],.val .str [],.val .bool false,.val .bool false,.val .bool false,.aS,.aS,.val .bool false,.aS,.aS,.val .bool false,.aS,.aS],some zDs,false⟩),
 (102,⟨.struct [(0,9),(1,4)],2,24,[.val .str [],.val .bool false],some aT,true⟩),
 (129,⟨.slice 56,1,24,[.aS],some (.slice yG),false⟩),
 (131,⟨.slice 184,1,24,[.aS],some (.slice nN),false⟩),
 (134,⟨.struct [(0,4),(1,3)],2,16,[.val .bool false,.val (.int .i64) 0],some dR,true⟩),
 (138,⟨.struct [(0,3),(1,4),(2,69)],3,40,[.val (.int .i64) 0,.val .bool false,.aS],some zTq,false⟩),
 (169,⟨.struct [(0,9),(1,4)],2,24,[.val .str [],.val .bool false],some aT,true⟩),
 (179,⟨.struct [(0,131),(1,4)],2,32,[.aS,.val .bool false],some aK,false⟩),
 (180,⟨.int .u64,1,8,[.val (.int .u64) 0],some (.int .u64),false⟩),
 (182,⟨.arr 4 180,4,32,[.val (.arr 4 (.int .u64)) ([0,0,0,0])],some (.arr 4 (.int .u64)),true⟩),
 (184,⟨.struct [(0,3),(1,182),(5,3),(6,3),(7,3),(8,3),(9,3)],10,80,[.val (.int .i64) 0,.val (.arr 4 (.int .u64)) ([0,0,0,0]),.val (.int .i64) 0,.val (.int .i64) 0,.val (.int .i64) 0,.val (.int .i64) 0,.val (.int .i64) 0],some nN,true⟩),
 (233,⟨.func,1,8,[.val .opq Value.nilFunc],some .opq,false⟩),
 (300,⟨.struct [(0,9),(1,3)],2,24,[.val .str [],.val (.int .i64) 0],some wW,true⟩)]
theorem eO:aP Tryz.prog tab:=Lv (by kernel_rfl)
theorem mixed:Tryz.prog.follows .mixedOrders=true:=by kernel_rfl
abbrev tZ:Sh:=⟨3,[⟨0,false,[.ptr 0 0]⟩,⟨1,false,[.v .str]⟩,⟨2,false,[.v .bool]⟩],[.box 95 [.v (.int .i64),.v (.int .i64),.v (.int .i64),.v (.int .i64),.v (.int .i64),.v .str,.v .str,.v .bool,.v .bool,.v .bool,.v (.slice dR),.v (.slice aT),.v .bool,.v (.slice aK),.v (.slice aB),.v .bool,.v (.slice cO),.own 1],.row 102 aT]⟩
abbrev oL:Sh:=⟨0,[],[.box 95 [.v (.int .i64),.v (.int .i64),.v (.int .i64),.v (.int .i64),.v (.int .i64),.v .str,.v .str,.v .bool,.v .bool,.v .bool,.v (.slice dR),.v (.slice aT),.v .bool,.v (.slice aK),.v (.slice aB),.v .bool,.v (.slice cO),.own 1],.row 102 aT]⟩
abbrev vM:Sh:=⟨1,[⟨0,false,[.ptr 0 0]⟩],[.box 95 [.v (.int .i64),.v (.int .i64),.v (.int .i64),.v (.int .i64),.v (.int .i64),.v .str,.v .str,.v .bool,.v .bool,.v .bool,.v (.slice dR),.v (.slice aT),.v .bool,.v (.slice aK),.v (.slice aB),.v .bool,.v (.slice cO),.own 1],.row 102 aT]⟩
abbrev nO:Sh:=⟨0,[],[.box 95 [.v (.int .i64),.v (.int .i64),.v (.int .i64),.v (.int .i64),.v (.int .i64),.v .str,.v .str,.v .bool,.v .bool,.v .bool,.v (.slice dR),.v (.slice aT),.v .bool,.v (.slice aK),.v (.slice aB),.v .bool,.v (.slice cO),.own 1],.row 102 aT]⟩
abbrev qJ:Sh:=⟨1,[⟨0,false,[.ptr 0 0]⟩],[.box 95 [.v (.int .i64),.v (.int .i64),.v (.int .i64),.v (.int .i64),.v (.int .i64),.v .str,.v .str,.v .bool,.v .bool,.v .bool,.v (.slice dR),.v (.slice aT),.v .bool,.v (.slice aK),.v (.slice aB),.v .bool,.v (.slice cO),.own 1],.row 102 aT]⟩
abbrev mD:Sh:=⟨0,[],[.box 95 [.v (.int .i64),.v (.int .i64),.v (.int .i64),.v (.int .i64),.v (.int .i64),.v .str,.v .str,.v .bool,.v .bool,.v .bool,.v (.slice dR),.v (.slice aT),.v .bool,.v (.slice aK),.v (.slice aB),.v .bool,.v (.slice cO),.own 1],.row 102 aT]⟩
abbrev Iy:Sh:=⟨2,[⟨0,true,[.v .str,.v .str]⟩,⟨1,false,[.ptr 0 0]⟩],[.box 9 [.v .str]]⟩
abbrev yH:Sh:=⟨1,[⟨0,false,[.v .bool]⟩],[.box 9 [.v .str]]⟩
abbrev iK:Sh:=⟨2,[⟨0,false,[.v (.slice cO)]⟩,⟨1,false,[.clo 167 [(0,0)]]⟩],[.box 9 [.v .str]]⟩
abbrev eH:Sh:=⟨1,[⟨0,false,[.v (.int .i64)]⟩],[.box 9 [.v .str]]⟩
abbrev Rm:List Ty:=[.slice cO,.str]
abbrev Eo:List Ty:=[.str,.bool]
abbrev fP:List Ty:=[.str,.str]
abbrev dJ:List Ty:=[.bool]
abbrev jT:List Ty:=[.str,.str]
abbrev fQ:List Ty:=[.str,.bool]
abbrev vN:List Ty:=[.str,.str]
abbrev nP:List Ty:=[.str,.bool]
abbrev yI:Sh:=⟨1,[⟨0,false,[.ptr 0 0]⟩],[.box 95 [.v (.int .i64),.v (.int .i64),.v (.int .i64),.v (.int .i64),.v (.int .i64),.v .str,.v .str,.v .bool,.v .bool,.v .bool,.v (.slice dR),.v (.slice aT),.v .bool,.v (.slice aK),.v (.slice aB),.v .bool,.v (.slice cO),.own 1],.row 102 aT]⟩
abbrev qK:Sh:=⟨0,[],[.box 95 [.v (.int .i64),.v (.int .i64),.v (.int .i64),.v (.int .i64),.v (.int .i64),.v .str,.v .str,.v .bool,.v .bool,.v .bool,.v (.slice dR),.v (.slice aT),.v .bool,.v (.slice aK),.v (.slice aB),.v .bool,.v (.slice cO),.own 1],.row 102 aT]⟩
abbrev uD:Sh:=⟨1,[⟨0,false,[.ptr 0 0]⟩],[.box 95 [.v (.int .i64),.v (.int .i64),.v (.int .i64),.v (.int .i64),.v (.int .i64),.v .str,.v .str,.v .bool,.v .bool,.v .bool,.v (.slice dR),.v (.slice aT),.v .bool,.v (.slice aK),.v (.slice aB),.v .bool,.v (.slice cO),.own 1],.row 102 aT]⟩
abbrev oM:Sh:=⟨0,[],[.box 95 [.v (.int .i64),.v (.int .i64),.v (.int .i64),.v (.int .i64),.v (.int .i64),.v .str,.v .str,.v .bool,.v .bool,.v .bool,.v (.slice dR),.v (.slice aT),.v .bool,.v (.slice aK),.v (.slice aB),.v .bool,.v (.slice cO),.own 1],.row 102 aT]⟩
abbrev oP:Sh:=Zu dR
abbrev oQ:Sh:=Gz 134 dR
abbrev qM:Sh:=⟨2,[⟨0,false,[.ptr 0 0]⟩,⟨1,true,[.v (.int .i64),.v (.int .i64),.v (.int .i64),.v (.int .i64),.v (.int .i64),.v (.int .i64),.v .bool,.v (.int .u8),.v .str,.v .str,.v (.int .i64),.v (.int .i64),.v (.int .i64),.v (.slice wW),.v .bool,.v .bool]⟩],[.box 95 [.v (.int .i64),.v (.int .i64),.v (.int .i64),.v (.int .i64),.v (.int .i64),.v .str,.v .str,.v .bool,.v .bool,.v .bool,.v (.slice dR),.v (.slice aT),.v .bool,.v (.slice aK),.v (.slice aB),.v .bool,.v (.slice cO),.own 1],.row 102 aT]⟩
abbrev mE:Sh:=⟨1,[⟨0,false,[.v .bool]⟩],[.box 95 [.v (.int .i64),.v (.int .i64),.v (.int .i64),.v (.int .i64),.v (.int .i64),.v .str,.v .str,.v .bool,.v .bool,.v .bool,.own 2,.v (.slice aT),.v .bool,.v (.slice aK),.v (.slice aB),.v .bool,.v (.slice cO),.own 1],.row 102 aT,.row 134 dR]⟩
abbrev jN:List Ty:=[.str,.str]
abbrev fF:List Ty:=[.str]
abbrev sI:List Ty:=[.str,.str]
abbrev mR:List Ty:=[.str]
abbrev Rn:List Ty:=[aB]
abbrev Ep:List Ty:=[.str]
abbrev vO:List Ty:=[.slice aT]
abbrev nQ:List Ty:=[.clip aT]
abbrev qN:Sh:=⟨2,[⟨0,false,[.ptr 0 0]⟩,⟨1,true,[.v .str,.v .bool]⟩],[.box 95 [.v (.int .i64),.v (.int .i64),.v (.int .i64),.v (.int .i64),.v (.int .i64),.v .str,.v .str,.v .bool,.v .bool,.v .bool,.own 1,.v (.slice aT),.v .bool,.v (.slice aK),.v (.slice aB),.v .bool,.v (.slice cO),.own 2],.row 134 dR,.row 102 aT]⟩
abbrev mF:Sh:=⟨0,[],[.box 95 [.v (.int .i64),.v (.int .i64),.v (.int .i64),.v (.int .i64),.v (.int .i64),.v .str,.v .str,.v .bool,.v .bool,.v .bool,.own 1,.v (.slice aT),.v .bool,.v (.slice aK),.v (.slice aB),.v .bool,.v (.slice cO),.own 2],.row 134 dR,.row 102 aT]⟩
abbrev zM:Sh:=⟨2,[⟨0,false,[.ptr 0 0]⟩,⟨1,true,[.v (.int .i64),.v (.int .i64),.v (.int .i64),.v (.int .i64),.v (.int .i64),.v (.int .i64),.v .bool,.v (.int .u8),.v .str,.v .str,.v (.int .i64),.v (.int .i64),.v (.int .i64),.v (.slice wW),.v .bool,.v .bool]⟩],[.box 95 [.v (.int .i64),.v (.int .i64),.v (.int .i64),.v (.int .i64),.v (.int .i64),.v .str,.v .str,.v .bool,.v .bool,.v .bool,.own 1,.v (.slice aT),.v .bool,.v (.slice aK),.v (.slice aB),.v .bool,.v (.slice cO),.own 2],.row 134 dR,.row 102 aT]⟩
abbrev sF:Sh:=⟨0,[],[.box 95 [.v (.int .i64),.v (.int .i64),.v (.int .i64),.v (.int .i64),.v (.int .i64),.v .str,.v .str,.v .bool,.v .bool,.v .bool,.own 1,.v (.slice aT),.v .bool,.v (.slice aK),.v (.slice aB),.v .bool,.v (.slice cO),.own 2],.row 134 dR,.row 102 aT]⟩
abbrev xC:List Ty:=[pQ,.bool,bJ,.slice cO]
abbrev oN:List Ty:=[bJ,.slice cO,.slice aT]
def Ro (n:Nat):An (oL.X):=.nil
theorem sJ (n:Nat):jS Tryz.prog 106 tZ oL (kC n) :=
 iT (Γ:=gJ _ [] []) (an:=Ro n) (co:=[.gc [0,1]]) Tryz.func106 rfl (by kernel_rfl) eO (bM (all_nil) (bP)) mixed (bH _ _ rfl) (by kernel_rfl) (by kernel_rfl) (fun x=>by kernel_rfl)
def Fp (n:Nat):An (nO.X):=.nil
theorem yM (n:Nat):jS Tryz.prog 57 vM nO (oZ n) :=
 iT (Γ:=gJ _ [(106,peM tZ oL (kC n))] []) (an:=Fp n) (co:=[.gc [0,1]]) Tryz.func57 rfl (by kernel_rfl) eO (bM (all_cons (fH (sJ n)) (all_nil)) (bP)) mixed (bH _ _ rfl) (by kernel_rfl) (by kernel_rfl) (fun x=>by kernel_rfl)
def Kl (n:Nat):An (mD.X):=.nil
theorem rE (n:Nat):jS Tryz.prog 36 qJ mD (iJ n) :=
 iT (Γ:=gJ _ [(57,peM vM nO (oZ n))] []) (an:=Kl n) (co:=[.gc [0,1]]) Tryz.func36 rfl (by kernel_rfl) eO (bM (all_cons (fH (yM n)) (all_nil)) (bP)) mixed (bH _ _ rfl) (by kernel_rfl) (by kernel_rfl) (fun x=>by kernel_rfl)
def Wm (n:Nat):An (yH.X):=.nil
theorem Km (n:Nat):jS Tryz.prog 167 Iy yH (zZ n) :=
 iT (Γ:=gJ _ [] []) (an:=Wm n) (co:=[.gc [0]]) Tryz.func167 rfl (by kernel_rfl) eO (bM (all_nil) (bP)) mixed (bH _ _ rfl) (by kernel_rfl) (by kernel_rfl) (fun x=>by kernel_rfl)
def nR (n:Nat):An (eH.X):=(.mk .nil (.mk (.mk .nil (.mk (.loop ⟨19,[⟨0,false,[.v (.slice cO)]⟩,⟨1,false,[.clo 167 [(0,0)]]⟩,⟨7,false,[.v (.int .i64)]⟩,⟨8,false,[.v (.int .i64)]⟩],[.box 9 [.v .str]]⟩ [.keep [true,true,false,false,false,false,false,true,true],.gcA 1,.gcA 1] [.keep [true,true,false,false,false,false,false,true,true],.gcA 1,.gcA 1] n .nil) .nil []) []) .nil []) [])
theorem mG (n:Nat):jS Tryz.prog 166 iK eH (eT n) :=
 iT (Γ:=gJ _ [(167,peM Iy yH (zZ n))] []) (an:=nR n) (co:=[.gc [0]]) Tryz.func166 rfl (by kernel_rfl) eO (bM (all_cons (fH (Km n)) (all_nil)) (bP)) mixed (bH _ _ rfl) (by kernel_rfl) (by kernel_rfl) (fun x=>by kernel_rfl)
def zDt (n:Nat):An (bG Eo):=.nil
theorem Ue (n:Nat):Pure Tryz.prog 107 Rm Eo (Im n) :=
 iH (Γ:=gJ _ [(166,peM iK eH (eT n))] []) (an:=zDt n) Tryz.func107 rfl (by kernel_rfl) eO (bM (all_cons (fH (mG n)) (all_nil)) (bP)) mixed (bH _ _ rfl) (fun x=>by kernel_rfl)
def qO (n:Nat):An (bG dJ):=.nil
theorem iL (n:Nat):Pure Tryz.prog 217 fP dJ (aU n) :=
 iH (Γ:=gJ _ [] []) (an:=qO n) Tryz.func217 rfl (by kernel_rfl) eO (bM (all_nil) (bP)) mixed (bH _ _ rfl) (fun x=>by kernel_rfl)
def qP (n:Nat):An (bG fQ):=.nil
theorem oO (n:Nat):Pure Tryz.prog 168 jT fQ (bT n) :=
 iH (Γ:=gJ _ [(217,lS fP dJ (aU n))] []) (an:=qP n) Tryz.func168 rfl (by kernel_rfl) eO (bM (all_cons (gG (iL n)) (all_nil)) (bP)) mixed (bH _ _ rfl) (fun x=>by kernel_rfl)
def Fq (n:Nat):An (bG nP):=.nil
theorem Aa (n:Nat):Pure Tryz.prog 108 vN nP (strings_CutSuffix n) :=
 iH (Γ:=gJ _ [(168,lS jT fQ (bT n))] []) (an:=Fq n) Tryz.func108 rfl (by kernel_rfl) eO (bM (all_cons (gG (oO n)) (all_nil)) (bP)) mixed (bH _ _ rfl) (fun x=>by kernel_rfl)
def Kn (n:Nat):An (qK.X):=(.mk (.mk .nil (.mk (.loop ⟨51,[⟨0,false,[.ptr 0 0]⟩,⟨12,false,[.v (.slice aT)]⟩,⟨13,false,[.v (.int .i64)]⟩,⟨14,false,[.v (.int .i64)]⟩],[.box 95 [.v (.int .i64),.v (.int .i64),.v (.int .i64),.v (.int .i64),.v (.int .i64),.v .str,.v .str,.v .bool,.v .bool,.v .bool,.v (.slice dR),.v (.slice aT),.v .bool,.v (.slice aK),.v (.slice aB),.v .bool,.v (.slice cO),.own 1],.row 102 aT]⟩ [.keep [true,false,false,false,false,false,false,false,false,false,false,false,true,true,true],.gcA 2,.gcA 2] [.keep [true,false,false,false,false,false,false,false,false,false,false,false,true,true,true],.gcA 2,.gcA 2] n .nil) .nil []) []) .nil [])
theorem Br (n:Nat):jS Tryz.prog 58 yI qK (kJ n) :=
 iT (Γ:=gJ _ [(106,peM tZ oL (kC n)),(107,lS Rm Eo (Im n)),(108,lS vN nP (strings_CutSuffix n))] []) (an:=Kn n) (co:=[.gc [0,1]]) Tryz.func58 rfl (by kernel_rfl) eO (bM (all_cons (fH (sJ n)) (all_cons (gG (Ue n)) (all_cons (gG (Aa n)) (all_nil)))) (bP)) mixed (bH _ _ rfl) (by kernel_rfl) (by kernel_rfl) (fun x=>by kernel_rfl)
def Rp (n:Nat):An (oM.X):=.nil
theorem sK (n:Nat):jS Tryz.prog 37 uD oM (kD n) :=
 iT (Γ:=gJ _ [(58,peM yI qK (kJ n))] []) (an:=Rp n) (co:=[.gc [0,1]]) Tryz.func37 rfl (by kernel_rfl) eO (bM (all_cons (fH (Br n)) (all_nil)) (bP)) mixed (bH _ _ rfl) (by kernel_rfl) (by kernel_rfl) (fun x=>by kernel_rfl)
theorem uE (n:Nat):jS Tryz.prog 62 oP oQ (kR n) :=
 zDd (T:=tab) Tryz.func62 rfl rfl rfl Tryz.underlying43 (by kernel_rfl) eO rfl rfl rfl rfl (by decide) (by decide) (fun _=>rfl)
def Ko (n:Nat):An (mE.X):=(.mk .nil (.mk .nil (.mk (.mk .nil (.mk (.loop ⟨100,[⟨0,false,[.ptr 0 0]⟩,⟨3,false,[.ptr 2 0]⟩,⟨5,false,[.own 3]⟩,⟨23,false,[.own 4]⟩,⟨24,false,[.v (.int .i64)]⟩,⟨25,false,[.v (.int .i64)]⟩],[.box 95 [.v (.int .i64),.v (.int .i64),.v (.int .i64),.v (.int .i64),.v (.int .i64),.v .str,.v .str,.v .bool,.v .bool,.v .bool,.v (.slice dR),.v (.slice aT),.v .bool,.v (.slice aK),.v (.slice aB),.v .bool,.v (.slice cO),.own 1],.row 102 aT,.box 61 [.v (.int .i64),.v (.int .i64),.v (.int .i64),.v (.int .i64),.v (.int .i64),.v (.int .i64),.v .bool,.v (.int .u8),.v .str,.v .str,.v (.int .i64),.v (.int .i64),.v (.int .i64),.v (.slice wW),.v .bool,.v .bool],.row 4 .bool,.row 56 yG]⟩ [.keep [true,false,false,true,false,true,false,false,false,false,false,false,false,false,false,false,false,false,false,false,false,false,false,true,true,true],.gcA 2,.gcA 2] [.keep [true,false,false,true,false,true,false,false,false,false,false,false,false,false,false,false,false,false,false,false,false,false,false,true,true,true],.gcA 2,.gcA 2] n .nil) .nil []) []) (.mk (.co [.zGm 5] .nil) .nil []) []) []) [])
theorem rF (n:Nat):jS Tryz.prog 38 qM mE (bU n) :=
 iT (Γ:=gJ _ [(61,lS lI rC (nM n)),(62,peM oP oQ (kR n))] []) (an:=Ko n) (co:=[.gc [0,1,6]]) Tryz.func38 rfl (by kernel_rfl) eO (bM (all_cons (gG (Wj n)) (all_cons (fH (uE n)) (all_nil))) (bP)) mixed (bH _ _ rfl) (by kernel_rfl) (by kernel_rfl) (fun x=>by kernel_rfl)
def pR (n:Nat):An (bG fF):=.nil
theorem nS (n:Nat):Pure Tryz.prog 178 jN fF (dI n) :=
 iH (Γ:=gJ _ [(217,lS fP dJ (aU n))] []) (an:=pR n) Tryz.func178 rfl (by kernel_rfl) eO (bM (all_cons (gG (iL n)) (all_nil)) (bP)) mixed (bH _ _ rfl) (fun x=>by kernel_rfl)
def Er (n:Nat):An (bG mR):=.nil
theorem yN (n:Nat):Pure Tryz.prog 115 sI mR (strings_TrimSuffix n) :=
 iH (Γ:=gJ _ [(178,lS jN fF (dI n))] []) (an:=Er n) Tryz.func115 rfl (by kernel_rfl) eO (bM (all_cons (gG (nS n)) (all_nil)) (bP)) mixed (bH _ _ rfl) (fun x=>by kernel_rfl)
def zDu (n:Nat):An (bG Ep):=.nil
theorem Uf (n:Nat):Pure Tryz.prog 114 Rn Ep (vK n) :=
 iH (Γ:=gJ _ [(115,lS sI mR (strings_TrimSuffix n))] []) (an:=zDu n) Tryz.func114 rfl (by kernel_rfl) eO (bM (all_cons (gG (yN n)) (all_nil)) (bP)) mixed (bH _ _ rfl) (fun x=>by kernel_rfl)
def Fv (n:Nat):An (bG nQ):=.nil
theorem Ab (n:Nat):Pure Tryz.prog 177 vO nQ (pE n) :=
 iH (Γ:=gJ _ [] []) (an:=Fv n) Tryz.func177 rfl (by kernel_rfl) eO (bM (all_nil) (bP)) mixed (bH _ _ rfl) (fun x=>by kernel_rfl)
def Kq (n:Nat):An (mF.X):=.nil
theorem rG (n:Nat):jS Tryz.prog 113 qN mF (kK n) :=
 iT (Γ:=gJ _ [(177,lS vO nQ (pE n))] []) (an:=Kq n) (co:=[.gc [0,1,2]]) Tryz.func113 rfl (by kernel_rfl) eO (bM (all_cons (gG (Ab n)) (all_nil)) (bP)) mixed (bH _ _ rfl) (by kernel_rfl) (by kernel_rfl) (fun x=>by kernel_rfl)
def Ny (n:Nat):An (sF.X):=.nil
theorem Es (n:Nat):jS Tryz.prog 65 zM sF (lD n) :=
 iT (Γ:=gJ _ [(114,lS Rn Ep (vK n)),(113,peM qN mF (kK n))] []) (an:=Ny n) (co:=[.gc [0,1,2]]) Tryz.func65 rfl (by kernel_rfl) eO (bM (all_cons (gG (Uf n)) (all_cons (fH (rG n)) (all_nil))) (bP)) mixed (bH _ _ rfl) (by kernel_rfl) (by kernel_rfl) (fun x=>by kernel_rfl)
def zCe (n:Nat):An (bG oN):=(.mk .nil (.mk .nil (.mk (.mk (.mk .nil (.mk .nil (.mk .nil (.mk (.mk (.co [.ownB 3 17 52] .nil) .nil []) (.mk .nil (.mk (.co [.ownB 3 17 52] .nil) .nil []) []) []) []) []) []) .nil []) .nil []) []) [])
theorem Nz (n:Nat):Pure Tryz.prog 19 xC oN (fA n) :=
 iH (Γ:=gJ _ [(36,peM qJ mD (iJ n)),(37,peM uD oM (kD n)),(38,peM qM mE (bU n)),(39,peH 97 65),(65,peM zM sF (lD n))] []) (an:=zCe n) Tryz.func19 rfl (by kernel_rfl) eO (bM (all_cons (fH (rE n)) (all_cons (fH (sK n)) (all_cons (fH (rF n)) (all_cons (zLo (Qz.ok _ (by simp [Ka]))) (all_cons (fH (Es n)) (all_nil)))))) (bP)) mixed (bH _ _ rfl) (fun x=>by kernel_rfl)
abbrev yJ:Sh:=⟨2,[⟨0,false,[.ptr 0 0]⟩,⟨1,true,[.v (.int .i64),.v (.int .i64),.v (.int .i64),.v (.int .i64),.v (.int .i64),.v (.int .i64),.v .bool,.v (.int .u8),.v .str,.v .str,.v (.int .i64),.v (.int .i64),.v (.int .i64),.v (.slice wW),.v .bool,.v .bool]⟩],[.box 95 [.v (.int .i64),.v (.int .i64),.v (.int .i64),.v (.int .i64),.v (.int .i64),.v .str,.v .str,.v .bool,.v .bool,.v .bool,.own 1,.v (.slice aT),.v .bool,.v (.slice aK),.v (.slice aB),.v .bool,.v (.slice cO),.own 2],.row 134 dR,.row 102 aT]⟩
abbrev qQ:Sh:=⟨0,[],[.box 95 [.v (.int .i64),.v (.int .i64),.v (.int .i64),.v (.int .i64),.v (.int .i64),.v .str,.v .str,.v .bool,.v .bool,.v .bool,.own 1,.v (.slice aT),.v .bool,.v (.slice aK),.v (.slice aB),.v .bool,.v (.slice cO),.own 2],.row 134 dR,.row 102 aT]⟩
def Kr (n:Nat):An (qQ.X):=.nil
theorem Bu (n:Nat):jS Tryz.prog 77 yJ qQ (sD n) :=
 iT (Γ:=gJ _ [(113,peM qN mF (kK n))] []) (an:=Kr n) (co:=[.gc [0,1,2]]) Tryz.func77 rfl (by kernel_rfl) eO (bM (all_cons (fH (rG n)) (all_nil)) (bP)) mixed (bH _ _ rfl) (by kernel_rfl) (by kernel_rfl) (fun x=>by kernel_rfl)
def zCf (n:Nat):An (bG oN):=(.mk .nil (.mk .nil (.mk (.mk (.mk .nil (.mk .nil (.mk .nil (.mk (.mk (.co [.ownB 3 17 52] .nil) .nil []) (.mk .nil (.mk (.co [.ownB 3 17 52] .nil) .nil []) []) []) []) []) []) .nil []) .nil []) []) [])
theorem Oa (n:Nat):Pure Tryz.prog 19 xC oN (uT n) :=
 iH (Γ:=gJ _ [(36,peM qJ mD (iJ n)),(37,peM uD oM (kD n)),(38,peM qM mE (bU n)),(39,peH 114 77),(77,peM yJ qQ (sD n))] []) (an:=zCf n) Tryz.func19 rfl (by kernel_rfl) eO (bM (all_cons (fH (rE n)) (all_cons (fH (sK n)) (all_cons (fH (rF n)) (all_cons (zLo (Qz.ok _ (by simp [Ka]))) (all_cons (fH (Bu n)) (all_nil)))))) (bP)) mixed (bH _ _ rfl) (fun x=>by kernel_rfl)
theorem Ug (n:Nat):Pure Tryz.prog 19 xC oN (vL n):=pure_or (Nz n) (Oa n)
end Go.Dec
