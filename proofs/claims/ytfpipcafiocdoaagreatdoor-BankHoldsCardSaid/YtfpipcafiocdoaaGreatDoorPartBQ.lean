/- Part of a proof over this seat: a library of my own, and what it says of this seat. No statement is proved here. -/
import Derived.Test.YtfpipcafiocdoaaGreatDoorProg
import Derived.Test.YtfpipcafiocdoaaGreatDoorPartBP
import Derived.Test.YtfpipcafiocdoaaGreatDoorPartBO
import Derived.Test.YtfpipcafiocdoaaGreatDoorPartBL
import Derived.Test.YtfpipcafiocdoaaGreatDoorPartBN
import Derived.KernelRfl
namespace Go.Dec
open Go.Proofs
set_option linter.unusedVariables false
def tab:Tab:=[(3,⟨.int .i64,1,8,[.val (.int .i64) 0],some (.int .i64),false⟩),
 (4,⟨.bool,1,1,[.val .bool false],some .bool,false⟩),
 (5,⟨.int .u8,1,1,[.val (.int .u8) 0],some (.int .u8),false⟩),
 (9,⟨.str,1,16,[.val .str []],some .str,false⟩),
 (37,⟨.slice 179,1,24,[.aX],some (.slice aM),false⟩),
 (38,⟨.slice 61,1,24,[.aX],some (.slice aA),false⟩),
 (40,⟨.struct [(0,4),(1,37),(2,38)],3,56,[.val .bool false,.aX,.aX],some qV,false⟩),
 (43,⟨.slice 134,1,24,[.aX],some (.slice bW),false⟩),
 (44,⟨.slice 169,1,24,[.aX],some (.slice aS),false⟩),
 (46,⟨.struct [(0,3),(1,3),(2,3),(3,3),(4,3),(5,9),(6,9),(7,4),(8,4),(9,4),(10,43),(11,44)],12,128,[.val (.int .i64) 0,.val (.int .i64) 0,.val (.int .i64) 0,.val (.int .i64) 0,.val (.int .i64) 0,.val .str [],.val .str [],.val .bool false,.val .bool false,.val .bool false,.aX,.aX],some bT,false⟩),
 (51,⟨.slice 63,1,24,[.aX],some (.slice bX),false⟩),
 (52,⟨.slice 102,1,24,[.aX],some (.slice aS),false⟩),
 (56,⟨.struct [(0,3),(1,3),(2,3)],3,24,[.val (.int .i64) 0,.val (.int .i64) 0,.val (.int .i64) 0],some zM,true⟩),
 (58,⟨.struct [(0,56),(3,56),(6,4)],7,56,[.val (.int .i64) 0,.val (.int .i64) 0,.val (.int .i64) 0,.val (.int .i64) 0,.val (.int .i64) 0,.val (.int .i64) 0,.val .bool false],some vE,true⟩),
 (59,⟨.slice 300,1,24,[.aX],some (.slice vX),false⟩),
 (61,⟨.struct [(0,58),(7,5),(8,9),(9,9),(10,3),(11,3),(12,3),(13,59),(14,4),(15,4)],16,152,[.val (.int .i64) 0,.val (.int .i64) 0,.val (.int .i64) 0,.val (.int .i64) 0,.val (.int .i64) 0,.val (.int .i64) 0,.val .bool false,.val (.int .u8) 0,.val .str [],.val .str [],.val (.int .i64) 0,.val (.int .i64) 0,.val (.int .i64) 0,.aX,.val .bool false,.val .bool false],some aA,false⟩),
 (63,⟨.struct [(0,9),(1,9)],2,32,[.val .str [],.val .str []],some bX,true⟩),
 (69,⟨.slice 4,1,24,[.aX],some (.slice .bool),false⟩),
 (93,⟨.ptr 95,1,8,[.jF],none,false⟩),
 (95,⟨.struct [(0,46),(12,40),(15,4),(16,51),(17,52)],18,240,[.val (.int .i64) 0,.val (.int .i64) 0,.val (.int .i64) 0,.val (.int .i64) 0,.val (.int .i64) 0,.val .str [],.val .str [],.val .bool false,.val .bool false,.val .bool false,.aX,.aX,.val .bool false,.aX,.aX,.val .bool false,.aX,.aX],some zDm,false⟩),
 (102,⟨.struct [(0,9),(1,4)],2,24,[.val .str [],.val .bool false],some aS,true⟩),
 (129,⟨.slice 56,1,24,[.aX],some (.slice zM),false⟩),
 (131,⟨.slice 184,1,24,[.aX],some (.slice oF),false⟩),
 (134,⟨.struct [(0,4),(1,3)],2,16,[.val .bool false,.val (.int .i64) 0],some bW,true⟩),
 (138,⟨.struct [(0,3),(1,4),(2,69)],3,40,[.val (.int .i64) 0,.val .bool false,.aX],some zSx,false⟩),
 (169,⟨.struct [(0,9),(1,4)],2,24,[.val .str [],.val .bool false],some aS,true⟩),
 (179,⟨.struct [(0,131),(1,4)],2,32,[.aX,.val .bool false],some aM,false⟩),
 (180,⟨.int .u64,1,8,[.val (.int .u64) 0],some (.int .u64),false⟩),
 (182,⟨.arr 4 180,4,32,[.val (.arr 4 (.int .u64)) ([0,0,0,0])],some (.arr 4 (.int .u64)),true⟩),
 (184,⟨.struct [(0,3),(1,182),(5,3),(6,3),(7,3),(8,3),(9,3)],10,80,[.val (.int .i64) 0,.val (.arr 4 (.int .u64)) ([0,0,0,0]),.val (.int .i64) 0,.val (.int .i64) 0,.val (.int .i64) 0,.val (.int .i64) 0,.val (.int .i64) 0],some oF,true⟩),
 (233,⟨.func,1,8,[.val .opq Value.nilFunc],some .opq,false⟩),
 (300,⟨.struct [(0,9),(1,3)],2,24,[.val .str [],.val (.int .i64) 0],some vX,true⟩)]
theorem eO:aZ Tryz.prog tab:=Na (by kernel_rfl)
theorem mixed:Tryz.prog.follows .mixedOrders=true:=by kernel_rfl
abbrev vG:Sh:=⟨3,[⟨0,false,[.ptr 0 0]⟩,⟨1,false,[.v .str]⟩,⟨2,false,[.v .bool]⟩],[.box 95 [.v (.int .i64),.v (.int .i64),.v (.int .i64),.v (.int .i64),.v (.int .i64),.v .str,.v .str,.v .bool,.v .bool,.v .bool,.v (.slice bW),.v (.slice aS),.v .bool,.v (.slice aM),.v (.slice aA),.v .bool,.v (.slice bX),.own 1],.row 102 aS]⟩
abbrev qB:Sh:=⟨0,[],[.box 95 [.v (.int .i64),.v (.int .i64),.v (.int .i64),.v (.int .i64),.v (.int .i64),.v .str,.v .str,.v .bool,.v .bool,.v .bool,.v (.slice bW),.v (.slice aS),.v .bool,.v (.slice aM),.v (.slice aA),.v .bool,.v (.slice bX),.own 1],.row 102 aS]⟩
abbrev wR:Sh:=⟨1,[⟨0,false,[.ptr 0 0]⟩],[.box 95 [.v (.int .i64),.v (.int .i64),.v (.int .i64),.v (.int .i64),.v (.int .i64),.v .str,.v .str,.v .bool,.v .bool,.v .bool,.v (.slice bW),.v (.slice aS),.v .bool,.v (.slice aM),.v (.slice aA),.v .bool,.v (.slice bX),.own 1],.row 102 aS]⟩
abbrev oI:Sh:=⟨0,[],[.box 95 [.v (.int .i64),.v (.int .i64),.v (.int .i64),.v (.int .i64),.v (.int .i64),.v .str,.v .str,.v .bool,.v .bool,.v .bool,.v (.slice bW),.v (.slice aS),.v .bool,.v (.slice aM),.v (.slice aA),.v .bool,.v (.slice bX),.own 1],.row 102 aS]⟩
abbrev mQ:Sh:=⟨1,[⟨0,false,[.ptr 0 0]⟩],[.box 95 [.v (.int .i64),.v (.int .i64),.v (.int .i64),.v (.int .i64),.v (.int .i64),.v .str,.v .str,.v .bool,.v .bool,.v .bool,.v (.slice bW),.v (.slice aS),.v .bool,.v (.slice aM),.v (.slice aA),.v .bool,.v (.slice bX),.own 1],.row 102 aS]⟩
abbrev jM:Sh:=⟨0,[],[.box 95 [.v (.int .i64),.v (.int .i64),.v (.int .i64),.v (.int .i64),.v (.int .i64),.v .str,.v .str,.v .bool,.v .bool,.v .bool,.v (.slice bW),.v (.slice aS),.v .bool,.v (.slice aM),.v (.slice aA),.v .bool,.v (.slice bX),.own 1],.row 102 aS]⟩
abbrev Jw:Sh:=⟨2,[⟨0,true,[.v .str,.v .str]⟩,⟨1,false,[.ptr 0 0]⟩],[.box 9 [.v .str]]⟩
abbrev zQ:Sh:=⟨1,[⟨0,false,[.v .bool]⟩],[.box 9 [.v .str]]⟩
abbrev iN:Sh:=⟨2,[⟨0,false,[.v (.slice bX)]⟩,⟨1,false,[.clo 167 [(0,0)]]⟩],[.box 9 [.v .str]]⟩
abbrev eG:Sh:=⟨1,[⟨0,false,[.v (.int .i64)]⟩],[.box 9 [.v .str]]⟩
abbrev Gm:List Ty:=[.slice bX,.str]
abbrev yI:List Ty:=[.str,.bool]
abbrev jT:List Ty:=[.str,.str]
abbrev fP:List Ty:=[.bool]
abbrev jU:List Ty:=[.str,.str]
abbrev fQ:List Ty:=[.str,.bool]
abbrev oJ:List Ty:=[.str,.str]
abbrev kT:List Ty:=[.str,.bool]
abbrev zR:Sh:=⟨1,[⟨0,false,[.ptr 0 0]⟩],[.box 95 [.v (.int .i64),.v (.int .i64),.v (.int .i64),.v (.int .i64),.v (.int .i64),.v .str,.v .str,.v .bool,.v .bool,.v .bool,.v (.slice bW),.v (.slice aS),.v .bool,.v (.slice aM),.v (.slice aA),.v .bool,.v (.slice bX),.own 1],.row 102 aS]⟩
abbrev rR:Sh:=⟨0,[],[.box 95 [.v (.int .i64),.v (.int .i64),.v (.int .i64),.v (.int .i64),.v (.int .i64),.v .str,.v .str,.v .bool,.v .bool,.v .bool,.v (.slice bW),.v (.slice aS),.v .bool,.v (.slice aM),.v (.slice aA),.v .bool,.v (.slice bX),.own 1],.row 102 aS]⟩
abbrev qC:Sh:=⟨1,[⟨0,false,[.ptr 0 0]⟩],[.box 95 [.v (.int .i64),.v (.int .i64),.v (.int .i64),.v (.int .i64),.v (.int .i64),.v .str,.v .str,.v .bool,.v .bool,.v .bool,.v (.slice bW),.v (.slice aS),.v .bool,.v (.slice aM),.v (.slice aA),.v .bool,.v (.slice bX),.own 1],.row 102 aS]⟩
abbrev lT:Sh:=⟨0,[],[.box 95 [.v (.int .i64),.v (.int .i64),.v (.int .i64),.v (.int .i64),.v (.int .i64),.v .str,.v .str,.v .bool,.v .bool,.v .bool,.v (.slice bW),.v (.slice aS),.v .bool,.v (.slice aM),.v (.slice aA),.v .bool,.v (.slice bX),.own 1],.row 102 aS]⟩
abbrev qF:Sh:=Zq bW
abbrev qG:Sh:=Iu 134 bW
abbrev mR:Sh:=⟨2,[⟨0,false,[.ptr 0 0]⟩,⟨1,true,[.v (.int .i64),.v (.int .i64),.v (.int .i64),.v (.int .i64),.v (.int .i64),.v (.int .i64),.v .bool,.v (.int .u8),.v .str,.v .str,.v (.int .i64),.v (.int .i64),.v (.int .i64),.v (.slice vX),.v .bool,.v .bool]⟩],[.box 95 [.v (.int .i64),.v (.int .i64),.v (.int .i64),.v (.int .i64),.v (.int .i64),.v .str,.v .str,.v .bool,.v .bool,.v .bool,.v (.slice bW),.v (.slice aS),.v .bool,.v (.slice aM),.v (.slice aA),.v .bool,.v (.slice bX),.own 1],.row 102 aS]⟩
abbrev jN:Sh:=⟨1,[⟨0,false,[.v .bool]⟩],[.box 95 [.v (.int .i64),.v (.int .i64),.v (.int .i64),.v (.int .i64),.v (.int .i64),.v .str,.v .str,.v .bool,.v .bool,.v .bool,.own 2,.v (.slice aS),.v .bool,.v (.slice aM),.v (.slice aA),.v .bool,.v (.slice bX),.own 1],.row 102 aS,.row 134 bW]⟩
abbrev xB:Sh:=⟨3,[⟨0,false,[.ptr 0 0]⟩,⟨1,false,[.v .str]⟩,⟨2,false,[.v .bool]⟩],[.box 95 [.v (.int .i64),.v (.int .i64),.v (.int .i64),.v (.int .i64),.v (.int .i64),.v .str,.v .str,.v .bool,.v .bool,.v .bool,.own 1,.v (.slice aS),.v .bool,.v (.slice aM),.v (.slice aA),.v .bool,.v (.slice bX),.own 2],.row 134 bW,.row 102 aS]⟩
abbrev qK:Sh:=⟨0,[],[.box 95 [.v (.int .i64),.v (.int .i64),.v (.int .i64),.v (.int .i64),.v (.int .i64),.v .str,.v .str,.v .bool,.v .bool,.v .bool,.own 1,.v (.slice aS),.v .bool,.v (.slice aM),.v (.slice aA),.v .bool,.v (.slice bX),.own 2],.row 134 bW,.row 102 aS]⟩
abbrev nJ:Sh:=⟨1,[⟨0,false,[.ptr 0 0]⟩],[.box 95 [.v (.int .i64),.v (.int .i64),.v (.int .i64),.v (.int .i64),.v (.int .i64),.v .str,.v .str,.v .bool,.v .bool,.v .bool,.own 1,.v (.slice aS),.v .bool,.v (.slice aM),.v (.slice aA),.v .bool,.v (.slice bX),.own 2],.row 134 bW,.row 102 aS]⟩
abbrev jS:Sh:=⟨0,[],[.box 95 [.v (.int .i64),.v (.int .i64),.v (.int .i64),.v (.int .i64),.v (.int .i64),.v .str,.v .str,.v .bool,.v .bool,.v .bool,.own 1,.v (.slice aS),.v .bool,.v (.slice aM),.v (.slice aA),.v .bool,.v (.slice bX),.own 2],.row 134 bW,.row 102 aS]⟩
abbrev xC:Sh:=⟨1,[⟨0,false,[.ptr 0 0]⟩],[.box 95 [.v (.int .i64),.v (.int .i64),.v (.int .i64),.v (.int .i64),.v (.int .i64),.v .str,.v .str,.v .bool,.v .bool,.v .bool,.own 1,.v (.slice aS),.v .bool,.v (.slice aM),.v (.slice aA),.v .bool,.v (.slice bX),.own 2],.row 134 bW,.row 102 aS]⟩
abbrev qL:Sh:=⟨0,[],[.box 95 [.v (.int .i64),.v (.int .i64),.v (.int .i64),.v (.int .i64),.v (.int .i64),.v .str,.v .str,.v .bool,.v .bool,.v .bool,.own 1,.v (.slice aS),.v .bool,.v (.slice aM),.v (.slice aA),.v .bool,.v (.slice bX),.own 2],.row 134 bW,.row 102 aS]⟩
abbrev wS:Sh:=⟨2,[⟨0,false,[.ptr 0 0]⟩,⟨1,true,[.v (.int .i64),.v (.int .i64),.v (.int .i64),.v (.int .i64),.v (.int .i64),.v (.int .i64),.v .bool,.v (.int .u8),.v .str,.v .str,.v (.int .i64),.v (.int .i64),.v (.int .i64),.v (.slice vX),.v .bool,.v .bool]⟩],[.box 95 [.v (.int .i64),.v (.int .i64),.v (.int .i64),.v (.int .i64),.v (.int .i64),.v .str,.v .str,.v .bool,.v .bool,.v .bool,.own 1,.v (.slice aS),.v .bool,.v (.slice aM),.v (.slice aA),.v .bool,.v (.slice bX),.own 2],.row 134 bW,.row 102 aS]⟩
abbrev oK:Sh:=⟨0,[],[.box 95 [.v (.int .i64),.v (.int .i64),.v (.int .i64),.v (.int .i64),.v (.int .i64),.v .str,.v .str,.v .bool,.v .bool,.v .bool,.own 1,.v (.slice aS),.v .bool,.v (.slice aM),.v (.slice aA),.v .bool,.v (.slice bX),.own 2],.row 134 bW,.row 102 aS]⟩
abbrev uE:List Ty:=[qV,.bool,bT,.slice bX]
abbrev kU:List Ty:=[bT,.slice bX,.slice aS]
def Rv (n:Nat):An (qB.X):=.nil
theorem uH (n:Nat):jR Tryz.prog 106 vG qB (kC n) :=
 gG (Γ:=iC _ [] []) (an:=Rv n) (co:=[.gc [0,1]]) Tryz.func106 rfl (by kernel_rfl) eO (dA (all_nil) (dB)) mixed (bS _ _ rfl) (by kernel_rfl) (by kernel_rfl) (fun x=>by kernel_rfl)
def Hf (n:Nat):An (oI.X):=.nil
theorem zV (n:Nat):jR Tryz.prog 57 wR oI (qI n) :=
 gG (Γ:=iC _ [(106,peM vG qB (kC n))] []) (an:=Hf n) (co:=[.gc [0,1]]) Tryz.func57 rfl (by kernel_rfl) eO (dA (all_cons (dV (uH n)) (all_nil)) (dB)) mixed (bS _ _ rfl) (by kernel_rfl) (by kernel_rfl) (fun x=>by kernel_rfl)
def Ll (n:Nat):An (jM.X):=.nil
theorem lU (n:Nat):jR Tryz.prog 36 mQ jM (gI n) :=
 gG (Γ:=iC _ [(57,peM wR oI (qI n))] []) (an:=Ll n) (co:=[.gc [0,1]]) Tryz.func36 rfl (by kernel_rfl) eO (dA (all_cons (dV (zV n)) (all_nil)) (dB)) mixed (bS _ _ rfl) (by kernel_rfl) (by kernel_rfl) (fun x=>by kernel_rfl)
def Wo (n:Nat):An (zQ.X):=.nil
theorem Lm (n:Nat):jR Tryz.prog 167 Jw zQ (Bn n) :=
 gG (Γ:=iC _ [] []) (an:=Wo n) (co:=[.gc [0]]) Tryz.func167 rfl (by kernel_rfl) eO (dA (all_nil) (dB)) mixed (bS _ _ rfl) (by kernel_rfl) (by kernel_rfl) (fun x=>by kernel_rfl)
def oL (n:Nat):An (eG.X):=(.mk .nil (.mk (.mk .nil (.mk (.loop ⟨19,[⟨0,false,[.v (.slice bX)]⟩,⟨1,false,[.clo 167 [(0,0)]]⟩,⟨7,false,[.v (.int .i64)]⟩,⟨8,false,[.v (.int .i64)]⟩],[.box 9 [.v .str]]⟩ [.keep [true,true,false,false,false,false,false,true,true],.gcA 1,.gcA 1] [.keep [true,true,false,false,false,false,false,true,true],.gcA 1,.gcA 1] n .nil) .nil []) []) .nil []) [])
theorem mU (n:Nat):jR Tryz.prog 166 iN eG (eU n) :=
 gG (Γ:=iC _ [(167,peM Jw zQ (Bn n))] []) (an:=oL n) (co:=[.gc [0]]) Tryz.func166 rfl (by kernel_rfl) eO (dA (all_cons (dV (Lm n)) (all_nil)) (dB)) mixed (bS _ _ rfl) (by kernel_rfl) (by kernel_rfl) (fun x=>by kernel_rfl)
def zDn (n:Nat):An (bQ yI):=.nil
theorem Di (n:Nat):Pure Tryz.prog 107 Gm yI (wO n) :=
 nD (Γ:=iC _ [(166,peM iN eG (eU n))] []) (an:=zDn n) Tryz.func107 rfl (by kernel_rfl) eO (dA (all_cons (dV (mU n)) (all_nil)) (dB)) mixed (bS _ _ rfl) (fun x=>by kernel_rfl)
def rT (n:Nat):An (bQ fP):=.nil
theorem qD (n:Nat):Pure Tryz.prog 217 jT fP (gJ n) :=
 nD (Γ:=iC _ [] []) (an:=rT n) Tryz.func217 rfl (by kernel_rfl) eO (dA (all_nil) (dB)) mixed (bS _ _ rfl) (fun x=>by kernel_rfl)
def rU (n:Nat):An (bQ fQ):=.nil
theorem qE (n:Nat):Pure Tryz.prog 168 jU fQ (gK n) :=
 nD (Γ:=iC _ [(217,nY jT fP (gJ n))] []) (an:=rU n) Tryz.func168 rfl (by kernel_rfl) eO (dA (all_cons (iK (qD n)) (all_nil)) (dB)) mixed (bS _ _ rfl) (fun x=>by kernel_rfl)
def Hg (n:Nat):An (bQ kT):=.nil
theorem qW (n:Nat):Pure Tryz.prog 108 oJ kT (strings_CutSuffix n) :=
 nD (Γ:=iC _ [(168,nY jU fQ (gK n))] []) (an:=Hg n) Tryz.func108 rfl (by kernel_rfl) eO (dA (all_cons (iK (qE n)) (all_nil)) (dB)) mixed (bS _ _ rfl) (fun x=>by kernel_rfl)
def Lp (n:Nat):An (rR.X):=(.mk (.mk .nil (.mk (.loop ⟨51,[⟨0,false,[.ptr 0 0]⟩,⟨12,false,[.v (.slice aS)]⟩,⟨13,false,[.v (.int .i64)]⟩,⟨14,false,[.v (.int .i64)]⟩],[.box 95 [.v (.int .i64),.v (.int .i64),.v (.int .i64),.v (.int .i64),.v (.int .i64),.v .str,.v .str,.v .bool,.v .bool,.v .bool,.v (.slice bW),.v (.slice aS),.v .bool,.v (.slice aM),.v (.slice aA),.v .bool,.v (.slice bX),.own 1],.row 102 aS]⟩ [.keep [true,false,false,false,false,false,false,false,false,false,false,false,true,true,true],.gcA 2,.gcA 2] [.keep [true,false,false,false,false,false,false,false,false,false,false,false,true,true,true],.gcA 2,.gcA 2] n .nil) .nil []) []) .nil [])
theorem Dj (n:Nat):jR Tryz.prog 58 zR rR (tZ n) :=
 gG (Γ:=iC _ [(106,peM vG qB (kC n)),(107,nY Gm yI (wO n)),(108,nY oJ kT (strings_CutSuffix n))] []) (an:=Lp n) (co:=[.gc [0,1]]) Tryz.func58 rfl (by kernel_rfl) eO (dA (all_cons (dV (uH n)) (all_cons (iK (Di n)) (all_cons (iK (qW n)) (all_nil)))) (dB)) mixed (bS _ _ rfl) (by kernel_rfl) (by kernel_rfl) (fun x=>by kernel_rfl)
def Rw (n:Nat):An (lT.X):=.nil
theorem nK (n:Nat):jR Tryz.prog 37 qC lT (iR n) :=
 gG (Γ:=iC _ [(58,peM zR rR (tZ n))] []) (an:=Rw n) (co:=[.gc [0,1]]) Tryz.func37 rfl (by kernel_rfl) eO (dA (all_cons (dV (Dj n)) (all_nil)) (dB)) mixed (bS _ _ rfl) (by kernel_rfl) (by kernel_rfl) (fun x=>by kernel_rfl)
theorem vH (n:Nat):jR Tryz.prog 62 qF qG (kZ n) :=
 zCy (T:=tab) Tryz.func62 rfl rfl rfl Tryz.underlying43 (by kernel_rfl) eO rfl rfl rfl rfl (by decide) (by decide) (fun _=>rfl)
def Lr (n:Nat):An (jN.X):=(.mk .nil (.mk .nil (.mk (.mk .nil (.mk (.loop ⟨100,[⟨0,false,[.ptr 0 0]⟩,⟨3,false,[.ptr 2 0]⟩,⟨5,false,[.own 3]⟩,⟨23,false,[.own 4]⟩,⟨24,false,[.v (.int .i64)]⟩,⟨25,false,[.v (.int .i64)]⟩],[.box 95 [.v (.int .i64),.v (.int .i64),.v (.int .i64),.v (.int .i64),.v (.int .i64),.v .str,.v .str,.v .bool,.v .bool,.v .bool,.v (.slice bW),.v (.slice aS),.v .bool,.v (.slice aM),.v (.slice aA),.v .bool,.v (.slice bX),.own 1],.row 102 aS,.box 61 [.v (.int .i64),.v (.int .i64),.v (.int .i64),.v (.int .i64),.v (.int .i64),.v (.int .i64),.v .bool,.v (.int .u8),.v .str,.v .str,.v (.int .i64),.v (.int .i64),.v (.int .i64),.v (.slice vX),.v .bool,.v .bool],.row 4 .bool,.row 56 zM]⟩ [.keep [true,false,false,true,false,true,false,false,false,false,false,false,false,false,false,false,false,false,false,false,false,false,false,true,true,true],.gcA 2,.gcA 2] [.keep [true,false,false,true,false,true,false,false,false,false,false,false,false,false,false,false,false,false,false,false,false,false,false,true,true,true],.gcA 2,.gcA 2] n .nil) .nil []) []) (.mk (.co [.zMs 5] .nil) .nil []) []) []) [])
theorem lV (n:Nat):jR Tryz.prog 38 mR jN (aO n) :=
 gG (Γ:=iC _ [(61,nY lX sH (dO n)),(62,peM qF qG (kZ n))] []) (an:=Lr n) (co:=[.gc [0,1,6]]) Tryz.func38 rfl (by kernel_rfl) eO (dA (all_cons (iK (Wn n)) (all_cons (dV (vH n)) (all_nil))) (dB)) mixed (bS _ _ rfl) (by kernel_rfl) (by kernel_rfl) (fun x=>by kernel_rfl)
def Jy (n:Nat):An (qK.X):=.nil
theorem Bo (n:Nat):jR Tryz.prog 106 xB qK (mO n) :=
 gG (Γ:=iC _ [] []) (an:=Jy n) (co:=[.gc [0,1,2]]) Tryz.func106 rfl (by kernel_rfl) eO (dA (all_nil) (dB)) mixed (bS _ _ rfl) (by kernel_rfl) (by kernel_rfl) (fun x=>by kernel_rfl)
def Gn (n:Nat):An (jS.X):=(.mk (.mk .nil (.mk (.loop ⟨51,[⟨0,false,[.ptr 0 0]⟩,⟨12,false,[.v (.slice aS)]⟩,⟨13,false,[.v (.int .i64)]⟩,⟨14,false,[.v (.int .i64)]⟩],[.box 95 [.v (.int .i64),.v (.int .i64),.v (.int .i64),.v (.int .i64),.v (.int .i64),.v .str,.v .str,.v .bool,.v .bool,.v .bool,.own 1,.v (.slice aS),.v .bool,.v (.slice aM),.v (.slice aA),.v .bool,.v (.slice bX),.own 2],.row 134 bW,.row 102 aS]⟩ [.keep [true,false,false,false,false,false,false,false,false,false,false,false,true,true,true],.gcA 3,.gcA 3] [.keep [true,false,false,false,false,false,false,false,false,false,false,false,true,true,true],.gcA 3,.gcA 3] n .nil) .nil []) []) .nil [])
theorem oM (n:Nat):jR Tryz.prog 58 nJ jS (iI n) :=
 gG (Γ:=iC _ [(106,peM xB qK (mO n)),(107,nY Gm yI (wO n)),(108,nY oJ kT (strings_CutSuffix n))] []) (an:=Gn n) (co:=[.gc [0,1,2]]) Tryz.func58 rfl (by kernel_rfl) eO (dA (all_cons (dV (Bo n)) (all_cons (iK (Di n)) (all_cons (iK (qW n)) (all_nil)))) (dB)) mixed (bS _ _ rfl) (by kernel_rfl) (by kernel_rfl) (fun x=>by kernel_rfl)
def Jz (n:Nat):An (qL.X):=.nil
theorem Bp (n:Nat):jR Tryz.prog 37 xC qL (mP n) :=
 gG (Γ:=iC _ [(58,peM nJ jS (iI n))] []) (an:=Jz n) (co:=[.gc [0,1,2]]) Tryz.func37 rfl (by kernel_rfl) eO (dA (all_cons (dV (oM n)) (all_nil)) (dB)) mixed (bS _ _ rfl) (by kernel_rfl) (by kernel_rfl) (fun x=>by kernel_rfl)
def Hl (n:Nat):An (oK.X):=.nil
theorem zW (n:Nat):jR Tryz.prog 70 wS oK (lF n) :=
 gG (Γ:=iC _ [(29,nY Jr Js (strings_Cut n)),(37,peM xC qL (mP n)),(58,peM nJ jS (iI n))] []) (an:=Hl n) (co:=[.gc [0,1,2]]) Tryz.func70 rfl (by kernel_rfl) eO (dA (all_cons (iK (Ot n)) (all_cons (dV (Bp n)) (all_cons (dV (oM n)) (all_nil)))) (dB)) mixed (bS _ _ rfl) (by kernel_rfl) (by kernel_rfl) (fun x=>by kernel_rfl)
def zBz (n:Nat):An (bQ kU):=(.mk .nil (.mk .nil (.mk (.mk (.mk .nil (.mk .nil (.mk .nil (.mk (.mk (.co [.ownB 3 17 52] .nil) .nil []) (.mk .nil (.mk (.co [.ownB 3 17 52] .nil) .nil []) []) []) []) []) []) .nil []) .nil []) []) [])
theorem Ow (n:Nat):Pure Tryz.prog 19 uE kU (bR n) :=
 nD (Γ:=iC _ [(36,peM mQ jM (gI n)),(37,peM qC lT (iR n)),(38,peM mR jN (aO n)),(39,peH 100 70),(70,peM wS oK (lF n))] []) (an:=zBz n) Tryz.func19 rfl (by kernel_rfl) eO (dA (all_cons (dV (lU n)) (all_cons (dV (nK n)) (all_cons (dV (lV n)) (all_cons (zBj (Gh.ok _ (by simp [nE]))) (all_cons (dV (zW n)) (all_nil)))))) (dB)) mixed (bS _ _ rfl) (fun x=>by kernel_rfl)
abbrev wT:Sh:=⟨2,[⟨0,false,[.ptr 0 0]⟩,⟨1,true,[.v (.int .i64),.v (.int .i64),.v (.int .i64),.v (.int .i64),.v (.int .i64),.v (.int .i64),.v .bool,.v (.int .u8),.v .str,.v .str,.v (.int .i64),.v (.int .i64),.v (.int .i64),.v (.slice vX),.v .bool,.v .bool]⟩],[.box 95 [.v (.int .i64),.v (.int .i64),.v (.int .i64),.v (.int .i64),.v (.int .i64),.v .str,.v .str,.v .bool,.v .bool,.v .bool,.own 1,.v (.slice aS),.v .bool,.v (.slice aM),.v (.slice aA),.v .bool,.v (.slice bX),.own 2],.row 134 bW,.row 102 aS]⟩
abbrev oN:Sh:=⟨0,[],[.box 95 [.v (.int .i64),.v (.int .i64),.v (.int .i64),.v (.int .i64),.v (.int .i64),.v .str,.v .str,.v .bool,.v .bool,.v .bool,.own 1,.v (.slice aS),.v .bool,.v (.slice aM),.v (.slice aA),.v .bool,.v (.slice bX),.own 2],.row 134 bW,.row 102 aS]⟩
def Ho (n:Nat):An (oN.X):=.nil
theorem zX (n:Nat):jR Tryz.prog 63 wT oN (qJ n) :=
 gG (Γ:=iC _ [] []) (an:=Ho n) (co:=[.gc [0,1,2]]) Tryz.func63 rfl (by kernel_rfl) eO (dA (all_nil) (dB)) mixed (bS _ _ rfl) (by kernel_rfl) (by kernel_rfl) (fun x=>by kernel_rfl)
def zCa (n:Nat):An (bQ kU):=(.mk .nil (.mk .nil (.mk (.mk (.mk .nil (.mk .nil (.mk .nil (.mk (.mk (.co [.ownB 3 17 52] .nil) .nil []) (.mk .nil (.mk (.co [.ownB 3 17 52] .nil) .nil []) []) []) []) []) []) .nil []) .nil []) []) [])
theorem Ox (n:Nat):Pure Tryz.prog 19 uE kU (bH n) :=
 nD (Γ:=iC _ [(36,peM mQ jM (gI n)),(37,peM qC lT (iR n)),(38,peM mR jN (aO n)),(39,peH 123 63),(63,peM wT oN (qJ n))] []) (an:=zCa n) Tryz.func19 rfl (by kernel_rfl) eO (dA (all_cons (dV (lU n)) (all_cons (dV (nK n)) (all_cons (dV (lV n)) (all_cons (zBj (Gh.ok _ (by simp [nE]))) (all_cons (dV (zX n)) (all_nil)))))) (dB)) mixed (bS _ _ rfl) (fun x=>by kernel_rfl)
abbrev zS:Sh:=⟨2,[⟨0,false,[.ptr 0 0]⟩,⟨1,true,[.v (.int .i64),.v (.int .i64),.v (.int .i64),.v (.int .i64),.v (.int .i64),.v (.int .i64),.v .bool,.v (.int .u8),.v .str,.v .str,.v (.int .i64),.v (.int .i64),.v (.int .i64),.v (.slice vX),.v .bool,.v .bool]⟩],[.box 95 [.v (.int .i64),.v (.int .i64),.v (.int .i64),.v (.int .i64),.v (.int .i64),.v .str,.v .str,.v .bool,.v .bool,.v .bool,.own 1,.v (.slice aS),.v .bool,.v (.slice aM),.v (.slice aA),.v .bool,.v (.slice bX),.own 2],.row 134 bW,.row 102 aS]⟩
abbrev rV:Sh:=⟨0,[],[.box 95 [.v (.int .i64),.v (.int .i64),.v (.int .i64),.v (.int .i64),.v (.int .i64),.v .str,.v .str,.v .bool,.v .bool,.v .bool,.own 1,.v (.slice aS),.v .bool,.v (.slice aM),.v (.slice aA),.v .bool,.v (.slice bX),.own 2],.row 134 bW,.row 102 aS]⟩
def Ls (n:Nat):An (rV.X):=.nil
theorem Dk (n:Nat):jR Tryz.prog 71 zS rV (kS n) :=
 gG (Γ:=iC _ [] []) (an:=Ls n) (co:=[.gc [0,1,2]]) Tryz.func71 rfl (by kernel_rfl) eO (dA (all_nil) (dB)) mixed (bS _ _ rfl) (by kernel_rfl) (by kernel_rfl) (fun x=>by kernel_rfl)
def zCb (n:Nat):An (bQ kU):=(.mk .nil (.mk .nil (.mk (.mk (.mk .nil (.mk .nil (.mk .nil (.mk (.mk (.co [.ownB 3 17 52] .nil) .nil []) (.mk .nil (.mk (.co [.ownB 3 17 52] .nil) .nil []) []) []) []) []) []) .nil []) .nil []) []) [])
theorem jO {b:Int} (hb:Pure Tryz.prog 39 [.int .u8] [.opq] (yF (b,71))) (n:Nat):Pure Tryz.prog 19 uE kU (aN b n) :=
 nD (Γ:=iC _ [(36,peM mQ jM (gI n)),(37,peM qC lT (iR n)),(38,peM mR jN (aO n)),(39,peH b 71),(71,peM zS rV (kS n))] []) (an:=zCb n) Tryz.func19 rfl (by kernel_rfl) eO (dA (all_cons (dV (lU n)) (all_cons (dV (nK n)) (all_cons (dV (lV n)) (all_cons (zBj (hb)) (all_cons (dV (Dk n)) (all_nil)))))) (dB)) mixed (bS _ _ rfl) (fun x=>by kernel_rfl)
theorem Ka {b:Int} (h:(b,71) ∈ nE):Pure Tryz.prog 39 [.int .u8] [.opq] (yF (b,71)):=Gh.ok _ h
theorem Ug (n:Nat):Pure Tryz.prog 19 uE kU (dX n) :=
 pure_or (Ox n) (pure_or (Ow n) (pure_or (jO (Ka (by simp [nE])) n) (pure_or (jO (Ka (by simp [nE])) n) (pure_or (jO (Ka (by simp [nE])) n) (pure_or (jO (Ka (by simp [nE])) n) (jO (Ka (by simp [nE])) n))))))
end Go.Dec
