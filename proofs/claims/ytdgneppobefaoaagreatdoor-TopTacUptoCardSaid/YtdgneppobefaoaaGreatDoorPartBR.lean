/- Part of a proof over this seat: a library of my own, and what it says of this seat. No statement is proved here. -/
import Derived.Test.YtdgneppobefaoaaGreatDoorProg
import Derived.Test.YtdgneppobefaoaaGreatDoorPartBQ
import Derived.Test.YtdgneppobefaoaaGreatDoorPartBP
import Derived.Test.YtdgneppobefaoaaGreatDoorPartBL
import Derived.Test.YtdgneppobefaoaaGreatDoorPartBM
import Derived.Test.YtdgneppobefaoaaGreatDoorPartBO
import Derived.KernelRfl
namespace Go.Dec
open Go.Proofs
set_option linter.unusedVariables false
def yJv:Tab:=[(3,⟨.int .i64,1,8,[.val (.int .i64) 0],some (.int .i64),false⟩),
 (4,⟨.bool,1,1,[.val .bool false],some .bool,false⟩),
 (5,⟨.int .u8,1,1,[.val (.int .u8) 0],some (.int .u8),false⟩),
 (9,⟨.str,1,16,[.val .str []],some .str,false⟩),
 (32,⟨.slice 183,1,24,[.aO],some (.slice aK),false⟩),
 (33,⟨.slice 70,1,24,[.aO],some (.slice aC),false⟩),
 (35,⟨.struct [(0,4),(1,32),(2,33)],3,56,[.val .bool false,.aO,.aO],some pX,false⟩),
 (40,⟨.slice 45,1,24,[.aO],some (.slice aP),false⟩),
 (45,⟨.struct [(0,9),(1,9)],2,32,[.val .str [],.val .str []],some aP,true⟩),
 (65,⟨.struct [(0,3),(1,3),(2,3)],3,24,[.val (.int .i64) 0,.val (.int .i64) 0,.val (.int .i64) 0],some uF,true⟩),
 (67,⟨.struct [(0,65),(3,65),(6,4)],7,56,[.val (.int .i64) 0,.val (.int .i64) 0,.val (.int .i64) 0,.val (.int .i64) 0,.val (.int .i64) 0,.val (.int .i64) 0,.val .bool false],some yT,true⟩),
 (68,⟨.slice 243,1,24,[.aO],some (.slice Du),false⟩),
 (70,⟨.struct [(0,67),(7,5),(8,9),(9,9),(10,3),(11,3),(12,3),(13,68),(14,4),(15,4)],16,152,[.val (.int .i64) 0,.val (.int .i64) 0,.val (.int .i64) 0,.val (.int .i64) 0,.val (.int .i64) 0,.val (.int .i64) 0,.val .bool false,.val (.int .u8) 0,.val .str [],.val .str [],.val (.int .i64) 0,.val (.int .i64) 0,.val (.int .i64) 0,.aO,.val .bool false,.val .bool false],some aC,false⟩),
 (92,⟨.int .u64,1,8,[.val (.int .u64) 0],some (.int .u64),false⟩),
 (102,⟨.slice 4,1,24,[.aO],some (.slice .bool),false⟩),
 (106,⟨.slice 143,1,24,[.aO],some (.slice aD),false⟩),
 (136,⟨.slice 334,1,24,[.aO],some (.slice eH),false⟩),
 (137,⟨.slice 366,1,24,[.aO],some (.slice aD),false⟩),
 (139,⟨.struct [(0,3),(1,3),(2,3),(3,3),(4,3),(5,9),(6,9),(7,4),(8,4),(9,4),(10,136),(11,137)],12,128,[.val (.int .i64) 0,.val (.int .i64) 0,.val (.int .i64) 0,.val (.int .i64) 0,.val (.int .i64) 0,.val .str [],.val .str [],.val .bool false,.val .bool false,.val .bool false,.aO,.aO],some aA,false⟩),
 (143,⟨.struct [(0,9),(1,4)],2,24,[.val .str [],.val .bool false],some aD,true⟩),
 (181,⟨.slice 187,1,24,[.aO],some (.slice qZ),false⟩),
 (183,⟨.struct [(0,181),(1,4)],2,32,[.aO,.val .bool false],some aK,false⟩),
 (185,⟨.arr 4 92,4,32,[.val (.arr 4 (.int .u64)) ([0,0,0,0])],some (.arr 4 (.int .u64)),true⟩),
 (187,⟨.struct [(0,3),(1,185),(5,3),(6,3),(7,3),(8,3),(9,3)],10,80,[.val (.int .i64) 0,.val (.arr 4 (.int .u64)) ([0,0,0,0]),.val (.int .i64) 0,.val (.int .i64) 0,.val (.int .i64) 0,.val (.int .i64) 0,.val (.int .i64) 0],some qZ,true⟩),
 (243,⟨.struct [(0,9),(1,3)],2,24,[.val .str [],.val (.int .i64) 0],some Du,true⟩),
 (282,⟨.ptr 284,1,8,[.jJ],none,false⟩),
 (284,⟨.struct [(0,139),(12,35),(15,4),(16,40),(17,106)],18,240,[.val (.int .i64) 0,.val (.int .i64) 0,.val (.int .i64) 0,.val (.int .i64) 0,.val (.int .i64) 0,.val .str [],.val .str [],.val .bool false,.val .bool false,.val .bool false,.aO,.aO,.val .bool false,.aO,.aO,.val .bool false,.aO,.aO],some zPr,false⟩),
 (329,⟨.func,1,8,[.val .opq Value.nilFunc],some .opq,false⟩),
 (330,⟨.slice 65,1,24,[.aO],some (.slice uF),false⟩),
 (334,⟨.struct [(0,4),(1,3)],2,16,[.val .bool false,.val (.int .i64) 0],some eH,true⟩),
 (338,⟨.struct [(0,3),(1,4),(2,102)],3,40,[.val (.int .i64) 0,.val .bool false,.aO],some yFt,false⟩),
 (366,⟨.struct [(0,9),(1,4)],2,24,[.val .str [],.val .bool false],some aD,true⟩)]
theorem fK:aY Tryz.prog yJv:=Xp (by kernel_rfl)
theorem iP:Tryz.prog.follows .mixedOrders=true:=by kernel_rfl
abbrev yV:Sh:=⟨3,[⟨0,false,[.ptr 0 0]⟩,⟨1,false,[.v .str]⟩,⟨2,false,[.v .bool]⟩],[.box 284 [.v (.int .i64),.v (.int .i64),.v (.int .i64),.v (.int .i64),.v (.int .i64),.v .str,.v .str,.v .bool,.v .bool,.v .bool,.v (.slice eH),.v (.slice aD),.v .bool,.v (.slice aK),.v (.slice aC),.v .bool,.v (.slice aP),.own 1],.row 143 aD]⟩
abbrev sH:Sh:=⟨0,[],[.box 284 [.v (.int .i64),.v (.int .i64),.v (.int .i64),.v (.int .i64),.v (.int .i64),.v .str,.v .str,.v .bool,.v .bool,.v .bool,.v (.slice eH),.v (.slice aD),.v .bool,.v (.slice aK),.v (.slice aC),.v .bool,.v (.slice aP),.own 1],.row 143 aD]⟩
abbrev Al:Sh:=⟨1,[⟨0,false,[.ptr 0 0]⟩],[.box 284 [.v (.int .i64),.v (.int .i64),.v (.int .i64),.v (.int .i64),.v (.int .i64),.v .str,.v .str,.v .bool,.v .bool,.v .bool,.v (.slice eH),.v (.slice aD),.v .bool,.v (.slice aK),.v (.slice aC),.v .bool,.v (.slice aP),.own 1],.row 143 aD]⟩
abbrev rD:Sh:=⟨0,[],[.box 284 [.v (.int .i64),.v (.int .i64),.v (.int .i64),.v (.int .i64),.v (.int .i64),.v .str,.v .str,.v .bool,.v .bool,.v .bool,.v (.slice eH),.v (.slice aD),.v .bool,.v (.slice aK),.v (.slice aC),.v .bool,.v (.slice aP),.own 1],.row 143 aD]⟩
abbrev vJ:Sh:=⟨1,[⟨0,false,[.ptr 0 0]⟩],[.box 284 [.v (.int .i64),.v (.int .i64),.v (.int .i64),.v (.int .i64),.v (.int .i64),.v .str,.v .str,.v .bool,.v .bool,.v .bool,.v (.slice eH),.v (.slice aD),.v .bool,.v (.slice aK),.v (.slice aC),.v .bool,.v (.slice aP),.own 1],.row 143 aD]⟩
abbrev oQ:Sh:=⟨0,[],[.box 284 [.v (.int .i64),.v (.int .i64),.v (.int .i64),.v (.int .i64),.v (.int .i64),.v .str,.v .str,.v .bool,.v .bool,.v .bool,.v (.slice eH),.v (.slice aD),.v .bool,.v (.slice aK),.v (.slice aC),.v .bool,.v (.slice aP),.own 1],.row 143 aD]⟩
abbrev Tv:Sh:=⟨2,[⟨0,true,[.v .str,.v .str]⟩,⟨1,false,[.ptr 0 0]⟩],[.box 9 [.v .str]]⟩
abbrev Gb:Sh:=⟨1,[⟨0,false,[.v .bool]⟩],[.box 9 [.v .str]]⟩
abbrev jX:Sh:=⟨2,[⟨0,false,[.v (.slice aP)]⟩,⟨1,false,[.clo 243 [(0,0)]]⟩],[.box 9 [.v .str]]⟩
abbrev fM:Sh:=⟨1,[⟨0,false,[.v (.int .i64)]⟩],[.box 9 [.v .str]]⟩
abbrev zCf:List Ty:=[.slice aP,.str]
abbrev Pq:List Ty:=[.str,.bool]
abbrev lN:List Ty:=[.str,.str]
abbrev gU:List Ty:=[.bool]
abbrev lQ:List Ty:=[.str,.str]
abbrev gV:List Ty:=[.str,.bool]
abbrev Am:List Ty:=[.str,.str]
abbrev rE:List Ty:=[.str,.bool]
abbrev Gc:Sh:=⟨1,[⟨0,false,[.ptr 0 0]⟩],[.box 284 [.v (.int .i64),.v (.int .i64),.v (.int .i64),.v (.int .i64),.v (.int .i64),.v .str,.v .str,.v .bool,.v .bool,.v .bool,.v (.slice eH),.v (.slice aD),.v .bool,.v (.slice aK),.v (.slice aC),.v .bool,.v (.slice aP),.own 1],.row 143 aD]⟩
abbrev vK:Sh:=⟨0,[],[.box 284 [.v (.int .i64),.v (.int .i64),.v (.int .i64),.v (.int .i64),.v (.int .i64),.v .str,.v .str,.v .bool,.v .bool,.v .bool,.v (.slice eH),.v (.slice aD),.v .bool,.v (.slice aK),.v (.slice aC),.v .bool,.v (.slice aP),.own 1],.row 143 aD]⟩
abbrev yX:Sh:=⟨1,[⟨0,false,[.ptr 0 0]⟩],[.box 284 [.v (.int .i64),.v (.int .i64),.v (.int .i64),.v (.int .i64),.v (.int .i64),.v .str,.v .str,.v .bool,.v .bool,.v .bool,.v (.slice eH),.v (.slice aD),.v .bool,.v (.slice aK),.v (.slice aC),.v .bool,.v (.slice aP),.own 1],.row 143 aD]⟩
abbrev sI:Sh:=⟨0,[],[.box 284 [.v (.int .i64),.v (.int .i64),.v (.int .i64),.v (.int .i64),.v (.int .i64),.v .str,.v .str,.v .bool,.v .bool,.v .bool,.v (.slice eH),.v (.slice aD),.v .bool,.v (.slice aK),.v (.slice aC),.v .bool,.v (.slice aP),.own 1],.row 143 aD]⟩
abbrev sO:Sh:=Ac eH
abbrev sP:Sh:=tY 334 eH
abbrev vL:Sh:=⟨2,[⟨0,false,[.ptr 0 0]⟩,⟨1,true,[.v (.int .i64),.v (.int .i64),.v (.int .i64),.v (.int .i64),.v (.int .i64),.v (.int .i64),.v .bool,.v (.int .u8),.v .str,.v .str,.v (.int .i64),.v (.int .i64),.v (.int .i64),.v (.slice Du),.v .bool,.v .bool]⟩],[.box 284 [.v (.int .i64),.v (.int .i64),.v (.int .i64),.v (.int .i64),.v (.int .i64),.v .str,.v .str,.v .bool,.v .bool,.v .bool,.v (.slice eH),.v (.slice aD),.v .bool,.v (.slice aK),.v (.slice aC),.v .bool,.v (.slice aP),.own 1],.row 143 aD]⟩
abbrev oU:Sh:=⟨1,[⟨0,false,[.v .bool]⟩],[.box 284 [.v (.int .i64),.v (.int .i64),.v (.int .i64),.v (.int .i64),.v (.int .i64),.v .str,.v .str,.v .bool,.v .bool,.v .bool,.own 2,.v (.slice aD),.v .bool,.v (.slice aK),.v (.slice aC),.v .bool,.v (.slice aP),.own 1],.row 143 aD,.row 334 eH]⟩
abbrev Bz:Sh:=⟨3,[⟨0,false,[.ptr 0 0]⟩,⟨1,false,[.v .str]⟩,⟨2,false,[.v .bool]⟩],[.box 284 [.v (.int .i64),.v (.int .i64),.v (.int .i64),.v (.int .i64),.v (.int .i64),.v .str,.v .str,.v .bool,.v .bool,.v .bool,.own 1,.v (.slice aD),.v .bool,.v (.slice aK),.v (.slice aC),.v .bool,.v (.slice aP),.own 2],.row 334 eH,.row 143 aD]⟩
abbrev sZ:Sh:=⟨0,[],[.box 284 [.v (.int .i64),.v (.int .i64),.v (.int .i64),.v (.int .i64),.v (.int .i64),.v .str,.v .str,.v .bool,.v .bool,.v .bool,.own 1,.v (.slice aD),.v .bool,.v (.slice aK),.v (.slice aC),.v .bool,.v (.slice aP),.own 2],.row 334 eH,.row 143 aD]⟩
abbrev wE:Sh:=⟨1,[⟨0,false,[.ptr 0 0]⟩],[.box 284 [.v (.int .i64),.v (.int .i64),.v (.int .i64),.v (.int .i64),.v (.int .i64),.v .str,.v .str,.v .bool,.v .bool,.v .bool,.own 1,.v (.slice aD),.v .bool,.v (.slice aK),.v (.slice aC),.v .bool,.v (.slice aP),.own 2],.row 334 eH,.row 143 aD]⟩
abbrev nM:Sh:=⟨0,[],[.box 284 [.v (.int .i64),.v (.int .i64),.v (.int .i64),.v (.int .i64),.v (.int .i64),.v .str,.v .str,.v .bool,.v .bool,.v .bool,.own 1,.v (.slice aD),.v .bool,.v (.slice aK),.v (.slice aC),.v .bool,.v (.slice aP),.own 2],.row 334 eH,.row 143 aD]⟩
abbrev Ca:Sh:=⟨2,[⟨0,false,[.ptr 0 0]⟩,⟨1,true,[.v (.int .i64),.v (.int .i64),.v (.int .i64),.v (.int .i64),.v (.int .i64),.v (.int .i64),.v .bool,.v (.int .u8),.v .str,.v .str,.v (.int .i64),.v (.int .i64),.v (.int .i64),.v (.slice Du),.v .bool,.v .bool]⟩],[.box 284 [.v (.int .i64),.v (.int .i64),.v (.int .i64),.v (.int .i64),.v (.int .i64),.v .str,.v .str,.v .bool,.v .bool,.v .bool,.own 1,.v (.slice aD),.v .bool,.v (.slice aK),.v (.slice aC),.v .bool,.v (.slice aP),.own 2],.row 334 eH,.row 143 aD]⟩
abbrev tC:Sh:=⟨0,[],[.box 284 [.v (.int .i64),.v (.int .i64),.v (.int .i64),.v (.int .i64),.v (.int .i64),.v .str,.v .str,.v .bool,.v .bool,.v .bool,.own 1,.v (.slice aD),.v .bool,.v (.slice aK),.v (.slice aC),.v .bool,.v (.slice aP),.own 2],.row 334 eH,.row 143 aD]⟩
abbrev Dv:List Ty:=[pX,.bool,aA,.slice aP]
abbrev sJ:List Ty:=[aA,.slice aP,.slice aD]
def zCg (n:Nat):An (sH.X):=.nil
theorem xR (n:Nat):cZ Tryz.prog 315 yV sH (lY n) :=
 bL (Γ:=bX _ [] []) (an:=zCg n) (co:=[.gc [0,1]]) Tryz.func315 rfl (by kernel_rfl) fK (aR (all_nil) (aS)) iP (aL _ _ rfl) (by kernel_rfl) (by kernel_rfl) (fun x=>by kernel_rfl)
def Qw (n:Nat):An (rD.X):=.nil
theorem Gu (n:Nat):cZ Tryz.prog 244 Al rD (sW n) :=
 bL (Γ:=bX _ [(315,peM yV sH (lY n))] []) (an:=Qw n) (co:=[.gc [0,1]]) Tryz.func244 rfl (by kernel_rfl) fK (aR (all_cons (bJ (xR n)) (all_nil)) (aS)) iP (aL _ _ rfl) (by kernel_rfl) (by kernel_rfl) (fun x=>by kernel_rfl)
def Wj (n:Nat):An (oQ.X):=.nil
theorem wF (n:Nat):cZ Tryz.prog 203 vJ oQ (mF n) :=
 bL (Γ:=bX _ [(244,peM Al rD (sW n))] []) (an:=Wj n) (co:=[.gc [0,1]]) Tryz.func203 rfl (by kernel_rfl) fK (aR (all_cons (bJ (Gu n)) (all_nil)) (aS)) iP (aL _ _ rfl) (by kernel_rfl) (by kernel_rfl) (fun x=>by kernel_rfl)
def zIb (n:Nat):An (Gb.X):=.nil
theorem Wm (n:Nat):cZ Tryz.prog 243 Tv Gb (Jl n) :=
 bL (Γ:=bX _ [] []) (an:=zIb n) (co:=[.gc [0]]) Tryz.func243 rfl (by kernel_rfl) fK (aR (all_nil) (aS)) iP (aL _ _ rfl) (by kernel_rfl) (by kernel_rfl) (fun x=>by kernel_rfl)
def rF (n:Nat):An (fM.X):=(.mk .nil (.mk (.mk .nil (.mk (.loop ⟨19,[⟨0,false,[.v (.slice aP)]⟩,⟨1,false,[.clo 243 [(0,0)]]⟩,⟨7,false,[.v (.int .i64)]⟩,⟨8,false,[.v (.int .i64)]⟩],[.box 9 [.v .str]]⟩ [.keep [true,true,false,false,false,false,false,true,true],.gcA 1,.gcA 1] [.keep [true,true,false,false,false,false,false,true,true],.gcA 1,.gcA 1] n .nil) .nil []) []) .nil []) [])
theorem oV (n:Nat):cZ Tryz.prog 242 jX fM (fP n) :=
 bL (Γ:=bX _ [(243,peM Tv Gb (Jl n))] []) (an:=rF n) (co:=[.gc [0]]) Tryz.func242 rfl (by kernel_rfl) fK (aR (all_cons (bJ (Wm n)) (all_nil)) (aS)) iP (aL _ _ rfl) (by kernel_rfl) (by kernel_rfl) (fun x=>by kernel_rfl)
def zPs (n:Nat):An (bG Pq):=.nil
theorem zEp (n:Nat):Pure Tryz.prog 202 zCf Pq (Tq n) :=
 dR (Γ:=bX _ [(242,peM jX fM (fP n))] []) (an:=zPs n) Tryz.func202 rfl (by kernel_rfl) fK (aR (all_cons (bJ (oV n)) (all_nil)) (aS)) iP (aL _ _ rfl) (fun x=>by kernel_rfl)
def vM (n:Nat):An (bG gU):=.nil
theorem sK (n:Nat):Pure Tryz.prog 86 lN gU (iE n) :=
 dR (Γ:=bX _ [] []) (an:=vM n) Tryz.func86 rfl (by kernel_rfl) fK (aR (all_nil) (aS)) iP (aL _ _ rfl) (fun x=>by kernel_rfl)
def vN (n:Nat):An (bG gV):=.nil
theorem sM (n:Nat):Pure Tryz.prog 55 lQ gV (iF n) :=
 dR (Γ:=bX _ [(86,eP lN gU (iE n))] []) (an:=vN n) Tryz.func55 rfl (by kernel_rfl) fK (aR (all_cons (bR (sK n)) (all_nil)) (aS)) iP (aL _ _ rfl) (fun x=>by kernel_rfl)
def Qx (n:Nat):An (bG rE):=.nil
theorem Jo (n:Nat):Pure Tryz.prog 32 Am rE (strings_CutSuffix n) :=
 dR (Γ:=bX _ [(55,eP lQ gV (iF n))] []) (an:=Qx n) Tryz.func32 rfl (by kernel_rfl) fK (aR (all_cons (bR (sM n)) (all_nil)) (aS)) iP (aL _ _ rfl) (fun x=>by kernel_rfl)
def Wn (n:Nat):An (vK.X):=(.mk (.mk .nil (.mk (.loop ⟨51,[⟨0,false,[.ptr 0 0]⟩,⟨12,false,[.v (.slice aD)]⟩,⟨13,false,[.v (.int .i64)]⟩,⟨14,false,[.v (.int .i64)]⟩],[.box 284 [.v (.int .i64),.v (.int .i64),.v (.int .i64),.v (.int .i64),.v (.int .i64),.v .str,.v .str,.v .bool,.v .bool,.v .bool,.v (.slice eH),.v (.slice aD),.v .bool,.v (.slice aK),.v (.slice aC),.v .bool,.v (.slice aP),.own 1],.row 143 aD]⟩ [.keep [true,false,false,false,false,false,false,false,false,false,false,false,true,true,true],.gcA 2,.gcA 2] [.keep [true,false,false,false,false,false,false,false,false,false,false,false,true,true,true],.gcA 2,.gcA 2] n .nil) .nil []) []) .nil [])
theorem Lv (n:Nat):cZ Tryz.prog 245 Gc vK (xK n) :=
 bL (Γ:=bX _ [(315,peM yV sH (lY n)),(202,eP zCf Pq (Tq n)),(32,eP Am rE (strings_CutSuffix n))] []) (an:=Wn n) (co:=[.gc [0,1]]) Tryz.func245 rfl (by kernel_rfl) fK (aR (all_cons (bJ (xR n)) (all_cons (bR (zEp n)) (all_cons (bR (Jo n)) (all_nil)))) (aS)) iP (aL _ _ rfl) (by kernel_rfl) (by kernel_rfl) (fun x=>by kernel_rfl)
def zCh (n:Nat):An (sI.X):=.nil
theorem xS (n:Nat):cZ Tryz.prog 204 yX sI (pJ n) :=
 bL (Γ:=bX _ [(245,peM Gc vK (xK n))] []) (an:=zCh n) (co:=[.gc [0,1]]) Tryz.func204 rfl (by kernel_rfl) fK (aR (all_cons (bJ (Lv n)) (all_nil)) (aS)) iP (aL _ _ rfl) (by kernel_rfl) (by kernel_rfl) (fun x=>by kernel_rfl)
theorem yY (n:Nat):cZ Tryz.prog 249 sO sP (mR n) :=
 pW (T:=yJv) Tryz.func249 rfl rfl rfl Tryz.underlying136 (by kernel_rfl) fK rfl rfl rfl rfl (by decide) (by decide) (fun _=>rfl)
def Wo (n:Nat):An (oU.X):=(.mk .nil (.mk .nil (.mk (.mk .nil (.mk (.loop ⟨100,[⟨0,false,[.ptr 0 0]⟩,⟨3,false,[.ptr 2 0]⟩,⟨5,false,[.own 3]⟩,⟨23,false,[.own 4]⟩,⟨24,false,[.v (.int .i64)]⟩,⟨25,false,[.v (.int .i64)]⟩],[.box 284 [.v (.int .i64),.v (.int .i64),.v (.int .i64),.v (.int .i64),.v (.int .i64),.v .str,.v .str,.v .bool,.v .bool,.v .bool,.v (.slice eH),.v (.slice aD),.v .bool,.v (.slice aK),.v (.slice aC),.v .bool,.v (.slice aP),.own 1],.row 143 aD,.box 70 [.v (.int .i64),.v (.int .i64),.v (.int .i64),.v (.int .i64),.v (.int .i64),.v (.int .i64),.v .bool,.v (.int .u8),.v .str,.v .str,.v (.int .i64),.v (.int .i64),.v (.int .i64),.v (.slice Du),.v .bool,.v .bool],.row 4 .bool,.row 65 uF]⟩ [.keep [true,false,false,true,false,true,false,false,false,false,false,false,false,false,false,false,false,false,false,false,false,false,false,true,true,true],.gcA 2,.gcA 2] [.keep [true,false,false,true,false,true,false,false,false,false,false,false,false,false,false,false,false,false,false,false,false,false,false,true,true,true],.gcA 2,.gcA 2] n .nil) .nil []) []) (.mk (.co [.yAi 5] .nil) .nil []) []) []) [])
theorem wG (n:Nat):cZ Tryz.prog 205 vL oU (dK n) :=
 bL (Γ:=bX _ [(248,eP Ai Io (oM n)),(249,peM sO sP (mR n))] []) (an:=Wo n) (co:=[.gc [0,1,6]]) Tryz.func205 rfl (by kernel_rfl) fK (aR (all_cons (bR (zHz n)) (all_cons (bJ (yY n)) (all_nil))) (aS)) iP (aL _ _ rfl) (by kernel_rfl) (by kernel_rfl) (fun x=>by kernel_rfl)
def Tw (n:Nat):An (sZ.X):=.nil
theorem Jp (n:Nat):cZ Tryz.prog 315 Bz sZ (vH n) :=
 bL (Γ:=bX _ [] []) (an:=Tw n) (co:=[.gc [0,1,2]]) Tryz.func315 rfl (by kernel_rfl) fK (aR (all_nil) (aS)) iP (aL _ _ rfl) (by kernel_rfl) (by kernel_rfl) (fun x=>by kernel_rfl)
def Jq (n:Nat):An (nM.X):=.nil
theorem Bq (n:Nat):cZ Tryz.prog 244 wE nM (oP n) :=
 bL (Γ:=bX _ [(315,peM Bz sZ (vH n))] []) (an:=Jq n) (co:=[.gc [0,1,2]]) Tryz.func244 rfl (by kernel_rfl) fK (aR (all_cons (bJ (Jp n)) (all_nil)) (aS)) iP (aL _ _ rfl) (by kernel_rfl) (by kernel_rfl) (fun x=>by kernel_rfl)
def Tx (n:Nat):An (tC.X):=.nil
theorem Jr (n:Nat):cZ Tryz.prog 261 Ca tC (vI n) :=
 bL (Γ:=bX _ [(244,peM wE nM (oP n))] []) (an:=Tx n) (co:=[.gc [0,1,2]]) Tryz.func261 rfl (by kernel_rfl) fK (aR (all_cons (bJ (Bq n)) (all_nil)) (aS)) iP (aL _ _ rfl) (by kernel_rfl) (by kernel_rfl) (fun x=>by kernel_rfl)
def zNd (n:Nat):An (bG sJ):=(.mk .nil (.mk .nil (.mk (.mk (.mk .nil (.mk .nil (.mk .nil (.mk (.mk (.co [.ownB 3 17 106] .nil) .nil []) (.mk .nil (.mk (.co [.ownB 3 17 106] .nil) .nil []) []) []) []) []) []) .nil []) .nil []) []) [])
theorem Zg {b:Int} (hb:Pure Tryz.prog 206 [.int .u8] [.opq] (Dt (b,261))) (n:Nat):Pure Tryz.prog 161 Dv sJ (jG b n) :=
 dR (Γ:=bX _ [(203,peM vJ oQ (mF n)),(204,peM yX sI (pJ n)),(205,peM vL oU (dK n)),(206,peH b 261),(261,peM Ca tC (vI n))] []) (an:=zNd n) Tryz.func161 rfl (by kernel_rfl) fK (aR (all_cons (bJ (wF n)) (all_cons (bJ (xS n)) (all_cons (bJ (wG n)) (all_cons (zYj (hb)) (all_cons (bJ (Jr n)) (all_nil)))))) (aS)) iP (aL _ _ rfl) (fun x=>by kernel_rfl)
abbrev Gd:Sh:=⟨2,[⟨0,false,[.ptr 0 0]⟩,⟨1,true,[.v (.int .i64),.v (.int .i64),.v (.int .i64),.v (.int .i64),.v (.int .i64),.v (.int .i64),.v .bool,.v (.int .u8),.v .str,.v .str,.v (.int .i64),.v (.int .i64),.v (.int .i64),.v (.slice Du),.v .bool,.v .bool]⟩],[.box 284 [.v (.int .i64),.v (.int .i64),.v (.int .i64),.v (.int .i64),.v (.int .i64),.v .str,.v .str,.v .bool,.v .bool,.v .bool,.own 1,.v (.slice aD),.v .bool,.v (.slice aK),.v (.slice aC),.v .bool,.v (.slice aP),.own 2],.row 334 eH,.row 143 aD]⟩
abbrev vO:Sh:=⟨0,[],[.box 284 [.v (.int .i64),.v (.int .i64),.v (.int .i64),.v (.int .i64),.v (.int .i64),.v .str,.v .str,.v .bool,.v .bool,.v .bool,.own 1,.v (.slice aD),.v .bool,.v (.slice aK),.v (.slice aC),.v .bool,.v (.slice aP),.own 2],.row 334 eH,.row 143 aD]⟩
def Wp (n:Nat):An (vO.X):=.nil
theorem Lx (n:Nat):cZ Tryz.prog 258 Gd vO (mH n) :=
 bL (Γ:=bX _ [] []) (an:=Wp n) (co:=[.gc [0,1,2]]) Tryz.func258 rfl (by kernel_rfl) fK (aR (all_nil) (aS)) iP (aL _ _ rfl) (by kernel_rfl) (by kernel_rfl) (fun x=>by kernel_rfl)
def zNe (n:Nat):An (bG sJ):=(.mk .nil (.mk .nil (.mk (.mk (.mk .nil (.mk .nil (.mk .nil (.mk (.mk (.co [.ownB 3 17 106] .nil) .nil []) (.mk .nil (.mk (.co [.ownB 3 17 106] .nil) .nil []) []) []) []) []) []) .nil []) .nil []) []) [])
theorem Gf {b:Int} (hb:Pure Tryz.prog 206 [.int .u8] [.opq] (Dt (b,258))) (n:Nat):Pure Tryz.prog 161 Dv sJ (jH b n) :=
 dR (Γ:=bX _ [(203,peM vJ oQ (mF n)),(204,peM yX sI (pJ n)),(205,peM vL oU (dK n)),(206,peH b 258),(258,peM Gd vO (mH n))] []) (an:=zNe n) Tryz.func161 rfl (by kernel_rfl) fK (aR (all_cons (bJ (wF n)) (all_cons (bJ (xS n)) (all_cons (bJ (wG n)) (all_cons (zYj (hb)) (all_cons (bJ (Lx n)) (all_nil)))))) (aS)) iP (aL _ _ rfl) (fun x=>by kernel_rfl)
theorem zEq (n:Nat):Pure Tryz.prog 161 Dv sJ (mI n):=pure_or (Zg (Pm.ok _ (by simp [Lj])) n) (pure_or (Gf (Pm.ok _ (by simp [Lj])) n) (Gf (Pm.ok _ (by simp [Lj])) n))
end Go.Dec
