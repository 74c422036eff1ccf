/- Part of a proof over this seat: a library of my own, and what it says of this seat. No statement is proved here. -/
import Derived.Test.YtdgneppobefaoaaGreatDoorProg
import Derived.Test.YtdgneppobefaoaaGreatDoorPartBS
import Derived.Test.YtdgneppobefaoaaGreatDoorPartBR
import Derived.Test.YtdgneppobefaoaaGreatDoorPartBL
import Derived.Test.YtdgneppobefaoaaGreatDoorPartBM
import Derived.Test.YtdgneppobefaoaaGreatDoorPartBQ
import Derived.KernelRfl
namespace Go.Dec
open Go.Proofs
set_option linter.unusedVariables false
def yHp:Tab:=[(3,⟨.int .i64,1,8,[.val (.int .i64) 0],some (.int .i64),false⟩),
 (4,⟨.bool,1,1,[.val .bool false],some .bool,false⟩),
 (5,⟨.int .u8,1,1,[.val (.int .u8) 0],some (.int .u8),false⟩),
 (9,⟨.str,1,16,[.val .str []],some .str,false⟩),
 (32,⟨.slice 183,1,24,[.bE],some (.slice aJ),false⟩),
 (33,⟨.slice 70,1,24,[.bE],some (.slice aF),false⟩),
 (35,⟨.struct [(0,4),(1,32),(2,33)],3,56,[.val .bool false,.bE,.bE],some xH,false⟩),
 (40,⟨.slice 45,1,24,[.bE],some (.slice aU),false⟩),
 (45,⟨.struct [(0,9),(1,9)],2,32,[.val .str [],.val .str []],some aU,true⟩),
 (65,⟨.struct [(0,3),(1,3),(2,3)],3,24,[.val (.int .i64) 0,.val (.int .i64) 0,.val (.int .i64) 0],some zW,true⟩),
 (67,⟨.struct [(0,65),(3,65),(6,4)],7,56,[.val (.int .i64) 0,.val (.int .i64) 0,.val (.int .i64) 0,.val (.int .i64) 0,.val (.int .i64) 0,.val (.int .i64) 0,.val .bool false],some Pk,true⟩),
 (68,⟨.slice 243,1,24,[.bE],some (.slice Ht),false⟩),
 (70,⟨.struct [(0,67),(7,5),(8,9),(9,9),(10,3),(11,3),(12,3),(13,68),(14,4),(15,4)],16,152,[.val (.int .i64) 0,.val (.int .i64) 0,.val (.int .i64) 0,.val (.int .i64) 0,.val (.int .i64) 0,.val (.int .i64) 0,.val .bool false,.val (.int .u8) 0,.val .str [],.val .str [],.val (.int .i64) 0,.val (.int .i64) 0,.val (.int .i64) 0,.bE,.val .bool false,.val .bool false],some aF,false⟩),
 (92,⟨.int .u64,1,8,[.val (.int .u64) 0],some (.int .u64),false⟩),
 (102,⟨.slice 4,1,24,[.bE],some (.slice .bool),false⟩),
 (106,⟨.slice 143,1,24,[.bE],some (.slice aH),false⟩),
 (136,⟨.slice 334,1,24,[.bE],some (.slice dW),false⟩),
 (137,⟨.slice 366,1,24,[.bE],some (.slice aH),false⟩),
 (139,⟨.struct [(0,3),(1,3),(2,3),(3,3),(4,3),(5,9),(6,9),(7,4),(8,4),(9,4),(10,136),(11,137)],12,128,[.val (.int .i64) 0,.val (.int .i64) 0,.val (.int .i64) 0,.val (.int .i64) 0,.val (.int .i64) 0,.val .str [],.val .str [],.val .bool false,.val .bool false,.val .bool false,.bE,.bE],some aC,false⟩),
 (143,⟨.struct [(0,9),(1,4)],2,24,[.val .str [],.val .bool false],some aH,true⟩),
 (181,⟨.slice 187,1,24,[.bE],some (.slice Jr),false⟩),
 (183,⟨.struct [(0,181),(1,4)],2,32,[.bE,.val .bool false],some aJ,false⟩),
 (185,⟨.arr 4 92,4,32,[.val (.arr 4 (.int .u64)) ([0,0,0,0])],some (.arr 4 (.int .u64)),true⟩),
 (187,⟨.struct [(0,3),(1,185),(5,3),(6,3),(7,3),(8,3),(9,3)],10,80,[.val (.int .i64) 0,.val (.arr 4 (.int .u64)) ([0,0,0,0]),.val (.int .i64) 0,.val (.int .i64) 0,.val (.int .i64) 0,.val (.int .i64) 0,.val (.int .i64) 0],some Jr,true⟩),
 (243,⟨.struct [(0,9),(1,3)],2,24,[.val .str [],.val (.int .i64) 0],some Ht,true⟩),
 (282,⟨.ptr 284,1,8,[.kS],none,false⟩),
 (284,⟨.struct [(0,139),(12,35),(15,4),(16,40),(17,106)],18,240,[.val (.int .i64) 0,.val (.int .i64) 0,.val (.int .i64) 0,.val (.int .i64) 0,.val (.int .i64) 0,.val .str [],.val .str [],.val .bool false,.val .bool false,.val .bool false,.bE,.bE,.val .bool false,.bE,.bE,.val .bool false,.bE,.bE],some zRx,false⟩),
 (330,⟨.slice 65,1,24,[.bE],some (.slice zW),false⟩),
 (334,⟨.struct [(0,4),(1,3)],2,16,[.val .bool false,.val (.int .i64) 0],some dW,true⟩),
 (338,⟨.struct [(0,3),(1,4),(2,102)],3,40,[.val (.int .i64) 0,.val .bool false,.bE],some yLl,false⟩),
 (366,⟨.struct [(0,9),(1,4)],2,24,[.val .str [],.val .bool false],some aH,true⟩)]
theorem fU:bI Tryz.prog yHp:=zAn (by kernel_rfl)
theorem iQ:Tryz.prog.follows .mixedOrders=true:=by kernel_rfl
abbrev Bu:Sh:=⟨3,[⟨0,false,[.ptr 0 0]⟩,⟨1,false,[.v .str]⟩,⟨2,false,[.v .bool]⟩],[.box 284 [.v (.int .i64),.v (.int .i64),.v (.int .i64),.v (.int .i64),.v (.int .i64),.v .str,.v .str,.v .bool,.v .bool,.v .bool,.v (.slice dW),.v (.slice aH),.v .bool,.v (.slice aJ),.v (.slice aF),.v .bool,.v (.slice aU),.own 1],.row 143 aH]⟩
abbrev vZ:Sh:=⟨0,[],[.box 284 [.v (.int .i64),.v (.int .i64),.v (.int .i64),.v (.int .i64),.v (.int .i64),.v .str,.v .str,.v .bool,.v .bool,.v .bool,.v (.slice dW),.v (.slice aH),.v .bool,.v (.slice aJ),.v (.slice aF),.v .bool,.v (.slice aU),.own 1],.row 143 aH]⟩
abbrev Ea:Sh:=⟨1,[⟨0,false,[.ptr 0 0]⟩],[.box 284 [.v (.int .i64),.v (.int .i64),.v (.int .i64),.v (.int .i64),.v (.int .i64),.v .str,.v .str,.v .bool,.v .bool,.v .bool,.v (.slice dW),.v (.slice aH),.v .bool,.v (.slice aJ),.v (.slice aF),.v .bool,.v (.slice aU),.own 1],.row 143 aH]⟩
abbrev uS:Sh:=⟨0,[],[.box 284 [.v (.int .i64),.v (.int .i64),.v (.int .i64),.v (.int .i64),.v (.int .i64),.v .str,.v .str,.v .bool,.v .bool,.v .bool,.v (.slice dW),.v (.slice aH),.v .bool,.v (.slice aJ),.v (.slice aF),.v .bool,.v (.slice aU),.own 1],.row 143 aH]⟩
abbrev nJ:Sh:=⟨1,[⟨0,false,[.ptr 0 0]⟩],[.box 284 [.v (.int .i64),.v (.int .i64),.v (.int .i64),.v (.int .i64),.v (.int .i64),.v .str,.v .str,.v .bool,.v .bool,.v .bool,.v (.slice dW),.v (.slice aH),.v .bool,.v (.slice aJ),.v (.slice aF),.v .bool,.v (.slice aU),.own 1],.row 143 aH]⟩
abbrev kF:Sh:=⟨0,[],[.box 284 [.v (.int .i64),.v (.int .i64),.v (.int .i64),.v (.int .i64),.v (.int .i64),.v .str,.v .str,.v .bool,.v .bool,.v .bool,.v (.slice dW),.v (.slice aH),.v .bool,.v (.slice aJ),.v (.slice aF),.v .bool,.v (.slice aU),.own 1],.row 143 aH]⟩
abbrev Jw:Sh:=⟨1,[⟨0,false,[.ptr 0 0]⟩],[.box 284 [.v (.int .i64),.v (.int .i64),.v (.int .i64),.v (.int .i64),.v (.int .i64),.v .str,.v .str,.v .bool,.v .bool,.v .bool,.v (.slice dW),.v (.slice aH),.v .bool,.v (.slice aJ),.v (.slice aF),.v .bool,.v (.slice aU),.own 1],.row 143 aH]⟩
abbrev yK:Sh:=⟨0,[],[.box 284 [.v (.int .i64),.v (.int .i64),.v (.int .i64),.v (.int .i64),.v (.int .i64),.v .str,.v .str,.v .bool,.v .bool,.v .bool,.v (.slice dW),.v (.slice aH),.v .bool,.v (.slice aJ),.v (.slice aF),.v .bool,.v (.slice aU),.own 1],.row 143 aH]⟩
abbrev qG:Sh:=⟨1,[⟨0,false,[.ptr 0 0]⟩],[.box 284 [.v (.int .i64),.v (.int .i64),.v (.int .i64),.v (.int .i64),.v (.int .i64),.v .str,.v .str,.v .bool,.v .bool,.v .bool,.v (.slice dW),.v (.slice aH),.v .bool,.v (.slice aJ),.v (.slice aF),.v .bool,.v (.slice aU),.own 1],.row 143 aH]⟩
abbrev mZ:Sh:=⟨0,[],[.box 284 [.v (.int .i64),.v (.int .i64),.v (.int .i64),.v (.int .i64),.v (.int .i64),.v .str,.v .str,.v .bool,.v .bool,.v .bool,.v (.slice dW),.v (.slice aH),.v .bool,.v (.slice aJ),.v (.slice aF),.v .bool,.v (.slice aU),.own 1],.row 143 aH]⟩
abbrev wG:Sh:=Dq dW
abbrev wH:Sh:=xC 334 dW
abbrev nK:Sh:=⟨2,[⟨0,false,[.ptr 0 0]⟩,⟨1,true,[.v (.int .i64),.v (.int .i64),.v (.int .i64),.v (.int .i64),.v (.int .i64),.v (.int .i64),.v .bool,.v (.int .u8),.v .str,.v .str,.v (.int .i64),.v (.int .i64),.v (.int .i64),.v (.slice Ht),.v .bool,.v .bool]⟩],[.box 284 [.v (.int .i64),.v (.int .i64),.v (.int .i64),.v (.int .i64),.v (.int .i64),.v .str,.v .str,.v .bool,.v .bool,.v .bool,.v (.slice dW),.v (.slice aH),.v .bool,.v (.slice aJ),.v (.slice aF),.v .bool,.v (.slice aU),.own 1],.row 143 aH]⟩
abbrev kG:Sh:=⟨1,[⟨0,false,[.v .bool]⟩],[.box 284 [.v (.int .i64),.v (.int .i64),.v (.int .i64),.v (.int .i64),.v (.int .i64),.v .str,.v .str,.v .bool,.v .bool,.v .bool,.own 2,.v (.slice aH),.v .bool,.v (.slice aJ),.v (.slice aF),.v .bool,.v (.slice aU),.own 1],.row 143 aH,.row 334 dW]⟩
abbrev wO:Sh:=⟨3,[⟨0,false,[.ptr 0 0]⟩,⟨1,false,[.v .str]⟩,⟨2,false,[.v .bool]⟩],[.box 284 [.v (.int .i64),.v (.int .i64),.v (.int .i64),.v (.int .i64),.v (.int .i64),.v .str,.v .str,.v .bool,.v .bool,.v .bool,.own 1,.v (.slice aH),.v .bool,.v (.slice aJ),.v (.slice aF),.v .bool,.v (.slice aU),.own 2],.row 334 dW,.row 143 aH]⟩
abbrev pU:Sh:=⟨0,[],[.box 284 [.v (.int .i64),.v (.int .i64),.v (.int .i64),.v (.int .i64),.v (.int .i64),.v .str,.v .str,.v .bool,.v .bool,.v .bool,.own 1,.v (.slice aH),.v .bool,.v (.slice aJ),.v (.slice aF),.v .bool,.v (.slice aU),.own 2],.row 334 dW,.row 143 aH]⟩
abbrev qH:Sh:=⟨1,[⟨0,false,[.ptr 0 0]⟩],[.box 284 [.v (.int .i64),.v (.int .i64),.v (.int .i64),.v (.int .i64),.v (.int .i64),.v .str,.v .str,.v .bool,.v .bool,.v .bool,.own 1,.v (.slice aH),.v .bool,.v (.slice aJ),.v (.slice aF),.v .bool,.v (.slice aU),.own 2],.row 334 dW,.row 143 aH]⟩
abbrev lJ:Sh:=⟨0,[],[.box 284 [.v (.int .i64),.v (.int .i64),.v (.int .i64),.v (.int .i64),.v (.int .i64),.v .str,.v .str,.v .bool,.v .bool,.v .bool,.own 1,.v (.slice aH),.v .bool,.v (.slice aJ),.v (.slice aF),.v .bool,.v (.slice aU),.own 2],.row 334 dW,.row 143 aH]⟩
abbrev Fh:Sh:=⟨2,[⟨0,false,[.ptr 0 0]⟩,⟨1,true,[.v (.int .i64),.v (.int .i64),.v (.int .i64),.v (.int .i64),.v (.int .i64),.v (.int .i64),.v .bool,.v (.int .u8),.v .str,.v .str,.v (.int .i64),.v (.int .i64),.v (.int .i64),.v (.slice Ht),.v .bool,.v .bool]⟩],[.box 284 [.v (.int .i64),.v (.int .i64),.v (.int .i64),.v (.int .i64),.v (.int .i64),.v .str,.v .str,.v .bool,.v .bool,.v .bool,.own 1,.v (.slice aH),.v .bool,.v (.slice aJ),.v (.slice aF),.v .bool,.v (.slice aU),.own 2],.row 334 dW,.row 143 aH]⟩
abbrev wP:Sh:=⟨0,[],[.box 284 [.v (.int .i64),.v (.int .i64),.v (.int .i64),.v (.int .i64),.v (.int .i64),.v .str,.v .str,.v .bool,.v .bool,.v .bool,.own 1,.v (.slice aH),.v .bool,.v (.slice aJ),.v (.slice aF),.v .bool,.v (.slice aU),.own 2],.row 334 dW,.row 143 aH]⟩
abbrev wB:List Ty:=[xH,.bool,aC,.slice aU]
abbrev kQ:List Ty:=[aC,.slice aU,.slice aH]
def zFf (n:Nat):An (vZ.X):=.nil
theorem Aj (n:Nat):dK Tryz.prog 315 Bu vZ (sD n) :=
 bS (Γ:=dG _ [] []) (an:=zFf n) (co:=[.gc [0,1]]) Tryz.func315 rfl (by kernel_rfl) fU (aW (all_nil) (aX)) iQ (aR _ _ rfl) (by kernel_rfl) (by kernel_rfl) (fun x=>by kernel_rfl)
def Uk (n:Nat):An (uS.X):=.nil
theorem Kn (n:Nat):dK Tryz.prog 244 Ea uS (wM n) :=
 bS (Γ:=dG _ [(315,peM Bu vZ (sD n))] []) (an:=Uk n) (co:=[.gc [0,1]]) Tryz.func244 rfl (by kernel_rfl) fU (aW (all_cons (bA (Aj n)) (all_nil)) (aX)) iQ (aR _ _ rfl) (by kernel_rfl) (by kernel_rfl) (fun x=>by kernel_rfl)
def Zh (n:Nat):An (kF.X):=.nil
theorem lK (n:Nat):dK Tryz.prog 203 nJ kF (lH n) :=
 bS (Γ:=dG _ [(244,peM Ea uS (wM n))] []) (an:=Zh n) (co:=[.gc [0,1]]) Tryz.func203 rfl (by kernel_rfl) fU (aW (all_cons (bA (Kn n)) (all_nil)) (aX)) iQ (aR _ _ rfl) (by kernel_rfl) (by kernel_rfl) (fun x=>by kernel_rfl)
def Zi (n:Nat):An (yK.X):=(.mk (.mk .nil (.mk (.loop ⟨51,[⟨0,false,[.ptr 0 0]⟩,⟨12,false,[.v (.slice aH)]⟩,⟨13,false,[.v (.int .i64)]⟩,⟨14,false,[.v (.int .i64)]⟩],[.box 284 [.v (.int .i64),.v (.int .i64),.v (.int .i64),.v (.int .i64),.v (.int .i64),.v .str,.v .str,.v .bool,.v .bool,.v .bool,.v (.slice dW),.v (.slice aH),.v .bool,.v (.slice aJ),.v (.slice aF),.v .bool,.v (.slice aU),.own 1],.row 143 aH]⟩ [.keep [true,false,false,false,false,false,false,false,false,false,false,false,true,true,true],.gcA 2,.gcA 2] [.keep [true,false,false,false,false,false,false,false,false,false,false,false,true,true,true],.gcA 2,.gcA 2] n .nil) .nil []) []) .nil [])
theorem Pq (n:Nat):dK Tryz.prog 245 Jw yK (zY n) :=
 bS (Γ:=dG _ [(315,peM Bu vZ (sD n))] []) (an:=Zi n) (co:=[.gc [0,1]]) Tryz.func245 rfl (by kernel_rfl) fU (aW (all_cons (bA (Aj n)) (all_nil)) (aX)) iQ (aR _ _ rfl) (by kernel_rfl) (by kernel_rfl) (fun x=>by kernel_rfl)
def zFg (n:Nat):An (mZ.X):=.nil
theorem nU (n:Nat):dK Tryz.prog 204 qG mZ (oK n) :=
 bS (Γ:=dG _ [(245,peM Jw yK (zY n))] []) (an:=zFg n) (co:=[.gc [0,1]]) Tryz.func204 rfl (by kernel_rfl) fU (aW (all_cons (bA (Pq n)) (all_nil)) (aX)) iQ (aR _ _ rfl) (by kernel_rfl) (by kernel_rfl) (fun x=>by kernel_rfl)
theorem Bv (n:Nat):dK Tryz.prog 249 wG wH (pG n) :=
 sW (T:=yHp) Tryz.func249 rfl rfl rfl Tryz.underlying136 (by kernel_rfl) fU rfl rfl rfl rfl (by decide) (by decide) (fun _=>rfl)
def Zj (n:Nat):An (kG.X):=(.mk .nil (.mk .nil (.mk (.mk .nil (.mk (.loop ⟨100,[⟨0,false,[.ptr 0 0]⟩,⟨3,false,[.ptr 2 0]⟩,⟨5,false,[.own 3]⟩,⟨23,false,[.own 4]⟩,⟨24,false,[.v (.int .i64)]⟩,⟨25,false,[.v (.int .i64)]⟩],[.box 284 [.v (.int .i64),.v (.int .i64),.v (.int .i64),.v (.int .i64),.v (.int .i64),.v .str,.v .str,.v .bool,.v .bool,.v .bool,.v (.slice dW),.v (.slice aH),.v .bool,.v (.slice aJ),.v (.slice aF),.v .bool,.v (.slice aU),.own 1],.row 143 aH,.box 70 [.v (.int .i64),.v (.int .i64),.v (.int .i64),.v (.int .i64),.v (.int .i64),.v (.int .i64),.v .bool,.v (.int .u8),.v .str,.v .str,.v (.int .i64),.v (.int .i64),.v (.int .i64),.v (.slice Ht),.v .bool,.v .bool],.row 4 .bool,.row 65 zW]⟩ [.keep [true,false,false,true,false,true,false,false,false,false,false,false,false,false,false,false,false,false,false,false,false,false,false,true,true,true],.gcA 2,.gcA 2] [.keep [true,false,false,true,false,true,false,false,false,false,false,false,false,false,false,false,false,false,false,false,false,false,false,true,true,true],.gcA 2,.gcA 2] n .nil) .nil []) []) (.mk (.co [.yEe 5] .nil) .nil []) []) []) [])
theorem lM (n:Nat):dK Tryz.prog 205 nK kG (bX n) :=
 bS (Γ:=dG _ [(248,gL Dx Mi (kE n)),(249,peM wG wH (pG n))] []) (an:=Zj n) (co:=[.gc [0,1,6]]) Tryz.func205 rfl (by kernel_rfl) fU (aW (all_cons (dO (zKg n)) (all_cons (bA (Bv n)) (all_nil))) (aX)) iQ (aR _ _ rfl) (by kernel_rfl) (by kernel_rfl) (fun x=>by kernel_rfl)
def Xb (n:Nat):An (pU.X):=.nil
theorem xK (n:Nat):dK Tryz.prog 315 wO pU (nI n) :=
 bS (Γ:=dG _ [] []) (an:=Xb n) (co:=[.gc [0,1,2]]) Tryz.func315 rfl (by kernel_rfl) fU (aW (all_nil) (aX)) iQ (aR _ _ rfl) (by kernel_rfl) (by kernel_rfl) (fun x=>by kernel_rfl)
def Nk (n:Nat):An (lJ.X):=.nil
theorem sM (n:Nat):dK Tryz.prog 244 qH lJ (jJ n) :=
 bS (Γ:=dG _ [(315,peM wO pU (nI n))] []) (an:=Nk n) (co:=[.gc [0,1,2]]) Tryz.func244 rfl (by kernel_rfl) fU (aW (all_cons (bA (xK n)) (all_nil)) (aX)) iQ (aR _ _ rfl) (by kernel_rfl) (by kernel_rfl) (fun x=>by kernel_rfl)
def Xc (n:Nat):An (wP.X):=.nil
theorem Nl (n:Nat):dK Tryz.prog 261 Fh wP (yJ n) :=
 bS (Γ:=dG _ [(244,peM qH lJ (jJ n))] []) (an:=Xc n) (co:=[.gc [0,1,2]]) Tryz.func261 rfl (by kernel_rfl) fU (aW (all_cons (bA (sM n)) (all_nil)) (aX)) iQ (aR _ _ rfl) (by kernel_rfl) (by kernel_rfl) (fun x=>by kernel_rfl)
def zPg (n:Nat):An (bW kQ):=(.mk .nil (.mk .nil (.mk (.mk (.mk .nil (.mk .nil (.mk .nil (.mk (.mk (.co [.ownB 3 17 106] .nil) .nil []) (.mk .nil (.mk (.co [.ownB 3 17 106] .nil) .nil []) []) []) []) []) []) .nil []) .nil []) []) [])
theorem zCf {b:Int} (hb:Pure Tryz.prog 206 [.int .u8] [.opq] (zO (b,261))) (n:Nat):Pure Tryz.prog 161 wB kQ (dQ b n) :=
 fJ (Γ:=dG _ [(203,peM nJ kF (lH n)),(204,peM qG mZ (oK n)),(205,peM nK kG (bX n)),(206,peH b 261),(261,peM Fh wP (yJ n))] []) (an:=zPg n) Tryz.func161 rfl (by kernel_rfl) fU (aW (all_cons (bA (lK n)) (all_cons (bA (nU n)) (all_cons (bA (lM n)) (all_cons (zEw (hb)) (all_cons (bA (Nl n)) (all_nil)))))) (aX)) iQ (aR _ _ rfl) (fun x=>by kernel_rfl)
abbrev nV:Sh:=⟨1,[⟨0,false,[.ptr 0 0]⟩],[.box 284 [.v (.int .i64),.v (.int .i64),.v (.int .i64),.v (.int .i64),.v (.int .i64),.v .str,.v .str,.v .bool,.v .bool,.v .bool,.own 1,.v (.slice aH),.v .bool,.v (.slice aJ),.v (.slice aF),.v .bool,.v (.slice aU),.own 2],.row 334 dW,.row 143 aH]⟩
abbrev jT:Sh:=⟨0,[],[.box 284 [.v (.int .i64),.v (.int .i64),.v (.int .i64),.v (.int .i64),.v (.int .i64),.v .str,.v .str,.v .bool,.v .bool,.v .bool,.own 1,.v (.slice aH),.v .bool,.v (.slice aJ),.v (.slice aF),.v .bool,.v (.slice aU),.own 2],.row 334 dW,.row 143 aH]⟩
abbrev Fj:Sh:=⟨1,[⟨0,false,[.ptr 0 0]⟩],[.box 284 [.v (.int .i64),.v (.int .i64),.v (.int .i64),.v (.int .i64),.v (.int .i64),.v .str,.v .str,.v .bool,.v .bool,.v .bool,.own 1,.v (.slice aH),.v .bool,.v (.slice aJ),.v (.slice aF),.v .bool,.v (.slice aU),.own 2],.row 334 dW,.row 143 aH]⟩
abbrev wQ:Sh:=⟨0,[],[.box 284 [.v (.int .i64),.v (.int .i64),.v (.int .i64),.v (.int .i64),.v (.int .i64),.v .str,.v .str,.v .bool,.v .bool,.v .bool,.own 1,.v (.slice aH),.v .bool,.v (.slice aJ),.v (.slice aF),.v .bool,.v (.slice aU),.own 2],.row 334 dW,.row 143 aH]⟩
abbrev Eb:Sh:=⟨2,[⟨0,false,[.ptr 0 0]⟩,⟨1,true,[.v (.int .i64),.v (.int .i64),.v (.int .i64),.v (.int .i64),.v (.int .i64),.v (.int .i64),.v .bool,.v (.int .u8),.v .str,.v .str,.v (.int .i64),.v (.int .i64),.v (.int .i64),.v (.slice Ht),.v .bool,.v .bool]⟩],[.box 284 [.v (.int .i64),.v (.int .i64),.v (.int .i64),.v (.int .i64),.v (.int .i64),.v .str,.v .str,.v .bool,.v .bool,.v .bool,.own 1,.v (.slice aH),.v .bool,.v (.slice aJ),.v (.slice aF),.v .bool,.v (.slice aU),.own 2],.row 334 dW,.row 143 aH]⟩
abbrev uT:Sh:=⟨0,[],[.box 284 [.v (.int .i64),.v (.int .i64),.v (.int .i64),.v (.int .i64),.v (.int .i64),.v .str,.v .str,.v .bool,.v .bool,.v .bool,.own 1,.v (.slice aH),.v .bool,.v (.slice aJ),.v (.slice aF),.v .bool,.v (.slice aU),.own 2],.row 334 dW,.row 143 aH]⟩
def Sz (n:Nat):An (jT.X):=(.mk (.mk .nil (.mk (.loop ⟨51,[⟨0,false,[.ptr 0 0]⟩,⟨12,false,[.v (.slice aH)]⟩,⟨13,false,[.v (.int .i64)]⟩,⟨14,false,[.v (.int .i64)]⟩],[.box 284 [.v (.int .i64),.v (.int .i64),.v (.int .i64),.v (.int .i64),.v (.int .i64),.v .str,.v .str,.v .bool,.v .bool,.v .bool,.own 1,.v (.slice aH),.v .bool,.v (.slice aJ),.v (.slice aF),.v .bool,.v (.slice aU),.own 2],.row 334 dW,.row 143 aH]⟩ [.keep [true,false,false,false,false,false,false,false,false,false,false,false,true,true,true],.gcA 3,.gcA 3] [.keep [true,false,false,false,false,false,false,false,false,false,false,false,true,true,true],.gcA 3,.gcA 3] n .nil) .nil []) []) .nil [])
theorem nL (n:Nat):dK Tryz.prog 245 nV jT (gN n) :=
 bS (Γ:=dG _ [(315,peM wO pU (nI n))] []) (an:=Sz n) (co:=[.gc [0,1,2]]) Tryz.func245 rfl (by kernel_rfl) fU (aW (all_cons (bA (xK n)) (all_nil)) (aX)) iQ (aR _ _ rfl) (by kernel_rfl) (by kernel_rfl) (fun x=>by kernel_rfl)
def Xd (n:Nat):An (wQ.X):=.nil
theorem Nn (n:Nat):dK Tryz.prog 204 Fj wQ (rP n) :=
 bS (Γ:=dG _ [(245,peM nV jT (gN n))] []) (an:=Xd n) (co:=[.gc [0,1,2]]) Tryz.func204 rfl (by kernel_rfl) fU (aW (all_cons (bA (nL n)) (all_nil)) (aX)) iQ (aR _ _ rfl) (by kernel_rfl) (by kernel_rfl) (fun x=>by kernel_rfl)
def Ul (n:Nat):An (uT.X):=.nil
theorem Ko (n:Nat):dK Tryz.prog 257 Eb uT (lX n) :=
 bS (Γ:=dG _ [(38,gL Jl Jm (strings_Cut n)),(204,peM Fj wQ (rP n)),(245,peM nV jT (gN n))] []) (an:=Ul n) (co:=[.gc [0,1,2]]) Tryz.func257 rfl (by kernel_rfl) fU (aW (all_cons (dO (Jo n)) (all_cons (bA (Nn n)) (all_cons (bA (nL n)) (all_nil)))) (aX)) iQ (aR _ _ rfl) (by kernel_rfl) (by kernel_rfl) (fun x=>by kernel_rfl)
def zPh (n:Nat):An (bW kQ):=(.mk .nil (.mk .nil (.mk (.mk (.mk .nil (.mk .nil (.mk .nil (.mk (.mk (.co [.ownB 3 17 106] .nil) .nil []) (.mk .nil (.mk (.co [.ownB 3 17 106] .nil) .nil []) []) []) []) []) []) .nil []) .nil []) []) [])
theorem zCg {b:Int} (hb:Pure Tryz.prog 206 [.int .u8] [.opq] (zO (b,257))) (n:Nat):Pure Tryz.prog 161 wB kQ (jC b n) :=
 fJ (Γ:=dG _ [(203,peM nJ kF (lH n)),(204,peM qG mZ (oK n)),(205,peM nK kG (bX n)),(206,peH b 257),(257,peM Eb uT (lX n))] []) (an:=zPh n) Tryz.func161 rfl (by kernel_rfl) fU (aW (all_cons (bA (lK n)) (all_cons (bA (nU n)) (all_cons (bA (lM n)) (all_cons (zEw (hb)) (all_cons (bA (Ko n)) (all_nil)))))) (aX)) iQ (aR _ _ rfl) (fun x=>by kernel_rfl)
abbrev Ak:Sh:=⟨1,[⟨0,false,[.ptr 0 0]⟩],[.box 284 [.v (.int .i64),.v (.int .i64),.v (.int .i64),.v (.int .i64),.v (.int .i64),.v .str,.v .str,.v .bool,.v .bool,.v .bool,.own 1,.v (.slice aH),.v .bool,.v (.slice aJ),.v (.slice aF),.v .bool,.v (.slice aU),.own 2],.row 334 dW,.row 143 aH]⟩
abbrev tN:Sh:=⟨0,[],[.box 284 [.v (.int .i64),.v (.int .i64),.v (.int .i64),.v (.int .i64),.v (.int .i64),.v .str,.v .str,.v .bool,.v .bool,.v .bool,.own 1,.v (.slice aH),.v .bool,.v (.slice aJ),.v (.slice aF),.v .bool,.v (.slice aU),.own 2],.row 334 dW,.row 143 aH]⟩
abbrev Ml:Sh:=⟨2,[⟨0,false,[.ptr 0 0]⟩,⟨1,false,[.v (.int .i64)]⟩],[.box 284 [.v (.int .i64),.v (.int .i64),.v (.int .i64),.v (.int .i64),.v (.int .i64),.v .str,.v .str,.v .bool,.v .bool,.v .bool,.own 1,.v (.slice aH),.v .bool,.v (.slice aJ),.v (.slice aF),.v .bool,.v (.slice aU),.own 2],.row 334 dW,.row 143 aH]⟩
abbrev Aa:Sh:=⟨0,[],[.box 284 [.v (.int .i64),.v (.int .i64),.v (.int .i64),.v (.int .i64),.v (.int .i64),.v .str,.v .str,.v .bool,.v .bool,.v .bool,.own 1,.v (.slice aH),.v .bool,.v (.slice aJ),.v (.slice aF),.v .bool,.v (.slice aU),.own 2],.row 334 dW,.row 143 aH]⟩
abbrev Jy:Sh:=⟨2,[⟨0,false,[.ptr 0 0]⟩,⟨1,true,[.v (.int .i64),.v (.int .i64),.v (.int .i64),.v (.int .i64),.v (.int .i64),.v (.int .i64),.v .bool,.v (.int .u8),.v .str,.v .str,.v (.int .i64),.v (.int .i64),.v (.int .i64),.v (.slice Ht),.v .bool,.v .bool]⟩],[.box 284 [.v (.int .i64),.v (.int .i64),.v (.int .i64),.v (.int .i64),.v (.int .i64),.v .str,.v .str,.v .bool,.v .bool,.v .bool,.own 1,.v (.slice aH),.v .bool,.v (.slice aJ),.v (.slice aF),.v .bool,.v (.slice aU),.own 2],.row 334 dW,.row 143 aH]⟩
abbrev yL:Sh:=⟨0,[],[.box 284 [.v (.int .i64),.v (.int .i64),.v (.int .i64),.v (.int .i64),.v (.int .i64),.v .str,.v .str,.v .bool,.v .bool,.v .bool,.own 1,.v (.slice aH),.v .bool,.v (.slice aJ),.v (.slice aF),.v .bool,.v (.slice aU),.own 2],.row 334 dW,.row 143 aH]⟩
def Ta (n:Nat):An (tN.X):=.nil
theorem Jz (n:Nat):dK Tryz.prog 203 Ak tN (uR n) :=
 bS (Γ:=dG _ [(244,peM qH lJ (jJ n))] []) (an:=Ta n) (co:=[.gc [0,1,2]]) Tryz.func203 rfl (by kernel_rfl) fU (aW (all_cons (bA (sM n)) (all_nil)) (aX)) iQ (aR _ _ rfl) (by kernel_rfl) (by kernel_rfl) (fun x=>by kernel_rfl)
def zCh (n:Nat):An (Aa.X):=.nil
theorem Tc (n:Nat):dK Tryz.prog 321 Ml Aa (vY n) :=
 bS (Γ:=dG _ [] []) (an:=zCh n) (co:=[.gc [0,1,2]]) Tryz.func321 rfl (by kernel_rfl) fU (aW (all_nil) (aX)) iQ (aR _ _ rfl) (by kernel_rfl) (by kernel_rfl) (fun x=>by kernel_rfl)
def Zk (n:Nat):An (yL.X):=.nil
theorem Pv (n:Nat):dK Tryz.prog 263 Jy yL (zZ n) :=
 bS (Γ:=dG _ [(203,peM Ak tN (uR n)),(245,peM nV jT (gN n)),(321,peM Ml Aa (vY n))] []) (an:=Zk n) (co:=[.gc [0,1,2]]) Tryz.func263 rfl (by kernel_rfl) fU (aW (all_cons (bA (Jz n)) (all_cons (bA (nL n)) (all_cons (bA (Tc n)) (all_nil)))) (aX)) iQ (aR _ _ rfl) (by kernel_rfl) (by kernel_rfl) (fun x=>by kernel_rfl)
def zPi (n:Nat):An (bW kQ):=(.mk .nil (.mk .nil (.mk (.mk (.mk .nil (.mk .nil (.mk .nil (.mk (.mk (.co [.ownB 3 17 106] .nil) .nil []) (.mk .nil (.mk (.co [.ownB 3 17 106] .nil) .nil []) []) []) []) []) []) .nil []) .nil []) []) [])
theorem zCi {b:Int} (hb:Pure Tryz.prog 206 [.int .u8] [.opq] (zO (b,263))) (n:Nat):Pure Tryz.prog 161 wB kQ (tK b n) :=
 fJ (Γ:=dG _ [(203,peM nJ kF (lH n)),(204,peM qG mZ (oK n)),(205,peM nK kG (bX n)),(206,peH b 263),(263,peM Jy yL (zZ n))] []) (an:=zPi n) Tryz.func161 rfl (by kernel_rfl) fU (aW (all_cons (bA (lK n)) (all_cons (bA (nU n)) (all_cons (bA (lM n)) (all_cons (zEw (hb)) (all_cons (bA (Pv n)) (all_nil)))))) (aX)) iQ (aR _ _ rfl) (fun x=>by kernel_rfl)
abbrev Ec:Sh:=⟨2,[⟨0,false,[.ptr 0 0]⟩,⟨1,true,[.v (.int .i64),.v (.int .i64),.v (.int .i64),.v (.int .i64),.v (.int .i64),.v (.int .i64),.v .bool,.v (.int .u8),.v .str,.v .str,.v (.int .i64),.v (.int .i64),.v (.int .i64),.v (.slice Ht),.v .bool,.v .bool]⟩],[.box 284 [.v (.int .i64),.v (.int .i64),.v (.int .i64),.v (.int .i64),.v (.int .i64),.v .str,.v .str,.v .bool,.v .bool,.v .bool,.own 1,.v (.slice aH),.v .bool,.v (.slice aJ),.v (.slice aF),.v .bool,.v (.slice aU),.own 2],.row 334 dW,.row 143 aH]⟩
abbrev uU:Sh:=⟨0,[],[.box 284 [.v (.int .i64),.v (.int .i64),.v (.int .i64),.v (.int .i64),.v (.int .i64),.v .str,.v .str,.v .bool,.v .bool,.v .bool,.own 1,.v (.slice aH),.v .bool,.v (.slice aJ),.v (.slice aF),.v .bool,.v (.slice aU),.own 2],.row 334 dW,.row 143 aH]⟩
def Um (n:Nat):An (uU.X):=.nil
theorem Kq (n:Nat):dK Tryz.prog 250 Ec uU (wN n) :=
 bS (Γ:=dG _ [] []) (an:=Um n) (co:=[.gc [0,1,2]]) Tryz.func250 rfl (by kernel_rfl) fU (aW (all_nil) (aX)) iQ (aR _ _ rfl) (by kernel_rfl) (by kernel_rfl) (fun x=>by kernel_rfl)
def zPj (n:Nat):An (bW kQ):=(.mk .nil (.mk .nil (.mk (.mk (.mk .nil (.mk .nil (.mk .nil (.mk (.mk (.co [.ownB 3 17 106] .nil) .nil []) (.mk .nil (.mk (.co [.ownB 3 17 106] .nil) .nil []) []) []) []) []) []) .nil []) .nil []) []) [])
theorem zCj {b:Int} (hb:Pure Tryz.prog 206 [.int .u8] [.opq] (zO (b,250))) (n:Nat):Pure Tryz.prog 161 wB kQ (Cz b n) :=
 fJ (Γ:=dG _ [(203,peM nJ kF (lH n)),(204,peM qG mZ (oK n)),(205,peM nK kG (bX n)),(206,peH b 250),(250,peM Ec uU (wN n))] []) (an:=zPj n) Tryz.func161 rfl (by kernel_rfl) fU (aW (all_cons (bA (lK n)) (all_cons (bA (nU n)) (all_cons (bA (lM n)) (all_cons (zEw (hb)) (all_cons (bA (Kq n)) (all_nil)))))) (aX)) iQ (aR _ _ rfl) (fun x=>by kernel_rfl)
theorem zHp (n:Nat):Pure Tryz.prog 161 wB kQ (fD n):=pure_or (zCf (Hr.ok _ (by simp [Ik])) n) (pure_or (zCg (Hr.ok _ (by simp [Ik])) n) (pure_or (zCi (Hr.ok _ (by simp [Ik])) n) (zCj (Hr.ok _ (by simp [Ik])) n)))
end Go.Dec
