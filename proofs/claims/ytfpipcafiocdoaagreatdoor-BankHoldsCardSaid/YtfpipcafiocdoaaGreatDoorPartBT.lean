/- Part of a proof over this seat: a library of my own, and what it says of this seat. No statement is proved here. -/
import Derived.Test.YtfpipcafiocdoaaGreatDoorProg
import Derived.Test.YtfpipcafiocdoaaGreatDoorPartBS
import Derived.Test.YtfpipcafiocdoaaGreatDoorPartBQ
import Derived.Test.YtfpipcafiocdoaaGreatDoorPartBR
import Derived.Test.YtfpipcafiocdoaaGreatDoorPartBM
import Derived.KernelRfl
namespace Go.Dec
open Go.Proofs
set_option linter.unusedVariables false
def yEk:Tab:=[(3,⟨.int .i64,1,8,[.val (.int .i64) 0],some (.int .i64),false⟩),
 (4,⟨.bool,1,1,[.val .bool false],some .bool,false⟩),
 (5,⟨.int .u8,1,1,[.val (.int .u8) 0],some (.int .u8),false⟩),
 (9,⟨.str,1,16,[.val .str []],some .str,false⟩),
 (33,⟨.slice 9,1,24,[.aX],some (.slice .str),false⟩),
 (37,⟨.slice 179,1,24,[.aX],some (.slice aM),false⟩),
 (38,⟨.slice 61,1,24,[.aX],some (.slice aA),false⟩),
 (40,⟨.struct [(0,4),(1,37),(2,38)],3,56,[.val .bool false,.aX,.aX],some qV,false⟩),
 (43,⟨.slice 134,1,24,[.aX],some (.slice bW),false⟩),
 (44,⟨.slice 169,1,24,[.aX],some (.slice aS),false⟩),
 (46,⟨.struct [(0,3),(1,3),(2,3),(3,3),(4,3),(5,9),(6,9),(7,4),(8,4),(9,4),(10,43),(11,44)],12,128,[.val (.int .i64) 0,.val (.int .i64) 0,.val (.int .i64) 0,.val (.int .i64) 0,.val (.int .i64) 0,.val .str [],.val .str [],.val .bool false,.val .bool false,.val .bool false,.aX,.aX],some bT,false⟩),
 (50,⟨.struct [(0,9),(1,4)],2,24,[.val .str [],.val .bool false],some aS,true⟩),
 (56,⟨.struct [(0,3),(1,3),(2,3)],3,24,[.val (.int .i64) 0,.val (.int .i64) 0,.val (.int .i64) 0],some zM,true⟩),
 (58,⟨.struct [(0,56),(3,56),(6,4)],7,56,[.val (.int .i64) 0,.val (.int .i64) 0,.val (.int .i64) 0,.val (.int .i64) 0,.val (.int .i64) 0,.val (.int .i64) 0,.val .bool false],some vE,true⟩),
 (59,⟨.slice 300,1,24,[.aX],some (.slice vX),false⟩),
 (61,⟨.struct [(0,58),(7,5),(8,9),(9,9),(10,3),(11,3),(12,3),(13,59),(14,4),(15,4)],16,152,[.val (.int .i64) 0,.val (.int .i64) 0,.val (.int .i64) 0,.val (.int .i64) 0,.val (.int .i64) 0,.val (.int .i64) 0,.val .bool false,.val (.int .u8) 0,.val .str [],.val .str [],.val (.int .i64) 0,.val (.int .i64) 0,.val (.int .i64) 0,.aX,.val .bool false,.val .bool false],some aA,false⟩),
 (131,⟨.slice 184,1,24,[.aX],some (.slice oF),false⟩),
 (134,⟨.struct [(0,4),(1,3)],2,16,[.val .bool false,.val (.int .i64) 0],some bW,true⟩),
 (169,⟨.struct [(0,9),(1,4)],2,24,[.val .str [],.val .bool false],some aS,true⟩),
 (179,⟨.struct [(0,131),(1,4)],2,32,[.aX,.val .bool false],some aM,false⟩),
 (180,⟨.int .u64,1,8,[.val (.int .u64) 0],some (.int .u64),false⟩),
 (182,⟨.arr 4 180,4,32,[.val (.arr 4 (.int .u64)) ([0,0,0,0])],some (.arr 4 (.int .u64)),true⟩),
 (184,⟨.struct [(0,3),(1,182),(5,3),(6,3),(7,3),(8,3),(9,3)],10,80,[.val (.int .i64) 0,.val (.arr 4 (.int .u64)) ([0,0,0,0]),.val (.int .i64) 0,.val (.int .i64) 0,.val (.int .i64) 0,.val (.int .i64) 0,.val (.int .i64) 0],some oF,true⟩),
 (300,⟨.struct [(0,9),(1,3)],2,24,[.val .str [],.val (.int .i64) 0],some vX,true⟩)]
theorem Uh:aZ Tryz.prog yEk:=Na (by kernel_rfl)
theorem zCf:Tryz.prog.follows .mixedOrders=true:=by kernel_rfl
abbrev Vy:List Ty:=[qV]
abbrev Kg:List Ty:=[bT]
abbrev Rx:List Ty:=[bT,aS,.bool]
abbrev Gq:List Ty:=[bT]
abbrev Oy:List Ty:=[.str,.str]
abbrev zU:List Ty:=[.bool]
def zIs (n:Nat):An (bQ Kg):=.nil
theorem Wp (n:Nat):Pure Tryz.prog 18 Vy Kg (Gp n) :=
 nD (Γ:=iC _ [] []) (an:=zIs n) Tryz.func18 rfl (by kernel_rfl) Uh (dA (all_nil) (dB)) zCf (bS _ _ rfl) (fun x=>by kernel_rfl)
def zDp (n:Nat):An (bQ Gq):=.nil
theorem Ui (n:Nat):Pure Tryz.prog 17 Rx Gq (sK n) :=
 nD (Γ:=iC _ [] []) (an:=zDp n) Tryz.func17 rfl (by kernel_rfl) Uh (dA (all_nil) (dB)) zCf (bS _ _ rfl) (fun x=>by kernel_rfl)
def Lv (n:Nat):An (bQ zU):=(.mk .nil (.mk .nil (.mk .nil (.mk .nil (.mk .nil (.mk (.mk .nil (.mk (.loop ⟨113,[⟨0,false,[.v .str]⟩,⟨1,false,[.v .str]⟩,⟨5,false,[.ptr 0 0]⟩,⟨7,false,[.ptr 1 0]⟩,⟨8,false,[.v (.int .i64)]⟩],[.box 40 [.v .bool,.v (.slice aM),.v (.slice aA)],.box 46 [.v (.int .i64),.v (.int .i64),.v (.int .i64),.v (.int .i64),.v (.int .i64),.v .str,.v .str,.v .bool,.v .bool,.v .bool,.v (.slice bW),.v (.slice aS)]]⟩ [.keep [true,true,false,false,false,true,false,true,true],.gcA 0,.gcA 0] [.keep [true,true,false,false,false,true,false,true,true],.gcA 0,.gcA 0] n .nil) .nil []) []) (.mk .nil (.mk (.mk .nil (.mk (.loop ⟨113,[⟨0,false,[.v .str]⟩,⟨1,false,[.v .str]⟩,⟨5,false,[.ptr 0 0]⟩,⟨7,false,[.ptr 1 0]⟩,⟨9,false,[.v (.int .i64)]⟩],[.box 40 [.v .bool,.v (.slice aM),.v (.slice aA)],.box 46 [.v (.int .i64),.v (.int .i64),.v (.int .i64),.v (.int .i64),.v (.int .i64),.v .str,.v .str,.v .bool,.v .bool,.v .bool,.v (.slice bW),.v (.slice aS)]]⟩ [.keep [true,true,false,false,false,true,false,true,false,true],.gcA 0,.gcA 0] [.keep [true,true,false,false,false,true,false,true,false,true],.gcA 0,.gcA 0] n .nil) .nil []) []) .nil []) []) []) []) []) []) []) [])
theorem Dm (n:Nat):Pure Tryz.prog 6 Oy zU (uF n) :=
 nD (Γ:=iC _ [(15,nY zBq zBr (shown15 n)),(16,nY rE xA (oO n)),(18,nY Vy Kg (Gp n)),(17,nY Rx Gq (sK n)),(19,nY uE kU (dX n))] []) (an:=Lv n) Tryz.func6 rfl (by kernel_rfl) Uh (dA (all_cons (iK (zBs n)) (all_cons (iK (Lu n)) (all_cons (iK (Wp n)) (all_cons (iK (Ui n)) (all_cons (iK (Ug n)) (all_nil)))))) (dB)) zCf (bS _ _ rfl) (fun x=>by kernel_rfl)
end Go.Dec
