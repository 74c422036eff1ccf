/- Part of a proof over this seat: a library of my own, and what it says of this seat. No statement is proved here. -/
import Derived.Test.YtfpipcafiocdoaaGreatDoorProg
import Derived.Test.YtfpipcafiocdoaaGreatDoorPartBS
import Derived.Test.YtfpipcafiocdoaaGreatDoorPartBN
import Derived.Test.YtfpipcafiocdoaaGreatDoorPartBR
import Derived.KernelRfl
namespace Go.Dec
open Go.Proofs
set_option linter.unusedVariables false
def yEc:Tab:=[(3,⟨.int .i64,1,8,[.val (.int .i64) 0],some (.int .i64),false⟩),
 (4,⟨.bool,1,1,[.val .bool false],some .bool,false⟩),
 (5,⟨.int .u8,1,1,[.val (.int .u8) 0],some (.int .u8),false⟩),
 (9,⟨.str,1,16,[.val .str []],some .str,false⟩),
 (32,⟨.slice 5,1,24,[.aS],some (.slice (.int .u8)),false⟩),
 (37,⟨.slice 179,1,24,[.aS],some (.slice aK),false⟩),
 (38,⟨.slice 61,1,24,[.aS],some (.slice aB),false⟩),
 (40,⟨.struct [(0,4),(1,37),(2,38)],3,56,[.val .bool false,.aS,.aS],some pQ,false⟩),
 (43,⟨.slice 134,1,24,[.aS],some (.slice dR),false⟩),
 (44,⟨.slice 169,1,24,[.aS],some (.slice aT),false⟩),
 (46,⟨.struct [(0,3),(1,3),(2,3),(3,3),(4,3),(5,9),(6,9),(7,4),(8,4),(9,4),(10,43),(11,44)],12,128,[.val (.int .i64) 0,.val (.int .i64) 0,.val (.int .i64) 0,.val (.int .i64) 0,.val (.int .i64) 0,.val .str [],.val .str [],.val .bool false,.val .bool false,.val .bool false,.aS,.aS],some bJ,false⟩),
 (50,⟨.struct [(0,9),(1,4)],2,24,[.val .str [],.val .bool false],some aT,true⟩),
 (51,⟨.slice 63,1,24,[.aS],some (.slice cO),false⟩),
 (52,⟨.slice 102,1,24,[.aS],some (.slice aT),false⟩),
 (56,⟨.struct [(0,3),(1,3),(2,3)],3,24,[.val (.int .i64) 0,.val (.int .i64) 0,.val (.int .i64) 0],some yG,true⟩),
 (58,⟨.struct [(0,56),(3,56),(6,4)],7,56,[.val (.int .i64) 0,.val (.int .i64) 0,.val (.int .i64) 0,.val (.int .i64) 0,.val (.int .i64) 0,.val (.int .i64) 0,.val .bool false],some tY,true⟩),
 (59,⟨.slice 300,1,24,[.aS],some (.slice wW),false⟩),
 (61,⟨.struct [(0,58),(7,5),(8,9),(9,9),(10,3),(11,3),(12,3),(13,59),(14,4),(15,4)],16,152,[.val (.int .i64) 0,.val (.int .i64) 0,.val (.int .i64) 0,.val (.int .i64) 0,.val (.int .i64) 0,.val (.int .i64) 0,.val .bool false,.val (.int .u8) 0,.val .str [],.val .str [],.val (.int .i64) 0,.val (.int .i64) 0,.val (.int .i64) 0,.aS,.val .bool false,.val .bool false],some aB,false⟩),
 (63,⟨.struct [(0,9),(1,9)],2,32,[.val .str [],.val .str []],some cO,true⟩),
 (99,⟨.ptr 101,1,8,[.iO],none,false⟩),
 (101,⟨.struct [(0,99),(1,32)],2,32,[.iO,.aS],none,false⟩),
 (102,⟨.struct [(0,9),(1,4)],2,24,[.val .str [],.val .bool false],some aT,true⟩),
 (104,⟨.iface false,1,16,[.val .err false],some .err,false⟩),
 (131,⟨.slice 184,1,24,[.aS],some (.slice nN),false⟩),
 (134,⟨.struct [(0,4),(1,3)],2,16,[.val .bool false,.val (.int .i64) 0],some dR,true⟩),
 (169,⟨.struct [(0,9),(1,4)],2,24,[.val .str [],.val .bool false],some aT,true⟩),
 (179,⟨.struct [(0,131),(1,4)],2,32,[.aS,.val .bool false],some aK,false⟩),
 (180,⟨.int .u64,1,8,[.val (.int .u64) 0],some (.int .u64),false⟩),
 (182,⟨.arr 4 180,4,32,[.val (.arr 4 (.int .u64)) ([0,0,0,0])],some (.arr 4 (.int .u64)),true⟩),
 (184,⟨.struct [(0,3),(1,182),(5,3),(6,3),(7,3),(8,3),(9,3)],10,80,[.val (.int .i64) 0,.val (.arr 4 (.int .u64)) ([0,0,0,0]),.val (.int .i64) 0,.val (.int .i64) 0,.val (.int .i64) 0,.val (.int .i64) 0,.val (.int .i64) 0],some nN,true⟩),
 (300,⟨.struct [(0,9),(1,3)],2,24,[.val .str [],.val (.int .i64) 0],some wW,true⟩)]
theorem Bv:aP Tryz.prog yEc:=Lv (by kernel_rfl)
theorem Ja:Tryz.prog.follows .mixedOrders=true:=by kernel_rfl
abbrev Vv:List Ty:=[pQ]
abbrev Jb:List Ty:=[bJ]
abbrev Rs:List Ty:=[bJ,aT,.bool]
abbrev Eu:List Ty:=[bJ]
abbrev lF:Sh:=⟨2,[⟨0,false,[.ptr 0 0]⟩,⟨1,false,[.v .str]⟩],[.box 101 [.bE 0 0,.own 1],.row 5 (.int .u8)]⟩
abbrev gV:Sh:=⟨2,[⟨0,false,[.v (.int .i64)]⟩,⟨1,false,[.v .err]⟩],[.box 101 [.bE 0 0,.own 1],.row 5 (.int .u8)]⟩
abbrev Ll:List Ty:=[.slice aT]
abbrev Ac:List Ty:=[.str]
abbrev Oc:List Ty:=[.str,.str,.str]
abbrev yK:List Ty:=[.bool]
def zJn (n:Nat):An (bG Jb):=.nil
theorem Wn (n:Nat):Pure Tryz.prog 18 Vv Jb (Et n) :=
 iH (Γ:=gJ _ [] []) (an:=zJn n) Tryz.func18 rfl (by kernel_rfl) Bv (bM (all_nil) (bP)) Ja (bH _ _ rfl) (fun x=>by kernel_rfl)
def zDv (n:Nat):An (bG Eu):=.nil
theorem Uh (n:Nat):Pure Tryz.prog 17 Rs Eu (zN n) :=
 iH (Γ:=gJ _ [] []) (an:=zDv n) Tryz.func17 rfl (by kernel_rfl) Bv (bM (all_nil) (bP)) Ja (bH _ _ rfl) (fun x=>by kernel_rfl)
def sH (n:Nat):An (gV.X):=.nil
theorem pU (n:Nat):jS Tryz.prog 40 lF gV (bQ n) :=
 iT (Γ:=gJ _ [(81,peM tV tX (qA n))] []) (an:=sH n) (co:=[.gc [0,1]]) Tryz.func40 rfl (by kernel_rfl) Bv (bM (all_cons (fH (Fj n)) (all_nil)) (bP)) Ja (bH _ _ rfl) (by kernel_rfl) (by kernel_rfl) (fun x=>by kernel_rfl)
def zCi (n:Nat):An (bG Ac):=(.mk .nil (.mk .nil (.mk .nil (.mk (.mk .nil (.mk (.loop ⟨23,[⟨3,false,[.ptr 0 0]⟩,⟨4,false,[.v .str]⟩,⟨7,false,[.v (.slice aT)]⟩,⟨8,false,[.v (.int .i64)]⟩,⟨9,false,[.v (.int .i64)]⟩],[.box 101 [.bE 0 0,.own 1],.row 5 (.int .u8)]⟩ [.keep [false,false,false,true,true,false,false,true,true,true],.gcA 0,.ownB 0 1 32,.orn 0 0 0 0,.gcA 0] [.keep [false,false,false,true,true,false,false,true,true,true],.gcA 0,.gcA 0] n .nil) .nil []) []) .nil []) []) []) [])
theorem Rt (n:Nat):Pure Tryz.prog 20 Ll Ac (kL n) :=
 iH (Γ:=gJ _ [(40,peM lF gV (bQ n)),(41,peM rY mX (Builder_String n))] []) (an:=zCi n) Tryz.func20 rfl (by kernel_rfl) Bv (bM (all_cons (fH (pU n)) (all_cons (fH (El n)) (all_nil))) (bP)) Ja (bH _ _ rfl) (fun x=>by kernel_rfl)
def Ku (n:Nat):An (bG yK):=(.mk .nil (.mk .nil (.mk .nil (.mk (.co [.zGm 38,.zNh 39 2,.Yx 1 2] .nil) (.mk .nil (.mk (.mk .nil (.mk (.loop ⟨99,[⟨0,false,[.v .str]⟩,⟨1,false,[.v .str]⟩,⟨2,false,[.v .str]⟩,⟨7,false,[.ptr 0 0]⟩,⟨8,false,[.ptr 1 0]⟩,⟨9,false,[.own 2]⟩,⟨10,false,[.v (.int .i64)]⟩],[.box 40 [.v .bool,.v (.slice aK),.v (.slice aB)],.box 46 [.v (.int .i64),.v (.int .i64),.v (.int .i64),.v (.int .i64),.v (.int .i64),.v .str,.v .str,.v .bool,.v .bool,.v .bool,.v (.slice dR),.v (.slice aT)],.row 102 aT]⟩ [.keep [true,true,true,false,false,false,false,true,true,true,true],.gcA 0,.zNg 9 52,.ownB 0 1 37,.gcA 0,.Yx 0 1,.gcA 0] [.keep [true,true,true,false,false,false,false,true,true,true,true],.gcA 0,.gcA 0] n (.mk .nil (.mk (.mk (.mk (.co [.Yx 0 1] .nil) .nil []) .nil []) .nil []) [])) .nil []) []) .nil []) []) []) []) []) [])
theorem Bw (n:Nat):Pure Tryz.prog 7 Oc yK (sG n) :=
 iH (Γ:=gJ _ [(15,lS zBu zBv (shown15 n)),(18,lS Vv Jb (Et n)),(17,lS Rs Eu (zN n)),(19,lS xC oN (vL n)),(20,lS Ll Ac (kL n))] []) (an:=Ku n) Tryz.func7 rfl (by kernel_rfl) Bv (bM (all_cons (gG (zBw n)) (all_cons (gG (Wn n)) (all_cons (gG (Uh n)) (all_cons (gG (Ug n)) (all_cons (gG (Rt n)) (all_nil)))))) (bP)) Ja (bH _ _ rfl) (fun x=>by kernel_rfl)
end Go.Dec
