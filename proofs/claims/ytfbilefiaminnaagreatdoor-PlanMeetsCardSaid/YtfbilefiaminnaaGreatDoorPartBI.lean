/- Part of a proof over this seat: a library of my own, and what it says of this seat. No statement is proved here. -/
import Derived.Test.YtfbilefiaminnaaGreatDoorProg
import Derived.Test.YtfbilefiaminnaaGreatDoorPartAQ
import Derived.Test.YtfbilefiaminnaaGreatDoorPartBH
import Derived.Test.YtfbilefiaminnaaGreatDoorPartBE
import Derived.KernelRfl
namespace Go.Dec
abbrev zOh:List OS:=[.box 41 [.v .bool,.v (.slice bQ),.v (.slice aC),.v .bool,.v (.slice .str),.v .bool]]
open Go.Proofs
set_option linter.unusedVariables false
def xCw:Tab:=[(3,⟨.int .i64,1,8,[.val (.int .i64) 0],some (.int .i64),false⟩),(4,⟨.bool,1,1,[.val .bool false],some .bool,false⟩),(5,⟨.int .u8,1,1,[.val (.int .u8) 0],some (.int .u8),false⟩),(9,⟨.str,1,16,[.val .str []],some .str,false⟩),(22,⟨.slice 52,1,24,[.bJ],some (.slice rD),false⟩),(23,⟨.slice 41,1,24,[.bJ],some (.slice dP),false⟩),(32,⟨.slice 9,1,24,[.bJ],some (.slice .str),false⟩),(36,⟨.slice 87,1,24,[.bJ],some (.slice bQ),false⟩),(37,⟨.slice 77,1,24,[.bJ],some (.slice aC),false⟩),(39,⟨.struct [(0,4),(1,36),(2,37)],3,56,[.val .bool false,.bJ,.bJ],some oO,false⟩),(41,⟨.struct [(0,39),(3,4),(4,32),(5,4)],6,96,[.val .bool false,.bJ,.bJ,.val .bool false,.bJ,.val .bool false],some dP,false⟩),(45,⟨.slice 4,1,24,[.bJ],some (.slice .bool),false⟩),(52,⟨.struct [(0,9),(1,32),(2,4)],3,48,[.val .str [],.bJ,.val .bool false],some rD,false⟩),(57,⟨.int .i64,1,8,[.val (.int .i64) 0],some (.int .i64),false⟩),(65,⟨.func,1,8,[.val .opq Value.nilFunc],some .opq,false⟩),(69,⟨.ptr 80,1,8,[.lF],none,false⟩),(70,⟨.map 9 3,1,8,[.val .opq (Value.map none)],none,false⟩),(72,⟨.struct [(0,3),(1,3),(2,3)],3,24,[.val (.int .i64) 0,.val (.int .i64) 0,.val (.int .i64) 0],some Wj,true⟩),(74,⟨.struct [(0,72),(3,72),(6,4)],7,56,[.val (.int .i64) 0,.val (.int .i64) 0,.val (.int .i64) 0,.val (.int .i64) 0,.val (.int .i64) 0,.val (.int .i64) 0,.val .bool false],some zG,true⟩),(75,⟨.slice 134,1,24,[.bJ],some (.slice oF),false⟩),(77,⟨.struct [(0,74),(7,5),(8,9),(9,9),(10,3),(11,3),(12,3),(13,75),(14,4),(15,4)],16,152,[.val (.int .i64) 0,.val (.int .i64) 0,.val (.int .i64) 0,.val (.int .i64) 0,.val (.int .i64) 0,.val (.int .i64) 0,.val .bool false,.val (.int .u8) 0,.val .str [],.val .str [],.val (.int .i64) 0,.val (.int .i64) 0,.val (.int .i64) 0,.bJ,.val .bool false,.val .bool false],some aC,false⟩),(78,⟨.slice 118,1,24,[.bJ],some (.slice gP),false⟩),(80,⟨.struct [(0,9),(1,4),(2,3),(3,3),(4,39),(7,77),(23,78),(24,78),(25,70)],26,304,[.val .str [],.val .bool false,.val (.int .i64) 0,.val (.int .i64) 0,.val .bool false,.bJ,.bJ,.val (.int .i64) 0,.val (.int .i64) 0,.val (.int .i64) 0,.val (.int .i64) 0,.val (.int .i64) 0,.val (.int .i64) 0,.val .bool false,.val (.int .u8) 0,.val .str [],.val .str [],.val (.int .i64) 0,.val (.int .i64) 0,.val (.int .i64) 0,.bJ,.val .bool false,.val .bool false,.bJ,.bJ,.val .opq (Value.map none)],none,false⟩),(85,⟨.slice 125,1,24,[.bJ],some (.slice bA),false⟩),(87,⟨.struct [(0,85),(1,4)],2,32,[.bJ,.val .bool false],some bQ,false⟩),(100,⟨.func,1,8,[.val .opq Value.nilFunc],some .opq,false⟩),(101,⟨.slice 32,1,24,[.bJ],some (.slice (.slice .str)),false⟩),(113,⟨.map 5 147,1,8,[.val .opq (Value.map none)],none,false⟩),(118,⟨.struct [(0,3),(1,3),(2,9)],3,32,[.val (.int .i64) 0,.val (.int .i64) 0,.val .str []],some gP,true⟩),(121,⟨.int .u64,1,8,[.val (.int .u64) 0],some (.int .u64),false⟩),(123,⟨.arr 4 121,4,32,[.val (.arr 4 (.int .u64)) ([0,0,0,0])],some (.arr 4 (.int .u64)),true⟩),(125,⟨.struct [(0,3),(1,123),(5,3),(6,3),(7,3),(8,3),(9,3)],10,80,[.val (.int .i64) 0,.val (.arr 4 (.int .u64)) ([0,0,0,0]),.val (.int .i64) 0,.val (.int .i64) 0,.val (.int .i64) 0,.val (.int .i64) 0,.val (.int .i64) 0],some bA,true⟩),(127,⟨.arr 256 4,256,256,[.val (.arr 256 .bool) (List.replicate 256 false)],some (.arr 256 .bool),true⟩),(134,⟨.struct [(0,9),(1,3)],2,24,[.val .str [],.val (.int .i64) 0],some oF,true⟩),(147,⟨.func,1,8,[.val .opq Value.nilFunc],some .opq,false⟩),(149,⟨.slice 5,1,24,[.bJ],some (.slice (.int .u8)),false⟩),(173,⟨.arr 256 5,256,256,[.val (.arr 256 (.int .u8)) (List.replicate 256 0)],some (.arr 256 (.int .u8)),true⟩),(193,⟨.ptr 195,1,8,[.lF],none,false⟩),(195,⟨.struct [(0,193),(1,149)],2,32,[.lF,.bJ],none,false⟩),(198,⟨.iface false,1,16,[.val .err false],some .err,false⟩),(204,⟨.arr 256 4,256,256,[.val (.arr 256 .bool) (List.replicate 256 false)],some (.arr 256 .bool),true⟩),(208,⟨.ptr 204,1,8,[.lF],none,false⟩),(210,⟨.ptr 213,1,8,[.lF],none,false⟩),(211,⟨.arr 10 4,10,10,[.val (.arr 10 .bool) ([false,false,false,false,false,false,false,false,false,false])],some (.arr 10 .bool),true⟩),(213,⟨.struct [(0,9),(1,3),(2,85),(3,3),(4,211)],14,72,[.val .str [],.val (.int .i64) 0,.bJ,.val (.int .i64) 0,.val (.arr 10 .bool) ([false,false,false,false,false,false,false,false,false,false])],some Ie,false⟩),(215,⟨.struct [(0,57),(1,3)],2,16,[.val (.int .i64) 0,.val (.int .i64) 0],some yUj,true⟩),(219,⟨.slice 3,1,24,[.bJ],some (.slice (.int .i64)),false⟩),(233,⟨.arr 2 3,2,16,[.val (.arr 2 (.int .i64)) ([0,0])],some (.arr 2 (.int .i64)),true⟩),(234,⟨.arr 7 233,14,112,[.val (.arr 7 (.arr 2 (.int .i64))) ([[0,0],[0,0],[0,0],[0,0],[0,0],[0,0],[0,0]])],some (.arr 7 (.arr 2 (.int .i64))),true⟩),(250,⟨.func,1,8,[.val .opq Value.nilFunc],some .opq,false⟩),(267,⟨.ptr 269,1,8,[.lF],none,false⟩),(269,⟨.struct [(0,9),(1,3)],2,24,[.val .str [],.val (.int .i64) 0],some oF,true⟩),(284,⟨.slice 123,1,24,[.bJ],some (.slice (.arr 4 (.int .u64))),false⟩)]
theorem nO:bM Tryz.prog xCw:=zDb (by kernel_rfl)
theorem rO:Tryz.prog.follows .mixedOrders=true:=by kernel_rfl
abbrev zRh:List Ty:=[.slice rD]
abbrev zEy:List Ty:=[.slice dP,.bool]
abbrev Mv:List Ty:=[.slice .str,.str]
abbrev Av:List Ty:=[.int .i64]
abbrev Gr:List Ty:=[.slice .str,.str]
abbrev wQ:List Ty:=[.bool]
abbrev Kk:Sh:=⟨2,[⟨0,false,[.v .str]⟩,⟨1,false,[.ptr 0 0]⟩],[.box 32 [.v (.slice .str)]]⟩
abbrev zQ:Sh:=⟨1,[⟨0,false,[.v .bool]⟩],[.box 32 [.v (.slice .str)]]⟩
abbrev lZ:Sh:=⟨2,[⟨0,false,[.v (.slice .str)]⟩,⟨1,false,[.clo 35 [(0,0)]]⟩],[.box 32 [.v (.slice .str)]]⟩
abbrev gX:Sh:=⟨1,[⟨0,false,[.v (.int .i64)]⟩],[.box 32 [.v (.slice .str)]]⟩
abbrev kN:Sh:=⟨2,[⟨0,false,[.v (.slice .str)]⟩,⟨1,false,[.clo 35 [(0,0)]]⟩],[.box 32 [.v (.slice .str)]]⟩
abbrev gF:Sh:=⟨1,[⟨0,false,[.v .bool]⟩],[.box 32 [.v (.slice .str)]]⟩
abbrev Np:List Ty:=[.slice .str,.slice .str]
abbrev Cv:List Ty:=[.bool]
abbrev zAw:List Ty:=[dP,dP]
abbrev Qh:List Ty:=[.bool]
abbrev Xn:Sh:=⟨2,[⟨0,true,[.v .bool,.v (.slice bQ),.v (.slice aC),.v .bool,.v (.slice .str),.v .bool]⟩,⟨1,false,[.ptr 0 0]⟩],zOh⟩
abbrev Jr:Sh:=⟨1,[⟨0,false,[.v .bool]⟩],zOh⟩
abbrev pR:Sh:=⟨2,[⟨0,false,[.v (.slice dP)]⟩,⟨1,false,[.clo 24 [(0,0)]]⟩],zOh⟩
abbrev jR:Sh:=⟨1,[⟨0,false,[.v (.int .i64)]⟩],zOh⟩
abbrev nJ:Sh:=⟨2,[⟨0,false,[.v (.slice dP)]⟩,⟨1,false,[.clo 24 [(0,0)]]⟩],zOh⟩
abbrev iI:Sh:=⟨1,[⟨0,false,[.v .bool]⟩],zOh⟩
abbrev zCr:List Ty:=[.slice dP]
abbrev Pg:List Ty:=[.slice .bool]
abbrev zMg:List Ty:=[.slice dP,.int .i64]
abbrev zAx:List Ty:=[.int .i64]
abbrev zJd:List Ty:=[]
abbrev Xo:List Ty:=[.bool]
abbrev zOi:List Ty:=[rD,rD]
abbrev Xp:List Ty:=[.bool]
def yFe (n:Nat):An (dB zEy):=(.mk .nil (.mk .nil (.mk (.mk .nil (.mk (.loop ⟨82,[⟨0,false,[.v (.slice rD)]⟩,⟨4,false,[.own 0]⟩,⟨5,false,[.v (.int .i64)]⟩],[.row 41 dP]⟩ [.keep (kbm 6 49),.gcA 0,.zDn 4 23,.gcA 0] [.keep (kbm 6 49),.gcA 0,.gcA 0] n (.mk .nil (.mk (.mk (.mk .nil (.mk (.mk .nil (.mk (.loop ⟨82,[⟨0,false,[.v (.slice rD)]⟩,⟨4,false,[.own 0]⟩,⟨5,false,[.v (.int .i64)]⟩,⟨6,false,[.v (.int .i64)]⟩],[.row 41 dP]⟩ [.keep (kbm 7 113),.gcA 0,.gcA 0] [.keep (kbm 7 113),.gcA 0,.gcA 0] n .nil) .nil []) []) .nil []) []) .nil []) .nil []) [])) .nil []) []) .nil []) []) [])
theorem zTz(n:Nat):Pure Tryz.prog 6 zRh zEy (Qx n):=
 bT (Γ:=bB _ [(17,bS Sw Jc (sK n))] []) (an:=yFe n) Tryz.func6 rfl (by kernel_rfl) nO (aH (all_cons (aQ (Tp n)) (all_nil)) (aI)) rO (aF _ _ rfl) (λx=>by kernel_rfl)
def zCs (n:Nat):An (dB Av):=(.mk .nil (.mk (.mk .nil (.mk (.loop ⟨19,[⟨0,false,[.v (.slice .str)]⟩,⟨1,false,[.v .str]⟩,⟨7,false,[.v (.int .i64)]⟩,⟨8,false,[.v (.int .i64)]⟩],[]⟩ [.keep (kbm 9 387),.gcA 0,.gcA 0] [.keep (kbm 9 387),.gcA 0,.gcA 0] n .nil) .nil []) []) .nil []) [])
theorem Xq(n:Nat):Pure Tryz.prog 56 Mv Av (qR n):=
 bT (Γ:=bB _ [] []) (an:=zCs n) Tryz.func56 rfl (by kernel_rfl) nO (aH (all_nil) (aI)) rO (aF _ _ rfl) (λx=>by kernel_rfl)
def Xr (n:Nat):An (dB wQ) := .nil
theorem Ru(n:Nat):Pure Tryz.prog 36 Gr wQ (rT n):=
 bT (Γ:=bB _ [(56,bS Mv Av (qR n))] []) (an:=Xr n) Tryz.func36 rfl (by kernel_rfl) nO (aH (all_cons (aQ (Xq n)) (all_nil)) (aI)) rO (aF _ _ rfl) (λx=>by kernel_rfl)
def zAy (n:Nat):An (zQ.X) := .nil
theorem Ta(n:Nat):dV Tryz.prog 35 Kk zQ (pF n):=
 dL (Γ:=bB _ [(36,bS Gr wQ (rT n))] []) (an:=zAy n) (co:=[.gc [0]]) Tryz.func35 rfl (by kernel_rfl) nO (aH (all_cons (aQ (Ru n)) (all_nil)) (aI)) rO (aF _ _ rfl) (by kernel_rfl) (by kernel_rfl) (λx=>by kernel_rfl)
def wF (n:Nat):An (gX.X):=(.mk .nil (.mk (.mk .nil (.mk (.loop ⟨19,[⟨0,false,[.v (.slice .str)]⟩,⟨1,false,[.clo 35 [(0,0)]]⟩,⟨7,false,[.v (.int .i64)]⟩,⟨8,false,[.v (.int .i64)]⟩],[.box 32 [.v (.slice .str)]]⟩ [.keep (kbm 9 387),.gcA 1,.gcA 1] [.keep (kbm 9 387),.gcA 1,.gcA 1] n .nil) .nil []) []) .nil []) [])
theorem uF(n:Nat):dV Tryz.prog 55 lZ gX (dR n):=
 dL (Γ:=bB _ [(35,peM Kk zQ (pF n))] []) (an:=wF n) (co:=[.gc [0]]) Tryz.func55 rfl (by kernel_rfl) nO (aH (all_cons (aZ (Ta n)) (all_nil)) (aI)) rO (aF _ _ rfl) (by kernel_rfl) (by kernel_rfl) (λx=>by kernel_rfl)
def uR (n:Nat):An (gF.X) := .nil
theorem sN(n:Nat):dV Tryz.prog 34 kN gF (eX n):=
 dL (Γ:=bB _ [(55,peM lZ gX (dR n))] []) (an:=uR n) (co:=[.gc [0]]) Tryz.func34 rfl (by kernel_rfl) nO (aH (all_cons (aZ (uF n)) (all_nil)) (aI)) rO (aF _ _ rfl) (by kernel_rfl) (by kernel_rfl) (λx=>by kernel_rfl)
def zEz (n:Nat):An (dB Cv) := .nil
theorem Yn(n:Nat):Pure Tryz.prog 19 Np Cv (nV n):=
 bT (Γ:=bB _ [(34,peM kN gF (eX n))] []) (an:=zEz n) Tryz.func19 rfl (by kernel_rfl) nO (aH (all_cons (aZ (sN n)) (all_nil)) (aI)) rO (aF _ _ rfl) (λx=>by kernel_rfl)
def yCp (n:Nat):An (dB Qh) := .nil
theorem Zl(n:Nat):Pure Tryz.prog 9 zAw Qh (rU n):=
 bT (Γ:=bB _ [(16,bS Ms Mt (gK n)),(20,bS Rs Rt (kD n)),(19,bS Np Cv (nV n))] []) (an:=yCp n) Tryz.func9 rfl (by kernel_rfl) nO (aH (all_cons (aQ (Jq n)) (all_cons (aQ (zAv n)) (all_cons (aQ (Yn n)) (all_nil)))) (aI)) rO (aF _ _ rfl) (λx=>by kernel_rfl)
def zLg (n:Nat):An (Jr.X) := .nil
theorem zCt(n:Nat):dV Tryz.prog 24 Xn Jr (Mc n):=
 dL (Γ:=bB _ [(9,bS zAw Qh (rU n))] []) (an:=zLg n) (co:=[.gc [0]]) Tryz.func24 rfl (by kernel_rfl) nO (aH (all_cons (aQ (Zl n)) (all_nil)) (aI)) rO (aF _ _ rfl) (by kernel_rfl) (by kernel_rfl) (λx=>by kernel_rfl)
def zS (n:Nat):An (jR.X):=(.mk .nil (.mk (.mk .nil (.mk (.loop ⟨19,[⟨0,false,[.v (.slice dP)]⟩,⟨1,false,[.clo 24 [(0,0)]]⟩,⟨7,false,[.v (.int .i64)]⟩,⟨8,false,[.v (.int .i64)]⟩],zOh⟩ [.keep (kbm 9 387),.gcA 1,.gcA 1] [.keep (kbm 9 387),.gcA 1,.gcA 1] n .nil) .nil []) []) .nil []) [])
theorem xK(n:Nat):dV Tryz.prog 41 pR jR (jU n):=
 dL (Γ:=bB _ [(24,peM Xn Jr (Mc n))] []) (an:=zS n) (co:=[.gc [0]]) Tryz.func41 rfl (by kernel_rfl) nO (aH (all_cons (aZ (zCt n)) (all_nil)) (aI)) rO (aF _ _ rfl) (by kernel_rfl) (by kernel_rfl) (λx=>by kernel_rfl)
def yO (n:Nat):An (iI.X) := .nil
theorem vS(n:Nat):dV Tryz.prog 23 nJ iI (iR n):=
 dL (Γ:=bB _ [(41,peM pR jR (jU n))] []) (an:=yO n) (co:=[.gc [0]]) Tryz.func23 rfl (by kernel_rfl) nO (aH (all_cons (aZ (xK n)) (all_nil)) (aI)) rO (aF _ _ rfl) (by kernel_rfl) (by kernel_rfl) (λx=>by kernel_rfl)
def zRi (n:Nat):An (dB Pg):=(.mk .nil (.mk .nil (.mk (.mk .nil (.mk (.loop ⟨26,[⟨0,false,[.v (.slice dP)]⟩,⟨3,false,[.own 0]⟩,⟨9,false,[.v (.slice dP)]⟩,⟨10,false,[.v (.int .i64)]⟩,⟨11,false,[.v (.int .i64)]⟩],[.row 4 .bool]⟩ [.keep (kbm 12 3593),.gcA 0,.gcA 0] [.keep (kbm 12 3593),.gcA 0,.gcA 0] n .nil) .nil []) []) .nil []) []) [])
theorem zJe(n:Nat):Pure Tryz.prog 12 zCr Pg (Sl n):=
 bT (Γ:=bB _ [(23,peM nJ iI (iR n))] []) (an:=zRi n) Tryz.func12 rfl (by kernel_rfl) nO (aH (all_cons (aZ (vS n)) (all_nil)) (aI)) rO (aF _ _ rfl) (λx=>by kernel_rfl)
def yCq (n:Nat):An (dB zAx):=(.mk .nil (.mk .nil (.mk (.mk .nil (.mk (.loop ⟨34,[⟨0,false,[.v (.slice dP)]⟩,⟨5,false,[.v (.int .i64)]⟩],[]⟩ [.keep (kbm 6 33),.gcA 0,.gcA 0] [.keep (kbm 6 33),.gcA 0,.gcA 0] n .nil) .nil []) []) .nil []) []) [])
theorem zRj(n:Nat):Pure Tryz.prog 14 zMg zAx (Ui n):=
 bT (Γ:=bB _ [(16,bS Ms Mt (gK n))] []) (an:=yCq n) Tryz.func14 rfl (by kernel_rfl) nO (aH (all_cons (aQ (Jq n)) (all_nil)) (aI)) rO (aF _ _ rfl) (λx=>by kernel_rfl)
def zXr (n:Nat):An (dB Xo):=(.mk .nil (.mk .nil (.mk .nil (.mk .nil (.mk (.co [.yIl 7,.yIl 25] .nil) .nil []) []) []) []) [])
theorem zOj(n:Nat):Pure Tryz.prog 7 zJd Xo (Bv n):=
 bT (Γ:=bB _ [(17,bS Sw Jc (sK n)),(12,bS zCr Pg (Sl n)),(14,bS zMg zAx (Ui n))] []) (an:=zXr n) Tryz.func7 rfl (by kernel_rfl) nO (aH (all_cons (aQ (Tp n)) (all_cons (aQ (zJe n)) (all_cons (aQ (zRj n)) (all_nil)))) (aI)) rO (aF _ _ rfl) (λx=>by kernel_rfl)
def zLh (n:Nat):An (dB Xp) := .nil
theorem zCz(n:Nat):Pure Tryz.prog 4 zOi Xp (Md n):=
 bT (Γ:=bB _ [(6,bS zRh zEy (Qx n)),(7,bS zJd Xo (Bv n)),(9,bS zAw Qh (rU n)),(16,bS Ms Mt (gK n))] []) (an:=zLh n) Tryz.func4 rfl (by kernel_rfl) nO (aH (all_cons (aQ (zTz n)) (all_cons (aQ (zOj n)) (all_cons (aQ (Zl n)) (all_cons (aQ (Jq n)) (all_nil))))) (aI)) rO (aF _ _ rfl) (λx=>by kernel_rfl)
end Go.Dec
