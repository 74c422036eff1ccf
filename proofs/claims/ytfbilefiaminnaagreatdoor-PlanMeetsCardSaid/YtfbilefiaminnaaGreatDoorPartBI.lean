/- Part of a proof over this seat: a library of my own, and what it says of this seat. No statement is proved here. -/
import Derived.Test.YtfbilefiaminnaaGreatDoorProg
import Derived.Test.YtfbilefiaminnaaGreatDoorPartAQ
import Derived.Test.YtfbilefiaminnaaGreatDoorPartBH
import Derived.Test.YtfbilefiaminnaaGreatDoorPartBE
import Derived.KernelRfl
namespace Go.Dec
abbrev zOg:List OS:=[.box 41 [.v .bool,.v (.slice bQ),.v (.slice aC),.v .bool,.v (.slice .str),.v .bool]]
open Go.Proofs
set_option linter.unusedVariables false
def xCv:Tab:=[(3,⟨.int .i64,1,8,[.val (.int .i64) 0],some (.int .i64),false⟩),(4,⟨.bool,1,1,[.val .bool false],some .bool,false⟩),(5,⟨.int .u8,1,1,[.val (.int .u8) 0],some (.int .u8),false⟩),(9,⟨.str,1,16,[.val .str []],some .str,false⟩),(22,⟨.slice 52,1,24,[.bJ],some (.slice rD),false⟩),(23,⟨.slice 41,1,24,[.bJ],some (.slice dP),false⟩),(32,⟨.slice 9,1,24,[.bJ],some (.slice .str),false⟩),(36,⟨.slice 87,1,24,[.bJ],some (.slice bQ),false⟩),(37,⟨.slice 77,1,24,[.bJ],some (.slice aC),false⟩),(39,⟨.struct [(0,4),(1,36),(2,37)],3,56,[.val .bool false,.bJ,.bJ],some oO,false⟩),(41,⟨.struct [(0,39),(3,4),(4,32),(5,4)],6,96,[.val .bool false,.bJ,.bJ,.val .bool false,.bJ,.val .bool false],some dP,false⟩),(45,⟨.slice 4,1,24,[.bJ],some (.slice .bool),false⟩),(52,⟨.struct [(0,9),(1,32),(2,4)],3,48,[.val .str [],.bJ,.val .bool false],some rD,false⟩),(57,⟨.int .i64,1,8,[.val (.int .i64) 0],some (.int .i64),false⟩),(65,⟨.func,1,8,[.val .opq Value.nilFunc],some .opq,false⟩),(69,⟨.ptr 80,1,8,[.lF],none,false⟩),(70,⟨.map 9 3,1,8,[.val .opq (Value.map none)],none,false⟩),(72,⟨.struct [(0,3),(1,3),(2,3)],3,24,[.val (.int .i64) 0,.val (.int .i64) 0,.val (.int .i64) 0],some Wi,true⟩),(74,⟨.struct [(0,72),(3,72),(6,4)],7,56,[.val (.int .i64) 0,.val (.int .i64) 0,.val (.int .i64) 0,.val (.int .i64) 0,.val (.int .i64) 0,.val (.int .i64) 0,.val .bool false],some zG,true⟩),(75,⟨.slice 134,1,24,[.bJ],some (.slice oF),false⟩),(77,⟨.struct [(0,74),(7,5),(8,9),(9,9),(10,3),(11,3),(12,3),(13,75),(14,4),(15,4)],16,152,[.val (.int .i64) 0,.val (.int .i64) 0,.val (.int .i64) 0,.val (.int .i64) 0,.val (.int .i64) 0,.val (.int .i64) 0,.val .bool false,.val (.int .u8) 0,.val .str [],.val .str [],.val (.int .i64) 0,.val (.int .i64) 0,.val (.int .i64) 0,.bJ,.val .bool false,.val .bool false],some aC,false⟩),(78,⟨.slice 118,1,24,[.bJ],some (.slice gP),false⟩),(80,⟨.struct [(0,9),(1,4),(2,3),(3,3),(4,39),(7,77),(23,78),(24,78),(25,70)],26,304,[.val .str [],.val .bool false,.val (.int .i64) 0,.val (.int .i64) 0,.val .bool false,.bJ,.bJ,.val (.int .i64) 0,.val (.int .i64) 0,.val (.int .i64) 0,.val (.int .i64) 0,.val (.int .i64) 0,.val (.int .i64) 0,.val .bool false,.val (.int .u8) 0,.val .str [],.val .str [],.val (.int .i64) 0,.val (.int .i64) 0,.val (.int .i64) 0,.bJ,.val .bool false,.val .bool false,.bJ,.bJ,.val .opq (Value.map none)],none,false⟩),(85,⟨.slice 125,1,24,[.bJ],some (.slice bA),false⟩),(87,⟨.struct [(0,85),(1,4)],2,32,[.bJ,.val .bool false],some bQ,false⟩),(100,⟨.func,1,8,[.val .opq Value.nilFunc],some .opq,false⟩),(101,⟨.slice 32,1,24,[.bJ],some (.slice (.slice .str)),false⟩),(113,⟨.map 5 147,1,8,[.val .opq (Value.map none)],none,false⟩),(118,⟨.struct [(0,3),(1,3),(2,9)],3,32,[.val (.int .i64) 0,.val (.int .i64) 0,.val .str []],some gP,true⟩),(121,⟨.int .u64,1,8,[.val (.int .u64) 0],some (.int .u64),false⟩),(123,⟨.arr 4 121,4,32,[.val (.arr 4 (.int .u64)) ([0,0,0,0])],some (.arr 4 (.int .u64)),true⟩),(125,⟨.struct [(0,3),(1,123),(5,3),(6,3),(7,3),(8,3),(9,3)],10,80,[.val (.int .i64) 0,.val (.arr 4 (.int .u64)) ([0,0,0,0]),.val (.int .i64) 0,.val (.int .i64) 0,.val (.int .i64) 0,.val (.int .i64) 0,.val (.int .i64) 0],some bA,true⟩),(127,⟨.arr 256 4,256,256,[.val (.arr 256 .bool) (List.replicate 256 false)],some (.arr 256 .bool),true⟩),(134,⟨.struct [(0,9),(1,3)],2,24,[.val .str [],.val (.int .i64) 0],some oF,true⟩),(147,⟨.func,1,8,[.val .opq Value.nilFunc],some .opq,false⟩),(149,⟨.slice 5,1,24,[.bJ],some (.slice (.int .u8)),false⟩),(173,⟨.arr 256 5,256,256,[.val (.arr 256 (.int .u8)) (List.replicate 256 0)],some (.arr 256 (.int .u8)),true⟩),(193,⟨.ptr 195,1,8,[.lF],none,false⟩),(195,⟨.struct [(0,193),(1,149)],2,32,[.lF,.bJ],none,false⟩),(198,⟨.iface false,1,16,[.val .err false],some .err,false⟩),(204,⟨.arr 256 4,256,256,[.val (.arr 256 .bool) (List.replicate 256 false)],some (.arr 256 .bool),true⟩),(208,⟨.ptr 204,1,8,[.lF],none,false⟩),(210,⟨.ptr 213,1,8,[.lF],none,false⟩),(211,⟨.arr 10 4,10,10,[.val (.arr 10 .bool) ([false,false,false,false,false,false,false,false,false,false])],some (.arr 10 .bool),true⟩),(213,⟨.struct [(0,9),(1,3),(2,85),(3,3),(4,211)],14,72,[.val .str [],.val (.int .i64) 0,.bJ,.val (.int .i64) 0,.val (.arr 10 .bool) ([false,false,false,false,false,false,false,false,false,false])],some Ic,false⟩),(215,⟨.struct [(0,57),(1,3)],2,16,[.val (.int .i64) 0,.val (.int .i64) 0],some yUi,true⟩),(219,⟨.slice 3,1,24,[.bJ],some (.slice (.int .i64)),false⟩),(233,⟨.arr 2 3,2,16,[.val (.arr 2 (.int .i64)) ([0,0])],some (.arr 2 (.int .i64)),true⟩),(234,⟨.arr 7 233,14,112,[.val (.arr 7 (.arr 2 (.int .i64))) ([[0,0],[0,0],[0,0],[0,0],[0,0],[0,0],[0,0]])],some (.arr 7 (.arr 2 (.int .i64))),true⟩),(250,⟨.func,1,8,[.val .opq Value.nilFunc],some .opq,false⟩),(267,⟨.ptr 269,1,8,[.lF],none,false⟩),(269,⟨.struct [(0,9),(1,3)],2,24,[.val .str [],.val (.int .i64) 0],some oF,true⟩),(284,⟨.slice 123,1,24,[.bJ],some (.slice (.arr 4 (.int .u64))),false⟩)]
theorem nO:bM Tryz.prog xCv:=zDa (by kernel_rfl)
theorem rO:Tryz.prog.follows .mixedOrders=true:=by kernel_rfl
abbrev zRg:List Ty:=[.slice rD]
abbrev zEx:List Ty:=[.slice dP,.bool]
abbrev Mt:List Ty:=[.slice .str,.str]
abbrev Av:List Ty:=[.int .i64]
abbrev Gq:List Ty:=[.slice .str,.str]
abbrev wQ:List Ty:=[.bool]
abbrev Kj:Sh:=⟨2,[⟨0,false,[.v .str]⟩,⟨1,false,[.ptr 0 0]⟩],[.box 32 [.v (.slice .str)]]⟩
abbrev zQ:Sh:=⟨1,[⟨0,false,[.v .bool]⟩],[.box 32 [.v (.slice .str)]]⟩
abbrev lZ:Sh:=⟨2,[⟨0,false,[.v (.slice .str)]⟩,⟨1,false,[.clo 35 [(0,0)]]⟩],[.box 32 [.v (.slice .str)]]⟩
abbrev gX:Sh:=⟨1,[⟨0,false,[.v (.int .i64)]⟩],[.box 32 [.v (.slice .str)]]⟩
abbrev kN:Sh:=⟨2,[⟨0,false,[.v (.slice .str)]⟩,⟨1,false,[.clo 35 [(0,0)]]⟩],[.box 32 [.v (.slice .str)]]⟩
abbrev gF:Sh:=⟨1,[⟨0,false,[.v .bool]⟩],[.box 32 [.v (.slice .str)]]⟩
abbrev Nn:List Ty:=[.slice .str,.slice .str]
abbrev Cu:List Ty:=[.bool]
abbrev zAv:List Ty:=[dP,dP]
abbrev Qg:List Ty:=[.bool]
abbrev Xm:Sh:=⟨2,[⟨0,true,[.v .bool,.v (.slice bQ),.v (.slice aC),.v .bool,.v (.slice .str),.v .bool]⟩,⟨1,false,[.ptr 0 0]⟩],zOg⟩
abbrev Jq:Sh:=⟨1,[⟨0,false,[.v .bool]⟩],zOg⟩
abbrev pR:Sh:=⟨2,[⟨0,false,[.v (.slice dP)]⟩,⟨1,false,[.clo 24 [(0,0)]]⟩],zOg⟩
abbrev jR:Sh:=⟨1,[⟨0,false,[.v (.int .i64)]⟩],zOg⟩
abbrev nJ:Sh:=⟨2,[⟨0,false,[.v (.slice dP)]⟩,⟨1,false,[.clo 24 [(0,0)]]⟩],zOg⟩
abbrev iI:Sh:=⟨1,[⟨0,false,[.v .bool]⟩],zOg⟩
abbrev zCq:List Ty:=[.slice dP]
abbrev Pf:List Ty:=[.slice .bool]
abbrev zMf:List Ty:=[.slice dP,.int .i64]
abbrev zAw:List Ty:=[.int .i64]
abbrev zJc:List Ty:=[]
abbrev Xn:List Ty:=[.bool]
abbrev zOh:List Ty:=[rD,rD]
abbrev Xo:List Ty:=[.bool]
def yFd (n:Nat):An (dB zEx):=(.mk .nil (.mk .nil (.mk (.mk .nil (.mk (.loop ⟨82,[⟨0,false,[.v (.slice rD)]⟩,⟨4,false,[.own 0]⟩,⟨5,false,[.v (.int .i64)]⟩],[.row 41 dP]⟩ [.keep (kbm 6 49),.gcA 0,.zDm 4 23,.gcA 0] [.keep (kbm 6 49),.gcA 0,.gcA 0] n (.mk .nil (.mk (.mk (.mk .nil (.mk (.mk .nil (.mk (.loop ⟨82,[⟨0,false,[.v (.slice rD)]⟩,⟨4,false,[.own 0]⟩,⟨5,false,[.v (.int .i64)]⟩,⟨6,false,[.v (.int .i64)]⟩],[.row 41 dP]⟩ [.keep (kbm 7 113),.gcA 0,.gcA 0] [.keep (kbm 7 113),.gcA 0,.gcA 0] n .nil) .nil []) []) .nil []) []) .nil []) .nil []) [])) .nil []) []) .nil []) []) [])
theorem zTy(n:Nat):Pure Tryz.prog 6 zRg zEx (Qw n):=
 bT (Γ:=bB _ [(17,bS Sv Jb (sK n))] []) (an:=yFd n) Tryz.func6 rfl (by kernel_rfl) nO (aH (all_cons (aQ (Tn n)) (all_nil)) (aI)) rO (aF _ _ rfl) (λx=>by kernel_rfl)
def zCr (n:Nat):An (dB Av):=(.mk .nil (.mk (.mk .nil (.mk (.loop ⟨19,[⟨0,false,[.v (.slice .str)]⟩,⟨1,false,[.v .str]⟩,⟨7,false,[.v (.int .i64)]⟩,⟨8,false,[.v (.int .i64)]⟩],[]⟩ [.keep (kbm 9 387),.gcA 0,.gcA 0] [.keep (kbm 9 387),.gcA 0,.gcA 0] n .nil) .nil []) []) .nil []) [])
theorem Xp(n:Nat):Pure Tryz.prog 56 Mt Av (qR n):=
 bT (Γ:=bB _ [] []) (an:=zCr n) Tryz.func56 rfl (by kernel_rfl) nO (aH (all_nil) (aI)) rO (aF _ _ rfl) (λx=>by kernel_rfl)
def Xq (n:Nat):An (dB wQ) := .nil
theorem Rt(n:Nat):Pure Tryz.prog 36 Gq wQ (rT n):=
 bT (Γ:=bB _ [(56,bS Mt Av (qR n))] []) (an:=Xq n) Tryz.func36 rfl (by kernel_rfl) nO (aH (all_cons (aQ (Xp n)) (all_nil)) (aI)) rO (aF _ _ rfl) (λx=>by kernel_rfl)
def zAx (n:Nat):An (zQ.X) := .nil
theorem Sz(n:Nat):dV Tryz.prog 35 Kj zQ (pF n):=
 dL (Γ:=bB _ [(36,bS Gq wQ (rT n))] []) (an:=zAx n) (co:=[.gc [0]]) Tryz.func35 rfl (by kernel_rfl) nO (aH (all_cons (aQ (Rt n)) (all_nil)) (aI)) rO (aF _ _ rfl) (by kernel_rfl) (by kernel_rfl) (λx=>by kernel_rfl)
def wF (n:Nat):An (gX.X):=(.mk .nil (.mk (.mk .nil (.mk (.loop ⟨19,[⟨0,false,[.v (.slice .str)]⟩,⟨1,false,[.clo 35 [(0,0)]]⟩,⟨7,false,[.v (.int .i64)]⟩,⟨8,false,[.v (.int .i64)]⟩],[.box 32 [.v (.slice .str)]]⟩ [.keep (kbm 9 387),.gcA 1,.gcA 1] [.keep (kbm 9 387),.gcA 1,.gcA 1] n .nil) .nil []) []) .nil []) [])
theorem uF(n:Nat):dV Tryz.prog 55 lZ gX (dR n):=
 dL (Γ:=bB _ [(35,peM Kj zQ (pF n))] []) (an:=wF n) (co:=[.gc [0]]) Tryz.func55 rfl (by kernel_rfl) nO (aH (all_cons (aZ (Sz n)) (all_nil)) (aI)) rO (aF _ _ rfl) (by kernel_rfl) (by kernel_rfl) (λx=>by kernel_rfl)
def uR (n:Nat):An (gF.X) := .nil
theorem sN(n:Nat):dV Tryz.prog 34 kN gF (eX n):=
 dL (Γ:=bB _ [(55,peM lZ gX (dR n))] []) (an:=uR n) (co:=[.gc [0]]) Tryz.func34 rfl (by kernel_rfl) nO (aH (all_cons (aZ (uF n)) (all_nil)) (aI)) rO (aF _ _ rfl) (by kernel_rfl) (by kernel_rfl) (λx=>by kernel_rfl)
def zEy (n:Nat):An (dB Cu) := .nil
theorem Ym(n:Nat):Pure Tryz.prog 19 Nn Cu (nV n):=
 bT (Γ:=bB _ [(34,peM kN gF (eX n))] []) (an:=zEy n) Tryz.func19 rfl (by kernel_rfl) nO (aH (all_cons (aZ (sN n)) (all_nil)) (aI)) rO (aF _ _ rfl) (λx=>by kernel_rfl)
def yCo (n:Nat):An (dB Qg) := .nil
theorem Zk(n:Nat):Pure Tryz.prog 9 zAv Qg (rU n):=
 bT (Γ:=bB _ [(16,bS Mr Ms (gK n)),(20,bS Rq Rs (kD n)),(19,bS Nn Cu (nV n))] []) (an:=yCo n) Tryz.func9 rfl (by kernel_rfl) nO (aH (all_cons (aQ (Jp n)) (all_cons (aQ (zAu n)) (all_cons (aQ (Ym n)) (all_nil)))) (aI)) rO (aF _ _ rfl) (λx=>by kernel_rfl)
def zLf (n:Nat):An (Jq.X) := .nil
theorem zCs(n:Nat):dV Tryz.prog 24 Xm Jq (Ma n):=
 dL (Γ:=bB _ [(9,bS zAv Qg (rU n))] []) (an:=zLf n) (co:=[.gc [0]]) Tryz.func24 rfl (by kernel_rfl) nO (aH (all_cons (aQ (Zk n)) (all_nil)) (aI)) rO (aF _ _ rfl) (by kernel_rfl) (by kernel_rfl) (λx=>by kernel_rfl)
def zS (n:Nat):An (jR.X):=(.mk .nil (.mk (.mk .nil (.mk (.loop ⟨19,[⟨0,false,[.v (.slice dP)]⟩,⟨1,false,[.clo 24 [(0,0)]]⟩,⟨7,false,[.v (.int .i64)]⟩,⟨8,false,[.v (.int .i64)]⟩],zOg⟩ [.keep (kbm 9 387),.gcA 1,.gcA 1] [.keep (kbm 9 387),.gcA 1,.gcA 1] n .nil) .nil []) []) .nil []) [])
theorem xK(n:Nat):dV Tryz.prog 41 pR jR (jU n):=
 dL (Γ:=bB _ [(24,peM Xm Jq (Ma n))] []) (an:=zS n) (co:=[.gc [0]]) Tryz.func41 rfl (by kernel_rfl) nO (aH (all_cons (aZ (zCs n)) (all_nil)) (aI)) rO (aF _ _ rfl) (by kernel_rfl) (by kernel_rfl) (λx=>by kernel_rfl)
def yO (n:Nat):An (iI.X) := .nil
theorem vS(n:Nat):dV Tryz.prog 23 nJ iI (iR n):=
 dL (Γ:=bB _ [(41,peM pR jR (jU n))] []) (an:=yO n) (co:=[.gc [0]]) Tryz.func23 rfl (by kernel_rfl) nO (aH (all_cons (aZ (xK n)) (all_nil)) (aI)) rO (aF _ _ rfl) (by kernel_rfl) (by kernel_rfl) (λx=>by kernel_rfl)
def zRh (n:Nat):An (dB Pf):=(.mk .nil (.mk .nil (.mk (.mk .nil (.mk (.loop ⟨26,[⟨0,false,[.v (.slice dP)]⟩,⟨3,false,[.own 0]⟩,⟨9,false,[.v (.slice dP)]⟩,⟨10,false,[.v (.int .i64)]⟩,⟨11,false,[.v (.int .i64)]⟩],[.row 4 .bool]⟩ [.keep (kbm 12 3593),.gcA 0,.gcA 0] [.keep (kbm 12 3593),.gcA 0,.gcA 0] n .nil) .nil []) []) .nil []) []) [])
theorem zJd(n:Nat):Pure Tryz.prog 12 zCq Pf (Sk n):=
 bT (Γ:=bB _ [(23,peM nJ iI (iR n))] []) (an:=zRh n) Tryz.func12 rfl (by kernel_rfl) nO (aH (all_cons (aZ (vS n)) (all_nil)) (aI)) rO (aF _ _ rfl) (λx=>by kernel_rfl)
def yCp (n:Nat):An (dB zAw):=(.mk .nil (.mk .nil (.mk (.mk .nil (.mk (.loop ⟨34,[⟨0,false,[.v (.slice dP)]⟩,⟨5,false,[.v (.int .i64)]⟩],[]⟩ [.keep (kbm 6 33),.gcA 0,.gcA 0] [.keep (kbm 6 33),.gcA 0,.gcA 0] n .nil) .nil []) []) .nil []) []) [])
theorem zRi(n:Nat):Pure Tryz.prog 14 zMf zAw (Uh n):=
 bT (Γ:=bB _ [(16,bS Mr Ms (gK n))] []) (an:=yCp n) Tryz.func14 rfl (by kernel_rfl) nO (aH (all_cons (aQ (Jp n)) (all_nil)) (aI)) rO (aF _ _ rfl) (λx=>by kernel_rfl)
def zXq (n:Nat):An (dB Xn):=(.mk .nil (.mk .nil (.mk .nil (.mk .nil (.mk (.co [.yIk 7,.yIk 25] .nil) .nil []) []) []) []) [])
theorem zOi(n:Nat):Pure Tryz.prog 7 zJc Xn (Bv n):=
 bT (Γ:=bB _ [(17,bS Sv Jb (sK n)),(12,bS zCq Pf (Sk n)),(14,bS zMf zAw (Uh n))] []) (an:=zXq n) Tryz.func7 rfl (by kernel_rfl) nO (aH (all_cons (aQ (Tn n)) (all_cons (aQ (zJd n)) (all_cons (aQ (zRi n)) (all_nil)))) (aI)) rO (aF _ _ rfl) (λx=>by kernel_rfl)
def zLg (n:Nat):An (dB Xo) := .nil
theorem zCy(n:Nat):Pure Tryz.prog 4 zOh Xo (Mc n):=
 bT (Γ:=bB _ [(6,bS zRg zEx (Qw n)),(7,bS zJc Xn (Bv n)),(9,bS zAv Qg (rU n)),(16,bS Mr Ms (gK n))] []) (an:=zLg n) Tryz.func4 rfl (by kernel_rfl) nO (aH (all_cons (aQ (zTy n)) (all_cons (aQ (zOi n)) (all_cons (aQ (Zk n)) (all_cons (aQ (Jp n)) (all_nil))))) (aI)) rO (aF _ _ rfl) (λx=>by kernel_rfl)
end Go.Dec
