/- Part of a proof over this seat: a library of my own, and what it says of this seat. No statement is proved here. -/
import Derived.Test.YtdgneppobefaoaaGreatDoorProg
import Derived.Test.YtdgneppobefaoaaGreatDoorPartBU
import Derived.Test.YtdgneppobefaoaaGreatDoorPartBR
import Derived.Test.YtdgneppobefaoaaGreatDoorPartBT
import Derived.KernelRfl
namespace Go.Dec
open Go.Proofs
set_option linter.unusedVariables false
def tab:Tab:=[(22,⟨.slice 28,1,24,[.bE],some (.slice aH),false⟩),
 (28,⟨.struct [(0,9),(1,4)],2,24,[.val .str [],.val .bool false],some aH,true⟩),
 (31,⟨.slice 5,1,24,[.bE],some (.slice (.int .u8)),false⟩),
 (36,⟨.int .i64,1,8,[.val (.int .i64) 0],some (.int .i64),false⟩),
 (41,⟨.slice 3,1,24,[.bE],some (.slice (.int .i64)),false⟩),
 (43,⟨.struct [(0,9),(1,40),(2,41),(3,3),(4,3)],5,80,[.val .str [],.bE,.bE,.val (.int .i64) 0,.val (.int .i64) 0],some xY,false⟩),
 (76,⟨.ptr 78,1,8,[.kS],none,false⟩),
 (78,⟨.struct [(0,76),(1,31)],2,32,[.kS,.bE],none,false⟩),
 (87,⟨.iface false,1,16,[.val .err false],some .err,false⟩),
 (99,⟨.slice 135,1,24,[.bE],some (.slice aM),false⟩),
 (101,⟨.struct [(0,9),(1,40),(2,41),(3,3),(4,3)],5,80,[.val .str [],.bE,.bE,.val (.int .i64) 0,.val (.int .i64) 0],some xY,false⟩),
 (103,⟨.slice 139,1,24,[.bE],some (.slice aC),false⟩),
 (104,⟨.slice 22,1,24,[.bE],some (.slice (.slice aH)),false⟩),
 (105,⟨.slice 142,1,24,[.bE],some (.slice aY),false⟩),
 (108,⟨.struct [(0,99),(1,102),(2,4),(3,103),(4,102),(5,104),(6,105),(7,106),(8,40),(9,41),(10,3),(11,3),(12,3)],13,248,[.bE,.bE,.val .bool false,.bE,.bE,.bE,.bE,.bE,.bE,.bE,.val (.int .i64) 0,.val (.int .i64) 0,.val (.int .i64) 0],some iI,false⟩),
 (113,⟨.func,1,8,[.val .opq Value.nilFunc],some .opq,false⟩),
 (133,⟨.slice 9,1,24,[.bE],some (.slice .str),false⟩),
 (135,⟨.struct [(0,35),(3,4),(4,133),(5,4)],6,96,[.val .bool false,.bE,.bE,.val .bool false,.bE,.val .bool false],some aM,false⟩),
 (142,⟨.struct [(0,9),(1,4),(2,4)],3,24,[.val .str [],.val .bool false,.val .bool false],some aY,true⟩),
 (169,⟨.func,1,8,[.val .opq Value.nilFunc],some .opq,false⟩),
 (171,⟨.ptr 108,1,8,[.kS],none,false⟩)]++yHp
theorem dA:bI Tryz.prog tab:=zAn (by kernel_rfl)
theorem mixed:Tryz.prog.follows .mixedOrders=true:=by kernel_rfl
abbrev Ki:Sh:=⟨2,[⟨0,true,[.v .bool,.v (.slice aJ),.v (.slice aF),.v .bool,.v (.slice .str),.v .bool]⟩,⟨1,false,[.ptr 0 0]⟩],[.box 135 [.v .bool,.v (.slice aJ),.v (.slice aF),.v .bool,.v (.slice .str),.v .bool]]⟩
abbrev yM:Sh:=⟨1,[⟨0,false,[.v .bool]⟩],[.box 135 [.v .bool,.v (.slice aJ),.v (.slice aF),.v .bool,.v (.slice .str),.v .bool]]⟩
abbrev jL:Sh:=⟨2,[⟨0,false,[.v (.slice aM)]⟩,⟨1,false,[.clo 100 [(0,0)]]⟩],[.box 135 [.v .bool,.v (.slice aJ),.v (.slice aF),.v .bool,.v (.slice .str),.v .bool]]⟩
abbrev fO:Sh:=⟨1,[⟨0,false,[.v (.int .i64)]⟩],[.box 135 [.v .bool,.v (.slice aJ),.v (.slice aF),.v .bool,.v (.slice .str),.v .bool]]⟩
abbrev iK:Sh:=⟨2,[⟨0,false,[.v (.slice aM)]⟩,⟨1,false,[.clo 100 [(0,0)]]⟩],[.box 135 [.v .bool,.v (.slice aJ),.v (.slice aF),.v .bool,.v (.slice .str),.v .bool]]⟩
abbrev fA:Sh:=⟨1,[⟨0,false,[.v .bool]⟩],[.box 135 [.v .bool,.v (.slice aJ),.v (.slice aF),.v .bool,.v (.slice .str),.v .bool]]⟩
abbrev Qa:List Ty:=[.slice aM]
abbrev Cb:List Ty:=[.slice .bool]
abbrev zJu:List Ty:=[xH]
abbrev Xm:List Ty:=[aC]
abbrev zJv:List Ty:=[.slice aM,.str,.slice aU,.bool]
abbrev Xn:List Ty:=[iI,.int .i64]
abbrev Ee:Sh:=⟨2,[⟨0,false,[.ptr 0 0]⟩,⟨1,false,[.v (.int .i64)]⟩],[.box 108 [.v (.slice aM),.v (.slice .bool),.v .bool,.v (.slice aC),.v (.slice .bool),.v (.slice (.slice aH)),.v (.slice aY),.v (.slice aH),.v (.slice aU),.v (.slice (.int .i64)),.v (.int .i64),.v (.int .i64),.v (.int .i64)]]⟩
abbrev uW:Sh:=⟨1,[⟨0,false,[.v .bool]⟩],[.box 108 [.v (.slice aM),.v (.slice .bool),.v .bool,.v (.slice aC),.v (.slice .bool),.v (.slice (.slice aH)),.v (.slice aY),.v (.slice aH),.v (.slice aU),.v (.slice (.int .i64)),.v (.int .i64),.v (.int .i64),.v (.int .i64)]]⟩
abbrev Tq:List Ty:=[aY]
abbrev Hz:List Ty:=[aY,aH,.bool,.bool]
abbrev zAe:List Ty:=[aY]
abbrev Np:List Ty:=[aH,.bool,.bool]
abbrev zAf:List Ty:=[aY]
abbrev Nq:List Ty:=[.bool]
abbrev Fp:Sh:=⟨2,[⟨0,false,[.ptr 0 0]⟩,⟨1,false,[.v (.int .i64)]⟩],[.box 108 [.v (.slice aM),.v (.slice .bool),.v .bool,.v (.slice aC),.v (.slice .bool),.v (.slice (.slice aH)),.v (.slice aY),.v (.slice aH),.v (.slice aU),.v (.slice (.int .i64)),.v (.int .i64),.v (.int .i64),.v (.int .i64)]]⟩
abbrev wU:Sh:=⟨1,[⟨0,false,[.v .bool]⟩],[.box 108 [.v (.slice aM),.v (.slice .bool),.v .bool,.v (.slice aC),.v (.slice .bool),.v (.slice (.slice aH)),.v (.slice aY),.v (.slice aH),.v (.slice aU),.v (.slice (.int .i64)),.v (.int .i64),.v (.int .i64),.v (.int .i64)]]⟩
abbrev Tt:List Ty:=[iI]
abbrev Ia:List Ty:=[.int .i64]
abbrev xL:Sh:=Dq aC
abbrev xM:Sh:=xC 139 aC
abbrev Ef:Sh:=Dq .bool
abbrev Eh:Sh:=xC 4 .bool
abbrev uX:Sh:=Dq (.slice aH)
abbrev uY:Sh:=xC 22 (.slice aH)
abbrev xO:Sh:=Dq aY
abbrev xP:Sh:=xC 142 aY
abbrev Fq:Sh:=Dq (.int .i64)
abbrev Fv:Sh:=xC 3 (.int .i64)
abbrev Fz:List Ty:=[.slice aH]
abbrev wV:List Ty:=[.clip aH]
abbrev Ga:Sh:=⟨1,[⟨0,true,[.v (.slice aM),.v (.slice .bool),.v .bool,.v (.slice aC),.v (.slice .bool),.v (.slice (.slice aH)),.v (.slice aY),.v (.slice aH),.v (.slice aU),.v (.slice (.int .i64)),.v (.int .i64),.v (.int .i64),.v (.int .i64)]⟩],[]⟩
abbrev wW:Sh:=⟨1,[⟨0,false,[.ptr 0 0]⟩],[.box 108 [.v (.slice aM),.v (.slice .bool),.v .bool,.own 1,.own 2,.own 3,.own 4,.v (.clip aH),.v (.slice aU),.own 5,.v (.int .i64),.v (.int .i64),.v (.int .i64)],.row 139 aC,.row 4 .bool,.row 22 (.slice aH),.row 142 aY,.row 3 (.int .i64)]⟩
abbrev Nr:List Ty:=[aY]
abbrev Df:List Ty:=[aY]
abbrev Ei:Sh:=⟨2,[⟨0,false,[.ptr 0 0]⟩,⟨1,false,[.v (.int .i64)]⟩],[.box 108 [.v (.slice aM),.v (.slice .bool),.v .bool,.own 1,.own 2,.own 3,.own 4,.v (.clip aH),.v (.slice aU),.own 5,.v (.int .i64),.v (.int .i64),.v (.int .i64)],.row 139 aC,.row 4 .bool,.row 22 (.slice aH),.row 142 aY,.row 3 (.int .i64)]⟩
abbrev uZ:Sh:=⟨0,[],[.box 108 [.v (.slice aM),.v (.slice .bool),.v .bool,.own 1,.own 2,.own 3,.own 4,.v (.clip aH),.v (.slice aU),.own 5,.v (.int .i64),.v (.int .i64),.v (.int .i64)],.row 139 aC,.row 4 .bool,.row 22 (.slice aH),.row 142 aY,.row 3 (.int .i64)]⟩
abbrev wX:Sh:=⟨3,[⟨0,false,[.ptr 0 0]⟩,⟨1,false,[.v (.int .i64)]⟩,⟨2,false,[.v (.int .i64)]⟩],[.box 108 [.v (.slice aM),.v (.slice .bool),.v .bool,.own 1,.own 2,.own 3,.own 4,.v (.clip aH),.v (.slice aU),.own 5,.v (.int .i64),.v (.int .i64),.v (.int .i64)],.row 139 aC,.row 4 .bool,.row 22 (.slice aH),.row 142 aY,.row 3 (.int .i64)]⟩
abbrev pW:Sh:=⟨0,[],[.box 108 [.v (.slice aM),.v (.slice .bool),.v .bool,.own 1,.own 2,.own 3,.own 4,.v (.clip aH),.v (.slice aU),.own 5,.v (.int .i64),.v (.int .i64),.v (.int .i64)],.row 139 aC,.row 4 .bool,.row 22 (.slice aH),.row 142 aY,.row 3 (.int .i64)]⟩
abbrev Al:Sh:=⟨2,[⟨0,false,[.ptr 0 0]⟩,⟨1,false,[.v (.int .i64)]⟩],[.box 108 [.v (.slice aM),.v (.slice .bool),.v .bool,.own 1,.own 2,.own 3,.own 4,.v (.clip aH),.v (.slice aU),.own 5,.v (.int .i64),.v (.int .i64),.v (.int .i64)],.row 139 aC,.row 4 .bool,.row 22 (.slice aH),.row 142 aY,.row 3 (.int .i64)]⟩
abbrev tQ:Sh:=⟨0,[],[.box 108 [.v (.slice aM),.v (.slice .bool),.v .bool,.own 1,.own 2,.own 3,.own 4,.v (.clip aH),.v (.slice aU),.own 5,.v (.int .i64),.v (.int .i64),.v (.int .i64)],.row 139 aC,.row 4 .bool,.row 22 (.slice aH),.row 142 aY,.row 3 (.int .i64)]⟩
abbrev yV:Sh:=⟨2,[⟨0,false,[.ptr 0 0]⟩,⟨1,false,[.v (.int .i64)]⟩],[.box 108 [.v (.slice aM),.v (.slice .bool),.v .bool,.own 1,.own 2,.own 3,.own 4,.v (.clip aH),.v (.slice aU),.own 5,.v (.int .i64),.v (.int .i64),.v (.int .i64)],.row 139 aC,.row 4 .bool,.row 22 (.slice aH),.row 142 aY,.row 3 (.int .i64)]⟩
abbrev qK:Sh:=⟨1,[⟨0,false,[.v .bool]⟩],[.box 108 [.v (.slice aM),.v (.slice .bool),.v .bool,.own 1,.own 2,.own 3,.own 4,.v (.clip aH),.v (.slice aU),.own 5,.v (.int .i64),.v (.int .i64),.v (.int .i64)],.row 139 aC,.row 4 .bool,.row 22 (.slice aH),.row 142 aY,.row 3 (.int .i64)]⟩
abbrev Ej:Sh:=⟨3,[⟨0,false,[.ptr 0 0]⟩,⟨1,false,[.v (.int .i64)]⟩,⟨2,false,[.v (.slice aH)]⟩],[.box 108 [.v (.slice aM),.v (.slice .bool),.v .bool,.own 1,.own 2,.own 3,.own 4,.v (.clip aH),.v (.slice aU),.own 5,.v (.int .i64),.v (.int .i64),.v (.int .i64)],.row 139 aC,.row 4 .bool,.row 22 (.slice aH),.row 142 aY,.row 3 (.int .i64)]⟩
abbrev vB:Sh:=⟨0,[],[.box 108 [.v (.slice aM),.v (.slice .bool),.v .bool,.own 1,.own 2,.own 3,.own 4,.v (.slice aH),.v (.slice aU),.own 5,.v (.int .i64),.v (.int .i64),.v (.int .i64)],.row 139 aC,.row 4 .bool,.row 22 (.slice aH),.row 142 aY,.row 3 (.int .i64)]⟩
abbrev yX:Sh:=⟨2,[⟨0,false,[.ptr 0 0]⟩,⟨1,false,[.v (.int .i64)]⟩],[.box 108 [.v (.slice aM),.v (.slice .bool),.v .bool,.own 1,.own 2,.own 3,.own 4,.v (.slice aH),.v (.slice aU),.own 5,.v (.int .i64),.v (.int .i64),.v (.int .i64)],.row 139 aC,.row 4 .bool,.row 22 (.slice aH),.row 142 aY,.row 3 (.int .i64)]⟩
abbrev qL:Sh:=⟨1,[⟨0,false,[.v .bool]⟩],[.box 108 [.v (.slice aM),.v (.slice .bool),.v .bool,.own 1,.own 2,.own 3,.own 4,.v (.slice aH),.v (.slice aU),.own 5,.v (.int .i64),.v (.int .i64),.v (.int .i64)],.row 139 aC,.row 4 .bool,.row 22 (.slice aH),.row 142 aY,.row 3 (.int .i64)]⟩
abbrev yY:Sh:=⟨2,[⟨0,false,[.ptr 0 0]⟩,⟨1,false,[.v (.int .i64)]⟩],[.box 108 [.v (.slice aM),.v (.slice .bool),.v .bool,.own 1,.own 2,.own 3,.own 4,.v (.slice aH),.v (.slice aU),.own 5,.v (.int .i64),.v (.int .i64),.v (.int .i64)],.row 139 aC,.row 4 .bool,.row 22 (.slice aH),.row 142 aY,.row 3 (.int .i64)]⟩
abbrev qM:Sh:=⟨0,[],[.box 108 [.v (.slice aM),.v (.slice .bool),.v .bool,.own 1,.own 2,.own 3,.own 4,.v (.slice aH),.v (.slice aU),.own 5,.v (.int .i64),.v (.int .i64),.v (.int .i64)],.row 139 aC,.row 4 .bool,.row 22 (.slice aH),.row 142 aY,.row 3 (.int .i64)]⟩
abbrev Ae:Sh:=⟨3,[⟨0,false,[.ptr 0 0]⟩,⟨1,false,[.v (.int .i64)]⟩,⟨2,false,[.v (.int .i64)]⟩],[.box 108 [.v (.slice aM),.v (.slice .bool),.v .bool,.own 1,.own 2,.own 3,.own 4,.v (.slice aH),.v (.slice aU),.own 5,.v (.int .i64),.v (.int .i64),.v (.int .i64)],.row 139 aC,.row 4 .bool,.row 22 (.slice aH),.row 142 aY,.row 3 (.int .i64)]⟩
abbrev rY:Sh:=⟨0,[],[.box 108 [.v (.slice aM),.v (.slice .bool),.v .bool,.own 1,.own 2,.own 3,.own 4,.v (.slice aH),.v (.slice aU),.own 5,.v (.int .i64),.v (.int .i64),.v (.int .i64)],.row 139 aC,.row 4 .bool,.row 22 (.slice aH),.row 142 aY,.row 3 (.int .i64)]⟩
abbrev Gb:Sh:=⟨2,[⟨0,false,[.ptr 0 0]⟩,⟨1,false,[.v (.int .i64)]⟩],[.box 108 [.v (.slice aM),.v (.slice .bool),.v .bool,.own 1,.own 2,.own 3,.own 4,.v (.clip aH),.v (.slice aU),.own 5,.v (.int .i64),.v (.int .i64),.v (.int .i64)],.row 139 aC,.row 4 .bool,.row 22 (.slice aH),.row 142 aY,.row 3 (.int .i64)]⟩
abbrev wY:Sh:=⟨0,[],[.box 108 [.v (.slice aM),.v (.slice .bool),.v .bool,.own 1,.own 2,.own 3,.own 4,.v (.slice aH),.v (.slice aU),.own 5,.v (.int .i64),.v (.int .i64),.v (.int .i64)],.row 139 aC,.row 4 .bool,.row 22 (.slice aH),.row 142 aY,.row 3 (.int .i64)]⟩
abbrev El:Sh:=⟨2,[⟨0,false,[.ptr 0 0]⟩,⟨1,false,[.v (.int .i64)]⟩],[.box 108 [.v (.slice aM),.v (.slice .bool),.v .bool,.own 1,.own 2,.own 3,.own 4,.v (.clip aH),.v (.slice aU),.own 5,.v (.int .i64),.v (.int .i64),.v (.int .i64)],.row 139 aC,.row 4 .bool,.row 22 (.slice aH),.row 142 aY,.row 3 (.int .i64)]⟩
abbrev vC:Sh:=⟨3,[⟨0,true,[.v .str,.v .bool]⟩,⟨1,false,[.v .bool]⟩,⟨2,false,[.v .bool]⟩],[.box 108 [.v (.slice aM),.v (.slice .bool),.v .bool,.own 1,.own 2,.own 3,.own 4,.v (.clip aH),.v (.slice aU),.own 5,.v (.int .i64),.v (.int .i64),.v (.int .i64)],.row 139 aC,.row 4 .bool,.row 22 (.slice aH),.row 142 aY,.row 3 (.int .i64)]⟩
abbrev zFr:List Ty:=[aC,aH,.bool]
abbrev Tv:List Ty:=[aC]
abbrev zFs:List Ty:=[iI]
abbrev Tw:List Ty:=[iI]
abbrev zJw:List Ty:=[iI,.int .i64]
abbrev Xo:List Ty:=[iI,.int .i64]
abbrev kI:Sh:=⟨2,[⟨0,false,[.ptr 0 0]⟩,⟨1,false,[.v .str]⟩],[.box 78 [.dF 0 0,.own 1],.row 5 (.int .u8)]⟩
abbrev gY:Sh:=⟨2,[⟨0,false,[.v (.int .i64)]⟩,⟨1,false,[.v .err]⟩],[.box 78 [.dF 0 0,.own 1],.row 5 (.int .u8)]⟩
abbrev zAg:List Ty:=[.slice aH]
abbrev Ns:List Ty:=[.str]
abbrev Xp:Sh:=⟨5,[⟨0,false,[.v (.slice aM)]⟩,⟨1,false,[.ptr 0 0]⟩,⟨2,false,[.ptr 1 0]⟩,⟨3,false,[.ptr 2 0]⟩,⟨4,false,[.ptr 3 0]⟩],[.box 9 [.v .str],.box 40 [.v (.slice aU)],.box 4 [.v .bool],.box 3 [.v (.int .i64)]]⟩
abbrev Kj:Sh:=⟨2,[⟨0,true,[.v .str,.v (.slice aU),.v (.slice (.int .i64)),.v (.int .i64),.v (.int .i64)]⟩,⟨1,false,[.v (.int .i64)]⟩],[.box 9 [.v .str],.box 40 [.v (.slice aU)],.box 4 [.v .bool],.box 3 [.v (.int .i64)]]⟩
abbrev zFt:List Ty:=[xY]
abbrev Tx:List Ty:=[.int .i64]
abbrev sN:Sh:=⟨3,[⟨0,false,[.v .str]⟩,⟨1,false,[.v (.slice aU)]⟩,⟨2,false,[.clo 40 [(0,0),(1,0),(2,0),(3,0)]]⟩],[.box 9 [.v .str],.box 40 [.v (.slice aU)],.box 4 [.v .bool],.box 3 [.v (.int .i64)]]⟩
abbrev lU:Sh:=⟨3,[⟨0,true,[.v .str,.v (.slice aU),.v (.slice (.int .i64)),.v (.int .i64),.v (.int .i64)]⟩,⟨1,false,[.v (.int .i64)]⟩,⟨2,false,[.v (.int .i64)]⟩],[.box 9 [.v .str],.box 40 [.v (.slice aU)],.box 4 [.v .bool],.box 3 [.v (.int .i64)]]⟩
abbrev zFu:List Ty:=[.str,.str,.slice aU,.bool,.int .i64]
abbrev Tz:List Ty:=[xY,.int .i64,.int .i64]
abbrev zJx:List Ty:=[.str,.str]
abbrev Xq:List Ty:=[.str,.bool]
abbrev sO:Sh:=⟨2,[⟨0,false,[.ptr 0 0]⟩,⟨1,false,[.v (.int .u8)]⟩],[.box 78 [.dF 0 0,.own 1],.row 5 (.int .u8)]⟩
abbrev lV:Sh:=⟨1,[⟨0,false,[.v .err]⟩],[.box 78 [.dF 0 0,.own 1],.row 5 (.int .u8)]⟩
abbrev zAh:List Ty:=[.slice aH]
abbrev Nt:List Ty:=[.str]
abbrev zQh:List Ty:=[.str,.int .u8]
abbrev Xr:List Ty:=[.bool]
def Zl (n:Nat):An (yM.X):=.nil
theorem Qb (n:Nat):dK Tryz.prog 100 Ki yM (Ab n) :=
 bS (Γ:=dG _ [(101,gL Jp Jq (zV n))] []) (an:=Zl n) (co:=[.gc [0]]) Tryz.func100 rfl (by kernel_rfl) dA (aW (all_cons (dO (Sn n)) (all_nil)) (aX)) mixed (aR _ _ rfl) (by kernel_rfl) (by kernel_rfl) (fun x=>by kernel_rfl)
def qO (n:Nat):An (fO.X):=(.mk .nil (.mk (.mk .nil (.mk (.loop ⟨19,[⟨0,false,[.v (.slice aM)]⟩,⟨1,false,[.clo 100 [(0,0)]]⟩,⟨7,false,[.v (.int .i64)]⟩,⟨8,false,[.v (.int .i64)]⟩],[.box 135 [.v .bool,.v (.slice aJ),.v (.slice aF),.v .bool,.v (.slice .str),.v .bool]]⟩ [.keep [true,true,false,false,false,false,false,true,true],.gcA 1,.gcA 1] [.keep [true,true,false,false,false,false,false,true,true],.gcA 1,.gcA 1] n .nil) .nil []) []) .nil []) [])
theorem oV (n:Nat):dK Tryz.prog 145 jL fO (fQ n) :=
 bS (Γ:=dG _ [(100,peM Ki yM (Ab n))] []) (an:=qO n) (co:=[.gc [0]]) Tryz.func145 rfl (by kernel_rfl) dA (aW (all_cons (bA (Qb n)) (all_nil)) (aX)) mixed (aR _ _ rfl) (by kernel_rfl) (by kernel_rfl) (fun x=>by kernel_rfl)
def pI (n:Nat):An (fA.X):=.nil
theorem nP (n:Nat):dK Tryz.prog 99 iK fA (fF n) :=
 bS (Γ:=dG _ [(145,peM jL fO (fQ n))] []) (an:=pI n) (co:=[.gc [0]]) Tryz.func99 rfl (by kernel_rfl) dA (aW (all_cons (bA (oV n)) (all_nil)) (aX)) mixed (aR _ _ rfl) (by kernel_rfl) (by kernel_rfl) (fun x=>by kernel_rfl)
def zFv (n:Nat):An (bW Cb):=(.mk .nil (.mk .nil (.mk (.mk .nil (.mk (.loop ⟨26,[⟨0,false,[.v (.slice aM)]⟩,⟨3,false,[.own 0]⟩,⟨9,false,[.v (.slice aM)]⟩,⟨10,false,[.v (.int .i64)]⟩,⟨11,false,[.v (.int .i64)]⟩],[.row 4 .bool]⟩ [.keep [true,false,false,true,false,false,false,false,false,true,true,true],.gcA 0,.gcA 0] [.keep [true,false,false,true,false,false,false,false,false,true,true,true],.gcA 0,.gcA 0] n .nil) .nil []) []) .nil []) []) [])
theorem Xt (n:Nat):Pure Tryz.prog 65 Qa Cb (Ez n) :=
 fJ (Γ:=dG _ [(99,peM iK fA (fF n))] []) (an:=zFv n) Tryz.func65 rfl (by kernel_rfl) dA (aW (all_cons (bA (nP n)) (all_nil)) (aX)) mixed (aR _ _ rfl) (fun x=>by kernel_rfl)
def zZp (n:Nat):An (bW Xm):=.nil
theorem zKi (n:Nat):Pure Tryz.prog 66 zJu Xm (zCk n) :=
 fJ (Γ:=dG _ [] []) (an:=zZp n) Tryz.func66 rfl (by kernel_rfl) dA (aW (all_nil) (aX)) mixed (aR _ _ rfl) (fun x=>by kernel_rfl)
def zZq (n:Nat):An (bW Xn):=(.mk .nil (.mk .nil (.mk .nil (.mk (.mk .nil (.mk (.loop ⟨80,[⟨0,false,[.v (.slice aM)]⟩,⟨1,false,[.v .str]⟩,⟨8,false,[.ptr 0 0]⟩,⟨10,false,[.ptr 1 0]⟩,⟨37,false,[.v (.slice aM)]⟩,⟨38,false,[.v (.int .i64)]⟩,⟨39,false,[.v (.int .i64)]⟩],[.box 108 [.v (.slice aM),.v (.slice .bool),.v .bool,.own 2,.v (.slice .bool),.v (.slice (.slice aH)),.v (.slice aY),.own 3,.v (.slice aU),.v (.slice (.int .i64)),.v (.int .i64),.v (.int .i64),.v (.int .i64)],.box 108 [.v (.slice aM),.v (.slice .bool),.v .bool,.own 4,.v (.slice .bool),.v (.slice (.slice aH)),.own 5,.own 6,.v (.slice aU),.v (.slice (.int .i64)),.v (.int .i64),.v (.int .i64),.v (.int .i64)],.row 139 aC,.row 143 aH,.row 139 aC,.row 142 aY,.row 143 aH]⟩ [.keep [true,true,false,false,false,false,false,false,true,false,true,false,false,false,false,false,false,false,false,false,false,false,false,false,false,false,false,false,false,false,false,false,false,false,false,false,false,true,true,true],.gcA 0,.ownB 0 3 103,.ownB 0 7 106,.ownB 1 3 103,.ownB 1 7 106,.gcA 0] [.keep [true,true,false,false,false,false,false,false,true,false,true,false,false,false,false,false,false,false,false,false,false,false,false,false,false,false,false,false,false,false,false,false,false,false,false,false,false,true,true,true],.gcA 0,.gcA 0] n .nil) .nil []) []) (.mk .nil (.mk (.mk .nil (.mk (.loop ⟨80,[⟨8,false,[.ptr 0 0]⟩,⟨10,false,[.ptr 1 0]⟩,⟨62,false,[.v (.slice aH)]⟩,⟨63,false,[.v (.int .i64)]⟩,⟨64,false,[.v (.int .i64)]⟩],[.box 108 [.v (.slice aM),.v (.slice .bool),.v .bool,.own 2,.v (.slice .bool),.v (.slice (.slice aH)),.v (.slice aY),.own 3,.v (.slice aU),.v (.slice (.int .i64)),.v (.int .i64),.v (.int .i64),.v (.int .i64)],.box 108 [.v (.slice aM),.v (.slice .bool),.v .bool,.own 4,.v (.slice .bool),.v (.slice (.slice aH)),.own 5,.own 6,.v (.slice aU),.v (.slice (.int .i64)),.v (.int .i64),.v (.int .i64),.v (.int .i64)],.row 139 aC,.row 143 aH,.row 139 aC,.row 142 aY,.row 143 aH]⟩ [.keep [false,false,false,false,false,false,false,false,true,false,true,false,false,false,false,false,false,false,false,false,false,false,false,false,false,false,false,false,false,false,false,false,false,false,false,false,false,false,false,false,false,false,false,false,false,false,false,false,false,false,false,false,false,false,false,false,false,false,false,false,false,false,true,true,true],.gcA 0,.gcA 0] [.keep [false,false,false,false,false,false,false,false,true,false,true,false,false,false,false,false,false,false,false,false,false,false,false,false,false,false,false,false,false,false,false,false,false,false,false,false,false,false,false,false,false,false,false,false,false,false,false,false,false,false,false,false,false,false,false,false,false,false,false,false,false,false,true,true,true],.gcA 0,.gcA 0] n .nil) .nil []) []) .nil []) []) []) []) []) [])
theorem zKj (n:Nat):Pure Tryz.prog 41 zJv Xn (Bw n) :=
 fJ (Γ:=dG _ [(65,gL Qa Cb (Ez n)),(66,gL zJu Xm (zCk n)),(9,gL zR zS (kL n))] []) (an:=zZq n) Tryz.func41 rfl (by kernel_rfl) dA (aW (all_cons (dO (Xt n)) (all_cons (dO (zKi n)) (all_cons (dO (yH n)) (all_nil)))) (aX)) mixed (aR _ _ rfl) (fun x=>by kernel_rfl)
def Uo (n:Nat):An (uW.X):=.nil
theorem Kv (n:Nat):dK Tryz.prog 149 Ee uW (wR n) :=
 bS (Γ:=dG _ [] []) (an:=Uo n) (co:=[.gc [0]]) Tryz.func149 rfl (by kernel_rfl) dA (aW (all_nil) (aX)) mixed (aR _ _ rfl) (by kernel_rfl) (by kernel_rfl) (fun x=>by kernel_rfl)
def zRy (n:Nat):An (bW Hz):=(.mk .nil (.scope 0 .nil .nil) [])
theorem Qc (n:Nat):Pure Tryz.prog 163 Tq Hz (qQ n) :=
 fJ (Γ:=dG _ [(38,gL Jl Jm (strings_Cut n))] []) (an:=zRy n) Tryz.func163 rfl (by kernel_rfl) dA (aW (all_cons (dO (Jo n)) (all_nil)) (aX)) mixed (aR _ _ rfl) (fun x=>by kernel_rfl)
def zQi (n:Nat):An (bW Np):=.nil
theorem zFw (n:Nat):Pure Tryz.prog 151 zAe Np (wC n) :=
 fJ (Γ:=dG _ [(163,gL Tq Hz (qQ n))] []) (an:=zQi n) Tryz.func151 rfl (by kernel_rfl) dA (aW (all_cons (dO (Qc n)) (all_nil)) (aX)) mixed (aR _ _ rfl) (fun x=>by kernel_rfl)
def zQj (n:Nat):An (bW Nq):=.nil
theorem zFx (n:Nat):Pure Tryz.prog 152 zAf Nq (Hw n) :=
 fJ (Γ:=dG _ [] []) (an:=zQj n) Tryz.func152 rfl (by kernel_rfl) dA (aW (all_nil) (aX)) mixed (aR _ _ rfl) (fun x=>by kernel_rfl)
def Xu (n:Nat):An (wU.X):=.nil
theorem Nu (n:Nat):dK Tryz.prog 102 Fp wU (rU n) :=
 bS (Γ:=dG _ [(149,peM Ee uW (wR n)),(151,gL zAe Np (wC n)),(152,gL zAf Nq (Hw n))] []) (an:=Xu n) (co:=[.gc [0]]) Tryz.func102 rfl (by kernel_rfl) dA (aW (all_cons (bA (Kv n)) (all_cons (dO (zFw n)) (all_cons (dO (zFx n)) (all_nil)))) (aX)) mixed (aR _ _ rfl) (by kernel_rfl) (by kernel_rfl) (fun x=>by kernel_rfl)
def zRz (n:Nat):An (bW Ia):=(.mk .nil (.mk (.mk .nil (.mk (.loop ⟨15,[⟨1,false,[.ptr 0 0]⟩,⟨3,false,[.v (.int .i64)]⟩],[.box 108 [.v (.slice aM),.v (.slice .bool),.v .bool,.v (.slice aC),.v (.slice .bool),.v (.slice (.slice aH)),.v (.slice aY),.v (.slice aH),.v (.slice aU),.v (.slice (.int .i64)),.v (.int .i64),.v (.int .i64),.v (.int .i64)]]⟩ [.keep [false,true,false,true],.gcA 0,.gcA 0] [.keep [false,true,false,true],.gcA 0,.gcA 0] n .nil) .nil []) []) .nil []) [])
theorem Qd (n:Nat):Pure Tryz.prog 67 Tt Ia (iR n) :=
 fJ (Γ:=dG _ [(102,peM Fp wU (rU n))] []) (an:=zRz n) Tryz.func67 rfl (by kernel_rfl) dA (aW (all_cons (bA (Nu n)) (all_nil)) (aX)) mixed (aR _ _ rfl) (fun x=>by kernel_rfl)
theorem Em (n:Nat):dK Tryz.prog 153 xL xM (qI n) :=
 sW (T:=tab) Tryz.func153 rfl rfl rfl Tryz.underlying103 (by kernel_rfl) dA rfl rfl rfl rfl (by decide) (by decide) (fun _=>rfl)
theorem Kw (n:Nat):dK Tryz.prog 154 Ef Eh (wS n) :=
 sW (T:=tab) Tryz.func154 rfl rfl rfl Tryz.underlying102 (by kernel_rfl) dA rfl rfl rfl rfl (by decide) (by decide) (fun _=>rfl)
theorem Ag (n:Nat):dK Tryz.prog 155 uX uY (oF n) :=
 sW (T:=tab) Tryz.func155 rfl rfl rfl Tryz.underlying104 (by kernel_rfl) dA rfl rfl rfl rfl (by decide) (by decide) (fun _=>rfl)
theorem En (n:Nat):dK Tryz.prog 156 xO xP (qJ n) :=
 sW (T:=tab) Tryz.func156 rfl rfl rfl Tryz.underlying105 (by kernel_rfl) dA rfl rfl rfl rfl (by decide) (by decide) (fun _=>rfl)
theorem Nv (n:Nat):dK Tryz.prog 157 Fq Fv (slices_Clone_int n) :=
 sW (T:=tab) Tryz.func157 rfl rfl rfl Tryz.underlying41 (by kernel_rfl) dA rfl rfl rfl rfl (by decide) (by decide) (fun _=>rfl)
def Xv (n:Nat):An (bW wV):=.nil
theorem Qe (n:Nat):Pure Tryz.prog 158 Fz wV (kH n) :=
 fJ (Γ:=dG _ [] []) (an:=Xv n) Tryz.func158 rfl (by kernel_rfl) dA (aW (all_nil) (aX)) mixed (aR _ _ rfl) (fun x=>by kernel_rfl)
def Xw (n:Nat):An (wW.X):=.nil
theorem Nw (n:Nat):dK Tryz.prog 103 Ga wW (nM n) :=
 bS (Γ:=dG _ [(153,peM xL xM (qI n)),(154,peM Ef Eh (wS n)),(155,peM uX uY (oF n)),(156,peM xO xP (qJ n)),(157,peM Fq Fv (slices_Clone_int n)),(158,gL Fz wV (kH n))] []) (an:=Xw n) (co:=[.gc [0,1,2,3,4,5]]) Tryz.func103 rfl (by kernel_rfl) dA (aW (all_cons (bA (Em n)) (all_cons (bA (Kw n)) (all_cons (bA (Ag n)) (all_cons (bA (En n)) (all_cons (bA (Nv n)) (all_cons (dO (Qe n)) (all_nil))))))) (aX)) mixed (aR _ _ rfl) (by kernel_rfl) (by kernel_rfl) (fun x=>by kernel_rfl)
def zQk (n:Nat):An (bW Df):=.nil
theorem Mv (n:Nat):Pure Tryz.prog 208 Nr Df (Ac n) :=
 fJ (Γ:=dG _ [] []) (an:=zQk n) Tryz.func208 rfl (by kernel_rfl) dA (aW (all_nil) (aX)) mixed (aR _ _ rfl) (fun x=>by kernel_rfl)
def Uq (n:Nat):An (uZ.X):=.nil
theorem Ky (n:Nat):dK Tryz.prog 164 Ei uZ (wT n) :=
 bS (Γ:=dG _ [(208,gL Nr Df (Ac n))] []) (an:=Uq n) (co:=[.gc [0,1,2,3,4,5]]) Tryz.func164 rfl (by kernel_rfl) dA (aW (all_cons (dO (Mv n)) (all_nil)) (aX)) mixed (aR _ _ rfl) (by kernel_rfl) (by kernel_rfl) (fun x=>by kernel_rfl)
def Xx (n:Nat):An (pW.X):=.nil
theorem xQ (n:Nat):dK Tryz.prog 108 wX pW (nN n) :=
 bS (Γ:=dG _ [(164,peM Ei uZ (wT n))] []) (an:=Xx n) (co:=[.gc [0,1,2,3,4,5]]) Tryz.func108 rfl (by kernel_rfl) dA (aW (all_cons (bA (Ky n)) (all_nil)) (aX)) mixed (aR _ _ rfl) (by kernel_rfl) (by kernel_rfl) (fun x=>by kernel_rfl)
def Ua (n:Nat):An (tQ.X):=.nil
theorem Kk (n:Nat):dK Tryz.prog 104 Al tQ (oU n) :=
 bS (Γ:=dG _ [(108,peM wX pW (nN n)),(159,gL xW xX (nH n))] []) (an:=Ua n) (co:=[.gc [0,1,2,3,4,5]]) Tryz.func104 rfl (by kernel_rfl) dA (aW (all_cons (bA (xQ n)) (all_cons (dO (Zg n)) (all_nil))) (aX)) mixed (aR _ _ rfl) (by kernel_rfl) (by kernel_rfl) (fun x=>by kernel_rfl)
def Ny (n:Nat):An (qK.X):=.nil
theorem Fa (n:Nat):dK Tryz.prog 149 yV qK (rV n) :=
 bS (Γ:=dG _ [] []) (an:=Ny n) (co:=[.gc [0,1,2,3,4,5]]) Tryz.func149 rfl (by kernel_rfl) dA (aW (all_nil) (aX)) mixed (aR _ _ rfl) (by kernel_rfl) (by kernel_rfl) (fun x=>by kernel_rfl)
def Ur (n:Nat):An (vB.X):=(.mk .nil (.mk .nil (.mk (.join ⟨101,[⟨0,false,[.ptr 0 0]⟩,⟨2,false,[.v (.slice aH)]⟩,⟨6,false,[.v (.int .i64)]⟩],[.box 108 [.v (.slice aM),.v (.slice .bool),.v .bool,.own 1,.own 2,.own 3,.own 4,.v (.clip aH),.v (.slice aU),.own 5,.v (.int .i64),.v (.int .i64),.v (.int .i64)],.row 139 aC,.row 4 .bool,.row 22 (.slice aH),.row 142 aY,.row 3 (.int .i64)]⟩ [.keep [true,false,true,false,false,false,true],.gcA 6] .nil) (.mk (.join ⟨101,[⟨0,false,[.ptr 0 0]⟩,⟨2,false,[.v (.slice aH)]⟩,⟨6,false,[.v (.int .i64)]⟩],[.box 108 [.v (.slice aM),.v (.slice .bool),.v .bool,.own 1,.own 2,.own 3,.own 4,.v (.clip aH),.v (.slice aU),.own 5,.v (.int .i64),.v (.int .i64),.v (.int .i64)],.row 139 aC,.row 4 .bool,.row 22 (.slice aH),.row 142 aY,.row 3 (.int .i64)]⟩ [.keep [true,false,true,false,false,false,true],.gcA 6] .nil) (.mk .nil (.mk (.loop ⟨101,[⟨0,false,[.ptr 0 0]⟩,⟨6,false,[.v (.int .i64)]⟩,⟨79,false,[.v (.slice aH)]⟩,⟨80,false,[.v (.int .i64)]⟩,⟨81,false,[.v (.int .i64)]⟩],[.box 108 [.v (.slice aM),.v (.slice .bool),.v .bool,.own 1,.own 2,.own 3,.own 4,.v (.clip aH),.v (.slice aU),.own 5,.v (.int .i64),.v (.int .i64),.v (.int .i64)],.row 139 aC,.row 4 .bool,.row 22 (.slice aH),.row 142 aY,.row 3 (.int .i64)]⟩ [.keep [true,false,false,false,false,false,true,false,false,false,false,false,false,false,false,false,false,false,false,false,false,false,false,false,false,false,false,false,false,false,false,false,false,false,false,false,false,false,false,false,false,false,false,false,false,false,false,false,false,false,false,false,false,false,false,false,false,false,false,false,false,false,false,false,false,false,false,false,false,false,false,false,false,false,false,false,false,false,false,true,true,true],.gcA 6,.gcA 6] [.keep [true,false,false,false,false,false,true,false,false,false,false,false,false,false,false,false,false,false,false,false,false,false,false,false,false,false,false,false,false,false,false,false,false,false,false,false,false,false,false,false,false,false,false,false,false,false,false,false,false,false,false,false,false,false,false,false,false,false,false,false,false,false,false,false,false,false,false,false,false,false,false,false,false,false,false,false,false,false,false,true,true,true],.gcA 6,.gcA 6] n .nil) .nil []) []) []) []) []) [])
theorem Kz (n:Nat):dK Tryz.prog 162 Ej vB (lY n) :=
 bS (Γ:=dG _ [(149,peM yV qK (rV n)),(9,gL zR zS (kL n))] []) (an:=Ur n) (co:=[.gc [0,1,2,3,4,5]]) Tryz.func162 rfl (by kernel_rfl) dA (aW (all_cons (bA (Fa n)) (all_cons (dO (yH n)) (all_nil))) (aX)) mixed (aR _ _ rfl) (by kernel_rfl) (by kernel_rfl) (fun x=>by kernel_rfl)
def Nz (n:Nat):An (qL.X):=.nil
theorem Fb (n:Nat):dK Tryz.prog 149 yX qL (jK n) :=
 bS (Γ:=dG _ [] []) (an:=Nz n) (co:=[.gc [0,1,2,3,4,5]]) Tryz.func149 rfl (by kernel_rfl) dA (aW (all_nil) (aX)) mixed (aR _ _ rfl) (by kernel_rfl) (by kernel_rfl) (fun x=>by kernel_rfl)
def Oa (n:Nat):An (qM.X):=.nil
theorem Fe (n:Nat):dK Tryz.prog 164 yY qM (rW n) :=
 bS (Γ:=dG _ [(208,gL Nr Df (Ac n))] []) (an:=Oa n) (co:=[.gc [0,1,2,3,4,5]]) Tryz.func164 rfl (by kernel_rfl) dA (aW (all_cons (dO (Mv n)) (all_nil)) (aX)) mixed (aR _ _ rfl) (by kernel_rfl) (by kernel_rfl) (fun x=>by kernel_rfl)
def Qf (n:Nat):An (rY.X):=.nil
theorem Ib (n:Nat):dK Tryz.prog 108 Ae rY (nY n) :=
 bS (Γ:=dG _ [(164,peM yY qM (rW n))] []) (an:=Qf n) (co:=[.gc [0,1,2,3,4,5]]) Tryz.func108 rfl (by kernel_rfl) dA (aW (all_cons (bA (Fe n)) (all_nil)) (aX)) mixed (aR _ _ rfl) (by kernel_rfl) (by kernel_rfl) (fun x=>by kernel_rfl)
def Xy (n:Nat):An (wY.X):=.nil
theorem Oc (n:Nat):dK Tryz.prog 105 Gb wY (iM n) :=
 bS (Γ:=dG _ [(161,gL wB kQ (fD n)),(162,peM Ej vB (lY n)),(149,peM yX qL (jK n)),(108,peM Ae rY (nY n))] []) (an:=Xy n) (co:=[.gc [0,1,2,3,4,5]]) Tryz.func105 rfl (by kernel_rfl) dA (aW (all_cons (dO (zHp n)) (all_cons (bA (Kz n)) (all_cons (bA (Fb n)) (all_cons (bA (Ib n)) (all_nil))))) (aX)) mixed (aR _ _ rfl) (by kernel_rfl) (by kernel_rfl) (fun x=>by kernel_rfl)
def Us (n:Nat):An (vC.X):=.nil
theorem La (n:Nat):dK Tryz.prog 106 El vC (pV n) :=
 bS (Γ:=dG _ [(163,gL Tq Hz (qQ n))] []) (an:=Us n) (co:=[.gc [0,1,2,3,4,5]]) Tryz.func106 rfl (by kernel_rfl) dA (aW (all_cons (dO (Qc n)) (all_nil)) (aX)) mixed (aR _ _ rfl) (by kernel_rfl) (by kernel_rfl) (fun x=>by kernel_rfl)
def zSa (n:Nat):An (bW Tv):=.nil
theorem zIc (n:Nat):Pure Tryz.prog 107 zFr Tv (Ms n) :=
 fJ (Γ:=dG _ [] []) (an:=zSa n) Tryz.func107 rfl (by kernel_rfl) dA (aW (all_nil) (aX)) mixed (aR _ _ rfl) (fun x=>by kernel_rfl)
def zSb (n:Nat):An (bW Tw):=(.mk .nil (.scope 0 .nil .nil) [])
theorem zId (n:Nat):Pure Tryz.prog 68 zFs Tw (iE n) :=
 fJ (Γ:=dG _ [(67,gL Tt Ia (iR n)),(103,peM Ga wW (nM n)),(104,peM Al tQ (oU n)),(105,peM Gb wY (iM n)),(106,peM El vC (pV n)),(107,gL zFr Tv (Ms n)),(108,peM wX pW (nN n))] []) (an:=zSb n) Tryz.func68 rfl (by kernel_rfl) dA (aW (all_cons (dO (Qd n)) (all_cons (bA (Nw n)) (all_cons (bA (Kk n)) (all_cons (bA (Oc n)) (all_cons (bA (La n)) (all_cons (dO (zIc n)) (all_cons (bA (xQ n)) (all_nil)))))))) (aX)) mixed (aR _ _ rfl) (fun x=>by kernel_rfl)
def zZr (n:Nat):An (bW Xo):=(.mk .nil (.mk (.mk .nil (.mk (.loop ⟨19,[⟨1,false,[.v (.int .i64)]⟩,⟨2,false,[.ptr 0 0]⟩,⟨4,false,[.ptr 1 0]⟩,⟨6,false,[.v (.int .i64)]⟩],[.box 108 [.v (.slice aM),.v (.slice .bool),.v .bool,.v (.slice aC),.v (.slice .bool),.v (.slice (.slice aH)),.v (.slice aY),.v (.slice aH),.v (.slice aU),.v (.slice (.int .i64)),.v (.int .i64),.v (.int .i64),.v (.int .i64)],.box 108 [.v (.slice aM),.v (.slice .bool),.v .bool,.own 2,.v (.slice .bool),.v (.slice (.slice aH)),.v (.slice aY),.own 3,.v (.slice aU),.v (.slice (.int .i64)),.v (.int .i64),.v (.int .i64),.v (.int .i64)],.row 139 aC,.row 143 aH]⟩ [.keep [false,true,true,false,true,false,true],.gcA 0,.ownB 1 3 103,.ownB 1 7 106,.gcA 0] [.keep [false,true,true,false,true,false,true],.gcA 0,.gcA 0] n .nil) .nil []) []) .nil []) [])
theorem zKk (n:Nat):Pure Tryz.prog 42 zJw Xo (Bz n) :=
 fJ (Γ:=dG _ [(67,gL Tt Ia (iR n)),(68,gL zFs Tw (iE n))] []) (an:=zZr n) Tryz.func42 rfl (by kernel_rfl) dA (aW (all_cons (dO (Qd n)) (all_cons (dO (zId n)) (all_nil))) (aX)) mixed (aR _ _ rfl) (fun x=>by kernel_rfl)
def Ah (n:Nat):An (gY.X):=.nil
theorem mU (n:Nat):dK Tryz.prog 30 kI gY (dI n) :=
 bS (Γ:=dG _ [(54,peM vQ vR (lT n))] []) (an:=Ah n) (co:=[.gc [0,1]]) Tryz.func30 rfl (by kernel_rfl) dA (aW (all_cons (bA (Ai n)) (all_nil)) (aX)) mixed (aR _ _ rfl) (by kernel_rfl) (by kernel_rfl) (fun x=>by kernel_rfl)
def zQl (n:Nat):An (bW Ns):=(.mk .nil (.mk .nil (.mk .nil (.mk (.mk .nil (.mk (.loop ⟨23,[⟨3,false,[.ptr 0 0]⟩,⟨4,false,[.v .str]⟩,⟨7,false,[.v (.slice aH)]⟩,⟨8,false,[.v (.int .i64)]⟩,⟨9,false,[.v (.int .i64)]⟩],[.box 78 [.dF 0 0,.own 1],.row 5 (.int .u8)]⟩ [.keep [false,false,false,true,true,false,false,true,true,true],.gcA 0,.ownB 0 1 31,.orn 0 0 0 0,.gcA 0] [.keep [false,false,false,true,true,false,false,true,true,true],.gcA 0,.gcA 0] n .nil) .nil []) []) .nil []) []) []) [])
theorem zFy (n:Nat):Pure Tryz.prog 43 zAg Ns (wD n) :=
 fJ (Γ:=dG _ [(30,peM kI gY (dI n)),(26,peM tY oP (Builder_String n))] []) (an:=zQl n) Tryz.func43 rfl (by kernel_rfl) dA (aW (all_cons (bA (mU n)) (all_cons (bA (zQ n)) (all_nil))) (aX)) mixed (aR _ _ rfl) (fun x=>by kernel_rfl)
def zKl (n:Nat):An (Kj.X):=.nil
theorem Zm (n:Nat):dK Tryz.prog 40 Xp Kj (Db n) :=
 bS (Γ:=dG _ [(41,gL zJv Xn (Bw n)),(42,gL zJw Xo (Bz n)),(43,gL zAg Ns (wD n))] []) (an:=zKl n) (co:=[.gc [0,1,2,3]]) Tryz.func40 rfl (by kernel_rfl) dA (aW (all_cons (dO (zKj n)) (all_cons (dO (zKk n)) (all_cons (dO (zFy n)) (all_nil)))) (aX)) mixed (aR _ _ rfl) (by kernel_rfl) (by kernel_rfl) (fun x=>by kernel_rfl)
def zSc (n:Nat):An (bW Tx):=.nil
theorem zIe (n:Nat):Pure Tryz.prog 64 zFt Tx (Xl n) :=
 fJ (Γ:=dG _ [] []) (an:=zSc n) Tryz.func64 rfl (by kernel_rfl) dA (aW (all_nil) (aX)) mixed (aR _ _ rfl) (fun x=>by kernel_rfl)
def Eo (n:Nat):An (lU.X):=.nil
theorem yZ (n:Nat):dK Tryz.prog 39 sN lU (iW n) :=
 bS (Γ:=dG _ [(63,gL bK bR (jH n)),(40,peM Xp Kj (Db n)),(64,gL zFt Tx (Xl n))] []) (an:=Eo n) (co:=[.gc [0,1,2,3]]) Tryz.func39 rfl (by kernel_rfl) dA (aW (all_cons (dO (Zf n)) (all_cons (bA (Zm n)) (all_cons (dO (zIe n)) (all_nil)))) (aX)) mixed (aR _ _ rfl) (by kernel_rfl) (by kernel_rfl) (fun x=>by kernel_rfl)
def zSd (n:Nat):An (bW Tz):=.nil
theorem zIf (n:Nat):Pure Tryz.prog 21 zFu Tz (Mt n) :=
 fJ (Γ:=dG _ [(39,peM sN lU (iW n))] []) (an:=zSd n) Tryz.func21 rfl (by kernel_rfl) dA (aW (all_cons (bA (yZ n)) (all_nil)) (aX)) mixed (aR _ _ rfl) (fun x=>by kernel_rfl)
def zZs (n:Nat):An (bW Xq):=.nil
theorem zKm (n:Nat):Pure Tryz.prog 11 zJx Xq (Ca n) :=
 fJ (Γ:=dG _ [(21,gL zFu Tz (Mt n))] []) (an:=zZs n) Tryz.func11 rfl (by kernel_rfl) dA (aW (all_cons (dO (zIf n)) (all_nil)) (aX)) mixed (aR _ _ rfl) (fun x=>by kernel_rfl)
def Ep (n:Nat):An (lV.X):=.nil
theorem zA (n:Nat):dK Tryz.prog 31 sO lV (gH n) :=
 bS (Γ:=dG _ [(54,peM vQ vR (lT n))] []) (an:=Ep n) (co:=[.gc [0,1]]) Tryz.func31 rfl (by kernel_rfl) dA (aW (all_cons (bA (Ai n)) (all_nil)) (aX)) mixed (aR _ _ rfl) (by kernel_rfl) (by kernel_rfl) (fun x=>by kernel_rfl)
def zQm (n:Nat):An (bW Nt):=(.mk .nil (.mk .nil (.mk (.mk .nil (.mk (.loop ⟨20,[⟨3,false,[.ptr 0 0]⟩,⟨6,false,[.v (.slice aH)]⟩,⟨7,false,[.v (.int .i64)]⟩,⟨8,false,[.v (.int .i64)]⟩],[.box 78 [.dF 0 0,.own 1],.row 5 (.int .u8)]⟩ [.keep [false,false,false,true,false,false,true,true,true],.gcA 0,.ownB 0 1 31,.orn 0 0 0 0,.gcA 0] [.keep [false,false,false,true,false,false,true,true,true],.gcA 0,.gcA 0] n .nil) .nil []) []) .nil []) []) [])
theorem zFz (n:Nat):Pure Tryz.prog 18 zAh Nt (Ad n) :=
 fJ (Γ:=dG _ [(30,peM kI gY (dI n)),(31,peM sO lV (gH n)),(26,peM tY oP (Builder_String n))] []) (an:=zQm n) Tryz.func18 rfl (by kernel_rfl) dA (aW (all_cons (bA (mU n)) (all_cons (bA (zA n)) (all_cons (bA (zQ n)) (all_nil)))) (aX)) mixed (aR _ _ rfl) (fun x=>by kernel_rfl)
def zKn (n:Nat):An (bW Xr):=.nil
theorem zAj (n:Nat):Pure Tryz.prog 7 zQh Xr (Dc n) :=
 fJ (Γ:=dG _ [(10,gL zJq zJr (showntop n)),(11,gL zJx Xq (Ca n)),(9,gL zR zS (kL n)),(18,gL zAh Nt (Ad n))] []) (an:=zKn n) Tryz.func7 rfl (by kernel_rfl) dA (aW (all_cons (dO (zKh n)) (all_cons (dO (zKm n)) (all_cons (dO (yH n)) (all_cons (dO (zFz n)) (all_nil))))) (aX)) mixed (aR _ _ rfl) (fun x=>by kernel_rfl)
end Go.Dec
