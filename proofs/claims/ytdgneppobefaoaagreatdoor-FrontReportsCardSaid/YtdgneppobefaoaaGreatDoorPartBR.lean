/- Part of a proof over this seat: a library of my own, and what it says of this seat. No statement is proved here. -/
import Derived.Test.YtdgneppobefaoaaGreatDoorProg
import Derived.Test.YtdgneppobefaoaaGreatDoorPartBQ
import Derived.Test.YtdgneppobefaoaaGreatDoorPartBP
import Derived.KernelRfl
import Derived.Test.YtdgneppobefaoaaGreatDoorPartAL
namespace Go.Dec
open Go.Proofs
set_option linter.unusedVariables false
def tab:Tab:=[(3,⟨.int .i64,1,8,[.val (.int .i64) 0],some (.int .i64),false⟩),
 (4,⟨.bool,1,1,[.val .bool false],some .bool,false⟩),
 (5,⟨.int .u8,1,1,[.val (.int .u8) 0],some (.int .u8),false⟩),
 (9,⟨.str,1,16,[.val .str []],some .str,false⟩),
 (20,⟨.iface true,1,16,[.val .err false],some .opq,false⟩),
 (31,⟨.slice 5,1,24,[.bU],some (.slice (.int .u8)),false⟩),
 (40,⟨.slice 45,1,24,[.bU],some (.slice gY),false⟩),
 (41,⟨.slice 3,1,24,[.bU],some (.slice (.int .i64)),false⟩),
 (43,⟨.struct [(0,9),(1,40),(2,41),(3,3),(4,3)],5,80,[.val .str [],.bU,.bU,.val (.int .i64) 0,.val (.int .i64) 0],some iU,false⟩),
 (45,⟨.struct [(0,9),(1,9)],2,32,[.val .str [],.val .str []],some gY,true⟩),
 (48,⟨.slice 84,1,24,[.bU],some (.slice gY),false⟩),
 (50,⟨.struct [(0,9),(1,48),(2,41),(3,3),(4,3)],5,80,[.val .str [],.bU,.bU,.val (.int .i64) 0,.val (.int .i64) 0],some iU,false⟩),
 (76,⟨.ptr 78,1,8,[.iY],none,false⟩),
 (78,⟨.struct [(0,76),(1,31)],2,32,[.iY,.bU],none,false⟩),
 (80,⟨.str,1,16,[.val .str []],some .str,false⟩),
 (84,⟨.struct [(0,9),(1,9)],2,32,[.val .str [],.val .str []],some gY,true⟩),
 (87,⟨.iface false,1,16,[.val .err false],some .err,false⟩),
 (92,⟨.int .u64,1,8,[.val (.int .u64) 0],some (.int .u64),false⟩),
 (122,⟨.slice 20,1,24,[.bU],some (.slice .opq),false⟩)]
theorem kK:aV Tryz.prog tab:=Wv (by kernel_rfl)
theorem mixed:Tryz.prog.follows .mixedOrders=true:=by kernel_rfl
abbrev eX:Sh:=⟨2,[⟨0,false,[.ptr 0 0]⟩,⟨1,false,[.v .str]⟩],[.box 78 [.bF 0 0,.own 1],.row 5 (.int .u8)]⟩
abbrev dG:Sh:=⟨2,[⟨0,false,[.v (.int .i64)]⟩,⟨1,false,[.v .err]⟩],[.box 78 [.bF 0 0,.own 1],.row 5 (.int .u8)]⟩
abbrev Fp:List Ty:=[.int .u8]
abbrev wV:List Ty:=[.str]
abbrev Cr:Sh:=⟨4,[⟨0,false,[.v .str]⟩,⟨1,false,[.ptr 0 0]⟩,⟨2,false,[.ptr 1 0]⟩,⟨3,false,[.ptr 2 0]⟩],[.box 3 [.v (.int .i64)],.box 3 [.v (.int .i64)],.box 78 [.bF 2 0,.own 3],.row 5 (.int .u8)]⟩
abbrev uK:Sh:=⟨0,[],[.box 3 [.v (.int .i64)],.box 3 [.v (.int .i64)],.box 78 [.bF 2 0,.own 3],.row 5 (.int .u8)]⟩
abbrev Iw:List Ty:=[.str,.int .i64]
abbrev yK:List Ty:=[.str]
abbrev Iy:Sh:=⟨2,[⟨0,false,[.ptr 0 0]⟩,⟨1,false,[.v (.slice .opq)]⟩],[.box 78 [.bF 0 0,.own 1],.row 5 (.int .u8)]⟩
abbrev yL:Sh:=⟨0,[],[.box 78 [.bF 0 0,.own 1],.row 5 (.int .u8)]⟩
abbrev Ct:List Ty:=[iU]
abbrev uL:List Ty:=[.str]
abbrev Fq:List Ty:=[.slice gY]
abbrev wW:List Ty:=[.slice gY]
abbrev Qr:List Ty:=[iU]
abbrev Cb:List Ty:=[iU]
abbrev kY:List Ty:=[.int .u64]
abbrev jK:List Ty:=[.str]
abbrev Cu:List Ty:=[.int .i64]
abbrev uM:List Ty:=[.str]
abbrev Fv:List Ty:=[.int .u8]
abbrev wX:List Ty:=[.str]
abbrev Iz:List Ty:=[.str,.int .i64]
abbrev yM:List Ty:=[.str]
abbrev Cv:List Ty:=[iU]
abbrev uN:List Ty:=[.str]
abbrev mO:List Ty:=[iU]
abbrev qV:List Ty:=[.bool]
def qQ (n:Nat):An (dG.X):=.nil
theorem fE (n:Nat):Af Tryz.prog 30 eX dG (aO n) :=
 Ju (Γ:=oG _ [(54,peM rV rW (oW n))] []) (an:=qQ n) (co:=[.gc [0,1]]) Tryz.func30 rfl (by kernel_rfl) kK (iO (all_cons (tQ (Dc n)) (all_nil)) (iP)) mixed (fJ _ _ rfl) (by kernel_rfl) (by kernel_rfl) (fun x=>by kernel_rfl)
def Vl (n:Nat):An (bP wV):=.nil
theorem Lm (n:Nat):Pure Tryz.prog 61 Fp wV (jH n) :=
 kU (Γ:=oG _ [(94,mM qR qU (fM n)),(95,mM kD kE (strings_Repeat n))] []) (an:=Vl n) Tryz.func61 rfl (by kernel_rfl) kK (iO (all_cons (gT (wZ n)) (all_cons (gT (Df n)) (all_nil))) (iP)) mixed (fJ _ _ rfl) (fun x=>by kernel_rfl)
def Tf (n:Nat):An (uK.X):=.nil
theorem Fz (n:Nat):Af Tryz.prog 60 Cr uK (qN n) :=
 Ju (Γ:=oG _ [(30,peM eX dG (aO n))] []) (an:=Tf n) (co:=[.gc [0,1,2,3]]) Tryz.func60 rfl (by kernel_rfl) kK (iO (all_cons (tQ (fE n)) (all_nil)) (iP)) mixed (fJ _ _ rfl) (by kernel_rfl) (by kernel_rfl) (fun x=>by kernel_rfl)
def zBb (n:Nat):An (bP yK):=(.mk .nil (.mk .nil (.mk .nil (.mk .nil (.mk (.mk .nil (.mk (.loop ⟨24,[⟨0,false,[.v .str]⟩,⟨5,false,[.ptr 0 0]⟩,⟨7,false,[.clo 60 [(1,0),(2,0),(0,0)]]⟩,⟨11,false,[.v (.int .i64)]⟩,⟨12,false,[.v (.int .i64)]⟩],[.box 78 [.bF 0 0,.own 3],.box 3 [.v (.int .i64)],.box 3 [.v (.int .i64)],.row 5 (.int .u8)]⟩ [.keep [true,false,false,false,false,true,false,true,false,false,false,true,true],.gcA 0,.ownB 0 1 31,.orn 0 0 0 0,.gcA 0] [.keep [true,false,false,false,false,true,false,true,false,false,false,true,true],.gcA 0,.gcA 0] n .nil) .nil []) []) .nil []) []) []) []) [])
theorem Qs (n:Nat):Pure Tryz.prog 36 Iw yK (qO n) :=
 kU (Γ:=oG _ [(61,mM Fp wV (jH n)),(60,peM Cr uK (qN n)),(30,peM eX dG (aO n)),(26,peM mU kC (Builder_String n))] []) (an:=zBb n) Tryz.func36 rfl (by kernel_rfl) kK (iO (all_cons (gT (Lm n)) (all_cons (tQ (Fz n)) (all_cons (tQ (fE n)) (all_cons (tQ (qM n)) (all_nil))))) (iP)) mixed (fJ _ _ rfl) (fun x=>by kernel_rfl)
def zBc (n:Nat):An (yL.X):=(.mk .nil (.mk (.loop ⟨41,[⟨0,false,[.ptr 0 0]⟩,⟨9,false,[.v (.slice .opq)]⟩,⟨10,false,[.v (.int .i64)]⟩,⟨11,false,[.v (.int .i64)]⟩],[.box 78 [.bF 0 0,.own 1],.row 5 (.int .u8)]⟩ [.keep [true,false,false,false,false,false,false,false,false,true,true,true],.gcA 2,.gcA 2] [.keep [true,false,false,false,false,false,false,false,false,true,true,true],.gcA 2,.gcA 2] n .nil) .nil []) [])
theorem Lp (n:Nat):Af Tryz.prog 25 Iy yL (dD n) :=
 Ju (Γ:=oG _ [(30,peM eX dG (aO n)),(36,mM Iw yK (qO n)),(51,mM Cn Cq (strconv_Itoa n))] []) (an:=zBc n) (co:=[.gc [0,1]]) Tryz.func25 rfl (by kernel_rfl) kK (iO (all_cons (tQ (fE n)) (all_cons (gT (Qs n)) (all_cons (gT (Hr n)) (all_nil)))) (iP)) mixed (fJ _ _ rfl) (by kernel_rfl) (by kernel_rfl) (fun x=>by kernel_rfl)
def Tg (n:Nat):An (bP uL):=(.mk .nil (.mk .nil (.mk (.co [.ownB 1 1 31,.orn 1 0 1 0] .nil) (.mk (.mk .nil (.mk (.loop ⟨51,[⟨1,false,[.ptr 0 0]⟩,⟨3,false,[.ptr 1 0]⟩,⟨12,false,[.v (.slice (.int .i64))]⟩,⟨13,false,[.v (.int .i64)]⟩,⟨14,false,[.v (.int .i64)]⟩],[.box 43 [.v .str,.v (.slice gY),.v (.slice (.int .i64)),.v (.int .i64),.v (.int .i64)],.box 78 [.bF 1 0,.own 2],.row 5 (.int .u8)]⟩ [.keep [false,true,false,true,false,false,false,false,false,false,false,false,true,true,true],.gcA 0,.gcA 0] [.keep [false,true,false,true,false,false,false,false,false,false,false,false,true,true,true],.gcA 0,.gcA 0] n .nil) .nil []) []) (.mk .nil (.mk (.mk .nil (.mk (.loop ⟨51,[⟨1,false,[.ptr 0 0]⟩,⟨3,false,[.ptr 1 0]⟩,⟨28,false,[.v (.slice gY)]⟩,⟨29,false,[.v (.int .i64)]⟩,⟨30,false,[.v (.int .i64)]⟩],[.box 43 [.v .str,.v (.slice gY),.v (.slice (.int .i64)),.v (.int .i64),.v (.int .i64)],.box 78 [.bF 1 0,.own 2],.row 5 (.int .u8)]⟩ [.keep [false,true,false,true,false,false,false,false,false,false,false,false,false,false,false,false,false,false,false,false,false,false,false,false,false,false,false,false,true,true,true],.gcA 0,.gcA 0] [.keep [false,true,false,true,false,false,false,false,false,false,false,false,false,false,false,false,false,false,false,false,false,false,false,false,false,false,false,false,true,true,true],.gcA 0,.gcA 0] n .nil) .nil []) []) .nil []) []) []) []) []) [])
theorem Ht (n:Nat):Pure Tryz.prog 15 Ct uL (nJ n) :=
 kU (Γ:=oG _ [(25,peM Iy yL (dD n)),(26,peM mU kC (Builder_String n))] []) (an:=Tg n) Tryz.func15 rfl (by kernel_rfl) kK (iO (all_cons (tQ (Lp n)) (all_cons (tQ (qM n)) (all_nil))) (iP)) mixed (fJ _ _ rfl) (fun x=>by kernel_rfl)
def Vm (n:Nat):An (bP wW):=(.mk .nil (.mk .nil (.mk (.mk .nil (.mk (.loop ⟨20,[⟨0,false,[.v (.slice gY)]⟩,⟨3,false,[.own 0]⟩,⟨4,false,[.v (.int .i64)]⟩],[.row 84 gY]⟩ [.keep [true,false,false,true,true],.gcA 0,.zLd 3 48,.gcA 0] [.keep [true,false,false,true,true],.gcA 0,.gcA 0] n .nil) .nil []) []) .nil []) []) [])
theorem Lr (n:Nat):Pure Tryz.prog 29 Fq wW (sS n) :=
 kU (Γ:=oG _ [] []) (an:=Vm n) Tryz.func29 rfl (by kernel_rfl) kK (iO (all_nil) (iP)) mixed (fJ _ _ rfl) (fun x=>by kernel_rfl)
def zCj (n:Nat):An (bP Cb):=.nil
theorem Ti (n:Nat):Pure Tryz.prog 17 Qr Cb (uD n) :=
 kU (Γ:=oG _ [(29,mM Fq wW (sS n))] []) (an:=zCj n) Tryz.func17 rfl (by kernel_rfl) kK (iO (all_cons (gT (Lr n)) (all_nil)) (iP)) mixed (fJ _ _ rfl) (fun x=>by kernel_rfl)
def Qt (n:Nat):An (bP jK):=.nil
theorem xA (n:Nat) (kH:Int->Option (List UInt8)) (Qu:Pure Tryz.prog 52 kY jK kH):Pure Tryz.prog 52 kY jK (kG n kH) :=
 kU (Γ:=oG _ [(52,mM kY jK (kH))] []) (an:=Qt n) Tryz.func52 rfl (by kernel_rfl) kK (iO (all_cons (gT (Qu)) (all_nil)) (iP)) mixed (fJ _ _ rfl) (fun x=>by kernel_rfl)
theorem Ga (n:Nat):Pure Tryz.prog 52 kY jK (iV n):=Yh (by kernel_rfl) (fun n r h=>xA n r h) n
def Tj (n:Nat):An (bP uM):=.nil
theorem Hu (n:Nat):Pure Tryz.prog 27 Cu uM (nK n) :=
 kU (Γ:=oG _ [(52,mM kY jK (iV n))] []) (an:=Tj n) Tryz.func27 rfl (by kernel_rfl) kK (iO (all_cons (gT (Ga n)) (all_nil)) (iP)) mixed (fJ _ _ rfl) (fun x=>by kernel_rfl)
def Vn (n:Nat):An (bP wX):=.nil
theorem Ls (n:Nat):Pure Tryz.prog 53 Fv wX (oP n) :=
 kU (Γ:=oG _ [] []) (an:=Vn n) Tryz.func53 rfl (by kernel_rfl) kK (iO (all_nil) (iP)) mixed (fJ _ _ rfl) (fun x=>by kernel_rfl)
def zBd (n:Nat):An (bP yM):=(.mk .nil (.mk .nil (.mk .nil (.mk (.mk .nil (.mk (.loop ⟨45,[⟨0,false,[.v .str]⟩,⟨1,false,[.v (.int .i64)]⟩,⟨5,false,[.v .str]⟩,⟨6,false,[.v (.int .i64)]⟩,⟨7,false,[.v (.int .i64)]⟩],[]⟩ [.keep [true,true,false,false,false,true,true,true],.gcA 0,.gcA 0] [.keep [true,true,false,false,false,true,true,true],.gcA 0,.gcA 0] n .nil) .nil []) []) .nil []) []) []) [])
theorem Qv (n:Nat):Pure Tryz.prog 28 Iz yM (mD n) :=
 kU (Γ:=oG _ [(53,mM Fv wX (oP n))] []) (an:=zBd n) Tryz.func28 rfl (by kernel_rfl) kK (iO (all_cons (gT (Ls n)) (all_nil)) (iP)) mixed (fJ _ _ rfl) (fun x=>by kernel_rfl)
def Tm (n:Nat):An (bP uN):=(.mk .nil (.mk .nil (.mk (.mk .nil (.mk (.loop ⟨63,[⟨1,false,[.ptr 0 0]⟩,⟨3,false,[.v .str]⟩,⟨4,false,[.v (.int .i64)]⟩],[.box 50 [.v .str,.v (.slice gY),.v (.slice (.int .i64)),.v (.int .i64),.v (.int .i64)]]⟩ [.keep [false,true,false,true,true],.gcA 0,.gcA 0] [.keep [false,true,false,true,true],.gcA 0,.gcA 0] n .nil) .nil []) []) (.mk .nil (.mk (.mk .nil (.mk (.loop ⟨63,[⟨1,false,[.ptr 0 0]⟩,⟨3,false,[.v .str]⟩,⟨5,false,[.v (.int .i64)]⟩],[.box 50 [.v .str,.v (.slice gY),.v (.slice (.int .i64)),.v (.int .i64),.v (.int .i64)]]⟩ [.keep [false,true,false,true,false,true],.gcA 0,.gcA 0] [.keep [false,true,false,true,false,true],.gcA 0,.gcA 0] n .nil) .nil []) []) .nil []) []) []) []) [])
theorem Hw (n:Nat):Pure Tryz.prog 16 Cv uN (nL n) :=
 kU (Γ:=oG _ [(27,mM Cu uM (nK n)),(28,mM Iz yM (mD n))] []) (an:=Tm n) Tryz.func16 rfl (by kernel_rfl) kK (iO (all_cons (gT (Hu n)) (all_cons (gT (Qv n)) (all_nil))) (iP)) mixed (fJ _ _ rfl) (fun x=>by kernel_rfl)
def Cc (n:Nat):An (bP qV):=(.mk .nil (.mk .nil (.mk (.mk .nil (.mk (.loop ⟨57,[⟨1,false,[.ptr 0 0]⟩,⟨3,false,[.v (.int .i64)]⟩],[.box 43 [.v .str,.v (.slice gY),.v (.slice (.int .i64)),.v (.int .i64),.v (.int .i64)]]⟩ [.keep [false,true,false,true],.gcA 0,.gcA 0] [.keep [false,true,false,true],.gcA 0,.gcA 0] n .nil) .nil []) []) .nil []) []) [])
theorem wY (n:Nat):Pure Tryz.prog 5 mO qV (kJ n) :=
 kU (Γ:=oG _ [(14,mM zAn zAo (shown22 n)),(15,mM Ct uL (nJ n)),(17,mM Qr Cb (uD n)),(16,mM Cv uN (nL n))] []) (an:=Cc n) Tryz.func5 rfl (by kernel_rfl) kK (iO (all_cons (gT (zAp n)) (all_cons (gT (Ht n)) (all_cons (gT (Ti n)) (all_cons (gT (Hw n)) (all_nil))))) (iP)) mixed (fJ _ _ rfl) (fun x=>by kernel_rfl)
end Go.Dec
namespace Go.Dec
theorem Na (x:bP mO) (hx:Om mO x):kJ 2000 x=some true :=
 Fj x fun k hk=>by
  obtain ⟨_,_,⟨_,h⟩,_⟩:=hx
  have:=h k hk
  exact this
end Go.Dec
