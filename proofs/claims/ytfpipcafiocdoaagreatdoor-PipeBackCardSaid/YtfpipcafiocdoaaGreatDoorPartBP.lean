/- Part of a proof over this seat: a library of my own, and what it says of this seat. No statement is proved here. -/
import Derived.Test.YtfpipcafiocdoaaGreatDoorProg
import Derived.Test.YtfpipcafiocdoaaGreatDoorPartBN
import Derived.Test.YtfpipcafiocdoaaGreatDoorPartBM
import Derived.Test.YtfpipcafiocdoaaGreatDoorPartBL
import Derived.KernelRfl
namespace Go.Dec
open Go.Proofs
set_option linter.unusedVariables false
def tab : Tab:=[(3,⟨.int .i64,1,8,[.val (.int .i64) 0],some (.int .i64),false⟩),
 (4,⟨.bool,1,1,[.val .bool false],some .bool,false⟩),
 (5,⟨.int .u8,1,1,[.val (.int .u8) 0],some (.int .u8),false⟩),
 (9,⟨.str,1,16,[.val .str []],some .str,false⟩),
 (22,⟨.slice 33,1,24,[.bI],some (.slice (.slice .str)),false⟩),
 (25,⟨.int .i64,1,8,[.val (.int .i64) 0],some (.int .i64),false⟩),
 (32,⟨.slice 5,1,24,[.bI],some (.slice (.int .u8)),false⟩),
 (33,⟨.slice 9,1,24,[.bI],some (.slice .str),false⟩),
 (51,⟨.slice 63,1,24,[.bI],some (.slice wL),false⟩),
 (63,⟨.struct [(0,9),(1,9)],2,32,[.val .str [],.val .str []],some wL,true⟩),
 (87,⟨.func,1,8,[.val .opq Value.nilFunc],some .opq,false⟩)]
theorem rZ : aT Tryz.prog tab:=Gl (by kernel_rfl)
theorem mixed : Tryz.prog.follows .mixedOrders = true:=by kernel_rfl
abbrev Ar : List Ty:=[.int .u8]
abbrev sN : List Ty:=[.bool]
abbrev gP : Sh:=⟨2,[⟨0,false,[.v (.slice (.int .u8))]⟩,⟨1,false,[.clo 31 []]⟩],[]⟩
abbrev dJ : Sh:=⟨1,[⟨0,false,[.v (.int .i64)]⟩],[]⟩
abbrev fG : Sh:=⟨2,[⟨0,false,[.v (.slice (.int .u8))]⟩,⟨1,false,[.clo 31 []]⟩],[]⟩
abbrev cZ : Sh:=⟨1,[⟨0,false,[.v .bool]⟩],[]⟩
abbrev Gd : List Ty:=[.str]
abbrev wX : List Ty:=[.str]
abbrev yB : List Ty:=[.slice (.slice .str),.slice wL]
abbrev qP : List Ty:=[.bool]
abbrev Gf : List Ty:=[.slice (.slice .str)]
abbrev wY : List Ty:=[.str,.int .i64]
abbrev Gg : List Ty:=[.slice (.slice .str),.slice (.slice .str)]
abbrev wZ : List Ty:=[.bool]
abbrev wM : List Ty:=[.slice (.slice .str)]
abbrev pJ : List Ty:=[.bool]
def Ol (n : Nat) : An (dF sN):=.nil
theorem Ew (n : Nat) : Pure Tryz.prog 31 Ar sN (lX n) :=
 nX (Γ:=oL _ [(28,lS jM jN (strings_IndexByte n))] []) (an:=Ol n) Tryz.func31 rfl (by kernel_rfl) rZ (jE (all_cons (gU (jT n)) (all_nil)) (jF)) mixed (fQ _ _ rfl) (fun x => by kernel_rfl)
def lG (n : Nat) : An (dJ.X):=(.mk .nil (.mk (.mk .nil (.mk (.loop ⟨19,[⟨0,false,[.v (.slice (.int .u8))]⟩,⟨1,false,[.clo 31 []]⟩,⟨7,false,[.v (.int .i64)]⟩,⟨8,false,[.v (.int .i64)]⟩],[]⟩ [.keep [true,true,false,false,false,false,false,true,true],.gcA 0,.gcA 0] [.keep [true,true,false,false,false,false,false,true,true],.gcA 0,.gcA 0] n .nil) .nil []) []) .nil []) [])
theorem kF (n : Nat) : Ec Tryz.prog 52 gP dJ (bP n) :=
 yZ (Γ:=oL _ [(31,lS Ar sN (lX n))] []) (an:=lG n) (co:=[.gc []]) Tryz.func52 rfl (by kernel_rfl) rZ (jE (all_cons (gU (Ew n)) (all_nil)) (jF)) mixed (fQ _ _ rfl) (by kernel_rfl) (by kernel_rfl) (fun x => by kernel_rfl)
def kS (n : Nat) : An (cZ.X):=.nil
theorem jU (n : Nat) : Ec Tryz.prog 32 fG cZ (bD n) :=
 yZ (Γ:=oL _ [(52,peM gP dJ (bP n))] []) (an:=kS n) (co:=[.gc []]) Tryz.func32 rfl (by kernel_rfl) rZ (jE (all_cons (Jr (kF n)) (all_nil)) (jF)) mixed (fQ _ _ rfl) (by kernel_rfl) (by kernel_rfl) (fun x => by kernel_rfl)
def Wm (n : Nat) : An (dF wX):=.nil
theorem Mi (n : Nat) : Pure Tryz.prog 14 Gd wX (pE n) :=
 nX (Γ:=oL _ [(32,peM fG cZ (bD n)),(33,lS pK pO (strings_ReplaceAll n))] []) (an:=Wm n) Tryz.func14 rfl (by kernel_rfl) rZ (jE (all_cons (Jr (jU n)) (all_cons (gU (vL n)) (all_nil))) (jF)) mixed (fQ _ _ rfl) (fun x => by kernel_rfl)
def Mj (n : Nat) : An (dF qP):=(.mk .nil (.mk (.mk .nil (.mk (.loop ⟨68,[⟨0,false,[.v (.slice (.slice .str))]⟩,⟨1,false,[.v (.slice wL)]⟩,⟨5,false,[.v (.int .i64)]⟩],[]⟩ [.keep [true,true,false,false,false,true],.gcA 0,.gcA 0] [.keep [true,true,false,false,false,true],.gcA 0,.gcA 0] n (.mk .nil (.mk (.mk (.mk (.mk .nil (.mk (.loop ⟨68,[⟨0,false,[.v (.slice (.slice .str))]⟩,⟨1,false,[.v (.slice wL)]⟩,⟨5,false,[.v (.int .i64)]⟩,⟨6,false,[.v (.int .i64)]⟩],[]⟩ [.keep [true,true,false,false,false,true,true],.gcA 0,.gcA 0] [.keep [true,true,false,false,false,true,true],.gcA 0,.gcA 0] n .nil) .nil []) []) .nil []) .nil []) .nil []) [])) .nil []) []) (.mk (.mk .nil (.mk (.loop ⟨68,[⟨0,false,[.v (.slice (.slice .str))]⟩,⟨1,false,[.v (.slice wL)]⟩,⟨7,false,[.v (.int .i64)]⟩],[]⟩ [.keep [true,true,false,false,false,false,false,true],.gcA 0,.gcA 0] [.keep [true,true,false,false,false,false,false,true],.gcA 0,.gcA 0] n .nil) .nil []) []) .nil []) []) [])
theorem Dt (n : Nat) : Pure Tryz.prog 9 yB qP (kW n) :=
 nX (Γ:=oL _ [] []) (an:=Mj n) Tryz.func9 rfl (by kernel_rfl) rZ (jE (all_nil) (jF)) mixed (fQ _ _ rfl) (fun x => by kernel_rfl)
def Wn (n : Nat) : An (dF wY):=(.mk .nil (.mk .nil (.mk (.mk .nil (.mk (.loop ⟨45,[⟨4,false,[.own 0]⟩,⟨10,false,[.v (.slice (.slice .str))]⟩,⟨11,false,[.v (.int .i64)]⟩,⟨12,false,[.v (.int .i64)]⟩],[.row 9 .str]⟩ [.keep [false,false,false,false,true,false,false,false,false,false,true,true,true],.gcA 0,.Nf 4 33,.gcA 0] [.keep [false,false,false,false,true,false,false,false,false,false,true,true,true],.gcA 0,.gcA 0] n (.mk .nil (.mk .nil (.mk (.mk (.mk .nil (.mk .nil (.mk .nil (.mk (.mk .nil (.mk (.loop ⟨45,[⟨4,false,[.own 0]⟩,⟨7,false,[.own 1]⟩,⟨10,false,[.v (.slice (.slice .str))]⟩,⟨11,false,[.v (.int .i64)]⟩,⟨12,false,[.v (.int .i64)]⟩,⟨25,false,[.v (.slice .str)]⟩,⟨26,false,[.v (.int .i64)]⟩,⟨27,false,[.v (.int .i64)]⟩],[.row 9 .str,.row 9 .str]⟩ [.keep [false,false,false,false,true,false,false,true,false,false,true,true,true,false,false,false,false,false,false,false,false,false,false,false,false,true,true,true],.gcA 0,.Nf 7 33,.gcA 0] [.keep [false,false,false,false,true,false,false,true,false,false,true,true,true,false,false,false,false,false,false,false,false,false,false,false,false,true,true,true],.gcA 0,.gcA 0] n .nil) .nil []) []) .nil []) []) []) []) .nil []) .nil []) []) [])) .nil []) []) .nil []) []) [])
theorem Mk (n : Nat) : Pure Tryz.prog 11 Gf wY (uE n) :=
 nX (Γ:=oL _ [(14,lS Gd wX (pE n)),(25,lS Ap sJ (strings_Join n))] []) (an:=Wn n) Tryz.func11 rfl (by kernel_rfl) rZ (jE (all_cons (gU (Mi n)) (all_cons (gU (Eu n)) (all_nil))) (jF)) mixed (fQ _ _ rfl) (fun x => by kernel_rfl)
def Wo (n : Nat) : An (dF wZ):=(.mk .nil (.mk .nil (.mk (.mk .nil (.mk (.loop ⟨53,[⟨0,false,[.v (.slice (.slice .str))]⟩,⟨1,false,[.v (.slice (.slice .str))]⟩,⟨5,false,[.v (.int .i64)]⟩],[]⟩ [.keep [true,true,false,false,false,true],.gcA 0,.gcA 0] [.keep [true,true,false,false,false,true],.gcA 0,.gcA 0] n (.mk .nil (.mk (.mk (.mk .nil (.mk .nil (.mk (.loop ⟨53,[⟨0,false,[.v (.slice (.slice .str))]⟩,⟨1,false,[.v (.slice (.slice .str))]⟩,⟨5,false,[.v (.int .i64)]⟩,⟨6,false,[.v (.int .i64)]⟩],[]⟩ [.keep [true,true,false,false,false,true,true],.gcA 0,.gcA 0] [.keep [true,true,false,false,false,true,true],.gcA 0,.gcA 0] n .nil) .nil []) []) []) .nil []) .nil []) [])) .nil []) []) .nil []) []) [])
theorem Ml (n : Nat) : Pure Tryz.prog 13 Gg wZ (pF n) :=
 nX (Γ:=oL _ [] []) (an:=Wo n) Tryz.func13 rfl (by kernel_rfl) rZ (jE (all_nil) (jF)) mixed (fQ _ _ rfl) (fun x => by kernel_rfl)
def Iw (n : Nat) : An (dF pJ):=.nil
theorem pR (n : Nat) : Pure Tryz.prog 3 wM pJ (qO n) :=
 nX (Γ:=oL _ [(9,lS yB qP (kW n)),(10,lS Vw Vx (shown21 n)),(11,lS Gf wY (uE n)),(12,lS Aq sM (iT n)),(13,lS Gg wZ (pF n))] []) (an:=Iw n) Tryz.func3 rfl (by kernel_rfl) rZ (jE (all_cons (gU (Dt n)) (all_cons (gU (Vy n)) (all_cons (gU (Mk n)) (all_cons (gU (Ev n)) (all_cons (gU (Ml n)) (all_nil)))))) (jF)) mixed (fQ _ _ rfl) (fun x => by kernel_rfl)
end Go.Dec
