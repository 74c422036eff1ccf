/- Part of a proof over this seat: a library of my own, and what it says of this seat. No statement is proved here. -/
import Derived.Test.YtfpipcafiocdoaaGreatDoorProg
import Derived.Test.YtfpipcafiocdoaaGreatDoorPartBN
import Derived.Test.YtfpipcafiocdoaaGreatDoorPartBM
import Derived.Test.YtfpipcafiocdoaaGreatDoorPartBL
import Derived.KernelRfl
namespace Go.Dec
open Go.Proofs
set_option linter.unusedVariables false
def tab : Tab:=[(3,⟨.int .i64,1,8,[.val (.int .i64) 0],some (.int .i64),false⟩),
 (4,⟨.bool,1,1,[.val .bool false],some .bool,false⟩),
 (5,⟨.int .u8,1,1,[.val (.int .u8) 0],some (.int .u8),false⟩),
 (9,⟨.str,1,16,[.val .str []],some .str,false⟩),
 (22,⟨.slice 33,1,24,[.bI],some (.slice (.slice .str)),false⟩),
 (25,⟨.int .i64,1,8,[.val (.int .i64) 0],some (.int .i64),false⟩),
 (32,⟨.slice 5,1,24,[.bI],some (.slice (.int .u8)),false⟩),
 (33,⟨.slice 9,1,24,[.bI],some (.slice .str),false⟩),
 (51,⟨.slice 63,1,24,[.bI],some (.slice wS),false⟩),
 (63,⟨.struct [(0,9),(1,9)],2,32,[.val .str [],.val .str []],some wS,true⟩),
 (87,⟨.func,1,8,[.val .opq Value.nilFunc],some .opq,false⟩)]
theorem sJ : aV Tryz.prog tab:=Ht (by kernel_rfl)
theorem mixed : Tryz.prog.follows .mixedOrders = true:=by kernel_rfl
abbrev Bo : List Ty:=[.int .u8]
abbrev sW : List Ty:=[.bool]
abbrev iC : Sh:=⟨2,[⟨0,false,[.v (.slice (.int .u8))]⟩,⟨1,false,[.clo 31 []]⟩],[]⟩
abbrev dP : Sh:=⟨1,[⟨0,false,[.v (.int .i64)]⟩],[]⟩
abbrev fP : Sh:=⟨2,[⟨0,false,[.v (.slice (.int .u8))]⟩,⟨1,false,[.clo 31 []]⟩],[]⟩
abbrev dB : Sh:=⟨1,[⟨0,false,[.v .bool]⟩],[]⟩
abbrev xH : List Ty:=[.str]
abbrev rQ : List Ty:=[.str]
abbrev yL : List Ty:=[.slice (.slice .str),.slice wS]
abbrev qW : List Ty:=[.bool]
abbrev Hg : List Ty:=[.slice (.slice .str)]
abbrev xI : List Ty:=[.str,.int .i64]
abbrev Hl : List Ty:=[.slice (.slice .str),.slice (.slice .str)]
abbrev xJ : List Ty:=[.bool]
abbrev sZ : List Ty:=[.slice (.slice .str),.slice (.int .u8)]
abbrev nC : List Ty:=[.bool]
def Qa (n : Nat) : An (dJ sW):=.nil
theorem Gl (n : Nat) : Pure Tryz.prog 31 Bo sW (mF n) :=
 oJ (Γ:=pE _ [(28,lI jR jS (strings_IndexByte n))] []) (an:=Qa n) Tryz.func31 rfl (by kernel_rfl) sJ (jK (all_cons (gG (jY n)) (all_nil)) (jL)) mixed (gF _ _ rfl) (fun x => by kernel_rfl)
def lN (n : Nat) : An (dP.X):=(.mk .nil (.mk (.mk .nil (.mk (.loop ⟨19,[⟨0,false,[.v (.slice (.int .u8))]⟩,⟨1,false,[.clo 31 []]⟩,⟨7,false,[.v (.int .i64)]⟩,⟨8,false,[.v (.int .i64)]⟩],[]⟩ [.keep [true,true,false,false,false,false,false,true,true],.gcA 0,.gcA 0] [.keep [true,true,false,false,false,false,false,true,true],.gcA 0,.gcA 0] n .nil) .nil []) []) .nil []) [])
theorem kJ (n : Nat) : Ev Tryz.prog 52 iC dP (bR n) :=
 zI (Γ:=pE _ [(31,lI Bo sW (mF n))] []) (an:=lN n) (co:=[.gc []]) Tryz.func52 rfl (by kernel_rfl) sJ (jK (all_cons (gG (Gl n)) (all_nil)) (jL)) mixed (gF _ _ rfl) (by kernel_rfl) (by kernel_rfl) (fun x => by kernel_rfl)
def kX (n : Nat) : An (dB.X):=.nil
theorem jZ (n : Nat) : Ev Tryz.prog 32 fP dB (bD n) :=
 zI (Γ:=pE _ [(52,peM iC dP (bR n))] []) (an:=kX n) (co:=[.gc []]) Tryz.func32 rfl (by kernel_rfl) sJ (jK (all_cons (Kv (kJ n)) (all_nil)) (jL)) mixed (gF _ _ rfl) (by kernel_rfl) (by kernel_rfl) (fun x => by kernel_rfl)
def Yr (n : Nat) : An (dJ rQ):=.nil
theorem wT (n : Nat) : Pure Tryz.prog 14 xH rQ (gQ n) :=
 oJ (Γ:=pE _ [(32,peM fP dB (bD n)),(33,lI pX pY (strings_ReplaceAll n))] []) (an:=Yr n) Tryz.func14 rfl (by kernel_rfl) sJ (jK (all_cons (Kv (jZ n)) (all_cons (gG (vS n)) (all_nil))) (jL)) mixed (gF _ _ rfl) (fun x => by kernel_rfl)
def Np (n : Nat) : An (dJ qW):=(.mk .nil (.mk (.mk .nil (.mk (.loop ⟨68,[⟨0,false,[.v (.slice (.slice .str))]⟩,⟨1,false,[.v (.slice wS)]⟩,⟨5,false,[.v (.int .i64)]⟩],[]⟩ [.keep [true,true,false,false,false,true],.gcA 0,.gcA 0] [.keep [true,true,false,false,false,true],.gcA 0,.gcA 0] n (.mk .nil (.mk (.mk (.mk (.mk .nil (.mk (.loop ⟨68,[⟨0,false,[.v (.slice (.slice .str))]⟩,⟨1,false,[.v (.slice wS)]⟩,⟨5,false,[.v (.int .i64)]⟩,⟨6,false,[.v (.int .i64)]⟩],[]⟩ [.keep [true,true,false,false,false,true,true],.gcA 0,.gcA 0] [.keep [true,true,false,false,false,true,true],.gcA 0,.gcA 0] n .nil) .nil []) []) .nil []) .nil []) .nil []) [])) .nil []) []) (.mk (.mk .nil (.mk (.loop ⟨68,[⟨0,false,[.v (.slice (.slice .str))]⟩,⟨1,false,[.v (.slice wS)]⟩,⟨7,false,[.v (.int .i64)]⟩],[]⟩ [.keep [true,true,false,false,false,false,false,true],.gcA 0,.gcA 0] [.keep [true,true,false,false,false,false,false,true],.gcA 0,.gcA 0] n .nil) .nil []) []) .nil []) []) [])
theorem Ej (n : Nat) : Pure Tryz.prog 9 yL qW (lD n) :=
 oJ (Γ:=pE _ [] []) (an:=Np n) Tryz.func9 rfl (by kernel_rfl) sJ (jK (all_nil) (jL)) mixed (gF _ _ rfl) (fun x => by kernel_rfl)
def Yt (n : Nat) : An (dJ xI):=(.mk .nil (.mk .nil (.mk (.mk .nil (.mk (.loop ⟨45,[⟨4,false,[.own 0]⟩,⟨10,false,[.v (.slice (.slice .str))]⟩,⟨11,false,[.v (.int .i64)]⟩,⟨12,false,[.v (.int .i64)]⟩],[.row 9 .str]⟩ [.keep [false,false,false,false,true,false,false,false,false,false,true,true,true],.gcA 0,.Og 4 33,.gcA 0] [.keep [false,false,false,false,true,false,false,false,false,false,true,true,true],.gcA 0,.gcA 0] n (.mk .nil (.mk .nil (.mk (.mk (.mk .nil (.mk .nil (.mk .nil (.mk (.mk .nil (.mk (.loop ⟨45,[⟨4,false,[.own 0]⟩,⟨7,false,[.own 1]⟩,⟨10,false,[.v (.slice (.slice .str))]⟩,⟨11,false,[.v (.int .i64)]⟩,⟨12,false,[.v (.int .i64)]⟩,⟨25,false,[.v (.slice .str)]⟩,⟨26,false,[.v (.int .i64)]⟩,⟨27,false,[.v (.int .i64)]⟩],[.row 9 .str,.row 9 .str]⟩ [.keep [false,false,false,false,true,false,false,true,false,false,true,true,true,false,false,false,false,false,false,false,false,false,false,false,false,true,true,true],.gcA 0,.Og 7 33,.gcA 0] [.keep [false,false,false,false,true,false,false,true,false,false,true,true,true,false,false,false,false,false,false,false,false,false,false,false,false,true,true,true],.gcA 0,.gcA 0] n .nil) .nil []) []) .nil []) []) []) []) .nil []) .nil []) []) [])) .nil []) []) .nil []) []) [])
theorem Nq (n : Nat) : Pure Tryz.prog 11 Hg xI (uM n) :=
 oJ (Γ:=pE _ [(14,lI xH rQ (gQ n)),(25,lI Bl sQ (strings_Join n))] []) (an:=Yt n) Tryz.func11 rfl (by kernel_rfl) sJ (jK (all_cons (gG (wT n)) (all_cons (gG (Gi n)) (all_nil))) (jL)) mixed (gF _ _ rfl) (fun x => by kernel_rfl)
def Yu (n : Nat) : An (dJ xJ):=(.mk .nil (.mk .nil (.mk (.mk .nil (.mk (.loop ⟨53,[⟨0,false,[.v (.slice (.slice .str))]⟩,⟨1,false,[.v (.slice (.slice .str))]⟩,⟨5,false,[.v (.int .i64)]⟩],[]⟩ [.keep [true,true,false,false,false,true],.gcA 0,.gcA 0] [.keep [true,true,false,false,false,true],.gcA 0,.gcA 0] n (.mk .nil (.mk (.mk (.mk .nil (.mk .nil (.mk (.loop ⟨53,[⟨0,false,[.v (.slice (.slice .str))]⟩,⟨1,false,[.v (.slice (.slice .str))]⟩,⟨5,false,[.v (.int .i64)]⟩,⟨6,false,[.v (.int .i64)]⟩],[]⟩ [.keep [true,true,false,false,false,true,true],.gcA 0,.gcA 0] [.keep [true,true,false,false,false,true,true],.gcA 0,.gcA 0] n .nil) .nil []) []) []) .nil []) .nil []) [])) .nil []) []) .nil []) []) [])
theorem Nr (n : Nat) : Pure Tryz.prog 13 Hl xJ (pU n) :=
 oJ (Γ:=pE _ [] []) (an:=Yu n) Tryz.func13 rfl (by kernel_rfl) sJ (jK (all_nil) (jL)) mixed (gF _ _ rfl) (fun x => by kernel_rfl)
def El (n : Nat) : An (dJ nC):=(.mk .nil (.mk .nil (.mk .nil (.mk .nil (.mk .nil (.mk .nil (.mk (.mk .nil (.mk (.loop ⟨97,[⟨0,false,[.v (.slice (.slice .str))]⟩,⟨1,false,[.v (.slice (.int .u8))]⟩,⟨7,false,[.v .str]⟩,⟨8,false,[.v (.int .i64)]⟩,⟨9,false,[.v (.int .i64)]⟩],[]⟩ [.keep [true,true,false,false,false,false,false,true,true,true],.gcA 0,.gcA 0] [.keep [true,true,false,false,false,false,false,true,true,true],.gcA 0,.gcA 0] n (.mk .nil (.mk (.mk (.mk .nil (.mk .nil (.mk (.loop ⟨97,[⟨0,false,[.v (.slice (.slice .str))]⟩,⟨1,false,[.v (.slice (.int .u8))]⟩,⟨7,false,[.v .str]⟩,⟨8,false,[.v (.int .i64)]⟩,⟨9,false,[.v (.int .i64)]⟩,⟨10,false,[.v (.int .i64)]⟩],[]⟩ [.keep [true,true,false,false,false,false,false,true,true,true,true],.gcA 0,.gcA 0] [.keep [true,true,false,false,false,false,false,true,true,true,true],.gcA 0,.gcA 0] n .nil) .nil []) []) []) .nil []) .nil []) [])) .nil []) []) .nil []) []) []) []) []) []) [])
theorem oM (n : Nat) : Pure Tryz.prog 4 sZ nC (nZ n) :=
 oJ (Γ:=pE _ [(9,lI yL qW (lD n)),(10,lI Yf Yg (shown21 n)),(11,lI Hg xI (uM n)),(14,lI xH rQ (gQ n)),(12,lI Bn sU (eD n)),(13,lI Hl xJ (pU n))] []) (an:=El n) Tryz.func4 rfl (by kernel_rfl) sJ (jK (all_cons (gG (Ej n)) (all_cons (gG (Yh n)) (all_cons (gG (Nq n)) (all_cons (gG (wT n)) (all_cons (gG (Gj n)) (all_cons (gG (Nr n)) (all_nil))))))) (jL)) mixed (gF _ _ rfl) (fun x => by kernel_rfl)
end Go.Dec
