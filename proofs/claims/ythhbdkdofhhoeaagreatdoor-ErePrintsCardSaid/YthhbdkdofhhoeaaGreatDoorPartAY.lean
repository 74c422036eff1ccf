/- Part of a proof over this seat: a library of my own, and what it says of this seat. No statement is proved here. -/
import Derived.Test.YthhbdkdofhhoeaaGreatDoorPartAX
namespace Go.Dec
open Go.Proofs
set_option linter.unusedVariables false
end Go.Dec
namespace Go.Dec
open Go.Proofs
set_option linter.unusedVariables false
def zLf (n:Nat):An (bF zN) := .nil
theorem Ke(n:Nat):Pure Tryz.prog 66 Hz zN (jQ n):=
 aX (Γ:=bK _ [] []) (an:=zLf n) Tryz.func66 rfl (by kernel_rfl) bW (aS (all_nil) (aT)) mixed (aO _ _ rfl) (λx=>by kernel_rfl)
def zLg (n:Nat):An (bF Ia) := .nil
theorem zBm(n:Nat):Pure Tryz.prog 170 Uk Ia (dJ n):=
 aX (Γ:=bK _ [] []) (an:=zLg n) Tryz.func170 rfl (by kernel_rfl) bW (aS (all_nil) (aT)) mixed (aO _ _ rfl) (λx=>by kernel_rfl)
def zRv (n:Nat):An (bF Ov) := .nil
theorem zHr(n:Nat):Pure Tryz.prog 140 zAy Ov (tQ n):=
 aX (Γ:=bK _ [(170,bB Uk Ia (dJ n))] []) (an:=zRv n) Tryz.func140 rfl (by kernel_rfl) bW (aS (all_cons (aL (zBm n)) (all_nil)) (aT)) mixed (aO _ _ rfl) (λx=>by kernel_rfl)
def zBn (n:Nat):An (bF Ae):=(.mk .nil (.mk (.mk .nil (.mk (.loop ⟨19,[⟨0,false,[.v (.slice (.int .i64))]⟩,⟨1,false,[.v (.int .i64)]⟩,⟨7,false,[.v (.int .i64)]⟩,⟨8,false,[.v (.int .i64)]⟩],[]⟩ [.keep (kbm 9 387),.gcA 0,.gcA 0] [.keep (kbm 9 387),.gcA 0,.gcA 0] n .nil) .nil []) []) .nil []) [])
theorem Un(n:Nat):Pure Tryz.prog 189 Ll Ae (Ci n):=
 aX (Γ:=bK _ [] []) (an:=zBn n) Tryz.func189 rfl (by kernel_rfl) bW (aS (all_nil) (aT)) mixed (aO _ _ rfl) (λx=>by kernel_rfl)
def Uo (n:Nat):An (bF vS) := .nil
theorem Pg(n:Nat):Pure Tryz.prog 171 Fa vS (rA n):=
 aX (Γ:=bK _ [(189,bB Ll Ae (Ci n))] []) (an:=Uo n) Tryz.func171 rfl (by kernel_rfl) bW (aS (all_cons (aL (Un n)) (all_nil)) (aT)) mixed (aO _ _ rfl) (λx=>by kernel_rfl)
def yIr (n:Nat):An (bF zHl) := .nil
theorem zWu(n:Nat):Pure Tryz.prog 141 zWr zHl (mG n):=
 aX (Γ:=bK _ [(171,bB Fa vS (rA n))] []) (an:=yIr n) Tryz.func141 rfl (by kernel_rfl) bW (aS (all_cons (aL (Pg n)) (all_nil)) (aT)) mixed (aO _ _ rfl) (λx=>by kernel_rfl)
def zWv (n:Nat):An (bF Si):=(.mk .nil (.mk .nil (.mk (.mk .nil (.mk (.loop ⟨80,[⟨0,false,[.v (.slice aD)]⟩,⟨3,false,[.own 0]⟩,⟨8,false,[.v (.slice aD)]⟩,⟨9,false,[.v (.int .i64)]⟩,⟨10,false,[.v (.int .i64)]⟩],[.row 3 (.int .i64)]⟩ [.keep (kbm 69 1801),.gcA 0,.Kv 3 105,.gcA 0] [.keep (kbm 69 1801),.gcA 0,.gcA 0] n .nil) .nil []) []) .nil []) []) [])
theorem zLh(n:Nat):Pure Tryz.prog 99 zFp Si (zC n):=
 aX (Γ:=bK _ [(66,bB Hz zN (jQ n)),(140,bB zAy Ov (tQ n)),(141,bB zWr zHl (mG n))] []) (an:=zWv n) Tryz.func99 rfl (by kernel_rfl) bW (aS (all_cons (aL (Ke n)) (all_cons (aL (zHr n)) (all_cons (aL (zWu n)) (all_nil)))) (aT)) mixed (aO _ _ rfl) (λx=>by kernel_rfl)
def zLi (n:Nat):An (qF.X) := .nil
theorem Ph(n:Nat)(eZ:(Int × List (Int × List (Int) × Int × Int × Int × Int × Int × Unit) × Int × Bool × List (Bool) × Bool × Unit)->Option (List (Int × List (Int) × Int × Int × Int × Int × Int × Unit) × Int × Bool × List (Bool) × Bool × Unit))(zLj:iW Tryz.prog 142 uR qF eZ):iW Tryz.prog 142 uR qF (eU n eZ):=
 iX (Γ:=bK _ [(142,peM uR qF (eZ))] []) (an:=zLi n) (co:=[.gc [0,1,2,3,4,5]]) Tryz.func142 rfl (by kernel_rfl) bW (aS (all_cons (gP (zLj)) (all_nil)) (aT)) mixed (aO _ _ rfl) (by kernel_rfl) (by kernel_rfl) (λx=>by kernel_rfl)
theorem Yy(n:Nat):iW Tryz.prog 142 uR qF (oP n):=zQr (by kernel_rfl) (λn r h=>Ph n r h) n
def zRw (n:Nat):An (bF Ow) := .nil
theorem zHs(n:Nat):Pure Tryz.prog 100 zAz Ow (Iz n):=
 aX (Γ:=bK _ [(142,peM uR qF (oP n))] []) (an:=zRw n) Tryz.func100 rfl (by kernel_rfl) bW (aS (all_cons (gP (Yy n)) (all_nil)) (aT)) mixed (aO _ _ rfl) (λx=>by kernel_rfl)
def yIs (n:Nat):An (bF Wv) := .nil
theorem zBo(n:Nat):Pure Tryz.prog 61 zHm Wv (Dl n):=
 aX (Γ:=bK _ [(99,bB zFp Si (zC n)),(100,bB zAz Ow (Iz n))] []) (an:=yIs n) Tryz.func61 rfl (by kernel_rfl) bW (aS (all_cons (aL (zLh n)) (all_cons (aL (zHs n)) (all_nil))) (aT)) mixed (aO _ _ rfl) (λx=>by kernel_rfl)
end Go.Dec
namespace Go.Dec
open Go.Proofs
set_option linter.unusedVariables false
def yNd (n:Nat):An (bF zEe) := .nil
theorem zFv(n:Nat):Pure Tryz.prog 24 zOj zEe (Er n):=
 aX (Γ:=bK _ [(61,bB zHm Wv (Dl n))] []) (an:=yNd n) Tryz.func24 rfl (by kernel_rfl) bW (aS (all_cons (aL (zBo n)) (all_nil)) (aT)) mixed (aO _ _ rfl) (λx=>by kernel_rfl)
def yFl (n:Nat):An (bF zBa) := .nil
theorem zRx(n:Nat):Pure Tryz.prog 71 zQt zBa (Oo n):=
 aX (Γ:=bK _ [(73,bB nY nZ (strings_IndexByte n))] []) (an:=yFl n) Tryz.func71 rfl (by kernel_rfl) bW (aS (all_cons (aL (nL n)) (all_nil)) (aT)) mixed (aO _ _ rfl) (λx=>by kernel_rfl)
def yIt (n:Nat):An (bF zHn) := .nil
theorem zWw(n:Nat):Pure Tryz.prog 72 zWs zHn (wT n):=
 aX (Γ:=bK _ [] []) (an:=yIt n) Tryz.func72 rfl (by kernel_rfl) bW (aS (all_nil) (aT)) mixed (aO _ _ rfl) (λx=>by kernel_rfl)
def yFm (n:Nat):An (bF zBb):=(.mk .nil (.mk (.mk .nil (.mk (.loop ⟨47,[⟨0,false,[.v .str]⟩,⟨2,false,[.own 0]⟩,⟨6,false,[.v (.int .i64)]⟩,⟨7,false,[.v (.int .i64)]⟩],[.row 9 .str]⟩ [.keep (kbm 25 197),.gcA 0,.Kv 2 90,.gcA 0] [.keep (kbm 25 197),.gcA 0,.gcA 0] n .nil) .nil []) []) .nil []) [])
theorem zRy(n:Nat):Pure Tryz.prog 74 zQu zBb (Oq n):=
 aX (Γ:=bK _ [] []) (an:=yFm n) Tryz.func74 rfl (by kernel_rfl) bW (aS (all_nil) (aT)) mixed (aO _ _ rfl) (λx=>by kernel_rfl)
def yFn (n:Nat):An (bF zBc):=(.mk .nil (.mk .nil (.mk .nil (.mk .nil (.mk .nil (.mk (.join ⟨97,[⟨1,false,[.ptr 0 0]⟩,⟨3,false,[.v .str]⟩,⟨4,false,[.v .str]⟩],[.box 25 [.v (.arr 4 (.int .u64))]]⟩ [.keep (kbm 84 26),.gcA 0] .nil) (.mk .nil (.mk (.mk .nil (.mk (.loop ⟨97,[⟨1,false,[.ptr 0 0]⟩,⟨4,false,[.v .str]⟩,⟨5,false,[.own 1]⟩,⟨33,false,[.v (.slice (.int .u8))]⟩,⟨34,false,[.v (.int .i64)]⟩,⟨35,false,[.v (.int .i64)]⟩],[.box 25 [.v (.arr 4 (.int .u64))],.row 5 (.int .u8)]⟩ [.keep (kbm 84 60129542194),.gcA 0,.Kv 5 96,.gcA 0] [.keep (kbm 84 60129542194),.gcA 0,.gcA 0] n .nil) .nil []) []) (.mk (.mk .nil (.mk (.loop ⟨97,[⟨1,false,[.ptr 0 0]⟩,⟨4,false,[.v .str]⟩,⟨49,false,[.v (.slice .str)]⟩,⟨50,false,[.v (.int .i64)]⟩,⟨51,false,[.v (.int .i64)]⟩],[.box 25 [.v (.arr 4 (.int .u64))]]⟩ [.keep (kbm 84 3940649673949202),.gcA 0,.gcA 0] [.keep (kbm 84 3940649673949202),.gcA 0,.gcA 0] n .nil) .nil []) []) (.mk (.mk .nil (.mk (.loop ⟨97,[⟨1,false,[.ptr 0 0]⟩,⟨4,false,[.v .str]⟩,⟨71,false,[.own 1]⟩,⟨72,false,[.v (.int .i64)]⟩,⟨73,false,[.v (.int .i64)]⟩],[.box 25 [.v (.arr 4 (.int .u64))],.row 9 .str]⟩ [.keep (kbm 84 16528282690043758247954),.gcA 0,.gcA 0] [.keep (kbm 84 16528282690043758247954),.gcA 0,.gcA 0] n .nil) .nil []) []) .nil []) []) []) []) []) []) []) []) []) [])
theorem zRz(n:Nat):Pure Tryz.prog 30 zQv zBc (Hr n):=
 aX (Γ:=bK _ [(68,bB Mv Mw (sF n)),(71,bB zQt zBa (Oo n)),(72,bB zWs zHn (wT n)),(73,bB nY nZ (strings_IndexByte n)),(74,bB zQu zBb (Oq n))] []) (an:=yFn n) Tryz.func30 rfl (by kernel_rfl) bW (aS (all_cons (aL (Hq n)) (all_cons (aL (zRx n)) (all_cons (aL (zWw n)) (all_cons (aL (nL n)) (all_cons (aL (zRy n)) (all_nil)))))) (aT)) mixed (aO _ _ rfl) (λx=>by kernel_rfl)
def yIu (n:Nat):An (bF zHo):=(.mk .nil (.mk .nil (.mk .nil (.mk (.mk .nil (.mk (.loop ⟨105,[⟨3,false,[.own 0]⟩,⟨14,false,[.v (.slice aD)]⟩,⟨15,false,[.v (.int .i64)]⟩,⟨16,false,[.v (.int .i64)]⟩],[.row 9 .str]⟩ [.keep (kbm 17 114696),.gcA 0,.Kv 3 90,.gcA 0] [.keep (kbm 17 114696),.gcA 0,.gcA 0] n (.mk .nil (.mk .nil (.mk (.mk (.mk .nil (.mk .nil (.mk .nil (.mk .nil (.mk (.mk .nil (.mk (.mk .nil (.mk .nil (.mk .nil (.mk (.mk .nil (.mk (.mk .nil (.mk (.loop ⟨105,[⟨3,false,[.own 0]⟩,⟨6,false,[.v (.int .i64)]⟩,⟨8,false,[.v .str]⟩,⟨14,false,[.v (.slice aD)]⟩,⟨15,false,[.v (.int .i64)]⟩,⟨16,false,[.v (.int .i64)]⟩,⟨38,false,[.v (.slice (.int .u8))]⟩,⟨39,false,[.v (.int .i64)]⟩,⟨40,false,[.v (.int .i64)]⟩],[.row 9 .str]⟩ [.keep (kbm 41 1924145463624),.gcA 0,.gcA 0] [.keep (kbm 41 1924145463624),.gcA 0,.gcA 0] n .nil) .nil []) []) .nil []) []) .nil []) []) []) []) .nil []) []) .nil []) []) []) []) []) .nil []) .nil []) []) [])) .nil []) []) .nil []) []) []) [])
theorem zWx(n:Nat):Pure Tryz.prog 27 zWt zHo (Np n):=
 aX (Γ:=bK _ [(24,bB zOj zEe (Er n)),(66,bB Hz zN (jQ n)),(67,bB Yh Kw (strings_Join n)),(68,bB Mv Mw (sF n)),(69,bB Gp Gq (lG n)),(63,bB Bp Bq (strconv_Itoa n))] []) (an:=yIu n) Tryz.func27 rfl (by kernel_rfl) bW (aS (all_cons (aL (zFv n)) (all_cons (aL (Ke n)) (all_cons (aL (zEn n)) (all_cons (aL (Hq n)) (all_cons (aL (Qk n)) (all_cons (aL (Aa n)) (all_nil))))))) (aT)) mixed (aO _ _ rfl) (λx=>by kernel_rfl)
def yAj (n:Nat):An (bF Ww) := .nil
theorem zOl(n:Nat):Pure Tryz.prog 40 zKz Ww (zAp n):=
 aX (Γ:=bK _ [(61,bB zHm Wv (Dl n))] []) (an:=yAj n) Tryz.func40 rfl (by kernel_rfl) bW (aS (all_cons (aL (zBo n)) (all_nil)) (aT)) mixed (aO _ _ rfl) (λx=>by kernel_rfl)
end Go.Dec
