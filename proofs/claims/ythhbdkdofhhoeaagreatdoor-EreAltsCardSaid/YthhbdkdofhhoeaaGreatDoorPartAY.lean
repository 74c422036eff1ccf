/- Part of a proof over this seat: a library of my own, and what it says of this seat. No statement is proved here. -/
import Derived.Test.YthhbdkdofhhoeaaGreatDoorPartAX
namespace Go.Dec
open Go.Proofs
set_option linter.unusedVariables false
end Go.Dec
namespace Go.Dec
open Go.Proofs
set_option linter.unusedVariables false
def Za (n:Nat):An (cO uV) := .nil
theorem Bl(n:Nat):Pure Tryz.prog 66 zU uV (iE n):=
 dH (Γ:=dD _ [] []) (an:=Za n) Tryz.func66 rfl (by kernel_rfl) eT (aZ (all_nil) (bA)) mixed (aT _ _ rfl) (λx=>by kernel_rfl)
def Zb (n:Nat):An (cO zV) := .nil
theorem Qb(n:Nat):Pure Tryz.prog 170 Jj zV (bS n):=
 dH (Γ:=dD _ [] []) (an:=Zb n) Tryz.func170 rfl (by kernel_rfl) eT (aZ (all_nil) (bA)) mixed (aT _ _ rfl) (λx=>by kernel_rfl)
def zEi (n:Nat):An (cO Eu) := .nil
theorem Vx(n:Nat):Pure Tryz.prog 140 Pq Eu (pR n):=
 dH (Γ:=dD _ [(170,bZ Jj zV (bS n))] []) (an:=zEi n) Tryz.func140 rfl (by kernel_rfl) eT (aZ (all_cons (aU (Qb n)) (all_nil)) (bA)) mixed (aT _ _ rfl) (λx=>by kernel_rfl)
def Qc (n:Nat):An (cO vL):=(.mk .nil (.mk (.mk .nil (.mk (.loop ⟨19,[⟨0,false,[.v (.slice (.int .i64))]⟩,⟨1,false,[.v (.int .i64)]⟩,⟨7,false,[.v (.int .i64)]⟩,⟨8,false,[.v (.int .i64)]⟩],[]⟩ [.keep (kbm 9 387),.gcA 0,.gcA 0] [.keep (kbm 9 387),.gcA 0,.gcA 0] n .nil) .nil []) []) .nil []) [])
theorem Jk(n:Nat):Pure Tryz.prog 189 Ch vL (wQ n):=
 dH (Γ:=dD _ [] []) (an:=Qc n) Tryz.func189 rfl (by kernel_rfl) eT (aZ (all_nil) (bA)) mixed (aT _ _ rfl) (λx=>by kernel_rfl)
def Jl (n:Nat):An (cO qY) := .nil
theorem Ew(n:Nat):Pure Tryz.prog 171 yK qY (nS n):=
 dH (Γ:=dD _ [(189,bZ Ch vL (wQ n))] []) (an:=Jl n) Tryz.func171 rfl (by kernel_rfl) eT (aZ (all_cons (aU (Jk n)) (all_nil)) (bA)) mixed (aT _ _ rfl) (λx=>by kernel_rfl)
def zRf (n:Nat):An (cO Vr) := .nil
theorem zHz(n:Nat):Pure Tryz.prog 141 zHx Vr (jV n):=
 dH (Γ:=dD _ [(171,bZ yK qY (nS n))] []) (an:=zRf n) Tryz.func141 rfl (by kernel_rfl) eT (aZ (all_cons (aU (Ew n)) (all_nil)) (bA)) mixed (aT _ _ rfl) (λx=>by kernel_rfl)
def zIa (n:Nat):An (cO Hu):=(.mk .nil (.mk .nil (.mk (.mk .nil (.mk (.loop ⟨80,[⟨0,false,[.v (.slice aC)]⟩,⟨3,false,[.own 0]⟩,⟨8,false,[.v (.slice aC)]⟩,⟨9,false,[.v (.int .i64)]⟩,⟨10,false,[.v (.int .i64)]⟩],[.row 3 (.int .i64)]⟩ [.keep (kbm 69 1801),.gcA 0,.Od 3 105,.gcA 0] [.keep (kbm 69 1801),.gcA 0,.gcA 0] n .nil) .nil []) []) .nil []) []) [])
theorem Zc(n:Nat):Pure Tryz.prog 99 Ub Hu (uM n):=
 dH (Γ:=dD _ [(66,bZ zU uV (iE n)),(140,bZ Pq Eu (pR n)),(141,bZ zHx Vr (jV n))] []) (an:=zIa n) Tryz.func99 rfl (by kernel_rfl) eT (aZ (all_cons (aU (Bl n)) (all_cons (aU (Vx n)) (all_cons (aU (zHz n)) (all_nil)))) (bA)) mixed (aT _ _ rfl) (λx=>by kernel_rfl)
def Zd (n:Nat):An (nA.X) := .nil
theorem Ey(n:Nat)(dL:(Int × List (Int × List (Int) × Int × Int × Int × Int × Int × Unit) × Int × Bool × List (Bool) × Bool × Unit)->Option (List (Int × List (Int) × Int × Int × Int × Int × Int × Unit) × Int × Bool × List (Bool) × Bool × Unit))(Ze:gB Tryz.prog 142 qF nA dL):gB Tryz.prog 142 qF nA (dF n dL):=
 gD (Γ:=dD _ [(142,peM qF nA (dL))] []) (an:=Zd n) (co:=[.gc [0,1,2,3,4,5]]) Tryz.func142 rfl (by kernel_rfl) eT (aZ (all_cons (eP (Ze)) (all_nil)) (bA)) mixed (aT _ _ rfl) (by kernel_rfl) (by kernel_rfl) (λx=>by kernel_rfl)
theorem Nc(n:Nat):gB Tryz.prog 142 qF nA (lY n):=zDd (by kernel_rfl) (λn r h=>Ey n r h) n
def zEj (n:Nat):An (cO Ev) := .nil
theorem Vy(n:Nat):Pure Tryz.prog 100 Pv Ev (Ak n):=
 dH (Γ:=dD _ [(142,peM qF nA (lY n))] []) (an:=zEj n) Tryz.func100 rfl (by kernel_rfl) eT (aZ (all_cons (eP (Nc n)) (all_nil)) (bA)) mixed (aT _ _ rfl) (λx=>by kernel_rfl)
def zRg (n:Nat):An (cO Li) := .nil
theorem Qd(n:Nat):Pure Tryz.prog 61 Vs Li (uN n):=
 dH (Γ:=dD _ [(99,bZ Ub Hu (uM n)),(100,bZ Pv Ev (Ak n))] []) (an:=zRg n) Tryz.func61 rfl (by kernel_rfl) eT (aZ (all_cons (aU (Zc n)) (all_cons (aU (Vy n)) (all_nil))) (bA)) mixed (aT _ _ rfl) (λx=>by kernel_rfl)
end Go.Dec
namespace Go.Dec
open Go.Proofs
set_option linter.unusedVariables false
def zUx (n:Nat):An (cO Sj) := .nil
theorem Ud(n:Nat):Pure Tryz.prog 24 zBh Sj (yF n):=
 dH (Γ:=dD _ [(61,bZ Vs Li (uN n))] []) (an:=zUx n) Tryz.func24 rfl (by kernel_rfl) eT (aZ (all_cons (aU (Qd n)) (all_nil)) (bA)) mixed (aT _ _ rfl) (λx=>by kernel_rfl)
def zOr (n:Nat):An (cO Pw) := .nil
theorem zEk(n:Nat):Pure Tryz.prog 71 zDf Pw (Vo n):=
 dH (Γ:=dD _ [(73,bZ lI lJ (strings_IndexByte n))] []) (an:=zOr n) Tryz.func71 rfl (by kernel_rfl) eT (aZ (all_cons (aU (kU n)) (all_nil)) (bA)) mixed (aT _ _ rfl) (λx=>by kernel_rfl)
def zRh (n:Nat):An (cO Vt) := .nil
theorem zIb(n:Nat):Pure Tryz.prog 72 zHy Vt (Dz n):=
 dH (Γ:=dD _ [] []) (an:=zRh n) Tryz.func72 rfl (by kernel_rfl) eT (aZ (all_nil) (bA)) mixed (aT _ _ rfl) (λx=>by kernel_rfl)
def zOs (n:Nat):An (cO Px):=(.mk .nil (.mk (.mk .nil (.mk (.loop ⟨47,[⟨0,false,[.v .str]⟩,⟨2,false,[.own 0]⟩,⟨6,false,[.v (.int .i64)]⟩,⟨7,false,[.v (.int .i64)]⟩],[.row 9 .str]⟩ [.keep (kbm 25 197),.gcA 0,.Od 2 90,.gcA 0] [.keep (kbm 25 197),.gcA 0,.gcA 0] n .nil) .nil []) []) .nil []) [])
theorem zEl(n:Nat):Pure Tryz.prog 74 zDg Px (Vp n):=
 dH (Γ:=dD _ [] []) (an:=zOs n) Tryz.func74 rfl (by kernel_rfl) eT (aZ (all_nil) (bA)) mixed (aT _ _ rfl) (λx=>by kernel_rfl)
def zOt (n:Nat):An (cO Py):=(.mk .nil (.mk .nil (.mk .nil (.mk .nil (.mk .nil (.mk (.join ⟨97,[⟨1,false,[.ptr 0 0]⟩,⟨3,false,[.v .str]⟩,⟨4,false,[.v .str]⟩],[.box 25 [.v (.arr 4 (.int .u64))]]⟩ [.keep (kbm 84 26),.gcA 0] .nil) (.mk .nil (.mk (.mk .nil (.mk (.loop ⟨97,[⟨1,false,[.ptr 0 0]⟩,⟨4,false,[.v .str]⟩,⟨5,false,[.own 1]⟩,⟨33,false,[.v (.slice (.int .u8))]⟩,⟨34,false,[.v (.int .i64)]⟩,⟨35,false,[.v (.int .i64)]⟩],[.box 25 [.v (.arr 4 (.int .u64))],.row 5 (.int .u8)]⟩ [.keep (kbm 84 60129542194),.gcA 0,.Od 5 96,.gcA 0] [.keep (kbm 84 60129542194),.gcA 0,.gcA 0] n .nil) .nil []) []) (.mk (.mk .nil (.mk (.loop ⟨97,[⟨1,false,[.ptr 0 0]⟩,⟨4,false,[.v .str]⟩,⟨49,false,[.v (.slice .str)]⟩,⟨50,false,[.v (.int .i64)]⟩,⟨51,false,[.v (.int .i64)]⟩],[.box 25 [.v (.arr 4 (.int .u64))]]⟩ [.keep (kbm 84 3940649673949202),.gcA 0,.gcA 0] [.keep (kbm 84 3940649673949202),.gcA 0,.gcA 0] n .nil) .nil []) []) (.mk (.mk .nil (.mk (.loop ⟨97,[⟨1,false,[.ptr 0 0]⟩,⟨4,false,[.v .str]⟩,⟨71,false,[.own 1]⟩,⟨72,false,[.v (.int .i64)]⟩,⟨73,false,[.v (.int .i64)]⟩],[.box 25 [.v (.arr 4 (.int .u64))],.row 9 .str]⟩ [.keep (kbm 84 16528282690043758247954),.gcA 0,.gcA 0] [.keep (kbm 84 16528282690043758247954),.gcA 0,.gcA 0] n .nil) .nil []) []) .nil []) []) []) []) []) []) []) []) []) [])
theorem zEm(n:Nat):Pure Tryz.prog 30 zDh Py (Lf n):=
 dH (Γ:=dD _ [(68,bZ Dl Dm (oO n)),(71,bZ zDf Pw (Vo n)),(72,bZ zHy Vt (Dz n)),(73,bZ lI lJ (strings_IndexByte n)),(74,bZ zDg Px (Vp n))] []) (an:=zOt n) Tryz.func30 rfl (by kernel_rfl) eT (aZ (all_cons (aU (zP n)) (all_cons (aU (zEk n)) (all_cons (aU (zIb n)) (all_cons (aU (kU n)) (all_cons (aU (zEl n)) (all_nil)))))) (bA)) mixed (aT _ _ rfl) (λx=>by kernel_rfl)
def zRi (n:Nat):An (cO Lj):=(.mk .nil (.mk .nil (.mk .nil (.mk (.mk .nil (.mk (.loop ⟨105,[⟨3,false,[.own 0]⟩,⟨14,false,[.v (.slice aC)]⟩,⟨15,false,[.v (.int .i64)]⟩,⟨16,false,[.v (.int .i64)]⟩],[.row 9 .str]⟩ [.keep (kbm 17 114696),.gcA 0,.Od 3 90,.gcA 0] [.keep (kbm 17 114696),.gcA 0,.gcA 0] n (.mk .nil (.mk .nil (.mk (.mk (.mk .nil (.mk .nil (.mk .nil (.mk .nil (.mk (.mk .nil (.mk (.mk .nil (.mk .nil (.mk .nil (.mk (.mk .nil (.mk (.mk .nil (.mk (.loop ⟨105,[⟨3,false,[.own 0]⟩,⟨6,false,[.v (.int .i64)]⟩,⟨8,false,[.v .str]⟩,⟨14,false,[.v (.slice aC)]⟩,⟨15,false,[.v (.int .i64)]⟩,⟨16,false,[.v (.int .i64)]⟩,⟨38,false,[.v (.slice (.int .u8))]⟩,⟨39,false,[.v (.int .i64)]⟩,⟨40,false,[.v (.int .i64)]⟩],[.row 9 .str]⟩ [.keep (kbm 41 1924145463624),.gcA 0,.gcA 0] [.keep (kbm 41 1924145463624),.gcA 0,.gcA 0] n .nil) .nil []) []) .nil []) []) .nil []) []) []) []) .nil []) []) .nil []) []) []) []) []) .nil []) .nil []) []) [])) .nil []) []) .nil []) []) []) [])
theorem Qe(n:Nat):Pure Tryz.prog 27 Vu Lj (sD n):=
 dH (Γ:=dD _ [(24,bZ zBh Sj (yF n)),(66,bZ zU uV (iE n)),(67,bZ Ms Ca (strings_Join n)),(68,bZ Dl Dm (oO n)),(69,bZ yZ zA (jE n)),(63,bZ wH wI (strconv_Itoa n))] []) (an:=zRi n) Tryz.func27 rfl (by kernel_rfl) eT (aZ (all_cons (aU (Ud n)) (all_cons (aU (Bl n)) (all_cons (aU (Sr n)) (all_cons (aU (zP n)) (all_cons (aU (Gc n)) (all_cons (aU (vH n)) (all_nil))))))) (bA)) mixed (aT _ _ rfl) (λx=>by kernel_rfl)
def zKp (n:Nat):An (cO Dp) := .nil
theorem Jm(n:Nat):Pure Tryz.prog 40 Ll Dp (qK n):=
 dH (Γ:=dD _ [(61,bZ Vs Li (uN n))] []) (an:=zKp n) Tryz.func40 rfl (by kernel_rfl) eT (aZ (all_cons (aU (Qd n)) (all_nil)) (bA)) mixed (aT _ _ rfl) (λx=>by kernel_rfl)
end Go.Dec
