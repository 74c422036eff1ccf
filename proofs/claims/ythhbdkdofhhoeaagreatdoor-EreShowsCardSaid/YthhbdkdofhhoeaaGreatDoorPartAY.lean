/- Part of a proof over this seat: a library of my own, and what it says of this seat. No statement is proved here. -/
import Derived.Test.YthhbdkdofhhoeaaGreatDoorPartAX
namespace Go.Dec
open Go.Proofs
set_option linter.unusedVariables false
end Go.Dec
namespace Go.Dec
open Go.Proofs
set_option linter.unusedVariables false
def zBn (n:Nat):An (bW uU) := .nil
theorem Cr(n:Nat):Pure Tryz.prog 66 Al uU (rP n):=
 bT (Γ:=cB _ [] []) (an:=zBn n) Tryz.func66 rfl (by kernel_rfl) dL (aV (all_nil) (aW)) mixed (aN _ _ rfl) (λx=>by kernel_rfl)
def zBo (n:Nat):An (bW Am) := .nil
theorem Ry(n:Nat):Pure Tryz.prog 170 La Am (Db n):=
 bT (Γ:=cB _ [] []) (an:=zBo n) Tryz.func170 rfl (by kernel_rfl) dL (aV (all_nil) (aW)) mixed (aN _ _ rfl) (λx=>by kernel_rfl)
def zGk (n:Nat):An (bW Gp) := .nil
theorem Yo(n:Nat):Pure Tryz.prog 140 Rn Gp (Jg n):=
 bT (Γ:=cB _ [(170,bQ La Am (Db n))] []) (an:=zGk n) Tryz.func140 rfl (by kernel_rfl) dL (aV (all_cons (aO (Ry n)) (all_nil)) (aW)) mixed (aN _ _ rfl) (λx=>by kernel_rfl)
def Rz (n:Nat):An (bW vK):=(.mk .nil (.mk (.mk .nil (.mk (.loop ⟨19,[⟨0,false,[.v (.slice (.int .i64))]⟩,⟨1,false,[.v (.int .i64)]⟩,⟨7,false,[.v (.int .i64)]⟩,⟨8,false,[.v (.int .i64)]⟩],[]⟩ [.keep (kbm 9 387),.gcA 0,.gcA 0] [.keep (kbm 9 387),.gcA 0,.gcA 0] n .nil) .nil []) []) .nil []) [])
theorem Lc(n:Nat):Pure Tryz.prog 189 Dk vK (wV n):=
 bT (Γ:=cB _ [] []) (an:=Rz n) Tryz.func189 rfl (by kernel_rfl) dL (aV (all_nil) (aW)) mixed (aN _ _ rfl) (λx=>by kernel_rfl)
def Ld (n:Nat):An (bW rA) := .nil
theorem Gs(n:Nat):Pure Tryz.prog 171 yX rA (sF n):=
 bT (Γ:=cB _ [(189,bQ Dk vK (wV n))] []) (an:=Ld n) Tryz.func171 rfl (by kernel_rfl) dL (aV (all_cons (aO (Lc n)) (all_nil)) (aW)) mixed (aN _ _ rfl) (λx=>by kernel_rfl)
def zUm (n:Nat):An (bW Yi) := .nil
theorem zKq(n:Nat):Pure Tryz.prog 141 zKn Yi (xQ n):=
 bT (Γ:=cB _ [(171,bQ yX rA (sF n))] []) (an:=zUm n) Tryz.func141 rfl (by kernel_rfl) dL (aV (all_cons (aO (Gs n)) (all_nil)) (aW)) mixed (aN _ _ rfl) (λx=>by kernel_rfl)
def zKr (n:Nat):An (bW Jk):=(.mk .nil (.mk .nil (.mk (.mk .nil (.mk (.loop ⟨80,[⟨0,false,[.v (.slice aD)]⟩,⟨3,false,[.own 0]⟩,⟨8,false,[.v (.slice aD)]⟩,⟨9,false,[.v (.int .i64)]⟩,⟨10,false,[.v (.int .i64)]⟩],[.row 3 (.int .i64)]⟩ [.keep (kbm 69 1801),.gcA 0,.Mk 3 105,.gcA 0] [.keep (kbm 69 1801),.gcA 0,.gcA 0] n .nil) .nil []) []) .nil []) []) [])
theorem zBp(n:Nat):Pure Tryz.prog 99 Wj Jk (Nf n):=
 bT (Γ:=cB _ [(66,bQ Al uU (rP n)),(140,bQ Rn Gp (Jg n)),(141,bQ zKn Yi (xQ n))] []) (an:=zKr n) Tryz.func99 rfl (by kernel_rfl) dL (aV (all_cons (aO (Cr n)) (all_cons (aO (Yo n)) (all_cons (aO (zKq n)) (all_nil)))) (aW)) mixed (aN _ _ rfl) (λx=>by kernel_rfl)
def zBq (n:Nat):An (mW.X) := .nil
theorem Gt(n:Nat)(dO:(Int × List (Int × List (Int) × Int × Int × Int × Int × Int × Unit) × Int × Bool × List (Bool) × Bool × Unit)->Option (List (Int × List (Int) × Int × Int × Int × Int × Int × Unit) × Int × Bool × List (Bool) × Bool × Unit))(zBr:fV Tryz.prog 142 qC mW dO):fV Tryz.prog 142 qC mW (Cq n dO):=
 fZ (Γ:=cB _ [(142,peM qC mW (dO))] []) (an:=zBq n) (co:=[.gc [0,1,2,3,4,5]]) Tryz.func142 rfl (by kernel_rfl) dL (aV (all_cons (eO (zBr)) (all_nil)) (aW)) mixed (aN _ _ rfl) (by kernel_rfl) (by kernel_rfl) (λx=>by kernel_rfl)
theorem Pk(n:Nat):fV Tryz.prog 142 qC mW (Dc n):=zFj (by kernel_rfl) (λn r h=>Gt n r h) n
def zGl (n:Nat):An (bW Gq) := .nil
theorem Yp(n:Nat):Pure Tryz.prog 100 Ro Gq (Ji n):=
 bT (Γ:=cB _ [(142,peM qC mW (Dc n))] []) (an:=zGl n) Tryz.func100 rfl (by kernel_rfl) dL (aV (all_cons (eO (Pk n)) (all_nil)) (aW)) mixed (aN _ _ rfl) (λx=>by kernel_rfl)
def zUn (n:Nat):An (bW Ni) := .nil
theorem Sb(n:Nat):Pure Tryz.prog 61 Yj Ni (Ku n):=
 bT (Γ:=cB _ [(99,bQ Wj Jk (Nf n)),(100,bQ Ro Gq (Ji n))] []) (an:=zUn n) Tryz.func61 rfl (by kernel_rfl) dL (aV (all_cons (aO (zBp n)) (all_cons (aO (Yp n)) (all_nil))) (aW)) mixed (aN _ _ rfl) (λx=>by kernel_rfl)
end Go.Dec
namespace Go.Dec
open Go.Proofs
set_option linter.unusedVariables false
def zYj (n:Nat):An (bW Uy) := .nil
theorem Wq(n:Nat):Pure Tryz.prog 24 zDt Uy (Rh n):=
 bT (Γ:=cB _ [(61,bQ Yj Ni (Ku n))] []) (an:=zYj n) Tryz.func24 rfl (by kernel_rfl) dL (aV (all_cons (aO (Sb n)) (all_nil)) (aW)) mixed (aN _ _ rfl) (λx=>by kernel_rfl)
def zRq (n:Nat):An (bW Rp) := .nil
theorem zGm(n:Nat):Pure Tryz.prog 71 zFl Rp (Gh n):=
 bT (Γ:=cB _ [(73,bQ lF lG (strings_IndexByte n))] []) (an:=zRq n) Tryz.func71 rfl (by kernel_rfl) dL (aV (all_cons (aO (kP n)) (all_nil)) (aW)) mixed (aN _ _ rfl) (λx=>by kernel_rfl)
def zUo (n:Nat):An (bW Yk) := .nil
theorem zKs(n:Nat):Pure Tryz.prog 72 zKo Yk (rZ n):=
 bT (Γ:=cB _ [] []) (an:=zUo n) Tryz.func72 rfl (by kernel_rfl) dL (aV (all_nil) (aW)) mixed (aN _ _ rfl) (λx=>by kernel_rfl)
def zRr (n:Nat):An (bW Rq):=(.mk .nil (.mk (.mk .nil (.mk (.loop ⟨47,[⟨0,false,[.v .str]⟩,⟨2,false,[.own 0]⟩,⟨6,false,[.v (.int .i64)]⟩,⟨7,false,[.v (.int .i64)]⟩],[.row 9 .str]⟩ [.keep (kbm 25 197),.gcA 0,.Mk 2 90,.gcA 0] [.keep (kbm 25 197),.gcA 0,.gcA 0] n .nil) .nil []) []) .nil []) [])
theorem zGn(n:Nat):Pure Tryz.prog 74 zFm Rq (Gi n):=
 bT (Γ:=cB _ [] []) (an:=zRr n) Tryz.func74 rfl (by kernel_rfl) dL (aV (all_nil) (aW)) mixed (aN _ _ rfl) (λx=>by kernel_rfl)
def zRs (n:Nat):An (bW Rs):=(.mk .nil (.mk .nil (.mk .nil (.mk .nil (.mk .nil (.mk (.join ⟨97,[⟨1,false,[.ptr 0 0]⟩,⟨3,false,[.v .str]⟩,⟨4,false,[.v .str]⟩],[.box 25 [.v (.arr 4 (.int .u64))]]⟩ [.keep (kbm 84 26),.gcA 0] .nil) (.mk .nil (.mk (.mk .nil (.mk (.loop ⟨97,[⟨1,false,[.ptr 0 0]⟩,⟨4,false,[.v .str]⟩,⟨5,false,[.own 1]⟩,⟨33,false,[.v (.slice (.int .u8))]⟩,⟨34,false,[.v (.int .i64)]⟩,⟨35,false,[.v (.int .i64)]⟩],[.box 25 [.v (.arr 4 (.int .u64))],.row 5 (.int .u8)]⟩ [.keep (kbm 84 60129542194),.gcA 0,.Mk 5 96,.gcA 0] [.keep (kbm 84 60129542194),.gcA 0,.gcA 0] n .nil) .nil []) []) (.mk (.mk .nil (.mk (.loop ⟨97,[⟨1,false,[.ptr 0 0]⟩,⟨4,false,[.v .str]⟩,⟨49,false,[.v (.slice .str)]⟩,⟨50,false,[.v (.int .i64)]⟩,⟨51,false,[.v (.int .i64)]⟩],[.box 25 [.v (.arr 4 (.int .u64))]]⟩ [.keep (kbm 84 3940649673949202),.gcA 0,.gcA 0] [.keep (kbm 84 3940649673949202),.gcA 0,.gcA 0] n .nil) .nil []) []) (.mk (.mk .nil (.mk (.loop ⟨97,[⟨1,false,[.ptr 0 0]⟩,⟨4,false,[.v .str]⟩,⟨71,false,[.own 1]⟩,⟨72,false,[.v (.int .i64)]⟩,⟨73,false,[.v (.int .i64)]⟩],[.box 25 [.v (.arr 4 (.int .u64))],.row 9 .str]⟩ [.keep (kbm 84 16528282690043758247954),.gcA 0,.gcA 0] [.keep (kbm 84 16528282690043758247954),.gcA 0,.gcA 0] n .nil) .nil []) []) .nil []) []) []) []) []) []) []) []) []) [])
theorem zGo(n:Nat):Pure Tryz.prog 30 zFn Rs (Ag n):=
 bT (Γ:=cB _ [(68,bQ Em En (oD n)),(71,bQ zFl Rp (Gh n)),(72,bQ zKo Yk (rZ n)),(73,bQ lF lG (strings_IndexByte n)),(74,bQ zFm Rq (Gi n))] []) (an:=zRs n) Tryz.func30 rfl (by kernel_rfl) dL (aV (all_cons (aO (Af n)) (all_cons (aO (zGm n)) (all_cons (aO (zKs n)) (all_cons (aO (kP n)) (all_cons (aO (zGn n)) (all_nil)))))) (aW)) mixed (aN _ _ rfl) (λx=>by kernel_rfl)
def zUp (n:Nat):An (bW Yl):=(.mk .nil (.mk .nil (.mk .nil (.mk (.mk .nil (.mk (.loop ⟨105,[⟨3,false,[.own 0]⟩,⟨14,false,[.v (.slice aD)]⟩,⟨15,false,[.v (.int .i64)]⟩,⟨16,false,[.v (.int .i64)]⟩],[.row 9 .str]⟩ [.keep (kbm 17 114696),.gcA 0,.Mk 3 90,.gcA 0] [.keep (kbm 17 114696),.gcA 0,.gcA 0] n (.mk .nil (.mk .nil (.mk (.mk (.mk .nil (.mk .nil (.mk .nil (.mk .nil (.mk (.mk .nil (.mk (.mk .nil (.mk .nil (.mk .nil (.mk (.mk .nil (.mk (.mk .nil (.mk (.loop ⟨105,[⟨3,false,[.own 0]⟩,⟨6,false,[.v (.int .i64)]⟩,⟨8,false,[.v .str]⟩,⟨14,false,[.v (.slice aD)]⟩,⟨15,false,[.v (.int .i64)]⟩,⟨16,false,[.v (.int .i64)]⟩,⟨38,false,[.v (.slice (.int .u8))]⟩,⟨39,false,[.v (.int .i64)]⟩,⟨40,false,[.v (.int .i64)]⟩],[.row 9 .str]⟩ [.keep (kbm 41 1924145463624),.gcA 0,.gcA 0] [.keep (kbm 41 1924145463624),.gcA 0,.gcA 0] n .nil) .nil []) []) .nil []) []) .nil []) []) []) []) .nil []) []) .nil []) []) []) []) []) .nil []) .nil []) []) [])) .nil []) []) .nil []) []) []) [])
theorem zKt(n:Nat):Pure Tryz.prog 27 zKp Yl (Uu n):=
 bT (Γ:=cB _ [(24,bQ zDt Uy (Rh n)),(66,bQ Al uU (rP n)),(67,bQ Ov Da (strings_Join n)),(68,bQ Em En (oD n)),(69,bQ zQ zR (oC n)),(63,bQ wK wL (strconv_Itoa n))] []) (an:=zUp n) Tryz.func27 rfl (by kernel_rfl) dL (aV (all_cons (aO (Wq n)) (all_cons (aO (Cr n)) (all_cons (aO (Vg n)) (all_cons (aO (Af n)) (all_cons (aO (Hl n)) (all_cons (aO (vG n)) (all_nil))))))) (aW)) mixed (aN _ _ rfl) (λx=>by kernel_rfl)
def zNe (n:Nat):An (bW Nj) := .nil
theorem zDv(n:Nat):Pure Tryz.prog 40 zBj Nj (Rk n):=
 bT (Γ:=cB _ [(61,bQ Yj Ni (Ku n))] []) (an:=zNe n) Tryz.func40 rfl (by kernel_rfl) dL (aV (all_cons (aO (Sb n)) (all_nil)) (aW)) mixed (aN _ _ rfl) (λx=>by kernel_rfl)
end Go.Dec
