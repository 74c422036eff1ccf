/- Part of a proof over this seat: a library of my own, and what it says of this seat. No statement is proved here. -/
import Derived.Test.YtdgneppobefaoaaGreatDoorPartBD
import Derived.Test.YtdgneppobefaoaaGreatDoorPartAZ
namespace Go.Proofs
open Go.Ce
set_option maxRecDepth 100000
noncomputable def Tryz.E1:Env:=Tryz.E0.more 87 zJz
theorem Tryz.E1_ok:fA Tryz.E1:=Tryz.E0_ok.more fun lo A args v A' h=>zFt Tryz.func87 (by kernel_rfl) (by kernel_rfl) (by kernel_rfl) (by kernel_rfl) lo A args v A' h
namespace Tryz.Bd
noncomputable abbrev c:Code:=zCm Tryz.f206
noncomputable abbrev rest:Code:=cR (wU Tryz.f206)
noncomputable abbrev suf:Code:=cR (cR (cR c))
def es:List (AV × AV × Nat):=[(.st [123,125],.fn (.func 250) [] [],0),(.st [61],.fn (.func 251) [] [],1),(.st [97],.fn (.func 252) [] [],2),(.st [105],.fn (.func 253) [] [],3),(.st [99],.fn (.func 254) [] [],4),(.st [98],.fn (.func 255) [] [],5),(.st [116,84],.fn (.func 256) [] [],6),(.st [100,68],.fn (.func 257) [] [],7),(.st [103,71,104,72,120],.fn (.func 258) [] [],8),(.st [108],.fn (.func 259) [] [],9),(.st [110,78],.fn (.func 260) [] [],10),(.st [112],.fn (.func 261) [] [],11),(.st [80],.fn (.func 262) [] [],12),(.st [113,81],.fn (.func 263) [] [],13),(.st [114],.fn (.func 264) [] [],14),(.st [119],.fn (.func 265) [] [],15),(.st [115],.fn (.func 266) [] [],16),(.st [121],.fn (.func 267) [] [],17)]
theorem body:Tryz.f206.body=some c:=by kernel_rfl
noncomputable abbrev nx:Oper:=cOp (cL (wU Tryz.f206)) 0
noncomputable abbrev ex:Oper:=cOp (cL (wU Tryz.f206)) 1
noncomputable abbrev rid:Nat:=cId (cL (wU Tryz.f206))
theorem shp:c=.seq (cL c) (.seq (cL (cR c)) (.seq (.seq (cL (cL (cR (cR c)))) (.block 0 (.loop (.seq (.region rid #[nx,ex] false) rest)))) suf)):=by kernel_rfl
theorem got:T.get Tryz.E1.F 206=some Tryz.f206:=by kernel_rfl
theorem tmps:Tryz.f206.ntmps=20:=by kernel_rfl
theorem d123 (lo:Nat) (A:W) (args:List AV) (ha:args=[.it .u8 (.ofNat 123)]):cZ Tryz.prog lo 206 args A (.ret (.fn (.func 250) [] [])) A:=by
 refine nZ (E:=Tryz.E1) Tryz.E1_ok (k:=2000) (n:=20) (its:=9) (a1:=10) (a2:=11) (es:=es) (clk:=18) (eh:=(.st [123,125],.fn (.func 250) [] [],0)) got body shp tmps (by decide) (nx:=nx) (ex:=ex) (by kernel_rfl) (by kernel_rfl) (by kernel_rfl) (by kernel_rfl) (by kernel_rfl) (by kernel_rfl) (by decide) (by kernel_rfl)
  (by kernel_rfl) (by kernel_rfl) (by kernel_rfl) (by kernel_rfl) (by kernel_rfl) (by kernel_rfl) (by simp [es]) (fun e he hne σ=>?_) (fun σ=>by kernel_rfl) lo A args ha
 simp only [es,List.mem_cons,List.not_mem_nil,or_false] at he
 rcases he with rfl | rfl | rfl | rfl | rfl | rfl | rfl | rfl | rfl | rfl | rfl | rfl | rfl | rfl | rfl | rfl | rfl | rfl <;> first | exact absurd rfl hne | kernel_rfl
theorem d125 (lo:Nat) (A:W) (args:List AV) (ha:args=[.it .u8 (.ofNat 125)]):cZ Tryz.prog lo 206 args A (.ret (.fn (.func 250) [] [])) A:=by
 refine nZ (E:=Tryz.E1) Tryz.E1_ok (k:=2000) (n:=20) (its:=9) (a1:=10) (a2:=11) (es:=es) (clk:=18) (eh:=(.st [123,125],.fn (.func 250) [] [],0)) got body shp tmps (by decide) (nx:=nx) (ex:=ex) (by kernel_rfl) (by kernel_rfl) (by kernel_rfl) (by kernel_rfl) (by kernel_rfl) (by kernel_rfl) (by decide) (by kernel_rfl)
  (by kernel_rfl) (by kernel_rfl) (by kernel_rfl) (by kernel_rfl) (by kernel_rfl) (by kernel_rfl) (by simp [es]) (fun e he hne σ=>?_) (fun σ=>by kernel_rfl) lo A args ha
 simp only [es,List.mem_cons,List.not_mem_nil,or_false] at he
 rcases he with rfl | rfl | rfl | rfl | rfl | rfl | rfl | rfl | rfl | rfl | rfl | rfl | rfl | rfl | rfl | rfl | rfl | rfl <;> first | exact absurd rfl hne | kernel_rfl
theorem d100 (lo:Nat) (A:W) (args:List AV) (ha:args=[.it .u8 (.ofNat 100)]):cZ Tryz.prog lo 206 args A (.ret (.fn (.func 257) [] [])) A:=by
 refine nZ (E:=Tryz.E1) Tryz.E1_ok (k:=2000) (n:=20) (its:=9) (a1:=10) (a2:=11) (es:=es) (clk:=18) (eh:=(.st [100,68],.fn (.func 257) [] [],7)) got body shp tmps (by decide) (nx:=nx) (ex:=ex) (by kernel_rfl) (by kernel_rfl) (by kernel_rfl) (by kernel_rfl) (by kernel_rfl) (by kernel_rfl) (by decide) (by kernel_rfl)
  (by kernel_rfl) (by kernel_rfl) (by kernel_rfl) (by kernel_rfl) (by kernel_rfl) (by kernel_rfl) (by simp [es]) (fun e he hne σ=>?_) (fun σ=>by kernel_rfl) lo A args ha
 simp only [es,List.mem_cons,List.not_mem_nil,or_false] at he
 rcases he with rfl | rfl | rfl | rfl | rfl | rfl | rfl | rfl | rfl | rfl | rfl | rfl | rfl | rfl | rfl | rfl | rfl | rfl <;> first | exact absurd rfl hne | kernel_rfl
theorem d71 (lo:Nat) (A:W) (args:List AV) (ha:args=[.it .u8 (.ofNat 71)]):cZ Tryz.prog lo 206 args A (.ret (.fn (.func 258) [] [])) A:=by
 refine nZ (E:=Tryz.E1) Tryz.E1_ok (k:=2000) (n:=20) (its:=9) (a1:=10) (a2:=11) (es:=es) (clk:=18) (eh:=(.st [103,71,104,72,120],.fn (.func 258) [] [],8)) got body shp tmps (by decide) (nx:=nx) (ex:=ex) (by kernel_rfl) (by kernel_rfl) (by kernel_rfl) (by kernel_rfl) (by kernel_rfl) (by kernel_rfl) (by decide) (by kernel_rfl)
  (by kernel_rfl) (by kernel_rfl) (by kernel_rfl) (by kernel_rfl) (by kernel_rfl) (by kernel_rfl) (by simp [es]) (fun e he hne σ=>?_) (fun σ=>by kernel_rfl) lo A args ha
 simp only [es,List.mem_cons,List.not_mem_nil,or_false] at he
 rcases he with rfl | rfl | rfl | rfl | rfl | rfl | rfl | rfl | rfl | rfl | rfl | rfl | rfl | rfl | rfl | rfl | rfl | rfl <;> first | exact absurd rfl hne | kernel_rfl
theorem d104 (lo:Nat) (A:W) (args:List AV) (ha:args=[.it .u8 (.ofNat 104)]):cZ Tryz.prog lo 206 args A (.ret (.fn (.func 258) [] [])) A:=by
 refine nZ (E:=Tryz.E1) Tryz.E1_ok (k:=2000) (n:=20) (its:=9) (a1:=10) (a2:=11) (es:=es) (clk:=18) (eh:=(.st [103,71,104,72,120],.fn (.func 258) [] [],8)) got body shp tmps (by decide) (nx:=nx) (ex:=ex) (by kernel_rfl) (by kernel_rfl) (by kernel_rfl) (by kernel_rfl) (by kernel_rfl) (by kernel_rfl) (by decide) (by kernel_rfl)
  (by kernel_rfl) (by kernel_rfl) (by kernel_rfl) (by kernel_rfl) (by kernel_rfl) (by kernel_rfl) (by simp [es]) (fun e he hne σ=>?_) (fun σ=>by kernel_rfl) lo A args ha
 simp only [es,List.mem_cons,List.not_mem_nil,or_false] at he
 rcases he with rfl | rfl | rfl | rfl | rfl | rfl | rfl | rfl | rfl | rfl | rfl | rfl | rfl | rfl | rfl | rfl | rfl | rfl <;> first | exact absurd rfl hne | kernel_rfl
theorem d112 (lo:Nat) (A:W) (args:List AV) (ha:args=[.it .u8 (.ofNat 112)]):cZ Tryz.prog lo 206 args A (.ret (.fn (.func 261) [] [])) A:=by
 refine nZ (E:=Tryz.E1) Tryz.E1_ok (k:=2000) (n:=20) (its:=9) (a1:=10) (a2:=11) (es:=es) (clk:=18) (eh:=(.st [112],.fn (.func 261) [] [],11)) got body shp tmps (by decide) (nx:=nx) (ex:=ex) (by kernel_rfl) (by kernel_rfl) (by kernel_rfl) (by kernel_rfl) (by kernel_rfl) (by kernel_rfl) (by decide) (by kernel_rfl)
  (by kernel_rfl) (by kernel_rfl) (by kernel_rfl) (by kernel_rfl) (by kernel_rfl) (by kernel_rfl) (by simp [es]) (fun e he hne σ=>?_) (fun σ=>by kernel_rfl) lo A args ha
 simp only [es,List.mem_cons,List.not_mem_nil,or_false] at he
 rcases he with rfl | rfl | rfl | rfl | rfl | rfl | rfl | rfl | rfl | rfl | rfl | rfl | rfl | rfl | rfl | rfl | rfl | rfl <;> first | exact absurd rfl hne | kernel_rfl
theorem d113 (lo:Nat) (A:W) (args:List AV) (ha:args=[.it .u8 (.ofNat 113)]):cZ Tryz.prog lo 206 args A (.ret (.fn (.func 263) [] [])) A:=by
 refine nZ (E:=Tryz.E1) Tryz.E1_ok (k:=2000) (n:=20) (its:=9) (a1:=10) (a2:=11) (es:=es) (clk:=18) (eh:=(.st [113,81],.fn (.func 263) [] [],13)) got body shp tmps (by decide) (nx:=nx) (ex:=ex) (by kernel_rfl) (by kernel_rfl) (by kernel_rfl) (by kernel_rfl) (by kernel_rfl) (by kernel_rfl) (by decide) (by kernel_rfl)
  (by kernel_rfl) (by kernel_rfl) (by kernel_rfl) (by kernel_rfl) (by kernel_rfl) (by kernel_rfl) (by simp [es]) (fun e he hne σ=>?_) (fun σ=>by kernel_rfl) lo A args ha
 simp only [es,List.mem_cons,List.not_mem_nil,or_false] at he
 rcases he with rfl | rfl | rfl | rfl | rfl | rfl | rfl | rfl | rfl | rfl | rfl | rfl | rfl | rfl | rfl | rfl | rfl | rfl <;> first | exact absurd rfl hne | kernel_rfl
end Tryz.Bd
def Tryz.Bd.tab:List (Nat × Nat):=[(123,250),(125,250),(100,257),(71,258),(104,258),(112,261),(113,263)]
def Tt (tab:List (Nat × Nat)):Gv:=fun _ A xs=>match xs with
 | [.it .u8 (.ofNat b)]=>ob (lk b tab) fun g=>some (.fn (.func g) [] [],A)
 | _=>none
where lk:Nat->List (Nat × Nat)->Option Nat
 | _,[]=>none
 | b,p :: r=>cnd (Nat.beq b p.1) (some p.2) (lk b r)
theorem Yc {b g:Nat}:∀ {l:List (Nat × Nat)},Tt.lk b l=some g->(b,g) ∈ l
 | p :: r,h=>by
  unfold Tt.lk cnd at h
  split at h
  ·rename_i hc
   simp only [aA] at h
   have:=aG hc
   subst this h
   exact .head _
  ·exact .tail _ (Yc h)
theorem Tryz.bdoes_ok (lo:Nat) (A:W) (args:List AV) (v:AV) (A':W) (h:Tt Tryz.Bd.tab lo A args=some (v,A')):cZ Tryz.prog lo 206 args A (.ret v) A':=by
 unfold Tt at h
 split at h
 ·rename_i b
  replace h:=aC h; obtain ⟨g,hg,h⟩:=h
  simp only [aA,aB] at h
  obtain ⟨rfl,rfl⟩:=h
  have hm:=Yc hg
  simp only [Tryz.Bd.tab,List.mem_cons,aB,List.not_mem_nil,or_false] at hm
  rcases hm with ⟨rfl,rfl⟩ | ⟨rfl,rfl⟩ | ⟨rfl,rfl⟩ | ⟨rfl,rfl⟩ | ⟨rfl,rfl⟩ | ⟨rfl,rfl⟩ | ⟨rfl,rfl⟩
  ·exact Tryz.Bd.d123 lo A _ rfl
  ·exact Tryz.Bd.d125 lo A _ rfl
  ·exact Tryz.Bd.d100 lo A _ rfl
  ·exact Tryz.Bd.d71 lo A _ rfl
  ·exact Tryz.Bd.d104 lo A _ rfl
  ·exact Tryz.Bd.d112 lo A _ rfl
  ·exact Tryz.Bd.d113 lo A _ rfl
 ·cases h
end Go.Proofs
