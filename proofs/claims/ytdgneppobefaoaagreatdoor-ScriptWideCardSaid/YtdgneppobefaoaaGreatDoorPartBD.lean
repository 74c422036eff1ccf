/- Part of a proof over this seat: a library of my own, and what it says of this seat. No statement is proved here. -/
import Derived.Test.YtdgneppobefaoaaGreatDoorPartBC
import Derived.Test.YtdgneppobefaoaaGreatDoorPartAT
namespace Go.Proofs
open Go.Ce
set_option maxRecDepth 100000
noncomputable def Tryz.E0:Env:={ P:=Tryz.prog,I:=Tryz.I,F:=Tryz.F,giv:=fun _=>none,tri:=fun _=>none }
theorem Tryz.E0_ok:fA Tryz.E0 where
 I:=Tryz.I_ok
 F:=Tryz.F_ok
 giv:=fun f g h=>by cases h
 tri:=fun f t z h=>by cases h
 mixed:=by kernel_rfl
namespace Tryz.Sd
noncomputable abbrev c:Code:=zCm Tryz.f46
noncomputable abbrev rest:Code:=cR (wU Tryz.f46)
noncomputable abbrev suf:Code:=cR (cR (cR c))
def ds:List (Nat × AV):=[(123,.fn (.func 69) [] []),(125,.fn (.func 70) [] []),(58,.fn (.func 71) [] []),(115,.fn (.func 72) [] []),(121,.fn (.func 73) [] []),(61,.fn (.func 74) [] []),(100,.fn (.func 74) [] []),(68,.fn (.func 74) [] []),(103,.fn (.func 74) [] []),(71,.fn (.func 74) [] []),(104,.fn (.func 74) [] []),(72,.fn (.func 74) [] []),(110,.fn (.func 74) [] []),(78,.fn (.func 74) [] []),(112,.fn (.func 74) [] []),(80,.fn (.func 74) [] []),(120,.fn (.func 74) [] []),(97,.fn (.func 75) [] []),(105,.fn (.func 75) [] []),(99,.fn (.func 75) [] []),(98,.fn (.func 76) [] []),(116,.fn (.func 76) [] []),(84,.fn (.func 76) [] []),(108,.fn (.func 77) [] []),(113,.fn (.func 77) [] []),(81,.fn (.func 77) [] []),(114,.fn (.func 78) [] []),(119,.fn (.func 78) [] [])]
def es0:List (AV × AV × Nat):=[(.it .u8 (.ofNat 123),.fn (.func 69) [] [],0),(.it .u8 (.ofNat 125),.fn (.func 70) [] [],1),(.it .u8 (.ofNat 58),.fn (.func 71) [] [],2),(.it .u8 (.ofNat 115),.fn (.func 72) [] [],3),(.it .u8 (.ofNat 121),.fn (.func 73) [] [],4)]
def es:List (AV × AV × Nat):=[(.st [61,100,68,103,71,104,72,110,78,112,80,120],.fn (.func 74) [] [],0),(.st [97,105,99],.fn (.func 75) [] [],1),(.st [98,116,84],.fn (.func 76) [] [],2),(.st [108,113,81],.fn (.func 77) [] [],3),(.st [114,119],.fn (.func 78) [] [],4)]
def g0:List Nat:=[123,125,58,115,121]
def all:List Nat:=[123,125,58,115,121,61,100,68,103,71,104,72,110,78,112,80,120,97,105,99,98,116,84,108,113,81,114,119]
theorem r0 (σ g:List Nat):Gs 1 10 (run Tryz.E0 2000 28 0 .pl rest (tmE (tmS 1 10) 11 12 (.tu [.bo true,.st [61,100,68,103,71,104,72,110,78,112,80,120],.fn (.func 74) [] []]) true) (Ad ds es 5 (0 :: σ) g)) =
  some (some (.mp 0),some (.pt 2 0),some (.dict .u8 ds (List.reverse [61,100,68,103,71,104,72,110,78,112,80,120]++g)),some (.map es 5),some (.mit 1 5 (0 :: σ) 5),true):=by kernel_rfl
theorem r1 (σ g:List Nat):Gs 1 10 (run Tryz.E0 2000 28 0 .pl rest (tmE (tmS 1 10) 11 12 (.tu [.bo true,.st [97,105,99],.fn (.func 75) [] []]) true) (Ad ds es 5 (1 :: σ) g)) =
  some (some (.mp 0),some (.pt 2 0),some (.dict .u8 ds (List.reverse [97,105,99]++g)),some (.map es 5),some (.mit 1 5 (1 :: σ) 5),true):=by kernel_rfl
theorem r2 (σ g:List Nat):Gs 1 10 (run Tryz.E0 2000 28 0 .pl rest (tmE (tmS 1 10) 11 12 (.tu [.bo true,.st [98,116,84],.fn (.func 76) [] []]) true) (Ad ds es 5 (2 :: σ) g)) =
  some (some (.mp 0),some (.pt 2 0),some (.dict .u8 ds (List.reverse [98,116,84]++g)),some (.map es 5),some (.mit 1 5 (2 :: σ) 5),true):=by kernel_rfl
theorem r3 (σ g:List Nat):Gs 1 10 (run Tryz.E0 2000 28 0 .pl rest (tmE (tmS 1 10) 11 12 (.tu [.bo true,.st [108,113,81],.fn (.func 77) [] []]) true) (Ad ds es 5 (3 :: σ) g)) =
  some (some (.mp 0),some (.pt 2 0),some (.dict .u8 ds (List.reverse [108,113,81]++g)),some (.map es 5),some (.mit 1 5 (3 :: σ) 5),true):=by kernel_rfl
theorem r4 (σ g:List Nat):Gs 1 10 (run Tryz.E0 2000 28 0 .pl rest (tmE (tmS 1 10) 11 12 (.tu [.bo true,.st [114,119],.fn (.func 78) [] []]) true) (Ad ds es 5 (4 :: σ) g)) =
  some (some (.mp 0),some (.pt 2 0),some (.dict .u8 ds (List.reverse [114,119]++g)),some (.map es 5),some (.mit 1 5 (4 :: σ) 5),true):=by kernel_rfl
theorem over (σ g:List Nat):zJv Tryz.E0 2000 28 suf Tryz.f46 (run Tryz.E0 2000 28 0 .pl rest (tmE (tmS 1 10) 11 12 (.tu [.bo false]) false) (Ad ds es 5 σ g))=some (0,.mp 0,some (.dict .u8 ds g)):=by kernel_rfl
theorem pre:zJu 1 10 (zCk Tryz.E0 2000 28 (cL c) (cL (cR c)) (cL (cL (cR (cR c)))) [])=some (some (.mp 0),some (.pt 2 0),some (.map es0 5),some (.map es 5),some (.mit 1 5 [] 5),3):=by kernel_rfl
theorem body:Tryz.f46.body=some c:=by kernel_rfl
noncomputable abbrev nx:Oper:=cOp (cL (wU Tryz.f46)) 0
noncomputable abbrev ex:Oper:=cOp (cL (wU Tryz.f46)) 1
noncomputable abbrev rid:Nat:=cId (cL (wU Tryz.f46))
theorem shp:c=.seq (cL c) (.seq (cL (cR c)) (.seq (.seq (cL (cL (cR (cR c)))) (.block 0 (.loop (.seq (.region rid #[nx,ex] false) rest)))) suf)):=by kernel_rfl
theorem got:T.get Tryz.E0.F 46=some Tryz.f46:=by kernel_rfl
theorem tmps:Tryz.f46.ntmps=28:=by kernel_rfl
end Tryz.Sd
open Tryz.Sd in
theorem Tryz.does_ok {E:Env} (hP:E.P=Tryz.prog) (lo:Nat) (A:W) (hbig:A.nx < Ce.big):cZ E.P lo 46 [] A (.ret (.mp A.nx)) ⟨A.H.put A.nx (some (.dict .u8 ds all)),A.nx+1⟩:=by
 rw [hP]
 refine zJy (E:=Tryz.E0) Tryz.E0_ok (k:=2000) (n:=28) (sa:=1) (its:=10) (a1:=11) (a2:=12) (ds:=ds) (es0:=es0) (es:=es) (zVr:=5) (clk:=5) (g0:=g0) got body shp tmps (by decide) (nx:=nx) (ex:=ex) (by kernel_rfl) (by kernel_rfl) (by kernel_rfl) (by kernel_rfl) (by kernel_rfl) (by kernel_rfl) (by decide) pre
  (by kernel_rfl) (by kernel_rfl) (by kernel_rfl) (by kernel_rfl) (by kernel_rfl) (by kernel_rfl) (by kernel_rfl) (fun e he σ g=>?_) over (fun m hm=>?_) lo A hbig
 ·simp only [es,List.mem_cons,List.not_mem_nil,or_false] at he
  rcases he with rfl | rfl | rfl | rfl | rfl
  ·exact r0 σ g
  ·exact r1 σ g
  ·exact r2 σ g
  ·exact r3 σ g
  ·exact r4 σ g
 ·have h:(all.all fun m=>tC m g0 || es.any fun e=>tC m (keysOf e))=true:=by kernel_rfl
  rw [List.all_eq_true] at h
  have h:=h m hm
  rw [Bool.or_eq_true,List.any_eq_true] at h
  rcases h with h | ⟨e,he,h⟩
  ·exact .inl (Bo.1 h)
  ·exact .inr ⟨e,he,Bo.1 h⟩
end Go.Proofs
