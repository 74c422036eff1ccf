/- Part of a proof over this seat: a library of my own, and what it says of this seat. No statement is proved here. -/
import Derived.Test.YtfpipcafiocdoaaGreatDoorPfrtBB
import Derived.Test.YtfpipcafiocdoaaGreatDoorPfrtAS
namespace Go.Proofs
open Go.Ce
set_option maxRecDepth 100000
noncomputable def Tryz.E0:Env:={ P:=Tryz.prog,I:=Tryz.I,F:=Tryz.F,giv:=fun _=>none,tri:=fun _=>none }
theorem Tryz.E0_ok:dX Tryz.E0 where
 I:=Tryz.I_ok
 F:=Tryz.F_ok
 giv:=fun f g h=>by cases h
 tri:=fun f t z h=>by cases h
 mixed:=by kernel_rfl
namespace Tryz.Sd
noncomputable abbrev c:Code:=zCe Tryz.f101
noncomputable abbrev rest:Code:=cR (vI Tryz.f101)
noncomputable abbrev suf:Code:=cR (cR (cR c))
def ds:List (Nat × AV):=[(123,.fn (.func 151) [] []),(125,.fn (.func 152) [] []),(58,.fn (.func 153) [] []),(115,.fn (.func 154) [] []),(121,.fn (.func 155) [] []),(61,.fn (.func 156) [] []),(100,.fn (.func 156) [] []),(68,.fn (.func 156) [] []),(103,.fn (.func 156) [] []),(71,.fn (.func 156) [] []),(104,.fn (.func 156) [] []),(72,.fn (.func 156) [] []),(110,.fn (.func 156) [] []),(78,.fn (.func 156) [] []),(112,.fn (.func 156) [] []),(80,.fn (.func 156) [] []),(120,.fn (.func 156) [] []),(97,.fn (.func 157) [] []),(105,.fn (.func 157) [] []),(99,.fn (.func 157) [] []),(98,.fn (.func 158) [] []),(116,.fn (.func 158) [] []),(84,.fn (.func 158) [] []),(108,.fn (.func 159) [] []),(113,.fn (.func 159) [] []),(81,.fn (.func 159) [] []),(114,.fn (.func 160) [] []),(119,.fn (.func 160) [] [])]
def es0:List (AV × AV × Nat):=[(.it .u8 (.ofNat 123),.fn (.func 151) [] [],0),(.it .u8 (.ofNat 125),.fn (.func 152) [] [],1),(.it .u8 (.ofNat 58),.fn (.func 153) [] [],2),(.it .u8 (.ofNat 115),.fn (.func 154) [] [],3),(.it .u8 (.ofNat 121),.fn (.func 155) [] [],4)]
def es:List (AV × AV × Nat):=[(.st [61,100,68,103,71,104,72,110,78,112,80,120],.fn (.func 156) [] [],0),(.st [97,105,99],.fn (.func 157) [] [],1),(.st [98,116,84],.fn (.func 158) [] [],2),(.st [108,113,81],.fn (.func 159) [] [],3),(.st [114,119],.fn (.func 160) [] [],4)]
def g0:List Nat:=[123,125,58,115,121]
def all:List Nat:=[123,125,58,115,121,61,100,68,103,71,104,72,110,78,112,80,120,97,105,99,98,116,84,108,113,81,114,119]
theorem r0 (σ g:List Nat):Fq 1 10 (run Tryz.E0 2000 28 0 .pl rest (tmE (tmS 1 10) 11 12 (.tu [.bo true,.st [61,100,68,103,71,104,72,110,78,112,80,120],.fn (.func 156) [] []]) true) (yS ds es 5 (0 :: σ) g)) =
  some (some (.mp 0),some (.pt 2 0),some (.dict .u8 ds (List.reverse [61,100,68,103,71,104,72,110,78,112,80,120]++g)),some (.map es 5),some (.mit 1 5 (0 :: σ) 5),true):=by kernel_rfl
theorem r1 (σ g:List Nat):Fq 1 10 (run Tryz.E0 2000 28 0 .pl rest (tmE (tmS 1 10) 11 12 (.tu [.bo true,.st [97,105,99],.fn (.func 157) [] []]) true) (yS ds es 5 (1 :: σ) g)) =
  some (some (.mp 0),some (.pt 2 0),some (.dict .u8 ds (List.reverse [97,105,99]++g)),some (.map es 5),some (.mit 1 5 (1 :: σ) 5),true):=by kernel_rfl
theorem r2 (σ g:List Nat):Fq 1 10 (run Tryz.E0 2000 28 0 .pl rest (tmE (tmS 1 10) 11 12 (.tu [.bo true,.st [98,116,84],.fn (.func 158) [] []]) true) (yS ds es 5 (2 :: σ) g)) =
  some (some (.mp 0),some (.pt 2 0),some (.dict .u8 ds (List.reverse [98,116,84]++g)),some (.map es 5),some (.mit 1 5 (2 :: σ) 5),true):=by kernel_rfl
theorem r3 (σ g:List Nat):Fq 1 10 (run Tryz.E0 2000 28 0 .pl rest (tmE (tmS 1 10) 11 12 (.tu [.bo true,.st [108,113,81],.fn (.func 159) [] []]) true) (yS ds es 5 (3 :: σ) g)) =
  some (some (.mp 0),some (.pt 2 0),some (.dict .u8 ds (List.reverse [108,113,81]++g)),some (.map es 5),some (.mit 1 5 (3 :: σ) 5),true):=by kernel_rfl
theorem r4 (σ g:List Nat):Fq 1 10 (run Tryz.E0 2000 28 0 .pl rest (tmE (tmS 1 10) 11 12 (.tu [.bo true,.st [114,119],.fn (.func 160) [] []]) true) (yS ds es 5 (4 :: σ) g)) =
  some (some (.mp 0),some (.pt 2 0),some (.dict .u8 ds (List.reverse [114,119]++g)),some (.map es 5),some (.mit 1 5 (4 :: σ) 5),true):=by kernel_rfl
theorem over (σ g:List Nat):zKx Tryz.E0 2000 28 suf Tryz.f101 (run Tryz.E0 2000 28 0 .pl rest (tmE (tmS 1 10) 11 12 (.tu [.bo false]) false) (yS ds es 5 σ g))=some (0,.mp 0,some (.dict .u8 ds g)):=by kernel_rfl
theorem pre:zKw 1 10 (zCc Tryz.E0 2000 28 (cL c) (cL (cR c)) (cL (cL (cR (cR c)))) [])=some (some (.mp 0),some (.pt 2 0),some (.map es0 5),some (.map es 5),some (.mit 1 5 [] 5),3):=by kernel_rfl
theorem body:Tryz.f101.body=some c:=by kernel_rfl
noncomputable abbrev nx:Oper:=cOp (cL (vI Tryz.f101)) 0
noncomputable abbrev ex:Oper:=cOp (cL (vI Tryz.f101)) 1
noncomputable abbrev rid:Nat:=cId (cL (vI Tryz.f101))
theorem shp:c=.seq (cL c) (.seq (cL (cR c)) (.seq (.seq (cL (cL (cR (cR c)))) (.block 0 (.loop (.seq (.region rid #[nx,ex] false) rest)))) suf)):=by kernel_rfl
theorem got:T.get Tryz.E0.F 101=some Tryz.f101:=by kernel_rfl
theorem tmps:Tryz.f101.ntmps=28:=by kernel_rfl
end Tryz.Sd
open Tryz.Sd in
theorem Tryz.does_ok {E:Env} (hP:E.P=Tryz.prog) (lo:Nat) (A:W) (hbig:A.nx < Ce.big):bK E.P lo 101 [] A (.ret (.mp A.nx)) ⟨A.H.put A.nx (some (.dict .u8 ds all)),A.nx+1⟩:=by
 rw [hP]
 refine zLa (E:=Tryz.E0) Tryz.E0_ok (k:=2000) (n:=28) (sa:=1) (its:=10) (a1:=11) (a2:=12) (ds:=ds) (es0:=es0) (es:=es) (zZm:=5) (clk:=5) (g0:=g0) got body shp tmps (by decide) (nx:=nx) (ex:=ex) (by kernel_rfl) (by kernel_rfl) (by kernel_rfl) (by kernel_rfl) (by kernel_rfl) (by kernel_rfl) (by decide) pre
  (by kernel_rfl) (by kernel_rfl) (by kernel_rfl) (by kernel_rfl) (by kernel_rfl) (by kernel_rfl) (by kernel_rfl) (fun e he σ g=>?_) over (fun m hm=>?_) lo A hbig
 ·simp only [es,List.mem_cons,List.not_mem_nil,or_false] at he
  rcases he with rfl | rfl | rfl | rfl | rfl
  ·exact r0 σ g
  ·exact r1 σ g
  ·exact r2 σ g
  ·exact r3 σ g
  ·exact r4 σ g
 ·have h:(all.all fun m=>qL m g0 || es.any fun e=>qL m (keysOf e))=true:=by kernel_rfl
  rw [List.all_eq_true] at h
  have h:=h m hm
  rw [Bool.or_eq_true,List.any_eq_true] at h
  rcases h with h | ⟨e,he,h⟩
  ·exact .inl (Aa.1 h)
  ·exact .inr ⟨e,he,Aa.1 h⟩
end Go.Proofs
