/- Part of a proof over this seat: a library of my own, and what it says of this seat. No statement is proved here. -/
import Derived.Test.YtfpipcafiocdoaaGreatDoorPartBC
import Derived.Test.YtfpipcafiocdoaaGreatDoorPartAY
namespace Go.Proofs
open Go.Ce
set_option maxRecDepth 100000
noncomputable def Tryz.E1 : Env:=Tryz.E0.more 94 zDd
theorem Tryz.E1_ok : dG Tryz.E1:=Tryz.E0_ok.more fun lo A args v A' h => Zo Tryz.func94 (by kernel_rfl) (by kernel_rfl) (by kernel_rfl) (by kernel_rfl) lo A args v A' h
namespace Tryz.Bd
noncomputable abbrev c : Code:=Vg Tryz.f39
noncomputable abbrev rest : Code:=cR (rV Tryz.f39)
noncomputable abbrev suf : Code:=cR (cR (cR c))
def es : List (AV × AV × Nat):=[(.st [123,125],.fn (.func 63) [] [],0),(.st [61],.fn (.func 64) [] [],1),(.st [97],.fn (.func 65) [] [],2),(.st [105],.fn (.func 66) [] [],3),(.st [99],.fn (.func 67) [] [],4),(.st [98],.fn (.func 68) [] [],5),(.st [116,84],.fn (.func 69) [] [],6),(.st [100,68],.fn (.func 70) [] [],7),(.st [103,71,104,72,120],.fn (.func 71) [] [],8),(.st [108],.fn (.func 72) [] [],9),(.st [110,78],.fn (.func 73) [] [],10),(.st [112],.fn (.func 74) [] [],11),(.st [80],.fn (.func 75) [] [],12),(.st [113,81],.fn (.func 76) [] [],13),(.st [114],.fn (.func 77) [] [],14),(.st [119],.fn (.func 78) [] [],15),(.st [115],.fn (.func 79) [] [],16),(.st [121],.fn (.func 80) [] [],17)]
theorem body : Tryz.f39.body = some c:=by kernel_rfl
noncomputable abbrev nx : Oper:=cOp (cL (rV Tryz.f39)) 0
noncomputable abbrev ex : Oper:=cOp (cL (rV Tryz.f39)) 1
noncomputable abbrev rid : Nat:=cId (cL (rV Tryz.f39))
theorem shp : c = .seq (cL c) (.seq (cL (cR c)) (.seq (.seq (cL (cL (cR (cR c)))) (.block 0 (.loop (.seq (.region rid #[nx,ex] false) rest)))) suf)):=by kernel_rfl
theorem got : T.get Tryz.E1.F 39 = some Tryz.f39:=by kernel_rfl
theorem tmps : Tryz.f39.ntmps = 20:=by kernel_rfl
theorem zOy (σ : List Nat) : aB 9 (run Tryz.E1 2000 20 0 .pl rest (tmE (tmM 9 (.it .u8 (.ofNat 123))) 10 11 (.tu [.bo true,.st [61],.fn (.func 64) [] []]) true) (aC es 18 (1 :: σ))) = some (some (.it .u8 (.ofNat 123)),some (.pt 1 0),some (.map es 18),some (.mit 0 18 (1 :: σ) 18),true):=by kernel_rfl
theorem zOz (σ : List Nat) : aB 9 (run Tryz.E1 2000 20 0 .pl rest (tmE (tmM 9 (.it .u8 (.ofNat 123))) 10 11 (.tu [.bo true,.st [97],.fn (.func 65) [] []]) true) (aC es 18 (2 :: σ))) = some (some (.it .u8 (.ofNat 123)),some (.pt 1 0),some (.map es 18),some (.mit 0 18 (2 :: σ) 18),true):=by kernel_rfl
theorem zPa (σ : List Nat) : aB 9 (run Tryz.E1 2000 20 0 .pl rest (tmE (tmM 9 (.it .u8 (.ofNat 123))) 10 11 (.tu [.bo true,.st [105],.fn (.func 66) [] []]) true) (aC es 18 (3 :: σ))) = some (some (.it .u8 (.ofNat 123)),some (.pt 1 0),some (.map es 18),some (.mit 0 18 (3 :: σ) 18),true):=by kernel_rfl
theorem zPb (σ : List Nat) : aB 9 (run Tryz.E1 2000 20 0 .pl rest (tmE (tmM 9 (.it .u8 (.ofNat 123))) 10 11 (.tu [.bo true,.st [99],.fn (.func 67) [] []]) true) (aC es 18 (4 :: σ))) = some (some (.it .u8 (.ofNat 123)),some (.pt 1 0),some (.map es 18),some (.mit 0 18 (4 :: σ) 18),true):=by kernel_rfl
theorem zPc (σ : List Nat) : aB 9 (run Tryz.E1 2000 20 0 .pl rest (tmE (tmM 9 (.it .u8 (.ofNat 123))) 10 11 (.tu [.bo true,.st [98],.fn (.func 68) [] []]) true) (aC es 18 (5 :: σ))) = some (some (.it .u8 (.ofNat 123)),some (.pt 1 0),some (.map es 18),some (.mit 0 18 (5 :: σ) 18),true):=by kernel_rfl
theorem zPd (σ : List Nat) : aB 9 (run Tryz.E1 2000 20 0 .pl rest (tmE (tmM 9 (.it .u8 (.ofNat 123))) 10 11 (.tu [.bo true,.st [116,84],.fn (.func 69) [] []]) true) (aC es 18 (6 :: σ))) = some (some (.it .u8 (.ofNat 123)),some (.pt 1 0),some (.map es 18),some (.mit 0 18 (6 :: σ) 18),true):=by kernel_rfl
theorem zPe (σ : List Nat) : aB 9 (run Tryz.E1 2000 20 0 .pl rest (tmE (tmM 9 (.it .u8 (.ofNat 123))) 10 11 (.tu [.bo true,.st [100,68],.fn (.func 70) [] []]) true) (aC es 18 (7 :: σ))) = some (some (.it .u8 (.ofNat 123)),some (.pt 1 0),some (.map es 18),some (.mit 0 18 (7 :: σ) 18),true):=by kernel_rfl
theorem zPf (σ : List Nat) : aB 9 (run Tryz.E1 2000 20 0 .pl rest (tmE (tmM 9 (.it .u8 (.ofNat 123))) 10 11 (.tu [.bo true,.st [103,71,104,72,120],.fn (.func 71) [] []]) true) (aC es 18 (8 :: σ))) = some (some (.it .u8 (.ofNat 123)),some (.pt 1 0),some (.map es 18),some (.mit 0 18 (8 :: σ) 18),true):=by kernel_rfl
theorem zPg (σ : List Nat) : aB 9 (run Tryz.E1 2000 20 0 .pl rest (tmE (tmM 9 (.it .u8 (.ofNat 123))) 10 11 (.tu [.bo true,.st [108],.fn (.func 72) [] []]) true) (aC es 18 (9 :: σ))) = some (some (.it .u8 (.ofNat 123)),some (.pt 1 0),some (.map es 18),some (.mit 0 18 (9 :: σ) 18),true):=by kernel_rfl
theorem zKu (σ : List Nat) : aB 9 (run Tryz.E1 2000 20 0 .pl rest (tmE (tmM 9 (.it .u8 (.ofNat 123))) 10 11 (.tu [.bo true,.st [110,78],.fn (.func 73) [] []]) true) (aC es 18 (10 :: σ))) = some (some (.it .u8 (.ofNat 123)),some (.pt 1 0),some (.map es 18),some (.mit 0 18 (10 :: σ) 18),true):=by kernel_rfl
theorem zKv (σ : List Nat) : aB 9 (run Tryz.E1 2000 20 0 .pl rest (tmE (tmM 9 (.it .u8 (.ofNat 123))) 10 11 (.tu [.bo true,.st [112],.fn (.func 74) [] []]) true) (aC es 18 (11 :: σ))) = some (some (.it .u8 (.ofNat 123)),some (.pt 1 0),some (.map es 18),some (.mit 0 18 (11 :: σ) 18),true):=by kernel_rfl
theorem zKw (σ : List Nat) : aB 9 (run Tryz.E1 2000 20 0 .pl rest (tmE (tmM 9 (.it .u8 (.ofNat 123))) 10 11 (.tu [.bo true,.st [80],.fn (.func 75) [] []]) true) (aC es 18 (12 :: σ))) = some (some (.it .u8 (.ofNat 123)),some (.pt 1 0),some (.map es 18),some (.mit 0 18 (12 :: σ) 18),true):=by kernel_rfl
theorem zKx (σ : List Nat) : aB 9 (run Tryz.E1 2000 20 0 .pl rest (tmE (tmM 9 (.it .u8 (.ofNat 123))) 10 11 (.tu [.bo true,.st [113,81],.fn (.func 76) [] []]) true) (aC es 18 (13 :: σ))) = some (some (.it .u8 (.ofNat 123)),some (.pt 1 0),some (.map es 18),some (.mit 0 18 (13 :: σ) 18),true):=by kernel_rfl
theorem zKy (σ : List Nat) : aB 9 (run Tryz.E1 2000 20 0 .pl rest (tmE (tmM 9 (.it .u8 (.ofNat 123))) 10 11 (.tu [.bo true,.st [114],.fn (.func 77) [] []]) true) (aC es 18 (14 :: σ))) = some (some (.it .u8 (.ofNat 123)),some (.pt 1 0),some (.map es 18),some (.mit 0 18 (14 :: σ) 18),true):=by kernel_rfl
theorem zKz (σ : List Nat) : aB 9 (run Tryz.E1 2000 20 0 .pl rest (tmE (tmM 9 (.it .u8 (.ofNat 123))) 10 11 (.tu [.bo true,.st [119],.fn (.func 78) [] []]) true) (aC es 18 (15 :: σ))) = some (some (.it .u8 (.ofNat 123)),some (.pt 1 0),some (.map es 18),some (.mit 0 18 (15 :: σ) 18),true):=by kernel_rfl
theorem zLa (σ : List Nat) : aB 9 (run Tryz.E1 2000 20 0 .pl rest (tmE (tmM 9 (.it .u8 (.ofNat 123))) 10 11 (.tu [.bo true,.st [115],.fn (.func 79) [] []]) true) (aC es 18 (16 :: σ))) = some (some (.it .u8 (.ofNat 123)),some (.pt 1 0),some (.map es 18),some (.mit 0 18 (16 :: σ) 18),true):=by kernel_rfl
theorem zLb (σ : List Nat) : aB 9 (run Tryz.E1 2000 20 0 .pl rest (tmE (tmM 9 (.it .u8 (.ofNat 123))) 10 11 (.tu [.bo true,.st [121],.fn (.func 80) [] []]) true) (aC es 18 (17 :: σ))) = some (some (.it .u8 (.ofNat 123)),some (.pt 1 0),some (.map es 18),some (.mit 0 18 (17 :: σ) 18),true):=by kernel_rfl
theorem d123 (lo : Nat) (A : W) (args : List AV) (ha : args = [.it .u8 (.ofNat 123)]) : bC Tryz.prog lo 39 args A (.ret (.fn (.func 63) [] [])) A:=by
 refine gD (E:=Tryz.E1) Tryz.E1_ok (k:=2000) (n:=20) (its:=9) (a1:=10) (a2:=11) (es:=es) (clk:=18) (eh:=(.st [123,125],.fn (.func 63) [] [],0)) got body shp tmps (by decide) (nx:=nx) (ex:=ex) (by kernel_rfl) (by kernel_rfl) (by kernel_rfl) (by kernel_rfl) (by kernel_rfl) (by kernel_rfl) (by decide) (by kernel_rfl)
  (by kernel_rfl) (by kernel_rfl) (by kernel_rfl) (by kernel_rfl) (by kernel_rfl) (by kernel_rfl) (by simp [es]) (fun e he hne σ => ?_) (fun σ => by kernel_rfl) lo A args ha
 simp only [es,List.mem_cons,List.not_mem_nil,or_false] at he
 rcases he with rfl | rfl | rfl | rfl | rfl | rfl | rfl | rfl | rfl | rfl | rfl | rfl | rfl | rfl | rfl | rfl | rfl | rfl
 ·exact absurd rfl hne
 ·exact zOy σ
 ·exact zOz σ
 ·exact zPa σ
 ·exact zPb σ
 ·exact zPc σ
 ·exact zPd σ
 ·exact zPe σ
 ·exact zPf σ
 ·exact zPg σ
 ·exact zKu σ
 ·exact zKv σ
 ·exact zKw σ
 ·exact zKx σ
 ·exact zKy σ
 ·exact zKz σ
 ·exact zLa σ
 ·exact zLb σ
theorem zTk (σ : List Nat) : aB 9 (run Tryz.E1 2000 20 0 .pl rest (tmE (tmM 9 (.it .u8 (.ofNat 97))) 10 11 (.tu [.bo true,.st [123,125],.fn (.func 63) [] []]) true) (aC es 18 (0 :: σ))) = some (some (.it .u8 (.ofNat 97)),some (.pt 1 0),some (.map es 18),some (.mit 0 18 (0 :: σ) 18),true):=by kernel_rfl
theorem zTl (σ : List Nat) : aB 9 (run Tryz.E1 2000 20 0 .pl rest (tmE (tmM 9 (.it .u8 (.ofNat 97))) 10 11 (.tu [.bo true,.st [61],.fn (.func 64) [] []]) true) (aC es 18 (1 :: σ))) = some (some (.it .u8 (.ofNat 97)),some (.pt 1 0),some (.map es 18),some (.mit 0 18 (1 :: σ) 18),true):=by kernel_rfl
theorem zTm (σ : List Nat) : aB 9 (run Tryz.E1 2000 20 0 .pl rest (tmE (tmM 9 (.it .u8 (.ofNat 97))) 10 11 (.tu [.bo true,.st [105],.fn (.func 66) [] []]) true) (aC es 18 (3 :: σ))) = some (some (.it .u8 (.ofNat 97)),some (.pt 1 0),some (.map es 18),some (.mit 0 18 (3 :: σ) 18),true):=by kernel_rfl
theorem zTn (σ : List Nat) : aB 9 (run Tryz.E1 2000 20 0 .pl rest (tmE (tmM 9 (.it .u8 (.ofNat 97))) 10 11 (.tu [.bo true,.st [99],.fn (.func 67) [] []]) true) (aC es 18 (4 :: σ))) = some (some (.it .u8 (.ofNat 97)),some (.pt 1 0),some (.map es 18),some (.mit 0 18 (4 :: σ) 18),true):=by kernel_rfl
theorem zTo (σ : List Nat) : aB 9 (run Tryz.E1 2000 20 0 .pl rest (tmE (tmM 9 (.it .u8 (.ofNat 97))) 10 11 (.tu [.bo true,.st [98],.fn (.func 68) [] []]) true) (aC es 18 (5 :: σ))) = some (some (.it .u8 (.ofNat 97)),some (.pt 1 0),some (.map es 18),some (.mit 0 18 (5 :: σ) 18),true):=by kernel_rfl
theorem zTp (σ : List Nat) : aB 9 (run Tryz.E1 2000 20 0 .pl rest (tmE (tmM 9 (.it .u8 (.ofNat 97))) 10 11 (.tu [.bo true,.st [116,84],.fn (.func 69) [] []]) true) (aC es 18 (6 :: σ))) = some (some (.it .u8 (.ofNat 97)),some (.pt 1 0),some (.map es 18),some (.mit 0 18 (6 :: σ) 18),true):=by kernel_rfl
theorem zTq (σ : List Nat) : aB 9 (run Tryz.E1 2000 20 0 .pl rest (tmE (tmM 9 (.it .u8 (.ofNat 97))) 10 11 (.tu [.bo true,.st [100,68],.fn (.func 70) [] []]) true) (aC es 18 (7 :: σ))) = some (some (.it .u8 (.ofNat 97)),some (.pt 1 0),some (.map es 18),some (.mit 0 18 (7 :: σ) 18),true):=by kernel_rfl
theorem zTr (σ : List Nat) : aB 9 (run Tryz.E1 2000 20 0 .pl rest (tmE (tmM 9 (.it .u8 (.ofNat 97))) 10 11 (.tu [.bo true,.st [103,71,104,72,120],.fn (.func 71) [] []]) true) (aC es 18 (8 :: σ))) = some (some (.it .u8 (.ofNat 97)),some (.pt 1 0),some (.map es 18),some (.mit 0 18 (8 :: σ) 18),true):=by kernel_rfl
theorem zTs (σ : List Nat) : aB 9 (run Tryz.E1 2000 20 0 .pl rest (tmE (tmM 9 (.it .u8 (.ofNat 97))) 10 11 (.tu [.bo true,.st [108],.fn (.func 72) [] []]) true) (aC es 18 (9 :: σ))) = some (some (.it .u8 (.ofNat 97)),some (.pt 1 0),some (.map es 18),some (.mit 0 18 (9 :: σ) 18),true):=by kernel_rfl
theorem zPh (σ : List Nat) : aB 9 (run Tryz.E1 2000 20 0 .pl rest (tmE (tmM 9 (.it .u8 (.ofNat 97))) 10 11 (.tu [.bo true,.st [110,78],.fn (.func 73) [] []]) true) (aC es 18 (10 :: σ))) = some (some (.it .u8 (.ofNat 97)),some (.pt 1 0),some (.map es 18),some (.mit 0 18 (10 :: σ) 18),true):=by kernel_rfl
theorem zPi (σ : List Nat) : aB 9 (run Tryz.E1 2000 20 0 .pl rest (tmE (tmM 9 (.it .u8 (.ofNat 97))) 10 11 (.tu [.bo true,.st [112],.fn (.func 74) [] []]) true) (aC es 18 (11 :: σ))) = some (some (.it .u8 (.ofNat 97)),some (.pt 1 0),some (.map es 18),some (.mit 0 18 (11 :: σ) 18),true):=by kernel_rfl
theorem zPj (σ : List Nat) : aB 9 (run Tryz.E1 2000 20 0 .pl rest (tmE (tmM 9 (.it .u8 (.ofNat 97))) 10 11 (.tu [.bo true,.st [80],.fn (.func 75) [] []]) true) (aC es 18 (12 :: σ))) = some (some (.it .u8 (.ofNat 97)),some (.pt 1 0),some (.map es 18),some (.mit 0 18 (12 :: σ) 18),true):=by kernel_rfl
theorem zPk (σ : List Nat) : aB 9 (run Tryz.E1 2000 20 0 .pl rest (tmE (tmM 9 (.it .u8 (.ofNat 97))) 10 11 (.tu [.bo true,.st [113,81],.fn (.func 76) [] []]) true) (aC es 18 (13 :: σ))) = some (some (.it .u8 (.ofNat 97)),some (.pt 1 0),some (.map es 18),some (.mit 0 18 (13 :: σ) 18),true):=by kernel_rfl
theorem zPl (σ : List Nat) : aB 9 (run Tryz.E1 2000 20 0 .pl rest (tmE (tmM 9 (.it .u8 (.ofNat 97))) 10 11 (.tu [.bo true,.st [114],.fn (.func 77) [] []]) true) (aC es 18 (14 :: σ))) = some (some (.it .u8 (.ofNat 97)),some (.pt 1 0),some (.map es 18),some (.mit 0 18 (14 :: σ) 18),true):=by kernel_rfl
theorem zPm (σ : List Nat) : aB 9 (run Tryz.E1 2000 20 0 .pl rest (tmE (tmM 9 (.it .u8 (.ofNat 97))) 10 11 (.tu [.bo true,.st [119],.fn (.func 78) [] []]) true) (aC es 18 (15 :: σ))) = some (some (.it .u8 (.ofNat 97)),some (.pt 1 0),some (.map es 18),some (.mit 0 18 (15 :: σ) 18),true):=by kernel_rfl
theorem zPn (σ : List Nat) : aB 9 (run Tryz.E1 2000 20 0 .pl rest (tmE (tmM 9 (.it .u8 (.ofNat 97))) 10 11 (.tu [.bo true,.st [115],.fn (.func 79) [] []]) true) (aC es 18 (16 :: σ))) = some (some (.it .u8 (.ofNat 97)),some (.pt 1 0),some (.map es 18),some (.mit 0 18 (16 :: σ) 18),true):=by kernel_rfl
theorem zPo (σ : List Nat) : aB 9 (run Tryz.E1 2000 20 0 .pl rest (tmE (tmM 9 (.it .u8 (.ofNat 97))) 10 11 (.tu [.bo true,.st [121],.fn (.func 80) [] []]) true) (aC es 18 (17 :: σ))) = some (some (.it .u8 (.ofNat 97)),some (.pt 1 0),some (.map es 18),some (.mit 0 18 (17 :: σ) 18),true):=by kernel_rfl
theorem d97 (lo : Nat) (A : W) (args : List AV) (ha : args = [.it .u8 (.ofNat 97)]) : bC Tryz.prog lo 39 args A (.ret (.fn (.func 65) [] [])) A:=by
 refine gD (E:=Tryz.E1) Tryz.E1_ok (k:=2000) (n:=20) (its:=9) (a1:=10) (a2:=11) (es:=es) (clk:=18) (eh:=(.st [97],.fn (.func 65) [] [],2)) got body shp tmps (by decide) (nx:=nx) (ex:=ex) (by kernel_rfl) (by kernel_rfl) (by kernel_rfl) (by kernel_rfl) (by kernel_rfl) (by kernel_rfl) (by decide) (by kernel_rfl)
  (by kernel_rfl) (by kernel_rfl) (by kernel_rfl) (by kernel_rfl) (by kernel_rfl) (by kernel_rfl) (by simp [es]) (fun e he hne σ => ?_) (fun σ => by kernel_rfl) lo A args ha
 simp only [es,List.mem_cons,List.not_mem_nil,or_false] at he
 rcases he with rfl | rfl | rfl | rfl | rfl | rfl | rfl | rfl | rfl | rfl | rfl | rfl | rfl | rfl | rfl | rfl | rfl | rfl
 ·exact zTk σ
 ·exact zTl σ
 ·exact absurd rfl hne
 ·exact zTm σ
 ·exact zTn σ
 ·exact zTo σ
 ·exact zTp σ
 ·exact zTq σ
 ·exact zTr σ
 ·exact zTs σ
 ·exact zPh σ
 ·exact zPi σ
 ·exact zPj σ
 ·exact zPk σ
 ·exact zPl σ
 ·exact zPm σ
 ·exact zPn σ
 ·exact zPo σ
theorem zPp (σ : List Nat) : aB 9 (run Tryz.E1 2000 20 0 .pl rest (tmE (tmM 9 (.it .u8 (.ofNat 100))) 10 11 (.tu [.bo true,.st [123,125],.fn (.func 63) [] []]) true) (aC es 18 (0 :: σ))) = some (some (.it .u8 (.ofNat 100)),some (.pt 1 0),some (.map es 18),some (.mit 0 18 (0 :: σ) 18),true):=by kernel_rfl
theorem zPq (σ : List Nat) : aB 9 (run Tryz.E1 2000 20 0 .pl rest (tmE (tmM 9 (.it .u8 (.ofNat 100))) 10 11 (.tu [.bo true,.st [61],.fn (.func 64) [] []]) true) (aC es 18 (1 :: σ))) = some (some (.it .u8 (.ofNat 100)),some (.pt 1 0),some (.map es 18),some (.mit 0 18 (1 :: σ) 18),true):=by kernel_rfl
theorem zPr (σ : List Nat) : aB 9 (run Tryz.E1 2000 20 0 .pl rest (tmE (tmM 9 (.it .u8 (.ofNat 100))) 10 11 (.tu [.bo true,.st [97],.fn (.func 65) [] []]) true) (aC es 18 (2 :: σ))) = some (some (.it .u8 (.ofNat 100)),some (.pt 1 0),some (.map es 18),some (.mit 0 18 (2 :: σ) 18),true):=by kernel_rfl
theorem zPs (σ : List Nat) : aB 9 (run Tryz.E1 2000 20 0 .pl rest (tmE (tmM 9 (.it .u8 (.ofNat 100))) 10 11 (.tu [.bo true,.st [105],.fn (.func 66) [] []]) true) (aC es 18 (3 :: σ))) = some (some (.it .u8 (.ofNat 100)),some (.pt 1 0),some (.map es 18),some (.mit 0 18 (3 :: σ) 18),true):=by kernel_rfl
theorem zPt (σ : List Nat) : aB 9 (run Tryz.E1 2000 20 0 .pl rest (tmE (tmM 9 (.it .u8 (.ofNat 100))) 10 11 (.tu [.bo true,.st [99],.fn (.func 67) [] []]) true) (aC es 18 (4 :: σ))) = some (some (.it .u8 (.ofNat 100)),some (.pt 1 0),some (.map es 18),some (.mit 0 18 (4 :: σ) 18),true):=by kernel_rfl
theorem zPu (σ : List Nat) : aB 9 (run Tryz.E1 2000 20 0 .pl rest (tmE (tmM 9 (.it .u8 (.ofNat 100))) 10 11 (.tu [.bo true,.st [98],.fn (.func 68) [] []]) true) (aC es 18 (5 :: σ))) = some (some (.it .u8 (.ofNat 100)),some (.pt 1 0),some (.map es 18),some (.mit 0 18 (5 :: σ) 18),true):=by kernel_rfl
theorem zPv (σ : List Nat) : aB 9 (run Tryz.E1 2000 20 0 .pl rest (tmE (tmM 9 (.it .u8 (.ofNat 100))) 10 11 (.tu [.bo true,.st [116,84],.fn (.func 69) [] []]) true) (aC es 18 (6 :: σ))) = some (some (.it .u8 (.ofNat 100)),some (.pt 1 0),some (.map es 18),some (.mit 0 18 (6 :: σ) 18),true):=by kernel_rfl
theorem zPw (σ : List Nat) : aB 9 (run Tryz.E1 2000 20 0 .pl rest (tmE (tmM 9 (.it .u8 (.ofNat 100))) 10 11 (.tu [.bo true,.st [103,71,104,72,120],.fn (.func 71) [] []]) true) (aC es 18 (8 :: σ))) = some (some (.it .u8 (.ofNat 100)),some (.pt 1 0),some (.map es 18),some (.mit 0 18 (8 :: σ) 18),true):=by kernel_rfl
theorem zPx (σ : List Nat) : aB 9 (run Tryz.E1 2000 20 0 .pl rest (tmE (tmM 9 (.it .u8 (.ofNat 100))) 10 11 (.tu [.bo true,.st [108],.fn (.func 72) [] []]) true) (aC es 18 (9 :: σ))) = some (some (.it .u8 (.ofNat 100)),some (.pt 1 0),some (.map es 18),some (.mit 0 18 (9 :: σ) 18),true):=by kernel_rfl
theorem zLc (σ : List Nat) : aB 9 (run Tryz.E1 2000 20 0 .pl rest (tmE (tmM 9 (.it .u8 (.ofNat 100))) 10 11 (.tu [.bo true,.st [110,78],.fn (.func 73) [] []]) true) (aC es 18 (10 :: σ))) = some (some (.it .u8 (.ofNat 100)),some (.pt 1 0),some (.map es 18),some (.mit 0 18 (10 :: σ) 18),true):=by kernel_rfl
theorem zLd (σ : List Nat) : aB 9 (run Tryz.E1 2000 20 0 .pl rest (tmE (tmM 9 (.it .u8 (.ofNat 100))) 10 11 (.tu [.bo true,.st [112],.fn (.func 74) [] []]) true) (aC es 18 (11 :: σ))) = some (some (.it .u8 (.ofNat 100)),some (.pt 1 0),some (.map es 18),some (.mit 0 18 (11 :: σ) 18),true):=by kernel_rfl
theorem zLe (σ : List Nat) : aB 9 (run Tryz.E1 2000 20 0 .pl rest (tmE (tmM 9 (.it .u8 (.ofNat 100))) 10 11 (.tu [.bo true,.st [80],.fn (.func 75) [] []]) true) (aC es 18 (12 :: σ))) = some (some (.it .u8 (.ofNat 100)),some (.pt 1 0),some (.map es 18),some (.mit 0 18 (12 :: σ) 18),true):=by kernel_rfl
theorem zLf (σ : List Nat) : aB 9 (run Tryz.E1 2000 20 0 .pl rest (tmE (tmM 9 (.it .u8 (.ofNat 100))) 10 11 (.tu [.bo true,.st [113,81],.fn (.func 76) [] []]) true) (aC es 18 (13 :: σ))) = some (some (.it .u8 (.ofNat 100)),some (.pt 1 0),some (.map es 18),some (.mit 0 18 (13 :: σ) 18),true):=by kernel_rfl
theorem zLg (σ : List Nat) : aB 9 (run Tryz.E1 2000 20 0 .pl rest (tmE (tmM 9 (.it .u8 (.ofNat 100))) 10 11 (.tu [.bo true,.st [114],.fn (.func 77) [] []]) true) (aC es 18 (14 :: σ))) = some (some (.it .u8 (.ofNat 100)),some (.pt 1 0),some (.map es 18),some (.mit 0 18 (14 :: σ) 18),true):=by kernel_rfl
theorem zLh (σ : List Nat) : aB 9 (run Tryz.E1 2000 20 0 .pl rest (tmE (tmM 9 (.it .u8 (.ofNat 100))) 10 11 (.tu [.bo true,.st [119],.fn (.func 78) [] []]) true) (aC es 18 (15 :: σ))) = some (some (.it .u8 (.ofNat 100)),some (.pt 1 0),some (.map es 18),some (.mit 0 18 (15 :: σ) 18),true):=by kernel_rfl
theorem zLi (σ : List Nat) : aB 9 (run Tryz.E1 2000 20 0 .pl rest (tmE (tmM 9 (.it .u8 (.ofNat 100))) 10 11 (.tu [.bo true,.st [115],.fn (.func 79) [] []]) true) (aC es 18 (16 :: σ))) = some (some (.it .u8 (.ofNat 100)),some (.pt 1 0),some (.map es 18),some (.mit 0 18 (16 :: σ) 18),true):=by kernel_rfl
theorem zLj (σ : List Nat) : aB 9 (run Tryz.E1 2000 20 0 .pl rest (tmE (tmM 9 (.it .u8 (.ofNat 100))) 10 11 (.tu [.bo true,.st [121],.fn (.func 80) [] []]) true) (aC es 18 (17 :: σ))) = some (some (.it .u8 (.ofNat 100)),some (.pt 1 0),some (.map es 18),some (.mit 0 18 (17 :: σ) 18),true):=by kernel_rfl
theorem d100 (lo : Nat) (A : W) (args : List AV) (ha : args = [.it .u8 (.ofNat 100)]) : bC Tryz.prog lo 39 args A (.ret (.fn (.func 70) [] [])) A:=by
 refine gD (E:=Tryz.E1) Tryz.E1_ok (k:=2000) (n:=20) (its:=9) (a1:=10) (a2:=11) (es:=es) (clk:=18) (eh:=(.st [100,68],.fn (.func 70) [] [],7)) got body shp tmps (by decide) (nx:=nx) (ex:=ex) (by kernel_rfl) (by kernel_rfl) (by kernel_rfl) (by kernel_rfl) (by kernel_rfl) (by kernel_rfl) (by decide) (by kernel_rfl)
  (by kernel_rfl) (by kernel_rfl) (by kernel_rfl) (by kernel_rfl) (by kernel_rfl) (by kernel_rfl) (by simp [es]) (fun e he hne σ => ?_) (fun σ => by kernel_rfl) lo A args ha
 simp only [es,List.mem_cons,List.not_mem_nil,or_false] at he
 rcases he with rfl | rfl | rfl | rfl | rfl | rfl | rfl | rfl | rfl | rfl | rfl | rfl | rfl | rfl | rfl | rfl | rfl | rfl
 ·exact zPp σ
 ·exact zPq σ
 ·exact zPr σ
 ·exact zPs σ
 ·exact zPt σ
 ·exact zPu σ
 ·exact zPv σ
 ·exact absurd rfl hne
 ·exact zPw σ
 ·exact zPx σ
 ·exact zLc σ
 ·exact zLd σ
 ·exact zLe σ
 ·exact zLf σ
 ·exact zLg σ
 ·exact zLh σ
 ·exact zLi σ
 ·exact zLj σ
theorem zPy (σ : List Nat) : aB 9 (run Tryz.E1 2000 20 0 .pl rest (tmE (tmM 9 (.it .u8 (.ofNat 103))) 10 11 (.tu [.bo true,.st [123,125],.fn (.func 63) [] []]) true) (aC es 18 (0 :: σ))) = some (some (.it .u8 (.ofNat 103)),some (.pt 1 0),some (.map es 18),some (.mit 0 18 (0 :: σ) 18),true):=by kernel_rfl
theorem zPz (σ : List Nat) : aB 9 (run Tryz.E1 2000 20 0 .pl rest (tmE (tmM 9 (.it .u8 (.ofNat 103))) 10 11 (.tu [.bo true,.st [61],.fn (.func 64) [] []]) true) (aC es 18 (1 :: σ))) = some (some (.it .u8 (.ofNat 103)),some (.pt 1 0),some (.map es 18),some (.mit 0 18 (1 :: σ) 18),true):=by kernel_rfl
theorem zQa (σ : List Nat) : aB 9 (run Tryz.E1 2000 20 0 .pl rest (tmE (tmM 9 (.it .u8 (.ofNat 103))) 10 11 (.tu [.bo true,.st [97],.fn (.func 65) [] []]) true) (aC es 18 (2 :: σ))) = some (some (.it .u8 (.ofNat 103)),some (.pt 1 0),some (.map es 18),some (.mit 0 18 (2 :: σ) 18),true):=by kernel_rfl
theorem zQb (σ : List Nat) : aB 9 (run Tryz.E1 2000 20 0 .pl rest (tmE (tmM 9 (.it .u8 (.ofNat 103))) 10 11 (.tu [.bo true,.st [105],.fn (.func 66) [] []]) true) (aC es 18 (3 :: σ))) = some (some (.it .u8 (.ofNat 103)),some (.pt 1 0),some (.map es 18),some (.mit 0 18 (3 :: σ) 18),true):=by kernel_rfl
theorem zQc (σ : List Nat) : aB 9 (run Tryz.E1 2000 20 0 .pl rest (tmE (tmM 9 (.it .u8 (.ofNat 103))) 10 11 (.tu [.bo true,.st [99],.fn (.func 67) [] []]) true) (aC es 18 (4 :: σ))) = some (some (.it .u8 (.ofNat 103)),some (.pt 1 0),some (.map es 18),some (.mit 0 18 (4 :: σ) 18),true):=by kernel_rfl
theorem zQd (σ : List Nat) : aB 9 (run Tryz.E1 2000 20 0 .pl rest (tmE (tmM 9 (.it .u8 (.ofNat 103))) 10 11 (.tu [.bo true,.st [98],.fn (.func 68) [] []]) true) (aC es 18 (5 :: σ))) = some (some (.it .u8 (.ofNat 103)),some (.pt 1 0),some (.map es 18),some (.mit 0 18 (5 :: σ) 18),true):=by kernel_rfl
theorem zQe (σ : List Nat) : aB 9 (run Tryz.E1 2000 20 0 .pl rest (tmE (tmM 9 (.it .u8 (.ofNat 103))) 10 11 (.tu [.bo true,.st [116,84],.fn (.func 69) [] []]) true) (aC es 18 (6 :: σ))) = some (some (.it .u8 (.ofNat 103)),some (.pt 1 0),some (.map es 18),some (.mit 0 18 (6 :: σ) 18),true):=by kernel_rfl
theorem zQf (σ : List Nat) : aB 9 (run Tryz.E1 2000 20 0 .pl rest (tmE (tmM 9 (.it .u8 (.ofNat 103))) 10 11 (.tu [.bo true,.st [100,68],.fn (.func 70) [] []]) true) (aC es 18 (7 :: σ))) = some (some (.it .u8 (.ofNat 103)),some (.pt 1 0),some (.map es 18),some (.mit 0 18 (7 :: σ) 18),true):=by kernel_rfl
theorem zQg (σ : List Nat) : aB 9 (run Tryz.E1 2000 20 0 .pl rest (tmE (tmM 9 (.it .u8 (.ofNat 103))) 10 11 (.tu [.bo true,.st [108],.fn (.func 72) [] []]) true) (aC es 18 (9 :: σ))) = some (some (.it .u8 (.ofNat 103)),some (.pt 1 0),some (.map es 18),some (.mit 0 18 (9 :: σ) 18),true):=by kernel_rfl
theorem zLk (σ : List Nat) : aB 9 (run Tryz.E1 2000 20 0 .pl rest (tmE (tmM 9 (.it .u8 (.ofNat 103))) 10 11 (.tu [.bo true,.st [110,78],.fn (.func 73) [] []]) true) (aC es 18 (10 :: σ))) = some (some (.it .u8 (.ofNat 103)),some (.pt 1 0),some (.map es 18),some (.mit 0 18 (10 :: σ) 18),true):=by kernel_rfl
theorem zLl (σ : List Nat) : aB 9 (run Tryz.E1 2000 20 0 .pl rest (tmE (tmM 9 (.it .u8 (.ofNat 103))) 10 11 (.tu [.bo true,.st [112],.fn (.func 74) [] []]) true) (aC es 18 (11 :: σ))) = some (some (.it .u8 (.ofNat 103)),some (.pt 1 0),some (.map es 18),some (.mit 0 18 (11 :: σ) 18),true):=by kernel_rfl
theorem zLm (σ : List Nat) : aB 9 (run Tryz.E1 2000 20 0 .pl rest (tmE (tmM 9 (.it .u8 (.ofNat 103))) 10 11 (.tu [.bo true,.st [80],.fn (.func 75) [] []]) true) (aC es 18 (12 :: σ))) = some (some (.it .u8 (.ofNat 103)),some (.pt 1 0),some (.map es 18),some (.mit 0 18 (12 :: σ) 18),true):=by kernel_rfl
theorem zLn (σ : List Nat) : aB 9 (run Tryz.E1 2000 20 0 .pl rest (tmE (tmM 9 (.it .u8 (.ofNat 103))) 10 11 (.tu [.bo true,.st [113,81],.fn (.func 76) [] []]) true) (aC es 18 (13 :: σ))) = some (some (.it .u8 (.ofNat 103)),some (.pt 1 0),some (.map es 18),some (.mit 0 18 (13 :: σ) 18),true):=by kernel_rfl
theorem zLo (σ : List Nat) : aB 9 (run Tryz.E1 2000 20 0 .pl rest (tmE (tmM 9 (.it .u8 (.ofNat 103))) 10 11 (.tu [.bo true,.st [114],.fn (.func 77) [] []]) true) (aC es 18 (14 :: σ))) = some (some (.it .u8 (.ofNat 103)),some (.pt 1 0),some (.map es 18),some (.mit 0 18 (14 :: σ) 18),true):=by kernel_rfl
theorem zLp (σ : List Nat) : aB 9 (run Tryz.E1 2000 20 0 .pl rest (tmE (tmM 9 (.it .u8 (.ofNat 103))) 10 11 (.tu [.bo true,.st [119],.fn (.func 78) [] []]) true) (aC es 18 (15 :: σ))) = some (some (.it .u8 (.ofNat 103)),some (.pt 1 0),some (.map es 18),some (.mit 0 18 (15 :: σ) 18),true):=by kernel_rfl
theorem zLq (σ : List Nat) : aB 9 (run Tryz.E1 2000 20 0 .pl rest (tmE (tmM 9 (.it .u8 (.ofNat 103))) 10 11 (.tu [.bo true,.st [115],.fn (.func 79) [] []]) true) (aC es 18 (16 :: σ))) = some (some (.it .u8 (.ofNat 103)),some (.pt 1 0),some (.map es 18),some (.mit 0 18 (16 :: σ) 18),true):=by kernel_rfl
theorem zLr (σ : List Nat) : aB 9 (run Tryz.E1 2000 20 0 .pl rest (tmE (tmM 9 (.it .u8 (.ofNat 103))) 10 11 (.tu [.bo true,.st [121],.fn (.func 80) [] []]) true) (aC es 18 (17 :: σ))) = some (some (.it .u8 (.ofNat 103)),some (.pt 1 0),some (.map es 18),some (.mit 0 18 (17 :: σ) 18),true):=by kernel_rfl
theorem d103 (lo : Nat) (A : W) (args : List AV) (ha : args = [.it .u8 (.ofNat 103)]) : bC Tryz.prog lo 39 args A (.ret (.fn (.func 71) [] [])) A:=by
 refine gD (E:=Tryz.E1) Tryz.E1_ok (k:=2000) (n:=20) (its:=9) (a1:=10) (a2:=11) (es:=es) (clk:=18) (eh:=(.st [103,71,104,72,120],.fn (.func 71) [] [],8)) got body shp tmps (by decide) (nx:=nx) (ex:=ex) (by kernel_rfl) (by kernel_rfl) (by kernel_rfl) (by kernel_rfl) (by kernel_rfl) (by kernel_rfl) (by decide) (by kernel_rfl)
  (by kernel_rfl) (by kernel_rfl) (by kernel_rfl) (by kernel_rfl) (by kernel_rfl) (by kernel_rfl) (by simp [es]) (fun e he hne σ => ?_) (fun σ => by kernel_rfl) lo A args ha
 simp only [es,List.mem_cons,List.not_mem_nil,or_false] at he
 rcases he with rfl | rfl | rfl | rfl | rfl | rfl | rfl | rfl | rfl | rfl | rfl | rfl | rfl | rfl | rfl | rfl | rfl | rfl
 ·exact zPy σ
 ·exact zPz σ
 ·exact zQa σ
 ·exact zQb σ
 ·exact zQc σ
 ·exact zQd σ
 ·exact zQe σ
 ·exact zQf σ
 ·exact absurd rfl hne
 ·exact zQg σ
 ·exact zLk σ
 ·exact zLl σ
 ·exact zLm σ
 ·exact zLn σ
 ·exact zLo σ
 ·exact zLp σ
 ·exact zLq σ
 ·exact zLr σ
theorem zTt (σ : List Nat) : aB 9 (run Tryz.E1 2000 20 0 .pl rest (tmE (tmM 9 (.it .u8 (.ofNat 71))) 10 11 (.tu [.bo true,.st [123,125],.fn (.func 63) [] []]) true) (aC es 18 (0 :: σ))) = some (some (.it .u8 (.ofNat 71)),some (.pt 1 0),some (.map es 18),some (.mit 0 18 (0 :: σ) 18),true):=by kernel_rfl
theorem zTu (σ : List Nat) : aB 9 (run Tryz.E1 2000 20 0 .pl rest (tmE (tmM 9 (.it .u8 (.ofNat 71))) 10 11 (.tu [.bo true,.st [61],.fn (.func 64) [] []]) true) (aC es 18 (1 :: σ))) = some (some (.it .u8 (.ofNat 71)),some (.pt 1 0),some (.map es 18),some (.mit 0 18 (1 :: σ) 18),true):=by kernel_rfl
theorem zTv (σ : List Nat) : aB 9 (run Tryz.E1 2000 20 0 .pl rest (tmE (tmM 9 (.it .u8 (.ofNat 71))) 10 11 (.tu [.bo true,.st [97],.fn (.func 65) [] []]) true) (aC es 18 (2 :: σ))) = some (some (.it .u8 (.ofNat 71)),some (.pt 1 0),some (.map es 18),some (.mit 0 18 (2 :: σ) 18),true):=by kernel_rfl
theorem zTw (σ : List Nat) : aB 9 (run Tryz.E1 2000 20 0 .pl rest (tmE (tmM 9 (.it .u8 (.ofNat 71))) 10 11 (.tu [.bo true,.st [105],.fn (.func 66) [] []]) true) (aC es 18 (3 :: σ))) = some (some (.it .u8 (.ofNat 71)),some (.pt 1 0),some (.map es 18),some (.mit 0 18 (3 :: σ) 18),true):=by kernel_rfl
theorem zTx (σ : List Nat) : aB 9 (run Tryz.E1 2000 20 0 .pl rest (tmE (tmM 9 (.it .u8 (.ofNat 71))) 10 11 (.tu [.bo true,.st [99],.fn (.func 67) [] []]) true) (aC es 18 (4 :: σ))) = some (some (.it .u8 (.ofNat 71)),some (.pt 1 0),some (.map es 18),some (.mit 0 18 (4 :: σ) 18),true):=by kernel_rfl
theorem zTy (σ : List Nat) : aB 9 (run Tryz.E1 2000 20 0 .pl rest (tmE (tmM 9 (.it .u8 (.ofNat 71))) 10 11 (.tu [.bo true,.st [98],.fn (.func 68) [] []]) true) (aC es 18 (5 :: σ))) = some (some (.it .u8 (.ofNat 71)),some (.pt 1 0),some (.map es 18),some (.mit 0 18 (5 :: σ) 18),true):=by kernel_rfl
theorem zTz (σ : List Nat) : aB 9 (run Tryz.E1 2000 20 0 .pl rest (tmE (tmM 9 (.it .u8 (.ofNat 71))) 10 11 (.tu [.bo true,.st [116,84],.fn (.func 69) [] []]) true) (aC es 18 (6 :: σ))) = some (some (.it .u8 (.ofNat 71)),some (.pt 1 0),some (.map es 18),some (.mit 0 18 (6 :: σ) 18),true):=by kernel_rfl
theorem zUa (σ : List Nat) : aB 9 (run Tryz.E1 2000 20 0 .pl rest (tmE (tmM 9 (.it .u8 (.ofNat 71))) 10 11 (.tu [.bo true,.st [100,68],.fn (.func 70) [] []]) true) (aC es 18 (7 :: σ))) = some (some (.it .u8 (.ofNat 71)),some (.pt 1 0),some (.map es 18),some (.mit 0 18 (7 :: σ) 18),true):=by kernel_rfl
theorem zUb (σ : List Nat) : aB 9 (run Tryz.E1 2000 20 0 .pl rest (tmE (tmM 9 (.it .u8 (.ofNat 71))) 10 11 (.tu [.bo true,.st [108],.fn (.func 72) [] []]) true) (aC es 18 (9 :: σ))) = some (some (.it .u8 (.ofNat 71)),some (.pt 1 0),some (.map es 18),some (.mit 0 18 (9 :: σ) 18),true):=by kernel_rfl
theorem zQh (σ : List Nat) : aB 9 (run Tryz.E1 2000 20 0 .pl rest (tmE (tmM 9 (.it .u8 (.ofNat 71))) 10 11 (.tu [.bo true,.st [110,78],.fn (.func 73) [] []]) true) (aC es 18 (10 :: σ))) = some (some (.it .u8 (.ofNat 71)),some (.pt 1 0),some (.map es 18),some (.mit 0 18 (10 :: σ) 18),true):=by kernel_rfl
theorem zQi (σ : List Nat) : aB 9 (run Tryz.E1 2000 20 0 .pl rest (tmE (tmM 9 (.it .u8 (.ofNat 71))) 10 11 (.tu [.bo true,.st [112],.fn (.func 74) [] []]) true) (aC es 18 (11 :: σ))) = some (some (.it .u8 (.ofNat 71)),some (.pt 1 0),some (.map es 18),some (.mit 0 18 (11 :: σ) 18),true):=by kernel_rfl
theorem zQj (σ : List Nat) : aB 9 (run Tryz.E1 2000 20 0 .pl rest (tmE (tmM 9 (.it .u8 (.ofNat 71))) 10 11 (.tu [.bo true,.st [80],.fn (.func 75) [] []]) true) (aC es 18 (12 :: σ))) = some (some (.it .u8 (.ofNat 71)),some (.pt 1 0),some (.map es 18),some (.mit 0 18 (12 :: σ) 18),true):=by kernel_rfl
theorem zQk (σ : List Nat) : aB 9 (run Tryz.E1 2000 20 0 .pl rest (tmE (tmM 9 (.it .u8 (.ofNat 71))) 10 11 (.tu [.bo true,.st [113,81],.fn (.func 76) [] []]) true) (aC es 18 (13 :: σ))) = some (some (.it .u8 (.ofNat 71)),some (.pt 1 0),some (.map es 18),some (.mit 0 18 (13 :: σ) 18),true):=by kernel_rfl
theorem zQl (σ : List Nat) : aB 9 (run Tryz.E1 2000 20 0 .pl rest (tmE (tmM 9 (.it .u8 (.ofNat 71))) 10 11 (.tu [.bo true,.st [114],.fn (.func 77) [] []]) true) (aC es 18 (14 :: σ))) = some (some (.it .u8 (.ofNat 71)),some (.pt 1 0),some (.map es 18),some (.mit 0 18 (14 :: σ) 18),true):=by kernel_rfl
theorem zQm (σ : List Nat) : aB 9 (run Tryz.E1 2000 20 0 .pl rest (tmE (tmM 9 (.it .u8 (.ofNat 71))) 10 11 (.tu [.bo true,.st [119],.fn (.func 78) [] []]) true) (aC es 18 (15 :: σ))) = some (some (.it .u8 (.ofNat 71)),some (.pt 1 0),some (.map es 18),some (.mit 0 18 (15 :: σ) 18),true):=by kernel_rfl
theorem zQn (σ : List Nat) : aB 9 (run Tryz.E1 2000 20 0 .pl rest (tmE (tmM 9 (.it .u8 (.ofNat 71))) 10 11 (.tu [.bo true,.st [115],.fn (.func 79) [] []]) true) (aC es 18 (16 :: σ))) = some (some (.it .u8 (.ofNat 71)),some (.pt 1 0),some (.map es 18),some (.mit 0 18 (16 :: σ) 18),true):=by kernel_rfl
theorem zQo (σ : List Nat) : aB 9 (run Tryz.E1 2000 20 0 .pl rest (tmE (tmM 9 (.it .u8 (.ofNat 71))) 10 11 (.tu [.bo true,.st [121],.fn (.func 80) [] []]) true) (aC es 18 (17 :: σ))) = some (some (.it .u8 (.ofNat 71)),some (.pt 1 0),some (.map es 18),some (.mit 0 18 (17 :: σ) 18),true):=by kernel_rfl
theorem d71 (lo : Nat) (A : W) (args : List AV) (ha : args = [.it .u8 (.ofNat 71)]) : bC Tryz.prog lo 39 args A (.ret (.fn (.func 71) [] [])) A:=by
 refine gD (E:=Tryz.E1) Tryz.E1_ok (k:=2000) (n:=20) (its:=9) (a1:=10) (a2:=11) (es:=es) (clk:=18) (eh:=(.st [103,71,104,72,120],.fn (.func 71) [] [],8)) got body shp tmps (by decide) (nx:=nx) (ex:=ex) (by kernel_rfl) (by kernel_rfl) (by kernel_rfl) (by kernel_rfl) (by kernel_rfl) (by kernel_rfl) (by decide) (by kernel_rfl)
  (by kernel_rfl) (by kernel_rfl) (by kernel_rfl) (by kernel_rfl) (by kernel_rfl) (by kernel_rfl) (by simp [es]) (fun e he hne σ => ?_) (fun σ => by kernel_rfl) lo A args ha
 simp only [es,List.mem_cons,List.not_mem_nil,or_false] at he
 rcases he with rfl | rfl | rfl | rfl | rfl | rfl | rfl | rfl | rfl | rfl | rfl | rfl | rfl | rfl | rfl | rfl | rfl | rfl
 ·exact zTt σ
 ·exact zTu σ
 ·exact zTv σ
 ·exact zTw σ
 ·exact zTx σ
 ·exact zTy σ
 ·exact zTz σ
 ·exact zUa σ
 ·exact absurd rfl hne
 ·exact zUb σ
 ·exact zQh σ
 ·exact zQi σ
 ·exact zQj σ
 ·exact zQk σ
 ·exact zQl σ
 ·exact zQm σ
 ·exact zQn σ
 ·exact zQo σ
theorem zQp (σ : List Nat) : aB 9 (run Tryz.E1 2000 20 0 .pl rest (tmE (tmM 9 (.it .u8 (.ofNat 104))) 10 11 (.tu [.bo true,.st [123,125],.fn (.func 63) [] []]) true) (aC es 18 (0 :: σ))) = some (some (.it .u8 (.ofNat 104)),some (.pt 1 0),some (.map es 18),some (.mit 0 18 (0 :: σ) 18),true):=by kernel_rfl
theorem zQq (σ : List Nat) : aB 9 (run Tryz.E1 2000 20 0 .pl rest (tmE (tmM 9 (.it .u8 (.ofNat 104))) 10 11 (.tu [.bo true,.st [61],.fn (.func 64) [] []]) true) (aC es 18 (1 :: σ))) = some (some (.it .u8 (.ofNat 104)),some (.pt 1 0),some (.map es 18),some (.mit 0 18 (1 :: σ) 18),true):=by kernel_rfl
theorem zQr (σ : List Nat) : aB 9 (run Tryz.E1 2000 20 0 .pl rest (tmE (tmM 9 (.it .u8 (.ofNat 104))) 10 11 (.tu [.bo true,.st [97],.fn (.func 65) [] []]) true) (aC es 18 (2 :: σ))) = some (some (.it .u8 (.ofNat 104)),some (.pt 1 0),some (.map es 18),some (.mit 0 18 (2 :: σ) 18),true):=by kernel_rfl
theorem zQs (σ : List Nat) : aB 9 (run Tryz.E1 2000 20 0 .pl rest (tmE (tmM 9 (.it .u8 (.ofNat 104))) 10 11 (.tu [.bo true,.st [105],.fn (.func 66) [] []]) true) (aC es 18 (3 :: σ))) = some (some (.it .u8 (.ofNat 104)),some (.pt 1 0),some (.map es 18),some (.mit 0 18 (3 :: σ) 18),true):=by kernel_rfl
theorem zQt (σ : List Nat) : aB 9 (run Tryz.E1 2000 20 0 .pl rest (tmE (tmM 9 (.it .u8 (.ofNat 104))) 10 11 (.tu [.bo true,.st [99],.fn (.func 67) [] []]) true) (aC es 18 (4 :: σ))) = some (some (.it .u8 (.ofNat 104)),some (.pt 1 0),some (.map es 18),some (.mit 0 18 (4 :: σ) 18),true):=by kernel_rfl
theorem zQu (σ : List Nat) : aB 9 (run Tryz.E1 2000 20 0 .pl rest (tmE (tmM 9 (.it .u8 (.ofNat 104))) 10 11 (.tu [.bo true,.st [98],.fn (.func 68) [] []]) true) (aC es 18 (5 :: σ))) = some (some (.it .u8 (.ofNat 104)),some (.pt 1 0),some (.map es 18),some (.mit 0 18 (5 :: σ) 18),true):=by kernel_rfl
theorem zQv (σ : List Nat) : aB 9 (run Tryz.E1 2000 20 0 .pl rest (tmE (tmM 9 (.it .u8 (.ofNat 104))) 10 11 (.tu [.bo true,.st [116,84],.fn (.func 69) [] []]) true) (aC es 18 (6 :: σ))) = some (some (.it .u8 (.ofNat 104)),some (.pt 1 0),some (.map es 18),some (.mit 0 18 (6 :: σ) 18),true):=by kernel_rfl
theorem zQw (σ : List Nat) : aB 9 (run Tryz.E1 2000 20 0 .pl rest (tmE (tmM 9 (.it .u8 (.ofNat 104))) 10 11 (.tu [.bo true,.st [100,68],.fn (.func 70) [] []]) true) (aC es 18 (7 :: σ))) = some (some (.it .u8 (.ofNat 104)),some (.pt 1 0),some (.map es 18),some (.mit 0 18 (7 :: σ) 18),true):=by kernel_rfl
theorem zQx (σ : List Nat) : aB 9 (run Tryz.E1 2000 20 0 .pl rest (tmE (tmM 9 (.it .u8 (.ofNat 104))) 10 11 (.tu [.bo true,.st [108],.fn (.func 72) [] []]) true) (aC es 18 (9 :: σ))) = some (some (.it .u8 (.ofNat 104)),some (.pt 1 0),some (.map es 18),some (.mit 0 18 (9 :: σ) 18),true):=by kernel_rfl
theorem zLs (σ : List Nat) : aB 9 (run Tryz.E1 2000 20 0 .pl rest (tmE (tmM 9 (.it .u8 (.ofNat 104))) 10 11 (.tu [.bo true,.st [110,78],.fn (.func 73) [] []]) true) (aC es 18 (10 :: σ))) = some (some (.it .u8 (.ofNat 104)),some (.pt 1 0),some (.map es 18),some (.mit 0 18 (10 :: σ) 18),true):=by kernel_rfl
theorem zLt (σ : List Nat) : aB 9 (run Tryz.E1 2000 20 0 .pl rest (tmE (tmM 9 (.it .u8 (.ofNat 104))) 10 11 (.tu [.bo true,.st [112],.fn (.func 74) [] []]) true) (aC es 18 (11 :: σ))) = some (some (.it .u8 (.ofNat 104)),some (.pt 1 0),some (.map es 18),some (.mit 0 18 (11 :: σ) 18),true):=by kernel_rfl
theorem zLu (σ : List Nat) : aB 9 (run Tryz.E1 2000 20 0 .pl rest (tmE (tmM 9 (.it .u8 (.ofNat 104))) 10 11 (.tu [.bo true,.st [80],.fn (.func 75) [] []]) true) (aC es 18 (12 :: σ))) = some (some (.it .u8 (.ofNat 104)),some (.pt 1 0),some (.map es 18),some (.mit 0 18 (12 :: σ) 18),true):=by kernel_rfl
theorem zLv (σ : List Nat) : aB 9 (run Tryz.E1 2000 20 0 .pl rest (tmE (tmM 9 (.it .u8 (.ofNat 104))) 10 11 (.tu [.bo true,.st [113,81],.fn (.func 76) [] []]) true) (aC es 18 (13 :: σ))) = some (some (.it .u8 (.ofNat 104)),some (.pt 1 0),some (.map es 18),some (.mit 0 18 (13 :: σ) 18),true):=by kernel_rfl
theorem zLw (σ : List Nat) : aB 9 (run Tryz.E1 2000 20 0 .pl rest (tmE (tmM 9 (.it .u8 (.ofNat 104))) 10 11 (.tu [.bo true,.st [114],.fn (.func 77) [] []]) true) (aC es 18 (14 :: σ))) = some (some (.it .u8 (.ofNat 104)),some (.pt 1 0),some (.map es 18),some (.mit 0 18 (14 :: σ) 18),true):=by kernel_rfl
theorem zLx (σ : List Nat) : aB 9 (run Tryz.E1 2000 20 0 .pl rest (tmE (tmM 9 (.it .u8 (.ofNat 104))) 10 11 (.tu [.bo true,.st [119],.fn (.func 78) [] []]) true) (aC es 18 (15 :: σ))) = some (some (.it .u8 (.ofNat 104)),some (.pt 1 0),some (.map es 18),some (.mit 0 18 (15 :: σ) 18),true):=by kernel_rfl
theorem zLy (σ : List Nat) : aB 9 (run Tryz.E1 2000 20 0 .pl rest (tmE (tmM 9 (.it .u8 (.ofNat 104))) 10 11 (.tu [.bo true,.st [115],.fn (.func 79) [] []]) true) (aC es 18 (16 :: σ))) = some (some (.it .u8 (.ofNat 104)),some (.pt 1 0),some (.map es 18),some (.mit 0 18 (16 :: σ) 18),true):=by kernel_rfl
theorem zLz (σ : List Nat) : aB 9 (run Tryz.E1 2000 20 0 .pl rest (tmE (tmM 9 (.it .u8 (.ofNat 104))) 10 11 (.tu [.bo true,.st [121],.fn (.func 80) [] []]) true) (aC es 18 (17 :: σ))) = some (some (.it .u8 (.ofNat 104)),some (.pt 1 0),some (.map es 18),some (.mit 0 18 (17 :: σ) 18),true):=by kernel_rfl
theorem d104 (lo : Nat) (A : W) (args : List AV) (ha : args = [.it .u8 (.ofNat 104)]) : bC Tryz.prog lo 39 args A (.ret (.fn (.func 71) [] [])) A:=by
 refine gD (E:=Tryz.E1) Tryz.E1_ok (k:=2000) (n:=20) (its:=9) (a1:=10) (a2:=11) (es:=es) (clk:=18) (eh:=(.st [103,71,104,72,120],.fn (.func 71) [] [],8)) got body shp tmps (by decide) (nx:=nx) (ex:=ex) (by kernel_rfl) (by kernel_rfl) (by kernel_rfl) (by kernel_rfl) (by kernel_rfl) (by kernel_rfl) (by decide) (by kernel_rfl)
  (by kernel_rfl) (by kernel_rfl) (by kernel_rfl) (by kernel_rfl) (by kernel_rfl) (by kernel_rfl) (by simp [es]) (fun e he hne σ => ?_) (fun σ => by kernel_rfl) lo A args ha
 simp only [es,List.mem_cons,List.not_mem_nil,or_false] at he
 rcases he with rfl | rfl | rfl | rfl | rfl | rfl | rfl | rfl | rfl | rfl | rfl | rfl | rfl | rfl | rfl | rfl | rfl | rfl
 ·exact zQp σ
 ·exact zQq σ
 ·exact zQr σ
 ·exact zQs σ
 ·exact zQt σ
 ·exact zQu σ
 ·exact zQv σ
 ·exact zQw σ
 ·exact absurd rfl hne
 ·exact zQx σ
 ·exact zLs σ
 ·exact zLt σ
 ·exact zLu σ
 ·exact zLv σ
 ·exact zLw σ
 ·exact zLx σ
 ·exact zLy σ
 ·exact zLz σ
theorem zUc (σ : List Nat) : aB 9 (run Tryz.E1 2000 20 0 .pl rest (tmE (tmM 9 (.it .u8 (.ofNat 72))) 10 11 (.tu [.bo true,.st [123,125],.fn (.func 63) [] []]) true) (aC es 18 (0 :: σ))) = some (some (.it .u8 (.ofNat 72)),some (.pt 1 0),some (.map es 18),some (.mit 0 18 (0 :: σ) 18),true):=by kernel_rfl
theorem zUd (σ : List Nat) : aB 9 (run Tryz.E1 2000 20 0 .pl rest (tmE (tmM 9 (.it .u8 (.ofNat 72))) 10 11 (.tu [.bo true,.st [61],.fn (.func 64) [] []]) true) (aC es 18 (1 :: σ))) = some (some (.it .u8 (.ofNat 72)),some (.pt 1 0),some (.map es 18),some (.mit 0 18 (1 :: σ) 18),true):=by kernel_rfl
theorem zUe (σ : List Nat) : aB 9 (run Tryz.E1 2000 20 0 .pl rest (tmE (tmM 9 (.it .u8 (.ofNat 72))) 10 11 (.tu [.bo true,.st [97],.fn (.func 65) [] []]) true) (aC es 18 (2 :: σ))) = some (some (.it .u8 (.ofNat 72)),some (.pt 1 0),some (.map es 18),some (.mit 0 18 (2 :: σ) 18),true):=by kernel_rfl
theorem zUf (σ : List Nat) : aB 9 (run Tryz.E1 2000 20 0 .pl rest (tmE (tmM 9 (.it .u8 (.ofNat 72))) 10 11 (.tu [.bo true,.st [105],.fn (.func 66) [] []]) true) (aC es 18 (3 :: σ))) = some (some (.it .u8 (.ofNat 72)),some (.pt 1 0),some (.map es 18),some (.mit 0 18 (3 :: σ) 18),true):=by kernel_rfl
theorem zUg (σ : List Nat) : aB 9 (run Tryz.E1 2000 20 0 .pl rest (tmE (tmM 9 (.it .u8 (.ofNat 72))) 10 11 (.tu [.bo true,.st [99],.fn (.func 67) [] []]) true) (aC es 18 (4 :: σ))) = some (some (.it .u8 (.ofNat 72)),some (.pt 1 0),some (.map es 18),some (.mit 0 18 (4 :: σ) 18),true):=by kernel_rfl
theorem zUh (σ : List Nat) : aB 9 (run Tryz.E1 2000 20 0 .pl rest (tmE (tmM 9 (.it .u8 (.ofNat 72))) 10 11 (.tu [.bo true,.st [98],.fn (.func 68) [] []]) true) (aC es 18 (5 :: σ))) = some (some (.it .u8 (.ofNat 72)),some (.pt 1 0),some (.map es 18),some (.mit 0 18 (5 :: σ) 18),true):=by kernel_rfl
theorem zUi (σ : List Nat) : aB 9 (run Tryz.E1 2000 20 0 .pl rest (tmE (tmM 9 (.it .u8 (.ofNat 72))) 10 11 (.tu [.bo true,.st [116,84],.fn (.func 69) [] []]) true) (aC es 18 (6 :: σ))) = some (some (.it .u8 (.ofNat 72)),some (.pt 1 0),some (.map es 18),some (.mit 0 18 (6 :: σ) 18),true):=by kernel_rfl
theorem zUj (σ : List Nat) : aB 9 (run Tryz.E1 2000 20 0 .pl rest (tmE (tmM 9 (.it .u8 (.ofNat 72))) 10 11 (.tu [.bo true,.st [100,68],.fn (.func 70) [] []]) true) (aC es 18 (7 :: σ))) = some (some (.it .u8 (.ofNat 72)),some (.pt 1 0),some (.map es 18),some (.mit 0 18 (7 :: σ) 18),true):=by kernel_rfl
theorem zUk (σ : List Nat) : aB 9 (run Tryz.E1 2000 20 0 .pl rest (tmE (tmM 9 (.it .u8 (.ofNat 72))) 10 11 (.tu [.bo true,.st [108],.fn (.func 72) [] []]) true) (aC es 18 (9 :: σ))) = some (some (.it .u8 (.ofNat 72)),some (.pt 1 0),some (.map es 18),some (.mit 0 18 (9 :: σ) 18),true):=by kernel_rfl
theorem zQy (σ : List Nat) : aB 9 (run Tryz.E1 2000 20 0 .pl rest (tmE (tmM 9 (.it .u8 (.ofNat 72))) 10 11 (.tu [.bo true,.st [110,78],.fn (.func 73) [] []]) true) (aC es 18 (10 :: σ))) = some (some (.it .u8 (.ofNat 72)),some (.pt 1 0),some (.map es 18),some (.mit 0 18 (10 :: σ) 18),true):=by kernel_rfl
theorem zQz (σ : List Nat) : aB 9 (run Tryz.E1 2000 20 0 .pl rest (tmE (tmM 9 (.it .u8 (.ofNat 72))) 10 11 (.tu [.bo true,.st [112],.fn (.func 74) [] []]) true) (aC es 18 (11 :: σ))) = some (some (.it .u8 (.ofNat 72)),some (.pt 1 0),some (.map es 18),some (.mit 0 18 (11 :: σ) 18),true):=by kernel_rfl
theorem zRa (σ : List Nat) : aB 9 (run Tryz.E1 2000 20 0 .pl rest (tmE (tmM 9 (.it .u8 (.ofNat 72))) 10 11 (.tu [.bo true,.st [80],.fn (.func 75) [] []]) true) (aC es 18 (12 :: σ))) = some (some (.it .u8 (.ofNat 72)),some (.pt 1 0),some (.map es 18),some (.mit 0 18 (12 :: σ) 18),true):=by kernel_rfl
theorem zRb (σ : List Nat) : aB 9 (run Tryz.E1 2000 20 0 .pl rest (tmE (tmM 9 (.it .u8 (.ofNat 72))) 10 11 (.tu [.bo true,.st [113,81],.fn (.func 76) [] []]) true) (aC es 18 (13 :: σ))) = some (some (.it .u8 (.ofNat 72)),some (.pt 1 0),some (.map es 18),some (.mit 0 18 (13 :: σ) 18),true):=by kernel_rfl
theorem zRc (σ : List Nat) : aB 9 (run Tryz.E1 2000 20 0 .pl rest (tmE (tmM 9 (.it .u8 (.ofNat 72))) 10 11 (.tu [.bo true,.st [114],.fn (.func 77) [] []]) true) (aC es 18 (14 :: σ))) = some (some (.it .u8 (.ofNat 72)),some (.pt 1 0),some (.map es 18),some (.mit 0 18 (14 :: σ) 18),true):=by kernel_rfl
theorem zRd (σ : List Nat) : aB 9 (run Tryz.E1 2000 20 0 .pl rest (tmE (tmM 9 (.it .u8 (.ofNat 72))) 10 11 (.tu [.bo true,.st [119],.fn (.func 78) [] []]) true) (aC es 18 (15 :: σ))) = some (some (.it .u8 (.ofNat 72)),some (.pt 1 0),some (.map es 18),some (.mit 0 18 (15 :: σ) 18),true):=by kernel_rfl
theorem zRe (σ : List Nat) : aB 9 (run Tryz.E1 2000 20 0 .pl rest (tmE (tmM 9 (.it .u8 (.ofNat 72))) 10 11 (.tu [.bo true,.st [115],.fn (.func 79) [] []]) true) (aC es 18 (16 :: σ))) = some (some (.it .u8 (.ofNat 72)),some (.pt 1 0),some (.map es 18),some (.mit 0 18 (16 :: σ) 18),true):=by kernel_rfl
theorem zRf (σ : List Nat) : aB 9 (run Tryz.E1 2000 20 0 .pl rest (tmE (tmM 9 (.it .u8 (.ofNat 72))) 10 11 (.tu [.bo true,.st [121],.fn (.func 80) [] []]) true) (aC es 18 (17 :: σ))) = some (some (.it .u8 (.ofNat 72)),some (.pt 1 0),some (.map es 18),some (.mit 0 18 (17 :: σ) 18),true):=by kernel_rfl
theorem d72 (lo : Nat) (A : W) (args : List AV) (ha : args = [.it .u8 (.ofNat 72)]) : bC Tryz.prog lo 39 args A (.ret (.fn (.func 71) [] [])) A:=by
 refine gD (E:=Tryz.E1) Tryz.E1_ok (k:=2000) (n:=20) (its:=9) (a1:=10) (a2:=11) (es:=es) (clk:=18) (eh:=(.st [103,71,104,72,120],.fn (.func 71) [] [],8)) got body shp tmps (by decide) (nx:=nx) (ex:=ex) (by kernel_rfl) (by kernel_rfl) (by kernel_rfl) (by kernel_rfl) (by kernel_rfl) (by kernel_rfl) (by decide) (by kernel_rfl)
  (by kernel_rfl) (by kernel_rfl) (by kernel_rfl) (by kernel_rfl) (by kernel_rfl) (by kernel_rfl) (by simp [es]) (fun e he hne σ => ?_) (fun σ => by kernel_rfl) lo A args ha
 simp only [es,List.mem_cons,List.not_mem_nil,or_false] at he
 rcases he with rfl | rfl | rfl | rfl | rfl | rfl | rfl | rfl | rfl | rfl | rfl | rfl | rfl | rfl | rfl | rfl | rfl | rfl
 ·exact zUc σ
 ·exact zUd σ
 ·exact zUe σ
 ·exact zUf σ
 ·exact zUg σ
 ·exact zUh σ
 ·exact zUi σ
 ·exact zUj σ
 ·exact absurd rfl hne
 ·exact zUk σ
 ·exact zQy σ
 ·exact zQz σ
 ·exact zRa σ
 ·exact zRb σ
 ·exact zRc σ
 ·exact zRd σ
 ·exact zRe σ
 ·exact zRf σ
theorem zRg (σ : List Nat) : aB 9 (run Tryz.E1 2000 20 0 .pl rest (tmE (tmM 9 (.it .u8 (.ofNat 120))) 10 11 (.tu [.bo true,.st [123,125],.fn (.func 63) [] []]) true) (aC es 18 (0 :: σ))) = some (some (.it .u8 (.ofNat 120)),some (.pt 1 0),some (.map es 18),some (.mit 0 18 (0 :: σ) 18),true):=by kernel_rfl
theorem zRh (σ : List Nat) : aB 9 (run Tryz.E1 2000 20 0 .pl rest (tmE (tmM 9 (.it .u8 (.ofNat 120))) 10 11 (.tu [.bo true,.st [61],.fn (.func 64) [] []]) true) (aC es 18 (1 :: σ))) = some (some (.it .u8 (.ofNat 120)),some (.pt 1 0),some (.map es 18),some (.mit 0 18 (1 :: σ) 18),true):=by kernel_rfl
theorem zRi (σ : List Nat) : aB 9 (run Tryz.E1 2000 20 0 .pl rest (tmE (tmM 9 (.it .u8 (.ofNat 120))) 10 11 (.tu [.bo true,.st [97],.fn (.func 65) [] []]) true) (aC es 18 (2 :: σ))) = some (some (.it .u8 (.ofNat 120)),some (.pt 1 0),some (.map es 18),some (.mit 0 18 (2 :: σ) 18),true):=by kernel_rfl
theorem zRj (σ : List Nat) : aB 9 (run Tryz.E1 2000 20 0 .pl rest (tmE (tmM 9 (.it .u8 (.ofNat 120))) 10 11 (.tu [.bo true,.st [105],.fn (.func 66) [] []]) true) (aC es 18 (3 :: σ))) = some (some (.it .u8 (.ofNat 120)),some (.pt 1 0),some (.map es 18),some (.mit 0 18 (3 :: σ) 18),true):=by kernel_rfl
theorem zRk (σ : List Nat) : aB 9 (run Tryz.E1 2000 20 0 .pl rest (tmE (tmM 9 (.it .u8 (.ofNat 120))) 10 11 (.tu [.bo true,.st [99],.fn (.func 67) [] []]) true) (aC es 18 (4 :: σ))) = some (some (.it .u8 (.ofNat 120)),some (.pt 1 0),some (.map es 18),some (.mit 0 18 (4 :: σ) 18),true):=by kernel_rfl
theorem zRl (σ : List Nat) : aB 9 (run Tryz.E1 2000 20 0 .pl rest (tmE (tmM 9 (.it .u8 (.ofNat 120))) 10 11 (.tu [.bo true,.st [98],.fn (.func 68) [] []]) true) (aC es 18 (5 :: σ))) = some (some (.it .u8 (.ofNat 120)),some (.pt 1 0),some (.map es 18),some (.mit 0 18 (5 :: σ) 18),true):=by kernel_rfl
theorem zRm (σ : List Nat) : aB 9 (run Tryz.E1 2000 20 0 .pl rest (tmE (tmM 9 (.it .u8 (.ofNat 120))) 10 11 (.tu [.bo true,.st [116,84],.fn (.func 69) [] []]) true) (aC es 18 (6 :: σ))) = some (some (.it .u8 (.ofNat 120)),some (.pt 1 0),some (.map es 18),some (.mit 0 18 (6 :: σ) 18),true):=by kernel_rfl
theorem zRn (σ : List Nat) : aB 9 (run Tryz.E1 2000 20 0 .pl rest (tmE (tmM 9 (.it .u8 (.ofNat 120))) 10 11 (.tu [.bo true,.st [100,68],.fn (.func 70) [] []]) true) (aC es 18 (7 :: σ))) = some (some (.it .u8 (.ofNat 120)),some (.pt 1 0),some (.map es 18),some (.mit 0 18 (7 :: σ) 18),true):=by kernel_rfl
theorem zRo (σ : List Nat) : aB 9 (run Tryz.E1 2000 20 0 .pl rest (tmE (tmM 9 (.it .u8 (.ofNat 120))) 10 11 (.tu [.bo true,.st [108],.fn (.func 72) [] []]) true) (aC es 18 (9 :: σ))) = some (some (.it .u8 (.ofNat 120)),some (.pt 1 0),some (.map es 18),some (.mit 0 18 (9 :: σ) 18),true):=by kernel_rfl
theorem zMa (σ : List Nat) : aB 9 (run Tryz.E1 2000 20 0 .pl rest (tmE (tmM 9 (.it .u8 (.ofNat 120))) 10 11 (.tu [.bo true,.st [110,78],.fn (.func 73) [] []]) true) (aC es 18 (10 :: σ))) = some (some (.it .u8 (.ofNat 120)),some (.pt 1 0),some (.map es 18),some (.mit 0 18 (10 :: σ) 18),true):=by kernel_rfl
theorem zMb (σ : List Nat) : aB 9 (run Tryz.E1 2000 20 0 .pl rest (tmE (tmM 9 (.it .u8 (.ofNat 120))) 10 11 (.tu [.bo true,.st [112],.fn (.func 74) [] []]) true) (aC es 18 (11 :: σ))) = some (some (.it .u8 (.ofNat 120)),some (.pt 1 0),some (.map es 18),some (.mit 0 18 (11 :: σ) 18),true):=by kernel_rfl
theorem zMc (σ : List Nat) : aB 9 (run Tryz.E1 2000 20 0 .pl rest (tmE (tmM 9 (.it .u8 (.ofNat 120))) 10 11 (.tu [.bo true,.st [80],.fn (.func 75) [] []]) true) (aC es 18 (12 :: σ))) = some (some (.it .u8 (.ofNat 120)),some (.pt 1 0),some (.map es 18),some (.mit 0 18 (12 :: σ) 18),true):=by kernel_rfl
theorem zMd (σ : List Nat) : aB 9 (run Tryz.E1 2000 20 0 .pl rest (tmE (tmM 9 (.it .u8 (.ofNat 120))) 10 11 (.tu [.bo true,.st [113,81],.fn (.func 76) [] []]) true) (aC es 18 (13 :: σ))) = some (some (.it .u8 (.ofNat 120)),some (.pt 1 0),some (.map es 18),some (.mit 0 18 (13 :: σ) 18),true):=by kernel_rfl
theorem zMe (σ : List Nat) : aB 9 (run Tryz.E1 2000 20 0 .pl rest (tmE (tmM 9 (.it .u8 (.ofNat 120))) 10 11 (.tu [.bo true,.st [114],.fn (.func 77) [] []]) true) (aC es 18 (14 :: σ))) = some (some (.it .u8 (.ofNat 120)),some (.pt 1 0),some (.map es 18),some (.mit 0 18 (14 :: σ) 18),true):=by kernel_rfl
theorem zMf (σ : List Nat) : aB 9 (run Tryz.E1 2000 20 0 .pl rest (tmE (tmM 9 (.it .u8 (.ofNat 120))) 10 11 (.tu [.bo true,.st [119],.fn (.func 78) [] []]) true) (aC es 18 (15 :: σ))) = some (some (.it .u8 (.ofNat 120)),some (.pt 1 0),some (.map es 18),some (.mit 0 18 (15 :: σ) 18),true):=by kernel_rfl
theorem zMg (σ : List Nat) : aB 9 (run Tryz.E1 2000 20 0 .pl rest (tmE (tmM 9 (.it .u8 (.ofNat 120))) 10 11 (.tu [.bo true,.st [115],.fn (.func 79) [] []]) true) (aC es 18 (16 :: σ))) = some (some (.it .u8 (.ofNat 120)),some (.pt 1 0),some (.map es 18),some (.mit 0 18 (16 :: σ) 18),true):=by kernel_rfl
theorem zMh (σ : List Nat) : aB 9 (run Tryz.E1 2000 20 0 .pl rest (tmE (tmM 9 (.it .u8 (.ofNat 120))) 10 11 (.tu [.bo true,.st [121],.fn (.func 80) [] []]) true) (aC es 18 (17 :: σ))) = some (some (.it .u8 (.ofNat 120)),some (.pt 1 0),some (.map es 18),some (.mit 0 18 (17 :: σ) 18),true):=by kernel_rfl
theorem d120 (lo : Nat) (A : W) (args : List AV) (ha : args = [.it .u8 (.ofNat 120)]) : bC Tryz.prog lo 39 args A (.ret (.fn (.func 71) [] [])) A:=by
 refine gD (E:=Tryz.E1) Tryz.E1_ok (k:=2000) (n:=20) (its:=9) (a1:=10) (a2:=11) (es:=es) (clk:=18) (eh:=(.st [103,71,104,72,120],.fn (.func 71) [] [],8)) got body shp tmps (by decide) (nx:=nx) (ex:=ex) (by kernel_rfl) (by kernel_rfl) (by kernel_rfl) (by kernel_rfl) (by kernel_rfl) (by kernel_rfl) (by decide) (by kernel_rfl)
  (by kernel_rfl) (by kernel_rfl) (by kernel_rfl) (by kernel_rfl) (by kernel_rfl) (by kernel_rfl) (by simp [es]) (fun e he hne σ => ?_) (fun σ => by kernel_rfl) lo A args ha
 simp only [es,List.mem_cons,List.not_mem_nil,or_false] at he
 rcases he with rfl | rfl | rfl | rfl | rfl | rfl | rfl | rfl | rfl | rfl | rfl | rfl | rfl | rfl | rfl | rfl | rfl | rfl
 ·exact zRg σ
 ·exact zRh σ
 ·exact zRi σ
 ·exact zRj σ
 ·exact zRk σ
 ·exact zRl σ
 ·exact zRm σ
 ·exact zRn σ
 ·exact absurd rfl hne
 ·exact zRo σ
 ·exact zMa σ
 ·exact zMb σ
 ·exact zMc σ
 ·exact zMd σ
 ·exact zMe σ
 ·exact zMf σ
 ·exact zMg σ
 ·exact zMh σ
theorem zRp (σ : List Nat) : aB 9 (run Tryz.E1 2000 20 0 .pl rest (tmE (tmM 9 (.it .u8 (.ofNat 112))) 10 11 (.tu [.bo true,.st [123,125],.fn (.func 63) [] []]) true) (aC es 18 (0 :: σ))) = some (some (.it .u8 (.ofNat 112)),some (.pt 1 0),some (.map es 18),some (.mit 0 18 (0 :: σ) 18),true):=by kernel_rfl
theorem zRq (σ : List Nat) : aB 9 (run Tryz.E1 2000 20 0 .pl rest (tmE (tmM 9 (.it .u8 (.ofNat 112))) 10 11 (.tu [.bo true,.st [61],.fn (.func 64) [] []]) true) (aC es 18 (1 :: σ))) = some (some (.it .u8 (.ofNat 112)),some (.pt 1 0),some (.map es 18),some (.mit 0 18 (1 :: σ) 18),true):=by kernel_rfl
theorem zRr (σ : List Nat) : aB 9 (run Tryz.E1 2000 20 0 .pl rest (tmE (tmM 9 (.it .u8 (.ofNat 112))) 10 11 (.tu [.bo true,.st [97],.fn (.func 65) [] []]) true) (aC es 18 (2 :: σ))) = some (some (.it .u8 (.ofNat 112)),some (.pt 1 0),some (.map es 18),some (.mit 0 18 (2 :: σ) 18),true):=by kernel_rfl
theorem zRs (σ : List Nat) : aB 9 (run Tryz.E1 2000 20 0 .pl rest (tmE (tmM 9 (.it .u8 (.ofNat 112))) 10 11 (.tu [.bo true,.st [105],.fn (.func 66) [] []]) true) (aC es 18 (3 :: σ))) = some (some (.it .u8 (.ofNat 112)),some (.pt 1 0),some (.map es 18),some (.mit 0 18 (3 :: σ) 18),true):=by kernel_rfl
theorem zRt (σ : List Nat) : aB 9 (run Tryz.E1 2000 20 0 .pl rest (tmE (tmM 9 (.it .u8 (.ofNat 112))) 10 11 (.tu [.bo true,.st [99],.fn (.func 67) [] []]) true) (aC es 18 (4 :: σ))) = some (some (.it .u8 (.ofNat 112)),some (.pt 1 0),some (.map es 18),some (.mit 0 18 (4 :: σ) 18),true):=by kernel_rfl
theorem zRu (σ : List Nat) : aB 9 (run Tryz.E1 2000 20 0 .pl rest (tmE (tmM 9 (.it .u8 (.ofNat 112))) 10 11 (.tu [.bo true,.st [98],.fn (.func 68) [] []]) true) (aC es 18 (5 :: σ))) = some (some (.it .u8 (.ofNat 112)),some (.pt 1 0),some (.map es 18),some (.mit 0 18 (5 :: σ) 18),true):=by kernel_rfl
theorem zRv (σ : List Nat) : aB 9 (run Tryz.E1 2000 20 0 .pl rest (tmE (tmM 9 (.it .u8 (.ofNat 112))) 10 11 (.tu [.bo true,.st [116,84],.fn (.func 69) [] []]) true) (aC es 18 (6 :: σ))) = some (some (.it .u8 (.ofNat 112)),some (.pt 1 0),some (.map es 18),some (.mit 0 18 (6 :: σ) 18),true):=by kernel_rfl
theorem zRw (σ : List Nat) : aB 9 (run Tryz.E1 2000 20 0 .pl rest (tmE (tmM 9 (.it .u8 (.ofNat 112))) 10 11 (.tu [.bo true,.st [100,68],.fn (.func 70) [] []]) true) (aC es 18 (7 :: σ))) = some (some (.it .u8 (.ofNat 112)),some (.pt 1 0),some (.map es 18),some (.mit 0 18 (7 :: σ) 18),true):=by kernel_rfl
theorem zRx (σ : List Nat) : aB 9 (run Tryz.E1 2000 20 0 .pl rest (tmE (tmM 9 (.it .u8 (.ofNat 112))) 10 11 (.tu [.bo true,.st [103,71,104,72,120],.fn (.func 71) [] []]) true) (aC es 18 (8 :: σ))) = some (some (.it .u8 (.ofNat 112)),some (.pt 1 0),some (.map es 18),some (.mit 0 18 (8 :: σ) 18),true):=by kernel_rfl
theorem zRy (σ : List Nat) : aB 9 (run Tryz.E1 2000 20 0 .pl rest (tmE (tmM 9 (.it .u8 (.ofNat 112))) 10 11 (.tu [.bo true,.st [108],.fn (.func 72) [] []]) true) (aC es 18 (9 :: σ))) = some (some (.it .u8 (.ofNat 112)),some (.pt 1 0),some (.map es 18),some (.mit 0 18 (9 :: σ) 18),true):=by kernel_rfl
theorem zMi (σ : List Nat) : aB 9 (run Tryz.E1 2000 20 0 .pl rest (tmE (tmM 9 (.it .u8 (.ofNat 112))) 10 11 (.tu [.bo true,.st [110,78],.fn (.func 73) [] []]) true) (aC es 18 (10 :: σ))) = some (some (.it .u8 (.ofNat 112)),some (.pt 1 0),some (.map es 18),some (.mit 0 18 (10 :: σ) 18),true):=by kernel_rfl
theorem zMj (σ : List Nat) : aB 9 (run Tryz.E1 2000 20 0 .pl rest (tmE (tmM 9 (.it .u8 (.ofNat 112))) 10 11 (.tu [.bo true,.st [80],.fn (.func 75) [] []]) true) (aC es 18 (12 :: σ))) = some (some (.it .u8 (.ofNat 112)),some (.pt 1 0),some (.map es 18),some (.mit 0 18 (12 :: σ) 18),true):=by kernel_rfl
theorem zMk (σ : List Nat) : aB 9 (run Tryz.E1 2000 20 0 .pl rest (tmE (tmM 9 (.it .u8 (.ofNat 112))) 10 11 (.tu [.bo true,.st [113,81],.fn (.func 76) [] []]) true) (aC es 18 (13 :: σ))) = some (some (.it .u8 (.ofNat 112)),some (.pt 1 0),some (.map es 18),some (.mit 0 18 (13 :: σ) 18),true):=by kernel_rfl
theorem zMl (σ : List Nat) : aB 9 (run Tryz.E1 2000 20 0 .pl rest (tmE (tmM 9 (.it .u8 (.ofNat 112))) 10 11 (.tu [.bo true,.st [114],.fn (.func 77) [] []]) true) (aC es 18 (14 :: σ))) = some (some (.it .u8 (.ofNat 112)),some (.pt 1 0),some (.map es 18),some (.mit 0 18 (14 :: σ) 18),true):=by kernel_rfl
theorem zMm (σ : List Nat) : aB 9 (run Tryz.E1 2000 20 0 .pl rest (tmE (tmM 9 (.it .u8 (.ofNat 112))) 10 11 (.tu [.bo true,.st [119],.fn (.func 78) [] []]) true) (aC es 18 (15 :: σ))) = some (some (.it .u8 (.ofNat 112)),some (.pt 1 0),some (.map es 18),some (.mit 0 18 (15 :: σ) 18),true):=by kernel_rfl
theorem zMn (σ : List Nat) : aB 9 (run Tryz.E1 2000 20 0 .pl rest (tmE (tmM 9 (.it .u8 (.ofNat 112))) 10 11 (.tu [.bo true,.st [115],.fn (.func 79) [] []]) true) (aC es 18 (16 :: σ))) = some (some (.it .u8 (.ofNat 112)),some (.pt 1 0),some (.map es 18),some (.mit 0 18 (16 :: σ) 18),true):=by kernel_rfl
theorem zMo (σ : List Nat) : aB 9 (run Tryz.E1 2000 20 0 .pl rest (tmE (tmM 9 (.it .u8 (.ofNat 112))) 10 11 (.tu [.bo true,.st [121],.fn (.func 80) [] []]) true) (aC es 18 (17 :: σ))) = some (some (.it .u8 (.ofNat 112)),some (.pt 1 0),some (.map es 18),some (.mit 0 18 (17 :: σ) 18),true):=by kernel_rfl
theorem d112 (lo : Nat) (A : W) (args : List AV) (ha : args = [.it .u8 (.ofNat 112)]) : bC Tryz.prog lo 39 args A (.ret (.fn (.func 74) [] [])) A:=by
 refine gD (E:=Tryz.E1) Tryz.E1_ok (k:=2000) (n:=20) (its:=9) (a1:=10) (a2:=11) (es:=es) (clk:=18) (eh:=(.st [112],.fn (.func 74) [] [],11)) got body shp tmps (by decide) (nx:=nx) (ex:=ex) (by kernel_rfl) (by kernel_rfl) (by kernel_rfl) (by kernel_rfl) (by kernel_rfl) (by kernel_rfl) (by decide) (by kernel_rfl)
  (by kernel_rfl) (by kernel_rfl) (by kernel_rfl) (by kernel_rfl) (by kernel_rfl) (by kernel_rfl) (by simp [es]) (fun e he hne σ => ?_) (fun σ => by kernel_rfl) lo A args ha
 simp only [es,List.mem_cons,List.not_mem_nil,or_false] at he
 rcases he with rfl | rfl | rfl | rfl | rfl | rfl | rfl | rfl | rfl | rfl | rfl | rfl | rfl | rfl | rfl | rfl | rfl | rfl
 ·exact zRp σ
 ·exact zRq σ
 ·exact zRr σ
 ·exact zRs σ
 ·exact zRt σ
 ·exact zRu σ
 ·exact zRv σ
 ·exact zRw σ
 ·exact zRx σ
 ·exact zRy σ
 ·exact zMi σ
 ·exact absurd rfl hne
 ·exact zMj σ
 ·exact zMk σ
 ·exact zMl σ
 ·exact zMm σ
 ·exact zMn σ
 ·exact zMo σ
theorem zRz (σ : List Nat) : aB 9 (run Tryz.E1 2000 20 0 .pl rest (tmE (tmM 9 (.it .u8 (.ofNat 114))) 10 11 (.tu [.bo true,.st [123,125],.fn (.func 63) [] []]) true) (aC es 18 (0 :: σ))) = some (some (.it .u8 (.ofNat 114)),some (.pt 1 0),some (.map es 18),some (.mit 0 18 (0 :: σ) 18),true):=by kernel_rfl
theorem zSa (σ : List Nat) : aB 9 (run Tryz.E1 2000 20 0 .pl rest (tmE (tmM 9 (.it .u8 (.ofNat 114))) 10 11 (.tu [.bo true,.st [61],.fn (.func 64) [] []]) true) (aC es 18 (1 :: σ))) = some (some (.it .u8 (.ofNat 114)),some (.pt 1 0),some (.map es 18),some (.mit 0 18 (1 :: σ) 18),true):=by kernel_rfl
theorem zSb (σ : List Nat) : aB 9 (run Tryz.E1 2000 20 0 .pl rest (tmE (tmM 9 (.it .u8 (.ofNat 114))) 10 11 (.tu [.bo true,.st [97],.fn (.func 65) [] []]) true) (aC es 18 (2 :: σ))) = some (some (.it .u8 (.ofNat 114)),some (.pt 1 0),some (.map es 18),some (.mit 0 18 (2 :: σ) 18),true):=by kernel_rfl
theorem zSc (σ : List Nat) : aB 9 (run Tryz.E1 2000 20 0 .pl rest (tmE (tmM 9 (.it .u8 (.ofNat 114))) 10 11 (.tu [.bo true,.st [105],.fn (.func 66) [] []]) true) (aC es 18 (3 :: σ))) = some (some (.it .u8 (.ofNat 114)),some (.pt 1 0),some (.map es 18),some (.mit 0 18 (3 :: σ) 18),true):=by kernel_rfl
theorem zSd (σ : List Nat) : aB 9 (run Tryz.E1 2000 20 0 .pl rest (tmE (tmM 9 (.it .u8 (.ofNat 114))) 10 11 (.tu [.bo true,.st [99],.fn (.func 67) [] []]) true) (aC es 18 (4 :: σ))) = some (some (.it .u8 (.ofNat 114)),some (.pt 1 0),some (.map es 18),some (.mit 0 18 (4 :: σ) 18),true):=by kernel_rfl
theorem zSe (σ : List Nat) : aB 9 (run Tryz.E1 2000 20 0 .pl rest (tmE (tmM 9 (.it .u8 (.ofNat 114))) 10 11 (.tu [.bo true,.st [98],.fn (.func 68) [] []]) true) (aC es 18 (5 :: σ))) = some (some (.it .u8 (.ofNat 114)),some (.pt 1 0),some (.map es 18),some (.mit 0 18 (5 :: σ) 18),true):=by kernel_rfl
theorem zSf (σ : List Nat) : aB 9 (run Tryz.E1 2000 20 0 .pl rest (tmE (tmM 9 (.it .u8 (.ofNat 114))) 10 11 (.tu [.bo true,.st [116,84],.fn (.func 69) [] []]) true) (aC es 18 (6 :: σ))) = some (some (.it .u8 (.ofNat 114)),some (.pt 1 0),some (.map es 18),some (.mit 0 18 (6 :: σ) 18),true):=by kernel_rfl
theorem zSg (σ : List Nat) : aB 9 (run Tryz.E1 2000 20 0 .pl rest (tmE (tmM 9 (.it .u8 (.ofNat 114))) 10 11 (.tu [.bo true,.st [100,68],.fn (.func 70) [] []]) true) (aC es 18 (7 :: σ))) = some (some (.it .u8 (.ofNat 114)),some (.pt 1 0),some (.map es 18),some (.mit 0 18 (7 :: σ) 18),true):=by kernel_rfl
theorem zSh (σ : List Nat) : aB 9 (run Tryz.E1 2000 20 0 .pl rest (tmE (tmM 9 (.it .u8 (.ofNat 114))) 10 11 (.tu [.bo true,.st [103,71,104,72,120],.fn (.func 71) [] []]) true) (aC es 18 (8 :: σ))) = some (some (.it .u8 (.ofNat 114)),some (.pt 1 0),some (.map es 18),some (.mit 0 18 (8 :: σ) 18),true):=by kernel_rfl
theorem zSi (σ : List Nat) : aB 9 (run Tryz.E1 2000 20 0 .pl rest (tmE (tmM 9 (.it .u8 (.ofNat 114))) 10 11 (.tu [.bo true,.st [108],.fn (.func 72) [] []]) true) (aC es 18 (9 :: σ))) = some (some (.it .u8 (.ofNat 114)),some (.pt 1 0),some (.map es 18),some (.mit 0 18 (9 :: σ) 18),true):=by kernel_rfl
theorem zMp (σ : List Nat) : aB 9 (run Tryz.E1 2000 20 0 .pl rest (tmE (tmM 9 (.it .u8 (.ofNat 114))) 10 11 (.tu [.bo true,.st [110,78],.fn (.func 73) [] []]) true) (aC es 18 (10 :: σ))) = some (some (.it .u8 (.ofNat 114)),some (.pt 1 0),some (.map es 18),some (.mit 0 18 (10 :: σ) 18),true):=by kernel_rfl
theorem zMq (σ : List Nat) : aB 9 (run Tryz.E1 2000 20 0 .pl rest (tmE (tmM 9 (.it .u8 (.ofNat 114))) 10 11 (.tu [.bo true,.st [112],.fn (.func 74) [] []]) true) (aC es 18 (11 :: σ))) = some (some (.it .u8 (.ofNat 114)),some (.pt 1 0),some (.map es 18),some (.mit 0 18 (11 :: σ) 18),true):=by kernel_rfl
theorem zMr (σ : List Nat) : aB 9 (run Tryz.E1 2000 20 0 .pl rest (tmE (tmM 9 (.it .u8 (.ofNat 114))) 10 11 (.tu [.bo true,.st [80],.fn (.func 75) [] []]) true) (aC es 18 (12 :: σ))) = some (some (.it .u8 (.ofNat 114)),some (.pt 1 0),some (.map es 18),some (.mit 0 18 (12 :: σ) 18),true):=by kernel_rfl
theorem zMs (σ : List Nat) : aB 9 (run Tryz.E1 2000 20 0 .pl rest (tmE (tmM 9 (.it .u8 (.ofNat 114))) 10 11 (.tu [.bo true,.st [113,81],.fn (.func 76) [] []]) true) (aC es 18 (13 :: σ))) = some (some (.it .u8 (.ofNat 114)),some (.pt 1 0),some (.map es 18),some (.mit 0 18 (13 :: σ) 18),true):=by kernel_rfl
theorem zMt (σ : List Nat) : aB 9 (run Tryz.E1 2000 20 0 .pl rest (tmE (tmM 9 (.it .u8 (.ofNat 114))) 10 11 (.tu [.bo true,.st [119],.fn (.func 78) [] []]) true) (aC es 18 (15 :: σ))) = some (some (.it .u8 (.ofNat 114)),some (.pt 1 0),some (.map es 18),some (.mit 0 18 (15 :: σ) 18),true):=by kernel_rfl
theorem zMu (σ : List Nat) : aB 9 (run Tryz.E1 2000 20 0 .pl rest (tmE (tmM 9 (.it .u8 (.ofNat 114))) 10 11 (.tu [.bo true,.st [115],.fn (.func 79) [] []]) true) (aC es 18 (16 :: σ))) = some (some (.it .u8 (.ofNat 114)),some (.pt 1 0),some (.map es 18),some (.mit 0 18 (16 :: σ) 18),true):=by kernel_rfl
theorem zMv (σ : List Nat) : aB 9 (run Tryz.E1 2000 20 0 .pl rest (tmE (tmM 9 (.it .u8 (.ofNat 114))) 10 11 (.tu [.bo true,.st [121],.fn (.func 80) [] []]) true) (aC es 18 (17 :: σ))) = some (some (.it .u8 (.ofNat 114)),some (.pt 1 0),some (.map es 18),some (.mit 0 18 (17 :: σ) 18),true):=by kernel_rfl
theorem d114 (lo : Nat) (A : W) (args : List AV) (ha : args = [.it .u8 (.ofNat 114)]) : bC Tryz.prog lo 39 args A (.ret (.fn (.func 77) [] [])) A:=by
 refine gD (E:=Tryz.E1) Tryz.E1_ok (k:=2000) (n:=20) (its:=9) (a1:=10) (a2:=11) (es:=es) (clk:=18) (eh:=(.st [114],.fn (.func 77) [] [],14)) got body shp tmps (by decide) (nx:=nx) (ex:=ex) (by kernel_rfl) (by kernel_rfl) (by kernel_rfl) (by kernel_rfl) (by kernel_rfl) (by kernel_rfl) (by decide) (by kernel_rfl)
  (by kernel_rfl) (by kernel_rfl) (by kernel_rfl) (by kernel_rfl) (by kernel_rfl) (by kernel_rfl) (by simp [es]) (fun e he hne σ => ?_) (fun σ => by kernel_rfl) lo A args ha
 simp only [es,List.mem_cons,List.not_mem_nil,or_false] at he
 rcases he with rfl | rfl | rfl | rfl | rfl | rfl | rfl | rfl | rfl | rfl | rfl | rfl | rfl | rfl | rfl | rfl | rfl | rfl
 ·exact zRz σ
 ·exact zSa σ
 ·exact zSb σ
 ·exact zSc σ
 ·exact zSd σ
 ·exact zSe σ
 ·exact zSf σ
 ·exact zSg σ
 ·exact zSh σ
 ·exact zSi σ
 ·exact zMp σ
 ·exact zMq σ
 ·exact zMr σ
 ·exact zMs σ
 ·exact absurd rfl hne
 ·exact zMt σ
 ·exact zMu σ
 ·exact zMv σ
end Tryz.Bd
def Tryz.Bd.tab : List (Nat × Nat):=[(123,63),(97,65),(100,70),(103,71),(71,71),(104,71),(72,71),(120,71),(112,74),(114,77)]
def Lr (tab : List (Nat × Nat)) : Gv:=fun _ A xs => match xs with
 | [.it .u8 (.ofNat b)] => ob (lk b tab) fun g => some (.fn (.func g) [] [],A)
 | _ => none
where lk : Nat -> List (Nat × Nat) -> Option Nat
 | _,[] => none
 | b,p :: r => cnd (Nat.beq b p.1) (some p.2) (lk b r)
theorem Qg {b g : Nat} : ∀ {l : List (Nat × Nat)},Lr.lk b l = some g -> (b,g) ∈ l
 | p :: r,h => by
  unfold Lr.lk cnd at h
  split at h
  ·rename_i hc
   simp only [Option.some.injEq] at h
   have:=Nat.eq_of_beq_eq_true hc
   subst this h
   exact .head _
  ·exact .tail _ (Qg h)
theorem Tryz.bdoes_ok (lo : Nat) (A : W) (args : List AV) (v : AV) (A' : W) (h : Lr Tryz.Bd.tab lo A args = some (v,A')) : bC Tryz.prog lo 39 args A (.ret v) A':=by
 unfold Lr at h
 split at h
 ·rename_i b
  replace h:=aA h; obtain ⟨g,hg,h⟩:=h
  simp only [Option.some.injEq,Prod.mk.injEq] at h
  obtain ⟨rfl,rfl⟩:=h
  have hm:=Qg hg
  simp only [Tryz.Bd.tab,List.mem_cons,Prod.mk.injEq,List.not_mem_nil,or_false] at hm
  rcases hm with ⟨rfl,rfl⟩ | ⟨rfl,rfl⟩ | ⟨rfl,rfl⟩ | ⟨rfl,rfl⟩ | ⟨rfl,rfl⟩ | ⟨rfl,rfl⟩ | ⟨rfl,rfl⟩ | ⟨rfl,rfl⟩ | ⟨rfl,rfl⟩ | ⟨rfl,rfl⟩
  ·exact Tryz.Bd.d123 lo A _ rfl
  ·exact Tryz.Bd.d97 lo A _ rfl
  ·exact Tryz.Bd.d100 lo A _ rfl
  ·exact Tryz.Bd.d103 lo A _ rfl
  ·exact Tryz.Bd.d71 lo A _ rfl
  ·exact Tryz.Bd.d104 lo A _ rfl
  ·exact Tryz.Bd.d72 lo A _ rfl
  ·exact Tryz.Bd.d120 lo A _ rfl
  ·exact Tryz.Bd.d112 lo A _ rfl
  ·exact Tryz.Bd.d114 lo A _ rfl
 ·cases h
end Go.Proofs
