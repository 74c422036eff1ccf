/- Part of a proof over this seat: a library of my own, and what it says of this seat. No statement is proved here. -/
import Derived.Test.YtfpipcafiocdoaaGreatDoorPfrtBC
import Derived.Test.YtfpipcafiocdoaaGreatDoorPfrtAY
namespace Go.Proofs
open Go.Ce
set_option maxRecDepth 100000
noncomputable def Tryz.E1:Env:=Tryz.E0.more 94 zLb
theorem Tryz.E1_ok:dX Tryz.E1:=Tryz.E0_ok.more fun lo A args v A' h=>zHb Tryz.func94 (by kernel_rfl) (by kernel_rfl) (by kernel_rfl) (by kernel_rfl) lo A args v A' h
namespace Tryz.Bd
noncomputable abbrev c:Code:=zCe Tryz.f39
noncomputable abbrev rest:Code:=cR (vI Tryz.f39)
noncomputable abbrev suf:Code:=cR (cR (cR c))
def es:List (AV × AV × Nat):=[(.st [123,125],.fn (.func 63) [] [],0),(.st [61],.fn (.func 64) [] [],1),(.st [97],.fn (.func 65) [] [],2),(.st [105],.fn (.func 66) [] [],3),(.st [99],.fn (.func 67) [] [],4),(.st [98],.fn (.func 68) [] [],5),(.st [116,84],.fn (.func 69) [] [],6),(.st [100,68],.fn (.func 70) [] [],7),(.st [103,71,104,72,120],.fn (.func 71) [] [],8),(.st [108],.fn (.func 72) [] [],9),(.st [110,78],.fn (.func 73) [] [],10),(.st [112],.fn (.func 74) [] [],11),(.st [80],.fn (.func 75) [] [],12),(.st [113,81],.fn (.func 76) [] [],13),(.st [114],.fn (.func 77) [] [],14),(.st [119],.fn (.func 78) [] [],15),(.st [115],.fn (.func 79) [] [],16),(.st [121],.fn (.func 80) [] [],17)]
theorem body:Tryz.f39.body=some c:=by kernel_rfl
noncomputable abbrev nx:Oper:=cOp (cL (vI Tryz.f39)) 0
noncomputable abbrev ex:Oper:=cOp (cL (vI Tryz.f39)) 1
noncomputable abbrev rid:Nat:=cId (cL (vI Tryz.f39))
theorem shp:c=.seq (cL c) (.seq (cL (cR c)) (.seq (.seq (cL (cL (cR (cR c)))) (.block 0 (.loop (.seq (.region rid #[nx,ex] false) rest)))) suf)):=by kernel_rfl
theorem got:T.get Tryz.E1.F 39=some Tryz.f39:=by kernel_rfl
theorem tmps:Tryz.f39.ntmps=20:=by kernel_rfl
theorem zZr (σ:List Nat):aC 9 (run Tryz.E1 2000 20 0 .pl rest (tmE (tmM 9 (.it .u8 (.ofNat 123))) 10 11 (.tu [.bo true,.st [61],.fn (.func 64) [] []]) true) (aD es 18 (1 :: σ)))=some (some (.it .u8 (.ofNat 123)),some (.pt 1 0),some (.map es 18),some (.mit 0 18 (1 :: σ) 18),true):=by kernel_rfl
theorem zZs (σ:List Nat):aC 9 (run Tryz.E1 2000 20 0 .pl rest (tmE (tmM 9 (.it .u8 (.ofNat 123))) 10 11 (.tu [.bo true,.st [97],.fn (.func 65) [] []]) true) (aD es 18 (2 :: σ)))=some (some (.it .u8 (.ofNat 123)),some (.pt 1 0),some (.map es 18),some (.mit 0 18 (2 :: σ) 18),true):=by kernel_rfl
theorem zZt (σ:List Nat):aC 9 (run Tryz.E1 2000 20 0 .pl rest (tmE (tmM 9 (.it .u8 (.ofNat 123))) 10 11 (.tu [.bo true,.st [105],.fn (.func 66) [] []]) true) (aD es 18 (3 :: σ)))=some (some (.it .u8 (.ofNat 123)),some (.pt 1 0),some (.map es 18),some (.mit 0 18 (3 :: σ) 18),true):=by kernel_rfl
theorem zZu (σ:List Nat):aC 9 (run Tryz.E1 2000 20 0 .pl rest (tmE (tmM 9 (.it .u8 (.ofNat 123))) 10 11 (.tu [.bo true,.st [99],.fn (.func 67) [] []]) true) (aD es 18 (4 :: σ)))=some (some (.it .u8 (.ofNat 123)),some (.pt 1 0),some (.map es 18),some (.mit 0 18 (4 :: σ) 18),true):=by kernel_rfl
theorem zZv (σ:List Nat):aC 9 (run Tryz.E1 2000 20 0 .pl rest (tmE (tmM 9 (.it .u8 (.ofNat 123))) 10 11 (.tu [.bo true,.st [98],.fn (.func 68) [] []]) true) (aD es 18 (5 :: σ)))=some (some (.it .u8 (.ofNat 123)),some (.pt 1 0),some (.map es 18),some (.mit 0 18 (5 :: σ) 18),true):=by kernel_rfl
theorem zZw (σ:List Nat):aC 9 (run Tryz.E1 2000 20 0 .pl rest (tmE (tmM 9 (.it .u8 (.ofNat 123))) 10 11 (.tu [.bo true,.st [116,84],.fn (.func 69) [] []]) true) (aD es 18 (6 :: σ)))=some (some (.it .u8 (.ofNat 123)),some (.pt 1 0),some (.map es 18),some (.mit 0 18 (6 :: σ) 18),true):=by kernel_rfl
theorem zZx (σ:List Nat):aC 9 (run Tryz.E1 2000 20 0 .pl rest (tmE (tmM 9 (.it .u8 (.ofNat 123))) 10 11 (.tu [.bo true,.st [100,68],.fn (.func 70) [] []]) true) (aD es 18 (7 :: σ)))=some (some (.it .u8 (.ofNat 123)),some (.pt 1 0),some (.map es 18),some (.mit 0 18 (7 :: σ) 18),true):=by kernel_rfl
theorem zZy (σ:List Nat):aC 9 (run Tryz.E1 2000 20 0 .pl rest (tmE (tmM 9 (.it .u8 (.ofNat 123))) 10 11 (.tu [.bo true,.st [103,71,104,72,120],.fn (.func 71) [] []]) true) (aD es 18 (8 :: σ)))=some (some (.it .u8 (.ofNat 123)),some (.pt 1 0),some (.map es 18),some (.mit 0 18 (8 :: σ) 18),true):=by kernel_rfl
theorem zZz (σ:List Nat):aC 9 (run Tryz.E1 2000 20 0 .pl rest (tmE (tmM 9 (.it .u8 (.ofNat 123))) 10 11 (.tu [.bo true,.st [108],.fn (.func 72) [] []]) true) (aD es 18 (9 :: σ)))=some (some (.it .u8 (.ofNat 123)),some (.pt 1 0),some (.map es 18),some (.mit 0 18 (9 :: σ) 18),true):=by kernel_rfl
theorem zVf (σ:List Nat):aC 9 (run Tryz.E1 2000 20 0 .pl rest (tmE (tmM 9 (.it .u8 (.ofNat 123))) 10 11 (.tu [.bo true,.st [110,78],.fn (.func 73) [] []]) true) (aD es 18 (10 :: σ)))=some (some (.it .u8 (.ofNat 123)),some (.pt 1 0),some (.map es 18),some (.mit 0 18 (10 :: σ) 18),true):=by kernel_rfl
theorem zVg (σ:List Nat):aC 9 (run Tryz.E1 2000 20 0 .pl rest (tmE (tmM 9 (.it .u8 (.ofNat 123))) 10 11 (.tu [.bo true,.st [112],.fn (.func 74) [] []]) true) (aD es 18 (11 :: σ)))=some (some (.it .u8 (.ofNat 123)),some (.pt 1 0),some (.map es 18),some (.mit 0 18 (11 :: σ) 18),true):=by kernel_rfl
theorem zVh (σ:List Nat):aC 9 (run Tryz.E1 2000 20 0 .pl rest (tmE (tmM 9 (.it .u8 (.ofNat 123))) 10 11 (.tu [.bo true,.st [80],.fn (.func 75) [] []]) true) (aD es 18 (12 :: σ)))=some (some (.it .u8 (.ofNat 123)),some (.pt 1 0),some (.map es 18),some (.mit 0 18 (12 :: σ) 18),true):=by kernel_rfl
theorem zVi (σ:List Nat):aC 9 (run Tryz.E1 2000 20 0 .pl rest (tmE (tmM 9 (.it .u8 (.ofNat 123))) 10 11 (.tu [.bo true,.st [113,81],.fn (.func 76) [] []]) true) (aD es 18 (13 :: σ)))=some (some (.it .u8 (.ofNat 123)),some (.pt 1 0),some (.map es 18),some (.mit 0 18 (13 :: σ) 18),true):=by kernel_rfl
theorem zVj (σ:List Nat):aC 9 (run Tryz.E1 2000 20 0 .pl rest (tmE (tmM 9 (.it .u8 (.ofNat 123))) 10 11 (.tu [.bo true,.st [114],.fn (.func 77) [] []]) true) (aD es 18 (14 :: σ)))=some (some (.it .u8 (.ofNat 123)),some (.pt 1 0),some (.map es 18),some (.mit 0 18 (14 :: σ) 18),true):=by kernel_rfl
theorem zVk (σ:List Nat):aC 9 (run Tryz.E1 2000 20 0 .pl rest (tmE (tmM 9 (.it .u8 (.ofNat 123))) 10 11 (.tu [.bo true,.st [119],.fn (.func 78) [] []]) true) (aD es 18 (15 :: σ)))=some (some (.it .u8 (.ofNat 123)),some (.pt 1 0),some (.map es 18),some (.mit 0 18 (15 :: σ) 18),true):=by kernel_rfl
theorem zVl (σ:List Nat):aC 9 (run Tryz.E1 2000 20 0 .pl rest (tmE (tmM 9 (.it .u8 (.ofNat 123))) 10 11 (.tu [.bo true,.st [115],.fn (.func 79) [] []]) true) (aD es 18 (16 :: σ)))=some (some (.it .u8 (.ofNat 123)),some (.pt 1 0),some (.map es 18),some (.mit 0 18 (16 :: σ) 18),true):=by kernel_rfl
theorem zVm (σ:List Nat):aC 9 (run Tryz.E1 2000 20 0 .pl rest (tmE (tmM 9 (.it .u8 (.ofNat 123))) 10 11 (.tu [.bo true,.st [121],.fn (.func 80) [] []]) true) (aD es 18 (17 :: σ)))=some (some (.it .u8 (.ofNat 123)),some (.pt 1 0),some (.map es 18),some (.mit 0 18 (17 :: σ) 18),true):=by kernel_rfl
theorem d123 (lo:Nat) (A:W) (args:List AV) (ha:args=[.it .u8 (.ofNat 123)]):bK Tryz.prog lo 39 args A (.ret (.fn (.func 63) [] [])) A:=by
 refine iD (E:=Tryz.E1) Tryz.E1_ok (k:=2000) (n:=20) (its:=9) (a1:=10) (a2:=11) (es:=es) (clk:=18) (eh:=(.st [123,125],.fn (.func 63) [] [],0)) got body shp tmps (by decide) (nx:=nx) (ex:=ex) (by kernel_rfl) (by kernel_rfl) (by kernel_rfl) (by kernel_rfl) (by kernel_rfl) (by kernel_rfl) (by decide) (by kernel_rfl)
  (by kernel_rfl) (by kernel_rfl) (by kernel_rfl) (by kernel_rfl) (by kernel_rfl) (by kernel_rfl) (by simp [es]) (fun e he hne σ=>?_) (fun σ=>by kernel_rfl) lo A args ha
 simp only [es,List.mem_cons,List.not_mem_nil,or_false] at he
 rcases he with rfl | rfl | rfl | rfl | rfl | rfl | rfl | rfl | rfl | rfl | rfl | rfl | rfl | rfl | rfl | rfl | rfl | rfl
 ·exact absurd rfl hne
 ·exact zZr σ
 ·exact zZs σ
 ·exact zZt σ
 ·exact zZu σ
 ·exact zZv σ
 ·exact zZw σ
 ·exact zZx σ
 ·exact zZy σ
 ·exact zZz σ
 ·exact zVf σ
 ·exact zVg σ
 ·exact zVh σ
 ·exact zVi σ
 ·exact zVj σ
 ·exact zVk σ
 ·exact zVl σ
 ·exact zVm σ
theorem yEm (σ:List Nat):aC 9 (run Tryz.E1 2000 20 0 .pl rest (tmE (tmM 9 (.it .u8 (.ofNat 97))) 10 11 (.tu [.bo true,.st [123,125],.fn (.func 63) [] []]) true) (aD es 18 (0 :: σ)))=some (some (.it .u8 (.ofNat 97)),some (.pt 1 0),some (.map es 18),some (.mit 0 18 (0 :: σ) 18),true):=by kernel_rfl
theorem yEn (σ:List Nat):aC 9 (run Tryz.E1 2000 20 0 .pl rest (tmE (tmM 9 (.it .u8 (.ofNat 97))) 10 11 (.tu [.bo true,.st [61],.fn (.func 64) [] []]) true) (aD es 18 (1 :: σ)))=some (some (.it .u8 (.ofNat 97)),some (.pt 1 0),some (.map es 18),some (.mit 0 18 (1 :: σ) 18),true):=by kernel_rfl
theorem yEo (σ:List Nat):aC 9 (run Tryz.E1 2000 20 0 .pl rest (tmE (tmM 9 (.it .u8 (.ofNat 97))) 10 11 (.tu [.bo true,.st [105],.fn (.func 66) [] []]) true) (aD es 18 (3 :: σ)))=some (some (.it .u8 (.ofNat 97)),some (.pt 1 0),some (.map es 18),some (.mit 0 18 (3 :: σ) 18),true):=by kernel_rfl
theorem yEp (σ:List Nat):aC 9 (run Tryz.E1 2000 20 0 .pl rest (tmE (tmM 9 (.it .u8 (.ofNat 97))) 10 11 (.tu [.bo true,.st [99],.fn (.func 67) [] []]) true) (aD es 18 (4 :: σ)))=some (some (.it .u8 (.ofNat 97)),some (.pt 1 0),some (.map es 18),some (.mit 0 18 (4 :: σ) 18),true):=by kernel_rfl
theorem yEq (σ:List Nat):aC 9 (run Tryz.E1 2000 20 0 .pl rest (tmE (tmM 9 (.it .u8 (.ofNat 97))) 10 11 (.tu [.bo true,.st [98],.fn (.func 68) [] []]) true) (aD es 18 (5 :: σ)))=some (some (.it .u8 (.ofNat 97)),some (.pt 1 0),some (.map es 18),some (.mit 0 18 (5 :: σ) 18),true):=by kernel_rfl
theorem yEr (σ:List Nat):aC 9 (run Tryz.E1 2000 20 0 .pl rest (tmE (tmM 9 (.it .u8 (.ofNat 97))) 10 11 (.tu [.bo true,.st [116,84],.fn (.func 69) [] []]) true) (aD es 18 (6 :: σ)))=some (some (.it .u8 (.ofNat 97)),some (.pt 1 0),some (.map es 18),some (.mit 0 18 (6 :: σ) 18),true):=by kernel_rfl
theorem yEs (σ:List Nat):aC 9 (run Tryz.E1 2000 20 0 .pl rest (tmE (tmM 9 (.it .u8 (.ofNat 97))) 10 11 (.tu [.bo true,.st [100,68],.fn (.func 70) [] []]) true) (aD es 18 (7 :: σ)))=some (some (.it .u8 (.ofNat 97)),some (.pt 1 0),some (.map es 18),some (.mit 0 18 (7 :: σ) 18),true):=by kernel_rfl
theorem yEt (σ:List Nat):aC 9 (run Tryz.E1 2000 20 0 .pl rest (tmE (tmM 9 (.it .u8 (.ofNat 97))) 10 11 (.tu [.bo true,.st [103,71,104,72,120],.fn (.func 71) [] []]) true) (aD es 18 (8 :: σ)))=some (some (.it .u8 (.ofNat 97)),some (.pt 1 0),some (.map es 18),some (.mit 0 18 (8 :: σ) 18),true):=by kernel_rfl
theorem yEu (σ:List Nat):aC 9 (run Tryz.E1 2000 20 0 .pl rest (tmE (tmM 9 (.it .u8 (.ofNat 97))) 10 11 (.tu [.bo true,.st [108],.fn (.func 72) [] []]) true) (aD es 18 (9 :: σ)))=some (some (.it .u8 (.ofNat 97)),some (.pt 1 0),some (.map es 18),some (.mit 0 18 (9 :: σ) 18),true):=by kernel_rfl
theorem yAa (σ:List Nat):aC 9 (run Tryz.E1 2000 20 0 .pl rest (tmE (tmM 9 (.it .u8 (.ofNat 97))) 10 11 (.tu [.bo true,.st [110,78],.fn (.func 73) [] []]) true) (aD es 18 (10 :: σ)))=some (some (.it .u8 (.ofNat 97)),some (.pt 1 0),some (.map es 18),some (.mit 0 18 (10 :: σ) 18),true):=by kernel_rfl
theorem yAb (σ:List Nat):aC 9 (run Tryz.E1 2000 20 0 .pl rest (tmE (tmM 9 (.it .u8 (.ofNat 97))) 10 11 (.tu [.bo true,.st [112],.fn (.func 74) [] []]) true) (aD es 18 (11 :: σ)))=some (some (.it .u8 (.ofNat 97)),some (.pt 1 0),some (.map es 18),some (.mit 0 18 (11 :: σ) 18),true):=by kernel_rfl
theorem yAc (σ:List Nat):aC 9 (run Tryz.E1 2000 20 0 .pl rest (tmE (tmM 9 (.it .u8 (.ofNat 97))) 10 11 (.tu [.bo true,.st [80],.fn (.func 75) [] []]) true) (aD es 18 (12 :: σ)))=some (some (.it .u8 (.ofNat 97)),some (.pt 1 0),some (.map es 18),some (.mit 0 18 (12 :: σ) 18),true):=by kernel_rfl
theorem yAd (σ:List Nat):aC 9 (run Tryz.E1 2000 20 0 .pl rest (tmE (tmM 9 (.it .u8 (.ofNat 97))) 10 11 (.tu [.bo true,.st [113,81],.fn (.func 76) [] []]) true) (aD es 18 (13 :: σ)))=some (some (.it .u8 (.ofNat 97)),some (.pt 1 0),some (.map es 18),some (.mit 0 18 (13 :: σ) 18),true):=by kernel_rfl
theorem yAe (σ:List Nat):aC 9 (run Tryz.E1 2000 20 0 .pl rest (tmE (tmM 9 (.it .u8 (.ofNat 97))) 10 11 (.tu [.bo true,.st [114],.fn (.func 77) [] []]) true) (aD es 18 (14 :: σ)))=some (some (.it .u8 (.ofNat 97)),some (.pt 1 0),some (.map es 18),some (.mit 0 18 (14 :: σ) 18),true):=by kernel_rfl
theorem yAf (σ:List Nat):aC 9 (run Tryz.E1 2000 20 0 .pl rest (tmE (tmM 9 (.it .u8 (.ofNat 97))) 10 11 (.tu [.bo true,.st [119],.fn (.func 78) [] []]) true) (aD es 18 (15 :: σ)))=some (some (.it .u8 (.ofNat 97)),some (.pt 1 0),some (.map es 18),some (.mit 0 18 (15 :: σ) 18),true):=by kernel_rfl
theorem yAg (σ:List Nat):aC 9 (run Tryz.E1 2000 20 0 .pl rest (tmE (tmM 9 (.it .u8 (.ofNat 97))) 10 11 (.tu [.bo true,.st [115],.fn (.func 79) [] []]) true) (aD es 18 (16 :: σ)))=some (some (.it .u8 (.ofNat 97)),some (.pt 1 0),some (.map es 18),some (.mit 0 18 (16 :: σ) 18),true):=by kernel_rfl
theorem yAh (σ:List Nat):aC 9 (run Tryz.E1 2000 20 0 .pl rest (tmE (tmM 9 (.it .u8 (.ofNat 97))) 10 11 (.tu [.bo true,.st [121],.fn (.func 80) [] []]) true) (aD es 18 (17 :: σ)))=some (some (.it .u8 (.ofNat 97)),some (.pt 1 0),some (.map es 18),some (.mit 0 18 (17 :: σ) 18),true):=by kernel_rfl
theorem d97 (lo:Nat) (A:W) (args:List AV) (ha:args=[.it .u8 (.ofNat 97)]):bK Tryz.prog lo 39 args A (.ret (.fn (.func 65) [] [])) A:=by
 refine iD (E:=Tryz.E1) Tryz.E1_ok (k:=2000) (n:=20) (its:=9) (a1:=10) (a2:=11) (es:=es) (clk:=18) (eh:=(.st [97],.fn (.func 65) [] [],2)) got body shp tmps (by decide) (nx:=nx) (ex:=ex) (by kernel_rfl) (by kernel_rfl) (by kernel_rfl) (by kernel_rfl) (by kernel_rfl) (by kernel_rfl) (by decide) (by kernel_rfl)
  (by kernel_rfl) (by kernel_rfl) (by kernel_rfl) (by kernel_rfl) (by kernel_rfl) (by kernel_rfl) (by simp [es]) (fun e he hne σ=>?_) (fun σ=>by kernel_rfl) lo A args ha
 simp only [es,List.mem_cons,List.not_mem_nil,or_false] at he
 rcases he with rfl | rfl | rfl | rfl | rfl | rfl | rfl | rfl | rfl | rfl | rfl | rfl | rfl | rfl | rfl | rfl | rfl | rfl
 ·exact yEm σ
 ·exact yEn σ
 ·exact absurd rfl hne
 ·exact yEo σ
 ·exact yEp σ
 ·exact yEq σ
 ·exact yEr σ
 ·exact yEs σ
 ·exact yEt σ
 ·exact yEu σ
 ·exact yAa σ
 ·exact yAb σ
 ·exact yAc σ
 ·exact yAd σ
 ·exact yAe σ
 ·exact yAf σ
 ·exact yAg σ
 ·exact yAh σ
theorem yAi (σ:List Nat):aC 9 (run Tryz.E1 2000 20 0 .pl rest (tmE (tmM 9 (.it .u8 (.ofNat 100))) 10 11 (.tu [.bo true,.st [123,125],.fn (.func 63) [] []]) true) (aD es 18 (0 :: σ)))=some (some (.it .u8 (.ofNat 100)),some (.pt 1 0),some (.map es 18),some (.mit 0 18 (0 :: σ) 18),true):=by kernel_rfl
theorem yAj (σ:List Nat):aC 9 (run Tryz.E1 2000 20 0 .pl rest (tmE (tmM 9 (.it .u8 (.ofNat 100))) 10 11 (.tu [.bo true,.st [61],.fn (.func 64) [] []]) true) (aD es 18 (1 :: σ)))=some (some (.it .u8 (.ofNat 100)),some (.pt 1 0),some (.map es 18),some (.mit 0 18 (1 :: σ) 18),true):=by kernel_rfl
theorem yAk (σ:List Nat):aC 9 (run Tryz.E1 2000 20 0 .pl rest (tmE (tmM 9 (.it .u8 (.ofNat 100))) 10 11 (.tu [.bo true,.st [97],.fn (.func 65) [] []]) true) (aD es 18 (2 :: σ)))=some (some (.it .u8 (.ofNat 100)),some (.pt 1 0),some (.map es 18),some (.mit 0 18 (2 :: σ) 18),true):=by kernel_rfl
theorem yAl (σ:List Nat):aC 9 (run Tryz.E1 2000 20 0 .pl rest (tmE (tmM 9 (.it .u8 (.ofNat 100))) 10 11 (.tu [.bo true,.st [105],.fn (.func 66) [] []]) true) (aD es 18 (3 :: σ)))=some (some (.it .u8 (.ofNat 100)),some (.pt 1 0),some (.map es 18),some (.mit 0 18 (3 :: σ) 18),true):=by kernel_rfl
theorem yAm (σ:List Nat):aC 9 (run Tryz.E1 2000 20 0 .pl rest (tmE (tmM 9 (.it .u8 (.ofNat 100))) 10 11 (.tu [.bo true,.st [99],.fn (.func 67) [] []]) true) (aD es 18 (4 :: σ)))=some (some (.it .u8 (.ofNat 100)),some (.pt 1 0),some (.map es 18),some (.mit 0 18 (4 :: σ) 18),true):=by kernel_rfl
theorem yAn (σ:List Nat):aC 9 (run Tryz.E1 2000 20 0 .pl rest (tmE (tmM 9 (.it .u8 (.ofNat 100))) 10 11 (.tu [.bo true,.st [98],.fn (.func 68) [] []]) true) (aD es 18 (5 :: σ)))=some (some (.it .u8 (.ofNat 100)),some (.pt 1 0),some (.map es 18),some (.mit 0 18 (5 :: σ) 18),true):=by kernel_rfl
theorem yAo (σ:List Nat):aC 9 (run Tryz.E1 2000 20 0 .pl rest (tmE (tmM 9 (.it .u8 (.ofNat 100))) 10 11 (.tu [.bo true,.st [116,84],.fn (.func 69) [] []]) true) (aD es 18 (6 :: σ)))=some (some (.it .u8 (.ofNat 100)),some (.pt 1 0),some (.map es 18),some (.mit 0 18 (6 :: σ) 18),true):=by kernel_rfl
theorem yAp (σ:List Nat):aC 9 (run Tryz.E1 2000 20 0 .pl rest (tmE (tmM 9 (.it .u8 (.ofNat 100))) 10 11 (.tu [.bo true,.st [103,71,104,72,120],.fn (.func 71) [] []]) true) (aD es 18 (8 :: σ)))=some (some (.it .u8 (.ofNat 100)),some (.pt 1 0),some (.map es 18),some (.mit 0 18 (8 :: σ) 18),true):=by kernel_rfl
theorem yAq (σ:List Nat):aC 9 (run Tryz.E1 2000 20 0 .pl rest (tmE (tmM 9 (.it .u8 (.ofNat 100))) 10 11 (.tu [.bo true,.st [108],.fn (.func 72) [] []]) true) (aD es 18 (9 :: σ)))=some (some (.it .u8 (.ofNat 100)),some (.pt 1 0),some (.map es 18),some (.mit 0 18 (9 :: σ) 18),true):=by kernel_rfl
theorem zVn (σ:List Nat):aC 9 (run Tryz.E1 2000 20 0 .pl rest (tmE (tmM 9 (.it .u8 (.ofNat 100))) 10 11 (.tu [.bo true,.st [110,78],.fn (.func 73) [] []]) true) (aD es 18 (10 :: σ)))=some (some (.it .u8 (.ofNat 100)),some (.pt 1 0),some (.map es 18),some (.mit 0 18 (10 :: σ) 18),true):=by kernel_rfl
theorem zVo (σ:List Nat):aC 9 (run Tryz.E1 2000 20 0 .pl rest (tmE (tmM 9 (.it .u8 (.ofNat 100))) 10 11 (.tu [.bo true,.st [112],.fn (.func 74) [] []]) true) (aD es 18 (11 :: σ)))=some (some (.it .u8 (.ofNat 100)),some (.pt 1 0),some (.map es 18),some (.mit 0 18 (11 :: σ) 18),true):=by kernel_rfl
theorem zVp (σ:List Nat):aC 9 (run Tryz.E1 2000 20 0 .pl rest (tmE (tmM 9 (.it .u8 (.ofNat 100))) 10 11 (.tu [.bo true,.st [80],.fn (.func 75) [] []]) true) (aD es 18 (12 :: σ)))=some (some (.it .u8 (.ofNat 100)),some (.pt 1 0),some (.map es 18),some (.mit 0 18 (12 :: σ) 18),true):=by kernel_rfl
theorem zVq (σ:List Nat):aC 9 (run Tryz.E1 2000 20 0 .pl rest (tmE (tmM 9 (.it .u8 (.ofNat 100))) 10 11 (.tu [.bo true,.st [113,81],.fn (.func 76) [] []]) true) (aD es 18 (13 :: σ)))=some (some (.it .u8 (.ofNat 100)),some (.pt 1 0),some (.map es 18),some (.mit 0 18 (13 :: σ) 18),true):=by kernel_rfl
theorem zVr (σ:List Nat):aC 9 (run Tryz.E1 2000 20 0 .pl rest (tmE (tmM 9 (.it .u8 (.ofNat 100))) 10 11 (.tu [.bo true,.st [114],.fn (.func 77) [] []]) true) (aD es 18 (14 :: σ)))=some (some (.it .u8 (.ofNat 100)),some (.pt 1 0),some (.map es 18),some (.mit 0 18 (14 :: σ) 18),true):=by kernel_rfl
theorem zVs (σ:List Nat):aC 9 (run Tryz.E1 2000 20 0 .pl rest (tmE (tmM 9 (.it .u8 (.ofNat 100))) 10 11 (.tu [.bo true,.st [119],.fn (.func 78) [] []]) true) (aD es 18 (15 :: σ)))=some (some (.it .u8 (.ofNat 100)),some (.pt 1 0),some (.map es 18),some (.mit 0 18 (15 :: σ) 18),true):=by kernel_rfl
theorem zVt (σ:List Nat):aC 9 (run Tryz.E1 2000 20 0 .pl rest (tmE (tmM 9 (.it .u8 (.ofNat 100))) 10 11 (.tu [.bo true,.st [115],.fn (.func 79) [] []]) true) (aD es 18 (16 :: σ)))=some (some (.it .u8 (.ofNat 100)),some (.pt 1 0),some (.map es 18),some (.mit 0 18 (16 :: σ) 18),true):=by kernel_rfl
theorem zVu (σ:List Nat):aC 9 (run Tryz.E1 2000 20 0 .pl rest (tmE (tmM 9 (.it .u8 (.ofNat 100))) 10 11 (.tu [.bo true,.st [121],.fn (.func 80) [] []]) true) (aD es 18 (17 :: σ)))=some (some (.it .u8 (.ofNat 100)),some (.pt 1 0),some (.map es 18),some (.mit 0 18 (17 :: σ) 18),true):=by kernel_rfl
theorem d100 (lo:Nat) (A:W) (args:List AV) (ha:args=[.it .u8 (.ofNat 100)]):bK Tryz.prog lo 39 args A (.ret (.fn (.func 70) [] [])) A:=by
 refine iD (E:=Tryz.E1) Tryz.E1_ok (k:=2000) (n:=20) (its:=9) (a1:=10) (a2:=11) (es:=es) (clk:=18) (eh:=(.st [100,68],.fn (.func 70) [] [],7)) got body shp tmps (by decide) (nx:=nx) (ex:=ex) (by kernel_rfl) (by kernel_rfl) (by kernel_rfl) (by kernel_rfl) (by kernel_rfl) (by kernel_rfl) (by decide) (by kernel_rfl)
  (by kernel_rfl) (by kernel_rfl) (by kernel_rfl) (by kernel_rfl) (by kernel_rfl) (by kernel_rfl) (by simp [es]) (fun e he hne σ=>?_) (fun σ=>by kernel_rfl) lo A args ha
 simp only [es,List.mem_cons,List.not_mem_nil,or_false] at he
 rcases he with rfl | rfl | rfl | rfl | rfl | rfl | rfl | rfl | rfl | rfl | rfl | rfl | rfl | rfl | rfl | rfl | rfl | rfl
 ·exact yAi σ
 ·exact yAj σ
 ·exact yAk σ
 ·exact yAl σ
 ·exact yAm σ
 ·exact yAn σ
 ·exact yAo σ
 ·exact absurd rfl hne
 ·exact yAp σ
 ·exact yAq σ
 ·exact zVn σ
 ·exact zVo σ
 ·exact zVp σ
 ·exact zVq σ
 ·exact zVr σ
 ·exact zVs σ
 ·exact zVt σ
 ·exact zVu σ
theorem yAr (σ:List Nat):aC 9 (run Tryz.E1 2000 20 0 .pl rest (tmE (tmM 9 (.it .u8 (.ofNat 103))) 10 11 (.tu [.bo true,.st [123,125],.fn (.func 63) [] []]) true) (aD es 18 (0 :: σ)))=some (some (.it .u8 (.ofNat 103)),some (.pt 1 0),some (.map es 18),some (.mit 0 18 (0 :: σ) 18),true):=by kernel_rfl
theorem yAs (σ:List Nat):aC 9 (run Tryz.E1 2000 20 0 .pl rest (tmE (tmM 9 (.it .u8 (.ofNat 103))) 10 11 (.tu [.bo true,.st [61],.fn (.func 64) [] []]) true) (aD es 18 (1 :: σ)))=some (some (.it .u8 (.ofNat 103)),some (.pt 1 0),some (.map es 18),some (.mit 0 18 (1 :: σ) 18),true):=by kernel_rfl
theorem yAt (σ:List Nat):aC 9 (run Tryz.E1 2000 20 0 .pl rest (tmE (tmM 9 (.it .u8 (.ofNat 103))) 10 11 (.tu [.bo true,.st [97],.fn (.func 65) [] []]) true) (aD es 18 (2 :: σ)))=some (some (.it .u8 (.ofNat 103)),some (.pt 1 0),some (.map es 18),some (.mit 0 18 (2 :: σ) 18),true):=by kernel_rfl
theorem yAu (σ:List Nat):aC 9 (run Tryz.E1 2000 20 0 .pl rest (tmE (tmM 9 (.it .u8 (.ofNat 103))) 10 11 (.tu [.bo true,.st [105],.fn (.func 66) [] []]) true) (aD es 18 (3 :: σ)))=some (some (.it .u8 (.ofNat 103)),some (.pt 1 0),some (.map es 18),some (.mit 0 18 (3 :: σ) 18),true):=by kernel_rfl
theorem yAv (σ:List Nat):aC 9 (run Tryz.E1 2000 20 0 .pl rest (tmE (tmM 9 (.it .u8 (.ofNat 103))) 10 11 (.tu [.bo true,.st [99],.fn (.func 67) [] []]) true) (aD es 18 (4 :: σ)))=some (some (.it .u8 (.ofNat 103)),some (.pt 1 0),some (.map es 18),some (.mit 0 18 (4 :: σ) 18),true):=by kernel_rfl
theorem yAw (σ:List Nat):aC 9 (run Tryz.E1 2000 20 0 .pl rest (tmE (tmM 9 (.it .u8 (.ofNat 103))) 10 11 (.tu [.bo true,.st [98],.fn (.func 68) [] []]) true) (aD es 18 (5 :: σ)))=some (some (.it .u8 (.ofNat 103)),some (.pt 1 0),some (.map es 18),some (.mit 0 18 (5 :: σ) 18),true):=by kernel_rfl
theorem yAx (σ:List Nat):aC 9 (run Tryz.E1 2000 20 0 .pl rest (tmE (tmM 9 (.it .u8 (.ofNat 103))) 10 11 (.tu [.bo true,.st [116,84],.fn (.func 69) [] []]) true) (aD es 18 (6 :: σ)))=some (some (.it .u8 (.ofNat 103)),some (.pt 1 0),some (.map es 18),some (.mit 0 18 (6 :: σ) 18),true):=by kernel_rfl
theorem yAy (σ:List Nat):aC 9 (run Tryz.E1 2000 20 0 .pl rest (tmE (tmM 9 (.it .u8 (.ofNat 103))) 10 11 (.tu [.bo true,.st [100,68],.fn (.func 70) [] []]) true) (aD es 18 (7 :: σ)))=some (some (.it .u8 (.ofNat 103)),some (.pt 1 0),some (.map es 18),some (.mit 0 18 (7 :: σ) 18),true):=by kernel_rfl
theorem yAz (σ:List Nat):aC 9 (run Tryz.E1 2000 20 0 .pl rest (tmE (tmM 9 (.it .u8 (.ofNat 103))) 10 11 (.tu [.bo true,.st [108],.fn (.func 72) [] []]) true) (aD es 18 (9 :: σ)))=some (some (.it .u8 (.ofNat 103)),some (.pt 1 0),some (.map es 18),some (.mit 0 18 (9 :: σ) 18),true):=by kernel_rfl
theorem zVv (σ:List Nat):aC 9 (run Tryz.E1 2000 20 0 .pl rest (tmE (tmM 9 (.it .u8 (.ofNat 103))) 10 11 (.tu [.bo true,.st [110,78],.fn (.func 73) [] []]) true) (aD es 18 (10 :: σ)))=some (some (.it .u8 (.ofNat 103)),some (.pt 1 0),some (.map es 18),some (.mit 0 18 (10 :: σ) 18),true):=by kernel_rfl
theorem zVw (σ:List Nat):aC 9 (run Tryz.E1 2000 20 0 .pl rest (tmE (tmM 9 (.it .u8 (.ofNat 103))) 10 11 (.tu [.bo true,.st [112],.fn (.func 74) [] []]) true) (aD es 18 (11 :: σ)))=some (some (.it .u8 (.ofNat 103)),some (.pt 1 0),some (.map es 18),some (.mit 0 18 (11 :: σ) 18),true):=by kernel_rfl
theorem zVx (σ:List Nat):aC 9 (run Tryz.E1 2000 20 0 .pl rest (tmE (tmM 9 (.it .u8 (.ofNat 103))) 10 11 (.tu [.bo true,.st [80],.fn (.func 75) [] []]) true) (aD es 18 (12 :: σ)))=some (some (.it .u8 (.ofNat 103)),some (.pt 1 0),some (.map es 18),some (.mit 0 18 (12 :: σ) 18),true):=by kernel_rfl
theorem zVy (σ:List Nat):aC 9 (run Tryz.E1 2000 20 0 .pl rest (tmE (tmM 9 (.it .u8 (.ofNat 103))) 10 11 (.tu [.bo true,.st [113,81],.fn (.func 76) [] []]) true) (aD es 18 (13 :: σ)))=some (some (.it .u8 (.ofNat 103)),some (.pt 1 0),some (.map es 18),some (.mit 0 18 (13 :: σ) 18),true):=by kernel_rfl
theorem zVz (σ:List Nat):aC 9 (run Tryz.E1 2000 20 0 .pl rest (tmE (tmM 9 (.it .u8 (.ofNat 103))) 10 11 (.tu [.bo true,.st [114],.fn (.func 77) [] []]) true) (aD es 18 (14 :: σ)))=some (some (.it .u8 (.ofNat 103)),some (.pt 1 0),some (.map es 18),some (.mit 0 18 (14 :: σ) 18),true):=by kernel_rfl
theorem zWa (σ:List Nat):aC 9 (run Tryz.E1 2000 20 0 .pl rest (tmE (tmM 9 (.it .u8 (.ofNat 103))) 10 11 (.tu [.bo true,.st [119],.fn (.func 78) [] []]) true) (aD es 18 (15 :: σ)))=some (some (.it .u8 (.ofNat 103)),some (.pt 1 0),some (.map es 18),some (.mit 0 18 (15 :: σ) 18),true):=by kernel_rfl
theorem zWb (σ:List Nat):aC 9 (run Tryz.E1 2000 20 0 .pl rest (tmE (tmM 9 (.it .u8 (.ofNat 103))) 10 11 (.tu [.bo true,.st [115],.fn (.func 79) [] []]) true) (aD es 18 (16 :: σ)))=some (some (.it .u8 (.ofNat 103)),some (.pt 1 0),some (.map es 18),some (.mit 0 18 (16 :: σ) 18),true):=by kernel_rfl
theorem zWc (σ:List Nat):aC 9 (run Tryz.E1 2000 20 0 .pl rest (tmE (tmM 9 (.it .u8 (.ofNat 103))) 10 11 (.tu [.bo true,.st [121],.fn (.func 80) [] []]) true) (aD es 18 (17 :: σ)))=some (some (.it .u8 (.ofNat 103)),some (.pt 1 0),some (.map es 18),some (.mit 0 18 (17 :: σ) 18),true):=by kernel_rfl
theorem d103 (lo:Nat) (A:W) (args:List AV) (ha:args=[.it .u8 (.ofNat 103)]):bK Tryz.prog lo 39 args A (.ret (.fn (.func 71) [] [])) A:=by
 refine iD (E:=Tryz.E1) Tryz.E1_ok (k:=2000) (n:=20) (its:=9) (a1:=10) (a2:=11) (es:=es) (clk:=18) (eh:=(.st [103,71,104,72,120],.fn (.func 71) [] [],8)) got body shp tmps (by decide) (nx:=nx) (ex:=ex) (by kernel_rfl) (by kernel_rfl) (by kernel_rfl) (by kernel_rfl) (by kernel_rfl) (by kernel_rfl) (by decide) (by kernel_rfl)
  (by kernel_rfl) (by kernel_rfl) (by kernel_rfl) (by kernel_rfl) (by kernel_rfl) (by kernel_rfl) (by simp [es]) (fun e he hne σ=>?_) (fun σ=>by kernel_rfl) lo A args ha
 simp only [es,List.mem_cons,List.not_mem_nil,or_false] at he
 rcases he with rfl | rfl | rfl | rfl | rfl | rfl | rfl | rfl | rfl | rfl | rfl | rfl | rfl | rfl | rfl | rfl | rfl | rfl
 ·exact yAr σ
 ·exact yAs σ
 ·exact yAt σ
 ·exact yAu σ
 ·exact yAv σ
 ·exact yAw σ
 ·exact yAx σ
 ·exact yAy σ
 ·exact absurd rfl hne
 ·exact yAz σ
 ·exact zVv σ
 ·exact zVw σ
 ·exact zVx σ
 ·exact zVy σ
 ·exact zVz σ
 ·exact zWa σ
 ·exact zWb σ
 ·exact zWc σ
theorem yEv (σ:List Nat):aC 9 (run Tryz.E1 2000 20 0 .pl rest (tmE (tmM 9 (.it .u8 (.ofNat 71))) 10 11 (.tu [.bo true,.st [123,125],.fn (.func 63) [] []]) true) (aD es 18 (0 :: σ)))=some (some (.it .u8 (.ofNat 71)),some (.pt 1 0),some (.map es 18),some (.mit 0 18 (0 :: σ) 18),true):=by kernel_rfl
theorem yEw (σ:List Nat):aC 9 (run Tryz.E1 2000 20 0 .pl rest (tmE (tmM 9 (.it .u8 (.ofNat 71))) 10 11 (.tu [.bo true,.st [61],.fn (.func 64) [] []]) true) (aD es 18 (1 :: σ)))=some (some (.it .u8 (.ofNat 71)),some (.pt 1 0),some (.map es 18),some (.mit 0 18 (1 :: σ) 18),true):=by kernel_rfl
theorem yEx (σ:List Nat):aC 9 (run Tryz.E1 2000 20 0 .pl rest (tmE (tmM 9 (.it .u8 (.ofNat 71))) 10 11 (.tu [.bo true,.st [97],.fn (.func 65) [] []]) true) (aD es 18 (2 :: σ)))=some (some (.it .u8 (.ofNat 71)),some (.pt 1 0),some (.map es 18),some (.mit 0 18 (2 :: σ) 18),true):=by kernel_rfl
theorem yEy (σ:List Nat):aC 9 (run Tryz.E1 2000 20 0 .pl rest (tmE (tmM 9 (.it .u8 (.ofNat 71))) 10 11 (.tu [.bo true,.st [105],.fn (.func 66) [] []]) true) (aD es 18 (3 :: σ)))=some (some (.it .u8 (.ofNat 71)),some (.pt 1 0),some (.map es 18),some (.mit 0 18 (3 :: σ) 18),true):=by kernel_rfl
theorem yEz (σ:List Nat):aC 9 (run Tryz.E1 2000 20 0 .pl rest (tmE (tmM 9 (.it .u8 (.ofNat 71))) 10 11 (.tu [.bo true,.st [99],.fn (.func 67) [] []]) true) (aD es 18 (4 :: σ)))=some (some (.it .u8 (.ofNat 71)),some (.pt 1 0),some (.map es 18),some (.mit 0 18 (4 :: σ) 18),true):=by kernel_rfl
theorem yFa (σ:List Nat):aC 9 (run Tryz.E1 2000 20 0 .pl rest (tmE (tmM 9 (.it .u8 (.ofNat 71))) 10 11 (.tu [.bo true,.st [98],.fn (.func 68) [] []]) true) (aD es 18 (5 :: σ)))=some (some (.it .u8 (.ofNat 71)),some (.pt 1 0),some (.map es 18),some (.mit 0 18 (5 :: σ) 18),true):=by kernel_rfl
theorem yFb (σ:List Nat):aC 9 (run Tryz.E1 2000 20 0 .pl rest (tmE (tmM 9 (.it .u8 (.ofNat 71))) 10 11 (.tu [.bo true,.st [116,84],.fn (.func 69) [] []]) true) (aD es 18 (6 :: σ)))=some (some (.it .u8 (.ofNat 71)),some (.pt 1 0),some (.map es 18),some (.mit 0 18 (6 :: σ) 18),true):=by kernel_rfl
theorem yFc (σ:List Nat):aC 9 (run Tryz.E1 2000 20 0 .pl rest (tmE (tmM 9 (.it .u8 (.ofNat 71))) 10 11 (.tu [.bo true,.st [100,68],.fn (.func 70) [] []]) true) (aD es 18 (7 :: σ)))=some (some (.it .u8 (.ofNat 71)),some (.pt 1 0),some (.map es 18),some (.mit 0 18 (7 :: σ) 18),true):=by kernel_rfl
theorem yFd (σ:List Nat):aC 9 (run Tryz.E1 2000 20 0 .pl rest (tmE (tmM 9 (.it .u8 (.ofNat 71))) 10 11 (.tu [.bo true,.st [108],.fn (.func 72) [] []]) true) (aD es 18 (9 :: σ)))=some (some (.it .u8 (.ofNat 71)),some (.pt 1 0),some (.map es 18),some (.mit 0 18 (9 :: σ) 18),true):=by kernel_rfl
theorem yBa (σ:List Nat):aC 9 (run Tryz.E1 2000 20 0 .pl rest (tmE (tmM 9 (.it .u8 (.ofNat 71))) 10 11 (.tu [.bo true,.st [110,78],.fn (.func 73) [] []]) true) (aD es 18 (10 :: σ)))=some (some (.it .u8 (.ofNat 71)),some (.pt 1 0),some (.map es 18),some (.mit 0 18 (10 :: σ) 18),true):=by kernel_rfl
theorem yBb (σ:List Nat):aC 9 (run Tryz.E1 2000 20 0 .pl rest (tmE (tmM 9 (.it .u8 (.ofNat 71))) 10 11 (.tu [.bo true,.st [112],.fn (.func 74) [] []]) true) (aD es 18 (11 :: σ)))=some (some (.it .u8 (.ofNat 71)),some (.pt 1 0),some (.map es 18),some (.mit 0 18 (11 :: σ) 18),true):=by kernel_rfl
theorem yBc (σ:List Nat):aC 9 (run Tryz.E1 2000 20 0 .pl rest (tmE (tmM 9 (.it .u8 (.ofNat 71))) 10 11 (.tu [.bo true,.st [80],.fn (.func 75) [] []]) true) (aD es 18 (12 :: σ)))=some (some (.it .u8 (.ofNat 71)),some (.pt 1 0),some (.map es 18),some (.mit 0 18 (12 :: σ) 18),true):=by kernel_rfl
theorem yBd (σ:List Nat):aC 9 (run Tryz.E1 2000 20 0 .pl rest (tmE (tmM 9 (.it .u8 (.ofNat 71))) 10 11 (.tu [.bo true,.st [113,81],.fn (.func 76) [] []]) true) (aD es 18 (13 :: σ)))=some (some (.it .u8 (.ofNat 71)),some (.pt 1 0),some (.map es 18),some (.mit 0 18 (13 :: σ) 18),true):=by kernel_rfl
theorem yBe (σ:List Nat):aC 9 (run Tryz.E1 2000 20 0 .pl rest (tmE (tmM 9 (.it .u8 (.ofNat 71))) 10 11 (.tu [.bo true,.st [114],.fn (.func 77) [] []]) true) (aD es 18 (14 :: σ)))=some (some (.it .u8 (.ofNat 71)),some (.pt 1 0),some (.map es 18),some (.mit 0 18 (14 :: σ) 18),true):=by kernel_rfl
theorem yBf (σ:List Nat):aC 9 (run Tryz.E1 2000 20 0 .pl rest (tmE (tmM 9 (.it .u8 (.ofNat 71))) 10 11 (.tu [.bo true,.st [119],.fn (.func 78) [] []]) true) (aD es 18 (15 :: σ)))=some (some (.it .u8 (.ofNat 71)),some (.pt 1 0),some (.map es 18),some (.mit 0 18 (15 :: σ) 18),true):=by kernel_rfl
theorem yBg (σ:List Nat):aC 9 (run Tryz.E1 2000 20 0 .pl rest (tmE (tmM 9 (.it .u8 (.ofNat 71))) 10 11 (.tu [.bo true,.st [115],.fn (.func 79) [] []]) true) (aD es 18 (16 :: σ)))=some (some (.it .u8 (.ofNat 71)),some (.pt 1 0),some (.map es 18),some (.mit 0 18 (16 :: σ) 18),true):=by kernel_rfl
theorem yBh (σ:List Nat):aC 9 (run Tryz.E1 2000 20 0 .pl rest (tmE (tmM 9 (.it .u8 (.ofNat 71))) 10 11 (.tu [.bo true,.st [121],.fn (.func 80) [] []]) true) (aD es 18 (17 :: σ)))=some (some (.it .u8 (.ofNat 71)),some (.pt 1 0),some (.map es 18),some (.mit 0 18 (17 :: σ) 18),true):=by kernel_rfl
theorem d71 (lo:Nat) (A:W) (args:List AV) (ha:args=[.it .u8 (.ofNat 71)]):bK Tryz.prog lo 39 args A (.ret (.fn (.func 71) [] [])) A:=by
 refine iD (E:=Tryz.E1) Tryz.E1_ok (k:=2000) (n:=20) (its:=9) (a1:=10) (a2:=11) (es:=es) (clk:=18) (eh:=(.st [103,71,104,72,120],.fn (.func 71) [] [],8)) got body shp tmps (by decide) (nx:=nx) (ex:=ex) (by kernel_rfl) (by kernel_rfl) (by kernel_rfl) (by kernel_rfl) (by kernel_rfl) (by kernel_rfl) (by decide) (by kernel_rfl)
  (by kernel_rfl) (by kernel_rfl) (by kernel_rfl) (by kernel_rfl) (by kernel_rfl) (by kernel_rfl) (by simp [es]) (fun e he hne σ=>?_) (fun σ=>by kernel_rfl) lo A args ha
 simp only [es,List.mem_cons,List.not_mem_nil,or_false] at he
 rcases he with rfl | rfl | rfl | rfl | rfl | rfl | rfl | rfl | rfl | rfl | rfl | rfl | rfl | rfl | rfl | rfl | rfl | rfl
 ·exact yEv σ
 ·exact yEw σ
 ·exact yEx σ
 ·exact yEy σ
 ·exact yEz σ
 ·exact yFa σ
 ·exact yFb σ
 ·exact yFc σ
 ·exact absurd rfl hne
 ·exact yFd σ
 ·exact yBa σ
 ·exact yBb σ
 ·exact yBc σ
 ·exact yBd σ
 ·exact yBe σ
 ·exact yBf σ
 ·exact yBg σ
 ·exact yBh σ
theorem yBi (σ:List Nat):aC 9 (run Tryz.E1 2000 20 0 .pl rest (tmE (tmM 9 (.it .u8 (.ofNat 104))) 10 11 (.tu [.bo true,.st [123,125],.fn (.func 63) [] []]) true) (aD es 18 (0 :: σ)))=some (some (.it .u8 (.ofNat 104)),some (.pt 1 0),some (.map es 18),some (.mit 0 18 (0 :: σ) 18),true):=by kernel_rfl
theorem yBj (σ:List Nat):aC 9 (run Tryz.E1 2000 20 0 .pl rest (tmE (tmM 9 (.it .u8 (.ofNat 104))) 10 11 (.tu [.bo true,.st [61],.fn (.func 64) [] []]) true) (aD es 18 (1 :: σ)))=some (some (.it .u8 (.ofNat 104)),some (.pt 1 0),some (.map es 18),some (.mit 0 18 (1 :: σ) 18),true):=by kernel_rfl
theorem yBk (σ:List Nat):aC 9 (run Tryz.E1 2000 20 0 .pl rest (tmE (tmM 9 (.it .u8 (.ofNat 104))) 10 11 (.tu [.bo true,.st [97],.fn (.func 65) [] []]) true) (aD es 18 (2 :: σ)))=some (some (.it .u8 (.ofNat 104)),some (.pt 1 0),some (.map es 18),some (.mit 0 18 (2 :: σ) 18),true):=by kernel_rfl
theorem yBl (σ:List Nat):aC 9 (run Tryz.E1 2000 20 0 .pl rest (tmE (tmM 9 (.it .u8 (.ofNat 104))) 10 11 (.tu [.bo true,.st [105],.fn (.func 66) [] []]) true) (aD es 18 (3 :: σ)))=some (some (.it .u8 (.ofNat 104)),some (.pt 1 0),some (.map es 18),some (.mit 0 18 (3 :: σ) 18),true):=by kernel_rfl
theorem yBm (σ:List Nat):aC 9 (run Tryz.E1 2000 20 0 .pl rest (tmE (tmM 9 (.it .u8 (.ofNat 104))) 10 11 (.tu [.bo true,.st [99],.fn (.func 67) [] []]) true) (aD es 18 (4 :: σ)))=some (some (.it .u8 (.ofNat 104)),some (.pt 1 0),some (.map es 18),some (.mit 0 18 (4 :: σ) 18),true):=by kernel_rfl
theorem yBn (σ:List Nat):aC 9 (run Tryz.E1 2000 20 0 .pl rest (tmE (tmM 9 (.it .u8 (.ofNat 104))) 10 11 (.tu [.bo true,.st [98],.fn (.func 68) [] []]) true) (aD es 18 (5 :: σ)))=some (some (.it .u8 (.ofNat 104)),some (.pt 1 0),some (.map es 18),some (.mit 0 18 (5 :: σ) 18),true):=by kernel_rfl
theorem yBo (σ:List Nat):aC 9 (run Tryz.E1 2000 20 0 .pl rest (tmE (tmM 9 (.it .u8 (.ofNat 104))) 10 11 (.tu [.bo true,.st [116,84],.fn (.func 69) [] []]) true) (aD es 18 (6 :: σ)))=some (some (.it .u8 (.ofNat 104)),some (.pt 1 0),some (.map es 18),some (.mit 0 18 (6 :: σ) 18),true):=by kernel_rfl
theorem yBp (σ:List Nat):aC 9 (run Tryz.E1 2000 20 0 .pl rest (tmE (tmM 9 (.it .u8 (.ofNat 104))) 10 11 (.tu [.bo true,.st [100,68],.fn (.func 70) [] []]) true) (aD es 18 (7 :: σ)))=some (some (.it .u8 (.ofNat 104)),some (.pt 1 0),some (.map es 18),some (.mit 0 18 (7 :: σ) 18),true):=by kernel_rfl
theorem yBq (σ:List Nat):aC 9 (run Tryz.E1 2000 20 0 .pl rest (tmE (tmM 9 (.it .u8 (.ofNat 104))) 10 11 (.tu [.bo true,.st [108],.fn (.func 72) [] []]) true) (aD es 18 (9 :: σ)))=some (some (.it .u8 (.ofNat 104)),some (.pt 1 0),some (.map es 18),some (.mit 0 18 (9 :: σ) 18),true):=by kernel_rfl
theorem zWd (σ:List Nat):aC 9 (run Tryz.E1 2000 20 0 .pl rest (tmE (tmM 9 (.it .u8 (.ofNat 104))) 10 11 (.tu [.bo true,.st [110,78],.fn (.func 73) [] []]) true) (aD es 18 (10 :: σ)))=some (some (.it .u8 (.ofNat 104)),some (.pt 1 0),some (.map es 18),some (.mit 0 18 (10 :: σ) 18),true):=by kernel_rfl
theorem zWe (σ:List Nat):aC 9 (run Tryz.E1 2000 20 0 .pl rest (tmE (tmM 9 (.it .u8 (.ofNat 104))) 10 11 (.tu [.bo true,.st [112],.fn (.func 74) [] []]) true) (aD es 18 (11 :: σ)))=some (some (.it .u8 (.ofNat 104)),some (.pt 1 0),some (.map es 18),some (.mit 0 18 (11 :: σ) 18),true):=by kernel_rfl
theorem zWf (σ:List Nat):aC 9 (run Tryz.E1 2000 20 0 .pl rest (tmE (tmM 9 (.it .u8 (.ofNat 104))) 10 11 (.tu [.bo true,.st [80],.fn (.func 75) [] []]) true) (aD es 18 (12 :: σ)))=some (some (.it .u8 (.ofNat 104)),some (.pt 1 0),some (.map es 18),some (.mit 0 18 (12 :: σ) 18),true):=by kernel_rfl
theorem zWg (σ:List Nat):aC 9 (run Tryz.E1 2000 20 0 .pl rest (tmE (tmM 9 (.it .u8 (.ofNat 104))) 10 11 (.tu [.bo true,.st [113,81],.fn (.func 76) [] []]) true) (aD es 18 (13 :: σ)))=some (some (.it .u8 (.ofNat 104)),some (.pt 1 0),some (.map es 18),some (.mit 0 18 (13 :: σ) 18),true):=by kernel_rfl
theorem zWh (σ:List Nat):aC 9 (run Tryz.E1 2000 20 0 .pl rest (tmE (tmM 9 (.it .u8 (.ofNat 104))) 10 11 (.tu [.bo true,.st [114],.fn (.func 77) [] []]) true) (aD es 18 (14 :: σ)))=some (some (.it .u8 (.ofNat 104)),some (.pt 1 0),some (.map es 18),some (.mit 0 18 (14 :: σ) 18),true):=by kernel_rfl
theorem zWi (σ:List Nat):aC 9 (run Tryz.E1 2000 20 0 .pl rest (tmE (tmM 9 (.it .u8 (.ofNat 104))) 10 11 (.tu [.bo true,.st [119],.fn (.func 78) [] []]) true) (aD es 18 (15 :: σ)))=some (some (.it .u8 (.ofNat 104)),some (.pt 1 0),some (.map es 18),some (.mit 0 18 (15 :: σ) 18),true):=by kernel_rfl
theorem zWj (σ:List Nat):aC 9 (run Tryz.E1 2000 20 0 .pl rest (tmE (tmM 9 (.it .u8 (.ofNat 104))) 10 11 (.tu [.bo true,.st [115],.fn (.func 79) [] []]) true) (aD es 18 (16 :: σ)))=some (some (.it .u8 (.ofNat 104)),some (.pt 1 0),some (.map es 18),some (.mit 0 18 (16 :: σ) 18),true):=by kernel_rfl
theorem zWk (σ:List Nat):aC 9 (run Tryz.E1 2000 20 0 .pl rest (tmE (tmM 9 (.it .u8 (.ofNat 104))) 10 11 (.tu [.bo true,.st [121],.fn (.func 80) [] []]) true) (aD es 18 (17 :: σ)))=some (some (.it .u8 (.ofNat 104)),some (.pt 1 0),some (.map es 18),some (.mit 0 18 (17 :: σ) 18),true):=by kernel_rfl
theorem d104 (lo:Nat) (A:W) (args:List AV) (ha:args=[.it .u8 (.ofNat 104)]):bK Tryz.prog lo 39 args A (.ret (.fn (.func 71) [] [])) A:=by
 refine iD (E:=Tryz.E1) Tryz.E1_ok (k:=2000) (n:=20) (its:=9) (a1:=10) (a2:=11) (es:=es) (clk:=18) (eh:=(.st [103,71,104,72,120],.fn (.func 71) [] [],8)) got body shp tmps (by decide) (nx:=nx) (ex:=ex) (by kernel_rfl) (by kernel_rfl) (by kernel_rfl) (by kernel_rfl) (by kernel_rfl) (by kernel_rfl) (by decide) (by kernel_rfl)
  (by kernel_rfl) (by kernel_rfl) (by kernel_rfl) (by kernel_rfl) (by kernel_rfl) (by kernel_rfl) (by simp [es]) (fun e he hne σ=>?_) (fun σ=>by kernel_rfl) lo A args ha
 simp only [es,List.mem_cons,List.not_mem_nil,or_false] at he
 rcases he with rfl | rfl | rfl | rfl | rfl | rfl | rfl | rfl | rfl | rfl | rfl | rfl | rfl | rfl | rfl | rfl | rfl | rfl
 ·exact yBi σ
 ·exact yBj σ
 ·exact yBk σ
 ·exact yBl σ
 ·exact yBm σ
 ·exact yBn σ
 ·exact yBo σ
 ·exact yBp σ
 ·exact absurd rfl hne
 ·exact yBq σ
 ·exact zWd σ
 ·exact zWe σ
 ·exact zWf σ
 ·exact zWg σ
 ·exact zWh σ
 ·exact zWi σ
 ·exact zWj σ
 ·exact zWk σ
theorem yFe (σ:List Nat):aC 9 (run Tryz.E1 2000 20 0 .pl rest (tmE (tmM 9 (.it .u8 (.ofNat 72))) 10 11 (.tu [.bo true,.st [123,125],.fn (.func 63) [] []]) true) (aD es 18 (0 :: σ)))=some (some (.it .u8 (.ofNat 72)),some (.pt 1 0),some (.map es 18),some (.mit 0 18 (0 :: σ) 18),true):=by kernel_rfl
theorem yFf (σ:List Nat):aC 9 (run Tryz.E1 2000 20 0 .pl rest (tmE (tmM 9 (.it .u8 (.ofNat 72))) 10 11 (.tu [.bo true,.st [61],.fn (.func 64) [] []]) true) (aD es 18 (1 :: σ)))=some (some (.it .u8 (.ofNat 72)),some (.pt 1 0),some (.map es 18),some (.mit 0 18 (1 :: σ) 18),true):=by kernel_rfl
theorem yFg (σ:List Nat):aC 9 (run Tryz.E1 2000 20 0 .pl rest (tmE (tmM 9 (.it .u8 (.ofNat 72))) 10 11 (.tu [.bo true,.st [97],.fn (.func 65) [] []]) true) (aD es 18 (2 :: σ)))=some (some (.it .u8 (.ofNat 72)),some (.pt 1 0),some (.map es 18),some (.mit 0 18 (2 :: σ) 18),true):=by kernel_rfl
theorem yFh (σ:List Nat):aC 9 (run Tryz.E1 2000 20 0 .pl rest (tmE (tmM 9 (.it .u8 (.ofNat 72))) 10 11 (.tu [.bo true,.st [105],.fn (.func 66) [] []]) true) (aD es 18 (3 :: σ)))=some (some (.it .u8 (.ofNat 72)),some (.pt 1 0),some (.map es 18),some (.mit 0 18 (3 :: σ) 18),true):=by kernel_rfl
theorem yFi (σ:List Nat):aC 9 (run Tryz.E1 2000 20 0 .pl rest (tmE (tmM 9 (.it .u8 (.ofNat 72))) 10 11 (.tu [.bo true,.st [99],.fn (.func 67) [] []]) true) (aD es 18 (4 :: σ)))=some (some (.it .u8 (.ofNat 72)),some (.pt 1 0),some (.map es 18),some (.mit 0 18 (4 :: σ) 18),true):=by kernel_rfl
theorem yFj (σ:List Nat):aC 9 (run Tryz.E1 2000 20 0 .pl rest (tmE (tmM 9 (.it .u8 (.ofNat 72))) 10 11 (.tu [.bo true,.st [98],.fn (.func 68) [] []]) true) (aD es 18 (5 :: σ)))=some (some (.it .u8 (.ofNat 72)),some (.pt 1 0),some (.map es 18),some (.mit 0 18 (5 :: σ) 18),true):=by kernel_rfl
theorem yFk (σ:List Nat):aC 9 (run Tryz.E1 2000 20 0 .pl rest (tmE (tmM 9 (.it .u8 (.ofNat 72))) 10 11 (.tu [.bo true,.st [116,84],.fn (.func 69) [] []]) true) (aD es 18 (6 :: σ)))=some (some (.it .u8 (.ofNat 72)),some (.pt 1 0),some (.map es 18),some (.mit 0 18 (6 :: σ) 18),true):=by kernel_rfl
theorem yFl (σ:List Nat):aC 9 (run Tryz.E1 2000 20 0 .pl rest (tmE (tmM 9 (.it .u8 (.ofNat 72))) 10 11 (.tu [.bo true,.st [100,68],.fn (.func 70) [] []]) true) (aD es 18 (7 :: σ)))=some (some (.it .u8 (.ofNat 72)),some (.pt 1 0),some (.map es 18),some (.mit 0 18 (7 :: σ) 18),true):=by kernel_rfl
theorem yFm (σ:List Nat):aC 9 (run Tryz.E1 2000 20 0 .pl rest (tmE (tmM 9 (.it .u8 (.ofNat 72))) 10 11 (.tu [.bo true,.st [108],.fn (.func 72) [] []]) true) (aD es 18 (9 :: σ)))=some (some (.it .u8 (.ofNat 72)),some (.pt 1 0),some (.map es 18),some (.mit 0 18 (9 :: σ) 18),true):=by kernel_rfl
theorem yBr (σ:List Nat):aC 9 (run Tryz.E1 2000 20 0 .pl rest (tmE (tmM 9 (.it .u8 (.ofNat 72))) 10 11 (.tu [.bo true,.st [110,78],.fn (.func 73) [] []]) true) (aD es 18 (10 :: σ)))=some (some (.it .u8 (.ofNat 72)),some (.pt 1 0),some (.map es 18),some (.mit 0 18 (10 :: σ) 18),true):=by kernel_rfl
theorem yBs (σ:List Nat):aC 9 (run Tryz.E1 2000 20 0 .pl rest (tmE (tmM 9 (.it .u8 (.ofNat 72))) 10 11 (.tu [.bo true,.st [112],.fn (.func 74) [] []]) true) (aD es 18 (11 :: σ)))=some (some (.it .u8 (.ofNat 72)),some (.pt 1 0),some (.map es 18),some (.mit 0 18 (11 :: σ) 18),true):=by kernel_rfl
theorem yBt (σ:List Nat):aC 9 (run Tryz.E1 2000 20 0 .pl rest (tmE (tmM 9 (.it .u8 (.ofNat 72))) 10 11 (.tu [.bo true,.st [80],.fn (.func 75) [] []]) true) (aD es 18 (12 :: σ)))=some (some (.it .u8 (.ofNat 72)),some (.pt 1 0),some (.map es 18),some (.mit 0 18 (12 :: σ) 18),true):=by kernel_rfl
theorem yBu (σ:List Nat):aC 9 (run Tryz.E1 2000 20 0 .pl rest (tmE (tmM 9 (.it .u8 (.ofNat 72))) 10 11 (.tu [.bo true,.st [113,81],.fn (.func 76) [] []]) true) (aD es 18 (13 :: σ)))=some (some (.it .u8 (.ofNat 72)),some (.pt 1 0),some (.map es 18),some (.mit 0 18 (13 :: σ) 18),true):=by kernel_rfl
theorem yBv (σ:List Nat):aC 9 (run Tryz.E1 2000 20 0 .pl rest (tmE (tmM 9 (.it .u8 (.ofNat 72))) 10 11 (.tu [.bo true,.st [114],.fn (.func 77) [] []]) true) (aD es 18 (14 :: σ)))=some (some (.it .u8 (.ofNat 72)),some (.pt 1 0),some (.map es 18),some (.mit 0 18 (14 :: σ) 18),true):=by kernel_rfl
theorem yBw (σ:List Nat):aC 9 (run Tryz.E1 2000 20 0 .pl rest (tmE (tmM 9 (.it .u8 (.ofNat 72))) 10 11 (.tu [.bo true,.st [119],.fn (.func 78) [] []]) true) (aD es 18 (15 :: σ)))=some (some (.it .u8 (.ofNat 72)),some (.pt 1 0),some (.map es 18),some (.mit 0 18 (15 :: σ) 18),true):=by kernel_rfl
theorem yBx (σ:List Nat):aC 9 (run Tryz.E1 2000 20 0 .pl rest (tmE (tmM 9 (.it .u8 (.ofNat 72))) 10 11 (.tu [.bo true,.st [115],.fn (.func 79) [] []]) true) (aD es 18 (16 :: σ)))=some (some (.it .u8 (.ofNat 72)),some (.pt 1 0),some (.map es 18),some (.mit 0 18 (16 :: σ) 18),true):=by kernel_rfl
theorem yBy (σ:List Nat):aC 9 (run Tryz.E1 2000 20 0 .pl rest (tmE (tmM 9 (.it .u8 (.ofNat 72))) 10 11 (.tu [.bo true,.st [121],.fn (.func 80) [] []]) true) (aD es 18 (17 :: σ)))=some (some (.it .u8 (.ofNat 72)),some (.pt 1 0),some (.map es 18),some (.mit 0 18 (17 :: σ) 18),true):=by kernel_rfl
theorem d72 (lo:Nat) (A:W) (args:List AV) (ha:args=[.it .u8 (.ofNat 72)]):bK Tryz.prog lo 39 args A (.ret (.fn (.func 71) [] [])) A:=by
 refine iD (E:=Tryz.E1) Tryz.E1_ok (k:=2000) (n:=20) (its:=9) (a1:=10) (a2:=11) (es:=es) (clk:=18) (eh:=(.st [103,71,104,72,120],.fn (.func 71) [] [],8)) got body shp tmps (by decide) (nx:=nx) (ex:=ex) (by kernel_rfl) (by kernel_rfl) (by kernel_rfl) (by kernel_rfl) (by kernel_rfl) (by kernel_rfl) (by decide) (by kernel_rfl)
  (by kernel_rfl) (by kernel_rfl) (by kernel_rfl) (by kernel_rfl) (by kernel_rfl) (by kernel_rfl) (by simp [es]) (fun e he hne σ=>?_) (fun σ=>by kernel_rfl) lo A args ha
 simp only [es,List.mem_cons,List.not_mem_nil,or_false] at he
 rcases he with rfl | rfl | rfl | rfl | rfl | rfl | rfl | rfl | rfl | rfl | rfl | rfl | rfl | rfl | rfl | rfl | rfl | rfl
 ·exact yFe σ
 ·exact yFf σ
 ·exact yFg σ
 ·exact yFh σ
 ·exact yFi σ
 ·exact yFj σ
 ·exact yFk σ
 ·exact yFl σ
 ·exact absurd rfl hne
 ·exact yFm σ
 ·exact yBr σ
 ·exact yBs σ
 ·exact yBt σ
 ·exact yBu σ
 ·exact yBv σ
 ·exact yBw σ
 ·exact yBx σ
 ·exact yBy σ
theorem yBz (σ:List Nat):aC 9 (run Tryz.E1 2000 20 0 .pl rest (tmE (tmM 9 (.it .u8 (.ofNat 120))) 10 11 (.tu [.bo true,.st [123,125],.fn (.func 63) [] []]) true) (aD es 18 (0 :: σ)))=some (some (.it .u8 (.ofNat 120)),some (.pt 1 0),some (.map es 18),some (.mit 0 18 (0 :: σ) 18),true):=by kernel_rfl
theorem yCa (σ:List Nat):aC 9 (run Tryz.E1 2000 20 0 .pl rest (tmE (tmM 9 (.it .u8 (.ofNat 120))) 10 11 (.tu [.bo true,.st [61],.fn (.func 64) [] []]) true) (aD es 18 (1 :: σ)))=some (some (.it .u8 (.ofNat 120)),some (.pt 1 0),some (.map es 18),some (.mit 0 18 (1 :: σ) 18),true):=by kernel_rfl
theorem yCb (σ:List Nat):aC 9 (run Tryz.E1 2000 20 0 .pl rest (tmE (tmM 9 (.it .u8 (.ofNat 120))) 10 11 (.tu [.bo true,.st [97],.fn (.func 65) [] []]) true) (aD es 18 (2 :: σ)))=some (some (.it .u8 (.ofNat 120)),some (.pt 1 0),some (.map es 18),some (.mit 0 18 (2 :: σ) 18),true):=by kernel_rfl
theorem yCc (σ:List Nat):aC 9 (run Tryz.E1 2000 20 0 .pl rest (tmE (tmM 9 (.it .u8 (.ofNat 120))) 10 11 (.tu [.bo true,.st [105],.fn (.func 66) [] []]) true) (aD es 18 (3 :: σ)))=some (some (.it .u8 (.ofNat 120)),some (.pt 1 0),some (.map es 18),some (.mit 0 18 (3 :: σ) 18),true):=by kernel_rfl
theorem yCd (σ:List Nat):aC 9 (run Tryz.E1 2000 20 0 .pl rest (tmE (tmM 9 (.it .u8 (.ofNat 120))) 10 11 (.tu [.bo true,.st [99],.fn (.func 67) [] []]) true) (aD es 18 (4 :: σ)))=some (some (.it .u8 (.ofNat 120)),some (.pt 1 0),some (.map es 18),some (.mit 0 18 (4 :: σ) 18),true):=by kernel_rfl
theorem yCe (σ:List Nat):aC 9 (run Tryz.E1 2000 20 0 .pl rest (tmE (tmM 9 (.it .u8 (.ofNat 120))) 10 11 (.tu [.bo true,.st [98],.fn (.func 68) [] []]) true) (aD es 18 (5 :: σ)))=some (some (.it .u8 (.ofNat 120)),some (.pt 1 0),some (.map es 18),some (.mit 0 18 (5 :: σ) 18),true):=by kernel_rfl
theorem yCf (σ:List Nat):aC 9 (run Tryz.E1 2000 20 0 .pl rest (tmE (tmM 9 (.it .u8 (.ofNat 120))) 10 11 (.tu [.bo true,.st [116,84],.fn (.func 69) [] []]) true) (aD es 18 (6 :: σ)))=some (some (.it .u8 (.ofNat 120)),some (.pt 1 0),some (.map es 18),some (.mit 0 18 (6 :: σ) 18),true):=by kernel_rfl
theorem yCg (σ:List Nat):aC 9 (run Tryz.E1 2000 20 0 .pl rest (tmE (tmM 9 (.it .u8 (.ofNat 120))) 10 11 (.tu [.bo true,.st [100,68],.fn (.func 70) [] []]) true) (aD es 18 (7 :: σ)))=some (some (.it .u8 (.ofNat 120)),some (.pt 1 0),some (.map es 18),some (.mit 0 18 (7 :: σ) 18),true):=by kernel_rfl
theorem yCh (σ:List Nat):aC 9 (run Tryz.E1 2000 20 0 .pl rest (tmE (tmM 9 (.it .u8 (.ofNat 120))) 10 11 (.tu [.bo true,.st [108],.fn (.func 72) [] []]) true) (aD es 18 (9 :: σ)))=some (some (.it .u8 (.ofNat 120)),some (.pt 1 0),some (.map es 18),some (.mit 0 18 (9 :: σ) 18),true):=by kernel_rfl
theorem zWl (σ:List Nat):aC 9 (run Tryz.E1 2000 20 0 .pl rest (tmE (tmM 9 (.it .u8 (.ofNat 120))) 10 11 (.tu [.bo true,.st [110,78],.fn (.func 73) [] []]) true) (aD es 18 (10 :: σ)))=some (some (.it .u8 (.ofNat 120)),some (.pt 1 0),some (.map es 18),some (.mit 0 18 (10 :: σ) 18),true):=by kernel_rfl
theorem zWm (σ:List Nat):aC 9 (run Tryz.E1 2000 20 0 .pl rest (tmE (tmM 9 (.it .u8 (.ofNat 120))) 10 11 (.tu [.bo true,.st [112],.fn (.func 74) [] []]) true) (aD es 18 (11 :: σ)))=some (some (.it .u8 (.ofNat 120)),some (.pt 1 0),some (.map es 18),some (.mit 0 18 (11 :: σ) 18),true):=by kernel_rfl
theorem zWn (σ:List Nat):aC 9 (run Tryz.E1 2000 20 0 .pl rest (tmE (tmM 9 (.it .u8 (.ofNat 120))) 10 11 (.tu [.bo true,.st [80],.fn (.func 75) [] []]) true) (aD es 18 (12 :: σ)))=some (some (.it .u8 (.ofNat 120)),some (.pt 1 0),some (.map es 18),some (.mit 0 18 (12 :: σ) 18),true):=by kernel_rfl
theorem zWo (σ:List Nat):aC 9 (run Tryz.E1 2000 20 0 .pl rest (tmE (tmM 9 (.it .u8 (.ofNat 120))) 10 11 (.tu [.bo true,.st [113,81],.fn (.func 76) [] []]) true) (aD es 18 (13 :: σ)))=some (some (.it .u8 (.ofNat 120)),some (.pt 1 0),some (.map es 18),some (.mit 0 18 (13 :: σ) 18),true):=by kernel_rfl
theorem zWp (σ:List Nat):aC 9 (run Tryz.E1 2000 20 0 .pl rest (tmE (tmM 9 (.it .u8 (.ofNat 120))) 10 11 (.tu [.bo true,.st [114],.fn (.func 77) [] []]) true) (aD es 18 (14 :: σ)))=some (some (.it .u8 (.ofNat 120)),some (.pt 1 0),some (.map es 18),some (.mit 0 18 (14 :: σ) 18),true):=by kernel_rfl
theorem zWq (σ:List Nat):aC 9 (run Tryz.E1 2000 20 0 .pl rest (tmE (tmM 9 (.it .u8 (.ofNat 120))) 10 11 (.tu [.bo true,.st [119],.fn (.func 78) [] []]) true) (aD es 18 (15 :: σ)))=some (some (.it .u8 (.ofNat 120)),some (.pt 1 0),some (.map es 18),some (.mit 0 18 (15 :: σ) 18),true):=by kernel_rfl
theorem zWr (σ:List Nat):aC 9 (run Tryz.E1 2000 20 0 .pl rest (tmE (tmM 9 (.it .u8 (.ofNat 120))) 10 11 (.tu [.bo true,.st [115],.fn (.func 79) [] []]) true) (aD es 18 (16 :: σ)))=some (some (.it .u8 (.ofNat 120)),some (.pt 1 0),some (.map es 18),some (.mit 0 18 (16 :: σ) 18),true):=by kernel_rfl
theorem zWs (σ:List Nat):aC 9 (run Tryz.E1 2000 20 0 .pl rest (tmE (tmM 9 (.it .u8 (.ofNat 120))) 10 11 (.tu [.bo true,.st [121],.fn (.func 80) [] []]) true) (aD es 18 (17 :: σ)))=some (some (.it .u8 (.ofNat 120)),some (.pt 1 0),some (.map es 18),some (.mit 0 18 (17 :: σ) 18),true):=by kernel_rfl
theorem d120 (lo:Nat) (A:W) (args:List AV) (ha:args=[.it .u8 (.ofNat 120)]):bK Tryz.prog lo 39 args A (.ret (.fn (.func 71) [] [])) A:=by
 refine iD (E:=Tryz.E1) Tryz.E1_ok (k:=2000) (n:=20) (its:=9) (a1:=10) (a2:=11) (es:=es) (clk:=18) (eh:=(.st [103,71,104,72,120],.fn (.func 71) [] [],8)) got body shp tmps (by decide) (nx:=nx) (ex:=ex) (by kernel_rfl) (by kernel_rfl) (by kernel_rfl) (by kernel_rfl) (by kernel_rfl) (by kernel_rfl) (by decide) (by kernel_rfl)
  (by kernel_rfl) (by kernel_rfl) (by kernel_rfl) (by kernel_rfl) (by kernel_rfl) (by kernel_rfl) (by simp [es]) (fun e he hne σ=>?_) (fun σ=>by kernel_rfl) lo A args ha
 simp only [es,List.mem_cons,List.not_mem_nil,or_false] at he
 rcases he with rfl | rfl | rfl | rfl | rfl | rfl | rfl | rfl | rfl | rfl | rfl | rfl | rfl | rfl | rfl | rfl | rfl | rfl
 ·exact yBz σ
 ·exact yCa σ
 ·exact yCb σ
 ·exact yCc σ
 ·exact yCd σ
 ·exact yCe σ
 ·exact yCf σ
 ·exact yCg σ
 ·exact absurd rfl hne
 ·exact yCh σ
 ·exact zWl σ
 ·exact zWm σ
 ·exact zWn σ
 ·exact zWo σ
 ·exact zWp σ
 ·exact zWq σ
 ·exact zWr σ
 ·exact zWs σ
theorem yCi (σ:List Nat):aC 9 (run Tryz.E1 2000 20 0 .pl rest (tmE (tmM 9 (.it .u8 (.ofNat 112))) 10 11 (.tu [.bo true,.st [123,125],.fn (.func 63) [] []]) true) (aD es 18 (0 :: σ)))=some (some (.it .u8 (.ofNat 112)),some (.pt 1 0),some (.map es 18),some (.mit 0 18 (0 :: σ) 18),true):=by kernel_rfl
theorem yCj (σ:List Nat):aC 9 (run Tryz.E1 2000 20 0 .pl rest (tmE (tmM 9 (.it .u8 (.ofNat 112))) 10 11 (.tu [.bo true,.st [61],.fn (.func 64) [] []]) true) (aD es 18 (1 :: σ)))=some (some (.it .u8 (.ofNat 112)),some (.pt 1 0),some (.map es 18),some (.mit 0 18 (1 :: σ) 18),true):=by kernel_rfl
theorem yCk (σ:List Nat):aC 9 (run Tryz.E1 2000 20 0 .pl rest (tmE (tmM 9 (.it .u8 (.ofNat 112))) 10 11 (.tu [.bo true,.st [97],.fn (.func 65) [] []]) true) (aD es 18 (2 :: σ)))=some (some (.it .u8 (.ofNat 112)),some (.pt 1 0),some (.map es 18),some (.mit 0 18 (2 :: σ) 18),true):=by kernel_rfl
theorem yCl (σ:List Nat):aC 9 (run Tryz.E1 2000 20 0 .pl rest (tmE (tmM 9 (.it .u8 (.ofNat 112))) 10 11 (.tu [.bo true,.st [105],.fn (.func 66) [] []]) true) (aD es 18 (3 :: σ)))=some (some (.it .u8 (.ofNat 112)),some (.pt 1 0),some (.map es 18),some (.mit 0 18 (3 :: σ) 18),true):=by kernel_rfl
theorem yCm (σ:List Nat):aC 9 (run Tryz.E1 2000 20 0 .pl rest (tmE (tmM 9 (.it .u8 (.ofNat 112))) 10 11 (.tu [.bo true,.st [99],.fn (.func 67) [] []]) true) (aD es 18 (4 :: σ)))=some (some (.it .u8 (.ofNat 112)),some (.pt 1 0),some (.map es 18),some (.mit 0 18 (4 :: σ) 18),true):=by kernel_rfl
theorem yCn (σ:List Nat):aC 9 (run Tryz.E1 2000 20 0 .pl rest (tmE (tmM 9 (.it .u8 (.ofNat 112))) 10 11 (.tu [.bo true,.st [98],.fn (.func 68) [] []]) true) (aD es 18 (5 :: σ)))=some (some (.it .u8 (.ofNat 112)),some (.pt 1 0),some (.map es 18),some (.mit 0 18 (5 :: σ) 18),true):=by kernel_rfl
theorem yCo (σ:List Nat):aC 9 (run Tryz.E1 2000 20 0 .pl rest (tmE (tmM 9 (.it .u8 (.ofNat 112))) 10 11 (.tu [.bo true,.st [116,84],.fn (.func 69) [] []]) true) (aD es 18 (6 :: σ)))=some (some (.it .u8 (.ofNat 112)),some (.pt 1 0),some (.map es 18),some (.mit 0 18 (6 :: σ) 18),true):=by kernel_rfl
theorem yCp (σ:List Nat):aC 9 (run Tryz.E1 2000 20 0 .pl rest (tmE (tmM 9 (.it .u8 (.ofNat 112))) 10 11 (.tu [.bo true,.st [100,68],.fn (.func 70) [] []]) true) (aD es 18 (7 :: σ)))=some (some (.it .u8 (.ofNat 112)),some (.pt 1 0),some (.map es 18),some (.mit 0 18 (7 :: σ) 18),true):=by kernel_rfl
theorem yCq (σ:List Nat):aC 9 (run Tryz.E1 2000 20 0 .pl rest (tmE (tmM 9 (.it .u8 (.ofNat 112))) 10 11 (.tu [.bo true,.st [103,71,104,72,120],.fn (.func 71) [] []]) true) (aD es 18 (8 :: σ)))=some (some (.it .u8 (.ofNat 112)),some (.pt 1 0),some (.map es 18),some (.mit 0 18 (8 :: σ) 18),true):=by kernel_rfl
theorem yCr (σ:List Nat):aC 9 (run Tryz.E1 2000 20 0 .pl rest (tmE (tmM 9 (.it .u8 (.ofNat 112))) 10 11 (.tu [.bo true,.st [108],.fn (.func 72) [] []]) true) (aD es 18 (9 :: σ)))=some (some (.it .u8 (.ofNat 112)),some (.pt 1 0),some (.map es 18),some (.mit 0 18 (9 :: σ) 18),true):=by kernel_rfl
theorem zWt (σ:List Nat):aC 9 (run Tryz.E1 2000 20 0 .pl rest (tmE (tmM 9 (.it .u8 (.ofNat 112))) 10 11 (.tu [.bo true,.st [110,78],.fn (.func 73) [] []]) true) (aD es 18 (10 :: σ)))=some (some (.it .u8 (.ofNat 112)),some (.pt 1 0),some (.map es 18),some (.mit 0 18 (10 :: σ) 18),true):=by kernel_rfl
theorem zWu (σ:List Nat):aC 9 (run Tryz.E1 2000 20 0 .pl rest (tmE (tmM 9 (.it .u8 (.ofNat 112))) 10 11 (.tu [.bo true,.st [80],.fn (.func 75) [] []]) true) (aD es 18 (12 :: σ)))=some (some (.it .u8 (.ofNat 112)),some (.pt 1 0),some (.map es 18),some (.mit 0 18 (12 :: σ) 18),true):=by kernel_rfl
theorem zWv (σ:List Nat):aC 9 (run Tryz.E1 2000 20 0 .pl rest (tmE (tmM 9 (.it .u8 (.ofNat 112))) 10 11 (.tu [.bo true,.st [113,81],.fn (.func 76) [] []]) true) (aD es 18 (13 :: σ)))=some (some (.it .u8 (.ofNat 112)),some (.pt 1 0),some (.map es 18),some (.mit 0 18 (13 :: σ) 18),true):=by kernel_rfl
theorem zWw (σ:List Nat):aC 9 (run Tryz.E1 2000 20 0 .pl rest (tmE (tmM 9 (.it .u8 (.ofNat 112))) 10 11 (.tu [.bo true,.st [114],.fn (.func 77) [] []]) true) (aD es 18 (14 :: σ)))=some (some (.it .u8 (.ofNat 112)),some (.pt 1 0),some (.map es 18),some (.mit 0 18 (14 :: σ) 18),true):=by kernel_rfl
theorem zWx (σ:List Nat):aC 9 (run Tryz.E1 2000 20 0 .pl rest (tmE (tmM 9 (.it .u8 (.ofNat 112))) 10 11 (.tu [.bo true,.st [119],.fn (.func 78) [] []]) true) (aD es 18 (15 :: σ)))=some (some (.it .u8 (.ofNat 112)),some (.pt 1 0),some (.map es 18),some (.mit 0 18 (15 :: σ) 18),true):=by kernel_rfl
theorem zWy (σ:List Nat):aC 9 (run Tryz.E1 2000 20 0 .pl rest (tmE (tmM 9 (.it .u8 (.ofNat 112))) 10 11 (.tu [.bo true,.st [115],.fn (.func 79) [] []]) true) (aD es 18 (16 :: σ)))=some (some (.it .u8 (.ofNat 112)),some (.pt 1 0),some (.map es 18),some (.mit 0 18 (16 :: σ) 18),true):=by kernel_rfl
theorem zWz (σ:List Nat):aC 9 (run Tryz.E1 2000 20 0 .pl rest (tmE (tmM 9 (.it .u8 (.ofNat 112))) 10 11 (.tu [.bo true,.st [121],.fn (.func 80) [] []]) true) (aD es 18 (17 :: σ)))=some (some (.it .u8 (.ofNat 112)),some (.pt 1 0),some (.map es 18),some (.mit 0 18 (17 :: σ) 18),true):=by kernel_rfl
theorem d112 (lo:Nat) (A:W) (args:List AV) (ha:args=[.it .u8 (.ofNat 112)]):bK Tryz.prog lo 39 args A (.ret (.fn (.func 74) [] [])) A:=by
 refine iD (E:=Tryz.E1) Tryz.E1_ok (k:=2000) (n:=20) (its:=9) (a1:=10) (a2:=11) (es:=es) (clk:=18) (eh:=(.st [112],.fn (.func 74) [] [],11)) got body shp tmps (by decide) (nx:=nx) (ex:=ex) (by kernel_rfl) (by kernel_rfl) (by kernel_rfl) (by kernel_rfl) (by kernel_rfl) (by kernel_rfl) (by decide) (by kernel_rfl)
  (by kernel_rfl) (by kernel_rfl) (by kernel_rfl) (by kernel_rfl) (by kernel_rfl) (by kernel_rfl) (by simp [es]) (fun e he hne σ=>?_) (fun σ=>by kernel_rfl) lo A args ha
 simp only [es,List.mem_cons,List.not_mem_nil,or_false] at he
 rcases he with rfl | rfl | rfl | rfl | rfl | rfl | rfl | rfl | rfl | rfl | rfl | rfl | rfl | rfl | rfl | rfl | rfl | rfl
 ·exact yCi σ
 ·exact yCj σ
 ·exact yCk σ
 ·exact yCl σ
 ·exact yCm σ
 ·exact yCn σ
 ·exact yCo σ
 ·exact yCp σ
 ·exact yCq σ
 ·exact yCr σ
 ·exact zWt σ
 ·exact absurd rfl hne
 ·exact zWu σ
 ·exact zWv σ
 ·exact zWw σ
 ·exact zWx σ
 ·exact zWy σ
 ·exact zWz σ
theorem yCs (σ:List Nat):aC 9 (run Tryz.E1 2000 20 0 .pl rest (tmE (tmM 9 (.it .u8 (.ofNat 114))) 10 11 (.tu [.bo true,.st [123,125],.fn (.func 63) [] []]) true) (aD es 18 (0 :: σ)))=some (some (.it .u8 (.ofNat 114)),some (.pt 1 0),some (.map es 18),some (.mit 0 18 (0 :: σ) 18),true):=by kernel_rfl
theorem yCt (σ:List Nat):aC 9 (run Tryz.E1 2000 20 0 .pl rest (tmE (tmM 9 (.it .u8 (.ofNat 114))) 10 11 (.tu [.bo true,.st [61],.fn (.func 64) [] []]) true) (aD es 18 (1 :: σ)))=some (some (.it .u8 (.ofNat 114)),some (.pt 1 0),some (.map es 18),some (.mit 0 18 (1 :: σ) 18),true):=by kernel_rfl
theorem yCu (σ:List Nat):aC 9 (run Tryz.E1 2000 20 0 .pl rest (tmE (tmM 9 (.it .u8 (.ofNat 114))) 10 11 (.tu [.bo true,.st [97],.fn (.func 65) [] []]) true) (aD es 18 (2 :: σ)))=some (some (.it .u8 (.ofNat 114)),some (.pt 1 0),some (.map es 18),some (.mit 0 18 (2 :: σ) 18),true):=by kernel_rfl
theorem yCv (σ:List Nat):aC 9 (run Tryz.E1 2000 20 0 .pl rest (tmE (tmM 9 (.it .u8 (.ofNat 114))) 10 11 (.tu [.bo true,.st [105],.fn (.func 66) [] []]) true) (aD es 18 (3 :: σ)))=some (some (.it .u8 (.ofNat 114)),some (.pt 1 0),some (.map es 18),some (.mit 0 18 (3 :: σ) 18),true):=by kernel_rfl
theorem yCw (σ:List Nat):aC 9 (run Tryz.E1 2000 20 0 .pl rest (tmE (tmM 9 (.it .u8 (.ofNat 114))) 10 11 (.tu [.bo true,.st [99],.fn (.func 67) [] []]) true) (aD es 18 (4 :: σ)))=some (some (.it .u8 (.ofNat 114)),some (.pt 1 0),some (.map es 18),some (.mit 0 18 (4 :: σ) 18),true):=by kernel_rfl
theorem yCx (σ:List Nat):aC 9 (run Tryz.E1 2000 20 0 .pl rest (tmE (tmM 9 (.it .u8 (.ofNat 114))) 10 11 (.tu [.bo true,.st [98],.fn (.func 68) [] []]) true) (aD es 18 (5 :: σ)))=some (some (.it .u8 (.ofNat 114)),some (.pt 1 0),some (.map es 18),some (.mit 0 18 (5 :: σ) 18),true):=by kernel_rfl
theorem yCy (σ:List Nat):aC 9 (run Tryz.E1 2000 20 0 .pl rest (tmE (tmM 9 (.it .u8 (.ofNat 114))) 10 11 (.tu [.bo true,.st [116,84],.fn (.func 69) [] []]) true) (aD es 18 (6 :: σ)))=some (some (.it .u8 (.ofNat 114)),some (.pt 1 0),some (.map es 18),some (.mit 0 18 (6 :: σ) 18),true):=by kernel_rfl
theorem yCz (σ:List Nat):aC 9 (run Tryz.E1 2000 20 0 .pl rest (tmE (tmM 9 (.it .u8 (.ofNat 114))) 10 11 (.tu [.bo true,.st [100,68],.fn (.func 70) [] []]) true) (aD es 18 (7 :: σ)))=some (some (.it .u8 (.ofNat 114)),some (.pt 1 0),some (.map es 18),some (.mit 0 18 (7 :: σ) 18),true):=by kernel_rfl
theorem yDa (σ:List Nat):aC 9 (run Tryz.E1 2000 20 0 .pl rest (tmE (tmM 9 (.it .u8 (.ofNat 114))) 10 11 (.tu [.bo true,.st [103,71,104,72,120],.fn (.func 71) [] []]) true) (aD es 18 (8 :: σ)))=some (some (.it .u8 (.ofNat 114)),some (.pt 1 0),some (.map es 18),some (.mit 0 18 (8 :: σ) 18),true):=by kernel_rfl
theorem yDb (σ:List Nat):aC 9 (run Tryz.E1 2000 20 0 .pl rest (tmE (tmM 9 (.it .u8 (.ofNat 114))) 10 11 (.tu [.bo true,.st [108],.fn (.func 72) [] []]) true) (aD es 18 (9 :: σ)))=some (some (.it .u8 (.ofNat 114)),some (.pt 1 0),some (.map es 18),some (.mit 0 18 (9 :: σ) 18),true):=by kernel_rfl
theorem zXa (σ:List Nat):aC 9 (run Tryz.E1 2000 20 0 .pl rest (tmE (tmM 9 (.it .u8 (.ofNat 114))) 10 11 (.tu [.bo true,.st [110,78],.fn (.func 73) [] []]) true) (aD es 18 (10 :: σ)))=some (some (.it .u8 (.ofNat 114)),some (.pt 1 0),some (.map es 18),some (.mit 0 18 (10 :: σ) 18),true):=by kernel_rfl
theorem zXb (σ:List Nat):aC 9 (run Tryz.E1 2000 20 0 .pl rest (tmE (tmM 9 (.it .u8 (.ofNat 114))) 10 11 (.tu [.bo true,.st [112],.fn (.func 74) [] []]) true) (aD es 18 (11 :: σ)))=some (some (.it .u8 (.ofNat 114)),some (.pt 1 0),some (.map es 18),some (.mit 0 18 (11 :: σ) 18),true):=by kernel_rfl
theorem zXc (σ:List Nat):aC 9 (run Tryz.E1 2000 20 0 .pl rest (tmE (tmM 9 (.it .u8 (.ofNat 114))) 10 11 (.tu [.bo true,.st [80],.fn (.func 75) [] []]) true) (aD es 18 (12 :: σ)))=some (some (.it .u8 (.ofNat 114)),some (.pt 1 0),some (.map es 18),some (.mit 0 18 (12 :: σ) 18),true):=by kernel_rfl
theorem zXd (σ:List Nat):aC 9 (run Tryz.E1 2000 20 0 .pl rest (tmE (tmM 9 (.it .u8 (.ofNat 114))) 10 11 (.tu [.bo true,.st [113,81],.fn (.func 76) [] []]) true) (aD es 18 (13 :: σ)))=some (some (.it .u8 (.ofNat 114)),some (.pt 1 0),some (.map es 18),some (.mit 0 18 (13 :: σ) 18),true):=by kernel_rfl
theorem zXe (σ:List Nat):aC 9 (run Tryz.E1 2000 20 0 .pl rest (tmE (tmM 9 (.it .u8 (.ofNat 114))) 10 11 (.tu [.bo true,.st [119],.fn (.func 78) [] []]) true) (aD es 18 (15 :: σ)))=some (some (.it .u8 (.ofNat 114)),some (.pt 1 0),some (.map es 18),some (.mit 0 18 (15 :: σ) 18),true):=by kernel_rfl
theorem zXf (σ:List Nat):aC 9 (run Tryz.E1 2000 20 0 .pl rest (tmE (tmM 9 (.it .u8 (.ofNat 114))) 10 11 (.tu [.bo true,.st [115],.fn (.func 79) [] []]) true) (aD es 18 (16 :: σ)))=some (some (.it .u8 (.ofNat 114)),some (.pt 1 0),some (.map es 18),some (.mit 0 18 (16 :: σ) 18),true):=by kernel_rfl
theorem zXg (σ:List Nat):aC 9 (run Tryz.E1 2000 20 0 .pl rest (tmE (tmM 9 (.it .u8 (.ofNat 114))) 10 11 (.tu [.bo true,.st [121],.fn (.func 80) [] []]) true) (aD es 18 (17 :: σ)))=some (some (.it .u8 (.ofNat 114)),some (.pt 1 0),some (.map es 18),some (.mit 0 18 (17 :: σ) 18),true):=by kernel_rfl
theorem d114 (lo:Nat) (A:W) (args:List AV) (ha:args=[.it .u8 (.ofNat 114)]):bK Tryz.prog lo 39 args A (.ret (.fn (.func 77) [] [])) A:=by
 refine iD (E:=Tryz.E1) Tryz.E1_ok (k:=2000) (n:=20) (its:=9) (a1:=10) (a2:=11) (es:=es) (clk:=18) (eh:=(.st [114],.fn (.func 77) [] [],14)) got body shp tmps (by decide) (nx:=nx) (ex:=ex) (by kernel_rfl) (by kernel_rfl) (by kernel_rfl) (by kernel_rfl) (by kernel_rfl) (by kernel_rfl) (by decide) (by kernel_rfl)
  (by kernel_rfl) (by kernel_rfl) (by kernel_rfl) (by kernel_rfl) (by kernel_rfl) (by kernel_rfl) (by simp [es]) (fun e he hne σ=>?_) (fun σ=>by kernel_rfl) lo A args ha
 simp only [es,List.mem_cons,List.not_mem_nil,or_false] at he
 rcases he with rfl | rfl | rfl | rfl | rfl | rfl | rfl | rfl | rfl | rfl | rfl | rfl | rfl | rfl | rfl | rfl | rfl | rfl
 ·exact yCs σ
 ·exact yCt σ
 ·exact yCu σ
 ·exact yCv σ
 ·exact yCw σ
 ·exact yCx σ
 ·exact yCy σ
 ·exact yCz σ
 ·exact yDa σ
 ·exact yDb σ
 ·exact zXa σ
 ·exact zXb σ
 ·exact zXc σ
 ·exact zXd σ
 ·exact absurd rfl hne
 ·exact zXe σ
 ·exact zXf σ
 ·exact zXg σ
end Tryz.Bd
def Tryz.Bd.tab:List (Nat × Nat):=[(123,63),(97,65),(100,70),(103,71),(71,71),(104,71),(72,71),(120,71),(112,74),(114,77)]
def Tg (tab:List (Nat × Nat)):Gv:=fun _ A xs=>match xs with
 | [.it .u8 (.ofNat b)]=>ob (lk b tab) fun g=>some (.fn (.func g) [] [],A)
 | _=>none
where lk:Nat->List (Nat × Nat)->Option Nat
 | _,[]=>none
 | b,p :: r=>cnd (Nat.beq b p.1) (some p.2) (lk b r)
theorem Xw {b g:Nat}:∀ {l:List (Nat × Nat)},Tg.lk b l=some g->(b,g) ∈ l
 | p :: r,h=>by
  unfold Tg.lk cnd at h
  split at h
  ·rename_i hc
   simp only [Option.some.injEq] at h
   have:=Nat.eq_of_beq_eq_true hc
   subst this h
   exact .head _
  ·exact .tail _ (Xw h)
theorem Tryz.bdoes_ok (lo:Nat) (A:W) (args:List AV) (v:AV) (A':W) (h:Tg Tryz.Bd.tab lo A args=some (v,A')):bK Tryz.prog lo 39 args A (.ret v) A':=by
 unfold Tg at h
 split at h
 ·rename_i b
  replace h:=aA h; obtain ⟨g,hg,h⟩:=h
  simp only [Option.some.injEq,Prod.mk.injEq] at h
  obtain ⟨rfl,rfl⟩:=h
  have hm:=Xw hg
  simp only [Tryz.Bd.tab,List.mem_cons,Prod.mk.injEq,List.not_mem_nil,or_false] at hm
  rcases hm with ⟨rfl,rfl⟩ | ⟨rfl,rfl⟩ | ⟨rfl,rfl⟩ | ⟨rfl,rfl⟩ | ⟨rfl,rfl⟩ | ⟨rfl,rfl⟩ | ⟨rfl,rfl⟩ | ⟨rfl,rfl⟩ | ⟨rfl,rfl⟩ | ⟨rfl,rfl⟩
  ·exact Tryz.Bd.d123 lo A _ rfl
  ·exact Tryz.Bd.d97 lo A _ rfl
  ·exact Tryz.Bd.d100 lo A _ rfl
  ·exact Tryz.Bd.d103 lo A _ rfl
  ·exact Tryz.Bd.d71 lo A _ rfl
  ·exact Tryz.Bd.d104 lo A _ rfl
  ·exact Tryz.Bd.d72 lo A _ rfl
  ·exact Tryz.Bd.d120 lo A _ rfl
  ·exact Tryz.Bd.d112 lo A _ rfl
  ·exact Tryz.Bd.d114 lo A _ rfl
 ·cases h
end Go.Proofs
