/- Part of a proof over this seat: a library of my own, and what it says of this seat. No statement is proved here. -/
import Derived.Test.YtfpipcafiocdoaaGreatDoorPartBC
import Derived.Test.YtfpipcafiocdoaaGreatDoorPartAY
namespace Go.Proofs
open Go.Ce
set_option maxRecDepth 100000
noncomputable def Tryz.E1:Env:=Tryz.E0.more 94 zIl
theorem Tryz.E1_ok:dQ Tryz.E1:=Tryz.E0_ok.more fun lo A args v A' h=>zEs Tryz.func94 (by kernel_rfl) (by kernel_rfl) (by kernel_rfl) (by kernel_rfl) lo A args v A' h
namespace Tryz.Bd
noncomputable abbrev c:Code:=zBb Tryz.f39
noncomputable abbrev rest:Code:=cR (vG Tryz.f39)
noncomputable abbrev suf:Code:=cR (cR (cR c))
def es:List (AV × AV × Nat):=[(.st [123,125],.fn (.func 63) [] [],0),(.st [61],.fn (.func 64) [] [],1),(.st [97],.fn (.func 65) [] [],2),(.st [105],.fn (.func 66) [] [],3),(.st [99],.fn (.func 67) [] [],4),(.st [98],.fn (.func 68) [] [],5),(.st [116,84],.fn (.func 69) [] [],6),(.st [100,68],.fn (.func 70) [] [],7),(.st [103,71,104,72,120],.fn (.func 71) [] [],8),(.st [108],.fn (.func 72) [] [],9),(.st [110,78],.fn (.func 73) [] [],10),(.st [112],.fn (.func 74) [] [],11),(.st [80],.fn (.func 75) [] [],12),(.st [113,81],.fn (.func 76) [] [],13),(.st [114],.fn (.func 77) [] [],14),(.st [119],.fn (.func 78) [] [],15),(.st [115],.fn (.func 79) [] [],16),(.st [121],.fn (.func 80) [] [],17)]
theorem body:Tryz.f39.body=some c:=by kernel_rfl
noncomputable abbrev nx:Oper:=cOp (cL (vG Tryz.f39)) 0
noncomputable abbrev ex:Oper:=cOp (cL (vG Tryz.f39)) 1
noncomputable abbrev rid:Nat:=cId (cL (vG Tryz.f39))
theorem shp:c=.seq (cL c) (.seq (cL (cR c)) (.seq (.seq (cL (cL (cR (cR c)))) (.block 0 (.loop (.seq (.region rid #[nx,ex] false) rest)))) suf)):=by kernel_rfl
theorem got:T.get Tryz.E1.F 39=some Tryz.f39:=by kernel_rfl
theorem tmps:Tryz.f39.ntmps=20:=by kernel_rfl
theorem zWj (σ:List Nat):aC 9 (run Tryz.E1 2000 20 0 .pl rest (tmE (tmM 9 (.it .u8 (.ofNat 123))) 10 11 (.tu [.bo true,.st [61],.fn (.func 64) [] []]) true) (aD es 18 (1 :: σ)))=some (some (.it .u8 (.ofNat 123)),some (.pt 1 0),some (.map es 18),some (.mit 0 18 (1 :: σ) 18),true):=by kernel_rfl
theorem zWk (σ:List Nat):aC 9 (run Tryz.E1 2000 20 0 .pl rest (tmE (tmM 9 (.it .u8 (.ofNat 123))) 10 11 (.tu [.bo true,.st [97],.fn (.func 65) [] []]) true) (aD es 18 (2 :: σ)))=some (some (.it .u8 (.ofNat 123)),some (.pt 1 0),some (.map es 18),some (.mit 0 18 (2 :: σ) 18),true):=by kernel_rfl
theorem zWl (σ:List Nat):aC 9 (run Tryz.E1 2000 20 0 .pl rest (tmE (tmM 9 (.it .u8 (.ofNat 123))) 10 11 (.tu [.bo true,.st [105],.fn (.func 66) [] []]) true) (aD es 18 (3 :: σ)))=some (some (.it .u8 (.ofNat 123)),some (.pt 1 0),some (.map es 18),some (.mit 0 18 (3 :: σ) 18),true):=by kernel_rfl
theorem zWm (σ:List Nat):aC 9 (run Tryz.E1 2000 20 0 .pl rest (tmE (tmM 9 (.it .u8 (.ofNat 123))) 10 11 (.tu [.bo true,.st [99],.fn (.func 67) [] []]) true) (aD es 18 (4 :: σ)))=some (some (.it .u8 (.ofNat 123)),some (.pt 1 0),some (.map es 18),some (.mit 0 18 (4 :: σ) 18),true):=by kernel_rfl
theorem zWn (σ:List Nat):aC 9 (run Tryz.E1 2000 20 0 .pl rest (tmE (tmM 9 (.it .u8 (.ofNat 123))) 10 11 (.tu [.bo true,.st [98],.fn (.func 68) [] []]) true) (aD es 18 (5 :: σ)))=some (some (.it .u8 (.ofNat 123)),some (.pt 1 0),some (.map es 18),some (.mit 0 18 (5 :: σ) 18),true):=by kernel_rfl
theorem zWo (σ:List Nat):aC 9 (run Tryz.E1 2000 20 0 .pl rest (tmE (tmM 9 (.it .u8 (.ofNat 123))) 10 11 (.tu [.bo true,.st [116,84],.fn (.func 69) [] []]) true) (aD es 18 (6 :: σ)))=some (some (.it .u8 (.ofNat 123)),some (.pt 1 0),some (.map es 18),some (.mit 0 18 (6 :: σ) 18),true):=by kernel_rfl
theorem zWp (σ:List Nat):aC 9 (run Tryz.E1 2000 20 0 .pl rest (tmE (tmM 9 (.it .u8 (.ofNat 123))) 10 11 (.tu [.bo true,.st [100,68],.fn (.func 70) [] []]) true) (aD es 18 (7 :: σ)))=some (some (.it .u8 (.ofNat 123)),some (.pt 1 0),some (.map es 18),some (.mit 0 18 (7 :: σ) 18),true):=by kernel_rfl
theorem zWq (σ:List Nat):aC 9 (run Tryz.E1 2000 20 0 .pl rest (tmE (tmM 9 (.it .u8 (.ofNat 123))) 10 11 (.tu [.bo true,.st [103,71,104,72,120],.fn (.func 71) [] []]) true) (aD es 18 (8 :: σ)))=some (some (.it .u8 (.ofNat 123)),some (.pt 1 0),some (.map es 18),some (.mit 0 18 (8 :: σ) 18),true):=by kernel_rfl
theorem zWr (σ:List Nat):aC 9 (run Tryz.E1 2000 20 0 .pl rest (tmE (tmM 9 (.it .u8 (.ofNat 123))) 10 11 (.tu [.bo true,.st [108],.fn (.func 72) [] []]) true) (aD es 18 (9 :: σ)))=some (some (.it .u8 (.ofNat 123)),some (.pt 1 0),some (.map es 18),some (.mit 0 18 (9 :: σ) 18),true):=by kernel_rfl
theorem zRo (σ:List Nat):aC 9 (run Tryz.E1 2000 20 0 .pl rest (tmE (tmM 9 (.it .u8 (.ofNat 123))) 10 11 (.tu [.bo true,.st [110,78],.fn (.func 73) [] []]) true) (aD es 18 (10 :: σ)))=some (some (.it .u8 (.ofNat 123)),some (.pt 1 0),some (.map es 18),some (.mit 0 18 (10 :: σ) 18),true):=by kernel_rfl
theorem zRp (σ:List Nat):aC 9 (run Tryz.E1 2000 20 0 .pl rest (tmE (tmM 9 (.it .u8 (.ofNat 123))) 10 11 (.tu [.bo true,.st [112],.fn (.func 74) [] []]) true) (aD es 18 (11 :: σ)))=some (some (.it .u8 (.ofNat 123)),some (.pt 1 0),some (.map es 18),some (.mit 0 18 (11 :: σ) 18),true):=by kernel_rfl
theorem zRq (σ:List Nat):aC 9 (run Tryz.E1 2000 20 0 .pl rest (tmE (tmM 9 (.it .u8 (.ofNat 123))) 10 11 (.tu [.bo true,.st [80],.fn (.func 75) [] []]) true) (aD es 18 (12 :: σ)))=some (some (.it .u8 (.ofNat 123)),some (.pt 1 0),some (.map es 18),some (.mit 0 18 (12 :: σ) 18),true):=by kernel_rfl
theorem zRr (σ:List Nat):aC 9 (run Tryz.E1 2000 20 0 .pl rest (tmE (tmM 9 (.it .u8 (.ofNat 123))) 10 11 (.tu [.bo true,.st [113,81],.fn (.func 76) [] []]) true) (aD es 18 (13 :: σ)))=some (some (.it .u8 (.ofNat 123)),some (.pt 1 0),some (.map es 18),some (.mit 0 18 (13 :: σ) 18),true):=by kernel_rfl
theorem zRs (σ:List Nat):aC 9 (run Tryz.E1 2000 20 0 .pl rest (tmE (tmM 9 (.it .u8 (.ofNat 123))) 10 11 (.tu [.bo true,.st [114],.fn (.func 77) [] []]) true) (aD es 18 (14 :: σ)))=some (some (.it .u8 (.ofNat 123)),some (.pt 1 0),some (.map es 18),some (.mit 0 18 (14 :: σ) 18),true):=by kernel_rfl
theorem zRt (σ:List Nat):aC 9 (run Tryz.E1 2000 20 0 .pl rest (tmE (tmM 9 (.it .u8 (.ofNat 123))) 10 11 (.tu [.bo true,.st [119],.fn (.func 78) [] []]) true) (aD es 18 (15 :: σ)))=some (some (.it .u8 (.ofNat 123)),some (.pt 1 0),some (.map es 18),some (.mit 0 18 (15 :: σ) 18),true):=by kernel_rfl
theorem zRu (σ:List Nat):aC 9 (run Tryz.E1 2000 20 0 .pl rest (tmE (tmM 9 (.it .u8 (.ofNat 123))) 10 11 (.tu [.bo true,.st [115],.fn (.func 79) [] []]) true) (aD es 18 (16 :: σ)))=some (some (.it .u8 (.ofNat 123)),some (.pt 1 0),some (.map es 18),some (.mit 0 18 (16 :: σ) 18),true):=by kernel_rfl
theorem zRv (σ:List Nat):aC 9 (run Tryz.E1 2000 20 0 .pl rest (tmE (tmM 9 (.it .u8 (.ofNat 123))) 10 11 (.tu [.bo true,.st [121],.fn (.func 80) [] []]) true) (aD es 18 (17 :: σ)))=some (some (.it .u8 (.ofNat 123)),some (.pt 1 0),some (.map es 18),some (.mit 0 18 (17 :: σ) 18),true):=by kernel_rfl
theorem d123 (lo:Nat) (A:W) (args:List AV) (ha:args=[.it .u8 (.ofNat 123)]):bD Tryz.prog lo 39 args A (.ret (.fn (.func 63) [] [])) A:=by
 refine gX (E:=Tryz.E1) Tryz.E1_ok (k:=2000) (n:=20) (its:=9) (a1:=10) (a2:=11) (es:=es) (clk:=18) (eh:=(.st [123,125],.fn (.func 63) [] [],0)) got body shp tmps (by decide) (nx:=nx) (ex:=ex) (by kernel_rfl) (by kernel_rfl) (by kernel_rfl) (by kernel_rfl) (by kernel_rfl) (by kernel_rfl) (by decide) (by kernel_rfl)
  (by kernel_rfl) (by kernel_rfl) (by kernel_rfl) (by kernel_rfl) (by kernel_rfl) (by kernel_rfl) (by simp [es]) (fun e he hne σ=>?_) (fun σ=>by kernel_rfl) lo A args ha
 simp only [es,List.mem_cons,List.not_mem_nil,or_false] at he
 rcases he with rfl | rfl | rfl | rfl | rfl | rfl | rfl | rfl | rfl | rfl | rfl | rfl | rfl | rfl | rfl | rfl | rfl | rfl
 ·exact absurd rfl hne
 ·exact zWj σ
 ·exact zWk σ
 ·exact zWl σ
 ·exact zWm σ
 ·exact zWn σ
 ·exact zWo σ
 ·exact zWp σ
 ·exact zWq σ
 ·exact zWr σ
 ·exact zRo σ
 ·exact zRp σ
 ·exact zRq σ
 ·exact zRr σ
 ·exact zRs σ
 ·exact zRt σ
 ·exact zRu σ
 ·exact zRv σ
theorem yBj (σ:List Nat):aC 9 (run Tryz.E1 2000 20 0 .pl rest (tmE (tmM 9 (.it .u8 (.ofNat 97))) 10 11 (.tu [.bo true,.st [123,125],.fn (.func 63) [] []]) true) (aD es 18 (0 :: σ)))=some (some (.it .u8 (.ofNat 97)),some (.pt 1 0),some (.map es 18),some (.mit 0 18 (0 :: σ) 18),true):=by kernel_rfl
theorem yBk (σ:List Nat):aC 9 (run Tryz.E1 2000 20 0 .pl rest (tmE (tmM 9 (.it .u8 (.ofNat 97))) 10 11 (.tu [.bo true,.st [61],.fn (.func 64) [] []]) true) (aD es 18 (1 :: σ)))=some (some (.it .u8 (.ofNat 97)),some (.pt 1 0),some (.map es 18),some (.mit 0 18 (1 :: σ) 18),true):=by kernel_rfl
theorem yBl (σ:List Nat):aC 9 (run Tryz.E1 2000 20 0 .pl rest (tmE (tmM 9 (.it .u8 (.ofNat 97))) 10 11 (.tu [.bo true,.st [105],.fn (.func 66) [] []]) true) (aD es 18 (3 :: σ)))=some (some (.it .u8 (.ofNat 97)),some (.pt 1 0),some (.map es 18),some (.mit 0 18 (3 :: σ) 18),true):=by kernel_rfl
theorem yBm (σ:List Nat):aC 9 (run Tryz.E1 2000 20 0 .pl rest (tmE (tmM 9 (.it .u8 (.ofNat 97))) 10 11 (.tu [.bo true,.st [99],.fn (.func 67) [] []]) true) (aD es 18 (4 :: σ)))=some (some (.it .u8 (.ofNat 97)),some (.pt 1 0),some (.map es 18),some (.mit 0 18 (4 :: σ) 18),true):=by kernel_rfl
theorem yBn (σ:List Nat):aC 9 (run Tryz.E1 2000 20 0 .pl rest (tmE (tmM 9 (.it .u8 (.ofNat 97))) 10 11 (.tu [.bo true,.st [98],.fn (.func 68) [] []]) true) (aD es 18 (5 :: σ)))=some (some (.it .u8 (.ofNat 97)),some (.pt 1 0),some (.map es 18),some (.mit 0 18 (5 :: σ) 18),true):=by kernel_rfl
theorem yBo (σ:List Nat):aC 9 (run Tryz.E1 2000 20 0 .pl rest (tmE (tmM 9 (.it .u8 (.ofNat 97))) 10 11 (.tu [.bo true,.st [116,84],.fn (.func 69) [] []]) true) (aD es 18 (6 :: σ)))=some (some (.it .u8 (.ofNat 97)),some (.pt 1 0),some (.map es 18),some (.mit 0 18 (6 :: σ) 18),true):=by kernel_rfl
theorem yBp (σ:List Nat):aC 9 (run Tryz.E1 2000 20 0 .pl rest (tmE (tmM 9 (.it .u8 (.ofNat 97))) 10 11 (.tu [.bo true,.st [100,68],.fn (.func 70) [] []]) true) (aD es 18 (7 :: σ)))=some (some (.it .u8 (.ofNat 97)),some (.pt 1 0),some (.map es 18),some (.mit 0 18 (7 :: σ) 18),true):=by kernel_rfl
theorem yBq (σ:List Nat):aC 9 (run Tryz.E1 2000 20 0 .pl rest (tmE (tmM 9 (.it .u8 (.ofNat 97))) 10 11 (.tu [.bo true,.st [103,71,104,72,120],.fn (.func 71) [] []]) true) (aD es 18 (8 :: σ)))=some (some (.it .u8 (.ofNat 97)),some (.pt 1 0),some (.map es 18),some (.mit 0 18 (8 :: σ) 18),true):=by kernel_rfl
theorem yBr (σ:List Nat):aC 9 (run Tryz.E1 2000 20 0 .pl rest (tmE (tmM 9 (.it .u8 (.ofNat 97))) 10 11 (.tu [.bo true,.st [108],.fn (.func 72) [] []]) true) (aD es 18 (9 :: σ)))=some (some (.it .u8 (.ofNat 97)),some (.pt 1 0),some (.map es 18),some (.mit 0 18 (9 :: σ) 18),true):=by kernel_rfl
theorem zWs (σ:List Nat):aC 9 (run Tryz.E1 2000 20 0 .pl rest (tmE (tmM 9 (.it .u8 (.ofNat 97))) 10 11 (.tu [.bo true,.st [110,78],.fn (.func 73) [] []]) true) (aD es 18 (10 :: σ)))=some (some (.it .u8 (.ofNat 97)),some (.pt 1 0),some (.map es 18),some (.mit 0 18 (10 :: σ) 18),true):=by kernel_rfl
theorem zWt (σ:List Nat):aC 9 (run Tryz.E1 2000 20 0 .pl rest (tmE (tmM 9 (.it .u8 (.ofNat 97))) 10 11 (.tu [.bo true,.st [112],.fn (.func 74) [] []]) true) (aD es 18 (11 :: σ)))=some (some (.it .u8 (.ofNat 97)),some (.pt 1 0),some (.map es 18),some (.mit 0 18 (11 :: σ) 18),true):=by kernel_rfl
theorem zWu (σ:List Nat):aC 9 (run Tryz.E1 2000 20 0 .pl rest (tmE (tmM 9 (.it .u8 (.ofNat 97))) 10 11 (.tu [.bo true,.st [80],.fn (.func 75) [] []]) true) (aD es 18 (12 :: σ)))=some (some (.it .u8 (.ofNat 97)),some (.pt 1 0),some (.map es 18),some (.mit 0 18 (12 :: σ) 18),true):=by kernel_rfl
theorem zWv (σ:List Nat):aC 9 (run Tryz.E1 2000 20 0 .pl rest (tmE (tmM 9 (.it .u8 (.ofNat 97))) 10 11 (.tu [.bo true,.st [113,81],.fn (.func 76) [] []]) true) (aD es 18 (13 :: σ)))=some (some (.it .u8 (.ofNat 97)),some (.pt 1 0),some (.map es 18),some (.mit 0 18 (13 :: σ) 18),true):=by kernel_rfl
theorem zWw (σ:List Nat):aC 9 (run Tryz.E1 2000 20 0 .pl rest (tmE (tmM 9 (.it .u8 (.ofNat 97))) 10 11 (.tu [.bo true,.st [114],.fn (.func 77) [] []]) true) (aD es 18 (14 :: σ)))=some (some (.it .u8 (.ofNat 97)),some (.pt 1 0),some (.map es 18),some (.mit 0 18 (14 :: σ) 18),true):=by kernel_rfl
theorem zWx (σ:List Nat):aC 9 (run Tryz.E1 2000 20 0 .pl rest (tmE (tmM 9 (.it .u8 (.ofNat 97))) 10 11 (.tu [.bo true,.st [119],.fn (.func 78) [] []]) true) (aD es 18 (15 :: σ)))=some (some (.it .u8 (.ofNat 97)),some (.pt 1 0),some (.map es 18),some (.mit 0 18 (15 :: σ) 18),true):=by kernel_rfl
theorem zWy (σ:List Nat):aC 9 (run Tryz.E1 2000 20 0 .pl rest (tmE (tmM 9 (.it .u8 (.ofNat 97))) 10 11 (.tu [.bo true,.st [115],.fn (.func 79) [] []]) true) (aD es 18 (16 :: σ)))=some (some (.it .u8 (.ofNat 97)),some (.pt 1 0),some (.map es 18),some (.mit 0 18 (16 :: σ) 18),true):=by kernel_rfl
theorem zWz (σ:List Nat):aC 9 (run Tryz.E1 2000 20 0 .pl rest (tmE (tmM 9 (.it .u8 (.ofNat 97))) 10 11 (.tu [.bo true,.st [121],.fn (.func 80) [] []]) true) (aD es 18 (17 :: σ)))=some (some (.it .u8 (.ofNat 97)),some (.pt 1 0),some (.map es 18),some (.mit 0 18 (17 :: σ) 18),true):=by kernel_rfl
theorem d97 (lo:Nat) (A:W) (args:List AV) (ha:args=[.it .u8 (.ofNat 97)]):bD Tryz.prog lo 39 args A (.ret (.fn (.func 65) [] [])) A:=by
 refine gX (E:=Tryz.E1) Tryz.E1_ok (k:=2000) (n:=20) (its:=9) (a1:=10) (a2:=11) (es:=es) (clk:=18) (eh:=(.st [97],.fn (.func 65) [] [],2)) got body shp tmps (by decide) (nx:=nx) (ex:=ex) (by kernel_rfl) (by kernel_rfl) (by kernel_rfl) (by kernel_rfl) (by kernel_rfl) (by kernel_rfl) (by decide) (by kernel_rfl)
  (by kernel_rfl) (by kernel_rfl) (by kernel_rfl) (by kernel_rfl) (by kernel_rfl) (by kernel_rfl) (by simp [es]) (fun e he hne σ=>?_) (fun σ=>by kernel_rfl) lo A args ha
 simp only [es,List.mem_cons,List.not_mem_nil,or_false] at he
 rcases he with rfl | rfl | rfl | rfl | rfl | rfl | rfl | rfl | rfl | rfl | rfl | rfl | rfl | rfl | rfl | rfl | rfl | rfl
 ·exact yBj σ
 ·exact yBk σ
 ·exact absurd rfl hne
 ·exact yBl σ
 ·exact yBm σ
 ·exact yBn σ
 ·exact yBo σ
 ·exact yBp σ
 ·exact yBq σ
 ·exact yBr σ
 ·exact zWs σ
 ·exact zWt σ
 ·exact zWu σ
 ·exact zWv σ
 ·exact zWw σ
 ·exact zWx σ
 ·exact zWy σ
 ·exact zWz σ
theorem zXa (σ:List Nat):aC 9 (run Tryz.E1 2000 20 0 .pl rest (tmE (tmM 9 (.it .u8 (.ofNat 100))) 10 11 (.tu [.bo true,.st [123,125],.fn (.func 63) [] []]) true) (aD es 18 (0 :: σ)))=some (some (.it .u8 (.ofNat 100)),some (.pt 1 0),some (.map es 18),some (.mit 0 18 (0 :: σ) 18),true):=by kernel_rfl
theorem zXb (σ:List Nat):aC 9 (run Tryz.E1 2000 20 0 .pl rest (tmE (tmM 9 (.it .u8 (.ofNat 100))) 10 11 (.tu [.bo true,.st [61],.fn (.func 64) [] []]) true) (aD es 18 (1 :: σ)))=some (some (.it .u8 (.ofNat 100)),some (.pt 1 0),some (.map es 18),some (.mit 0 18 (1 :: σ) 18),true):=by kernel_rfl
theorem zXc (σ:List Nat):aC 9 (run Tryz.E1 2000 20 0 .pl rest (tmE (tmM 9 (.it .u8 (.ofNat 100))) 10 11 (.tu [.bo true,.st [97],.fn (.func 65) [] []]) true) (aD es 18 (2 :: σ)))=some (some (.it .u8 (.ofNat 100)),some (.pt 1 0),some (.map es 18),some (.mit 0 18 (2 :: σ) 18),true):=by kernel_rfl
theorem zXd (σ:List Nat):aC 9 (run Tryz.E1 2000 20 0 .pl rest (tmE (tmM 9 (.it .u8 (.ofNat 100))) 10 11 (.tu [.bo true,.st [105],.fn (.func 66) [] []]) true) (aD es 18 (3 :: σ)))=some (some (.it .u8 (.ofNat 100)),some (.pt 1 0),some (.map es 18),some (.mit 0 18 (3 :: σ) 18),true):=by kernel_rfl
theorem zXe (σ:List Nat):aC 9 (run Tryz.E1 2000 20 0 .pl rest (tmE (tmM 9 (.it .u8 (.ofNat 100))) 10 11 (.tu [.bo true,.st [99],.fn (.func 67) [] []]) true) (aD es 18 (4 :: σ)))=some (some (.it .u8 (.ofNat 100)),some (.pt 1 0),some (.map es 18),some (.mit 0 18 (4 :: σ) 18),true):=by kernel_rfl
theorem zXf (σ:List Nat):aC 9 (run Tryz.E1 2000 20 0 .pl rest (tmE (tmM 9 (.it .u8 (.ofNat 100))) 10 11 (.tu [.bo true,.st [98],.fn (.func 68) [] []]) true) (aD es 18 (5 :: σ)))=some (some (.it .u8 (.ofNat 100)),some (.pt 1 0),some (.map es 18),some (.mit 0 18 (5 :: σ) 18),true):=by kernel_rfl
theorem zXg (σ:List Nat):aC 9 (run Tryz.E1 2000 20 0 .pl rest (tmE (tmM 9 (.it .u8 (.ofNat 100))) 10 11 (.tu [.bo true,.st [116,84],.fn (.func 69) [] []]) true) (aD es 18 (6 :: σ)))=some (some (.it .u8 (.ofNat 100)),some (.pt 1 0),some (.map es 18),some (.mit 0 18 (6 :: σ) 18),true):=by kernel_rfl
theorem zXh (σ:List Nat):aC 9 (run Tryz.E1 2000 20 0 .pl rest (tmE (tmM 9 (.it .u8 (.ofNat 100))) 10 11 (.tu [.bo true,.st [103,71,104,72,120],.fn (.func 71) [] []]) true) (aD es 18 (8 :: σ)))=some (some (.it .u8 (.ofNat 100)),some (.pt 1 0),some (.map es 18),some (.mit 0 18 (8 :: σ) 18),true):=by kernel_rfl
theorem zXi (σ:List Nat):aC 9 (run Tryz.E1 2000 20 0 .pl rest (tmE (tmM 9 (.it .u8 (.ofNat 100))) 10 11 (.tu [.bo true,.st [108],.fn (.func 72) [] []]) true) (aD es 18 (9 :: σ)))=some (some (.it .u8 (.ofNat 100)),some (.pt 1 0),some (.map es 18),some (.mit 0 18 (9 :: σ) 18),true):=by kernel_rfl
theorem zRw (σ:List Nat):aC 9 (run Tryz.E1 2000 20 0 .pl rest (tmE (tmM 9 (.it .u8 (.ofNat 100))) 10 11 (.tu [.bo true,.st [110,78],.fn (.func 73) [] []]) true) (aD es 18 (10 :: σ)))=some (some (.it .u8 (.ofNat 100)),some (.pt 1 0),some (.map es 18),some (.mit 0 18 (10 :: σ) 18),true):=by kernel_rfl
theorem zRx (σ:List Nat):aC 9 (run Tryz.E1 2000 20 0 .pl rest (tmE (tmM 9 (.it .u8 (.ofNat 100))) 10 11 (.tu [.bo true,.st [112],.fn (.func 74) [] []]) true) (aD es 18 (11 :: σ)))=some (some (.it .u8 (.ofNat 100)),some (.pt 1 0),some (.map es 18),some (.mit 0 18 (11 :: σ) 18),true):=by kernel_rfl
theorem zRy (σ:List Nat):aC 9 (run Tryz.E1 2000 20 0 .pl rest (tmE (tmM 9 (.it .u8 (.ofNat 100))) 10 11 (.tu [.bo true,.st [80],.fn (.func 75) [] []]) true) (aD es 18 (12 :: σ)))=some (some (.it .u8 (.ofNat 100)),some (.pt 1 0),some (.map es 18),some (.mit 0 18 (12 :: σ) 18),true):=by kernel_rfl
theorem zRz (σ:List Nat):aC 9 (run Tryz.E1 2000 20 0 .pl rest (tmE (tmM 9 (.it .u8 (.ofNat 100))) 10 11 (.tu [.bo true,.st [113,81],.fn (.func 76) [] []]) true) (aD es 18 (13 :: σ)))=some (some (.it .u8 (.ofNat 100)),some (.pt 1 0),some (.map es 18),some (.mit 0 18 (13 :: σ) 18),true):=by kernel_rfl
theorem zSa (σ:List Nat):aC 9 (run Tryz.E1 2000 20 0 .pl rest (tmE (tmM 9 (.it .u8 (.ofNat 100))) 10 11 (.tu [.bo true,.st [114],.fn (.func 77) [] []]) true) (aD es 18 (14 :: σ)))=some (some (.it .u8 (.ofNat 100)),some (.pt 1 0),some (.map es 18),some (.mit 0 18 (14 :: σ) 18),true):=by kernel_rfl
theorem zSb (σ:List Nat):aC 9 (run Tryz.E1 2000 20 0 .pl rest (tmE (tmM 9 (.it .u8 (.ofNat 100))) 10 11 (.tu [.bo true,.st [119],.fn (.func 78) [] []]) true) (aD es 18 (15 :: σ)))=some (some (.it .u8 (.ofNat 100)),some (.pt 1 0),some (.map es 18),some (.mit 0 18 (15 :: σ) 18),true):=by kernel_rfl
theorem zSc (σ:List Nat):aC 9 (run Tryz.E1 2000 20 0 .pl rest (tmE (tmM 9 (.it .u8 (.ofNat 100))) 10 11 (.tu [.bo true,.st [115],.fn (.func 79) [] []]) true) (aD es 18 (16 :: σ)))=some (some (.it .u8 (.ofNat 100)),some (.pt 1 0),some (.map es 18),some (.mit 0 18 (16 :: σ) 18),true):=by kernel_rfl
theorem zSd (σ:List Nat):aC 9 (run Tryz.E1 2000 20 0 .pl rest (tmE (tmM 9 (.it .u8 (.ofNat 100))) 10 11 (.tu [.bo true,.st [121],.fn (.func 80) [] []]) true) (aD es 18 (17 :: σ)))=some (some (.it .u8 (.ofNat 100)),some (.pt 1 0),some (.map es 18),some (.mit 0 18 (17 :: σ) 18),true):=by kernel_rfl
theorem d100 (lo:Nat) (A:W) (args:List AV) (ha:args=[.it .u8 (.ofNat 100)]):bD Tryz.prog lo 39 args A (.ret (.fn (.func 70) [] [])) A:=by
 refine gX (E:=Tryz.E1) Tryz.E1_ok (k:=2000) (n:=20) (its:=9) (a1:=10) (a2:=11) (es:=es) (clk:=18) (eh:=(.st [100,68],.fn (.func 70) [] [],7)) got body shp tmps (by decide) (nx:=nx) (ex:=ex) (by kernel_rfl) (by kernel_rfl) (by kernel_rfl) (by kernel_rfl) (by kernel_rfl) (by kernel_rfl) (by decide) (by kernel_rfl)
  (by kernel_rfl) (by kernel_rfl) (by kernel_rfl) (by kernel_rfl) (by kernel_rfl) (by kernel_rfl) (by simp [es]) (fun e he hne σ=>?_) (fun σ=>by kernel_rfl) lo A args ha
 simp only [es,List.mem_cons,List.not_mem_nil,or_false] at he
 rcases he with rfl | rfl | rfl | rfl | rfl | rfl | rfl | rfl | rfl | rfl | rfl | rfl | rfl | rfl | rfl | rfl | rfl | rfl
 ·exact zXa σ
 ·exact zXb σ
 ·exact zXc σ
 ·exact zXd σ
 ·exact zXe σ
 ·exact zXf σ
 ·exact zXg σ
 ·exact absurd rfl hne
 ·exact zXh σ
 ·exact zXi σ
 ·exact zRw σ
 ·exact zRx σ
 ·exact zRy σ
 ·exact zRz σ
 ·exact zSa σ
 ·exact zSb σ
 ·exact zSc σ
 ·exact zSd σ
theorem zXj (σ:List Nat):aC 9 (run Tryz.E1 2000 20 0 .pl rest (tmE (tmM 9 (.it .u8 (.ofNat 103))) 10 11 (.tu [.bo true,.st [123,125],.fn (.func 63) [] []]) true) (aD es 18 (0 :: σ)))=some (some (.it .u8 (.ofNat 103)),some (.pt 1 0),some (.map es 18),some (.mit 0 18 (0 :: σ) 18),true):=by kernel_rfl
theorem zXk (σ:List Nat):aC 9 (run Tryz.E1 2000 20 0 .pl rest (tmE (tmM 9 (.it .u8 (.ofNat 103))) 10 11 (.tu [.bo true,.st [61],.fn (.func 64) [] []]) true) (aD es 18 (1 :: σ)))=some (some (.it .u8 (.ofNat 103)),some (.pt 1 0),some (.map es 18),some (.mit 0 18 (1 :: σ) 18),true):=by kernel_rfl
theorem zXl (σ:List Nat):aC 9 (run Tryz.E1 2000 20 0 .pl rest (tmE (tmM 9 (.it .u8 (.ofNat 103))) 10 11 (.tu [.bo true,.st [97],.fn (.func 65) [] []]) true) (aD es 18 (2 :: σ)))=some (some (.it .u8 (.ofNat 103)),some (.pt 1 0),some (.map es 18),some (.mit 0 18 (2 :: σ) 18),true):=by kernel_rfl
theorem zXm (σ:List Nat):aC 9 (run Tryz.E1 2000 20 0 .pl rest (tmE (tmM 9 (.it .u8 (.ofNat 103))) 10 11 (.tu [.bo true,.st [105],.fn (.func 66) [] []]) true) (aD es 18 (3 :: σ)))=some (some (.it .u8 (.ofNat 103)),some (.pt 1 0),some (.map es 18),some (.mit 0 18 (3 :: σ) 18),true):=by kernel_rfl
theorem zXn (σ:List Nat):aC 9 (run Tryz.E1 2000 20 0 .pl rest (tmE (tmM 9 (.it .u8 (.ofNat 103))) 10 11 (.tu [.bo true,.st [99],.fn (.func 67) [] []]) true) (aD es 18 (4 :: σ)))=some (some (.it .u8 (.ofNat 103)),some (.pt 1 0),some (.map es 18),some (.mit 0 18 (4 :: σ) 18),true):=by kernel_rfl
theorem zXo (σ:List Nat):aC 9 (run Tryz.E1 2000 20 0 .pl rest (tmE (tmM 9 (.it .u8 (.ofNat 103))) 10 11 (.tu [.bo true,.st [98],.fn (.func 68) [] []]) true) (aD es 18 (5 :: σ)))=some (some (.it .u8 (.ofNat 103)),some (.pt 1 0),some (.map es 18),some (.mit 0 18 (5 :: σ) 18),true):=by kernel_rfl
theorem zXp (σ:List Nat):aC 9 (run Tryz.E1 2000 20 0 .pl rest (tmE (tmM 9 (.it .u8 (.ofNat 103))) 10 11 (.tu [.bo true,.st [116,84],.fn (.func 69) [] []]) true) (aD es 18 (6 :: σ)))=some (some (.it .u8 (.ofNat 103)),some (.pt 1 0),some (.map es 18),some (.mit 0 18 (6 :: σ) 18),true):=by kernel_rfl
theorem zXq (σ:List Nat):aC 9 (run Tryz.E1 2000 20 0 .pl rest (tmE (tmM 9 (.it .u8 (.ofNat 103))) 10 11 (.tu [.bo true,.st [100,68],.fn (.func 70) [] []]) true) (aD es 18 (7 :: σ)))=some (some (.it .u8 (.ofNat 103)),some (.pt 1 0),some (.map es 18),some (.mit 0 18 (7 :: σ) 18),true):=by kernel_rfl
theorem zXr (σ:List Nat):aC 9 (run Tryz.E1 2000 20 0 .pl rest (tmE (tmM 9 (.it .u8 (.ofNat 103))) 10 11 (.tu [.bo true,.st [108],.fn (.func 72) [] []]) true) (aD es 18 (9 :: σ)))=some (some (.it .u8 (.ofNat 103)),some (.pt 1 0),some (.map es 18),some (.mit 0 18 (9 :: σ) 18),true):=by kernel_rfl
theorem zSe (σ:List Nat):aC 9 (run Tryz.E1 2000 20 0 .pl rest (tmE (tmM 9 (.it .u8 (.ofNat 103))) 10 11 (.tu [.bo true,.st [110,78],.fn (.func 73) [] []]) true) (aD es 18 (10 :: σ)))=some (some (.it .u8 (.ofNat 103)),some (.pt 1 0),some (.map es 18),some (.mit 0 18 (10 :: σ) 18),true):=by kernel_rfl
theorem zSf (σ:List Nat):aC 9 (run Tryz.E1 2000 20 0 .pl rest (tmE (tmM 9 (.it .u8 (.ofNat 103))) 10 11 (.tu [.bo true,.st [112],.fn (.func 74) [] []]) true) (aD es 18 (11 :: σ)))=some (some (.it .u8 (.ofNat 103)),some (.pt 1 0),some (.map es 18),some (.mit 0 18 (11 :: σ) 18),true):=by kernel_rfl
theorem zSg (σ:List Nat):aC 9 (run Tryz.E1 2000 20 0 .pl rest (tmE (tmM 9 (.it .u8 (.ofNat 103))) 10 11 (.tu [.bo true,.st [80],.fn (.func 75) [] []]) true) (aD es 18 (12 :: σ)))=some (some (.it .u8 (.ofNat 103)),some (.pt 1 0),some (.map es 18),some (.mit 0 18 (12 :: σ) 18),true):=by kernel_rfl
theorem zSh (σ:List Nat):aC 9 (run Tryz.E1 2000 20 0 .pl rest (tmE (tmM 9 (.it .u8 (.ofNat 103))) 10 11 (.tu [.bo true,.st [113,81],.fn (.func 76) [] []]) true) (aD es 18 (13 :: σ)))=some (some (.it .u8 (.ofNat 103)),some (.pt 1 0),some (.map es 18),some (.mit 0 18 (13 :: σ) 18),true):=by kernel_rfl
theorem zSi (σ:List Nat):aC 9 (run Tryz.E1 2000 20 0 .pl rest (tmE (tmM 9 (.it .u8 (.ofNat 103))) 10 11 (.tu [.bo true,.st [114],.fn (.func 77) [] []]) true) (aD es 18 (14 :: σ)))=some (some (.it .u8 (.ofNat 103)),some (.pt 1 0),some (.map es 18),some (.mit 0 18 (14 :: σ) 18),true):=by kernel_rfl
theorem zSj (σ:List Nat):aC 9 (run Tryz.E1 2000 20 0 .pl rest (tmE (tmM 9 (.it .u8 (.ofNat 103))) 10 11 (.tu [.bo true,.st [119],.fn (.func 78) [] []]) true) (aD es 18 (15 :: σ)))=some (some (.it .u8 (.ofNat 103)),some (.pt 1 0),some (.map es 18),some (.mit 0 18 (15 :: σ) 18),true):=by kernel_rfl
theorem zSk (σ:List Nat):aC 9 (run Tryz.E1 2000 20 0 .pl rest (tmE (tmM 9 (.it .u8 (.ofNat 103))) 10 11 (.tu [.bo true,.st [115],.fn (.func 79) [] []]) true) (aD es 18 (16 :: σ)))=some (some (.it .u8 (.ofNat 103)),some (.pt 1 0),some (.map es 18),some (.mit 0 18 (16 :: σ) 18),true):=by kernel_rfl
theorem zSl (σ:List Nat):aC 9 (run Tryz.E1 2000 20 0 .pl rest (tmE (tmM 9 (.it .u8 (.ofNat 103))) 10 11 (.tu [.bo true,.st [121],.fn (.func 80) [] []]) true) (aD es 18 (17 :: σ)))=some (some (.it .u8 (.ofNat 103)),some (.pt 1 0),some (.map es 18),some (.mit 0 18 (17 :: σ) 18),true):=by kernel_rfl
theorem d103 (lo:Nat) (A:W) (args:List AV) (ha:args=[.it .u8 (.ofNat 103)]):bD Tryz.prog lo 39 args A (.ret (.fn (.func 71) [] [])) A:=by
 refine gX (E:=Tryz.E1) Tryz.E1_ok (k:=2000) (n:=20) (its:=9) (a1:=10) (a2:=11) (es:=es) (clk:=18) (eh:=(.st [103,71,104,72,120],.fn (.func 71) [] [],8)) got body shp tmps (by decide) (nx:=nx) (ex:=ex) (by kernel_rfl) (by kernel_rfl) (by kernel_rfl) (by kernel_rfl) (by kernel_rfl) (by kernel_rfl) (by decide) (by kernel_rfl)
  (by kernel_rfl) (by kernel_rfl) (by kernel_rfl) (by kernel_rfl) (by kernel_rfl) (by kernel_rfl) (by simp [es]) (fun e he hne σ=>?_) (fun σ=>by kernel_rfl) lo A args ha
 simp only [es,List.mem_cons,List.not_mem_nil,or_false] at he
 rcases he with rfl | rfl | rfl | rfl | rfl | rfl | rfl | rfl | rfl | rfl | rfl | rfl | rfl | rfl | rfl | rfl | rfl | rfl
 ·exact zXj σ
 ·exact zXk σ
 ·exact zXl σ
 ·exact zXm σ
 ·exact zXn σ
 ·exact zXo σ
 ·exact zXp σ
 ·exact zXq σ
 ·exact absurd rfl hne
 ·exact zXr σ
 ·exact zSe σ
 ·exact zSf σ
 ·exact zSg σ
 ·exact zSh σ
 ·exact zSi σ
 ·exact zSj σ
 ·exact zSk σ
 ·exact zSl σ
theorem yBs (σ:List Nat):aC 9 (run Tryz.E1 2000 20 0 .pl rest (tmE (tmM 9 (.it .u8 (.ofNat 71))) 10 11 (.tu [.bo true,.st [123,125],.fn (.func 63) [] []]) true) (aD es 18 (0 :: σ)))=some (some (.it .u8 (.ofNat 71)),some (.pt 1 0),some (.map es 18),some (.mit 0 18 (0 :: σ) 18),true):=by kernel_rfl
theorem yBt (σ:List Nat):aC 9 (run Tryz.E1 2000 20 0 .pl rest (tmE (tmM 9 (.it .u8 (.ofNat 71))) 10 11 (.tu [.bo true,.st [61],.fn (.func 64) [] []]) true) (aD es 18 (1 :: σ)))=some (some (.it .u8 (.ofNat 71)),some (.pt 1 0),some (.map es 18),some (.mit 0 18 (1 :: σ) 18),true):=by kernel_rfl
theorem yBu (σ:List Nat):aC 9 (run Tryz.E1 2000 20 0 .pl rest (tmE (tmM 9 (.it .u8 (.ofNat 71))) 10 11 (.tu [.bo true,.st [97],.fn (.func 65) [] []]) true) (aD es 18 (2 :: σ)))=some (some (.it .u8 (.ofNat 71)),some (.pt 1 0),some (.map es 18),some (.mit 0 18 (2 :: σ) 18),true):=by kernel_rfl
theorem yBv (σ:List Nat):aC 9 (run Tryz.E1 2000 20 0 .pl rest (tmE (tmM 9 (.it .u8 (.ofNat 71))) 10 11 (.tu [.bo true,.st [105],.fn (.func 66) [] []]) true) (aD es 18 (3 :: σ)))=some (some (.it .u8 (.ofNat 71)),some (.pt 1 0),some (.map es 18),some (.mit 0 18 (3 :: σ) 18),true):=by kernel_rfl
theorem yBw (σ:List Nat):aC 9 (run Tryz.E1 2000 20 0 .pl rest (tmE (tmM 9 (.it .u8 (.ofNat 71))) 10 11 (.tu [.bo true,.st [99],.fn (.func 67) [] []]) true) (aD es 18 (4 :: σ)))=some (some (.it .u8 (.ofNat 71)),some (.pt 1 0),some (.map es 18),some (.mit 0 18 (4 :: σ) 18),true):=by kernel_rfl
theorem yBx (σ:List Nat):aC 9 (run Tryz.E1 2000 20 0 .pl rest (tmE (tmM 9 (.it .u8 (.ofNat 71))) 10 11 (.tu [.bo true,.st [98],.fn (.func 68) [] []]) true) (aD es 18 (5 :: σ)))=some (some (.it .u8 (.ofNat 71)),some (.pt 1 0),some (.map es 18),some (.mit 0 18 (5 :: σ) 18),true):=by kernel_rfl
theorem yBy (σ:List Nat):aC 9 (run Tryz.E1 2000 20 0 .pl rest (tmE (tmM 9 (.it .u8 (.ofNat 71))) 10 11 (.tu [.bo true,.st [116,84],.fn (.func 69) [] []]) true) (aD es 18 (6 :: σ)))=some (some (.it .u8 (.ofNat 71)),some (.pt 1 0),some (.map es 18),some (.mit 0 18 (6 :: σ) 18),true):=by kernel_rfl
theorem yBz (σ:List Nat):aC 9 (run Tryz.E1 2000 20 0 .pl rest (tmE (tmM 9 (.it .u8 (.ofNat 71))) 10 11 (.tu [.bo true,.st [100,68],.fn (.func 70) [] []]) true) (aD es 18 (7 :: σ)))=some (some (.it .u8 (.ofNat 71)),some (.pt 1 0),some (.map es 18),some (.mit 0 18 (7 :: σ) 18),true):=by kernel_rfl
theorem yCa (σ:List Nat):aC 9 (run Tryz.E1 2000 20 0 .pl rest (tmE (tmM 9 (.it .u8 (.ofNat 71))) 10 11 (.tu [.bo true,.st [108],.fn (.func 72) [] []]) true) (aD es 18 (9 :: σ)))=some (some (.it .u8 (.ofNat 71)),some (.pt 1 0),some (.map es 18),some (.mit 0 18 (9 :: σ) 18),true):=by kernel_rfl
theorem zXs (σ:List Nat):aC 9 (run Tryz.E1 2000 20 0 .pl rest (tmE (tmM 9 (.it .u8 (.ofNat 71))) 10 11 (.tu [.bo true,.st [110,78],.fn (.func 73) [] []]) true) (aD es 18 (10 :: σ)))=some (some (.it .u8 (.ofNat 71)),some (.pt 1 0),some (.map es 18),some (.mit 0 18 (10 :: σ) 18),true):=by kernel_rfl
theorem zXt (σ:List Nat):aC 9 (run Tryz.E1 2000 20 0 .pl rest (tmE (tmM 9 (.it .u8 (.ofNat 71))) 10 11 (.tu [.bo true,.st [112],.fn (.func 74) [] []]) true) (aD es 18 (11 :: σ)))=some (some (.it .u8 (.ofNat 71)),some (.pt 1 0),some (.map es 18),some (.mit 0 18 (11 :: σ) 18),true):=by kernel_rfl
theorem zXu (σ:List Nat):aC 9 (run Tryz.E1 2000 20 0 .pl rest (tmE (tmM 9 (.it .u8 (.ofNat 71))) 10 11 (.tu [.bo true,.st [80],.fn (.func 75) [] []]) true) (aD es 18 (12 :: σ)))=some (some (.it .u8 (.ofNat 71)),some (.pt 1 0),some (.map es 18),some (.mit 0 18 (12 :: σ) 18),true):=by kernel_rfl
theorem zXv (σ:List Nat):aC 9 (run Tryz.E1 2000 20 0 .pl rest (tmE (tmM 9 (.it .u8 (.ofNat 71))) 10 11 (.tu [.bo true,.st [113,81],.fn (.func 76) [] []]) true) (aD es 18 (13 :: σ)))=some (some (.it .u8 (.ofNat 71)),some (.pt 1 0),some (.map es 18),some (.mit 0 18 (13 :: σ) 18),true):=by kernel_rfl
theorem zXw (σ:List Nat):aC 9 (run Tryz.E1 2000 20 0 .pl rest (tmE (tmM 9 (.it .u8 (.ofNat 71))) 10 11 (.tu [.bo true,.st [114],.fn (.func 77) [] []]) true) (aD es 18 (14 :: σ)))=some (some (.it .u8 (.ofNat 71)),some (.pt 1 0),some (.map es 18),some (.mit 0 18 (14 :: σ) 18),true):=by kernel_rfl
theorem zXx (σ:List Nat):aC 9 (run Tryz.E1 2000 20 0 .pl rest (tmE (tmM 9 (.it .u8 (.ofNat 71))) 10 11 (.tu [.bo true,.st [119],.fn (.func 78) [] []]) true) (aD es 18 (15 :: σ)))=some (some (.it .u8 (.ofNat 71)),some (.pt 1 0),some (.map es 18),some (.mit 0 18 (15 :: σ) 18),true):=by kernel_rfl
theorem zXy (σ:List Nat):aC 9 (run Tryz.E1 2000 20 0 .pl rest (tmE (tmM 9 (.it .u8 (.ofNat 71))) 10 11 (.tu [.bo true,.st [115],.fn (.func 79) [] []]) true) (aD es 18 (16 :: σ)))=some (some (.it .u8 (.ofNat 71)),some (.pt 1 0),some (.map es 18),some (.mit 0 18 (16 :: σ) 18),true):=by kernel_rfl
theorem zXz (σ:List Nat):aC 9 (run Tryz.E1 2000 20 0 .pl rest (tmE (tmM 9 (.it .u8 (.ofNat 71))) 10 11 (.tu [.bo true,.st [121],.fn (.func 80) [] []]) true) (aD es 18 (17 :: σ)))=some (some (.it .u8 (.ofNat 71)),some (.pt 1 0),some (.map es 18),some (.mit 0 18 (17 :: σ) 18),true):=by kernel_rfl
theorem d71 (lo:Nat) (A:W) (args:List AV) (ha:args=[.it .u8 (.ofNat 71)]):bD Tryz.prog lo 39 args A (.ret (.fn (.func 71) [] [])) A:=by
 refine gX (E:=Tryz.E1) Tryz.E1_ok (k:=2000) (n:=20) (its:=9) (a1:=10) (a2:=11) (es:=es) (clk:=18) (eh:=(.st [103,71,104,72,120],.fn (.func 71) [] [],8)) got body shp tmps (by decide) (nx:=nx) (ex:=ex) (by kernel_rfl) (by kernel_rfl) (by kernel_rfl) (by kernel_rfl) (by kernel_rfl) (by kernel_rfl) (by decide) (by kernel_rfl)
  (by kernel_rfl) (by kernel_rfl) (by kernel_rfl) (by kernel_rfl) (by kernel_rfl) (by kernel_rfl) (by simp [es]) (fun e he hne σ=>?_) (fun σ=>by kernel_rfl) lo A args ha
 simp only [es,List.mem_cons,List.not_mem_nil,or_false] at he
 rcases he with rfl | rfl | rfl | rfl | rfl | rfl | rfl | rfl | rfl | rfl | rfl | rfl | rfl | rfl | rfl | rfl | rfl | rfl
 ·exact yBs σ
 ·exact yBt σ
 ·exact yBu σ
 ·exact yBv σ
 ·exact yBw σ
 ·exact yBx σ
 ·exact yBy σ
 ·exact yBz σ
 ·exact absurd rfl hne
 ·exact yCa σ
 ·exact zXs σ
 ·exact zXt σ
 ·exact zXu σ
 ·exact zXv σ
 ·exact zXw σ
 ·exact zXx σ
 ·exact zXy σ
 ·exact zXz σ
theorem zYa (σ:List Nat):aC 9 (run Tryz.E1 2000 20 0 .pl rest (tmE (tmM 9 (.it .u8 (.ofNat 104))) 10 11 (.tu [.bo true,.st [123,125],.fn (.func 63) [] []]) true) (aD es 18 (0 :: σ)))=some (some (.it .u8 (.ofNat 104)),some (.pt 1 0),some (.map es 18),some (.mit 0 18 (0 :: σ) 18),true):=by kernel_rfl
theorem zYb (σ:List Nat):aC 9 (run Tryz.E1 2000 20 0 .pl rest (tmE (tmM 9 (.it .u8 (.ofNat 104))) 10 11 (.tu [.bo true,.st [61],.fn (.func 64) [] []]) true) (aD es 18 (1 :: σ)))=some (some (.it .u8 (.ofNat 104)),some (.pt 1 0),some (.map es 18),some (.mit 0 18 (1 :: σ) 18),true):=by kernel_rfl
theorem zYc (σ:List Nat):aC 9 (run Tryz.E1 2000 20 0 .pl rest (tmE (tmM 9 (.it .u8 (.ofNat 104))) 10 11 (.tu [.bo true,.st [97],.fn (.func 65) [] []]) true) (aD es 18 (2 :: σ)))=some (some (.it .u8 (.ofNat 104)),some (.pt 1 0),some (.map es 18),some (.mit 0 18 (2 :: σ) 18),true):=by kernel_rfl
theorem zYd (σ:List Nat):aC 9 (run Tryz.E1 2000 20 0 .pl rest (tmE (tmM 9 (.it .u8 (.ofNat 104))) 10 11 (.tu [.bo true,.st [105],.fn (.func 66) [] []]) true) (aD es 18 (3 :: σ)))=some (some (.it .u8 (.ofNat 104)),some (.pt 1 0),some (.map es 18),some (.mit 0 18 (3 :: σ) 18),true):=by kernel_rfl
theorem zYe (σ:List Nat):aC 9 (run Tryz.E1 2000 20 0 .pl rest (tmE (tmM 9 (.it .u8 (.ofNat 104))) 10 11 (.tu [.bo true,.st [99],.fn (.func 67) [] []]) true) (aD es 18 (4 :: σ)))=some (some (.it .u8 (.ofNat 104)),some (.pt 1 0),some (.map es 18),some (.mit 0 18 (4 :: σ) 18),true):=by kernel_rfl
theorem zYf (σ:List Nat):aC 9 (run Tryz.E1 2000 20 0 .pl rest (tmE (tmM 9 (.it .u8 (.ofNat 104))) 10 11 (.tu [.bo true,.st [98],.fn (.func 68) [] []]) true) (aD es 18 (5 :: σ)))=some (some (.it .u8 (.ofNat 104)),some (.pt 1 0),some (.map es 18),some (.mit 0 18 (5 :: σ) 18),true):=by kernel_rfl
theorem zYg (σ:List Nat):aC 9 (run Tryz.E1 2000 20 0 .pl rest (tmE (tmM 9 (.it .u8 (.ofNat 104))) 10 11 (.tu [.bo true,.st [116,84],.fn (.func 69) [] []]) true) (aD es 18 (6 :: σ)))=some (some (.it .u8 (.ofNat 104)),some (.pt 1 0),some (.map es 18),some (.mit 0 18 (6 :: σ) 18),true):=by kernel_rfl
theorem zYh (σ:List Nat):aC 9 (run Tryz.E1 2000 20 0 .pl rest (tmE (tmM 9 (.it .u8 (.ofNat 104))) 10 11 (.tu [.bo true,.st [100,68],.fn (.func 70) [] []]) true) (aD es 18 (7 :: σ)))=some (some (.it .u8 (.ofNat 104)),some (.pt 1 0),some (.map es 18),some (.mit 0 18 (7 :: σ) 18),true):=by kernel_rfl
theorem zYi (σ:List Nat):aC 9 (run Tryz.E1 2000 20 0 .pl rest (tmE (tmM 9 (.it .u8 (.ofNat 104))) 10 11 (.tu [.bo true,.st [108],.fn (.func 72) [] []]) true) (aD es 18 (9 :: σ)))=some (some (.it .u8 (.ofNat 104)),some (.pt 1 0),some (.map es 18),some (.mit 0 18 (9 :: σ) 18),true):=by kernel_rfl
theorem zSm (σ:List Nat):aC 9 (run Tryz.E1 2000 20 0 .pl rest (tmE (tmM 9 (.it .u8 (.ofNat 104))) 10 11 (.tu [.bo true,.st [110,78],.fn (.func 73) [] []]) true) (aD es 18 (10 :: σ)))=some (some (.it .u8 (.ofNat 104)),some (.pt 1 0),some (.map es 18),some (.mit 0 18 (10 :: σ) 18),true):=by kernel_rfl
theorem zSn (σ:List Nat):aC 9 (run Tryz.E1 2000 20 0 .pl rest (tmE (tmM 9 (.it .u8 (.ofNat 104))) 10 11 (.tu [.bo true,.st [112],.fn (.func 74) [] []]) true) (aD es 18 (11 :: σ)))=some (some (.it .u8 (.ofNat 104)),some (.pt 1 0),some (.map es 18),some (.mit 0 18 (11 :: σ) 18),true):=by kernel_rfl
theorem zSo (σ:List Nat):aC 9 (run Tryz.E1 2000 20 0 .pl rest (tmE (tmM 9 (.it .u8 (.ofNat 104))) 10 11 (.tu [.bo true,.st [80],.fn (.func 75) [] []]) true) (aD es 18 (12 :: σ)))=some (some (.it .u8 (.ofNat 104)),some (.pt 1 0),some (.map es 18),some (.mit 0 18 (12 :: σ) 18),true):=by kernel_rfl
theorem zSp (σ:List Nat):aC 9 (run Tryz.E1 2000 20 0 .pl rest (tmE (tmM 9 (.it .u8 (.ofNat 104))) 10 11 (.tu [.bo true,.st [113,81],.fn (.func 76) [] []]) true) (aD es 18 (13 :: σ)))=some (some (.it .u8 (.ofNat 104)),some (.pt 1 0),some (.map es 18),some (.mit 0 18 (13 :: σ) 18),true):=by kernel_rfl
theorem zSq (σ:List Nat):aC 9 (run Tryz.E1 2000 20 0 .pl rest (tmE (tmM 9 (.it .u8 (.ofNat 104))) 10 11 (.tu [.bo true,.st [114],.fn (.func 77) [] []]) true) (aD es 18 (14 :: σ)))=some (some (.it .u8 (.ofNat 104)),some (.pt 1 0),some (.map es 18),some (.mit 0 18 (14 :: σ) 18),true):=by kernel_rfl
theorem zSr (σ:List Nat):aC 9 (run Tryz.E1 2000 20 0 .pl rest (tmE (tmM 9 (.it .u8 (.ofNat 104))) 10 11 (.tu [.bo true,.st [119],.fn (.func 78) [] []]) true) (aD es 18 (15 :: σ)))=some (some (.it .u8 (.ofNat 104)),some (.pt 1 0),some (.map es 18),some (.mit 0 18 (15 :: σ) 18),true):=by kernel_rfl
theorem zSs (σ:List Nat):aC 9 (run Tryz.E1 2000 20 0 .pl rest (tmE (tmM 9 (.it .u8 (.ofNat 104))) 10 11 (.tu [.bo true,.st [115],.fn (.func 79) [] []]) true) (aD es 18 (16 :: σ)))=some (some (.it .u8 (.ofNat 104)),some (.pt 1 0),some (.map es 18),some (.mit 0 18 (16 :: σ) 18),true):=by kernel_rfl
theorem zSt (σ:List Nat):aC 9 (run Tryz.E1 2000 20 0 .pl rest (tmE (tmM 9 (.it .u8 (.ofNat 104))) 10 11 (.tu [.bo true,.st [121],.fn (.func 80) [] []]) true) (aD es 18 (17 :: σ)))=some (some (.it .u8 (.ofNat 104)),some (.pt 1 0),some (.map es 18),some (.mit 0 18 (17 :: σ) 18),true):=by kernel_rfl
theorem d104 (lo:Nat) (A:W) (args:List AV) (ha:args=[.it .u8 (.ofNat 104)]):bD Tryz.prog lo 39 args A (.ret (.fn (.func 71) [] [])) A:=by
 refine gX (E:=Tryz.E1) Tryz.E1_ok (k:=2000) (n:=20) (its:=9) (a1:=10) (a2:=11) (es:=es) (clk:=18) (eh:=(.st [103,71,104,72,120],.fn (.func 71) [] [],8)) got body shp tmps (by decide) (nx:=nx) (ex:=ex) (by kernel_rfl) (by kernel_rfl) (by kernel_rfl) (by kernel_rfl) (by kernel_rfl) (by kernel_rfl) (by decide) (by kernel_rfl)
  (by kernel_rfl) (by kernel_rfl) (by kernel_rfl) (by kernel_rfl) (by kernel_rfl) (by kernel_rfl) (by simp [es]) (fun e he hne σ=>?_) (fun σ=>by kernel_rfl) lo A args ha
 simp only [es,List.mem_cons,List.not_mem_nil,or_false] at he
 rcases he with rfl | rfl | rfl | rfl | rfl | rfl | rfl | rfl | rfl | rfl | rfl | rfl | rfl | rfl | rfl | rfl | rfl | rfl
 ·exact zYa σ
 ·exact zYb σ
 ·exact zYc σ
 ·exact zYd σ
 ·exact zYe σ
 ·exact zYf σ
 ·exact zYg σ
 ·exact zYh σ
 ·exact absurd rfl hne
 ·exact zYi σ
 ·exact zSm σ
 ·exact zSn σ
 ·exact zSo σ
 ·exact zSp σ
 ·exact zSq σ
 ·exact zSr σ
 ·exact zSs σ
 ·exact zSt σ
theorem yCb (σ:List Nat):aC 9 (run Tryz.E1 2000 20 0 .pl rest (tmE (tmM 9 (.it .u8 (.ofNat 72))) 10 11 (.tu [.bo true,.st [123,125],.fn (.func 63) [] []]) true) (aD es 18 (0 :: σ)))=some (some (.it .u8 (.ofNat 72)),some (.pt 1 0),some (.map es 18),some (.mit 0 18 (0 :: σ) 18),true):=by kernel_rfl
theorem yCc (σ:List Nat):aC 9 (run Tryz.E1 2000 20 0 .pl rest (tmE (tmM 9 (.it .u8 (.ofNat 72))) 10 11 (.tu [.bo true,.st [61],.fn (.func 64) [] []]) true) (aD es 18 (1 :: σ)))=some (some (.it .u8 (.ofNat 72)),some (.pt 1 0),some (.map es 18),some (.mit 0 18 (1 :: σ) 18),true):=by kernel_rfl
theorem yCd (σ:List Nat):aC 9 (run Tryz.E1 2000 20 0 .pl rest (tmE (tmM 9 (.it .u8 (.ofNat 72))) 10 11 (.tu [.bo true,.st [97],.fn (.func 65) [] []]) true) (aD es 18 (2 :: σ)))=some (some (.it .u8 (.ofNat 72)),some (.pt 1 0),some (.map es 18),some (.mit 0 18 (2 :: σ) 18),true):=by kernel_rfl
theorem yCe (σ:List Nat):aC 9 (run Tryz.E1 2000 20 0 .pl rest (tmE (tmM 9 (.it .u8 (.ofNat 72))) 10 11 (.tu [.bo true,.st [105],.fn (.func 66) [] []]) true) (aD es 18 (3 :: σ)))=some (some (.it .u8 (.ofNat 72)),some (.pt 1 0),some (.map es 18),some (.mit 0 18 (3 :: σ) 18),true):=by kernel_rfl
theorem yCf (σ:List Nat):aC 9 (run Tryz.E1 2000 20 0 .pl rest (tmE (tmM 9 (.it .u8 (.ofNat 72))) 10 11 (.tu [.bo true,.st [99],.fn (.func 67) [] []]) true) (aD es 18 (4 :: σ)))=some (some (.it .u8 (.ofNat 72)),some (.pt 1 0),some (.map es 18),some (.mit 0 18 (4 :: σ) 18),true):=by kernel_rfl
theorem yCg (σ:List Nat):aC 9 (run Tryz.E1 2000 20 0 .pl rest (tmE (tmM 9 (.it .u8 (.ofNat 72))) 10 11 (.tu [.bo true,.st [98],.fn (.func 68) [] []]) true) (aD es 18 (5 :: σ)))=some (some (.it .u8 (.ofNat 72)),some (.pt 1 0),some (.map es 18),some (.mit 0 18 (5 :: σ) 18),true):=by kernel_rfl
theorem yCh (σ:List Nat):aC 9 (run Tryz.E1 2000 20 0 .pl rest (tmE (tmM 9 (.it .u8 (.ofNat 72))) 10 11 (.tu [.bo true,.st [116,84],.fn (.func 69) [] []]) true) (aD es 18 (6 :: σ)))=some (some (.it .u8 (.ofNat 72)),some (.pt 1 0),some (.map es 18),some (.mit 0 18 (6 :: σ) 18),true):=by kernel_rfl
theorem yCi (σ:List Nat):aC 9 (run Tryz.E1 2000 20 0 .pl rest (tmE (tmM 9 (.it .u8 (.ofNat 72))) 10 11 (.tu [.bo true,.st [100,68],.fn (.func 70) [] []]) true) (aD es 18 (7 :: σ)))=some (some (.it .u8 (.ofNat 72)),some (.pt 1 0),some (.map es 18),some (.mit 0 18 (7 :: σ) 18),true):=by kernel_rfl
theorem yCj (σ:List Nat):aC 9 (run Tryz.E1 2000 20 0 .pl rest (tmE (tmM 9 (.it .u8 (.ofNat 72))) 10 11 (.tu [.bo true,.st [108],.fn (.func 72) [] []]) true) (aD es 18 (9 :: σ)))=some (some (.it .u8 (.ofNat 72)),some (.pt 1 0),some (.map es 18),some (.mit 0 18 (9 :: σ) 18),true):=by kernel_rfl
theorem zYj (σ:List Nat):aC 9 (run Tryz.E1 2000 20 0 .pl rest (tmE (tmM 9 (.it .u8 (.ofNat 72))) 10 11 (.tu [.bo true,.st [110,78],.fn (.func 73) [] []]) true) (aD es 18 (10 :: σ)))=some (some (.it .u8 (.ofNat 72)),some (.pt 1 0),some (.map es 18),some (.mit 0 18 (10 :: σ) 18),true):=by kernel_rfl
theorem zYk (σ:List Nat):aC 9 (run Tryz.E1 2000 20 0 .pl rest (tmE (tmM 9 (.it .u8 (.ofNat 72))) 10 11 (.tu [.bo true,.st [112],.fn (.func 74) [] []]) true) (aD es 18 (11 :: σ)))=some (some (.it .u8 (.ofNat 72)),some (.pt 1 0),some (.map es 18),some (.mit 0 18 (11 :: σ) 18),true):=by kernel_rfl
theorem zYl (σ:List Nat):aC 9 (run Tryz.E1 2000 20 0 .pl rest (tmE (tmM 9 (.it .u8 (.ofNat 72))) 10 11 (.tu [.bo true,.st [80],.fn (.func 75) [] []]) true) (aD es 18 (12 :: σ)))=some (some (.it .u8 (.ofNat 72)),some (.pt 1 0),some (.map es 18),some (.mit 0 18 (12 :: σ) 18),true):=by kernel_rfl
theorem zYm (σ:List Nat):aC 9 (run Tryz.E1 2000 20 0 .pl rest (tmE (tmM 9 (.it .u8 (.ofNat 72))) 10 11 (.tu [.bo true,.st [113,81],.fn (.func 76) [] []]) true) (aD es 18 (13 :: σ)))=some (some (.it .u8 (.ofNat 72)),some (.pt 1 0),some (.map es 18),some (.mit 0 18 (13 :: σ) 18),true):=by kernel_rfl
theorem zYn (σ:List Nat):aC 9 (run Tryz.E1 2000 20 0 .pl rest (tmE (tmM 9 (.it .u8 (.ofNat 72))) 10 11 (.tu [.bo true,.st [114],.fn (.func 77) [] []]) true) (aD es 18 (14 :: σ)))=some (some (.it .u8 (.ofNat 72)),some (.pt 1 0),some (.map es 18),some (.mit 0 18 (14 :: σ) 18),true):=by kernel_rfl
theorem zYo (σ:List Nat):aC 9 (run Tryz.E1 2000 20 0 .pl rest (tmE (tmM 9 (.it .u8 (.ofNat 72))) 10 11 (.tu [.bo true,.st [119],.fn (.func 78) [] []]) true) (aD es 18 (15 :: σ)))=some (some (.it .u8 (.ofNat 72)),some (.pt 1 0),some (.map es 18),some (.mit 0 18 (15 :: σ) 18),true):=by kernel_rfl
theorem zYp (σ:List Nat):aC 9 (run Tryz.E1 2000 20 0 .pl rest (tmE (tmM 9 (.it .u8 (.ofNat 72))) 10 11 (.tu [.bo true,.st [115],.fn (.func 79) [] []]) true) (aD es 18 (16 :: σ)))=some (some (.it .u8 (.ofNat 72)),some (.pt 1 0),some (.map es 18),some (.mit 0 18 (16 :: σ) 18),true):=by kernel_rfl
theorem zYq (σ:List Nat):aC 9 (run Tryz.E1 2000 20 0 .pl rest (tmE (tmM 9 (.it .u8 (.ofNat 72))) 10 11 (.tu [.bo true,.st [121],.fn (.func 80) [] []]) true) (aD es 18 (17 :: σ)))=some (some (.it .u8 (.ofNat 72)),some (.pt 1 0),some (.map es 18),some (.mit 0 18 (17 :: σ) 18),true):=by kernel_rfl
theorem d72 (lo:Nat) (A:W) (args:List AV) (ha:args=[.it .u8 (.ofNat 72)]):bD Tryz.prog lo 39 args A (.ret (.fn (.func 71) [] [])) A:=by
 refine gX (E:=Tryz.E1) Tryz.E1_ok (k:=2000) (n:=20) (its:=9) (a1:=10) (a2:=11) (es:=es) (clk:=18) (eh:=(.st [103,71,104,72,120],.fn (.func 71) [] [],8)) got body shp tmps (by decide) (nx:=nx) (ex:=ex) (by kernel_rfl) (by kernel_rfl) (by kernel_rfl) (by kernel_rfl) (by kernel_rfl) (by kernel_rfl) (by decide) (by kernel_rfl)
  (by kernel_rfl) (by kernel_rfl) (by kernel_rfl) (by kernel_rfl) (by kernel_rfl) (by kernel_rfl) (by simp [es]) (fun e he hne σ=>?_) (fun σ=>by kernel_rfl) lo A args ha
 simp only [es,List.mem_cons,List.not_mem_nil,or_false] at he
 rcases he with rfl | rfl | rfl | rfl | rfl | rfl | rfl | rfl | rfl | rfl | rfl | rfl | rfl | rfl | rfl | rfl | rfl | rfl
 ·exact yCb σ
 ·exact yCc σ
 ·exact yCd σ
 ·exact yCe σ
 ·exact yCf σ
 ·exact yCg σ
 ·exact yCh σ
 ·exact yCi σ
 ·exact absurd rfl hne
 ·exact yCj σ
 ·exact zYj σ
 ·exact zYk σ
 ·exact zYl σ
 ·exact zYm σ
 ·exact zYn σ
 ·exact zYo σ
 ·exact zYp σ
 ·exact zYq σ
theorem zYr (σ:List Nat):aC 9 (run Tryz.E1 2000 20 0 .pl rest (tmE (tmM 9 (.it .u8 (.ofNat 120))) 10 11 (.tu [.bo true,.st [123,125],.fn (.func 63) [] []]) true) (aD es 18 (0 :: σ)))=some (some (.it .u8 (.ofNat 120)),some (.pt 1 0),some (.map es 18),some (.mit 0 18 (0 :: σ) 18),true):=by kernel_rfl
theorem zYs (σ:List Nat):aC 9 (run Tryz.E1 2000 20 0 .pl rest (tmE (tmM 9 (.it .u8 (.ofNat 120))) 10 11 (.tu [.bo true,.st [61],.fn (.func 64) [] []]) true) (aD es 18 (1 :: σ)))=some (some (.it .u8 (.ofNat 120)),some (.pt 1 0),some (.map es 18),some (.mit 0 18 (1 :: σ) 18),true):=by kernel_rfl
theorem zYt (σ:List Nat):aC 9 (run Tryz.E1 2000 20 0 .pl rest (tmE (tmM 9 (.it .u8 (.ofNat 120))) 10 11 (.tu [.bo true,.st [97],.fn (.func 65) [] []]) true) (aD es 18 (2 :: σ)))=some (some (.it .u8 (.ofNat 120)),some (.pt 1 0),some (.map es 18),some (.mit 0 18 (2 :: σ) 18),true):=by kernel_rfl
theorem zYu (σ:List Nat):aC 9 (run Tryz.E1 2000 20 0 .pl rest (tmE (tmM 9 (.it .u8 (.ofNat 120))) 10 11 (.tu [.bo true,.st [105],.fn (.func 66) [] []]) true) (aD es 18 (3 :: σ)))=some (some (.it .u8 (.ofNat 120)),some (.pt 1 0),some (.map es 18),some (.mit 0 18 (3 :: σ) 18),true):=by kernel_rfl
theorem zYv (σ:List Nat):aC 9 (run Tryz.E1 2000 20 0 .pl rest (tmE (tmM 9 (.it .u8 (.ofNat 120))) 10 11 (.tu [.bo true,.st [99],.fn (.func 67) [] []]) true) (aD es 18 (4 :: σ)))=some (some (.it .u8 (.ofNat 120)),some (.pt 1 0),some (.map es 18),some (.mit 0 18 (4 :: σ) 18),true):=by kernel_rfl
theorem zYw (σ:List Nat):aC 9 (run Tryz.E1 2000 20 0 .pl rest (tmE (tmM 9 (.it .u8 (.ofNat 120))) 10 11 (.tu [.bo true,.st [98],.fn (.func 68) [] []]) true) (aD es 18 (5 :: σ)))=some (some (.it .u8 (.ofNat 120)),some (.pt 1 0),some (.map es 18),some (.mit 0 18 (5 :: σ) 18),true):=by kernel_rfl
theorem zYx (σ:List Nat):aC 9 (run Tryz.E1 2000 20 0 .pl rest (tmE (tmM 9 (.it .u8 (.ofNat 120))) 10 11 (.tu [.bo true,.st [116,84],.fn (.func 69) [] []]) true) (aD es 18 (6 :: σ)))=some (some (.it .u8 (.ofNat 120)),some (.pt 1 0),some (.map es 18),some (.mit 0 18 (6 :: σ) 18),true):=by kernel_rfl
theorem zYy (σ:List Nat):aC 9 (run Tryz.E1 2000 20 0 .pl rest (tmE (tmM 9 (.it .u8 (.ofNat 120))) 10 11 (.tu [.bo true,.st [100,68],.fn (.func 70) [] []]) true) (aD es 18 (7 :: σ)))=some (some (.it .u8 (.ofNat 120)),some (.pt 1 0),some (.map es 18),some (.mit 0 18 (7 :: σ) 18),true):=by kernel_rfl
theorem zYz (σ:List Nat):aC 9 (run Tryz.E1 2000 20 0 .pl rest (tmE (tmM 9 (.it .u8 (.ofNat 120))) 10 11 (.tu [.bo true,.st [108],.fn (.func 72) [] []]) true) (aD es 18 (9 :: σ)))=some (some (.it .u8 (.ofNat 120)),some (.pt 1 0),some (.map es 18),some (.mit 0 18 (9 :: σ) 18),true):=by kernel_rfl
theorem zSu (σ:List Nat):aC 9 (run Tryz.E1 2000 20 0 .pl rest (tmE (tmM 9 (.it .u8 (.ofNat 120))) 10 11 (.tu [.bo true,.st [110,78],.fn (.func 73) [] []]) true) (aD es 18 (10 :: σ)))=some (some (.it .u8 (.ofNat 120)),some (.pt 1 0),some (.map es 18),some (.mit 0 18 (10 :: σ) 18),true):=by kernel_rfl
theorem zSv (σ:List Nat):aC 9 (run Tryz.E1 2000 20 0 .pl rest (tmE (tmM 9 (.it .u8 (.ofNat 120))) 10 11 (.tu [.bo true,.st [112],.fn (.func 74) [] []]) true) (aD es 18 (11 :: σ)))=some (some (.it .u8 (.ofNat 120)),some (.pt 1 0),some (.map es 18),some (.mit 0 18 (11 :: σ) 18),true):=by kernel_rfl
theorem zSw (σ:List Nat):aC 9 (run Tryz.E1 2000 20 0 .pl rest (tmE (tmM 9 (.it .u8 (.ofNat 120))) 10 11 (.tu [.bo true,.st [80],.fn (.func 75) [] []]) true) (aD es 18 (12 :: σ)))=some (some (.it .u8 (.ofNat 120)),some (.pt 1 0),some (.map es 18),some (.mit 0 18 (12 :: σ) 18),true):=by kernel_rfl
theorem zSx (σ:List Nat):aC 9 (run Tryz.E1 2000 20 0 .pl rest (tmE (tmM 9 (.it .u8 (.ofNat 120))) 10 11 (.tu [.bo true,.st [113,81],.fn (.func 76) [] []]) true) (aD es 18 (13 :: σ)))=some (some (.it .u8 (.ofNat 120)),some (.pt 1 0),some (.map es 18),some (.mit 0 18 (13 :: σ) 18),true):=by kernel_rfl
theorem zSy (σ:List Nat):aC 9 (run Tryz.E1 2000 20 0 .pl rest (tmE (tmM 9 (.it .u8 (.ofNat 120))) 10 11 (.tu [.bo true,.st [114],.fn (.func 77) [] []]) true) (aD es 18 (14 :: σ)))=some (some (.it .u8 (.ofNat 120)),some (.pt 1 0),some (.map es 18),some (.mit 0 18 (14 :: σ) 18),true):=by kernel_rfl
theorem zSz (σ:List Nat):aC 9 (run Tryz.E1 2000 20 0 .pl rest (tmE (tmM 9 (.it .u8 (.ofNat 120))) 10 11 (.tu [.bo true,.st [119],.fn (.func 78) [] []]) true) (aD es 18 (15 :: σ)))=some (some (.it .u8 (.ofNat 120)),some (.pt 1 0),some (.map es 18),some (.mit 0 18 (15 :: σ) 18),true):=by kernel_rfl
theorem zTa (σ:List Nat):aC 9 (run Tryz.E1 2000 20 0 .pl rest (tmE (tmM 9 (.it .u8 (.ofNat 120))) 10 11 (.tu [.bo true,.st [115],.fn (.func 79) [] []]) true) (aD es 18 (16 :: σ)))=some (some (.it .u8 (.ofNat 120)),some (.pt 1 0),some (.map es 18),some (.mit 0 18 (16 :: σ) 18),true):=by kernel_rfl
theorem zTb (σ:List Nat):aC 9 (run Tryz.E1 2000 20 0 .pl rest (tmE (tmM 9 (.it .u8 (.ofNat 120))) 10 11 (.tu [.bo true,.st [121],.fn (.func 80) [] []]) true) (aD es 18 (17 :: σ)))=some (some (.it .u8 (.ofNat 120)),some (.pt 1 0),some (.map es 18),some (.mit 0 18 (17 :: σ) 18),true):=by kernel_rfl
theorem d120 (lo:Nat) (A:W) (args:List AV) (ha:args=[.it .u8 (.ofNat 120)]):bD Tryz.prog lo 39 args A (.ret (.fn (.func 71) [] [])) A:=by
 refine gX (E:=Tryz.E1) Tryz.E1_ok (k:=2000) (n:=20) (its:=9) (a1:=10) (a2:=11) (es:=es) (clk:=18) (eh:=(.st [103,71,104,72,120],.fn (.func 71) [] [],8)) got body shp tmps (by decide) (nx:=nx) (ex:=ex) (by kernel_rfl) (by kernel_rfl) (by kernel_rfl) (by kernel_rfl) (by kernel_rfl) (by kernel_rfl) (by decide) (by kernel_rfl)
  (by kernel_rfl) (by kernel_rfl) (by kernel_rfl) (by kernel_rfl) (by kernel_rfl) (by kernel_rfl) (by simp [es]) (fun e he hne σ=>?_) (fun σ=>by kernel_rfl) lo A args ha
 simp only [es,List.mem_cons,List.not_mem_nil,or_false] at he
 rcases he with rfl | rfl | rfl | rfl | rfl | rfl | rfl | rfl | rfl | rfl | rfl | rfl | rfl | rfl | rfl | rfl | rfl | rfl
 ·exact zYr σ
 ·exact zYs σ
 ·exact zYt σ
 ·exact zYu σ
 ·exact zYv σ
 ·exact zYw σ
 ·exact zYx σ
 ·exact zYy σ
 ·exact absurd rfl hne
 ·exact zYz σ
 ·exact zSu σ
 ·exact zSv σ
 ·exact zSw σ
 ·exact zSx σ
 ·exact zSy σ
 ·exact zSz σ
 ·exact zTa σ
 ·exact zTb σ
theorem zZa (σ:List Nat):aC 9 (run Tryz.E1 2000 20 0 .pl rest (tmE (tmM 9 (.it .u8 (.ofNat 112))) 10 11 (.tu [.bo true,.st [123,125],.fn (.func 63) [] []]) true) (aD es 18 (0 :: σ)))=some (some (.it .u8 (.ofNat 112)),some (.pt 1 0),some (.map es 18),some (.mit 0 18 (0 :: σ) 18),true):=by kernel_rfl
theorem zZb (σ:List Nat):aC 9 (run Tryz.E1 2000 20 0 .pl rest (tmE (tmM 9 (.it .u8 (.ofNat 112))) 10 11 (.tu [.bo true,.st [61],.fn (.func 64) [] []]) true) (aD es 18 (1 :: σ)))=some (some (.it .u8 (.ofNat 112)),some (.pt 1 0),some (.map es 18),some (.mit 0 18 (1 :: σ) 18),true):=by kernel_rfl
theorem zZc (σ:List Nat):aC 9 (run Tryz.E1 2000 20 0 .pl rest (tmE (tmM 9 (.it .u8 (.ofNat 112))) 10 11 (.tu [.bo true,.st [97],.fn (.func 65) [] []]) true) (aD es 18 (2 :: σ)))=some (some (.it .u8 (.ofNat 112)),some (.pt 1 0),some (.map es 18),some (.mit 0 18 (2 :: σ) 18),true):=by kernel_rfl
theorem zZd (σ:List Nat):aC 9 (run Tryz.E1 2000 20 0 .pl rest (tmE (tmM 9 (.it .u8 (.ofNat 112))) 10 11 (.tu [.bo true,.st [105],.fn (.func 66) [] []]) true) (aD es 18 (3 :: σ)))=some (some (.it .u8 (.ofNat 112)),some (.pt 1 0),some (.map es 18),some (.mit 0 18 (3 :: σ) 18),true):=by kernel_rfl
theorem zZe (σ:List Nat):aC 9 (run Tryz.E1 2000 20 0 .pl rest (tmE (tmM 9 (.it .u8 (.ofNat 112))) 10 11 (.tu [.bo true,.st [99],.fn (.func 67) [] []]) true) (aD es 18 (4 :: σ)))=some (some (.it .u8 (.ofNat 112)),some (.pt 1 0),some (.map es 18),some (.mit 0 18 (4 :: σ) 18),true):=by kernel_rfl
theorem zZf (σ:List Nat):aC 9 (run Tryz.E1 2000 20 0 .pl rest (tmE (tmM 9 (.it .u8 (.ofNat 112))) 10 11 (.tu [.bo true,.st [98],.fn (.func 68) [] []]) true) (aD es 18 (5 :: σ)))=some (some (.it .u8 (.ofNat 112)),some (.pt 1 0),some (.map es 18),some (.mit 0 18 (5 :: σ) 18),true):=by kernel_rfl
theorem zZg (σ:List Nat):aC 9 (run Tryz.E1 2000 20 0 .pl rest (tmE (tmM 9 (.it .u8 (.ofNat 112))) 10 11 (.tu [.bo true,.st [116,84],.fn (.func 69) [] []]) true) (aD es 18 (6 :: σ)))=some (some (.it .u8 (.ofNat 112)),some (.pt 1 0),some (.map es 18),some (.mit 0 18 (6 :: σ) 18),true):=by kernel_rfl
theorem zZh (σ:List Nat):aC 9 (run Tryz.E1 2000 20 0 .pl rest (tmE (tmM 9 (.it .u8 (.ofNat 112))) 10 11 (.tu [.bo true,.st [100,68],.fn (.func 70) [] []]) true) (aD es 18 (7 :: σ)))=some (some (.it .u8 (.ofNat 112)),some (.pt 1 0),some (.map es 18),some (.mit 0 18 (7 :: σ) 18),true):=by kernel_rfl
theorem zZi (σ:List Nat):aC 9 (run Tryz.E1 2000 20 0 .pl rest (tmE (tmM 9 (.it .u8 (.ofNat 112))) 10 11 (.tu [.bo true,.st [103,71,104,72,120],.fn (.func 71) [] []]) true) (aD es 18 (8 :: σ)))=some (some (.it .u8 (.ofNat 112)),some (.pt 1 0),some (.map es 18),some (.mit 0 18 (8 :: σ) 18),true):=by kernel_rfl
theorem zZj (σ:List Nat):aC 9 (run Tryz.E1 2000 20 0 .pl rest (tmE (tmM 9 (.it .u8 (.ofNat 112))) 10 11 (.tu [.bo true,.st [108],.fn (.func 72) [] []]) true) (aD es 18 (9 :: σ)))=some (some (.it .u8 (.ofNat 112)),some (.pt 1 0),some (.map es 18),some (.mit 0 18 (9 :: σ) 18),true):=by kernel_rfl
theorem zTc (σ:List Nat):aC 9 (run Tryz.E1 2000 20 0 .pl rest (tmE (tmM 9 (.it .u8 (.ofNat 112))) 10 11 (.tu [.bo true,.st [110,78],.fn (.func 73) [] []]) true) (aD es 18 (10 :: σ)))=some (some (.it .u8 (.ofNat 112)),some (.pt 1 0),some (.map es 18),some (.mit 0 18 (10 :: σ) 18),true):=by kernel_rfl
theorem zTd (σ:List Nat):aC 9 (run Tryz.E1 2000 20 0 .pl rest (tmE (tmM 9 (.it .u8 (.ofNat 112))) 10 11 (.tu [.bo true,.st [80],.fn (.func 75) [] []]) true) (aD es 18 (12 :: σ)))=some (some (.it .u8 (.ofNat 112)),some (.pt 1 0),some (.map es 18),some (.mit 0 18 (12 :: σ) 18),true):=by kernel_rfl
theorem zTe (σ:List Nat):aC 9 (run Tryz.E1 2000 20 0 .pl rest (tmE (tmM 9 (.it .u8 (.ofNat 112))) 10 11 (.tu [.bo true,.st [113,81],.fn (.func 76) [] []]) true) (aD es 18 (13 :: σ)))=some (some (.it .u8 (.ofNat 112)),some (.pt 1 0),some (.map es 18),some (.mit 0 18 (13 :: σ) 18),true):=by kernel_rfl
theorem zTf (σ:List Nat):aC 9 (run Tryz.E1 2000 20 0 .pl rest (tmE (tmM 9 (.it .u8 (.ofNat 112))) 10 11 (.tu [.bo true,.st [114],.fn (.func 77) [] []]) true) (aD es 18 (14 :: σ)))=some (some (.it .u8 (.ofNat 112)),some (.pt 1 0),some (.map es 18),some (.mit 0 18 (14 :: σ) 18),true):=by kernel_rfl
theorem zTg (σ:List Nat):aC 9 (run Tryz.E1 2000 20 0 .pl rest (tmE (tmM 9 (.it .u8 (.ofNat 112))) 10 11 (.tu [.bo true,.st [119],.fn (.func 78) [] []]) true) (aD es 18 (15 :: σ)))=some (some (.it .u8 (.ofNat 112)),some (.pt 1 0),some (.map es 18),some (.mit 0 18 (15 :: σ) 18),true):=by kernel_rfl
theorem zTh (σ:List Nat):aC 9 (run Tryz.E1 2000 20 0 .pl rest (tmE (tmM 9 (.it .u8 (.ofNat 112))) 10 11 (.tu [.bo true,.st [115],.fn (.func 79) [] []]) true) (aD es 18 (16 :: σ)))=some (some (.it .u8 (.ofNat 112)),some (.pt 1 0),some (.map es 18),some (.mit 0 18 (16 :: σ) 18),true):=by kernel_rfl
theorem zTi (σ:List Nat):aC 9 (run Tryz.E1 2000 20 0 .pl rest (tmE (tmM 9 (.it .u8 (.ofNat 112))) 10 11 (.tu [.bo true,.st [121],.fn (.func 80) [] []]) true) (aD es 18 (17 :: σ)))=some (some (.it .u8 (.ofNat 112)),some (.pt 1 0),some (.map es 18),some (.mit 0 18 (17 :: σ) 18),true):=by kernel_rfl
theorem d112 (lo:Nat) (A:W) (args:List AV) (ha:args=[.it .u8 (.ofNat 112)]):bD Tryz.prog lo 39 args A (.ret (.fn (.func 74) [] [])) A:=by
 refine gX (E:=Tryz.E1) Tryz.E1_ok (k:=2000) (n:=20) (its:=9) (a1:=10) (a2:=11) (es:=es) (clk:=18) (eh:=(.st [112],.fn (.func 74) [] [],11)) got body shp tmps (by decide) (nx:=nx) (ex:=ex) (by kernel_rfl) (by kernel_rfl) (by kernel_rfl) (by kernel_rfl) (by kernel_rfl) (by kernel_rfl) (by decide) (by kernel_rfl)
  (by kernel_rfl) (by kernel_rfl) (by kernel_rfl) (by kernel_rfl) (by kernel_rfl) (by kernel_rfl) (by simp [es]) (fun e he hne σ=>?_) (fun σ=>by kernel_rfl) lo A args ha
 simp only [es,List.mem_cons,List.not_mem_nil,or_false] at he
 rcases he with rfl | rfl | rfl | rfl | rfl | rfl | rfl | rfl | rfl | rfl | rfl | rfl | rfl | rfl | rfl | rfl | rfl | rfl
 ·exact zZa σ
 ·exact zZb σ
 ·exact zZc σ
 ·exact zZd σ
 ·exact zZe σ
 ·exact zZf σ
 ·exact zZg σ
 ·exact zZh σ
 ·exact zZi σ
 ·exact zZj σ
 ·exact zTc σ
 ·exact absurd rfl hne
 ·exact zTd σ
 ·exact zTe σ
 ·exact zTf σ
 ·exact zTg σ
 ·exact zTh σ
 ·exact zTi σ
theorem zZk (σ:List Nat):aC 9 (run Tryz.E1 2000 20 0 .pl rest (tmE (tmM 9 (.it .u8 (.ofNat 114))) 10 11 (.tu [.bo true,.st [123,125],.fn (.func 63) [] []]) true) (aD es 18 (0 :: σ)))=some (some (.it .u8 (.ofNat 114)),some (.pt 1 0),some (.map es 18),some (.mit 0 18 (0 :: σ) 18),true):=by kernel_rfl
theorem zZl (σ:List Nat):aC 9 (run Tryz.E1 2000 20 0 .pl rest (tmE (tmM 9 (.it .u8 (.ofNat 114))) 10 11 (.tu [.bo true,.st [61],.fn (.func 64) [] []]) true) (aD es 18 (1 :: σ)))=some (some (.it .u8 (.ofNat 114)),some (.pt 1 0),some (.map es 18),some (.mit 0 18 (1 :: σ) 18),true):=by kernel_rfl
theorem zZm (σ:List Nat):aC 9 (run Tryz.E1 2000 20 0 .pl rest (tmE (tmM 9 (.it .u8 (.ofNat 114))) 10 11 (.tu [.bo true,.st [97],.fn (.func 65) [] []]) true) (aD es 18 (2 :: σ)))=some (some (.it .u8 (.ofNat 114)),some (.pt 1 0),some (.map es 18),some (.mit 0 18 (2 :: σ) 18),true):=by kernel_rfl
theorem zZn (σ:List Nat):aC 9 (run Tryz.E1 2000 20 0 .pl rest (tmE (tmM 9 (.it .u8 (.ofNat 114))) 10 11 (.tu [.bo true,.st [105],.fn (.func 66) [] []]) true) (aD es 18 (3 :: σ)))=some (some (.it .u8 (.ofNat 114)),some (.pt 1 0),some (.map es 18),some (.mit 0 18 (3 :: σ) 18),true):=by kernel_rfl
theorem zZo (σ:List Nat):aC 9 (run Tryz.E1 2000 20 0 .pl rest (tmE (tmM 9 (.it .u8 (.ofNat 114))) 10 11 (.tu [.bo true,.st [99],.fn (.func 67) [] []]) true) (aD es 18 (4 :: σ)))=some (some (.it .u8 (.ofNat 114)),some (.pt 1 0),some (.map es 18),some (.mit 0 18 (4 :: σ) 18),true):=by kernel_rfl
theorem zZp (σ:List Nat):aC 9 (run Tryz.E1 2000 20 0 .pl rest (tmE (tmM 9 (.it .u8 (.ofNat 114))) 10 11 (.tu [.bo true,.st [98],.fn (.func 68) [] []]) true) (aD es 18 (5 :: σ)))=some (some (.it .u8 (.ofNat 114)),some (.pt 1 0),some (.map es 18),some (.mit 0 18 (5 :: σ) 18),true):=by kernel_rfl
theorem zZq (σ:List Nat):aC 9 (run Tryz.E1 2000 20 0 .pl rest (tmE (tmM 9 (.it .u8 (.ofNat 114))) 10 11 (.tu [.bo true,.st [116,84],.fn (.func 69) [] []]) true) (aD es 18 (6 :: σ)))=some (some (.it .u8 (.ofNat 114)),some (.pt 1 0),some (.map es 18),some (.mit 0 18 (6 :: σ) 18),true):=by kernel_rfl
theorem zZr (σ:List Nat):aC 9 (run Tryz.E1 2000 20 0 .pl rest (tmE (tmM 9 (.it .u8 (.ofNat 114))) 10 11 (.tu [.bo true,.st [100,68],.fn (.func 70) [] []]) true) (aD es 18 (7 :: σ)))=some (some (.it .u8 (.ofNat 114)),some (.pt 1 0),some (.map es 18),some (.mit 0 18 (7 :: σ) 18),true):=by kernel_rfl
theorem zZs (σ:List Nat):aC 9 (run Tryz.E1 2000 20 0 .pl rest (tmE (tmM 9 (.it .u8 (.ofNat 114))) 10 11 (.tu [.bo true,.st [103,71,104,72,120],.fn (.func 71) [] []]) true) (aD es 18 (8 :: σ)))=some (some (.it .u8 (.ofNat 114)),some (.pt 1 0),some (.map es 18),some (.mit 0 18 (8 :: σ) 18),true):=by kernel_rfl
theorem zZt (σ:List Nat):aC 9 (run Tryz.E1 2000 20 0 .pl rest (tmE (tmM 9 (.it .u8 (.ofNat 114))) 10 11 (.tu [.bo true,.st [108],.fn (.func 72) [] []]) true) (aD es 18 (9 :: σ)))=some (some (.it .u8 (.ofNat 114)),some (.pt 1 0),some (.map es 18),some (.mit 0 18 (9 :: σ) 18),true):=by kernel_rfl
theorem zTj (σ:List Nat):aC 9 (run Tryz.E1 2000 20 0 .pl rest (tmE (tmM 9 (.it .u8 (.ofNat 114))) 10 11 (.tu [.bo true,.st [110,78],.fn (.func 73) [] []]) true) (aD es 18 (10 :: σ)))=some (some (.it .u8 (.ofNat 114)),some (.pt 1 0),some (.map es 18),some (.mit 0 18 (10 :: σ) 18),true):=by kernel_rfl
theorem zTk (σ:List Nat):aC 9 (run Tryz.E1 2000 20 0 .pl rest (tmE (tmM 9 (.it .u8 (.ofNat 114))) 10 11 (.tu [.bo true,.st [112],.fn (.func 74) [] []]) true) (aD es 18 (11 :: σ)))=some (some (.it .u8 (.ofNat 114)),some (.pt 1 0),some (.map es 18),some (.mit 0 18 (11 :: σ) 18),true):=by kernel_rfl
theorem zTl (σ:List Nat):aC 9 (run Tryz.E1 2000 20 0 .pl rest (tmE (tmM 9 (.it .u8 (.ofNat 114))) 10 11 (.tu [.bo true,.st [80],.fn (.func 75) [] []]) true) (aD es 18 (12 :: σ)))=some (some (.it .u8 (.ofNat 114)),some (.pt 1 0),some (.map es 18),some (.mit 0 18 (12 :: σ) 18),true):=by kernel_rfl
theorem zTm (σ:List Nat):aC 9 (run Tryz.E1 2000 20 0 .pl rest (tmE (tmM 9 (.it .u8 (.ofNat 114))) 10 11 (.tu [.bo true,.st [113,81],.fn (.func 76) [] []]) true) (aD es 18 (13 :: σ)))=some (some (.it .u8 (.ofNat 114)),some (.pt 1 0),some (.map es 18),some (.mit 0 18 (13 :: σ) 18),true):=by kernel_rfl
theorem zTn (σ:List Nat):aC 9 (run Tryz.E1 2000 20 0 .pl rest (tmE (tmM 9 (.it .u8 (.ofNat 114))) 10 11 (.tu [.bo true,.st [119],.fn (.func 78) [] []]) true) (aD es 18 (15 :: σ)))=some (some (.it .u8 (.ofNat 114)),some (.pt 1 0),some (.map es 18),some (.mit 0 18 (15 :: σ) 18),true):=by kernel_rfl
theorem zTo (σ:List Nat):aC 9 (run Tryz.E1 2000 20 0 .pl rest (tmE (tmM 9 (.it .u8 (.ofNat 114))) 10 11 (.tu [.bo true,.st [115],.fn (.func 79) [] []]) true) (aD es 18 (16 :: σ)))=some (some (.it .u8 (.ofNat 114)),some (.pt 1 0),some (.map es 18),some (.mit 0 18 (16 :: σ) 18),true):=by kernel_rfl
theorem zTp (σ:List Nat):aC 9 (run Tryz.E1 2000 20 0 .pl rest (tmE (tmM 9 (.it .u8 (.ofNat 114))) 10 11 (.tu [.bo true,.st [121],.fn (.func 80) [] []]) true) (aD es 18 (17 :: σ)))=some (some (.it .u8 (.ofNat 114)),some (.pt 1 0),some (.map es 18),some (.mit 0 18 (17 :: σ) 18),true):=by kernel_rfl
theorem d114 (lo:Nat) (A:W) (args:List AV) (ha:args=[.it .u8 (.ofNat 114)]):bD Tryz.prog lo 39 args A (.ret (.fn (.func 77) [] [])) A:=by
 refine gX (E:=Tryz.E1) Tryz.E1_ok (k:=2000) (n:=20) (its:=9) (a1:=10) (a2:=11) (es:=es) (clk:=18) (eh:=(.st [114],.fn (.func 77) [] [],14)) got body shp tmps (by decide) (nx:=nx) (ex:=ex) (by kernel_rfl) (by kernel_rfl) (by kernel_rfl) (by kernel_rfl) (by kernel_rfl) (by kernel_rfl) (by decide) (by kernel_rfl)
  (by kernel_rfl) (by kernel_rfl) (by kernel_rfl) (by kernel_rfl) (by kernel_rfl) (by kernel_rfl) (by simp [es]) (fun e he hne σ=>?_) (fun σ=>by kernel_rfl) lo A args ha
 simp only [es,List.mem_cons,List.not_mem_nil,or_false] at he
 rcases he with rfl | rfl | rfl | rfl | rfl | rfl | rfl | rfl | rfl | rfl | rfl | rfl | rfl | rfl | rfl | rfl | rfl | rfl
 ·exact zZk σ
 ·exact zZl σ
 ·exact zZm σ
 ·exact zZn σ
 ·exact zZo σ
 ·exact zZp σ
 ·exact zZq σ
 ·exact zZr σ
 ·exact zZs σ
 ·exact zZt σ
 ·exact zTj σ
 ·exact zTk σ
 ·exact zTl σ
 ·exact zTm σ
 ·exact absurd rfl hne
 ·exact zTn σ
 ·exact zTo σ
 ·exact zTp σ
end Tryz.Bd
def Tryz.Bd.tab:List (Nat × Nat):=[(123,63),(97,65),(100,70),(103,71),(71,71),(104,71),(72,71),(120,71),(112,74),(114,77)]
def Qx (tab:List (Nat × Nat)):Gv:=fun _ A xs=>match xs with
 | [.it .u8 (.ofNat b)]=>ob (lk b tab) fun g=>some (.fn (.func g) [] [],A)
 | _=>none
where lk:Nat->List (Nat × Nat)->Option Nat
 | _,[]=>none
 | b,p :: r=>cnd (Nat.beq b p.1) (some p.2) (lk b r)
theorem Vq {b g:Nat}:∀ {l:List (Nat × Nat)},Qx.lk b l=some g->(b,g) ∈ l
 | p :: r,h=>by
  unfold Qx.lk cnd at h
  split at h
  ·rename_i hc
   simp only [Option.some.injEq] at h
   have:=Nat.eq_of_beq_eq_true hc
   subst this h
   exact .head _
  ·exact .tail _ (Vq h)
theorem Tryz.bdoes_ok (lo:Nat) (A:W) (args:List AV) (v:AV) (A':W) (h:Qx Tryz.Bd.tab lo A args=some (v,A')):bD Tryz.prog lo 39 args A (.ret v) A':=by
 unfold Qx at h
 split at h
 ·rename_i b
  replace h:=aA h; obtain ⟨g,hg,h⟩:=h
  simp only [Option.some.injEq,Prod.mk.injEq] at h
  obtain ⟨rfl,rfl⟩:=h
  have hm:=Vq hg
  simp only [Tryz.Bd.tab,List.mem_cons,Prod.mk.injEq,List.not_mem_nil,or_false] at hm
  rcases hm with ⟨rfl,rfl⟩ | ⟨rfl,rfl⟩ | ⟨rfl,rfl⟩ | ⟨rfl,rfl⟩ | ⟨rfl,rfl⟩ | ⟨rfl,rfl⟩ | ⟨rfl,rfl⟩ | ⟨rfl,rfl⟩ | ⟨rfl,rfl⟩ | ⟨rfl,rfl⟩
  ·exact Tryz.Bd.d123 lo A _ rfl
  ·exact Tryz.Bd.d97 lo A _ rfl
  ·exact Tryz.Bd.d100 lo A _ rfl
  ·exact Tryz.Bd.d103 lo A _ rfl
  ·exact Tryz.Bd.d71 lo A _ rfl
  ·exact Tryz.Bd.d104 lo A _ rfl
  ·exact Tryz.Bd.d72 lo A _ rfl
  ·exact Tryz.Bd.d120 lo A _ rfl
  ·exact Tryz.Bd.d112 lo A _ rfl
  ·exact Tryz.Bd.d114 lo A _ rfl
 ·cases h
end Go.Proofs
