/- Part of a proof over this seat: a library of my own, and what it says of this seat. No statement is proved here. -/
import Derived.Test.YtmpoakdpdflfgaaGreatDoorPnrtBC
import Derived.Test.YtmpoakdpdflfgaaGreatDoorPnrtAY
namespace Go.Proofs
open Go.Ce
set_option maxRecDepth 100000
noncomputable def Tryz.E1:Env:=Tryz.E0.more 107 zLe
theorem Tryz.E1_ok:dW Tryz.E1:=Tryz.E0_ok.more fun lo A args v A' h=>zHf Tryz.func107 (by kernel_rfl) (by kernel_rfl) (by kernel_rfl) (by kernel_rfl) lo A args v A' h
namespace Tryz.Bd
noncomputable abbrev c:Code:=zCw Tryz.f54
noncomputable abbrev rest:Code:=cR (uX Tryz.f54)
noncomputable abbrev suf:Code:=cR (cR (cR c))
def es:List (AV × AV × Nat):=[(.st [123,125],.fn (.func 86) [] [],0),(.st [61],.fn (.func 87) [] [],1),(.st [97],.fn (.func 88) [] [],2),(.st [105],.fn (.func 89) [] [],3),(.st [99],.fn (.func 90) [] [],4),(.st [98],.fn (.func 91) [] [],5),(.st [116,84],.fn (.func 92) [] [],6),(.st [100,68],.fn (.func 93) [] [],7),(.st [103,71,104,72,120],.fn (.func 94) [] [],8),(.st [108],.fn (.func 95) [] [],9),(.st [110,78],.fn (.func 96) [] [],10),(.st [112],.fn (.func 97) [] [],11),(.st [80],.fn (.func 98) [] [],12),(.st [113,81],.fn (.func 99) [] [],13),(.st [114],.fn (.func 100) [] [],14),(.st [119],.fn (.func 101) [] [],15),(.st [115],.fn (.func 102) [] [],16),(.st [121],.fn (.func 103) [] [],17)]
theorem body:Tryz.f54.body=some c:=by kernel_rfl
noncomputable abbrev nx:Oper:=cOp (cL (uX Tryz.f54)) 0
noncomputable abbrev ex:Oper:=cOp (cL (uX Tryz.f54)) 1
noncomputable abbrev rid:Nat:=cId (cL (uX Tryz.f54))
theorem shp:c=.seq (cL c) (.seq (cL (cR c)) (.seq (.seq (cL (cL (cR (cR c)))) (.block 0 (.loop (.seq (.region rid #[nx,ex] false) rest)))) suf)):=by kernel_rfl
theorem got:T.get Tryz.E1.F 54=some Tryz.f54:=by kernel_rfl
theorem tmps:Tryz.f54.ntmps=20:=by kernel_rfl
theorem zXq (σ:List Nat):aM 9 (run Tryz.E1 2000 20 0 .pl rest (tmE (tmM 9 (.it .u8 (.ofNat 100))) 10 11 (.tu [.bo true,.st [123,125],.fn (.func 86) [] []]) true) (aS es 18 (0 :: σ)))=some (some (.it .u8 (.ofNat 100)),some (.pt 1 0),some (.map es 18),some (.mit 0 18 (0 :: σ) 18),true):=by kernel_rfl
theorem zXr (σ:List Nat):aM 9 (run Tryz.E1 2000 20 0 .pl rest (tmE (tmM 9 (.it .u8 (.ofNat 100))) 10 11 (.tu [.bo true,.st [61],.fn (.func 87) [] []]) true) (aS es 18 (1 :: σ)))=some (some (.it .u8 (.ofNat 100)),some (.pt 1 0),some (.map es 18),some (.mit 0 18 (1 :: σ) 18),true):=by kernel_rfl
theorem zXs (σ:List Nat):aM 9 (run Tryz.E1 2000 20 0 .pl rest (tmE (tmM 9 (.it .u8 (.ofNat 100))) 10 11 (.tu [.bo true,.st [97],.fn (.func 88) [] []]) true) (aS es 18 (2 :: σ)))=some (some (.it .u8 (.ofNat 100)),some (.pt 1 0),some (.map es 18),some (.mit 0 18 (2 :: σ) 18),true):=by kernel_rfl
theorem zXt (σ:List Nat):aM 9 (run Tryz.E1 2000 20 0 .pl rest (tmE (tmM 9 (.it .u8 (.ofNat 100))) 10 11 (.tu [.bo true,.st [105],.fn (.func 89) [] []]) true) (aS es 18 (3 :: σ)))=some (some (.it .u8 (.ofNat 100)),some (.pt 1 0),some (.map es 18),some (.mit 0 18 (3 :: σ) 18),true):=by kernel_rfl
theorem zXu (σ:List Nat):aM 9 (run Tryz.E1 2000 20 0 .pl rest (tmE (tmM 9 (.it .u8 (.ofNat 100))) 10 11 (.tu [.bo true,.st [99],.fn (.func 90) [] []]) true) (aS es 18 (4 :: σ)))=some (some (.it .u8 (.ofNat 100)),some (.pt 1 0),some (.map es 18),some (.mit 0 18 (4 :: σ) 18),true):=by kernel_rfl
theorem zXv (σ:List Nat):aM 9 (run Tryz.E1 2000 20 0 .pl rest (tmE (tmM 9 (.it .u8 (.ofNat 100))) 10 11 (.tu [.bo true,.st [98],.fn (.func 91) [] []]) true) (aS es 18 (5 :: σ)))=some (some (.it .u8 (.ofNat 100)),some (.pt 1 0),some (.map es 18),some (.mit 0 18 (5 :: σ) 18),true):=by kernel_rfl
theorem zXw (σ:List Nat):aM 9 (run Tryz.E1 2000 20 0 .pl rest (tmE (tmM 9 (.it .u8 (.ofNat 100))) 10 11 (.tu [.bo true,.st [116,84],.fn (.func 92) [] []]) true) (aS es 18 (6 :: σ)))=some (some (.it .u8 (.ofNat 100)),some (.pt 1 0),some (.map es 18),some (.mit 0 18 (6 :: σ) 18),true):=by kernel_rfl
theorem zXx (σ:List Nat):aM 9 (run Tryz.E1 2000 20 0 .pl rest (tmE (tmM 9 (.it .u8 (.ofNat 100))) 10 11 (.tu [.bo true,.st [103,71,104,72,120],.fn (.func 94) [] []]) true) (aS es 18 (8 :: σ)))=some (some (.it .u8 (.ofNat 100)),some (.pt 1 0),some (.map es 18),some (.mit 0 18 (8 :: σ) 18),true):=by kernel_rfl
theorem zXy (σ:List Nat):aM 9 (run Tryz.E1 2000 20 0 .pl rest (tmE (tmM 9 (.it .u8 (.ofNat 100))) 10 11 (.tu [.bo true,.st [108],.fn (.func 95) [] []]) true) (aS es 18 (9 :: σ)))=some (some (.it .u8 (.ofNat 100)),some (.pt 1 0),some (.map es 18),some (.mit 0 18 (9 :: σ) 18),true):=by kernel_rfl
theorem zUb (σ:List Nat):aM 9 (run Tryz.E1 2000 20 0 .pl rest (tmE (tmM 9 (.it .u8 (.ofNat 100))) 10 11 (.tu [.bo true,.st [110,78],.fn (.func 96) [] []]) true) (aS es 18 (10 :: σ)))=some (some (.it .u8 (.ofNat 100)),some (.pt 1 0),some (.map es 18),some (.mit 0 18 (10 :: σ) 18),true):=by kernel_rfl
theorem zUc (σ:List Nat):aM 9 (run Tryz.E1 2000 20 0 .pl rest (tmE (tmM 9 (.it .u8 (.ofNat 100))) 10 11 (.tu [.bo true,.st [112],.fn (.func 97) [] []]) true) (aS es 18 (11 :: σ)))=some (some (.it .u8 (.ofNat 100)),some (.pt 1 0),some (.map es 18),some (.mit 0 18 (11 :: σ) 18),true):=by kernel_rfl
theorem zUd (σ:List Nat):aM 9 (run Tryz.E1 2000 20 0 .pl rest (tmE (tmM 9 (.it .u8 (.ofNat 100))) 10 11 (.tu [.bo true,.st [80],.fn (.func 98) [] []]) true) (aS es 18 (12 :: σ)))=some (some (.it .u8 (.ofNat 100)),some (.pt 1 0),some (.map es 18),some (.mit 0 18 (12 :: σ) 18),true):=by kernel_rfl
theorem zUe (σ:List Nat):aM 9 (run Tryz.E1 2000 20 0 .pl rest (tmE (tmM 9 (.it .u8 (.ofNat 100))) 10 11 (.tu [.bo true,.st [113,81],.fn (.func 99) [] []]) true) (aS es 18 (13 :: σ)))=some (some (.it .u8 (.ofNat 100)),some (.pt 1 0),some (.map es 18),some (.mit 0 18 (13 :: σ) 18),true):=by kernel_rfl
theorem zUf (σ:List Nat):aM 9 (run Tryz.E1 2000 20 0 .pl rest (tmE (tmM 9 (.it .u8 (.ofNat 100))) 10 11 (.tu [.bo true,.st [114],.fn (.func 100) [] []]) true) (aS es 18 (14 :: σ)))=some (some (.it .u8 (.ofNat 100)),some (.pt 1 0),some (.map es 18),some (.mit 0 18 (14 :: σ) 18),true):=by kernel_rfl
theorem zUg (σ:List Nat):aM 9 (run Tryz.E1 2000 20 0 .pl rest (tmE (tmM 9 (.it .u8 (.ofNat 100))) 10 11 (.tu [.bo true,.st [119],.fn (.func 101) [] []]) true) (aS es 18 (15 :: σ)))=some (some (.it .u8 (.ofNat 100)),some (.pt 1 0),some (.map es 18),some (.mit 0 18 (15 :: σ) 18),true):=by kernel_rfl
theorem zUh (σ:List Nat):aM 9 (run Tryz.E1 2000 20 0 .pl rest (tmE (tmM 9 (.it .u8 (.ofNat 100))) 10 11 (.tu [.bo true,.st [115],.fn (.func 102) [] []]) true) (aS es 18 (16 :: σ)))=some (some (.it .u8 (.ofNat 100)),some (.pt 1 0),some (.map es 18),some (.mit 0 18 (16 :: σ) 18),true):=by kernel_rfl
theorem zUi (σ:List Nat):aM 9 (run Tryz.E1 2000 20 0 .pl rest (tmE (tmM 9 (.it .u8 (.ofNat 100))) 10 11 (.tu [.bo true,.st [121],.fn (.func 103) [] []]) true) (aS es 18 (17 :: σ)))=some (some (.it .u8 (.ofNat 100)),some (.pt 1 0),some (.map es 18),some (.mit 0 18 (17 :: σ) 18),true):=by kernel_rfl
theorem d100 (lo:Nat) (A:W) (args:List AV) (ha:args=[.it .u8 (.ofNat 100)]):bS Tryz.prog lo 54 args A (.ret (.fn (.func 93) [] [])) A:=by
 refine wS (E:=Tryz.E1) Tryz.E1_ok (k:=2000) (n:=20) (its:=9) (a1:=10) (a2:=11) (es:=es) (clk:=18) (eh:=(.st [100,68],.fn (.func 93) [] [],7)) got body shp tmps (by decide) (nx:=nx) (ex:=ex) (by kernel_rfl) (by kernel_rfl) (by kernel_rfl) (by kernel_rfl) (by kernel_rfl) (by kernel_rfl) (by decide) (by kernel_rfl)
  (by kernel_rfl) (by kernel_rfl) (by kernel_rfl) (by kernel_rfl) (by kernel_rfl) (by kernel_rfl) (by simp [es]) (fun e he hne σ=>?_) (fun σ=>by kernel_rfl) lo A args ha
 simp only [es,List.mem_cons,List.not_mem_nil,or_false] at he
 rcases he with rfl | rfl | rfl | rfl | rfl | rfl | rfl | rfl | rfl | rfl | rfl | rfl | rfl | rfl | rfl | rfl | rfl | rfl
 ·exact zXq σ
 ·exact zXr σ
 ·exact zXs σ
 ·exact zXt σ
 ·exact zXu σ
 ·exact zXv σ
 ·exact zXw σ
 ·exact absurd rfl hne
 ·exact zXx σ
 ·exact zXy σ
 ·exact zUb σ
 ·exact zUc σ
 ·exact zUd σ
 ·exact zUe σ
 ·exact zUf σ
 ·exact zUg σ
 ·exact zUh σ
 ·exact zUi σ
theorem zXz (σ:List Nat):aM 9 (run Tryz.E1 2000 20 0 .pl rest (tmE (tmM 9 (.it .u8 (.ofNat 112))) 10 11 (.tu [.bo true,.st [123,125],.fn (.func 86) [] []]) true) (aS es 18 (0 :: σ)))=some (some (.it .u8 (.ofNat 112)),some (.pt 1 0),some (.map es 18),some (.mit 0 18 (0 :: σ) 18),true):=by kernel_rfl
theorem zYa (σ:List Nat):aM 9 (run Tryz.E1 2000 20 0 .pl rest (tmE (tmM 9 (.it .u8 (.ofNat 112))) 10 11 (.tu [.bo true,.st [61],.fn (.func 87) [] []]) true) (aS es 18 (1 :: σ)))=some (some (.it .u8 (.ofNat 112)),some (.pt 1 0),some (.map es 18),some (.mit 0 18 (1 :: σ) 18),true):=by kernel_rfl
theorem zYb (σ:List Nat):aM 9 (run Tryz.E1 2000 20 0 .pl rest (tmE (tmM 9 (.it .u8 (.ofNat 112))) 10 11 (.tu [.bo true,.st [97],.fn (.func 88) [] []]) true) (aS es 18 (2 :: σ)))=some (some (.it .u8 (.ofNat 112)),some (.pt 1 0),some (.map es 18),some (.mit 0 18 (2 :: σ) 18),true):=by kernel_rfl
theorem zYc (σ:List Nat):aM 9 (run Tryz.E1 2000 20 0 .pl rest (tmE (tmM 9 (.it .u8 (.ofNat 112))) 10 11 (.tu [.bo true,.st [105],.fn (.func 89) [] []]) true) (aS es 18 (3 :: σ)))=some (some (.it .u8 (.ofNat 112)),some (.pt 1 0),some (.map es 18),some (.mit 0 18 (3 :: σ) 18),true):=by kernel_rfl
theorem zYd (σ:List Nat):aM 9 (run Tryz.E1 2000 20 0 .pl rest (tmE (tmM 9 (.it .u8 (.ofNat 112))) 10 11 (.tu [.bo true,.st [99],.fn (.func 90) [] []]) true) (aS es 18 (4 :: σ)))=some (some (.it .u8 (.ofNat 112)),some (.pt 1 0),some (.map es 18),some (.mit 0 18 (4 :: σ) 18),true):=by kernel_rfl
theorem zYe (σ:List Nat):aM 9 (run Tryz.E1 2000 20 0 .pl rest (tmE (tmM 9 (.it .u8 (.ofNat 112))) 10 11 (.tu [.bo true,.st [98],.fn (.func 91) [] []]) true) (aS es 18 (5 :: σ)))=some (some (.it .u8 (.ofNat 112)),some (.pt 1 0),some (.map es 18),some (.mit 0 18 (5 :: σ) 18),true):=by kernel_rfl
theorem zYf (σ:List Nat):aM 9 (run Tryz.E1 2000 20 0 .pl rest (tmE (tmM 9 (.it .u8 (.ofNat 112))) 10 11 (.tu [.bo true,.st [116,84],.fn (.func 92) [] []]) true) (aS es 18 (6 :: σ)))=some (some (.it .u8 (.ofNat 112)),some (.pt 1 0),some (.map es 18),some (.mit 0 18 (6 :: σ) 18),true):=by kernel_rfl
theorem zYg (σ:List Nat):aM 9 (run Tryz.E1 2000 20 0 .pl rest (tmE (tmM 9 (.it .u8 (.ofNat 112))) 10 11 (.tu [.bo true,.st [100,68],.fn (.func 93) [] []]) true) (aS es 18 (7 :: σ)))=some (some (.it .u8 (.ofNat 112)),some (.pt 1 0),some (.map es 18),some (.mit 0 18 (7 :: σ) 18),true):=by kernel_rfl
theorem zYh (σ:List Nat):aM 9 (run Tryz.E1 2000 20 0 .pl rest (tmE (tmM 9 (.it .u8 (.ofNat 112))) 10 11 (.tu [.bo true,.st [103,71,104,72,120],.fn (.func 94) [] []]) true) (aS es 18 (8 :: σ)))=some (some (.it .u8 (.ofNat 112)),some (.pt 1 0),some (.map es 18),some (.mit 0 18 (8 :: σ) 18),true):=by kernel_rfl
theorem zYi (σ:List Nat):aM 9 (run Tryz.E1 2000 20 0 .pl rest (tmE (tmM 9 (.it .u8 (.ofNat 112))) 10 11 (.tu [.bo true,.st [108],.fn (.func 95) [] []]) true) (aS es 18 (9 :: σ)))=some (some (.it .u8 (.ofNat 112)),some (.pt 1 0),some (.map es 18),some (.mit 0 18 (9 :: σ) 18),true):=by kernel_rfl
theorem zUj (σ:List Nat):aM 9 (run Tryz.E1 2000 20 0 .pl rest (tmE (tmM 9 (.it .u8 (.ofNat 112))) 10 11 (.tu [.bo true,.st [110,78],.fn (.func 96) [] []]) true) (aS es 18 (10 :: σ)))=some (some (.it .u8 (.ofNat 112)),some (.pt 1 0),some (.map es 18),some (.mit 0 18 (10 :: σ) 18),true):=by kernel_rfl
theorem zUk (σ:List Nat):aM 9 (run Tryz.E1 2000 20 0 .pl rest (tmE (tmM 9 (.it .u8 (.ofNat 112))) 10 11 (.tu [.bo true,.st [80],.fn (.func 98) [] []]) true) (aS es 18 (12 :: σ)))=some (some (.it .u8 (.ofNat 112)),some (.pt 1 0),some (.map es 18),some (.mit 0 18 (12 :: σ) 18),true):=by kernel_rfl
theorem zUl (σ:List Nat):aM 9 (run Tryz.E1 2000 20 0 .pl rest (tmE (tmM 9 (.it .u8 (.ofNat 112))) 10 11 (.tu [.bo true,.st [113,81],.fn (.func 99) [] []]) true) (aS es 18 (13 :: σ)))=some (some (.it .u8 (.ofNat 112)),some (.pt 1 0),some (.map es 18),some (.mit 0 18 (13 :: σ) 18),true):=by kernel_rfl
theorem zUm (σ:List Nat):aM 9 (run Tryz.E1 2000 20 0 .pl rest (tmE (tmM 9 (.it .u8 (.ofNat 112))) 10 11 (.tu [.bo true,.st [114],.fn (.func 100) [] []]) true) (aS es 18 (14 :: σ)))=some (some (.it .u8 (.ofNat 112)),some (.pt 1 0),some (.map es 18),some (.mit 0 18 (14 :: σ) 18),true):=by kernel_rfl
theorem zUn (σ:List Nat):aM 9 (run Tryz.E1 2000 20 0 .pl rest (tmE (tmM 9 (.it .u8 (.ofNat 112))) 10 11 (.tu [.bo true,.st [119],.fn (.func 101) [] []]) true) (aS es 18 (15 :: σ)))=some (some (.it .u8 (.ofNat 112)),some (.pt 1 0),some (.map es 18),some (.mit 0 18 (15 :: σ) 18),true):=by kernel_rfl
theorem zUo (σ:List Nat):aM 9 (run Tryz.E1 2000 20 0 .pl rest (tmE (tmM 9 (.it .u8 (.ofNat 112))) 10 11 (.tu [.bo true,.st [115],.fn (.func 102) [] []]) true) (aS es 18 (16 :: σ)))=some (some (.it .u8 (.ofNat 112)),some (.pt 1 0),some (.map es 18),some (.mit 0 18 (16 :: σ) 18),true):=by kernel_rfl
theorem zUp (σ:List Nat):aM 9 (run Tryz.E1 2000 20 0 .pl rest (tmE (tmM 9 (.it .u8 (.ofNat 112))) 10 11 (.tu [.bo true,.st [121],.fn (.func 103) [] []]) true) (aS es 18 (17 :: σ)))=some (some (.it .u8 (.ofNat 112)),some (.pt 1 0),some (.map es 18),some (.mit 0 18 (17 :: σ) 18),true):=by kernel_rfl
theorem d112 (lo:Nat) (A:W) (args:List AV) (ha:args=[.it .u8 (.ofNat 112)]):bS Tryz.prog lo 54 args A (.ret (.fn (.func 97) [] [])) A:=by
 refine wS (E:=Tryz.E1) Tryz.E1_ok (k:=2000) (n:=20) (its:=9) (a1:=10) (a2:=11) (es:=es) (clk:=18) (eh:=(.st [112],.fn (.func 97) [] [],11)) got body shp tmps (by decide) (nx:=nx) (ex:=ex) (by kernel_rfl) (by kernel_rfl) (by kernel_rfl) (by kernel_rfl) (by kernel_rfl) (by kernel_rfl) (by decide) (by kernel_rfl)
  (by kernel_rfl) (by kernel_rfl) (by kernel_rfl) (by kernel_rfl) (by kernel_rfl) (by kernel_rfl) (by simp [es]) (fun e he hne σ=>?_) (fun σ=>by kernel_rfl) lo A args ha
 simp only [es,List.mem_cons,List.not_mem_nil,or_false] at he
 rcases he with rfl | rfl | rfl | rfl | rfl | rfl | rfl | rfl | rfl | rfl | rfl | rfl | rfl | rfl | rfl | rfl | rfl | rfl
 ·exact zXz σ
 ·exact zYa σ
 ·exact zYb σ
 ·exact zYc σ
 ·exact zYd σ
 ·exact zYe σ
 ·exact zYf σ
 ·exact zYg σ
 ·exact zYh σ
 ·exact zYi σ
 ·exact zUj σ
 ·exact absurd rfl hne
 ·exact zUk σ
 ·exact zUl σ
 ·exact zUm σ
 ·exact zUn σ
 ·exact zUo σ
 ·exact zUp σ
theorem zYj (σ:List Nat):aM 9 (run Tryz.E1 2000 20 0 .pl rest (tmE (tmM 9 (.it .u8 (.ofNat 113))) 10 11 (.tu [.bo true,.st [123,125],.fn (.func 86) [] []]) true) (aS es 18 (0 :: σ)))=some (some (.it .u8 (.ofNat 113)),some (.pt 1 0),some (.map es 18),some (.mit 0 18 (0 :: σ) 18),true):=by kernel_rfl
theorem zYk (σ:List Nat):aM 9 (run Tryz.E1 2000 20 0 .pl rest (tmE (tmM 9 (.it .u8 (.ofNat 113))) 10 11 (.tu [.bo true,.st [61],.fn (.func 87) [] []]) true) (aS es 18 (1 :: σ)))=some (some (.it .u8 (.ofNat 113)),some (.pt 1 0),some (.map es 18),some (.mit 0 18 (1 :: σ) 18),true):=by kernel_rfl
theorem zYl (σ:List Nat):aM 9 (run Tryz.E1 2000 20 0 .pl rest (tmE (tmM 9 (.it .u8 (.ofNat 113))) 10 11 (.tu [.bo true,.st [97],.fn (.func 88) [] []]) true) (aS es 18 (2 :: σ)))=some (some (.it .u8 (.ofNat 113)),some (.pt 1 0),some (.map es 18),some (.mit 0 18 (2 :: σ) 18),true):=by kernel_rfl
theorem zYm (σ:List Nat):aM 9 (run Tryz.E1 2000 20 0 .pl rest (tmE (tmM 9 (.it .u8 (.ofNat 113))) 10 11 (.tu [.bo true,.st [105],.fn (.func 89) [] []]) true) (aS es 18 (3 :: σ)))=some (some (.it .u8 (.ofNat 113)),some (.pt 1 0),some (.map es 18),some (.mit 0 18 (3 :: σ) 18),true):=by kernel_rfl
theorem zYn (σ:List Nat):aM 9 (run Tryz.E1 2000 20 0 .pl rest (tmE (tmM 9 (.it .u8 (.ofNat 113))) 10 11 (.tu [.bo true,.st [99],.fn (.func 90) [] []]) true) (aS es 18 (4 :: σ)))=some (some (.it .u8 (.ofNat 113)),some (.pt 1 0),some (.map es 18),some (.mit 0 18 (4 :: σ) 18),true):=by kernel_rfl
theorem zYo (σ:List Nat):aM 9 (run Tryz.E1 2000 20 0 .pl rest (tmE (tmM 9 (.it .u8 (.ofNat 113))) 10 11 (.tu [.bo true,.st [98],.fn (.func 91) [] []]) true) (aS es 18 (5 :: σ)))=some (some (.it .u8 (.ofNat 113)),some (.pt 1 0),some (.map es 18),some (.mit 0 18 (5 :: σ) 18),true):=by kernel_rfl
theorem zYp (σ:List Nat):aM 9 (run Tryz.E1 2000 20 0 .pl rest (tmE (tmM 9 (.it .u8 (.ofNat 113))) 10 11 (.tu [.bo true,.st [116,84],.fn (.func 92) [] []]) true) (aS es 18 (6 :: σ)))=some (some (.it .u8 (.ofNat 113)),some (.pt 1 0),some (.map es 18),some (.mit 0 18 (6 :: σ) 18),true):=by kernel_rfl
theorem zYq (σ:List Nat):aM 9 (run Tryz.E1 2000 20 0 .pl rest (tmE (tmM 9 (.it .u8 (.ofNat 113))) 10 11 (.tu [.bo true,.st [100,68],.fn (.func 93) [] []]) true) (aS es 18 (7 :: σ)))=some (some (.it .u8 (.ofNat 113)),some (.pt 1 0),some (.map es 18),some (.mit 0 18 (7 :: σ) 18),true):=by kernel_rfl
theorem zYr (σ:List Nat):aM 9 (run Tryz.E1 2000 20 0 .pl rest (tmE (tmM 9 (.it .u8 (.ofNat 113))) 10 11 (.tu [.bo true,.st [103,71,104,72,120],.fn (.func 94) [] []]) true) (aS es 18 (8 :: σ)))=some (some (.it .u8 (.ofNat 113)),some (.pt 1 0),some (.map es 18),some (.mit 0 18 (8 :: σ) 18),true):=by kernel_rfl
theorem zYs (σ:List Nat):aM 9 (run Tryz.E1 2000 20 0 .pl rest (tmE (tmM 9 (.it .u8 (.ofNat 113))) 10 11 (.tu [.bo true,.st [108],.fn (.func 95) [] []]) true) (aS es 18 (9 :: σ)))=some (some (.it .u8 (.ofNat 113)),some (.pt 1 0),some (.map es 18),some (.mit 0 18 (9 :: σ) 18),true):=by kernel_rfl
theorem zUq (σ:List Nat):aM 9 (run Tryz.E1 2000 20 0 .pl rest (tmE (tmM 9 (.it .u8 (.ofNat 113))) 10 11 (.tu [.bo true,.st [110,78],.fn (.func 96) [] []]) true) (aS es 18 (10 :: σ)))=some (some (.it .u8 (.ofNat 113)),some (.pt 1 0),some (.map es 18),some (.mit 0 18 (10 :: σ) 18),true):=by kernel_rfl
theorem zUr (σ:List Nat):aM 9 (run Tryz.E1 2000 20 0 .pl rest (tmE (tmM 9 (.it .u8 (.ofNat 113))) 10 11 (.tu [.bo true,.st [112],.fn (.func 97) [] []]) true) (aS es 18 (11 :: σ)))=some (some (.it .u8 (.ofNat 113)),some (.pt 1 0),some (.map es 18),some (.mit 0 18 (11 :: σ) 18),true):=by kernel_rfl
theorem zUs (σ:List Nat):aM 9 (run Tryz.E1 2000 20 0 .pl rest (tmE (tmM 9 (.it .u8 (.ofNat 113))) 10 11 (.tu [.bo true,.st [80],.fn (.func 98) [] []]) true) (aS es 18 (12 :: σ)))=some (some (.it .u8 (.ofNat 113)),some (.pt 1 0),some (.map es 18),some (.mit 0 18 (12 :: σ) 18),true):=by kernel_rfl
theorem zUt (σ:List Nat):aM 9 (run Tryz.E1 2000 20 0 .pl rest (tmE (tmM 9 (.it .u8 (.ofNat 113))) 10 11 (.tu [.bo true,.st [114],.fn (.func 100) [] []]) true) (aS es 18 (14 :: σ)))=some (some (.it .u8 (.ofNat 113)),some (.pt 1 0),some (.map es 18),some (.mit 0 18 (14 :: σ) 18),true):=by kernel_rfl
theorem zUu (σ:List Nat):aM 9 (run Tryz.E1 2000 20 0 .pl rest (tmE (tmM 9 (.it .u8 (.ofNat 113))) 10 11 (.tu [.bo true,.st [119],.fn (.func 101) [] []]) true) (aS es 18 (15 :: σ)))=some (some (.it .u8 (.ofNat 113)),some (.pt 1 0),some (.map es 18),some (.mit 0 18 (15 :: σ) 18),true):=by kernel_rfl
theorem zUv (σ:List Nat):aM 9 (run Tryz.E1 2000 20 0 .pl rest (tmE (tmM 9 (.it .u8 (.ofNat 113))) 10 11 (.tu [.bo true,.st [115],.fn (.func 102) [] []]) true) (aS es 18 (16 :: σ)))=some (some (.it .u8 (.ofNat 113)),some (.pt 1 0),some (.map es 18),some (.mit 0 18 (16 :: σ) 18),true):=by kernel_rfl
theorem zUw (σ:List Nat):aM 9 (run Tryz.E1 2000 20 0 .pl rest (tmE (tmM 9 (.it .u8 (.ofNat 113))) 10 11 (.tu [.bo true,.st [121],.fn (.func 103) [] []]) true) (aS es 18 (17 :: σ)))=some (some (.it .u8 (.ofNat 113)),some (.pt 1 0),some (.map es 18),some (.mit 0 18 (17 :: σ) 18),true):=by kernel_rfl
theorem d113 (lo:Nat) (A:W) (args:List AV) (ha:args=[.it .u8 (.ofNat 113)]):bS Tryz.prog lo 54 args A (.ret (.fn (.func 99) [] [])) A:=by
 refine wS (E:=Tryz.E1) Tryz.E1_ok (k:=2000) (n:=20) (its:=9) (a1:=10) (a2:=11) (es:=es) (clk:=18) (eh:=(.st [113,81],.fn (.func 99) [] [],13)) got body shp tmps (by decide) (nx:=nx) (ex:=ex) (by kernel_rfl) (by kernel_rfl) (by kernel_rfl) (by kernel_rfl) (by kernel_rfl) (by kernel_rfl) (by decide) (by kernel_rfl)
  (by kernel_rfl) (by kernel_rfl) (by kernel_rfl) (by kernel_rfl) (by kernel_rfl) (by kernel_rfl) (by simp [es]) (fun e he hne σ=>?_) (fun σ=>by kernel_rfl) lo A args ha
 simp only [es,List.mem_cons,List.not_mem_nil,or_false] at he
 rcases he with rfl | rfl | rfl | rfl | rfl | rfl | rfl | rfl | rfl | rfl | rfl | rfl | rfl | rfl | rfl | rfl | rfl | rfl
 ·exact zYj σ
 ·exact zYk σ
 ·exact zYl σ
 ·exact zYm σ
 ·exact zYn σ
 ·exact zYo σ
 ·exact zYp σ
 ·exact zYq σ
 ·exact zYr σ
 ·exact zYs σ
 ·exact zUq σ
 ·exact zUr σ
 ·exact zUs σ
 ·exact absurd rfl hne
 ·exact zUt σ
 ·exact zUu σ
 ·exact zUv σ
 ·exact zUw σ
theorem zYt (σ:List Nat):aM 9 (run Tryz.E1 2000 20 0 .pl rest (tmE (tmM 9 (.it .u8 (.ofNat 119))) 10 11 (.tu [.bo true,.st [123,125],.fn (.func 86) [] []]) true) (aS es 18 (0 :: σ)))=some (some (.it .u8 (.ofNat 119)),some (.pt 1 0),some (.map es 18),some (.mit 0 18 (0 :: σ) 18),true):=by kernel_rfl
theorem zYu (σ:List Nat):aM 9 (run Tryz.E1 2000 20 0 .pl rest (tmE (tmM 9 (.it .u8 (.ofNat 119))) 10 11 (.tu [.bo true,.st [61],.fn (.func 87) [] []]) true) (aS es 18 (1 :: σ)))=some (some (.it .u8 (.ofNat 119)),some (.pt 1 0),some (.map es 18),some (.mit 0 18 (1 :: σ) 18),true):=by kernel_rfl
theorem zYv (σ:List Nat):aM 9 (run Tryz.E1 2000 20 0 .pl rest (tmE (tmM 9 (.it .u8 (.ofNat 119))) 10 11 (.tu [.bo true,.st [97],.fn (.func 88) [] []]) true) (aS es 18 (2 :: σ)))=some (some (.it .u8 (.ofNat 119)),some (.pt 1 0),some (.map es 18),some (.mit 0 18 (2 :: σ) 18),true):=by kernel_rfl
theorem zYw (σ:List Nat):aM 9 (run Tryz.E1 2000 20 0 .pl rest (tmE (tmM 9 (.it .u8 (.ofNat 119))) 10 11 (.tu [.bo true,.st [105],.fn (.func 89) [] []]) true) (aS es 18 (3 :: σ)))=some (some (.it .u8 (.ofNat 119)),some (.pt 1 0),some (.map es 18),some (.mit 0 18 (3 :: σ) 18),true):=by kernel_rfl
theorem zYx (σ:List Nat):aM 9 (run Tryz.E1 2000 20 0 .pl rest (tmE (tmM 9 (.it .u8 (.ofNat 119))) 10 11 (.tu [.bo true,.st [99],.fn (.func 90) [] []]) true) (aS es 18 (4 :: σ)))=some (some (.it .u8 (.ofNat 119)),some (.pt 1 0),some (.map es 18),some (.mit 0 18 (4 :: σ) 18),true):=by kernel_rfl
theorem zYy (σ:List Nat):aM 9 (run Tryz.E1 2000 20 0 .pl rest (tmE (tmM 9 (.it .u8 (.ofNat 119))) 10 11 (.tu [.bo true,.st [98],.fn (.func 91) [] []]) true) (aS es 18 (5 :: σ)))=some (some (.it .u8 (.ofNat 119)),some (.pt 1 0),some (.map es 18),some (.mit 0 18 (5 :: σ) 18),true):=by kernel_rfl
theorem zYz (σ:List Nat):aM 9 (run Tryz.E1 2000 20 0 .pl rest (tmE (tmM 9 (.it .u8 (.ofNat 119))) 10 11 (.tu [.bo true,.st [116,84],.fn (.func 92) [] []]) true) (aS es 18 (6 :: σ)))=some (some (.it .u8 (.ofNat 119)),some (.pt 1 0),some (.map es 18),some (.mit 0 18 (6 :: σ) 18),true):=by kernel_rfl
theorem zZa (σ:List Nat):aM 9 (run Tryz.E1 2000 20 0 .pl rest (tmE (tmM 9 (.it .u8 (.ofNat 119))) 10 11 (.tu [.bo true,.st [100,68],.fn (.func 93) [] []]) true) (aS es 18 (7 :: σ)))=some (some (.it .u8 (.ofNat 119)),some (.pt 1 0),some (.map es 18),some (.mit 0 18 (7 :: σ) 18),true):=by kernel_rfl
theorem zZb (σ:List Nat):aM 9 (run Tryz.E1 2000 20 0 .pl rest (tmE (tmM 9 (.it .u8 (.ofNat 119))) 10 11 (.tu [.bo true,.st [103,71,104,72,120],.fn (.func 94) [] []]) true) (aS es 18 (8 :: σ)))=some (some (.it .u8 (.ofNat 119)),some (.pt 1 0),some (.map es 18),some (.mit 0 18 (8 :: σ) 18),true):=by kernel_rfl
theorem zZc (σ:List Nat):aM 9 (run Tryz.E1 2000 20 0 .pl rest (tmE (tmM 9 (.it .u8 (.ofNat 119))) 10 11 (.tu [.bo true,.st [108],.fn (.func 95) [] []]) true) (aS es 18 (9 :: σ)))=some (some (.it .u8 (.ofNat 119)),some (.pt 1 0),some (.map es 18),some (.mit 0 18 (9 :: σ) 18),true):=by kernel_rfl
theorem zUx (σ:List Nat):aM 9 (run Tryz.E1 2000 20 0 .pl rest (tmE (tmM 9 (.it .u8 (.ofNat 119))) 10 11 (.tu [.bo true,.st [110,78],.fn (.func 96) [] []]) true) (aS es 18 (10 :: σ)))=some (some (.it .u8 (.ofNat 119)),some (.pt 1 0),some (.map es 18),some (.mit 0 18 (10 :: σ) 18),true):=by kernel_rfl
theorem zUy (σ:List Nat):aM 9 (run Tryz.E1 2000 20 0 .pl rest (tmE (tmM 9 (.it .u8 (.ofNat 119))) 10 11 (.tu [.bo true,.st [112],.fn (.func 97) [] []]) true) (aS es 18 (11 :: σ)))=some (some (.it .u8 (.ofNat 119)),some (.pt 1 0),some (.map es 18),some (.mit 0 18 (11 :: σ) 18),true):=by kernel_rfl
theorem zUz (σ:List Nat):aM 9 (run Tryz.E1 2000 20 0 .pl rest (tmE (tmM 9 (.it .u8 (.ofNat 119))) 10 11 (.tu [.bo true,.st [80],.fn (.func 98) [] []]) true) (aS es 18 (12 :: σ)))=some (some (.it .u8 (.ofNat 119)),some (.pt 1 0),some (.map es 18),some (.mit 0 18 (12 :: σ) 18),true):=by kernel_rfl
theorem zVa (σ:List Nat):aM 9 (run Tryz.E1 2000 20 0 .pl rest (tmE (tmM 9 (.it .u8 (.ofNat 119))) 10 11 (.tu [.bo true,.st [113,81],.fn (.func 99) [] []]) true) (aS es 18 (13 :: σ)))=some (some (.it .u8 (.ofNat 119)),some (.pt 1 0),some (.map es 18),some (.mit 0 18 (13 :: σ) 18),true):=by kernel_rfl
theorem zVb (σ:List Nat):aM 9 (run Tryz.E1 2000 20 0 .pl rest (tmE (tmM 9 (.it .u8 (.ofNat 119))) 10 11 (.tu [.bo true,.st [114],.fn (.func 100) [] []]) true) (aS es 18 (14 :: σ)))=some (some (.it .u8 (.ofNat 119)),some (.pt 1 0),some (.map es 18),some (.mit 0 18 (14 :: σ) 18),true):=by kernel_rfl
theorem zVc (σ:List Nat):aM 9 (run Tryz.E1 2000 20 0 .pl rest (tmE (tmM 9 (.it .u8 (.ofNat 119))) 10 11 (.tu [.bo true,.st [115],.fn (.func 102) [] []]) true) (aS es 18 (16 :: σ)))=some (some (.it .u8 (.ofNat 119)),some (.pt 1 0),some (.map es 18),some (.mit 0 18 (16 :: σ) 18),true):=by kernel_rfl
theorem zVd (σ:List Nat):aM 9 (run Tryz.E1 2000 20 0 .pl rest (tmE (tmM 9 (.it .u8 (.ofNat 119))) 10 11 (.tu [.bo true,.st [121],.fn (.func 103) [] []]) true) (aS es 18 (17 :: σ)))=some (some (.it .u8 (.ofNat 119)),some (.pt 1 0),some (.map es 18),some (.mit 0 18 (17 :: σ) 18),true):=by kernel_rfl
theorem d119 (lo:Nat) (A:W) (args:List AV) (ha:args=[.it .u8 (.ofNat 119)]):bS Tryz.prog lo 54 args A (.ret (.fn (.func 101) [] [])) A:=by
 refine wS (E:=Tryz.E1) Tryz.E1_ok (k:=2000) (n:=20) (its:=9) (a1:=10) (a2:=11) (es:=es) (clk:=18) (eh:=(.st [119],.fn (.func 101) [] [],15)) got body shp tmps (by decide) (nx:=nx) (ex:=ex) (by kernel_rfl) (by kernel_rfl) (by kernel_rfl) (by kernel_rfl) (by kernel_rfl) (by kernel_rfl) (by decide) (by kernel_rfl)
  (by kernel_rfl) (by kernel_rfl) (by kernel_rfl) (by kernel_rfl) (by kernel_rfl) (by kernel_rfl) (by simp [es]) (fun e he hne σ=>?_) (fun σ=>by kernel_rfl) lo A args ha
 simp only [es,List.mem_cons,List.not_mem_nil,or_false] at he
 rcases he with rfl | rfl | rfl | rfl | rfl | rfl | rfl | rfl | rfl | rfl | rfl | rfl | rfl | rfl | rfl | rfl | rfl | rfl
 ·exact zYt σ
 ·exact zYu σ
 ·exact zYv σ
 ·exact zYw σ
 ·exact zYx σ
 ·exact zYy σ
 ·exact zYz σ
 ·exact zZa σ
 ·exact zZb σ
 ·exact zZc σ
 ·exact zUx σ
 ·exact zUy σ
 ·exact zUz σ
 ·exact zVa σ
 ·exact zVb σ
 ·exact absurd rfl hne
 ·exact zVc σ
 ·exact zVd σ
end Tryz.Bd
def Tryz.Bd.tab:List (Nat × Nat):=[(100,93),(112,97),(113,99),(119,101)]
def Sr (tab:List (Nat × Nat)):Gv:=fun _ A xs=>match xs with
 | [.it .u8 (.ofNat b)]=>ob (lk b tab) fun g=>some (.fn (.func g) [] [],A)
 | _=>none
where lk:Nat->List (Nat × Nat)->Option Nat
 | _,[]=>none
 | b,p :: r=>cnd (Nat.beq b p.1) (some p.2) (lk b r)
theorem Xq {b g:Nat}:∀ {l:List (Nat × Nat)},Sr.lk b l=some g->(b,g) ∈ l
 | p :: r,h=>by
  unfold Sr.lk cnd at h
  split at h
  ·rename_i hc
   simp only [Option.some.injEq] at h
   have:=Nat.eq_of_beq_eq_true hc
   subst this h
   exact .head _
  ·exact .tail _ (Xq h)
theorem Tryz.bdoes_ok (lo:Nat) (A:W) (args:List AV) (v:AV) (A':W) (h:Sr Tryz.Bd.tab lo A args=some (v,A')):bS Tryz.prog lo 54 args A (.ret v) A':=by
 unfold Sr at h
 split at h
 ·rename_i b
  replace h:=aA h; obtain ⟨g,hg,h⟩:=h
  simp only [Option.some.injEq,Prod.mk.injEq] at h
  obtain ⟨rfl,rfl⟩:=h
  have hm:=Xq hg
  simp only [Tryz.Bd.tab,List.mem_cons,Prod.mk.injEq,List.not_mem_nil,or_false] at hm
  rcases hm with ⟨rfl,rfl⟩ | ⟨rfl,rfl⟩ | ⟨rfl,rfl⟩ | ⟨rfl,rfl⟩
  ·exact Tryz.Bd.d100 lo A _ rfl
  ·exact Tryz.Bd.d112 lo A _ rfl
  ·exact Tryz.Bd.d113 lo A _ rfl
  ·exact Tryz.Bd.d119 lo A _ rfl
 ·cases h
end Go.Proofs
