/- Part of a proof over this seat: a library of my own, and what it says of this seat. No statement is proved here. -/
import Derived.Test.YtmpoakdpdflfgaaGreatDoorPartBC
import Derived.Test.YtmpoakdpdflfgaaGreatDoorPartAY
namespace Go.Proofs
open Go.Ce
set_option maxRecDepth 100000
noncomputable def Tryz.E1:Env:=Tryz.E0.more 107 zMx
theorem Tryz.E1_ok:dM Tryz.E1:=Tryz.E0_ok.more fun lo A args v A' h=>zJl Tryz.func107 (by kernel_rfl) (by kernel_rfl) (by kernel_rfl) (by kernel_rfl) lo A args v A' h
namespace Tryz.Bd
noncomputable abbrev c:Code:=zFh Tryz.f54
noncomputable abbrev rest:Code:=cR (wQ Tryz.f54)
noncomputable abbrev suf:Code:=cR (cR (cR c))
def es:List (AV × AV × Nat):=[(.st [123,125],.fn (.func 86) [] [],0),(.st [61],.fn (.func 87) [] [],1),(.st [97],.fn (.func 88) [] [],2),(.st [105],.fn (.func 89) [] [],3),(.st [99],.fn (.func 90) [] [],4),(.st [98],.fn (.func 91) [] [],5),(.st [116,84],.fn (.func 92) [] [],6),(.st [100,68],.fn (.func 93) [] [],7),(.st [103,71,104,72,120],.fn (.func 94) [] [],8),(.st [108],.fn (.func 95) [] [],9),(.st [110,78],.fn (.func 96) [] [],10),(.st [112],.fn (.func 97) [] [],11),(.st [80],.fn (.func 98) [] [],12),(.st [113,81],.fn (.func 99) [] [],13),(.st [114],.fn (.func 100) [] [],14),(.st [119],.fn (.func 101) [] [],15),(.st [115],.fn (.func 102) [] [],16),(.st [121],.fn (.func 103) [] [],17)]
theorem body:Tryz.f54.body=some c:=by kernel_rfl
noncomputable abbrev nx:Oper:=cOp (cL (wQ Tryz.f54)) 0
noncomputable abbrev ex:Oper:=cOp (cL (wQ Tryz.f54)) 1
noncomputable abbrev rid:Nat:=cId (cL (wQ Tryz.f54))
theorem shp:c=.seq (cL c) (.seq (cL (cR c)) (.seq (.seq (cL (cL (cR (cR c)))) (.block 0 (.loop (.seq (.region rid #[nx,ex] false) rest)))) suf)):=by kernel_rfl
theorem got:T.get Tryz.E1.F 54=some Tryz.f54:=by kernel_rfl
theorem tmps:Tryz.f54.ntmps=20:=by kernel_rfl
theorem yCj (σ:List Nat):aO 9 (run Tryz.E1 2000 20 0 .pl rest (tmE (tmM 9 (.it .u8 (.ofNat 100))) 10 11 (.tu [.bo true,.st [123,125],.fn (.func 86) [] []]) true) (aS es 18 (0 :: σ)))=some (some (.it .u8 (.ofNat 100)),some (.pt 1 0),some (.map es 18),some (.mit 0 18 (0 :: σ) 18),true):=by kernel_rfl
theorem yCk (σ:List Nat):aO 9 (run Tryz.E1 2000 20 0 .pl rest (tmE (tmM 9 (.it .u8 (.ofNat 100))) 10 11 (.tu [.bo true,.st [61],.fn (.func 87) [] []]) true) (aS es 18 (1 :: σ)))=some (some (.it .u8 (.ofNat 100)),some (.pt 1 0),some (.map es 18),some (.mit 0 18 (1 :: σ) 18),true):=by kernel_rfl
theorem yCl (σ:List Nat):aO 9 (run Tryz.E1 2000 20 0 .pl rest (tmE (tmM 9 (.it .u8 (.ofNat 100))) 10 11 (.tu [.bo true,.st [97],.fn (.func 88) [] []]) true) (aS es 18 (2 :: σ)))=some (some (.it .u8 (.ofNat 100)),some (.pt 1 0),some (.map es 18),some (.mit 0 18 (2 :: σ) 18),true):=by kernel_rfl
theorem yCm (σ:List Nat):aO 9 (run Tryz.E1 2000 20 0 .pl rest (tmE (tmM 9 (.it .u8 (.ofNat 100))) 10 11 (.tu [.bo true,.st [105],.fn (.func 89) [] []]) true) (aS es 18 (3 :: σ)))=some (some (.it .u8 (.ofNat 100)),some (.pt 1 0),some (.map es 18),some (.mit 0 18 (3 :: σ) 18),true):=by kernel_rfl
theorem yCn (σ:List Nat):aO 9 (run Tryz.E1 2000 20 0 .pl rest (tmE (tmM 9 (.it .u8 (.ofNat 100))) 10 11 (.tu [.bo true,.st [99],.fn (.func 90) [] []]) true) (aS es 18 (4 :: σ)))=some (some (.it .u8 (.ofNat 100)),some (.pt 1 0),some (.map es 18),some (.mit 0 18 (4 :: σ) 18),true):=by kernel_rfl
theorem yCo (σ:List Nat):aO 9 (run Tryz.E1 2000 20 0 .pl rest (tmE (tmM 9 (.it .u8 (.ofNat 100))) 10 11 (.tu [.bo true,.st [98],.fn (.func 91) [] []]) true) (aS es 18 (5 :: σ)))=some (some (.it .u8 (.ofNat 100)),some (.pt 1 0),some (.map es 18),some (.mit 0 18 (5 :: σ) 18),true):=by kernel_rfl
theorem yCp (σ:List Nat):aO 9 (run Tryz.E1 2000 20 0 .pl rest (tmE (tmM 9 (.it .u8 (.ofNat 100))) 10 11 (.tu [.bo true,.st [116,84],.fn (.func 92) [] []]) true) (aS es 18 (6 :: σ)))=some (some (.it .u8 (.ofNat 100)),some (.pt 1 0),some (.map es 18),some (.mit 0 18 (6 :: σ) 18),true):=by kernel_rfl
theorem yCq (σ:List Nat):aO 9 (run Tryz.E1 2000 20 0 .pl rest (tmE (tmM 9 (.it .u8 (.ofNat 100))) 10 11 (.tu [.bo true,.st [103,71,104,72,120],.fn (.func 94) [] []]) true) (aS es 18 (8 :: σ)))=some (some (.it .u8 (.ofNat 100)),some (.pt 1 0),some (.map es 18),some (.mit 0 18 (8 :: σ) 18),true):=by kernel_rfl
theorem yCr (σ:List Nat):aO 9 (run Tryz.E1 2000 20 0 .pl rest (tmE (tmM 9 (.it .u8 (.ofNat 100))) 10 11 (.tu [.bo true,.st [108],.fn (.func 95) [] []]) true) (aS es 18 (9 :: σ)))=some (some (.it .u8 (.ofNat 100)),some (.pt 1 0),some (.map es 18),some (.mit 0 18 (9 :: σ) 18),true):=by kernel_rfl
theorem zYl (σ:List Nat):aO 9 (run Tryz.E1 2000 20 0 .pl rest (tmE (tmM 9 (.it .u8 (.ofNat 100))) 10 11 (.tu [.bo true,.st [110,78],.fn (.func 96) [] []]) true) (aS es 18 (10 :: σ)))=some (some (.it .u8 (.ofNat 100)),some (.pt 1 0),some (.map es 18),some (.mit 0 18 (10 :: σ) 18),true):=by kernel_rfl
theorem zYm (σ:List Nat):aO 9 (run Tryz.E1 2000 20 0 .pl rest (tmE (tmM 9 (.it .u8 (.ofNat 100))) 10 11 (.tu [.bo true,.st [112],.fn (.func 97) [] []]) true) (aS es 18 (11 :: σ)))=some (some (.it .u8 (.ofNat 100)),some (.pt 1 0),some (.map es 18),some (.mit 0 18 (11 :: σ) 18),true):=by kernel_rfl
theorem zYn (σ:List Nat):aO 9 (run Tryz.E1 2000 20 0 .pl rest (tmE (tmM 9 (.it .u8 (.ofNat 100))) 10 11 (.tu [.bo true,.st [80],.fn (.func 98) [] []]) true) (aS es 18 (12 :: σ)))=some (some (.it .u8 (.ofNat 100)),some (.pt 1 0),some (.map es 18),some (.mit 0 18 (12 :: σ) 18),true):=by kernel_rfl
theorem zYo (σ:List Nat):aO 9 (run Tryz.E1 2000 20 0 .pl rest (tmE (tmM 9 (.it .u8 (.ofNat 100))) 10 11 (.tu [.bo true,.st [113,81],.fn (.func 99) [] []]) true) (aS es 18 (13 :: σ)))=some (some (.it .u8 (.ofNat 100)),some (.pt 1 0),some (.map es 18),some (.mit 0 18 (13 :: σ) 18),true):=by kernel_rfl
theorem zYp (σ:List Nat):aO 9 (run Tryz.E1 2000 20 0 .pl rest (tmE (tmM 9 (.it .u8 (.ofNat 100))) 10 11 (.tu [.bo true,.st [114],.fn (.func 100) [] []]) true) (aS es 18 (14 :: σ)))=some (some (.it .u8 (.ofNat 100)),some (.pt 1 0),some (.map es 18),some (.mit 0 18 (14 :: σ) 18),true):=by kernel_rfl
theorem zYq (σ:List Nat):aO 9 (run Tryz.E1 2000 20 0 .pl rest (tmE (tmM 9 (.it .u8 (.ofNat 100))) 10 11 (.tu [.bo true,.st [119],.fn (.func 101) [] []]) true) (aS es 18 (15 :: σ)))=some (some (.it .u8 (.ofNat 100)),some (.pt 1 0),some (.map es 18),some (.mit 0 18 (15 :: σ) 18),true):=by kernel_rfl
theorem zYr (σ:List Nat):aO 9 (run Tryz.E1 2000 20 0 .pl rest (tmE (tmM 9 (.it .u8 (.ofNat 100))) 10 11 (.tu [.bo true,.st [115],.fn (.func 102) [] []]) true) (aS es 18 (16 :: σ)))=some (some (.it .u8 (.ofNat 100)),some (.pt 1 0),some (.map es 18),some (.mit 0 18 (16 :: σ) 18),true):=by kernel_rfl
theorem zYs (σ:List Nat):aO 9 (run Tryz.E1 2000 20 0 .pl rest (tmE (tmM 9 (.it .u8 (.ofNat 100))) 10 11 (.tu [.bo true,.st [121],.fn (.func 103) [] []]) true) (aS es 18 (17 :: σ)))=some (some (.it .u8 (.ofNat 100)),some (.pt 1 0),some (.map es 18),some (.mit 0 18 (17 :: σ) 18),true):=by kernel_rfl
theorem d100 (lo:Nat) (A:W) (args:List AV) (ha:args=[.it .u8 (.ofNat 100)]):bQ Tryz.prog lo 54 args A (.ret (.fn (.func 93) [] [])) A:=by
 refine yK (E:=Tryz.E1) Tryz.E1_ok (k:=2000) (n:=20) (its:=9) (a1:=10) (a2:=11) (es:=es) (clk:=18) (eh:=(.st [100,68],.fn (.func 93) [] [],7)) got body shp tmps (by decide) (nx:=nx) (ex:=ex) (by kernel_rfl) (by kernel_rfl) (by kernel_rfl) (by kernel_rfl) (by kernel_rfl) (by kernel_rfl) (by decide) (by kernel_rfl)
  (by kernel_rfl) (by kernel_rfl) (by kernel_rfl) (by kernel_rfl) (by kernel_rfl) (by kernel_rfl) (by simp [es]) (fun e he hne σ=>?_) (fun σ=>by kernel_rfl) lo A args ha
 simp only [es,List.mem_cons,List.not_mem_nil,or_false] at he
 rcases he with rfl | rfl | rfl | rfl | rfl | rfl | rfl | rfl | rfl | rfl | rfl | rfl | rfl | rfl | rfl | rfl | rfl | rfl
 ·exact yCj σ
 ·exact yCk σ
 ·exact yCl σ
 ·exact yCm σ
 ·exact yCn σ
 ·exact yCo σ
 ·exact yCp σ
 ·exact absurd rfl hne
 ·exact yCq σ
 ·exact yCr σ
 ·exact zYl σ
 ·exact zYm σ
 ·exact zYn σ
 ·exact zYo σ
 ·exact zYp σ
 ·exact zYq σ
 ·exact zYr σ
 ·exact zYs σ
theorem yCs (σ:List Nat):aO 9 (run Tryz.E1 2000 20 0 .pl rest (tmE (tmM 9 (.it .u8 (.ofNat 112))) 10 11 (.tu [.bo true,.st [123,125],.fn (.func 86) [] []]) true) (aS es 18 (0 :: σ)))=some (some (.it .u8 (.ofNat 112)),some (.pt 1 0),some (.map es 18),some (.mit 0 18 (0 :: σ) 18),true):=by kernel_rfl
theorem yCt (σ:List Nat):aO 9 (run Tryz.E1 2000 20 0 .pl rest (tmE (tmM 9 (.it .u8 (.ofNat 112))) 10 11 (.tu [.bo true,.st [61],.fn (.func 87) [] []]) true) (aS es 18 (1 :: σ)))=some (some (.it .u8 (.ofNat 112)),some (.pt 1 0),some (.map es 18),some (.mit 0 18 (1 :: σ) 18),true):=by kernel_rfl
theorem yCu (σ:List Nat):aO 9 (run Tryz.E1 2000 20 0 .pl rest (tmE (tmM 9 (.it .u8 (.ofNat 112))) 10 11 (.tu [.bo true,.st [97],.fn (.func 88) [] []]) true) (aS es 18 (2 :: σ)))=some (some (.it .u8 (.ofNat 112)),some (.pt 1 0),some (.map es 18),some (.mit 0 18 (2 :: σ) 18),true):=by kernel_rfl
theorem yCv (σ:List Nat):aO 9 (run Tryz.E1 2000 20 0 .pl rest (tmE (tmM 9 (.it .u8 (.ofNat 112))) 10 11 (.tu [.bo true,.st [105],.fn (.func 89) [] []]) true) (aS es 18 (3 :: σ)))=some (some (.it .u8 (.ofNat 112)),some (.pt 1 0),some (.map es 18),some (.mit 0 18 (3 :: σ) 18),true):=by kernel_rfl
theorem yCw (σ:List Nat):aO 9 (run Tryz.E1 2000 20 0 .pl rest (tmE (tmM 9 (.it .u8 (.ofNat 112))) 10 11 (.tu [.bo true,.st [99],.fn (.func 90) [] []]) true) (aS es 18 (4 :: σ)))=some (some (.it .u8 (.ofNat 112)),some (.pt 1 0),some (.map es 18),some (.mit 0 18 (4 :: σ) 18),true):=by kernel_rfl
theorem yCx (σ:List Nat):aO 9 (run Tryz.E1 2000 20 0 .pl rest (tmE (tmM 9 (.it .u8 (.ofNat 112))) 10 11 (.tu [.bo true,.st [98],.fn (.func 91) [] []]) true) (aS es 18 (5 :: σ)))=some (some (.it .u8 (.ofNat 112)),some (.pt 1 0),some (.map es 18),some (.mit 0 18 (5 :: σ) 18),true):=by kernel_rfl
theorem yCy (σ:List Nat):aO 9 (run Tryz.E1 2000 20 0 .pl rest (tmE (tmM 9 (.it .u8 (.ofNat 112))) 10 11 (.tu [.bo true,.st [116,84],.fn (.func 92) [] []]) true) (aS es 18 (6 :: σ)))=some (some (.it .u8 (.ofNat 112)),some (.pt 1 0),some (.map es 18),some (.mit 0 18 (6 :: σ) 18),true):=by kernel_rfl
theorem yCz (σ:List Nat):aO 9 (run Tryz.E1 2000 20 0 .pl rest (tmE (tmM 9 (.it .u8 (.ofNat 112))) 10 11 (.tu [.bo true,.st [100,68],.fn (.func 93) [] []]) true) (aS es 18 (7 :: σ)))=some (some (.it .u8 (.ofNat 112)),some (.pt 1 0),some (.map es 18),some (.mit 0 18 (7 :: σ) 18),true):=by kernel_rfl
theorem yDa (σ:List Nat):aO 9 (run Tryz.E1 2000 20 0 .pl rest (tmE (tmM 9 (.it .u8 (.ofNat 112))) 10 11 (.tu [.bo true,.st [103,71,104,72,120],.fn (.func 94) [] []]) true) (aS es 18 (8 :: σ)))=some (some (.it .u8 (.ofNat 112)),some (.pt 1 0),some (.map es 18),some (.mit 0 18 (8 :: σ) 18),true):=by kernel_rfl
theorem yDb (σ:List Nat):aO 9 (run Tryz.E1 2000 20 0 .pl rest (tmE (tmM 9 (.it .u8 (.ofNat 112))) 10 11 (.tu [.bo true,.st [108],.fn (.func 95) [] []]) true) (aS es 18 (9 :: σ)))=some (some (.it .u8 (.ofNat 112)),some (.pt 1 0),some (.map es 18),some (.mit 0 18 (9 :: σ) 18),true):=by kernel_rfl
theorem zYt (σ:List Nat):aO 9 (run Tryz.E1 2000 20 0 .pl rest (tmE (tmM 9 (.it .u8 (.ofNat 112))) 10 11 (.tu [.bo true,.st [110,78],.fn (.func 96) [] []]) true) (aS es 18 (10 :: σ)))=some (some (.it .u8 (.ofNat 112)),some (.pt 1 0),some (.map es 18),some (.mit 0 18 (10 :: σ) 18),true):=by kernel_rfl
theorem zYu (σ:List Nat):aO 9 (run Tryz.E1 2000 20 0 .pl rest (tmE (tmM 9 (.it .u8 (.ofNat 112))) 10 11 (.tu [.bo true,.st [80],.fn (.func 98) [] []]) true) (aS es 18 (12 :: σ)))=some (some (.it .u8 (.ofNat 112)),some (.pt 1 0),some (.map es 18),some (.mit 0 18 (12 :: σ) 18),true):=by kernel_rfl
theorem zYv (σ:List Nat):aO 9 (run Tryz.E1 2000 20 0 .pl rest (tmE (tmM 9 (.it .u8 (.ofNat 112))) 10 11 (.tu [.bo true,.st [113,81],.fn (.func 99) [] []]) true) (aS es 18 (13 :: σ)))=some (some (.it .u8 (.ofNat 112)),some (.pt 1 0),some (.map es 18),some (.mit 0 18 (13 :: σ) 18),true):=by kernel_rfl
theorem zYw (σ:List Nat):aO 9 (run Tryz.E1 2000 20 0 .pl rest (tmE (tmM 9 (.it .u8 (.ofNat 112))) 10 11 (.tu [.bo true,.st [114],.fn (.func 100) [] []]) true) (aS es 18 (14 :: σ)))=some (some (.it .u8 (.ofNat 112)),some (.pt 1 0),some (.map es 18),some (.mit 0 18 (14 :: σ) 18),true):=by kernel_rfl
theorem zYx (σ:List Nat):aO 9 (run Tryz.E1 2000 20 0 .pl rest (tmE (tmM 9 (.it .u8 (.ofNat 112))) 10 11 (.tu [.bo true,.st [119],.fn (.func 101) [] []]) true) (aS es 18 (15 :: σ)))=some (some (.it .u8 (.ofNat 112)),some (.pt 1 0),some (.map es 18),some (.mit 0 18 (15 :: σ) 18),true):=by kernel_rfl
theorem zYy (σ:List Nat):aO 9 (run Tryz.E1 2000 20 0 .pl rest (tmE (tmM 9 (.it .u8 (.ofNat 112))) 10 11 (.tu [.bo true,.st [115],.fn (.func 102) [] []]) true) (aS es 18 (16 :: σ)))=some (some (.it .u8 (.ofNat 112)),some (.pt 1 0),some (.map es 18),some (.mit 0 18 (16 :: σ) 18),true):=by kernel_rfl
theorem zYz (σ:List Nat):aO 9 (run Tryz.E1 2000 20 0 .pl rest (tmE (tmM 9 (.it .u8 (.ofNat 112))) 10 11 (.tu [.bo true,.st [121],.fn (.func 103) [] []]) true) (aS es 18 (17 :: σ)))=some (some (.it .u8 (.ofNat 112)),some (.pt 1 0),some (.map es 18),some (.mit 0 18 (17 :: σ) 18),true):=by kernel_rfl
theorem d112 (lo:Nat) (A:W) (args:List AV) (ha:args=[.it .u8 (.ofNat 112)]):bQ Tryz.prog lo 54 args A (.ret (.fn (.func 97) [] [])) A:=by
 refine yK (E:=Tryz.E1) Tryz.E1_ok (k:=2000) (n:=20) (its:=9) (a1:=10) (a2:=11) (es:=es) (clk:=18) (eh:=(.st [112],.fn (.func 97) [] [],11)) got body shp tmps (by decide) (nx:=nx) (ex:=ex) (by kernel_rfl) (by kernel_rfl) (by kernel_rfl) (by kernel_rfl) (by kernel_rfl) (by kernel_rfl) (by decide) (by kernel_rfl)
  (by kernel_rfl) (by kernel_rfl) (by kernel_rfl) (by kernel_rfl) (by kernel_rfl) (by kernel_rfl) (by simp [es]) (fun e he hne σ=>?_) (fun σ=>by kernel_rfl) lo A args ha
 simp only [es,List.mem_cons,List.not_mem_nil,or_false] at he
 rcases he with rfl | rfl | rfl | rfl | rfl | rfl | rfl | rfl | rfl | rfl | rfl | rfl | rfl | rfl | rfl | rfl | rfl | rfl
 ·exact yCs σ
 ·exact yCt σ
 ·exact yCu σ
 ·exact yCv σ
 ·exact yCw σ
 ·exact yCx σ
 ·exact yCy σ
 ·exact yCz σ
 ·exact yDa σ
 ·exact yDb σ
 ·exact zYt σ
 ·exact absurd rfl hne
 ·exact zYu σ
 ·exact zYv σ
 ·exact zYw σ
 ·exact zYx σ
 ·exact zYy σ
 ·exact zYz σ
theorem yDc (σ:List Nat):aO 9 (run Tryz.E1 2000 20 0 .pl rest (tmE (tmM 9 (.it .u8 (.ofNat 113))) 10 11 (.tu [.bo true,.st [123,125],.fn (.func 86) [] []]) true) (aS es 18 (0 :: σ)))=some (some (.it .u8 (.ofNat 113)),some (.pt 1 0),some (.map es 18),some (.mit 0 18 (0 :: σ) 18),true):=by kernel_rfl
theorem yDd (σ:List Nat):aO 9 (run Tryz.E1 2000 20 0 .pl rest (tmE (tmM 9 (.it .u8 (.ofNat 113))) 10 11 (.tu [.bo true,.st [61],.fn (.func 87) [] []]) true) (aS es 18 (1 :: σ)))=some (some (.it .u8 (.ofNat 113)),some (.pt 1 0),some (.map es 18),some (.mit 0 18 (1 :: σ) 18),true):=by kernel_rfl
theorem yDe (σ:List Nat):aO 9 (run Tryz.E1 2000 20 0 .pl rest (tmE (tmM 9 (.it .u8 (.ofNat 113))) 10 11 (.tu [.bo true,.st [97],.fn (.func 88) [] []]) true) (aS es 18 (2 :: σ)))=some (some (.it .u8 (.ofNat 113)),some (.pt 1 0),some (.map es 18),some (.mit 0 18 (2 :: σ) 18),true):=by kernel_rfl
theorem yDf (σ:List Nat):aO 9 (run Tryz.E1 2000 20 0 .pl rest (tmE (tmM 9 (.it .u8 (.ofNat 113))) 10 11 (.tu [.bo true,.st [105],.fn (.func 89) [] []]) true) (aS es 18 (3 :: σ)))=some (some (.it .u8 (.ofNat 113)),some (.pt 1 0),some (.map es 18),some (.mit 0 18 (3 :: σ) 18),true):=by kernel_rfl
theorem yDg (σ:List Nat):aO 9 (run Tryz.E1 2000 20 0 .pl rest (tmE (tmM 9 (.it .u8 (.ofNat 113))) 10 11 (.tu [.bo true,.st [99],.fn (.func 90) [] []]) true) (aS es 18 (4 :: σ)))=some (some (.it .u8 (.ofNat 113)),some (.pt 1 0),some (.map es 18),some (.mit 0 18 (4 :: σ) 18),true):=by kernel_rfl
theorem yDh (σ:List Nat):aO 9 (run Tryz.E1 2000 20 0 .pl rest (tmE (tmM 9 (.it .u8 (.ofNat 113))) 10 11 (.tu [.bo true,.st [98],.fn (.func 91) [] []]) true) (aS es 18 (5 :: σ)))=some (some (.it .u8 (.ofNat 113)),some (.pt 1 0),some (.map es 18),some (.mit 0 18 (5 :: σ) 18),true):=by kernel_rfl
theorem yDi (σ:List Nat):aO 9 (run Tryz.E1 2000 20 0 .pl rest (tmE (tmM 9 (.it .u8 (.ofNat 113))) 10 11 (.tu [.bo true,.st [116,84],.fn (.func 92) [] []]) true) (aS es 18 (6 :: σ)))=some (some (.it .u8 (.ofNat 113)),some (.pt 1 0),some (.map es 18),some (.mit 0 18 (6 :: σ) 18),true):=by kernel_rfl
theorem yDj (σ:List Nat):aO 9 (run Tryz.E1 2000 20 0 .pl rest (tmE (tmM 9 (.it .u8 (.ofNat 113))) 10 11 (.tu [.bo true,.st [100,68],.fn (.func 93) [] []]) true) (aS es 18 (7 :: σ)))=some (some (.it .u8 (.ofNat 113)),some (.pt 1 0),some (.map es 18),some (.mit 0 18 (7 :: σ) 18),true):=by kernel_rfl
theorem yDk (σ:List Nat):aO 9 (run Tryz.E1 2000 20 0 .pl rest (tmE (tmM 9 (.it .u8 (.ofNat 113))) 10 11 (.tu [.bo true,.st [103,71,104,72,120],.fn (.func 94) [] []]) true) (aS es 18 (8 :: σ)))=some (some (.it .u8 (.ofNat 113)),some (.pt 1 0),some (.map es 18),some (.mit 0 18 (8 :: σ) 18),true):=by kernel_rfl
theorem yDl (σ:List Nat):aO 9 (run Tryz.E1 2000 20 0 .pl rest (tmE (tmM 9 (.it .u8 (.ofNat 113))) 10 11 (.tu [.bo true,.st [108],.fn (.func 95) [] []]) true) (aS es 18 (9 :: σ)))=some (some (.it .u8 (.ofNat 113)),some (.pt 1 0),some (.map es 18),some (.mit 0 18 (9 :: σ) 18),true):=by kernel_rfl
theorem zZa (σ:List Nat):aO 9 (run Tryz.E1 2000 20 0 .pl rest (tmE (tmM 9 (.it .u8 (.ofNat 113))) 10 11 (.tu [.bo true,.st [110,78],.fn (.func 96) [] []]) true) (aS es 18 (10 :: σ)))=some (some (.it .u8 (.ofNat 113)),some (.pt 1 0),some (.map es 18),some (.mit 0 18 (10 :: σ) 18),true):=by kernel_rfl
theorem zZb (σ:List Nat):aO 9 (run Tryz.E1 2000 20 0 .pl rest (tmE (tmM 9 (.it .u8 (.ofNat 113))) 10 11 (.tu [.bo true,.st [112],.fn (.func 97) [] []]) true) (aS es 18 (11 :: σ)))=some (some (.it .u8 (.ofNat 113)),some (.pt 1 0),some (.map es 18),some (.mit 0 18 (11 :: σ) 18),true):=by kernel_rfl
theorem zZc (σ:List Nat):aO 9 (run Tryz.E1 2000 20 0 .pl rest (tmE (tmM 9 (.it .u8 (.ofNat 113))) 10 11 (.tu [.bo true,.st [80],.fn (.func 98) [] []]) true) (aS es 18 (12 :: σ)))=some (some (.it .u8 (.ofNat 113)),some (.pt 1 0),some (.map es 18),some (.mit 0 18 (12 :: σ) 18),true):=by kernel_rfl
theorem zZd (σ:List Nat):aO 9 (run Tryz.E1 2000 20 0 .pl rest (tmE (tmM 9 (.it .u8 (.ofNat 113))) 10 11 (.tu [.bo true,.st [114],.fn (.func 100) [] []]) true) (aS es 18 (14 :: σ)))=some (some (.it .u8 (.ofNat 113)),some (.pt 1 0),some (.map es 18),some (.mit 0 18 (14 :: σ) 18),true):=by kernel_rfl
theorem zZe (σ:List Nat):aO 9 (run Tryz.E1 2000 20 0 .pl rest (tmE (tmM 9 (.it .u8 (.ofNat 113))) 10 11 (.tu [.bo true,.st [119],.fn (.func 101) [] []]) true) (aS es 18 (15 :: σ)))=some (some (.it .u8 (.ofNat 113)),some (.pt 1 0),some (.map es 18),some (.mit 0 18 (15 :: σ) 18),true):=by kernel_rfl
theorem zZf (σ:List Nat):aO 9 (run Tryz.E1 2000 20 0 .pl rest (tmE (tmM 9 (.it .u8 (.ofNat 113))) 10 11 (.tu [.bo true,.st [115],.fn (.func 102) [] []]) true) (aS es 18 (16 :: σ)))=some (some (.it .u8 (.ofNat 113)),some (.pt 1 0),some (.map es 18),some (.mit 0 18 (16 :: σ) 18),true):=by kernel_rfl
theorem zZg (σ:List Nat):aO 9 (run Tryz.E1 2000 20 0 .pl rest (tmE (tmM 9 (.it .u8 (.ofNat 113))) 10 11 (.tu [.bo true,.st [121],.fn (.func 103) [] []]) true) (aS es 18 (17 :: σ)))=some (some (.it .u8 (.ofNat 113)),some (.pt 1 0),some (.map es 18),some (.mit 0 18 (17 :: σ) 18),true):=by kernel_rfl
theorem d113 (lo:Nat) (A:W) (args:List AV) (ha:args=[.it .u8 (.ofNat 113)]):bQ Tryz.prog lo 54 args A (.ret (.fn (.func 99) [] [])) A:=by
 refine yK (E:=Tryz.E1) Tryz.E1_ok (k:=2000) (n:=20) (its:=9) (a1:=10) (a2:=11) (es:=es) (clk:=18) (eh:=(.st [113,81],.fn (.func 99) [] [],13)) got body shp tmps (by decide) (nx:=nx) (ex:=ex) (by kernel_rfl) (by kernel_rfl) (by kernel_rfl) (by kernel_rfl) (by kernel_rfl) (by kernel_rfl) (by decide) (by kernel_rfl)
  (by kernel_rfl) (by kernel_rfl) (by kernel_rfl) (by kernel_rfl) (by kernel_rfl) (by kernel_rfl) (by simp [es]) (fun e he hne σ=>?_) (fun σ=>by kernel_rfl) lo A args ha
 simp only [es,List.mem_cons,List.not_mem_nil,or_false] at he
 rcases he with rfl | rfl | rfl | rfl | rfl | rfl | rfl | rfl | rfl | rfl | rfl | rfl | rfl | rfl | rfl | rfl | rfl | rfl
 ·exact yDc σ
 ·exact yDd σ
 ·exact yDe σ
 ·exact yDf σ
 ·exact yDg σ
 ·exact yDh σ
 ·exact yDi σ
 ·exact yDj σ
 ·exact yDk σ
 ·exact yDl σ
 ·exact zZa σ
 ·exact zZb σ
 ·exact zZc σ
 ·exact absurd rfl hne
 ·exact zZd σ
 ·exact zZe σ
 ·exact zZf σ
 ·exact zZg σ
theorem yDm (σ:List Nat):aO 9 (run Tryz.E1 2000 20 0 .pl rest (tmE (tmM 9 (.it .u8 (.ofNat 119))) 10 11 (.tu [.bo true,.st [123,125],.fn (.func 86) [] []]) true) (aS es 18 (0 :: σ)))=some (some (.it .u8 (.ofNat 119)),some (.pt 1 0),some (.map es 18),some (.mit 0 18 (0 :: σ) 18),true):=by kernel_rfl
theorem yDn (σ:List Nat):aO 9 (run Tryz.E1 2000 20 0 .pl rest (tmE (tmM 9 (.it .u8 (.ofNat 119))) 10 11 (.tu [.bo true,.st [61],.fn (.func 87) [] []]) true) (aS es 18 (1 :: σ)))=some (some (.it .u8 (.ofNat 119)),some (.pt 1 0),some (.map es 18),some (.mit 0 18 (1 :: σ) 18),true):=by kernel_rfl
theorem yDo (σ:List Nat):aO 9 (run Tryz.E1 2000 20 0 .pl rest (tmE (tmM 9 (.it .u8 (.ofNat 119))) 10 11 (.tu [.bo true,.st [97],.fn (.func 88) [] []]) true) (aS es 18 (2 :: σ)))=some (some (.it .u8 (.ofNat 119)),some (.pt 1 0),some (.map es 18),some (.mit 0 18 (2 :: σ) 18),true):=by kernel_rfl
theorem yDp (σ:List Nat):aO 9 (run Tryz.E1 2000 20 0 .pl rest (tmE (tmM 9 (.it .u8 (.ofNat 119))) 10 11 (.tu [.bo true,.st [105],.fn (.func 89) [] []]) true) (aS es 18 (3 :: σ)))=some (some (.it .u8 (.ofNat 119)),some (.pt 1 0),some (.map es 18),some (.mit 0 18 (3 :: σ) 18),true):=by kernel_rfl
theorem yDq (σ:List Nat):aO 9 (run Tryz.E1 2000 20 0 .pl rest (tmE (tmM 9 (.it .u8 (.ofNat 119))) 10 11 (.tu [.bo true,.st [99],.fn (.func 90) [] []]) true) (aS es 18 (4 :: σ)))=some (some (.it .u8 (.ofNat 119)),some (.pt 1 0),some (.map es 18),some (.mit 0 18 (4 :: σ) 18),true):=by kernel_rfl
theorem yDr (σ:List Nat):aO 9 (run Tryz.E1 2000 20 0 .pl rest (tmE (tmM 9 (.it .u8 (.ofNat 119))) 10 11 (.tu [.bo true,.st [98],.fn (.func 91) [] []]) true) (aS es 18 (5 :: σ)))=some (some (.it .u8 (.ofNat 119)),some (.pt 1 0),some (.map es 18),some (.mit 0 18 (5 :: σ) 18),true):=by kernel_rfl
theorem yDs (σ:List Nat):aO 9 (run Tryz.E1 2000 20 0 .pl rest (tmE (tmM 9 (.it .u8 (.ofNat 119))) 10 11 (.tu [.bo true,.st [116,84],.fn (.func 92) [] []]) true) (aS es 18 (6 :: σ)))=some (some (.it .u8 (.ofNat 119)),some (.pt 1 0),some (.map es 18),some (.mit 0 18 (6 :: σ) 18),true):=by kernel_rfl
theorem yDt (σ:List Nat):aO 9 (run Tryz.E1 2000 20 0 .pl rest (tmE (tmM 9 (.it .u8 (.ofNat 119))) 10 11 (.tu [.bo true,.st [100,68],.fn (.func 93) [] []]) true) (aS es 18 (7 :: σ)))=some (some (.it .u8 (.ofNat 119)),some (.pt 1 0),some (.map es 18),some (.mit 0 18 (7 :: σ) 18),true):=by kernel_rfl
theorem yDu (σ:List Nat):aO 9 (run Tryz.E1 2000 20 0 .pl rest (tmE (tmM 9 (.it .u8 (.ofNat 119))) 10 11 (.tu [.bo true,.st [103,71,104,72,120],.fn (.func 94) [] []]) true) (aS es 18 (8 :: σ)))=some (some (.it .u8 (.ofNat 119)),some (.pt 1 0),some (.map es 18),some (.mit 0 18 (8 :: σ) 18),true):=by kernel_rfl
theorem yDv (σ:List Nat):aO 9 (run Tryz.E1 2000 20 0 .pl rest (tmE (tmM 9 (.it .u8 (.ofNat 119))) 10 11 (.tu [.bo true,.st [108],.fn (.func 95) [] []]) true) (aS es 18 (9 :: σ)))=some (some (.it .u8 (.ofNat 119)),some (.pt 1 0),some (.map es 18),some (.mit 0 18 (9 :: σ) 18),true):=by kernel_rfl
theorem zZh (σ:List Nat):aO 9 (run Tryz.E1 2000 20 0 .pl rest (tmE (tmM 9 (.it .u8 (.ofNat 119))) 10 11 (.tu [.bo true,.st [110,78],.fn (.func 96) [] []]) true) (aS es 18 (10 :: σ)))=some (some (.it .u8 (.ofNat 119)),some (.pt 1 0),some (.map es 18),some (.mit 0 18 (10 :: σ) 18),true):=by kernel_rfl
theorem zZi (σ:List Nat):aO 9 (run Tryz.E1 2000 20 0 .pl rest (tmE (tmM 9 (.it .u8 (.ofNat 119))) 10 11 (.tu [.bo true,.st [112],.fn (.func 97) [] []]) true) (aS es 18 (11 :: σ)))=some (some (.it .u8 (.ofNat 119)),some (.pt 1 0),some (.map es 18),some (.mit 0 18 (11 :: σ) 18),true):=by kernel_rfl
theorem zZj (σ:List Nat):aO 9 (run Tryz.E1 2000 20 0 .pl rest (tmE (tmM 9 (.it .u8 (.ofNat 119))) 10 11 (.tu [.bo true,.st [80],.fn (.func 98) [] []]) true) (aS es 18 (12 :: σ)))=some (some (.it .u8 (.ofNat 119)),some (.pt 1 0),some (.map es 18),some (.mit 0 18 (12 :: σ) 18),true):=by kernel_rfl
theorem zZk (σ:List Nat):aO 9 (run Tryz.E1 2000 20 0 .pl rest (tmE (tmM 9 (.it .u8 (.ofNat 119))) 10 11 (.tu [.bo true,.st [113,81],.fn (.func 99) [] []]) true) (aS es 18 (13 :: σ)))=some (some (.it .u8 (.ofNat 119)),some (.pt 1 0),some (.map es 18),some (.mit 0 18 (13 :: σ) 18),true):=by kernel_rfl
theorem zZl (σ:List Nat):aO 9 (run Tryz.E1 2000 20 0 .pl rest (tmE (tmM 9 (.it .u8 (.ofNat 119))) 10 11 (.tu [.bo true,.st [114],.fn (.func 100) [] []]) true) (aS es 18 (14 :: σ)))=some (some (.it .u8 (.ofNat 119)),some (.pt 1 0),some (.map es 18),some (.mit 0 18 (14 :: σ) 18),true):=by kernel_rfl
theorem zZm (σ:List Nat):aO 9 (run Tryz.E1 2000 20 0 .pl rest (tmE (tmM 9 (.it .u8 (.ofNat 119))) 10 11 (.tu [.bo true,.st [115],.fn (.func 102) [] []]) true) (aS es 18 (16 :: σ)))=some (some (.it .u8 (.ofNat 119)),some (.pt 1 0),some (.map es 18),some (.mit 0 18 (16 :: σ) 18),true):=by kernel_rfl
theorem zZn (σ:List Nat):aO 9 (run Tryz.E1 2000 20 0 .pl rest (tmE (tmM 9 (.it .u8 (.ofNat 119))) 10 11 (.tu [.bo true,.st [121],.fn (.func 103) [] []]) true) (aS es 18 (17 :: σ)))=some (some (.it .u8 (.ofNat 119)),some (.pt 1 0),some (.map es 18),some (.mit 0 18 (17 :: σ) 18),true):=by kernel_rfl
theorem d119 (lo:Nat) (A:W) (args:List AV) (ha:args=[.it .u8 (.ofNat 119)]):bQ Tryz.prog lo 54 args A (.ret (.fn (.func 101) [] [])) A:=by
 refine yK (E:=Tryz.E1) Tryz.E1_ok (k:=2000) (n:=20) (its:=9) (a1:=10) (a2:=11) (es:=es) (clk:=18) (eh:=(.st [119],.fn (.func 101) [] [],15)) got body shp tmps (by decide) (nx:=nx) (ex:=ex) (by kernel_rfl) (by kernel_rfl) (by kernel_rfl) (by kernel_rfl) (by kernel_rfl) (by kernel_rfl) (by decide) (by kernel_rfl)
  (by kernel_rfl) (by kernel_rfl) (by kernel_rfl) (by kernel_rfl) (by kernel_rfl) (by kernel_rfl) (by simp [es]) (fun e he hne σ=>?_) (fun σ=>by kernel_rfl) lo A args ha
 simp only [es,List.mem_cons,List.not_mem_nil,or_false] at he
 rcases he with rfl | rfl | rfl | rfl | rfl | rfl | rfl | rfl | rfl | rfl | rfl | rfl | rfl | rfl | rfl | rfl | rfl | rfl
 ·exact yDm σ
 ·exact yDn σ
 ·exact yDo σ
 ·exact yDp σ
 ·exact yDq σ
 ·exact yDr σ
 ·exact yDs σ
 ·exact yDt σ
 ·exact yDu σ
 ·exact yDv σ
 ·exact zZh σ
 ·exact zZi σ
 ·exact zZj σ
 ·exact zZk σ
 ·exact zZl σ
 ·exact absurd rfl hne
 ·exact zZm σ
 ·exact zZn σ
end Tryz.Bd
def Tryz.Bd.tab:List (Nat × Nat):=[(100,93),(112,97),(113,99),(119,101)]
def Vj (tab:List (Nat × Nat)):Gv:=fun _ A xs=>match xs with
 | [.it .u8 (.ofNat b)]=>ob (lk b tab) fun g=>some (.fn (.func g) [] [],A)
 | _=>none
where lk:Nat->List (Nat × Nat)->Option Nat
 | _,[]=>none
 | b,p :: r=>cnd (Nat.beq b p.1) (some p.2) (lk b r)
theorem zAg {b g:Nat}:∀ {l:List (Nat × Nat)},Vj.lk b l=some g->(b,g) ∈ l
 | p :: r,h=>by
  unfold Vj.lk cnd at h
  split at h
  ·rename_i hc
   simp only [Option.some.injEq] at h
   have:=Nat.eq_of_beq_eq_true hc
   subst this h
   exact .head _
  ·exact .tail _ (zAg h)
theorem Tryz.bdoes_ok (lo:Nat) (A:W) (args:List AV) (v:AV) (A':W) (h:Vj Tryz.Bd.tab lo A args=some (v,A')):bQ Tryz.prog lo 54 args A (.ret v) A':=by
 unfold Vj at h
 split at h
 ·rename_i b
  replace h:=aA h; obtain ⟨g,hg,h⟩:=h
  simp only [Option.some.injEq,Prod.mk.injEq] at h
  obtain ⟨rfl,rfl⟩:=h
  have hm:=zAg hg
  simp only [Tryz.Bd.tab,List.mem_cons,Prod.mk.injEq,List.not_mem_nil,or_false] at hm
  rcases hm with ⟨rfl,rfl⟩ | ⟨rfl,rfl⟩ | ⟨rfl,rfl⟩ | ⟨rfl,rfl⟩
  ·exact Tryz.Bd.d100 lo A _ rfl
  ·exact Tryz.Bd.d112 lo A _ rfl
  ·exact Tryz.Bd.d113 lo A _ rfl
  ·exact Tryz.Bd.d119 lo A _ rfl
 ·cases h
end Go.Proofs
