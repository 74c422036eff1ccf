/- Part of a proof over this seat: a library of my own, and what it says of this seat. No statement is proved here. -/
import Derived.Test.YtmpoakdpdflfgaaGreatDoorSwBC
import Derived.Test.YtmpoakdpdflfgaaGreatDoorSwAY
namespace Go.Proofs
open Go.Ce
set_option maxRecDepth 100000
noncomputable def Tryz.E1:Env:=Tryz.E0.more 107 gIdx
theorem Tryz.E1_ok:EnvOK Tryz.E1:=Tryz.E0_ok.more fun lo A args v A' h=>gIdx_ok Tryz.func107 (by kernel_rfl) (by kernel_rfl) (by kernel_rfl) (by kernel_rfl) lo A args v A' h
namespace Tryz.Bd
noncomputable abbrev c:Code:=bodyOf Tryz.f54
noncomputable abbrev rest:Code:=cR (lpBody Tryz.f54)
noncomputable abbrev suf:Code:=cR (cR (cR c))
def es:List (AV × AV × Nat):=[(.st [123,125],.fn (.func 86) [] [],0),(.st [61],.fn (.func 87) [] [],1),(.st [97],.fn (.func 88) [] [],2),(.st [105],.fn (.func 89) [] [],3),(.st [99],.fn (.func 90) [] [],4),(.st [98],.fn (.func 91) [] [],5),(.st [116,84],.fn (.func 92) [] [],6),(.st [100,68],.fn (.func 93) [] [],7),(.st [103,71,104,72,120],.fn (.func 94) [] [],8),(.st [108],.fn (.func 95) [] [],9),(.st [110,78],.fn (.func 96) [] [],10),(.st [112],.fn (.func 97) [] [],11),(.st [80],.fn (.func 98) [] [],12),(.st [113,81],.fn (.func 99) [] [],13),(.st [114],.fn (.func 100) [] [],14),(.st [119],.fn (.func 101) [] [],15),(.st [115],.fn (.func 102) [] [],16),(.st [121],.fn (.func 103) [] [],17)]
theorem body:Tryz.f54.body=some c:=by kernel_rfl
noncomputable abbrev nx:Oper:=cOp (cL (lpBody Tryz.f54)) 0
noncomputable abbrev ex:Oper:=cOp (cL (lpBody Tryz.f54)) 1
noncomputable abbrev rid:Nat:=cId (cL (lpBody Tryz.f54))
theorem shp:c=.seq (cL c) (.seq (cL (cR c)) (.seq (.seq (cL (cL (cR (cR c)))) (.block 0 (.loop (.seq (.region rid #[nx,ex] false) rest)))) suf)):=by kernel_rfl
theorem got:T.get Tryz.E1.F 54=some Tryz.f54:=by kernel_rfl
theorem tmps:Tryz.f54.ntmps=20:=by kernel_rfl
theorem m100_0 (σ:List Nat):pickN 9 (run Tryz.E1 2000 20 0 .pl rest (tmE (tmM 9 (.it .u8 (.ofNat 100))) 10 11 (.tu [.bo true,.st [123,125],.fn (.func 86) [] []]) true) (famM es 18 (0 :: σ)))=some (some (.it .u8 (.ofNat 100)),some (.pt 1 0),some (.map es 18),some (.mit 0 18 (0 :: σ) 18),true):=by kernel_rfl
theorem m100_1 (σ:List Nat):pickN 9 (run Tryz.E1 2000 20 0 .pl rest (tmE (tmM 9 (.it .u8 (.ofNat 100))) 10 11 (.tu [.bo true,.st [61],.fn (.func 87) [] []]) true) (famM es 18 (1 :: σ)))=some (some (.it .u8 (.ofNat 100)),some (.pt 1 0),some (.map es 18),some (.mit 0 18 (1 :: σ) 18),true):=by kernel_rfl
theorem m100_2 (σ:List Nat):pickN 9 (run Tryz.E1 2000 20 0 .pl rest (tmE (tmM 9 (.it .u8 (.ofNat 100))) 10 11 (.tu [.bo true,.st [97],.fn (.func 88) [] []]) true) (famM es 18 (2 :: σ)))=some (some (.it .u8 (.ofNat 100)),some (.pt 1 0),some (.map es 18),some (.mit 0 18 (2 :: σ) 18),true):=by kernel_rfl
theorem m100_3 (σ:List Nat):pickN 9 (run Tryz.E1 2000 20 0 .pl rest (tmE (tmM 9 (.it .u8 (.ofNat 100))) 10 11 (.tu [.bo true,.st [105],.fn (.func 89) [] []]) true) (famM es 18 (3 :: σ)))=some (some (.it .u8 (.ofNat 100)),some (.pt 1 0),some (.map es 18),some (.mit 0 18 (3 :: σ) 18),true):=by kernel_rfl
theorem m100_4 (σ:List Nat):pickN 9 (run Tryz.E1 2000 20 0 .pl rest (tmE (tmM 9 (.it .u8 (.ofNat 100))) 10 11 (.tu [.bo true,.st [99],.fn (.func 90) [] []]) true) (famM es 18 (4 :: σ)))=some (some (.it .u8 (.ofNat 100)),some (.pt 1 0),some (.map es 18),some (.mit 0 18 (4 :: σ) 18),true):=by kernel_rfl
theorem m100_5 (σ:List Nat):pickN 9 (run Tryz.E1 2000 20 0 .pl rest (tmE (tmM 9 (.it .u8 (.ofNat 100))) 10 11 (.tu [.bo true,.st [98],.fn (.func 91) [] []]) true) (famM es 18 (5 :: σ)))=some (some (.it .u8 (.ofNat 100)),some (.pt 1 0),some (.map es 18),some (.mit 0 18 (5 :: σ) 18),true):=by kernel_rfl
theorem m100_6 (σ:List Nat):pickN 9 (run Tryz.E1 2000 20 0 .pl rest (tmE (tmM 9 (.it .u8 (.ofNat 100))) 10 11 (.tu [.bo true,.st [116,84],.fn (.func 92) [] []]) true) (famM es 18 (6 :: σ)))=some (some (.it .u8 (.ofNat 100)),some (.pt 1 0),some (.map es 18),some (.mit 0 18 (6 :: σ) 18),true):=by kernel_rfl
theorem m100_8 (σ:List Nat):pickN 9 (run Tryz.E1 2000 20 0 .pl rest (tmE (tmM 9 (.it .u8 (.ofNat 100))) 10 11 (.tu [.bo true,.st [103,71,104,72,120],.fn (.func 94) [] []]) true) (famM es 18 (8 :: σ)))=some (some (.it .u8 (.ofNat 100)),some (.pt 1 0),some (.map es 18),some (.mit 0 18 (8 :: σ) 18),true):=by kernel_rfl
theorem m100_9 (σ:List Nat):pickN 9 (run Tryz.E1 2000 20 0 .pl rest (tmE (tmM 9 (.it .u8 (.ofNat 100))) 10 11 (.tu [.bo true,.st [108],.fn (.func 95) [] []]) true) (famM es 18 (9 :: σ)))=some (some (.it .u8 (.ofNat 100)),some (.pt 1 0),some (.map es 18),some (.mit 0 18 (9 :: σ) 18),true):=by kernel_rfl
theorem m100_10 (σ:List Nat):pickN 9 (run Tryz.E1 2000 20 0 .pl rest (tmE (tmM 9 (.it .u8 (.ofNat 100))) 10 11 (.tu [.bo true,.st [110,78],.fn (.func 96) [] []]) true) (famM es 18 (10 :: σ)))=some (some (.it .u8 (.ofNat 100)),some (.pt 1 0),some (.map es 18),some (.mit 0 18 (10 :: σ) 18),true):=by kernel_rfl
theorem m100_11 (σ:List Nat):pickN 9 (run Tryz.E1 2000 20 0 .pl rest (tmE (tmM 9 (.it .u8 (.ofNat 100))) 10 11 (.tu [.bo true,.st [112],.fn (.func 97) [] []]) true) (famM es 18 (11 :: σ)))=some (some (.it .u8 (.ofNat 100)),some (.pt 1 0),some (.map es 18),some (.mit 0 18 (11 :: σ) 18),true):=by kernel_rfl
theorem m100_12 (σ:List Nat):pickN 9 (run Tryz.E1 2000 20 0 .pl rest (tmE (tmM 9 (.it .u8 (.ofNat 100))) 10 11 (.tu [.bo true,.st [80],.fn (.func 98) [] []]) true) (famM es 18 (12 :: σ)))=some (some (.it .u8 (.ofNat 100)),some (.pt 1 0),some (.map es 18),some (.mit 0 18 (12 :: σ) 18),true):=by kernel_rfl
theorem m100_13 (σ:List Nat):pickN 9 (run Tryz.E1 2000 20 0 .pl rest (tmE (tmM 9 (.it .u8 (.ofNat 100))) 10 11 (.tu [.bo true,.st [113,81],.fn (.func 99) [] []]) true) (famM es 18 (13 :: σ)))=some (some (.it .u8 (.ofNat 100)),some (.pt 1 0),some (.map es 18),some (.mit 0 18 (13 :: σ) 18),true):=by kernel_rfl
theorem m100_14 (σ:List Nat):pickN 9 (run Tryz.E1 2000 20 0 .pl rest (tmE (tmM 9 (.it .u8 (.ofNat 100))) 10 11 (.tu [.bo true,.st [114],.fn (.func 100) [] []]) true) (famM es 18 (14 :: σ)))=some (some (.it .u8 (.ofNat 100)),some (.pt 1 0),some (.map es 18),some (.mit 0 18 (14 :: σ) 18),true):=by kernel_rfl
theorem m100_15 (σ:List Nat):pickN 9 (run Tryz.E1 2000 20 0 .pl rest (tmE (tmM 9 (.it .u8 (.ofNat 100))) 10 11 (.tu [.bo true,.st [119],.fn (.func 101) [] []]) true) (famM es 18 (15 :: σ)))=some (some (.it .u8 (.ofNat 100)),some (.pt 1 0),some (.map es 18),some (.mit 0 18 (15 :: σ) 18),true):=by kernel_rfl
theorem m100_16 (σ:List Nat):pickN 9 (run Tryz.E1 2000 20 0 .pl rest (tmE (tmM 9 (.it .u8 (.ofNat 100))) 10 11 (.tu [.bo true,.st [115],.fn (.func 102) [] []]) true) (famM es 18 (16 :: σ)))=some (some (.it .u8 (.ofNat 100)),some (.pt 1 0),some (.map es 18),some (.mit 0 18 (16 :: σ) 18),true):=by kernel_rfl
theorem m100_17 (σ:List Nat):pickN 9 (run Tryz.E1 2000 20 0 .pl rest (tmE (tmM 9 (.it .u8 (.ofNat 100))) 10 11 (.tu [.bo true,.st [121],.fn (.func 103) [] []]) true) (famM es 18 (17 :: σ)))=some (some (.it .u8 (.ofNat 100)),some (.pt 1 0),some (.map es 18),some (.mit 0 18 (17 :: σ) 18),true):=by kernel_rfl
theorem d100 (lo:Nat) (A:W) (args:List AV) (ha:args=[.it .u8 (.ofNat 100)]):CallOK Tryz.prog lo 54 args A (.ret (.fn (.func 93) [] [])) A:=by
 refine finds_call (E:=Tryz.E1) Tryz.E1_ok (k:=2000) (n:=20) (its:=9) (a1:=10) (a2:=11) (es:=es) (clk:=18) (eh:=(.st [100,68],.fn (.func 93) [] [],7)) got body shp tmps (by decide) (nx:=nx) (ex:=ex) (by kernel_rfl) (by kernel_rfl) (by kernel_rfl) (by kernel_rfl) (by kernel_rfl) (by kernel_rfl) (by decide) (by kernel_rfl)
  (by kernel_rfl) (by kernel_rfl) (by kernel_rfl) (by kernel_rfl) (by kernel_rfl) (by kernel_rfl) (by simp [es]) (fun e he hne σ=>?_) (fun σ=>by kernel_rfl) lo A args ha
 simp only [es,List.mem_cons,List.not_mem_nil,or_false] at he
 rcases he with rfl | rfl | rfl | rfl | rfl | rfl | rfl | rfl | rfl | rfl | rfl | rfl | rfl | rfl | rfl | rfl | rfl | rfl
 ·exact m100_0 σ
 ·exact m100_1 σ
 ·exact m100_2 σ
 ·exact m100_3 σ
 ·exact m100_4 σ
 ·exact m100_5 σ
 ·exact m100_6 σ
 ·exact absurd rfl hne
 ·exact m100_8 σ
 ·exact m100_9 σ
 ·exact m100_10 σ
 ·exact m100_11 σ
 ·exact m100_12 σ
 ·exact m100_13 σ
 ·exact m100_14 σ
 ·exact m100_15 σ
 ·exact m100_16 σ
 ·exact m100_17 σ
theorem m112_0 (σ:List Nat):pickN 9 (run Tryz.E1 2000 20 0 .pl rest (tmE (tmM 9 (.it .u8 (.ofNat 112))) 10 11 (.tu [.bo true,.st [123,125],.fn (.func 86) [] []]) true) (famM es 18 (0 :: σ)))=some (some (.it .u8 (.ofNat 112)),some (.pt 1 0),some (.map es 18),some (.mit 0 18 (0 :: σ) 18),true):=by kernel_rfl
theorem m112_1 (σ:List Nat):pickN 9 (run Tryz.E1 2000 20 0 .pl rest (tmE (tmM 9 (.it .u8 (.ofNat 112))) 10 11 (.tu [.bo true,.st [61],.fn (.func 87) [] []]) true) (famM es 18 (1 :: σ)))=some (some (.it .u8 (.ofNat 112)),some (.pt 1 0),some (.map es 18),some (.mit 0 18 (1 :: σ) 18),true):=by kernel_rfl
theorem m112_2 (σ:List Nat):pickN 9 (run Tryz.E1 2000 20 0 .pl rest (tmE (tmM 9 (.it .u8 (.ofNat 112))) 10 11 (.tu [.bo true,.st [97],.fn (.func 88) [] []]) true) (famM es 18 (2 :: σ)))=some (some (.it .u8 (.ofNat 112)),some (.pt 1 0),some (.map es 18),some (.mit 0 18 (2 :: σ) 18),true):=by kernel_rfl
theorem m112_3 (σ:List Nat):pickN 9 (run Tryz.E1 2000 20 0 .pl rest (tmE (tmM 9 (.it .u8 (.ofNat 112))) 10 11 (.tu [.bo true,.st [105],.fn (.func 89) [] []]) true) (famM es 18 (3 :: σ)))=some (some (.it .u8 (.ofNat 112)),some (.pt 1 0),some (.map es 18),some (.mit 0 18 (3 :: σ) 18),true):=by kernel_rfl
theorem m112_4 (σ:List Nat):pickN 9 (run Tryz.E1 2000 20 0 .pl rest (tmE (tmM 9 (.it .u8 (.ofNat 112))) 10 11 (.tu [.bo true,.st [99],.fn (.func 90) [] []]) true) (famM es 18 (4 :: σ)))=some (some (.it .u8 (.ofNat 112)),some (.pt 1 0),some (.map es 18),some (.mit 0 18 (4 :: σ) 18),true):=by kernel_rfl
theorem m112_5 (σ:List Nat):pickN 9 (run Tryz.E1 2000 20 0 .pl rest (tmE (tmM 9 (.it .u8 (.ofNat 112))) 10 11 (.tu [.bo true,.st [98],.fn (.func 91) [] []]) true) (famM es 18 (5 :: σ)))=some (some (.it .u8 (.ofNat 112)),some (.pt 1 0),some (.map es 18),some (.mit 0 18 (5 :: σ) 18),true):=by kernel_rfl
theorem m112_6 (σ:List Nat):pickN 9 (run Tryz.E1 2000 20 0 .pl rest (tmE (tmM 9 (.it .u8 (.ofNat 112))) 10 11 (.tu [.bo true,.st [116,84],.fn (.func 92) [] []]) true) (famM es 18 (6 :: σ)))=some (some (.it .u8 (.ofNat 112)),some (.pt 1 0),some (.map es 18),some (.mit 0 18 (6 :: σ) 18),true):=by kernel_rfl
theorem m112_7 (σ:List Nat):pickN 9 (run Tryz.E1 2000 20 0 .pl rest (tmE (tmM 9 (.it .u8 (.ofNat 112))) 10 11 (.tu [.bo true,.st [100,68],.fn (.func 93) [] []]) true) (famM es 18 (7 :: σ)))=some (some (.it .u8 (.ofNat 112)),some (.pt 1 0),some (.map es 18),some (.mit 0 18 (7 :: σ) 18),true):=by kernel_rfl
theorem m112_8 (σ:List Nat):pickN 9 (run Tryz.E1 2000 20 0 .pl rest (tmE (tmM 9 (.it .u8 (.ofNat 112))) 10 11 (.tu [.bo true,.st [103,71,104,72,120],.fn (.func 94) [] []]) true) (famM es 18 (8 :: σ)))=some (some (.it .u8 (.ofNat 112)),some (.pt 1 0),some (.map es 18),some (.mit 0 18 (8 :: σ) 18),true):=by kernel_rfl
theorem m112_9 (σ:List Nat):pickN 9 (run Tryz.E1 2000 20 0 .pl rest (tmE (tmM 9 (.it .u8 (.ofNat 112))) 10 11 (.tu [.bo true,.st [108],.fn (.func 95) [] []]) true) (famM es 18 (9 :: σ)))=some (some (.it .u8 (.ofNat 112)),some (.pt 1 0),some (.map es 18),some (.mit 0 18 (9 :: σ) 18),true):=by kernel_rfl
theorem m112_10 (σ:List Nat):pickN 9 (run Tryz.E1 2000 20 0 .pl rest (tmE (tmM 9 (.it .u8 (.ofNat 112))) 10 11 (.tu [.bo true,.st [110,78],.fn (.func 96) [] []]) true) (famM es 18 (10 :: σ)))=some (some (.it .u8 (.ofNat 112)),some (.pt 1 0),some (.map es 18),some (.mit 0 18 (10 :: σ) 18),true):=by kernel_rfl
theorem m112_12 (σ:List Nat):pickN 9 (run Tryz.E1 2000 20 0 .pl rest (tmE (tmM 9 (.it .u8 (.ofNat 112))) 10 11 (.tu [.bo true,.st [80],.fn (.func 98) [] []]) true) (famM es 18 (12 :: σ)))=some (some (.it .u8 (.ofNat 112)),some (.pt 1 0),some (.map es 18),some (.mit 0 18 (12 :: σ) 18),true):=by kernel_rfl
theorem m112_13 (σ:List Nat):pickN 9 (run Tryz.E1 2000 20 0 .pl rest (tmE (tmM 9 (.it .u8 (.ofNat 112))) 10 11 (.tu [.bo true,.st [113,81],.fn (.func 99) [] []]) true) (famM es 18 (13 :: σ)))=some (some (.it .u8 (.ofNat 112)),some (.pt 1 0),some (.map es 18),some (.mit 0 18 (13 :: σ) 18),true):=by kernel_rfl
theorem m112_14 (σ:List Nat):pickN 9 (run Tryz.E1 2000 20 0 .pl rest (tmE (tmM 9 (.it .u8 (.ofNat 112))) 10 11 (.tu [.bo true,.st [114],.fn (.func 100) [] []]) true) (famM es 18 (14 :: σ)))=some (some (.it .u8 (.ofNat 112)),some (.pt 1 0),some (.map es 18),some (.mit 0 18 (14 :: σ) 18),true):=by kernel_rfl
theorem m112_15 (σ:List Nat):pickN 9 (run Tryz.E1 2000 20 0 .pl rest (tmE (tmM 9 (.it .u8 (.ofNat 112))) 10 11 (.tu [.bo true,.st [119],.fn (.func 101) [] []]) true) (famM es 18 (15 :: σ)))=some (some (.it .u8 (.ofNat 112)),some (.pt 1 0),some (.map es 18),some (.mit 0 18 (15 :: σ) 18),true):=by kernel_rfl
theorem m112_16 (σ:List Nat):pickN 9 (run Tryz.E1 2000 20 0 .pl rest (tmE (tmM 9 (.it .u8 (.ofNat 112))) 10 11 (.tu [.bo true,.st [115],.fn (.func 102) [] []]) true) (famM es 18 (16 :: σ)))=some (some (.it .u8 (.ofNat 112)),some (.pt 1 0),some (.map es 18),some (.mit 0 18 (16 :: σ) 18),true):=by kernel_rfl
theorem m112_17 (σ:List Nat):pickN 9 (run Tryz.E1 2000 20 0 .pl rest (tmE (tmM 9 (.it .u8 (.ofNat 112))) 10 11 (.tu [.bo true,.st [121],.fn (.func 103) [] []]) true) (famM es 18 (17 :: σ)))=some (some (.it .u8 (.ofNat 112)),some (.pt 1 0),some (.map es 18),some (.mit 0 18 (17 :: σ) 18),true):=by kernel_rfl
theorem d112 (lo:Nat) (A:W) (args:List AV) (ha:args=[.it .u8 (.ofNat 112)]):CallOK Tryz.prog lo 54 args A (.ret (.fn (.func 97) [] [])) A:=by
 refine finds_call (E:=Tryz.E1) Tryz.E1_ok (k:=2000) (n:=20) (its:=9) (a1:=10) (a2:=11) (es:=es) (clk:=18) (eh:=(.st [112],.fn (.func 97) [] [],11)) got body shp tmps (by decide) (nx:=nx) (ex:=ex) (by kernel_rfl) (by kernel_rfl) (by kernel_rfl) (by kernel_rfl) (by kernel_rfl) (by kernel_rfl) (by decide) (by kernel_rfl)
  (by kernel_rfl) (by kernel_rfl) (by kernel_rfl) (by kernel_rfl) (by kernel_rfl) (by kernel_rfl) (by simp [es]) (fun e he hne σ=>?_) (fun σ=>by kernel_rfl) lo A args ha
 simp only [es,List.mem_cons,List.not_mem_nil,or_false] at he
 rcases he with rfl | rfl | rfl | rfl | rfl | rfl | rfl | rfl | rfl | rfl | rfl | rfl | rfl | rfl | rfl | rfl | rfl | rfl
 ·exact m112_0 σ
 ·exact m112_1 σ
 ·exact m112_2 σ
 ·exact m112_3 σ
 ·exact m112_4 σ
 ·exact m112_5 σ
 ·exact m112_6 σ
 ·exact m112_7 σ
 ·exact m112_8 σ
 ·exact m112_9 σ
 ·exact m112_10 σ
 ·exact absurd rfl hne
 ·exact m112_12 σ
 ·exact m112_13 σ
 ·exact m112_14 σ
 ·exact m112_15 σ
 ·exact m112_16 σ
 ·exact m112_17 σ
theorem m113_0 (σ:List Nat):pickN 9 (run Tryz.E1 2000 20 0 .pl rest (tmE (tmM 9 (.it .u8 (.ofNat 113))) 10 11 (.tu [.bo true,.st [123,125],.fn (.func 86) [] []]) true) (famM es 18 (0 :: σ)))=some (some (.it .u8 (.ofNat 113)),some (.pt 1 0),some (.map es 18),some (.mit 0 18 (0 :: σ) 18),true):=by kernel_rfl
theorem m113_1 (σ:List Nat):pickN 9 (run Tryz.E1 2000 20 0 .pl rest (tmE (tmM 9 (.it .u8 (.ofNat 113))) 10 11 (.tu [.bo true,.st [61],.fn (.func 87) [] []]) true) (famM es 18 (1 :: σ)))=some (some (.it .u8 (.ofNat 113)),some (.pt 1 0),some (.map es 18),some (.mit 0 18 (1 :: σ) 18),true):=by kernel_rfl
theorem m113_2 (σ:List Nat):pickN 9 (run Tryz.E1 2000 20 0 .pl rest (tmE (tmM 9 (.it .u8 (.ofNat 113))) 10 11 (.tu [.bo true,.st [97],.fn (.func 88) [] []]) true) (famM es 18 (2 :: σ)))=some (some (.it .u8 (.ofNat 113)),some (.pt 1 0),some (.map es 18),some (.mit 0 18 (2 :: σ) 18),true):=by kernel_rfl
theorem m113_3 (σ:List Nat):pickN 9 (run Tryz.E1 2000 20 0 .pl rest (tmE (tmM 9 (.it .u8 (.ofNat 113))) 10 11 (.tu [.bo true,.st [105],.fn (.func 89) [] []]) true) (famM es 18 (3 :: σ)))=some (some (.it .u8 (.ofNat 113)),some (.pt 1 0),some (.map es 18),some (.mit 0 18 (3 :: σ) 18),true):=by kernel_rfl
theorem m113_4 (σ:List Nat):pickN 9 (run Tryz.E1 2000 20 0 .pl rest (tmE (tmM 9 (.it .u8 (.ofNat 113))) 10 11 (.tu [.bo true,.st [99],.fn (.func 90) [] []]) true) (famM es 18 (4 :: σ)))=some (some (.it .u8 (.ofNat 113)),some (.pt 1 0),some (.map es 18),some (.mit 0 18 (4 :: σ) 18),true):=by kernel_rfl
theorem m113_5 (σ:List Nat):pickN 9 (run Tryz.E1 2000 20 0 .pl rest (tmE (tmM 9 (.it .u8 (.ofNat 113))) 10 11 (.tu [.bo true,.st [98],.fn (.func 91) [] []]) true) (famM es 18 (5 :: σ)))=some (some (.it .u8 (.ofNat 113)),some (.pt 1 0),some (.map es 18),some (.mit 0 18 (5 :: σ) 18),true):=by kernel_rfl
theorem m113_6 (σ:List Nat):pickN 9 (run Tryz.E1 2000 20 0 .pl rest (tmE (tmM 9 (.it .u8 (.ofNat 113))) 10 11 (.tu [.bo true,.st [116,84],.fn (.func 92) [] []]) true) (famM es 18 (6 :: σ)))=some (some (.it .u8 (.ofNat 113)),some (.pt 1 0),some (.map es 18),some (.mit 0 18 (6 :: σ) 18),true):=by kernel_rfl
theorem m113_7 (σ:List Nat):pickN 9 (run Tryz.E1 2000 20 0 .pl rest (tmE (tmM 9 (.it .u8 (.ofNat 113))) 10 11 (.tu [.bo true,.st [100,68],.fn (.func 93) [] []]) true) (famM es 18 (7 :: σ)))=some (some (.it .u8 (.ofNat 113)),some (.pt 1 0),some (.map es 18),some (.mit 0 18 (7 :: σ) 18),true):=by kernel_rfl
theorem m113_8 (σ:List Nat):pickN 9 (run Tryz.E1 2000 20 0 .pl rest (tmE (tmM 9 (.it .u8 (.ofNat 113))) 10 11 (.tu [.bo true,.st [103,71,104,72,120],.fn (.func 94) [] []]) true) (famM es 18 (8 :: σ)))=some (some (.it .u8 (.ofNat 113)),some (.pt 1 0),some (.map es 18),some (.mit 0 18 (8 :: σ) 18),true):=by kernel_rfl
theorem m113_9 (σ:List Nat):pickN 9 (run Tryz.E1 2000 20 0 .pl rest (tmE (tmM 9 (.it .u8 (.ofNat 113))) 10 11 (.tu [.bo true,.st [108],.fn (.func 95) [] []]) true) (famM es 18 (9 :: σ)))=some (some (.it .u8 (.ofNat 113)),some (.pt 1 0),some (.map es 18),some (.mit 0 18 (9 :: σ) 18),true):=by kernel_rfl
theorem m113_10 (σ:List Nat):pickN 9 (run Tryz.E1 2000 20 0 .pl rest (tmE (tmM 9 (.it .u8 (.ofNat 113))) 10 11 (.tu [.bo true,.st [110,78],.fn (.func 96) [] []]) true) (famM es 18 (10 :: σ)))=some (some (.it .u8 (.ofNat 113)),some (.pt 1 0),some (.map es 18),some (.mit 0 18 (10 :: σ) 18),true):=by kernel_rfl
theorem m113_11 (σ:List Nat):pickN 9 (run Tryz.E1 2000 20 0 .pl rest (tmE (tmM 9 (.it .u8 (.ofNat 113))) 10 11 (.tu [.bo true,.st [112],.fn (.func 97) [] []]) true) (famM es 18 (11 :: σ)))=some (some (.it .u8 (.ofNat 113)),some (.pt 1 0),some (.map es 18),some (.mit 0 18 (11 :: σ) 18),true):=by kernel_rfl
theorem m113_12 (σ:List Nat):pickN 9 (run Tryz.E1 2000 20 0 .pl rest (tmE (tmM 9 (.it .u8 (.ofNat 113))) 10 11 (.tu [.bo true,.st [80],.fn (.func 98) [] []]) true) (famM es 18 (12 :: σ)))=some (some (.it .u8 (.ofNat 113)),some (.pt 1 0),some (.map es 18),some (.mit 0 18 (12 :: σ) 18),true):=by kernel_rfl
theorem m113_14 (σ:List Nat):pickN 9 (run Tryz.E1 2000 20 0 .pl rest (tmE (tmM 9 (.it .u8 (.ofNat 113))) 10 11 (.tu [.bo true,.st [114],.fn (.func 100) [] []]) true) (famM es 18 (14 :: σ)))=some (some (.it .u8 (.ofNat 113)),some (.pt 1 0),some (.map es 18),some (.mit 0 18 (14 :: σ) 18),true):=by kernel_rfl
theorem m113_15 (σ:List Nat):pickN 9 (run Tryz.E1 2000 20 0 .pl rest (tmE (tmM 9 (.it .u8 (.ofNat 113))) 10 11 (.tu [.bo true,.st [119],.fn (.func 101) [] []]) true) (famM es 18 (15 :: σ)))=some (some (.it .u8 (.ofNat 113)),some (.pt 1 0),some (.map es 18),some (.mit 0 18 (15 :: σ) 18),true):=by kernel_rfl
theorem m113_16 (σ:List Nat):pickN 9 (run Tryz.E1 2000 20 0 .pl rest (tmE (tmM 9 (.it .u8 (.ofNat 113))) 10 11 (.tu [.bo true,.st [115],.fn (.func 102) [] []]) true) (famM es 18 (16 :: σ)))=some (some (.it .u8 (.ofNat 113)),some (.pt 1 0),some (.map es 18),some (.mit 0 18 (16 :: σ) 18),true):=by kernel_rfl
theorem m113_17 (σ:List Nat):pickN 9 (run Tryz.E1 2000 20 0 .pl rest (tmE (tmM 9 (.it .u8 (.ofNat 113))) 10 11 (.tu [.bo true,.st [121],.fn (.func 103) [] []]) true) (famM es 18 (17 :: σ)))=some (some (.it .u8 (.ofNat 113)),some (.pt 1 0),some (.map es 18),some (.mit 0 18 (17 :: σ) 18),true):=by kernel_rfl
theorem d113 (lo:Nat) (A:W) (args:List AV) (ha:args=[.it .u8 (.ofNat 113)]):CallOK Tryz.prog lo 54 args A (.ret (.fn (.func 99) [] [])) A:=by
 refine finds_call (E:=Tryz.E1) Tryz.E1_ok (k:=2000) (n:=20) (its:=9) (a1:=10) (a2:=11) (es:=es) (clk:=18) (eh:=(.st [113,81],.fn (.func 99) [] [],13)) got body shp tmps (by decide) (nx:=nx) (ex:=ex) (by kernel_rfl) (by kernel_rfl) (by kernel_rfl) (by kernel_rfl) (by kernel_rfl) (by kernel_rfl) (by decide) (by kernel_rfl)
  (by kernel_rfl) (by kernel_rfl) (by kernel_rfl) (by kernel_rfl) (by kernel_rfl) (by kernel_rfl) (by simp [es]) (fun e he hne σ=>?_) (fun σ=>by kernel_rfl) lo A args ha
 simp only [es,List.mem_cons,List.not_mem_nil,or_false] at he
 rcases he with rfl | rfl | rfl | rfl | rfl | rfl | rfl | rfl | rfl | rfl | rfl | rfl | rfl | rfl | rfl | rfl | rfl | rfl
 ·exact m113_0 σ
 ·exact m113_1 σ
 ·exact m113_2 σ
 ·exact m113_3 σ
 ·exact m113_4 σ
 ·exact m113_5 σ
 ·exact m113_6 σ
 ·exact m113_7 σ
 ·exact m113_8 σ
 ·exact m113_9 σ
 ·exact m113_10 σ
 ·exact m113_11 σ
 ·exact m113_12 σ
 ·exact absurd rfl hne
 ·exact m113_14 σ
 ·exact m113_15 σ
 ·exact m113_16 σ
 ·exact m113_17 σ
theorem m119_0 (σ:List Nat):pickN 9 (run Tryz.E1 2000 20 0 .pl rest (tmE (tmM 9 (.it .u8 (.ofNat 119))) 10 11 (.tu [.bo true,.st [123,125],.fn (.func 86) [] []]) true) (famM es 18 (0 :: σ)))=some (some (.it .u8 (.ofNat 119)),some (.pt 1 0),some (.map es 18),some (.mit 0 18 (0 :: σ) 18),true):=by kernel_rfl
theorem m119_1 (σ:List Nat):pickN 9 (run Tryz.E1 2000 20 0 .pl rest (tmE (tmM 9 (.it .u8 (.ofNat 119))) 10 11 (.tu [.bo true,.st [61],.fn (.func 87) [] []]) true) (famM es 18 (1 :: σ)))=some (some (.it .u8 (.ofNat 119)),some (.pt 1 0),some (.map es 18),some (.mit 0 18 (1 :: σ) 18),true):=by kernel_rfl
theorem m119_2 (σ:List Nat):pickN 9 (run Tryz.E1 2000 20 0 .pl rest (tmE (tmM 9 (.it .u8 (.ofNat 119))) 10 11 (.tu [.bo true,.st [97],.fn (.func 88) [] []]) true) (famM es 18 (2 :: σ)))=some (some (.it .u8 (.ofNat 119)),some (.pt 1 0),some (.map es 18),some (.mit 0 18 (2 :: σ) 18),true):=by kernel_rfl
theorem m119_3 (σ:List Nat):pickN 9 (run Tryz.E1 2000 20 0 .pl rest (tmE (tmM 9 (.it .u8 (.ofNat 119))) 10 11 (.tu [.bo true,.st [105],.fn (.func 89) [] []]) true) (famM es 18 (3 :: σ)))=some (some (.it .u8 (.ofNat 119)),some (.pt 1 0),some (.map es 18),some (.mit 0 18 (3 :: σ) 18),true):=by kernel_rfl
theorem m119_4 (σ:List Nat):pickN 9 (run Tryz.E1 2000 20 0 .pl rest (tmE (tmM 9 (.it .u8 (.ofNat 119))) 10 11 (.tu [.bo true,.st [99],.fn (.func 90) [] []]) true) (famM es 18 (4 :: σ)))=some (some (.it .u8 (.ofNat 119)),some (.pt 1 0),some (.map es 18),some (.mit 0 18 (4 :: σ) 18),true):=by kernel_rfl
theorem m119_5 (σ:List Nat):pickN 9 (run Tryz.E1 2000 20 0 .pl rest (tmE (tmM 9 (.it .u8 (.ofNat 119))) 10 11 (.tu [.bo true,.st [98],.fn (.func 91) [] []]) true) (famM es 18 (5 :: σ)))=some (some (.it .u8 (.ofNat 119)),some (.pt 1 0),some (.map es 18),some (.mit 0 18 (5 :: σ) 18),true):=by kernel_rfl
theorem m119_6 (σ:List Nat):pickN 9 (run Tryz.E1 2000 20 0 .pl rest (tmE (tmM 9 (.it .u8 (.ofNat 119))) 10 11 (.tu [.bo true,.st [116,84],.fn (.func 92) [] []]) true) (famM es 18 (6 :: σ)))=some (some (.it .u8 (.ofNat 119)),some (.pt 1 0),some (.map es 18),some (.mit 0 18 (6 :: σ) 18),true):=by kernel_rfl
theorem m119_7 (σ:List Nat):pickN 9 (run Tryz.E1 2000 20 0 .pl rest (tmE (tmM 9 (.it .u8 (.ofNat 119))) 10 11 (.tu [.bo true,.st [100,68],.fn (.func 93) [] []]) true) (famM es 18 (7 :: σ)))=some (some (.it .u8 (.ofNat 119)),some (.pt 1 0),some (.map es 18),some (.mit 0 18 (7 :: σ) 18),true):=by kernel_rfl
theorem m119_8 (σ:List Nat):pickN 9 (run Tryz.E1 2000 20 0 .pl rest (tmE (tmM 9 (.it .u8 (.ofNat 119))) 10 11 (.tu [.bo true,.st [103,71,104,72,120],.fn (.func 94) [] []]) true) (famM es 18 (8 :: σ)))=some (some (.it .u8 (.ofNat 119)),some (.pt 1 0),some (.map es 18),some (.mit 0 18 (8 :: σ) 18),true):=by kernel_rfl
theorem m119_9 (σ:List Nat):pickN 9 (run Tryz.E1 2000 20 0 .pl rest (tmE (tmM 9 (.it .u8 (.ofNat 119))) 10 11 (.tu [.bo true,.st [108],.fn (.func 95) [] []]) true) (famM es 18 (9 :: σ)))=some (some (.it .u8 (.ofNat 119)),some (.pt 1 0),some (.map es 18),some (.mit 0 18 (9 :: σ) 18),true):=by kernel_rfl
theorem m119_10 (σ:List Nat):pickN 9 (run Tryz.E1 2000 20 0 .pl rest (tmE (tmM 9 (.it .u8 (.ofNat 119))) 10 11 (.tu [.bo true,.st [110,78],.fn (.func 96) [] []]) true) (famM es 18 (10 :: σ)))=some (some (.it .u8 (.ofNat 119)),some (.pt 1 0),some (.map es 18),some (.mit 0 18 (10 :: σ) 18),true):=by kernel_rfl
theorem m119_11 (σ:List Nat):pickN 9 (run Tryz.E1 2000 20 0 .pl rest (tmE (tmM 9 (.it .u8 (.ofNat 119))) 10 11 (.tu [.bo true,.st [112],.fn (.func 97) [] []]) true) (famM es 18 (11 :: σ)))=some (some (.it .u8 (.ofNat 119)),some (.pt 1 0),some (.map es 18),some (.mit 0 18 (11 :: σ) 18),true):=by kernel_rfl
theorem m119_12 (σ:List Nat):pickN 9 (run Tryz.E1 2000 20 0 .pl rest (tmE (tmM 9 (.it .u8 (.ofNat 119))) 10 11 (.tu [.bo true,.st [80],.fn (.func 98) [] []]) true) (famM es 18 (12 :: σ)))=some (some (.it .u8 (.ofNat 119)),some (.pt 1 0),some (.map es 18),some (.mit 0 18 (12 :: σ) 18),true):=by kernel_rfl
theorem m119_13 (σ:List Nat):pickN 9 (run Tryz.E1 2000 20 0 .pl rest (tmE (tmM 9 (.it .u8 (.ofNat 119))) 10 11 (.tu [.bo true,.st [113,81],.fn (.func 99) [] []]) true) (famM es 18 (13 :: σ)))=some (some (.it .u8 (.ofNat 119)),some (.pt 1 0),some (.map es 18),some (.mit 0 18 (13 :: σ) 18),true):=by kernel_rfl
theorem m119_14 (σ:List Nat):pickN 9 (run Tryz.E1 2000 20 0 .pl rest (tmE (tmM 9 (.it .u8 (.ofNat 119))) 10 11 (.tu [.bo true,.st [114],.fn (.func 100) [] []]) true) (famM es 18 (14 :: σ)))=some (some (.it .u8 (.ofNat 119)),some (.pt 1 0),some (.map es 18),some (.mit 0 18 (14 :: σ) 18),true):=by kernel_rfl
theorem m119_16 (σ:List Nat):pickN 9 (run Tryz.E1 2000 20 0 .pl rest (tmE (tmM 9 (.it .u8 (.ofNat 119))) 10 11 (.tu [.bo true,.st [115],.fn (.func 102) [] []]) true) (famM es 18 (16 :: σ)))=some (some (.it .u8 (.ofNat 119)),some (.pt 1 0),some (.map es 18),some (.mit 0 18 (16 :: σ) 18),true):=by kernel_rfl
theorem m119_17 (σ:List Nat):pickN 9 (run Tryz.E1 2000 20 0 .pl rest (tmE (tmM 9 (.it .u8 (.ofNat 119))) 10 11 (.tu [.bo true,.st [121],.fn (.func 103) [] []]) true) (famM es 18 (17 :: σ)))=some (some (.it .u8 (.ofNat 119)),some (.pt 1 0),some (.map es 18),some (.mit 0 18 (17 :: σ) 18),true):=by kernel_rfl
theorem d119 (lo:Nat) (A:W) (args:List AV) (ha:args=[.it .u8 (.ofNat 119)]):CallOK Tryz.prog lo 54 args A (.ret (.fn (.func 101) [] [])) A:=by
 refine finds_call (E:=Tryz.E1) Tryz.E1_ok (k:=2000) (n:=20) (its:=9) (a1:=10) (a2:=11) (es:=es) (clk:=18) (eh:=(.st [119],.fn (.func 101) [] [],15)) got body shp tmps (by decide) (nx:=nx) (ex:=ex) (by kernel_rfl) (by kernel_rfl) (by kernel_rfl) (by kernel_rfl) (by kernel_rfl) (by kernel_rfl) (by decide) (by kernel_rfl)
  (by kernel_rfl) (by kernel_rfl) (by kernel_rfl) (by kernel_rfl) (by kernel_rfl) (by kernel_rfl) (by simp [es]) (fun e he hne σ=>?_) (fun σ=>by kernel_rfl) lo A args ha
 simp only [es,List.mem_cons,List.not_mem_nil,or_false] at he
 rcases he with rfl | rfl | rfl | rfl | rfl | rfl | rfl | rfl | rfl | rfl | rfl | rfl | rfl | rfl | rfl | rfl | rfl | rfl
 ·exact m119_0 σ
 ·exact m119_1 σ
 ·exact m119_2 σ
 ·exact m119_3 σ
 ·exact m119_4 σ
 ·exact m119_5 σ
 ·exact m119_6 σ
 ·exact m119_7 σ
 ·exact m119_8 σ
 ·exact m119_9 σ
 ·exact m119_10 σ
 ·exact m119_11 σ
 ·exact m119_12 σ
 ·exact m119_13 σ
 ·exact m119_14 σ
 ·exact absurd rfl hne
 ·exact m119_16 σ
 ·exact m119_17 σ
end Tryz.Bd
def Tryz.Bd.tab:List (Nat × Nat):=[(100,93),(112,97),(113,99),(119,101)]
def gFind (tab:List (Nat × Nat)):Gv:=fun _ A xs=>match xs with
 | [.it .u8 (.ofNat b)]=>ob (lk b tab) fun g=>some (.fn (.func g) [] [],A)
 | _=>none
where lk:Nat->List (Nat × Nat)->Option Nat
 | _,[]=>none
 | b,p :: r=>cnd (Nat.beq b p.1) (some p.2) (lk b r)
theorem gFind_mem {b g:Nat}:∀ {l:List (Nat × Nat)},gFind.lk b l=some g->(b,g) ∈ l
 | p :: r,h=>by
  unfold gFind.lk cnd at h
  split at h
  ·rename_i hc
   simp only [Option.some.injEq] at h
   have:=Nat.eq_of_beq_eq_true hc
   subst this h
   exact .head _
  ·exact .tail _ (gFind_mem h)
theorem Tryz.bdoes_ok (lo:Nat) (A:W) (args:List AV) (v:AV) (A':W) (h:gFind Tryz.Bd.tab lo A args=some (v,A')):CallOK Tryz.prog lo 54 args A (.ret v) A':=by
 unfold gFind at h
 split at h
 ·rename_i b
  replace h:=ob_some h; obtain ⟨g,hg,h⟩:=h
  simp only [Option.some.injEq,Prod.mk.injEq] at h
  obtain ⟨rfl,rfl⟩:=h
  have hm:=gFind_mem hg
  simp only [Tryz.Bd.tab,List.mem_cons,Prod.mk.injEq,List.not_mem_nil,or_false] at hm
  rcases hm with ⟨rfl,rfl⟩ | ⟨rfl,rfl⟩ | ⟨rfl,rfl⟩ | ⟨rfl,rfl⟩
  ·exact Tryz.Bd.d100 lo A _ rfl
  ·exact Tryz.Bd.d112 lo A _ rfl
  ·exact Tryz.Bd.d113 lo A _ rfl
  ·exact Tryz.Bd.d119 lo A _ rfl
 ·cases h
end Go.Proofs
