/- Part of a proof over this seat: a library of my own, and what it says of this seat. No statement is proved here. -/
import Derived.Test.YtfpipcafiocdoaaGreatDoorPartBC
import Derived.Test.YtfpipcafiocdoaaGreatDoorPartAY
namespace Go.Proofs
open Go.Ce
set_option maxRecDepth 100000
noncomputable def Tryz.E1 : Env:=Tryz.E0.more 94 zEd
theorem Tryz.E1_ok : dK Tryz.E1:=Tryz.E0_ok.more fun lo A args v A' h => zAs Tryz.func94 (by kernel_rfl) (by kernel_rfl) (by kernel_rfl) (by kernel_rfl) lo A args v A' h
namespace Tryz.Bd
noncomputable abbrev c : Code:=Xo Tryz.f39
noncomputable abbrev rest : Code:=cR (sG Tryz.f39)
noncomputable abbrev suf : Code:=cR (cR (cR c))
def es : List (AV × AV × Nat):=[(.st [123,125],.fn (.func 63) [] [],0),(.st [61],.fn (.func 64) [] [],1),(.st [97],.fn (.func 65) [] [],2),(.st [105],.fn (.func 66) [] [],3),(.st [99],.fn (.func 67) [] [],4),(.st [98],.fn (.func 68) [] [],5),(.st [116,84],.fn (.func 69) [] [],6),(.st [100,68],.fn (.func 70) [] [],7),(.st [103,71,104,72,120],.fn (.func 71) [] [],8),(.st [108],.fn (.func 72) [] [],9),(.st [110,78],.fn (.func 73) [] [],10),(.st [112],.fn (.func 74) [] [],11),(.st [80],.fn (.func 75) [] [],12),(.st [113,81],.fn (.func 76) [] [],13),(.st [114],.fn (.func 77) [] [],14),(.st [119],.fn (.func 78) [] [],15),(.st [115],.fn (.func 79) [] [],16),(.st [121],.fn (.func 80) [] [],17)]
theorem body : Tryz.f39.body = some c:=by kernel_rfl
noncomputable abbrev nx : Oper:=cOp (cL (sG Tryz.f39)) 0
noncomputable abbrev ex : Oper:=cOp (cL (sG Tryz.f39)) 1
noncomputable abbrev rid : Nat:=cId (cL (sG Tryz.f39))
theorem shp : c = .seq (cL c) (.seq (cL (cR c)) (.seq (.seq (cL (cL (cR (cR c)))) (.block 0 (.loop (.seq (.region rid #[nx,ex] false) rest)))) suf)):=by kernel_rfl
theorem got : T.get Tryz.E1.F 39 = some Tryz.f39:=by kernel_rfl
theorem tmps : Tryz.f39.ntmps = 20:=by kernel_rfl
theorem zQc (σ : List Nat) : aB 9 (run Tryz.E1 2000 20 0 .pl rest (tmE (tmM 9 (.it .u8 (.ofNat 123))) 10 11 (.tu [.bo true,.st [61],.fn (.func 64) [] []]) true) (aC es 18 (1 :: σ))) = some (some (.it .u8 (.ofNat 123)),some (.pt 1 0),some (.map es 18),some (.mit 0 18 (1 :: σ) 18),true):=by kernel_rfl
theorem zQd (σ : List Nat) : aB 9 (run Tryz.E1 2000 20 0 .pl rest (tmE (tmM 9 (.it .u8 (.ofNat 123))) 10 11 (.tu [.bo true,.st [97],.fn (.func 65) [] []]) true) (aC es 18 (2 :: σ))) = some (some (.it .u8 (.ofNat 123)),some (.pt 1 0),some (.map es 18),some (.mit 0 18 (2 :: σ) 18),true):=by kernel_rfl
theorem zQe (σ : List Nat) : aB 9 (run Tryz.E1 2000 20 0 .pl rest (tmE (tmM 9 (.it .u8 (.ofNat 123))) 10 11 (.tu [.bo true,.st [105],.fn (.func 66) [] []]) true) (aC es 18 (3 :: σ))) = some (some (.it .u8 (.ofNat 123)),some (.pt 1 0),some (.map es 18),some (.mit 0 18 (3 :: σ) 18),true):=by kernel_rfl
theorem zQf (σ : List Nat) : aB 9 (run Tryz.E1 2000 20 0 .pl rest (tmE (tmM 9 (.it .u8 (.ofNat 123))) 10 11 (.tu [.bo true,.st [99],.fn (.func 67) [] []]) true) (aC es 18 (4 :: σ))) = some (some (.it .u8 (.ofNat 123)),some (.pt 1 0),some (.map es 18),some (.mit 0 18 (4 :: σ) 18),true):=by kernel_rfl
theorem zQg (σ : List Nat) : aB 9 (run Tryz.E1 2000 20 0 .pl rest (tmE (tmM 9 (.it .u8 (.ofNat 123))) 10 11 (.tu [.bo true,.st [98],.fn (.func 68) [] []]) true) (aC es 18 (5 :: σ))) = some (some (.it .u8 (.ofNat 123)),some (.pt 1 0),some (.map es 18),some (.mit 0 18 (5 :: σ) 18),true):=by kernel_rfl
theorem zQh (σ : List Nat) : aB 9 (run Tryz.E1 2000 20 0 .pl rest (tmE (tmM 9 (.it .u8 (.ofNat 123))) 10 11 (.tu [.bo true,.st [116,84],.fn (.func 69) [] []]) true) (aC es 18 (6 :: σ))) = some (some (.it .u8 (.ofNat 123)),some (.pt 1 0),some (.map es 18),some (.mit 0 18 (6 :: σ) 18),true):=by kernel_rfl
theorem zQi (σ : List Nat) : aB 9 (run Tryz.E1 2000 20 0 .pl rest (tmE (tmM 9 (.it .u8 (.ofNat 123))) 10 11 (.tu [.bo true,.st [100,68],.fn (.func 70) [] []]) true) (aC es 18 (7 :: σ))) = some (some (.it .u8 (.ofNat 123)),some (.pt 1 0),some (.map es 18),some (.mit 0 18 (7 :: σ) 18),true):=by kernel_rfl
theorem zQj (σ : List Nat) : aB 9 (run Tryz.E1 2000 20 0 .pl rest (tmE (tmM 9 (.it .u8 (.ofNat 123))) 10 11 (.tu [.bo true,.st [103,71,104,72,120],.fn (.func 71) [] []]) true) (aC es 18 (8 :: σ))) = some (some (.it .u8 (.ofNat 123)),some (.pt 1 0),some (.map es 18),some (.mit 0 18 (8 :: σ) 18),true):=by kernel_rfl
theorem zQk (σ : List Nat) : aB 9 (run Tryz.E1 2000 20 0 .pl rest (tmE (tmM 9 (.it .u8 (.ofNat 123))) 10 11 (.tu [.bo true,.st [108],.fn (.func 72) [] []]) true) (aC es 18 (9 :: σ))) = some (some (.it .u8 (.ofNat 123)),some (.pt 1 0),some (.map es 18),some (.mit 0 18 (9 :: σ) 18),true):=by kernel_rfl
theorem zLy (σ : List Nat) : aB 9 (run Tryz.E1 2000 20 0 .pl rest (tmE (tmM 9 (.it .u8 (.ofNat 123))) 10 11 (.tu [.bo true,.st [110,78],.fn (.func 73) [] []]) true) (aC es 18 (10 :: σ))) = some (some (.it .u8 (.ofNat 123)),some (.pt 1 0),some (.map es 18),some (.mit 0 18 (10 :: σ) 18),true):=by kernel_rfl
theorem zLz (σ : List Nat) : aB 9 (run Tryz.E1 2000 20 0 .pl rest (tmE (tmM 9 (.it .u8 (.ofNat 123))) 10 11 (.tu [.bo true,.st [112],.fn (.func 74) [] []]) true) (aC es 18 (11 :: σ))) = some (some (.it .u8 (.ofNat 123)),some (.pt 1 0),some (.map es 18),some (.mit 0 18 (11 :: σ) 18),true):=by kernel_rfl
theorem zMa (σ : List Nat) : aB 9 (run Tryz.E1 2000 20 0 .pl rest (tmE (tmM 9 (.it .u8 (.ofNat 123))) 10 11 (.tu [.bo true,.st [80],.fn (.func 75) [] []]) true) (aC es 18 (12 :: σ))) = some (some (.it .u8 (.ofNat 123)),some (.pt 1 0),some (.map es 18),some (.mit 0 18 (12 :: σ) 18),true):=by kernel_rfl
theorem zMb (σ : List Nat) : aB 9 (run Tryz.E1 2000 20 0 .pl rest (tmE (tmM 9 (.it .u8 (.ofNat 123))) 10 11 (.tu [.bo true,.st [113,81],.fn (.func 76) [] []]) true) (aC es 18 (13 :: σ))) = some (some (.it .u8 (.ofNat 123)),some (.pt 1 0),some (.map es 18),some (.mit 0 18 (13 :: σ) 18),true):=by kernel_rfl
theorem zMc (σ : List Nat) : aB 9 (run Tryz.E1 2000 20 0 .pl rest (tmE (tmM 9 (.it .u8 (.ofNat 123))) 10 11 (.tu [.bo true,.st [114],.fn (.func 77) [] []]) true) (aC es 18 (14 :: σ))) = some (some (.it .u8 (.ofNat 123)),some (.pt 1 0),some (.map es 18),some (.mit 0 18 (14 :: σ) 18),true):=by kernel_rfl
theorem zMd (σ : List Nat) : aB 9 (run Tryz.E1 2000 20 0 .pl rest (tmE (tmM 9 (.it .u8 (.ofNat 123))) 10 11 (.tu [.bo true,.st [119],.fn (.func 78) [] []]) true) (aC es 18 (15 :: σ))) = some (some (.it .u8 (.ofNat 123)),some (.pt 1 0),some (.map es 18),some (.mit 0 18 (15 :: σ) 18),true):=by kernel_rfl
theorem zMe (σ : List Nat) : aB 9 (run Tryz.E1 2000 20 0 .pl rest (tmE (tmM 9 (.it .u8 (.ofNat 123))) 10 11 (.tu [.bo true,.st [115],.fn (.func 79) [] []]) true) (aC es 18 (16 :: σ))) = some (some (.it .u8 (.ofNat 123)),some (.pt 1 0),some (.map es 18),some (.mit 0 18 (16 :: σ) 18),true):=by kernel_rfl
theorem zMf (σ : List Nat) : aB 9 (run Tryz.E1 2000 20 0 .pl rest (tmE (tmM 9 (.it .u8 (.ofNat 123))) 10 11 (.tu [.bo true,.st [121],.fn (.func 80) [] []]) true) (aC es 18 (17 :: σ))) = some (some (.it .u8 (.ofNat 123)),some (.pt 1 0),some (.map es 18),some (.mit 0 18 (17 :: σ) 18),true):=by kernel_rfl
theorem d123 (lo : Nat) (A : W) (args : List AV) (ha : args = [.it .u8 (.ofNat 123)]) : bC Tryz.prog lo 39 args A (.ret (.fn (.func 63) [] [])) A:=by
 refine gP (E:=Tryz.E1) Tryz.E1_ok (k:=2000) (n:=20) (its:=9) (a1:=10) (a2:=11) (es:=es) (clk:=18) (eh:=(.st [123,125],.fn (.func 63) [] [],0)) got body shp tmps (by decide) (nx:=nx) (ex:=ex) (by kernel_rfl) (by kernel_rfl) (by kernel_rfl) (by kernel_rfl) (by kernel_rfl) (by kernel_rfl) (by decide) (by kernel_rfl)
  (by kernel_rfl) (by kernel_rfl) (by kernel_rfl) (by kernel_rfl) (by kernel_rfl) (by kernel_rfl) (by simp [es]) (fun e he hne σ => ?_) (fun σ => by kernel_rfl) lo A args ha
 simp only [es,List.mem_cons,List.not_mem_nil,or_false] at he
 rcases he with rfl | rfl | rfl | rfl | rfl | rfl | rfl | rfl | rfl | rfl | rfl | rfl | rfl | rfl | rfl | rfl | rfl | rfl
 ·exact absurd rfl hne
 ·exact zQc σ
 ·exact zQd σ
 ·exact zQe σ
 ·exact zQf σ
 ·exact zQg σ
 ·exact zQh σ
 ·exact zQi σ
 ·exact zQj σ
 ·exact zQk σ
 ·exact zLy σ
 ·exact zLz σ
 ·exact zMa σ
 ·exact zMb σ
 ·exact zMc σ
 ·exact zMd σ
 ·exact zMe σ
 ·exact zMf σ
theorem zUp (σ : List Nat) : aB 9 (run Tryz.E1 2000 20 0 .pl rest (tmE (tmM 9 (.it .u8 (.ofNat 97))) 10 11 (.tu [.bo true,.st [123,125],.fn (.func 63) [] []]) true) (aC es 18 (0 :: σ))) = some (some (.it .u8 (.ofNat 97)),some (.pt 1 0),some (.map es 18),some (.mit 0 18 (0 :: σ) 18),true):=by kernel_rfl
theorem zUq (σ : List Nat) : aB 9 (run Tryz.E1 2000 20 0 .pl rest (tmE (tmM 9 (.it .u8 (.ofNat 97))) 10 11 (.tu [.bo true,.st [61],.fn (.func 64) [] []]) true) (aC es 18 (1 :: σ))) = some (some (.it .u8 (.ofNat 97)),some (.pt 1 0),some (.map es 18),some (.mit 0 18 (1 :: σ) 18),true):=by kernel_rfl
theorem zUr (σ : List Nat) : aB 9 (run Tryz.E1 2000 20 0 .pl rest (tmE (tmM 9 (.it .u8 (.ofNat 97))) 10 11 (.tu [.bo true,.st [105],.fn (.func 66) [] []]) true) (aC es 18 (3 :: σ))) = some (some (.it .u8 (.ofNat 97)),some (.pt 1 0),some (.map es 18),some (.mit 0 18 (3 :: σ) 18),true):=by kernel_rfl
theorem zUs (σ : List Nat) : aB 9 (run Tryz.E1 2000 20 0 .pl rest (tmE (tmM 9 (.it .u8 (.ofNat 97))) 10 11 (.tu [.bo true,.st [99],.fn (.func 67) [] []]) true) (aC es 18 (4 :: σ))) = some (some (.it .u8 (.ofNat 97)),some (.pt 1 0),some (.map es 18),some (.mit 0 18 (4 :: σ) 18),true):=by kernel_rfl
theorem zUt (σ : List Nat) : aB 9 (run Tryz.E1 2000 20 0 .pl rest (tmE (tmM 9 (.it .u8 (.ofNat 97))) 10 11 (.tu [.bo true,.st [98],.fn (.func 68) [] []]) true) (aC es 18 (5 :: σ))) = some (some (.it .u8 (.ofNat 97)),some (.pt 1 0),some (.map es 18),some (.mit 0 18 (5 :: σ) 18),true):=by kernel_rfl
theorem zUu (σ : List Nat) : aB 9 (run Tryz.E1 2000 20 0 .pl rest (tmE (tmM 9 (.it .u8 (.ofNat 97))) 10 11 (.tu [.bo true,.st [116,84],.fn (.func 69) [] []]) true) (aC es 18 (6 :: σ))) = some (some (.it .u8 (.ofNat 97)),some (.pt 1 0),some (.map es 18),some (.mit 0 18 (6 :: σ) 18),true):=by kernel_rfl
theorem zUv (σ : List Nat) : aB 9 (run Tryz.E1 2000 20 0 .pl rest (tmE (tmM 9 (.it .u8 (.ofNat 97))) 10 11 (.tu [.bo true,.st [100,68],.fn (.func 70) [] []]) true) (aC es 18 (7 :: σ))) = some (some (.it .u8 (.ofNat 97)),some (.pt 1 0),some (.map es 18),some (.mit 0 18 (7 :: σ) 18),true):=by kernel_rfl
theorem zUw (σ : List Nat) : aB 9 (run Tryz.E1 2000 20 0 .pl rest (tmE (tmM 9 (.it .u8 (.ofNat 97))) 10 11 (.tu [.bo true,.st [103,71,104,72,120],.fn (.func 71) [] []]) true) (aC es 18 (8 :: σ))) = some (some (.it .u8 (.ofNat 97)),some (.pt 1 0),some (.map es 18),some (.mit 0 18 (8 :: σ) 18),true):=by kernel_rfl
theorem zUx (σ : List Nat) : aB 9 (run Tryz.E1 2000 20 0 .pl rest (tmE (tmM 9 (.it .u8 (.ofNat 97))) 10 11 (.tu [.bo true,.st [108],.fn (.func 72) [] []]) true) (aC es 18 (9 :: σ))) = some (some (.it .u8 (.ofNat 97)),some (.pt 1 0),some (.map es 18),some (.mit 0 18 (9 :: σ) 18),true):=by kernel_rfl
theorem zQl (σ : List Nat) : aB 9 (run Tryz.E1 2000 20 0 .pl rest (tmE (tmM 9 (.it .u8 (.ofNat 97))) 10 11 (.tu [.bo true,.st [110,78],.fn (.func 73) [] []]) true) (aC es 18 (10 :: σ))) = some (some (.it .u8 (.ofNat 97)),some (.pt 1 0),some (.map es 18),some (.mit 0 18 (10 :: σ) 18),true):=by kernel_rfl
theorem zQm (σ : List Nat) : aB 9 (run Tryz.E1 2000 20 0 .pl rest (tmE (tmM 9 (.it .u8 (.ofNat 97))) 10 11 (.tu [.bo true,.st [112],.fn (.func 74) [] []]) true) (aC es 18 (11 :: σ))) = some (some (.it .u8 (.ofNat 97)),some (.pt 1 0),some (.map es 18),some (.mit 0 18 (11 :: σ) 18),true):=by kernel_rfl
theorem zQn (σ : List Nat) : aB 9 (run Tryz.E1 2000 20 0 .pl rest (tmE (tmM 9 (.it .u8 (.ofNat 97))) 10 11 (.tu [.bo true,.st [80],.fn (.func 75) [] []]) true) (aC es 18 (12 :: σ))) = some (some (.it .u8 (.ofNat 97)),some (.pt 1 0),some (.map es 18),some (.mit 0 18 (12 :: σ) 18),true):=by kernel_rfl
theorem zQo (σ : List Nat) : aB 9 (run Tryz.E1 2000 20 0 .pl rest (tmE (tmM 9 (.it .u8 (.ofNat 97))) 10 11 (.tu [.bo true,.st [113,81],.fn (.func 76) [] []]) true) (aC es 18 (13 :: σ))) = some (some (.it .u8 (.ofNat 97)),some (.pt 1 0),some (.map es 18),some (.mit 0 18 (13 :: σ) 18),true):=by kernel_rfl
theorem zQp (σ : List Nat) : aB 9 (run Tryz.E1 2000 20 0 .pl rest (tmE (tmM 9 (.it .u8 (.ofNat 97))) 10 11 (.tu [.bo true,.st [114],.fn (.func 77) [] []]) true) (aC es 18 (14 :: σ))) = some (some (.it .u8 (.ofNat 97)),some (.pt 1 0),some (.map es 18),some (.mit 0 18 (14 :: σ) 18),true):=by kernel_rfl
theorem zQq (σ : List Nat) : aB 9 (run Tryz.E1 2000 20 0 .pl rest (tmE (tmM 9 (.it .u8 (.ofNat 97))) 10 11 (.tu [.bo true,.st [119],.fn (.func 78) [] []]) true) (aC es 18 (15 :: σ))) = some (some (.it .u8 (.ofNat 97)),some (.pt 1 0),some (.map es 18),some (.mit 0 18 (15 :: σ) 18),true):=by kernel_rfl
theorem zQr (σ : List Nat) : aB 9 (run Tryz.E1 2000 20 0 .pl rest (tmE (tmM 9 (.it .u8 (.ofNat 97))) 10 11 (.tu [.bo true,.st [115],.fn (.func 79) [] []]) true) (aC es 18 (16 :: σ))) = some (some (.it .u8 (.ofNat 97)),some (.pt 1 0),some (.map es 18),some (.mit 0 18 (16 :: σ) 18),true):=by kernel_rfl
theorem zQs (σ : List Nat) : aB 9 (run Tryz.E1 2000 20 0 .pl rest (tmE (tmM 9 (.it .u8 (.ofNat 97))) 10 11 (.tu [.bo true,.st [121],.fn (.func 80) [] []]) true) (aC es 18 (17 :: σ))) = some (some (.it .u8 (.ofNat 97)),some (.pt 1 0),some (.map es 18),some (.mit 0 18 (17 :: σ) 18),true):=by kernel_rfl
theorem d97 (lo : Nat) (A : W) (args : List AV) (ha : args = [.it .u8 (.ofNat 97)]) : bC Tryz.prog lo 39 args A (.ret (.fn (.func 65) [] [])) A:=by
 refine gP (E:=Tryz.E1) Tryz.E1_ok (k:=2000) (n:=20) (its:=9) (a1:=10) (a2:=11) (es:=es) (clk:=18) (eh:=(.st [97],.fn (.func 65) [] [],2)) got body shp tmps (by decide) (nx:=nx) (ex:=ex) (by kernel_rfl) (by kernel_rfl) (by kernel_rfl) (by kernel_rfl) (by kernel_rfl) (by kernel_rfl) (by decide) (by kernel_rfl)
  (by kernel_rfl) (by kernel_rfl) (by kernel_rfl) (by kernel_rfl) (by kernel_rfl) (by kernel_rfl) (by simp [es]) (fun e he hne σ => ?_) (fun σ => by kernel_rfl) lo A args ha
 simp only [es,List.mem_cons,List.not_mem_nil,or_false] at he
 rcases he with rfl | rfl | rfl | rfl | rfl | rfl | rfl | rfl | rfl | rfl | rfl | rfl | rfl | rfl | rfl | rfl | rfl | rfl
 ·exact zUp σ
 ·exact zUq σ
 ·exact absurd rfl hne
 ·exact zUr σ
 ·exact zUs σ
 ·exact zUt σ
 ·exact zUu σ
 ·exact zUv σ
 ·exact zUw σ
 ·exact zUx σ
 ·exact zQl σ
 ·exact zQm σ
 ·exact zQn σ
 ·exact zQo σ
 ·exact zQp σ
 ·exact zQq σ
 ·exact zQr σ
 ·exact zQs σ
theorem zQt (σ : List Nat) : aB 9 (run Tryz.E1 2000 20 0 .pl rest (tmE (tmM 9 (.it .u8 (.ofNat 100))) 10 11 (.tu [.bo true,.st [123,125],.fn (.func 63) [] []]) true) (aC es 18 (0 :: σ))) = some (some (.it .u8 (.ofNat 100)),some (.pt 1 0),some (.map es 18),some (.mit 0 18 (0 :: σ) 18),true):=by kernel_rfl
theorem zQu (σ : List Nat) : aB 9 (run Tryz.E1 2000 20 0 .pl rest (tmE (tmM 9 (.it .u8 (.ofNat 100))) 10 11 (.tu [.bo true,.st [61],.fn (.func 64) [] []]) true) (aC es 18 (1 :: σ))) = some (some (.it .u8 (.ofNat 100)),some (.pt 1 0),some (.map es 18),some (.mit 0 18 (1 :: σ) 18),true):=by kernel_rfl
theorem zQv (σ : List Nat) : aB 9 (run Tryz.E1 2000 20 0 .pl rest (tmE (tmM 9 (.it .u8 (.ofNat 100))) 10 11 (.tu [.bo true,.st [97],.fn (.func 65) [] []]) true) (aC es 18 (2 :: σ))) = some (some (.it .u8 (.ofNat 100)),some (.pt 1 0),some (.map es 18),some (.mit 0 18 (2 :: σ) 18),true):=by kernel_rfl
theorem zQw (σ : List Nat) : aB 9 (run Tryz.E1 2000 20 0 .pl rest (tmE (tmM 9 (.it .u8 (.ofNat 100))) 10 11 (.tu [.bo true,.st [105],.fn (.func 66) [] []]) true) (aC es 18 (3 :: σ))) = some (some (.it .u8 (.ofNat 100)),some (.pt 1 0),some (.map es 18),some (.mit 0 18 (3 :: σ) 18),true):=by kernel_rfl
theorem zQx (σ : List Nat) : aB 9 (run Tryz.E1 2000 20 0 .pl rest (tmE (tmM 9 (.it .u8 (.ofNat 100))) 10 11 (.tu [.bo true,.st [99],.fn (.func 67) [] []]) true) (aC es 18 (4 :: σ))) = some (some (.it .u8 (.ofNat 100)),some (.pt 1 0),some (.map es 18),some (.mit 0 18 (4 :: σ) 18),true):=by kernel_rfl
theorem zQy (σ : List Nat) : aB 9 (run Tryz.E1 2000 20 0 .pl rest (tmE (tmM 9 (.it .u8 (.ofNat 100))) 10 11 (.tu [.bo true,.st [98],.fn (.func 68) [] []]) true) (aC es 18 (5 :: σ))) = some (some (.it .u8 (.ofNat 100)),some (.pt 1 0),some (.map es 18),some (.mit 0 18 (5 :: σ) 18),true):=by kernel_rfl
theorem zQz (σ : List Nat) : aB 9 (run Tryz.E1 2000 20 0 .pl rest (tmE (tmM 9 (.it .u8 (.ofNat 100))) 10 11 (.tu [.bo true,.st [116,84],.fn (.func 69) [] []]) true) (aC es 18 (6 :: σ))) = some (some (.it .u8 (.ofNat 100)),some (.pt 1 0),some (.map es 18),some (.mit 0 18 (6 :: σ) 18),true):=by kernel_rfl
theorem zRa (σ : List Nat) : aB 9 (run Tryz.E1 2000 20 0 .pl rest (tmE (tmM 9 (.it .u8 (.ofNat 100))) 10 11 (.tu [.bo true,.st [103,71,104,72,120],.fn (.func 71) [] []]) true) (aC es 18 (8 :: σ))) = some (some (.it .u8 (.ofNat 100)),some (.pt 1 0),some (.map es 18),some (.mit 0 18 (8 :: σ) 18),true):=by kernel_rfl
theorem zRb (σ : List Nat) : aB 9 (run Tryz.E1 2000 20 0 .pl rest (tmE (tmM 9 (.it .u8 (.ofNat 100))) 10 11 (.tu [.bo true,.st [108],.fn (.func 72) [] []]) true) (aC es 18 (9 :: σ))) = some (some (.it .u8 (.ofNat 100)),some (.pt 1 0),some (.map es 18),some (.mit 0 18 (9 :: σ) 18),true):=by kernel_rfl
theorem zMg (σ : List Nat) : aB 9 (run Tryz.E1 2000 20 0 .pl rest (tmE (tmM 9 (.it .u8 (.ofNat 100))) 10 11 (.tu [.bo true,.st [110,78],.fn (.func 73) [] []]) true) (aC es 18 (10 :: σ))) = some (some (.it .u8 (.ofNat 100)),some (.pt 1 0),some (.map es 18),some (.mit 0 18 (10 :: σ) 18),true):=by kernel_rfl
theorem zMh (σ : List Nat) : aB 9 (run Tryz.E1 2000 20 0 .pl rest (tmE (tmM 9 (.it .u8 (.ofNat 100))) 10 11 (.tu [.bo true,.st [112],.fn (.func 74) [] []]) true) (aC es 18 (11 :: σ))) = some (some (.it .u8 (.ofNat 100)),some (.pt 1 0),some (.map es 18),some (.mit 0 18 (11 :: σ) 18),true):=by kernel_rfl
theorem zMi (σ : List Nat) : aB 9 (run Tryz.E1 2000 20 0 .pl rest (tmE (tmM 9 (.it .u8 (.ofNat 100))) 10 11 (.tu [.bo true,.st [80],.fn (.func 75) [] []]) true) (aC es 18 (12 :: σ))) = some (some (.it .u8 (.ofNat 100)),some (.pt 1 0),some (.map es 18),some (.mit 0 18 (12 :: σ) 18),true):=by kernel_rfl
theorem zMj (σ : List Nat) : aB 9 (run Tryz.E1 2000 20 0 .pl rest (tmE (tmM 9 (.it .u8 (.ofNat 100))) 10 11 (.tu [.bo true,.st [113,81],.fn (.func 76) [] []]) true) (aC es 18 (13 :: σ))) = some (some (.it .u8 (.ofNat 100)),some (.pt 1 0),some (.map es 18),some (.mit 0 18 (13 :: σ) 18),true):=by kernel_rfl
theorem zMk (σ : List Nat) : aB 9 (run Tryz.E1 2000 20 0 .pl rest (tmE (tmM 9 (.it .u8 (.ofNat 100))) 10 11 (.tu [.bo true,.st [114],.fn (.func 77) [] []]) true) (aC es 18 (14 :: σ))) = some (some (.it .u8 (.ofNat 100)),some (.pt 1 0),some (.map es 18),some (.mit 0 18 (14 :: σ) 18),true):=by kernel_rfl
theorem zMl (σ : List Nat) : aB 9 (run Tryz.E1 2000 20 0 .pl rest (tmE (tmM 9 (.it .u8 (.ofNat 100))) 10 11 (.tu [.bo true,.st [119],.fn (.func 78) [] []]) true) (aC es 18 (15 :: σ))) = some (some (.it .u8 (.ofNat 100)),some (.pt 1 0),some (.map es 18),some (.mit 0 18 (15 :: σ) 18),true):=by kernel_rfl
theorem zMm (σ : List Nat) : aB 9 (run Tryz.E1 2000 20 0 .pl rest (tmE (tmM 9 (.it .u8 (.ofNat 100))) 10 11 (.tu [.bo true,.st [115],.fn (.func 79) [] []]) true) (aC es 18 (16 :: σ))) = some (some (.it .u8 (.ofNat 100)),some (.pt 1 0),some (.map es 18),some (.mit 0 18 (16 :: σ) 18),true):=by kernel_rfl
theorem zMn (σ : List Nat) : aB 9 (run Tryz.E1 2000 20 0 .pl rest (tmE (tmM 9 (.it .u8 (.ofNat 100))) 10 11 (.tu [.bo true,.st [121],.fn (.func 80) [] []]) true) (aC es 18 (17 :: σ))) = some (some (.it .u8 (.ofNat 100)),some (.pt 1 0),some (.map es 18),some (.mit 0 18 (17 :: σ) 18),true):=by kernel_rfl
theorem d100 (lo : Nat) (A : W) (args : List AV) (ha : args = [.it .u8 (.ofNat 100)]) : bC Tryz.prog lo 39 args A (.ret (.fn (.func 70) [] [])) A:=by
 refine gP (E:=Tryz.E1) Tryz.E1_ok (k:=2000) (n:=20) (its:=9) (a1:=10) (a2:=11) (es:=es) (clk:=18) (eh:=(.st [100,68],.fn (.func 70) [] [],7)) got body shp tmps (by decide) (nx:=nx) (ex:=ex) (by kernel_rfl) (by kernel_rfl) (by kernel_rfl) (by kernel_rfl) (by kernel_rfl) (by kernel_rfl) (by decide) (by kernel_rfl)
  (by kernel_rfl) (by kernel_rfl) (by kernel_rfl) (by kernel_rfl) (by kernel_rfl) (by kernel_rfl) (by simp [es]) (fun e he hne σ => ?_) (fun σ => by kernel_rfl) lo A args ha
 simp only [es,List.mem_cons,List.not_mem_nil,or_false] at he
 rcases he with rfl | rfl | rfl | rfl | rfl | rfl | rfl | rfl | rfl | rfl | rfl | rfl | rfl | rfl | rfl | rfl | rfl | rfl
 ·exact zQt σ
 ·exact zQu σ
 ·exact zQv σ
 ·exact zQw σ
 ·exact zQx σ
 ·exact zQy σ
 ·exact zQz σ
 ·exact absurd rfl hne
 ·exact zRa σ
 ·exact zRb σ
 ·exact zMg σ
 ·exact zMh σ
 ·exact zMi σ
 ·exact zMj σ
 ·exact zMk σ
 ·exact zMl σ
 ·exact zMm σ
 ·exact zMn σ
theorem zRc (σ : List Nat) : aB 9 (run Tryz.E1 2000 20 0 .pl rest (tmE (tmM 9 (.it .u8 (.ofNat 103))) 10 11 (.tu [.bo true,.st [123,125],.fn (.func 63) [] []]) true) (aC es 18 (0 :: σ))) = some (some (.it .u8 (.ofNat 103)),some (.pt 1 0),some (.map es 18),some (.mit 0 18 (0 :: σ) 18),true):=by kernel_rfl
theorem zRd (σ : List Nat) : aB 9 (run Tryz.E1 2000 20 0 .pl rest (tmE (tmM 9 (.it .u8 (.ofNat 103))) 10 11 (.tu [.bo true,.st [61],.fn (.func 64) [] []]) true) (aC es 18 (1 :: σ))) = some (some (.it .u8 (.ofNat 103)),some (.pt 1 0),some (.map es 18),some (.mit 0 18 (1 :: σ) 18),true):=by kernel_rfl
theorem zRe (σ : List Nat) : aB 9 (run Tryz.E1 2000 20 0 .pl rest (tmE (tmM 9 (.it .u8 (.ofNat 103))) 10 11 (.tu [.bo true,.st [97],.fn (.func 65) [] []]) true) (aC es 18 (2 :: σ))) = some (some (.it .u8 (.ofNat 103)),some (.pt 1 0),some (.map es 18),some (.mit 0 18 (2 :: σ) 18),true):=by kernel_rfl
theorem zRf (σ : List Nat) : aB 9 (run Tryz.E1 2000 20 0 .pl rest (tmE (tmM 9 (.it .u8 (.ofNat 103))) 10 11 (.tu [.bo true,.st [105],.fn (.func 66) [] []]) true) (aC es 18 (3 :: σ))) = some (some (.it .u8 (.ofNat 103)),some (.pt 1 0),some (.map es 18),some (.mit 0 18 (3 :: σ) 18),true):=by kernel_rfl
theorem zRg (σ : List Nat) : aB 9 (run Tryz.E1 2000 20 0 .pl rest (tmE (tmM 9 (.it .u8 (.ofNat 103))) 10 11 (.tu [.bo true,.st [99],.fn (.func 67) [] []]) true) (aC es 18 (4 :: σ))) = some (some (.it .u8 (.ofNat 103)),some (.pt 1 0),some (.map es 18),some (.mit 0 18 (4 :: σ) 18),true):=by kernel_rfl
theorem zRh (σ : List Nat) : aB 9 (run Tryz.E1 2000 20 0 .pl rest (tmE (tmM 9 (.it .u8 (.ofNat 103))) 10 11 (.tu [.bo true,.st [98],.fn (.func 68) [] []]) true) (aC es 18 (5 :: σ))) = some (some (.it .u8 (.ofNat 103)),some (.pt 1 0),some (.map es 18),some (.mit 0 18 (5 :: σ) 18),true):=by kernel_rfl
theorem zRi (σ : List Nat) : aB 9 (run Tryz.E1 2000 20 0 .pl rest (tmE (tmM 9 (.it .u8 (.ofNat 103))) 10 11 (.tu [.bo true,.st [116,84],.fn (.func 69) [] []]) true) (aC es 18 (6 :: σ))) = some (some (.it .u8 (.ofNat 103)),some (.pt 1 0),some (.map es 18),some (.mit 0 18 (6 :: σ) 18),true):=by kernel_rfl
theorem zRj (σ : List Nat) : aB 9 (run Tryz.E1 2000 20 0 .pl rest (tmE (tmM 9 (.it .u8 (.ofNat 103))) 10 11 (.tu [.bo true,.st [100,68],.fn (.func 70) [] []]) true) (aC es 18 (7 :: σ))) = some (some (.it .u8 (.ofNat 103)),some (.pt 1 0),some (.map es 18),some (.mit 0 18 (7 :: σ) 18),true):=by kernel_rfl
theorem zRk (σ : List Nat) : aB 9 (run Tryz.E1 2000 20 0 .pl rest (tmE (tmM 9 (.it .u8 (.ofNat 103))) 10 11 (.tu [.bo true,.st [108],.fn (.func 72) [] []]) true) (aC es 18 (9 :: σ))) = some (some (.it .u8 (.ofNat 103)),some (.pt 1 0),some (.map es 18),some (.mit 0 18 (9 :: σ) 18),true):=by kernel_rfl
theorem zMo (σ : List Nat) : aB 9 (run Tryz.E1 2000 20 0 .pl rest (tmE (tmM 9 (.it .u8 (.ofNat 103))) 10 11 (.tu [.bo true,.st [110,78],.fn (.func 73) [] []]) true) (aC es 18 (10 :: σ))) = some (some (.it .u8 (.ofNat 103)),some (.pt 1 0),some (.map es 18),some (.mit 0 18 (10 :: σ) 18),true):=by kernel_rfl
theorem zMp (σ : List Nat) : aB 9 (run Tryz.E1 2000 20 0 .pl rest (tmE (tmM 9 (.it .u8 (.ofNat 103))) 10 11 (.tu [.bo true,.st [112],.fn (.func 74) [] []]) true) (aC es 18 (11 :: σ))) = some (some (.it .u8 (.ofNat 103)),some (.pt 1 0),some (.map es 18),some (.mit 0 18 (11 :: σ) 18),true):=by kernel_rfl
theorem zMq (σ : List Nat) : aB 9 (run Tryz.E1 2000 20 0 .pl rest (tmE (tmM 9 (.it .u8 (.ofNat 103))) 10 11 (.tu [.bo true,.st [80],.fn (.func 75) [] []]) true) (aC es 18 (12 :: σ))) = some (some (.it .u8 (.ofNat 103)),some (.pt 1 0),some (.map es 18),some (.mit 0 18 (12 :: σ) 18),true):=by kernel_rfl
theorem zMr (σ : List Nat) : aB 9 (run Tryz.E1 2000 20 0 .pl rest (tmE (tmM 9 (.it .u8 (.ofNat 103))) 10 11 (.tu [.bo true,.st [113,81],.fn (.func 76) [] []]) true) (aC es 18 (13 :: σ))) = some (some (.it .u8 (.ofNat 103)),some (.pt 1 0),some (.map es 18),some (.mit 0 18 (13 :: σ) 18),true):=by kernel_rfl
theorem zMs (σ : List Nat) : aB 9 (run Tryz.E1 2000 20 0 .pl rest (tmE (tmM 9 (.it .u8 (.ofNat 103))) 10 11 (.tu [.bo true,.st [114],.fn (.func 77) [] []]) true) (aC es 18 (14 :: σ))) = some (some (.it .u8 (.ofNat 103)),some (.pt 1 0),some (.map es 18),some (.mit 0 18 (14 :: σ) 18),true):=by kernel_rfl
theorem zMt (σ : List Nat) : aB 9 (run Tryz.E1 2000 20 0 .pl rest (tmE (tmM 9 (.it .u8 (.ofNat 103))) 10 11 (.tu [.bo true,.st [119],.fn (.func 78) [] []]) true) (aC es 18 (15 :: σ))) = some (some (.it .u8 (.ofNat 103)),some (.pt 1 0),some (.map es 18),some (.mit 0 18 (15 :: σ) 18),true):=by kernel_rfl
theorem zMu (σ : List Nat) : aB 9 (run Tryz.E1 2000 20 0 .pl rest (tmE (tmM 9 (.it .u8 (.ofNat 103))) 10 11 (.tu [.bo true,.st [115],.fn (.func 79) [] []]) true) (aC es 18 (16 :: σ))) = some (some (.it .u8 (.ofNat 103)),some (.pt 1 0),some (.map es 18),some (.mit 0 18 (16 :: σ) 18),true):=by kernel_rfl
theorem zMv (σ : List Nat) : aB 9 (run Tryz.E1 2000 20 0 .pl rest (tmE (tmM 9 (.it .u8 (.ofNat 103))) 10 11 (.tu [.bo true,.st [121],.fn (.func 80) [] []]) true) (aC es 18 (17 :: σ))) = some (some (.it .u8 (.ofNat 103)),some (.pt 1 0),some (.map es 18),some (.mit 0 18 (17 :: σ) 18),true):=by kernel_rfl
theorem d103 (lo : Nat) (A : W) (args : List AV) (ha : args = [.it .u8 (.ofNat 103)]) : bC Tryz.prog lo 39 args A (.ret (.fn (.func 71) [] [])) A:=by
 refine gP (E:=Tryz.E1) Tryz.E1_ok (k:=2000) (n:=20) (its:=9) (a1:=10) (a2:=11) (es:=es) (clk:=18) (eh:=(.st [103,71,104,72,120],.fn (.func 71) [] [],8)) got body shp tmps (by decide) (nx:=nx) (ex:=ex) (by kernel_rfl) (by kernel_rfl) (by kernel_rfl) (by kernel_rfl) (by kernel_rfl) (by kernel_rfl) (by decide) (by kernel_rfl)
  (by kernel_rfl) (by kernel_rfl) (by kernel_rfl) (by kernel_rfl) (by kernel_rfl) (by kernel_rfl) (by simp [es]) (fun e he hne σ => ?_) (fun σ => by kernel_rfl) lo A args ha
 simp only [es,List.mem_cons,List.not_mem_nil,or_false] at he
 rcases he with rfl | rfl | rfl | rfl | rfl | rfl | rfl | rfl | rfl | rfl | rfl | rfl | rfl | rfl | rfl | rfl | rfl | rfl
 ·exact zRc σ
 ·exact zRd σ
 ·exact zRe σ
 ·exact zRf σ
 ·exact zRg σ
 ·exact zRh σ
 ·exact zRi σ
 ·exact zRj σ
 ·exact absurd rfl hne
 ·exact zRk σ
 ·exact zMo σ
 ·exact zMp σ
 ·exact zMq σ
 ·exact zMr σ
 ·exact zMs σ
 ·exact zMt σ
 ·exact zMu σ
 ·exact zMv σ
theorem zUy (σ : List Nat) : aB 9 (run Tryz.E1 2000 20 0 .pl rest (tmE (tmM 9 (.it .u8 (.ofNat 71))) 10 11 (.tu [.bo true,.st [123,125],.fn (.func 63) [] []]) true) (aC es 18 (0 :: σ))) = some (some (.it .u8 (.ofNat 71)),some (.pt 1 0),some (.map es 18),some (.mit 0 18 (0 :: σ) 18),true):=by kernel_rfl
theorem zUz (σ : List Nat) : aB 9 (run Tryz.E1 2000 20 0 .pl rest (tmE (tmM 9 (.it .u8 (.ofNat 71))) 10 11 (.tu [.bo true,.st [61],.fn (.func 64) [] []]) true) (aC es 18 (1 :: σ))) = some (some (.it .u8 (.ofNat 71)),some (.pt 1 0),some (.map es 18),some (.mit 0 18 (1 :: σ) 18),true):=by kernel_rfl
theorem zVa (σ : List Nat) : aB 9 (run Tryz.E1 2000 20 0 .pl rest (tmE (tmM 9 (.it .u8 (.ofNat 71))) 10 11 (.tu [.bo true,.st [97],.fn (.func 65) [] []]) true) (aC es 18 (2 :: σ))) = some (some (.it .u8 (.ofNat 71)),some (.pt 1 0),some (.map es 18),some (.mit 0 18 (2 :: σ) 18),true):=by kernel_rfl
theorem zVb (σ : List Nat) : aB 9 (run Tryz.E1 2000 20 0 .pl rest (tmE (tmM 9 (.it .u8 (.ofNat 71))) 10 11 (.tu [.bo true,.st [105],.fn (.func 66) [] []]) true) (aC es 18 (3 :: σ))) = some (some (.it .u8 (.ofNat 71)),some (.pt 1 0),some (.map es 18),some (.mit 0 18 (3 :: σ) 18),true):=by kernel_rfl
theorem zVc (σ : List Nat) : aB 9 (run Tryz.E1 2000 20 0 .pl rest (tmE (tmM 9 (.it .u8 (.ofNat 71))) 10 11 (.tu [.bo true,.st [99],.fn (.func 67) [] []]) true) (aC es 18 (4 :: σ))) = some (some (.it .u8 (.ofNat 71)),some (.pt 1 0),some (.map es 18),some (.mit 0 18 (4 :: σ) 18),true):=by kernel_rfl
theorem zVd (σ : List Nat) : aB 9 (run Tryz.E1 2000 20 0 .pl rest (tmE (tmM 9 (.it .u8 (.ofNat 71))) 10 11 (.tu [.bo true,.st [98],.fn (.func 68) [] []]) true) (aC es 18 (5 :: σ))) = some (some (.it .u8 (.ofNat 71)),some (.pt 1 0),some (.map es 18),some (.mit 0 18 (5 :: σ) 18),true):=by kernel_rfl
theorem zVe (σ : List Nat) : aB 9 (run Tryz.E1 2000 20 0 .pl rest (tmE (tmM 9 (.it .u8 (.ofNat 71))) 10 11 (.tu [.bo true,.st [116,84],.fn (.func 69) [] []]) true) (aC es 18 (6 :: σ))) = some (some (.it .u8 (.ofNat 71)),some (.pt 1 0),some (.map es 18),some (.mit 0 18 (6 :: σ) 18),true):=by kernel_rfl
theorem zVf (σ : List Nat) : aB 9 (run Tryz.E1 2000 20 0 .pl rest (tmE (tmM 9 (.it .u8 (.ofNat 71))) 10 11 (.tu [.bo true,.st [100,68],.fn (.func 70) [] []]) true) (aC es 18 (7 :: σ))) = some (some (.it .u8 (.ofNat 71)),some (.pt 1 0),some (.map es 18),some (.mit 0 18 (7 :: σ) 18),true):=by kernel_rfl
theorem zVg (σ : List Nat) : aB 9 (run Tryz.E1 2000 20 0 .pl rest (tmE (tmM 9 (.it .u8 (.ofNat 71))) 10 11 (.tu [.bo true,.st [108],.fn (.func 72) [] []]) true) (aC es 18 (9 :: σ))) = some (some (.it .u8 (.ofNat 71)),some (.pt 1 0),some (.map es 18),some (.mit 0 18 (9 :: σ) 18),true):=by kernel_rfl
theorem zRl (σ : List Nat) : aB 9 (run Tryz.E1 2000 20 0 .pl rest (tmE (tmM 9 (.it .u8 (.ofNat 71))) 10 11 (.tu [.bo true,.st [110,78],.fn (.func 73) [] []]) true) (aC es 18 (10 :: σ))) = some (some (.it .u8 (.ofNat 71)),some (.pt 1 0),some (.map es 18),some (.mit 0 18 (10 :: σ) 18),true):=by kernel_rfl
theorem zRm (σ : List Nat) : aB 9 (run Tryz.E1 2000 20 0 .pl rest (tmE (tmM 9 (.it .u8 (.ofNat 71))) 10 11 (.tu [.bo true,.st [112],.fn (.func 74) [] []]) true) (aC es 18 (11 :: σ))) = some (some (.it .u8 (.ofNat 71)),some (.pt 1 0),some (.map es 18),some (.mit 0 18 (11 :: σ) 18),true):=by kernel_rfl
theorem zRn (σ : List Nat) : aB 9 (run Tryz.E1 2000 20 0 .pl rest (tmE (tmM 9 (.it .u8 (.ofNat 71))) 10 11 (.tu [.bo true,.st [80],.fn (.func 75) [] []]) true) (aC es 18 (12 :: σ))) = some (some (.it .u8 (.ofNat 71)),some (.pt 1 0),some (.map es 18),some (.mit 0 18 (12 :: σ) 18),true):=by kernel_rfl
theorem zRo (σ : List Nat) : aB 9 (run Tryz.E1 2000 20 0 .pl rest (tmE (tmM 9 (.it .u8 (.ofNat 71))) 10 11 (.tu [.bo true,.st [113,81],.fn (.func 76) [] []]) true) (aC es 18 (13 :: σ))) = some (some (.it .u8 (.ofNat 71)),some (.pt 1 0),some (.map es 18),some (.mit 0 18 (13 :: σ) 18),true):=by kernel_rfl
theorem zRp (σ : List Nat) : aB 9 (run Tryz.E1 2000 20 0 .pl rest (tmE (tmM 9 (.it .u8 (.ofNat 71))) 10 11 (.tu [.bo true,.st [114],.fn (.func 77) [] []]) true) (aC es 18 (14 :: σ))) = some (some (.it .u8 (.ofNat 71)),some (.pt 1 0),some (.map es 18),some (.mit 0 18 (14 :: σ) 18),true):=by kernel_rfl
theorem zRq (σ : List Nat) : aB 9 (run Tryz.E1 2000 20 0 .pl rest (tmE (tmM 9 (.it .u8 (.ofNat 71))) 10 11 (.tu [.bo true,.st [119],.fn (.func 78) [] []]) true) (aC es 18 (15 :: σ))) = some (some (.it .u8 (.ofNat 71)),some (.pt 1 0),some (.map es 18),some (.mit 0 18 (15 :: σ) 18),true):=by kernel_rfl
theorem zRr (σ : List Nat) : aB 9 (run Tryz.E1 2000 20 0 .pl rest (tmE (tmM 9 (.it .u8 (.ofNat 71))) 10 11 (.tu [.bo true,.st [115],.fn (.func 79) [] []]) true) (aC es 18 (16 :: σ))) = some (some (.it .u8 (.ofNat 71)),some (.pt 1 0),some (.map es 18),some (.mit 0 18 (16 :: σ) 18),true):=by kernel_rfl
theorem zRs (σ : List Nat) : aB 9 (run Tryz.E1 2000 20 0 .pl rest (tmE (tmM 9 (.it .u8 (.ofNat 71))) 10 11 (.tu [.bo true,.st [121],.fn (.func 80) [] []]) true) (aC es 18 (17 :: σ))) = some (some (.it .u8 (.ofNat 71)),some (.pt 1 0),some (.map es 18),some (.mit 0 18 (17 :: σ) 18),true):=by kernel_rfl
theorem d71 (lo : Nat) (A : W) (args : List AV) (ha : args = [.it .u8 (.ofNat 71)]) : bC Tryz.prog lo 39 args A (.ret (.fn (.func 71) [] [])) A:=by
 refine gP (E:=Tryz.E1) Tryz.E1_ok (k:=2000) (n:=20) (its:=9) (a1:=10) (a2:=11) (es:=es) (clk:=18) (eh:=(.st [103,71,104,72,120],.fn (.func 71) [] [],8)) got body shp tmps (by decide) (nx:=nx) (ex:=ex) (by kernel_rfl) (by kernel_rfl) (by kernel_rfl) (by kernel_rfl) (by kernel_rfl) (by kernel_rfl) (by decide) (by kernel_rfl)
  (by kernel_rfl) (by kernel_rfl) (by kernel_rfl) (by kernel_rfl) (by kernel_rfl) (by kernel_rfl) (by simp [es]) (fun e he hne σ => ?_) (fun σ => by kernel_rfl) lo A args ha
 simp only [es,List.mem_cons,List.not_mem_nil,or_false] at he
 rcases he with rfl | rfl | rfl | rfl | rfl | rfl | rfl | rfl | rfl | rfl | rfl | rfl | rfl | rfl | rfl | rfl | rfl | rfl
 ·exact zUy σ
 ·exact zUz σ
 ·exact zVa σ
 ·exact zVb σ
 ·exact zVc σ
 ·exact zVd σ
 ·exact zVe σ
 ·exact zVf σ
 ·exact absurd rfl hne
 ·exact zVg σ
 ·exact zRl σ
 ·exact zRm σ
 ·exact zRn σ
 ·exact zRo σ
 ·exact zRp σ
 ·exact zRq σ
 ·exact zRr σ
 ·exact zRs σ
theorem zRt (σ : List Nat) : aB 9 (run Tryz.E1 2000 20 0 .pl rest (tmE (tmM 9 (.it .u8 (.ofNat 104))) 10 11 (.tu [.bo true,.st [123,125],.fn (.func 63) [] []]) true) (aC es 18 (0 :: σ))) = some (some (.it .u8 (.ofNat 104)),some (.pt 1 0),some (.map es 18),some (.mit 0 18 (0 :: σ) 18),true):=by kernel_rfl
theorem zRu (σ : List Nat) : aB 9 (run Tryz.E1 2000 20 0 .pl rest (tmE (tmM 9 (.it .u8 (.ofNat 104))) 10 11 (.tu [.bo true,.st [61],.fn (.func 64) [] []]) true) (aC es 18 (1 :: σ))) = some (some (.it .u8 (.ofNat 104)),some (.pt 1 0),some (.map es 18),some (.mit 0 18 (1 :: σ) 18),true):=by kernel_rfl
theorem zRv (σ : List Nat) : aB 9 (run Tryz.E1 2000 20 0 .pl rest (tmE (tmM 9 (.it .u8 (.ofNat 104))) 10 11 (.tu [.bo true,.st [97],.fn (.func 65) [] []]) true) (aC es 18 (2 :: σ))) = some (some (.it .u8 (.ofNat 104)),some (.pt 1 0),some (.map es 18),some (.mit 0 18 (2 :: σ) 18),true):=by kernel_rfl
theorem zRw (σ : List Nat) : aB 9 (run Tryz.E1 2000 20 0 .pl rest (tmE (tmM 9 (.it .u8 (.ofNat 104))) 10 11 (.tu [.bo true,.st [105],.fn (.func 66) [] []]) true) (aC es 18 (3 :: σ))) = some (some (.it .u8 (.ofNat 104)),some (.pt 1 0),some (.map es 18),some (.mit 0 18 (3 :: σ) 18),true):=by kernel_rfl
theorem zRx (σ : List Nat) : aB 9 (run Tryz.E1 2000 20 0 .pl rest (tmE (tmM 9 (.it .u8 (.ofNat 104))) 10 11 (.tu [.bo true,.st [99],.fn (.func 67) [] []]) true) (aC es 18 (4 :: σ))) = some (some (.it .u8 (.ofNat 104)),some (.pt 1 0),some (.map es 18),some (.mit 0 18 (4 :: σ) 18),true):=by kernel_rfl
theorem zRy (σ : List Nat) : aB 9 (run Tryz.E1 2000 20 0 .pl rest (tmE (tmM 9 (.it .u8 (.ofNat 104))) 10 11 (.tu [.bo true,.st [98],.fn (.func 68) [] []]) true) (aC es 18 (5 :: σ))) = some (some (.it .u8 (.ofNat 104)),some (.pt 1 0),some (.map es 18),some (.mit 0 18 (5 :: σ) 18),true):=by kernel_rfl
theorem zRz (σ : List Nat) : aB 9 (run Tryz.E1 2000 20 0 .pl rest (tmE (tmM 9 (.it .u8 (.ofNat 104))) 10 11 (.tu [.bo true,.st [116,84],.fn (.func 69) [] []]) true) (aC es 18 (6 :: σ))) = some (some (.it .u8 (.ofNat 104)),some (.pt 1 0),some (.map es 18),some (.mit 0 18 (6 :: σ) 18),true):=by kernel_rfl
theorem zSa (σ : List Nat) : aB 9 (run Tryz.E1 2000 20 0 .pl rest (tmE (tmM 9 (.it .u8 (.ofNat 104))) 10 11 (.tu [.bo true,.st [100,68],.fn (.func 70) [] []]) true) (aC es 18 (7 :: σ))) = some (some (.it .u8 (.ofNat 104)),some (.pt 1 0),some (.map es 18),some (.mit 0 18 (7 :: σ) 18),true):=by kernel_rfl
theorem zSb (σ : List Nat) : aB 9 (run Tryz.E1 2000 20 0 .pl rest (tmE (tmM 9 (.it .u8 (.ofNat 104))) 10 11 (.tu [.bo true,.st [108],.fn (.func 72) [] []]) true) (aC es 18 (9 :: σ))) = some (some (.it .u8 (.ofNat 104)),some (.pt 1 0),some (.map es 18),some (.mit 0 18 (9 :: σ) 18),true):=by kernel_rfl
theorem zMw (σ : List Nat) : aB 9 (run Tryz.E1 2000 20 0 .pl rest (tmE (tmM 9 (.it .u8 (.ofNat 104))) 10 11 (.tu [.bo true,.st [110,78],.fn (.func 73) [] []]) true) (aC es 18 (10 :: σ))) = some (some (.it .u8 (.ofNat 104)),some (.pt 1 0),some (.map es 18),some (.mit 0 18 (10 :: σ) 18),true):=by kernel_rfl
theorem zMx (σ : List Nat) : aB 9 (run Tryz.E1 2000 20 0 .pl rest (tmE (tmM 9 (.it .u8 (.ofNat 104))) 10 11 (.tu [.bo true,.st [112],.fn (.func 74) [] []]) true) (aC es 18 (11 :: σ))) = some (some (.it .u8 (.ofNat 104)),some (.pt 1 0),some (.map es 18),some (.mit 0 18 (11 :: σ) 18),true):=by kernel_rfl
theorem zMy (σ : List Nat) : aB 9 (run Tryz.E1 2000 20 0 .pl rest (tmE (tmM 9 (.it .u8 (.ofNat 104))) 10 11 (.tu [.bo true,.st [80],.fn (.func 75) [] []]) true) (aC es 18 (12 :: σ))) = some (some (.it .u8 (.ofNat 104)),some (.pt 1 0),some (.map es 18),some (.mit 0 18 (12 :: σ) 18),true):=by kernel_rfl
theorem zMz (σ : List Nat) : aB 9 (run Tryz.E1 2000 20 0 .pl rest (tmE (tmM 9 (.it .u8 (.ofNat 104))) 10 11 (.tu [.bo true,.st [113,81],.fn (.func 76) [] []]) true) (aC es 18 (13 :: σ))) = some (some (.it .u8 (.ofNat 104)),some (.pt 1 0),some (.map es 18),some (.mit 0 18 (13 :: σ) 18),true):=by kernel_rfl
theorem zNa (σ : List Nat) : aB 9 (run Tryz.E1 2000 20 0 .pl rest (tmE (tmM 9 (.it .u8 (.ofNat 104))) 10 11 (.tu [.bo true,.st [114],.fn (.func 77) [] []]) true) (aC es 18 (14 :: σ))) = some (some (.it .u8 (.ofNat 104)),some (.pt 1 0),some (.map es 18),some (.mit 0 18 (14 :: σ) 18),true):=by kernel_rfl
theorem zNb (σ : List Nat) : aB 9 (run Tryz.E1 2000 20 0 .pl rest (tmE (tmM 9 (.it .u8 (.ofNat 104))) 10 11 (.tu [.bo true,.st [119],.fn (.func 78) [] []]) true) (aC es 18 (15 :: σ))) = some (some (.it .u8 (.ofNat 104)),some (.pt 1 0),some (.map es 18),some (.mit 0 18 (15 :: σ) 18),true):=by kernel_rfl
theorem zNc (σ : List Nat) : aB 9 (run Tryz.E1 2000 20 0 .pl rest (tmE (tmM 9 (.it .u8 (.ofNat 104))) 10 11 (.tu [.bo true,.st [115],.fn (.func 79) [] []]) true) (aC es 18 (16 :: σ))) = some (some (.it .u8 (.ofNat 104)),some (.pt 1 0),some (.map es 18),some (.mit 0 18 (16 :: σ) 18),true):=by kernel_rfl
theorem zNd (σ : List Nat) : aB 9 (run Tryz.E1 2000 20 0 .pl rest (tmE (tmM 9 (.it .u8 (.ofNat 104))) 10 11 (.tu [.bo true,.st [121],.fn (.func 80) [] []]) true) (aC es 18 (17 :: σ))) = some (some (.it .u8 (.ofNat 104)),some (.pt 1 0),some (.map es 18),some (.mit 0 18 (17 :: σ) 18),true):=by kernel_rfl
theorem d104 (lo : Nat) (A : W) (args : List AV) (ha : args = [.it .u8 (.ofNat 104)]) : bC Tryz.prog lo 39 args A (.ret (.fn (.func 71) [] [])) A:=by
 refine gP (E:=Tryz.E1) Tryz.E1_ok (k:=2000) (n:=20) (its:=9) (a1:=10) (a2:=11) (es:=es) (clk:=18) (eh:=(.st [103,71,104,72,120],.fn (.func 71) [] [],8)) got body shp tmps (by decide) (nx:=nx) (ex:=ex) (by kernel_rfl) (by kernel_rfl) (by kernel_rfl) (by kernel_rfl) (by kernel_rfl) (by kernel_rfl) (by decide) (by kernel_rfl)
  (by kernel_rfl) (by kernel_rfl) (by kernel_rfl) (by kernel_rfl) (by kernel_rfl) (by kernel_rfl) (by simp [es]) (fun e he hne σ => ?_) (fun σ => by kernel_rfl) lo A args ha
 simp only [es,List.mem_cons,List.not_mem_nil,or_false] at he
 rcases he with rfl | rfl | rfl | rfl | rfl | rfl | rfl | rfl | rfl | rfl | rfl | rfl | rfl | rfl | rfl | rfl | rfl | rfl
 ·exact zRt σ
 ·exact zRu σ
 ·exact zRv σ
 ·exact zRw σ
 ·exact zRx σ
 ·exact zRy σ
 ·exact zRz σ
 ·exact zSa σ
 ·exact absurd rfl hne
 ·exact zSb σ
 ·exact zMw σ
 ·exact zMx σ
 ·exact zMy σ
 ·exact zMz σ
 ·exact zNa σ
 ·exact zNb σ
 ·exact zNc σ
 ·exact zNd σ
theorem zVh (σ : List Nat) : aB 9 (run Tryz.E1 2000 20 0 .pl rest (tmE (tmM 9 (.it .u8 (.ofNat 72))) 10 11 (.tu [.bo true,.st [123,125],.fn (.func 63) [] []]) true) (aC es 18 (0 :: σ))) = some (some (.it .u8 (.ofNat 72)),some (.pt 1 0),some (.map es 18),some (.mit 0 18 (0 :: σ) 18),true):=by kernel_rfl
theorem zVi (σ : List Nat) : aB 9 (run Tryz.E1 2000 20 0 .pl rest (tmE (tmM 9 (.it .u8 (.ofNat 72))) 10 11 (.tu [.bo true,.st [61],.fn (.func 64) [] []]) true) (aC es 18 (1 :: σ))) = some (some (.it .u8 (.ofNat 72)),some (.pt 1 0),some (.map es 18),some (.mit 0 18 (1 :: σ) 18),true):=by kernel_rfl
theorem zVj (σ : List Nat) : aB 9 (run Tryz.E1 2000 20 0 .pl rest (tmE (tmM 9 (.it .u8 (.ofNat 72))) 10 11 (.tu [.bo true,.st [97],.fn (.func 65) [] []]) true) (aC es 18 (2 :: σ))) = some (some (.it .u8 (.ofNat 72)),some (.pt 1 0),some (.map es 18),some (.mit 0 18 (2 :: σ) 18),true):=by kernel_rfl
theorem zVk (σ : List Nat) : aB 9 (run Tryz.E1 2000 20 0 .pl rest (tmE (tmM 9 (.it .u8 (.ofNat 72))) 10 11 (.tu [.bo true,.st [105],.fn (.func 66) [] []]) true) (aC es 18 (3 :: σ))) = some (some (.it .u8 (.ofNat 72)),some (.pt 1 0),some (.map es 18),some (.mit 0 18 (3 :: σ) 18),true):=by kernel_rfl
theorem zVl (σ : List Nat) : aB 9 (run Tryz.E1 2000 20 0 .pl rest (tmE (tmM 9 (.it .u8 (.ofNat 72))) 10 11 (.tu [.bo true,.st [99],.fn (.func 67) [] []]) true) (aC es 18 (4 :: σ))) = some (some (.it .u8 (.ofNat 72)),some (.pt 1 0),some (.map es 18),some (.mit 0 18 (4 :: σ) 18),true):=by kernel_rfl
theorem zVm (σ : List Nat) : aB 9 (run Tryz.E1 2000 20 0 .pl rest (tmE (tmM 9 (.it .u8 (.ofNat 72))) 10 11 (.tu [.bo true,.st [98],.fn (.func 68) [] []]) true) (aC es 18 (5 :: σ))) = some (some (.it .u8 (.ofNat 72)),some (.pt 1 0),some (.map es 18),some (.mit 0 18 (5 :: σ) 18),true):=by kernel_rfl
theorem zVn (σ : List Nat) : aB 9 (run Tryz.E1 2000 20 0 .pl rest (tmE (tmM 9 (.it .u8 (.ofNat 72))) 10 11 (.tu [.bo true,.st [116,84],.fn (.func 69) [] []]) true) (aC es 18 (6 :: σ))) = some (some (.it .u8 (.ofNat 72)),some (.pt 1 0),some (.map es 18),some (.mit 0 18 (6 :: σ) 18),true):=by kernel_rfl
theorem zVo (σ : List Nat) : aB 9 (run Tryz.E1 2000 20 0 .pl rest (tmE (tmM 9 (.it .u8 (.ofNat 72))) 10 11 (.tu [.bo true,.st [100,68],.fn (.func 70) [] []]) true) (aC es 18 (7 :: σ))) = some (some (.it .u8 (.ofNat 72)),some (.pt 1 0),some (.map es 18),some (.mit 0 18 (7 :: σ) 18),true):=by kernel_rfl
theorem zVp (σ : List Nat) : aB 9 (run Tryz.E1 2000 20 0 .pl rest (tmE (tmM 9 (.it .u8 (.ofNat 72))) 10 11 (.tu [.bo true,.st [108],.fn (.func 72) [] []]) true) (aC es 18 (9 :: σ))) = some (some (.it .u8 (.ofNat 72)),some (.pt 1 0),some (.map es 18),some (.mit 0 18 (9 :: σ) 18),true):=by kernel_rfl
theorem zSc (σ : List Nat) : aB 9 (run Tryz.E1 2000 20 0 .pl rest (tmE (tmM 9 (.it .u8 (.ofNat 72))) 10 11 (.tu [.bo true,.st [110,78],.fn (.func 73) [] []]) true) (aC es 18 (10 :: σ))) = some (some (.it .u8 (.ofNat 72)),some (.pt 1 0),some (.map es 18),some (.mit 0 18 (10 :: σ) 18),true):=by kernel_rfl
theorem zSd (σ : List Nat) : aB 9 (run Tryz.E1 2000 20 0 .pl rest (tmE (tmM 9 (.it .u8 (.ofNat 72))) 10 11 (.tu [.bo true,.st [112],.fn (.func 74) [] []]) true) (aC es 18 (11 :: σ))) = some (some (.it .u8 (.ofNat 72)),some (.pt 1 0),some (.map es 18),some (.mit 0 18 (11 :: σ) 18),true):=by kernel_rfl
theorem zSe (σ : List Nat) : aB 9 (run Tryz.E1 2000 20 0 .pl rest (tmE (tmM 9 (.it .u8 (.ofNat 72))) 10 11 (.tu [.bo true,.st [80],.fn (.func 75) [] []]) true) (aC es 18 (12 :: σ))) = some (some (.it .u8 (.ofNat 72)),some (.pt 1 0),some (.map es 18),some (.mit 0 18 (12 :: σ) 18),true):=by kernel_rfl
theorem zSf (σ : List Nat) : aB 9 (run Tryz.E1 2000 20 0 .pl rest (tmE (tmM 9 (.it .u8 (.ofNat 72))) 10 11 (.tu [.bo true,.st [113,81],.fn (.func 76) [] []]) true) (aC es 18 (13 :: σ))) = some (some (.it .u8 (.ofNat 72)),some (.pt 1 0),some (.map es 18),some (.mit 0 18 (13 :: σ) 18),true):=by kernel_rfl
theorem zSg (σ : List Nat) : aB 9 (run Tryz.E1 2000 20 0 .pl rest (tmE (tmM 9 (.it .u8 (.ofNat 72))) 10 11 (.tu [.bo true,.st [114],.fn (.func 77) [] []]) true) (aC es 18 (14 :: σ))) = some (some (.it .u8 (.ofNat 72)),some (.pt 1 0),some (.map es 18),some (.mit 0 18 (14 :: σ) 18),true):=by kernel_rfl
theorem zSh (σ : List Nat) : aB 9 (run Tryz.E1 2000 20 0 .pl rest (tmE (tmM 9 (.it .u8 (.ofNat 72))) 10 11 (.tu [.bo true,.st [119],.fn (.func 78) [] []]) true) (aC es 18 (15 :: σ))) = some (some (.it .u8 (.ofNat 72)),some (.pt 1 0),some (.map es 18),some (.mit 0 18 (15 :: σ) 18),true):=by kernel_rfl
theorem zSi (σ : List Nat) : aB 9 (run Tryz.E1 2000 20 0 .pl rest (tmE (tmM 9 (.it .u8 (.ofNat 72))) 10 11 (.tu [.bo true,.st [115],.fn (.func 79) [] []]) true) (aC es 18 (16 :: σ))) = some (some (.it .u8 (.ofNat 72)),some (.pt 1 0),some (.map es 18),some (.mit 0 18 (16 :: σ) 18),true):=by kernel_rfl
theorem zSj (σ : List Nat) : aB 9 (run Tryz.E1 2000 20 0 .pl rest (tmE (tmM 9 (.it .u8 (.ofNat 72))) 10 11 (.tu [.bo true,.st [121],.fn (.func 80) [] []]) true) (aC es 18 (17 :: σ))) = some (some (.it .u8 (.ofNat 72)),some (.pt 1 0),some (.map es 18),some (.mit 0 18 (17 :: σ) 18),true):=by kernel_rfl
theorem d72 (lo : Nat) (A : W) (args : List AV) (ha : args = [.it .u8 (.ofNat 72)]) : bC Tryz.prog lo 39 args A (.ret (.fn (.func 71) [] [])) A:=by
 refine gP (E:=Tryz.E1) Tryz.E1_ok (k:=2000) (n:=20) (its:=9) (a1:=10) (a2:=11) (es:=es) (clk:=18) (eh:=(.st [103,71,104,72,120],.fn (.func 71) [] [],8)) got body shp tmps (by decide) (nx:=nx) (ex:=ex) (by kernel_rfl) (by kernel_rfl) (by kernel_rfl) (by kernel_rfl) (by kernel_rfl) (by kernel_rfl) (by decide) (by kernel_rfl)
  (by kernel_rfl) (by kernel_rfl) (by kernel_rfl) (by kernel_rfl) (by kernel_rfl) (by kernel_rfl) (by simp [es]) (fun e he hne σ => ?_) (fun σ => by kernel_rfl) lo A args ha
 simp only [es,List.mem_cons,List.not_mem_nil,or_false] at he
 rcases he with rfl | rfl | rfl | rfl | rfl | rfl | rfl | rfl | rfl | rfl | rfl | rfl | rfl | rfl | rfl | rfl | rfl | rfl
 ·exact zVh σ
 ·exact zVi σ
 ·exact zVj σ
 ·exact zVk σ
 ·exact zVl σ
 ·exact zVm σ
 ·exact zVn σ
 ·exact zVo σ
 ·exact absurd rfl hne
 ·exact zVp σ
 ·exact zSc σ
 ·exact zSd σ
 ·exact zSe σ
 ·exact zSf σ
 ·exact zSg σ
 ·exact zSh σ
 ·exact zSi σ
 ·exact zSj σ
theorem zSk (σ : List Nat) : aB 9 (run Tryz.E1 2000 20 0 .pl rest (tmE (tmM 9 (.it .u8 (.ofNat 120))) 10 11 (.tu [.bo true,.st [123,125],.fn (.func 63) [] []]) true) (aC es 18 (0 :: σ))) = some (some (.it .u8 (.ofNat 120)),some (.pt 1 0),some (.map es 18),some (.mit 0 18 (0 :: σ) 18),true):=by kernel_rfl
theorem zSl (σ : List Nat) : aB 9 (run Tryz.E1 2000 20 0 .pl rest (tmE (tmM 9 (.it .u8 (.ofNat 120))) 10 11 (.tu [.bo true,.st [61],.fn (.func 64) [] []]) true) (aC es 18 (1 :: σ))) = some (some (.it .u8 (.ofNat 120)),some (.pt 1 0),some (.map es 18),some (.mit 0 18 (1 :: σ) 18),true):=by kernel_rfl
theorem zSm (σ : List Nat) : aB 9 (run Tryz.E1 2000 20 0 .pl rest (tmE (tmM 9 (.it .u8 (.ofNat 120))) 10 11 (.tu [.bo true,.st [97],.fn (.func 65) [] []]) true) (aC es 18 (2 :: σ))) = some (some (.it .u8 (.ofNat 120)),some (.pt 1 0),some (.map es 18),some (.mit 0 18 (2 :: σ) 18),true):=by kernel_rfl
theorem zSn (σ : List Nat) : aB 9 (run Tryz.E1 2000 20 0 .pl rest (tmE (tmM 9 (.it .u8 (.ofNat 120))) 10 11 (.tu [.bo true,.st [105],.fn (.func 66) [] []]) true) (aC es 18 (3 :: σ))) = some (some (.it .u8 (.ofNat 120)),some (.pt 1 0),some (.map es 18),some (.mit 0 18 (3 :: σ) 18),true):=by kernel_rfl
theorem zSo (σ : List Nat) : aB 9 (run Tryz.E1 2000 20 0 .pl rest (tmE (tmM 9 (.it .u8 (.ofNat 120))) 10 11 (.tu [.bo true,.st [99],.fn (.func 67) [] []]) true) (aC es 18 (4 :: σ))) = some (some (.it .u8 (.ofNat 120)),some (.pt 1 0),some (.map es 18),some (.mit 0 18 (4 :: σ) 18),true):=by kernel_rfl
theorem zSp (σ : List Nat) : aB 9 (run Tryz.E1 2000 20 0 .pl rest (tmE (tmM 9 (.it .u8 (.ofNat 120))) 10 11 (.tu [.bo true,.st [98],.fn (.func 68) [] []]) true) (aC es 18 (5 :: σ))) = some (some (.it .u8 (.ofNat 120)),some (.pt 1 0),some (.map es 18),some (.mit 0 18 (5 :: σ) 18),true):=by kernel_rfl
theorem zSq (σ : List Nat) : aB 9 (run Tryz.E1 2000 20 0 .pl rest (tmE (tmM 9 (.it .u8 (.ofNat 120))) 10 11 (.tu [.bo true,.st [116,84],.fn (.func 69) [] []]) true) (aC es 18 (6 :: σ))) = some (some (.it .u8 (.ofNat 120)),some (.pt 1 0),some (.map es 18),some (.mit 0 18 (6 :: σ) 18),true):=by kernel_rfl
theorem zSr (σ : List Nat) : aB 9 (run Tryz.E1 2000 20 0 .pl rest (tmE (tmM 9 (.it .u8 (.ofNat 120))) 10 11 (.tu [.bo true,.st [100,68],.fn (.func 70) [] []]) true) (aC es 18 (7 :: σ))) = some (some (.it .u8 (.ofNat 120)),some (.pt 1 0),some (.map es 18),some (.mit 0 18 (7 :: σ) 18),true):=by kernel_rfl
theorem zSs (σ : List Nat) : aB 9 (run Tryz.E1 2000 20 0 .pl rest (tmE (tmM 9 (.it .u8 (.ofNat 120))) 10 11 (.tu [.bo true,.st [108],.fn (.func 72) [] []]) true) (aC es 18 (9 :: σ))) = some (some (.it .u8 (.ofNat 120)),some (.pt 1 0),some (.map es 18),some (.mit 0 18 (9 :: σ) 18),true):=by kernel_rfl
theorem zNe (σ : List Nat) : aB 9 (run Tryz.E1 2000 20 0 .pl rest (tmE (tmM 9 (.it .u8 (.ofNat 120))) 10 11 (.tu [.bo true,.st [110,78],.fn (.func 73) [] []]) true) (aC es 18 (10 :: σ))) = some (some (.it .u8 (.ofNat 120)),some (.pt 1 0),some (.map es 18),some (.mit 0 18 (10 :: σ) 18),true):=by kernel_rfl
theorem zNf (σ : List Nat) : aB 9 (run Tryz.E1 2000 20 0 .pl rest (tmE (tmM 9 (.it .u8 (.ofNat 120))) 10 11 (.tu [.bo true,.st [112],.fn (.func 74) [] []]) true) (aC es 18 (11 :: σ))) = some (some (.it .u8 (.ofNat 120)),some (.pt 1 0),some (.map es 18),some (.mit 0 18 (11 :: σ) 18),true):=by kernel_rfl
theorem zNg (σ : List Nat) : aB 9 (run Tryz.E1 2000 20 0 .pl rest (tmE (tmM 9 (.it .u8 (.ofNat 120))) 10 11 (.tu [.bo true,.st [80],.fn (.func 75) [] []]) true) (aC es 18 (12 :: σ))) = some (some (.it .u8 (.ofNat 120)),some (.pt 1 0),some (.map es 18),some (.mit 0 18 (12 :: σ) 18),true):=by kernel_rfl
theorem zNh (σ : List Nat) : aB 9 (run Tryz.E1 2000 20 0 .pl rest (tmE (tmM 9 (.it .u8 (.ofNat 120))) 10 11 (.tu [.bo true,.st [113,81],.fn (.func 76) [] []]) true) (aC es 18 (13 :: σ))) = some (some (.it .u8 (.ofNat 120)),some (.pt 1 0),some (.map es 18),some (.mit 0 18 (13 :: σ) 18),true):=by kernel_rfl
theorem zNi (σ : List Nat) : aB 9 (run Tryz.E1 2000 20 0 .pl rest (tmE (tmM 9 (.it .u8 (.ofNat 120))) 10 11 (.tu [.bo true,.st [114],.fn (.func 77) [] []]) true) (aC es 18 (14 :: σ))) = some (some (.it .u8 (.ofNat 120)),some (.pt 1 0),some (.map es 18),some (.mit 0 18 (14 :: σ) 18),true):=by kernel_rfl
theorem zNj (σ : List Nat) : aB 9 (run Tryz.E1 2000 20 0 .pl rest (tmE (tmM 9 (.it .u8 (.ofNat 120))) 10 11 (.tu [.bo true,.st [119],.fn (.func 78) [] []]) true) (aC es 18 (15 :: σ))) = some (some (.it .u8 (.ofNat 120)),some (.pt 1 0),some (.map es 18),some (.mit 0 18 (15 :: σ) 18),true):=by kernel_rfl
theorem zNk (σ : List Nat) : aB 9 (run Tryz.E1 2000 20 0 .pl rest (tmE (tmM 9 (.it .u8 (.ofNat 120))) 10 11 (.tu [.bo true,.st [115],.fn (.func 79) [] []]) true) (aC es 18 (16 :: σ))) = some (some (.it .u8 (.ofNat 120)),some (.pt 1 0),some (.map es 18),some (.mit 0 18 (16 :: σ) 18),true):=by kernel_rfl
theorem zNl (σ : List Nat) : aB 9 (run Tryz.E1 2000 20 0 .pl rest (tmE (tmM 9 (.it .u8 (.ofNat 120))) 10 11 (.tu [.bo true,.st [121],.fn (.func 80) [] []]) true) (aC es 18 (17 :: σ))) = some (some (.it .u8 (.ofNat 120)),some (.pt 1 0),some (.map es 18),some (.mit 0 18 (17 :: σ) 18),true):=by kernel_rfl
theorem d120 (lo : Nat) (A : W) (args : List AV) (ha : args = [.it .u8 (.ofNat 120)]) : bC Tryz.prog lo 39 args A (.ret (.fn (.func 71) [] [])) A:=by
 refine gP (E:=Tryz.E1) Tryz.E1_ok (k:=2000) (n:=20) (its:=9) (a1:=10) (a2:=11) (es:=es) (clk:=18) (eh:=(.st [103,71,104,72,120],.fn (.func 71) [] [],8)) got body shp tmps (by decide) (nx:=nx) (ex:=ex) (by kernel_rfl) (by kernel_rfl) (by kernel_rfl) (by kernel_rfl) (by kernel_rfl) (by kernel_rfl) (by decide) (by kernel_rfl)
  (by kernel_rfl) (by kernel_rfl) (by kernel_rfl) (by kernel_rfl) (by kernel_rfl) (by kernel_rfl) (by simp [es]) (fun e he hne σ => ?_) (fun σ => by kernel_rfl) lo A args ha
 simp only [es,List.mem_cons,List.not_mem_nil,or_false] at he
 rcases he with rfl | rfl | rfl | rfl | rfl | rfl | rfl | rfl | rfl | rfl | rfl | rfl | rfl | rfl | rfl | rfl | rfl | rfl
 ·exact zSk σ
 ·exact zSl σ
 ·exact zSm σ
 ·exact zSn σ
 ·exact zSo σ
 ·exact zSp σ
 ·exact zSq σ
 ·exact zSr σ
 ·exact absurd rfl hne
 ·exact zSs σ
 ·exact zNe σ
 ·exact zNf σ
 ·exact zNg σ
 ·exact zNh σ
 ·exact zNi σ
 ·exact zNj σ
 ·exact zNk σ
 ·exact zNl σ
theorem zSt (σ : List Nat) : aB 9 (run Tryz.E1 2000 20 0 .pl rest (tmE (tmM 9 (.it .u8 (.ofNat 112))) 10 11 (.tu [.bo true,.st [123,125],.fn (.func 63) [] []]) true) (aC es 18 (0 :: σ))) = some (some (.it .u8 (.ofNat 112)),some (.pt 1 0),some (.map es 18),some (.mit 0 18 (0 :: σ) 18),true):=by kernel_rfl
theorem zSu (σ : List Nat) : aB 9 (run Tryz.E1 2000 20 0 .pl rest (tmE (tmM 9 (.it .u8 (.ofNat 112))) 10 11 (.tu [.bo true,.st [61],.fn (.func 64) [] []]) true) (aC es 18 (1 :: σ))) = some (some (.it .u8 (.ofNat 112)),some (.pt 1 0),some (.map es 18),some (.mit 0 18 (1 :: σ) 18),true):=by kernel_rfl
theorem zSv (σ : List Nat) : aB 9 (run Tryz.E1 2000 20 0 .pl rest (tmE (tmM 9 (.it .u8 (.ofNat 112))) 10 11 (.tu [.bo true,.st [97],.fn (.func 65) [] []]) true) (aC es 18 (2 :: σ))) = some (some (.it .u8 (.ofNat 112)),some (.pt 1 0),some (.map es 18),some (.mit 0 18 (2 :: σ) 18),true):=by kernel_rfl
theorem zSw (σ : List Nat) : aB 9 (run Tryz.E1 2000 20 0 .pl rest (tmE (tmM 9 (.it .u8 (.ofNat 112))) 10 11 (.tu [.bo true,.st [105],.fn (.func 66) [] []]) true) (aC es 18 (3 :: σ))) = some (some (.it .u8 (.ofNat 112)),some (.pt 1 0),some (.map es 18),some (.mit 0 18 (3 :: σ) 18),true):=by kernel_rfl
theorem zSx (σ : List Nat) : aB 9 (run Tryz.E1 2000 20 0 .pl rest (tmE (tmM 9 (.it .u8 (.ofNat 112))) 10 11 (.tu [.bo true,.st [99],.fn (.func 67) [] []]) true) (aC es 18 (4 :: σ))) = some (some (.it .u8 (.ofNat 112)),some (.pt 1 0),some (.map es 18),some (.mit 0 18 (4 :: σ) 18),true):=by kernel_rfl
theorem zSy (σ : List Nat) : aB 9 (run Tryz.E1 2000 20 0 .pl rest (tmE (tmM 9 (.it .u8 (.ofNat 112))) 10 11 (.tu [.bo true,.st [98],.fn (.func 68) [] []]) true) (aC es 18 (5 :: σ))) = some (some (.it .u8 (.ofNat 112)),some (.pt 1 0),some (.map es 18),some (.mit 0 18 (5 :: σ) 18),true):=by kernel_rfl
theorem zSz (σ : List Nat) : aB 9 (run Tryz.E1 2000 20 0 .pl rest (tmE (tmM 9 (.it .u8 (.ofNat 112))) 10 11 (.tu [.bo true,.st [116,84],.fn (.func 69) [] []]) true) (aC es 18 (6 :: σ))) = some (some (.it .u8 (.ofNat 112)),some (.pt 1 0),some (.map es 18),some (.mit 0 18 (6 :: σ) 18),true):=by kernel_rfl
theorem zTa (σ : List Nat) : aB 9 (run Tryz.E1 2000 20 0 .pl rest (tmE (tmM 9 (.it .u8 (.ofNat 112))) 10 11 (.tu [.bo true,.st [100,68],.fn (.func 70) [] []]) true) (aC es 18 (7 :: σ))) = some (some (.it .u8 (.ofNat 112)),some (.pt 1 0),some (.map es 18),some (.mit 0 18 (7 :: σ) 18),true):=by kernel_rfl
theorem zTb (σ : List Nat) : aB 9 (run Tryz.E1 2000 20 0 .pl rest (tmE (tmM 9 (.it .u8 (.ofNat 112))) 10 11 (.tu [.bo true,.st [103,71,104,72,120],.fn (.func 71) [] []]) true) (aC es 18 (8 :: σ))) = some (some (.it .u8 (.ofNat 112)),some (.pt 1 0),some (.map es 18),some (.mit 0 18 (8 :: σ) 18),true):=by kernel_rfl
theorem zTc (σ : List Nat) : aB 9 (run Tryz.E1 2000 20 0 .pl rest (tmE (tmM 9 (.it .u8 (.ofNat 112))) 10 11 (.tu [.bo true,.st [108],.fn (.func 72) [] []]) true) (aC es 18 (9 :: σ))) = some (some (.it .u8 (.ofNat 112)),some (.pt 1 0),some (.map es 18),some (.mit 0 18 (9 :: σ) 18),true):=by kernel_rfl
theorem zNm (σ : List Nat) : aB 9 (run Tryz.E1 2000 20 0 .pl rest (tmE (tmM 9 (.it .u8 (.ofNat 112))) 10 11 (.tu [.bo true,.st [110,78],.fn (.func 73) [] []]) true) (aC es 18 (10 :: σ))) = some (some (.it .u8 (.ofNat 112)),some (.pt 1 0),some (.map es 18),some (.mit 0 18 (10 :: σ) 18),true):=by kernel_rfl
theorem zNn (σ : List Nat) : aB 9 (run Tryz.E1 2000 20 0 .pl rest (tmE (tmM 9 (.it .u8 (.ofNat 112))) 10 11 (.tu [.bo true,.st [80],.fn (.func 75) [] []]) true) (aC es 18 (12 :: σ))) = some (some (.it .u8 (.ofNat 112)),some (.pt 1 0),some (.map es 18),some (.mit 0 18 (12 :: σ) 18),true):=by kernel_rfl
theorem zNo (σ : List Nat) : aB 9 (run Tryz.E1 2000 20 0 .pl rest (tmE (tmM 9 (.it .u8 (.ofNat 112))) 10 11 (.tu [.bo true,.st [113,81],.fn (.func 76) [] []]) true) (aC es 18 (13 :: σ))) = some (some (.it .u8 (.ofNat 112)),some (.pt 1 0),some (.map es 18),some (.mit 0 18 (13 :: σ) 18),true):=by kernel_rfl
theorem zNp (σ : List Nat) : aB 9 (run Tryz.E1 2000 20 0 .pl rest (tmE (tmM 9 (.it .u8 (.ofNat 112))) 10 11 (.tu [.bo true,.st [114],.fn (.func 77) [] []]) true) (aC es 18 (14 :: σ))) = some (some (.it .u8 (.ofNat 112)),some (.pt 1 0),some (.map es 18),some (.mit 0 18 (14 :: σ) 18),true):=by kernel_rfl
theorem zNq (σ : List Nat) : aB 9 (run Tryz.E1 2000 20 0 .pl rest (tmE (tmM 9 (.it .u8 (.ofNat 112))) 10 11 (.tu [.bo true,.st [119],.fn (.func 78) [] []]) true) (aC es 18 (15 :: σ))) = some (some (.it .u8 (.ofNat 112)),some (.pt 1 0),some (.map es 18),some (.mit 0 18 (15 :: σ) 18),true):=by kernel_rfl
theorem zNr (σ : List Nat) : aB 9 (run Tryz.E1 2000 20 0 .pl rest (tmE (tmM 9 (.it .u8 (.ofNat 112))) 10 11 (.tu [.bo true,.st [115],.fn (.func 79) [] []]) true) (aC es 18 (16 :: σ))) = some (some (.it .u8 (.ofNat 112)),some (.pt 1 0),some (.map es 18),some (.mit 0 18 (16 :: σ) 18),true):=by kernel_rfl
theorem zNs (σ : List Nat) : aB 9 (run Tryz.E1 2000 20 0 .pl rest (tmE (tmM 9 (.it .u8 (.ofNat 112))) 10 11 (.tu [.bo true,.st [121],.fn (.func 80) [] []]) true) (aC es 18 (17 :: σ))) = some (some (.it .u8 (.ofNat 112)),some (.pt 1 0),some (.map es 18),some (.mit 0 18 (17 :: σ) 18),true):=by kernel_rfl
theorem d112 (lo : Nat) (A : W) (args : List AV) (ha : args = [.it .u8 (.ofNat 112)]) : bC Tryz.prog lo 39 args A (.ret (.fn (.func 74) [] [])) A:=by
 refine gP (E:=Tryz.E1) Tryz.E1_ok (k:=2000) (n:=20) (its:=9) (a1:=10) (a2:=11) (es:=es) (clk:=18) (eh:=(.st [112],.fn (.func 74) [] [],11)) got body shp tmps (by decide) (nx:=nx) (ex:=ex) (by kernel_rfl) (by kernel_rfl) (by kernel_rfl) (by kernel_rfl) (by kernel_rfl) (by kernel_rfl) (by decide) (by kernel_rfl)
  (by kernel_rfl) (by kernel_rfl) (by kernel_rfl) (by kernel_rfl) (by kernel_rfl) (by kernel_rfl) (by simp [es]) (fun e he hne σ => ?_) (fun σ => by kernel_rfl) lo A args ha
 simp only [es,List.mem_cons,List.not_mem_nil,or_false] at he
 rcases he with rfl | rfl | rfl | rfl | rfl | rfl | rfl | rfl | rfl | rfl | rfl | rfl | rfl | rfl | rfl | rfl | rfl | rfl
 ·exact zSt σ
 ·exact zSu σ
 ·exact zSv σ
 ·exact zSw σ
 ·exact zSx σ
 ·exact zSy σ
 ·exact zSz σ
 ·exact zTa σ
 ·exact zTb σ
 ·exact zTc σ
 ·exact zNm σ
 ·exact absurd rfl hne
 ·exact zNn σ
 ·exact zNo σ
 ·exact zNp σ
 ·exact zNq σ
 ·exact zNr σ
 ·exact zNs σ
theorem zTd (σ : List Nat) : aB 9 (run Tryz.E1 2000 20 0 .pl rest (tmE (tmM 9 (.it .u8 (.ofNat 114))) 10 11 (.tu [.bo true,.st [123,125],.fn (.func 63) [] []]) true) (aC es 18 (0 :: σ))) = some (some (.it .u8 (.ofNat 114)),some (.pt 1 0),some (.map es 18),some (.mit 0 18 (0 :: σ) 18),true):=by kernel_rfl
theorem zTe (σ : List Nat) : aB 9 (run Tryz.E1 2000 20 0 .pl rest (tmE (tmM 9 (.it .u8 (.ofNat 114))) 10 11 (.tu [.bo true,.st [61],.fn (.func 64) [] []]) true) (aC es 18 (1 :: σ))) = some (some (.it .u8 (.ofNat 114)),some (.pt 1 0),some (.map es 18),some (.mit 0 18 (1 :: σ) 18),true):=by kernel_rfl
theorem zTf (σ : List Nat) : aB 9 (run Tryz.E1 2000 20 0 .pl rest (tmE (tmM 9 (.it .u8 (.ofNat 114))) 10 11 (.tu [.bo true,.st [97],.fn (.func 65) [] []]) true) (aC es 18 (2 :: σ))) = some (some (.it .u8 (.ofNat 114)),some (.pt 1 0),some (.map es 18),some (.mit 0 18 (2 :: σ) 18),true):=by kernel_rfl
theorem zTg (σ : List Nat) : aB 9 (run Tryz.E1 2000 20 0 .pl rest (tmE (tmM 9 (.it .u8 (.ofNat 114))) 10 11 (.tu [.bo true,.st [105],.fn (.func 66) [] []]) true) (aC es 18 (3 :: σ))) = some (some (.it .u8 (.ofNat 114)),some (.pt 1 0),some (.map es 18),some (.mit 0 18 (3 :: σ) 18),true):=by kernel_rfl
theorem zTh (σ : List Nat) : aB 9 (run Tryz.E1 2000 20 0 .pl rest (tmE (tmM 9 (.it .u8 (.ofNat 114))) 10 11 (.tu [.bo true,.st [99],.fn (.func 67) [] []]) true) (aC es 18 (4 :: σ))) = some (some (.it .u8 (.ofNat 114)),some (.pt 1 0),some (.map es 18),some (.mit 0 18 (4 :: σ) 18),true):=by kernel_rfl
theorem zTi (σ : List Nat) : aB 9 (run Tryz.E1 2000 20 0 .pl rest (tmE (tmM 9 (.it .u8 (.ofNat 114))) 10 11 (.tu [.bo true,.st [98],.fn (.func 68) [] []]) true) (aC es 18 (5 :: σ))) = some (some (.it .u8 (.ofNat 114)),some (.pt 1 0),some (.map es 18),some (.mit 0 18 (5 :: σ) 18),true):=by kernel_rfl
theorem zTj (σ : List Nat) : aB 9 (run Tryz.E1 2000 20 0 .pl rest (tmE (tmM 9 (.it .u8 (.ofNat 114))) 10 11 (.tu [.bo true,.st [116,84],.fn (.func 69) [] []]) true) (aC es 18 (6 :: σ))) = some (some (.it .u8 (.ofNat 114)),some (.pt 1 0),some (.map es 18),some (.mit 0 18 (6 :: σ) 18),true):=by kernel_rfl
theorem zTk (σ : List Nat) : aB 9 (run Tryz.E1 2000 20 0 .pl rest (tmE (tmM 9 (.it .u8 (.ofNat 114))) 10 11 (.tu [.bo true,.st [100,68],.fn (.func 70) [] []]) true) (aC es 18 (7 :: σ))) = some (some (.it .u8 (.ofNat 114)),some (.pt 1 0),some (.map es 18),some (.mit 0 18 (7 :: σ) 18),true):=by kernel_rfl
theorem zTl (σ : List Nat) : aB 9 (run Tryz.E1 2000 20 0 .pl rest (tmE (tmM 9 (.it .u8 (.ofNat 114))) 10 11 (.tu [.bo true,.st [103,71,104,72,120],.fn (.func 71) [] []]) true) (aC es 18 (8 :: σ))) = some (some (.it .u8 (.ofNat 114)),some (.pt 1 0),some (.map es 18),some (.mit 0 18 (8 :: σ) 18),true):=by kernel_rfl
theorem zTm (σ : List Nat) : aB 9 (run Tryz.E1 2000 20 0 .pl rest (tmE (tmM 9 (.it .u8 (.ofNat 114))) 10 11 (.tu [.bo true,.st [108],.fn (.func 72) [] []]) true) (aC es 18 (9 :: σ))) = some (some (.it .u8 (.ofNat 114)),some (.pt 1 0),some (.map es 18),some (.mit 0 18 (9 :: σ) 18),true):=by kernel_rfl
theorem zNt (σ : List Nat) : aB 9 (run Tryz.E1 2000 20 0 .pl rest (tmE (tmM 9 (.it .u8 (.ofNat 114))) 10 11 (.tu [.bo true,.st [110,78],.fn (.func 73) [] []]) true) (aC es 18 (10 :: σ))) = some (some (.it .u8 (.ofNat 114)),some (.pt 1 0),some (.map es 18),some (.mit 0 18 (10 :: σ) 18),true):=by kernel_rfl
theorem zNu (σ : List Nat) : aB 9 (run Tryz.E1 2000 20 0 .pl rest (tmE (tmM 9 (.it .u8 (.ofNat 114))) 10 11 (.tu [.bo true,.st [112],.fn (.func 74) [] []]) true) (aC es 18 (11 :: σ))) = some (some (.it .u8 (.ofNat 114)),some (.pt 1 0),some (.map es 18),some (.mit 0 18 (11 :: σ) 18),true):=by kernel_rfl
theorem zNv (σ : List Nat) : aB 9 (run Tryz.E1 2000 20 0 .pl rest (tmE (tmM 9 (.it .u8 (.ofNat 114))) 10 11 (.tu [.bo true,.st [80],.fn (.func 75) [] []]) true) (aC es 18 (12 :: σ))) = some (some (.it .u8 (.ofNat 114)),some (.pt 1 0),some (.map es 18),some (.mit 0 18 (12 :: σ) 18),true):=by kernel_rfl
theorem zNw (σ : List Nat) : aB 9 (run Tryz.E1 2000 20 0 .pl rest (tmE (tmM 9 (.it .u8 (.ofNat 114))) 10 11 (.tu [.bo true,.st [113,81],.fn (.func 76) [] []]) true) (aC es 18 (13 :: σ))) = some (some (.it .u8 (.ofNat 114)),some (.pt 1 0),some (.map es 18),some (.mit 0 18 (13 :: σ) 18),true):=by kernel_rfl
theorem zNx (σ : List Nat) : aB 9 (run Tryz.E1 2000 20 0 .pl rest (tmE (tmM 9 (.it .u8 (.ofNat 114))) 10 11 (.tu [.bo true,.st [119],.fn (.func 78) [] []]) true) (aC es 18 (15 :: σ))) = some (some (.it .u8 (.ofNat 114)),some (.pt 1 0),some (.map es 18),some (.mit 0 18 (15 :: σ) 18),true):=by kernel_rfl
theorem zNy (σ : List Nat) : aB 9 (run Tryz.E1 2000 20 0 .pl rest (tmE (tmM 9 (.it .u8 (.ofNat 114))) 10 11 (.tu [.bo true,.st [115],.fn (.func 79) [] []]) true) (aC es 18 (16 :: σ))) = some (some (.it .u8 (.ofNat 114)),some (.pt 1 0),some (.map es 18),some (.mit 0 18 (16 :: σ) 18),true):=by kernel_rfl
theorem zNz (σ : List Nat) : aB 9 (run Tryz.E1 2000 20 0 .pl rest (tmE (tmM 9 (.it .u8 (.ofNat 114))) 10 11 (.tu [.bo true,.st [121],.fn (.func 80) [] []]) true) (aC es 18 (17 :: σ))) = some (some (.it .u8 (.ofNat 114)),some (.pt 1 0),some (.map es 18),some (.mit 0 18 (17 :: σ) 18),true):=by kernel_rfl
theorem d114 (lo : Nat) (A : W) (args : List AV) (ha : args = [.it .u8 (.ofNat 114)]) : bC Tryz.prog lo 39 args A (.ret (.fn (.func 77) [] [])) A:=by
 refine gP (E:=Tryz.E1) Tryz.E1_ok (k:=2000) (n:=20) (its:=9) (a1:=10) (a2:=11) (es:=es) (clk:=18) (eh:=(.st [114],.fn (.func 77) [] [],14)) got body shp tmps (by decide) (nx:=nx) (ex:=ex) (by kernel_rfl) (by kernel_rfl) (by kernel_rfl) (by kernel_rfl) (by kernel_rfl) (by kernel_rfl) (by decide) (by kernel_rfl)
  (by kernel_rfl) (by kernel_rfl) (by kernel_rfl) (by kernel_rfl) (by kernel_rfl) (by kernel_rfl) (by simp [es]) (fun e he hne σ => ?_) (fun σ => by kernel_rfl) lo A args ha
 simp only [es,List.mem_cons,List.not_mem_nil,or_false] at he
 rcases he with rfl | rfl | rfl | rfl | rfl | rfl | rfl | rfl | rfl | rfl | rfl | rfl | rfl | rfl | rfl | rfl | rfl | rfl
 ·exact zTd σ
 ·exact zTe σ
 ·exact zTf σ
 ·exact zTg σ
 ·exact zTh σ
 ·exact zTi σ
 ·exact zTj σ
 ·exact zTk σ
 ·exact zTl σ
 ·exact zTm σ
 ·exact zNt σ
 ·exact zNu σ
 ·exact zNv σ
 ·exact zNw σ
 ·exact absurd rfl hne
 ·exact zNx σ
 ·exact zNy σ
 ·exact zNz σ
end Tryz.Bd
def Tryz.Bd.tab : List (Nat × Nat):=[(123,63),(97,65),(100,70),(103,71),(71,71),(104,71),(72,71),(120,71),(112,74),(114,77)]
def Nb (tab : List (Nat × Nat)) : Gv:=fun _ A xs => match xs with
 | [.it .u8 (.ofNat b)] => ob (lk b tab) fun g => some (.fn (.func g) [] [],A)
 | _ => none
where lk : Nat -> List (Nat × Nat) -> Option Nat
 | _,[] => none
 | b,p :: r => cnd (Nat.beq b p.1) (some p.2) (lk b r)
theorem Sj {b g : Nat} : ∀ {l : List (Nat × Nat)},Nb.lk b l = some g -> (b,g) ∈ l
 | p :: r,h => by
  unfold Nb.lk cnd at h
  split at h
  ·rename_i hc
   simp only [Option.some.injEq] at h
   have:=Nat.eq_of_beq_eq_true hc
   subst this h
   exact .head _
  ·exact .tail _ (Sj h)
theorem Tryz.bdoes_ok (lo : Nat) (A : W) (args : List AV) (v : AV) (A' : W) (h : Nb Tryz.Bd.tab lo A args = some (v,A')) : bC Tryz.prog lo 39 args A (.ret v) A':=by
 unfold Nb at h
 split at h
 ·rename_i b
  replace h:=aA h; obtain ⟨g,hg,h⟩:=h
  simp only [Option.some.injEq,Prod.mk.injEq] at h
  obtain ⟨rfl,rfl⟩:=h
  have hm:=Sj hg
  simp only [Tryz.Bd.tab,List.mem_cons,Prod.mk.injEq,List.not_mem_nil,or_false] at hm
  rcases hm with ⟨rfl,rfl⟩ | ⟨rfl,rfl⟩ | ⟨rfl,rfl⟩ | ⟨rfl,rfl⟩ | ⟨rfl,rfl⟩ | ⟨rfl,rfl⟩ | ⟨rfl,rfl⟩ | ⟨rfl,rfl⟩ | ⟨rfl,rfl⟩ | ⟨rfl,rfl⟩
  ·exact Tryz.Bd.d123 lo A _ rfl
  ·exact Tryz.Bd.d97 lo A _ rfl
  ·exact Tryz.Bd.d100 lo A _ rfl
  ·exact Tryz.Bd.d103 lo A _ rfl
  ·exact Tryz.Bd.d71 lo A _ rfl
  ·exact Tryz.Bd.d104 lo A _ rfl
  ·exact Tryz.Bd.d72 lo A _ rfl
  ·exact Tryz.Bd.d120 lo A _ rfl
  ·exact Tryz.Bd.d112 lo A _ rfl
  ·exact Tryz.Bd.d114 lo A _ rfl
 ·cases h
end Go.Proofs
