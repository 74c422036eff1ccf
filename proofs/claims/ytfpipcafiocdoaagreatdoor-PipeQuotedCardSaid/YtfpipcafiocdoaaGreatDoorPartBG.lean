/- Part of a proof over this seat: a library of my own, and what it says of this seat. No statement is proved here. -/
import Derived.Test.YtfpipcafiocdoaaGreatDoorPartBC
import Derived.Test.YtfpipcafiocdoaaGreatDoorPartAY
namespace Go.Proofs
open Go.Ce
set_option maxRecDepth 100000
noncomputable def Tryz.E1 : Env := Tryz.E0.more 94 zAz
theorem Tryz.E1_ok : dB Tryz.E1 := Tryz.E0_ok.more fun lo A args v A' h => Xn Tryz.func94 (by kernel_rfl) (by kernel_rfl) (by kernel_rfl) (by kernel_rfl) lo A args v A' h
namespace Tryz.Bd
noncomputable abbrev c : Code := Uk Tryz.f39
noncomputable abbrev rest : Code := cR (qQ Tryz.f39)
noncomputable abbrev suf : Code := cR (cR (cR c))
def es : List (AV × AV × Nat) := [(.st [123, 125], .fn (.func 63) [] [], 0), (.st [61], .fn (.func 64) [] [], 1), (.st [97], .fn (.func 65) [] [], 2), (.st [105], .fn (.func 66) [] [], 3), (.st [99], .fn (.func 67) [] [], 4), (.st [98], .fn (.func 68) [] [], 5), (.st [116, 84], .fn (.func 69) [] [], 6), (.st [100, 68], .fn (.func 70) [] [], 7), (.st [103, 71, 104, 72, 120], .fn (.func 71) [] [], 8), (.st [108], .fn (.func 72) [] [], 9), (.st [110, 78], .fn (.func 73) [] [], 10), (.st [112], .fn (.func 74) [] [], 11), (.st [80], .fn (.func 75) [] [], 12), (.st [113, 81], .fn (.func 76) [] [], 13), (.st [114], .fn (.func 77) [] [], 14), (.st [119], .fn (.func 78) [] [], 15), (.st [115], .fn (.func 79) [] [], 16), (.st [121], .fn (.func 80) [] [], 17)]
theorem body : Tryz.f39.body = some c := by kernel_rfl
noncomputable abbrev nx : Oper := cOp (cL (qQ Tryz.f39)) 0
noncomputable abbrev ex : Oper := cOp (cL (qQ Tryz.f39)) 1
noncomputable abbrev rid : Nat := cId (cL (qQ Tryz.f39))
theorem shp : c = .seq (cL c) (.seq (cL (cR c)) (.seq (.seq (cL (cL (cR (cR c)))) (.block 0 (.loop (.seq (.region rid #[nx, ex] false) rest)))) suf)) := by kernel_rfl
theorem got : T.get Tryz.E1.F 39 = some Tryz.f39 := by kernel_rfl
theorem tmps : Tryz.f39.ntmps = 20 := by kernel_rfl
theorem zMg (σ : List Nat) : aB 9 (run Tryz.E1 2000 20 0 .pl rest (tmE (tmM 9 (.it .u8 (.ofNat 123))) 10 11 (.tu [.bo true, .st [61], .fn (.func 64) [] []]) true) (aC es 18 (1 :: σ))) = some (some (.it .u8 (.ofNat 123)), some (.pt 1 0), some (.map es 18), some (.mit 0 18 (1 :: σ) 18), true) := by kernel_rfl
theorem zMh (σ : List Nat) : aB 9 (run Tryz.E1 2000 20 0 .pl rest (tmE (tmM 9 (.it .u8 (.ofNat 123))) 10 11 (.tu [.bo true, .st [97], .fn (.func 65) [] []]) true) (aC es 18 (2 :: σ))) = some (some (.it .u8 (.ofNat 123)), some (.pt 1 0), some (.map es 18), some (.mit 0 18 (2 :: σ) 18), true) := by kernel_rfl
theorem zMi (σ : List Nat) : aB 9 (run Tryz.E1 2000 20 0 .pl rest (tmE (tmM 9 (.it .u8 (.ofNat 123))) 10 11 (.tu [.bo true, .st [105], .fn (.func 66) [] []]) true) (aC es 18 (3 :: σ))) = some (some (.it .u8 (.ofNat 123)), some (.pt 1 0), some (.map es 18), some (.mit 0 18 (3 :: σ) 18), true) := by kernel_rfl
theorem zMj (σ : List Nat) : aB 9 (run Tryz.E1 2000 20 0 .pl rest (tmE (tmM 9 (.it .u8 (.ofNat 123))) 10 11 (.tu [.bo true, .st [99], .fn (.func 67) [] []]) true) (aC es 18 (4 :: σ))) = some (some (.it .u8 (.ofNat 123)), some (.pt 1 0), some (.map es 18), some (.mit 0 18 (4 :: σ) 18), true) := by kernel_rfl
theorem zMk (σ : List Nat) : aB 9 (run Tryz.E1 2000 20 0 .pl rest (tmE (tmM 9 (.it .u8 (.ofNat 123))) 10 11 (.tu [.bo true, .st [98], .fn (.func 68) [] []]) true) (aC es 18 (5 :: σ))) = some (some (.it .u8 (.ofNat 123)), some (.pt 1 0), some (.map es 18), some (.mit 0 18 (5 :: σ) 18), true) := by kernel_rfl
theorem zMl (σ : List Nat) : aB 9 (run Tryz.E1 2000 20 0 .pl rest (tmE (tmM 9 (.it .u8 (.ofNat 123))) 10 11 (.tu [.bo true, .st [116, 84], .fn (.func 69) [] []]) true) (aC es 18 (6 :: σ))) = some (some (.it .u8 (.ofNat 123)), some (.pt 1 0), some (.map es 18), some (.mit 0 18 (6 :: σ) 18), true) := by kernel_rfl
theorem zMm (σ : List Nat) : aB 9 (run Tryz.E1 2000 20 0 .pl rest (tmE (tmM 9 (.it .u8 (.ofNat 123))) 10 11 (.tu [.bo true, .st [100, 68], .fn (.func 70) [] []]) true) (aC es 18 (7 :: σ))) = some (some (.it .u8 (.ofNat 123)), some (.pt 1 0), some (.map es 18), some (.mit 0 18 (7 :: σ) 18), true) := by kernel_rfl
theorem zMn (σ : List Nat) : aB 9 (run Tryz.E1 2000 20 0 .pl rest (tmE (tmM 9 (.it .u8 (.ofNat 123))) 10 11 (.tu [.bo true, .st [103, 71, 104, 72, 120], .fn (.func 71) [] []]) true) (aC es 18 (8 :: σ))) = some (some (.it .u8 (.ofNat 123)), some (.pt 1 0), some (.map es 18), some (.mit 0 18 (8 :: σ) 18), true) := by kernel_rfl
theorem zMo (σ : List Nat) : aB 9 (run Tryz.E1 2000 20 0 .pl rest (tmE (tmM 9 (.it .u8 (.ofNat 123))) 10 11 (.tu [.bo true, .st [108], .fn (.func 72) [] []]) true) (aC es 18 (9 :: σ))) = some (some (.it .u8 (.ofNat 123)), some (.pt 1 0), some (.map es 18), some (.mit 0 18 (9 :: σ) 18), true) := by kernel_rfl
theorem zIb (σ : List Nat) : aB 9 (run Tryz.E1 2000 20 0 .pl rest (tmE (tmM 9 (.it .u8 (.ofNat 123))) 10 11 (.tu [.bo true, .st [110, 78], .fn (.func 73) [] []]) true) (aC es 18 (10 :: σ))) = some (some (.it .u8 (.ofNat 123)), some (.pt 1 0), some (.map es 18), some (.mit 0 18 (10 :: σ) 18), true) := by kernel_rfl
theorem zIc (σ : List Nat) : aB 9 (run Tryz.E1 2000 20 0 .pl rest (tmE (tmM 9 (.it .u8 (.ofNat 123))) 10 11 (.tu [.bo true, .st [112], .fn (.func 74) [] []]) true) (aC es 18 (11 :: σ))) = some (some (.it .u8 (.ofNat 123)), some (.pt 1 0), some (.map es 18), some (.mit 0 18 (11 :: σ) 18), true) := by kernel_rfl
theorem zId (σ : List Nat) : aB 9 (run Tryz.E1 2000 20 0 .pl rest (tmE (tmM 9 (.it .u8 (.ofNat 123))) 10 11 (.tu [.bo true, .st [80], .fn (.func 75) [] []]) true) (aC es 18 (12 :: σ))) = some (some (.it .u8 (.ofNat 123)), some (.pt 1 0), some (.map es 18), some (.mit 0 18 (12 :: σ) 18), true) := by kernel_rfl
theorem zIe (σ : List Nat) : aB 9 (run Tryz.E1 2000 20 0 .pl rest (tmE (tmM 9 (.it .u8 (.ofNat 123))) 10 11 (.tu [.bo true, .st [113, 81], .fn (.func 76) [] []]) true) (aC es 18 (13 :: σ))) = some (some (.it .u8 (.ofNat 123)), some (.pt 1 0), some (.map es 18), some (.mit 0 18 (13 :: σ) 18), true) := by kernel_rfl
theorem zIf (σ : List Nat) : aB 9 (run Tryz.E1 2000 20 0 .pl rest (tmE (tmM 9 (.it .u8 (.ofNat 123))) 10 11 (.tu [.bo true, .st [114], .fn (.func 77) [] []]) true) (aC es 18 (14 :: σ))) = some (some (.it .u8 (.ofNat 123)), some (.pt 1 0), some (.map es 18), some (.mit 0 18 (14 :: σ) 18), true) := by kernel_rfl
theorem zIg (σ : List Nat) : aB 9 (run Tryz.E1 2000 20 0 .pl rest (tmE (tmM 9 (.it .u8 (.ofNat 123))) 10 11 (.tu [.bo true, .st [119], .fn (.func 78) [] []]) true) (aC es 18 (15 :: σ))) = some (some (.it .u8 (.ofNat 123)), some (.pt 1 0), some (.map es 18), some (.mit 0 18 (15 :: σ) 18), true) := by kernel_rfl
theorem zIh (σ : List Nat) : aB 9 (run Tryz.E1 2000 20 0 .pl rest (tmE (tmM 9 (.it .u8 (.ofNat 123))) 10 11 (.tu [.bo true, .st [115], .fn (.func 79) [] []]) true) (aC es 18 (16 :: σ))) = some (some (.it .u8 (.ofNat 123)), some (.pt 1 0), some (.map es 18), some (.mit 0 18 (16 :: σ) 18), true) := by kernel_rfl
theorem zIi (σ : List Nat) : aB 9 (run Tryz.E1 2000 20 0 .pl rest (tmE (tmM 9 (.it .u8 (.ofNat 123))) 10 11 (.tu [.bo true, .st [121], .fn (.func 80) [] []]) true) (aC es 18 (17 :: σ))) = some (some (.it .u8 (.ofNat 123)), some (.pt 1 0), some (.map es 18), some (.mit 0 18 (17 :: σ) 18), true) := by kernel_rfl
theorem d123 (lo : Nat) (A : W) (args : List AV) (ha : args = [.it .u8 (.ofNat 123)]) : aZ Tryz.prog lo 39 args A (.ret (.fn (.func 63) [] [])) A := by
 refine fO (E := Tryz.E1) Tryz.E1_ok (k := 2000) (n := 20) (its := 9) (a1 := 10) (a2 := 11) (es := es) (clk := 18) (eh := (.st [123, 125], .fn (.func 63) [] [], 0)) got body shp tmps (by decide) (nx := nx) (ex := ex) (by kernel_rfl) (by kernel_rfl) (by kernel_rfl) (by kernel_rfl) (by kernel_rfl) (by kernel_rfl) (by decide) (by kernel_rfl)
  (by kernel_rfl) (by kernel_rfl) (by kernel_rfl) (by kernel_rfl) (by kernel_rfl) (by kernel_rfl) (by simp [es]) (fun e he hne σ => ?_) (fun σ => by kernel_rfl) lo A args ha
 simp only [es, List.mem_cons, List.not_mem_nil, or_false] at he
 rcases he with rfl | rfl | rfl | rfl | rfl | rfl | rfl | rfl | rfl | rfl | rfl | rfl | rfl | rfl | rfl | rfl | rfl | rfl
 ·exact absurd rfl hne
 ·exact zMg σ
 ·exact zMh σ
 ·exact zMi σ
 ·exact zMj σ
 ·exact zMk σ
 ·exact zMl σ
 ·exact zMm σ
 ·exact zMn σ
 ·exact zMo σ
 ·exact zIb σ
 ·exact zIc σ
 ·exact zId σ
 ·exact zIe σ
 ·exact zIf σ
 ·exact zIg σ
 ·exact zIh σ
 ·exact zIi σ
theorem zQn (σ : List Nat) : aB 9 (run Tryz.E1 2000 20 0 .pl rest (tmE (tmM 9 (.it .u8 (.ofNat 97))) 10 11 (.tu [.bo true, .st [123, 125], .fn (.func 63) [] []]) true) (aC es 18 (0 :: σ))) = some (some (.it .u8 (.ofNat 97)), some (.pt 1 0), some (.map es 18), some (.mit 0 18 (0 :: σ) 18), true) := by kernel_rfl
theorem zQo (σ : List Nat) : aB 9 (run Tryz.E1 2000 20 0 .pl rest (tmE (tmM 9 (.it .u8 (.ofNat 97))) 10 11 (.tu [.bo true, .st [61], .fn (.func 64) [] []]) true) (aC es 18 (1 :: σ))) = some (some (.it .u8 (.ofNat 97)), some (.pt 1 0), some (.map es 18), some (.mit 0 18 (1 :: σ) 18), true) := by kernel_rfl
theorem zQp (σ : List Nat) : aB 9 (run Tryz.E1 2000 20 0 .pl rest (tmE (tmM 9 (.it .u8 (.ofNat 97))) 10 11 (.tu [.bo true, .st [105], .fn (.func 66) [] []]) true) (aC es 18 (3 :: σ))) = some (some (.it .u8 (.ofNat 97)), some (.pt 1 0), some (.map es 18), some (.mit 0 18 (3 :: σ) 18), true) := by kernel_rfl
theorem zQq (σ : List Nat) : aB 9 (run Tryz.E1 2000 20 0 .pl rest (tmE (tmM 9 (.it .u8 (.ofNat 97))) 10 11 (.tu [.bo true, .st [99], .fn (.func 67) [] []]) true) (aC es 18 (4 :: σ))) = some (some (.it .u8 (.ofNat 97)), some (.pt 1 0), some (.map es 18), some (.mit 0 18 (4 :: σ) 18), true) := by kernel_rfl
theorem zQr (σ : List Nat) : aB 9 (run Tryz.E1 2000 20 0 .pl rest (tmE (tmM 9 (.it .u8 (.ofNat 97))) 10 11 (.tu [.bo true, .st [98], .fn (.func 68) [] []]) true) (aC es 18 (5 :: σ))) = some (some (.it .u8 (.ofNat 97)), some (.pt 1 0), some (.map es 18), some (.mit 0 18 (5 :: σ) 18), true) := by kernel_rfl
theorem zQs (σ : List Nat) : aB 9 (run Tryz.E1 2000 20 0 .pl rest (tmE (tmM 9 (.it .u8 (.ofNat 97))) 10 11 (.tu [.bo true, .st [116, 84], .fn (.func 69) [] []]) true) (aC es 18 (6 :: σ))) = some (some (.it .u8 (.ofNat 97)), some (.pt 1 0), some (.map es 18), some (.mit 0 18 (6 :: σ) 18), true) := by kernel_rfl
theorem zQt (σ : List Nat) : aB 9 (run Tryz.E1 2000 20 0 .pl rest (tmE (tmM 9 (.it .u8 (.ofNat 97))) 10 11 (.tu [.bo true, .st [100, 68], .fn (.func 70) [] []]) true) (aC es 18 (7 :: σ))) = some (some (.it .u8 (.ofNat 97)), some (.pt 1 0), some (.map es 18), some (.mit 0 18 (7 :: σ) 18), true) := by kernel_rfl
theorem zQu (σ : List Nat) : aB 9 (run Tryz.E1 2000 20 0 .pl rest (tmE (tmM 9 (.it .u8 (.ofNat 97))) 10 11 (.tu [.bo true, .st [103, 71, 104, 72, 120], .fn (.func 71) [] []]) true) (aC es 18 (8 :: σ))) = some (some (.it .u8 (.ofNat 97)), some (.pt 1 0), some (.map es 18), some (.mit 0 18 (8 :: σ) 18), true) := by kernel_rfl
theorem zQv (σ : List Nat) : aB 9 (run Tryz.E1 2000 20 0 .pl rest (tmE (tmM 9 (.it .u8 (.ofNat 97))) 10 11 (.tu [.bo true, .st [108], .fn (.func 72) [] []]) true) (aC es 18 (9 :: σ))) = some (some (.it .u8 (.ofNat 97)), some (.pt 1 0), some (.map es 18), some (.mit 0 18 (9 :: σ) 18), true) := by kernel_rfl
theorem zMp (σ : List Nat) : aB 9 (run Tryz.E1 2000 20 0 .pl rest (tmE (tmM 9 (.it .u8 (.ofNat 97))) 10 11 (.tu [.bo true, .st [110, 78], .fn (.func 73) [] []]) true) (aC es 18 (10 :: σ))) = some (some (.it .u8 (.ofNat 97)), some (.pt 1 0), some (.map es 18), some (.mit 0 18 (10 :: σ) 18), true) := by kernel_rfl
theorem zMq (σ : List Nat) : aB 9 (run Tryz.E1 2000 20 0 .pl rest (tmE (tmM 9 (.it .u8 (.ofNat 97))) 10 11 (.tu [.bo true, .st [112], .fn (.func 74) [] []]) true) (aC es 18 (11 :: σ))) = some (some (.it .u8 (.ofNat 97)), some (.pt 1 0), some (.map es 18), some (.mit 0 18 (11 :: σ) 18), true) := by kernel_rfl
theorem zMr (σ : List Nat) : aB 9 (run Tryz.E1 2000 20 0 .pl rest (tmE (tmM 9 (.it .u8 (.ofNat 97))) 10 11 (.tu [.bo true, .st [80], .fn (.func 75) [] []]) true) (aC es 18 (12 :: σ))) = some (some (.it .u8 (.ofNat 97)), some (.pt 1 0), some (.map es 18), some (.mit 0 18 (12 :: σ) 18), true) := by kernel_rfl
theorem zMs (σ : List Nat) : aB 9 (run Tryz.E1 2000 20 0 .pl rest (tmE (tmM 9 (.it .u8 (.ofNat 97))) 10 11 (.tu [.bo true, .st [113, 81], .fn (.func 76) [] []]) true) (aC es 18 (13 :: σ))) = some (some (.it .u8 (.ofNat 97)), some (.pt 1 0), some (.map es 18), some (.mit 0 18 (13 :: σ) 18), true) := by kernel_rfl
theorem zMt (σ : List Nat) : aB 9 (run Tryz.E1 2000 20 0 .pl rest (tmE (tmM 9 (.it .u8 (.ofNat 97))) 10 11 (.tu [.bo true, .st [114], .fn (.func 77) [] []]) true) (aC es 18 (14 :: σ))) = some (some (.it .u8 (.ofNat 97)), some (.pt 1 0), some (.map es 18), some (.mit 0 18 (14 :: σ) 18), true) := by kernel_rfl
theorem zMu (σ : List Nat) : aB 9 (run Tryz.E1 2000 20 0 .pl rest (tmE (tmM 9 (.it .u8 (.ofNat 97))) 10 11 (.tu [.bo true, .st [119], .fn (.func 78) [] []]) true) (aC es 18 (15 :: σ))) = some (some (.it .u8 (.ofNat 97)), some (.pt 1 0), some (.map es 18), some (.mit 0 18 (15 :: σ) 18), true) := by kernel_rfl
theorem zMv (σ : List Nat) : aB 9 (run Tryz.E1 2000 20 0 .pl rest (tmE (tmM 9 (.it .u8 (.ofNat 97))) 10 11 (.tu [.bo true, .st [115], .fn (.func 79) [] []]) true) (aC es 18 (16 :: σ))) = some (some (.it .u8 (.ofNat 97)), some (.pt 1 0), some (.map es 18), some (.mit 0 18 (16 :: σ) 18), true) := by kernel_rfl
theorem zMw (σ : List Nat) : aB 9 (run Tryz.E1 2000 20 0 .pl rest (tmE (tmM 9 (.it .u8 (.ofNat 97))) 10 11 (.tu [.bo true, .st [121], .fn (.func 80) [] []]) true) (aC es 18 (17 :: σ))) = some (some (.it .u8 (.ofNat 97)), some (.pt 1 0), some (.map es 18), some (.mit 0 18 (17 :: σ) 18), true) := by kernel_rfl
theorem d97 (lo : Nat) (A : W) (args : List AV) (ha : args = [.it .u8 (.ofNat 97)]) : aZ Tryz.prog lo 39 args A (.ret (.fn (.func 65) [] [])) A := by
 refine fO (E := Tryz.E1) Tryz.E1_ok (k := 2000) (n := 20) (its := 9) (a1 := 10) (a2 := 11) (es := es) (clk := 18) (eh := (.st [97], .fn (.func 65) [] [], 2)) got body shp tmps (by decide) (nx := nx) (ex := ex) (by kernel_rfl) (by kernel_rfl) (by kernel_rfl) (by kernel_rfl) (by kernel_rfl) (by kernel_rfl) (by decide) (by kernel_rfl)
  (by kernel_rfl) (by kernel_rfl) (by kernel_rfl) (by kernel_rfl) (by kernel_rfl) (by kernel_rfl) (by simp [es]) (fun e he hne σ => ?_) (fun σ => by kernel_rfl) lo A args ha
 simp only [es, List.mem_cons, List.not_mem_nil, or_false] at he
 rcases he with rfl | rfl | rfl | rfl | rfl | rfl | rfl | rfl | rfl | rfl | rfl | rfl | rfl | rfl | rfl | rfl | rfl | rfl
 ·exact zQn σ
 ·exact zQo σ
 ·exact absurd rfl hne
 ·exact zQp σ
 ·exact zQq σ
 ·exact zQr σ
 ·exact zQs σ
 ·exact zQt σ
 ·exact zQu σ
 ·exact zQv σ
 ·exact zMp σ
 ·exact zMq σ
 ·exact zMr σ
 ·exact zMs σ
 ·exact zMt σ
 ·exact zMu σ
 ·exact zMv σ
 ·exact zMw σ
theorem zMx (σ : List Nat) : aB 9 (run Tryz.E1 2000 20 0 .pl rest (tmE (tmM 9 (.it .u8 (.ofNat 100))) 10 11 (.tu [.bo true, .st [123, 125], .fn (.func 63) [] []]) true) (aC es 18 (0 :: σ))) = some (some (.it .u8 (.ofNat 100)), some (.pt 1 0), some (.map es 18), some (.mit 0 18 (0 :: σ) 18), true) := by kernel_rfl
theorem zMy (σ : List Nat) : aB 9 (run Tryz.E1 2000 20 0 .pl rest (tmE (tmM 9 (.it .u8 (.ofNat 100))) 10 11 (.tu [.bo true, .st [61], .fn (.func 64) [] []]) true) (aC es 18 (1 :: σ))) = some (some (.it .u8 (.ofNat 100)), some (.pt 1 0), some (.map es 18), some (.mit 0 18 (1 :: σ) 18), true) := by kernel_rfl
theorem zMz (σ : List Nat) : aB 9 (run Tryz.E1 2000 20 0 .pl rest (tmE (tmM 9 (.it .u8 (.ofNat 100))) 10 11 (.tu [.bo true, .st [97], .fn (.func 65) [] []]) true) (aC es 18 (2 :: σ))) = some (some (.it .u8 (.ofNat 100)), some (.pt 1 0), some (.map es 18), some (.mit 0 18 (2 :: σ) 18), true) := by kernel_rfl
theorem zNa (σ : List Nat) : aB 9 (run Tryz.E1 2000 20 0 .pl rest (tmE (tmM 9 (.it .u8 (.ofNat 100))) 10 11 (.tu [.bo true, .st [105], .fn (.func 66) [] []]) true) (aC es 18 (3 :: σ))) = some (some (.it .u8 (.ofNat 100)), some (.pt 1 0), some (.map es 18), some (.mit 0 18 (3 :: σ) 18), true) := by kernel_rfl
theorem zNb (σ : List Nat) : aB 9 (run Tryz.E1 2000 20 0 .pl rest (tmE (tmM 9 (.it .u8 (.ofNat 100))) 10 11 (.tu [.bo true, .st [99], .fn (.func 67) [] []]) true) (aC es 18 (4 :: σ))) = some (some (.it .u8 (.ofNat 100)), some (.pt 1 0), some (.map es 18), some (.mit 0 18 (4 :: σ) 18), true) := by kernel_rfl
theorem zNc (σ : List Nat) : aB 9 (run Tryz.E1 2000 20 0 .pl rest (tmE (tmM 9 (.it .u8 (.ofNat 100))) 10 11 (.tu [.bo true, .st [98], .fn (.func 68) [] []]) true) (aC es 18 (5 :: σ))) = some (some (.it .u8 (.ofNat 100)), some (.pt 1 0), some (.map es 18), some (.mit 0 18 (5 :: σ) 18), true) := by kernel_rfl
theorem zNd (σ : List Nat) : aB 9 (run Tryz.E1 2000 20 0 .pl rest (tmE (tmM 9 (.it .u8 (.ofNat 100))) 10 11 (.tu [.bo true, .st [116, 84], .fn (.func 69) [] []]) true) (aC es 18 (6 :: σ))) = some (some (.it .u8 (.ofNat 100)), some (.pt 1 0), some (.map es 18), some (.mit 0 18 (6 :: σ) 18), true) := by kernel_rfl
theorem zNe (σ : List Nat) : aB 9 (run Tryz.E1 2000 20 0 .pl rest (tmE (tmM 9 (.it .u8 (.ofNat 100))) 10 11 (.tu [.bo true, .st [103, 71, 104, 72, 120], .fn (.func 71) [] []]) true) (aC es 18 (8 :: σ))) = some (some (.it .u8 (.ofNat 100)), some (.pt 1 0), some (.map es 18), some (.mit 0 18 (8 :: σ) 18), true) := by kernel_rfl
theorem zNf (σ : List Nat) : aB 9 (run Tryz.E1 2000 20 0 .pl rest (tmE (tmM 9 (.it .u8 (.ofNat 100))) 10 11 (.tu [.bo true, .st [108], .fn (.func 72) [] []]) true) (aC es 18 (9 :: σ))) = some (some (.it .u8 (.ofNat 100)), some (.pt 1 0), some (.map es 18), some (.mit 0 18 (9 :: σ) 18), true) := by kernel_rfl
theorem zIj (σ : List Nat) : aB 9 (run Tryz.E1 2000 20 0 .pl rest (tmE (tmM 9 (.it .u8 (.ofNat 100))) 10 11 (.tu [.bo true, .st [110, 78], .fn (.func 73) [] []]) true) (aC es 18 (10 :: σ))) = some (some (.it .u8 (.ofNat 100)), some (.pt 1 0), some (.map es 18), some (.mit 0 18 (10 :: σ) 18), true) := by kernel_rfl
theorem zIk (σ : List Nat) : aB 9 (run Tryz.E1 2000 20 0 .pl rest (tmE (tmM 9 (.it .u8 (.ofNat 100))) 10 11 (.tu [.bo true, .st [112], .fn (.func 74) [] []]) true) (aC es 18 (11 :: σ))) = some (some (.it .u8 (.ofNat 100)), some (.pt 1 0), some (.map es 18), some (.mit 0 18 (11 :: σ) 18), true) := by kernel_rfl
theorem zIl (σ : List Nat) : aB 9 (run Tryz.E1 2000 20 0 .pl rest (tmE (tmM 9 (.it .u8 (.ofNat 100))) 10 11 (.tu [.bo true, .st [80], .fn (.func 75) [] []]) true) (aC es 18 (12 :: σ))) = some (some (.it .u8 (.ofNat 100)), some (.pt 1 0), some (.map es 18), some (.mit 0 18 (12 :: σ) 18), true) := by kernel_rfl
theorem zIm (σ : List Nat) : aB 9 (run Tryz.E1 2000 20 0 .pl rest (tmE (tmM 9 (.it .u8 (.ofNat 100))) 10 11 (.tu [.bo true, .st [113, 81], .fn (.func 76) [] []]) true) (aC es 18 (13 :: σ))) = some (some (.it .u8 (.ofNat 100)), some (.pt 1 0), some (.map es 18), some (.mit 0 18 (13 :: σ) 18), true) := by kernel_rfl
theorem zIn (σ : List Nat) : aB 9 (run Tryz.E1 2000 20 0 .pl rest (tmE (tmM 9 (.it .u8 (.ofNat 100))) 10 11 (.tu [.bo true, .st [114], .fn (.func 77) [] []]) true) (aC es 18 (14 :: σ))) = some (some (.it .u8 (.ofNat 100)), some (.pt 1 0), some (.map es 18), some (.mit 0 18 (14 :: σ) 18), true) := by kernel_rfl
theorem zIo (σ : List Nat) : aB 9 (run Tryz.E1 2000 20 0 .pl rest (tmE (tmM 9 (.it .u8 (.ofNat 100))) 10 11 (.tu [.bo true, .st [119], .fn (.func 78) [] []]) true) (aC es 18 (15 :: σ))) = some (some (.it .u8 (.ofNat 100)), some (.pt 1 0), some (.map es 18), some (.mit 0 18 (15 :: σ) 18), true) := by kernel_rfl
theorem zIp (σ : List Nat) : aB 9 (run Tryz.E1 2000 20 0 .pl rest (tmE (tmM 9 (.it .u8 (.ofNat 100))) 10 11 (.tu [.bo true, .st [115], .fn (.func 79) [] []]) true) (aC es 18 (16 :: σ))) = some (some (.it .u8 (.ofNat 100)), some (.pt 1 0), some (.map es 18), some (.mit 0 18 (16 :: σ) 18), true) := by kernel_rfl
theorem zIq (σ : List Nat) : aB 9 (run Tryz.E1 2000 20 0 .pl rest (tmE (tmM 9 (.it .u8 (.ofNat 100))) 10 11 (.tu [.bo true, .st [121], .fn (.func 80) [] []]) true) (aC es 18 (17 :: σ))) = some (some (.it .u8 (.ofNat 100)), some (.pt 1 0), some (.map es 18), some (.mit 0 18 (17 :: σ) 18), true) := by kernel_rfl
theorem d100 (lo : Nat) (A : W) (args : List AV) (ha : args = [.it .u8 (.ofNat 100)]) : aZ Tryz.prog lo 39 args A (.ret (.fn (.func 70) [] [])) A := by
 refine fO (E := Tryz.E1) Tryz.E1_ok (k := 2000) (n := 20) (its := 9) (a1 := 10) (a2 := 11) (es := es) (clk := 18) (eh := (.st [100, 68], .fn (.func 70) [] [], 7)) got body shp tmps (by decide) (nx := nx) (ex := ex) (by kernel_rfl) (by kernel_rfl) (by kernel_rfl) (by kernel_rfl) (by kernel_rfl) (by kernel_rfl) (by decide) (by kernel_rfl)
  (by kernel_rfl) (by kernel_rfl) (by kernel_rfl) (by kernel_rfl) (by kernel_rfl) (by kernel_rfl) (by simp [es]) (fun e he hne σ => ?_) (fun σ => by kernel_rfl) lo A args ha
 simp only [es, List.mem_cons, List.not_mem_nil, or_false] at he
 rcases he with rfl | rfl | rfl | rfl | rfl | rfl | rfl | rfl | rfl | rfl | rfl | rfl | rfl | rfl | rfl | rfl | rfl | rfl
 ·exact zMx σ
 ·exact zMy σ
 ·exact zMz σ
 ·exact zNa σ
 ·exact zNb σ
 ·exact zNc σ
 ·exact zNd σ
 ·exact absurd rfl hne
 ·exact zNe σ
 ·exact zNf σ
 ·exact zIj σ
 ·exact zIk σ
 ·exact zIl σ
 ·exact zIm σ
 ·exact zIn σ
 ·exact zIo σ
 ·exact zIp σ
 ·exact zIq σ
theorem zNg (σ : List Nat) : aB 9 (run Tryz.E1 2000 20 0 .pl rest (tmE (tmM 9 (.it .u8 (.ofNat 103))) 10 11 (.tu [.bo true, .st [123, 125], .fn (.func 63) [] []]) true) (aC es 18 (0 :: σ))) = some (some (.it .u8 (.ofNat 103)), some (.pt 1 0), some (.map es 18), some (.mit 0 18 (0 :: σ) 18), true) := by kernel_rfl
theorem zNh (σ : List Nat) : aB 9 (run Tryz.E1 2000 20 0 .pl rest (tmE (tmM 9 (.it .u8 (.ofNat 103))) 10 11 (.tu [.bo true, .st [61], .fn (.func 64) [] []]) true) (aC es 18 (1 :: σ))) = some (some (.it .u8 (.ofNat 103)), some (.pt 1 0), some (.map es 18), some (.mit 0 18 (1 :: σ) 18), true) := by kernel_rfl
theorem zNi (σ : List Nat) : aB 9 (run Tryz.E1 2000 20 0 .pl rest (tmE (tmM 9 (.it .u8 (.ofNat 103))) 10 11 (.tu [.bo true, .st [97], .fn (.func 65) [] []]) true) (aC es 18 (2 :: σ))) = some (some (.it .u8 (.ofNat 103)), some (.pt 1 0), some (.map es 18), some (.mit 0 18 (2 :: σ) 18), true) := by kernel_rfl
theorem zNj (σ : List Nat) : aB 9 (run Tryz.E1 2000 20 0 .pl rest (tmE (tmM 9 (.it .u8 (.ofNat 103))) 10 11 (.tu [.bo true, .st [105], .fn (.func 66) [] []]) true) (aC es 18 (3 :: σ))) = some (some (.it .u8 (.ofNat 103)), some (.pt 1 0), some (.map es 18), some (.mit 0 18 (3 :: σ) 18), true) := by kernel_rfl
theorem zNk (σ : List Nat) : aB 9 (run Tryz.E1 2000 20 0 .pl rest (tmE (tmM 9 (.it .u8 (.ofNat 103))) 10 11 (.tu [.bo true, .st [99], .fn (.func 67) [] []]) true) (aC es 18 (4 :: σ))) = some (some (.it .u8 (.ofNat 103)), some (.pt 1 0), some (.map es 18), some (.mit 0 18 (4 :: σ) 18), true) := by kernel_rfl
theorem zNl (σ : List Nat) : aB 9 (run Tryz.E1 2000 20 0 .pl rest (tmE (tmM 9 (.it .u8 (.ofNat 103))) 10 11 (.tu [.bo true, .st [98], .fn (.func 68) [] []]) true) (aC es 18 (5 :: σ))) = some (some (.it .u8 (.ofNat 103)), some (.pt 1 0), some (.map es 18), some (.mit 0 18 (5 :: σ) 18), true) := by kernel_rfl
theorem zNm (σ : List Nat) : aB 9 (run Tryz.E1 2000 20 0 .pl rest (tmE (tmM 9 (.it .u8 (.ofNat 103))) 10 11 (.tu [.bo true, .st [116, 84], .fn (.func 69) [] []]) true) (aC es 18 (6 :: σ))) = some (some (.it .u8 (.ofNat 103)), some (.pt 1 0), some (.map es 18), some (.mit 0 18 (6 :: σ) 18), true) := by kernel_rfl
theorem zNn (σ : List Nat) : aB 9 (run Tryz.E1 2000 20 0 .pl rest (tmE (tmM 9 (.it .u8 (.ofNat 103))) 10 11 (.tu [.bo true, .st [100, 68], .fn (.func 70) [] []]) true) (aC es 18 (7 :: σ))) = some (some (.it .u8 (.ofNat 103)), some (.pt 1 0), some (.map es 18), some (.mit 0 18 (7 :: σ) 18), true) := by kernel_rfl
theorem zNo (σ : List Nat) : aB 9 (run Tryz.E1 2000 20 0 .pl rest (tmE (tmM 9 (.it .u8 (.ofNat 103))) 10 11 (.tu [.bo true, .st [108], .fn (.func 72) [] []]) true) (aC es 18 (9 :: σ))) = some (some (.it .u8 (.ofNat 103)), some (.pt 1 0), some (.map es 18), some (.mit 0 18 (9 :: σ) 18), true) := by kernel_rfl
theorem zIr (σ : List Nat) : aB 9 (run Tryz.E1 2000 20 0 .pl rest (tmE (tmM 9 (.it .u8 (.ofNat 103))) 10 11 (.tu [.bo true, .st [110, 78], .fn (.func 73) [] []]) true) (aC es 18 (10 :: σ))) = some (some (.it .u8 (.ofNat 103)), some (.pt 1 0), some (.map es 18), some (.mit 0 18 (10 :: σ) 18), true) := by kernel_rfl
theorem zIs (σ : List Nat) : aB 9 (run Tryz.E1 2000 20 0 .pl rest (tmE (tmM 9 (.it .u8 (.ofNat 103))) 10 11 (.tu [.bo true, .st [112], .fn (.func 74) [] []]) true) (aC es 18 (11 :: σ))) = some (some (.it .u8 (.ofNat 103)), some (.pt 1 0), some (.map es 18), some (.mit 0 18 (11 :: σ) 18), true) := by kernel_rfl
theorem zIt (σ : List Nat) : aB 9 (run Tryz.E1 2000 20 0 .pl rest (tmE (tmM 9 (.it .u8 (.ofNat 103))) 10 11 (.tu [.bo true, .st [80], .fn (.func 75) [] []]) true) (aC es 18 (12 :: σ))) = some (some (.it .u8 (.ofNat 103)), some (.pt 1 0), some (.map es 18), some (.mit 0 18 (12 :: σ) 18), true) := by kernel_rfl
theorem zIu (σ : List Nat) : aB 9 (run Tryz.E1 2000 20 0 .pl rest (tmE (tmM 9 (.it .u8 (.ofNat 103))) 10 11 (.tu [.bo true, .st [113, 81], .fn (.func 76) [] []]) true) (aC es 18 (13 :: σ))) = some (some (.it .u8 (.ofNat 103)), some (.pt 1 0), some (.map es 18), some (.mit 0 18 (13 :: σ) 18), true) := by kernel_rfl
theorem zIv (σ : List Nat) : aB 9 (run Tryz.E1 2000 20 0 .pl rest (tmE (tmM 9 (.it .u8 (.ofNat 103))) 10 11 (.tu [.bo true, .st [114], .fn (.func 77) [] []]) true) (aC es 18 (14 :: σ))) = some (some (.it .u8 (.ofNat 103)), some (.pt 1 0), some (.map es 18), some (.mit 0 18 (14 :: σ) 18), true) := by kernel_rfl
theorem zIw (σ : List Nat) : aB 9 (run Tryz.E1 2000 20 0 .pl rest (tmE (tmM 9 (.it .u8 (.ofNat 103))) 10 11 (.tu [.bo true, .st [119], .fn (.func 78) [] []]) true) (aC es 18 (15 :: σ))) = some (some (.it .u8 (.ofNat 103)), some (.pt 1 0), some (.map es 18), some (.mit 0 18 (15 :: σ) 18), true) := by kernel_rfl
theorem zIx (σ : List Nat) : aB 9 (run Tryz.E1 2000 20 0 .pl rest (tmE (tmM 9 (.it .u8 (.ofNat 103))) 10 11 (.tu [.bo true, .st [115], .fn (.func 79) [] []]) true) (aC es 18 (16 :: σ))) = some (some (.it .u8 (.ofNat 103)), some (.pt 1 0), some (.map es 18), some (.mit 0 18 (16 :: σ) 18), true) := by kernel_rfl
theorem zIy (σ : List Nat) : aB 9 (run Tryz.E1 2000 20 0 .pl rest (tmE (tmM 9 (.it .u8 (.ofNat 103))) 10 11 (.tu [.bo true, .st [121], .fn (.func 80) [] []]) true) (aC es 18 (17 :: σ))) = some (some (.it .u8 (.ofNat 103)), some (.pt 1 0), some (.map es 18), some (.mit 0 18 (17 :: σ) 18), true) := by kernel_rfl
theorem d103 (lo : Nat) (A : W) (args : List AV) (ha : args = [.it .u8 (.ofNat 103)]) : aZ Tryz.prog lo 39 args A (.ret (.fn (.func 71) [] [])) A := by
 refine fO (E := Tryz.E1) Tryz.E1_ok (k := 2000) (n := 20) (its := 9) (a1 := 10) (a2 := 11) (es := es) (clk := 18) (eh := (.st [103, 71, 104, 72, 120], .fn (.func 71) [] [], 8)) got body shp tmps (by decide) (nx := nx) (ex := ex) (by kernel_rfl) (by kernel_rfl) (by kernel_rfl) (by kernel_rfl) (by kernel_rfl) (by kernel_rfl) (by decide) (by kernel_rfl)
  (by kernel_rfl) (by kernel_rfl) (by kernel_rfl) (by kernel_rfl) (by kernel_rfl) (by kernel_rfl) (by simp [es]) (fun e he hne σ => ?_) (fun σ => by kernel_rfl) lo A args ha
 simp only [es, List.mem_cons, List.not_mem_nil, or_false] at he
 rcases he with rfl | rfl | rfl | rfl | rfl | rfl | rfl | rfl | rfl | rfl | rfl | rfl | rfl | rfl | rfl | rfl | rfl | rfl
 ·exact zNg σ
 ·exact zNh σ
 ·exact zNi σ
 ·exact zNj σ
 ·exact zNk σ
 ·exact zNl σ
 ·exact zNm σ
 ·exact zNn σ
 ·exact absurd rfl hne
 ·exact zNo σ
 ·exact zIr σ
 ·exact zIs σ
 ·exact zIt σ
 ·exact zIu σ
 ·exact zIv σ
 ·exact zIw σ
 ·exact zIx σ
 ·exact zIy σ
theorem zQw (σ : List Nat) : aB 9 (run Tryz.E1 2000 20 0 .pl rest (tmE (tmM 9 (.it .u8 (.ofNat 71))) 10 11 (.tu [.bo true, .st [123, 125], .fn (.func 63) [] []]) true) (aC es 18 (0 :: σ))) = some (some (.it .u8 (.ofNat 71)), some (.pt 1 0), some (.map es 18), some (.mit 0 18 (0 :: σ) 18), true) := by kernel_rfl
theorem zQx (σ : List Nat) : aB 9 (run Tryz.E1 2000 20 0 .pl rest (tmE (tmM 9 (.it .u8 (.ofNat 71))) 10 11 (.tu [.bo true, .st [61], .fn (.func 64) [] []]) true) (aC es 18 (1 :: σ))) = some (some (.it .u8 (.ofNat 71)), some (.pt 1 0), some (.map es 18), some (.mit 0 18 (1 :: σ) 18), true) := by kernel_rfl
theorem zQy (σ : List Nat) : aB 9 (run Tryz.E1 2000 20 0 .pl rest (tmE (tmM 9 (.it .u8 (.ofNat 71))) 10 11 (.tu [.bo true, .st [97], .fn (.func 65) [] []]) true) (aC es 18 (2 :: σ))) = some (some (.it .u8 (.ofNat 71)), some (.pt 1 0), some (.map es 18), some (.mit 0 18 (2 :: σ) 18), true) := by kernel_rfl
theorem zQz (σ : List Nat) : aB 9 (run Tryz.E1 2000 20 0 .pl rest (tmE (tmM 9 (.it .u8 (.ofNat 71))) 10 11 (.tu [.bo true, .st [105], .fn (.func 66) [] []]) true) (aC es 18 (3 :: σ))) = some (some (.it .u8 (.ofNat 71)), some (.pt 1 0), some (.map es 18), some (.mit 0 18 (3 :: σ) 18), true) := by kernel_rfl
theorem zRa (σ : List Nat) : aB 9 (run Tryz.E1 2000 20 0 .pl rest (tmE (tmM 9 (.it .u8 (.ofNat 71))) 10 11 (.tu [.bo true, .st [99], .fn (.func 67) [] []]) true) (aC es 18 (4 :: σ))) = some (some (.it .u8 (.ofNat 71)), some (.pt 1 0), some (.map es 18), some (.mit 0 18 (4 :: σ) 18), true) := by kernel_rfl
theorem zRb (σ : List Nat) : aB 9 (run Tryz.E1 2000 20 0 .pl rest (tmE (tmM 9 (.it .u8 (.ofNat 71))) 10 11 (.tu [.bo true, .st [98], .fn (.func 68) [] []]) true) (aC es 18 (5 :: σ))) = some (some (.it .u8 (.ofNat 71)), some (.pt 1 0), some (.map es 18), some (.mit 0 18 (5 :: σ) 18), true) := by kernel_rfl
theorem zRc (σ : List Nat) : aB 9 (run Tryz.E1 2000 20 0 .pl rest (tmE (tmM 9 (.it .u8 (.ofNat 71))) 10 11 (.tu [.bo true, .st [116, 84], .fn (.func 69) [] []]) true) (aC es 18 (6 :: σ))) = some (some (.it .u8 (.ofNat 71)), some (.pt 1 0), some (.map es 18), some (.mit 0 18 (6 :: σ) 18), true) := by kernel_rfl
theorem zRd (σ : List Nat) : aB 9 (run Tryz.E1 2000 20 0 .pl rest (tmE (tmM 9 (.it .u8 (.ofNat 71))) 10 11 (.tu [.bo true, .st [100, 68], .fn (.func 70) [] []]) true) (aC es 18 (7 :: σ))) = some (some (.it .u8 (.ofNat 71)), some (.pt 1 0), some (.map es 18), some (.mit 0 18 (7 :: σ) 18), true) := by kernel_rfl
theorem zRe (σ : List Nat) : aB 9 (run Tryz.E1 2000 20 0 .pl rest (tmE (tmM 9 (.it .u8 (.ofNat 71))) 10 11 (.tu [.bo true, .st [108], .fn (.func 72) [] []]) true) (aC es 18 (9 :: σ))) = some (some (.it .u8 (.ofNat 71)), some (.pt 1 0), some (.map es 18), some (.mit 0 18 (9 :: σ) 18), true) := by kernel_rfl
theorem zNp (σ : List Nat) : aB 9 (run Tryz.E1 2000 20 0 .pl rest (tmE (tmM 9 (.it .u8 (.ofNat 71))) 10 11 (.tu [.bo true, .st [110, 78], .fn (.func 73) [] []]) true) (aC es 18 (10 :: σ))) = some (some (.it .u8 (.ofNat 71)), some (.pt 1 0), some (.map es 18), some (.mit 0 18 (10 :: σ) 18), true) := by kernel_rfl
theorem zNq (σ : List Nat) : aB 9 (run Tryz.E1 2000 20 0 .pl rest (tmE (tmM 9 (.it .u8 (.ofNat 71))) 10 11 (.tu [.bo true, .st [112], .fn (.func 74) [] []]) true) (aC es 18 (11 :: σ))) = some (some (.it .u8 (.ofNat 71)), some (.pt 1 0), some (.map es 18), some (.mit 0 18 (11 :: σ) 18), true) := by kernel_rfl
theorem zNr (σ : List Nat) : aB 9 (run Tryz.E1 2000 20 0 .pl rest (tmE (tmM 9 (.it .u8 (.ofNat 71))) 10 11 (.tu [.bo true, .st [80], .fn (.func 75) [] []]) true) (aC es 18 (12 :: σ))) = some (some (.it .u8 (.ofNat 71)), some (.pt 1 0), some (.map es 18), some (.mit 0 18 (12 :: σ) 18), true) := by kernel_rfl
theorem zNs (σ : List Nat) : aB 9 (run Tryz.E1 2000 20 0 .pl rest (tmE (tmM 9 (.it .u8 (.ofNat 71))) 10 11 (.tu [.bo true, .st [113, 81], .fn (.func 76) [] []]) true) (aC es 18 (13 :: σ))) = some (some (.it .u8 (.ofNat 71)), some (.pt 1 0), some (.map es 18), some (.mit 0 18 (13 :: σ) 18), true) := by kernel_rfl
theorem zNt (σ : List Nat) : aB 9 (run Tryz.E1 2000 20 0 .pl rest (tmE (tmM 9 (.it .u8 (.ofNat 71))) 10 11 (.tu [.bo true, .st [114], .fn (.func 77) [] []]) true) (aC es 18 (14 :: σ))) = some (some (.it .u8 (.ofNat 71)), some (.pt 1 0), some (.map es 18), some (.mit 0 18 (14 :: σ) 18), true) := by kernel_rfl
theorem zNu (σ : List Nat) : aB 9 (run Tryz.E1 2000 20 0 .pl rest (tmE (tmM 9 (.it .u8 (.ofNat 71))) 10 11 (.tu [.bo true, .st [119], .fn (.func 78) [] []]) true) (aC es 18 (15 :: σ))) = some (some (.it .u8 (.ofNat 71)), some (.pt 1 0), some (.map es 18), some (.mit 0 18 (15 :: σ) 18), true) := by kernel_rfl
theorem zNv (σ : List Nat) : aB 9 (run Tryz.E1 2000 20 0 .pl rest (tmE (tmM 9 (.it .u8 (.ofNat 71))) 10 11 (.tu [.bo true, .st [115], .fn (.func 79) [] []]) true) (aC es 18 (16 :: σ))) = some (some (.it .u8 (.ofNat 71)), some (.pt 1 0), some (.map es 18), some (.mit 0 18 (16 :: σ) 18), true) := by kernel_rfl
theorem zNw (σ : List Nat) : aB 9 (run Tryz.E1 2000 20 0 .pl rest (tmE (tmM 9 (.it .u8 (.ofNat 71))) 10 11 (.tu [.bo true, .st [121], .fn (.func 80) [] []]) true) (aC es 18 (17 :: σ))) = some (some (.it .u8 (.ofNat 71)), some (.pt 1 0), some (.map es 18), some (.mit 0 18 (17 :: σ) 18), true) := by kernel_rfl
theorem d71 (lo : Nat) (A : W) (args : List AV) (ha : args = [.it .u8 (.ofNat 71)]) : aZ Tryz.prog lo 39 args A (.ret (.fn (.func 71) [] [])) A := by
 refine fO (E := Tryz.E1) Tryz.E1_ok (k := 2000) (n := 20) (its := 9) (a1 := 10) (a2 := 11) (es := es) (clk := 18) (eh := (.st [103, 71, 104, 72, 120], .fn (.func 71) [] [], 8)) got body shp tmps (by decide) (nx := nx) (ex := ex) (by kernel_rfl) (by kernel_rfl) (by kernel_rfl) (by kernel_rfl) (by kernel_rfl) (by kernel_rfl) (by decide) (by kernel_rfl)
  (by kernel_rfl) (by kernel_rfl) (by kernel_rfl) (by kernel_rfl) (by kernel_rfl) (by kernel_rfl) (by simp [es]) (fun e he hne σ => ?_) (fun σ => by kernel_rfl) lo A args ha
 simp only [es, List.mem_cons, List.not_mem_nil, or_false] at he
 rcases he with rfl | rfl | rfl | rfl | rfl | rfl | rfl | rfl | rfl | rfl | rfl | rfl | rfl | rfl | rfl | rfl | rfl | rfl
 ·exact zQw σ
 ·exact zQx σ
 ·exact zQy σ
 ·exact zQz σ
 ·exact zRa σ
 ·exact zRb σ
 ·exact zRc σ
 ·exact zRd σ
 ·exact absurd rfl hne
 ·exact zRe σ
 ·exact zNp σ
 ·exact zNq σ
 ·exact zNr σ
 ·exact zNs σ
 ·exact zNt σ
 ·exact zNu σ
 ·exact zNv σ
 ·exact zNw σ
theorem zNx (σ : List Nat) : aB 9 (run Tryz.E1 2000 20 0 .pl rest (tmE (tmM 9 (.it .u8 (.ofNat 104))) 10 11 (.tu [.bo true, .st [123, 125], .fn (.func 63) [] []]) true) (aC es 18 (0 :: σ))) = some (some (.it .u8 (.ofNat 104)), some (.pt 1 0), some (.map es 18), some (.mit 0 18 (0 :: σ) 18), true) := by kernel_rfl
theorem zNy (σ : List Nat) : aB 9 (run Tryz.E1 2000 20 0 .pl rest (tmE (tmM 9 (.it .u8 (.ofNat 104))) 10 11 (.tu [.bo true, .st [61], .fn (.func 64) [] []]) true) (aC es 18 (1 :: σ))) = some (some (.it .u8 (.ofNat 104)), some (.pt 1 0), some (.map es 18), some (.mit 0 18 (1 :: σ) 18), true) := by kernel_rfl
theorem zNz (σ : List Nat) : aB 9 (run Tryz.E1 2000 20 0 .pl rest (tmE (tmM 9 (.it .u8 (.ofNat 104))) 10 11 (.tu [.bo true, .st [97], .fn (.func 65) [] []]) true) (aC es 18 (2 :: σ))) = some (some (.it .u8 (.ofNat 104)), some (.pt 1 0), some (.map es 18), some (.mit 0 18 (2 :: σ) 18), true) := by kernel_rfl
theorem zOa (σ : List Nat) : aB 9 (run Tryz.E1 2000 20 0 .pl rest (tmE (tmM 9 (.it .u8 (.ofNat 104))) 10 11 (.tu [.bo true, .st [105], .fn (.func 66) [] []]) true) (aC es 18 (3 :: σ))) = some (some (.it .u8 (.ofNat 104)), some (.pt 1 0), some (.map es 18), some (.mit 0 18 (3 :: σ) 18), true) := by kernel_rfl
theorem zOb (σ : List Nat) : aB 9 (run Tryz.E1 2000 20 0 .pl rest (tmE (tmM 9 (.it .u8 (.ofNat 104))) 10 11 (.tu [.bo true, .st [99], .fn (.func 67) [] []]) true) (aC es 18 (4 :: σ))) = some (some (.it .u8 (.ofNat 104)), some (.pt 1 0), some (.map es 18), some (.mit 0 18 (4 :: σ) 18), true) := by kernel_rfl
theorem zOc (σ : List Nat) : aB 9 (run Tryz.E1 2000 20 0 .pl rest (tmE (tmM 9 (.it .u8 (.ofNat 104))) 10 11 (.tu [.bo true, .st [98], .fn (.func 68) [] []]) true) (aC es 18 (5 :: σ))) = some (some (.it .u8 (.ofNat 104)), some (.pt 1 0), some (.map es 18), some (.mit 0 18 (5 :: σ) 18), true) := by kernel_rfl
theorem zOd (σ : List Nat) : aB 9 (run Tryz.E1 2000 20 0 .pl rest (tmE (tmM 9 (.it .u8 (.ofNat 104))) 10 11 (.tu [.bo true, .st [116, 84], .fn (.func 69) [] []]) true) (aC es 18 (6 :: σ))) = some (some (.it .u8 (.ofNat 104)), some (.pt 1 0), some (.map es 18), some (.mit 0 18 (6 :: σ) 18), true) := by kernel_rfl
theorem zOe (σ : List Nat) : aB 9 (run Tryz.E1 2000 20 0 .pl rest (tmE (tmM 9 (.it .u8 (.ofNat 104))) 10 11 (.tu [.bo true, .st [100, 68], .fn (.func 70) [] []]) true) (aC es 18 (7 :: σ))) = some (some (.it .u8 (.ofNat 104)), some (.pt 1 0), some (.map es 18), some (.mit 0 18 (7 :: σ) 18), true) := by kernel_rfl
theorem zOf (σ : List Nat) : aB 9 (run Tryz.E1 2000 20 0 .pl rest (tmE (tmM 9 (.it .u8 (.ofNat 104))) 10 11 (.tu [.bo true, .st [108], .fn (.func 72) [] []]) true) (aC es 18 (9 :: σ))) = some (some (.it .u8 (.ofNat 104)), some (.pt 1 0), some (.map es 18), some (.mit 0 18 (9 :: σ) 18), true) := by kernel_rfl
theorem zIz (σ : List Nat) : aB 9 (run Tryz.E1 2000 20 0 .pl rest (tmE (tmM 9 (.it .u8 (.ofNat 104))) 10 11 (.tu [.bo true, .st [110, 78], .fn (.func 73) [] []]) true) (aC es 18 (10 :: σ))) = some (some (.it .u8 (.ofNat 104)), some (.pt 1 0), some (.map es 18), some (.mit 0 18 (10 :: σ) 18), true) := by kernel_rfl
theorem zJa (σ : List Nat) : aB 9 (run Tryz.E1 2000 20 0 .pl rest (tmE (tmM 9 (.it .u8 (.ofNat 104))) 10 11 (.tu [.bo true, .st [112], .fn (.func 74) [] []]) true) (aC es 18 (11 :: σ))) = some (some (.it .u8 (.ofNat 104)), some (.pt 1 0), some (.map es 18), some (.mit 0 18 (11 :: σ) 18), true) := by kernel_rfl
theorem zJb (σ : List Nat) : aB 9 (run Tryz.E1 2000 20 0 .pl rest (tmE (tmM 9 (.it .u8 (.ofNat 104))) 10 11 (.tu [.bo true, .st [80], .fn (.func 75) [] []]) true) (aC es 18 (12 :: σ))) = some (some (.it .u8 (.ofNat 104)), some (.pt 1 0), some (.map es 18), some (.mit 0 18 (12 :: σ) 18), true) := by kernel_rfl
theorem zJc (σ : List Nat) : aB 9 (run Tryz.E1 2000 20 0 .pl rest (tmE (tmM 9 (.it .u8 (.ofNat 104))) 10 11 (.tu [.bo true, .st [113, 81], .fn (.func 76) [] []]) true) (aC es 18 (13 :: σ))) = some (some (.it .u8 (.ofNat 104)), some (.pt 1 0), some (.map es 18), some (.mit 0 18 (13 :: σ) 18), true) := by kernel_rfl
theorem zJd (σ : List Nat) : aB 9 (run Tryz.E1 2000 20 0 .pl rest (tmE (tmM 9 (.it .u8 (.ofNat 104))) 10 11 (.tu [.bo true, .st [114], .fn (.func 77) [] []]) true) (aC es 18 (14 :: σ))) = some (some (.it .u8 (.ofNat 104)), some (.pt 1 0), some (.map es 18), some (.mit 0 18 (14 :: σ) 18), true) := by kernel_rfl
theorem zJe (σ : List Nat) : aB 9 (run Tryz.E1 2000 20 0 .pl rest (tmE (tmM 9 (.it .u8 (.ofNat 104))) 10 11 (.tu [.bo true, .st [119], .fn (.func 78) [] []]) true) (aC es 18 (15 :: σ))) = some (some (.it .u8 (.ofNat 104)), some (.pt 1 0), some (.map es 18), some (.mit 0 18 (15 :: σ) 18), true) := by kernel_rfl
theorem zJf (σ : List Nat) : aB 9 (run Tryz.E1 2000 20 0 .pl rest (tmE (tmM 9 (.it .u8 (.ofNat 104))) 10 11 (.tu [.bo true, .st [115], .fn (.func 79) [] []]) true) (aC es 18 (16 :: σ))) = some (some (.it .u8 (.ofNat 104)), some (.pt 1 0), some (.map es 18), some (.mit 0 18 (16 :: σ) 18), true) := by kernel_rfl
theorem zJg (σ : List Nat) : aB 9 (run Tryz.E1 2000 20 0 .pl rest (tmE (tmM 9 (.it .u8 (.ofNat 104))) 10 11 (.tu [.bo true, .st [121], .fn (.func 80) [] []]) true) (aC es 18 (17 :: σ))) = some (some (.it .u8 (.ofNat 104)), some (.pt 1 0), some (.map es 18), some (.mit 0 18 (17 :: σ) 18), true) := by kernel_rfl
theorem d104 (lo : Nat) (A : W) (args : List AV) (ha : args = [.it .u8 (.ofNat 104)]) : aZ Tryz.prog lo 39 args A (.ret (.fn (.func 71) [] [])) A := by
 refine fO (E := Tryz.E1) Tryz.E1_ok (k := 2000) (n := 20) (its := 9) (a1 := 10) (a2 := 11) (es := es) (clk := 18) (eh := (.st [103, 71, 104, 72, 120], .fn (.func 71) [] [], 8)) got body shp tmps (by decide) (nx := nx) (ex := ex) (by kernel_rfl) (by kernel_rfl) (by kernel_rfl) (by kernel_rfl) (by kernel_rfl) (by kernel_rfl) (by decide) (by kernel_rfl)
  (by kernel_rfl) (by kernel_rfl) (by kernel_rfl) (by kernel_rfl) (by kernel_rfl) (by kernel_rfl) (by simp [es]) (fun e he hne σ => ?_) (fun σ => by kernel_rfl) lo A args ha
 simp only [es, List.mem_cons, List.not_mem_nil, or_false] at he
 rcases he with rfl | rfl | rfl | rfl | rfl | rfl | rfl | rfl | rfl | rfl | rfl | rfl | rfl | rfl | rfl | rfl | rfl | rfl
 ·exact zNx σ
 ·exact zNy σ
 ·exact zNz σ
 ·exact zOa σ
 ·exact zOb σ
 ·exact zOc σ
 ·exact zOd σ
 ·exact zOe σ
 ·exact absurd rfl hne
 ·exact zOf σ
 ·exact zIz σ
 ·exact zJa σ
 ·exact zJb σ
 ·exact zJc σ
 ·exact zJd σ
 ·exact zJe σ
 ·exact zJf σ
 ·exact zJg σ
theorem zRf (σ : List Nat) : aB 9 (run Tryz.E1 2000 20 0 .pl rest (tmE (tmM 9 (.it .u8 (.ofNat 72))) 10 11 (.tu [.bo true, .st [123, 125], .fn (.func 63) [] []]) true) (aC es 18 (0 :: σ))) = some (some (.it .u8 (.ofNat 72)), some (.pt 1 0), some (.map es 18), some (.mit 0 18 (0 :: σ) 18), true) := by kernel_rfl
theorem zRg (σ : List Nat) : aB 9 (run Tryz.E1 2000 20 0 .pl rest (tmE (tmM 9 (.it .u8 (.ofNat 72))) 10 11 (.tu [.bo true, .st [61], .fn (.func 64) [] []]) true) (aC es 18 (1 :: σ))) = some (some (.it .u8 (.ofNat 72)), some (.pt 1 0), some (.map es 18), some (.mit 0 18 (1 :: σ) 18), true) := by kernel_rfl
theorem zRh (σ : List Nat) : aB 9 (run Tryz.E1 2000 20 0 .pl rest (tmE (tmM 9 (.it .u8 (.ofNat 72))) 10 11 (.tu [.bo true, .st [97], .fn (.func 65) [] []]) true) (aC es 18 (2 :: σ))) = some (some (.it .u8 (.ofNat 72)), some (.pt 1 0), some (.map es 18), some (.mit 0 18 (2 :: σ) 18), true) := by kernel_rfl
theorem zRi (σ : List Nat) : aB 9 (run Tryz.E1 2000 20 0 .pl rest (tmE (tmM 9 (.it .u8 (.ofNat 72))) 10 11 (.tu [.bo true, .st [105], .fn (.func 66) [] []]) true) (aC es 18 (3 :: σ))) = some (some (.it .u8 (.ofNat 72)), some (.pt 1 0), some (.map es 18), some (.mit 0 18 (3 :: σ) 18), true) := by kernel_rfl
theorem zRj (σ : List Nat) : aB 9 (run Tryz.E1 2000 20 0 .pl rest (tmE (tmM 9 (.it .u8 (.ofNat 72))) 10 11 (.tu [.bo true, .st [99], .fn (.func 67) [] []]) true) (aC es 18 (4 :: σ))) = some (some (.it .u8 (.ofNat 72)), some (.pt 1 0), some (.map es 18), some (.mit 0 18 (4 :: σ) 18), true) := by kernel_rfl
theorem zRk (σ : List Nat) : aB 9 (run Tryz.E1 2000 20 0 .pl rest (tmE (tmM 9 (.it .u8 (.ofNat 72))) 10 11 (.tu [.bo true, .st [98], .fn (.func 68) [] []]) true) (aC es 18 (5 :: σ))) = some (some (.it .u8 (.ofNat 72)), some (.pt 1 0), some (.map es 18), some (.mit 0 18 (5 :: σ) 18), true) := by kernel_rfl
theorem zRl (σ : List Nat) : aB 9 (run Tryz.E1 2000 20 0 .pl rest (tmE (tmM 9 (.it .u8 (.ofNat 72))) 10 11 (.tu [.bo true, .st [116, 84], .fn (.func 69) [] []]) true) (aC es 18 (6 :: σ))) = some (some (.it .u8 (.ofNat 72)), some (.pt 1 0), some (.map es 18), some (.mit 0 18 (6 :: σ) 18), true) := by kernel_rfl
theorem zRm (σ : List Nat) : aB 9 (run Tryz.E1 2000 20 0 .pl rest (tmE (tmM 9 (.it .u8 (.ofNat 72))) 10 11 (.tu [.bo true, .st [100, 68], .fn (.func 70) [] []]) true) (aC es 18 (7 :: σ))) = some (some (.it .u8 (.ofNat 72)), some (.pt 1 0), some (.map es 18), some (.mit 0 18 (7 :: σ) 18), true) := by kernel_rfl
theorem zRn (σ : List Nat) : aB 9 (run Tryz.E1 2000 20 0 .pl rest (tmE (tmM 9 (.it .u8 (.ofNat 72))) 10 11 (.tu [.bo true, .st [108], .fn (.func 72) [] []]) true) (aC es 18 (9 :: σ))) = some (some (.it .u8 (.ofNat 72)), some (.pt 1 0), some (.map es 18), some (.mit 0 18 (9 :: σ) 18), true) := by kernel_rfl
theorem zOg (σ : List Nat) : aB 9 (run Tryz.E1 2000 20 0 .pl rest (tmE (tmM 9 (.it .u8 (.ofNat 72))) 10 11 (.tu [.bo true, .st [110, 78], .fn (.func 73) [] []]) true) (aC es 18 (10 :: σ))) = some (some (.it .u8 (.ofNat 72)), some (.pt 1 0), some (.map es 18), some (.mit 0 18 (10 :: σ) 18), true) := by kernel_rfl
theorem zOh (σ : List Nat) : aB 9 (run Tryz.E1 2000 20 0 .pl rest (tmE (tmM 9 (.it .u8 (.ofNat 72))) 10 11 (.tu [.bo true, .st [112], .fn (.func 74) [] []]) true) (aC es 18 (11 :: σ))) = some (some (.it .u8 (.ofNat 72)), some (.pt 1 0), some (.map es 18), some (.mit 0 18 (11 :: σ) 18), true) := by kernel_rfl
theorem zOi (σ : List Nat) : aB 9 (run Tryz.E1 2000 20 0 .pl rest (tmE (tmM 9 (.it .u8 (.ofNat 72))) 10 11 (.tu [.bo true, .st [80], .fn (.func 75) [] []]) true) (aC es 18 (12 :: σ))) = some (some (.it .u8 (.ofNat 72)), some (.pt 1 0), some (.map es 18), some (.mit 0 18 (12 :: σ) 18), true) := by kernel_rfl
theorem zOj (σ : List Nat) : aB 9 (run Tryz.E1 2000 20 0 .pl rest (tmE (tmM 9 (.it .u8 (.ofNat 72))) 10 11 (.tu [.bo true, .st [113, 81], .fn (.func 76) [] []]) true) (aC es 18 (13 :: σ))) = some (some (.it .u8 (.ofNat 72)), some (.pt 1 0), some (.map es 18), some (.mit 0 18 (13 :: σ) 18), true) := by kernel_rfl
theorem zOk (σ : List Nat) : aB 9 (run Tryz.E1 2000 20 0 .pl rest (tmE (tmM 9 (.it .u8 (.ofNat 72))) 10 11 (.tu [.bo true, .st [114], .fn (.func 77) [] []]) true) (aC es 18 (14 :: σ))) = some (some (.it .u8 (.ofNat 72)), some (.pt 1 0), some (.map es 18), some (.mit 0 18 (14 :: σ) 18), true) := by kernel_rfl
theorem zOl (σ : List Nat) : aB 9 (run Tryz.E1 2000 20 0 .pl rest (tmE (tmM 9 (.it .u8 (.ofNat 72))) 10 11 (.tu [.bo true, .st [119], .fn (.func 78) [] []]) true) (aC es 18 (15 :: σ))) = some (some (.it .u8 (.ofNat 72)), some (.pt 1 0), some (.map es 18), some (.mit 0 18 (15 :: σ) 18), true) := by kernel_rfl
theorem zOm (σ : List Nat) : aB 9 (run Tryz.E1 2000 20 0 .pl rest (tmE (tmM 9 (.it .u8 (.ofNat 72))) 10 11 (.tu [.bo true, .st [115], .fn (.func 79) [] []]) true) (aC es 18 (16 :: σ))) = some (some (.it .u8 (.ofNat 72)), some (.pt 1 0), some (.map es 18), some (.mit 0 18 (16 :: σ) 18), true) := by kernel_rfl
theorem zOn (σ : List Nat) : aB 9 (run Tryz.E1 2000 20 0 .pl rest (tmE (tmM 9 (.it .u8 (.ofNat 72))) 10 11 (.tu [.bo true, .st [121], .fn (.func 80) [] []]) true) (aC es 18 (17 :: σ))) = some (some (.it .u8 (.ofNat 72)), some (.pt 1 0), some (.map es 18), some (.mit 0 18 (17 :: σ) 18), true) := by kernel_rfl
theorem d72 (lo : Nat) (A : W) (args : List AV) (ha : args = [.it .u8 (.ofNat 72)]) : aZ Tryz.prog lo 39 args A (.ret (.fn (.func 71) [] [])) A := by
 refine fO (E := Tryz.E1) Tryz.E1_ok (k := 2000) (n := 20) (its := 9) (a1 := 10) (a2 := 11) (es := es) (clk := 18) (eh := (.st [103, 71, 104, 72, 120], .fn (.func 71) [] [], 8)) got body shp tmps (by decide) (nx := nx) (ex := ex) (by kernel_rfl) (by kernel_rfl) (by kernel_rfl) (by kernel_rfl) (by kernel_rfl) (by kernel_rfl) (by decide) (by kernel_rfl)
  (by kernel_rfl) (by kernel_rfl) (by kernel_rfl) (by kernel_rfl) (by kernel_rfl) (by kernel_rfl) (by simp [es]) (fun e he hne σ => ?_) (fun σ => by kernel_rfl) lo A args ha
 simp only [es, List.mem_cons, List.not_mem_nil, or_false] at he
 rcases he with rfl | rfl | rfl | rfl | rfl | rfl | rfl | rfl | rfl | rfl | rfl | rfl | rfl | rfl | rfl | rfl | rfl | rfl
 ·exact zRf σ
 ·exact zRg σ
 ·exact zRh σ
 ·exact zRi σ
 ·exact zRj σ
 ·exact zRk σ
 ·exact zRl σ
 ·exact zRm σ
 ·exact absurd rfl hne
 ·exact zRn σ
 ·exact zOg σ
 ·exact zOh σ
 ·exact zOi σ
 ·exact zOj σ
 ·exact zOk σ
 ·exact zOl σ
 ·exact zOm σ
 ·exact zOn σ
theorem zOo (σ : List Nat) : aB 9 (run Tryz.E1 2000 20 0 .pl rest (tmE (tmM 9 (.it .u8 (.ofNat 120))) 10 11 (.tu [.bo true, .st [123, 125], .fn (.func 63) [] []]) true) (aC es 18 (0 :: σ))) = some (some (.it .u8 (.ofNat 120)), some (.pt 1 0), some (.map es 18), some (.mit 0 18 (0 :: σ) 18), true) := by kernel_rfl
theorem zOp (σ : List Nat) : aB 9 (run Tryz.E1 2000 20 0 .pl rest (tmE (tmM 9 (.it .u8 (.ofNat 120))) 10 11 (.tu [.bo true, .st [61], .fn (.func 64) [] []]) true) (aC es 18 (1 :: σ))) = some (some (.it .u8 (.ofNat 120)), some (.pt 1 0), some (.map es 18), some (.mit 0 18 (1 :: σ) 18), true) := by kernel_rfl
theorem zOq (σ : List Nat) : aB 9 (run Tryz.E1 2000 20 0 .pl rest (tmE (tmM 9 (.it .u8 (.ofNat 120))) 10 11 (.tu [.bo true, .st [97], .fn (.func 65) [] []]) true) (aC es 18 (2 :: σ))) = some (some (.it .u8 (.ofNat 120)), some (.pt 1 0), some (.map es 18), some (.mit 0 18 (2 :: σ) 18), true) := by kernel_rfl
theorem zOr (σ : List Nat) : aB 9 (run Tryz.E1 2000 20 0 .pl rest (tmE (tmM 9 (.it .u8 (.ofNat 120))) 10 11 (.tu [.bo true, .st [105], .fn (.func 66) [] []]) true) (aC es 18 (3 :: σ))) = some (some (.it .u8 (.ofNat 120)), some (.pt 1 0), some (.map es 18), some (.mit 0 18 (3 :: σ) 18), true) := by kernel_rfl
theorem zOs (σ : List Nat) : aB 9 (run Tryz.E1 2000 20 0 .pl rest (tmE (tmM 9 (.it .u8 (.ofNat 120))) 10 11 (.tu [.bo true, .st [99], .fn (.func 67) [] []]) true) (aC es 18 (4 :: σ))) = some (some (.it .u8 (.ofNat 120)), some (.pt 1 0), some (.map es 18), some (.mit 0 18 (4 :: σ) 18), true) := by kernel_rfl
theorem zOt (σ : List Nat) : aB 9 (run Tryz.E1 2000 20 0 .pl rest (tmE (tmM 9 (.it .u8 (.ofNat 120))) 10 11 (.tu [.bo true, .st [98], .fn (.func 68) [] []]) true) (aC es 18 (5 :: σ))) = some (some (.it .u8 (.ofNat 120)), some (.pt 1 0), some (.map es 18), some (.mit 0 18 (5 :: σ) 18), true) := by kernel_rfl
theorem zOu (σ : List Nat) : aB 9 (run Tryz.E1 2000 20 0 .pl rest (tmE (tmM 9 (.it .u8 (.ofNat 120))) 10 11 (.tu [.bo true, .st [116, 84], .fn (.func 69) [] []]) true) (aC es 18 (6 :: σ))) = some (some (.it .u8 (.ofNat 120)), some (.pt 1 0), some (.map es 18), some (.mit 0 18 (6 :: σ) 18), true) := by kernel_rfl
theorem zOv (σ : List Nat) : aB 9 (run Tryz.E1 2000 20 0 .pl rest (tmE (tmM 9 (.it .u8 (.ofNat 120))) 10 11 (.tu [.bo true, .st [100, 68], .fn (.func 70) [] []]) true) (aC es 18 (7 :: σ))) = some (some (.it .u8 (.ofNat 120)), some (.pt 1 0), some (.map es 18), some (.mit 0 18 (7 :: σ) 18), true) := by kernel_rfl
theorem zOw (σ : List Nat) : aB 9 (run Tryz.E1 2000 20 0 .pl rest (tmE (tmM 9 (.it .u8 (.ofNat 120))) 10 11 (.tu [.bo true, .st [108], .fn (.func 72) [] []]) true) (aC es 18 (9 :: σ))) = some (some (.it .u8 (.ofNat 120)), some (.pt 1 0), some (.map es 18), some (.mit 0 18 (9 :: σ) 18), true) := by kernel_rfl
theorem zJh (σ : List Nat) : aB 9 (run Tryz.E1 2000 20 0 .pl rest (tmE (tmM 9 (.it .u8 (.ofNat 120))) 10 11 (.tu [.bo true, .st [110, 78], .fn (.func 73) [] []]) true) (aC es 18 (10 :: σ))) = some (some (.it .u8 (.ofNat 120)), some (.pt 1 0), some (.map es 18), some (.mit 0 18 (10 :: σ) 18), true) := by kernel_rfl
theorem zJi (σ : List Nat) : aB 9 (run Tryz.E1 2000 20 0 .pl rest (tmE (tmM 9 (.it .u8 (.ofNat 120))) 10 11 (.tu [.bo true, .st [112], .fn (.func 74) [] []]) true) (aC es 18 (11 :: σ))) = some (some (.it .u8 (.ofNat 120)), some (.pt 1 0), some (.map es 18), some (.mit 0 18 (11 :: σ) 18), true) := by kernel_rfl
theorem zJj (σ : List Nat) : aB 9 (run Tryz.E1 2000 20 0 .pl rest (tmE (tmM 9 (.it .u8 (.ofNat 120))) 10 11 (.tu [.bo true, .st [80], .fn (.func 75) [] []]) true) (aC es 18 (12 :: σ))) = some (some (.it .u8 (.ofNat 120)), some (.pt 1 0), some (.map es 18), some (.mit 0 18 (12 :: σ) 18), true) := by kernel_rfl
theorem zJk (σ : List Nat) : aB 9 (run Tryz.E1 2000 20 0 .pl rest (tmE (tmM 9 (.it .u8 (.ofNat 120))) 10 11 (.tu [.bo true, .st [113, 81], .fn (.func 76) [] []]) true) (aC es 18 (13 :: σ))) = some (some (.it .u8 (.ofNat 120)), some (.pt 1 0), some (.map es 18), some (.mit 0 18 (13 :: σ) 18), true) := by kernel_rfl
theorem zJl (σ : List Nat) : aB 9 (run Tryz.E1 2000 20 0 .pl rest (tmE (tmM 9 (.it .u8 (.ofNat 120))) 10 11 (.tu [.bo true, .st [114], .fn (.func 77) [] []]) true) (aC es 18 (14 :: σ))) = some (some (.it .u8 (.ofNat 120)), some (.pt 1 0), some (.map es 18), some (.mit 0 18 (14 :: σ) 18), true) := by kernel_rfl
theorem zJm (σ : List Nat) : aB 9 (run Tryz.E1 2000 20 0 .pl rest (tmE (tmM 9 (.it .u8 (.ofNat 120))) 10 11 (.tu [.bo true, .st [119], .fn (.func 78) [] []]) true) (aC es 18 (15 :: σ))) = some (some (.it .u8 (.ofNat 120)), some (.pt 1 0), some (.map es 18), some (.mit 0 18 (15 :: σ) 18), true) := by kernel_rfl
theorem zJn (σ : List Nat) : aB 9 (run Tryz.E1 2000 20 0 .pl rest (tmE (tmM 9 (.it .u8 (.ofNat 120))) 10 11 (.tu [.bo true, .st [115], .fn (.func 79) [] []]) true) (aC es 18 (16 :: σ))) = some (some (.it .u8 (.ofNat 120)), some (.pt 1 0), some (.map es 18), some (.mit 0 18 (16 :: σ) 18), true) := by kernel_rfl
theorem zJo (σ : List Nat) : aB 9 (run Tryz.E1 2000 20 0 .pl rest (tmE (tmM 9 (.it .u8 (.ofNat 120))) 10 11 (.tu [.bo true, .st [121], .fn (.func 80) [] []]) true) (aC es 18 (17 :: σ))) = some (some (.it .u8 (.ofNat 120)), some (.pt 1 0), some (.map es 18), some (.mit 0 18 (17 :: σ) 18), true) := by kernel_rfl
theorem d120 (lo : Nat) (A : W) (args : List AV) (ha : args = [.it .u8 (.ofNat 120)]) : aZ Tryz.prog lo 39 args A (.ret (.fn (.func 71) [] [])) A := by
 refine fO (E := Tryz.E1) Tryz.E1_ok (k := 2000) (n := 20) (its := 9) (a1 := 10) (a2 := 11) (es := es) (clk := 18) (eh := (.st [103, 71, 104, 72, 120], .fn (.func 71) [] [], 8)) got body shp tmps (by decide) (nx := nx) (ex := ex) (by kernel_rfl) (by kernel_rfl) (by kernel_rfl) (by kernel_rfl) (by kernel_rfl) (by kernel_rfl) (by decide) (by kernel_rfl)
  (by kernel_rfl) (by kernel_rfl) (by kernel_rfl) (by kernel_rfl) (by kernel_rfl) (by kernel_rfl) (by simp [es]) (fun e he hne σ => ?_) (fun σ => by kernel_rfl) lo A args ha
 simp only [es, List.mem_cons, List.not_mem_nil, or_false] at he
 rcases he with rfl | rfl | rfl | rfl | rfl | rfl | rfl | rfl | rfl | rfl | rfl | rfl | rfl | rfl | rfl | rfl | rfl | rfl
 ·exact zOo σ
 ·exact zOp σ
 ·exact zOq σ
 ·exact zOr σ
 ·exact zOs σ
 ·exact zOt σ
 ·exact zOu σ
 ·exact zOv σ
 ·exact absurd rfl hne
 ·exact zOw σ
 ·exact zJh σ
 ·exact zJi σ
 ·exact zJj σ
 ·exact zJk σ
 ·exact zJl σ
 ·exact zJm σ
 ·exact zJn σ
 ·exact zJo σ
theorem zOx (σ : List Nat) : aB 9 (run Tryz.E1 2000 20 0 .pl rest (tmE (tmM 9 (.it .u8 (.ofNat 112))) 10 11 (.tu [.bo true, .st [123, 125], .fn (.func 63) [] []]) true) (aC es 18 (0 :: σ))) = some (some (.it .u8 (.ofNat 112)), some (.pt 1 0), some (.map es 18), some (.mit 0 18 (0 :: σ) 18), true) := by kernel_rfl
theorem zOy (σ : List Nat) : aB 9 (run Tryz.E1 2000 20 0 .pl rest (tmE (tmM 9 (.it .u8 (.ofNat 112))) 10 11 (.tu [.bo true, .st [61], .fn (.func 64) [] []]) true) (aC es 18 (1 :: σ))) = some (some (.it .u8 (.ofNat 112)), some (.pt 1 0), some (.map es 18), some (.mit 0 18 (1 :: σ) 18), true) := by kernel_rfl
theorem zOz (σ : List Nat) : aB 9 (run Tryz.E1 2000 20 0 .pl rest (tmE (tmM 9 (.it .u8 (.ofNat 112))) 10 11 (.tu [.bo true, .st [97], .fn (.func 65) [] []]) true) (aC es 18 (2 :: σ))) = some (some (.it .u8 (.ofNat 112)), some (.pt 1 0), some (.map es 18), some (.mit 0 18 (2 :: σ) 18), true) := by kernel_rfl
theorem zPa (σ : List Nat) : aB 9 (run Tryz.E1 2000 20 0 .pl rest (tmE (tmM 9 (.it .u8 (.ofNat 112))) 10 11 (.tu [.bo true, .st [105], .fn (.func 66) [] []]) true) (aC es 18 (3 :: σ))) = some (some (.it .u8 (.ofNat 112)), some (.pt 1 0), some (.map es 18), some (.mit 0 18 (3 :: σ) 18), true) := by kernel_rfl
theorem zPb (σ : List Nat) : aB 9 (run Tryz.E1 2000 20 0 .pl rest (tmE (tmM 9 (.it .u8 (.ofNat 112))) 10 11 (.tu [.bo true, .st [99], .fn (.func 67) [] []]) true) (aC es 18 (4 :: σ))) = some (some (.it .u8 (.ofNat 112)), some (.pt 1 0), some (.map es 18), some (.mit 0 18 (4 :: σ) 18), true) := by kernel_rfl
theorem zPc (σ : List Nat) : aB 9 (run Tryz.E1 2000 20 0 .pl rest (tmE (tmM 9 (.it .u8 (.ofNat 112))) 10 11 (.tu [.bo true, .st [98], .fn (.func 68) [] []]) true) (aC es 18 (5 :: σ))) = some (some (.it .u8 (.ofNat 112)), some (.pt 1 0), some (.map es 18), some (.mit 0 18 (5 :: σ) 18), true) := by kernel_rfl
theorem zPd (σ : List Nat) : aB 9 (run Tryz.E1 2000 20 0 .pl rest (tmE (tmM 9 (.it .u8 (.ofNat 112))) 10 11 (.tu [.bo true, .st [116, 84], .fn (.func 69) [] []]) true) (aC es 18 (6 :: σ))) = some (some (.it .u8 (.ofNat 112)), some (.pt 1 0), some (.map es 18), some (.mit 0 18 (6 :: σ) 18), true) := by kernel_rfl
theorem zPe (σ : List Nat) : aB 9 (run Tryz.E1 2000 20 0 .pl rest (tmE (tmM 9 (.it .u8 (.ofNat 112))) 10 11 (.tu [.bo true, .st [100, 68], .fn (.func 70) [] []]) true) (aC es 18 (7 :: σ))) = some (some (.it .u8 (.ofNat 112)), some (.pt 1 0), some (.map es 18), some (.mit 0 18 (7 :: σ) 18), true) := by kernel_rfl
theorem zPf (σ : List Nat) : aB 9 (run Tryz.E1 2000 20 0 .pl rest (tmE (tmM 9 (.it .u8 (.ofNat 112))) 10 11 (.tu [.bo true, .st [103, 71, 104, 72, 120], .fn (.func 71) [] []]) true) (aC es 18 (8 :: σ))) = some (some (.it .u8 (.ofNat 112)), some (.pt 1 0), some (.map es 18), some (.mit 0 18 (8 :: σ) 18), true) := by kernel_rfl
theorem zPg (σ : List Nat) : aB 9 (run Tryz.E1 2000 20 0 .pl rest (tmE (tmM 9 (.it .u8 (.ofNat 112))) 10 11 (.tu [.bo true, .st [108], .fn (.func 72) [] []]) true) (aC es 18 (9 :: σ))) = some (some (.it .u8 (.ofNat 112)), some (.pt 1 0), some (.map es 18), some (.mit 0 18 (9 :: σ) 18), true) := by kernel_rfl
theorem zJp (σ : List Nat) : aB 9 (run Tryz.E1 2000 20 0 .pl rest (tmE (tmM 9 (.it .u8 (.ofNat 112))) 10 11 (.tu [.bo true, .st [110, 78], .fn (.func 73) [] []]) true) (aC es 18 (10 :: σ))) = some (some (.it .u8 (.ofNat 112)), some (.pt 1 0), some (.map es 18), some (.mit 0 18 (10 :: σ) 18), true) := by kernel_rfl
theorem zJq (σ : List Nat) : aB 9 (run Tryz.E1 2000 20 0 .pl rest (tmE (tmM 9 (.it .u8 (.ofNat 112))) 10 11 (.tu [.bo true, .st [80], .fn (.func 75) [] []]) true) (aC es 18 (12 :: σ))) = some (some (.it .u8 (.ofNat 112)), some (.pt 1 0), some (.map es 18), some (.mit 0 18 (12 :: σ) 18), true) := by kernel_rfl
theorem zJr (σ : List Nat) : aB 9 (run Tryz.E1 2000 20 0 .pl rest (tmE (tmM 9 (.it .u8 (.ofNat 112))) 10 11 (.tu [.bo true, .st [113, 81], .fn (.func 76) [] []]) true) (aC es 18 (13 :: σ))) = some (some (.it .u8 (.ofNat 112)), some (.pt 1 0), some (.map es 18), some (.mit 0 18 (13 :: σ) 18), true) := by kernel_rfl
theorem zJs (σ : List Nat) : aB 9 (run Tryz.E1 2000 20 0 .pl rest (tmE (tmM 9 (.it .u8 (.ofNat 112))) 10 11 (.tu [.bo true, .st [114], .fn (.func 77) [] []]) true) (aC es 18 (14 :: σ))) = some (some (.it .u8 (.ofNat 112)), some (.pt 1 0), some (.map es 18), some (.mit 0 18 (14 :: σ) 18), true) := by kernel_rfl
theorem zJt (σ : List Nat) : aB 9 (run Tryz.E1 2000 20 0 .pl rest (tmE (tmM 9 (.it .u8 (.ofNat 112))) 10 11 (.tu [.bo true, .st [119], .fn (.func 78) [] []]) true) (aC es 18 (15 :: σ))) = some (some (.it .u8 (.ofNat 112)), some (.pt 1 0), some (.map es 18), some (.mit 0 18 (15 :: σ) 18), true) := by kernel_rfl
theorem zJu (σ : List Nat) : aB 9 (run Tryz.E1 2000 20 0 .pl rest (tmE (tmM 9 (.it .u8 (.ofNat 112))) 10 11 (.tu [.bo true, .st [115], .fn (.func 79) [] []]) true) (aC es 18 (16 :: σ))) = some (some (.it .u8 (.ofNat 112)), some (.pt 1 0), some (.map es 18), some (.mit 0 18 (16 :: σ) 18), true) := by kernel_rfl
theorem zJv (σ : List Nat) : aB 9 (run Tryz.E1 2000 20 0 .pl rest (tmE (tmM 9 (.it .u8 (.ofNat 112))) 10 11 (.tu [.bo true, .st [121], .fn (.func 80) [] []]) true) (aC es 18 (17 :: σ))) = some (some (.it .u8 (.ofNat 112)), some (.pt 1 0), some (.map es 18), some (.mit 0 18 (17 :: σ) 18), true) := by kernel_rfl
theorem d112 (lo : Nat) (A : W) (args : List AV) (ha : args = [.it .u8 (.ofNat 112)]) : aZ Tryz.prog lo 39 args A (.ret (.fn (.func 74) [] [])) A := by
 refine fO (E := Tryz.E1) Tryz.E1_ok (k := 2000) (n := 20) (its := 9) (a1 := 10) (a2 := 11) (es := es) (clk := 18) (eh := (.st [112], .fn (.func 74) [] [], 11)) got body shp tmps (by decide) (nx := nx) (ex := ex) (by kernel_rfl) (by kernel_rfl) (by kernel_rfl) (by kernel_rfl) (by kernel_rfl) (by kernel_rfl) (by decide) (by kernel_rfl)
  (by kernel_rfl) (by kernel_rfl) (by kernel_rfl) (by kernel_rfl) (by kernel_rfl) (by kernel_rfl) (by simp [es]) (fun e he hne σ => ?_) (fun σ => by kernel_rfl) lo A args ha
 simp only [es, List.mem_cons, List.not_mem_nil, or_false] at he
 rcases he with rfl | rfl | rfl | rfl | rfl | rfl | rfl | rfl | rfl | rfl | rfl | rfl | rfl | rfl | rfl | rfl | rfl | rfl
 ·exact zOx σ
 ·exact zOy σ
 ·exact zOz σ
 ·exact zPa σ
 ·exact zPb σ
 ·exact zPc σ
 ·exact zPd σ
 ·exact zPe σ
 ·exact zPf σ
 ·exact zPg σ
 ·exact zJp σ
 ·exact absurd rfl hne
 ·exact zJq σ
 ·exact zJr σ
 ·exact zJs σ
 ·exact zJt σ
 ·exact zJu σ
 ·exact zJv σ
theorem zPh (σ : List Nat) : aB 9 (run Tryz.E1 2000 20 0 .pl rest (tmE (tmM 9 (.it .u8 (.ofNat 114))) 10 11 (.tu [.bo true, .st [123, 125], .fn (.func 63) [] []]) true) (aC es 18 (0 :: σ))) = some (some (.it .u8 (.ofNat 114)), some (.pt 1 0), some (.map es 18), some (.mit 0 18 (0 :: σ) 18), true) := by kernel_rfl
theorem zPi (σ : List Nat) : aB 9 (run Tryz.E1 2000 20 0 .pl rest (tmE (tmM 9 (.it .u8 (.ofNat 114))) 10 11 (.tu [.bo true, .st [61], .fn (.func 64) [] []]) true) (aC es 18 (1 :: σ))) = some (some (.it .u8 (.ofNat 114)), some (.pt 1 0), some (.map es 18), some (.mit 0 18 (1 :: σ) 18), true) := by kernel_rfl
theorem zPj (σ : List Nat) : aB 9 (run Tryz.E1 2000 20 0 .pl rest (tmE (tmM 9 (.it .u8 (.ofNat 114))) 10 11 (.tu [.bo true, .st [97], .fn (.func 65) [] []]) true) (aC es 18 (2 :: σ))) = some (some (.it .u8 (.ofNat 114)), some (.pt 1 0), some (.map es 18), some (.mit 0 18 (2 :: σ) 18), true) := by kernel_rfl
theorem zPk (σ : List Nat) : aB 9 (run Tryz.E1 2000 20 0 .pl rest (tmE (tmM 9 (.it .u8 (.ofNat 114))) 10 11 (.tu [.bo true, .st [105], .fn (.func 66) [] []]) true) (aC es 18 (3 :: σ))) = some (some (.it .u8 (.ofNat 114)), some (.pt 1 0), some (.map es 18), some (.mit 0 18 (3 :: σ) 18), true) := by kernel_rfl
theorem zPl (σ : List Nat) : aB 9 (run Tryz.E1 2000 20 0 .pl rest (tmE (tmM 9 (.it .u8 (.ofNat 114))) 10 11 (.tu [.bo true, .st [99], .fn (.func 67) [] []]) true) (aC es 18 (4 :: σ))) = some (some (.it .u8 (.ofNat 114)), some (.pt 1 0), some (.map es 18), some (.mit 0 18 (4 :: σ) 18), true) := by kernel_rfl
theorem zPm (σ : List Nat) : aB 9 (run Tryz.E1 2000 20 0 .pl rest (tmE (tmM 9 (.it .u8 (.ofNat 114))) 10 11 (.tu [.bo true, .st [98], .fn (.func 68) [] []]) true) (aC es 18 (5 :: σ))) = some (some (.it .u8 (.ofNat 114)), some (.pt 1 0), some (.map es 18), some (.mit 0 18 (5 :: σ) 18), true) := by kernel_rfl
theorem zPn (σ : List Nat) : aB 9 (run Tryz.E1 2000 20 0 .pl rest (tmE (tmM 9 (.it .u8 (.ofNat 114))) 10 11 (.tu [.bo true, .st [116, 84], .fn (.func 69) [] []]) true) (aC es 18 (6 :: σ))) = some (some (.it .u8 (.ofNat 114)), some (.pt 1 0), some (.map es 18), some (.mit 0 18 (6 :: σ) 18), true) := by kernel_rfl
theorem zPo (σ : List Nat) : aB 9 (run Tryz.E1 2000 20 0 .pl rest (tmE (tmM 9 (.it .u8 (.ofNat 114))) 10 11 (.tu [.bo true, .st [100, 68], .fn (.func 70) [] []]) true) (aC es 18 (7 :: σ))) = some (some (.it .u8 (.ofNat 114)), some (.pt 1 0), some (.map es 18), some (.mit 0 18 (7 :: σ) 18), true) := by kernel_rfl
theorem zPp (σ : List Nat) : aB 9 (run Tryz.E1 2000 20 0 .pl rest (tmE (tmM 9 (.it .u8 (.ofNat 114))) 10 11 (.tu [.bo true, .st [103, 71, 104, 72, 120], .fn (.func 71) [] []]) true) (aC es 18 (8 :: σ))) = some (some (.it .u8 (.ofNat 114)), some (.pt 1 0), some (.map es 18), some (.mit 0 18 (8 :: σ) 18), true) := by kernel_rfl
theorem zPq (σ : List Nat) : aB 9 (run Tryz.E1 2000 20 0 .pl rest (tmE (tmM 9 (.it .u8 (.ofNat 114))) 10 11 (.tu [.bo true, .st [108], .fn (.func 72) [] []]) true) (aC es 18 (9 :: σ))) = some (some (.it .u8 (.ofNat 114)), some (.pt 1 0), some (.map es 18), some (.mit 0 18 (9 :: σ) 18), true) := by kernel_rfl
theorem zJw (σ : List Nat) : aB 9 (run Tryz.E1 2000 20 0 .pl rest (tmE (tmM 9 (.it .u8 (.ofNat 114))) 10 11 (.tu [.bo true, .st [110, 78], .fn (.func 73) [] []]) true) (aC es 18 (10 :: σ))) = some (some (.it .u8 (.ofNat 114)), some (.pt 1 0), some (.map es 18), some (.mit 0 18 (10 :: σ) 18), true) := by kernel_rfl
theorem zJx (σ : List Nat) : aB 9 (run Tryz.E1 2000 20 0 .pl rest (tmE (tmM 9 (.it .u8 (.ofNat 114))) 10 11 (.tu [.bo true, .st [112], .fn (.func 74) [] []]) true) (aC es 18 (11 :: σ))) = some (some (.it .u8 (.ofNat 114)), some (.pt 1 0), some (.map es 18), some (.mit 0 18 (11 :: σ) 18), true) := by kernel_rfl
theorem zJy (σ : List Nat) : aB 9 (run Tryz.E1 2000 20 0 .pl rest (tmE (tmM 9 (.it .u8 (.ofNat 114))) 10 11 (.tu [.bo true, .st [80], .fn (.func 75) [] []]) true) (aC es 18 (12 :: σ))) = some (some (.it .u8 (.ofNat 114)), some (.pt 1 0), some (.map es 18), some (.mit 0 18 (12 :: σ) 18), true) := by kernel_rfl
theorem zJz (σ : List Nat) : aB 9 (run Tryz.E1 2000 20 0 .pl rest (tmE (tmM 9 (.it .u8 (.ofNat 114))) 10 11 (.tu [.bo true, .st [113, 81], .fn (.func 76) [] []]) true) (aC es 18 (13 :: σ))) = some (some (.it .u8 (.ofNat 114)), some (.pt 1 0), some (.map es 18), some (.mit 0 18 (13 :: σ) 18), true) := by kernel_rfl
theorem zKa (σ : List Nat) : aB 9 (run Tryz.E1 2000 20 0 .pl rest (tmE (tmM 9 (.it .u8 (.ofNat 114))) 10 11 (.tu [.bo true, .st [119], .fn (.func 78) [] []]) true) (aC es 18 (15 :: σ))) = some (some (.it .u8 (.ofNat 114)), some (.pt 1 0), some (.map es 18), some (.mit 0 18 (15 :: σ) 18), true) := by kernel_rfl
theorem zKb (σ : List Nat) : aB 9 (run Tryz.E1 2000 20 0 .pl rest (tmE (tmM 9 (.it .u8 (.ofNat 114))) 10 11 (.tu [.bo true, .st [115], .fn (.func 79) [] []]) true) (aC es 18 (16 :: σ))) = some (some (.it .u8 (.ofNat 114)), some (.pt 1 0), some (.map es 18), some (.mit 0 18 (16 :: σ) 18), true) := by kernel_rfl
theorem zKc (σ : List Nat) : aB 9 (run Tryz.E1 2000 20 0 .pl rest (tmE (tmM 9 (.it .u8 (.ofNat 114))) 10 11 (.tu [.bo true, .st [121], .fn (.func 80) [] []]) true) (aC es 18 (17 :: σ))) = some (some (.it .u8 (.ofNat 114)), some (.pt 1 0), some (.map es 18), some (.mit 0 18 (17 :: σ) 18), true) := by kernel_rfl
theorem d114 (lo : Nat) (A : W) (args : List AV) (ha : args = [.it .u8 (.ofNat 114)]) : aZ Tryz.prog lo 39 args A (.ret (.fn (.func 77) [] [])) A := by
 refine fO (E := Tryz.E1) Tryz.E1_ok (k := 2000) (n := 20) (its := 9) (a1 := 10) (a2 := 11) (es := es) (clk := 18) (eh := (.st [114], .fn (.func 77) [] [], 14)) got body shp tmps (by decide) (nx := nx) (ex := ex) (by kernel_rfl) (by kernel_rfl) (by kernel_rfl) (by kernel_rfl) (by kernel_rfl) (by kernel_rfl) (by decide) (by kernel_rfl)
  (by kernel_rfl) (by kernel_rfl) (by kernel_rfl) (by kernel_rfl) (by kernel_rfl) (by kernel_rfl) (by simp [es]) (fun e he hne σ => ?_) (fun σ => by kernel_rfl) lo A args ha
 simp only [es, List.mem_cons, List.not_mem_nil, or_false] at he
 rcases he with rfl | rfl | rfl | rfl | rfl | rfl | rfl | rfl | rfl | rfl | rfl | rfl | rfl | rfl | rfl | rfl | rfl | rfl
 ·exact zPh σ
 ·exact zPi σ
 ·exact zPj σ
 ·exact zPk σ
 ·exact zPl σ
 ·exact zPm σ
 ·exact zPn σ
 ·exact zPo σ
 ·exact zPp σ
 ·exact zPq σ
 ·exact zJw σ
 ·exact zJx σ
 ·exact zJy σ
 ·exact zJz σ
 ·exact absurd rfl hne
 ·exact zKa σ
 ·exact zKb σ
 ·exact zKc σ
end Tryz.Bd
def Tryz.Bd.tab : List (Nat × Nat) := [(123, 63), (97, 65), (100, 70), (103, 71), (71, 71), (104, 71), (72, 71), (120, 71), (112, 74), (114, 77)]
def Jz (tab : List (Nat × Nat)) : Gv := fun _ A xs => match xs with
 | [.it .u8 (.ofNat b)] => ob (lk b tab) fun g => some (.fn (.func g) [] [], A)
 | _ => none
where lk : Nat -> List (Nat × Nat) -> Option Nat
 | _, [] => none
 | b, p :: r => cnd (Nat.beq b p.1) (some p.2) (lk b r)
theorem Ph {b g : Nat} : ∀ {l : List (Nat × Nat)}, Jz.lk b l = some g -> (b, g) ∈ l
 | p :: r, h => by
  unfold Jz.lk cnd at h
  split at h
  ·rename_i hc
   simp only [Option.some.injEq] at h
   have := Nat.eq_of_beq_eq_true hc
   subst this h
   exact .head _
  ·exact .tail _ (Ph h)
theorem Tryz.bdoes_ok (lo : Nat) (A : W) (args : List AV) (v : AV) (A' : W) (h : Jz Tryz.Bd.tab lo A args = some (v, A')) : aZ Tryz.prog lo 39 args A (.ret v) A' := by
 unfold Jz at h
 split at h
 ·rename_i b
  replace h := aA h; obtain ⟨g, hg, h⟩ := h
  simp only [Option.some.injEq, Prod.mk.injEq] at h
  obtain ⟨rfl, rfl⟩ := h
  have hm := Ph hg
  simp only [Tryz.Bd.tab, List.mem_cons, Prod.mk.injEq, List.not_mem_nil, or_false] at hm
  rcases hm with ⟨rfl, rfl⟩ | ⟨rfl, rfl⟩ | ⟨rfl, rfl⟩ | ⟨rfl, rfl⟩ | ⟨rfl, rfl⟩ | ⟨rfl, rfl⟩ | ⟨rfl, rfl⟩ | ⟨rfl, rfl⟩ | ⟨rfl, rfl⟩ | ⟨rfl, rfl⟩
  ·exact Tryz.Bd.d123 lo A _ rfl
  ·exact Tryz.Bd.d97 lo A _ rfl
  ·exact Tryz.Bd.d100 lo A _ rfl
  ·exact Tryz.Bd.d103 lo A _ rfl
  ·exact Tryz.Bd.d71 lo A _ rfl
  ·exact Tryz.Bd.d104 lo A _ rfl
  ·exact Tryz.Bd.d72 lo A _ rfl
  ·exact Tryz.Bd.d120 lo A _ rfl
  ·exact Tryz.Bd.d112 lo A _ rfl
  ·exact Tryz.Bd.d114 lo A _ rfl
 ·cases h
end Go.Proofs
