/- Part of a proof over this seat: a library of my own, and what it says of this seat. No statement is proved here. -/
import Derived.Test.YtmpoakdpdflfgaaGreatDoorPartBC
import Derived.Test.YtmpoakdpdflfgaaGreatDoorPartAY
namespace Go.Proofs
open Go.Ce
set_option maxRecDepth 100000
noncomputable def Tryz.E1 : Env := Tryz.E0.more 107 zDa
theorem Tryz.E1_ok : cZ Tryz.E1 := Tryz.E0_ok.more fun lo A args v A' h => Zu Tryz.func107 (by kernel_rfl) (by kernel_rfl) (by kernel_rfl) (by kernel_rfl) lo A args v A' h
namespace Tryz.Bd
noncomputable abbrev c : Code := Ws Tryz.f54
noncomputable abbrev rest : Code := cR (rR Tryz.f54)
noncomputable abbrev suf : Code := cR (cR (cR c))
def es : List (AV × AV × Nat) := [(.st [123, 125], .fn (.func 86) [] [], 0), (.st [61], .fn (.func 87) [] [], 1), (.st [97], .fn (.func 88) [] [], 2), (.st [105], .fn (.func 89) [] [], 3), (.st [99], .fn (.func 90) [] [], 4), (.st [98], .fn (.func 91) [] [], 5), (.st [116, 84], .fn (.func 92) [] [], 6), (.st [100, 68], .fn (.func 93) [] [], 7), (.st [103, 71, 104, 72, 120], .fn (.func 94) [] [], 8), (.st [108], .fn (.func 95) [] [], 9), (.st [110, 78], .fn (.func 96) [] [], 10), (.st [112], .fn (.func 97) [] [], 11), (.st [80], .fn (.func 98) [] [], 12), (.st [113, 81], .fn (.func 99) [] [], 13), (.st [114], .fn (.func 100) [] [], 14), (.st [119], .fn (.func 101) [] [], 15), (.st [115], .fn (.func 102) [] [], 16), (.st [121], .fn (.func 103) [] [], 17)]
theorem body : Tryz.f54.body = some c := by kernel_rfl
noncomputable abbrev nx : Oper := cOp (cL (rR Tryz.f54)) 0
noncomputable abbrev ex : Oper := cOp (cL (rR Tryz.f54)) 1
noncomputable abbrev rid : Nat := cId (cL (rR Tryz.f54))
theorem shp : c = .seq (cL c) (.seq (cL (cR c)) (.seq (.seq (cL (cL (cR (cR c)))) (.block 0 (.loop (.seq (.region rid #[nx, ex] false) rest)))) suf)) := by kernel_rfl
theorem got : T.get Tryz.E1.F 54 = some Tryz.f54 := by kernel_rfl
theorem tmps : Tryz.f54.ntmps = 20 := by kernel_rfl
theorem zNj (σ : List Nat) : aJ 9 (run Tryz.E1 2000 20 0 .pl rest (tmE (tmM 9 (.it .u8 (.ofNat 100))) 10 11 (.tu [.bo true, .st [123, 125], .fn (.func 86) [] []]) true) (aO es 18 (0 :: σ))) = some (some (.it .u8 (.ofNat 100)), some (.pt 1 0), some (.map es 18), some (.mit 0 18 (0 :: σ) 18), true) := by kernel_rfl
theorem zNk (σ : List Nat) : aJ 9 (run Tryz.E1 2000 20 0 .pl rest (tmE (tmM 9 (.it .u8 (.ofNat 100))) 10 11 (.tu [.bo true, .st [61], .fn (.func 87) [] []]) true) (aO es 18 (1 :: σ))) = some (some (.it .u8 (.ofNat 100)), some (.pt 1 0), some (.map es 18), some (.mit 0 18 (1 :: σ) 18), true) := by kernel_rfl
theorem zNl (σ : List Nat) : aJ 9 (run Tryz.E1 2000 20 0 .pl rest (tmE (tmM 9 (.it .u8 (.ofNat 100))) 10 11 (.tu [.bo true, .st [97], .fn (.func 88) [] []]) true) (aO es 18 (2 :: σ))) = some (some (.it .u8 (.ofNat 100)), some (.pt 1 0), some (.map es 18), some (.mit 0 18 (2 :: σ) 18), true) := by kernel_rfl
theorem zNm (σ : List Nat) : aJ 9 (run Tryz.E1 2000 20 0 .pl rest (tmE (tmM 9 (.it .u8 (.ofNat 100))) 10 11 (.tu [.bo true, .st [105], .fn (.func 89) [] []]) true) (aO es 18 (3 :: σ))) = some (some (.it .u8 (.ofNat 100)), some (.pt 1 0), some (.map es 18), some (.mit 0 18 (3 :: σ) 18), true) := by kernel_rfl
theorem zNn (σ : List Nat) : aJ 9 (run Tryz.E1 2000 20 0 .pl rest (tmE (tmM 9 (.it .u8 (.ofNat 100))) 10 11 (.tu [.bo true, .st [99], .fn (.func 90) [] []]) true) (aO es 18 (4 :: σ))) = some (some (.it .u8 (.ofNat 100)), some (.pt 1 0), some (.map es 18), some (.mit 0 18 (4 :: σ) 18), true) := by kernel_rfl
theorem zNo (σ : List Nat) : aJ 9 (run Tryz.E1 2000 20 0 .pl rest (tmE (tmM 9 (.it .u8 (.ofNat 100))) 10 11 (.tu [.bo true, .st [98], .fn (.func 91) [] []]) true) (aO es 18 (5 :: σ))) = some (some (.it .u8 (.ofNat 100)), some (.pt 1 0), some (.map es 18), some (.mit 0 18 (5 :: σ) 18), true) := by kernel_rfl
theorem zNp (σ : List Nat) : aJ 9 (run Tryz.E1 2000 20 0 .pl rest (tmE (tmM 9 (.it .u8 (.ofNat 100))) 10 11 (.tu [.bo true, .st [116, 84], .fn (.func 92) [] []]) true) (aO es 18 (6 :: σ))) = some (some (.it .u8 (.ofNat 100)), some (.pt 1 0), some (.map es 18), some (.mit 0 18 (6 :: σ) 18), true) := by kernel_rfl
theorem zNq (σ : List Nat) : aJ 9 (run Tryz.E1 2000 20 0 .pl rest (tmE (tmM 9 (.it .u8 (.ofNat 100))) 10 11 (.tu [.bo true, .st [103, 71, 104, 72, 120], .fn (.func 94) [] []]) true) (aO es 18 (8 :: σ))) = some (some (.it .u8 (.ofNat 100)), some (.pt 1 0), some (.map es 18), some (.mit 0 18 (8 :: σ) 18), true) := by kernel_rfl
theorem zNr (σ : List Nat) : aJ 9 (run Tryz.E1 2000 20 0 .pl rest (tmE (tmM 9 (.it .u8 (.ofNat 100))) 10 11 (.tu [.bo true, .st [108], .fn (.func 95) [] []]) true) (aO es 18 (9 :: σ))) = some (some (.it .u8 (.ofNat 100)), some (.pt 1 0), some (.map es 18), some (.mit 0 18 (9 :: σ) 18), true) := by kernel_rfl
theorem zKe (σ : List Nat) : aJ 9 (run Tryz.E1 2000 20 0 .pl rest (tmE (tmM 9 (.it .u8 (.ofNat 100))) 10 11 (.tu [.bo true, .st [110, 78], .fn (.func 96) [] []]) true) (aO es 18 (10 :: σ))) = some (some (.it .u8 (.ofNat 100)), some (.pt 1 0), some (.map es 18), some (.mit 0 18 (10 :: σ) 18), true) := by kernel_rfl
theorem zKf (σ : List Nat) : aJ 9 (run Tryz.E1 2000 20 0 .pl rest (tmE (tmM 9 (.it .u8 (.ofNat 100))) 10 11 (.tu [.bo true, .st [112], .fn (.func 97) [] []]) true) (aO es 18 (11 :: σ))) = some (some (.it .u8 (.ofNat 100)), some (.pt 1 0), some (.map es 18), some (.mit 0 18 (11 :: σ) 18), true) := by kernel_rfl
theorem zKg (σ : List Nat) : aJ 9 (run Tryz.E1 2000 20 0 .pl rest (tmE (tmM 9 (.it .u8 (.ofNat 100))) 10 11 (.tu [.bo true, .st [80], .fn (.func 98) [] []]) true) (aO es 18 (12 :: σ))) = some (some (.it .u8 (.ofNat 100)), some (.pt 1 0), some (.map es 18), some (.mit 0 18 (12 :: σ) 18), true) := by kernel_rfl
theorem zKh (σ : List Nat) : aJ 9 (run Tryz.E1 2000 20 0 .pl rest (tmE (tmM 9 (.it .u8 (.ofNat 100))) 10 11 (.tu [.bo true, .st [113, 81], .fn (.func 99) [] []]) true) (aO es 18 (13 :: σ))) = some (some (.it .u8 (.ofNat 100)), some (.pt 1 0), some (.map es 18), some (.mit 0 18 (13 :: σ) 18), true) := by kernel_rfl
theorem zKi (σ : List Nat) : aJ 9 (run Tryz.E1 2000 20 0 .pl rest (tmE (tmM 9 (.it .u8 (.ofNat 100))) 10 11 (.tu [.bo true, .st [114], .fn (.func 100) [] []]) true) (aO es 18 (14 :: σ))) = some (some (.it .u8 (.ofNat 100)), some (.pt 1 0), some (.map es 18), some (.mit 0 18 (14 :: σ) 18), true) := by kernel_rfl
theorem zKj (σ : List Nat) : aJ 9 (run Tryz.E1 2000 20 0 .pl rest (tmE (tmM 9 (.it .u8 (.ofNat 100))) 10 11 (.tu [.bo true, .st [119], .fn (.func 101) [] []]) true) (aO es 18 (15 :: σ))) = some (some (.it .u8 (.ofNat 100)), some (.pt 1 0), some (.map es 18), some (.mit 0 18 (15 :: σ) 18), true) := by kernel_rfl
theorem zKk (σ : List Nat) : aJ 9 (run Tryz.E1 2000 20 0 .pl rest (tmE (tmM 9 (.it .u8 (.ofNat 100))) 10 11 (.tu [.bo true, .st [115], .fn (.func 102) [] []]) true) (aO es 18 (16 :: σ))) = some (some (.it .u8 (.ofNat 100)), some (.pt 1 0), some (.map es 18), some (.mit 0 18 (16 :: σ) 18), true) := by kernel_rfl
theorem zKl (σ : List Nat) : aJ 9 (run Tryz.E1 2000 20 0 .pl rest (tmE (tmM 9 (.it .u8 (.ofNat 100))) 10 11 (.tu [.bo true, .st [121], .fn (.func 103) [] []]) true) (aO es 18 (17 :: σ))) = some (some (.it .u8 (.ofNat 100)), some (.pt 1 0), some (.map es 18), some (.mit 0 18 (17 :: σ) 18), true) := by kernel_rfl
theorem d100 (lo : Nat) (A : W) (args : List AV) (ha : args = [.it .u8 (.ofNat 100)]) : bF Tryz.prog lo 54 args A (.ret (.fn (.func 93) [] [])) A := by
 refine uI (E := Tryz.E1) Tryz.E1_ok (k := 2000) (n := 20) (its := 9) (a1 := 10) (a2 := 11) (es := es) (clk := 18) (eh := (.st [100, 68], .fn (.func 93) [] [], 7)) got body shp tmps (by decide) (nx := nx) (ex := ex) (by kernel_rfl) (by kernel_rfl) (by kernel_rfl) (by kernel_rfl) (by kernel_rfl) (by kernel_rfl) (by decide) (by kernel_rfl)
  (by kernel_rfl) (by kernel_rfl) (by kernel_rfl) (by kernel_rfl) (by kernel_rfl) (by kernel_rfl) (by simp [es]) (fun e he hne σ => ?_) (fun σ => by kernel_rfl) lo A args ha
 simp only [es, List.mem_cons, List.not_mem_nil, or_false] at he
 rcases he with rfl | rfl | rfl | rfl | rfl | rfl | rfl | rfl | rfl | rfl | rfl | rfl | rfl | rfl | rfl | rfl | rfl | rfl
 ·exact zNj σ
 ·exact zNk σ
 ·exact zNl σ
 ·exact zNm σ
 ·exact zNn σ
 ·exact zNo σ
 ·exact zNp σ
 ·exact absurd rfl hne
 ·exact zNq σ
 ·exact zNr σ
 ·exact zKe σ
 ·exact zKf σ
 ·exact zKg σ
 ·exact zKh σ
 ·exact zKi σ
 ·exact zKj σ
 ·exact zKk σ
 ·exact zKl σ
theorem zNs (σ : List Nat) : aJ 9 (run Tryz.E1 2000 20 0 .pl rest (tmE (tmM 9 (.it .u8 (.ofNat 112))) 10 11 (.tu [.bo true, .st [123, 125], .fn (.func 86) [] []]) true) (aO es 18 (0 :: σ))) = some (some (.it .u8 (.ofNat 112)), some (.pt 1 0), some (.map es 18), some (.mit 0 18 (0 :: σ) 18), true) := by kernel_rfl
theorem zNt (σ : List Nat) : aJ 9 (run Tryz.E1 2000 20 0 .pl rest (tmE (tmM 9 (.it .u8 (.ofNat 112))) 10 11 (.tu [.bo true, .st [61], .fn (.func 87) [] []]) true) (aO es 18 (1 :: σ))) = some (some (.it .u8 (.ofNat 112)), some (.pt 1 0), some (.map es 18), some (.mit 0 18 (1 :: σ) 18), true) := by kernel_rfl
theorem zNu (σ : List Nat) : aJ 9 (run Tryz.E1 2000 20 0 .pl rest (tmE (tmM 9 (.it .u8 (.ofNat 112))) 10 11 (.tu [.bo true, .st [97], .fn (.func 88) [] []]) true) (aO es 18 (2 :: σ))) = some (some (.it .u8 (.ofNat 112)), some (.pt 1 0), some (.map es 18), some (.mit 0 18 (2 :: σ) 18), true) := by kernel_rfl
theorem zNv (σ : List Nat) : aJ 9 (run Tryz.E1 2000 20 0 .pl rest (tmE (tmM 9 (.it .u8 (.ofNat 112))) 10 11 (.tu [.bo true, .st [105], .fn (.func 89) [] []]) true) (aO es 18 (3 :: σ))) = some (some (.it .u8 (.ofNat 112)), some (.pt 1 0), some (.map es 18), some (.mit 0 18 (3 :: σ) 18), true) := by kernel_rfl
theorem zNw (σ : List Nat) : aJ 9 (run Tryz.E1 2000 20 0 .pl rest (tmE (tmM 9 (.it .u8 (.ofNat 112))) 10 11 (.tu [.bo true, .st [99], .fn (.func 90) [] []]) true) (aO es 18 (4 :: σ))) = some (some (.it .u8 (.ofNat 112)), some (.pt 1 0), some (.map es 18), some (.mit 0 18 (4 :: σ) 18), true) := by kernel_rfl
theorem zNx (σ : List Nat) : aJ 9 (run Tryz.E1 2000 20 0 .pl rest (tmE (tmM 9 (.it .u8 (.ofNat 112))) 10 11 (.tu [.bo true, .st [98], .fn (.func 91) [] []]) true) (aO es 18 (5 :: σ))) = some (some (.it .u8 (.ofNat 112)), some (.pt 1 0), some (.map es 18), some (.mit 0 18 (5 :: σ) 18), true) := by kernel_rfl
theorem zNy (σ : List Nat) : aJ 9 (run Tryz.E1 2000 20 0 .pl rest (tmE (tmM 9 (.it .u8 (.ofNat 112))) 10 11 (.tu [.bo true, .st [116, 84], .fn (.func 92) [] []]) true) (aO es 18 (6 :: σ))) = some (some (.it .u8 (.ofNat 112)), some (.pt 1 0), some (.map es 18), some (.mit 0 18 (6 :: σ) 18), true) := by kernel_rfl
theorem zNz (σ : List Nat) : aJ 9 (run Tryz.E1 2000 20 0 .pl rest (tmE (tmM 9 (.it .u8 (.ofNat 112))) 10 11 (.tu [.bo true, .st [100, 68], .fn (.func 93) [] []]) true) (aO es 18 (7 :: σ))) = some (some (.it .u8 (.ofNat 112)), some (.pt 1 0), some (.map es 18), some (.mit 0 18 (7 :: σ) 18), true) := by kernel_rfl
theorem zOa (σ : List Nat) : aJ 9 (run Tryz.E1 2000 20 0 .pl rest (tmE (tmM 9 (.it .u8 (.ofNat 112))) 10 11 (.tu [.bo true, .st [103, 71, 104, 72, 120], .fn (.func 94) [] []]) true) (aO es 18 (8 :: σ))) = some (some (.it .u8 (.ofNat 112)), some (.pt 1 0), some (.map es 18), some (.mit 0 18 (8 :: σ) 18), true) := by kernel_rfl
theorem zOb (σ : List Nat) : aJ 9 (run Tryz.E1 2000 20 0 .pl rest (tmE (tmM 9 (.it .u8 (.ofNat 112))) 10 11 (.tu [.bo true, .st [108], .fn (.func 95) [] []]) true) (aO es 18 (9 :: σ))) = some (some (.it .u8 (.ofNat 112)), some (.pt 1 0), some (.map es 18), some (.mit 0 18 (9 :: σ) 18), true) := by kernel_rfl
theorem zKm (σ : List Nat) : aJ 9 (run Tryz.E1 2000 20 0 .pl rest (tmE (tmM 9 (.it .u8 (.ofNat 112))) 10 11 (.tu [.bo true, .st [110, 78], .fn (.func 96) [] []]) true) (aO es 18 (10 :: σ))) = some (some (.it .u8 (.ofNat 112)), some (.pt 1 0), some (.map es 18), some (.mit 0 18 (10 :: σ) 18), true) := by kernel_rfl
theorem zKn (σ : List Nat) : aJ 9 (run Tryz.E1 2000 20 0 .pl rest (tmE (tmM 9 (.it .u8 (.ofNat 112))) 10 11 (.tu [.bo true, .st [80], .fn (.func 98) [] []]) true) (aO es 18 (12 :: σ))) = some (some (.it .u8 (.ofNat 112)), some (.pt 1 0), some (.map es 18), some (.mit 0 18 (12 :: σ) 18), true) := by kernel_rfl
theorem zKo (σ : List Nat) : aJ 9 (run Tryz.E1 2000 20 0 .pl rest (tmE (tmM 9 (.it .u8 (.ofNat 112))) 10 11 (.tu [.bo true, .st [113, 81], .fn (.func 99) [] []]) true) (aO es 18 (13 :: σ))) = some (some (.it .u8 (.ofNat 112)), some (.pt 1 0), some (.map es 18), some (.mit 0 18 (13 :: σ) 18), true) := by kernel_rfl
theorem zKp (σ : List Nat) : aJ 9 (run Tryz.E1 2000 20 0 .pl rest (tmE (tmM 9 (.it .u8 (.ofNat 112))) 10 11 (.tu [.bo true, .st [114], .fn (.func 100) [] []]) true) (aO es 18 (14 :: σ))) = some (some (.it .u8 (.ofNat 112)), some (.pt 1 0), some (.map es 18), some (.mit 0 18 (14 :: σ) 18), true) := by kernel_rfl
theorem zKq (σ : List Nat) : aJ 9 (run Tryz.E1 2000 20 0 .pl rest (tmE (tmM 9 (.it .u8 (.ofNat 112))) 10 11 (.tu [.bo true, .st [119], .fn (.func 101) [] []]) true) (aO es 18 (15 :: σ))) = some (some (.it .u8 (.ofNat 112)), some (.pt 1 0), some (.map es 18), some (.mit 0 18 (15 :: σ) 18), true) := by kernel_rfl
theorem zKr (σ : List Nat) : aJ 9 (run Tryz.E1 2000 20 0 .pl rest (tmE (tmM 9 (.it .u8 (.ofNat 112))) 10 11 (.tu [.bo true, .st [115], .fn (.func 102) [] []]) true) (aO es 18 (16 :: σ))) = some (some (.it .u8 (.ofNat 112)), some (.pt 1 0), some (.map es 18), some (.mit 0 18 (16 :: σ) 18), true) := by kernel_rfl
theorem zKs (σ : List Nat) : aJ 9 (run Tryz.E1 2000 20 0 .pl rest (tmE (tmM 9 (.it .u8 (.ofNat 112))) 10 11 (.tu [.bo true, .st [121], .fn (.func 103) [] []]) true) (aO es 18 (17 :: σ))) = some (some (.it .u8 (.ofNat 112)), some (.pt 1 0), some (.map es 18), some (.mit 0 18 (17 :: σ) 18), true) := by kernel_rfl
theorem d112 (lo : Nat) (A : W) (args : List AV) (ha : args = [.it .u8 (.ofNat 112)]) : bF Tryz.prog lo 54 args A (.ret (.fn (.func 97) [] [])) A := by
 refine uI (E := Tryz.E1) Tryz.E1_ok (k := 2000) (n := 20) (its := 9) (a1 := 10) (a2 := 11) (es := es) (clk := 18) (eh := (.st [112], .fn (.func 97) [] [], 11)) got body shp tmps (by decide) (nx := nx) (ex := ex) (by kernel_rfl) (by kernel_rfl) (by kernel_rfl) (by kernel_rfl) (by kernel_rfl) (by kernel_rfl) (by decide) (by kernel_rfl)
  (by kernel_rfl) (by kernel_rfl) (by kernel_rfl) (by kernel_rfl) (by kernel_rfl) (by kernel_rfl) (by simp [es]) (fun e he hne σ => ?_) (fun σ => by kernel_rfl) lo A args ha
 simp only [es, List.mem_cons, List.not_mem_nil, or_false] at he
 rcases he with rfl | rfl | rfl | rfl | rfl | rfl | rfl | rfl | rfl | rfl | rfl | rfl | rfl | rfl | rfl | rfl | rfl | rfl
 ·exact zNs σ
 ·exact zNt σ
 ·exact zNu σ
 ·exact zNv σ
 ·exact zNw σ
 ·exact zNx σ
 ·exact zNy σ
 ·exact zNz σ
 ·exact zOa σ
 ·exact zOb σ
 ·exact zKm σ
 ·exact absurd rfl hne
 ·exact zKn σ
 ·exact zKo σ
 ·exact zKp σ
 ·exact zKq σ
 ·exact zKr σ
 ·exact zKs σ
theorem zOc (σ : List Nat) : aJ 9 (run Tryz.E1 2000 20 0 .pl rest (tmE (tmM 9 (.it .u8 (.ofNat 113))) 10 11 (.tu [.bo true, .st [123, 125], .fn (.func 86) [] []]) true) (aO es 18 (0 :: σ))) = some (some (.it .u8 (.ofNat 113)), some (.pt 1 0), some (.map es 18), some (.mit 0 18 (0 :: σ) 18), true) := by kernel_rfl
theorem zOd (σ : List Nat) : aJ 9 (run Tryz.E1 2000 20 0 .pl rest (tmE (tmM 9 (.it .u8 (.ofNat 113))) 10 11 (.tu [.bo true, .st [61], .fn (.func 87) [] []]) true) (aO es 18 (1 :: σ))) = some (some (.it .u8 (.ofNat 113)), some (.pt 1 0), some (.map es 18), some (.mit 0 18 (1 :: σ) 18), true) := by kernel_rfl
theorem zOe (σ : List Nat) : aJ 9 (run Tryz.E1 2000 20 0 .pl rest (tmE (tmM 9 (.it .u8 (.ofNat 113))) 10 11 (.tu [.bo true, .st [97], .fn (.func 88) [] []]) true) (aO es 18 (2 :: σ))) = some (some (.it .u8 (.ofNat 113)), some (.pt 1 0), some (.map es 18), some (.mit 0 18 (2 :: σ) 18), true) := by kernel_rfl
theorem zOf (σ : List Nat) : aJ 9 (run Tryz.E1 2000 20 0 .pl rest (tmE (tmM 9 (.it .u8 (.ofNat 113))) 10 11 (.tu [.bo true, .st [105], .fn (.func 89) [] []]) true) (aO es 18 (3 :: σ))) = some (some (.it .u8 (.ofNat 113)), some (.pt 1 0), some (.map es 18), some (.mit 0 18 (3 :: σ) 18), true) := by kernel_rfl
theorem zOg (σ : List Nat) : aJ 9 (run Tryz.E1 2000 20 0 .pl rest (tmE (tmM 9 (.it .u8 (.ofNat 113))) 10 11 (.tu [.bo true, .st [99], .fn (.func 90) [] []]) true) (aO es 18 (4 :: σ))) = some (some (.it .u8 (.ofNat 113)), some (.pt 1 0), some (.map es 18), some (.mit 0 18 (4 :: σ) 18), true) := by kernel_rfl
theorem zOh (σ : List Nat) : aJ 9 (run Tryz.E1 2000 20 0 .pl rest (tmE (tmM 9 (.it .u8 (.ofNat 113))) 10 11 (.tu [.bo true, .st [98], .fn (.func 91) [] []]) true) (aO es 18 (5 :: σ))) = some (some (.it .u8 (.ofNat 113)), some (.pt 1 0), some (.map es 18), some (.mit 0 18 (5 :: σ) 18), true) := by kernel_rfl
theorem zOi (σ : List Nat) : aJ 9 (run Tryz.E1 2000 20 0 .pl rest (tmE (tmM 9 (.it .u8 (.ofNat 113))) 10 11 (.tu [.bo true, .st [116, 84], .fn (.func 92) [] []]) true) (aO es 18 (6 :: σ))) = some (some (.it .u8 (.ofNat 113)), some (.pt 1 0), some (.map es 18), some (.mit 0 18 (6 :: σ) 18), true) := by kernel_rfl
theorem zOj (σ : List Nat) : aJ 9 (run Tryz.E1 2000 20 0 .pl rest (tmE (tmM 9 (.it .u8 (.ofNat 113))) 10 11 (.tu [.bo true, .st [100, 68], .fn (.func 93) [] []]) true) (aO es 18 (7 :: σ))) = some (some (.it .u8 (.ofNat 113)), some (.pt 1 0), some (.map es 18), some (.mit 0 18 (7 :: σ) 18), true) := by kernel_rfl
theorem zOk (σ : List Nat) : aJ 9 (run Tryz.E1 2000 20 0 .pl rest (tmE (tmM 9 (.it .u8 (.ofNat 113))) 10 11 (.tu [.bo true, .st [103, 71, 104, 72, 120], .fn (.func 94) [] []]) true) (aO es 18 (8 :: σ))) = some (some (.it .u8 (.ofNat 113)), some (.pt 1 0), some (.map es 18), some (.mit 0 18 (8 :: σ) 18), true) := by kernel_rfl
theorem zOl (σ : List Nat) : aJ 9 (run Tryz.E1 2000 20 0 .pl rest (tmE (tmM 9 (.it .u8 (.ofNat 113))) 10 11 (.tu [.bo true, .st [108], .fn (.func 95) [] []]) true) (aO es 18 (9 :: σ))) = some (some (.it .u8 (.ofNat 113)), some (.pt 1 0), some (.map es 18), some (.mit 0 18 (9 :: σ) 18), true) := by kernel_rfl
theorem zKt (σ : List Nat) : aJ 9 (run Tryz.E1 2000 20 0 .pl rest (tmE (tmM 9 (.it .u8 (.ofNat 113))) 10 11 (.tu [.bo true, .st [110, 78], .fn (.func 96) [] []]) true) (aO es 18 (10 :: σ))) = some (some (.it .u8 (.ofNat 113)), some (.pt 1 0), some (.map es 18), some (.mit 0 18 (10 :: σ) 18), true) := by kernel_rfl
theorem zKu (σ : List Nat) : aJ 9 (run Tryz.E1 2000 20 0 .pl rest (tmE (tmM 9 (.it .u8 (.ofNat 113))) 10 11 (.tu [.bo true, .st [112], .fn (.func 97) [] []]) true) (aO es 18 (11 :: σ))) = some (some (.it .u8 (.ofNat 113)), some (.pt 1 0), some (.map es 18), some (.mit 0 18 (11 :: σ) 18), true) := by kernel_rfl
theorem zKv (σ : List Nat) : aJ 9 (run Tryz.E1 2000 20 0 .pl rest (tmE (tmM 9 (.it .u8 (.ofNat 113))) 10 11 (.tu [.bo true, .st [80], .fn (.func 98) [] []]) true) (aO es 18 (12 :: σ))) = some (some (.it .u8 (.ofNat 113)), some (.pt 1 0), some (.map es 18), some (.mit 0 18 (12 :: σ) 18), true) := by kernel_rfl
theorem zKw (σ : List Nat) : aJ 9 (run Tryz.E1 2000 20 0 .pl rest (tmE (tmM 9 (.it .u8 (.ofNat 113))) 10 11 (.tu [.bo true, .st [114], .fn (.func 100) [] []]) true) (aO es 18 (14 :: σ))) = some (some (.it .u8 (.ofNat 113)), some (.pt 1 0), some (.map es 18), some (.mit 0 18 (14 :: σ) 18), true) := by kernel_rfl
theorem zKx (σ : List Nat) : aJ 9 (run Tryz.E1 2000 20 0 .pl rest (tmE (tmM 9 (.it .u8 (.ofNat 113))) 10 11 (.tu [.bo true, .st [119], .fn (.func 101) [] []]) true) (aO es 18 (15 :: σ))) = some (some (.it .u8 (.ofNat 113)), some (.pt 1 0), some (.map es 18), some (.mit 0 18 (15 :: σ) 18), true) := by kernel_rfl
theorem zKy (σ : List Nat) : aJ 9 (run Tryz.E1 2000 20 0 .pl rest (tmE (tmM 9 (.it .u8 (.ofNat 113))) 10 11 (.tu [.bo true, .st [115], .fn (.func 102) [] []]) true) (aO es 18 (16 :: σ))) = some (some (.it .u8 (.ofNat 113)), some (.pt 1 0), some (.map es 18), some (.mit 0 18 (16 :: σ) 18), true) := by kernel_rfl
theorem zKz (σ : List Nat) : aJ 9 (run Tryz.E1 2000 20 0 .pl rest (tmE (tmM 9 (.it .u8 (.ofNat 113))) 10 11 (.tu [.bo true, .st [121], .fn (.func 103) [] []]) true) (aO es 18 (17 :: σ))) = some (some (.it .u8 (.ofNat 113)), some (.pt 1 0), some (.map es 18), some (.mit 0 18 (17 :: σ) 18), true) := by kernel_rfl
theorem d113 (lo : Nat) (A : W) (args : List AV) (ha : args = [.it .u8 (.ofNat 113)]) : bF Tryz.prog lo 54 args A (.ret (.fn (.func 99) [] [])) A := by
 refine uI (E := Tryz.E1) Tryz.E1_ok (k := 2000) (n := 20) (its := 9) (a1 := 10) (a2 := 11) (es := es) (clk := 18) (eh := (.st [113, 81], .fn (.func 99) [] [], 13)) got body shp tmps (by decide) (nx := nx) (ex := ex) (by kernel_rfl) (by kernel_rfl) (by kernel_rfl) (by kernel_rfl) (by kernel_rfl) (by kernel_rfl) (by decide) (by kernel_rfl)
  (by kernel_rfl) (by kernel_rfl) (by kernel_rfl) (by kernel_rfl) (by kernel_rfl) (by kernel_rfl) (by simp [es]) (fun e he hne σ => ?_) (fun σ => by kernel_rfl) lo A args ha
 simp only [es, List.mem_cons, List.not_mem_nil, or_false] at he
 rcases he with rfl | rfl | rfl | rfl | rfl | rfl | rfl | rfl | rfl | rfl | rfl | rfl | rfl | rfl | rfl | rfl | rfl | rfl
 ·exact zOc σ
 ·exact zOd σ
 ·exact zOe σ
 ·exact zOf σ
 ·exact zOg σ
 ·exact zOh σ
 ·exact zOi σ
 ·exact zOj σ
 ·exact zOk σ
 ·exact zOl σ
 ·exact zKt σ
 ·exact zKu σ
 ·exact zKv σ
 ·exact absurd rfl hne
 ·exact zKw σ
 ·exact zKx σ
 ·exact zKy σ
 ·exact zKz σ
theorem zOm (σ : List Nat) : aJ 9 (run Tryz.E1 2000 20 0 .pl rest (tmE (tmM 9 (.it .u8 (.ofNat 119))) 10 11 (.tu [.bo true, .st [123, 125], .fn (.func 86) [] []]) true) (aO es 18 (0 :: σ))) = some (some (.it .u8 (.ofNat 119)), some (.pt 1 0), some (.map es 18), some (.mit 0 18 (0 :: σ) 18), true) := by kernel_rfl
theorem zOn (σ : List Nat) : aJ 9 (run Tryz.E1 2000 20 0 .pl rest (tmE (tmM 9 (.it .u8 (.ofNat 119))) 10 11 (.tu [.bo true, .st [61], .fn (.func 87) [] []]) true) (aO es 18 (1 :: σ))) = some (some (.it .u8 (.ofNat 119)), some (.pt 1 0), some (.map es 18), some (.mit 0 18 (1 :: σ) 18), true) := by kernel_rfl
theorem zOo (σ : List Nat) : aJ 9 (run Tryz.E1 2000 20 0 .pl rest (tmE (tmM 9 (.it .u8 (.ofNat 119))) 10 11 (.tu [.bo true, .st [97], .fn (.func 88) [] []]) true) (aO es 18 (2 :: σ))) = some (some (.it .u8 (.ofNat 119)), some (.pt 1 0), some (.map es 18), some (.mit 0 18 (2 :: σ) 18), true) := by kernel_rfl
theorem zOp (σ : List Nat) : aJ 9 (run Tryz.E1 2000 20 0 .pl rest (tmE (tmM 9 (.it .u8 (.ofNat 119))) 10 11 (.tu [.bo true, .st [105], .fn (.func 89) [] []]) true) (aO es 18 (3 :: σ))) = some (some (.it .u8 (.ofNat 119)), some (.pt 1 0), some (.map es 18), some (.mit 0 18 (3 :: σ) 18), true) := by kernel_rfl
theorem zOq (σ : List Nat) : aJ 9 (run Tryz.E1 2000 20 0 .pl rest (tmE (tmM 9 (.it .u8 (.ofNat 119))) 10 11 (.tu [.bo true, .st [99], .fn (.func 90) [] []]) true) (aO es 18 (4 :: σ))) = some (some (.it .u8 (.ofNat 119)), some (.pt 1 0), some (.map es 18), some (.mit 0 18 (4 :: σ) 18), true) := by kernel_rfl
theorem zOr (σ : List Nat) : aJ 9 (run Tryz.E1 2000 20 0 .pl rest (tmE (tmM 9 (.it .u8 (.ofNat 119))) 10 11 (.tu [.bo true, .st [98], .fn (.func 91) [] []]) true) (aO es 18 (5 :: σ))) = some (some (.it .u8 (.ofNat 119)), some (.pt 1 0), some (.map es 18), some (.mit 0 18 (5 :: σ) 18), true) := by kernel_rfl
theorem zOs (σ : List Nat) : aJ 9 (run Tryz.E1 2000 20 0 .pl rest (tmE (tmM 9 (.it .u8 (.ofNat 119))) 10 11 (.tu [.bo true, .st [116, 84], .fn (.func 92) [] []]) true) (aO es 18 (6 :: σ))) = some (some (.it .u8 (.ofNat 119)), some (.pt 1 0), some (.map es 18), some (.mit 0 18 (6 :: σ) 18), true) := by kernel_rfl
theorem zOt (σ : List Nat) : aJ 9 (run Tryz.E1 2000 20 0 .pl rest (tmE (tmM 9 (.it .u8 (.ofNat 119))) 10 11 (.tu [.bo true, .st [100, 68], .fn (.func 93) [] []]) true) (aO es 18 (7 :: σ))) = some (some (.it .u8 (.ofNat 119)), some (.pt 1 0), some (.map es 18), some (.mit 0 18 (7 :: σ) 18), true) := by kernel_rfl
theorem zOu (σ : List Nat) : aJ 9 (run Tryz.E1 2000 20 0 .pl rest (tmE (tmM 9 (.it .u8 (.ofNat 119))) 10 11 (.tu [.bo true, .st [103, 71, 104, 72, 120], .fn (.func 94) [] []]) true) (aO es 18 (8 :: σ))) = some (some (.it .u8 (.ofNat 119)), some (.pt 1 0), some (.map es 18), some (.mit 0 18 (8 :: σ) 18), true) := by kernel_rfl
theorem zOv (σ : List Nat) : aJ 9 (run Tryz.E1 2000 20 0 .pl rest (tmE (tmM 9 (.it .u8 (.ofNat 119))) 10 11 (.tu [.bo true, .st [108], .fn (.func 95) [] []]) true) (aO es 18 (9 :: σ))) = some (some (.it .u8 (.ofNat 119)), some (.pt 1 0), some (.map es 18), some (.mit 0 18 (9 :: σ) 18), true) := by kernel_rfl
theorem zLa (σ : List Nat) : aJ 9 (run Tryz.E1 2000 20 0 .pl rest (tmE (tmM 9 (.it .u8 (.ofNat 119))) 10 11 (.tu [.bo true, .st [110, 78], .fn (.func 96) [] []]) true) (aO es 18 (10 :: σ))) = some (some (.it .u8 (.ofNat 119)), some (.pt 1 0), some (.map es 18), some (.mit 0 18 (10 :: σ) 18), true) := by kernel_rfl
theorem zLb (σ : List Nat) : aJ 9 (run Tryz.E1 2000 20 0 .pl rest (tmE (tmM 9 (.it .u8 (.ofNat 119))) 10 11 (.tu [.bo true, .st [112], .fn (.func 97) [] []]) true) (aO es 18 (11 :: σ))) = some (some (.it .u8 (.ofNat 119)), some (.pt 1 0), some (.map es 18), some (.mit 0 18 (11 :: σ) 18), true) := by kernel_rfl
theorem zLc (σ : List Nat) : aJ 9 (run Tryz.E1 2000 20 0 .pl rest (tmE (tmM 9 (.it .u8 (.ofNat 119))) 10 11 (.tu [.bo true, .st [80], .fn (.func 98) [] []]) true) (aO es 18 (12 :: σ))) = some (some (.it .u8 (.ofNat 119)), some (.pt 1 0), some (.map es 18), some (.mit 0 18 (12 :: σ) 18), true) := by kernel_rfl
theorem zLd (σ : List Nat) : aJ 9 (run Tryz.E1 2000 20 0 .pl rest (tmE (tmM 9 (.it .u8 (.ofNat 119))) 10 11 (.tu [.bo true, .st [113, 81], .fn (.func 99) [] []]) true) (aO es 18 (13 :: σ))) = some (some (.it .u8 (.ofNat 119)), some (.pt 1 0), some (.map es 18), some (.mit 0 18 (13 :: σ) 18), true) := by kernel_rfl
theorem zLe (σ : List Nat) : aJ 9 (run Tryz.E1 2000 20 0 .pl rest (tmE (tmM 9 (.it .u8 (.ofNat 119))) 10 11 (.tu [.bo true, .st [114], .fn (.func 100) [] []]) true) (aO es 18 (14 :: σ))) = some (some (.it .u8 (.ofNat 119)), some (.pt 1 0), some (.map es 18), some (.mit 0 18 (14 :: σ) 18), true) := by kernel_rfl
theorem zLf (σ : List Nat) : aJ 9 (run Tryz.E1 2000 20 0 .pl rest (tmE (tmM 9 (.it .u8 (.ofNat 119))) 10 11 (.tu [.bo true, .st [115], .fn (.func 102) [] []]) true) (aO es 18 (16 :: σ))) = some (some (.it .u8 (.ofNat 119)), some (.pt 1 0), some (.map es 18), some (.mit 0 18 (16 :: σ) 18), true) := by kernel_rfl
theorem zLg (σ : List Nat) : aJ 9 (run Tryz.E1 2000 20 0 .pl rest (tmE (tmM 9 (.it .u8 (.ofNat 119))) 10 11 (.tu [.bo true, .st [121], .fn (.func 103) [] []]) true) (aO es 18 (17 :: σ))) = some (some (.it .u8 (.ofNat 119)), some (.pt 1 0), some (.map es 18), some (.mit 0 18 (17 :: σ) 18), true) := by kernel_rfl
theorem d119 (lo : Nat) (A : W) (args : List AV) (ha : args = [.it .u8 (.ofNat 119)]) : bF Tryz.prog lo 54 args A (.ret (.fn (.func 101) [] [])) A := by
 refine uI (E := Tryz.E1) Tryz.E1_ok (k := 2000) (n := 20) (its := 9) (a1 := 10) (a2 := 11) (es := es) (clk := 18) (eh := (.st [119], .fn (.func 101) [] [], 15)) got body shp tmps (by decide) (nx := nx) (ex := ex) (by kernel_rfl) (by kernel_rfl) (by kernel_rfl) (by kernel_rfl) (by kernel_rfl) (by kernel_rfl) (by decide) (by kernel_rfl)
  (by kernel_rfl) (by kernel_rfl) (by kernel_rfl) (by kernel_rfl) (by kernel_rfl) (by kernel_rfl) (by simp [es]) (fun e he hne σ => ?_) (fun σ => by kernel_rfl) lo A args ha
 simp only [es, List.mem_cons, List.not_mem_nil, or_false] at he
 rcases he with rfl | rfl | rfl | rfl | rfl | rfl | rfl | rfl | rfl | rfl | rfl | rfl | rfl | rfl | rfl | rfl | rfl | rfl
 ·exact zOm σ
 ·exact zOn σ
 ·exact zOo σ
 ·exact zOp σ
 ·exact zOq σ
 ·exact zOr σ
 ·exact zOs σ
 ·exact zOt σ
 ·exact zOu σ
 ·exact zOv σ
 ·exact zLa σ
 ·exact zLb σ
 ·exact zLc σ
 ·exact zLd σ
 ·exact zLe σ
 ·exact absurd rfl hne
 ·exact zLf σ
 ·exact zLg σ
end Tryz.Bd
def Tryz.Bd.tab : List (Nat × Nat) := [(100, 93), (112, 97), (113, 99), (119, 101)]
def Mj (tab : List (Nat × Nat)) : Gv := fun _ A xs => match xs with
 | [.it .u8 (.ofNat b)] => ob (lk b tab) fun g => some (.fn (.func g) [] [], A)
 | _ => none
where lk : Nat -> List (Nat × Nat) -> Option Nat
 | _, [] => none
 | b, p :: r => cnd (Nat.beq b p.1) (some p.2) (lk b r)
theorem Rk {b g : Nat} : ∀ {l : List (Nat × Nat)}, Mj.lk b l = some g -> (b, g) ∈ l
 | p :: r, h => by
  unfold Mj.lk cnd at h
  split at h
  ·rename_i hc
   simp only [Option.some.injEq] at h
   have := Nat.eq_of_beq_eq_true hc
   subst this h
   exact .head _
  ·exact .tail _ (Rk h)
theorem Tryz.bdoes_ok (lo : Nat) (A : W) (args : List AV) (v : AV) (A' : W) (h : Mj Tryz.Bd.tab lo A args = some (v, A')) : bF Tryz.prog lo 54 args A (.ret v) A' := by
 unfold Mj at h
 split at h
 ·rename_i b
  replace h := aA h; obtain ⟨g, hg, h⟩ := h
  simp only [Option.some.injEq, Prod.mk.injEq] at h
  obtain ⟨rfl, rfl⟩ := h
  have hm := Rk hg
  simp only [Tryz.Bd.tab, List.mem_cons, Prod.mk.injEq, List.not_mem_nil, or_false] at hm
  rcases hm with ⟨rfl, rfl⟩ | ⟨rfl, rfl⟩ | ⟨rfl, rfl⟩ | ⟨rfl, rfl⟩
  ·exact Tryz.Bd.d100 lo A _ rfl
  ·exact Tryz.Bd.d112 lo A _ rfl
  ·exact Tryz.Bd.d113 lo A _ rfl
  ·exact Tryz.Bd.d119 lo A _ rfl
 ·cases h
end Go.Proofs
