/- Part of a proof over this seat: a library of my own, and what it says of this seat. No statement is proved here. -/
import Derived.Test.YtlimifngdjkogaaGreatDoorPartBL
import Derived.Test.YtlimifngdjkogaaGreatDoorPartBG
namespace Go.Proofs
open Go.Ce
set_option maxRecDepth 100000
noncomputable def Tryz.E1 : Env := Tryz.E0.more 201 Yf
theorem Tryz.E1_ok : bV Tryz.E1 := Tryz.E0_ok.more fun lo A args v A' h => Ur Tryz.func201 (by kernel_rfl) (by kernel_rfl) (by kernel_rfl) (by kernel_rfl) lo A args v A' h
namespace Tryz.Bd
noncomputable abbrev c : Code := Rf Tryz.f38
noncomputable abbrev rest : Code := cR (oN Tryz.f38)
noncomputable abbrev suf : Code := cR (cR (cR c))
def es : List (AV × AV × Nat) := [(.st [123, 125], .fn (.func 65) [] [], 0), (.st [61], .fn (.func 66) [] [], 1), (.st [97], .fn (.func 67) [] [], 2), (.st [105], .fn (.func 68) [] [], 3), (.st [99], .fn (.func 69) [] [], 4), (.st [98], .fn (.func 70) [] [], 5), (.st [116, 84], .fn (.func 71) [] [], 6), (.st [100, 68], .fn (.func 72) [] [], 7), (.st [103, 71, 104, 72, 120], .fn (.func 73) [] [], 8), (.st [108], .fn (.func 74) [] [], 9), (.st [110, 78], .fn (.func 75) [] [], 10), (.st [112], .fn (.func 76) [] [], 11), (.st [80], .fn (.func 77) [] [], 12), (.st [113, 81], .fn (.func 78) [] [], 13), (.st [114], .fn (.func 79) [] [], 14), (.st [119], .fn (.func 80) [] [], 15), (.st [115], .fn (.func 81) [] [], 16), (.st [121], .fn (.func 82) [] [], 17)]
theorem body : Tryz.f38.body = some c := by kernel_rfl
noncomputable abbrev nx : Oper := cOp (cL (oN Tryz.f38)) 0
noncomputable abbrev ex : Oper := cOp (cL (oN Tryz.f38)) 1
noncomputable abbrev rid : Nat := cId (cL (oN Tryz.f38))
theorem shp : c = .seq (cL c) (.seq (cL (cR c)) (.seq (.seq (cL (cL (cR (cR c)))) (.block 0 (.loop (.seq (.region rid #[nx, ex] false) rest)))) suf)) := by kernel_rfl
theorem got : T.get Tryz.E1.F 38 = some Tryz.f38 := by kernel_rfl
theorem tmps : Tryz.f38.ntmps = 20 := by kernel_rfl
theorem zHc (σ : List Nat) : bC 9 (run Tryz.E1 2000 20 0 .pl rest (tmE (tmM 9 (.it .u8 (.ofNat 100))) 10 11 (.tu [.bo true, .st [123, 125], .fn (.func 65) [] []]) true) (bH es 18 (0 :: σ))) = some (some (.it .u8 (.ofNat 100)), some (.pt 1 0), some (.map es 18), some (.mit 0 18 (0 :: σ) 18), true) := by kernel_rfl
theorem zHd (σ : List Nat) : bC 9 (run Tryz.E1 2000 20 0 .pl rest (tmE (tmM 9 (.it .u8 (.ofNat 100))) 10 11 (.tu [.bo true, .st [61], .fn (.func 66) [] []]) true) (bH es 18 (1 :: σ))) = some (some (.it .u8 (.ofNat 100)), some (.pt 1 0), some (.map es 18), some (.mit 0 18 (1 :: σ) 18), true) := by kernel_rfl
theorem zHe (σ : List Nat) : bC 9 (run Tryz.E1 2000 20 0 .pl rest (tmE (tmM 9 (.it .u8 (.ofNat 100))) 10 11 (.tu [.bo true, .st [97], .fn (.func 67) [] []]) true) (bH es 18 (2 :: σ))) = some (some (.it .u8 (.ofNat 100)), some (.pt 1 0), some (.map es 18), some (.mit 0 18 (2 :: σ) 18), true) := by kernel_rfl
theorem zHf (σ : List Nat) : bC 9 (run Tryz.E1 2000 20 0 .pl rest (tmE (tmM 9 (.it .u8 (.ofNat 100))) 10 11 (.tu [.bo true, .st [105], .fn (.func 68) [] []]) true) (bH es 18 (3 :: σ))) = some (some (.it .u8 (.ofNat 100)), some (.pt 1 0), some (.map es 18), some (.mit 0 18 (3 :: σ) 18), true) := by kernel_rfl
theorem zHg (σ : List Nat) : bC 9 (run Tryz.E1 2000 20 0 .pl rest (tmE (tmM 9 (.it .u8 (.ofNat 100))) 10 11 (.tu [.bo true, .st [99], .fn (.func 69) [] []]) true) (bH es 18 (4 :: σ))) = some (some (.it .u8 (.ofNat 100)), some (.pt 1 0), some (.map es 18), some (.mit 0 18 (4 :: σ) 18), true) := by kernel_rfl
theorem zHh (σ : List Nat) : bC 9 (run Tryz.E1 2000 20 0 .pl rest (tmE (tmM 9 (.it .u8 (.ofNat 100))) 10 11 (.tu [.bo true, .st [98], .fn (.func 70) [] []]) true) (bH es 18 (5 :: σ))) = some (some (.it .u8 (.ofNat 100)), some (.pt 1 0), some (.map es 18), some (.mit 0 18 (5 :: σ) 18), true) := by kernel_rfl
theorem zHi (σ : List Nat) : bC 9 (run Tryz.E1 2000 20 0 .pl rest (tmE (tmM 9 (.it .u8 (.ofNat 100))) 10 11 (.tu [.bo true, .st [116, 84], .fn (.func 71) [] []]) true) (bH es 18 (6 :: σ))) = some (some (.it .u8 (.ofNat 100)), some (.pt 1 0), some (.map es 18), some (.mit 0 18 (6 :: σ) 18), true) := by kernel_rfl
theorem zHj (σ : List Nat) : bC 9 (run Tryz.E1 2000 20 0 .pl rest (tmE (tmM 9 (.it .u8 (.ofNat 100))) 10 11 (.tu [.bo true, .st [103, 71, 104, 72, 120], .fn (.func 73) [] []]) true) (bH es 18 (8 :: σ))) = some (some (.it .u8 (.ofNat 100)), some (.pt 1 0), some (.map es 18), some (.mit 0 18 (8 :: σ) 18), true) := by kernel_rfl
theorem zHk (σ : List Nat) : bC 9 (run Tryz.E1 2000 20 0 .pl rest (tmE (tmM 9 (.it .u8 (.ofNat 100))) 10 11 (.tu [.bo true, .st [108], .fn (.func 74) [] []]) true) (bH es 18 (9 :: σ))) = some (some (.it .u8 (.ofNat 100)), some (.pt 1 0), some (.map es 18), some (.mit 0 18 (9 :: σ) 18), true) := by kernel_rfl
theorem zEr (σ : List Nat) : bC 9 (run Tryz.E1 2000 20 0 .pl rest (tmE (tmM 9 (.it .u8 (.ofNat 100))) 10 11 (.tu [.bo true, .st [110, 78], .fn (.func 75) [] []]) true) (bH es 18 (10 :: σ))) = some (some (.it .u8 (.ofNat 100)), some (.pt 1 0), some (.map es 18), some (.mit 0 18 (10 :: σ) 18), true) := by kernel_rfl
theorem zEs (σ : List Nat) : bC 9 (run Tryz.E1 2000 20 0 .pl rest (tmE (tmM 9 (.it .u8 (.ofNat 100))) 10 11 (.tu [.bo true, .st [112], .fn (.func 76) [] []]) true) (bH es 18 (11 :: σ))) = some (some (.it .u8 (.ofNat 100)), some (.pt 1 0), some (.map es 18), some (.mit 0 18 (11 :: σ) 18), true) := by kernel_rfl
theorem zEt (σ : List Nat) : bC 9 (run Tryz.E1 2000 20 0 .pl rest (tmE (tmM 9 (.it .u8 (.ofNat 100))) 10 11 (.tu [.bo true, .st [80], .fn (.func 77) [] []]) true) (bH es 18 (12 :: σ))) = some (some (.it .u8 (.ofNat 100)), some (.pt 1 0), some (.map es 18), some (.mit 0 18 (12 :: σ) 18), true) := by kernel_rfl
theorem zEu (σ : List Nat) : bC 9 (run Tryz.E1 2000 20 0 .pl rest (tmE (tmM 9 (.it .u8 (.ofNat 100))) 10 11 (.tu [.bo true, .st [113, 81], .fn (.func 78) [] []]) true) (bH es 18 (13 :: σ))) = some (some (.it .u8 (.ofNat 100)), some (.pt 1 0), some (.map es 18), some (.mit 0 18 (13 :: σ) 18), true) := by kernel_rfl
theorem zEv (σ : List Nat) : bC 9 (run Tryz.E1 2000 20 0 .pl rest (tmE (tmM 9 (.it .u8 (.ofNat 100))) 10 11 (.tu [.bo true, .st [114], .fn (.func 79) [] []]) true) (bH es 18 (14 :: σ))) = some (some (.it .u8 (.ofNat 100)), some (.pt 1 0), some (.map es 18), some (.mit 0 18 (14 :: σ) 18), true) := by kernel_rfl
theorem zEw (σ : List Nat) : bC 9 (run Tryz.E1 2000 20 0 .pl rest (tmE (tmM 9 (.it .u8 (.ofNat 100))) 10 11 (.tu [.bo true, .st [119], .fn (.func 80) [] []]) true) (bH es 18 (15 :: σ))) = some (some (.it .u8 (.ofNat 100)), some (.pt 1 0), some (.map es 18), some (.mit 0 18 (15 :: σ) 18), true) := by kernel_rfl
theorem zEx (σ : List Nat) : bC 9 (run Tryz.E1 2000 20 0 .pl rest (tmE (tmM 9 (.it .u8 (.ofNat 100))) 10 11 (.tu [.bo true, .st [115], .fn (.func 81) [] []]) true) (bH es 18 (16 :: σ))) = some (some (.it .u8 (.ofNat 100)), some (.pt 1 0), some (.map es 18), some (.mit 0 18 (16 :: σ) 18), true) := by kernel_rfl
theorem zEy (σ : List Nat) : bC 9 (run Tryz.E1 2000 20 0 .pl rest (tmE (tmM 9 (.it .u8 (.ofNat 100))) 10 11 (.tu [.bo true, .st [121], .fn (.func 82) [] []]) true) (bH es 18 (17 :: σ))) = some (some (.it .u8 (.ofNat 100)), some (.pt 1 0), some (.map es 18), some (.mit 0 18 (17 :: σ) 18), true) := by kernel_rfl
theorem d100 (lo : Nat) (A : W) (args : List AV) (ha : args = [.it .u8 (.ofNat 100)]) : bD Tryz.prog lo 38 args A (.ret (.fn (.func 72) [] [])) A := by
 refine Hy (E := Tryz.E1) Tryz.E1_ok (k := 2000) (n := 20) (its := 9) (a1 := 10) (a2 := 11) (es := es) (clk := 18) (eh := (.st [100, 68], .fn (.func 72) [] [], 7)) got body shp tmps (by decide) (nx := nx) (ex := ex) (by kernel_rfl) (by kernel_rfl) (by kernel_rfl) (by kernel_rfl) (by kernel_rfl) (by kernel_rfl) (by decide) (by kernel_rfl)
  (by kernel_rfl) (by kernel_rfl) (by kernel_rfl) (by kernel_rfl) (by kernel_rfl) (by kernel_rfl) (by simp [es]) (fun e he hne σ => ?_) (fun σ => by kernel_rfl) lo A args ha
 simp only [es, List.mem_cons, List.not_mem_nil, or_false] at he
 rcases he with rfl | rfl | rfl | rfl | rfl | rfl | rfl | rfl | rfl | rfl | rfl | rfl | rfl | rfl | rfl | rfl | rfl | rfl
 ·exact zHc σ
 ·exact zHd σ
 ·exact zHe σ
 ·exact zHf σ
 ·exact zHg σ
 ·exact zHh σ
 ·exact zHi σ
 ·exact absurd rfl hne
 ·exact zHj σ
 ·exact zHk σ
 ·exact zEr σ
 ·exact zEs σ
 ·exact zEt σ
 ·exact zEu σ
 ·exact zEv σ
 ·exact zEw σ
 ·exact zEx σ
 ·exact zEy σ
theorem zHl (σ : List Nat) : bC 9 (run Tryz.E1 2000 20 0 .pl rest (tmE (tmM 9 (.it .u8 (.ofNat 112))) 10 11 (.tu [.bo true, .st [123, 125], .fn (.func 65) [] []]) true) (bH es 18 (0 :: σ))) = some (some (.it .u8 (.ofNat 112)), some (.pt 1 0), some (.map es 18), some (.mit 0 18 (0 :: σ) 18), true) := by kernel_rfl
theorem zHm (σ : List Nat) : bC 9 (run Tryz.E1 2000 20 0 .pl rest (tmE (tmM 9 (.it .u8 (.ofNat 112))) 10 11 (.tu [.bo true, .st [61], .fn (.func 66) [] []]) true) (bH es 18 (1 :: σ))) = some (some (.it .u8 (.ofNat 112)), some (.pt 1 0), some (.map es 18), some (.mit 0 18 (1 :: σ) 18), true) := by kernel_rfl
theorem zHn (σ : List Nat) : bC 9 (run Tryz.E1 2000 20 0 .pl rest (tmE (tmM 9 (.it .u8 (.ofNat 112))) 10 11 (.tu [.bo true, .st [97], .fn (.func 67) [] []]) true) (bH es 18 (2 :: σ))) = some (some (.it .u8 (.ofNat 112)), some (.pt 1 0), some (.map es 18), some (.mit 0 18 (2 :: σ) 18), true) := by kernel_rfl
theorem zHo (σ : List Nat) : bC 9 (run Tryz.E1 2000 20 0 .pl rest (tmE (tmM 9 (.it .u8 (.ofNat 112))) 10 11 (.tu [.bo true, .st [105], .fn (.func 68) [] []]) true) (bH es 18 (3 :: σ))) = some (some (.it .u8 (.ofNat 112)), some (.pt 1 0), some (.map es 18), some (.mit 0 18 (3 :: σ) 18), true) := by kernel_rfl
theorem zHp (σ : List Nat) : bC 9 (run Tryz.E1 2000 20 0 .pl rest (tmE (tmM 9 (.it .u8 (.ofNat 112))) 10 11 (.tu [.bo true, .st [99], .fn (.func 69) [] []]) true) (bH es 18 (4 :: σ))) = some (some (.it .u8 (.ofNat 112)), some (.pt 1 0), some (.map es 18), some (.mit 0 18 (4 :: σ) 18), true) := by kernel_rfl
theorem zHq (σ : List Nat) : bC 9 (run Tryz.E1 2000 20 0 .pl rest (tmE (tmM 9 (.it .u8 (.ofNat 112))) 10 11 (.tu [.bo true, .st [98], .fn (.func 70) [] []]) true) (bH es 18 (5 :: σ))) = some (some (.it .u8 (.ofNat 112)), some (.pt 1 0), some (.map es 18), some (.mit 0 18 (5 :: σ) 18), true) := by kernel_rfl
theorem zHr (σ : List Nat) : bC 9 (run Tryz.E1 2000 20 0 .pl rest (tmE (tmM 9 (.it .u8 (.ofNat 112))) 10 11 (.tu [.bo true, .st [116, 84], .fn (.func 71) [] []]) true) (bH es 18 (6 :: σ))) = some (some (.it .u8 (.ofNat 112)), some (.pt 1 0), some (.map es 18), some (.mit 0 18 (6 :: σ) 18), true) := by kernel_rfl
theorem zHs (σ : List Nat) : bC 9 (run Tryz.E1 2000 20 0 .pl rest (tmE (tmM 9 (.it .u8 (.ofNat 112))) 10 11 (.tu [.bo true, .st [100, 68], .fn (.func 72) [] []]) true) (bH es 18 (7 :: σ))) = some (some (.it .u8 (.ofNat 112)), some (.pt 1 0), some (.map es 18), some (.mit 0 18 (7 :: σ) 18), true) := by kernel_rfl
theorem zHt (σ : List Nat) : bC 9 (run Tryz.E1 2000 20 0 .pl rest (tmE (tmM 9 (.it .u8 (.ofNat 112))) 10 11 (.tu [.bo true, .st [103, 71, 104, 72, 120], .fn (.func 73) [] []]) true) (bH es 18 (8 :: σ))) = some (some (.it .u8 (.ofNat 112)), some (.pt 1 0), some (.map es 18), some (.mit 0 18 (8 :: σ) 18), true) := by kernel_rfl
theorem zHu (σ : List Nat) : bC 9 (run Tryz.E1 2000 20 0 .pl rest (tmE (tmM 9 (.it .u8 (.ofNat 112))) 10 11 (.tu [.bo true, .st [108], .fn (.func 74) [] []]) true) (bH es 18 (9 :: σ))) = some (some (.it .u8 (.ofNat 112)), some (.pt 1 0), some (.map es 18), some (.mit 0 18 (9 :: σ) 18), true) := by kernel_rfl
theorem zEz (σ : List Nat) : bC 9 (run Tryz.E1 2000 20 0 .pl rest (tmE (tmM 9 (.it .u8 (.ofNat 112))) 10 11 (.tu [.bo true, .st [110, 78], .fn (.func 75) [] []]) true) (bH es 18 (10 :: σ))) = some (some (.it .u8 (.ofNat 112)), some (.pt 1 0), some (.map es 18), some (.mit 0 18 (10 :: σ) 18), true) := by kernel_rfl
theorem zFa (σ : List Nat) : bC 9 (run Tryz.E1 2000 20 0 .pl rest (tmE (tmM 9 (.it .u8 (.ofNat 112))) 10 11 (.tu [.bo true, .st [80], .fn (.func 77) [] []]) true) (bH es 18 (12 :: σ))) = some (some (.it .u8 (.ofNat 112)), some (.pt 1 0), some (.map es 18), some (.mit 0 18 (12 :: σ) 18), true) := by kernel_rfl
theorem zFb (σ : List Nat) : bC 9 (run Tryz.E1 2000 20 0 .pl rest (tmE (tmM 9 (.it .u8 (.ofNat 112))) 10 11 (.tu [.bo true, .st [113, 81], .fn (.func 78) [] []]) true) (bH es 18 (13 :: σ))) = some (some (.it .u8 (.ofNat 112)), some (.pt 1 0), some (.map es 18), some (.mit 0 18 (13 :: σ) 18), true) := by kernel_rfl
theorem zFc (σ : List Nat) : bC 9 (run Tryz.E1 2000 20 0 .pl rest (tmE (tmM 9 (.it .u8 (.ofNat 112))) 10 11 (.tu [.bo true, .st [114], .fn (.func 79) [] []]) true) (bH es 18 (14 :: σ))) = some (some (.it .u8 (.ofNat 112)), some (.pt 1 0), some (.map es 18), some (.mit 0 18 (14 :: σ) 18), true) := by kernel_rfl
theorem zFd (σ : List Nat) : bC 9 (run Tryz.E1 2000 20 0 .pl rest (tmE (tmM 9 (.it .u8 (.ofNat 112))) 10 11 (.tu [.bo true, .st [119], .fn (.func 80) [] []]) true) (bH es 18 (15 :: σ))) = some (some (.it .u8 (.ofNat 112)), some (.pt 1 0), some (.map es 18), some (.mit 0 18 (15 :: σ) 18), true) := by kernel_rfl
theorem zFe (σ : List Nat) : bC 9 (run Tryz.E1 2000 20 0 .pl rest (tmE (tmM 9 (.it .u8 (.ofNat 112))) 10 11 (.tu [.bo true, .st [115], .fn (.func 81) [] []]) true) (bH es 18 (16 :: σ))) = some (some (.it .u8 (.ofNat 112)), some (.pt 1 0), some (.map es 18), some (.mit 0 18 (16 :: σ) 18), true) := by kernel_rfl
theorem zFf (σ : List Nat) : bC 9 (run Tryz.E1 2000 20 0 .pl rest (tmE (tmM 9 (.it .u8 (.ofNat 112))) 10 11 (.tu [.bo true, .st [121], .fn (.func 82) [] []]) true) (bH es 18 (17 :: σ))) = some (some (.it .u8 (.ofNat 112)), some (.pt 1 0), some (.map es 18), some (.mit 0 18 (17 :: σ) 18), true) := by kernel_rfl
theorem d112 (lo : Nat) (A : W) (args : List AV) (ha : args = [.it .u8 (.ofNat 112)]) : bD Tryz.prog lo 38 args A (.ret (.fn (.func 76) [] [])) A := by
 refine Hy (E := Tryz.E1) Tryz.E1_ok (k := 2000) (n := 20) (its := 9) (a1 := 10) (a2 := 11) (es := es) (clk := 18) (eh := (.st [112], .fn (.func 76) [] [], 11)) got body shp tmps (by decide) (nx := nx) (ex := ex) (by kernel_rfl) (by kernel_rfl) (by kernel_rfl) (by kernel_rfl) (by kernel_rfl) (by kernel_rfl) (by decide) (by kernel_rfl)
  (by kernel_rfl) (by kernel_rfl) (by kernel_rfl) (by kernel_rfl) (by kernel_rfl) (by kernel_rfl) (by simp [es]) (fun e he hne σ => ?_) (fun σ => by kernel_rfl) lo A args ha
 simp only [es, List.mem_cons, List.not_mem_nil, or_false] at he
 rcases he with rfl | rfl | rfl | rfl | rfl | rfl | rfl | rfl | rfl | rfl | rfl | rfl | rfl | rfl | rfl | rfl | rfl | rfl
 ·exact zHl σ
 ·exact zHm σ
 ·exact zHn σ
 ·exact zHo σ
 ·exact zHp σ
 ·exact zHq σ
 ·exact zHr σ
 ·exact zHs σ
 ·exact zHt σ
 ·exact zHu σ
 ·exact zEz σ
 ·exact absurd rfl hne
 ·exact zFa σ
 ·exact zFb σ
 ·exact zFc σ
 ·exact zFd σ
 ·exact zFe σ
 ·exact zFf σ
end Tryz.Bd
def Tryz.Bd.tab : List (Nat × Nat) := [(100, 72), (112, 76)]
def Ia (tab : List (Nat × Nat)) : Gv := fun _ A xs => match xs with
 | [.it .u8 (.ofNat b)] => ob (lk b tab) fun g => some (.fn (.func g) [] [], A)
 | _ => none
where lk : Nat -> List (Nat × Nat) -> Option Nat
 | _, [] => none
 | b, p :: r => cnd (Nat.beq b p.1) (some p.2) (lk b r)
theorem Lb {b g : Nat} : ∀ {l : List (Nat × Nat)}, Ia.lk b l = some g -> (b, g) ∈ l
 | p :: r, h => by
  unfold Ia.lk cnd at h
  split at h
  ·rename_i hc
   simp only [Option.some.injEq] at h
   have := Nat.eq_of_beq_eq_true hc
   subst this h
   exact .head _
  ·exact .tail _ (Lb h)
theorem Tryz.bdoes_ok (lo : Nat) (A : W) (args : List AV) (v : AV) (A' : W) (h : Ia Tryz.Bd.tab lo A args = some (v, A')) : bD Tryz.prog lo 38 args A (.ret v) A' := by
 unfold Ia at h
 split at h
 ·rename_i b
  replace h := aA h; obtain ⟨g, hg, h⟩ := h
  simp only [Option.some.injEq, Prod.mk.injEq] at h
  obtain ⟨rfl, rfl⟩ := h
  have hm := Lb hg
  simp only [Tryz.Bd.tab, List.mem_cons, Prod.mk.injEq, List.not_mem_nil, or_false] at hm
  rcases hm with ⟨rfl, rfl⟩ | ⟨rfl, rfl⟩
  ·exact Tryz.Bd.d100 lo A _ rfl
  ·exact Tryz.Bd.d112 lo A _ rfl
 ·cases h
end Go.Proofs
