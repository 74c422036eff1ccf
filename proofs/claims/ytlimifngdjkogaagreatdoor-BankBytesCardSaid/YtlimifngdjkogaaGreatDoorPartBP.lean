/- Part of a proof over this seat: a library of my own, and what it says of this seat. No statement is proved here. -/
import Derived.Test.YtlimifngdjkogaaGreatDoorPartBK
import Derived.Test.YtlimifngdjkogaaGreatDoorPartBG
namespace Go.Proofs
open Go.Ce
set_option maxRecDepth 100000
noncomputable def Tryz.E1 : Env := Tryz.E0.more 201 Yj
theorem Tryz.E1_ok : cO Tryz.E1 := Tryz.E0_ok.more fun lo A args v A' h => Uu Tryz.func201 (by kernel_rfl) (by kernel_rfl) (by kernel_rfl) (by kernel_rfl) lo A args v A' h
namespace Tryz.Bd
noncomputable abbrev c : Code := Rj Tryz.f38
noncomputable abbrev rest : Code := cR (qA Tryz.f38)
noncomputable abbrev suf : Code := cR (cR (cR c))
def es : List (AV × AV × Nat) := [(.st [123, 125], .fn (.func 65) [] [], 0), (.st [61], .fn (.func 66) [] [], 1), (.st [97], .fn (.func 67) [] [], 2), (.st [105], .fn (.func 68) [] [], 3), (.st [99], .fn (.func 69) [] [], 4), (.st [98], .fn (.func 70) [] [], 5), (.st [116, 84], .fn (.func 71) [] [], 6), (.st [100, 68], .fn (.func 72) [] [], 7), (.st [103, 71, 104, 72, 120], .fn (.func 73) [] [], 8), (.st [108], .fn (.func 74) [] [], 9), (.st [110, 78], .fn (.func 75) [] [], 10), (.st [112], .fn (.func 76) [] [], 11), (.st [80], .fn (.func 77) [] [], 12), (.st [113, 81], .fn (.func 78) [] [], 13), (.st [114], .fn (.func 79) [] [], 14), (.st [119], .fn (.func 80) [] [], 15), (.st [115], .fn (.func 81) [] [], 16), (.st [121], .fn (.func 82) [] [], 17)]
theorem body : Tryz.f38.body = some c := by kernel_rfl
noncomputable abbrev nx : Oper := cOp (cL (qA Tryz.f38)) 0
noncomputable abbrev ex : Oper := cOp (cL (qA Tryz.f38)) 1
noncomputable abbrev rid : Nat := cId (cL (qA Tryz.f38))
theorem shp : c = .seq (cL c) (.seq (cL (cR c)) (.seq (.seq (cL (cL (cR (cR c)))) (.block 0 (.loop (.seq (.region rid #[nx, ex] false) rest)))) suf)) := by kernel_rfl
theorem got : T.get Tryz.E1.F 38 = some Tryz.f38 := by kernel_rfl
theorem tmps : Tryz.f38.ntmps = 20 := by kernel_rfl
theorem zHx (σ : List Nat) : bG 9 (run Tryz.E1 2000 20 0 .pl rest (tmE (tmM 9 (.it .u8 (.ofNat 100))) 10 11 (.tu [.bo true, .st [123, 125], .fn (.func 65) [] []]) true) (bQ es 18 (0 :: σ))) = some (some (.it .u8 (.ofNat 100)), some (.pt 1 0), some (.map es 18), some (.mit 0 18 (0 :: σ) 18), true) := by kernel_rfl
theorem zHy (σ : List Nat) : bG 9 (run Tryz.E1 2000 20 0 .pl rest (tmE (tmM 9 (.it .u8 (.ofNat 100))) 10 11 (.tu [.bo true, .st [61], .fn (.func 66) [] []]) true) (bQ es 18 (1 :: σ))) = some (some (.it .u8 (.ofNat 100)), some (.pt 1 0), some (.map es 18), some (.mit 0 18 (1 :: σ) 18), true) := by kernel_rfl
theorem zHz (σ : List Nat) : bG 9 (run Tryz.E1 2000 20 0 .pl rest (tmE (tmM 9 (.it .u8 (.ofNat 100))) 10 11 (.tu [.bo true, .st [97], .fn (.func 67) [] []]) true) (bQ es 18 (2 :: σ))) = some (some (.it .u8 (.ofNat 100)), some (.pt 1 0), some (.map es 18), some (.mit 0 18 (2 :: σ) 18), true) := by kernel_rfl
theorem zIa (σ : List Nat) : bG 9 (run Tryz.E1 2000 20 0 .pl rest (tmE (tmM 9 (.it .u8 (.ofNat 100))) 10 11 (.tu [.bo true, .st [105], .fn (.func 68) [] []]) true) (bQ es 18 (3 :: σ))) = some (some (.it .u8 (.ofNat 100)), some (.pt 1 0), some (.map es 18), some (.mit 0 18 (3 :: σ) 18), true) := by kernel_rfl
theorem zIb (σ : List Nat) : bG 9 (run Tryz.E1 2000 20 0 .pl rest (tmE (tmM 9 (.it .u8 (.ofNat 100))) 10 11 (.tu [.bo true, .st [99], .fn (.func 69) [] []]) true) (bQ es 18 (4 :: σ))) = some (some (.it .u8 (.ofNat 100)), some (.pt 1 0), some (.map es 18), some (.mit 0 18 (4 :: σ) 18), true) := by kernel_rfl
theorem zIc (σ : List Nat) : bG 9 (run Tryz.E1 2000 20 0 .pl rest (tmE (tmM 9 (.it .u8 (.ofNat 100))) 10 11 (.tu [.bo true, .st [98], .fn (.func 70) [] []]) true) (bQ es 18 (5 :: σ))) = some (some (.it .u8 (.ofNat 100)), some (.pt 1 0), some (.map es 18), some (.mit 0 18 (5 :: σ) 18), true) := by kernel_rfl
theorem zId (σ : List Nat) : bG 9 (run Tryz.E1 2000 20 0 .pl rest (tmE (tmM 9 (.it .u8 (.ofNat 100))) 10 11 (.tu [.bo true, .st [116, 84], .fn (.func 71) [] []]) true) (bQ es 18 (6 :: σ))) = some (some (.it .u8 (.ofNat 100)), some (.pt 1 0), some (.map es 18), some (.mit 0 18 (6 :: σ) 18), true) := by kernel_rfl
theorem zIe (σ : List Nat) : bG 9 (run Tryz.E1 2000 20 0 .pl rest (tmE (tmM 9 (.it .u8 (.ofNat 100))) 10 11 (.tu [.bo true, .st [103, 71, 104, 72, 120], .fn (.func 73) [] []]) true) (bQ es 18 (8 :: σ))) = some (some (.it .u8 (.ofNat 100)), some (.pt 1 0), some (.map es 18), some (.mit 0 18 (8 :: σ) 18), true) := by kernel_rfl
theorem zIf (σ : List Nat) : bG 9 (run Tryz.E1 2000 20 0 .pl rest (tmE (tmM 9 (.it .u8 (.ofNat 100))) 10 11 (.tu [.bo true, .st [108], .fn (.func 74) [] []]) true) (bQ es 18 (9 :: σ))) = some (some (.it .u8 (.ofNat 100)), some (.pt 1 0), some (.map es 18), some (.mit 0 18 (9 :: σ) 18), true) := by kernel_rfl
theorem zFi (σ : List Nat) : bG 9 (run Tryz.E1 2000 20 0 .pl rest (tmE (tmM 9 (.it .u8 (.ofNat 100))) 10 11 (.tu [.bo true, .st [110, 78], .fn (.func 75) [] []]) true) (bQ es 18 (10 :: σ))) = some (some (.it .u8 (.ofNat 100)), some (.pt 1 0), some (.map es 18), some (.mit 0 18 (10 :: σ) 18), true) := by kernel_rfl
theorem zFj (σ : List Nat) : bG 9 (run Tryz.E1 2000 20 0 .pl rest (tmE (tmM 9 (.it .u8 (.ofNat 100))) 10 11 (.tu [.bo true, .st [112], .fn (.func 76) [] []]) true) (bQ es 18 (11 :: σ))) = some (some (.it .u8 (.ofNat 100)), some (.pt 1 0), some (.map es 18), some (.mit 0 18 (11 :: σ) 18), true) := by kernel_rfl
theorem zFk (σ : List Nat) : bG 9 (run Tryz.E1 2000 20 0 .pl rest (tmE (tmM 9 (.it .u8 (.ofNat 100))) 10 11 (.tu [.bo true, .st [80], .fn (.func 77) [] []]) true) (bQ es 18 (12 :: σ))) = some (some (.it .u8 (.ofNat 100)), some (.pt 1 0), some (.map es 18), some (.mit 0 18 (12 :: σ) 18), true) := by kernel_rfl
theorem zFl (σ : List Nat) : bG 9 (run Tryz.E1 2000 20 0 .pl rest (tmE (tmM 9 (.it .u8 (.ofNat 100))) 10 11 (.tu [.bo true, .st [113, 81], .fn (.func 78) [] []]) true) (bQ es 18 (13 :: σ))) = some (some (.it .u8 (.ofNat 100)), some (.pt 1 0), some (.map es 18), some (.mit 0 18 (13 :: σ) 18), true) := by kernel_rfl
theorem zFm (σ : List Nat) : bG 9 (run Tryz.E1 2000 20 0 .pl rest (tmE (tmM 9 (.it .u8 (.ofNat 100))) 10 11 (.tu [.bo true, .st [114], .fn (.func 79) [] []]) true) (bQ es 18 (14 :: σ))) = some (some (.it .u8 (.ofNat 100)), some (.pt 1 0), some (.map es 18), some (.mit 0 18 (14 :: σ) 18), true) := by kernel_rfl
theorem zFn (σ : List Nat) : bG 9 (run Tryz.E1 2000 20 0 .pl rest (tmE (tmM 9 (.it .u8 (.ofNat 100))) 10 11 (.tu [.bo true, .st [119], .fn (.func 80) [] []]) true) (bQ es 18 (15 :: σ))) = some (some (.it .u8 (.ofNat 100)), some (.pt 1 0), some (.map es 18), some (.mit 0 18 (15 :: σ) 18), true) := by kernel_rfl
theorem zFo (σ : List Nat) : bG 9 (run Tryz.E1 2000 20 0 .pl rest (tmE (tmM 9 (.it .u8 (.ofNat 100))) 10 11 (.tu [.bo true, .st [115], .fn (.func 81) [] []]) true) (bQ es 18 (16 :: σ))) = some (some (.it .u8 (.ofNat 100)), some (.pt 1 0), some (.map es 18), some (.mit 0 18 (16 :: σ) 18), true) := by kernel_rfl
theorem zFp (σ : List Nat) : bG 9 (run Tryz.E1 2000 20 0 .pl rest (tmE (tmM 9 (.it .u8 (.ofNat 100))) 10 11 (.tu [.bo true, .st [121], .fn (.func 82) [] []]) true) (bQ es 18 (17 :: σ))) = some (some (.it .u8 (.ofNat 100)), some (.pt 1 0), some (.map es 18), some (.mit 0 18 (17 :: σ) 18), true) := by kernel_rfl
theorem d100 (lo : Nat) (A : W) (args : List AV) (ha : args = [.it .u8 (.ofNat 100)]) : bI Tryz.prog lo 38 args A (.ret (.fn (.func 72) [] [])) A := by
 refine Gx (E := Tryz.E1) Tryz.E1_ok (k := 2000) (n := 20) (its := 9) (a1 := 10) (a2 := 11) (es := es) (clk := 18) (eh := (.st [100, 68], .fn (.func 72) [] [], 7)) got body shp tmps (by decide) (nx := nx) (ex := ex) (by kernel_rfl) (by kernel_rfl) (by kernel_rfl) (by kernel_rfl) (by kernel_rfl) (by kernel_rfl) (by decide) (by kernel_rfl)
  (by kernel_rfl) (by kernel_rfl) (by kernel_rfl) (by kernel_rfl) (by kernel_rfl) (by kernel_rfl) (by simp [es]) (fun e he hne σ => ?_) (fun σ => by kernel_rfl) lo A args ha
 simp only [es, List.mem_cons, List.not_mem_nil, or_false] at he
 rcases he with rfl | rfl | rfl | rfl | rfl | rfl | rfl | rfl | rfl | rfl | rfl | rfl | rfl | rfl | rfl | rfl | rfl | rfl
 ·exact zHx σ
 ·exact zHy σ
 ·exact zHz σ
 ·exact zIa σ
 ·exact zIb σ
 ·exact zIc σ
 ·exact zId σ
 ·exact absurd rfl hne
 ·exact zIe σ
 ·exact zIf σ
 ·exact zFi σ
 ·exact zFj σ
 ·exact zFk σ
 ·exact zFl σ
 ·exact zFm σ
 ·exact zFn σ
 ·exact zFo σ
 ·exact zFp σ
theorem zIg (σ : List Nat) : bG 9 (run Tryz.E1 2000 20 0 .pl rest (tmE (tmM 9 (.it .u8 (.ofNat 112))) 10 11 (.tu [.bo true, .st [123, 125], .fn (.func 65) [] []]) true) (bQ es 18 (0 :: σ))) = some (some (.it .u8 (.ofNat 112)), some (.pt 1 0), some (.map es 18), some (.mit 0 18 (0 :: σ) 18), true) := by kernel_rfl
theorem zIh (σ : List Nat) : bG 9 (run Tryz.E1 2000 20 0 .pl rest (tmE (tmM 9 (.it .u8 (.ofNat 112))) 10 11 (.tu [.bo true, .st [61], .fn (.func 66) [] []]) true) (bQ es 18 (1 :: σ))) = some (some (.it .u8 (.ofNat 112)), some (.pt 1 0), some (.map es 18), some (.mit 0 18 (1 :: σ) 18), true) := by kernel_rfl
theorem zIi (σ : List Nat) : bG 9 (run Tryz.E1 2000 20 0 .pl rest (tmE (tmM 9 (.it .u8 (.ofNat 112))) 10 11 (.tu [.bo true, .st [97], .fn (.func 67) [] []]) true) (bQ es 18 (2 :: σ))) = some (some (.it .u8 (.ofNat 112)), some (.pt 1 0), some (.map es 18), some (.mit 0 18 (2 :: σ) 18), true) := by kernel_rfl
theorem zIj (σ : List Nat) : bG 9 (run Tryz.E1 2000 20 0 .pl rest (tmE (tmM 9 (.it .u8 (.ofNat 112))) 10 11 (.tu [.bo true, .st [105], .fn (.func 68) [] []]) true) (bQ es 18 (3 :: σ))) = some (some (.it .u8 (.ofNat 112)), some (.pt 1 0), some (.map es 18), some (.mit 0 18 (3 :: σ) 18), true) := by kernel_rfl
theorem zIk (σ : List Nat) : bG 9 (run Tryz.E1 2000 20 0 .pl rest (tmE (tmM 9 (.it .u8 (.ofNat 112))) 10 11 (.tu [.bo true, .st [99], .fn (.func 69) [] []]) true) (bQ es 18 (4 :: σ))) = some (some (.it .u8 (.ofNat 112)), some (.pt 1 0), some (.map es 18), some (.mit 0 18 (4 :: σ) 18), true) := by kernel_rfl
theorem zIl (σ : List Nat) : bG 9 (run Tryz.E1 2000 20 0 .pl rest (tmE (tmM 9 (.it .u8 (.ofNat 112))) 10 11 (.tu [.bo true, .st [98], .fn (.func 70) [] []]) true) (bQ es 18 (5 :: σ))) = some (some (.it .u8 (.ofNat 112)), some (.pt 1 0), some (.map es 18), some (.mit 0 18 (5 :: σ) 18), true) := by kernel_rfl
theorem zIm (σ : List Nat) : bG 9 (run Tryz.E1 2000 20 0 .pl rest (tmE (tmM 9 (.it .u8 (.ofNat 112))) 10 11 (.tu [.bo true, .st [116, 84], .fn (.func 71) [] []]) true) (bQ es 18 (6 :: σ))) = some (some (.it .u8 (.ofNat 112)), some (.pt 1 0), some (.map es 18), some (.mit 0 18 (6 :: σ) 18), true) := by kernel_rfl
theorem zIn (σ : List Nat) : bG 9 (run Tryz.E1 2000 20 0 .pl rest (tmE (tmM 9 (.it .u8 (.ofNat 112))) 10 11 (.tu [.bo true, .st [100, 68], .fn (.func 72) [] []]) true) (bQ es 18 (7 :: σ))) = some (some (.it .u8 (.ofNat 112)), some (.pt 1 0), some (.map es 18), some (.mit 0 18 (7 :: σ) 18), true) := by kernel_rfl
theorem zIo (σ : List Nat) : bG 9 (run Tryz.E1 2000 20 0 .pl rest (tmE (tmM 9 (.it .u8 (.ofNat 112))) 10 11 (.tu [.bo true, .st [103, 71, 104, 72, 120], .fn (.func 73) [] []]) true) (bQ es 18 (8 :: σ))) = some (some (.it .u8 (.ofNat 112)), some (.pt 1 0), some (.map es 18), some (.mit 0 18 (8 :: σ) 18), true) := by kernel_rfl
theorem zIp (σ : List Nat) : bG 9 (run Tryz.E1 2000 20 0 .pl rest (tmE (tmM 9 (.it .u8 (.ofNat 112))) 10 11 (.tu [.bo true, .st [108], .fn (.func 74) [] []]) true) (bQ es 18 (9 :: σ))) = some (some (.it .u8 (.ofNat 112)), some (.pt 1 0), some (.map es 18), some (.mit 0 18 (9 :: σ) 18), true) := by kernel_rfl
theorem zFq (σ : List Nat) : bG 9 (run Tryz.E1 2000 20 0 .pl rest (tmE (tmM 9 (.it .u8 (.ofNat 112))) 10 11 (.tu [.bo true, .st [110, 78], .fn (.func 75) [] []]) true) (bQ es 18 (10 :: σ))) = some (some (.it .u8 (.ofNat 112)), some (.pt 1 0), some (.map es 18), some (.mit 0 18 (10 :: σ) 18), true) := by kernel_rfl
theorem zFr (σ : List Nat) : bG 9 (run Tryz.E1 2000 20 0 .pl rest (tmE (tmM 9 (.it .u8 (.ofNat 112))) 10 11 (.tu [.bo true, .st [80], .fn (.func 77) [] []]) true) (bQ es 18 (12 :: σ))) = some (some (.it .u8 (.ofNat 112)), some (.pt 1 0), some (.map es 18), some (.mit 0 18 (12 :: σ) 18), true) := by kernel_rfl
theorem zFs (σ : List Nat) : bG 9 (run Tryz.E1 2000 20 0 .pl rest (tmE (tmM 9 (.it .u8 (.ofNat 112))) 10 11 (.tu [.bo true, .st [113, 81], .fn (.func 78) [] []]) true) (bQ es 18 (13 :: σ))) = some (some (.it .u8 (.ofNat 112)), some (.pt 1 0), some (.map es 18), some (.mit 0 18 (13 :: σ) 18), true) := by kernel_rfl
theorem zFt (σ : List Nat) : bG 9 (run Tryz.E1 2000 20 0 .pl rest (tmE (tmM 9 (.it .u8 (.ofNat 112))) 10 11 (.tu [.bo true, .st [114], .fn (.func 79) [] []]) true) (bQ es 18 (14 :: σ))) = some (some (.it .u8 (.ofNat 112)), some (.pt 1 0), some (.map es 18), some (.mit 0 18 (14 :: σ) 18), true) := by kernel_rfl
theorem zFu (σ : List Nat) : bG 9 (run Tryz.E1 2000 20 0 .pl rest (tmE (tmM 9 (.it .u8 (.ofNat 112))) 10 11 (.tu [.bo true, .st [119], .fn (.func 80) [] []]) true) (bQ es 18 (15 :: σ))) = some (some (.it .u8 (.ofNat 112)), some (.pt 1 0), some (.map es 18), some (.mit 0 18 (15 :: σ) 18), true) := by kernel_rfl
theorem zFv (σ : List Nat) : bG 9 (run Tryz.E1 2000 20 0 .pl rest (tmE (tmM 9 (.it .u8 (.ofNat 112))) 10 11 (.tu [.bo true, .st [115], .fn (.func 81) [] []]) true) (bQ es 18 (16 :: σ))) = some (some (.it .u8 (.ofNat 112)), some (.pt 1 0), some (.map es 18), some (.mit 0 18 (16 :: σ) 18), true) := by kernel_rfl
theorem zFw (σ : List Nat) : bG 9 (run Tryz.E1 2000 20 0 .pl rest (tmE (tmM 9 (.it .u8 (.ofNat 112))) 10 11 (.tu [.bo true, .st [121], .fn (.func 82) [] []]) true) (bQ es 18 (17 :: σ))) = some (some (.it .u8 (.ofNat 112)), some (.pt 1 0), some (.map es 18), some (.mit 0 18 (17 :: σ) 18), true) := by kernel_rfl
theorem d112 (lo : Nat) (A : W) (args : List AV) (ha : args = [.it .u8 (.ofNat 112)]) : bI Tryz.prog lo 38 args A (.ret (.fn (.func 76) [] [])) A := by
 refine Gx (E := Tryz.E1) Tryz.E1_ok (k := 2000) (n := 20) (its := 9) (a1 := 10) (a2 := 11) (es := es) (clk := 18) (eh := (.st [112], .fn (.func 76) [] [], 11)) got body shp tmps (by decide) (nx := nx) (ex := ex) (by kernel_rfl) (by kernel_rfl) (by kernel_rfl) (by kernel_rfl) (by kernel_rfl) (by kernel_rfl) (by decide) (by kernel_rfl)
  (by kernel_rfl) (by kernel_rfl) (by kernel_rfl) (by kernel_rfl) (by kernel_rfl) (by kernel_rfl) (by simp [es]) (fun e he hne σ => ?_) (fun σ => by kernel_rfl) lo A args ha
 simp only [es, List.mem_cons, List.not_mem_nil, or_false] at he
 rcases he with rfl | rfl | rfl | rfl | rfl | rfl | rfl | rfl | rfl | rfl | rfl | rfl | rfl | rfl | rfl | rfl | rfl | rfl
 ·exact zIg σ
 ·exact zIh σ
 ·exact zIi σ
 ·exact zIj σ
 ·exact zIk σ
 ·exact zIl σ
 ·exact zIm σ
 ·exact zIn σ
 ·exact zIo σ
 ·exact zIp σ
 ·exact zFq σ
 ·exact absurd rfl hne
 ·exact zFr σ
 ·exact zFs σ
 ·exact zFt σ
 ·exact zFu σ
 ·exact zFv σ
 ·exact zFw σ
end Tryz.Bd
def Tryz.Bd.tab : List (Nat × Nat) := [(100, 72), (112, 76)]
def He (tab : List (Nat × Nat)) : Gv := fun _ A xs => match xs with
 | [.it .u8 (.ofNat b)] => ob (lk b tab) fun g => some (.fn (.func g) [] [], A)
 | _ => none
where lk : Nat -> List (Nat × Nat) -> Option Nat
 | _, [] => none
 | b, p :: r => cnd (Nat.beq b p.1) (some p.2) (lk b r)
theorem Kw {b g : Nat} : ∀ {l : List (Nat × Nat)}, He.lk b l = some g -> (b, g) ∈ l
 | p :: r, h => by
  unfold He.lk cnd at h
  split at h
  ·rename_i hc
   simp only [Option.some.injEq] at h
   have := Nat.eq_of_beq_eq_true hc
   subst this h
   exact .head _
  ·exact .tail _ (Kw h)
theorem Tryz.bdoes_ok (lo : Nat) (A : W) (args : List AV) (v : AV) (A' : W) (h : He Tryz.Bd.tab lo A args = some (v, A')) : bI Tryz.prog lo 38 args A (.ret v) A' := by
 unfold He at h
 split at h
 ·rename_i b
  replace h := aA h; obtain ⟨g, hg, h⟩ := h
  simp only [Option.some.injEq, Prod.mk.injEq] at h
  obtain ⟨rfl, rfl⟩ := h
  have hm := Kw hg
  simp only [Tryz.Bd.tab, List.mem_cons, Prod.mk.injEq, List.not_mem_nil, or_false] at hm
  rcases hm with ⟨rfl, rfl⟩ | ⟨rfl, rfl⟩
  ·exact Tryz.Bd.d100 lo A _ rfl
  ·exact Tryz.Bd.d112 lo A _ rfl
 ·cases h
end Go.Proofs
