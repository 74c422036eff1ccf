/- Part of a proof over this seat: a library of my own, and what it says of this seat. No statement is proved here. -/
import Derived.Test.YtfpipcafiocdoaaGreatDoorPartBJ
import Derived.Test.YtfpipcafiocdoaaGreatDoorPartBK
import Derived.KernelRfl
import Derived.Test.YtfpipcafiocdoaaGreatDoorPartAJ
import Derived.Test.YtfpipcafiocdoaaGreatDoorPartBA
namespace Go.Dec
open Go.Proofs Go.RowKit Go.Sort Go.Lib
abbrev Bq : List Ty := [.str, .str]
abbrev Br : List Ty := [.str, .str, .bool]
abbrev iW : List Ty := [.str, .int .u8]
abbrev iX : List Ty := [.int .i64]
abbrev oD : List Ty := [.str, .str, .str]
abbrev oF : List Ty := [.str]
theorem zBg {w w' : World} (h : Below w.heap.size w w') : Keep (fun _ _ => False) w w' := Keep.nA (M := fun _ => False) h.size (fun b hb _ => h.block b hb) (fun _ _ h => h)
theorem Eh {w : World} (hG : Glob Tryz.prog w) : ∃ m : Int, w.cell? ⟨0, 0, none⟩ = some (.int .i64 m) :=
 hG 0 (Tryz.prog.globals[0]'(by decide +kernel)) (by rw [Array.getElem?_eq_getElem]) (.int .i64) (by kernel_rfl)
theorem Gq (n : Nat) : Pure Tryz.prog 29 Bq Br (strings_Cut n) := by
 refine ⟨by kernel_rfl, fun x y hF w N xs hG _ hx => ?_⟩
 obtain ⟨hc, hy⟩ := jP hF
 have hc := of_decide_eq_true hc
 obtain rfl := Option.some.inj hy
 obtain ⟨u, us, rfl, h1, v, rfl, h2⟩ := hx
 simp only [Ty.fT, Ty.isAgg, Bool.false_eq_true, if_false, Ty.Rel, List.cons.injEq, and_true] at h1 h2
 subst h1 h2
 obtain ⟨m, hm⟩ := Eh hG
 refine (Tryz.strings_Cut _ _ m w (by simpa [ByteArray.size] using hc) hm).mono ?_
 rintro e w' ⟨rfl, k, rfl⟩
 refine ⟨[_, _, _], rfl, rfl, rfl, rfl, Keep.nA (M := fun _ => False) (Nat.le_refl _) (fun _ _ _ => rfl) (fun _ _ h => h), ⟨_, _, rfl, ?_, _, _, rfl, ?_, _, rfl, ?_⟩⟩ <;> simp [Ty.fT, Ty.isAgg, Ty.Rel]
theorem jD (n : Nat) : Pure Tryz.prog 28 iW iX (strings_IndexByte n) := by
 refine ⟨by kernel_rfl, fun x y hF w N xs hG _ hx => ?_⟩
 obtain rfl := Option.some.inj hF
 obtain ⟨u, us, rfl, h1, v, rfl, h2⟩ := hx
 simp only [Ty.fT, Ty.isAgg, Bool.false_eq_true, if_false, Ty.Rel, List.cons.injEq, and_true] at h1 h2
 subst h1 h2
 refine (Tryz.strings_IndexByte _ _ w).mono ?_
 rintro e w' ⟨rfl, rfl⟩
 exact ⟨[_], rfl, rfl, rfl, rfl, Keep.refl _ _, _, rfl, by simp [Ty.fT, Ty.isAgg, Ty.Rel]⟩
theorem uK (n : Nat) : Pure Tryz.prog 33 oD oF (strings_ReplaceAll n) := by
 refine ⟨by kernel_rfl, fun x y hF w N vs hG _ hx => ?_⟩
 obtain ⟨s, o, new⟩ := x
 match o, hF with
 | [o], hF =>
  obtain ⟨hc, hy⟩ := jP hF
  obtain rfl := Option.some.inj hy
  simp only [Bool.and_eq_true] at hc
  have hc1 : s.length <= 1000000 := Nat.le_of_ble_eq_true hc.1
  have hc2 : new.length <= 1000 := Nat.le_of_ble_eq_true hc.2
  obtain ⟨u, us, rfl, h1, v, vs, rfl, h2, z, rfl, h3⟩ := hx
  simp only [Ty.fT, Ty.isAgg, Bool.false_eq_true, if_false, Ty.Rel, List.cons.injEq, and_true] at h1 h2 h3
  subst h1 h2 h3
  obtain ⟨m, hm⟩ := Eh hG
  have hcnt := Go.Lib.countB_mul_le (⟨[o].toArray⟩ : ByteArray) (by simp [ByteArray.size]) _ (⟨s.toArray⟩ : ByteArray) (Nat.le_refl _)
  have hs1 : (⟨s.toArray⟩ : ByteArray).size = s.length := by simp [ByteArray.size]
  have ho1 : (⟨[o].toArray⟩ : ByteArray).size = 1 := by simp [ByteArray.size]
  have hn1 : (⟨new.toArray⟩ : ByteArray).size = new.length := by simp [ByteArray.size]
  rw [hs1, ho1, Nat.mul_one] at hcnt
  have hmul : Go.Lib.countB (⟨s.toArray⟩ : ByteArray) ⟨[o].toArray⟩ * new.length <= 1000000 * 1000 := Nat.mul_le_mul (by omega) hc2
  refine (Tryz.strings_ReplaceAll _ _ _ m w (by rw [hs1]; omega) hm (by rw [ho1]; omega) (by rw [hs1, hn1]; omega)).mono ?_
  rintro e w' ⟨rfl, hb⟩
  refine ⟨[_], rfl, hb.os, hb.tape, hb.output, zBg hb, _, rfl, ?_⟩
  have := Mg o new s
  simp [Ty.fT, Ty.isAgg, Ty.Rel, this]
end Go.Dec
namespace Go.Dec
set_option linter.unusedVariables false
def fJ (n : Nat) (x : Bool × List (List UInt8) × List (Int) × Unit) : Option (Bool × List (List UInt8) × List (Int) × Unit) :=
 let b1 : Bool := x.1
 let zGe : List (List UInt8) := x.2.1
 let lW : List (Int) := x.2.2.1
 br b1 (
  chk (Nat.ble ((zGe.length + ([gN lW] : List (List UInt8)).length) * 16) room) (
   some (false, zGe ++ [gN lW], lW, ()))) (
  some (false, zGe, lW, ()))
def bS (n : Nat) (x : Bool × Int × List (List UInt8) × List (Int) × Unit) : Option (Bool × Int × List (List UInt8) × List (Int) × Unit) :=
 let b1 : Bool := x.1
 let b2 : Int := x.2.1
 let lW : List (List UInt8) := x.2.2.1
 let nY : List (Int) := x.2.2.2.1
 br (!b1) (
  let v5 : Int := ((lW.length : Nat) : Int)
  br (v5 == 0) (
   chk (Nat.ble ((nY.length + ([b2] : List (Int)).length) * 8) room) (
    some (true, b2, lW, nY ++ [b2], ()))) (
   some (true, b2, lW, nY, ()))) (
  some (true, b2, lW, nY, ()))
def zR (n : Nat) (g0 : List UInt8 × Int × List (Int) × Unit -> Option (List (Int) × Int × Int)) (x1 : List UInt8 × Int × List (Int) × Unit) : Option (List (Int) × Int × Int) :=
 let s_2 : List UInt8 := x1.1
 let i_3 : Int := x1.2.1
 let nY : List (Int) := x1.2.2.1
 br (decide (i_3 < (s_2.length : Int))) (
  chk (inB i_3 s_2.length) (
   let v5 : Int := ((bH 0 s_2 i_3).toNat : Int)
   br (v5 == 34) (
    let v6 : Int := IntKind.wrap .i64 (i_3 + 1)
    some (nY, v6, (-1))) (
    ob (strings_IndexByte n ([36, 96], v5)) fun y7 =>
    br (decide (y7 ≥ 0)) (
     some ([], 0, i_3)) (
     br (v5 == 92) (
      let v8 : Int := IntKind.wrap .i64 (i_3 + 1)
      br (decide (v8 < (s_2.length : Int))) (
       let v9 : Int := IntKind.wrap .i64 (i_3 + 1)
       chk (inB v9 s_2.length) (
        let v10 : Int := ((bH 0 s_2 v9).toNat : Int)
        ob (strings_IndexByte n ([36, 34, 92, 96], v10)) fun y11 =>
        br (decide (y11 ≥ 0)) (
         let v12 : Int := IntKind.wrap .i64 (i_3 + 1)
         chk (inB v12 s_2.length) (
          let v13 : Int := ((bH 0 s_2 v12).toNat : Int)
          chk (Nat.ble ((nY.length + ([v13] : List (Int)).length) * 1) room) (
           let v14 : Int := IntKind.wrap .i64 (v12 + 1)
           g0 (s_2, v14, nY ++ [v13], ())))) (
         chk (inB i_3 s_2.length) (
          let v15 : Int := ((bH 0 s_2 i_3).toNat : Int)
          chk (Nat.ble ((nY.length + ([v15] : List (Int)).length) * 1) room) (
           let v16 : Int := IntKind.wrap .i64 (i_3 + 1)
           g0 (s_2, v16, nY ++ [v15], ())))))) (
       chk (inB i_3 s_2.length) (
        let v17 : Int := ((bH 0 s_2 i_3).toNat : Int)
        chk (Nat.ble ((nY.length + ([v17] : List (Int)).length) * 1) room) (
         let v18 : Int := IntKind.wrap .i64 (i_3 + 1)
         g0 (s_2, v18, nY ++ [v17], ()))))) (
      chk (inB i_3 s_2.length) (
       let v19 : Int := ((bH 0 s_2 i_3).toNat : Int)
       chk (Nat.ble ((nY.length + ([v19] : List (Int)).length) * 1) room) (
        let v20 : Int := IntKind.wrap .i64 (i_3 + 1)
        g0 (s_2, v20, nY ++ [v19], ())))))))) (
  some ([], 0, (-2)))
def rA (n : Nat) (x : List UInt8) : Option (List (Int) × Int × Int) :=
 let s_0 : List UInt8 := x
 fix (zR n) n (s_0, 0, [], ())
def qU (n : Nat) (g0 : List UInt8 × List (List (List UInt8)) × Bool × Int × List (List UInt8) × List (Int) × List (Int) × Unit -> Option (List (List (List UInt8)) × Int × Int)) (x50 : List UInt8 × List (List (List UInt8)) × Bool × Int × List (List UInt8) × List (Int) × List (Int) × Unit) : Option (List (List (List UInt8)) × Int × Int) :=
 let zGf : List UInt8 := x50.1
 let zRp : List (List (List UInt8)) := x50.2.1
 let b53 : Bool := x50.2.2.1
 let b54 : Int := x50.2.2.2.1
 let zRq : List (List UInt8) := x50.2.2.2.2.1
 let zRr : List (Int) := x50.2.2.2.2.2.1
 let zHb : List (Int) := x50.2.2.2.2.2.2.1
 ob (bS n (b53, b54, zRq, zRr, ())) fun y58 =>
 let v59 : Int := IntKind.wrap .i64 (y58.2.1 + 1)
 chk (inB v59 zGf.length) (
  let v60 : Int := ((bH 0 zGf v59).toNat : Int)
  chk (Nat.ble ((zHb.length + ([v60] : List (Int)).length) * 1) room) (
   let v61 : Int := IntKind.wrap .i64 (y58.2.1 + 2)
   g0 (zGf, zRp, y58.1, v61, y58.2.2.1, y58.2.2.2.1, zHb ++ [v60], ())))
def dX (n : Nat) (g0 : List UInt8 × List (List (List UInt8)) × Bool × Int × List (List UInt8) × List (Int) × List (Int) × Unit -> Option (List (List (List UInt8)) × Int × Int)) (x25 : List UInt8 × Int × Bool × List (List (List UInt8)) × Bool × Int × List (List UInt8) × List (Int) × List (Int) × Unit) : Option (List (List (List UInt8)) × Int × Int) :=
 let uJ : List UInt8 := x25.1
 let Uy : Int := x25.2.1
 let zPr : Bool := x25.2.2.1
 let Qt : List (List (List UInt8)) := x25.2.2.2.1
 let b30 : Bool := x25.2.2.2.2.1
 let b31 : Int := x25.2.2.2.2.2.1
 let Qu : List (List UInt8) := x25.2.2.2.2.2.2.1
 let Qv : List (Int) := x25.2.2.2.2.2.2.2.1
 let yZ : List (Int) := x25.2.2.2.2.2.2.2.2.1
 br zPr (
  some ([], b31, 210)) (
  br (Uy == 39) (
   let v35 : Int := IntKind.wrap .i64 (b31 + 1)
   chk ((decide (0 <= v35) && decide (v35 <= (uJ.length : Int)))) (
    ob (strings_Cut n (uJ.drop v35.toNat, [39])) fun y36 =>
    br (!y36.2.2) (
     some ([], b31, 210)) (
     ob (bS n (b30, b31, Qu, Qv, ())) fun y37 =>
     chk (Nat.ble ((yZ.length + y36.1.length) * 1) room) (
      let v38 : Int := IntKind.wrap .i64 ((y36.1.length : Int) + 2)
      let v39 : Int := IntKind.wrap .i64 (y37.2.1 + v38)
      g0 (uJ, Qt, y37.1, v39, y37.2.2.1, y37.2.2.2.1, yZ ++ aI y36.1, ()))))) (
   br (Uy == 34) (
    let v40 : Int := IntKind.wrap .i64 (b31 + 1)
    chk ((decide (0 <= v40) && decide (v40 <= (uJ.length : Int)))) (
     ob (rA n (uJ.drop v40.toNat)) fun y41 =>
     br (y41.2.1 == 0) (
      br (decide (y41.2.2 ≥ 0)) (
       let v42 : Int := IntKind.wrap .i64 (1 + y41.2.2)
       let v43 : Int := IntKind.wrap .i64 (b31 + v42)
       some ([], v43, 210)) (
       some ([], b31, 210))) (
      ob (bS n (b30, b31, Qu, Qv, ())) fun y44 =>
      chk (Nat.ble ((yZ.length + y41.1.length) * 1) room) (
       let v45 : Int := IntKind.wrap .i64 (y41.2.1 + 1)
       let v46 : Int := IntKind.wrap .i64 (y44.2.1 + v45)
       g0 (uJ, Qt, y44.1, v46, y44.2.2.1, y44.2.2.2.1, yZ ++ y41.1, ()))))) (
    br (Uy == 92) (
     let v47 : Int := IntKind.wrap .i64 (b31 + 1)
     br (v47 == (uJ.length : Int)) (
      some ([], b31, 210)) (
      let v48 : Int := IntKind.wrap .i64 (b31 + 1)
      chk (inB v48 uJ.length) (
       let v49 : Int := ((bH 0 uJ v48).toNat : Int)
       br (v49 == 10) (
        some ([], b31, 210)) (
        jn (qU n g0) (uJ, Qt, b30, b31, Qu, Qv, yZ, ()))))) (
     ob (bS n (b30, b31, Qu, Qv, ())) fun y62 =>
     chk (Nat.ble ((yZ.length + ([Uy] : List (Int)).length) * 1) room) (
      let v63 : Int := IntKind.wrap .i64 (y62.2.1 + 1)
      g0 (uJ, Qt, y62.1, v63, y62.2.2.1, y62.2.2.2.1, yZ ++ [Uy], ()))))))
def dG (n : Nat) (g0 : List UInt8 × List (List (List UInt8)) × Bool × Int × List (List UInt8) × List (Int) × List (Int) × Unit -> Option (List (List (List UInt8)) × Int × Int)) (x10 : List UInt8 × Int × Bool × List (List (List UInt8)) × Bool × Int × List (List UInt8) × List (Int) × List (Int) × Unit) : Option (List (List (List UInt8)) × Int × Int) :=
 let Uz : List UInt8 := x10.1
 let Gr : Int := x10.2.1
 let zPs : Bool := x10.2.2.1
 let Dh : List (List (List UInt8)) := x10.2.2.2.1
 let b15 : Bool := x10.2.2.2.2.1
 let b16 : Int := x10.2.2.2.2.2.1
 let Ka : List (List UInt8) := x10.2.2.2.2.2.2.1
 let Kc : List (Int) := x10.2.2.2.2.2.2.2.1
 let Ke : List (Int) := x10.2.2.2.2.2.2.2.2.1
 br zPs (
  ob (fJ n (b15, Ka, Ke, ())) fun y20 =>
  let v21 : Int := IntKind.wrap .i64 (b16 + 1)
  g0 (Uz, Dh, y20.1, v21, y20.2.1, Kc, [], ())) (
  br (Gr == 124) (
   ob (fJ n (b15, Ka, Ke, ())) fun y22 =>
   let v23 : Int := ((y22.2.1.length : Nat) : Int)
   br (v23 == 0) (
    some ([], b16, 210)) (
    chk (Nat.ble ((Dh.length + ([y22.2.1] : List (List (List UInt8))).length) * 24) room) (
     let v24 : Int := IntKind.wrap .i64 (b16 + 1)
     g0 (Uz, Dh ++ [y22.2.1], y22.1, v24, [], Kc, [], ())))) (
   br (Gr == 35) (
    br (!b15) (
     jn (dX n g0) (Uz, Gr, (!b15), Dh, b15, b16, Ka, Kc, Ke, ())) (
     ob (strings_IndexByte n ([10, 59, 38, 60, 62, 40, 41, 36, 42, 63, 91, 96], Gr)) fun y64 =>
     jn (dX n g0) (Uz, Gr, (decide (y64 ≥ 0)), Dh, b15, b16, Ka, Kc, Ke, ()))) (
    ob (strings_IndexByte n ([10, 59, 38, 60, 62, 40, 41, 36, 42, 63, 91, 96], Gr)) fun y65 =>
    jn (dX n g0) (Uz, Gr, (decide (y65 ≥ 0)), Dh, b15, b16, Ka, Kc, Ke, ()))))
def gF (n : Nat) (g1 : Int × Int × List (List (List UInt8)) × Int × List (Int) × Unit -> Option (List (List (List UInt8)) × Int × Int)) (x73 : Int × Int × List (List (List UInt8)) × Int × List (Int) × Unit) : Option (List (List (List UInt8)) × Int × Int) :=
 let Xr : Int := x73.1
 let nK : Int := x73.2.1
 let zA : List (List (List UInt8)) := x73.2.2.1
 let b77 : Int := x73.2.2.2.1
 let Di : List (Int) := x73.2.2.2.2.1
 br (decide (nK < Xr)) (
  chk ((inB nK (zA.length) && decide (0 + (zA.length) <= zA.length))) (
   chk (decide (0 + nK.toNat < zA.length)) (
    let v79 : List (List UInt8) := zA.getD (0 + nK.toNat) (Ty.dflt (.slice .str))
    chk (inB 0 v79.length) (
     let v80 : List UInt8 := bH (Ty.dflt .str) v79 0
     br (!(v80 == [115, 101, 100])) (
      chk ((inB nK (Di.length) && decide (0 + (Di.length) <= Di.length))) (
       chk (decide (0 + nK.toNat < Di.length)) (
        let v81 : Int := Di.getD (0 + nK.toNat) (Ty.dflt (.int .i64))
        some ([], v81, 210)))) (
      let v82 : Int := IntKind.wrap .i64 (nK + 1)
      g1 (Xr, v82, zA, b77, Di, ())))))) (
  some (zA, 0, 0))
def iY (n : Nat) (x68 : List (List (List UInt8)) × Int × List (Int) × Unit) : Option (List (List (List UInt8)) × Int × Int) :=
 let zHc : List (List (List UInt8)) := x68.1
 let b70 : Int := x68.2.1
 let zRs : List (Int) := x68.2.2.1
 let v72 : Int := ((zHc.length : Nat) : Int)
 fix (gF n) n (v72, 0, zHc, b70, zRs, ())
def aU (n : Nat) (g0 : List UInt8 × List (List (List UInt8)) × Bool × Int × List (List UInt8) × List (Int) × List (Int) × Unit -> Option (List (List (List UInt8)) × Int × Int)) (x1 : List UInt8 × List (List (List UInt8)) × Bool × Int × List (List UInt8) × List (Int) × List (Int) × Unit) : Option (List (List (List UInt8)) × Int × Int) :=
 let s_2 : List UInt8 := x1.1
 let lW : List (List (List UInt8)) := x1.2.1
 let b4 : Bool := x1.2.2.1
 let b5 : Int := x1.2.2.2.1
 let zGg : List (List UInt8) := x1.2.2.2.2.1
 let zBh : List (Int) := x1.2.2.2.2.2.1
 let zGh : List (Int) := x1.2.2.2.2.2.2.1
 br (decide (b5 < (s_2.length : Int))) (
  chk (inB b5 s_2.length) (
   let v9 : Int := ((bH 0 s_2 b5).toNat : Int)
   br (v9 == 32) (
    jn (dG n g0) (s_2, v9, true, lW, b4, b5, zGg, zBh, zGh, ())) (
    jn (dG n g0) (s_2, v9, (v9 == 9), lW, b4, b5, zGg, zBh, zGh, ())))) (
  ob (fJ n (b4, zGg, zGh, ())) fun y66 =>
  let v67 : Int := ((y66.2.1.length : Nat) : Int)
  br (decide (v67 > 0)) (
   chk (Nat.ble ((lW.length + ([y66.2.1] : List (List (List UInt8))).length) * 24) room) (
    jn (iY n) (lW ++ [y66.2.1], b5, zBh, ()))) (
   let v83 : Int := ((lW.length : Nat) : Int)
   br (decide (v83 > 0)) (
    some ([], b5, 210)) (
    jn (iY n) (lW, b5, zBh, ()))))
def kY (n : Nat) (x : List UInt8) : Option (List (List (List UInt8)) × Int × Int) :=
 let s_0 : List UInt8 := x
 fix (aU n) n (s_0, [], false, 0, [], [], [], ())
end Go.Dec
namespace Go.Dec
set_option linter.unusedSimpArgs false
theorem qG {ρ α : Type} (f : α -> Option ρ) (x : α) : jn f x = f x := rfl
theorem Pk {n : Nat} {inn : Bool} {stage : List (List UInt8)} {word : List Int} (h : stage.length <= 1000000) : fJ n (inn, stage, word, ()) = some (false, (if inn = true then stage ++ [gN word] else stage), word, ()) := by
 unfold fJ
 simp only
 cases inn with
 | false => simp
 | true =>
  rw [zLo, bE (by simp [room]; omega)]
  simp
theorem Bu {n : Nat} {inn : Bool} {p : Int} {stage : List (List UInt8)} {beg : List Int} (h : beg.length <= 1000000) : bS n (inn, p, stage, beg, ()) = some (true, p, stage, (if inn = false ∧ stage = [] then beg ++ [p] else beg), ()) := by
 unfold bS
 simp only
 cases inn with
 | true => simp
 | false =>
  cases stage with
  | nil =>
   rw [eX (by simp), eX (by simp), bE (by simp [room]; omega)]
   simp
  | cons a l =>
   rw [eX (by simp), bP (by simp; omega)]
   simp
theorem zPt {n : Nat} {out : List (List (List UInt8))} {beg : List Int} {b : Int} (hl : out.length <= 1000001) (hb : out.length <= beg.length) (hne : ∀ l ∈ out, l ≠ []) : ∀ (q p : List (List (List UInt8))) (m : Nat), out = p ++ q -> q.length < m ->
  (∃ r, fix (gF n) m ((out.length : Int), (p.length : Int), out, b, beg, ()) = some r) ∧
  ((∀ l ∈ q, ∃ r, l = [115, 101, 100] :: r) -> fix (gF n) m ((out.length : Int), (p.length : Int), out, b, beg, ()) = some (out, 0, 0)) := by
 intro q
 induction q with
 | nil =>
  intro p m hp hm
  have hp : p = out := by simpa using hp.symm
  subst hp
  rw [wI (by omega), gF]
  simp only
  rw [bP (by simp)]
  exact ⟨⟨_, rfl⟩, fun _ => rfl⟩
 | cons l q ih =>
  intro p m hp hm
  have hm' : q.length + 1 < m := hm
  have hlen : out.length = p.length + q.length + 1 := by rw [hp]; simp; omega
  obtain ⟨a, l', rfl⟩ := List.exists_cons_of_ne_nil (hne l (by rw [hp]; simp))
  have hg : out.getD (0 + (p.length : Int).toNat) (Ty.dflt (.slice .str)) = a :: l' := by
   rw [hp]; simp [List.getD_eq_getElem?_getD]
  have ha : bH (Ty.dflt .str) (a :: l') 0 = a := by simp [bH]
  have hi := ih (p ++ [a :: l']) (m - 1) (by rw [hp]; simp) (by omega)
  rw [show ((p ++ [a :: l']).length : Int) = (p.length : Int) + 1 by simp] at hi
  rw [wI (by omega), gF]
  simp only
  rw [eX (decide_eq_true (by omega)), bE (by rw [Fa (by omega)]; simp), bE (by simp; omega)]
  simp only [hg, ha]
  rw [bE (by simp [inB])]
  by_cases h : a = [115, 101, 100]
  ·subst h
   rw [bP (by simp), qA (by omega) (by omega)]
   exact ⟨hi.1, fun hall => hi.2 fun l hl => hall l (List.mem_cons_of_mem _ hl)⟩
  ·rw [eX (by simpa using h), bE (by rw [Fa (by omega)]; simp), bE (by simp; omega)]
   exact ⟨⟨_, rfl⟩, fun hall => by obtain ⟨r, hr⟩ := hall _ List.mem_cons_self; cases hr; exact absurd rfl h⟩
theorem zKd {n : Nat} {out : List (List (List UInt8))} {beg : List Int} {b : Int} (hl : out.length <= 1000001) (hn : out.length < n) (hb : out.length <= beg.length) (hs : ∀ l ∈ out, ∃ r, l = [115, 101, 100] :: r) : iY n (out, b, beg, ()) = some (out, 0, 0) :=
 (zPt hl hb (fun l hl => by obtain ⟨r, rfl⟩ := hs l hl; simp) out [] n rfl hn).2 hs
theorem Gs (n : Nat) (s : List UInt8) (c : Int) : strings_IndexByte n (s, c) = some (Go.Lib.indexByte s c.toNat.toUInt8) := rfl
def lX (o : UInt8) : List UInt8 -> List UInt8 × List UInt8 × Bool
 | [] => ([], [], false)
 | b :: r => if b = o then ([], r, true) else (b :: (lX o r).1, (lX o r).2.1, (lX o r).2.2)
theorem zHd (o : UInt8) : ∀ s : List UInt8, Go.Lib.cut s [o] = lX o s
 | [] => by simp [Go.Lib.cut, Go.Lib.index, lX]
 | b :: r => by
  have ih := zHd o r
  have hge := Go.Lib.index_ge r [o]
  by_cases hb : b = o
  ·subst hb
   have hx : Go.Lib.index ((b : UInt8) :: r) [b] = 0 := by simp [Go.Lib.index]
   simp [Go.Lib.cut, lX, hx]
  ·have h1 : ([o] : List UInt8).isPrefixOf (b :: r) = false := by simp [List.isPrefixOf, Ne.symm hb]
   have hx : Go.Lib.index (b :: r) [o] = if Go.Lib.index r [o] = -1 then -1 else Go.Lib.index r [o] + 1 := by simp [Go.Lib.index, h1]
   unfold Go.Lib.cut at *
   simp only [lX, if_neg hb, <- ih, hx]
   by_cases hi : Go.Lib.index r [o] = -1
   ·simp [hi]
   ·have h2 : 0 <= Go.Lib.index r [o] := by omega
    have h3 : 0 <= Go.Lib.index r [o] + 1 := by omega
    have h4 : (Go.Lib.index r [o] + 1).toNat = (Go.Lib.index r [o]).toNat + 1 := by omega
    simp [hi, h2, h3, h4]
theorem cutB_hit {o : UInt8} : ∀ {s a r : List UInt8}, lX o s = (a, r, true) -> s = a ++ o :: r ∧ o ∉ a
 | [], _, _, h => by simp [lX] at h
 | b :: s, a, r, h => by
  unfold lX at h
  split at h
  ·rename_i hb
   simp only [Prod.mk.injEq, and_true] at h
   obtain ⟨rfl, rfl⟩ := h
   simp [hb]
  ·rename_i hb
   simp only [Prod.mk.injEq] at h
   obtain ⟨rfl, rfl, h3⟩ := h
   have hc : lX o s = ((lX o s).1, (lX o s).2.1, true) := by rw [<- h3]
   obtain ⟨h1, h2⟩ := cutB_hit hc
   exact ⟨by rw [List.cons_append, <- h1], by simp [Ne.symm hb, h2]⟩
theorem Xt {o : UInt8} : ∀ {a : List UInt8} (r : List UInt8), o ∉ a -> lX o (a ++ o :: r) = (a, r, true)
 | [], r, _ => by simp [lX]
 | b :: a, r, h => by
  have h1 : b ≠ o := fun e => h (by simp [e])
  have h2 : o ∉ a := fun e => h (by simp [e])
  simp [lX, h1, Xt r h2]
structure zUa (p : Nat) (out : List (List (List UInt8))) (inn : Bool) (stage : List (List UInt8)) (beg word : List Int) : Prop where
 lo : out.length <= p
 ls : stage.length <= p
 lb : beg.length <= p
 lw : word.length <= p
 ne : ∀ l ∈ out, l ≠ []
 zUb : beg.length = out.length + (if inn = true ∨ stage ≠ [] then 1 else 0)
def Bv (inn : Bool) (stage : List (List UInt8)) (word : List Int) : List (List UInt8) := if inn = true then stage ++ [gN word] else stage
def gZ (p : Int) (inn : Bool) (stage : List (List UInt8)) (beg : List Int) : List Int := if inn = false ∧ stage = [] then beg ++ [p] else beg
end Go.Dec
