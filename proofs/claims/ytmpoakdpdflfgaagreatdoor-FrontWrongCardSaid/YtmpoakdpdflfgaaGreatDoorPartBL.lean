/- Part of a proof over this seat: a library of my own, and what it says of this seat. No statement is proved here. -/
import Derived.Test.YtmpoakdpdflfgaaGreatDoorPartBJ
import Derived.Test.YtmpoakdpdflfgaaGreatDoorPartBK
import Derived.KernelRfl
import Derived.Test.YtmpoakdpdflfgaaGreatDoorPartAJ
import Derived.Test.YtmpoakdpdflfgaaGreatDoorPartBA
namespace Go.Dec
open Go.Proofs Go.RowKit Go.Sort Go.Lib
abbrev Dt : List Ty := [.str, .str]
abbrev Du : List Ty := [.str, .str, .bool]
abbrev kZ : List Ty := [.str, .int .u8]
abbrev lC : List Ty := [.int .i64]
theorem Yg {w : World} (hG : Glob Tryz.prog w) : ∃ m : Int, w.cell? ⟨0, 0, none⟩ = some (.int .i64 m) :=
 hG 0 (Tryz.prog.globals[0]'(by decide +kernel)) (by rw [Array.getElem?_eq_getElem]) (.int .i64) (by kernel_rfl)
theorem Iz (n : Nat) : Pure Tryz.prog 38 Dt Du (strings_Cut n) := by
 refine ⟨by kernel_rfl, fun x y hF w N xs hG _ hx => ?_⟩
 obtain ⟨hc, hy⟩ := kP hF
 have hc := of_decide_eq_true hc
 obtain rfl := Option.some.inj hy
 obtain ⟨u, us, rfl, h1, v, rfl, h2⟩ := hx
 simp only [Ty.iA, Ty.isAgg, Bool.false_eq_true, if_false, Ty.Rel, List.cons.injEq, and_true] at h1 h2
 subst h1 h2
 obtain ⟨m, hm⟩ := Yg hG
 refine (Tryz.strings_Cut _ _ m w (by simpa [ByteArray.size] using hc) hm).mono ?_
 rintro e w' ⟨rfl, k, rfl⟩
 refine ⟨[_, _, _], rfl, rfl, rfl, rfl, Keep.oV (M := fun _ => False) (Nat.le_refl _) (fun _ _ _ => rfl) (fun _ _ h => h), ⟨_, _, rfl, ?_, _, _, rfl, ?_, _, rfl, ?_⟩⟩ <;> simp [Ty.iA, Ty.isAgg, Ty.Rel]
theorem mI (n : Nat) : Pure Tryz.prog 37 kZ lC (strings_IndexByte n) := by
 refine ⟨by kernel_rfl, fun x y hF w N xs hG _ hx => ?_⟩
 obtain rfl := Option.some.inj hF
 obtain ⟨u, us, rfl, h1, v, rfl, h2⟩ := hx
 simp only [Ty.iA, Ty.isAgg, Bool.false_eq_true, if_false, Ty.Rel, List.cons.injEq, and_true] at h1 h2
 subst h1 h2
 refine (Tryz.strings_IndexByte _ _ w).mono ?_
 rintro e w' ⟨rfl, rfl⟩
 exact ⟨[_], rfl, rfl, rfl, rfl, Keep.refl _ _, _, rfl, by simp [Ty.iA, Ty.isAgg, Ty.Rel]⟩
end Go.Dec
namespace Go.Dec
set_option linter.unusedVariables false
def fK (n : Nat) (x : Bool × List (List UInt8) × List (Int) × Unit) : Option (Bool × List (List UInt8) × List (Int) × Unit) :=
 let b1 : Bool := x.1
 let Wu : List (List UInt8) := x.2.1
 let lY : List (Int) := x.2.2.1
 br b1 (
  chk (Nat.ble ((Wu.length + ([gP lY] : List (List UInt8)).length) * 16) room) (
   some (false, Wu ++ [gP lY], lY, ()))) (
  some (false, Wu, lY, ()))
def dF (n : Nat) (x : Bool × Int × List (List UInt8) × List (Int) × Unit) : Option (Bool × Int × List (List UInt8) × List (Int) × Unit) :=
 let b1 : Bool := x.1
 let b2 : Int := x.2.1
 let lY : List (List UInt8) := x.2.2.1
 let oK : List (Int) := x.2.2.2.1
 br (!b1) (
  let v5 : Int := ((lY.length : Nat) : Int)
  br (v5 == 0) (
   chk (Nat.ble ((oK.length + ([b2] : List (Int)).length) * 8) room) (
    some (true, b2, lY, oK ++ [b2], ()))) (
   some (true, b2, lY, oK, ()))) (
  some (true, b2, lY, oK, ()))
def bY (n : Nat) (g0 : List UInt8 × Int × List (Int) × Unit -> Option (List (Int) × Int × Int)) (x1 : List UInt8 × Int × List (Int) × Unit) : Option (List (Int) × Int × Int) :=
 let s_2 : List UInt8 := x1.1
 let i_3 : Int := x1.2.1
 let oK : List (Int) := x1.2.2.1
 br (decide (i_3 < (s_2.length : Int))) (
  chk (inB i_3 s_2.length) (
   let v5 : Int := ((bS 0 s_2 i_3).toNat : Int)
   br (v5 == 34) (
    let v6 : Int := IntKind.wrap .i64 (i_3 + 1)
    some (oK, v6, (-1))) (
    ob (strings_IndexByte n ([36, 96], v5)) fun y7 =>
    br (decide (y7 ≥ 0)) (
     some ([], 0, i_3)) (
     br (v5 == 92) (
      let v8 : Int := IntKind.wrap .i64 (i_3 + 1)
      br (decide (v8 < (s_2.length : Int))) (
       let v9 : Int := IntKind.wrap .i64 (i_3 + 1)
       chk (inB v9 s_2.length) (
        let v10 : Int := ((bS 0 s_2 v9).toNat : Int)
        ob (strings_IndexByte n ([36, 34, 92, 96], v10)) fun y11 =>
        br (decide (y11 ≥ 0)) (
         let v12 : Int := IntKind.wrap .i64 (i_3 + 1)
         chk (inB v12 s_2.length) (
          let v13 : Int := ((bS 0 s_2 v12).toNat : Int)
          chk (Nat.ble ((oK.length + ([v13] : List (Int)).length) * 1) room) (
           let v14 : Int := IntKind.wrap .i64 (v12 + 1)
           g0 (s_2, v14, oK ++ [v13], ())))) (
         chk (inB i_3 s_2.length) (
          let v15 : Int := ((bS 0 s_2 i_3).toNat : Int)
          chk (Nat.ble ((oK.length + ([v15] : List (Int)).length) * 1) room) (
           let v16 : Int := IntKind.wrap .i64 (i_3 + 1)
           g0 (s_2, v16, oK ++ [v15], ())))))) (
       chk (inB i_3 s_2.length) (
        let v17 : Int := ((bS 0 s_2 i_3).toNat : Int)
        chk (Nat.ble ((oK.length + ([v17] : List (Int)).length) * 1) room) (
         let v18 : Int := IntKind.wrap .i64 (i_3 + 1)
         g0 (s_2, v18, oK ++ [v17], ()))))) (
      chk (inB i_3 s_2.length) (
       let v19 : Int := ((bS 0 s_2 i_3).toNat : Int)
       chk (Nat.ble ((oK.length + ([v19] : List (Int)).length) * 1) room) (
        let v20 : Int := IntKind.wrap .i64 (i_3 + 1)
        g0 (s_2, v20, oK ++ [v19], ())))))))) (
  some ([], 0, (-2)))
def mU (n : Nat) (x : List UInt8) : Option (List (Int) × Int × Int) :=
 let s_0 : List UInt8 := x
 fix (bY n) n (s_0, 0, [], ())
def rJ (n : Nat) (g0 : List UInt8 × List (List (List UInt8)) × Bool × Int × List (List UInt8) × List (Int) × List (Int) × Unit -> Option (List (List (List UInt8)) × Int × Int)) (x50 : List UInt8 × List (List (List UInt8)) × Bool × Int × List (List UInt8) × List (Int) × List (Int) × Unit) : Option (List (List (List UInt8)) × Int × Int) :=
 let zHx : List UInt8 := x50.1
 let zPl : List (List (List UInt8)) := x50.2.1
 let b53 : Bool := x50.2.2.1
 let b54 : Int := x50.2.2.2.1
 let zPm : List (List UInt8) := x50.2.2.2.2.1
 let zPn : List (Int) := x50.2.2.2.2.2.1
 let zIs : List (Int) := x50.2.2.2.2.2.2.1
 ob (dF n (b53, b54, zPm, zPn, ())) fun y58 =>
 let v59 : Int := IntKind.wrap .i64 (y58.2.1 + 1)
 chk (inB v59 zHx.length) (
  let v60 : Int := ((bS 0 zHx v59).toNat : Int)
  chk (Nat.ble ((zIs.length + ([v60] : List (Int)).length) * 1) room) (
   let v61 : Int := IntKind.wrap .i64 (y58.2.1 + 2)
   g0 (zHx, zPl, y58.1, v61, y58.2.2.1, y58.2.2.2.1, zIs ++ [v60], ())))
def gF (n : Nat) (g0 : List UInt8 × List (List (List UInt8)) × Bool × Int × List (List UInt8) × List (Int) × List (Int) × Unit -> Option (List (List (List UInt8)) × Int × Int)) (x25 : List UInt8 × Int × Bool × List (List (List UInt8)) × Bool × Int × List (List UInt8) × List (Int) × List (Int) × Unit) : Option (List (List (List UInt8)) × Int × Int) :=
 let vG : List UInt8 := x25.1
 let Wv : Int := x25.2.1
 let zOo : Bool := x25.2.2.1
 let Sm : List (List (List UInt8)) := x25.2.2.2.1
 let b30 : Bool := x25.2.2.2.2.1
 let b31 : Int := x25.2.2.2.2.2.1
 let Sn : List (List UInt8) := x25.2.2.2.2.2.2.1
 let Sq : List (Int) := x25.2.2.2.2.2.2.2.1
 let Ah : List (Int) := x25.2.2.2.2.2.2.2.2.1
 br zOo (
  some ([], b31, 210)) (
  br (Wv == 39) (
   let v35 : Int := IntKind.wrap .i64 (b31 + 1)
   chk ((decide (0 <= v35) && decide (v35 <= (vG.length : Int)))) (
    ob (strings_Cut n (vG.drop v35.toNat, [39])) fun y36 =>
    br (!y36.2.2) (
     some ([], b31, 210)) (
     ob (dF n (b30, b31, Sn, Sq, ())) fun y37 =>
     chk (Nat.ble ((Ah.length + y36.1.length) * 1) room) (
      let v38 : Int := IntKind.wrap .i64 ((y36.1.length : Int) + 2)
      let v39 : Int := IntKind.wrap .i64 (y37.2.1 + v38)
      g0 (vG, Sm, y37.1, v39, y37.2.2.1, y37.2.2.2.1, Ah ++ aX y36.1, ()))))) (
   br (Wv == 34) (
    let v40 : Int := IntKind.wrap .i64 (b31 + 1)
    chk ((decide (0 <= v40) && decide (v40 <= (vG.length : Int)))) (
     ob (mU n (vG.drop v40.toNat)) fun y41 =>
     br (y41.2.1 == 0) (
      br (decide (y41.2.2 ≥ 0)) (
       let v42 : Int := IntKind.wrap .i64 (1 + y41.2.2)
       let v43 : Int := IntKind.wrap .i64 (b31 + v42)
       some ([], v43, 210)) (
       some ([], b31, 210))) (
      ob (dF n (b30, b31, Sn, Sq, ())) fun y44 =>
      chk (Nat.ble ((Ah.length + y41.1.length) * 1) room) (
       let v45 : Int := IntKind.wrap .i64 (y41.2.1 + 1)
       let v46 : Int := IntKind.wrap .i64 (y44.2.1 + v45)
       g0 (vG, Sm, y44.1, v46, y44.2.2.1, y44.2.2.2.1, Ah ++ y41.1, ()))))) (
    br (Wv == 92) (
     let v47 : Int := IntKind.wrap .i64 (b31 + 1)
     br (v47 == (vG.length : Int)) (
      some ([], b31, 210)) (
      let v48 : Int := IntKind.wrap .i64 (b31 + 1)
      chk (inB v48 vG.length) (
       let v49 : Int := ((bS 0 vG v48).toNat : Int)
       br (v49 == 10) (
        some ([], b31, 210)) (
        jn (rJ n g0) (vG, Sm, b30, b31, Sn, Sq, Ah, ()))))) (
     ob (dF n (b30, b31, Sn, Sq, ())) fun y62 =>
     chk (Nat.ble ((Ah.length + ([Wv] : List (Int)).length) * 1) room) (
      let v63 : Int := IntKind.wrap .i64 (y62.2.1 + 1)
      g0 (vG, Sm, y62.1, v63, y62.2.2.1, y62.2.2.2.1, Ah ++ [Wv], ()))))))
def gG (n : Nat) (g0 : List UInt8 × List (List (List UInt8)) × Bool × Int × List (List UInt8) × List (Int) × List (Int) × Unit -> Option (List (List (List UInt8)) × Int × Int)) (x10 : List UInt8 × Int × Bool × List (List (List UInt8)) × Bool × Int × List (List UInt8) × List (Int) × List (Int) × Unit) : Option (List (List (List UInt8)) × Int × Int) :=
 let Ww : List UInt8 := x10.1
 let Ja : Int := x10.2.1
 let zOp : Bool := x10.2.2.1
 let Fa : List (List (List UInt8)) := x10.2.2.2.1
 let b15 : Bool := x10.2.2.2.2.1
 let b16 : Int := x10.2.2.2.2.2.1
 let Mc : List (List UInt8) := x10.2.2.2.2.2.2.1
 let Me : List (Int) := x10.2.2.2.2.2.2.2.1
 let Mf : List (Int) := x10.2.2.2.2.2.2.2.2.1
 br zOp (
  ob (fK n (b15, Mc, Mf, ())) fun y20 =>
  let v21 : Int := IntKind.wrap .i64 (b16 + 1)
  g0 (Ww, Fa, y20.1, v21, y20.2.1, Me, [], ())) (
  br (Ja == 124) (
   ob (fK n (b15, Mc, Mf, ())) fun y22 =>
   let v23 : Int := ((y22.2.1.length : Nat) : Int)
   br (v23 == 0) (
    some ([], b16, 210)) (
    chk (Nat.ble ((Fa.length + ([y22.2.1] : List (List (List UInt8))).length) * 24) room) (
     let v24 : Int := IntKind.wrap .i64 (b16 + 1)
     g0 (Ww, Fa ++ [y22.2.1], y22.1, v24, [], Me, [], ())))) (
   br (Ja == 35) (
    br (!b15) (
     jn (gF n g0) (Ww, Ja, (!b15), Fa, b15, b16, Mc, Me, Mf, ())) (
     ob (strings_IndexByte n ([10, 59, 38, 60, 62, 40, 41, 36, 42, 63, 91, 96], Ja)) fun y64 =>
     jn (gF n g0) (Ww, Ja, (decide (y64 ≥ 0)), Fa, b15, b16, Mc, Me, Mf, ()))) (
    ob (strings_IndexByte n ([10, 59, 38, 60, 62, 40, 41, 36, 42, 63, 91, 96], Ja)) fun y65 =>
    jn (gF n g0) (Ww, Ja, (decide (y65 ≥ 0)), Fa, b15, b16, Mc, Me, Mf, ()))))
def gH (n : Nat) (g1 : Int × Int × List (List (List UInt8)) × Int × List (Int) × Unit -> Option (List (List (List UInt8)) × Int × Int)) (x73 : Int × Int × List (List (List UInt8)) × Int × List (Int) × Unit) : Option (List (List (List UInt8)) × Int × Int) :=
 let Zl : Int := x73.1
 let nR : Int := x73.2.1
 let Ai : List (List (List UInt8)) := x73.2.2.1
 let b77 : Int := x73.2.2.2.1
 let Fb : List (Int) := x73.2.2.2.2.1
 br (decide (nR < Zl)) (
  chk ((inB nR (Ai.length) && decide (0 + (Ai.length) <= Ai.length))) (
   chk (decide (0 + nR.toNat < Ai.length)) (
    let v79 : List (List UInt8) := Ai.getD (0 + nR.toNat) (Ty.dflt (.slice .str))
    chk (inB 0 v79.length) (
     let v80 : List UInt8 := bS (Ty.dflt .str) v79 0
     br (!(v80 == [115, 101, 100])) (
      chk ((inB nR (Fb.length) && decide (0 + (Fb.length) <= Fb.length))) (
       chk (decide (0 + nR.toNat < Fb.length)) (
        let v81 : Int := Fb.getD (0 + nR.toNat) (Ty.dflt (.int .i64))
        some ([], v81, 210)))) (
      let v82 : Int := IntKind.wrap .i64 (nR + 1)
      g1 (Zl, v82, Ai, b77, Fb, ())))))) (
  some (Ai, 0, 0))
def lD (n : Nat) (x68 : List (List (List UInt8)) × Int × List (Int) × Unit) : Option (List (List (List UInt8)) × Int × Int) :=
 let zIt : List (List (List UInt8)) := x68.1
 let b70 : Int := x68.2.1
 let zPo : List (Int) := x68.2.2.1
 let v72 : Int := ((zIt.length : Nat) : Int)
 fix (gH n) n (v72, 0, zIt, b70, zPo, ())
def bH (n : Nat) (g0 : List UInt8 × List (List (List UInt8)) × Bool × Int × List (List UInt8) × List (Int) × List (Int) × Unit -> Option (List (List (List UInt8)) × Int × Int)) (x1 : List UInt8 × List (List (List UInt8)) × Bool × Int × List (List UInt8) × List (Int) × List (Int) × Unit) : Option (List (List (List UInt8)) × Int × Int) :=
 let s_2 : List UInt8 := x1.1
 let lY : List (List (List UInt8)) := x1.2.1
 let b4 : Bool := x1.2.2.1
 let b5 : Int := x1.2.2.2.1
 let Od : List (List UInt8) := x1.2.2.2.2.1
 let Dv : List (Int) := x1.2.2.2.2.2.1
 let zHy : List (Int) := x1.2.2.2.2.2.2.1
 br (decide (b5 < (s_2.length : Int))) (
  chk (inB b5 s_2.length) (
   let v9 : Int := ((bS 0 s_2 b5).toNat : Int)
   br (v9 == 32) (
    jn (gG n g0) (s_2, v9, true, lY, b4, b5, Od, Dv, zHy, ())) (
    jn (gG n g0) (s_2, v9, (v9 == 9), lY, b4, b5, Od, Dv, zHy, ())))) (
  ob (fK n (b4, Od, zHy, ())) fun y66 =>
  let v67 : Int := ((y66.2.1.length : Nat) : Int)
  br (decide (v67 > 0)) (
   chk (Nat.ble ((lY.length + ([y66.2.1] : List (List (List UInt8))).length) * 24) room) (
    jn (lD n) (lY ++ [y66.2.1], b5, Dv, ()))) (
   let v83 : Int := ((lY.length : Nat) : Int)
   br (decide (v83 > 0)) (
    some ([], b5, 210)) (
    jn (lD n) (lY, b5, Dv, ()))))
def jN (n : Nat) (x : List UInt8) : Option (List (List (List UInt8)) × Int × Int) :=
 let s_0 : List UInt8 := x
 fix (bH n) n (s_0, [], false, 0, [], [], [], ())
end Go.Dec
namespace Go.Dec
set_option linter.unusedSimpArgs false
theorem Fe {ρ α : Type} (f : α -> Option ρ) (x : α) : jn f x = f x := rfl
theorem Dw {n : Nat} {inn : Bool} {stage : List (List UInt8)} {word : List Int} (h : stage.length <= 1000000) : fK n (inn, stage, word, ()) = some (false, (if inn = true then stage ++ [gP word] else stage), word, ()) := by
 unfold fK
 simp only
 cases inn with
 | false => simp
 | true =>
  rw [zGt, bV (by simp [room]; omega)]
  simp
theorem zFb {n : Nat} {inn : Bool} {p : Int} {stage : List (List UInt8)} {beg : List Int} (h : beg.length <= 1000000) : dF n (inn, p, stage, beg, ()) = some (true, p, stage, (if inn = false ∧ stage = [] then beg ++ [p] else beg), ()) := by
 unfold dF
 simp only
 cases inn with
 | true => simp
 | false =>
  cases stage with
  | nil =>
   rw [bL (by simp), bL (by simp), bV (by simp [room]; omega)]
   simp
  | cons a l =>
   rw [bL (by simp), bG (by simp; omega)]
   simp
theorem zOq {n : Nat} {out : List (List (List UInt8))} {beg : List Int} {b : Int} (hl : out.length <= 1000001) (hb : out.length <= beg.length) (hne : ∀ l ∈ out, l ≠ []) : ∀ (q p : List (List (List UInt8))) (m : Nat), out = p ++ q -> q.length < m ->
  (∃ r, fix (gH n) m ((out.length : Int), (p.length : Int), out, b, beg, ()) = some r) ∧
  ((∀ l ∈ q, ∃ r, l = [115, 101, 100] :: r) -> fix (gH n) m ((out.length : Int), (p.length : Int), out, b, beg, ()) = some (out, 0, 0)) := by
 intro q
 induction q with
 | nil =>
  intro p m hp hm
  have hp : p = out := by simpa using hp.symm
  subst hp
  rw [pX (by omega), gH]
  simp only
  rw [bG (by simp)]
  exact ⟨⟨_, rfl⟩, fun _ => rfl⟩
 | cons l q ih =>
  intro p m hp hm
  have hm' : q.length + 1 < m := hm
  have hlen : out.length = p.length + q.length + 1 := by rw [hp]; simp; omega
  obtain ⟨a, l', rfl⟩ := List.exists_cons_of_ne_nil (hne l (by rw [hp]; simp))
  have hg : out.getD (0 + (p.length : Int).toNat) (Ty.dflt (.slice .str)) = a :: l' := by
   rw [hp]; simp [List.getD_eq_getElem?_getD]
  have ha : bS (Ty.dflt .str) (a :: l') 0 = a := by simp [bS]
  have hi := ih (p ++ [a :: l']) (m - 1) (by rw [hp]; simp) (by omega)
  rw [show ((p ++ [a :: l']).length : Int) = (p.length : Int) + 1 by simp] at hi
  rw [pX (by omega), gH]
  simp only
  rw [bL (decide_eq_true (by omega)), bV (by rw [Ht (by omega)]; simp), bV (by simp; omega)]
  simp only [hg, ha]
  rw [bV (by simp [inB])]
  by_cases h : a = [115, 101, 100]
  ·subst h
   rw [bG (by simp), lQ (by omega) (by omega)]
   exact ⟨hi.1, fun hall => hi.2 fun l hl => hall l (List.mem_cons_of_mem _ hl)⟩
  ·rw [bL (by simpa using h), bV (by rw [Ht (by omega)]; simp), bV (by simp; omega)]
   exact ⟨⟨_, rfl⟩, fun hall => by obtain ⟨r, hr⟩ := hall _ List.mem_cons_self; cases hr; exact absurd rfl h⟩
theorem Zm {n : Nat} {out : List (List (List UInt8))} {beg : List Int} {b : Int} (hl : out.length <= 1000001) (hn : out.length < n) (hb : out.length <= beg.length) (hne : ∀ l ∈ out, l ≠ []) : ∃ r, lD n (out, b, beg, ()) = some r :=
 (zOq hl hb hne out [] n rfl hn).1
theorem Aj (n : Nat) (s : List UInt8) (c : Int) : strings_IndexByte n (s, c) = some (Go.Lib.indexByte s c.toNat.toUInt8) := rfl
theorem zFc {n : Nat} {s : List UInt8} (hs : s.length <= 1000000) : ∀ (k : Nat) (pre rest : List UInt8) (row : List Int) (m : Nat), s = pre ++ rest -> rest.length <= k -> k < m -> row.length <= pre.length ->
  ∃ b q w, fix (bY n) m (s, (pre.length : Int), row, ()) = some (b, q, w) ∧ (q = 0 ∨ ∃ q' : Nat, q = (q' : Int) ∧ 1 <= q' ∧ q' <= s.length ∧ b.length <= q') := by
 intro k
 induction k with
 | zero =>
  intro pre rest row m hp hk hm hr
  have hr0 : rest = [] := List.eq_nil_of_length_eq_zero (by omega)
  subst hr0
  have hp : pre = s := by simpa using hp.symm
  subst hp
  rw [pX (by omega), bY]
  simp only
  rw [bG (by simp)]
  exact ⟨_, _, _, rfl, .inl rfl⟩
 | succ k ih =>
  intro pre rest row m hp hk hm hr
  match rest with
  | [] =>
   have hp : pre = s := by simpa using hp.symm
   subst hp
   rw [pX (by omega), bY]
   simp only
   rw [bG (by simp)]
   exact ⟨_, _, _, rfl, .inl rfl⟩
  | c :: rest =>
   have hlen : s.length = pre.length + rest.length + 1 := by rw [hp]; simp; omega
   simp only [List.length_cons] at hk
   have one : ∀ (x : Int) , ∃ b q w, fix (bY n) (m - 1) (s, (pre.length : Int) + 1, row ++ [x], ()) = some (b, q, w) ∧ (q = 0 ∨ ∃ q' : Nat, q = (q' : Int) ∧ 1 <= q' ∧ q' <= s.length ∧ b.length <= q') := by
    intro x
    have hi := ih (pre ++ [c]) rest (row ++ [x]) (m - 1) (by rw [hp]; simp) (by omega) (by omega) (by simp; omega)
    rwa [show ((pre ++ [c]).length : Int) = (pre.length : Int) + 1 by simp] at hi
   rw [pX (by omega), bY]
   simp only
   rw [bL (decide_eq_true (by omega)), bV (Ht (by omega)), Dr hp, lQ (x := (pre.length : Int) + 1) (by omega) (by omega)]
   by_cases h1 : ((c.toNat : Int) == 34) = true
   ·rw [bL h1]
    exact ⟨_, _, _, rfl, .inr ⟨pre.length + 1, by omega, by omega, by omega, by omega⟩⟩
   ·rw [bG (by simpa using h1), Aj, iQ]
    by_cases h2 : decide (Go.Lib.indexByte [36, 96] (c.toNat : Int).toNat.toUInt8 ≥ 0) = true
    ·rw [bL h2]
     exact ⟨_, _, _, rfl, .inl rfl⟩
    ·rw [bG (by simpa using h2)]
     have last : ∃ b q w, (chk (inB (pre.length : Int) s.length) (chk (Nat.ble ((row.length + ([(c.toNat : Int)] : List Int).length) * 1) room) (fix (bY n) (m - 1) (s, (pre.length : Int) + 1, row ++ [(c.toNat : Int)], ())))) = some (b, q, w) ∧ (q = 0 ∨ ∃ q' : Nat, q = (q' : Int) ∧ 1 <= q' ∧ q' <= s.length ∧ b.length <= q') := by
      rw [bV (Ht (by omega)), bV (by simp [room]; omega)]
      exact one _
     by_cases h3 : ((c.toNat : Int) == 92) = true
     ·rw [bL h3]
      by_cases h4 : decide ((pre.length : Int) + 1 < (s.length : Int)) = true
      ·rw [bL h4]
       have h4' := of_decide_eq_true h4
       match rest, hp, hlen, hk, ih with
       | [], _, hlen, _, _ => simp only [List.length_nil] at hlen; omega
       | d :: rest, hp, hlen, hk, ih =>
        simp only [List.length_cons] at hk hlen
        have hp2 : s = (pre ++ [c]) ++ d :: rest := by rw [hp]; simp
        have hl2 : ((pre ++ [c]).length : Int) = (pre.length : Int) + 1 := by simp
        rw [<- hl2, bV (Ht (by simp; omega)), Dr hp2, Aj, iQ]
        by_cases h5 : decide (Go.Lib.indexByte [36, 34, 92, 96] (d.toNat : Int).toNat.toUInt8 ≥ 0) = true
        ·rw [bL h5, bV (Ht (by simp; omega)), bV (by simp [room]; omega), lQ (by omega) (by omega)]
         have hi := ih (pre ++ [c] ++ [d]) rest (row ++ [(d.toNat : Int)]) (m - 1) (by rw [hp]; simp) (by omega) (by omega) (by simp; omega)
         rwa [show ((pre ++ [c] ++ [d]).length : Int) = ((pre ++ [c]).length : Int) + 1 by simp; omega] at hi
        ·rw [bG (by simpa using h5), hl2]
         exact last
      ·rw [bG (by simpa using h4)]
       exact last
     ·rw [bG (by simpa using h3)]
      exact last
theorem zCv {n : Nat} {s : List UInt8} (hs : s.length <= 1000000) (hn : s.length < n) : ∃ b q w, mU n s = some (b, q, w) ∧ (q = 0 ∨ ∃ q' : Nat, q = (q' : Int) ∧ 1 <= q' ∧ q' <= s.length ∧ b.length <= q') :=
 zFc hs s.length [] s [] n rfl (Nat.le_refl _) hn (Nat.le_refl _)
def oL (o : UInt8) : List UInt8 -> List UInt8 × List UInt8 × Bool
 | [] => ([], [], false)
 | b :: r => if b = o then ([], r, true) else (b :: (oL o r).1, (oL o r).2.1, (oL o r).2.2)
theorem zIu (o : UInt8) : ∀ s : List UInt8, Go.Lib.cut s [o] = oL o s
 | [] => by simp [Go.Lib.cut, Go.Lib.index, oL]
 | b :: r => by
  have ih := zIu o r
  have hge := Go.Lib.index_ge r [o]
  by_cases hb : b = o
  ·subst hb
   have hx : Go.Lib.index ((b : UInt8) :: r) [b] = 0 := by simp [Go.Lib.index]
   simp [Go.Lib.cut, oL, hx]
  ·have h1 : ([o] : List UInt8).isPrefixOf (b :: r) = false := by simp [List.isPrefixOf, Ne.symm hb]
   have hx : Go.Lib.index (b :: r) [o] = if Go.Lib.index r [o] = -1 then -1 else Go.Lib.index r [o] + 1 := by simp [Go.Lib.index, h1]
   unfold Go.Lib.cut at *
   simp only [oL, if_neg hb, <- ih, hx]
   by_cases hi : Go.Lib.index r [o] = -1
   ·simp [hi]
   ·have h2 : 0 <= Go.Lib.index r [o] := by omega
    have h3 : 0 <= Go.Lib.index r [o] + 1 := by omega
    have h4 : (Go.Lib.index r [o] + 1).toNat = (Go.Lib.index r [o]).toNat + 1 := by omega
    simp [hi, h2, h3, h4]
theorem cutB_hit {o : UInt8} : ∀ {s a r : List UInt8}, oL o s = (a, r, true) -> s = a ++ o :: r ∧ o ∉ a
 | [], _, _, h => by simp [oL] at h
 | b :: s, a, r, h => by
  unfold oL at h
  split at h
  ·rename_i hb
   simp only [Prod.mk.injEq, and_true] at h
   obtain ⟨rfl, rfl⟩ := h
   simp [hb]
  ·rename_i hb
   simp only [Prod.mk.injEq] at h
   obtain ⟨rfl, rfl, h3⟩ := h
   have hc : oL o s = ((oL o s).1, (oL o s).2.1, true) := by rw [<- h3]
   obtain ⟨h1, h2⟩ := cutB_hit hc
   exact ⟨by rw [List.cons_append, <- h1], by simp [Ne.symm hb, h2]⟩
structure rX (p : Nat) (out : List (List (List UInt8))) (inn : Bool) (stage : List (List UInt8)) (beg word : List Int) : Prop where
 lo : out.length <= p
 ls : stage.length <= p
 lb : beg.length <= p
 lw : word.length <= p
 ne : ∀ l ∈ out, l ≠ []
 zQt : beg.length = out.length + (if inn = true ∨ stage ≠ [] then 1 else 0)
def qD (inn : Bool) (stage : List (List UInt8)) (word : List Int) : List (List UInt8) := if inn = true then stage ++ [gP word] else stage
def Wx (p : Int) (inn : Bool) (stage : List (List UInt8)) (beg : List Int) : List Int := if inn = false ∧ stage = [] then beg ++ [p] else beg
theorem rX.zOr {p p' : Nat} {out : List (List (List UInt8))} {inn : Bool} {stage : List (List UInt8)} {beg word : List Int} (h : rX p out inn stage beg word) (hp : p + 1 <= p') : rX p' out false (qD inn stage word) beg [] := by
 obtain ⟨h1, h2, h3, h4, h5, h6⟩ := h
 unfold qD
 refine ⟨by omega, ?_, by omega, by simp, h5, ?_⟩
 ·split
  ·simp; omega
  ·omega
 ·rw [h6]
  cases inn <;> simp
theorem rX.zCw {p p' : Nat} {x : Int} {out : List (List (List UInt8))} {inn : Bool} {stage : List (List UInt8)} {beg word word' : List Int} (h : rX p out inn stage beg word) (hp : p + 1 <= p') (hw : word'.length <= p') : rX p' out true stage (Wx x inn stage beg) word' := by
 obtain ⟨h1, h2, h3, h4, h5, h6⟩ := h
 unfold Wx
 refine ⟨by omega, by omega, ?_, hw, h5, ?_⟩
 ·split
  ·simp; omega
  ·omega
 ·by_cases hc : inn = false ∧ stage = []
  ·rw [if_pos hc]
   obtain ⟨rfl, rfl⟩ := hc
   simp at h6 ⊢
   exact h6
  ·rw [if_neg hc, h6]
   cases inn with
   | true => simp
   | false =>
    have : stage ≠ [] := fun e => hc ⟨rfl, e⟩
    simp [this]
theorem rX.zQu {p p' : Nat} {out : List (List (List UInt8))} {inn : Bool} {stage : List (List UInt8)} {beg word : List Int} (h : rX p out inn stage beg word) (hp : p + 1 <= p') (hne : qD inn stage word ≠ []) : rX p' (out ++ [qD inn stage word]) false [] beg [] := by
 obtain ⟨h1, h2, h3, h4, h5, h6⟩ := h
 refine ⟨by simp; omega, by simp, by omega, by simp, ?_, ?_⟩
 ·intro l hl
  rcases List.mem_append.1 hl with hl | hl
  ·exact h5 l hl
  ·simp at hl; subst hl; exact hne
 ·have : inn = true ∨ stage ≠ [] := by
   cases inn with
   | true => exact .inl rfl
   | false => exact .inr (by simpa [qD] using hne)
  rw [h6, if_pos this]
  simp
theorem zHz {n : Nat} {s : List UInt8} (hs : s.length <= 100000) (hn : s.length + 2 < n) : ∀ (k : Nat) (pre rest : List UInt8) (out : List (List (List UInt8))) (inn : Bool) (stage : List (List UInt8)) (beg word : List Int) (m : Nat), s = pre ++ rest -> rest.length <= k -> k < m ->
    rX pre.length out inn stage beg word -> ∃ r, fix (bH n) m (s, out, inn, (pre.length : Int), stage, beg, word, ()) = some r := by
  have stop : ∀ (out : List (List (List UInt8))) (inn : Bool) (stage : List (List UInt8)) (beg word : List Int) (m : Nat), 0 < m -> rX s.length out inn stage beg word -> ∃ r, fix (bH n) m (s, out, inn, (s.length : Int), stage, beg, word, ()) = some r := by
    intro out inn stage beg word m hm hw
    rw [pX hm, bH]
    simp only
    rw [bG (by simp), Dw (by have := hw.ls; omega), iQ]
    simp only
    have hb := hw.zQt
    have he : (if inn = true then stage ++ [gP word] else stage) = qD inn stage word := rfl
    simp only [he]
    have ho := hw.lo
    by_cases h : qD inn stage word = []
    · rw [h, bG (by simp)]
      by_cases h2 : decide (((out.length : Nat) : Int) > 0) = true
      · rw [bL h2]; exact ⟨_, rfl⟩
      · rw [bG (by simpa using h2), Fe]
        exact Zm (by omega) (by omega) (by omega) hw.ne
    · have hp : 0 < (qD inn stage word).length := List.length_pos_iff.2 h
      rw [bL (decide_eq_true (by omega)), bV (by simp [room]; omega), Fe]
      have hx : inn = true ∨ stage ≠ [] := by
        cases inn with
        | true => exact .inl rfl
        | false => exact .inr (by simpa [qD] using h)
      rw [if_pos hx] at hb
      refine Zm (by simp; omega) (by simp; omega) (by simp; omega) ?_
      intro l hl
      rcases List.mem_append.1 hl with hl | hl
      · exact hw.ne l hl
      · simp at hl; subst hl; exact h
  intro k
  induction k with
  | zero =>
    intro pre rest out inn stage beg word m hp hk hm hw
    have hr0 : rest = [] := List.eq_nil_of_length_eq_zero (by omega)
    subst hr0
    have hp : pre = s := by simpa using hp.symm
    subst hp
    exact stop out inn stage beg word m hm hw
  | succ k ih =>
    intro pre rest out inn stage beg word m hp hk hm hw
    match rest, hp, hk with
    | [], hp, hk =>
      have hp : pre = s := by simpa using hp.symm
      subst hp
      exact stop out inn stage beg word m (by omega) hw
    | c :: rest, hp, hk =>
      simp only [List.length_cons] at hk
      have hlen : s.length = pre.length + rest.length + 1 := by rw [hp]; simp; omega
      have ho := hw.lo
      have hst := hw.ls
      have hbe := hw.lb
      have hwo := hw.lw
      have on : ∀ (d : Nat) (out' : List (List (List UInt8))) (zCx : Bool) (Mg : List (List UInt8)) (zCy word' : List Int), 1 <= d -> d <= rest.length + 1 -> rX (pre.length + d) out' zCx Mg zCy word' ->
          ∃ r, fix (bH n) (m - 1) (s, out', zCx, (pre.length : Int) + (d : Int), Mg, zCy, word', ()) = some r := by
        intro d out' zCx Mg zCy word' h1 h2 hw'
        have hl : (pre ++ (c :: rest).take d).length = pre.length + d := by simp; omega
        have hi := ih (pre ++ (c :: rest).take d) ((c :: rest).drop d) out' zCx Mg zCy word' (m - 1) (by rw [hp]; simp) (by simp; omega) (by omega) (by rw [hl]; exact hw')
        rw [hl] at hi
        rwa [show ((pre.length + d : Nat) : Int) = (pre.length : Int) + (d : Int) by omega] at hi
      rw [pX (by omega), bH]
      simp only
      rw [bL (decide_eq_true (by omega)), bV (Ht (by omega)), Dr hp]
      have blank : gG n (fix (bH n) (m - 1)) (s, (c.toNat : Int), true, out, inn, (pre.length : Int), stage, beg, word, ()) = fix (bH n) (m - 1) (s, out, false, (pre.length : Int) + ((1 : Nat) : Int), qD inn stage word, beg, [], ()) := by
        rw [gG]
        simp only
        rw [zGt, Dw (by omega), iQ]
        simp only
        rw [lQ (by omega) (by omega)]
        rfl
      by_cases h1 : ((c.toNat : Int) == 32) = true
      · rw [bL h1, Fe, blank]
        exact on 1 _ _ _ _ _ (by omega) (by omega) (hw.zOr (by omega))
      · rw [bG (by simpa using h1), Fe]
        by_cases h2 : ((c.toNat : Int) == 9) = true
        · rw [h2, blank]
          exact on 1 _ _ _ _ _ (by omega) (by omega) (hw.zOr (by omega))
        · rw [show ((c.toNat : Int) == 9) = false by simpa using h2, gG]
          simp only
          rw [zMi]
          by_cases h3 : ((c.toNat : Int) == 124) = true
          · rw [bL h3, Dw (by omega), iQ]
            simp only
            have he : (if inn = true then stage ++ [gP word] else stage) = qD inn stage word := rfl
            simp only [he]
            by_cases h4 : qD inn stage word = []
            · rw [h4, bL (by simp)]
              exact ⟨_, rfl⟩
            · have hp0 : 0 < (qD inn stage word).length := List.length_pos_iff.2 h4
              rw [bG (by simpa using h4), bV (by simp [room]; omega), lQ (by omega) (by omega)]
              exact on 1 _ _ _ _ _ (by omega) (by omega) (hw.zQu (by omega) h4)
          · rw [bG (by simpa using h3)]
            have zCz : ∀ b : Bool, ∃ r, jn (gF n (fix (bH n) (m - 1))) (s, (c.toNat : Int), b, out, inn, (pre.length : Int), stage, beg, word, ()) = some r := by
              intro b
              rw [Fe, gF]
              simp only
              cases b with
              | true => rw [zGt]; exact ⟨_, rfl⟩
              | false =>
                rw [zMi, lQ (x := (pre.length : Int) + 1) (by omega) (by omega)]
                have hdr : s.drop ((pre.length : Int) + 1).toNat = rest := by
                  rw [hp, show ((pre.length : Int) + 1).toNat = pre.length + 1 by omega]
                  simp
                have hin : (decide (0 <= (pre.length : Int) + 1) && decide ((pre.length : Int) + 1 <= (s.length : Int))) = true := by
                  simp; omega
                have hbs : ∀ x : Int, (Wx x inn stage beg).length <= pre.length + 1 := by
                  intro x; unfold Wx; split
                  · simp; omega
                  · omega
                have w1 : dF n (inn, (pre.length : Int), stage, beg, ()) = some (true, (pre.length : Int), stage, Wx (pre.length : Int) inn stage beg, ()) := zFb (by omega)
                by_cases h5 : ((c.toNat : Int) == 39) = true
                · rw [bL h5, bV hin, hdr]
                  unfold strings_Cut
                  simp only
                  rw [bV (decide_eq_true (by omega)), iQ]
                  rw [zIu]
                  cases hc : oL 39 rest with
                  | mk x yz =>
                    obtain ⟨y, z⟩ := yz
                    simp only
                    cases z with
                    | false => rw [bL (by simp)]; exact ⟨_, rfl⟩
                    | true =>
                      have hcl : x.length + 1 <= rest.length := by
                        have := (cutB_hit hc).1
                        rw [this]; simp
                      rw [bG (by simp), w1, iQ]
                      simp only
                      rw [bV (by simp [room]; omega), lQ (x := (x.length : Int) + 2) (by omega) (by omega), lQ (by omega) (by omega), show (pre.length : Int) + ((x.length : Int) + 2) = (pre.length : Int) + ((x.length + 2 : Nat) : Int) by omega]
                      exact on (x.length + 2) _ _ _ _ _ (by omega) (by omega) (hw.zCw (by omega) (by simp [Wn]; omega))
                · rw [bG (by simpa using h5)]
                  by_cases h6 : ((c.toNat : Int) == 34) = true
                  · rw [bL h6, bV hin, hdr]
                    obtain ⟨b, q, w, hq, hq2⟩ := zCv (n := n) (s := rest) (by omega) (by omega)
                    rw [hq, iQ]
                    simp only
                    by_cases h7 : (q == 0) = true
                    · rw [bL h7]
                      by_cases h8 : decide (w ≥ 0) = true
                      · rw [bL h8]; exact ⟨_, rfl⟩
                      · rw [bG (by simpa using h8)]; exact ⟨_, rfl⟩
                    · rw [bG (by simpa using h7), w1, iQ]
                      simp only
                      rcases hq2 with rfl | ⟨q', rfl, g1, g2, g3⟩
                      · simp at h7
                      · rw [bV (by simp [room]; omega), lQ (x := (q' : Int) + 1) (by omega) (by omega), lQ (by omega) (by omega), show (pre.length : Int) + ((q' : Int) + 1) = (pre.length : Int) + ((q' + 1 : Nat) : Int) by omega]
                        exact on (q' + 1) _ _ _ _ _ (by omega) (by omega) (hw.zCw (by omega) (by simp; omega))
                  · rw [bG (by simpa using h6)]
                    by_cases h9 : ((c.toNat : Int) == 92) = true
                    · rw [bL h9]
                      by_cases h10 : ((pre.length : Int) + 1 == (s.length : Int)) = true
                      · rw [bL h10]; exact ⟨_, rfl⟩
                      · rw [bG (by simpa using h10)]
                        have h10 : ¬ (pre.length : Int) + 1 = (s.length : Int) := by simpa using h10
                        have hb2 : inB ((pre.length : Int) + 1) s.length = true := zIi (by omega) (by omega)
                        rw [bV hb2]
                        by_cases h11 : (((bS 0 s ((pre.length : Int) + 1)).toNat : Int) == 10) = true
                        · rw [bL h11]; exact ⟨_, rfl⟩
                        · rw [bG (by simpa using h11), Fe, rJ]
                          simp only
                          rw [w1, iQ]
                          simp only
                          rw [lQ (x := (pre.length : Int) + 1) (by omega) (by omega), bV hb2, bV (by simp [room]; omega), lQ (by omega) (by omega), show (pre.length : Int) + 2 = (pre.length : Int) + ((2 : Nat) : Int) by omega]
                          exact on 2 _ _ _ _ _ (by omega) (by omega) (hw.zCw (by omega) (by simp; omega))
                    · rw [bG (by simpa using h9), w1, iQ]
                      simp only
                      rw [bV (by simp [room]; omega), show (pre.length : Int) + 1 = (pre.length : Int) + ((1 : Nat) : Int) by omega, lQ (by omega) (by omega)]
                      exact on 1 _ _ _ _ _ (by omega) (by omega) (hw.zCw (by omega) (by simp; omega))
            by_cases h12 : ((c.toNat : Int) == 35) = true
            · rw [bL h12]
              cases inn with
              | false => rw [bL (by simp)]; exact zCz _
              | true => rw [bG (by simp), Aj, iQ]; exact zCz _
            · rw [bG (by simpa using h12), Aj, iQ]
              exact zCz _
theorem zFd {n : Nat} {s : List UInt8} (hs : s.length <= 100000) (hn : s.length + 2 < n) : ∃ r, jN n s = some r :=
 zHz hs hn s.length [] s [] false [] [] [] n rfl (Nat.le_refl _) (by omega) ⟨by simp, by simp, by simp, by simp, by simp, by simp⟩
end Go.Dec
