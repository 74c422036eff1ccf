/- Part of a proof over this seat: a library of my own, and what it says of this seat. No statement is proved here. -/
import Derived.Test.YtmpoakdpdflfgaaGreatDoorPartBJ
import Derived.Test.YtmpoakdpdflfgaaGreatDoorPartBK
import Derived.KernelRfl
import Derived.Test.YtmpoakdpdflfgaaGreatDoorPartAJ
import Derived.Test.YtmpoakdpdflfgaaGreatDoorPartBA
namespace Go.Dec
open Go.Proofs Go.RowKit Go.Sort Go.Lib
abbrev Dz : List Ty := [.str, .str]
abbrev Ea : List Ty := [.str, .str, .bool]
abbrev lC : List Ty := [.str, .int .u8]
abbrev lD : List Ty := [.int .i64]
theorem Yt {w : World} (hG : Glob Tryz.prog w) : ∃ m : Int, w.cell? ⟨0, 0, none⟩ = some (.int .i64 m) :=
 hG 0 (Tryz.prog.globals[0]'(by decide +kernel)) (by rw [Array.getElem?_eq_getElem]) (.int .i64) (by kernel_rfl)
theorem Jg (n : Nat) : Pure Tryz.prog 38 Dz Ea (strings_Cut n) := by
 refine ⟨by kernel_rfl, fun x y hF w N xs hG _ hx => ?_⟩
 obtain ⟨hc, hy⟩ := jR hF
 have hc := of_decide_eq_true hc
 obtain rfl := Option.some.inj hy
 obtain ⟨u, us, rfl, h1, v, rfl, h2⟩ := hx
 simp only [Ty.iA, Ty.isAgg, Bool.false_eq_true, if_false, Ty.Rel, List.cons.injEq, and_true] at h1 h2
 subst h1 h2
 obtain ⟨m, hm⟩ := Yt hG
 refine (Tryz.strings_Cut _ _ m w (by simpa [ByteArray.size] using hc) hm).mono ?_
 rintro e w' ⟨rfl, k, rfl⟩
 refine ⟨[_, _, _], rfl, rfl, rfl, rfl, Keep.nM (M := fun _ => False) (Nat.le_refl _) (fun _ _ _ => rfl) (fun _ _ h => h), ⟨_, _, rfl, ?_, _, _, rfl, ?_, _, rfl, ?_⟩⟩ <;> simp [Ty.iA, Ty.isAgg, Ty.Rel]
theorem mK (n : Nat) : Pure Tryz.prog 37 lC lD (strings_IndexByte n) := by
 refine ⟨by kernel_rfl, fun x y hF w N xs hG _ hx => ?_⟩
 obtain rfl := Option.some.inj hF
 obtain ⟨u, us, rfl, h1, v, rfl, h2⟩ := hx
 simp only [Ty.iA, Ty.isAgg, Bool.false_eq_true, if_false, Ty.Rel, List.cons.injEq, and_true] at h1 h2
 subst h1 h2
 refine (Tryz.strings_IndexByte _ _ w).mono ?_
 rintro e w' ⟨rfl, rfl⟩
 exact ⟨[_], rfl, rfl, rfl, rfl, Keep.refl _ _, _, rfl, by simp [Ty.iA, Ty.isAgg, Ty.Rel]⟩
end Go.Dec
namespace Go.Dec
set_option linter.unusedVariables false
def fM (n : Nat) (x : Bool × List (List UInt8) × List (Int) × Unit) : Option (Bool × List (List UInt8) × List (Int) × Unit) :=
 let b1 : Bool := x.1
 let Xf : List (List UInt8) := x.2.1
 let mD : List (Int) := x.2.2.1
 br b1 (
  chk (Nat.ble ((Xf.length + ([bE mD] : List (List UInt8)).length) * 16) room) (
   some (false, Xf ++ [bE mD], mD, ()))) (
  some (false, Xf, mD, ()))
def dH (n : Nat) (x : Bool × Int × List (List UInt8) × List (Int) × Unit) : Option (Bool × Int × List (List UInt8) × List (Int) × Unit) :=
 let b1 : Bool := x.1
 let b2 : Int := x.2.1
 let mD : List (List UInt8) := x.2.2.1
 let oQ : List (Int) := x.2.2.2.1
 br (!b1) (
  let v5 : Int := ((mD.length : Nat) : Int)
  br (v5 == 0) (
   chk (Nat.ble ((oQ.length + ([b2] : List (Int)).length) * 8) room) (
    some (true, b2, mD, oQ ++ [b2], ()))) (
   some (true, b2, mD, oQ, ()))) (
  some (true, b2, mD, oQ, ()))
def bZ (n : Nat) (g0 : List UInt8 × Int × List (Int) × Unit -> Option (List (Int) × Int × Int)) (x1 : List UInt8 × Int × List (Int) × Unit) : Option (List (Int) × Int × Int) :=
 let s_2 : List UInt8 := x1.1
 let i_3 : Int := x1.2.1
 let oQ : List (Int) := x1.2.2.1
 br (decide (i_3 < (s_2.length : Int))) (
  chk (inB i_3 s_2.length) (
   let v5 : Int := ((bT 0 s_2 i_3).toNat : Int)
   br (v5 == 34) (
    let v6 : Int := IntKind.wrap .i64 (i_3 + 1)
    some (oQ, v6, (-1))) (
    ob (strings_IndexByte n ([36, 96], v5)) fun y7 =>
    br (decide (y7 ≥ 0)) (
     some ([], 0, i_3)) (
     br (v5 == 92) (
      let v8 : Int := IntKind.wrap .i64 (i_3 + 1)
      br (decide (v8 < (s_2.length : Int))) (
       let v9 : Int := IntKind.wrap .i64 (i_3 + 1)
       chk (inB v9 s_2.length) (
        let v10 : Int := ((bT 0 s_2 v9).toNat : Int)
        ob (strings_IndexByte n ([36, 34, 92, 96], v10)) fun y11 =>
        br (decide (y11 ≥ 0)) (
         let v12 : Int := IntKind.wrap .i64 (i_3 + 1)
         chk (inB v12 s_2.length) (
          let v13 : Int := ((bT 0 s_2 v12).toNat : Int)
          chk (Nat.ble ((oQ.length + ([v13] : List (Int)).length) * 1) room) (
           let v14 : Int := IntKind.wrap .i64 (v12 + 1)
           g0 (s_2, v14, oQ ++ [v13], ())))) (
         chk (inB i_3 s_2.length) (
          let v15 : Int := ((bT 0 s_2 i_3).toNat : Int)
          chk (Nat.ble ((oQ.length + ([v15] : List (Int)).length) * 1) room) (
           let v16 : Int := IntKind.wrap .i64 (i_3 + 1)
           g0 (s_2, v16, oQ ++ [v15], ())))))) (
       chk (inB i_3 s_2.length) (
        let v17 : Int := ((bT 0 s_2 i_3).toNat : Int)
        chk (Nat.ble ((oQ.length + ([v17] : List (Int)).length) * 1) room) (
         let v18 : Int := IntKind.wrap .i64 (i_3 + 1)
         g0 (s_2, v18, oQ ++ [v17], ()))))) (
      chk (inB i_3 s_2.length) (
       let v19 : Int := ((bT 0 s_2 i_3).toNat : Int)
       chk (Nat.ble ((oQ.length + ([v19] : List (Int)).length) * 1) room) (
        let v20 : Int := IntKind.wrap .i64 (i_3 + 1)
        g0 (s_2, v20, oQ ++ [v19], ())))))))) (
  some ([], 0, (-2)))
def mW (n : Nat) (x : List UInt8) : Option (List (Int) × Int × Int) :=
 let s_0 : List UInt8 := x
 fix (bZ n) n (s_0, 0, [], ())
def rU (n : Nat) (g0 : List UInt8 × List (List (List UInt8)) × Bool × Int × List (List UInt8) × List (Int) × List (Int) × Unit -> Option (List (List (List UInt8)) × Int × Int)) (x50 : List UInt8 × List (List (List UInt8)) × Bool × Int × List (List UInt8) × List (Int) × List (Int) × Unit) : Option (List (List (List UInt8)) × Int × Int) :=
 let zIj : List UInt8 := x50.1
 let zPu : List (List (List UInt8)) := x50.2.1
 let b53 : Bool := x50.2.2.1
 let b54 : Int := x50.2.2.2.1
 let zPv : List (List UInt8) := x50.2.2.2.2.1
 let zPw : List (Int) := x50.2.2.2.2.2.1
 let zJe : List (Int) := x50.2.2.2.2.2.2.1
 ob (dH n (b53, b54, zPv, zPw, ())) fun y58 =>
 let v59 : Int := IntKind.wrap .i64 (y58.2.1 + 1)
 chk (inB v59 zIj.length) (
  let v60 : Int := ((bT 0 zIj v59).toNat : Int)
  chk (Nat.ble ((zJe.length + ([v60] : List (Int)).length) * 1) room) (
   let v61 : Int := IntKind.wrap .i64 (y58.2.1 + 2)
   g0 (zIj, zPu, y58.1, v61, y58.2.2.1, y58.2.2.2.1, zJe ++ [v60], ())))
def gG (n : Nat) (g0 : List UInt8 × List (List (List UInt8)) × Bool × Int × List (List UInt8) × List (Int) × List (Int) × Unit -> Option (List (List (List UInt8)) × Int × Int)) (x25 : List UInt8 × Int × Bool × List (List (List UInt8)) × Bool × Int × List (List UInt8) × List (Int) × List (Int) × Unit) : Option (List (List (List UInt8)) × Int × Int) :=
 let vN : List UInt8 := x25.1
 let Xg : Int := x25.2.1
 let zOw : Bool := x25.2.2.1
 let Td : List (List (List UInt8)) := x25.2.2.2.1
 let b30 : Bool := x25.2.2.2.2.1
 let b31 : Int := x25.2.2.2.2.2.1
 let Te : List (List UInt8) := x25.2.2.2.2.2.2.1
 let Tf : List (Int) := x25.2.2.2.2.2.2.2.1
 let Ao : List (Int) := x25.2.2.2.2.2.2.2.2.1
 br zOw (
  some ([], b31, 210)) (
  br (Xg == 39) (
   let v35 : Int := IntKind.wrap .i64 (b31 + 1)
   chk ((decide (0 <= v35) && decide (v35 <= (vN.length : Int)))) (
    ob (strings_Cut n (vN.drop v35.toNat, [39])) fun y36 =>
    br (!y36.2.2) (
     some ([], b31, 210)) (
     ob (dH n (b30, b31, Te, Tf, ())) fun y37 =>
     chk (Nat.ble ((Ao.length + y36.1.length) * 1) room) (
      let v38 : Int := IntKind.wrap .i64 ((y36.1.length : Int) + 2)
      let v39 : Int := IntKind.wrap .i64 (y37.2.1 + v38)
      g0 (vN, Td, y37.1, v39, y37.2.2.1, y37.2.2.2.1, Ao ++ aX y36.1, ()))))) (
   br (Xg == 34) (
    let v40 : Int := IntKind.wrap .i64 (b31 + 1)
    chk ((decide (0 <= v40) && decide (v40 <= (vN.length : Int)))) (
     ob (mW n (vN.drop v40.toNat)) fun y41 =>
     br (y41.2.1 == 0) (
      br (decide (y41.2.2 ≥ 0)) (
       let v42 : Int := IntKind.wrap .i64 (1 + y41.2.2)
       let v43 : Int := IntKind.wrap .i64 (b31 + v42)
       some ([], v43, 210)) (
       some ([], b31, 210))) (
      ob (dH n (b30, b31, Te, Tf, ())) fun y44 =>
      chk (Nat.ble ((Ao.length + y41.1.length) * 1) room) (
       let v45 : Int := IntKind.wrap .i64 (y41.2.1 + 1)
       let v46 : Int := IntKind.wrap .i64 (y44.2.1 + v45)
       g0 (vN, Td, y44.1, v46, y44.2.2.1, y44.2.2.2.1, Ao ++ y41.1, ()))))) (
    br (Xg == 92) (
     let v47 : Int := IntKind.wrap .i64 (b31 + 1)
     br (v47 == (vN.length : Int)) (
      some ([], b31, 210)) (
      let v48 : Int := IntKind.wrap .i64 (b31 + 1)
      chk (inB v48 vN.length) (
       let v49 : Int := ((bT 0 vN v48).toNat : Int)
       br (v49 == 10) (
        some ([], b31, 210)) (
        jn (rU n g0) (vN, Td, b30, b31, Te, Tf, Ao, ()))))) (
     ob (dH n (b30, b31, Te, Tf, ())) fun y62 =>
     chk (Nat.ble ((Ao.length + ([Xg] : List (Int)).length) * 1) room) (
      let v63 : Int := IntKind.wrap .i64 (y62.2.1 + 1)
      g0 (vN, Td, y62.1, v63, y62.2.2.1, y62.2.2.2.1, Ao ++ [Xg], ()))))))
def gH (n : Nat) (g0 : List UInt8 × List (List (List UInt8)) × Bool × Int × List (List UInt8) × List (Int) × List (Int) × Unit -> Option (List (List (List UInt8)) × Int × Int)) (x10 : List UInt8 × Int × Bool × List (List (List UInt8)) × Bool × Int × List (List UInt8) × List (Int) × List (Int) × Unit) : Option (List (List (List UInt8)) × Int × Int) :=
 let Xh : List UInt8 := x10.1
 let Jh : Int := x10.2.1
 let zOx : Bool := x10.2.2.1
 let Fp : List (List (List UInt8)) := x10.2.2.2.1
 let b15 : Bool := x10.2.2.2.2.1
 let b16 : Int := x10.2.2.2.2.2.1
 let Ml : List (List UInt8) := x10.2.2.2.2.2.2.1
 let Mq : List (Int) := x10.2.2.2.2.2.2.2.1
 let Mr : List (Int) := x10.2.2.2.2.2.2.2.2.1
 br zOx (
  ob (fM n (b15, Ml, Mr, ())) fun y20 =>
  let v21 : Int := IntKind.wrap .i64 (b16 + 1)
  g0 (Xh, Fp, y20.1, v21, y20.2.1, Mq, [], ())) (
  br (Jh == 124) (
   ob (fM n (b15, Ml, Mr, ())) fun y22 =>
   let v23 : Int := ((y22.2.1.length : Nat) : Int)
   br (v23 == 0) (
    some ([], b16, 210)) (
    chk (Nat.ble ((Fp.length + ([y22.2.1] : List (List (List UInt8))).length) * 24) room) (
     let v24 : Int := IntKind.wrap .i64 (b16 + 1)
     g0 (Xh, Fp ++ [y22.2.1], y22.1, v24, [], Mq, [], ())))) (
   br (Jh == 35) (
    br (!b15) (
     jn (gG n g0) (Xh, Jh, (!b15), Fp, b15, b16, Ml, Mq, Mr, ())) (
     ob (strings_IndexByte n ([10, 59, 38, 60, 62, 40, 41, 36, 42, 63, 91, 96], Jh)) fun y64 =>
     jn (gG n g0) (Xh, Jh, (decide (y64 ≥ 0)), Fp, b15, b16, Ml, Mq, Mr, ()))) (
    ob (strings_IndexByte n ([10, 59, 38, 60, 62, 40, 41, 36, 42, 63, 91, 96], Jh)) fun y65 =>
    jn (gG n g0) (Xh, Jh, (decide (y65 ≥ 0)), Fp, b15, b16, Ml, Mq, Mr, ()))))
def gI (n : Nat) (g1 : Int × Int × List (List (List UInt8)) × Int × List (Int) × Unit -> Option (List (List (List UInt8)) × Int × Int)) (x73 : Int × Int × List (List (List UInt8)) × Int × List (Int) × Unit) : Option (List (List (List UInt8)) × Int × Int) :=
 let Zx : Int := x73.1
 let nV : Int := x73.2.1
 let Ap : List (List (List UInt8)) := x73.2.2.1
 let b77 : Int := x73.2.2.2.1
 let Fq : List (Int) := x73.2.2.2.2.1
 br (decide (nV < Zx)) (
  chk ((inB nV (Ap.length) && decide (0 + (Ap.length) <= Ap.length))) (
   chk (decide (0 + nV.toNat < Ap.length)) (
    let v79 : List (List UInt8) := Ap.getD (0 + nV.toNat) (Ty.dflt (.slice .str))
    chk (inB 0 v79.length) (
     let v80 : List UInt8 := bT (Ty.dflt .str) v79 0
     br (!(v80 == [115, 101, 100])) (
      chk ((inB nV (Fq.length) && decide (0 + (Fq.length) <= Fq.length))) (
       chk (decide (0 + nV.toNat < Fq.length)) (
        let v81 : Int := Fq.getD (0 + nV.toNat) (Ty.dflt (.int .i64))
        some ([], v81, 210)))) (
      let v82 : Int := IntKind.wrap .i64 (nV + 1)
      g1 (Zx, v82, Ap, b77, Fq, ())))))) (
  some (Ap, 0, 0))
def lF (n : Nat) (x68 : List (List (List UInt8)) × Int × List (Int) × Unit) : Option (List (List (List UInt8)) × Int × Int) :=
 let zJf : List (List (List UInt8)) := x68.1
 let b70 : Int := x68.2.1
 let zPx : List (Int) := x68.2.2.1
 let v72 : Int := ((zJf.length : Nat) : Int)
 fix (gI n) n (v72, 0, zJf, b70, zPx, ())
def bJ (n : Nat) (g0 : List UInt8 × List (List (List UInt8)) × Bool × Int × List (List UInt8) × List (Int) × List (Int) × Unit -> Option (List (List (List UInt8)) × Int × Int)) (x1 : List UInt8 × List (List (List UInt8)) × Bool × Int × List (List UInt8) × List (Int) × List (Int) × Unit) : Option (List (List (List UInt8)) × Int × Int) :=
 let s_2 : List UInt8 := x1.1
 let mD : List (List (List UInt8)) := x1.2.1
 let b4 : Bool := x1.2.2.1
 let b5 : Int := x1.2.2.2.1
 let Ot : List (List UInt8) := x1.2.2.2.2.1
 let Eb : List (Int) := x1.2.2.2.2.2.1
 let zIk : List (Int) := x1.2.2.2.2.2.2.1
 br (decide (b5 < (s_2.length : Int))) (
  chk (inB b5 s_2.length) (
   let v9 : Int := ((bT 0 s_2 b5).toNat : Int)
   br (v9 == 32) (
    jn (gH n g0) (s_2, v9, true, mD, b4, b5, Ot, Eb, zIk, ())) (
    jn (gH n g0) (s_2, v9, (v9 == 9), mD, b4, b5, Ot, Eb, zIk, ())))) (
  ob (fM n (b4, Ot, zIk, ())) fun y66 =>
  let v67 : Int := ((y66.2.1.length : Nat) : Int)
  br (decide (v67 > 0)) (
   chk (Nat.ble ((mD.length + ([y66.2.1] : List (List (List UInt8))).length) * 24) room) (
    jn (lF n) (mD ++ [y66.2.1], b5, Eb, ()))) (
   let v83 : Int := ((mD.length : Nat) : Int)
   br (decide (v83 > 0)) (
    some ([], b5, 210)) (
    jn (lF n) (mD, b5, Eb, ()))))
def jN (n : Nat) (x : List UInt8) : Option (List (List (List UInt8)) × Int × Int) :=
 let s_0 : List UInt8 := x
 fix (bJ n) n (s_0, [], false, 0, [], [], [], ())
end Go.Dec
namespace Go.Dec
set_option linter.unusedSimpArgs false
theorem Fv {ρ α : Type} (f : α -> Option ρ) (x : α) : jn f x = f x := rfl
theorem Ec {n : Nat} {inn : Bool} {stage : List (List UInt8)} {word : List Int} (h : stage.length <= 1000000) : fM n (inn, stage, word, ()) = some (false, (if inn = true then stage ++ [bE word] else stage), word, ()) := by
 unfold fM
 simp only
 cases inn with
 | false => simp
 | true =>
  rw [zHd, bW (by simp [room]; omega)]
  simp
theorem zFl {n : Nat} {inn : Bool} {p : Int} {stage : List (List UInt8)} {beg : List Int} (h : beg.length <= 1000000) : dH n (inn, p, stage, beg, ()) = some (true, p, stage, (if inn = false ∧ stage = [] then beg ++ [p] else beg), ()) := by
 unfold dH
 simp only
 cases inn with
 | true => simp
 | false =>
  cases stage with
  | nil =>
   rw [bP (by simp), bP (by simp), bW (by simp [room]; omega)]
   simp
  | cons a l =>
   rw [bP (by simp), bI (by simp; omega)]
   simp
theorem zOy {n : Nat} {out : List (List (List UInt8))} {beg : List Int} {b : Int} (hl : out.length <= 1000001) (hb : out.length <= beg.length) (hne : ∀ l ∈ out, l ≠ []) : ∀ (q p : List (List (List UInt8))) (m : Nat), out = p ++ q -> q.length < m ->
  (∃ r, fix (gI n) m ((out.length : Int), (p.length : Int), out, b, beg, ()) = some r) ∧
  ((∀ l ∈ q, ∃ r, l = [115, 101, 100] :: r) -> fix (gI n) m ((out.length : Int), (p.length : Int), out, b, beg, ()) = some (out, 0, 0)) := by
 intro q
 induction q with
 | nil =>
  intro p m hp hm
  have hp : p = out := by simpa using hp.symm
  subst hp
  rw [qD (by omega), gI]
  simp only
  rw [bI (by simp)]
  exact ⟨⟨_, rfl⟩, fun _ => rfl⟩
 | cons l q ih =>
  intro p m hp hm
  have hm' : q.length + 1 < m := hm
  have hlen : out.length = p.length + q.length + 1 := by rw [hp]; simp; omega
  obtain ⟨a, l', rfl⟩ := List.exists_cons_of_ne_nil (hne l (by rw [hp]; simp))
  have hg : out.getD (0 + (p.length : Int).toNat) (Ty.dflt (.slice .str)) = a :: l' := by
   rw [hp]; simp [List.getD_eq_getElem?_getD]
  have ha : bT (Ty.dflt .str) (a :: l') 0 = a := by simp [bT]
  have hi := ih (p ++ [a :: l']) (m - 1) (by rw [hp]; simp) (by omega)
  rw [show ((p ++ [a :: l']).length : Int) = (p.length : Int) + 1 by simp] at hi
  rw [qD (by omega), gI]
  simp only
  rw [bP (decide_eq_true (by omega)), bW (by rw [Ib (by omega)]; simp), bW (by simp; omega)]
  simp only [hg, ha]
  rw [bW (by simp [inB])]
  by_cases h : a = [115, 101, 100]
  ·subst h
   rw [bI (by simp), lT (by omega) (by omega)]
   exact ⟨hi.1, fun hall => hi.2 fun l hl => hall l (List.mem_cons_of_mem _ hl)⟩
  ·rw [bP (by simpa using h), bW (by rw [Ib (by omega)]; simp), bW (by simp; omega)]
   exact ⟨⟨_, rfl⟩, fun hall => by obtain ⟨r, hr⟩ := hall _ List.mem_cons_self; cases hr; exact absurd rfl h⟩
theorem Zy {n : Nat} {out : List (List (List UInt8))} {beg : List Int} {b : Int} (hl : out.length <= 1000001) (hn : out.length < n) (hb : out.length <= beg.length) (hne : ∀ l ∈ out, l ≠ []) : ∃ r, lF n (out, b, beg, ()) = some r :=
 (zOy hl hb hne out [] n rfl hn).1
theorem Aq (n : Nat) (s : List UInt8) (c : Int) : strings_IndexByte n (s, c) = some (Go.Lib.indexByte s c.toNat.toUInt8) := rfl
theorem zFm {n : Nat} {s : List UInt8} (hs : s.length <= 1000000) : ∀ (k : Nat) (pre rest : List UInt8) (row : List Int) (m : Nat), s = pre ++ rest -> rest.length <= k -> k < m -> row.length <= pre.length ->
  ∃ b q w, fix (bZ n) m (s, (pre.length : Int), row, ()) = some (b, q, w) ∧ (q = 0 ∨ ∃ q' : Nat, q = (q' : Int) ∧ 1 <= q' ∧ q' <= s.length ∧ b.length <= q') := by
 intro k
 induction k with
 | zero =>
  intro pre rest row m hp hk hm hr
  have hr0 : rest = [] := List.eq_nil_of_length_eq_zero (by omega)
  subst hr0
  have hp : pre = s := by simpa using hp.symm
  subst hp
  rw [qD (by omega), bZ]
  simp only
  rw [bI (by simp)]
  exact ⟨_, _, _, rfl, .inl rfl⟩
 | succ k ih =>
  intro pre rest row m hp hk hm hr
  match rest with
  | [] =>
   have hp : pre = s := by simpa using hp.symm
   subst hp
   rw [qD (by omega), bZ]
   simp only
   rw [bI (by simp)]
   exact ⟨_, _, _, rfl, .inl rfl⟩
  | c :: rest =>
   have hlen : s.length = pre.length + rest.length + 1 := by rw [hp]; simp; omega
   simp only [List.length_cons] at hk
   have one : ∀ (x : Int) , ∃ b q w, fix (bZ n) (m - 1) (s, (pre.length : Int) + 1, row ++ [x], ()) = some (b, q, w) ∧ (q = 0 ∨ ∃ q' : Nat, q = (q' : Int) ∧ 1 <= q' ∧ q' <= s.length ∧ b.length <= q') := by
    intro x
    have hi := ih (pre ++ [c]) rest (row ++ [x]) (m - 1) (by rw [hp]; simp) (by omega) (by omega) (by simp; omega)
    rwa [show ((pre ++ [c]).length : Int) = (pre.length : Int) + 1 by simp] at hi
   rw [qD (by omega), bZ]
   simp only
   rw [bP (decide_eq_true (by omega)), bW (Ib (by omega)), Dy hp, lT (x := (pre.length : Int) + 1) (by omega) (by omega)]
   by_cases h1 : ((c.toNat : Int) == 34) = true
   ·rw [bP h1]
    exact ⟨_, _, _, rfl, .inr ⟨pre.length + 1, by omega, by omega, by omega, by omega⟩⟩
   ·rw [bI (by simpa using h1), Aq, iQ]
    by_cases h2 : decide (Go.Lib.indexByte [36, 96] (c.toNat : Int).toNat.toUInt8 ≥ 0) = true
    ·rw [bP h2]
     exact ⟨_, _, _, rfl, .inl rfl⟩
    ·rw [bI (by simpa using h2)]
     have last : ∃ b q w, (chk (inB (pre.length : Int) s.length) (chk (Nat.ble ((row.length + ([(c.toNat : Int)] : List Int).length) * 1) room) (fix (bZ n) (m - 1) (s, (pre.length : Int) + 1, row ++ [(c.toNat : Int)], ())))) = some (b, q, w) ∧ (q = 0 ∨ ∃ q' : Nat, q = (q' : Int) ∧ 1 <= q' ∧ q' <= s.length ∧ b.length <= q') := by
      rw [bW (Ib (by omega)), bW (by simp [room]; omega)]
      exact one _
     by_cases h3 : ((c.toNat : Int) == 92) = true
     ·rw [bP h3]
      by_cases h4 : decide ((pre.length : Int) + 1 < (s.length : Int)) = true
      ·rw [bP h4]
       have h4' := of_decide_eq_true h4
       match rest, hp, hlen, hk, ih with
       | [], _, hlen, _, _ => simp only [List.length_nil] at hlen; omega
       | d :: rest, hp, hlen, hk, ih =>
        simp only [List.length_cons] at hk hlen
        have hp2 : s = (pre ++ [c]) ++ d :: rest := by rw [hp]; simp
        have hl2 : ((pre ++ [c]).length : Int) = (pre.length : Int) + 1 := by simp
        rw [<- hl2, bW (Ib (by simp; omega)), Dy hp2, Aq, iQ]
        by_cases h5 : decide (Go.Lib.indexByte [36, 34, 92, 96] (d.toNat : Int).toNat.toUInt8 ≥ 0) = true
        ·rw [bP h5, bW (Ib (by simp; omega)), bW (by simp [room]; omega), lT (by omega) (by omega)]
         have hi := ih (pre ++ [c] ++ [d]) rest (row ++ [(d.toNat : Int)]) (m - 1) (by rw [hp]; simp) (by omega) (by omega) (by simp; omega)
         rwa [show ((pre ++ [c] ++ [d]).length : Int) = ((pre ++ [c]).length : Int) + 1 by simp; omega] at hi
        ·rw [bI (by simpa using h5), hl2]
         exact last
      ·rw [bI (by simpa using h4)]
       exact last
     ·rw [bI (by simpa using h3)]
      exact last
theorem zDh {n : Nat} {s : List UInt8} (hs : s.length <= 1000000) (hn : s.length < n) : ∃ b q w, mW n s = some (b, q, w) ∧ (q = 0 ∨ ∃ q' : Nat, q = (q' : Int) ∧ 1 <= q' ∧ q' <= s.length ∧ b.length <= q') :=
 zFm hs s.length [] s [] n rfl (Nat.le_refl _) hn (Nat.le_refl _)
def oU (o : UInt8) : List UInt8 -> List UInt8 × List UInt8 × Bool
 | [] => ([], [], false)
 | b :: r => if b = o then ([], r, true) else (b :: (oU o r).1, (oU o r).2.1, (oU o r).2.2)
theorem zJg (o : UInt8) : ∀ s : List UInt8, Go.Lib.cut s [o] = oU o s
 | [] => by simp [Go.Lib.cut, Go.Lib.index, oU]
 | b :: r => by
  have ih := zJg o r
  have hge := Go.Lib.index_ge r [o]
  by_cases hb : b = o
  ·subst hb
   have hx : Go.Lib.index ((b : UInt8) :: r) [b] = 0 := by simp [Go.Lib.index]
   simp [Go.Lib.cut, oU, hx]
  ·have h1 : ([o] : List UInt8).isPrefixOf (b :: r) = false := by simp [List.isPrefixOf, Ne.symm hb]
   have hx : Go.Lib.index (b :: r) [o] = if Go.Lib.index r [o] = -1 then -1 else Go.Lib.index r [o] + 1 := by simp [Go.Lib.index, h1]
   unfold Go.Lib.cut at *
   simp only [oU, if_neg hb, <- ih, hx]
   by_cases hi : Go.Lib.index r [o] = -1
   ·simp [hi]
   ·have h2 : 0 <= Go.Lib.index r [o] := by omega
    have h3 : 0 <= Go.Lib.index r [o] + 1 := by omega
    have h4 : (Go.Lib.index r [o] + 1).toNat = (Go.Lib.index r [o]).toNat + 1 := by omega
    simp [hi, h2, h3, h4]
theorem cutB_hit {o : UInt8} : ∀ {s a r : List UInt8}, oU o s = (a, r, true) -> s = a ++ o :: r ∧ o ∉ a
 | [], _, _, h => by simp [oU] at h
 | b :: s, a, r, h => by
  unfold oU at h
  split at h
  ·rename_i hb
   simp only [Prod.mk.injEq, and_true] at h
   obtain ⟨rfl, rfl⟩ := h
   simp [hb]
  ·rename_i hb
   simp only [Prod.mk.injEq] at h
   obtain ⟨rfl, rfl, h3⟩ := h
   have hc : oU o s = ((oU o s).1, (oU o s).2.1, true) := by rw [<- h3]
   obtain ⟨h1, h2⟩ := cutB_hit hc
   exact ⟨by rw [List.cons_append, <- h1], by simp [Ne.symm hb, h2]⟩
structure sJ (p : Nat) (out : List (List (List UInt8))) (inn : Bool) (stage : List (List UInt8)) (beg word : List Int) : Prop where
 lo : out.length <= p
 ls : stage.length <= p
 lb : beg.length <= p
 lw : word.length <= p
 ne : ∀ l ∈ out, l ≠ []
 zRc : beg.length = out.length + (if inn = true ∨ stage ≠ [] then 1 else 0)
def qK (inn : Bool) (stage : List (List UInt8)) (word : List Int) : List (List UInt8) := if inn = true then stage ++ [bE word] else stage
def Xi (p : Int) (inn : Bool) (stage : List (List UInt8)) (beg : List Int) : List Int := if inn = false ∧ stage = [] then beg ++ [p] else beg
theorem sJ.zOz {p p' : Nat} {out : List (List (List UInt8))} {inn : Bool} {stage : List (List UInt8)} {beg word : List Int} (h : sJ p out inn stage beg word) (hp : p + 1 <= p') : sJ p' out false (qK inn stage word) beg [] := by
 obtain ⟨h1, h2, h3, h4, h5, h6⟩ := h
 unfold qK
 refine ⟨by omega, ?_, by omega, by simp, h5, ?_⟩
 ·split
  ·simp; omega
  ·omega
 ·rw [h6]
  cases inn <;> simp
theorem sJ.zDi {p p' : Nat} {x : Int} {out : List (List (List UInt8))} {inn : Bool} {stage : List (List UInt8)} {beg word word' : List Int} (h : sJ p out inn stage beg word) (hp : p + 1 <= p') (hw : word'.length <= p') : sJ p' out true stage (Xi x inn stage beg) word' := by
 obtain ⟨h1, h2, h3, h4, h5, h6⟩ := h
 unfold Xi
 refine ⟨by omega, by omega, ?_, hw, h5, ?_⟩
 ·split
  ·simp; omega
  ·omega
 ·by_cases hc : inn = false ∧ stage = []
  ·rw [if_pos hc]
   obtain ⟨rfl, rfl⟩ := hc
   simp at h6 ⊢
   exact h6
  ·rw [if_neg hc, h6]
   cases inn with
   | true => simp
   | false =>
    have : stage ≠ [] := fun e => hc ⟨rfl, e⟩
    simp [this]
theorem sJ.zRd {p p' : Nat} {out : List (List (List UInt8))} {inn : Bool} {stage : List (List UInt8)} {beg word : List Int} (h : sJ p out inn stage beg word) (hp : p + 1 <= p') (hne : qK inn stage word ≠ []) : sJ p' (out ++ [qK inn stage word]) false [] beg [] := by
 obtain ⟨h1, h2, h3, h4, h5, h6⟩ := h
 refine ⟨by simp; omega, by simp, by omega, by simp, ?_, ?_⟩
 ·intro l hl
  rcases List.mem_append.1 hl with hl | hl
  ·exact h5 l hl
  ·simp at hl; subst hl; exact hne
 ·have : inn = true ∨ stage ≠ [] := by
   cases inn with
   | true => exact .inl rfl
   | false => exact .inr (by simpa [qK] using hne)
  rw [h6, if_pos this]
  simp
theorem zIl {n : Nat} {s : List UInt8} (hs : s.length <= 100000) (hn : s.length + 2 < n) : ∀ (k : Nat) (pre rest : List UInt8) (out : List (List (List UInt8))) (inn : Bool) (stage : List (List UInt8)) (beg word : List Int) (m : Nat), s = pre ++ rest -> rest.length <= k -> k < m ->
    sJ pre.length out inn stage beg word -> ∃ r, fix (bJ n) m (s, out, inn, (pre.length : Int), stage, beg, word, ()) = some r := by
  have stop : ∀ (out : List (List (List UInt8))) (inn : Bool) (stage : List (List UInt8)) (beg word : List Int) (m : Nat), 0 < m -> sJ s.length out inn stage beg word -> ∃ r, fix (bJ n) m (s, out, inn, (s.length : Int), stage, beg, word, ()) = some r := by
    intro out inn stage beg word m hm hw
    rw [qD hm, bJ]
    simp only
    rw [bI (by simp), Ec (by have := hw.ls; omega), iQ]
    simp only
    have hb := hw.zRc
    have he : (if inn = true then stage ++ [bE word] else stage) = qK inn stage word := rfl
    simp only [he]
    have ho := hw.lo
    by_cases h : qK inn stage word = []
    · rw [h, bI (by simp)]
      by_cases h2 : decide (((out.length : Nat) : Int) > 0) = true
      · rw [bP h2]; exact ⟨_, rfl⟩
      · rw [bI (by simpa using h2), Fv]
        exact Zy (by omega) (by omega) (by omega) hw.ne
    · have hp : 0 < (qK inn stage word).length := List.length_pos_iff.2 h
      rw [bP (decide_eq_true (by omega)), bW (by simp [room]; omega), Fv]
      have hx : inn = true ∨ stage ≠ [] := by
        cases inn with
        | true => exact .inl rfl
        | false => exact .inr (by simpa [qK] using h)
      rw [if_pos hx] at hb
      refine Zy (by simp; omega) (by simp; omega) (by simp; omega) ?_
      intro l hl
      rcases List.mem_append.1 hl with hl | hl
      · exact hw.ne l hl
      · simp at hl; subst hl; exact h
  intro k
  induction k with
  | zero =>
    intro pre rest out inn stage beg word m hp hk hm hw
    have hr0 : rest = [] := List.eq_nil_of_length_eq_zero (by omega)
    subst hr0
    have hp : pre = s := by simpa using hp.symm
    subst hp
    exact stop out inn stage beg word m hm hw
  | succ k ih =>
    intro pre rest out inn stage beg word m hp hk hm hw
    match rest, hp, hk with
    | [], hp, hk =>
      have hp : pre = s := by simpa using hp.symm
      subst hp
      exact stop out inn stage beg word m (by omega) hw
    | c :: rest, hp, hk =>
      simp only [List.length_cons] at hk
      have hlen : s.length = pre.length + rest.length + 1 := by rw [hp]; simp; omega
      have ho := hw.lo
      have hst := hw.ls
      have hbe := hw.lb
      have hwo := hw.lw
      have on : ∀ (d : Nat) (out' : List (List (List UInt8))) (zDj : Bool) (Ms : List (List UInt8)) (zDk word' : List Int), 1 <= d -> d <= rest.length + 1 -> sJ (pre.length + d) out' zDj Ms zDk word' ->
          ∃ r, fix (bJ n) (m - 1) (s, out', zDj, (pre.length : Int) + (d : Int), Ms, zDk, word', ()) = some r := by
        intro d out' zDj Ms zDk word' h1 h2 hw'
        have hl : (pre ++ (c :: rest).take d).length = pre.length + d := by simp; omega
        have hi := ih (pre ++ (c :: rest).take d) ((c :: rest).drop d) out' zDj Ms zDk word' (m - 1) (by rw [hp]; simp) (by simp; omega) (by omega) (by rw [hl]; exact hw')
        rw [hl] at hi
        rwa [show ((pre.length + d : Nat) : Int) = (pre.length : Int) + (d : Int) by omega] at hi
      rw [qD (by omega), bJ]
      simp only
      rw [bP (decide_eq_true (by omega)), bW (Ib (by omega)), Dy hp]
      have blank : gH n (fix (bJ n) (m - 1)) (s, (c.toNat : Int), true, out, inn, (pre.length : Int), stage, beg, word, ()) = fix (bJ n) (m - 1) (s, out, false, (pre.length : Int) + ((1 : Nat) : Int), qK inn stage word, beg, [], ()) := by
        rw [gH]
        simp only
        rw [zHd, Ec (by omega), iQ]
        simp only
        rw [lT (by omega) (by omega)]
        rfl
      by_cases h1 : ((c.toNat : Int) == 32) = true
      · rw [bP h1, Fv, blank]
        exact on 1 _ _ _ _ _ (by omega) (by omega) (hw.zOz (by omega))
      · rw [bI (by simpa using h1), Fv]
        by_cases h2 : ((c.toNat : Int) == 9) = true
        · rw [h2, blank]
          exact on 1 _ _ _ _ _ (by omega) (by omega) (hw.zOz (by omega))
        · rw [show ((c.toNat : Int) == 9) = false by simpa using h2, gH]
          simp only
          rw [zMq]
          by_cases h3 : ((c.toNat : Int) == 124) = true
          · rw [bP h3, Ec (by omega), iQ]
            simp only
            have he : (if inn = true then stage ++ [bE word] else stage) = qK inn stage word := rfl
            simp only [he]
            by_cases h4 : qK inn stage word = []
            · rw [h4, bP (by simp)]
              exact ⟨_, rfl⟩
            · have hp0 : 0 < (qK inn stage word).length := List.length_pos_iff.2 h4
              rw [bI (by simpa using h4), bW (by simp [room]; omega), lT (by omega) (by omega)]
              exact on 1 _ _ _ _ _ (by omega) (by omega) (hw.zRd (by omega) h4)
          · rw [bI (by simpa using h3)]
            have zDl : ∀ b : Bool, ∃ r, jn (gG n (fix (bJ n) (m - 1))) (s, (c.toNat : Int), b, out, inn, (pre.length : Int), stage, beg, word, ()) = some r := by
              intro b
              rw [Fv, gG]
              simp only
              cases b with
              | true => rw [zHd]; exact ⟨_, rfl⟩
              | false =>
                rw [zMq, lT (x := (pre.length : Int) + 1) (by omega) (by omega)]
                have hdr : s.drop ((pre.length : Int) + 1).toNat = rest := by
                  rw [hp, show ((pre.length : Int) + 1).toNat = pre.length + 1 by omega]
                  simp
                have hin : (decide (0 <= (pre.length : Int) + 1) && decide ((pre.length : Int) + 1 <= (s.length : Int))) = true := by
                  simp; omega
                have hbs : ∀ x : Int, (Xi x inn stage beg).length <= pre.length + 1 := by
                  intro x; unfold Xi; split
                  · simp; omega
                  · omega
                have w1 : dH n (inn, (pre.length : Int), stage, beg, ()) = some (true, (pre.length : Int), stage, Xi (pre.length : Int) inn stage beg, ()) := zFl (by omega)
                by_cases h5 : ((c.toNat : Int) == 39) = true
                · rw [bP h5, bW hin, hdr]
                  unfold strings_Cut
                  simp only
                  rw [bW (decide_eq_true (by omega)), iQ]
                  rw [zJg]
                  cases hc : oU 39 rest with
                  | mk x yz =>
                    obtain ⟨y, z⟩ := yz
                    simp only
                    cases z with
                    | false => rw [bP (by simp)]; exact ⟨_, rfl⟩
                    | true =>
                      have hcl : x.length + 1 <= rest.length := by
                        have := (cutB_hit hc).1
                        rw [this]; simp
                      rw [bI (by simp), w1, iQ]
                      simp only
                      rw [bW (by simp [room]; omega), lT (x := (x.length : Int) + 2) (by omega) (by omega), lT (by omega) (by omega), show (pre.length : Int) + ((x.length : Int) + 2) = (pre.length : Int) + ((x.length + 2 : Nat) : Int) by omega]
                      exact on (x.length + 2) _ _ _ _ _ (by omega) (by omega) (hw.zDi (by omega) (by simp [Wy]; omega))
                · rw [bI (by simpa using h5)]
                  by_cases h6 : ((c.toNat : Int) == 34) = true
                  · rw [bP h6, bW hin, hdr]
                    obtain ⟨b, q, w, hq, hq2⟩ := zDh (n := n) (s := rest) (by omega) (by omega)
                    rw [hq, iQ]
                    simp only
                    by_cases h7 : (q == 0) = true
                    · rw [bP h7]
                      by_cases h8 : decide (w ≥ 0) = true
                      · rw [bP h8]; exact ⟨_, rfl⟩
                      · rw [bI (by simpa using h8)]; exact ⟨_, rfl⟩
                    · rw [bI (by simpa using h7), w1, iQ]
                      simp only
                      rcases hq2 with rfl | ⟨q', rfl, g1, g2, g3⟩
                      · simp at h7
                      · rw [bW (by simp [room]; omega), lT (x := (q' : Int) + 1) (by omega) (by omega), lT (by omega) (by omega), show (pre.length : Int) + ((q' : Int) + 1) = (pre.length : Int) + ((q' + 1 : Nat) : Int) by omega]
                        exact on (q' + 1) _ _ _ _ _ (by omega) (by omega) (hw.zDi (by omega) (by simp; omega))
                  · rw [bI (by simpa using h6)]
                    by_cases h9 : ((c.toNat : Int) == 92) = true
                    · rw [bP h9]
                      by_cases h10 : ((pre.length : Int) + 1 == (s.length : Int)) = true
                      · rw [bP h10]; exact ⟨_, rfl⟩
                      · rw [bI (by simpa using h10)]
                        have h10 : ¬ (pre.length : Int) + 1 = (s.length : Int) := by simpa using h10
                        have hb2 : inB ((pre.length : Int) + 1) s.length = true := zIu (by omega) (by omega)
                        rw [bW hb2]
                        by_cases h11 : (((bT 0 s ((pre.length : Int) + 1)).toNat : Int) == 10) = true
                        · rw [bP h11]; exact ⟨_, rfl⟩
                        · rw [bI (by simpa using h11), Fv, rU]
                          simp only
                          rw [w1, iQ]
                          simp only
                          rw [lT (x := (pre.length : Int) + 1) (by omega) (by omega), bW hb2, bW (by simp [room]; omega), lT (by omega) (by omega), show (pre.length : Int) + 2 = (pre.length : Int) + ((2 : Nat) : Int) by omega]
                          exact on 2 _ _ _ _ _ (by omega) (by omega) (hw.zDi (by omega) (by simp; omega))
                    · rw [bI (by simpa using h9), w1, iQ]
                      simp only
                      rw [bW (by simp [room]; omega), show (pre.length : Int) + 1 = (pre.length : Int) + ((1 : Nat) : Int) by omega, lT (by omega) (by omega)]
                      exact on 1 _ _ _ _ _ (by omega) (by omega) (hw.zDi (by omega) (by simp; omega))
            by_cases h12 : ((c.toNat : Int) == 35) = true
            · rw [bP h12]
              cases inn with
              | false => rw [bP (by simp)]; exact zDl _
              | true => rw [bI (by simp), Aq, iQ]; exact zDl _
            · rw [bI (by simpa using h12), Aq, iQ]
              exact zDl _
theorem zFn {n : Nat} {s : List UInt8} (hs : s.length <= 100000) (hn : s.length + 2 < n) : ∃ r, jN n s = some r :=
 zIl hs hn s.length [] s [] false [] [] [] n rfl (Nat.le_refl _) (by omega) ⟨by simp, by simp, by simp, by simp, by simp, by simp⟩
end Go.Dec
