/- Part of a proof over this seat: a library of my own, and what it says of this seat. No statement is proved here. -/
import Derived.Test.YthhbdkdofhhoeaaGreatDoorPartAR
import Derived.Test.YthhbdkdofhhoeaaGreatDoorPartAU
namespace Go.Dec
set_option linter.unusedVariables false
abbrev ak : Ty := .pair (.int .i64) (.pair (.arr 4 (.int .u64)) (.pair (.int .i64) (.pair (.int .i64) (.pair (.int .i64) (.pair (.int .i64) (.pair (.int .i64) .unit))))))
abbrev UL : Ty := .pair .str (.pair (.int .i64) .unit)
abbrev RQ : Ty := .pair (.int .i64) (.pair (.int .i64) .unit)
abbrev xM : Ty := .pair .str (.pair (.int .i64) (.pair (.slice ak) (.pair (.int .i64) (.pair (.arr 10 .bool) .unit))))
abbrev xO : Ty := .pair (.slice ak) (.pair (.int .i64) (.pair (.arr 10 .bool) RQ))
abbrev NJ : Ty := .pair .bool (.pair (.int .i64) (.pair (.arr 10 .bool) (.pair .bool .unit)))
abbrev NdT : Type := Int × List (Int) × Int × Int × Int × Int × Int × Unit
abbrev dR : Type := List UInt8 × Int × Int × List (Bool) × List (NdT) × Unit
abbrev lG : Type := Sum (Int × dR) (Int × Int × dR)
def eD (n : Nat) (x : List UInt8 × List UInt8) : Option (Bool) :=
 let s_0 : List UInt8 := x.1
 let DV : List UInt8 := x.2
 br (decide ((s_0.length : Int) ≥ (DV.length : Int))) (
  chk ((decide (0 <= (DV.length : Int)) && decide ((DV.length : Int) <= (s_0.length : Int)))) (
   let v1 : List UInt8 := s_0.take (DV.length : Int).toNat
   some (v1 == DV))) (
  some false)
def strings_HasPrefix (n : Nat) (x : List UInt8 × List UInt8) : Option (Bool) :=
 let s_0 : List UInt8 := x.1
 let DV : List UInt8 := x.2
 ob (eD n (s_0, DV)) fun y1 =>
 some y1
def aG (n : Nat) (x : List UInt8 × dR) : Option (Bool × dR) :=
 let t_1 : List UInt8 := x.1
 let s2 : List UInt8 := x.2.1
 let at3 : Int := x.2.2.1
 let dw : Int := x.2.2.2.1
 let dx : List (Bool) := x.2.2.2.2.1
 let aF : List (NdT) := x.2.2.2.2.2.1
 chk ((decide (0 <= at3) && decide (at3 <= (s2.length : Int)))) (
  ob (strings_HasPrefix n (s2.drop at3.toNat, t_1)) fun y7 =>
  some (y7, s2, at3, dw, dx, aF, ()))
def bB (n : Nat) (x : List UInt8 × dR) : Option (Bool × dR) :=
 let t_1 : List UInt8 := x.1
 let s2 : List UInt8 := x.2.1
 let at3 : Int := x.2.2.1
 let dw : Int := x.2.2.2.1
 let dx : List (Bool) := x.2.2.2.2.1
 let aF : List (NdT) := x.2.2.2.2.2.1
 ob (aG n (t_1, s2, at3, dw, dx, aF, ())) fun y7 =>
 br (!y7.1) (
  some (false, y7.2.1, y7.2.2.1, y7.2.2.2.1, y7.2.2.2.2.1, y7.2.2.2.2.2.1, ())) (
  let v8 : Int := IntKind.wrap .i64 (y7.2.2.1 + (t_1.length : Int))
  some (true, y7.2.1, v8, y7.2.2.2.1, y7.2.2.2.2.1, y7.2.2.2.2.2.1, ()))
def aY (n : Nat) (x : Int × List (Int) × Int × Int × Int × Int × Int × dR) : Option (Int × dR) :=
 let n_1 : Int := x.1
 let n_2 : List (Int) := x.2.1
 let n_3 : Int := x.2.2.1
 let n_4 : Int := x.2.2.2.1
 let n_5 : Int := x.2.2.2.2.1
 let n_6 : Int := x.2.2.2.2.2.1
 let n_7 : Int := x.2.2.2.2.2.2.1
 let s8 : List UInt8 := x.2.2.2.2.2.2.2.1
 let at9 : Int := x.2.2.2.2.2.2.2.2.1
 let lX : Int := x.2.2.2.2.2.2.2.2.2.1
 let lY : List (Bool) := x.2.2.2.2.2.2.2.2.2.2.1
 let pX : List (NdT) := x.2.2.2.2.2.2.2.2.2.2.2.1
 chk (Nat.ble ((pX.length + ([(n_1, (n_2, (n_3, (n_4, (n_5, (n_6, (n_7, ())))))))] : List (NdT)).length) * 80) room) (
  let r13 : List (NdT) := pX ++ [(n_1, (n_2, (n_3, (n_4, (n_5, (n_6, (n_7, ())))))))]
  let v14 : Int := ((r13.length : Nat) : Int)
  let v15 : Int := IntKind.wrap .i64 (v14 - 1)
  some (v15, s8, at9, lX, lY, r13, ()))
def jq (n : Nat) (x : dR) : Option (Bool × dR) :=
 let s1 : List UInt8 := x.1
 let at2 : Int := x.2.1
 let yA : Int := x.2.2.1
 let yB : List (Bool) := x.2.2.2.1
 let jU : List (NdT) := x.2.2.2.2.1
 br (at2 == (s1.length : Int)) (
  some (true, s1, at2, yA, yB, jU, ())) (
  ob (aG n ([92, 41], s1, at2, yA, yB, jU, ())) fun y6 =>
  some (y6.1, y6.2.1, y6.2.2.1, y6.2.2.2.1, y6.2.2.2.2.1, y6.2.2.2.2.2.1, ()))
def II (n : Nat) (g0 : Int × List (Int) × List (Int) × Unit -> Option (List (Int))) (x1 : Int × List (Int) × List (Int) × Unit) : Option (List (Int)) :=
 let Bl : Int := x1.1
 let b3 : List (Int) := x1.2.1
 let b4 : List (Int) := x1.2.2.1
 br (decide (Bl < 4)) (
  chk (inB Bl 4) (
   chk (decide (Bl.toNat < 4)) (
    let v5 : Int := b3.getD (Bl.toNat) (Ty.dflt (.int .u64))
    let v6 : Int := bY .u64 .xor 18446744073709551615 v5
    chk (inB Bl 4) (
     chk (decide (Bl.toNat < 4)) (
      let v7 : Int := IntKind.wrap .i64 (Bl + 1)
      g0 (v7, b3.set (Bl.toNat) v6, b4, ())))))) (
  some b3)
def vM (n : Nat) (x : List (Int)) : Option (List (Int)) :=
 let s_0 : List (Int) := x
 fix (II n) n (0, s_0, [0, 0, 0, 0], ())
def bJ (n : Nat) (x : List (Int) × dR) : Option (Int × dR) :=
 let s_1 : List (Int) := x.1
 let s2 : List UInt8 := x.2.1
 let at3 : Int := x.2.2.1
 let dw : Int := x.2.2.2.1
 let dx : List (Bool) := x.2.2.2.2.1
 let aF : List (NdT) := x.2.2.2.2.2.1
 ob (aY n (1, s_1, 0, 0, 0, 0, 0, s2, at3, dw, dx, aF, ())) fun y7 =>
 some (y7.1, y7.2.1, y7.2.2.1, y7.2.2.2.1, y7.2.2.2.2.1, y7.2.2.2.2.2.1, ())
def cO (n : Nat) (x : List UInt8 × List UInt8 × Int × Unit) : Option (Bool × List UInt8 × Int × Unit) :=
 let t_1 : List UInt8 := x.1
 let s2 : List UInt8 := x.2.1
 let at3 : Int := x.2.2.1
 chk ((decide (0 <= at3) && decide (at3 <= (s2.length : Int)))) (
  ob (strings_HasPrefix n (s2.drop at3.toNat, t_1)) fun y4 =>
  some (y4, s2, at3, ()))
def bX (n : Nat) (x : List UInt8 × List UInt8 × Int × Unit) : Option (Bool × List UInt8 × Int × Unit) :=
 let t_1 : List UInt8 := x.1
 let s2 : List UInt8 := x.2.1
 let at3 : Int := x.2.2.1
 ob (cO n (t_1, s2, at3, ())) fun y4 =>
 br (!y4.1) (
  some (false, y4.2.1, y4.2.2.1, ())) (
  let v5 : Int := IntKind.wrap .i64 (y4.2.2.1 + (t_1.length : Int))
  some (true, y4.2.1, v5, ()))
def aR (_n : Nat) (x : List UInt8 × Int × Unit) : Option (Sum (List UInt8 × Int × Unit) (Int × Int × List UInt8 × Int × Unit)) := some (.inr (42, 0, x))
def kT (n : Nat) (g0 : Int × Int × List (Int) × Unit -> Option (List (Int))) (x1 : Int × Int × List (Int) × Unit) : Option (List (Int)) :=
 let b_2 : Int := x1.1
 let i_3 : Int := x1.2.1
 let b4 : List (Int) := x1.2.2.1
 br (decide (i_3 <= (IntKind.wrap .i64 b_2))) (
  chk (decide (0 <= 6)) (
   chk (inB (jA .i64 i_3 6) 4) (
    chk (decide ((jA .i64 i_3 6).toNat < 4)) (
     let v5 : Int := b4.getD ((jA .i64 i_3 6).toNat) (Ty.dflt (.int .u64))
     chk (decide (0 <= bY .i64 .and i_3 63)) (
      let v6 : Int := Ap .u64 1 (bY .i64 .and i_3 63)
      chk (inB (jA .i64 i_3 6) 4) (
       chk (decide ((jA .i64 i_3 6).toNat < 4)) (
        let v7 : Int := IntKind.wrap .i64 (i_3 + 1)
        g0 (b_2, v7, b4.set ((jA .i64 i_3 6).toNat) (bY .u64 .or v5 v6), ())))))))) (
  some b4)
def bF (n : Nat) (x : Int × Int) : Option (List (Int)) :=
 let a_0 : Int := x.1
 let b_1 : Int := x.2
 fix (kT n) n (b_1, IntKind.wrap .i64 a_0, [0, 0, 0, 0], ())
def Bn (n : Nat) (g0 : List (List (Int)) × Int × Int × List (Int) × Unit -> Option (List (Int))) (g1 : List (List (Int)) × Int × Int × Int × List (Int) × List (Int) × Unit -> Option (List (Int))) (x7 : List (List (Int)) × Int × Int × Int × List (Int) × List (Int) × Unit) : Option (List (Int)) :=
 let Ua : List (List (Int)) := x7.1
 let Ub : Int := x7.2.1
 let RS : Int := x7.2.2.1
 let nK : Int := x7.2.2.2.1
 let b12 : List (Int) := x7.2.2.2.2.1
 let b13 : List (Int) := x7.2.2.2.2.2.1
 br (decide (nK < 4)) (
  chk (inB nK 4) (
   chk (decide (nK.toNat < 4)) (
    let v14 : Int := b12.getD (nK.toNat) (Ty.dflt (.int .u64))
    chk (inB nK 4) (
     chk (decide (nK.toNat < 4)) (
      let v15 : Int := b13.getD (nK.toNat) (Ty.dflt (.int .u64))
      chk (inB nK 4) (
       chk (decide (nK.toNat < 4)) (
        let v16 : Int := IntKind.wrap .i64 (nK + 1)
        g1 (Ua, Ub, RS, v16, b12.set (nK.toNat) (bY .u64 .or v14 v15), b13, ())))))))) (
  let v17 : Int := IntKind.wrap .i64 (RS + 1)
  g0 (Ua, Ub, v17, b12, ()))
def qP (n : Nat) (g0 : List (List (Int)) × Int × Int × List (Int) × Unit -> Option (List (Int))) (x1 : List (List (Int)) × Int × Int × List (Int) × Unit) : Option (List (Int)) :=
 let QO : List (List (Int)) := x1.1
 let Uc : Int := x1.2.1
 let NK : Int := x1.2.2.1
 let b5 : List (Int) := x1.2.2.2.1
 br (decide (NK < Uc)) (
  chk (inB NK QO.length) (
   let v6 : List (Int) := aW (Ty.dflt (.arr 4 (.int .u64))) QO NK
   fix (Bn n g0) n (QO, Uc, NK, 0, b5, v6, ()))) (
  some b5)
def jV (n : Nat) (x : List (List (Int))) : Option (List (Int)) :=
 let l_0 : List (List (Int)) := x
 fix (qP n) n (l_0, (l_0.length : Int), 0, [0, 0, 0, 0], ())
def qQ (n : Nat) (g0 : List UInt8 × Int × Int × List (Int) × Unit -> Option (List (Int))) (x1 : List UInt8 × Int × Int × List (Int) × Unit) : Option (List (Int)) :=
 let s_2 : List UInt8 := x1.1
 let Ud : Int := x1.2.1
 let Gp : Int := x1.2.2.1
 let b5 : List (Int) := x1.2.2.2.1
 br (decide (Gp < Ud)) (
  chk (inB Gp s_2.length) (
   let v6 : Int := ((aW 0 s_2 Gp).toNat : Int)
   chk (decide (0 <= 6)) (
    chk (inB (jA .u8 v6 6) 4) (
     chk (decide ((jA .u8 v6 6).toNat < 4)) (
      let v7 : Int := b5.getD ((jA .u8 v6 6).toNat) (Ty.dflt (.int .u64))
      chk (inB Gp s_2.length) (
       let v8 : Int := ((aW 0 s_2 Gp).toNat : Int)
       chk (decide (0 <= bY .u8 .and v8 63)) (
        let v9 : Int := Ap .u64 1 (bY .u8 .and v8 63)
        chk (inB (jA .u8 v6 6) 4) (
         chk (decide ((jA .u8 v6 6).toNat < 4)) (
          let v10 : Int := IntKind.wrap .i64 (Gp + 1)
          g0 (s_2, Ud, v10, b5.set ((jA .u8 v6 6).toNat) (bY .u64 .or v7 v9), ())))))))))) (
  some b5)
def kU (n : Nat) (x : List UInt8) : Option (List (Int)) :=
 let s_0 : List UInt8 := x
 fix (qQ n) n (s_0, (s_0.length : Int), 0, [0, 0, 0, 0], ())
def tY (n : Nat) (x : List UInt8) : Option (List (Int) × Bool) :=
 let dX : List UInt8 := x
 ob (bF n (65, 90)) fun y1 =>
 ob (bF n (97, 122)) fun y2 =>
 ob (bF n (48, 57)) fun y3 =>
 br (dX == [117, 112, 112, 101, 114]) (
  some (y1, true)) (
  br (dX == [108, 111, 119, 101, 114]) (
   some (y2, true)) (
   br (dX == [97, 108, 112, 104, 97]) (
    ob (jV n [y1, y2]) fun y4 =>
    some (y4, true)) (
    br (dX == [100, 105, 103, 105, 116]) (
     some (y3, true)) (
     br (dX == [97, 108, 110, 117, 109]) (
      ob (jV n [y1, y2, y3]) fun y5 =>
      some (y5, true)) (
      br (dX == [120, 100, 105, 103, 105, 116]) (
       ob (bF n (65, 70)) fun y6 =>
       ob (bF n (97, 102)) fun y7 =>
       ob (jV n [y3, y6, y7]) fun y8 =>
       some (y8, true)) (
       br (dX == [98, 108, 97, 110, 107]) (
        ob (kU n [32, 9]) fun y9 =>
        some (y9, true)) (
        br (dX == [115, 112, 97, 99, 101]) (
         ob (kU n [32, 9, 10, 11, 12, 13]) fun y10 =>
         some (y10, true)) (
         br (dX == [99, 110, 116, 114, 108]) (
          ob (bF n (0, 31)) fun y11 =>
          ob (kU n [127]) fun y12 =>
          ob (jV n [y11, y12]) fun y13 =>
          some (y13, true)) (
          br (dX == [103, 114, 97, 112, 104]) (
           ob (bF n (33, 126)) fun y14 =>
           some (y14, true)) (
           br (dX == [112, 114, 105, 110, 116]) (
            ob (bF n (32, 126)) fun y15 =>
            some (y15, true)) (
            br (dX == [112, 117, 110, 99, 116]) (
             ob (bF n (33, 47)) fun y16 =>
             ob (bF n (58, 64)) fun y17 =>
             ob (bF n (91, 96)) fun y18 =>
             ob (bF n (123, 126)) fun y19 =>
             ob (jV n [y16, y17, y18, y19]) fun y20 =>
             some (y20, true)) (
             some ([0, 0, 0, 0], false)))))))))))))
def lH (n : Nat) (x21 : List UInt8 × List UInt8 × Int × Unit) : Option (Sum (Int × Bool × List UInt8 × Int × Unit) (Int × Int × List UInt8 × Int × Unit)) :=
 let SE : List UInt8 := x21.1
 let s23 : List UInt8 := x21.2.1
 let QS : Int := x21.2.2.1
 chk (inB QS s23.length) (
  let v25 : Int := ((aW 0 s23 QS).toNat : Int)
  let v26 : Int := IntKind.wrap .i64 (QS + 3)
  some (.inl (v25, (SE == [46]), s23, v26, ())))
def fO (n : Nat) (x41 : List UInt8 × Int × Unit) : Option (Sum (Int × Bool × List UInt8 × Int × Unit) (Int × Int × List UInt8 × Int × Unit)) :=
 let s42 : List UInt8 := x41.1
 let Vg : Int := x41.2.1
 let v44 : Int := IntKind.wrap .i64 (Vg + 1)
 let v45 : Int := IntKind.wrap .i64 (v44 - 1)
 chk (inB v45 s42.length) (
  let v46 : Int := ((aW 0 s42 v45).toNat : Int)
  some (.inl (v46, true, s42, v44, ())))
def dZ (n : Nat) (x30 : Bool × Bool × List UInt8 × Int × Unit) : Option (Sum (Int × Bool × List UInt8 × Int × Unit) (Int × Int × List UInt8 × Int × Unit)) :=
 let QT : Bool := x30.1
 let Mh : Bool := x30.2.1
 let s33 : List UInt8 := x30.2.2.1
 let QU : Int := x30.2.2.2.1
 br (QU == (s33.length : Int)) (
  ob2 (aR n (s33, QU, ())) (fun y35 =>
   none) (fun y35 =>
   some (.inr (y35.1, y35.2.1, y35.2.2.1, y35.2.2.2.1, ())))) (
  ob (cO n ([91, 58], s33, QU, ())) fun y36 =>
  br y36.1 (
   ob2 (aR n (y36.2.1, y36.2.2.1, ())) (fun y37 =>
    none) (fun y37 =>
    some (.inr (y37.1, y37.2.1, y37.2.2.1, y37.2.2.2.1, ())))) (
   ob (cO n ([93], y36.2.1, y36.2.2.1, ())) fun y38 =>
   br y38.1 (
    br (!QT) (
     ob2 (aR n (y38.2.1, y38.2.2.1, ())) (fun y39 =>
      none) (fun y39 =>
      some (.inr (y39.1, y39.2.1, y39.2.2.1, y39.2.2.2.1, ())))) (
     br Mh (
      ob2 (aR n (y38.2.1, y38.2.2.1, ())) (fun y40 =>
       none) (fun y40 =>
       some (.inr (y40.1, y40.2.1, y40.2.2.1, y40.2.2.2.1, ())))) (
      jn (fO n) (y38.2.1, y38.2.2.1, ())))) (
    br Mh (
     ob2 (aR n (y38.2.1, y38.2.2.1, ())) (fun y47 =>
      none) (fun y47 =>
      some (.inr (y47.1, y47.2.1, y47.2.2.1, y47.2.2.2.1, ())))) (
     jn (fO n) (y38.2.1, y38.2.2.1, ())))))
def iN (n : Nat) (g0 : Bool × Bool × Int × Int × List UInt8 × Int × List (List UInt8) × Unit -> Option (Sum (Int × Bool × List UInt8 × Int × Unit) (Int × Int × List UInt8 × Int × Unit))) (x6 : Bool × Bool × Int × Int × List UInt8 × Int × List (List UInt8) × Unit) : Option (Sum (Int × Bool × List UInt8 × Int × Unit) (Int × Int × List UInt8 × Int × Unit)) :=
 let vN : Bool := x6.1
 let O1 : Bool := x6.2.1
 let RU : Int := x6.2.2.1
 let Bo : Int := x6.2.2.2.1
 let s11 : List UInt8 := x6.2.2.2.2.1
 let J7 : Int := x6.2.2.2.2.2.1
 let xC : List (List UInt8) := x6.2.2.2.2.2.2.1
 br (decide (Bo < RU)) (
  chk ((inB Bo (xC.length) && decide (0 + (xC.length) <= xC.length))) (
   chk (decide (0 + Bo.toNat < xC.length)) (
    let v14 : List UInt8 := xC.getD (0 + Bo.toNat) (Ty.dflt .str)
    chk (decide ([91].length + v14.length <= aD)) (
     ob (bX n ([91] ++ v14, s11, J7, ())) fun y15 =>
     br (!y15.1) (
      let v16 : Int := IntKind.wrap .i64 (Bo + 1)
      g0 (vN, O1, RU, v16, y15.2.1, y15.2.2.1, xC, ())) (
      br ((y15.2.1.length : Int) == y15.2.2.1) (
       ob2 (aR n (y15.2.1, y15.2.2.1, ())) (fun y17 =>
        none) (fun y17 =>
        some (.inr (y17.1, y17.2.1, y17.2.2.1, y17.2.2.2.1, ())))) (
       let v18 : Int := IntKind.wrap .i64 (y15.2.2.1 + 1)
       chk ((decide (0 <= v18) && decide (v18 <= (y15.2.1.length : Int)))) (
        chk (decide (v14.length + ([93] : List UInt8).length <= aD)) (
         ob (strings_HasPrefix n (y15.2.1.drop v18.toNat, v14 ++ [93])) fun y19 =>
         br (!y19) (
          ob2 (aR n (y15.2.1, y15.2.2.1, ())) (fun y20 =>
           none) (fun y20 =>
           some (.inr (y20.1, y20.2.1, y20.2.2.1, y20.2.2.2.1, ())))) (
          jn (lH n) (v14, y15.2.1, y15.2.2.1, ())))))))))) (
  ob (bX n ([92, 110], s11, J7, ())) fun y27 =>
  br y27.1 (
   some (.inl (10, true, y27.2.1, y27.2.2.1, ()))) (
   ob (cO n ([45], y27.2.1, y27.2.2.1, ())) fun y28 =>
   br y28.1 (
    br (!vN) (
     br (!O1) (
      ob (cO n ([45, 93], y28.2.1, y28.2.2.1, ())) fun y29 =>
      jn (dZ n) (vN, (!y29.1), y29.2.1, y29.2.2.1, ())) (
      jn (dZ n) (vN, false, y28.2.1, y28.2.2.1, ()))) (
     jn (dZ n) (vN, false, y28.2.1, y28.2.2.1, ()))) (
    jn (dZ n) (vN, false, y28.2.1, y28.2.2.1, ()))))
def iH (n : Nat) (x : Bool × Bool × List UInt8 × Int × Unit) : Option (Sum (Int × Bool × List UInt8 × Int × Unit) (Int × Int × List UInt8 × Int × Unit)) :=
 let qE : Bool := x.1
 let Ue : Bool := x.2.1
 let s3 : List UInt8 := x.2.2.1
 let at4 : Int := x.2.2.2.1
 let v5 : Int := (([[46], [61]].length : Nat) : Int)
 fix (iN n) n (qE, Ue, v5, 0, s3, at4, [[46], [61]], ())
def jg (n : Nat) (x : Bool × List UInt8 × Int × Unit) : Option (Sum (List (Int) × List UInt8 × Int × Unit) (Int × Int × List UInt8 × Int × Unit)) :=
 let qE : Bool := x.1
 let s2 : List UInt8 := x.2.1
 let at3 : Int := x.2.2.1
 ob (bX n ([91, 58], s2, at3, ())) fun y4 =>
 br y4.1 (
  chk ((decide (0 <= y4.2.2.1) && decide (y4.2.2.1 <= (y4.2.1.length : Int)))) (
   let v5 : List UInt8 := y4.2.1.drop y4.2.2.1.toNat
   ob (strings_Cut n (v5, [58, 93])) fun y6 =>
   let v7 : Int := IntKind.wrap .i64 (y4.2.2.1 + (y6.1.length : Int))
   ob (tY n y6.1) fun y8 =>
   br (!y8.2) (
    ob2 (aR n (y4.2.1, v7, ())) (fun y9 =>
     none) (fun y9 =>
     some (.inr (y9.1, y9.2.1, y9.2.2.1, y9.2.2.2.1, ())))) (
    ob (bX n ([58, 93], y4.2.1, v7, ())) fun y10 =>
    br (!y10.1) (
     ob2 (aR n (y10.2.1, y10.2.2.1, ())) (fun y11 =>
      none) (fun y11 =>
      some (.inr (y11.1, y11.2.1, y11.2.2.1, y11.2.2.2.1, ())))) (
     some (.inl (y8.1, y10.2.1, y10.2.2.1, ())))))) (
  ob2 (iH n (qE, false, y4.2.1, y4.2.2.1, ())) (fun y12 =>
   ob (cO n ([45], y12.2.2.1, y12.2.2.2.1, ())) fun y13 =>
   br (!y13.1) (
    ob (bF n (y12.1, y12.1)) fun y14 =>
    some (.inl (y14, y13.2.1, y13.2.2.1, ()))) (
    ob (cO n ([45, 93], y13.2.1, y13.2.2.1, ())) fun y15 =>
    br y15.1 (
     ob (bF n (y12.1, y12.1)) fun y16 =>
     some (.inl (y16, y15.2.1, y15.2.2.1, ()))) (
     let v17 : Int := IntKind.wrap .i64 (y15.2.2.1 + 1)
     br (v17 == (y15.2.1.length : Int)) (
      ob (bF n (y12.1, y12.1)) fun y18 =>
      some (.inl (y18, y15.2.1, y15.2.2.1, ()))) (
      let v19 : Int := IntKind.wrap .i64 (y15.2.2.1 + 1)
      ob2 (iH n (false, true, y15.2.1, v19, ())) (fun y20 =>
       br (!y12.2.1) (
        ob2 (aR n (y20.2.2.1, y20.2.2.2.1, ())) (fun y21 =>
         none) (fun y21 =>
         some (.inr (y21.1, y21.2.1, y21.2.2.1, y21.2.2.2.1, ())))) (
        br (!y20.2.1) (
         ob2 (aR n (y20.2.2.1, y20.2.2.2.1, ())) (fun y22 =>
          none) (fun y22 =>
          some (.inr (y22.1, y22.2.1, y22.2.2.1, y22.2.2.2.1, ())))) (
         br (decide (y20.1 < y12.1)) (
          ob2 (aR n (y20.2.2.1, y20.2.2.2.1, ())) (fun y23 =>
           none) (fun y23 =>
           some (.inr (y23.1, y23.2.1, y23.2.2.1, y23.2.2.2.1, ())))) (
          ob (bF n (y12.1, y20.1)) fun y24 =>
          some (.inl (y24, y20.2.2.1, y20.2.2.2.1, ())))))) (fun y20 =>
       some (.inr (y20.1, y20.2.1, y20.2.2.1, y20.2.2.2.1, ()))))))) (fun y12 =>
   some (.inr (y12.1, y12.2.1, y12.2.2.1, y12.2.2.2.1, ()))))
def iE (n : Nat) (g0 : Bool × Bool × List (Int) × List UInt8 × Int × Unit -> Option (Sum (List (Int) × List UInt8 × Int × Unit) (Int × Int × List (Int) × List UInt8 × Int × Unit))) (x7 : Bool × Bool × List (Int) × List UInt8 × Int × Unit) : Option (Sum (List (Int) × List UInt8 × Int × Unit) (Int × Int × List (Int) × List UInt8 × Int × Unit)) :=
 let NM : Bool := x7.1
 let Gq : Bool := x7.2.1
 let b10 : List (Int) := x7.2.2.1
 let s11 : List UInt8 := x7.2.2.2.1
 let J7 : Int := x7.2.2.2.2.1
 br Gq (
  ob2 (jg n (Gq, s11, J7, ())) (fun y13 =>
   ob (jV n [b10, y13.1]) fun y14 =>
   g0 (NM, false, y14, y13.2.1, y13.2.2.1, ())) (fun y13 =>
   some (.inr (y13.1, y13.2.1, b10, y13.2.2.1, y13.2.2.2.1, ())))) (
  ob (bX n ([93], s11, J7, ())) fun y15 =>
  br (!y15.1) (
   ob2 (jg n (Gq, y15.2.1, y15.2.2.1, ())) (fun y16 =>
    ob (jV n [b10, y16.1]) fun y17 =>
    g0 (NM, false, y17, y16.2.1, y16.2.2.1, ())) (fun y16 =>
    some (.inr (y16.1, y16.2.1, b10, y16.2.2.1, y16.2.2.2.1, ())))) (
   br NM (
    ob (vM n b10) fun y18 =>
    br (Ty.beq (.arr 4 (.int .u64)) y18 ([0, 0, 0, 0])) (
     ob2 (aR n (y15.2.1, y15.2.2.1, ())) (fun y19 =>
      none) (fun y19 =>
      some (.inr (y19.1, y19.2.1, y18, y19.2.2.1, y19.2.2.2.1, ())))) (
     some (.inl (y18, y15.2.1, y15.2.2.1, ())))) (
    br (Ty.beq (.arr 4 (.int .u64)) b10 ([0, 0, 0, 0])) (
     ob2 (aR n (y15.2.1, y15.2.2.1, ())) (fun y20 =>
      none) (fun y20 =>
      some (.inr (y20.1, y20.2.1, b10, y20.2.2.1, y20.2.2.2.1, ())))) (
     some (.inl (b10, y15.2.1, y15.2.2.1, ()))))))
def ig (n : Nat) (x : List (Int) × List UInt8 × Int × Unit) : Option (Sum (List (Int) × List UInt8 × Int × Unit) (Int × Int × List (Int) × List UInt8 × Int × Unit)) :=
 let b1 : List (Int) := x.1
 let s2 : List UInt8 := x.2.1
 let at3 : Int := x.2.2.1
 ob (bX n ([91], s2, at3, ())) fun y4 =>
 br (!y4.1) (
  ob2 (aR n (y4.2.1, y4.2.2.1, ())) (fun y5 =>
   none) (fun y5 =>
   some (.inr (y5.1, y5.2.1, b1, y5.2.2.1, y5.2.2.2.1, ())))) (
  ob (bX n ([94], y4.2.1, y4.2.2.1, ())) fun y6 =>
  fix (iE n) n (y6.1, true, b1, y6.2.1, y6.2.2.1, ()))
def dG (n : Nat) (x : List (Int) × List UInt8 × Int × Unit) : Option (Int × Int × List (Int) × List UInt8 × Int × Unit) := ob2 (ig n x) (fun y => some (0, 0, y)) (fun y => some y)
def lI (n : Nat) (x : List UInt8) : Option (List (Int) × Int × Int) :=
 let s_0 : List UInt8 := x
 ob (dG n ([0, 0, 0, 0], s_0, 0, ())) fun y1 =>
 br (y1.1 != 0) (
  some ([0, 0, 0, 0], 0, y1.1)) (
  some (y1.2.2.1, y1.2.2.2.2.1, 0))
def au (_n : Nat) (x : Int × Int × dR) : Option (Sum (dR) (Int × Int × dR)) := some (.inr x)
def iD (n : Nat) (g0 : Int × dR -> Option (Int × dR)) (x6 : Int × dR) : Option (Int × dR) :=
 let i_7 : Int := x6.1
 let s8 : List UInt8 := x6.2.1
 let at9 : Int := x6.2.2.1
 let lX : Int := x6.2.2.2.1
 let lY : List (Bool) := x6.2.2.2.2.1
 let pX : List (NdT) := x6.2.2.2.2.2.1
 br (decide (i_7 < (s8.length : Int))) (
  let v13 : Int := IntKind.wrap .i64 (at9 + 3)
  br (decide (i_7 < v13)) (
   chk (inB i_7 s8.length) (
    let v14 : Int := ((aW 0 s8 i_7).toNat : Int)
    br (decide (v14 ≥ 48)) (
     chk (inB i_7 s8.length) (
      let v15 : Int := ((aW 0 s8 i_7).toNat : Int)
      br (decide (v15 <= 57)) (
       let v16 : Int := IntKind.wrap .i64 (i_7 + 1)
       g0 (v16, s8, at9, lX, lY, pX, ())) (
       chk ((decide (0 <= i_7) && decide (i_7 <= (s8.length : Int)) && (decide (0 <= at9) && decide (at9 <= i_7)))) (
        let v17 : List UInt8 := (s8.take i_7.toNat).drop at9.toNat
        ob (strconv_Atoi n v17) fun y18 =>
        br (!(!y18.2)) (
         some ((-1), s8, i_7, lX, lY, pX, ())) (
         some (y18.1, s8, i_7, lX, lY, pX, ())))))) (
     chk ((decide (0 <= i_7) && decide (i_7 <= (s8.length : Int)) && (decide (0 <= at9) && decide (at9 <= i_7)))) (
      let v19 : List UInt8 := (s8.take i_7.toNat).drop at9.toNat
      ob (strconv_Atoi n v19) fun y20 =>
      br (!(!y20.2)) (
       some ((-1), s8, i_7, lX, lY, pX, ())) (
       some (y20.1, s8, i_7, lX, lY, pX, ())))))) (
   chk ((decide (0 <= i_7) && decide (i_7 <= (s8.length : Int)) && (decide (0 <= at9) && decide (at9 <= i_7)))) (
    let v21 : List UInt8 := (s8.take i_7.toNat).drop at9.toNat
    ob (strconv_Atoi n v21) fun y22 =>
    br (!(!y22.2)) (
     some ((-1), s8, i_7, lX, lY, pX, ())) (
     some (y22.1, s8, i_7, lX, lY, pX, ()))))) (
  chk ((decide (0 <= i_7) && decide (i_7 <= (s8.length : Int)) && (decide (0 <= at9) && decide (at9 <= i_7)))) (
   let v23 : List UInt8 := (s8.take i_7.toNat).drop at9.toNat
   ob (strconv_Atoi n v23) fun y24 =>
   br (!(!y24.2)) (
    some ((-1), s8, i_7, lX, lY, pX, ())) (
    some (y24.1, s8, i_7, lX, lY, pX, ()))))
def gV (n : Nat) (x : dR) : Option (Int × dR) :=
 let s1 : List UInt8 := x.1
 let at2 : Int := x.2.1
 let yA : Int := x.2.2.1
 let yB : List (Bool) := x.2.2.2.1
 let jU : List (NdT) := x.2.2.2.2.1
 fix (iD n) n (at2, s1, at2, yA, yB, jU, ())
def jW (n : Nat) (x : Int × dR) : Option lG :=
 let CB : Int := x.1
 let s2 : List UInt8 := x.2.1
 let at3 : Int := x.2.2.1
 let dw : Int := x.2.2.2.1
 let dx : List (Bool) := x.2.2.2.2.1
 let aF : List (NdT) := x.2.2.2.2.2.1
 ob (bB n ([42], s2, at3, dw, dx, aF, ())) fun y7 =>
 br y7.1 (
  ob (aY n (6, [0, 0, 0, 0], CB, 0, 0, (-1), 0, y7.2.1, y7.2.2.1, y7.2.2.2.1, y7.2.2.2.2.1, y7.2.2.2.2.2.1, ())) fun y8 =>
  ob (aG n ([42], y8.2.1, y8.2.2.1, y8.2.2.2.1, y8.2.2.2.2.1, y8.2.2.2.2.2.1, ())) fun y9 =>
  br y9.1 (
   ob2 (au n (43, y9.2.2.1, y9.2.1, y9.2.2.1, y9.2.2.2.1, y9.2.2.2.2.1, y9.2.2.2.2.2.1, ())) (fun y10 =>
    none) (fun y10 =>
    some (.inr (y10.1, y10.2.1, y10.2.2.1, y10.2.2.2.1, y10.2.2.2.2.1, y10.2.2.2.2.2.1, y10.2.2.2.2.2.2.1, ())))) (
   ob (aG n ([92, 123], y9.2.1, y9.2.2.1, y9.2.2.2.1, y9.2.2.2.2.1, y9.2.2.2.2.2.1, ())) fun y11 =>
   br y11.1 (
    ob2 (au n (43, y11.2.2.1, y11.2.1, y11.2.2.1, y11.2.2.2.1, y11.2.2.2.2.1, y11.2.2.2.2.2.1, ())) (fun y12 =>
     none) (fun y12 =>
     some (.inr (y12.1, y12.2.1, y12.2.2.1, y12.2.2.2.1, y12.2.2.2.2.1, y12.2.2.2.2.2.1, y12.2.2.2.2.2.2.1, ())))) (
    some (.inl (y8.1, y11.2.1, y11.2.2.1, y11.2.2.2.1, y11.2.2.2.2.1, y11.2.2.2.2.2.1, ()))))) (
  ob (bB n ([92, 123], y7.2.1, y7.2.2.1, y7.2.2.2.1, y7.2.2.2.2.1, y7.2.2.2.2.2.1, ())) fun y13 =>
  br (!y13.1) (
   some (.inl (CB, y13.2.1, y13.2.2.1, y13.2.2.2.1, y13.2.2.2.2.1, y13.2.2.2.2.2.1, ()))) (
   ob (gV n (y13.2.1, y13.2.2.1, y13.2.2.2.1, y13.2.2.2.2.1, y13.2.2.2.2.2.1, ())) fun y14 =>
   ob (bB n ([44], y14.2.1, y14.2.2.1, y14.2.2.2.1, y14.2.2.2.2.1, y14.2.2.2.2.2.1, ())) fun y15 =>
   br y15.1 (
    ob (gV n (y15.2.1, y15.2.2.1, y15.2.2.2.1, y15.2.2.2.2.1, y15.2.2.2.2.2.1, ())) fun y16 =>
    br (y14.1 == (-1)) (
     ob2 (au n (43, at3, y16.2.1, y16.2.2.1, y16.2.2.2.1, y16.2.2.2.2.1, y16.2.2.2.2.2.1, ())) (fun y17 =>
      none) (fun y17 =>
      some (.inr (y17.1, y17.2.1, y17.2.2.1, y17.2.2.2.1, y17.2.2.2.2.1, y17.2.2.2.2.2.1, y17.2.2.2.2.2.2.1, ())))) (
     ob (bB n ([92, 125], y16.2.1, y16.2.2.1, y16.2.2.2.1, y16.2.2.2.2.1, y16.2.2.2.2.2.1, ())) fun y18 =>
     br (!y18.1) (
      ob2 (au n (43, at3, y18.2.1, y18.2.2.1, y18.2.2.2.1, y18.2.2.2.2.1, y18.2.2.2.2.2.1, ())) (fun y19 =>
       none) (fun y19 =>
       some (.inr (y19.1, y19.2.1, y19.2.2.1, y19.2.2.2.1, y19.2.2.2.2.1, y19.2.2.2.2.2.1, y19.2.2.2.2.2.2.1, ())))) (
      br (decide (y14.1 > 255)) (
       ob2 (au n (43, at3, y18.2.1, y18.2.2.1, y18.2.2.2.1, y18.2.2.2.2.1, y18.2.2.2.2.2.1, ())) (fun y20 =>
        none) (fun y20 =>
        some (.inr (y20.1, y20.2.1, y20.2.2.1, y20.2.2.2.1, y20.2.2.2.2.1, y20.2.2.2.2.2.1, y20.2.2.2.2.2.2.1, ())))) (
       br (decide (y16.1 > 255)) (
        ob2 (au n (43, at3, y18.2.1, y18.2.2.1, y18.2.2.2.1, y18.2.2.2.2.1, y18.2.2.2.2.2.1, ())) (fun y21 =>
         none) (fun y21 =>
         some (.inr (y21.1, y21.2.1, y21.2.2.1, y21.2.2.2.1, y21.2.2.2.2.1, y21.2.2.2.2.2.1, y21.2.2.2.2.2.2.1, ())))) (
        br (y16.1 != (-1)) (
         let v22 : Int := if 1 > y14.1 then 1 else y14.1
         br (decide (y16.1 < v22)) (
          ob2 (au n (43, at3, y18.2.1, y18.2.2.1, y18.2.2.2.1, y18.2.2.2.2.1, y18.2.2.2.2.2.1, ())) (fun y23 =>
           none) (fun y23 =>
           some (.inr (y23.1, y23.2.1, y23.2.2.1, y23.2.2.2.1, y23.2.2.2.2.1, y23.2.2.2.2.2.1, y23.2.2.2.2.2.2.1, ())))) (
          ob (aY n (6, [0, 0, 0, 0], CB, 0, y14.1, y16.1, 0, y18.2.1, y18.2.2.1, y18.2.2.2.1, y18.2.2.2.2.1, y18.2.2.2.2.2.1, ())) fun y24 =>
          ob (aG n ([42], y24.2.1, y24.2.2.1, y24.2.2.2.1, y24.2.2.2.2.1, y24.2.2.2.2.2.1, ())) fun y25 =>
          br y25.1 (
           ob2 (au n (43, y25.2.2.1, y25.2.1, y25.2.2.1, y25.2.2.2.1, y25.2.2.2.2.1, y25.2.2.2.2.2.1, ())) (fun y26 =>
            none) (fun y26 =>
            some (.inr (y26.1, y26.2.1, y26.2.2.1, y26.2.2.2.1, y26.2.2.2.2.1, y26.2.2.2.2.2.1, y26.2.2.2.2.2.2.1, ())))) (
           ob (aG n ([92, 123], y25.2.1, y25.2.2.1, y25.2.2.2.1, y25.2.2.2.2.1, y25.2.2.2.2.2.1, ())) fun y27 =>
           br y27.1 (
            ob2 (au n (43, y27.2.2.1, y27.2.1, y27.2.2.1, y27.2.2.2.1, y27.2.2.2.2.1, y27.2.2.2.2.2.1, ())) (fun y28 =>
             none) (fun y28 =>
             some (.inr (y28.1, y28.2.1, y28.2.2.1, y28.2.2.2.1, y28.2.2.2.2.1, y28.2.2.2.2.2.1, y28.2.2.2.2.2.2.1, ())))) (
            some (.inl (y24.1, y27.2.1, y27.2.2.1, y27.2.2.2.1, y27.2.2.2.2.1, y27.2.2.2.2.2.1, ())))))) (
         ob (aY n (6, [0, 0, 0, 0], CB, 0, y14.1, y16.1, 0, y18.2.1, y18.2.2.1, y18.2.2.2.1, y18.2.2.2.2.1, y18.2.2.2.2.2.1, ())) fun y29 =>
         ob (aG n ([42], y29.2.1, y29.2.2.1, y29.2.2.2.1, y29.2.2.2.2.1, y29.2.2.2.2.2.1, ())) fun y30 =>
         br y30.1 (
          ob2 (au n (43, y30.2.2.1, y30.2.1, y30.2.2.1, y30.2.2.2.1, y30.2.2.2.2.1, y30.2.2.2.2.2.1, ())) (fun y31 =>
           none) (fun y31 =>
           some (.inr (y31.1, y31.2.1, y31.2.2.1, y31.2.2.2.1, y31.2.2.2.2.1, y31.2.2.2.2.2.1, y31.2.2.2.2.2.2.1, ())))) (
          ob (aG n ([92, 123], y30.2.1, y30.2.2.1, y30.2.2.2.1, y30.2.2.2.2.1, y30.2.2.2.2.2.1, ())) fun y32 =>
          br y32.1 (
           ob2 (au n (43, y32.2.2.1, y32.2.1, y32.2.2.1, y32.2.2.2.1, y32.2.2.2.2.1, y32.2.2.2.2.2.1, ())) (fun y33 =>
            none) (fun y33 =>
            some (.inr (y33.1, y33.2.1, y33.2.2.1, y33.2.2.2.1, y33.2.2.2.2.1, y33.2.2.2.2.2.1, y33.2.2.2.2.2.2.1, ())))) (
           some (.inl (y29.1, y32.2.1, y32.2.2.1, y32.2.2.2.1, y32.2.2.2.2.1, y32.2.2.2.2.2.1, ())))))))))) (
    br (y14.1 == (-1)) (
     ob2 (au n (43, at3, y15.2.1, y15.2.2.1, y15.2.2.2.1, y15.2.2.2.2.1, y15.2.2.2.2.2.1, ())) (fun y34 =>
      none) (fun y34 =>
      some (.inr (y34.1, y34.2.1, y34.2.2.1, y34.2.2.2.1, y34.2.2.2.2.1, y34.2.2.2.2.2.1, y34.2.2.2.2.2.2.1, ())))) (
     ob (bB n ([92, 125], y15.2.1, y15.2.2.1, y15.2.2.2.1, y15.2.2.2.2.1, y15.2.2.2.2.2.1, ())) fun y35 =>
     br (!y35.1) (
      ob2 (au n (43, at3, y35.2.1, y35.2.2.1, y35.2.2.2.1, y35.2.2.2.2.1, y35.2.2.2.2.2.1, ())) (fun y36 =>
       none) (fun y36 =>
       some (.inr (y36.1, y36.2.1, y36.2.2.1, y36.2.2.2.1, y36.2.2.2.2.1, y36.2.2.2.2.2.1, y36.2.2.2.2.2.2.1, ())))) (
      br (decide (y14.1 > 255)) (
       ob2 (au n (43, at3, y35.2.1, y35.2.2.1, y35.2.2.2.1, y35.2.2.2.2.1, y35.2.2.2.2.2.1, ())) (fun y37 =>
        none) (fun y37 =>
        some (.inr (y37.1, y37.2.1, y37.2.2.1, y37.2.2.2.1, y37.2.2.2.2.1, y37.2.2.2.2.2.1, y37.2.2.2.2.2.2.1, ())))) (
       br (decide (y14.1 > 255)) (
        ob2 (au n (43, at3, y35.2.1, y35.2.2.1, y35.2.2.2.1, y35.2.2.2.2.1, y35.2.2.2.2.2.1, ())) (fun y38 =>
         none) (fun y38 =>
         some (.inr (y38.1, y38.2.1, y38.2.2.1, y38.2.2.2.1, y38.2.2.2.2.1, y38.2.2.2.2.2.1, y38.2.2.2.2.2.2.1, ())))) (
        br (y14.1 != (-1)) (
         let v39 : Int := if 1 > y14.1 then 1 else y14.1
         br (decide (y14.1 < v39)) (
          ob2 (au n (43, at3, y35.2.1, y35.2.2.1, y35.2.2.2.1, y35.2.2.2.2.1, y35.2.2.2.2.2.1, ())) (fun y40 =>
           none) (fun y40 =>
           some (.inr (y40.1, y40.2.1, y40.2.2.1, y40.2.2.2.1, y40.2.2.2.2.1, y40.2.2.2.2.2.1, y40.2.2.2.2.2.2.1, ())))) (
          ob (aY n (6, [0, 0, 0, 0], CB, 0, y14.1, y14.1, 0, y35.2.1, y35.2.2.1, y35.2.2.2.1, y35.2.2.2.2.1, y35.2.2.2.2.2.1, ())) fun y41 =>
          ob (aG n ([42], y41.2.1, y41.2.2.1, y41.2.2.2.1, y41.2.2.2.2.1, y41.2.2.2.2.2.1, ())) fun y42 =>
          br y42.1 (
           ob2 (au n (43, y42.2.2.1, y42.2.1, y42.2.2.1, y42.2.2.2.1, y42.2.2.2.2.1, y42.2.2.2.2.2.1, ())) (fun y43 =>
            none) (fun y43 =>
            some (.inr (y43.1, y43.2.1, y43.2.2.1, y43.2.2.2.1, y43.2.2.2.2.1, y43.2.2.2.2.2.1, y43.2.2.2.2.2.2.1, ())))) (
           ob (aG n ([92, 123], y42.2.1, y42.2.2.1, y42.2.2.2.1, y42.2.2.2.2.1, y42.2.2.2.2.2.1, ())) fun y44 =>
           br y44.1 (
            ob2 (au n (43, y44.2.2.1, y44.2.1, y44.2.2.1, y44.2.2.2.1, y44.2.2.2.2.1, y44.2.2.2.2.2.1, ())) (fun y45 =>
             none) (fun y45 =>
             some (.inr (y45.1, y45.2.1, y45.2.2.1, y45.2.2.2.1, y45.2.2.2.2.1, y45.2.2.2.2.2.1, y45.2.2.2.2.2.2.1, ())))) (
            some (.inl (y41.1, y44.2.1, y44.2.2.1, y44.2.2.2.1, y44.2.2.2.2.1, y44.2.2.2.2.2.1, ())))))) (
         ob (aY n (6, [0, 0, 0, 0], CB, 0, y14.1, y14.1, 0, y35.2.1, y35.2.2.1, y35.2.2.2.1, y35.2.2.2.2.1, y35.2.2.2.2.2.1, ())) fun y46 =>
         ob (aG n ([42], y46.2.1, y46.2.2.1, y46.2.2.2.1, y46.2.2.2.2.1, y46.2.2.2.2.2.1, ())) fun y47 =>
         br y47.1 (
          ob2 (au n (43, y47.2.2.1, y47.2.1, y47.2.2.1, y47.2.2.2.1, y47.2.2.2.2.1, y47.2.2.2.2.2.1, ())) (fun y48 =>
           none) (fun y48 =>
           some (.inr (y48.1, y48.2.1, y48.2.2.1, y48.2.2.2.1, y48.2.2.2.2.1, y48.2.2.2.2.2.1, y48.2.2.2.2.2.2.1, ())))) (
          ob (aG n ([92, 123], y47.2.1, y47.2.2.1, y47.2.2.2.1, y47.2.2.2.2.1, y47.2.2.2.2.2.1, ())) fun y49 =>
          br y49.1 (
           ob2 (au n (43, y49.2.2.1, y49.2.1, y49.2.2.1, y49.2.2.2.1, y49.2.2.2.2.1, y49.2.2.2.2.2.1, ())) (fun y50 =>
            none) (fun y50 =>
            some (.inr (y50.1, y50.2.1, y50.2.2.1, y50.2.2.2.1, y50.2.2.2.2.1, y50.2.2.2.2.2.1, y50.2.2.2.2.2.2.1, ())))) (
           some (.inl (y46.1, y49.2.1, y49.2.2.1, y49.2.2.2.1, y49.2.2.2.2.1, y49.2.2.2.2.2.1, ()))))))))))))
def jX (n : Nat) (aC : (dR) -> Option lG) (x : Int × dR) : Option lG :=
 let Gr : Int := x.1
 let s2 : List UInt8 := x.2.1
 let at3 : Int := x.2.2.1
 let dw : Int := x.2.2.2.1
 let dx : List (Bool) := x.2.2.2.2.1
 let aF : List (NdT) := x.2.2.2.2.2.1
 br (dw == 9) (
  ob2 (au n (41, Gr, s2, at3, dw, dx, aF, ())) (fun y7 =>
   none) (fun y7 =>
   some (.inr (y7.1, y7.2.1, y7.2.2.1, y7.2.2.2.1, y7.2.2.2.2.1, y7.2.2.2.2.2.1, y7.2.2.2.2.2.2.1, ())))) (
  let v8 : Int := IntKind.wrap .i64 (dw + 1)
  ob2 (aC (s2, at3, v8, dx, aF, ())) (fun y9 =>
   br (y9.1 == (-1)) (
    ob2 (au n (41, Gr, y9.2.1, y9.2.2.1, y9.2.2.2.1, y9.2.2.2.2.1, y9.2.2.2.2.2.1, ())) (fun y10 =>
     none) (fun y10 =>
     some (.inr (y10.1, y10.2.1, y10.2.2.1, y10.2.2.2.1, y10.2.2.2.2.1, y10.2.2.2.2.2.1, y10.2.2.2.2.2.2.1, ())))) (
    ob (bB n ([92, 41], y9.2.1, y9.2.2.1, y9.2.2.2.1, y9.2.2.2.2.1, y9.2.2.2.2.2.1, ())) fun y11 =>
    br (!y11.1) (
     ob2 (au n (41, Gr, y11.2.1, y11.2.2.1, y11.2.2.2.1, y11.2.2.2.2.1, y11.2.2.2.2.2.1, ())) (fun y12 =>
      none) (fun y12 =>
      some (.inr (y12.1, y12.2.1, y12.2.2.1, y12.2.2.2.1, y12.2.2.2.2.1, y12.2.2.2.2.2.1, y12.2.2.2.2.2.2.1, ())))) (
     chk (inB v8 10) (
      chk (decide (v8.toNat < 10)) (
       ob (aY n (7, [0, 0, 0, 0], y9.1, 0, 0, 0, v8, y11.2.1, y11.2.2.1, y11.2.2.2.1, y11.2.2.2.2.1.set (v8.toNat) true, y11.2.2.2.2.2.1, ())) fun y13 =>
       some (.inl (y13.1, y13.2.1, y13.2.2.1, y13.2.2.2.1, y13.2.2.2.2.1, y13.2.2.2.2.2.1, ()))))))) (fun y9 =>
   some (.inr (y9.1, y9.2.1, y9.2.2.1, y9.2.2.2.1, y9.2.2.2.2.1, y9.2.2.2.2.2.1, y9.2.2.2.2.2.2.1, ()))))
def kV (n : Nat) (aC : (dR) -> Option lG) (x : Bool × dR) : Option lG :=
 let qE : Bool := x.1
 let s2 : List UInt8 := x.2.1
 let at3 : Int := x.2.2.1
 let dw : Int := x.2.2.2.1
 let dx : List (Bool) := x.2.2.2.2.1
 let aF : List (NdT) := x.2.2.2.2.2.1
 let v7 : Int := IntKind.wrap .i64 (at3 + 1)
 br (v7 == (s2.length : Int)) (
  ob2 (au n (40, at3, s2, v7, dw, dx, aF, ())) (fun y8 =>
   none) (fun y8 =>
   some (.inr (y8.1, y8.2.1, y8.2.2.1, y8.2.2.2.1, y8.2.2.2.2.1, y8.2.2.2.2.2.1, y8.2.2.2.2.2.2.1, ())))) (
  chk (inB v7 s2.length) (
   let v9 : Int := ((aW 0 s2 v7).toNat : Int)
   let v10 : Int := IntKind.wrap .i64 (v7 + 1)
   br (v9 == 40) (
    ob2 (jX n aC (at3, s2, v10, dw, dx, aF, ())) (fun y11 =>
     some (.inl (y11.1, y11.2.1, y11.2.2.1, y11.2.2.2.1, y11.2.2.2.2.1, y11.2.2.2.2.2.1, ()))) (fun y11 =>
     some (.inr (y11.1, y11.2.1, y11.2.2.1, y11.2.2.2.1, y11.2.2.2.2.1, y11.2.2.2.2.2.1, y11.2.2.2.2.2.2.1, ())))) (
    br (decide (v9 ≥ 49)) (
     br (decide (v9 <= 57)) (
      let v12 : Int := IntKind.wrap .u8 (v9 - 48)
      chk (inB (IntKind.wrap .i64 v12) 10) (
       chk (decide ((IntKind.wrap .i64 v12).toNat < 10)) (
        br (!(dx.getD ((IntKind.wrap .i64 v12).toNat) (Ty.dflt .bool))) (
         ob2 (au n (44, at3, s2, v10, dw, dx, aF, ())) (fun y13 =>
          none) (fun y13 =>
          some (.inr (y13.1, y13.2.1, y13.2.2.1, y13.2.2.2.1, y13.2.2.2.2.1, y13.2.2.2.2.2.1, y13.2.2.2.2.2.2.1, ())))) (
         ob (aY n (8, [0, 0, 0, 0], 0, 0, 0, 0, IntKind.wrap .i64 v12, s2, v10, dw, dx, aF, ())) fun y14 =>
         some (.inl (y14.1, y14.2.1, y14.2.2.1, y14.2.2.2.1, y14.2.2.2.2.1, y14.2.2.2.2.2.1, ())))))) (
      br (v9 == 110) (
       ob (kU n [10]) fun y15 =>
       ob (bJ n (y15, s2, v10, dw, dx, aF, ())) fun y16 =>
       some (.inl (y16.1, y16.2.1, y16.2.2.1, y16.2.2.2.1, y16.2.2.2.2.1, y16.2.2.2.2.2.1, ()))) (
       ob (strings_IndexByte n ([46, 91, 92, 42, 94, 36, 47], v9)) fun y17 =>
       br (decide (y17 ≥ 0)) (
        ob (bF n (v9, v9)) fun y18 =>
        ob (bJ n (y18, s2, v10, dw, dx, aF, ())) fun y19 =>
        some (.inl (y19.1, y19.2.1, y19.2.2.1, y19.2.2.2.1, y19.2.2.2.2.1, y19.2.2.2.2.2.1, ()))) (
        br (v9 == 123) (
         br qE (
          ob2 (au n (43, at3, s2, v10, dw, dx, aF, ())) (fun y20 =>
           none) (fun y20 =>
           some (.inr (y20.1, y20.2.1, y20.2.2.1, y20.2.2.2.1, y20.2.2.2.2.1, y20.2.2.2.2.2.1, y20.2.2.2.2.2.2.1, ())))) (
          ob2 (au n (40, at3, s2, v10, dw, dx, aF, ())) (fun y21 =>
           none) (fun y21 =>
           some (.inr (y21.1, y21.2.1, y21.2.2.1, y21.2.2.2.1, y21.2.2.2.2.1, y21.2.2.2.2.2.1, y21.2.2.2.2.2.2.1, ()))))) (
         ob2 (au n (40, at3, s2, v10, dw, dx, aF, ())) (fun y22 =>
          none) (fun y22 =>
          some (.inr (y22.1, y22.2.1, y22.2.2.1, y22.2.2.2.1, y22.2.2.2.2.1, y22.2.2.2.2.2.1, y22.2.2.2.2.2.2.1, ())))))))) (
     br (v9 == 110) (
      ob (kU n [10]) fun y23 =>
      ob (bJ n (y23, s2, v10, dw, dx, aF, ())) fun y24 =>
      some (.inl (y24.1, y24.2.1, y24.2.2.1, y24.2.2.2.1, y24.2.2.2.2.1, y24.2.2.2.2.2.1, ()))) (
      ob (strings_IndexByte n ([46, 91, 92, 42, 94, 36, 47], v9)) fun y25 =>
      br (decide (y25 ≥ 0)) (
       ob (bF n (v9, v9)) fun y26 =>
       ob (bJ n (y26, s2, v10, dw, dx, aF, ())) fun y27 =>
       some (.inl (y27.1, y27.2.1, y27.2.2.1, y27.2.2.2.1, y27.2.2.2.2.1, y27.2.2.2.2.2.1, ()))) (
       br (v9 == 123) (
        br qE (
         ob2 (au n (43, at3, s2, v10, dw, dx, aF, ())) (fun y28 =>
          none) (fun y28 =>
          some (.inr (y28.1, y28.2.1, y28.2.2.1, y28.2.2.2.1, y28.2.2.2.2.1, y28.2.2.2.2.2.1, y28.2.2.2.2.2.2.1, ())))) (
         ob2 (au n (40, at3, s2, v10, dw, dx, aF, ())) (fun y29 =>
          none) (fun y29 =>
          some (.inr (y29.1, y29.2.1, y29.2.2.1, y29.2.2.2.1, y29.2.2.2.2.1, y29.2.2.2.2.2.1, y29.2.2.2.2.2.2.1, ()))))) (
        ob2 (au n (40, at3, s2, v10, dw, dx, aF, ())) (fun y30 =>
         none) (fun y30 =>
         some (.inr (y30.1, y30.2.1, y30.2.2.1, y30.2.2.2.1, y30.2.2.2.2.1, y30.2.2.2.2.2.1, y30.2.2.2.2.2.2.1, ()))))))))))
def kW (n : Nat) (aC : (dR) -> Option lG) (x : Bool × dR) : Option lG :=
 let qE : Bool := x.1
 let s2 : List UInt8 := x.2.1
 let at3 : Int := x.2.2.1
 let dw : Int := x.2.2.2.1
 let dx : List (Bool) := x.2.2.2.2.1
 let aF : List (NdT) := x.2.2.2.2.2.1
 ob (bB n ([46], s2, at3, dw, dx, aF, ())) fun y7 =>
 br y7.1 (
  ob (vM n ([0, 0, 0, 0])) fun y8 =>
  ob (bJ n (y8, y7.2.1, y7.2.2.1, y7.2.2.2.1, y7.2.2.2.2.1, y7.2.2.2.2.2.1, ())) fun y9 =>
  some (.inl (y9.1, y9.2.1, y9.2.2.1, y9.2.2.2.1, y9.2.2.2.2.1, y9.2.2.2.2.2.1, ()))) (
  ob (aG n ([91], y7.2.1, y7.2.2.1, y7.2.2.2.1, y7.2.2.2.2.1, y7.2.2.2.2.2.1, ())) fun y10 =>
  br y10.1 (
   chk ((decide (0 <= y10.2.2.1) && decide (y10.2.2.1 <= (y10.2.1.length : Int)))) (
    let v11 : List UInt8 := y10.2.1.drop y10.2.2.1.toNat
    ob (lI n v11) fun y12 =>
    br (y12.2.2 != 0) (
     ob2 (au n (y12.2.2, y10.2.2.1, y10.2.1, y10.2.2.1, y10.2.2.2.1, y10.2.2.2.2.1, y10.2.2.2.2.2.1, ())) (fun y13 =>
      none) (fun y13 =>
      some (.inr (y13.1, y13.2.1, y13.2.2.1, y13.2.2.2.1, y13.2.2.2.2.1, y13.2.2.2.2.2.1, y13.2.2.2.2.2.2.1, ())))) (
     let v14 : Int := IntKind.wrap .i64 (y10.2.2.1 + y12.2.1)
     ob (bJ n (y12.1, y10.2.1, v14, y10.2.2.2.1, y10.2.2.2.2.1, y10.2.2.2.2.2.1, ())) fun y15 =>
     some (.inl (y15.1, y15.2.1, y15.2.2.1, y15.2.2.2.1, y15.2.2.2.2.1, y15.2.2.2.2.2.1, ()))))) (
   ob (aG n ([92], y10.2.1, y10.2.2.1, y10.2.2.2.1, y10.2.2.2.2.1, y10.2.2.2.2.2.1, ())) fun y16 =>
   br y16.1 (
    ob2 (kV n aC (qE, y16.2.1, y16.2.2.1, y16.2.2.2.1, y16.2.2.2.2.1, y16.2.2.2.2.2.1, ())) (fun y17 =>
     some (.inl (y17.1, y17.2.1, y17.2.2.1, y17.2.2.2.1, y17.2.2.2.2.1, y17.2.2.2.2.2.1, ()))) (fun y17 =>
     some (.inr (y17.1, y17.2.1, y17.2.2.1, y17.2.2.2.1, y17.2.2.2.2.1, y17.2.2.2.2.2.1, y17.2.2.2.2.2.2.1, ())))) (
    let v18 : Int := IntKind.wrap .i64 (y16.2.2.1 + 1)
    let v19 : Int := IntKind.wrap .i64 (v18 - 1)
    chk ((decide (0 <= v18) && decide (v18 <= (y16.2.1.length : Int)) && (decide (0 <= v19) && decide (v19 <= v18)))) (
     let v20 : List UInt8 := (y16.2.1.take v18.toNat).drop v19.toNat
     ob (kU n v20) fun y21 =>
     ob (bJ n (y21, y16.2.1, v18, y16.2.2.2.1, y16.2.2.2.2.1, y16.2.2.2.2.2.1, ())) fun y22 =>
     some (.inl (y22.1, y22.2.1, y22.2.2.1, y22.2.2.2.1, y22.2.2.2.2.1, y22.2.2.2.2.2.1, ()))))))
def jC (n : Nat) (g1 : Int × Int × List UInt8 × Int × Int × List (Bool) × List (NdT) × List (Int) × Unit -> Option lG) (x50 : Int × Int × List UInt8 × Int × Int × List (Bool) × List (NdT) × List (Int) × Unit) : Option lG :=
 let O4 : Int := x50.1
 let J8 : Int := x50.2.1
 let s53 : List UInt8 := x50.2.2.1
 let Uf : Int := x50.2.2.2.1
 let Mi : Int := x50.2.2.2.2.1
 let Mj : List (Bool) := x50.2.2.2.2.2.1
 let RV : List (NdT) := x50.2.2.2.2.2.2.1
 let CF : List (Int) := x50.2.2.2.2.2.2.2.1
 br (decide (J8 ≥ 0)) (
  chk ((inB J8 (CF.length) && decide (0 + (CF.length) <= CF.length))) (
   chk (decide (0 + J8.toNat < CF.length)) (
    let v59 : Int := CF.getD (0 + J8.toNat) (Ty.dflt (.int .i64))
    ob (aY n (4, [0, 0, 0, 0], v59, O4, 0, 0, 0, s53, Uf, Mi, Mj, RV, ())) fun y60 =>
    let v61 : Int := IntKind.wrap .i64 (J8 - 1)
    g1 (y60.1, v61, y60.2.1, y60.2.2.1, y60.2.2.2.1, y60.2.2.2.2.1, y60.2.2.2.2.2.1, CF, ())))) (
  some (.inl (O4, s53, Uf, Mi, Mj, RV, ())))
def jD (n : Nat) (x37 : List UInt8 × Int × Int × List (Bool) × List (NdT) × List (Int) × Unit) : Option lG :=
 let s38 : List UInt8 := x37.1
 let Ug : Int := x37.2.1
 let Mk : Int := x37.2.2.1
 let Ml : List (Bool) := x37.2.2.2.1
 let RX : List (NdT) := x37.2.2.2.2.1
 let vw : List (Int) := x37.2.2.2.2.2.1
 let v44 : Int := ((vw.length : Nat) : Int)
 br (v44 == 0) (
  some (.inl ((-1), s38, Ug, Mk, Ml, RX, ()))) (
  let v45 : Int := ((vw.length : Nat) : Int)
  let v46 : Int := IntKind.wrap .i64 (v45 - 1)
  chk ((inB v46 (vw.length) && decide (0 + (vw.length) <= vw.length))) (
   chk (decide (0 + v46.toNat < vw.length)) (
    let v47 : Int := vw.getD (0 + v46.toNat) (Ty.dflt (.int .i64))
    let v48 : Int := ((vw.length : Nat) : Int)
    let v49 : Int := IntKind.wrap .i64 (v48 - 2)
    fix (jC n) n (v47, v49, s38, Ug, Mk, Ml, RX, vw, ()))))
def dS (n : Nat) (aC : (dR) -> Option lG) (g0 : Bool × List UInt8 × Int × Int × List (Bool) × List (NdT) × List (Int) × Unit -> Option lG) (x26 : Bool × Bool × List UInt8 × Int × Int × List (Bool) × List (NdT) × List (Int) × Unit) : Option lG :=
 let QV : Bool := x26.1
 let Uh : Bool := x26.2.1
 let s29 : List UInt8 := x26.2.2.1
 let Ui : Int := x26.2.2.2.1
 let Mq : Int := x26.2.2.2.2.1
 let Mr : List (Bool) := x26.2.2.2.2.2.1
 let RY : List (NdT) := x26.2.2.2.2.2.2.1
 let Jd : List (Int) := x26.2.2.2.2.2.2.2.1
 br Uh (
  let v35 : Int := IntKind.wrap .i64 (Ui + 1)
  ob (aY n (3, [0, 0, 0, 0], 0, 0, 0, 0, 0, s29, v35, Mq, Mr, RY, ())) fun y36 =>
  chk (Nat.ble ((Jd.length + ([y36.1] : List (Int)).length) * 8) room) (
   jn (jD n) (y36.2.1, y36.2.2.1, y36.2.2.2.1, y36.2.2.2.2.1, y36.2.2.2.2.2.1, Jd ++ [y36.1], ()))) (
  ob2 (kW n aC (QV, s29, Ui, Mq, Mr, RY, ())) (fun y62 =>
   ob2 (jW n (y62.1, y62.2.1, y62.2.2.1, y62.2.2.2.1, y62.2.2.2.2.1, y62.2.2.2.2.2.1, ())) (fun y63 =>
    chk (Nat.ble ((Jd.length + ([y63.1] : List (Int)).length) * 8) room) (
     g0 (false, y63.2.1, y63.2.2.1, y63.2.2.2.1, y63.2.2.2.2.1, y63.2.2.2.2.2.1, Jd ++ [y63.1], ()))) (fun y63 =>
    some (.inr (y63.1, y63.2.1, y63.2.2.1, y63.2.2.2.1, y63.2.2.2.2.1, y63.2.2.2.2.2.1, y63.2.2.2.2.2.2.1, ())))) (fun y62 =>
   some (.inr (y62.1, y62.2.1, y62.2.2.1, y62.2.2.2.1, y62.2.2.2.2.1, y62.2.2.2.2.2.1, y62.2.2.2.2.2.2.1, ()))))
def gL (n : Nat) (aC : (dR) -> Option lG) (g0 : Bool × List UInt8 × Int × Int × List (Bool) × List (NdT) × List (Int) × Unit -> Option lG) (x15 : Bool × List UInt8 × Int × Int × List (Bool) × List (NdT) × List (Int) × Unit) : Option lG :=
 let DW : Bool := x15.1
 let s17 : List UInt8 := x15.2.1
 let Vh : Int := x15.2.2.1
 let SF : Int := x15.2.2.2.1
 let SG : List (Bool) := x15.2.2.2.2.1
 let UM : List (NdT) := x15.2.2.2.2.2.1
 let Je : List (Int) := x15.2.2.2.2.2.2.1
 ob (jq n (s17, Vh, SF, SG, UM, ())) fun y23 =>
 br (!y23.1) (
  ob (aG n ([36], y23.2.1, y23.2.2.1, y23.2.2.2.1, y23.2.2.2.2.1, y23.2.2.2.2.2.1, ())) fun y24 =>
  br y24.1 (
   let v25 : Int := IntKind.wrap .i64 (y24.2.2.1 + 1)
   br (v25 == (y24.2.1.length : Int)) (
    jn (dS n aC g0) (DW, true, y24.2.1, y24.2.2.1, y24.2.2.2.1, y24.2.2.2.2.1, y24.2.2.2.2.2.1, Je, ())) (
    ob (aG n ([36, 92, 41], y24.2.1, y24.2.2.1, y24.2.2.2.1, y24.2.2.2.2.1, y24.2.2.2.2.2.1, ())) fun y64 =>
    jn (dS n aC g0) (DW, y64.1, y64.2.1, y64.2.2.1, y64.2.2.2.1, y64.2.2.2.2.1, y64.2.2.2.2.2.1, Je, ()))) (
   jn (dS n aC g0) (DW, false, y24.2.1, y24.2.2.1, y24.2.2.2.1, y24.2.2.2.2.1, y24.2.2.2.2.2.1, Je, ()))) (
  jn (jD n) (y23.2.1, y23.2.2.1, y23.2.2.2.1, y23.2.2.2.2.1, y23.2.2.2.2.2.1, Je, ()))
def jE (n : Nat) (aC : (dR) -> Option lG) (x8 : List UInt8 × Int × Int × List (Bool) × List (NdT) × List (Int) × Unit) : Option lG :=
 let s9 : List UInt8 := x8.1
 let Vi : Int := x8.2.1
 let SH : Int := x8.2.2.1
 let SI : List (Bool) := x8.2.2.2.1
 let xC : List (NdT) := x8.2.2.2.2.1
 let UN : List (Int) := x8.2.2.2.2.2.1
 fix (gL n aC) n (true, s9, Vi, SH, SI, xC, UN, ())
def kr (n : Nat) (aC : (dR) -> Option lG) (x : dR) : Option lG :=
 let s1 : List UInt8 := x.1
 let at2 : Int := x.2.1
 let yA : Int := x.2.2.1
 let yB : List (Bool) := x.2.2.2.1
 let jU : List (NdT) := x.2.2.2.2.1
 ob (bB n ([94], s1, at2, yA, yB, jU, ())) fun y6 =>
 br y6.1 (
  ob (aY n (2, [0, 0, 0, 0], 0, 0, 0, 0, 0, y6.2.1, y6.2.2.1, y6.2.2.2.1, y6.2.2.2.2.1, y6.2.2.2.2.2.1, ())) fun y7 =>
  chk (Nat.ble (([y7.1] : List (Int)).length * 8) room) (
   jn (jE n aC) (y7.2.1, y7.2.2.1, y7.2.2.2.1, y7.2.2.2.2.1, y7.2.2.2.2.2.1, [y7.1], ()))) (
  jn (jE n aC) (y6.2.1, y6.2.2.1, y6.2.2.2.1, y6.2.2.2.2.1, y6.2.2.2.2.2.1, [], ()))
def fE (n : Nat) : (dR) -> Option lG :=
 JW (fun n r x => kr n r x) n
def pq (n : Nat) (x : List UInt8 × dR) : Option (Sum (List UInt8 × dR) (Int × Int × List UInt8 × dR)) :=
 let b1 : List UInt8 := x.1
 let s2 : List UInt8 := x.2.1
 let at3 : Int := x.2.2.1
 let dw : Int := x.2.2.2.1
 let dx : List (Bool) := x.2.2.2.2.1
 let aF : List (NdT) := x.2.2.2.2.2.1
 ob2 (fE n (s2, at3, dw, dx, aF, ())) (fun y7 =>
  br (decide (y7.2.2.1 < (b1.length : Int))) (
   ob2 (au n (41, y7.2.2.1, y7.2.1, y7.2.2.1, y7.2.2.2.1, y7.2.2.2.2.1, y7.2.2.2.2.2.1, ())) (fun y8 =>
    none) (fun y8 =>
    some (.inr (y8.1, y8.2.1, b1, y8.2.2.1, y8.2.2.2.1, y8.2.2.2.2.1, y8.2.2.2.2.2.1, y8.2.2.2.2.2.2.1, ())))) (
   let v9 : Int := ((y7.2.2.2.2.2.1.length : Nat) : Int)
   br (decide (v9 > 120)) (
    ob2 (au n (2, 0, y7.2.1, y7.2.2.1, y7.2.2.2.1, y7.2.2.2.2.1, y7.2.2.2.2.2.1, ())) (fun y10 =>
     none) (fun y10 =>
     some (.inr (y10.1, y10.2.1, b1, y10.2.2.1, y10.2.2.2.1, y10.2.2.2.2.1, y10.2.2.2.2.2.1, y10.2.2.2.2.2.2.1, ())))) (
    some (.inl (b1, y7.2.1, y7.2.2.1, y7.2.2.2.1, y7.2.2.2.2.1, y7.2.2.2.2.2.1, ()))))) (fun y7 =>
  some (.inr (y7.1, y7.2.1, b1, y7.2.2.1, y7.2.2.2.1, y7.2.2.2.2.1, y7.2.2.2.2.2.1, y7.2.2.2.2.2.2.1, ())))
def d9 (n : Nat) (x : List UInt8 × dR) : Option (Int × Int × List UInt8 × dR) := ob2 (pq n x) (fun y => some (0, 0, y)) (fun y => some y)
def iq (n : Nat) (x : List UInt8) : Option (List (NdT) × Int × Int) :=
 let s_0 : List UInt8 := x
 br (s_0 == []) (
  some ([(0, ([0, 0, 0, 0], (0, (0, (0, (0, (0, ())))))))], 0, 0)) (
  ob (d9 n (s_0, s_0, 0, 0, [false, false, false, false, false, false, false, false, false, false], [], ())) fun y1 =>
  br (y1.1 != 0) (
   some ([], y1.2.1, y1.1)) (
   some (y1.2.2.2.2.2.2.2.1, 0, 0)))
def fC (n : Nat) (x : Int × List (Int) × Int × Int × Int × Int × Int × Unit) : Option (Int) :=
 let n_0 : Int × List (Int) × Int × Int × Int × Int × Int × Unit := x
 br (n_0.1 == 4) (
  br (n_0.1 == 4) (
   some 2) (
   br (n_0.1 == 6) (
    br (n_0.1 == 6) (
     some 1) (
     some 0)) (
    br (n_0.1 == 7) (
     some 1) (
     some 0)))) (
  br (n_0.1 == 5) (
   some 2) (
   br (n_0.1 == 6) (
    br (n_0.1 == 6) (
     some 1) (
     some 0)) (
    br (n_0.1 == 7) (
     some 1) (
     some 0))))
def bf (n : Nat) (x : Int × List (Int) × Int × Int × Int × Int × Int × Unit) : Option (NdT) :=
 let n_0 : Int × List (Int) × Int × Int × Int × Int × Int × Unit := x
 br (n_0.1 == 1) (
  some (n_0.1, (n_0.2.1, (0, (0, (0, (0, (0, ())))))))) (
  br (n_0.1 == 4) (
   br (n_0.1 == 4) (
    some (n_0.1, ([0, 0, 0, 0], (n_0.2.2.1, (n_0.2.2.2.1, (0, (0, (0, ())))))))) (
    br (n_0.1 == 6) (
     some (n_0.1, ([0, 0, 0, 0], (n_0.2.2.1, (0, (n_0.2.2.2.2.1, (n_0.2.2.2.2.2.1, (0, ())))))))) (
     br (n_0.1 == 7) (
      some (n_0.1, ([0, 0, 0, 0], (n_0.2.2.1, (0, (0, (0, n_0.2.2.2.2.2.2))))))) (
      br (n_0.1 == 8) (
       some (n_0.1, ([0, 0, 0, 0], (0, (0, (0, (0, n_0.2.2.2.2.2.2))))))) (
       some (n_0.1, ([0, 0, 0, 0], (0, (0, (0, (0, (0, ())))))))))))) (
   br (n_0.1 == 5) (
    some (n_0.1, ([0, 0, 0, 0], (n_0.2.2.1, (n_0.2.2.2.1, (0, (0, (0, ())))))))) (
    br (n_0.1 == 6) (
     some (n_0.1, ([0, 0, 0, 0], (n_0.2.2.1, (0, (n_0.2.2.2.2.1, (n_0.2.2.2.2.2.1, (0, ())))))))) (
     br (n_0.1 == 7) (
      some (n_0.1, ([0, 0, 0, 0], (n_0.2.2.1, (0, (0, (0, n_0.2.2.2.2.2.2))))))) (
      br (n_0.1 == 8) (
       some (n_0.1, ([0, 0, 0, 0], (0, (0, (0, (0, n_0.2.2.2.2.2.2))))))) (
       some (n_0.1, ([0, 0, 0, 0], (0, (0, (0, (0, (0, ())))))))))))))
def lJ (n : Nat) (x : Int × List (Int) × Int × Int × Int × Int × Int × Unit) : Option (Bool) :=
 let n_0 : Int × List (Int) × Int × Int × Int × Int × Int × Unit := x
 br (decide (n_0.1 < 0)) (
  some false) (
  br (decide (n_0.1 > 8)) (
   some false) (
   ob (bf n n_0) fun y1 =>
   br (!(Ty.beq ak n_0 y1)) (
    some false) (
    br (n_0.1 == 1) (
     some (!(Ty.beq (.arr 4 (.int .u64)) n_0.2.1 ([0, 0, 0, 0])))) (
     br (n_0.1 == 6) (
      br (decide (n_0.2.2.2.2.1 ≥ 0)) (
       br (decide (n_0.2.2.2.2.1 <= 255)) (
        br (n_0.2.2.2.2.2.1 == (-1)) (
         some true) (
         let v2 : Int := if 1 > n_0.2.2.2.2.1 then 1 else n_0.2.2.2.2.1
         br (decide (n_0.2.2.2.2.2.1 ≥ v2)) (
          some (decide (n_0.2.2.2.2.2.1 <= 255))) (
          some false))) (
        some false)) (
       some false)) (
      br (n_0.1 == 7) (
       br (n_0.1 == 7) (
        br (decide (n_0.2.2.2.2.2.2.1 ≥ 1)) (
         some (decide (n_0.2.2.2.2.2.2.1 <= 9))) (
         some false)) (
        some true)) (
       br (n_0.1 == 8) (
        br (decide (n_0.2.2.2.2.2.2.1 ≥ 1)) (
         some (decide (n_0.2.2.2.2.2.2.1 <= 9))) (
         some false)) (
        some true)))))))
def xP (n : Nat) (g0 : List (Int) × Int × Int × Int × Unit -> Option (Int)) (x1 : List (Int) × Int × Int × Int × Unit) : Option (Int) :=
 let s_2 : List (Int) := x1.1
 let v_3 : Int := x1.2.1
 let kF : Int := x1.2.2.1
 let J9 : Int := x1.2.2.2.1
 br (decide (J9 < kF)) (
  chk (inB J9 s_2.length) (
   let v6 : Int := aW (Ty.dflt (.int .i64)) s_2 J9
   br (v_3 == v6) (
    some J9) (
    let v7 : Int := IntKind.wrap .i64 (J9 + 1)
    g0 (s_2, v_3, kF, v7, ())))) (
  some (-1))
def ql (n : Nat) (x : List (Int) × Int) : Option (Int) :=
 let s_0 : List (Int) := x.1
 let v_1 : Int := x.2
 fix (xP n) n (s_0, v_1, (s_0.length : Int), 0, ())
def ku (n : Nat) (x : List (Int) × Int) : Option (Bool) :=
 let s_0 : List (Int) := x.1
 let v_1 : Int := x.2
 ob (ql n (s_0, v_1)) fun y1 =>
 some (decide (y1 ≥ 0))
def gW (n : Nat) (x : List (NdT) × Int × List (Int) × Int × Int × Int × Int × Int × Unit) : Option (Bool) :=
 let l_0 : List (NdT) := x.1
 let n_1 : Int × List (Int) × Int × Int × Int × Int × Int × Unit := x.2
 br (n_1.1 == 4) (
  chk (inB n_1.2.2.1 l_0.length) (
   let v1 : Int × List (Int) × Int × Int × Int × Int × Int × Unit := aW (Ty.dflt ak) l_0 n_1.2.2.1
   br (v1.1 != 4) (
    chk (inB n_1.2.2.1 l_0.length) (
     let v2 : Int × List (Int) × Int × Int × Int × Int × Int × Unit := aW (Ty.dflt ak) l_0 n_1.2.2.1
     br (v2.1 != 5) (
      chk (inB n_1.2.2.2.1 l_0.length) (
       let v3 : Int × List (Int) × Int × Int × Int × Int × Int × Unit := aW (Ty.dflt ak) l_0 n_1.2.2.2.1
       some (v3.1 != 5))) (
      some false))) (
    some false))) (
  br (n_1.1 == 5) (
   chk (inB n_1.2.2.1 l_0.length) (
    let v4 : Int × List (Int) × Int × Int × Int × Int × Int × Unit := aW (Ty.dflt ak) l_0 n_1.2.2.1
    some (v4.1 != 5))) (
   br (n_1.1 == 6) (
    chk (inB n_1.2.2.1 l_0.length) (
     let v5 : Int × List (Int) × Int × Int × Int × Int × Int × Unit := aW (Ty.dflt ak) l_0 n_1.2.2.1
     ob (ku n ([1, 7, 8], v5.1)) fun y6 =>
     some y6)) (
    some true)))
def dU (n : Nat) (g0 : List (NdT) × List (NdT) × Int × Int × List (Int) × Unit -> Option (Bool)) (x1 : List (NdT) × List (NdT) × Int × Int × List (Int) × Unit) : Option (Bool) :=
 let l_2 : List (NdT) := x1.1
 let Bp : List (NdT) := x1.2.1
 let DX : Int := x1.2.2.1
 let iO : Int := x1.2.2.2.1
 let aF : List (Int) := x1.2.2.2.2.1
 br (decide (iO < DX)) (
  chk (inB iO Bp.length) (
   let v7 : Int × List (Int) × Int × Int × Int × Int × Int × Unit := aW (Ty.dflt ak) Bp iO
   let v8 : Int := ((aF.length : Nat) : Int)
   ob (fC n v7) fun y9 =>
   let v10 : Int := IntKind.wrap .i64 (v8 - y9)
   ob (lJ n v7) fun y11 =>
   br (!y11) (
    some false) (
    br (decide (v10 < 0)) (
     some false) (
     br (v7.1 == 0) (
      br (decide ((l_2.length : Int) > 1)) (
       some false) (
       chk ((decide (0 <= v10) && decide (v10 <= (aF.length : Int)))) (
        let v12 : Int := (((aF.length) - (v10.toNat) : Nat) : Int)
        br (decide (v12 > 0)) (
         chk ((inB 0 ((aF.length) - (v10.toNat)) && decide ((0 + (v10.toNat)) + ((aF.length) - (v10.toNat)) <= aF.length))) (
          chk (decide ((0 + (v10.toNat)) + (0 : Int).toNat < aF.length)) (
           let v13 : Int := aF.getD ((0 + (v10.toNat)) + (0 : Int).toNat) (Ty.dflt (.int .i64))
           br (v13 != v7.2.2.1) (
            some false) (
            let v14 : Int := (((aF.length) - (v10.toNat) : Nat) : Int)
            br (decide (v14 > 1)) (
             chk ((inB 1 ((aF.length) - (v10.toNat)) && decide ((0 + (v10.toNat)) + ((aF.length) - (v10.toNat)) <= aF.length))) (
              chk (decide ((0 + (v10.toNat)) + (1 : Int).toNat < aF.length)) (
               let v15 : Int := aF.getD ((0 + (v10.toNat)) + (1 : Int).toNat) (Ty.dflt (.int .i64))
               br (v15 != v7.2.2.2.1) (
                some false) (
                ob (gW n (l_2, v7)) fun y16 =>
                br (!y16) (
                 some false) (
                 chk ((decide (0 <= v10) && decide (v10 <= (aF.length : Int)))) (
                  chk ((Nat.ble (v10.toNat) aF.length && Nat.ble (((v10.toNat) + ([iO] : List (Int)).length) * 8) room)) (
                   let r17 : List (Int) := aF.take (v10.toNat) ++ [iO]
                   let v18 : Int := IntKind.wrap .i64 (iO + 1)
                   g0 (l_2, Bp, DX, v18, r17, ())))))))) (
             ob (gW n (l_2, v7)) fun y19 =>
             br (!y19) (
              some false) (
              chk ((decide (0 <= v10) && decide (v10 <= (aF.length : Int)))) (
               chk ((Nat.ble (v10.toNat) aF.length && Nat.ble (((v10.toNat) + ([iO] : List (Int)).length) * 8) room)) (
                let r20 : List (Int) := aF.take (v10.toNat) ++ [iO]
                let v21 : Int := IntKind.wrap .i64 (iO + 1)
                g0 (l_2, Bp, DX, v21, r20, ()))))))))) (
         ob (gW n (l_2, v7)) fun y22 =>
         br (!y22) (
          some false) (
          chk ((decide (0 <= v10) && decide (v10 <= (aF.length : Int)))) (
           chk ((Nat.ble (v10.toNat) aF.length && Nat.ble (((v10.toNat) + ([iO] : List (Int)).length) * 8) room)) (
            let r23 : List (Int) := aF.take (v10.toNat) ++ [iO]
            let v24 : Int := IntKind.wrap .i64 (iO + 1)
            g0 (l_2, Bp, DX, v24, r23, ())))))))) (
      chk ((decide (0 <= v10) && decide (v10 <= (aF.length : Int)))) (
       let v25 : Int := (((aF.length) - (v10.toNat) : Nat) : Int)
       br (decide (v25 > 0)) (
        chk ((inB 0 ((aF.length) - (v10.toNat)) && decide ((0 + (v10.toNat)) + ((aF.length) - (v10.toNat)) <= aF.length))) (
         chk (decide ((0 + (v10.toNat)) + (0 : Int).toNat < aF.length)) (
          let v26 : Int := aF.getD ((0 + (v10.toNat)) + (0 : Int).toNat) (Ty.dflt (.int .i64))
          br (v26 != v7.2.2.1) (
           some false) (
           let v27 : Int := (((aF.length) - (v10.toNat) : Nat) : Int)
           br (decide (v27 > 1)) (
            chk ((inB 1 ((aF.length) - (v10.toNat)) && decide ((0 + (v10.toNat)) + ((aF.length) - (v10.toNat)) <= aF.length))) (
             chk (decide ((0 + (v10.toNat)) + (1 : Int).toNat < aF.length)) (
              let v28 : Int := aF.getD ((0 + (v10.toNat)) + (1 : Int).toNat) (Ty.dflt (.int .i64))
              br (v28 != v7.2.2.2.1) (
               some false) (
               ob (gW n (l_2, v7)) fun y29 =>
               br (!y29) (
                some false) (
                chk ((decide (0 <= v10) && decide (v10 <= (aF.length : Int)))) (
                 chk ((Nat.ble (v10.toNat) aF.length && Nat.ble (((v10.toNat) + ([iO] : List (Int)).length) * 8) room)) (
                  let r30 : List (Int) := aF.take (v10.toNat) ++ [iO]
                  let v31 : Int := IntKind.wrap .i64 (iO + 1)
                  g0 (l_2, Bp, DX, v31, r30, ())))))))) (
            ob (gW n (l_2, v7)) fun y32 =>
            br (!y32) (
             some false) (
             chk ((decide (0 <= v10) && decide (v10 <= (aF.length : Int)))) (
              chk ((Nat.ble (v10.toNat) aF.length && Nat.ble (((v10.toNat) + ([iO] : List (Int)).length) * 8) room)) (
               let r33 : List (Int) := aF.take (v10.toNat) ++ [iO]
               let v34 : Int := IntKind.wrap .i64 (iO + 1)
               g0 (l_2, Bp, DX, v34, r33, ()))))))))) (
        ob (gW n (l_2, v7)) fun y35 =>
        br (!y35) (
         some false) (
         chk ((decide (0 <= v10) && decide (v10 <= (aF.length : Int)))) (
          chk ((Nat.ble (v10.toNat) aF.length && Nat.ble (((v10.toNat) + ([iO] : List (Int)).length) * 8) room)) (
           let r36 : List (Int) := aF.take (v10.toNat) ++ [iO]
           let v37 : Int := IntKind.wrap .i64 (iO + 1)
           g0 (l_2, Bp, DX, v37, r36, ()))))))))))) (
  let v38 : Int := ((aF.length : Nat) : Int)
  some (v38 == 1))
def og (n : Nat) (x : List (NdT)) : Option (Bool) :=
 let l_0 : List (NdT) := x
 fix (dU n) n (l_0, l_0, (l_0.length : Int), 0, [], ())
def bS (n : Nat) (bU : (Int × List (NdT) × Int × Bool × List (Bool) × Bool × Unit) -> Option (List (NdT) × Int × Bool × List (Bool) × Bool × Unit)) (x : Int × List (NdT) × Int × Bool × List (Bool) × Bool × Unit) : Option (List (NdT) × Int × Bool × List (Bool) × Bool × Unit) :=
 let i_1 : Int := x.1
 let b2 : List (NdT) := x.2.1
 let b3 : Int := x.2.2.1
 let b4 : Bool := x.2.2.2.1
 let b5 : List (Bool) := x.2.2.2.2.1
 let b6 : Bool := x.2.2.2.2.2.1
 chk (inB i_1 b2.length) (
  let v7 : Int × List (Int) × Int × Int × Int × Int × Int × Unit := aW (Ty.dflt ak) b2 i_1
  br (v7.1 == 4) (
   br (v7.1 == 4) (
    ob (bU (v7.2.2.1, b2, b3, b4, b5, b6, ())) fun y8 =>
    ob (bU (v7.2.2.2.1, y8.1, y8.2.1, y8.2.2.1, y8.2.2.2.1, y8.2.2.2.2.1, ())) fun y9 =>
    some (y9.1, y9.2.1, y9.2.2.1, y9.2.2.2.1, y9.2.2.2.2.1, ())) (
    br (v7.1 == 6) (
     ob (bU (v7.2.2.1, b2, b3, b4, b5, b6, ())) fun y10 =>
     some (y10.1, y10.2.1, y10.2.2.1, y10.2.2.2.1, y10.2.2.2.2.1, ())) (
     br (v7.1 == 7) (
      let v11 : Int := IntKind.wrap .i64 (b3 + 1)
      br b4 (
       ob (bU (v7.2.2.1, b2, v11, (v7.2.2.2.2.2.2.1 == v11), b5, b6, ())) fun y12 =>
       chk (inB v7.2.2.2.2.2.2.1 10) (
        chk (decide (v7.2.2.2.2.2.2.1.toNat < 10)) (
         some (y12.1, y12.2.1, y12.2.2.1, y12.2.2.2.1.set (v7.2.2.2.2.2.2.1.toNat) true, y12.2.2.2.2.1, ())))) (
       ob (bU (v7.2.2.1, b2, v11, false, b5, b6, ())) fun y13 =>
       chk (inB v7.2.2.2.2.2.2.1 10) (
        chk (decide (v7.2.2.2.2.2.2.1.toNat < 10)) (
         some (y13.1, y13.2.1, y13.2.2.1, y13.2.2.2.1.set (v7.2.2.2.2.2.2.1.toNat) true, y13.2.2.2.2.1, ()))))) (
      br (v7.1 == 8) (
       br b4 (
        chk (inB v7.2.2.2.2.2.2.1 10) (
         chk (decide (v7.2.2.2.2.2.2.1.toNat < 10)) (
          some (b2, b3, b5.getD (v7.2.2.2.2.2.2.1.toNat) (Ty.dflt .bool), b5, true, ())))) (
        some (b2, b3, false, b5, true, ()))) (
       some (b2, b3, b4, b5, b6, ())))))) (
   br (v7.1 == 5) (
    ob (bU (v7.2.2.1, b2, b3, b4, b5, b6, ())) fun y14 =>
    ob (bU (v7.2.2.2.1, y14.1, y14.2.1, y14.2.2.1, y14.2.2.2.1, y14.2.2.2.2.1, ())) fun y15 =>
    some (y15.1, y15.2.1, y15.2.2.1, y15.2.2.2.1, y15.2.2.2.2.1, ())) (
    br (v7.1 == 6) (
     ob (bU (v7.2.2.1, b2, b3, b4, b5, b6, ())) fun y16 =>
     some (y16.1, y16.2.1, y16.2.2.1, y16.2.2.2.1, y16.2.2.2.2.1, ())) (
     br (v7.1 == 7) (
      let v17 : Int := IntKind.wrap .i64 (b3 + 1)
      br b4 (
       ob (bU (v7.2.2.1, b2, v17, (v7.2.2.2.2.2.2.1 == v17), b5, b6, ())) fun y18 =>
       chk (inB v7.2.2.2.2.2.2.1 10) (
        chk (decide (v7.2.2.2.2.2.2.1.toNat < 10)) (
         some (y18.1, y18.2.1, y18.2.2.1, y18.2.2.2.1.set (v7.2.2.2.2.2.2.1.toNat) true, y18.2.2.2.2.1, ())))) (
       ob (bU (v7.2.2.1, b2, v17, false, b5, b6, ())) fun y19 =>
       chk (inB v7.2.2.2.2.2.2.1 10) (
        chk (decide (v7.2.2.2.2.2.2.1.toNat < 10)) (
         some (y19.1, y19.2.1, y19.2.2.1, y19.2.2.2.1.set (v7.2.2.2.2.2.2.1.toNat) true, y19.2.2.2.2.1, ()))))) (
      br (v7.1 == 8) (
       br b4 (
        chk (inB v7.2.2.2.2.2.2.1 10) (
         chk (decide (v7.2.2.2.2.2.2.1.toNat < 10)) (
          some (b2, b3, b5.getD (v7.2.2.2.2.2.2.1.toNat) (Ty.dflt .bool), b5, true, ())))) (
        some (b2, b3, false, b5, true, ()))) (
       some (b2, b3, b4, b5, b6, ())))))))
def jh (n : Nat) : (Int × List (NdT) × Int × Bool × List (Bool) × Bool × Unit) -> Option (List (NdT) × Int × Bool × List (Bool) × Bool × Unit) :=
 JW (fun n r x => bS n r x) n
def tC (n : Nat) (x : List (NdT)) : Option (Int × Bool × Bool) :=
 let l_0 : List (NdT) := x
 let v1 : Int := IntKind.wrap .i64 ((l_0.length : Int) - 1)
 ob (jh n (v1, l_0, 0, true, [false, false, false, false, false, false, false, false, false, false], false, ())) fun y2 =>
 some (y2.2.1, y2.2.2.2.2.1, y2.2.2.1)
def mU (n : Nat) (x : List (NdT)) : Option (Int × Bool × Bool) :=
 let l_0 : List (NdT) := x
 br ((l_0.length : Int) == 0) (
  some (0, false, false)) (
  br (decide ((l_0.length : Int) > 120)) (
   some (0, false, false)) (
   ob (og n l_0) fun y1 =>
   br (!y1) (
    some (0, false, false)) (
    ob (tC n l_0) fun y2 =>
    br (!y2.2.2) (
     some (0, false, false)) (
     some (y2.1, y2.2.1, true)))))
def qR (n : Nat) (x : List (NdT)) : Option (Bool) :=
 let l_0 : List (NdT) := x
 ob (mU n l_0) fun y1 =>
 some y1.2.2
def wh (n : Nat) (x : Int) : Option (List UInt8) :=
 let b_0 : Int := x
 br (b_0 == 10) (
  some [92, 110]) (
  ob (strings_IndexByte n ([46, 91, 92, 42, 94, 36], b_0)) fun y1 =>
  br (decide (y1 ≥ 0)) (
   chk (decide ([92].length + (iG [b_0]).length <= aD)) (
    some ([92] ++ (iG [b_0])))) (
   some (iG [b_0])))
def mV (n : Nat) (x : List (Int) × Int) : Option (Bool) :=
 let s_0 : List (Int) := x.1
 let b_1 : Int := x.2
 chk (decide (0 <= 6)) (
  chk (inB (jA .u8 b_1 6) 4) (
   chk (decide ((jA .u8 b_1 6).toNat < 4)) (
    let v1 : Int := s_0.getD ((jA .u8 b_1 6).toNat) (Ty.dflt (.int .u64))
    chk (decide (0 <= bY .u8 .and b_1 63)) (
     let v2 : Int := jA .u64 v1 (bY .u8 .and b_1 63)
     some ((bY .u64 .and v2 1) == 1)))))
def oh (n : Nat) (g0 : List UInt8 × Int × Int × List (List UInt8) × Unit -> Option (List (List UInt8))) (x1 : List UInt8 × Int × Int × List (List UInt8) × Unit) : Option (List (List UInt8)) :=
 let s_2 : List UInt8 := x1.1
 let NP : Int := x1.2.1
 let kF : Int := x1.2.2.1
 let jU : List (List UInt8) := x1.2.2.2.1
 br (decide (kF < NP)) (
  let v6 : Int := ((jU.length : Nat) : Int)
  let v7 : Int := IntKind.wrap .i64 (v6 - 1)
  br (decide (v7 ≥ 0)) (
   chk (inB kF s_2.length) (
    let v8 : Int := ((aW 0 s_2 kF).toNat : Int)
    let v9 : Int := IntKind.wrap .i64 (kF - 1)
    chk (inB v9 s_2.length) (
     let v10 : Int := ((aW 0 s_2 v9).toNat : Int)
     let v11 : Int := IntKind.wrap .u8 (v10 + 1)
     br (v8 == v11) (
      chk ((inB v7 (jU.length) && decide (0 + (jU.length) <= jU.length))) (
       chk (decide (0 + v7.toNat < jU.length)) (
        let v12 : List UInt8 := jU.getD (0 + v7.toNat) (Ty.dflt .str)
        let v13 : Int := IntKind.wrap .i64 (kF + 1)
        chk ((decide (0 <= v13) && decide (v13 <= (s_2.length : Int)) && (decide (0 <= kF) && decide (kF <= v13)))) (
         let v14 : List UInt8 := (s_2.take v13.toNat).drop kF.toNat
         chk (decide (v12.length + v14.length <= aD)) (
          chk ((inB v7 (jU.length) && decide (0 + (jU.length) <= jU.length))) (
           chk (decide (0 + v7.toNat < jU.length)) (
            let r15 : List (List UInt8) := jU.set (0 + v7.toNat) (v12 ++ v14)
            let v16 : Int := IntKind.wrap .i64 (kF + 1)
            g0 (s_2, NP, v16, r15, ())))))))) (
      let v17 : Int := IntKind.wrap .i64 (kF + 1)
      chk ((decide (0 <= v17) && decide (v17 <= (s_2.length : Int)) && (decide (0 <= kF) && decide (kF <= v17)))) (
       let v18 : List UInt8 := (s_2.take v17.toNat).drop kF.toNat
       chk (Nat.ble ((jU.length + ([v18] : List (List UInt8)).length) * 16) room) (
        let v19 : Int := IntKind.wrap .i64 (kF + 1)
        g0 (s_2, NP, v19, jU ++ [v18], ()))))))) (
   let v20 : Int := IntKind.wrap .i64 (kF + 1)
   chk ((decide (0 <= v20) && decide (v20 <= (s_2.length : Int)) && (decide (0 <= kF) && decide (kF <= v20)))) (
    let v21 : List UInt8 := (s_2.take v20.toNat).drop kF.toNat
    chk (Nat.ble ((jU.length + ([v21] : List (List UInt8)).length) * 16) room) (
     let v22 : Int := IntKind.wrap .i64 (kF + 1)
     g0 (s_2, NP, v22, jU ++ [v21], ()))))) (
  some jU)
def wm (n : Nat) (x : List UInt8) : Option (List (List UInt8)) :=
 let s_0 : List UInt8 := x
 fix (oh n) n (s_0, (s_0.length : Int), 0, [], ())
def jO (n : Nat) (g2 : List UInt8 × Int × Int × List (Int) × List (List UInt8) × Unit -> Option (List UInt8)) (x35 : List UInt8 × Int × Int × List (Int) × List (List UInt8) × Unit) : Option (List UInt8) :=
 let xQ : List UInt8 := x35.1
 let yC : Int := x35.2.1
 let qU : Int := x35.2.2.1
 let b39 : List (Int) := x35.2.2.2.1
 let tF : List (List UInt8) := x35.2.2.2.2.1
 br (decide (qU < yC)) (
  chk ((inB qU (tF.length) && decide (0 + (tF.length) <= tF.length))) (
   chk (decide (0 + qU.toNat < tF.length)) (
    let v41 : List UInt8 := tF.getD (0 + qU.toNat) (Ty.dflt .str)
    chk (inB 0 v41.length) (
     let v42 : Int := ((aW 0 v41 0).toNat : Int)
     ob (mV n (b39, v42)) fun y43 =>
     br y43 (
      br (v41 == [10]) (
       chk (decide (xQ.length + ([92, 110] : List UInt8).length <= aD)) (
        let v44 : Int := IntKind.wrap .i64 (qU + 1)
        g2 (xQ ++ [92, 110], yC, v44, b39, tF, ()))) (
       chk (inB 0 v41.length) (
        let v45 : Int := ((aW 0 v41 0).toNat : Int)
        ob (mV n (b39, v45)) fun y46 =>
        br y46 (
         chk (decide (xQ.length + v41.length <= aD)) (
          let v47 : Int := IntKind.wrap .i64 (qU + 1)
          g2 (xQ ++ v41, yC, v47, b39, tF, ()))) (
         let v48 : Int := IntKind.wrap .i64 (qU + 1)
         g2 (xQ, yC, v48, b39, tF, ()))))) (
      chk (inB 0 v41.length) (
       let v49 : Int := ((aW 0 v41 0).toNat : Int)
       ob (mV n (b39, v49)) fun y50 =>
       br y50 (
        chk (decide (xQ.length + v41.length <= aD)) (
         let v51 : Int := IntKind.wrap .i64 (qU + 1)
         g2 (xQ ++ v41, yC, v51, b39, tF, ()))) (
        let v52 : Int := IntKind.wrap .i64 (qU + 1)
        g2 (xQ, yC, v52, b39, tF, ())))))))) (
  chk (decide (xQ.length + ([93] : List UInt8).length <= aD)) (
   some (xQ ++ [93])))
def lZ (n : Nat) (g1 : List UInt8 × List (List UInt8) × Int × Int × List (Int) × Unit -> Option (List UInt8)) (x22 : List UInt8 × List (List UInt8) × Int × Int × List (Int) × Unit) : Option (List UInt8) :=
 let Ka : List UInt8 := x22.1
 let EZ : List (List UInt8) := x22.2.1
 let Kc : Int := x22.2.2.1
 let Bq : Int := x22.2.2.2.1
 let b27 : List (Int) := x22.2.2.2.2.1
 br (decide (Bq < Kc)) (
  chk (inB Bq EZ.length) (
   let v28 : List UInt8 := aW (Ty.dflt .str) EZ Bq
   br (decide ((v28.length : Int) > 2)) (
    chk ((decide (0 <= (1 : Int)) && decide ((1 : Int) <= (v28.length : Int)))) (
     chk (decide ((v28.take (1 : Int).toNat).length + ([45] : List UInt8).length <= aD)) (
      let v29 : List UInt8 := (v28.take (1 : Int).toNat) ++ [45]
      let v30 : Int := IntKind.wrap .i64 ((v28.length : Int) - 1)
      chk ((decide (0 <= v30) && decide (v30 <= (v28.length : Int)))) (
       chk (decide (v29.length + (v28.drop v30.toNat).length <= aD)) (
        let v31 : List UInt8 := v29 ++ (v28.drop v30.toNat)
        chk (decide (Ka.length + v31.length <= aD)) (
         let v32 : Int := IntKind.wrap .i64 (Bq + 1)
         g1 (Ka ++ v31, EZ, Kc, v32, b27, ()))))))) (
    chk (decide (Ka.length + v28.length <= aD)) (
     let v33 : Int := IntKind.wrap .i64 (Bq + 1)
     g1 (Ka ++ v28, EZ, Kc, v33, b27, ()))))) (
  let v34 : Int := (([[10], [91], [92], [94], [45]].length : Nat) : Int)
  fix (jO n) n (Ka, v34, 0, b27, [[10], [91], [92], [94], [45]], ()))
def l5 (n : Nat) (g0 : List UInt8 × List (Int) × Int × Int × List (Int) × List (Int) × Unit -> Option (List UInt8)) (x10 : List UInt8 × List (Int) × Int × Int × List (Int) × List (Int) × Unit) : Option (List UInt8) :=
 let QW : List UInt8 := x10.1
 let E5 : List (Int) := x10.2.1
 let Ke : Int := x10.2.2.1
 let Br : Int := x10.2.2.2.1
 let b15 : List (Int) := x10.2.2.2.2.1
 let Jf : List (Int) := x10.2.2.2.2.2.1
 br (decide (Br < Ke)) (
  chk (inB Br E5.length) (
   let v17 : Int := aW (Ty.dflt (.int .u8)) E5 Br
   ob (strings_IndexByte n ([93, 91, 92, 94, 45, 10], v17)) fun y18 =>
   br (decide (y18 < 0)) (
    chk (Nat.ble ((Jf.length + ([v17] : List (Int)).length) * 1) room) (
     let v19 : Int := IntKind.wrap .i64 (Br + 1)
     g0 (QW, E5, Ke, v19, b15, Jf ++ [v17], ()))) (
    let v20 : Int := IntKind.wrap .i64 (Br + 1)
    g0 (QW, E5, Ke, v20, b15, Jf, ())))) (
  ob (wm n (iG Jf)) fun y21 =>
  fix (lZ n) n (QW, y21, (y21.length : Int), 0, b15, ()))
def jP (n : Nat) (x5 : List UInt8 × List UInt8 × List (Int) × Unit) : Option (List UInt8) :=
 let l_6 : List UInt8 := x5.1
 let b_7 : List UInt8 := x5.2.1
 let b8 : List (Int) := x5.2.2.1
 chk (Nat.ble l_6.length room) (
  let v9 : Int := ((aM l_6).length : Int)
  fix (l5 n) n (b_7, aM l_6, v9, 0, b8, [], ()))
def wo (n : Nat) (x : List (Int)) : Option (List UInt8) :=
 let s_0 : List (Int) := x
 ob (nJ n s_0) fun y1 =>
 br ((y1.length : Int) == 0) (
  some []) (
  br ((y1.length : Int) == 1) (
   chk (inB 0 y1.length) (
    let v2 : Int := ((aW 0 y1 0).toNat : Int)
    ob (wh n v2) fun y3 =>
    some y3)) (
   br ((y1.length : Int) == 256) (
    some [46]) (
    br (y1 == [45, 94]) (
     some [91, 45, 94, 93]) (
     ob (mV n (s_0, 93)) fun y4 =>
     br y4 (
      chk (decide ([91].length + ([93] : List UInt8).length <= aD)) (
       jn (jP n) (y1, [91] ++ [93], s_0, ()))) (
      jn (jP n) (y1, [91], s_0, ()))))))
def tZ (n : Nat) (x : Int × List (Int) × Int × Int × Int × Int × Int × Unit) : Option (List UInt8) :=
 let n_0 : Int × List (Int) × Int × Int × Int × Int × Int × Unit := x
 ob (strconv_Itoa n n_0.2.2.2.2.1) fun y1 =>
 ob (strconv_Itoa n n_0.2.2.2.2.2.1) fun y2 =>
 br (n_0.2.2.2.2.2.1 == (-1)) (
  br (n_0.2.2.2.2.1 == 0) (
   some [42]) (
   br (n_0.2.2.2.2.2.1 == (-1)) (
    chk (decide ([92, 123].length + y1.length <= aD)) (
     chk (decide (([92, 123] ++ y1).length + ([44, 92, 125] : List UInt8).length <= aD)) (
      let v3 : List UInt8 := ([92, 123] ++ y1) ++ [44, 92, 125]
      some v3))) (
    br (n_0.2.2.2.2.2.1 == n_0.2.2.2.2.1) (
     chk (decide ([92, 123].length + y1.length <= aD)) (
      chk (decide (([92, 123] ++ y1).length + ([92, 125] : List UInt8).length <= aD)) (
       let v4 : List UInt8 := ([92, 123] ++ y1) ++ [92, 125]
       some v4))) (
     chk (decide ([92, 123].length + y1.length <= aD)) (
      chk (decide (([92, 123] ++ y1).length + ([44] : List UInt8).length <= aD)) (
       let v5 : List UInt8 := ([92, 123] ++ y1) ++ [44]
       chk (decide (v5.length + y2.length <= aD)) (
        chk (decide ((v5 ++ y2).length + ([92, 125] : List UInt8).length <= aD)) (
         some ((v5 ++ y2) ++ [92, 125]))))))))) (
  br (n_0.2.2.2.2.2.1 == (-1)) (
   chk (decide ([92, 123].length + y1.length <= aD)) (
    chk (decide (([92, 123] ++ y1).length + ([44, 92, 125] : List UInt8).length <= aD)) (
     let v6 : List UInt8 := ([92, 123] ++ y1) ++ [44, 92, 125]
     some v6))) (
   br (n_0.2.2.2.2.2.1 == n_0.2.2.2.2.1) (
    chk (decide ([92, 123].length + y1.length <= aD)) (
     chk (decide (([92, 123] ++ y1).length + ([92, 125] : List UInt8).length <= aD)) (
      let v7 : List UInt8 := ([92, 123] ++ y1) ++ [92, 125]
      some v7))) (
    chk (decide ([92, 123].length + y1.length <= aD)) (
     chk (decide (([92, 123] ++ y1).length + ([44] : List UInt8).length <= aD)) (
      let v8 : List UInt8 := ([92, 123] ++ y1) ++ [44]
      chk (decide (v8.length + y2.length <= aD)) (
       chk (decide ((v8 ++ y2).length + ([92, 125] : List UInt8).length <= aD)) (
        some ((v8 ++ y2) ++ [92, 125]))))))))
def pY (n : Nat) (g0 : List (NdT) × Int × Int × List (List UInt8) × Unit -> Option (List UInt8)) (g1 : Int × List UInt8 × List (NdT) × Int × Int × List (Int) × Int × Int × List (List UInt8) × Unit -> Option (List UInt8)) (x16 : Int × List UInt8 × List (NdT) × Int × Int × List (Int) × Int × Int × List (List UInt8) × Unit) : Option (List UInt8) :=
 let Gs : Int := x16.1
 let Kg : List UInt8 := x16.2.1
 let O5 : List (NdT) := x16.2.2.1
 let O6 : Int := x16.2.2.2.1
 let O7 : Int := x16.2.2.2.2.1
 let Kh : List (Int) := x16.2.2.2.2.2.1
 let O8 : Int := x16.2.2.2.2.2.2.1
 let E8 : Int := x16.2.2.2.2.2.2.2.1
 let Jg : List (List UInt8) := x16.2.2.2.2.2.2.2.2.1
 br (decide (E8 < O8)) (
  chk (inB E8 Kh.length) (
   let v26 : Int := aW (Ty.dflt (.int .u8)) Kh E8
   chk ((!decide (16 = 0))) (
    let v27 : Int := IntKind.wrap .u64 (Int.tdiv (IntKind.wrap .u64 v26) 16)
    ob (gu n (v27, 16)) fun y28 =>
    chk ((!decide (16 = 0))) (
     let v29 : Int := Int.tmod (IntKind.wrap .u64 v26) 16
     ob (gu n (v29, 16)) fun y30 =>
     chk (decide (y28.length + y30.length <= aD)) (
      chk (decide (Kg.length + (y28 ++ y30).length <= aD)) (
       let v31 : Int := IntKind.wrap .i64 (E8 + 1)
       g1 (Gs, Kg ++ (y28 ++ y30), O5, O6, O7, Kh, O8, v31, Jg, ()))))))) (
  chk (decide (Kg.length + ([93] : List UInt8).length <= aD)) (
   chk ((decide (0 <= Gs) && decide (Gs <= (Jg.length : Int)))) (
    chk ((Nat.ble (Gs.toNat) Jg.length && Nat.ble (((Gs.toNat) + ([Kg ++ [93]] : List (List UInt8)).length) * 16) room)) (
     let r32 : List (List UInt8) := Jg.take (Gs.toNat) ++ [Kg ++ [93]]
     let v33 : Int := IntKind.wrap .i64 (O7 + 1)
     g0 (O5, O6, v33, r32, ())))))
def dY (n : Nat) (g0 : List (NdT) × Int × Int × List (List UInt8) × Unit -> Option (List UInt8)) (x2 : List (NdT) × Int × Int × List (List UInt8) × Unit) : Option (List UInt8) :=
 let p8 : List (NdT) := x2.1
 let qV : Int := x2.2.1
 let oo : Int := x2.2.2.1
 let aF : List (List UInt8) := x2.2.2.2.1
 br (decide (oo < qV)) (
  chk (inB oo p8.length) (
   let v7 : Int × List (Int) × Int × Int × Int × Int × Int × Unit := aW (Ty.dflt ak) p8 oo
   let v8 : Int := ((aF.length : Nat) : Int)
   ob (fC n v7) fun y9 =>
   let v10 : Int := IntKind.wrap .i64 (v8 - y9)
   chk ((decide (0 <= v10) && decide (v10 <= (aF.length : Int)))) (
    chk ((Nat.ble ((0 + (v10.toNat)) + ((aF.length) - (v10.toNat))) aF.length && true)) (
     ob (strings_Join n ((aF.drop (0 + (v10.toNat))).take ((aF.length) - (v10.toNat)), [])) fun y11 =>
     br (v7.1 == 0) (
      chk ((decide (0 <= v10) && decide (v10 <= (aF.length : Int)))) (
       chk ((Nat.ble (v10.toNat) aF.length && Nat.ble (((v10.toNat) + ([[101]] : List (List UInt8)).length) * 16) room)) (
        let r12 : List (List UInt8) := aF.take (v10.toNat) ++ [[101]]
        let v13 : Int := IntKind.wrap .i64 (oo + 1)
        g0 (p8, qV, v13, r12, ())))) (
      br (v7.1 == 1) (
       ob (nJ n v7.2.1) fun y14 =>
       chk (Nat.ble y14.length room) (
        let v15 : Int := ((aM y14).length : Int)
        fix (pY n g0) n (v10, [91], p8, qV, oo, aM y14, v15, 0, aF, ()))) (
       br (v7.1 == 2) (
        chk ((decide (0 <= v10) && decide (v10 <= (aF.length : Int)))) (
         chk ((Nat.ble (v10.toNat) aF.length && Nat.ble (((v10.toNat) + ([[94]] : List (List UInt8)).length) * 16) room)) (
          let r34 : List (List UInt8) := aF.take (v10.toNat) ++ [[94]]
          let v35 : Int := IntKind.wrap .i64 (oo + 1)
          g0 (p8, qV, v35, r34, ())))) (
        br (v7.1 == 3) (
         chk ((decide (0 <= v10) && decide (v10 <= (aF.length : Int)))) (
          chk ((Nat.ble (v10.toNat) aF.length && Nat.ble (((v10.toNat) + ([[36]] : List (List UInt8)).length) * 16) room)) (
           let r36 : List (List UInt8) := aF.take (v10.toNat) ++ [[36]]
           let v37 : Int := IntKind.wrap .i64 (oo + 1)
           g0 (p8, qV, v37, r36, ())))) (
         br (v7.1 == 4) (
          chk (decide ([38].length + y11.length <= aD)) (
           chk ((decide (0 <= v10) && decide (v10 <= (aF.length : Int)))) (
            chk ((Nat.ble (v10.toNat) aF.length && Nat.ble (((v10.toNat) + ([[38] ++ y11] : List (List UInt8)).length) * 16) room)) (
             let r38 : List (List UInt8) := aF.take (v10.toNat) ++ [[38] ++ y11]
             let v39 : Int := IntKind.wrap .i64 (oo + 1)
             g0 (p8, qV, v39, r38, ()))))) (
          br (v7.1 == 5) (
           chk (decide ([124].length + y11.length <= aD)) (
            chk ((decide (0 <= v10) && decide (v10 <= (aF.length : Int)))) (
             chk ((Nat.ble (v10.toNat) aF.length && Nat.ble (((v10.toNat) + ([[124] ++ y11] : List (List UInt8)).length) * 16) room)) (
              let r40 : List (List UInt8) := aF.take (v10.toNat) ++ [[124] ++ y11]
              let v41 : Int := IntKind.wrap .i64 (oo + 1)
              g0 (p8, qV, v41, r40, ()))))) (
           br (v7.1 == 6) (
            ob (strconv_Itoa n v7.2.2.2.2.1) fun y42 =>
            chk (decide ([42].length + y42.length <= aD)) (
             chk (decide (([42] ++ y42).length + ([44] : List UInt8).length <= aD)) (
              ob (strconv_Itoa n v7.2.2.2.2.2.1) fun y43 =>
              chk (decide ((([42] ++ y42) ++ [44]).length + y43.length <= aD)) (
               let v44 : List UInt8 := (([42] ++ y42) ++ [44]) ++ y43
               chk (decide (v44.length + ([59] : List UInt8).length <= aD)) (
                chk (decide ((v44 ++ [59]).length + y11.length <= aD)) (
                 chk ((decide (0 <= v10) && decide (v10 <= (aF.length : Int)))) (
                  chk ((Nat.ble (v10.toNat) aF.length && Nat.ble (((v10.toNat) + ([(v44 ++ [59]) ++ y11] : List (List UInt8)).length) * 16) room)) (
                   let r45 : List (List UInt8) := aF.take (v10.toNat) ++ [(v44 ++ [59]) ++ y11]
                   let v46 : Int := IntKind.wrap .i64 (oo + 1)
                   g0 (p8, qV, v46, r45, ()))))))))) (
            br (v7.1 == 7) (
             chk (decide ([40].length + y11.length <= aD)) (
              chk (decide (([40] ++ y11).length + ([41] : List UInt8).length <= aD)) (
               chk ((decide (0 <= v10) && decide (v10 <= (aF.length : Int)))) (
                chk ((Nat.ble (v10.toNat) aF.length && Nat.ble (((v10.toNat) + ([([40] ++ y11) ++ [41]] : List (List UInt8)).length) * 16) room)) (
                 let r47 : List (List UInt8) := aF.take (v10.toNat) ++ [([40] ++ y11) ++ [41]]
                 let v48 : Int := IntKind.wrap .i64 (oo + 1)
                 g0 (p8, qV, v48, r47, ())))))) (
             br (v7.1 == 8) (
              ob (strconv_Itoa n v7.2.2.2.2.2.2.1) fun y49 =>
              chk (decide ([92].length + y49.length <= aD)) (
               chk ((decide (0 <= v10) && decide (v10 <= (aF.length : Int)))) (
                chk ((Nat.ble (v10.toNat) aF.length && Nat.ble (((v10.toNat) + ([[92] ++ y49] : List (List UInt8)).length) * 16) room)) (
                 let r50 : List (List UInt8) := aF.take (v10.toNat) ++ [[92] ++ y49]
                 let v51 : Int := IntKind.wrap .i64 (oo + 1)
                 g0 (p8, qV, v51, r50, ()))))) (
              chk ((decide (0 <= v10) && decide (v10 <= (aF.length : Int)))) (
               chk ((Nat.ble (v10.toNat) aF.length && Nat.ble (((v10.toNat) + ([[]] : List (List UInt8)).length) * 16) room)) (
                let r52 : List (List UInt8) := aF.take (v10.toNat) ++ [[]]
                let v53 : Int := IntKind.wrap .i64 (oo + 1)
                g0 (p8, qV, v53, r52, ())))))))))))))))) (
  chk ((inB 0 (aF.length) && decide (0 + (aF.length) <= aF.length))) (
   chk (decide (0 + (0 : Int).toNat < aF.length)) (
    let v54 : List UInt8 := aF.getD (0 + (0 : Int).toNat) (Ty.dflt .str)
    some v54)))
def oq (n : Nat) (x : List (NdT)) : Option (List UInt8) :=
 let l_0 : List (NdT) := x
 ob (qR n l_0) fun y1 =>
 br (!y1) (
  some []) (
  fix (dY n) n (l_0, (l_0.length : Int), 0, [], ()))
def bN (n : Nat) (g0 : List (NdT) × List (NdT) × Int × Int × List (List UInt8) × Unit -> Option (List UInt8 × Int)) (x3 : List (NdT) × List (NdT) × Int × Int × List (List UInt8) × Unit) : Option (List UInt8 × Int) :=
 let l_4 : List (NdT) := x3.1
 let qW : List (NdT) := x3.2.1
 let tH : Int := x3.2.2.1
 let dz : Int := x3.2.2.2.1
 let bC : List (List UInt8) := x3.2.2.2.2.1
 br (decide (dz < tH)) (
  chk (inB dz qW.length) (
   let v9 : Int × List (Int) × Int × Int × Int × Int × Int × Unit := aW (Ty.dflt ak) qW dz
   br (v9.1 == 1) (
    ob (wo n v9.2.1) fun y10 =>
    chk ((inB dz (bC.length) && decide (0 + (bC.length) <= bC.length))) (
     chk (decide (0 + dz.toNat < bC.length)) (
      let r11 : List (List UInt8) := bC.set (0 + dz.toNat) y10
      let v12 : Int := IntKind.wrap .i64 (dz + 1)
      g0 (l_4, qW, tH, v12, r11, ())))) (
    br (v9.1 == 2) (
     chk ((inB dz (bC.length) && decide (0 + (bC.length) <= bC.length))) (
      chk (decide (0 + dz.toNat < bC.length)) (
       let r13 : List (List UInt8) := bC.set (0 + dz.toNat) [94]
       let v14 : Int := IntKind.wrap .i64 (dz + 1)
       g0 (l_4, qW, tH, v14, r13, ())))) (
     br (v9.1 == 3) (
      chk ((inB dz (bC.length) && decide (0 + (bC.length) <= bC.length))) (
       chk (decide (0 + dz.toNat < bC.length)) (
        let r15 : List (List UInt8) := bC.set (0 + dz.toNat) [36]
        let v16 : Int := IntKind.wrap .i64 (dz + 1)
        g0 (l_4, qW, tH, v16, r15, ())))) (
      br (v9.1 == 4) (
       chk ((inB v9.2.2.1 (bC.length) && decide (0 + (bC.length) <= bC.length))) (
        chk (decide (0 + v9.2.2.1.toNat < bC.length)) (
         let v17 : List UInt8 := bC.getD (0 + v9.2.2.1.toNat) (Ty.dflt .str)
         chk ((inB v9.2.2.2.1 (bC.length) && decide (0 + (bC.length) <= bC.length))) (
          chk (decide (0 + v9.2.2.2.1.toNat < bC.length)) (
           let v18 : List UInt8 := bC.getD (0 + v9.2.2.2.1.toNat) (Ty.dflt .str)
           chk (decide (v17.length + v18.length <= aD)) (
            chk ((inB dz (bC.length) && decide (0 + (bC.length) <= bC.length))) (
             chk (decide (0 + dz.toNat < bC.length)) (
              let r19 : List (List UInt8) := bC.set (0 + dz.toNat) (v17 ++ v18)
              let v20 : Int := IntKind.wrap .i64 (dz + 1)
              g0 (l_4, qW, tH, v20, r19, ()))))))))) (
       br (v9.1 == 5) (
        chk ((inB dz (bC.length) && decide (0 + (bC.length) <= bC.length))) (
         chk (decide (0 + dz.toNat < bC.length)) (
          let r21 : List (List UInt8) := bC.set (0 + dz.toNat) [124]
          let v22 : Int := IntKind.wrap .i64 (dz + 1)
          g0 (l_4, qW, tH, v22, r21, ())))) (
        br (v9.1 == 6) (
         chk ((inB v9.2.2.1 (bC.length) && decide (0 + (bC.length) <= bC.length))) (
          chk (decide (0 + v9.2.2.1.toNat < bC.length)) (
           let v23 : List UInt8 := bC.getD (0 + v9.2.2.1.toNat) (Ty.dflt .str)
           ob (tZ n v9) fun y24 =>
           chk (decide (v23.length + y24.length <= aD)) (
            chk ((inB dz (bC.length) && decide (0 + (bC.length) <= bC.length))) (
             chk (decide (0 + dz.toNat < bC.length)) (
              let r25 : List (List UInt8) := bC.set (0 + dz.toNat) (v23 ++ y24)
              let v26 : Int := IntKind.wrap .i64 (dz + 1)
              g0 (l_4, qW, tH, v26, r25, ()))))))) (
         br (v9.1 == 7) (
          chk ((inB v9.2.2.1 (bC.length) && decide (0 + (bC.length) <= bC.length))) (
           chk (decide (0 + v9.2.2.1.toNat < bC.length)) (
            let v27 : List UInt8 := bC.getD (0 + v9.2.2.1.toNat) (Ty.dflt .str)
            chk (decide ([92, 40].length + v27.length <= aD)) (
             chk (decide (([92, 40] ++ v27).length + ([92, 41] : List UInt8).length <= aD)) (
              let v28 : List UInt8 := ([92, 40] ++ v27) ++ [92, 41]
              chk ((inB dz (bC.length) && decide (0 + (bC.length) <= bC.length))) (
               chk (decide (0 + dz.toNat < bC.length)) (
                let r29 : List (List UInt8) := bC.set (0 + dz.toNat) v28
                let v30 : Int := IntKind.wrap .i64 (dz + 1)
                g0 (l_4, qW, tH, v30, r29, ())))))))) (
          br (v9.1 == 8) (
           ob (strconv_Itoa n v9.2.2.2.2.2.2.1) fun y31 =>
           chk (decide ([92].length + y31.length <= aD)) (
            chk ((inB dz (bC.length) && decide (0 + (bC.length) <= bC.length))) (
             chk (decide (0 + dz.toNat < bC.length)) (
              let r32 : List (List UInt8) := bC.set (0 + dz.toNat) ([92] ++ y31)
              let v33 : Int := IntKind.wrap .i64 (dz + 1)
              g0 (l_4, qW, tH, v33, r32, ()))))) (
           let v34 : Int := IntKind.wrap .i64 (dz + 1)
           g0 (l_4, qW, tH, v34, bC, ()))))))))))) (
  let v35 : Int := IntKind.wrap .i64 ((l_4.length : Int) - 1)
  chk ((inB v35 (bC.length) && decide (0 + (bC.length) <= bC.length))) (
   chk (decide (0 + v35.toNat < bC.length)) (
    let v36 : List UInt8 := bC.getD (0 + v35.toNat) (Ty.dflt .str)
    ob (iq n v36) fun y37 =>
    br (y37.2.2 != 0) (
     some ([], 1)) (
     ob (oq n y37.1) fun y38 =>
     ob (oq n l_4) fun y39 =>
     br (!(y38 == y39)) (
      some ([], 1)) (
      some (v36, 0))))))
def mg (n : Nat) (x : List (NdT)) : Option (List UInt8 × Int) :=
 let l_0 : List (NdT) := x
 ob (qR n l_0) fun y1 =>
 br (!y1) (
  some ([], 1)) (
  chk ((decide (0 <= (l_0.length : Int)) && (decide ((l_0.length : Int) = (l_0.length : Int)) && Nat.ble ((l_0.length : Int).toNat * 16) room))) (
   let r2 : List (List UInt8) := List.replicate (l_0.length : Int).toNat []
   fix (bN n) n (l_0, l_0, (l_0.length : Int), 0, r2, ())))
def Bt (n : Nat) (x : List (NdT)) : Option (Int) :=
 let l_0 : List (NdT) := x
 ob (mU n l_0) fun y1 =>
 some y1.1
def Gt (n : Nat) (x : List (NdT)) : Option (Bool) :=
 let l_0 : List (NdT) := x
 ob (mU n l_0) fun y1 =>
 some y1.2.1
def mW (n : Nat) (x : Unit) : Option (Bool) :=
 ob (iq n [94, 97, 42, 92, 40, 98, 92, 41, 92, 49, 91, 120, 45, 122, 93, 36]) fun y1 =>
 ob (mg n y1.1) fun y2 =>
 ob (iq n [97, 92, 40, 98]) fun y3 =>
 br (y1.2.2 == 0) (
  br (y2.2 == 0) (
   br (y1.2.1 == 0) (
    br (y2.1 == [94, 97, 42, 92, 40, 98, 92, 41, 92, 49, 91, 120, 45, 122, 93, 36]) (
     ob (Bt n y1.1) fun y4 =>
     br (y4 == 1) (
      ob (Gt n y1.1) fun y5 =>
      br y5 (
       br (y3.2.1 == 1) (
        some (y3.2.2 == 41)) (
        some false)) (
       some false)) (
      some false)) (
     some false)) (
    some false)) (
   some false)) (
  some false)
def jr (n : Nat) (g0 : Int × Int × List (Bool) × List (Bool) × Unit -> Option (List (Bool))) (x1 : Int × Int × List (Bool) × List (Bool) × Unit) : Option (List (Bool)) :=
 let b_2 : Int := x1.1
 let i_3 : Int := x1.2.1
 let b4 : List (Bool) := x1.2.2.1
 let b5 : List (Bool) := x1.2.2.2.1
 br (decide (i_3 <= (IntKind.wrap .i64 b_2))) (
  chk (inB i_3 256) (
   chk (decide (i_3.toNat < 256)) (
    let v6 : Int := IntKind.wrap .i64 (i_3 + 1)
    g0 (b_2, v6, b4, b5.set (i_3.toNat) true, ())))) (
  some b5)
def dI (n : Nat) (x : Int × Int) : Option (List (Bool)) :=
 let a_0 : Int := x.1
 let b_1 : Int := x.2
 fix (jr n) n (b_1, IntKind.wrap .i64 a_0, (List.replicate 256 false), (List.replicate 256 false), ())
def ou (n : Nat) (g0 : Int × List (Bool) × List (Bool) × List (Bool) × Unit -> Option (List (Bool))) (x1 : Int × List (Bool) × List (Bool) × List (Bool) × Unit) : Option (List (Bool)) :=
 let i_2 : Int := x1.1
 let b3 : List (Bool) := x1.2.1
 let b4 : List (Bool) := x1.2.2.1
 let b5 : List (Bool) := x1.2.2.2.1
 br (decide (i_2 < 256)) (
  chk (inB i_2 256) (
   chk (decide (i_2.toNat < 256)) (
    br (b3.getD (i_2.toNat) (Ty.dflt .bool)) (
     chk (inB i_2 256) (
      chk (decide (i_2.toNat < 256)) (
       let v6 : Int := IntKind.wrap .i64 (i_2 + 1)
       g0 (v6, b3.set (i_2.toNat) true, b4, b5, ())))) (
     chk (inB i_2 256) (
      chk (decide (i_2.toNat < 256)) (
       chk (inB i_2 256) (
        chk (decide (i_2.toNat < 256)) (
         let v7 : Int := IntKind.wrap .i64 (i_2 + 1)
         g0 (v7, b3.set (i_2.toNat) (b4.getD (i_2.toNat) (Ty.dflt .bool)), b4, b5, ()))))))))) (
  some b3)
def mG (n : Nat) (x : List (Bool) × List (Bool)) : Option (List (Bool)) :=
 let a_0 : List (Bool) := x.1
 let b_1 : List (Bool) := x.2
 fix (ou n) n (0, a_0, b_1, (List.replicate 256 false), ())
def ow (n : Nat) (g0 : List UInt8 × Int × List (Bool) × List (Bool) × Unit -> Option (List (Bool))) (x1 : List UInt8 × Int × List (Bool) × List (Bool) × Unit) : Option (List (Bool)) :=
 let s_2 : List UInt8 := x1.1
 let i_3 : Int := x1.2.1
 let b4 : List (Bool) := x1.2.2.1
 let b5 : List (Bool) := x1.2.2.2.1
 br (decide (i_3 < (s_2.length : Int))) (
  chk (inB i_3 s_2.length) (
   let v6 : Int := ((aW 0 s_2 i_3).toNat : Int)
   chk (inB v6 256) (
    chk (decide (v6.toNat < 256)) (
     let v7 : Int := IntKind.wrap .i64 (i_3 + 1)
     g0 (s_2, v7, b4, b5.set (v6.toNat) true, ()))))) (
  some b5)
def wu (n : Nat) (x : List UInt8) : Option (List (Bool)) :=
 let s_0 : List UInt8 := x
 fix (ow n) n (s_0, 0, (List.replicate 256 false), (List.replicate 256 false), ())
def jv (n : Nat) (g0 : Int × List (Bool) × List (Bool) × List (Bool) × Unit -> Option (List (Bool) × Bool)) (x21 : Int × List (Bool) × List (Bool) × List (Bool) × Unit) : Option (List (Bool) × Bool) :=
 let qm : Int := x21.1
 let b23 : List (Bool) := x21.2.1
 let b24 : List (Bool) := x21.2.2.1
 let b25 : List (Bool) := x21.2.2.2.1
 br (decide (qm < 256)) (
  chk (inB qm 256) (
   chk (decide (qm.toNat < 256)) (
    br (b25.getD (qm.toNat) (Ty.dflt .bool)) (
     chk (inB qm 256) (
      chk (decide (qm.toNat < 256)) (
       chk (inB qm 256) (
        chk (decide (qm.toNat < 256)) (
         let v26 : Int := IntKind.wrap .i64 (qm + 1)
         g0 (v26, b23, b24, b25.set (qm.toNat) (!(b24.getD (qm.toNat) (Ty.dflt .bool))), ())))))) (
     chk (inB qm 256) (
      chk (decide (qm.toNat < 256)) (
       let v27 : Int := IntKind.wrap .i64 (qm + 1)
       g0 (v27, b23, b24, b25.set (qm.toNat) false, ()))))))) (
  some (b25, true))
def Dn (n : Nat) (x : List UInt8) : Option (List (Bool) × Bool) :=
 let dX : List UInt8 := x
 ob (dI n (65, 90)) fun y1 =>
 ob (dI n (97, 122)) fun y2 =>
 ob (dI n (48, 57)) fun y3 =>
 ob (mG n (y1, y2)) fun y4 =>
 ob (mG n (y4, y3)) fun y5 =>
 br (dX == [117, 112, 112, 101, 114]) (
  some (y1, true)) (
  br (dX == [108, 111, 119, 101, 114]) (
   some (y2, true)) (
   br (dX == [97, 108, 112, 104, 97]) (
    ob (mG n (y1, y2)) fun y6 =>
    some (y6, true)) (
    br (dX == [100, 105, 103, 105, 116]) (
     some (y3, true)) (
     br (dX == [97, 108, 110, 117, 109]) (
      some (y5, true)) (
      br (dX == [120, 100, 105, 103, 105, 116]) (
       ob (dI n (65, 70)) fun y7 =>
       ob (dI n (97, 102)) fun y8 =>
       ob (mG n (y7, y8)) fun y9 =>
       ob (mG n (y3, y9)) fun y10 =>
       some (y10, true)) (
       br (dX == [98, 108, 97, 110, 107]) (
        ob (wu n [9, 32]) fun y11 =>
        some (y11, true)) (
        br (dX == [115, 112, 97, 99, 101]) (
         ob (dI n (9, 13)) fun y12 =>
         ob (wu n [32]) fun y13 =>
         ob (mG n (y12, y13)) fun y14 =>
         some (y14, true)) (
         br (dX == [99, 110, 116, 114, 108]) (
          ob (dI n (0, 31)) fun y15 =>
          ob (dI n (127, 127)) fun y16 =>
          ob (mG n (y15, y16)) fun y17 =>
          some (y17, true)) (
          br (dX == [103, 114, 97, 112, 104]) (
           ob (dI n (33, 126)) fun y18 =>
           some (y18, true)) (
           br (dX == [112, 114, 105, 110, 116]) (
            ob (dI n (32, 126)) fun y19 =>
            some (y19, true)) (
            br (dX == [112, 117, 110, 99, 116]) (
             ob (dI n (33, 126)) fun y20 =>
             fix (jv n) n (0, (List.replicate 256 false), y5, y20, ())) (
             some ((List.replicate 256 false), false)))))))))))))
def uG (n : Nat) (x : List UInt8) : Option (Bool) :=
 let s_0 : List UInt8 := x
 br (decide ((s_0.length : Int) > 300)) (
  ob (mW n ()) fun y1 =>
  some y1) (
  ob (mW n ()) fun y2 =>
  br (!y2) (
   ob (mW n ()) fun y3 =>
   some y3) (
   ob (iq n s_0) fun y4 =>
   br (y4.2.2 != 0) (
    some ((y4.1.length : Int) == 0)) (
    ob (mg n y4.1) fun y5 =>
    ob (iq n y5.1) fun y6 =>
    ob (mg n y6.1) fun y7 =>
    br (y5.2 == 0) (
     br (y6.2.2 == 0) (
      br (y7.2 == 0) (
       ob (oq n y6.1) fun y8 =>
       ob (oq n y4.1) fun y9 =>
       br (y8 == y9) (
        some (y7.1 == y5.1)) (
        some false)) (
       some false)) (
      some false)) (
     some false))))
end Go.Dec
