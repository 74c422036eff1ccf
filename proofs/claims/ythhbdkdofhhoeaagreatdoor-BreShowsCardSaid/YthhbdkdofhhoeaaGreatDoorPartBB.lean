/- Part of a proof over this seat: a library of my own, and what it says of this seat. No statement is proved here. -/
import Derived.Test.YthhbdkdofhhoeaaGreatDoorPartAR
import Derived.Test.YthhbdkdofhhoeaaGreatDoorPartAU
namespace Go.Dec
set_option linter.unusedVariables false
abbrev aB : Ty := .pair (.int .i64) (.pair (.arr 4 (.int .u64)) (.pair (.int .i64) (.pair (.int .i64) (.pair (.int .i64) (.pair (.int .i64) (.pair (.int .i64) .unit))))))
abbrev zRg : Ty := .pair .str (.pair (.int .i64) .unit)
abbrev zMu : Ty := .pair (.int .i64) (.pair (.int .i64) .unit)
abbrev Cv : Ty := .pair .str (.pair (.int .i64) (.pair (.slice aB) (.pair (.int .i64) (.pair (.arr 10 .bool) .unit))))
abbrev Cw : Ty := .pair (.slice aB) (.pair (.int .i64) (.pair (.arr 10 .bool) zMu))
abbrev zGg : Ty := .pair .bool (.pair (.int .i64) (.pair (.arr 10 .bool) (.pair .bool .unit)))
abbrev NdT : Type := Int × List (Int) × Int × Int × Int × Int × Int × Unit
abbrev dS : Type := List UInt8 × Int × Int × List (Bool) × List (NdT) × Unit
abbrev mP : Type := Sum (Int × dS) (Int × Int × dS)
def eB (n : Nat) (x : List UInt8 × List UInt8) : Option (Bool) :=
 let s_0 : List UInt8 := x.1
 let Po : List UInt8 := x.2
 br (decide ((s_0.length : Int) ≥ (Po.length : Int))) (
  chk ((decide (0 <= (Po.length : Int)) && decide ((Po.length : Int) <= (s_0.length : Int)))) (
   let v1 : List UInt8 := s_0.take (Po.length : Int).toNat
   some (v1 == Po))) (
  some false)
def strings_HasPrefix (n : Nat) (x : List UInt8 × List UInt8) : Option (Bool) :=
 let s_0 : List UInt8 := x.1
 let Po : List UInt8 := x.2
 ob (eB n (s_0, Po)) fun y1 =>
 some y1
def aM (n : Nat) (x : List UInt8 × dS) : Option (Bool × dS) :=
 let t_1 : List UInt8 := x.1
 let s2 : List UInt8 := x.2.1
 let at3 : Int := x.2.2.1
 let dF : Int := x.2.2.2.1
 let dG : List (Bool) := x.2.2.2.2.1
 let aK : List (NdT) := x.2.2.2.2.2.1
 chk ((decide (0 <= at3) && decide (at3 <= (s2.length : Int)))) (
  ob (strings_HasPrefix n (s2.drop at3.toNat, t_1)) fun y7 =>
  some (y7, s2, at3, dF, dG, aK, ()))
def bM (n : Nat) (x : List UInt8 × dS) : Option (Bool × dS) :=
 let t_1 : List UInt8 := x.1
 let s2 : List UInt8 := x.2.1
 let at3 : Int := x.2.2.1
 let dF : Int := x.2.2.2.1
 let dG : List (Bool) := x.2.2.2.2.1
 let aK : List (NdT) := x.2.2.2.2.2.1
 ob (aM n (t_1, s2, at3, dF, dG, aK, ())) fun y7 =>
 br (!y7.1) (
  some (false, y7.2.1, y7.2.2.1, y7.2.2.2.1, y7.2.2.2.2.1, y7.2.2.2.2.2.1, ())) (
  let v8 : Int := IntKind.wrap .i64 (y7.2.2.1 + (t_1.length : Int))
  some (true, y7.2.1, v8, y7.2.2.2.1, y7.2.2.2.2.1, y7.2.2.2.2.2.1, ()))
def bD (n : Nat) (x : Int × List (Int) × Int × Int × Int × Int × Int × dS) : Option (Int × dS) :=
 let n_1 : Int := x.1
 let n_2 : List (Int) := x.2.1
 let n_3 : Int := x.2.2.1
 let n_4 : Int := x.2.2.2.1
 let n_5 : Int := x.2.2.2.2.1
 let n_6 : Int := x.2.2.2.2.2.1
 let n_7 : Int := x.2.2.2.2.2.2.1
 let s8 : List UInt8 := x.2.2.2.2.2.2.2.1
 let at9 : Int := x.2.2.2.2.2.2.2.2.1
 let nD : Int := x.2.2.2.2.2.2.2.2.2.1
 let nE : List (Bool) := x.2.2.2.2.2.2.2.2.2.2.1
 let sM : List (NdT) := x.2.2.2.2.2.2.2.2.2.2.2.1
 chk (Nat.ble ((sM.length + ([(n_1, (n_2, (n_3, (n_4, (n_5, (n_6, (n_7, ())))))))] : List (NdT)).length) * 80) room) (
  let r13 : List (NdT) := sM ++ [(n_1, (n_2, (n_3, (n_4, (n_5, (n_6, (n_7, ())))))))]
  let v14 : Int := ((r13.length : Nat) : Int)
  let v15 : Int := IntKind.wrap .i64 (v14 - 1)
  some (v15, s8, at9, nD, nE, r13, ()))
def jM (n : Nat) (x : dS) : Option (Bool × dS) :=
 let s1 : List UInt8 := x.1
 let at2 : Int := x.2.1
 let Ea : Int := x.2.2.1
 let Eb : List (Bool) := x.2.2.2.1
 let kQ : List (NdT) := x.2.2.2.2.1
 br (at2 == (s1.length : Int)) (
  some (true, s1, at2, Ea, Eb, kQ, ())) (
  ob (aM n ([92, 41], s1, at2, Ea, Eb, kQ, ())) fun y6 =>
  some (y6.1, y6.2.1, y6.2.2.1, y6.2.2.2.1, y6.2.2.2.2.1, y6.2.2.2.2.2.1, ()))
def Xm (n : Nat) (g0 : Int × List (Int) × List (Int) × Unit -> Option (List (Int))) (x1 : Int × List (Int) × List (Int) × Unit) : Option (List (Int)) :=
 let Ju : Int := x1.1
 let b3 : List (Int) := x1.2.1
 let b4 : List (Int) := x1.2.2.1
 br (decide (Ju < 4)) (
  chk (inB Ju 4) (
   chk (decide (Ju.toNat < 4)) (
    let v5 : Int := b3.getD (Ju.toNat) (Ty.dflt (.int .u64))
    let v6 : Int := bJ .u64 .xor 18446744073709551615 v5
    chk (inB Ju 4) (
     chk (decide (Ju.toNat < 4)) (
      let v7 : Int := IntKind.wrap .i64 (Ju + 1)
      g0 (v7, b3.set (Ju.toNat) v6, b4, ())))))) (
  some b3)
def zN (n : Nat) (x : List (Int)) : Option (List (Int)) :=
 let s_0 : List (Int) := x
 fix (Xm n) n (0, s_0, [0, 0, 0, 0], ())
def bS (n : Nat) (x : List (Int) × dS) : Option (Int × dS) :=
 let s_1 : List (Int) := x.1
 let s2 : List UInt8 := x.2.1
 let at3 : Int := x.2.2.1
 let dF : Int := x.2.2.2.1
 let dG : List (Bool) := x.2.2.2.2.1
 let aK : List (NdT) := x.2.2.2.2.2.1
 ob (bD n (1, s_1, 0, 0, 0, 0, 0, s2, at3, dF, dG, aK, ())) fun y7 =>
 some (y7.1, y7.2.1, y7.2.2.1, y7.2.2.2.1, y7.2.2.2.2.1, y7.2.2.2.2.2.1, ())
def dA (n : Nat) (x : List UInt8 × List UInt8 × Int × Unit) : Option (Bool × List UInt8 × Int × Unit) :=
 let t_1 : List UInt8 := x.1
 let s2 : List UInt8 := x.2.1
 let at3 : Int := x.2.2.1
 chk ((decide (0 <= at3) && decide (at3 <= (s2.length : Int)))) (
  ob (strings_HasPrefix n (s2.drop at3.toNat, t_1)) fun y4 =>
  some (y4, s2, at3, ()))
def cK (n : Nat) (x : List UInt8 × List UInt8 × Int × Unit) : Option (Bool × List UInt8 × Int × Unit) :=
 let t_1 : List UInt8 := x.1
 let s2 : List UInt8 := x.2.1
 let at3 : Int := x.2.2.1
 ob (dA n (t_1, s2, at3, ())) fun y4 =>
 br (!y4.1) (
  some (false, y4.2.1, y4.2.2.1, ())) (
  let v5 : Int := IntKind.wrap .i64 (y4.2.2.1 + (t_1.length : Int))
  some (true, y4.2.1, v5, ()))
def aX (_n : Nat) (x : List UInt8 × Int × Unit) : Option (Sum (List UInt8 × Int × Unit) (Int × Int × List UInt8 × Int × Unit)) := some (.inr (42, 0, x))
def lX (n : Nat) (g0 : Int × Int × List (Int) × Unit -> Option (List (Int))) (x1 : Int × Int × List (Int) × Unit) : Option (List (Int)) :=
 let b_2 : Int := x1.1
 let i_3 : Int := x1.2.1
 let b4 : List (Int) := x1.2.2.1
 br (decide (i_3 <= (IntKind.wrap .i64 b_2))) (
  chk (decide (0 <= 6)) (
   chk (inB (eP .i64 i_3 6) 4) (
    chk (decide ((eP .i64 i_3 6).toNat < 4)) (
     let v5 : Int := b4.getD ((eP .i64 i_3 6).toNat) (Ty.dflt (.int .u64))
     chk (decide (0 <= bJ .i64 .and i_3 63)) (
      let v6 : Int := Im .u64 1 (bJ .i64 .and i_3 63)
      chk (inB (eP .i64 i_3 6) 4) (
       chk (decide ((eP .i64 i_3 6).toNat < 4)) (
        let v7 : Int := IntKind.wrap .i64 (i_3 + 1)
        g0 (b_2, v7, b4.set ((eP .i64 i_3 6).toNat) (bJ .u64 .or v5 v6), ())))))))) (
  some b4)
def bP (n : Nat) (x : Int × Int) : Option (List (Int)) :=
 let a_0 : Int := x.1
 let b_1 : Int := x.2
 fix (lX n) n (b_1, IntKind.wrap .i64 a_0, [0, 0, 0, 0], ())
def Jv (n : Nat) (g0 : List (List (Int)) × Int × Int × List (Int) × Unit -> Option (List (Int))) (g1 : List (List (Int)) × Int × Int × Int × List (Int) × List (Int) × Unit -> Option (List (Int))) (x7 : List (List (Int)) × Int × Int × Int × List (Int) × List (Int) × Unit) : Option (List (Int)) :=
 let zPv : List (List (Int)) := x7.1
 let zPw : Int := x7.2.1
 let zMv : Int := x7.2.2.1
 let pV : Int := x7.2.2.2.1
 let b12 : List (Int) := x7.2.2.2.2.1
 let b13 : List (Int) := x7.2.2.2.2.2.1
 br (decide (pV < 4)) (
  chk (inB pV 4) (
   chk (decide (pV.toNat < 4)) (
    let v14 : Int := b12.getD (pV.toNat) (Ty.dflt (.int .u64))
    chk (inB pV 4) (
     chk (decide (pV.toNat < 4)) (
      let v15 : Int := b13.getD (pV.toNat) (Ty.dflt (.int .u64))
      chk (inB pV 4) (
       chk (decide (pV.toNat < 4)) (
        let v16 : Int := IntKind.wrap .i64 (pV + 1)
        g1 (zPv, zPw, zMv, v16, b12.set (pV.toNat) (bJ .u64 .or v14 v15), b13, ())))))))) (
  let v17 : Int := IntKind.wrap .i64 (zMv + 1)
  g0 (zPv, zPw, v17, b12, ()))
def uK (n : Nat) (g0 : List (List (Int)) × Int × Int × List (Int) × Unit -> Option (List (Int))) (x1 : List (List (Int)) × Int × Int × List (Int) × Unit) : Option (List (Int)) :=
 let zLg : List (List (Int)) := x1.1
 let zPx : Int := x1.2.1
 let zGh : Int := x1.2.2.1
 let b5 : List (Int) := x1.2.2.2.1
 br (decide (zGh < zPx)) (
  chk (inB zGh zLg.length) (
   let v6 : List (Int) := bA (Ty.dflt (.arr 4 (.int .u64))) zLg zGh
   fix (Jv n g0) n (zLg, zPx, zGh, 0, b5, v6, ()))) (
  some b5)
def kR (n : Nat) (x : List (List (Int))) : Option (List (Int)) :=
 let l_0 : List (List (Int)) := x
 fix (uK n) n (l_0, (l_0.length : Int), 0, [0, 0, 0, 0], ())
def uL (n : Nat) (g0 : List UInt8 × Int × Int × List (Int) × Unit -> Option (List (Int))) (x1 : List UInt8 × Int × Int × List (Int) × Unit) : Option (List (Int)) :=
 let s_2 : List UInt8 := x1.1
 let zAq : Int := x1.2.1
 let zZ : Int := x1.2.2.1
 let b5 : List (Int) := x1.2.2.2.1
 br (decide (zZ < zAq)) (
  chk (inB zZ s_2.length) (
   let v6 : Int := ((bA 0 s_2 zZ).toNat : Int)
   chk (decide (0 <= 6)) (
    chk (inB (eP .u8 v6 6) 4) (
     chk (decide ((eP .u8 v6 6).toNat < 4)) (
      let v7 : Int := b5.getD ((eP .u8 v6 6).toNat) (Ty.dflt (.int .u64))
      chk (inB zZ s_2.length) (
       let v8 : Int := ((bA 0 s_2 zZ).toNat : Int)
       chk (decide (0 <= bJ .u8 .and v8 63)) (
        let v9 : Int := Im .u64 1 (bJ .u8 .and v8 63)
        chk (inB (eP .u8 v6 6) 4) (
         chk (decide ((eP .u8 v6 6).toNat < 4)) (
          let v10 : Int := IntKind.wrap .i64 (zZ + 1)
          g0 (s_2, zAq, v10, b5.set ((eP .u8 v6 6).toNat) (bJ .u64 .or v7 v9), ())))))))))) (
  some b5)
def lY (n : Nat) (x : List UInt8) : Option (List (Int)) :=
 let s_0 : List UInt8 := x
 fix (uL n) n (s_0, (s_0.length : Int), 0, [0, 0, 0, 0], ())
def xK (n : Nat) (x : List UInt8) : Option (List (Int) × Bool) :=
 let dW : List UInt8 := x
 ob (bP n (65, 90)) fun y1 =>
 ob (bP n (97, 122)) fun y2 =>
 ob (bP n (48, 57)) fun y3 =>
 br (dW == [117, 112, 112, 101, 114]) (
  some (y1, true)) (
  br (dW == [108, 111, 119, 101, 114]) (
   some (y2, true)) (
   br (dW == [97, 108, 112, 104, 97]) (
    ob (kR n [y1, y2]) fun y4 =>
    some (y4, true)) (
    br (dW == [100, 105, 103, 105, 116]) (
     some (y3, true)) (
     br (dW == [97, 108, 110, 117, 109]) (
      ob (kR n [y1, y2, y3]) fun y5 =>
      some (y5, true)) (
      br (dW == [120, 100, 105, 103, 105, 116]) (
       ob (bP n (65, 70)) fun y6 =>
       ob (bP n (97, 102)) fun y7 =>
       ob (kR n [y3, y6, y7]) fun y8 =>
       some (y8, true)) (
       br (dW == [98, 108, 97, 110, 107]) (
        ob (lY n [32, 9]) fun y9 =>
        some (y9, true)) (
        br (dW == [115, 112, 97, 99, 101]) (
         ob (lY n [32, 9, 10, 11, 12, 13]) fun y10 =>
         some (y10, true)) (
         br (dW == [99, 110, 116, 114, 108]) (
          ob (bP n (0, 31)) fun y11 =>
          ob (lY n [127]) fun y12 =>
          ob (kR n [y11, y12]) fun y13 =>
          some (y13, true)) (
          br (dW == [103, 114, 97, 112, 104]) (
           ob (bP n (33, 126)) fun y14 =>
           some (y14, true)) (
           br (dW == [112, 114, 105, 110, 116]) (
            ob (bP n (32, 126)) fun y15 =>
            some (y15, true)) (
            br (dW == [112, 117, 110, 99, 116]) (
             ob (bP n (33, 47)) fun y16 =>
             ob (bP n (58, 64)) fun y17 =>
             ob (bP n (91, 96)) fun y18 =>
             ob (bP n (123, 126)) fun y19 =>
             ob (kR n [y16, y17, y18, y19]) fun y20 =>
             some (y20, true)) (
             some ([0, 0, 0, 0], false)))))))))))))
def mQ (n : Nat) (x21 : List UInt8 × List UInt8 × Int × Unit) : Option (Sum (Int × Bool × List UInt8 × Int × Unit) (Int × Int × List UInt8 × Int × Unit)) :=
 let zNw : List UInt8 := x21.1
 let s23 : List UInt8 := x21.2.1
 let zLh : Int := x21.2.2.1
 chk (inB zLh s23.length) (
  let v25 : Int := ((bA 0 s23 zLh).toNat : Int)
  let v26 : Int := IntKind.wrap .i64 (zLh + 3)
  some (.inl (v25, (zNw == [46]), s23, v26, ())))
def fP (n : Nat) (x41 : List UInt8 × Int × Unit) : Option (Sum (Int × Bool × List UInt8 × Int × Unit) (Int × Int × List UInt8 × Int × Unit)) :=
 let s42 : List UInt8 := x41.1
 let zSl : Int := x41.2.1
 let v44 : Int := IntKind.wrap .i64 (zSl + 1)
 let v45 : Int := IntKind.wrap .i64 (v44 - 1)
 chk (inB v45 s42.length) (
  let v46 : Int := ((bA 0 s42 v45).toNat : Int)
  some (.inl (v46, true, s42, v44, ())))
def dX (n : Nat) (x30 : Bool × Bool × List UInt8 × Int × Unit) : Option (Sum (Int × Bool × List UInt8 × Int × Unit) (Int × Int × List UInt8 × Int × Unit)) :=
 let zLi : Bool := x30.1
 let zDz : Bool := x30.2.1
 let s33 : List UInt8 := x30.2.2.1
 let zLj : Int := x30.2.2.2.1
 br (zLj == (s33.length : Int)) (
  ob2 (aX n (s33, zLj, ())) (fun y35 =>
   none) (fun y35 =>
   some (.inr (y35.1, y35.2.1, y35.2.2.1, y35.2.2.2.1, ())))) (
  ob (dA n ([91, 58], s33, zLj, ())) fun y36 =>
  br y36.1 (
   ob2 (aX n (y36.2.1, y36.2.2.1, ())) (fun y37 =>
    none) (fun y37 =>
    some (.inr (y37.1, y37.2.1, y37.2.2.1, y37.2.2.2.1, ())))) (
   ob (dA n ([93], y36.2.1, y36.2.2.1, ())) fun y38 =>
   br y38.1 (
    br (!zLi) (
     ob2 (aX n (y38.2.1, y38.2.2.1, ())) (fun y39 =>
      none) (fun y39 =>
      some (.inr (y39.1, y39.2.1, y39.2.2.1, y39.2.2.2.1, ())))) (
     br zDz (
      ob2 (aX n (y38.2.1, y38.2.2.1, ())) (fun y40 =>
       none) (fun y40 =>
       some (.inr (y40.1, y40.2.1, y40.2.2.1, y40.2.2.2.1, ())))) (
      jn (fP n) (y38.2.1, y38.2.2.1, ())))) (
    br zDz (
     ob2 (aX n (y38.2.1, y38.2.2.1, ())) (fun y47 =>
      none) (fun y47 =>
      some (.inr (y47.1, y47.2.1, y47.2.2.1, y47.2.2.2.1, ())))) (
     jn (fP n) (y38.2.1, y38.2.2.1, ())))))
def iU (n : Nat) (g0 : Bool × Bool × Int × Int × List UInt8 × Int × List (List UInt8) × Unit -> Option (Sum (Int × Bool × List UInt8 × Int × Unit) (Int × Int × List UInt8 × Int × Unit))) (x6 : Bool × Bool × Int × Int × List UInt8 × Int × List (List UInt8) × Unit) : Option (Sum (Int × Bool × List UInt8 × Int × Unit) (Int × Int × List UInt8 × Int × Unit)) :=
 let zO : Bool := x6.1
 let zIi : Bool := x6.2.1
 let zMw : Int := x6.2.2.1
 let Jw : Int := x6.2.2.2.1
 let s11 : List UInt8 := x6.2.2.2.2.1
 let zAr : Int := x6.2.2.2.2.2.1
 let Cb : List (List UInt8) := x6.2.2.2.2.2.2.1
 br (decide (Jw < zMw)) (
  chk ((inB Jw (Cb.length) && decide (0 + (Cb.length) <= Cb.length))) (
   chk (decide (0 + Jw.toNat < Cb.length)) (
    let v14 : List UInt8 := Cb.getD (0 + Jw.toNat) (Ty.dflt .str)
    chk (decide ([91].length + v14.length <= aG)) (
     ob (cK n ([91] ++ v14, s11, zAr, ())) fun y15 =>
     br (!y15.1) (
      let v16 : Int := IntKind.wrap .i64 (Jw + 1)
      g0 (zO, zIi, zMw, v16, y15.2.1, y15.2.2.1, Cb, ())) (
      br ((y15.2.1.length : Int) == y15.2.2.1) (
       ob2 (aX n (y15.2.1, y15.2.2.1, ())) (fun y17 =>
        none) (fun y17 =>
        some (.inr (y17.1, y17.2.1, y17.2.2.1, y17.2.2.2.1, ())))) (
       let v18 : Int := IntKind.wrap .i64 (y15.2.2.1 + 1)
       chk ((decide (0 <= v18) && decide (v18 <= (y15.2.1.length : Int)))) (
        chk (decide (v14.length + ([93] : List UInt8).length <= aG)) (
         ob (strings_HasPrefix n (y15.2.1.drop v18.toNat, v14 ++ [93])) fun y19 =>
         br (!y19) (
          ob2 (aX n (y15.2.1, y15.2.2.1, ())) (fun y20 =>
           none) (fun y20 =>
           some (.inr (y20.1, y20.2.1, y20.2.2.1, y20.2.2.2.1, ())))) (
          jn (mQ n) (v14, y15.2.1, y15.2.2.1, ())))))))))) (
  ob (cK n ([92, 110], s11, zAr, ())) fun y27 =>
  br y27.1 (
   some (.inl (10, true, y27.2.1, y27.2.2.1, ()))) (
   ob (dA n ([45], y27.2.1, y27.2.2.1, ())) fun y28 =>
   br y28.1 (
    br (!zO) (
     br (!zIi) (
      ob (dA n ([45, 93], y28.2.1, y28.2.2.1, ())) fun y29 =>
      jn (dX n) (zO, (!y29.1), y29.2.1, y29.2.2.1, ())) (
      jn (dX n) (zO, false, y28.2.1, y28.2.2.1, ()))) (
     jn (dX n) (zO, false, y28.2.1, y28.2.2.1, ()))) (
    jn (dX n) (zO, false, y28.2.1, y28.2.2.1, ()))))
def iL (n : Nat) (x : Bool × Bool × List UInt8 × Int × Unit) : Option (Sum (Int × Bool × List UInt8 × Int × Unit) (Int × Int × List UInt8 × Int × Unit)) :=
 let tY : Bool := x.1
 let zPy : Bool := x.2.1
 let s3 : List UInt8 := x.2.2.1
 let at4 : Int := x.2.2.2.1
 let v5 : Int := (([[46], [61]].length : Nat) : Int)
 fix (iU n) n (tY, zPy, v5, 0, s3, at4, [[46], [61]], ())
def jH (n : Nat) (x : Bool × List UInt8 × Int × Unit) : Option (Sum (List (Int) × List UInt8 × Int × Unit) (Int × Int × List UInt8 × Int × Unit)) :=
 let tY : Bool := x.1
 let s2 : List UInt8 := x.2.1
 let at3 : Int := x.2.2.1
 ob (cK n ([91, 58], s2, at3, ())) fun y4 =>
 br y4.1 (
  chk ((decide (0 <= y4.2.2.1) && decide (y4.2.2.1 <= (y4.2.1.length : Int)))) (
   let v5 : List UInt8 := y4.2.1.drop y4.2.2.1.toNat
   ob (strings_Cut n (v5, [58, 93])) fun y6 =>
   let v7 : Int := IntKind.wrap .i64 (y4.2.2.1 + (y6.1.length : Int))
   ob (xK n y6.1) fun y8 =>
   br (!y8.2) (
    ob2 (aX n (y4.2.1, v7, ())) (fun y9 =>
     none) (fun y9 =>
     some (.inr (y9.1, y9.2.1, y9.2.2.1, y9.2.2.2.1, ())))) (
    ob (cK n ([58, 93], y4.2.1, v7, ())) fun y10 =>
    br (!y10.1) (
     ob2 (aX n (y10.2.1, y10.2.2.1, ())) (fun y11 =>
      none) (fun y11 =>
      some (.inr (y11.1, y11.2.1, y11.2.2.1, y11.2.2.2.1, ())))) (
     some (.inl (y8.1, y10.2.1, y10.2.2.1, ())))))) (
  ob2 (iL n (tY, false, y4.2.1, y4.2.2.1, ())) (fun y12 =>
   ob (dA n ([45], y12.2.2.1, y12.2.2.2.1, ())) fun y13 =>
   br (!y13.1) (
    ob (bP n (y12.1, y12.1)) fun y14 =>
    some (.inl (y14, y13.2.1, y13.2.2.1, ()))) (
    ob (dA n ([45, 93], y13.2.1, y13.2.2.1, ())) fun y15 =>
    br y15.1 (
     ob (bP n (y12.1, y12.1)) fun y16 =>
     some (.inl (y16, y15.2.1, y15.2.2.1, ()))) (
     let v17 : Int := IntKind.wrap .i64 (y15.2.2.1 + 1)
     br (v17 == (y15.2.1.length : Int)) (
      ob (bP n (y12.1, y12.1)) fun y18 =>
      some (.inl (y18, y15.2.1, y15.2.2.1, ()))) (
      let v19 : Int := IntKind.wrap .i64 (y15.2.2.1 + 1)
      ob2 (iL n (false, true, y15.2.1, v19, ())) (fun y20 =>
       br (!y12.2.1) (
        ob2 (aX n (y20.2.2.1, y20.2.2.2.1, ())) (fun y21 =>
         none) (fun y21 =>
         some (.inr (y21.1, y21.2.1, y21.2.2.1, y21.2.2.2.1, ())))) (
        br (!y20.2.1) (
         ob2 (aX n (y20.2.2.1, y20.2.2.2.1, ())) (fun y22 =>
          none) (fun y22 =>
          some (.inr (y22.1, y22.2.1, y22.2.2.1, y22.2.2.2.1, ())))) (
         br (decide (y20.1 < y12.1)) (
          ob2 (aX n (y20.2.2.1, y20.2.2.2.1, ())) (fun y23 =>
           none) (fun y23 =>
           some (.inr (y23.1, y23.2.1, y23.2.2.1, y23.2.2.2.1, ())))) (
          ob (bP n (y12.1, y20.1)) fun y24 =>
          some (.inl (y24, y20.2.2.1, y20.2.2.2.1, ())))))) (fun y20 =>
       some (.inr (y20.1, y20.2.1, y20.2.2.1, y20.2.2.2.1, ()))))))) (fun y12 =>
   some (.inr (y12.1, y12.2.1, y12.2.2.1, y12.2.2.2.1, ()))))
def iJ (n : Nat) (g0 : Bool × Bool × List (Int) × List UInt8 × Int × Unit -> Option (Sum (List (Int) × List UInt8 × Int × Unit) (Int × Int × List (Int) × List UInt8 × Int × Unit))) (x7 : Bool × Bool × List (Int) × List UInt8 × Int × Unit) : Option (Sum (List (Int) × List UInt8 × Int × Unit) (Int × Int × List (Int) × List UInt8 × Int × Unit)) :=
 let zGi : Bool := x7.1
 let Vb : Bool := x7.2.1
 let b10 : List (Int) := x7.2.2.1
 let s11 : List UInt8 := x7.2.2.2.1
 let zAr : Int := x7.2.2.2.2.1
 br Vb (
  ob2 (jH n (Vb, s11, zAr, ())) (fun y13 =>
   ob (kR n [b10, y13.1]) fun y14 =>
   g0 (zGi, false, y14, y13.2.1, y13.2.2.1, ())) (fun y13 =>
   some (.inr (y13.1, y13.2.1, b10, y13.2.2.1, y13.2.2.2.1, ())))) (
  ob (cK n ([93], s11, zAr, ())) fun y15 =>
  br (!y15.1) (
   ob2 (jH n (Vb, y15.2.1, y15.2.2.1, ())) (fun y16 =>
    ob (kR n [b10, y16.1]) fun y17 =>
    g0 (zGi, false, y17, y16.2.1, y16.2.2.1, ())) (fun y16 =>
    some (.inr (y16.1, y16.2.1, b10, y16.2.2.1, y16.2.2.2.1, ())))) (
   br zGi (
    ob (zN n b10) fun y18 =>
    br (Ty.beq (.arr 4 (.int .u64)) y18 ([0, 0, 0, 0])) (
     ob2 (aX n (y15.2.1, y15.2.2.1, ())) (fun y19 =>
      none) (fun y19 =>
      some (.inr (y19.1, y19.2.1, y18, y19.2.2.1, y19.2.2.2.1, ())))) (
     some (.inl (y18, y15.2.1, y15.2.2.1, ())))) (
    br (Ty.beq (.arr 4 (.int .u64)) b10 ([0, 0, 0, 0])) (
     ob2 (aX n (y15.2.1, y15.2.2.1, ())) (fun y20 =>
      none) (fun y20 =>
      some (.inr (y20.1, y20.2.1, b10, y20.2.2.1, y20.2.2.2.1, ())))) (
     some (.inl (b10, y15.2.1, y15.2.2.1, ()))))))
def iE (n : Nat) (x : List (Int) × List UInt8 × Int × Unit) : Option (Sum (List (Int) × List UInt8 × Int × Unit) (Int × Int × List (Int) × List UInt8 × Int × Unit)) :=
 let b1 : List (Int) := x.1
 let s2 : List UInt8 := x.2.1
 let at3 : Int := x.2.2.1
 ob (cK n ([91], s2, at3, ())) fun y4 =>
 br (!y4.1) (
  ob2 (aX n (y4.2.1, y4.2.2.1, ())) (fun y5 =>
   none) (fun y5 =>
   some (.inr (y5.1, y5.2.1, b1, y5.2.2.1, y5.2.2.2.1, ())))) (
  ob (cK n ([94], y4.2.1, y4.2.2.1, ())) fun y6 =>
  fix (iJ n) n (y6.1, true, b1, y6.2.1, y6.2.2.1, ()))
def dL (n : Nat) (x : List (Int) × List UInt8 × Int × Unit) : Option (Int × Int × List (Int) × List UInt8 × Int × Unit) := ob2 (iE n x) (fun y => some (0, 0, y)) (fun y => some y)
def mR (n : Nat) (x : List UInt8) : Option (List (Int) × Int × Int) :=
 let s_0 : List UInt8 := x
 ob (dL n ([0, 0, 0, 0], s_0, 0, ())) fun y1 =>
 br (y1.1 != 0) (
  some ([0, 0, 0, 0], 0, y1.1)) (
  some (y1.2.2.1, y1.2.2.2.2.1, 0))
def aC (_n : Nat) (x : Int × Int × dS) : Option (Sum (dS) (Int × Int × dS)) := some (.inr x)
def iI (n : Nat) (g0 : Int × dS -> Option (Int × dS)) (x6 : Int × dS) : Option (Int × dS) :=
 let i_7 : Int := x6.1
 let s8 : List UInt8 := x6.2.1
 let at9 : Int := x6.2.2.1
 let nD : Int := x6.2.2.2.1
 let nE : List (Bool) := x6.2.2.2.2.1
 let sM : List (NdT) := x6.2.2.2.2.2.1
 br (decide (i_7 < (s8.length : Int))) (
  let v13 : Int := IntKind.wrap .i64 (at9 + 3)
  br (decide (i_7 < v13)) (
   chk (inB i_7 s8.length) (
    let v14 : Int := ((bA 0 s8 i_7).toNat : Int)
    br (decide (v14 ≥ 48)) (
     chk (inB i_7 s8.length) (
      let v15 : Int := ((bA 0 s8 i_7).toNat : Int)
      br (decide (v15 <= 57)) (
       let v16 : Int := IntKind.wrap .i64 (i_7 + 1)
       g0 (v16, s8, at9, nD, nE, sM, ())) (
       chk ((decide (0 <= i_7) && decide (i_7 <= (s8.length : Int)) && (decide (0 <= at9) && decide (at9 <= i_7)))) (
        let v17 : List UInt8 := (s8.take i_7.toNat).drop at9.toNat
        ob (strconv_Atoi n v17) fun y18 =>
        br (!(!y18.2)) (
         some ((-1), s8, i_7, nD, nE, sM, ())) (
         some (y18.1, s8, i_7, nD, nE, sM, ())))))) (
     chk ((decide (0 <= i_7) && decide (i_7 <= (s8.length : Int)) && (decide (0 <= at9) && decide (at9 <= i_7)))) (
      let v19 : List UInt8 := (s8.take i_7.toNat).drop at9.toNat
      ob (strconv_Atoi n v19) fun y20 =>
      br (!(!y20.2)) (
       some ((-1), s8, i_7, nD, nE, sM, ())) (
       some (y20.1, s8, i_7, nD, nE, sM, ())))))) (
   chk ((decide (0 <= i_7) && decide (i_7 <= (s8.length : Int)) && (decide (0 <= at9) && decide (at9 <= i_7)))) (
    let v21 : List UInt8 := (s8.take i_7.toNat).drop at9.toNat
    ob (strconv_Atoi n v21) fun y22 =>
    br (!(!y22.2)) (
     some ((-1), s8, i_7, nD, nE, sM, ())) (
     some (y22.1, s8, i_7, nD, nE, sM, ()))))) (
  chk ((decide (0 <= i_7) && decide (i_7 <= (s8.length : Int)) && (decide (0 <= at9) && decide (at9 <= i_7)))) (
   let v23 : List UInt8 := (s8.take i_7.toNat).drop at9.toNat
   ob (strconv_Atoi n v23) fun y24 =>
   br (!(!y24.2)) (
    some ((-1), s8, i_7, nD, nE, sM, ())) (
    some (y24.1, s8, i_7, nD, nE, sM, ()))))
def iB (n : Nat) (x : dS) : Option (Int × dS) :=
 let s1 : List UInt8 := x.1
 let at2 : Int := x.2.1
 let Ea : Int := x.2.2.1
 let Eb : List (Bool) := x.2.2.2.1
 let kQ : List (NdT) := x.2.2.2.2.1
 fix (iI n) n (at2, s1, at2, Ea, Eb, kQ, ())
def kS (n : Nat) (x : Int × dS) : Option mP :=
 let Ml : Int := x.1
 let s2 : List UInt8 := x.2.1
 let at3 : Int := x.2.2.1
 let dF : Int := x.2.2.2.1
 let dG : List (Bool) := x.2.2.2.2.1
 let aK : List (NdT) := x.2.2.2.2.2.1
 ob (bM n ([42], s2, at3, dF, dG, aK, ())) fun y7 =>
 br y7.1 (
  ob (bD n (6, [0, 0, 0, 0], Ml, 0, 0, (-1), 0, y7.2.1, y7.2.2.1, y7.2.2.2.1, y7.2.2.2.2.1, y7.2.2.2.2.2.1, ())) fun y8 =>
  ob (aM n ([42], y8.2.1, y8.2.2.1, y8.2.2.2.1, y8.2.2.2.2.1, y8.2.2.2.2.2.1, ())) fun y9 =>
  br y9.1 (
   ob2 (aC n (43, y9.2.2.1, y9.2.1, y9.2.2.1, y9.2.2.2.1, y9.2.2.2.2.1, y9.2.2.2.2.2.1, ())) (fun y10 =>
    none) (fun y10 =>
    some (.inr (y10.1, y10.2.1, y10.2.2.1, y10.2.2.2.1, y10.2.2.2.2.1, y10.2.2.2.2.2.1, y10.2.2.2.2.2.2.1, ())))) (
   ob (aM n ([92, 123], y9.2.1, y9.2.2.1, y9.2.2.2.1, y9.2.2.2.2.1, y9.2.2.2.2.2.1, ())) fun y11 =>
   br y11.1 (
    ob2 (aC n (43, y11.2.2.1, y11.2.1, y11.2.2.1, y11.2.2.2.1, y11.2.2.2.2.1, y11.2.2.2.2.2.1, ())) (fun y12 =>
     none) (fun y12 =>
     some (.inr (y12.1, y12.2.1, y12.2.2.1, y12.2.2.2.1, y12.2.2.2.2.1, y12.2.2.2.2.2.1, y12.2.2.2.2.2.2.1, ())))) (
    some (.inl (y8.1, y11.2.1, y11.2.2.1, y11.2.2.2.1, y11.2.2.2.2.1, y11.2.2.2.2.2.1, ()))))) (
  ob (bM n ([92, 123], y7.2.1, y7.2.2.1, y7.2.2.2.1, y7.2.2.2.2.1, y7.2.2.2.2.2.1, ())) fun y13 =>
  br (!y13.1) (
   some (.inl (Ml, y13.2.1, y13.2.2.1, y13.2.2.2.1, y13.2.2.2.2.1, y13.2.2.2.2.2.1, ()))) (
   ob (iB n (y13.2.1, y13.2.2.1, y13.2.2.2.1, y13.2.2.2.2.1, y13.2.2.2.2.2.1, ())) fun y14 =>
   ob (bM n ([44], y14.2.1, y14.2.2.1, y14.2.2.2.1, y14.2.2.2.2.1, y14.2.2.2.2.2.1, ())) fun y15 =>
   br y15.1 (
    ob (iB n (y15.2.1, y15.2.2.1, y15.2.2.2.1, y15.2.2.2.2.1, y15.2.2.2.2.2.1, ())) fun y16 =>
    br (y14.1 == (-1)) (
     ob2 (aC n (43, at3, y16.2.1, y16.2.2.1, y16.2.2.2.1, y16.2.2.2.2.1, y16.2.2.2.2.2.1, ())) (fun y17 =>
      none) (fun y17 =>
      some (.inr (y17.1, y17.2.1, y17.2.2.1, y17.2.2.2.1, y17.2.2.2.2.1, y17.2.2.2.2.2.1, y17.2.2.2.2.2.2.1, ())))) (
     ob (bM n ([92, 125], y16.2.1, y16.2.2.1, y16.2.2.2.1, y16.2.2.2.2.1, y16.2.2.2.2.2.1, ())) fun y18 =>
     br (!y18.1) (
      ob2 (aC n (43, at3, y18.2.1, y18.2.2.1, y18.2.2.2.1, y18.2.2.2.2.1, y18.2.2.2.2.2.1, ())) (fun y19 =>
       none) (fun y19 =>
       some (.inr (y19.1, y19.2.1, y19.2.2.1, y19.2.2.2.1, y19.2.2.2.2.1, y19.2.2.2.2.2.1, y19.2.2.2.2.2.2.1, ())))) (
      br (decide (y14.1 > 255)) (
       ob2 (aC n (43, at3, y18.2.1, y18.2.2.1, y18.2.2.2.1, y18.2.2.2.2.1, y18.2.2.2.2.2.1, ())) (fun y20 =>
        none) (fun y20 =>
        some (.inr (y20.1, y20.2.1, y20.2.2.1, y20.2.2.2.1, y20.2.2.2.2.1, y20.2.2.2.2.2.1, y20.2.2.2.2.2.2.1, ())))) (
       br (decide (y16.1 > 255)) (
        ob2 (aC n (43, at3, y18.2.1, y18.2.2.1, y18.2.2.2.1, y18.2.2.2.2.1, y18.2.2.2.2.2.1, ())) (fun y21 =>
         none) (fun y21 =>
         some (.inr (y21.1, y21.2.1, y21.2.2.1, y21.2.2.2.1, y21.2.2.2.2.1, y21.2.2.2.2.2.1, y21.2.2.2.2.2.2.1, ())))) (
        br (y16.1 != (-1)) (
         let v22 : Int := if 1 > y14.1 then 1 else y14.1
         br (decide (y16.1 < v22)) (
          ob2 (aC n (43, at3, y18.2.1, y18.2.2.1, y18.2.2.2.1, y18.2.2.2.2.1, y18.2.2.2.2.2.1, ())) (fun y23 =>
           none) (fun y23 =>
           some (.inr (y23.1, y23.2.1, y23.2.2.1, y23.2.2.2.1, y23.2.2.2.2.1, y23.2.2.2.2.2.1, y23.2.2.2.2.2.2.1, ())))) (
          ob (bD n (6, [0, 0, 0, 0], Ml, 0, y14.1, y16.1, 0, y18.2.1, y18.2.2.1, y18.2.2.2.1, y18.2.2.2.2.1, y18.2.2.2.2.2.1, ())) fun y24 =>
          ob (aM n ([42], y24.2.1, y24.2.2.1, y24.2.2.2.1, y24.2.2.2.2.1, y24.2.2.2.2.2.1, ())) fun y25 =>
          br y25.1 (
           ob2 (aC n (43, y25.2.2.1, y25.2.1, y25.2.2.1, y25.2.2.2.1, y25.2.2.2.2.1, y25.2.2.2.2.2.1, ())) (fun y26 =>
            none) (fun y26 =>
            some (.inr (y26.1, y26.2.1, y26.2.2.1, y26.2.2.2.1, y26.2.2.2.2.1, y26.2.2.2.2.2.1, y26.2.2.2.2.2.2.1, ())))) (
           ob (aM n ([92, 123], y25.2.1, y25.2.2.1, y25.2.2.2.1, y25.2.2.2.2.1, y25.2.2.2.2.2.1, ())) fun y27 =>
           br y27.1 (
            ob2 (aC n (43, y27.2.2.1, y27.2.1, y27.2.2.1, y27.2.2.2.1, y27.2.2.2.2.1, y27.2.2.2.2.2.1, ())) (fun y28 =>
             none) (fun y28 =>
             some (.inr (y28.1, y28.2.1, y28.2.2.1, y28.2.2.2.1, y28.2.2.2.2.1, y28.2.2.2.2.2.1, y28.2.2.2.2.2.2.1, ())))) (
            some (.inl (y24.1, y27.2.1, y27.2.2.1, y27.2.2.2.1, y27.2.2.2.2.1, y27.2.2.2.2.2.1, ())))))) (
         ob (bD n (6, [0, 0, 0, 0], Ml, 0, y14.1, y16.1, 0, y18.2.1, y18.2.2.1, y18.2.2.2.1, y18.2.2.2.2.1, y18.2.2.2.2.2.1, ())) fun y29 =>
         ob (aM n ([42], y29.2.1, y29.2.2.1, y29.2.2.2.1, y29.2.2.2.2.1, y29.2.2.2.2.2.1, ())) fun y30 =>
         br y30.1 (
          ob2 (aC n (43, y30.2.2.1, y30.2.1, y30.2.2.1, y30.2.2.2.1, y30.2.2.2.2.1, y30.2.2.2.2.2.1, ())) (fun y31 =>
           none) (fun y31 =>
           some (.inr (y31.1, y31.2.1, y31.2.2.1, y31.2.2.2.1, y31.2.2.2.2.1, y31.2.2.2.2.2.1, y31.2.2.2.2.2.2.1, ())))) (
          ob (aM n ([92, 123], y30.2.1, y30.2.2.1, y30.2.2.2.1, y30.2.2.2.2.1, y30.2.2.2.2.2.1, ())) fun y32 =>
          br y32.1 (
           ob2 (aC n (43, y32.2.2.1, y32.2.1, y32.2.2.1, y32.2.2.2.1, y32.2.2.2.2.1, y32.2.2.2.2.2.1, ())) (fun y33 =>
            none) (fun y33 =>
            some (.inr (y33.1, y33.2.1, y33.2.2.1, y33.2.2.2.1, y33.2.2.2.2.1, y33.2.2.2.2.2.1, y33.2.2.2.2.2.2.1, ())))) (
           some (.inl (y29.1, y32.2.1, y32.2.2.1, y32.2.2.2.1, y32.2.2.2.2.1, y32.2.2.2.2.2.1, ())))))))))) (
    br (y14.1 == (-1)) (
     ob2 (aC n (43, at3, y15.2.1, y15.2.2.1, y15.2.2.2.1, y15.2.2.2.2.1, y15.2.2.2.2.2.1, ())) (fun y34 =>
      none) (fun y34 =>
      some (.inr (y34.1, y34.2.1, y34.2.2.1, y34.2.2.2.1, y34.2.2.2.2.1, y34.2.2.2.2.2.1, y34.2.2.2.2.2.2.1, ())))) (
     ob (bM n ([92, 125], y15.2.1, y15.2.2.1, y15.2.2.2.1, y15.2.2.2.2.1, y15.2.2.2.2.2.1, ())) fun y35 =>
     br (!y35.1) (
      ob2 (aC n (43, at3, y35.2.1, y35.2.2.1, y35.2.2.2.1, y35.2.2.2.2.1, y35.2.2.2.2.2.1, ())) (fun y36 =>
       none) (fun y36 =>
       some (.inr (y36.1, y36.2.1, y36.2.2.1, y36.2.2.2.1, y36.2.2.2.2.1, y36.2.2.2.2.2.1, y36.2.2.2.2.2.2.1, ())))) (
      br (decide (y14.1 > 255)) (
       ob2 (aC n (43, at3, y35.2.1, y35.2.2.1, y35.2.2.2.1, y35.2.2.2.2.1, y35.2.2.2.2.2.1, ())) (fun y37 =>
        none) (fun y37 =>
        some (.inr (y37.1, y37.2.1, y37.2.2.1, y37.2.2.2.1, y37.2.2.2.2.1, y37.2.2.2.2.2.1, y37.2.2.2.2.2.2.1, ())))) (
       br (decide (y14.1 > 255)) (
        ob2 (aC n (43, at3, y35.2.1, y35.2.2.1, y35.2.2.2.1, y35.2.2.2.2.1, y35.2.2.2.2.2.1, ())) (fun y38 =>
         none) (fun y38 =>
         some (.inr (y38.1, y38.2.1, y38.2.2.1, y38.2.2.2.1, y38.2.2.2.2.1, y38.2.2.2.2.2.1, y38.2.2.2.2.2.2.1, ())))) (
        br (y14.1 != (-1)) (
         let v39 : Int := if 1 > y14.1 then 1 else y14.1
         br (decide (y14.1 < v39)) (
          ob2 (aC n (43, at3, y35.2.1, y35.2.2.1, y35.2.2.2.1, y35.2.2.2.2.1, y35.2.2.2.2.2.1, ())) (fun y40 =>
           none) (fun y40 =>
           some (.inr (y40.1, y40.2.1, y40.2.2.1, y40.2.2.2.1, y40.2.2.2.2.1, y40.2.2.2.2.2.1, y40.2.2.2.2.2.2.1, ())))) (
          ob (bD n (6, [0, 0, 0, 0], Ml, 0, y14.1, y14.1, 0, y35.2.1, y35.2.2.1, y35.2.2.2.1, y35.2.2.2.2.1, y35.2.2.2.2.2.1, ())) fun y41 =>
          ob (aM n ([42], y41.2.1, y41.2.2.1, y41.2.2.2.1, y41.2.2.2.2.1, y41.2.2.2.2.2.1, ())) fun y42 =>
          br y42.1 (
           ob2 (aC n (43, y42.2.2.1, y42.2.1, y42.2.2.1, y42.2.2.2.1, y42.2.2.2.2.1, y42.2.2.2.2.2.1, ())) (fun y43 =>
            none) (fun y43 =>
            some (.inr (y43.1, y43.2.1, y43.2.2.1, y43.2.2.2.1, y43.2.2.2.2.1, y43.2.2.2.2.2.1, y43.2.2.2.2.2.2.1, ())))) (
           ob (aM n ([92, 123], y42.2.1, y42.2.2.1, y42.2.2.2.1, y42.2.2.2.2.1, y42.2.2.2.2.2.1, ())) fun y44 =>
           br y44.1 (
            ob2 (aC n (43, y44.2.2.1, y44.2.1, y44.2.2.1, y44.2.2.2.1, y44.2.2.2.2.1, y44.2.2.2.2.2.1, ())) (fun y45 =>
             none) (fun y45 =>
             some (.inr (y45.1, y45.2.1, y45.2.2.1, y45.2.2.2.1, y45.2.2.2.2.1, y45.2.2.2.2.2.1, y45.2.2.2.2.2.2.1, ())))) (
            some (.inl (y41.1, y44.2.1, y44.2.2.1, y44.2.2.2.1, y44.2.2.2.2.1, y44.2.2.2.2.2.1, ())))))) (
         ob (bD n (6, [0, 0, 0, 0], Ml, 0, y14.1, y14.1, 0, y35.2.1, y35.2.2.1, y35.2.2.2.1, y35.2.2.2.2.1, y35.2.2.2.2.2.1, ())) fun y46 =>
         ob (aM n ([42], y46.2.1, y46.2.2.1, y46.2.2.2.1, y46.2.2.2.2.1, y46.2.2.2.2.2.1, ())) fun y47 =>
         br y47.1 (
          ob2 (aC n (43, y47.2.2.1, y47.2.1, y47.2.2.1, y47.2.2.2.1, y47.2.2.2.2.1, y47.2.2.2.2.2.1, ())) (fun y48 =>
           none) (fun y48 =>
           some (.inr (y48.1, y48.2.1, y48.2.2.1, y48.2.2.2.1, y48.2.2.2.2.1, y48.2.2.2.2.2.1, y48.2.2.2.2.2.2.1, ())))) (
          ob (aM n ([92, 123], y47.2.1, y47.2.2.1, y47.2.2.2.1, y47.2.2.2.2.1, y47.2.2.2.2.2.1, ())) fun y49 =>
          br y49.1 (
           ob2 (aC n (43, y49.2.2.1, y49.2.1, y49.2.2.1, y49.2.2.2.1, y49.2.2.2.2.1, y49.2.2.2.2.2.1, ())) (fun y50 =>
            none) (fun y50 =>
            some (.inr (y50.1, y50.2.1, y50.2.2.1, y50.2.2.2.1, y50.2.2.2.2.1, y50.2.2.2.2.2.1, y50.2.2.2.2.2.2.1, ())))) (
           some (.inl (y46.1, y49.2.1, y49.2.2.1, y49.2.2.2.1, y49.2.2.2.2.1, y49.2.2.2.2.2.1, ()))))))))))))
def kT (n : Nat) (aF : (dS) -> Option mP) (x : Int × dS) : Option mP :=
 let Vd : Int := x.1
 let s2 : List UInt8 := x.2.1
 let at3 : Int := x.2.2.1
 let dF : Int := x.2.2.2.1
 let dG : List (Bool) := x.2.2.2.2.1
 let aK : List (NdT) := x.2.2.2.2.2.1
 br (dF == 9) (
  ob2 (aC n (41, Vd, s2, at3, dF, dG, aK, ())) (fun y7 =>
   none) (fun y7 =>
   some (.inr (y7.1, y7.2.1, y7.2.2.1, y7.2.2.2.1, y7.2.2.2.2.1, y7.2.2.2.2.2.1, y7.2.2.2.2.2.2.1, ())))) (
  let v8 : Int := IntKind.wrap .i64 (dF + 1)
  ob2 (aF (s2, at3, v8, dG, aK, ())) (fun y9 =>
   br (y9.1 == (-1)) (
    ob2 (aC n (41, Vd, y9.2.1, y9.2.2.1, y9.2.2.2.1, y9.2.2.2.2.1, y9.2.2.2.2.2.1, ())) (fun y10 =>
     none) (fun y10 =>
     some (.inr (y10.1, y10.2.1, y10.2.2.1, y10.2.2.2.1, y10.2.2.2.2.1, y10.2.2.2.2.2.1, y10.2.2.2.2.2.2.1, ())))) (
    ob (bM n ([92, 41], y9.2.1, y9.2.2.1, y9.2.2.2.1, y9.2.2.2.2.1, y9.2.2.2.2.2.1, ())) fun y11 =>
    br (!y11.1) (
     ob2 (aC n (41, Vd, y11.2.1, y11.2.2.1, y11.2.2.2.1, y11.2.2.2.2.1, y11.2.2.2.2.2.1, ())) (fun y12 =>
      none) (fun y12 =>
      some (.inr (y12.1, y12.2.1, y12.2.2.1, y12.2.2.2.1, y12.2.2.2.2.1, y12.2.2.2.2.2.1, y12.2.2.2.2.2.2.1, ())))) (
     chk (inB v8 10) (
      chk (decide (v8.toNat < 10)) (
       ob (bD n (7, [0, 0, 0, 0], y9.1, 0, 0, 0, v8, y11.2.1, y11.2.2.1, y11.2.2.2.1, y11.2.2.2.2.1.set (v8.toNat) true, y11.2.2.2.2.2.1, ())) fun y13 =>
       some (.inl (y13.1, y13.2.1, y13.2.2.1, y13.2.2.2.1, y13.2.2.2.2.1, y13.2.2.2.2.2.1, ()))))))) (fun y9 =>
   some (.inr (y9.1, y9.2.1, y9.2.2.1, y9.2.2.2.1, y9.2.2.2.2.1, y9.2.2.2.2.2.1, y9.2.2.2.2.2.2.1, ()))))
def lZ (n : Nat) (aF : (dS) -> Option mP) (x : Bool × dS) : Option mP :=
 let tY : Bool := x.1
 let s2 : List UInt8 := x.2.1
 let at3 : Int := x.2.2.1
 let dF : Int := x.2.2.2.1
 let dG : List (Bool) := x.2.2.2.2.1
 let aK : List (NdT) := x.2.2.2.2.2.1
 let v7 : Int := IntKind.wrap .i64 (at3 + 1)
 br (v7 == (s2.length : Int)) (
  ob2 (aC n (40, at3, s2, v7, dF, dG, aK, ())) (fun y8 =>
   none) (fun y8 =>
   some (.inr (y8.1, y8.2.1, y8.2.2.1, y8.2.2.2.1, y8.2.2.2.2.1, y8.2.2.2.2.2.1, y8.2.2.2.2.2.2.1, ())))) (
  chk (inB v7 s2.length) (
   let v9 : Int := ((bA 0 s2 v7).toNat : Int)
   let v10 : Int := IntKind.wrap .i64 (v7 + 1)
   br (v9 == 40) (
    ob2 (kT n aF (at3, s2, v10, dF, dG, aK, ())) (fun y11 =>
     some (.inl (y11.1, y11.2.1, y11.2.2.1, y11.2.2.2.1, y11.2.2.2.2.1, y11.2.2.2.2.2.1, ()))) (fun y11 =>
     some (.inr (y11.1, y11.2.1, y11.2.2.1, y11.2.2.2.1, y11.2.2.2.2.1, y11.2.2.2.2.2.1, y11.2.2.2.2.2.2.1, ())))) (
    br (decide (v9 ≥ 49)) (
     br (decide (v9 <= 57)) (
      let v12 : Int := IntKind.wrap .u8 (v9 - 48)
      chk (inB (IntKind.wrap .i64 v12) 10) (
       chk (decide ((IntKind.wrap .i64 v12).toNat < 10)) (
        br (!(dG.getD ((IntKind.wrap .i64 v12).toNat) (Ty.dflt .bool))) (
         ob2 (aC n (44, at3, s2, v10, dF, dG, aK, ())) (fun y13 =>
          none) (fun y13 =>
          some (.inr (y13.1, y13.2.1, y13.2.2.1, y13.2.2.2.1, y13.2.2.2.2.1, y13.2.2.2.2.2.1, y13.2.2.2.2.2.2.1, ())))) (
         ob (bD n (8, [0, 0, 0, 0], 0, 0, 0, 0, IntKind.wrap .i64 v12, s2, v10, dF, dG, aK, ())) fun y14 =>
         some (.inl (y14.1, y14.2.1, y14.2.2.1, y14.2.2.2.1, y14.2.2.2.2.1, y14.2.2.2.2.2.1, ())))))) (
      br (v9 == 110) (
       ob (lY n [10]) fun y15 =>
       ob (bS n (y15, s2, v10, dF, dG, aK, ())) fun y16 =>
       some (.inl (y16.1, y16.2.1, y16.2.2.1, y16.2.2.2.1, y16.2.2.2.2.1, y16.2.2.2.2.2.1, ()))) (
       ob (strings_IndexByte n ([46, 91, 92, 42, 94, 36, 47], v9)) fun y17 =>
       br (decide (y17 ≥ 0)) (
        ob (bP n (v9, v9)) fun y18 =>
        ob (bS n (y18, s2, v10, dF, dG, aK, ())) fun y19 =>
        some (.inl (y19.1, y19.2.1, y19.2.2.1, y19.2.2.2.1, y19.2.2.2.2.1, y19.2.2.2.2.2.1, ()))) (
        br (v9 == 123) (
         br tY (
          ob2 (aC n (43, at3, s2, v10, dF, dG, aK, ())) (fun y20 =>
           none) (fun y20 =>
           some (.inr (y20.1, y20.2.1, y20.2.2.1, y20.2.2.2.1, y20.2.2.2.2.1, y20.2.2.2.2.2.1, y20.2.2.2.2.2.2.1, ())))) (
          ob2 (aC n (40, at3, s2, v10, dF, dG, aK, ())) (fun y21 =>
           none) (fun y21 =>
           some (.inr (y21.1, y21.2.1, y21.2.2.1, y21.2.2.2.1, y21.2.2.2.2.1, y21.2.2.2.2.2.1, y21.2.2.2.2.2.2.1, ()))))) (
         ob2 (aC n (40, at3, s2, v10, dF, dG, aK, ())) (fun y22 =>
          none) (fun y22 =>
          some (.inr (y22.1, y22.2.1, y22.2.2.1, y22.2.2.2.1, y22.2.2.2.2.1, y22.2.2.2.2.2.1, y22.2.2.2.2.2.2.1, ())))))))) (
     br (v9 == 110) (
      ob (lY n [10]) fun y23 =>
      ob (bS n (y23, s2, v10, dF, dG, aK, ())) fun y24 =>
      some (.inl (y24.1, y24.2.1, y24.2.2.1, y24.2.2.2.1, y24.2.2.2.2.1, y24.2.2.2.2.2.1, ()))) (
      ob (strings_IndexByte n ([46, 91, 92, 42, 94, 36, 47], v9)) fun y25 =>
      br (decide (y25 ≥ 0)) (
       ob (bP n (v9, v9)) fun y26 =>
       ob (bS n (y26, s2, v10, dF, dG, aK, ())) fun y27 =>
       some (.inl (y27.1, y27.2.1, y27.2.2.1, y27.2.2.2.1, y27.2.2.2.2.1, y27.2.2.2.2.2.1, ()))) (
       br (v9 == 123) (
        br tY (
         ob2 (aC n (43, at3, s2, v10, dF, dG, aK, ())) (fun y28 =>
          none) (fun y28 =>
          some (.inr (y28.1, y28.2.1, y28.2.2.1, y28.2.2.2.1, y28.2.2.2.2.1, y28.2.2.2.2.2.1, y28.2.2.2.2.2.2.1, ())))) (
         ob2 (aC n (40, at3, s2, v10, dF, dG, aK, ())) (fun y29 =>
          none) (fun y29 =>
          some (.inr (y29.1, y29.2.1, y29.2.2.1, y29.2.2.2.1, y29.2.2.2.2.1, y29.2.2.2.2.2.1, y29.2.2.2.2.2.2.1, ()))))) (
        ob2 (aC n (40, at3, s2, v10, dF, dG, aK, ())) (fun y30 =>
         none) (fun y30 =>
         some (.inr (y30.1, y30.2.1, y30.2.2.1, y30.2.2.2.1, y30.2.2.2.2.1, y30.2.2.2.2.2.1, y30.2.2.2.2.2.2.1, ()))))))))))
def mD (n : Nat) (aF : (dS) -> Option mP) (x : Bool × dS) : Option mP :=
 let tY : Bool := x.1
 let s2 : List UInt8 := x.2.1
 let at3 : Int := x.2.2.1
 let dF : Int := x.2.2.2.1
 let dG : List (Bool) := x.2.2.2.2.1
 let aK : List (NdT) := x.2.2.2.2.2.1
 ob (bM n ([46], s2, at3, dF, dG, aK, ())) fun y7 =>
 br y7.1 (
  ob (zN n ([0, 0, 0, 0])) fun y8 =>
  ob (bS n (y8, y7.2.1, y7.2.2.1, y7.2.2.2.1, y7.2.2.2.2.1, y7.2.2.2.2.2.1, ())) fun y9 =>
  some (.inl (y9.1, y9.2.1, y9.2.2.1, y9.2.2.2.1, y9.2.2.2.2.1, y9.2.2.2.2.2.1, ()))) (
  ob (aM n ([91], y7.2.1, y7.2.2.1, y7.2.2.2.1, y7.2.2.2.2.1, y7.2.2.2.2.2.1, ())) fun y10 =>
  br y10.1 (
   chk ((decide (0 <= y10.2.2.1) && decide (y10.2.2.1 <= (y10.2.1.length : Int)))) (
    let v11 : List UInt8 := y10.2.1.drop y10.2.2.1.toNat
    ob (mR n v11) fun y12 =>
    br (y12.2.2 != 0) (
     ob2 (aC n (y12.2.2, y10.2.2.1, y10.2.1, y10.2.2.1, y10.2.2.2.1, y10.2.2.2.2.1, y10.2.2.2.2.2.1, ())) (fun y13 =>
      none) (fun y13 =>
      some (.inr (y13.1, y13.2.1, y13.2.2.1, y13.2.2.2.1, y13.2.2.2.2.1, y13.2.2.2.2.2.1, y13.2.2.2.2.2.2.1, ())))) (
     let v14 : Int := IntKind.wrap .i64 (y10.2.2.1 + y12.2.1)
     ob (bS n (y12.1, y10.2.1, v14, y10.2.2.2.1, y10.2.2.2.2.1, y10.2.2.2.2.2.1, ())) fun y15 =>
     some (.inl (y15.1, y15.2.1, y15.2.2.1, y15.2.2.2.1, y15.2.2.2.2.1, y15.2.2.2.2.2.1, ()))))) (
   ob (aM n ([92], y10.2.1, y10.2.2.1, y10.2.2.2.1, y10.2.2.2.2.1, y10.2.2.2.2.2.1, ())) fun y16 =>
   br y16.1 (
    ob2 (lZ n aF (tY, y16.2.1, y16.2.2.1, y16.2.2.2.1, y16.2.2.2.2.1, y16.2.2.2.2.2.1, ())) (fun y17 =>
     some (.inl (y17.1, y17.2.1, y17.2.2.1, y17.2.2.2.1, y17.2.2.2.2.1, y17.2.2.2.2.2.1, ()))) (fun y17 =>
     some (.inr (y17.1, y17.2.1, y17.2.2.1, y17.2.2.2.1, y17.2.2.2.2.1, y17.2.2.2.2.2.1, y17.2.2.2.2.2.2.1, ())))) (
    let v18 : Int := IntKind.wrap .i64 (y16.2.2.1 + 1)
    let v19 : Int := IntKind.wrap .i64 (v18 - 1)
    chk ((decide (0 <= v18) && decide (v18 <= (y16.2.1.length : Int)) && (decide (0 <= v19) && decide (v19 <= v18)))) (
     let v20 : List UInt8 := (y16.2.1.take v18.toNat).drop v19.toNat
     ob (lY n v20) fun y21 =>
     ob (bS n (y21, y16.2.1, v18, y16.2.2.2.1, y16.2.2.2.2.1, y16.2.2.2.2.2.1, ())) fun y22 =>
     some (.inl (y22.1, y22.2.1, y22.2.2.1, y22.2.2.2.1, y22.2.2.2.2.1, y22.2.2.2.2.2.1, ()))))))
def jS (n : Nat) (g1 : Int × Int × List UInt8 × Int × Int × List (Bool) × List (NdT) × List (Int) × Unit -> Option mP) (x50 : Int × Int × List UInt8 × Int × Int × List (Bool) × List (NdT) × List (Int) × Unit) : Option mP :=
 let zIj : Int := x50.1
 let zAs : Int := x50.2.1
 let s53 : List UInt8 := x50.2.2.1
 let zPz : Int := x50.2.2.2.1
 let zEa : Int := x50.2.2.2.2.1
 let zEb : List (Bool) := x50.2.2.2.2.2.1
 let zMx : List (NdT) := x50.2.2.2.2.2.2.1
 let Mq : List (Int) := x50.2.2.2.2.2.2.2.1
 br (decide (zAs ≥ 0)) (
  chk ((inB zAs (Mq.length) && decide (0 + (Mq.length) <= Mq.length))) (
   chk (decide (0 + zAs.toNat < Mq.length)) (
    let v59 : Int := Mq.getD (0 + zAs.toNat) (Ty.dflt (.int .i64))
    ob (bD n (4, [0, 0, 0, 0], v59, zIj, 0, 0, 0, s53, zPz, zEa, zEb, zMx, ())) fun y60 =>
    let v61 : Int := IntKind.wrap .i64 (zAs - 1)
    g1 (y60.1, v61, y60.2.1, y60.2.2.1, y60.2.2.2.1, y60.2.2.2.2.1, y60.2.2.2.2.2.1, Mq, ())))) (
  some (.inl (zIj, s53, zPz, zEa, zEb, zMx, ())))
def jT (n : Nat) (x37 : List UInt8 × Int × Int × List (Bool) × List (NdT) × List (Int) × Unit) : Option mP :=
 let s38 : List UInt8 := x37.1
 let zQa : Int := x37.2.1
 let zEc : Int := x37.2.2.1
 let zEd : List (Bool) := x37.2.2.2.1
 let zMy : List (NdT) := x37.2.2.2.2.1
 let zA : List (Int) := x37.2.2.2.2.2.1
 let v44 : Int := ((zA.length : Nat) : Int)
 br (v44 == 0) (
  some (.inl ((-1), s38, zQa, zEc, zEd, zMy, ()))) (
  let v45 : Int := ((zA.length : Nat) : Int)
  let v46 : Int := IntKind.wrap .i64 (v45 - 1)
  chk ((inB v46 (zA.length) && decide (0 + (zA.length) <= zA.length))) (
   chk (decide (0 + v46.toNat < zA.length)) (
    let v47 : Int := zA.getD (0 + v46.toNat) (Ty.dflt (.int .i64))
    let v48 : Int := ((zA.length : Nat) : Int)
    let v49 : Int := IntKind.wrap .i64 (v48 - 2)
    fix (jS n) n (v47, v49, s38, zQa, zEc, zEd, zMy, zA, ()))))
def dU (n : Nat) (aF : (dS) -> Option mP) (g0 : Bool × List UInt8 × Int × Int × List (Bool) × List (NdT) × List (Int) × Unit -> Option mP) (x26 : Bool × Bool × List UInt8 × Int × Int × List (Bool) × List (NdT) × List (Int) × Unit) : Option mP :=
 let zLk : Bool := x26.1
 let zQb : Bool := x26.2.1
 let s29 : List UInt8 := x26.2.2.1
 let zQc : Int := x26.2.2.2.1
 let zEe : Int := x26.2.2.2.2.1
 let zEf : List (Bool) := x26.2.2.2.2.2.1
 let zMz : List (NdT) := x26.2.2.2.2.2.2.1
 let Yo : List (Int) := x26.2.2.2.2.2.2.2.1
 br zQb (
  let v35 : Int := IntKind.wrap .i64 (zQc + 1)
  ob (bD n (3, [0, 0, 0, 0], 0, 0, 0, 0, 0, s29, v35, zEe, zEf, zMz, ())) fun y36 =>
  chk (Nat.ble ((Yo.length + ([y36.1] : List (Int)).length) * 8) room) (
   jn (jT n) (y36.2.1, y36.2.2.1, y36.2.2.2.1, y36.2.2.2.2.1, y36.2.2.2.2.2.1, Yo ++ [y36.1], ()))) (
  ob2 (mD n aF (zLk, s29, zQc, zEe, zEf, zMz, ())) (fun y62 =>
   ob2 (kS n (y62.1, y62.2.1, y62.2.2.1, y62.2.2.2.1, y62.2.2.2.2.1, y62.2.2.2.2.2.1, ())) (fun y63 =>
    chk (Nat.ble ((Yo.length + ([y63.1] : List (Int)).length) * 8) room) (
     g0 (false, y63.2.1, y63.2.2.1, y63.2.2.2.1, y63.2.2.2.2.1, y63.2.2.2.2.2.1, Yo ++ [y63.1], ()))) (fun y63 =>
    some (.inr (y63.1, y63.2.1, y63.2.2.1, y63.2.2.2.1, y63.2.2.2.2.1, y63.2.2.2.2.2.1, y63.2.2.2.2.2.2.1, ())))) (fun y62 =>
   some (.inr (y62.1, y62.2.1, y62.2.2.1, y62.2.2.2.1, y62.2.2.2.2.1, y62.2.2.2.2.2.1, y62.2.2.2.2.2.2.1, ()))))
def gU (n : Nat) (aF : (dS) -> Option mP) (g0 : Bool × List UInt8 × Int × Int × List (Bool) × List (NdT) × List (Int) × Unit -> Option mP) (x15 : Bool × List UInt8 × Int × Int × List (Bool) × List (NdT) × List (Int) × Unit) : Option mP :=
 let Pp : Bool := x15.1
 let s17 : List UInt8 := x15.2.1
 let zSm : Int := x15.2.2.1
 let zNx : Int := x15.2.2.2.1
 let zNy : List (Bool) := x15.2.2.2.2.1
 let zRh : List (NdT) := x15.2.2.2.2.2.1
 let Yp : List (Int) := x15.2.2.2.2.2.2.1
 ob (jM n (s17, zSm, zNx, zNy, zRh, ())) fun y23 =>
 br (!y23.1) (
  ob (aM n ([36], y23.2.1, y23.2.2.1, y23.2.2.2.1, y23.2.2.2.2.1, y23.2.2.2.2.2.1, ())) fun y24 =>
  br y24.1 (
   let v25 : Int := IntKind.wrap .i64 (y24.2.2.1 + 1)
   br (v25 == (y24.2.1.length : Int)) (
    jn (dU n aF g0) (Pp, true, y24.2.1, y24.2.2.1, y24.2.2.2.1, y24.2.2.2.2.1, y24.2.2.2.2.2.1, Yp, ())) (
    ob (aM n ([36, 92, 41], y24.2.1, y24.2.2.1, y24.2.2.2.1, y24.2.2.2.2.1, y24.2.2.2.2.2.1, ())) fun y64 =>
    jn (dU n aF g0) (Pp, y64.1, y64.2.1, y64.2.2.1, y64.2.2.2.1, y64.2.2.2.2.1, y64.2.2.2.2.2.1, Yp, ()))) (
   jn (dU n aF g0) (Pp, false, y24.2.1, y24.2.2.1, y24.2.2.2.1, y24.2.2.2.2.1, y24.2.2.2.2.2.1, Yp, ()))) (
  jn (jT n) (y23.2.1, y23.2.2.1, y23.2.2.2.1, y23.2.2.2.2.1, y23.2.2.2.2.2.1, Yp, ()))
def jU (n : Nat) (aF : (dS) -> Option mP) (x8 : List UInt8 × Int × Int × List (Bool) × List (NdT) × List (Int) × Unit) : Option mP :=
 let s9 : List UInt8 := x8.1
 let zSn : Int := x8.2.1
 let zNz : Int := x8.2.2.1
 let zOa : List (Bool) := x8.2.2.2.1
 let Cb : List (NdT) := x8.2.2.2.2.1
 let zRi : List (Int) := x8.2.2.2.2.2.1
 fix (gU n aF) n (true, s9, zSn, zNz, zOa, Cb, zRi, ())
def lC (n : Nat) (aF : (dS) -> Option mP) (x : dS) : Option mP :=
 let s1 : List UInt8 := x.1
 let at2 : Int := x.2.1
 let Ea : Int := x.2.2.1
 let Eb : List (Bool) := x.2.2.2.1
 let kQ : List (NdT) := x.2.2.2.2.1
 ob (bM n ([94], s1, at2, Ea, Eb, kQ, ())) fun y6 =>
 br y6.1 (
  ob (bD n (2, [0, 0, 0, 0], 0, 0, 0, 0, 0, y6.2.1, y6.2.2.1, y6.2.2.2.1, y6.2.2.2.2.1, y6.2.2.2.2.2.1, ())) fun y7 =>
  chk (Nat.ble (([y7.1] : List (Int)).length * 8) room) (
   jn (jU n aF) (y7.2.1, y7.2.2.1, y7.2.2.2.1, y7.2.2.2.2.1, y7.2.2.2.2.2.1, [y7.1], ()))) (
  jn (jU n aF) (y6.2.1, y6.2.2.1, y6.2.2.2.1, y6.2.2.2.2.1, y6.2.2.2.2.2.1, [], ()))
def fF (n : Nat) : (dS) -> Option mP :=
 zAg (fun n r x => lC n r x) n
def rU (n : Nat) (x : List UInt8 × dS) : Option (Sum (List UInt8 × dS) (Int × Int × List UInt8 × dS)) :=
 let b1 : List UInt8 := x.1
 let s2 : List UInt8 := x.2.1
 let at3 : Int := x.2.2.1
 let dF : Int := x.2.2.2.1
 let dG : List (Bool) := x.2.2.2.2.1
 let aK : List (NdT) := x.2.2.2.2.2.1
 ob2 (fF n (s2, at3, dF, dG, aK, ())) (fun y7 =>
  br (decide (y7.2.2.1 < (b1.length : Int))) (
   ob2 (aC n (41, y7.2.2.1, y7.2.1, y7.2.2.1, y7.2.2.2.1, y7.2.2.2.2.1, y7.2.2.2.2.2.1, ())) (fun y8 =>
    none) (fun y8 =>
    some (.inr (y8.1, y8.2.1, b1, y8.2.2.1, y8.2.2.2.1, y8.2.2.2.2.1, y8.2.2.2.2.2.1, y8.2.2.2.2.2.2.1, ())))) (
   let v9 : Int := ((y7.2.2.2.2.2.1.length : Nat) : Int)
   br (decide (v9 > 120)) (
    ob2 (aC n (2, 0, y7.2.1, y7.2.2.1, y7.2.2.2.1, y7.2.2.2.2.1, y7.2.2.2.2.2.1, ())) (fun y10 =>
     none) (fun y10 =>
     some (.inr (y10.1, y10.2.1, b1, y10.2.2.1, y10.2.2.2.1, y10.2.2.2.2.1, y10.2.2.2.2.2.1, y10.2.2.2.2.2.2.1, ())))) (
    some (.inl (b1, y7.2.1, y7.2.2.1, y7.2.2.2.1, y7.2.2.2.2.1, y7.2.2.2.2.2.1, ()))))) (fun y7 =>
  some (.inr (y7.1, y7.2.1, b1, y7.2.2.1, y7.2.2.2.1, y7.2.2.2.2.1, y7.2.2.2.2.2.1, y7.2.2.2.2.2.2.1, ())))
def dY (n : Nat) (x : List UInt8 × dS) : Option (Int × Int × List UInt8 × dS) := ob2 (rU n x) (fun y => some (0, 0, y)) (fun y => some y)
def kE (n : Nat) (x : List UInt8) : Option (List (NdT) × Int × Int) :=
 let s_0 : List UInt8 := x
 br (s_0 == []) (
  some ([(0, ([0, 0, 0, 0], (0, (0, (0, (0, (0, ())))))))], 0, 0)) (
  ob (dY n (s_0, s_0, 0, 0, [false, false, false, false, false, false, false, false, false, false], [], ())) fun y1 =>
  br (y1.1 != 0) (
   some ([], y1.2.1, y1.1)) (
   some (y1.2.2.2.2.2.2.2.1, 0, 0)))
def oJ (n : Nat) (x : Int × List (Int) × Int × Int × Int × Int × Int × Unit) : Option (Int) :=
 let n_0 : Int × List (Int) × Int × Int × Int × Int × Int × Unit := x
 br (n_0.1 == 4) (
  br (n_0.1 == 4) (
   some 2) (
   br (n_0.1 == 6) (
    br (n_0.1 == 6) (
     some 1) (
     some 0)) (
    br (n_0.1 == 7) (
     some 1) (
     some 0)))) (
  br (n_0.1 == 5) (
   some 2) (
   br (n_0.1 == 6) (
    br (n_0.1 == 6) (
     some 1) (
     some 0)) (
    br (n_0.1 == 7) (
     some 1) (
     some 0))))
def xX (n : Nat) (x : Int × List (Int) × Int × Int × Int × Int × Int × Unit) : Option (NdT) :=
 let n_0 : Int × List (Int) × Int × Int × Int × Int × Int × Unit := x
 br (n_0.1 == 1) (
  some (n_0.1, (n_0.2.1, (0, (0, (0, (0, (0, ())))))))) (
  br (n_0.1 == 4) (
   br (n_0.1 == 4) (
    some (n_0.1, ([0, 0, 0, 0], (n_0.2.2.1, (n_0.2.2.2.1, (0, (0, (0, ())))))))) (
    br (n_0.1 == 6) (
     some (n_0.1, ([0, 0, 0, 0], (n_0.2.2.1, (0, (n_0.2.2.2.2.1, (n_0.2.2.2.2.2.1, (0, ())))))))) (
     br (n_0.1 == 7) (
      some (n_0.1, ([0, 0, 0, 0], (n_0.2.2.1, (0, (0, (0, n_0.2.2.2.2.2.2))))))) (
      br (n_0.1 == 8) (
       some (n_0.1, ([0, 0, 0, 0], (0, (0, (0, (0, n_0.2.2.2.2.2.2))))))) (
       some (n_0.1, ([0, 0, 0, 0], (0, (0, (0, (0, (0, ())))))))))))) (
   br (n_0.1 == 5) (
    some (n_0.1, ([0, 0, 0, 0], (n_0.2.2.1, (n_0.2.2.2.1, (0, (0, (0, ())))))))) (
    br (n_0.1 == 6) (
     some (n_0.1, ([0, 0, 0, 0], (n_0.2.2.1, (0, (n_0.2.2.2.2.1, (n_0.2.2.2.2.2.1, (0, ())))))))) (
     br (n_0.1 == 7) (
      some (n_0.1, ([0, 0, 0, 0], (n_0.2.2.1, (0, (0, (0, n_0.2.2.2.2.2.2))))))) (
      br (n_0.1 == 8) (
       some (n_0.1, ([0, 0, 0, 0], (0, (0, (0, (0, n_0.2.2.2.2.2.2))))))) (
       some (n_0.1, ([0, 0, 0, 0], (0, (0, (0, (0, (0, ())))))))))))))
def Cx (n : Nat) (x : Int × List (Int) × Int × Int × Int × Int × Int × Unit) : Option (Bool) :=
 let n_0 : Int × List (Int) × Int × Int × Int × Int × Int × Unit := x
 br (decide (n_0.1 < 0)) (
  some false) (
  br (decide (n_0.1 > 8)) (
   some false) (
   ob (xX n n_0) fun y1 =>
   br (!(Ty.beq aB n_0 y1)) (
    some false) (
    br (n_0.1 == 1) (
     some (!(Ty.beq (.arr 4 (.int .u64)) n_0.2.1 ([0, 0, 0, 0])))) (
     br (n_0.1 == 6) (
      br (decide (n_0.2.2.2.2.1 ≥ 0)) (
       br (decide (n_0.2.2.2.2.1 <= 255)) (
        br (n_0.2.2.2.2.2.1 == (-1)) (
         some true) (
         let v2 : Int := if 1 > n_0.2.2.2.2.1 then 1 else n_0.2.2.2.2.1
         br (decide (n_0.2.2.2.2.2.1 ≥ v2)) (
          some (decide (n_0.2.2.2.2.2.1 <= 255))) (
          some false))) (
        some false)) (
       some false)) (
      br (n_0.1 == 7) (
       br (n_0.1 == 7) (
        br (decide (n_0.2.2.2.2.2.2.1 ≥ 1)) (
         some (decide (n_0.2.2.2.2.2.2.1 <= 9))) (
         some false)) (
        some true)) (
       br (n_0.1 == 8) (
        br (decide (n_0.2.2.2.2.2.2.1 ≥ 1)) (
         some (decide (n_0.2.2.2.2.2.2.1 <= 9))) (
         some false)) (
        some true)))))))
def Cy (n : Nat) (g0 : List (Int) × Int × Int × Int × Unit -> Option (Int)) (x1 : List (Int) × Int × Int × Int × Unit) : Option (Int) :=
 let s_2 : List (Int) := x1.1
 let v_3 : Int := x1.2.1
 let lG : Int := x1.2.2.1
 let zAt : Int := x1.2.2.2.1
 br (decide (zAt < lG)) (
  chk (inB zAt s_2.length) (
   let v6 : Int := bA (Ty.dflt (.int .i64)) s_2 zAt
   br (v_3 == v6) (
    some zAt) (
    let v7 : Int := IntKind.wrap .i64 (zAt + 1)
    g0 (s_2, v_3, lG, v7, ())))) (
  some (-1))
def tC (n : Nat) (x : List (Int) × Int) : Option (Int) :=
 let s_0 : List (Int) := x.1
 let v_1 : Int := x.2
 fix (Cy n) n (s_0, v_1, (s_0.length : Int), 0, ())
def oV (n : Nat) (x : List (Int) × Int) : Option (Bool) :=
 let s_0 : List (Int) := x.1
 let v_1 : Int := x.2
 ob (tC n (s_0, v_1)) fun y1 =>
 some (decide (y1 ≥ 0))
def tZ (n : Nat) (x : List (NdT) × Int × List (Int) × Int × Int × Int × Int × Int × Unit) : Option (Bool) :=
 let l_0 : List (NdT) := x.1
 let n_1 : Int × List (Int) × Int × Int × Int × Int × Int × Unit := x.2
 br (n_1.1 == 4) (
  chk (inB n_1.2.2.1 l_0.length) (
   let v1 : Int × List (Int) × Int × Int × Int × Int × Int × Unit := bA (Ty.dflt aB) l_0 n_1.2.2.1
   br (v1.1 != 4) (
    chk (inB n_1.2.2.1 l_0.length) (
     let v2 : Int × List (Int) × Int × Int × Int × Int × Int × Unit := bA (Ty.dflt aB) l_0 n_1.2.2.1
     br (v2.1 != 5) (
      chk (inB n_1.2.2.2.1 l_0.length) (
       let v3 : Int × List (Int) × Int × Int × Int × Int × Int × Unit := bA (Ty.dflt aB) l_0 n_1.2.2.2.1
       some (v3.1 != 5))) (
      some false))) (
    some false))) (
  br (n_1.1 == 5) (
   chk (inB n_1.2.2.1 l_0.length) (
    let v4 : Int × List (Int) × Int × Int × Int × Int × Int × Unit := bA (Ty.dflt aB) l_0 n_1.2.2.1
    some (v4.1 != 5))) (
   br (n_1.1 == 6) (
    chk (inB n_1.2.2.1 l_0.length) (
     let v5 : Int × List (Int) × Int × Int × Int × Int × Int × Unit := bA (Ty.dflt aB) l_0 n_1.2.2.1
     ob (oV n ([1, 7, 8], v5.1)) fun y6 =>
     some y6)) (
    some true)))
def Pq (n : Nat) (g0 : List (NdT) × List (NdT) × Int × Int × List (Int) × Unit -> Option (Bool)) (x1 : List (NdT) × List (NdT) × Int × Int × List (Int) × Unit) : Option (Bool) :=
 let l_2 : List (NdT) := x1.1
 let Jy : List (NdT) := x1.2.1
 let Pv : Int := x1.2.2.1
 let iV : Int := x1.2.2.2.1
 let aK : List (Int) := x1.2.2.2.2.1
 br (decide (iV < Pv)) (
  chk (inB iV Jy.length) (
   let v7 : Int × List (Int) × Int × Int × Int × Int × Int × Unit := bA (Ty.dflt aB) Jy iV
   let v8 : Int := ((aK.length : Nat) : Int)
   ob (oJ n v7) fun y9 =>
   let v10 : Int := IntKind.wrap .i64 (v8 - y9)
   ob (Cx n v7) fun y11 =>
   br (!y11) (
    some false) (
    br (decide (v10 < 0)) (
     some false) (
     br (v7.1 == 0) (
      br (decide ((l_2.length : Int) > 1)) (
       some false) (
       chk ((decide (0 <= v10) && decide (v10 <= (aK.length : Int)))) (
        let v12 : Int := (((aK.length) - (v10.toNat) : Nat) : Int)
        br (decide (v12 > 0)) (
         chk ((inB 0 ((aK.length) - (v10.toNat)) && decide ((0 + (v10.toNat)) + ((aK.length) - (v10.toNat)) <= aK.length))) (
          chk (decide ((0 + (v10.toNat)) + (0 : Int).toNat < aK.length)) (
           let v13 : Int := aK.getD ((0 + (v10.toNat)) + (0 : Int).toNat) (Ty.dflt (.int .i64))
           br (v13 != v7.2.2.1) (
            some false) (
            let v14 : Int := (((aK.length) - (v10.toNat) : Nat) : Int)
            br (decide (v14 > 1)) (
             chk ((inB 1 ((aK.length) - (v10.toNat)) && decide ((0 + (v10.toNat)) + ((aK.length) - (v10.toNat)) <= aK.length))) (
              chk (decide ((0 + (v10.toNat)) + (1 : Int).toNat < aK.length)) (
               let v15 : Int := aK.getD ((0 + (v10.toNat)) + (1 : Int).toNat) (Ty.dflt (.int .i64))
               br (v15 != v7.2.2.2.1) (
                some false) (
                ob (tZ n (l_2, v7)) fun y16 =>
                br (!y16) (
                 some false) (
                 chk ((decide (0 <= v10) && decide (v10 <= (aK.length : Int)))) (
                  chk ((Nat.ble (v10.toNat) aK.length && Nat.ble (((v10.toNat) + ([iV] : List (Int)).length) * 8) room)) (
                   let r17 : List (Int) := aK.take (v10.toNat) ++ [iV]
                   let v18 : Int := IntKind.wrap .i64 (iV + 1)
                   g0 (l_2, Jy, Pv, v18, r17, ())))))))) (
             ob (tZ n (l_2, v7)) fun y19 =>
             br (!y19) (
              some false) (
              chk ((decide (0 <= v10) && decide (v10 <= (aK.length : Int)))) (
               chk ((Nat.ble (v10.toNat) aK.length && Nat.ble (((v10.toNat) + ([iV] : List (Int)).length) * 8) room)) (
                let r20 : List (Int) := aK.take (v10.toNat) ++ [iV]
                let v21 : Int := IntKind.wrap .i64 (iV + 1)
                g0 (l_2, Jy, Pv, v21, r20, ()))))))))) (
         ob (tZ n (l_2, v7)) fun y22 =>
         br (!y22) (
          some false) (
          chk ((decide (0 <= v10) && decide (v10 <= (aK.length : Int)))) (
           chk ((Nat.ble (v10.toNat) aK.length && Nat.ble (((v10.toNat) + ([iV] : List (Int)).length) * 8) room)) (
            let r23 : List (Int) := aK.take (v10.toNat) ++ [iV]
            let v24 : Int := IntKind.wrap .i64 (iV + 1)
            g0 (l_2, Jy, Pv, v24, r23, ())))))))) (
      chk ((decide (0 <= v10) && decide (v10 <= (aK.length : Int)))) (
       let v25 : Int := (((aK.length) - (v10.toNat) : Nat) : Int)
       br (decide (v25 > 0)) (
        chk ((inB 0 ((aK.length) - (v10.toNat)) && decide ((0 + (v10.toNat)) + ((aK.length) - (v10.toNat)) <= aK.length))) (
         chk (decide ((0 + (v10.toNat)) + (0 : Int).toNat < aK.length)) (
          let v26 : Int := aK.getD ((0 + (v10.toNat)) + (0 : Int).toNat) (Ty.dflt (.int .i64))
          br (v26 != v7.2.2.1) (
           some false) (
           let v27 : Int := (((aK.length) - (v10.toNat) : Nat) : Int)
           br (decide (v27 > 1)) (
            chk ((inB 1 ((aK.length) - (v10.toNat)) && decide ((0 + (v10.toNat)) + ((aK.length) - (v10.toNat)) <= aK.length))) (
             chk (decide ((0 + (v10.toNat)) + (1 : Int).toNat < aK.length)) (
              let v28 : Int := aK.getD ((0 + (v10.toNat)) + (1 : Int).toNat) (Ty.dflt (.int .i64))
              br (v28 != v7.2.2.2.1) (
               some false) (
               ob (tZ n (l_2, v7)) fun y29 =>
               br (!y29) (
                some false) (
                chk ((decide (0 <= v10) && decide (v10 <= (aK.length : Int)))) (
                 chk ((Nat.ble (v10.toNat) aK.length && Nat.ble (((v10.toNat) + ([iV] : List (Int)).length) * 8) room)) (
                  let r30 : List (Int) := aK.take (v10.toNat) ++ [iV]
                  let v31 : Int := IntKind.wrap .i64 (iV + 1)
                  g0 (l_2, Jy, Pv, v31, r30, ())))))))) (
            ob (tZ n (l_2, v7)) fun y32 =>
            br (!y32) (
             some false) (
             chk ((decide (0 <= v10) && decide (v10 <= (aK.length : Int)))) (
              chk ((Nat.ble (v10.toNat) aK.length && Nat.ble (((v10.toNat) + ([iV] : List (Int)).length) * 8) room)) (
               let r33 : List (Int) := aK.take (v10.toNat) ++ [iV]
               let v34 : Int := IntKind.wrap .i64 (iV + 1)
               g0 (l_2, Jy, Pv, v34, r33, ()))))))))) (
        ob (tZ n (l_2, v7)) fun y35 =>
        br (!y35) (
         some false) (
         chk ((decide (0 <= v10) && decide (v10 <= (aK.length : Int)))) (
          chk ((Nat.ble (v10.toNat) aK.length && Nat.ble (((v10.toNat) + ([iV] : List (Int)).length) * 8) room)) (
           let r36 : List (Int) := aK.take (v10.toNat) ++ [iV]
           let v37 : Int := IntKind.wrap .i64 (iV + 1)
           g0 (l_2, Jy, Pv, v37, r36, ()))))))))))) (
  let v38 : Int := ((aK.length : Nat) : Int)
  some (v38 == 1))
def Gg (n : Nat) (x : List (NdT)) : Option (Bool) :=
 let l_0 : List (NdT) := x
 fix (Pq n) n (l_0, l_0, (l_0.length : Int), 0, [], ())
def xL (n : Nat) (bX : (Int × List (NdT) × Int × Bool × List (Bool) × Bool × Unit) -> Option (List (NdT) × Int × Bool × List (Bool) × Bool × Unit)) (x : Int × List (NdT) × Int × Bool × List (Bool) × Bool × Unit) : Option (List (NdT) × Int × Bool × List (Bool) × Bool × Unit) :=
 let i_1 : Int := x.1
 let b2 : List (NdT) := x.2.1
 let b3 : Int := x.2.2.1
 let b4 : Bool := x.2.2.2.1
 let b5 : List (Bool) := x.2.2.2.2.1
 let b6 : Bool := x.2.2.2.2.2.1
 chk (inB i_1 b2.length) (
  let v7 : Int × List (Int) × Int × Int × Int × Int × Int × Unit := bA (Ty.dflt aB) b2 i_1
  br (v7.1 == 4) (
   br (v7.1 == 4) (
    ob (bX (v7.2.2.1, b2, b3, b4, b5, b6, ())) fun y8 =>
    ob (bX (v7.2.2.2.1, y8.1, y8.2.1, y8.2.2.1, y8.2.2.2.1, y8.2.2.2.2.1, ())) fun y9 =>
    some (y9.1, y9.2.1, y9.2.2.1, y9.2.2.2.1, y9.2.2.2.2.1, ())) (
    br (v7.1 == 6) (
     ob (bX (v7.2.2.1, b2, b3, b4, b5, b6, ())) fun y10 =>
     some (y10.1, y10.2.1, y10.2.2.1, y10.2.2.2.1, y10.2.2.2.2.1, ())) (
     br (v7.1 == 7) (
      let v11 : Int := IntKind.wrap .i64 (b3 + 1)
      br b4 (
       ob (bX (v7.2.2.1, b2, v11, (v7.2.2.2.2.2.2.1 == v11), b5, b6, ())) fun y12 =>
       chk (inB v7.2.2.2.2.2.2.1 10) (
        chk (decide (v7.2.2.2.2.2.2.1.toNat < 10)) (
         some (y12.1, y12.2.1, y12.2.2.1, y12.2.2.2.1.set (v7.2.2.2.2.2.2.1.toNat) true, y12.2.2.2.2.1, ())))) (
       ob (bX (v7.2.2.1, b2, v11, false, b5, b6, ())) fun y13 =>
       chk (inB v7.2.2.2.2.2.2.1 10) (
        chk (decide (v7.2.2.2.2.2.2.1.toNat < 10)) (
         some (y13.1, y13.2.1, y13.2.2.1, y13.2.2.2.1.set (v7.2.2.2.2.2.2.1.toNat) true, y13.2.2.2.2.1, ()))))) (
      br (v7.1 == 8) (
       br b4 (
        chk (inB v7.2.2.2.2.2.2.1 10) (
         chk (decide (v7.2.2.2.2.2.2.1.toNat < 10)) (
          some (b2, b3, b5.getD (v7.2.2.2.2.2.2.1.toNat) (Ty.dflt .bool), b5, true, ())))) (
        some (b2, b3, false, b5, true, ()))) (
       some (b2, b3, b4, b5, b6, ())))))) (
   br (v7.1 == 5) (
    ob (bX (v7.2.2.1, b2, b3, b4, b5, b6, ())) fun y14 =>
    ob (bX (v7.2.2.2.1, y14.1, y14.2.1, y14.2.2.1, y14.2.2.2.1, y14.2.2.2.2.1, ())) fun y15 =>
    some (y15.1, y15.2.1, y15.2.2.1, y15.2.2.2.1, y15.2.2.2.2.1, ())) (
    br (v7.1 == 6) (
     ob (bX (v7.2.2.1, b2, b3, b4, b5, b6, ())) fun y16 =>
     some (y16.1, y16.2.1, y16.2.2.1, y16.2.2.2.1, y16.2.2.2.2.1, ())) (
     br (v7.1 == 7) (
      let v17 : Int := IntKind.wrap .i64 (b3 + 1)
      br b4 (
       ob (bX (v7.2.2.1, b2, v17, (v7.2.2.2.2.2.2.1 == v17), b5, b6, ())) fun y18 =>
       chk (inB v7.2.2.2.2.2.2.1 10) (
        chk (decide (v7.2.2.2.2.2.2.1.toNat < 10)) (
         some (y18.1, y18.2.1, y18.2.2.1, y18.2.2.2.1.set (v7.2.2.2.2.2.2.1.toNat) true, y18.2.2.2.2.1, ())))) (
       ob (bX (v7.2.2.1, b2, v17, false, b5, b6, ())) fun y19 =>
       chk (inB v7.2.2.2.2.2.2.1 10) (
        chk (decide (v7.2.2.2.2.2.2.1.toNat < 10)) (
         some (y19.1, y19.2.1, y19.2.2.1, y19.2.2.2.1.set (v7.2.2.2.2.2.2.1.toNat) true, y19.2.2.2.2.1, ()))))) (
      br (v7.1 == 8) (
       br b4 (
        chk (inB v7.2.2.2.2.2.2.1 10) (
         chk (decide (v7.2.2.2.2.2.2.1.toNat < 10)) (
          some (b2, b3, b5.getD (v7.2.2.2.2.2.2.1.toNat) (Ty.dflt .bool), b5, true, ())))) (
        some (b2, b3, false, b5, true, ()))) (
       some (b2, b3, b4, b5, b6, ())))))))
def xY (n : Nat) : (Int × List (NdT) × Int × Bool × List (Bool) × Bool × Unit) -> Option (List (NdT) × Int × Bool × List (Bool) × Bool × Unit) :=
 zAg (fun n r x => xL n r x) n
def Cz (n : Nat) (x : List (NdT)) : Option (Int × Bool × Bool) :=
 let l_0 : List (NdT) := x
 let v1 : Int := IntKind.wrap .i64 ((l_0.length : Int) - 1)
 ob (xY n (v1, l_0, 0, true, [false, false, false, false, false, false, false, false, false, false], false, ())) fun y2 =>
 some (y2.2.1, y2.2.2.2.2.1, y2.2.2.1)
def vX (n : Nat) (x : List (NdT)) : Option (Int × Bool × Bool) :=
 let l_0 : List (NdT) := x
 br ((l_0.length : Int) == 0) (
  some (0, false, false)) (
  br (decide ((l_0.length : Int) > 120)) (
   some (0, false, false)) (
   ob (Gg n l_0) fun y1 =>
   br (!y1) (
    some (0, false, false)) (
    ob (Cz n l_0) fun y2 =>
    br (!y2.2.2) (
     some (0, false, false)) (
     some (y2.1, y2.2.1, true)))))
def Jz (n : Nat) (x : List (NdT)) : Option (Bool) :=
 let l_0 : List (NdT) := x
 ob (vX n l_0) fun y1 =>
 some y1.2.2
def Aa (n : Nat) (x : Int) : Option (List UInt8) :=
 let b_0 : Int := x
 br (b_0 == 10) (
  some [92, 110]) (
  ob (strings_IndexByte n ([46, 91, 92, 42, 94, 36], b_0)) fun y1 =>
  br (decide (y1 ≥ 0)) (
   chk (decide ([92].length + (cZ [b_0]).length <= aG)) (
    some ([92] ++ (cZ [b_0])))) (
   some (cZ [b_0])))
def oO (n : Nat) (x : List (Int) × Int) : Option (Bool) :=
 let s_0 : List (Int) := x.1
 let b_1 : Int := x.2
 chk (decide (0 <= 6)) (
  chk (inB (eP .u8 b_1 6) 4) (
   chk (decide ((eP .u8 b_1 6).toNat < 4)) (
    let v1 : Int := s_0.getD ((eP .u8 b_1 6).toNat) (Ty.dflt (.int .u64))
    chk (decide (0 <= bJ .u8 .and b_1 63)) (
     let v2 : Int := eP .u64 v1 (bJ .u8 .and b_1 63)
     some ((bJ .u64 .and v2 1) == 1)))))
def qL (n : Nat) (g0 : List UInt8 × Int × Int × List (List UInt8) × Unit -> Option (List (List UInt8))) (x1 : List UInt8 × Int × Int × List (List UInt8) × Unit) : Option (List (List UInt8)) :=
 let s_2 : List UInt8 := x1.1
 let zGj : Int := x1.2.1
 let lG : Int := x1.2.2.1
 let kQ : List (List UInt8) := x1.2.2.2.1
 br (decide (lG < zGj)) (
  let v6 : Int := ((kQ.length : Nat) : Int)
  let v7 : Int := IntKind.wrap .i64 (v6 - 1)
  br (decide (v7 ≥ 0)) (
   chk (inB lG s_2.length) (
    let v8 : Int := ((bA 0 s_2 lG).toNat : Int)
    let v9 : Int := IntKind.wrap .i64 (lG - 1)
    chk (inB v9 s_2.length) (
     let v10 : Int := ((bA 0 s_2 v9).toNat : Int)
     let v11 : Int := IntKind.wrap .u8 (v10 + 1)
     br (v8 == v11) (
      chk ((inB v7 (kQ.length) && decide (0 + (kQ.length) <= kQ.length))) (
       chk (decide (0 + v7.toNat < kQ.length)) (
        let v12 : List UInt8 := kQ.getD (0 + v7.toNat) (Ty.dflt .str)
        let v13 : Int := IntKind.wrap .i64 (lG + 1)
        chk ((decide (0 <= v13) && decide (v13 <= (s_2.length : Int)) && (decide (0 <= lG) && decide (lG <= v13)))) (
         let v14 : List UInt8 := (s_2.take v13.toNat).drop lG.toNat
         chk (decide (v12.length + v14.length <= aG)) (
          chk ((inB v7 (kQ.length) && decide (0 + (kQ.length) <= kQ.length))) (
           chk (decide (0 + v7.toNat < kQ.length)) (
            let r15 : List (List UInt8) := kQ.set (0 + v7.toNat) (v12 ++ v14)
            let v16 : Int := IntKind.wrap .i64 (lG + 1)
            g0 (s_2, zGj, v16, r15, ())))))))) (
      let v17 : Int := IntKind.wrap .i64 (lG + 1)
      chk ((decide (0 <= v17) && decide (v17 <= (s_2.length : Int)) && (decide (0 <= lG) && decide (lG <= v17)))) (
       let v18 : List UInt8 := (s_2.take v17.toNat).drop lG.toNat
       chk (Nat.ble ((kQ.length + ([v18] : List (List UInt8)).length) * 16) room) (
        let v19 : Int := IntKind.wrap .i64 (lG + 1)
        g0 (s_2, zGj, v19, kQ ++ [v18], ()))))))) (
   let v20 : Int := IntKind.wrap .i64 (lG + 1)
   chk ((decide (0 <= v20) && decide (v20 <= (s_2.length : Int)) && (decide (0 <= lG) && decide (lG <= v20)))) (
    let v21 : List UInt8 := (s_2.take v20.toNat).drop lG.toNat
    chk (Nat.ble ((kQ.length + ([v21] : List (List UInt8)).length) * 16) room) (
     let v22 : Int := IntKind.wrap .i64 (lG + 1)
     g0 (s_2, zGj, v22, kQ ++ [v21], ()))))) (
  some kQ)
def Ab (n : Nat) (x : List UInt8) : Option (List (List UInt8)) :=
 let s_0 : List UInt8 := x
 fix (qL n) n (s_0, (s_0.length : Int), 0, [], ())
def kI (n : Nat) (g2 : List UInt8 × Int × Int × List (Int) × List (List UInt8) × Unit -> Option (List UInt8)) (x35 : List UInt8 × Int × Int × List (Int) × List (List UInt8) × Unit) : Option (List UInt8) :=
 let Da : List UInt8 := x35.1
 let Ec : Int := x35.2.1
 let uM : Int := x35.2.2.1
 let b39 : List (Int) := x35.2.2.2.1
 let wX : List (List UInt8) := x35.2.2.2.2.1
 br (decide (uM < Ec)) (
  chk ((inB uM (wX.length) && decide (0 + (wX.length) <= wX.length))) (
   chk (decide (0 + uM.toNat < wX.length)) (
    let v41 : List UInt8 := wX.getD (0 + uM.toNat) (Ty.dflt .str)
    chk (inB 0 v41.length) (
     let v42 : Int := ((bA 0 v41 0).toNat : Int)
     ob (oO n (b39, v42)) fun y43 =>
     br y43 (
      br (v41 == [10]) (
       chk (decide (Da.length + ([92, 110] : List UInt8).length <= aG)) (
        let v44 : Int := IntKind.wrap .i64 (uM + 1)
        g2 (Da ++ [92, 110], Ec, v44, b39, wX, ()))) (
       chk (inB 0 v41.length) (
        let v45 : Int := ((bA 0 v41 0).toNat : Int)
        ob (oO n (b39, v45)) fun y46 =>
        br y46 (
         chk (decide (Da.length + v41.length <= aG)) (
          let v47 : Int := IntKind.wrap .i64 (uM + 1)
          g2 (Da ++ v41, Ec, v47, b39, wX, ()))) (
         let v48 : Int := IntKind.wrap .i64 (uM + 1)
         g2 (Da, Ec, v48, b39, wX, ()))))) (
      chk (inB 0 v41.length) (
       let v49 : Int := ((bA 0 v41 0).toNat : Int)
       ob (oO n (b39, v49)) fun y50 =>
       br y50 (
        chk (decide (Da.length + v41.length <= aG)) (
         let v51 : Int := IntKind.wrap .i64 (uM + 1)
         g2 (Da ++ v41, Ec, v51, b39, wX, ()))) (
        let v52 : Int := IntKind.wrap .i64 (uM + 1)
        g2 (Da, Ec, v52, b39, wX, ())))))))) (
  chk (decide (Da.length + ([93] : List UInt8).length <= aG)) (
   some (Da ++ [93])))
def nG (n : Nat) (g1 : List UInt8 × List (List UInt8) × Int × Int × List (Int) × Unit -> Option (List UInt8)) (x22 : List UInt8 × List (List UInt8) × Int × Int × List (Int) × Unit) : Option (List UInt8) :=
 let zAu : List UInt8 := x22.1
 let Sb : List (List UInt8) := x22.2.1
 let zAv : Int := x22.2.2.1
 let Ka : Int := x22.2.2.2.1
 let b27 : List (Int) := x22.2.2.2.2.1
 br (decide (Ka < zAv)) (
  chk (inB Ka Sb.length) (
   let v28 : List UInt8 := bA (Ty.dflt .str) Sb Ka
   br (decide ((v28.length : Int) > 2)) (
    chk ((decide (0 <= (1 : Int)) && decide ((1 : Int) <= (v28.length : Int)))) (
     chk (decide ((v28.take (1 : Int).toNat).length + ([45] : List UInt8).length <= aG)) (
      let v29 : List UInt8 := (v28.take (1 : Int).toNat) ++ [45]
      let v30 : Int := IntKind.wrap .i64 ((v28.length : Int) - 1)
      chk ((decide (0 <= v30) && decide (v30 <= (v28.length : Int)))) (
       chk (decide (v29.length + (v28.drop v30.toNat).length <= aG)) (
        let v31 : List UInt8 := v29 ++ (v28.drop v30.toNat)
        chk (decide (zAu.length + v31.length <= aG)) (
         let v32 : Int := IntKind.wrap .i64 (Ka + 1)
         g1 (zAu ++ v31, Sb, zAv, v32, b27, ()))))))) (
    chk (decide (zAu.length + v28.length <= aG)) (
     let v33 : Int := IntKind.wrap .i64 (Ka + 1)
     g1 (zAu ++ v28, Sb, zAv, v33, b27, ()))))) (
  let v34 : Int := (([[10], [91], [92], [94], [45]].length : Nat) : Int)
  fix (kI n) n (zAu, v34, 0, b27, [[10], [91], [92], [94], [45]], ()))
def nH (n : Nat) (g0 : List UInt8 × List (Int) × Int × Int × List (Int) × List (Int) × Unit -> Option (List UInt8)) (x10 : List UInt8 × List (Int) × Int × Int × List (Int) × List (Int) × Unit) : Option (List UInt8) :=
 let zLl : List UInt8 := x10.1
 let Sc : List (Int) := x10.2.1
 let zAw : Int := x10.2.2.1
 let Kc : Int := x10.2.2.2.1
 let b15 : List (Int) := x10.2.2.2.2.1
 let Yq : List (Int) := x10.2.2.2.2.2.1
 br (decide (Kc < zAw)) (
  chk (inB Kc Sc.length) (
   let v17 : Int := bA (Ty.dflt (.int .u8)) Sc Kc
   ob (strings_IndexByte n ([93, 91, 92, 94, 45, 10], v17)) fun y18 =>
   br (decide (y18 < 0)) (
    chk (Nat.ble ((Yq.length + ([v17] : List (Int)).length) * 1) room) (
     let v19 : Int := IntKind.wrap .i64 (Kc + 1)
     g0 (zLl, Sc, zAw, v19, b15, Yq ++ [v17], ()))) (
    let v20 : Int := IntKind.wrap .i64 (Kc + 1)
    g0 (zLl, Sc, zAw, v20, b15, Yq, ())))) (
  ob (Ab n (cZ Yq)) fun y21 =>
  fix (nG n) n (zLl, y21, (y21.length : Int), 0, b15, ()))
def kJ (n : Nat) (x5 : List UInt8 × List UInt8 × List (Int) × Unit) : Option (List UInt8) :=
 let l_6 : List UInt8 := x5.1
 let b_7 : List UInt8 := x5.2.1
 let b8 : List (Int) := x5.2.2.1
 chk (Nat.ble l_6.length room) (
  let v9 : Int := ((aT l_6).length : Int)
  fix (nH n) n (b_7, aT l_6, v9, 0, b8, [], ()))
def tF (n : Nat) (x : List (Int)) : Option (List UInt8) :=
 let s_0 : List (Int) := x
 ob (pU n s_0) fun y1 =>
 br ((y1.length : Int) == 0) (
  some []) (
  br ((y1.length : Int) == 1) (
   chk (inB 0 y1.length) (
    let v2 : Int := ((bA 0 y1 0).toNat : Int)
    ob (Aa n v2) fun y3 =>
    some y3)) (
   br ((y1.length : Int) == 256) (
    some [46]) (
    br (y1 == [45, 94]) (
     some [91, 45, 94, 93]) (
     ob (oO n (s_0, 93)) fun y4 =>
     br y4 (
      chk (decide ([91].length + ([93] : List UInt8).length <= aG)) (
       jn (kJ n) (y1, [91] ++ [93], s_0, ()))) (
      jn (kJ n) (y1, [91], s_0, ()))))))
def Ke (n : Nat) (x : Int × List (Int) × Int × Int × Int × Int × Int × Unit) : Option (List UInt8) :=
 let n_0 : Int × List (Int) × Int × Int × Int × Int × Int × Unit := x
 ob (strconv_Itoa n n_0.2.2.2.2.1) fun y1 =>
 ob (strconv_Itoa n n_0.2.2.2.2.2.1) fun y2 =>
 br (n_0.2.2.2.2.2.1 == (-1)) (
  br (n_0.2.2.2.2.1 == 0) (
   some [42]) (
   br (n_0.2.2.2.2.2.1 == (-1)) (
    chk (decide ([92, 123].length + y1.length <= aG)) (
     chk (decide (([92, 123] ++ y1).length + ([44, 92, 125] : List UInt8).length <= aG)) (
      let v3 : List UInt8 := ([92, 123] ++ y1) ++ [44, 92, 125]
      some v3))) (
    br (n_0.2.2.2.2.2.1 == n_0.2.2.2.2.1) (
     chk (decide ([92, 123].length + y1.length <= aG)) (
      chk (decide (([92, 123] ++ y1).length + ([92, 125] : List UInt8).length <= aG)) (
       let v4 : List UInt8 := ([92, 123] ++ y1) ++ [92, 125]
       some v4))) (
     chk (decide ([92, 123].length + y1.length <= aG)) (
      chk (decide (([92, 123] ++ y1).length + ([44] : List UInt8).length <= aG)) (
       let v5 : List UInt8 := ([92, 123] ++ y1) ++ [44]
       chk (decide (v5.length + y2.length <= aG)) (
        chk (decide ((v5 ++ y2).length + ([92, 125] : List UInt8).length <= aG)) (
         some ((v5 ++ y2) ++ [92, 125]))))))))) (
  br (n_0.2.2.2.2.2.1 == (-1)) (
   chk (decide ([92, 123].length + y1.length <= aG)) (
    chk (decide (([92, 123] ++ y1).length + ([44, 92, 125] : List UInt8).length <= aG)) (
     let v6 : List UInt8 := ([92, 123] ++ y1) ++ [44, 92, 125]
     some v6))) (
   br (n_0.2.2.2.2.2.1 == n_0.2.2.2.2.1) (
    chk (decide ([92, 123].length + y1.length <= aG)) (
     chk (decide (([92, 123] ++ y1).length + ([92, 125] : List UInt8).length <= aG)) (
      let v7 : List UInt8 := ([92, 123] ++ y1) ++ [92, 125]
      some v7))) (
    chk (decide ([92, 123].length + y1.length <= aG)) (
     chk (decide (([92, 123] ++ y1).length + ([44] : List UInt8).length <= aG)) (
      let v8 : List UInt8 := ([92, 123] ++ y1) ++ [44]
      chk (decide (v8.length + y2.length <= aG)) (
       chk (decide ((v8 ++ y2).length + ([92, 125] : List UInt8).length <= aG)) (
        some ((v8 ++ y2) ++ [92, 125]))))))))
def Xn (n : Nat) (g0 : List (NdT) × Int × Int × List (List UInt8) × Unit -> Option (List UInt8)) (g1 : Int × List UInt8 × List (NdT) × Int × Int × List (Int) × Int × Int × List (List UInt8) × Unit -> Option (List UInt8)) (x16 : Int × List UInt8 × List (NdT) × Int × Int × List (Int) × Int × Int × List (List UInt8) × Unit) : Option (List UInt8) :=
 let Ve : Int := x16.1
 let zAx : List UInt8 := x16.2.1
 let zIk : List (NdT) := x16.2.2.1
 let zIl : Int := x16.2.2.2.1
 let zIm : Int := x16.2.2.2.2.1
 let zAy : List (Int) := x16.2.2.2.2.2.1
 let zIn : Int := x16.2.2.2.2.2.2.1
 let Sd : Int := x16.2.2.2.2.2.2.2.1
 let Yr : List (List UInt8) := x16.2.2.2.2.2.2.2.2.1
 br (decide (Sd < zIn)) (
  chk (inB Sd zAy.length) (
   let v26 : Int := bA (Ty.dflt (.int .u8)) zAy Sd
   chk ((!decide (16 = 0))) (
    let v27 : Int := IntKind.wrap .u64 (Int.tdiv (IntKind.wrap .u64 v26) 16)
    ob (lU n (v27, 16)) fun y28 =>
    chk ((!decide (16 = 0))) (
     let v29 : Int := Int.tmod (IntKind.wrap .u64 v26) 16
     ob (lU n (v29, 16)) fun y30 =>
     chk (decide (y28.length + y30.length <= aG)) (
      chk (decide (zAx.length + (y28 ++ y30).length <= aG)) (
       let v31 : Int := IntKind.wrap .i64 (Sd + 1)
       g1 (Ve, zAx ++ (y28 ++ y30), zIk, zIl, zIm, zAy, zIn, v31, Yr, ()))))))) (
  chk (decide (zAx.length + ([93] : List UInt8).length <= aG)) (
   chk ((decide (0 <= Ve) && decide (Ve <= (Yr.length : Int)))) (
    chk ((Nat.ble (Ve.toNat) Yr.length && Nat.ble (((Ve.toNat) + ([zAx ++ [93]] : List (List UInt8)).length) * 16) room)) (
     let r32 : List (List UInt8) := Yr.take (Ve.toNat) ++ [zAx ++ [93]]
     let v33 : Int := IntKind.wrap .i64 (zIm + 1)
     g0 (zIk, zIl, v33, r32, ())))))
def Xo (n : Nat) (g0 : List (NdT) × Int × Int × List (List UInt8) × Unit -> Option (List UInt8)) (x2 : List (NdT) × Int × Int × List (List UInt8) × Unit) : Option (List UInt8) :=
 let sN : List (NdT) := x2.1
 let uN : Int := x2.2.1
 let qM : Int := x2.2.2.1
 let aK : List (List UInt8) := x2.2.2.2.1
 br (decide (qM < uN)) (
  chk (inB qM sN.length) (
   let v7 : Int × List (Int) × Int × Int × Int × Int × Int × Unit := bA (Ty.dflt aB) sN qM
   let v8 : Int := ((aK.length : Nat) : Int)
   ob (oJ n v7) fun y9 =>
   let v10 : Int := IntKind.wrap .i64 (v8 - y9)
   chk ((decide (0 <= v10) && decide (v10 <= (aK.length : Int)))) (
    chk ((Nat.ble ((0 + (v10.toNat)) + ((aK.length) - (v10.toNat))) aK.length && true)) (
     ob (strings_Join n ((aK.drop (0 + (v10.toNat))).take ((aK.length) - (v10.toNat)), [])) fun y11 =>
     br (v7.1 == 0) (
      chk ((decide (0 <= v10) && decide (v10 <= (aK.length : Int)))) (
       chk ((Nat.ble (v10.toNat) aK.length && Nat.ble (((v10.toNat) + ([[101]] : List (List UInt8)).length) * 16) room)) (
        let r12 : List (List UInt8) := aK.take (v10.toNat) ++ [[101]]
        let v13 : Int := IntKind.wrap .i64 (qM + 1)
        g0 (sN, uN, v13, r12, ())))) (
      br (v7.1 == 1) (
       ob (pU n v7.2.1) fun y14 =>
       chk (Nat.ble y14.length room) (
        let v15 : Int := ((aT y14).length : Int)
        fix (Xn n g0) n (v10, [91], sN, uN, qM, aT y14, v15, 0, aK, ()))) (
       br (v7.1 == 2) (
        chk ((decide (0 <= v10) && decide (v10 <= (aK.length : Int)))) (
         chk ((Nat.ble (v10.toNat) aK.length && Nat.ble (((v10.toNat) + ([[94]] : List (List UInt8)).length) * 16) room)) (
          let r34 : List (List UInt8) := aK.take (v10.toNat) ++ [[94]]
          let v35 : Int := IntKind.wrap .i64 (qM + 1)
          g0 (sN, uN, v35, r34, ())))) (
        br (v7.1 == 3) (
         chk ((decide (0 <= v10) && decide (v10 <= (aK.length : Int)))) (
          chk ((Nat.ble (v10.toNat) aK.length && Nat.ble (((v10.toNat) + ([[36]] : List (List UInt8)).length) * 16) room)) (
           let r36 : List (List UInt8) := aK.take (v10.toNat) ++ [[36]]
           let v37 : Int := IntKind.wrap .i64 (qM + 1)
           g0 (sN, uN, v37, r36, ())))) (
         br (v7.1 == 4) (
          chk (decide ([38].length + y11.length <= aG)) (
           chk ((decide (0 <= v10) && decide (v10 <= (aK.length : Int)))) (
            chk ((Nat.ble (v10.toNat) aK.length && Nat.ble (((v10.toNat) + ([[38] ++ y11] : List (List UInt8)).length) * 16) room)) (
             let r38 : List (List UInt8) := aK.take (v10.toNat) ++ [[38] ++ y11]
             let v39 : Int := IntKind.wrap .i64 (qM + 1)
             g0 (sN, uN, v39, r38, ()))))) (
          br (v7.1 == 5) (
           chk (decide ([124].length + y11.length <= aG)) (
            chk ((decide (0 <= v10) && decide (v10 <= (aK.length : Int)))) (
             chk ((Nat.ble (v10.toNat) aK.length && Nat.ble (((v10.toNat) + ([[124] ++ y11] : List (List UInt8)).length) * 16) room)) (
              let r40 : List (List UInt8) := aK.take (v10.toNat) ++ [[124] ++ y11]
              let v41 : Int := IntKind.wrap .i64 (qM + 1)
              g0 (sN, uN, v41, r40, ()))))) (
           br (v7.1 == 6) (
            ob (strconv_Itoa n v7.2.2.2.2.1) fun y42 =>
            chk (decide ([42].length + y42.length <= aG)) (
             chk (decide (([42] ++ y42).length + ([44] : List UInt8).length <= aG)) (
              ob (strconv_Itoa n v7.2.2.2.2.2.1) fun y43 =>
              chk (decide ((([42] ++ y42) ++ [44]).length + y43.length <= aG)) (
               let v44 : List UInt8 := (([42] ++ y42) ++ [44]) ++ y43
               chk (decide (v44.length + ([59] : List UInt8).length <= aG)) (
                chk (decide ((v44 ++ [59]).length + y11.length <= aG)) (
                 chk ((decide (0 <= v10) && decide (v10 <= (aK.length : Int)))) (
                  chk ((Nat.ble (v10.toNat) aK.length && Nat.ble (((v10.toNat) + ([(v44 ++ [59]) ++ y11] : List (List UInt8)).length) * 16) room)) (
                   let r45 : List (List UInt8) := aK.take (v10.toNat) ++ [(v44 ++ [59]) ++ y11]
                   let v46 : Int := IntKind.wrap .i64 (qM + 1)
                   g0 (sN, uN, v46, r45, ()))))))))) (
            br (v7.1 == 7) (
             chk (decide ([40].length + y11.length <= aG)) (
              chk (decide (([40] ++ y11).length + ([41] : List UInt8).length <= aG)) (
               chk ((decide (0 <= v10) && decide (v10 <= (aK.length : Int)))) (
                chk ((Nat.ble (v10.toNat) aK.length && Nat.ble (((v10.toNat) + ([([40] ++ y11) ++ [41]] : List (List UInt8)).length) * 16) room)) (
                 let r47 : List (List UInt8) := aK.take (v10.toNat) ++ [([40] ++ y11) ++ [41]]
                 let v48 : Int := IntKind.wrap .i64 (qM + 1)
                 g0 (sN, uN, v48, r47, ())))))) (
             br (v7.1 == 8) (
              ob (strconv_Itoa n v7.2.2.2.2.2.2.1) fun y49 =>
              chk (decide ([92].length + y49.length <= aG)) (
               chk ((decide (0 <= v10) && decide (v10 <= (aK.length : Int)))) (
                chk ((Nat.ble (v10.toNat) aK.length && Nat.ble (((v10.toNat) + ([[92] ++ y49] : List (List UInt8)).length) * 16) room)) (
                 let r50 : List (List UInt8) := aK.take (v10.toNat) ++ [[92] ++ y49]
                 let v51 : Int := IntKind.wrap .i64 (qM + 1)
                 g0 (sN, uN, v51, r50, ()))))) (
              chk ((decide (0 <= v10) && decide (v10 <= (aK.length : Int)))) (
               chk ((Nat.ble (v10.toNat) aK.length && Nat.ble (((v10.toNat) + ([[]] : List (List UInt8)).length) * 16) room)) (
                let r52 : List (List UInt8) := aK.take (v10.toNat) ++ [[]]
                let v53 : Int := IntKind.wrap .i64 (qM + 1)
                g0 (sN, uN, v53, r52, ())))))))))))))))) (
  chk ((inB 0 (aK.length) && decide (0 + (aK.length) <= aK.length))) (
   chk (decide (0 + (0 : Int).toNat < aK.length)) (
    let v54 : List UInt8 := aK.getD (0 + (0 : Int).toNat) (Ty.dflt .str)
    some v54)))
def Mr (n : Nat) (x : List (NdT)) : Option (List UInt8) :=
 let l_0 : List (NdT) := x
 ob (Jz n l_0) fun y1 =>
 br (!y1) (
  some []) (
  fix (Xo n) n (l_0, (l_0.length : Int), 0, [], ()))
def Sg (n : Nat) (g0 : List (NdT) × List (NdT) × Int × Int × List (List UInt8) × Unit -> Option (List UInt8 × Int)) (x3 : List (NdT) × List (NdT) × Int × Int × List (List UInt8) × Unit) : Option (List UInt8 × Int) :=
 let l_4 : List (NdT) := x3.1
 let uO : List (NdT) := x3.2.1
 let wY : Int := x3.2.2.1
 let dH : Int := x3.2.2.2.1
 let bN : List (List UInt8) := x3.2.2.2.2.1
 br (decide (dH < wY)) (
  chk (inB dH uO.length) (
   let v9 : Int × List (Int) × Int × Int × Int × Int × Int × Unit := bA (Ty.dflt aB) uO dH
   br (v9.1 == 1) (
    ob (tF n v9.2.1) fun y10 =>
    chk ((inB dH (bN.length) && decide (0 + (bN.length) <= bN.length))) (
     chk (decide (0 + dH.toNat < bN.length)) (
      let r11 : List (List UInt8) := bN.set (0 + dH.toNat) y10
      let v12 : Int := IntKind.wrap .i64 (dH + 1)
      g0 (l_4, uO, wY, v12, r11, ())))) (
    br (v9.1 == 2) (
     chk ((inB dH (bN.length) && decide (0 + (bN.length) <= bN.length))) (
      chk (decide (0 + dH.toNat < bN.length)) (
       let r13 : List (List UInt8) := bN.set (0 + dH.toNat) [94]
       let v14 : Int := IntKind.wrap .i64 (dH + 1)
       g0 (l_4, uO, wY, v14, r13, ())))) (
     br (v9.1 == 3) (
      chk ((inB dH (bN.length) && decide (0 + (bN.length) <= bN.length))) (
       chk (decide (0 + dH.toNat < bN.length)) (
        let r15 : List (List UInt8) := bN.set (0 + dH.toNat) [36]
        let v16 : Int := IntKind.wrap .i64 (dH + 1)
        g0 (l_4, uO, wY, v16, r15, ())))) (
      br (v9.1 == 4) (
       chk ((inB v9.2.2.1 (bN.length) && decide (0 + (bN.length) <= bN.length))) (
        chk (decide (0 + v9.2.2.1.toNat < bN.length)) (
         let v17 : List UInt8 := bN.getD (0 + v9.2.2.1.toNat) (Ty.dflt .str)
         chk ((inB v9.2.2.2.1 (bN.length) && decide (0 + (bN.length) <= bN.length))) (
          chk (decide (0 + v9.2.2.2.1.toNat < bN.length)) (
           let v18 : List UInt8 := bN.getD (0 + v9.2.2.2.1.toNat) (Ty.dflt .str)
           chk (decide (v17.length + v18.length <= aG)) (
            chk ((inB dH (bN.length) && decide (0 + (bN.length) <= bN.length))) (
             chk (decide (0 + dH.toNat < bN.length)) (
              let r19 : List (List UInt8) := bN.set (0 + dH.toNat) (v17 ++ v18)
              let v20 : Int := IntKind.wrap .i64 (dH + 1)
              g0 (l_4, uO, wY, v20, r19, ()))))))))) (
       br (v9.1 == 5) (
        chk ((inB dH (bN.length) && decide (0 + (bN.length) <= bN.length))) (
         chk (decide (0 + dH.toNat < bN.length)) (
          let r21 : List (List UInt8) := bN.set (0 + dH.toNat) [124]
          let v22 : Int := IntKind.wrap .i64 (dH + 1)
          g0 (l_4, uO, wY, v22, r21, ())))) (
        br (v9.1 == 6) (
         chk ((inB v9.2.2.1 (bN.length) && decide (0 + (bN.length) <= bN.length))) (
          chk (decide (0 + v9.2.2.1.toNat < bN.length)) (
           let v23 : List UInt8 := bN.getD (0 + v9.2.2.1.toNat) (Ty.dflt .str)
           ob (Ke n v9) fun y24 =>
           chk (decide (v23.length + y24.length <= aG)) (
            chk ((inB dH (bN.length) && decide (0 + (bN.length) <= bN.length))) (
             chk (decide (0 + dH.toNat < bN.length)) (
              let r25 : List (List UInt8) := bN.set (0 + dH.toNat) (v23 ++ y24)
              let v26 : Int := IntKind.wrap .i64 (dH + 1)
              g0 (l_4, uO, wY, v26, r25, ()))))))) (
         br (v9.1 == 7) (
          chk ((inB v9.2.2.1 (bN.length) && decide (0 + (bN.length) <= bN.length))) (
           chk (decide (0 + v9.2.2.1.toNat < bN.length)) (
            let v27 : List UInt8 := bN.getD (0 + v9.2.2.1.toNat) (Ty.dflt .str)
            chk (decide ([92, 40].length + v27.length <= aG)) (
             chk (decide (([92, 40] ++ v27).length + ([92, 41] : List UInt8).length <= aG)) (
              let v28 : List UInt8 := ([92, 40] ++ v27) ++ [92, 41]
              chk ((inB dH (bN.length) && decide (0 + (bN.length) <= bN.length))) (
               chk (decide (0 + dH.toNat < bN.length)) (
                let r29 : List (List UInt8) := bN.set (0 + dH.toNat) v28
                let v30 : Int := IntKind.wrap .i64 (dH + 1)
                g0 (l_4, uO, wY, v30, r29, ())))))))) (
          br (v9.1 == 8) (
           ob (strconv_Itoa n v9.2.2.2.2.2.2.1) fun y31 =>
           chk (decide ([92].length + y31.length <= aG)) (
            chk ((inB dH (bN.length) && decide (0 + (bN.length) <= bN.length))) (
             chk (decide (0 + dH.toNat < bN.length)) (
              let r32 : List (List UInt8) := bN.set (0 + dH.toNat) ([92] ++ y31)
              let v33 : Int := IntKind.wrap .i64 (dH + 1)
              g0 (l_4, uO, wY, v33, r32, ()))))) (
           let v34 : Int := IntKind.wrap .i64 (dH + 1)
           g0 (l_4, uO, wY, v34, bN, ()))))))))))) (
  let v35 : Int := IntKind.wrap .i64 ((l_4.length : Int) - 1)
  chk ((inB v35 (bN.length) && decide (0 + (bN.length) <= bN.length))) (
   chk (decide (0 + v35.toNat < bN.length)) (
    let v36 : List UInt8 := bN.getD (0 + v35.toNat) (Ty.dflt .str)
    ob (kE n v36) fun y37 =>
    br (y37.2.2 != 0) (
     some ([], 1)) (
     ob (Mr n y37.1) fun y38 =>
     ob (Mr n l_4) fun y39 =>
     br (!(y38 == y39)) (
      some ([], 1)) (
      some (v36, 0))))))
def Kg (n : Nat) (x : List (NdT)) : Option (List UInt8 × Int) :=
 let l_0 : List (NdT) := x
 ob (Jz n l_0) fun y1 =>
 br (!y1) (
  some ([], 1)) (
  chk ((decide (0 <= (l_0.length : Int)) && (decide ((l_0.length : Int) = (l_0.length : Int)) && Nat.ble ((l_0.length : Int).toNat * 16) room))) (
   let r2 : List (List UInt8) := List.replicate (l_0.length : Int).toNat []
   fix (Sg n) n (l_0, l_0, (l_0.length : Int), 0, r2, ())))
def Kh (n : Nat) (x : List (NdT)) : Option (Int) :=
 let l_0 : List (NdT) := x
 ob (vX n l_0) fun y1 =>
 some y1.1
def Vf (n : Nat) (x : List (NdT)) : Option (Bool) :=
 let l_0 : List (NdT) := x
 ob (vX n l_0) fun y1 =>
 some y1.2.1
def wZ (n : Nat) (x : Unit) : Option (Bool) :=
 ob (kE n [94, 97, 42, 92, 40, 98, 92, 41, 92, 49, 91, 120, 45, 122, 93, 36]) fun y1 =>
 ob (Kg n y1.1) fun y2 =>
 ob (kE n [97, 92, 40, 98]) fun y3 =>
 br (y1.2.2 == 0) (
  br (y2.2 == 0) (
   br (y1.2.1 == 0) (
    br (y2.1 == [94, 97, 42, 92, 40, 98, 92, 41, 92, 49, 91, 120, 45, 122, 93, 36]) (
     ob (Kh n y1.1) fun y4 =>
     br (y4 == 1) (
      ob (Vf n y1.1) fun y5 =>
      br y5 (
       br (y3.2.1 == 1) (
        some (y3.2.2 == 41)) (
        some false)) (
       some false)) (
      some false)) (
     some false)) (
    some false)) (
   some false)) (
  some false)
def mW (n : Nat) (g0 : Int × List (Bool) × List (Int) × Unit -> Option (List UInt8)) (x1 : Int × List (Bool) × List (Int) × Unit) : Option (List UInt8) :=
 let i_2 : Int := x1.1
 let b3 : List (Bool) := x1.2.1
 let zGk : List (Int) := x1.2.2.1
 br (decide (i_2 < 256)) (
  chk (inB i_2 256) (
   chk (decide (i_2.toNat < 256)) (
    br (b3.getD (i_2.toNat) (Ty.dflt .bool)) (
     chk (Nat.ble ((zGk.length + ([IntKind.wrap .u8 i_2] : List (Int)).length) * 1) room) (
      let r5 : List (Int) := zGk ++ [IntKind.wrap .u8 i_2]
      let v6 : Int := IntKind.wrap .i64 (i_2 + 1)
      g0 (v6, b3, r5, ()))) (
     let v7 : Int := IntKind.wrap .i64 (i_2 + 1)
     g0 (v7, b3, zGk, ()))))) (
  some (cZ zGk))
def iW (n : Nat) (x : List (Bool)) : Option (List UInt8) :=
 let a_0 : List (Bool) := x
 fix (mW n) n (0, a_0, [], ())
def uP (n : Nat) (x : List (Bool)) : Option (Int) :=
 let a_0 : List (Bool) := x
 ob (iW n a_0) fun y1 =>
 some (y1.length : Int)
def jN (n : Nat) (g0 : Int × Int × List (Bool) × List (Bool) × Unit -> Option (List (Bool))) (x1 : Int × Int × List (Bool) × List (Bool) × Unit) : Option (List (Bool)) :=
 let b_2 : Int := x1.1
 let i_3 : Int := x1.2.1
 let b4 : List (Bool) := x1.2.2.1
 let b5 : List (Bool) := x1.2.2.2.1
 br (decide (i_3 <= (IntKind.wrap .i64 b_2))) (
  chk (inB i_3 256) (
   chk (decide (i_3.toNat < 256)) (
    let v6 : Int := IntKind.wrap .i64 (i_3 + 1)
    g0 (b_2, v6, b4, b5.set (i_3.toNat) true, ())))) (
  some b5)
def dN (n : Nat) (x : Int × Int) : Option (List (Bool)) :=
 let a_0 : Int := x.1
 let b_1 : Int := x.2
 fix (jN n) n (b_1, IntKind.wrap .i64 a_0, (List.replicate 256 false), (List.replicate 256 false), ())
def qN (n : Nat) (g0 : Int × List (Bool) × List (Bool) × List (Bool) × Unit -> Option (List (Bool))) (x1 : Int × List (Bool) × List (Bool) × List (Bool) × Unit) : Option (List (Bool)) :=
 let i_2 : Int := x1.1
 let b3 : List (Bool) := x1.2.1
 let b4 : List (Bool) := x1.2.2.1
 let b5 : List (Bool) := x1.2.2.2.1
 br (decide (i_2 < 256)) (
  chk (inB i_2 256) (
   chk (decide (i_2.toNat < 256)) (
    br (b3.getD (i_2.toNat) (Ty.dflt .bool)) (
     chk (inB i_2 256) (
      chk (decide (i_2.toNat < 256)) (
       let v6 : Int := IntKind.wrap .i64 (i_2 + 1)
       g0 (v6, b3.set (i_2.toNat) true, b4, b5, ())))) (
     chk (inB i_2 256) (
      chk (decide (i_2.toNat < 256)) (
       chk (inB i_2 256) (
        chk (decide (i_2.toNat < 256)) (
         let v7 : Int := IntKind.wrap .i64 (i_2 + 1)
         g0 (v7, b3.set (i_2.toNat) (b4.getD (i_2.toNat) (Ty.dflt .bool)), b4, b5, ()))))))))) (
  some b3)
def nV (n : Nat) (x : List (Bool) × List (Bool)) : Option (List (Bool)) :=
 let a_0 : List (Bool) := x.1
 let b_1 : List (Bool) := x.2
 fix (qN n) n (0, a_0, b_1, (List.replicate 256 false), ())
def qO (n : Nat) (g0 : List UInt8 × Int × List (Bool) × List (Bool) × Unit -> Option (List (Bool))) (x1 : List UInt8 × Int × List (Bool) × List (Bool) × Unit) : Option (List (Bool)) :=
 let s_2 : List UInt8 := x1.1
 let i_3 : Int := x1.2.1
 let b4 : List (Bool) := x1.2.2.1
 let b5 : List (Bool) := x1.2.2.2.1
 br (decide (i_3 < (s_2.length : Int))) (
  chk (inB i_3 s_2.length) (
   let v6 : Int := ((bA 0 s_2 i_3).toNat : Int)
   chk (inB v6 256) (
    chk (decide (v6.toNat < 256)) (
     let v7 : Int := IntKind.wrap .i64 (i_3 + 1)
     g0 (s_2, v7, b4, b5.set (v6.toNat) true, ()))))) (
  some b5)
def Ac (n : Nat) (x : List UInt8) : Option (List (Bool)) :=
 let s_0 : List UInt8 := x
 fix (qO n) n (s_0, 0, (List.replicate 256 false), (List.replicate 256 false), ())
def jO (n : Nat) (g0 : Int × List (Bool) × List (Bool) × List (Bool) × Unit -> Option (List (Bool) × Bool)) (x21 : Int × List (Bool) × List (Bool) × List (Bool) × Unit) : Option (List (Bool) × Bool) :=
 let tH : Int := x21.1
 let b23 : List (Bool) := x21.2.1
 let b24 : List (Bool) := x21.2.2.1
 let b25 : List (Bool) := x21.2.2.2.1
 br (decide (tH < 256)) (
  chk (inB tH 256) (
   chk (decide (tH.toNat < 256)) (
    br (b25.getD (tH.toNat) (Ty.dflt .bool)) (
     chk (inB tH 256) (
      chk (decide (tH.toNat < 256)) (
       chk (inB tH 256) (
        chk (decide (tH.toNat < 256)) (
         let v26 : Int := IntKind.wrap .i64 (tH + 1)
         g0 (v26, b23, b24, b25.set (tH.toNat) (!(b24.getD (tH.toNat) (Ty.dflt .bool))), ())))))) (
     chk (inB tH 256) (
      chk (decide (tH.toNat < 256)) (
       let v27 : Int := IntKind.wrap .i64 (tH + 1)
       g0 (v27, b23, b24, b25.set (tH.toNat) false, ()))))))) (
  some (b25, true))
def Oa (n : Nat) (x : List UInt8) : Option (List (Bool) × Bool) :=
 let dW : List UInt8 := x
 ob (dN n (65, 90)) fun y1 =>
 ob (dN n (97, 122)) fun y2 =>
 ob (dN n (48, 57)) fun y3 =>
 ob (nV n (y1, y2)) fun y4 =>
 ob (nV n (y4, y3)) fun y5 =>
 br (dW == [117, 112, 112, 101, 114]) (
  some (y1, true)) (
  br (dW == [108, 111, 119, 101, 114]) (
   some (y2, true)) (
   br (dW == [97, 108, 112, 104, 97]) (
    ob (nV n (y1, y2)) fun y6 =>
    some (y6, true)) (
    br (dW == [100, 105, 103, 105, 116]) (
     some (y3, true)) (
     br (dW == [97, 108, 110, 117, 109]) (
      some (y5, true)) (
      br (dW == [120, 100, 105, 103, 105, 116]) (
       ob (dN n (65, 70)) fun y7 =>
       ob (dN n (97, 102)) fun y8 =>
       ob (nV n (y7, y8)) fun y9 =>
       ob (nV n (y3, y9)) fun y10 =>
       some (y10, true)) (
       br (dW == [98, 108, 97, 110, 107]) (
        ob (Ac n [9, 32]) fun y11 =>
        some (y11, true)) (
        br (dW == [115, 112, 97, 99, 101]) (
         ob (dN n (9, 13)) fun y12 =>
         ob (Ac n [32]) fun y13 =>
         ob (nV n (y12, y13)) fun y14 =>
         some (y14, true)) (
         br (dW == [99, 110, 116, 114, 108]) (
          ob (dN n (0, 31)) fun y15 =>
          ob (dN n (127, 127)) fun y16 =>
          ob (nV n (y15, y16)) fun y17 =>
          some (y17, true)) (
          br (dW == [103, 114, 97, 112, 104]) (
           ob (dN n (33, 126)) fun y18 =>
           some (y18, true)) (
           br (dW == [112, 114, 105, 110, 116]) (
            ob (dN n (32, 126)) fun y19 =>
            some (y19, true)) (
            br (dW == [112, 117, 110, 99, 116]) (
             ob (dN n (33, 126)) fun y20 =>
             fix (jO n) n (0, (List.replicate 256 false), y5, y20, ())) (
             some ((List.replicate 256 false), false)))))))))))))
def nW (n : Nat) (g0 : Int × List (Int) × List (Bool) × List (Bool) × Unit -> Option (List (Bool))) (x1 : Int × List (Int) × List (Bool) × List (Bool) × Unit) : Option (List (Bool)) :=
 let i_2 : Int := x1.1
 let b3 : List (Int) := x1.2.1
 let b4 : List (Bool) := x1.2.2.1
 let b5 : List (Bool) := x1.2.2.2.1
 br (decide (i_2 < 256)) (
  chk ((!decide (64 = 0))) (
   let v6 : Int := IntKind.wrap .i64 (Int.tdiv i_2 64)
   chk (inB v6 4) (
    chk (decide (v6.toNat < 4)) (
     let v7 : Int := b3.getD (v6.toNat) (Ty.dflt (.int .u64))
     chk ((!decide (2 = 0))) (
      chk (inB i_2 256) (
       chk (decide (i_2.toNat < 256)) (
        chk ((!decide (64 = 0))) (
         let v8 : Int := IntKind.wrap .i64 (Int.tdiv i_2 64)
         chk ((!decide (64 = 0))) (
          let v9 : Int := IntKind.wrap .i64 (Int.tdiv i_2 64)
          chk (inB v9 4) (
           chk (decide (v9.toNat < 4)) (
            let v10 : Int := b3.getD (v9.toNat) (Ty.dflt (.int .u64))
            chk ((!decide (2 = 0))) (
             let v11 : Int := IntKind.wrap .u64 (Int.tdiv v10 2)
             chk (inB v8 4) (
              chk (decide (v8.toNat < 4)) (
               let v12 : Int := IntKind.wrap .i64 (i_2 + 1)
               g0 (v12, b3.set (v8.toNat) v11, b4, b5.set (i_2.toNat) ((Int.tmod v7 2) == 1), ()))))))))))))))) (
  some b5)
def uQ (n : Nat) (x : List (Int)) : Option (List (Bool)) :=
 let w_0 : List (Int) := x
 fix (nW n) n (0, w_0, (List.replicate 256 false), (List.replicate 256 false), ())
def qP (n : Nat) (g0 : List UInt8 × Int × Int × Unit -> Option (Bool)) (x1 : List UInt8 × Int × Int × Unit) : Option (Bool) :=
 let s_2 : List UInt8 := x1.1
 let b_3 : Int := x1.2.1
 let i_4 : Int := x1.2.2.1
 br (decide (i_4 < (s_2.length : Int))) (
  chk (inB i_4 s_2.length) (
   let v5 : Int := ((bA 0 s_2 i_4).toNat : Int)
   br (v5 == b_3) (
    some true) (
    let v6 : Int := IntKind.wrap .i64 (i_4 + 1)
    g0 (s_2, b_3, v6, ())))) (
  some false)
def nX (n : Nat) (x : List UInt8 × Int) : Option (Bool) :=
 let s_0 : List UInt8 := x.1
 let b_1 : Int := x.2
 fix (qP n) n (s_0, b_1, 0, ())
def oK (n : Nat) (x : Int × List UInt8) : Option (List UInt8) :=
 let b_0 : Int := x.1
 let Ki : List UInt8 := x.2
 br (b_0 == 10) (
  some [92, 110]) (
  ob (nX n (Ki, b_0)) fun y1 =>
  br y1 (
   chk (decide ([92].length + (cZ [b_0]).length <= aG)) (
    some ([92] ++ (cZ [b_0])))) (
   some (cZ [b_0])))
def kU (n : Nat) (g0 : List UInt8 × Int × List (Bool) × Unit -> Option (List UInt8)) (x31 : List UInt8 × Int × Int × Int × Int × Bool × List (Bool) × Unit) : Option (List UInt8) :=
 let Si : List UInt8 := x31.1
 let zGl : Int := x31.2.1
 let zLm : Int := x31.2.2.1
 let zTc : Int := x31.2.2.2.1
 let zTd : Int := x31.2.2.2.2.1
 let zTe : Bool := x31.2.2.2.2.2.1
 let b38 : List (Bool) := x31.2.2.2.2.2.2.1
 let v39 : Int := IntKind.wrap .i64 (zLm - zGl)
 br (decide (v39 ≥ 2)) (
  let v40 : List UInt8 := cZ [IntKind.wrap .u8 zGl, 45, IntKind.wrap .u8 zLm]
  chk (decide (Si.length + v40.length <= aG)) (
   let v41 : Int := IntKind.wrap .i64 (zLm + 1)
   g0 (Si ++ v40, v41, b38, ()))) (
  let v42 : List UInt8 := cZ [IntKind.wrap .u8 zGl]
  chk (decide (Si.length + v42.length <= aG)) (
   let v43 : Int := IntKind.wrap .i64 (zGl + 1)
   g0 (Si ++ v42, v43, b38, ())))
def tJ (n : Nat) (g0 : List UInt8 × Int × List (Bool) × Unit -> Option (List UInt8)) (g1 : List UInt8 × Int × Int × Int × Int × Bool × List (Bool) × Unit -> Option (List UInt8)) (x18 : List UInt8 × Int × Int × Int × Int × Bool × List (Bool) × Unit) : Option (List UInt8) :=
 let Sj : List UInt8 := x18.1
 let zGm : Int := x18.2.1
 let Pw : Int := x18.2.2.1
 let Sk : Int := x18.2.2.2.1
 let Sl : Int := x18.2.2.2.2.1
 let Sm : Bool := x18.2.2.2.2.2.1
 let b25 : List (Bool) := x18.2.2.2.2.2.2.1
 let v26 : Int := IntKind.wrap .i64 (Pw + 1)
 br (decide (v26 < 256)) (
  let v27 : Int := IntKind.wrap .i64 (Pw + 1)
  chk (inB v27 256) (
   chk (decide (v27.toNat < 256)) (
    br (b25.getD (v27.toNat) (Ty.dflt .bool)) (
     let v28 : Int := IntKind.wrap .i64 (Pw + 1)
     ob (nX n ([93, 91, 92, 94, 45, 10], IntKind.wrap .u8 v28)) fun y29 =>
     br (!y29) (
      let v30 : Int := IntKind.wrap .i64 (Pw + 1)
      g1 (Sj, zGm, v30, Sk, Sl, Sm, b25, ())) (
      jn (kU n g0) (Sj, zGm, Pw, Sk, Sl, Sm, b25, ()))) (
     jn (kU n g0) (Sj, zGm, Pw, Sk, Sl, Sm, b25, ()))))) (
  jn (kU n g0) (Sj, zGm, Pw, Sk, Sl, Sm, b25, ()))
def Ad (n : Nat) (g0 : List UInt8 × Int × List (Bool) × Unit -> Option (List UInt8)) (x11 : List UInt8 × Int × Int × Int × Bool × List (Bool) × Unit) : Option (List UInt8) :=
 let zQd : List UInt8 := x11.1
 let zQe : Int := x11.2.1
 let zQf : Int := x11.2.2.1
 let zQg : Int := x11.2.2.2.1
 let zQh : Bool := x11.2.2.2.2.1
 let b17 : List (Bool) := x11.2.2.2.2.2.1
 fix (tJ n g0) n (zQd, zQe, zQe, zQf, zQg, zQh, b17, ())
def nY (n : Nat) (x50 : List UInt8 × List (Bool) × Unit) : Option (List UInt8) :=
 let nI : List UInt8 := x50.1
 let b52 : List (Bool) := x50.2.1
 ob (iW n b52) fun y53 =>
 br (y53 == [45, 94]) (
  chk (decide (nI.length + ([45, 94, 93] : List UInt8).length <= aG)) (
   some (nI ++ [45, 94, 93]))) (
  chk (inB 94 256) (
   chk (decide ((94 : Int).toNat < 256)) (
    br (b52.getD ((94 : Int).toNat) (Ty.dflt .bool)) (
     chk (decide (nI.length + ([94] : List UInt8).length <= aG)) (
      chk (inB 45 256) (
       chk (decide ((45 : Int).toNat < 256)) (
        br (b52.getD ((45 : Int).toNat) (Ty.dflt .bool)) (
         chk (decide ((nI ++ [94]).length + ([45] : List UInt8).length <= aG)) (
          chk (decide (((nI ++ [94]) ++ [45]).length + ([93] : List UInt8).length <= aG)) (
           let v54 : List UInt8 := ((nI ++ [94]) ++ [45]) ++ [93]
           some v54))) (
         chk (decide ((nI ++ [94]).length + ([93] : List UInt8).length <= aG)) (
          some ((nI ++ [94]) ++ [93]))))))) (
     chk (inB 45 256) (
      chk (decide ((45 : Int).toNat < 256)) (
       br (b52.getD ((45 : Int).toNat) (Ty.dflt .bool)) (
        chk (decide (nI.length + ([45] : List UInt8).length <= aG)) (
         chk (decide ((nI ++ [45]).length + ([93] : List UInt8).length <= aG)) (
          some ((nI ++ [45]) ++ [93])))) (
        chk (decide (nI.length + ([93] : List UInt8).length <= aG)) (
         some (nI ++ [93])))))))))
def nZ (n : Nat) (x47 : List UInt8 × List (Bool) × Unit) : Option (List UInt8) :=
 let zAz : List UInt8 := x47.1
 let b49 : List (Bool) := x47.2.1
 chk (inB 92 256) (
  chk (decide ((92 : Int).toNat < 256)) (
   br (b49.getD ((92 : Int).toNat) (Ty.dflt .bool)) (
    chk (decide (zAz.length + ([92] : List UInt8).length <= aG)) (
     jn (nY n) (zAz ++ [92], b49, ()))) (
    jn (nY n) (zAz, b49, ()))))
def oC (n : Nat) (x44 : List UInt8 × List (Bool) × Unit) : Option (List UInt8) :=
 let zBa : List UInt8 := x44.1
 let b46 : List (Bool) := x44.2.1
 chk (inB 91 256) (
  chk (decide ((91 : Int).toNat < 256)) (
   br (b46.getD ((91 : Int).toNat) (Ty.dflt .bool)) (
    chk (decide (zBa.length + ([91] : List UInt8).length <= aG)) (
     jn (nZ n) (zBa ++ [91], b46, ()))) (
    jn (nZ n) (zBa, b46, ()))))
def iM (n : Nat) (g0 : List UInt8 × Int × List (Bool) × Unit -> Option (List UInt8)) (x4 : List UInt8 × Int × List (Bool) × Unit) : Option (List UInt8) :=
 let Ms : List UInt8 := x4.1
 let i_6 : Int := x4.2.1
 let b7 : List (Bool) := x4.2.2.1
 br (decide (i_6 < 256)) (
  chk (inB i_6 256) (
   chk (decide (i_6.toNat < 256)) (
    br (!(b7.getD (i_6.toNat) (Ty.dflt .bool))) (
     let v8 : Int := IntKind.wrap .i64 (i_6 + 1)
     g0 (Ms, v8, b7, ())) (
     ob (nX n ([93, 91, 92, 94, 45, 10], IntKind.wrap .u8 i_6)) fun y9 =>
     br y9 (
      let v10 : Int := IntKind.wrap .i64 (i_6 + 1)
      g0 (Ms, v10, b7, ())) (
      jn (Ad n g0) (Ms, i_6, i_6, IntKind.wrap .u8 i_6, y9, b7, ())))))) (
  chk (inB 10 256) (
   chk (decide ((10 : Int).toNat < 256)) (
    br (b7.getD ((10 : Int).toNat) (Ty.dflt .bool)) (
     chk (decide (Ms.length + ([92, 110] : List UInt8).length <= aG)) (
      jn (oC n) (Ms ++ [92, 110], b7, ()))) (
     jn (oC n) (Ms, b7, ())))))
def tK (n : Nat) (x1 : List UInt8 × List (Bool) × Unit) : Option (List UInt8) :=
 let zRj : List UInt8 := x1.1
 let b3 : List (Bool) := x1.2.1
 fix (iM n) n (zRj, 0, b3, ())
def uR (n : Nat) (x : List (Bool)) : Option (List UInt8) :=
 let a_0 : List (Bool) := x
 chk (inB 93 256) (
  chk (decide ((93 : Int).toNat < 256)) (
   br (a_0.getD ((93 : Int).toNat) (Ty.dflt .bool)) (
    chk (decide ([91].length + ([93] : List UInt8).length <= aG)) (
     jn (tK n) ([91] ++ [93], a_0, ()))) (
    jn (tK n) ([91], a_0, ()))))
def xA (n : Nat) (x : List (Bool) × List UInt8) : Option (List UInt8) :=
 let a_0 : List (Bool) := x.1
 let Ki : List UInt8 := x.2
 ob (uP n a_0) fun y1 =>
 br (y1 == 0) (
  some []) (
  br (y1 == 1) (
   ob (iW n a_0) fun y2 =>
   chk (inB 0 y2.length) (
    let v3 : Int := ((bA 0 y2 0).toNat : Int)
    ob (oK n (v3, Ki)) fun y4 =>
    some y4)) (
   br (y1 == 256) (
    some [46]) (
    ob (uR n a_0) fun y5 =>
    some y5)))
def uS (n : Nat) (x : List (Bool)) : Option (List UInt8) :=
 let a_0 : List (Bool) := x
 ob (xA n (a_0, [46, 91, 92, 42, 94, 36])) fun y1 =>
 some y1
def gH (n : Nat) (x : Int) : Option (Int) :=
 let x_0 : Int := x
 chk (decide (0 <= 1)) (
  let v1 : Int := bJ .u64 .and (eP .u64 x_0 1) 6148914691236517205
  let v2 : Int := bJ .u64 .and x_0 6148914691236517205
  let v3 : Int := IntKind.wrap .u64 (v1 + v2)
  chk (decide (0 <= 2)) (
   let v4 : Int := bJ .u64 .and (eP .u64 v3 2) 3689348814741910323
   let v5 : Int := bJ .u64 .and v3 3689348814741910323
   let v6 : Int := IntKind.wrap .u64 (v4 + v5)
   chk (decide (0 <= 4)) (
    let v7 : Int := IntKind.wrap .u64 ((eP .u64 v6 4) + v6)
    let v8 : Int := bJ .u64 .and v7 1085102592571150095
    chk (decide (0 <= 8)) (
     let v9 : Int := IntKind.wrap .u64 (v8 + (eP .u64 v8 8))
     chk (decide (0 <= 16)) (
      let v10 : Int := IntKind.wrap .u64 (v9 + (eP .u64 v9 16))
      chk (decide (0 <= 32)) (
       let v11 : Int := IntKind.wrap .u64 (v10 + (eP .u64 v10 32))
       let v12 : Int := bJ .i64 .and (IntKind.wrap .i64 v11) 127
       some v12))))))
def kK (n : Nat) (g0 : Int × List (Int) × Int × Unit -> Option (Int)) (x1 : Int × List (Int) × Int × Unit) : Option (Int) :=
 let n_2 : Int := x1.1
 let zAq : List (Int) := x1.2.1
 let zZ : Int := x1.2.2.1
 br (decide (zZ < 4)) (
  chk (inB zZ 4) (
   let v5 : Int := bA (Ty.dflt (.int .u64)) zAq zZ
   ob (gH n v5) fun y6 =>
   let v7 : Int := IntKind.wrap .i64 (n_2 + y6)
   let v8 : Int := IntKind.wrap .i64 (zZ + 1)
   g0 (v7, zAq, v8, ()))) (
  some n_2)
def Ae (n : Nat) (x : List (Int)) : Option (Int) :=
 let s_0 : List (Int) := x
 fix (kK n) n (0, s_0, 0, ())
def vY (n : Nat) (x : List (Int)) : Option (Bool) :=
 let s_0 : List (Int) := x
 ob (tF n s_0) fun y1 =>
 ob (uQ n s_0) fun y2 =>
 ob (uS n y2) fun y3 =>
 br (!(y1 == y3)) (
  some false) (
  ob (wZ n ()) fun y4 =>
  br (!y4) (
   some false) (
   ob (kE n y1) fun y5 =>
   ob (Ae n s_0) fun y6 =>
   br (y6 == 0) (
    some (y1 == [])) (
    br (y5.2.2 == 0) (
     br ((y5.1.length : Int) == 1) (
      chk (inB 0 y5.1.length) (
       let v7 : Int × List (Int) × Int × Int × Int × Int × Int × Unit := bA (Ty.dflt aB) y5.1 0
       br (v7.1 == 1) (
        chk (inB 0 y5.1.length) (
         let v8 : Int × List (Int) × Int × Int × Int × Int × Int × Unit := bA (Ty.dflt aB) y5.1 0
         some (Ty.beq (.arr 4 (.int .u64)) v8.2.1 s_0))) (
        some false))) (
      some false)) (
     some false))))
end Go.Dec
