/- Part of a proof over this seat: a library of my own, and what it says of this seat. No statement is proved here. -/
import Derived.Test.YthhbdkdofhhoeaaGreatDoorPartAR
import Derived.Test.YthhbdkdofhhoeaaGreatDoorPartAU
namespace Go.Dec
set_option linter.unusedVariables false
abbrev ak : Ty := .pair (.int .i64) (.pair (.arr 4 (.int .u64)) (.pair (.int .i64) (.pair (.int .i64) (.pair (.int .i64) (.pair (.int .i64) (.pair (.int .i64) .unit))))))
abbrev zc1 : Ty := .pair .str (.pair (.int .i64) .unit)
abbrev Z9 : Ty := .pair (.int .i64) (.pair (.int .i64) .unit)
abbrev Cz : Ty := .pair .str (.pair (.int .i64) (.pair (.slice ak) (.pair (.int .i64) (.pair (.arr 10 .bool) .unit))))
abbrev bF : Ty := .pair (.slice ak) (.pair (.int .i64) (.pair (.arr 10 .bool) Z9))
abbrev zS : Ty := .pair .bool (.pair (.int .i64) (.pair (.arr 10 .bool) (.pair .bool .unit)))
abbrev NdT : Type := Int × List (Int) × Int × Int × Int × Int × Int × Unit
abbrev fK : Type := List UInt8 × Int × Int × List (Bool) × List (NdT) × Unit
abbrev nU : Type := Sum (Int × fK) (Int × Int × fK)
def gB (n : Nat) (x : List UInt8 × List UInt8) : Option (Bool) :=
 let s_0 : List UInt8 := x.1
 let Er : List UInt8 := x.2
 br (decide ((s_0.length : Int) ≥ (Er.length : Int))) (
  chk ((decide (0 <= (Er.length : Int)) && decide ((Er.length : Int) <= (s_0.length : Int)))) (
   let v1 : List UInt8 := s_0.take (Er.length : Int).toNat
   some (v1 == Er))) (
  some false)
def strings_HasPrefix (n : Nat) (x : List UInt8 × List UInt8) : Option (Bool) :=
 let s_0 : List UInt8 := x.1
 let Er : List UInt8 := x.2
 ob (gB n (s_0, Er)) fun y1 =>
 some y1
def aS (n : Nat) (x : List UInt8 × fK) : Option (Bool × fK) :=
 let t_1 : List UInt8 := x.1
 let s2 : List UInt8 := x.2.1
 let at3 : Int := x.2.2.1
 let eu : Int := x.2.2.2.1
 let eB : List (Bool) := x.2.2.2.2.1
 let aP : List (NdT) := x.2.2.2.2.2.1
 chk ((decide (0 <= at3) && decide (at3 <= (s2.length : Int)))) (
  ob (strings_HasPrefix n (s2.drop at3.toNat, t_1)) fun y7 =>
  some (y7, s2, at3, eu, eB, aP, ()))
def bP (n : Nat) (x : List UInt8 × fK) : Option (Bool × fK) :=
 let t_1 : List UInt8 := x.1
 let s2 : List UInt8 := x.2.1
 let at3 : Int := x.2.2.1
 let eu : Int := x.2.2.2.1
 let eB : List (Bool) := x.2.2.2.2.1
 let aP : List (NdT) := x.2.2.2.2.2.1
 ob (aS n (t_1, s2, at3, eu, eB, aP, ())) fun y7 =>
 br (!y7.1) (
  some (false, y7.2.1, y7.2.2.1, y7.2.2.2.1, y7.2.2.2.2.1, y7.2.2.2.2.2.1, ())) (
  let v8 : Int := IntKind.wrap .i64 (y7.2.2.1 + (t_1.length : Int))
  some (true, y7.2.1, v8, y7.2.2.2.1, y7.2.2.2.2.1, y7.2.2.2.2.2.1, ()))
def bI (n : Nat) (x : Int × List (Int) × Int × Int × Int × Int × Int × fK) : Option (Int × fK) :=
 let n_1 : Int := x.1
 let n_2 : List (Int) := x.2.1
 let n_3 : Int := x.2.2.1
 let n_4 : Int := x.2.2.2.1
 let n_5 : Int := x.2.2.2.2.1
 let n_6 : Int := x.2.2.2.2.2.1
 let n_7 : Int := x.2.2.2.2.2.2.1
 let s8 : List UInt8 := x.2.2.2.2.2.2.2.1
 let at9 : Int := x.2.2.2.2.2.2.2.2.1
 let oC : Int := x.2.2.2.2.2.2.2.2.2.1
 let oD : List (Bool) := x.2.2.2.2.2.2.2.2.2.2.1
 let uM : List (NdT) := x.2.2.2.2.2.2.2.2.2.2.2.1
 chk (Nat.ble ((uM.length + ([(n_1, (n_2, (n_3, (n_4, (n_5, (n_6, (n_7, ())))))))] : List (NdT)).length) * 80) room) (
  let r13 : List (NdT) := uM ++ [(n_1, (n_2, (n_3, (n_4, (n_5, (n_6, (n_7, ())))))))]
  let v14 : Int := ((r13.length : Nat) : Int)
  let v15 : Int := IntKind.wrap .i64 (v14 - 1)
  some (v15, s8, at9, oC, oD, r13, ()))
def kJ (n : Nat) (x : fK) : Option (Bool × fK) :=
 let s1 : List UInt8 := x.1
 let at2 : Int := x.2.1
 let Dp : Int := x.2.2.1
 let Dq : List (Bool) := x.2.2.2.1
 let lQ : List (NdT) := x.2.2.2.2.1
 br (at2 == (s1.length : Int)) (
  some (true, s1, at2, Dp, Dq, lQ, ())) (
  ob (aS n ([92, 41], s1, at2, Dp, Dq, lQ, ())) fun y6 =>
  some (y6.1, y6.2.1, y6.2.2.1, y6.2.2.2.1, y6.2.2.2.2.1, y6.2.2.2.2.2.1, ()))
def Py (n : Nat) (g0 : Int × List (Int) × List (Int) × Unit -> Option (List (Int))) (x1 : Int × List (Int) × List (Int) × Unit) : Option (List (Int)) :=
 let Gs : Int := x1.1
 let b3 : List (Int) := x1.2.1
 let b4 : List (Int) := x1.2.2.1
 br (decide (Gs < 4)) (
  chk (inB Gs 4) (
   chk (decide (Gs.toNat < 4)) (
    let v5 : Int := b3.getD (Gs.toNat) (Ty.dflt (.int .u64))
    let v6 : Int := dG .u64 .xor 18446744073709551615 v5
    chk (inB Gs 4) (
     chk (decide (Gs.toNat < 4)) (
      let v7 : Int := IntKind.wrap .i64 (Gs + 1)
      g0 (v7, b3.set (Gs.toNat) v6, b4, ())))))) (
  some b3)
def Ae (n : Nat) (x : List (Int)) : Option (List (Int)) :=
 let s_0 : List (Int) := x
 fix (Py n) n (0, s_0, [0, 0, 0, 0], ())
def bY (n : Nat) (x : List (Int) × fK) : Option (Int × fK) :=
 let s_1 : List (Int) := x.1
 let s2 : List UInt8 := x.2.1
 let at3 : Int := x.2.2.1
 let eu : Int := x.2.2.2.1
 let eB : List (Bool) := x.2.2.2.2.1
 let aP : List (NdT) := x.2.2.2.2.2.1
 ob (bI n (1, s_1, 0, 0, 0, 0, 0, s2, at3, eu, eB, aP, ())) fun y7 =>
 some (y7.1, y7.2.1, y7.2.2.1, y7.2.2.2.1, y7.2.2.2.2.1, y7.2.2.2.2.2.1, ())
def dU (n : Nat) (x : List UInt8 × List UInt8 × Int × Unit) : Option (Bool × List UInt8 × Int × Unit) :=
 let t_1 : List UInt8 := x.1
 let s2 : List UInt8 := x.2.1
 let at3 : Int := x.2.2.1
 chk ((decide (0 <= at3) && decide (at3 <= (s2.length : Int)))) (
  ob (strings_HasPrefix n (s2.drop at3.toNat, t_1)) fun y4 =>
  some (y4, s2, at3, ()))
def dF (n : Nat) (x : List UInt8 × List UInt8 × Int × Unit) : Option (Bool × List UInt8 × Int × Unit) :=
 let t_1 : List UInt8 := x.1
 let s2 : List UInt8 := x.2.1
 let at3 : Int := x.2.2.1
 ob (dU n (t_1, s2, at3, ())) fun y4 =>
 br (!y4.1) (
  some (false, y4.2.1, y4.2.2.1, ())) (
  let v5 : Int := IntKind.wrap .i64 (y4.2.2.1 + (t_1.length : Int))
  some (true, y4.2.1, v5, ()))
def bA (_n : Nat) (x : List UInt8 × Int × Unit) : Option (Sum (List UInt8 × Int × Unit) (Int × Int × List UInt8 × Int × Unit)) := some (.inr (42, 0, x))
def mZ (n : Nat) (g0 : Int × Int × List (Int) × Unit -> Option (List (Int))) (x1 : Int × Int × List (Int) × Unit) : Option (List (Int)) :=
 let b_2 : Int := x1.1
 let i_3 : Int := x1.2.1
 let b4 : List (Int) := x1.2.2.1
 br (decide (i_3 <= (IntKind.wrap .i64 b_2))) (
  chk (decide (0 <= 6)) (
   chk (inB (kP .i64 i_3 6) 4) (
    chk (decide ((kP .i64 i_3 6).toNat < 4)) (
     let v5 : Int := b4.getD ((kP .i64 i_3 6).toNat) (Ty.dflt (.int .u64))
     chk (decide (0 <= dG .i64 .and i_3 63)) (
      let v6 : Int := FU .u64 1 (dG .i64 .and i_3 63)
      chk (inB (kP .i64 i_3 6) 4) (
       chk (decide ((kP .i64 i_3 6).toNat < 4)) (
        let v7 : Int := IntKind.wrap .i64 (i_3 + 1)
        g0 (b_2, v7, b4.set ((kP .i64 i_3 6).toNat) (dG .u64 .or v5 v6), ())))))))) (
  some b4)
def bU (n : Nat) (x : Int × Int) : Option (List (Int)) :=
 let a_0 : Int := x.1
 let b_1 : Int := x.2
 fix (mZ n) n (b_1, IntKind.wrap .i64 a_0, [0, 0, 0, 0], ())
def Gt (n : Nat) (g0 : List (List (Int)) × Int × Int × List (Int) × Unit -> Option (List (Int))) (g1 : List (List (Int)) × Int × Int × Int × List (Int) × List (Int) × Unit -> Option (List (Int))) (x7 : List (List (Int)) × Int × Int × Int × List (Int) × List (Int) × Unit) : Option (List (Int)) :=
 let zbV : List (List (Int)) := x7.1
 let zbW : Int := x7.2.1
 let zaa : Int := x7.2.2.1
 let rC : Int := x7.2.2.2.1
 let b12 : List (Int) := x7.2.2.2.2.1
 let b13 : List (Int) := x7.2.2.2.2.2.1
 br (decide (rC < 4)) (
  chk (inB rC 4) (
   chk (decide (rC.toNat < 4)) (
    let v14 : Int := b12.getD (rC.toNat) (Ty.dflt (.int .u64))
    chk (inB rC 4) (
     chk (decide (rC.toNat < 4)) (
      let v15 : Int := b13.getD (rC.toNat) (Ty.dflt (.int .u64))
      chk (inB rC 4) (
       chk (decide (rC.toNat < 4)) (
        let v16 : Int := IntKind.wrap .i64 (rC + 1)
        g1 (zbV, zbW, zaa, v16, b12.set (rC.toNat) (dG .u64 .or v14 v15), b13, ())))))))) (
  let v17 : Int := IntKind.wrap .i64 (zaa + 1)
  g0 (zbV, zbW, v17, b12, ()))
def vV (n : Nat) (g0 : List (List (Int)) × Int × Int × List (Int) × Unit -> Option (List (Int))) (x1 : List (List (Int)) × Int × Int × List (Int) × Unit) : Option (List (Int)) :=
 let YX : List (List (Int)) := x1.1
 let zbX : Int := x1.2.1
 let VW : Int := x1.2.2.1
 let b5 : List (Int) := x1.2.2.2.1
 br (decide (VW < zbX)) (
  chk (inB VW YX.length) (
   let v6 : List (Int) := aG (Ty.dflt (.arr 4 (.int .u64))) YX VW
   fix (Gt n g0) n (YX, zbX, VW, 0, b5, v6, ()))) (
  some b5)
def lS (n : Nat) (x : List (List (Int))) : Option (List (Int)) :=
 let l_0 : List (List (Int)) := x
 fix (vV n) n (l_0, (l_0.length : Int), 0, [0, 0, 0, 0], ())
def vX (n : Nat) (g0 : List UInt8 × Int × Int × List (Int) × Unit -> Option (List (Int))) (x1 : List UInt8 × Int × Int × List (Int) × Unit) : Option (List (Int)) :=
 let s_2 : List UInt8 := x1.1
 let zbY : Int := x1.2.1
 let Nt : Int := x1.2.2.1
 let b5 : List (Int) := x1.2.2.2.1
 br (decide (Nt < zbY)) (
  chk (inB Nt s_2.length) (
   let v6 : Int := ((aG 0 s_2 Nt).toNat : Int)
   chk (decide (0 <= 6)) (
    chk (inB (kP .u8 v6 6) 4) (
     chk (decide ((kP .u8 v6 6).toNat < 4)) (
      let v7 : Int := b5.getD ((kP .u8 v6 6).toNat) (Ty.dflt (.int .u64))
      chk (inB Nt s_2.length) (
       let v8 : Int := ((aG 0 s_2 Nt).toNat : Int)
       chk (decide (0 <= dG .u8 .and v8 63)) (
        let v9 : Int := FU .u64 1 (dG .u8 .and v8 63)
        chk (inB (kP .u8 v6 6) 4) (
         chk (decide ((kP .u8 v6 6).toNat < 4)) (
          let v10 : Int := IntKind.wrap .i64 (Nt + 1)
          g0 (s_2, zbY, v10, b5.set ((kP .u8 v6 6).toNat) (dG .u64 .or v7 v9), ())))))))))) (
  some b5)
def ng (n : Nat) (x : List UInt8) : Option (List (Int)) :=
 let s_0 : List UInt8 := x
 fix (vX n) n (s_0, (s_0.length : Int), 0, [0, 0, 0, 0], ())
def yI (n : Nat) (x : List UInt8) : Option (List (Int) × Bool) :=
 let fU : List UInt8 := x
 ob (bU n (65, 90)) fun y1 =>
 ob (bU n (97, 122)) fun y2 =>
 ob (bU n (48, 57)) fun y3 =>
 br (fU == [117, 112, 112, 101, 114]) (
  some (y1, true)) (
  br (fU == [108, 111, 119, 101, 114]) (
   some (y2, true)) (
   br (fU == [97, 108, 112, 104, 97]) (
    ob (lS n [y1, y2]) fun y4 =>
    some (y4, true)) (
    br (fU == [100, 105, 103, 105, 116]) (
     some (y3, true)) (
     br (fU == [97, 108, 110, 117, 109]) (
      ob (lS n [y1, y2, y3]) fun y5 =>
      some (y5, true)) (
      br (fU == [120, 100, 105, 103, 105, 116]) (
       ob (bU n (65, 70)) fun y6 =>
       ob (bU n (97, 102)) fun y7 =>
       ob (lS n [y3, y6, y7]) fun y8 =>
       some (y8, true)) (
       br (fU == [98, 108, 97, 110, 107]) (
        ob (ng n [32, 9]) fun y9 =>
        some (y9, true)) (
        br (fU == [115, 112, 97, 99, 101]) (
         ob (ng n [32, 9, 10, 11, 12, 13]) fun y10 =>
         some (y10, true)) (
         br (fU == [99, 110, 116, 114, 108]) (
          ob (bU n (0, 31)) fun y11 =>
          ob (ng n [127]) fun y12 =>
          ob (lS n [y11, y12]) fun y13 =>
          some (y13, true)) (
          br (fU == [103, 114, 97, 112, 104]) (
           ob (bU n (33, 126)) fun y14 =>
           some (y14, true)) (
           br (fU == [112, 114, 105, 110, 116]) (
            ob (bU n (32, 126)) fun y15 =>
            some (y15, true)) (
            br (fU == [112, 117, 110, 99, 116]) (
             ob (bU n (33, 47)) fun y16 =>
             ob (bU n (58, 64)) fun y17 =>
             ob (bU n (91, 96)) fun y18 =>
             ob (bU n (123, 126)) fun y19 =>
             ob (lS n [y16, y17, y18, y19]) fun y20 =>
             some (y20, true)) (
             some ([0, 0, 0, 0], false)))))))))))))
def nV (n : Nat) (x21 : List UInt8 × List UInt8 × Int × Unit) : Option (Sum (Int × Bool × List UInt8 × Int × Unit) (Int × Int × List UInt8 × Int × Unit)) :=
 let zaL : List UInt8 := x21.1
 let s23 : List UInt8 := x21.2.1
 let YZ : Int := x21.2.2.1
 chk (inB YZ s23.length) (
  let v25 : Int := ((aG 0 s23 YZ).toNat : Int)
  let v26 : Int := IntKind.wrap .i64 (YZ + 3)
  some (.inl (v25, (zaL == [46]), s23, v26, ())))
def iC (n : Nat) (x41 : List UInt8 × Int × Unit) : Option (Sum (Int × Bool × List UInt8 × Int × Unit) (Int × Int × List UInt8 × Int × Unit)) :=
 let s42 : List UInt8 := x41.1
 let zdQ : Int := x41.2.1
 let v44 : Int := IntKind.wrap .i64 (zdQ + 1)
 let v45 : Int := IntKind.wrap .i64 (v44 - 1)
 chk (inB v45 s42.length) (
  let v46 : Int := ((aG 0 s42 v45).toNat : Int)
  some (.inl (v46, true, s42, v44, ())))
def fZ (n : Nat) (x30 : Bool × Bool × List UInt8 × Int × Unit) : Option (Sum (Int × Bool × List UInt8 × Int × Unit) (Int × Int × List UInt8 × Int × Unit)) :=
 let Ay : Bool := x30.1
 let Uw : Bool := x30.2.1
 let s33 : List UInt8 := x30.2.2.1
 let Y0 : Int := x30.2.2.2.1
 br (Y0 == (s33.length : Int)) (
  ob2 (bA n (s33, Y0, ())) (fun y35 =>
   none) (fun y35 =>
   some (.inr (y35.1, y35.2.1, y35.2.2.1, y35.2.2.2.1, ())))) (
  ob (dU n ([91, 58], s33, Y0, ())) fun y36 =>
  br y36.1 (
   ob2 (bA n (y36.2.1, y36.2.2.1, ())) (fun y37 =>
    none) (fun y37 =>
    some (.inr (y37.1, y37.2.1, y37.2.2.1, y37.2.2.2.1, ())))) (
   ob (dU n ([93], y36.2.1, y36.2.2.1, ())) fun y38 =>
   br y38.1 (
    br (!Ay) (
     ob2 (bA n (y38.2.1, y38.2.2.1, ())) (fun y39 =>
      none) (fun y39 =>
      some (.inr (y39.1, y39.2.1, y39.2.2.1, y39.2.2.2.1, ())))) (
     br Uw (
      ob2 (bA n (y38.2.1, y38.2.2.1, ())) (fun y40 =>
       none) (fun y40 =>
       some (.inr (y40.1, y40.2.1, y40.2.2.1, y40.2.2.2.1, ())))) (
      jn (iC n) (y38.2.1, y38.2.2.1, ())))) (
    br Uw (
     ob2 (bA n (y38.2.1, y38.2.2.1, ())) (fun y47 =>
      none) (fun y47 =>
      some (.inr (y47.1, y47.2.1, y47.2.2.1, y47.2.2.2.1, ())))) (
     jn (iC n) (y38.2.1, y38.2.2.1, ())))))
def jO (n : Nat) (g0 : Bool × Bool × Int × Int × List UInt8 × Int × List (List UInt8) × Unit -> Option (Sum (Int × Bool × List UInt8 × Int × Unit) (Int × Int × List UInt8 × Int × Unit))) (x6 : Bool × Bool × Int × Int × List UInt8 × Int × List (List UInt8) × Unit) : Option (Sum (Int × Bool × List UInt8 × Int × Unit) (Int × Int × List UInt8 × Int × Unit)) :=
 let Af : Bool := x6.1
 let Xu : Bool := x6.2.1
 let zab : Int := x6.2.2.1
 let Gu : Int := x6.2.2.2.1
 let s11 : List UInt8 := x6.2.2.2.2.1
 let Rp : Int := x6.2.2.2.2.2.1
 let Ca : List (List UInt8) := x6.2.2.2.2.2.2.1
 br (decide (Gu < zab)) (
  chk ((inB Gu (Ca.length) && decide (0 + (Ca.length) <= Ca.length))) (
   chk (decide (0 + Gu.toNat < Ca.length)) (
    let v14 : List UInt8 := Ca.getD (0 + Gu.toNat) (Ty.dflt .str)
    chk (decide ([91].length + v14.length <= av)) (
     ob (dF n ([91] ++ v14, s11, Rp, ())) fun y15 =>
     br (!y15.1) (
      let v16 : Int := IntKind.wrap .i64 (Gu + 1)
      g0 (Af, Xu, zab, v16, y15.2.1, y15.2.2.1, Ca, ())) (
      br ((y15.2.1.length : Int) == y15.2.2.1) (
       ob2 (bA n (y15.2.1, y15.2.2.1, ())) (fun y17 =>
        none) (fun y17 =>
        some (.inr (y17.1, y17.2.1, y17.2.2.1, y17.2.2.2.1, ())))) (
       let v18 : Int := IntKind.wrap .i64 (y15.2.2.1 + 1)
       chk ((decide (0 <= v18) && decide (v18 <= (y15.2.1.length : Int)))) (
        chk (decide (v14.length + ([93] : List UInt8).length <= av)) (
         ob (strings_HasPrefix n (y15.2.1.drop v18.toNat, v14 ++ [93])) fun y19 =>
         br (!y19) (
          ob2 (bA n (y15.2.1, y15.2.2.1, ())) (fun y20 =>
           none) (fun y20 =>
           some (.inr (y20.1, y20.2.1, y20.2.2.1, y20.2.2.2.1, ())))) (
          jn (nV n) (v14, y15.2.1, y15.2.2.1, ())))))))))) (
  ob (dF n ([92, 110], s11, Rp, ())) fun y27 =>
  br y27.1 (
   some (.inl (10, true, y27.2.1, y27.2.2.1, ()))) (
   ob (dU n ([45], y27.2.1, y27.2.2.1, ())) fun y28 =>
   br y28.1 (
    br (!Af) (
     br (!Xu) (
      ob (dU n ([45, 93], y28.2.1, y28.2.2.1, ())) fun y29 =>
      jn (fZ n) (Af, (!y29.1), y29.2.1, y29.2.2.1, ())) (
      jn (fZ n) (Af, false, y28.2.1, y28.2.2.1, ()))) (
     jn (fZ n) (Af, false, y28.2.1, y28.2.2.1, ()))) (
    jn (fZ n) (Af, false, y28.2.1, y28.2.2.1, ()))))
def jG (n : Nat) (x : Bool × Bool × List UInt8 × Int × Unit) : Option (Sum (Int × Bool × List UInt8 × Int × Unit) (Int × Int × List UInt8 × Int × Unit)) :=
 let vH : Bool := x.1
 let zbZ : Bool := x.2.1
 let s3 : List UInt8 := x.2.2.1
 let at4 : Int := x.2.2.2.1
 let v5 : Int := (([[46], [61]].length : Nat) : Int)
 fix (jO n) n (vH, zbZ, v5, 0, s3, at4, [[46], [61]], ())
def ku (n : Nat) (x : Bool × List UInt8 × Int × Unit) : Option (Sum (List (Int) × List UInt8 × Int × Unit) (Int × Int × List UInt8 × Int × Unit)) :=
 let vH : Bool := x.1
 let s2 : List UInt8 := x.2.1
 let at3 : Int := x.2.2.1
 ob (dF n ([91, 58], s2, at3, ())) fun y4 =>
 br y4.1 (
  chk ((decide (0 <= y4.2.2.1) && decide (y4.2.2.1 <= (y4.2.1.length : Int)))) (
   let v5 : List UInt8 := y4.2.1.drop y4.2.2.1.toNat
   ob (strings_Cut n (v5, [58, 93])) fun y6 =>
   let v7 : Int := IntKind.wrap .i64 (y4.2.2.1 + (y6.1.length : Int))
   ob (yI n y6.1) fun y8 =>
   br (!y8.2) (
    ob2 (bA n (y4.2.1, v7, ())) (fun y9 =>
     none) (fun y9 =>
     some (.inr (y9.1, y9.2.1, y9.2.2.1, y9.2.2.2.1, ())))) (
    ob (dF n ([58, 93], y4.2.1, v7, ())) fun y10 =>
    br (!y10.1) (
     ob2 (bA n (y10.2.1, y10.2.2.1, ())) (fun y11 =>
      none) (fun y11 =>
      some (.inr (y11.1, y11.2.1, y11.2.2.1, y11.2.2.2.1, ())))) (
     some (.inl (y8.1, y10.2.1, y10.2.2.1, ())))))) (
  ob2 (jG n (vH, false, y4.2.1, y4.2.2.1, ())) (fun y12 =>
   ob (dU n ([45], y12.2.2.1, y12.2.2.2.1, ())) fun y13 =>
   br (!y13.1) (
    ob (bU n (y12.1, y12.1)) fun y14 =>
    some (.inl (y14, y13.2.1, y13.2.2.1, ()))) (
    ob (dU n ([45, 93], y13.2.1, y13.2.2.1, ())) fun y15 =>
    br y15.1 (
     ob (bU n (y12.1, y12.1)) fun y16 =>
     some (.inl (y16, y15.2.1, y15.2.2.1, ()))) (
     let v17 : Int := IntKind.wrap .i64 (y15.2.2.1 + 1)
     br (v17 == (y15.2.1.length : Int)) (
      ob (bU n (y12.1, y12.1)) fun y18 =>
      some (.inl (y18, y15.2.1, y15.2.2.1, ()))) (
      let v19 : Int := IntKind.wrap .i64 (y15.2.2.1 + 1)
      ob2 (jG n (false, true, y15.2.1, v19, ())) (fun y20 =>
       br (!y12.2.1) (
        ob2 (bA n (y20.2.2.1, y20.2.2.2.1, ())) (fun y21 =>
         none) (fun y21 =>
         some (.inr (y21.1, y21.2.1, y21.2.2.1, y21.2.2.2.1, ())))) (
        br (!y20.2.1) (
         ob2 (bA n (y20.2.2.1, y20.2.2.2.1, ())) (fun y22 =>
          none) (fun y22 =>
          some (.inr (y22.1, y22.2.1, y22.2.2.1, y22.2.2.2.1, ())))) (
         br (decide (y20.1 < y12.1)) (
          ob2 (bA n (y20.2.2.1, y20.2.2.2.1, ())) (fun y23 =>
           none) (fun y23 =>
           some (.inr (y23.1, y23.2.1, y23.2.2.1, y23.2.2.2.1, ())))) (
          ob (bU n (y12.1, y20.1)) fun y24 =>
          some (.inl (y24, y20.2.2.1, y20.2.2.2.1, ())))))) (fun y20 =>
       some (.inr (y20.1, y20.2.1, y20.2.2.1, y20.2.2.2.1, ()))))))) (fun y12 =>
   some (.inr (y12.1, y12.2.1, y12.2.2.1, y12.2.2.2.1, ()))))
def jD (n : Nat) (g0 : Bool × Bool × List (Int) × List UInt8 × Int × Unit -> Option (Sum (List (Int) × List UInt8 × Int × Unit) (Int × Int × List (Int) × List UInt8 × Int × Unit))) (x7 : Bool × Bool × List (Int) × List UInt8 × Int × Unit) : Option (Sum (List (Int) × List UInt8 × Int × Unit) (Int × Int × List (Int) × List UInt8 × Int × Unit)) :=
 let VX : Bool := x7.1
 let Nu : Bool := x7.2.1
 let b10 : List (Int) := x7.2.2.1
 let s11 : List UInt8 := x7.2.2.2.1
 let Rp : Int := x7.2.2.2.2.1
 br Nu (
  ob2 (ku n (Nu, s11, Rp, ())) (fun y13 =>
   ob (lS n [b10, y13.1]) fun y14 =>
   g0 (VX, false, y14, y13.2.1, y13.2.2.1, ())) (fun y13 =>
   some (.inr (y13.1, y13.2.1, b10, y13.2.2.1, y13.2.2.2.1, ())))) (
  ob (dF n ([93], s11, Rp, ())) fun y15 =>
  br (!y15.1) (
   ob2 (ku n (Nu, y15.2.1, y15.2.2.1, ())) (fun y16 =>
    ob (lS n [b10, y16.1]) fun y17 =>
    g0 (VX, false, y17, y16.2.1, y16.2.2.1, ())) (fun y16 =>
    some (.inr (y16.1, y16.2.1, b10, y16.2.2.1, y16.2.2.2.1, ())))) (
   br VX (
    ob (Ae n b10) fun y18 =>
    br (Ty.beq (.arr 4 (.int .u64)) y18 ([0, 0, 0, 0])) (
     ob2 (bA n (y15.2.1, y15.2.2.1, ())) (fun y19 =>
      none) (fun y19 =>
      some (.inr (y19.1, y19.2.1, y18, y19.2.2.1, y19.2.2.2.1, ())))) (
     some (.inl (y18, y15.2.1, y15.2.2.1, ())))) (
    br (Ty.beq (.arr 4 (.int .u64)) b10 ([0, 0, 0, 0])) (
     ob2 (bA n (y15.2.1, y15.2.2.1, ())) (fun y20 =>
      none) (fun y20 =>
      some (.inr (y20.1, y20.2.1, b10, y20.2.2.1, y20.2.2.2.1, ())))) (
     some (.inl (b10, y15.2.1, y15.2.2.1, ()))))))
def jo (n : Nat) (x : List (Int) × List UInt8 × Int × Unit) : Option (Sum (List (Int) × List UInt8 × Int × Unit) (Int × Int × List (Int) × List UInt8 × Int × Unit)) :=
 let b1 : List (Int) := x.1
 let s2 : List UInt8 := x.2.1
 let at3 : Int := x.2.2.1
 ob (dF n ([91], s2, at3, ())) fun y4 =>
 br (!y4.1) (
  ob2 (bA n (y4.2.1, y4.2.2.1, ())) (fun y5 =>
   none) (fun y5 =>
   some (.inr (y5.1, y5.2.1, b1, y5.2.2.1, y5.2.2.2.1, ())))) (
  ob (dF n ([94], y4.2.1, y4.2.2.1, ())) fun y6 =>
  fix (jD n) n (y6.1, true, b1, y6.2.1, y6.2.2.1, ()))
def eZ (n : Nat) (x : List (Int) × List UInt8 × Int × Unit) : Option (Int × Int × List (Int) × List UInt8 × Int × Unit) := ob2 (jo n x) (fun y => some (0, 0, y)) (fun y => some y)
def nW (n : Nat) (x : List UInt8) : Option (List (Int) × Int × Int) :=
 let s_0 : List UInt8 := x
 ob (eZ n ([0, 0, 0, 0], s_0, 0, ())) fun y1 =>
 br (y1.1 != 0) (
  some ([0, 0, 0, 0], 0, y1.1)) (
  some (y1.2.2.1, y1.2.2.2.2.1, 0))
def aD (_n : Nat) (x : Int × Int × fK) : Option (Sum (fK) (Int × Int × fK)) := some (.inr x)
def jA (n : Nat) (g0 : Int × fK -> Option (Int × fK)) (x6 : Int × fK) : Option (Int × fK) :=
 let i_7 : Int := x6.1
 let s8 : List UInt8 := x6.2.1
 let at9 : Int := x6.2.2.1
 let oC : Int := x6.2.2.2.1
 let oD : List (Bool) := x6.2.2.2.2.1
 let uM : List (NdT) := x6.2.2.2.2.2.1
 br (decide (i_7 < (s8.length : Int))) (
  let v13 : Int := IntKind.wrap .i64 (at9 + 3)
  br (decide (i_7 < v13)) (
   chk (inB i_7 s8.length) (
    let v14 : Int := ((aG 0 s8 i_7).toNat : Int)
    br (decide (v14 ≥ 48)) (
     chk (inB i_7 s8.length) (
      let v15 : Int := ((aG 0 s8 i_7).toNat : Int)
      br (decide (v15 <= 57)) (
       let v16 : Int := IntKind.wrap .i64 (i_7 + 1)
       g0 (v16, s8, at9, oC, oD, uM, ())) (
       chk ((decide (0 <= i_7) && decide (i_7 <= (s8.length : Int)) && (decide (0 <= at9) && decide (at9 <= i_7)))) (
        let v17 : List UInt8 := (s8.take i_7.toNat).drop at9.toNat
        ob (strconv_Atoi n v17) fun y18 =>
        br (!(!y18.2)) (
         some ((-1), s8, i_7, oC, oD, uM, ())) (
         some (y18.1, s8, i_7, oC, oD, uM, ())))))) (
     chk ((decide (0 <= i_7) && decide (i_7 <= (s8.length : Int)) && (decide (0 <= at9) && decide (at9 <= i_7)))) (
      let v19 : List UInt8 := (s8.take i_7.toNat).drop at9.toNat
      ob (strconv_Atoi n v19) fun y20 =>
      br (!(!y20.2)) (
       some ((-1), s8, i_7, oC, oD, uM, ())) (
       some (y20.1, s8, i_7, oC, oD, uM, ())))))) (
   chk ((decide (0 <= i_7) && decide (i_7 <= (s8.length : Int)) && (decide (0 <= at9) && decide (at9 <= i_7)))) (
    let v21 : List UInt8 := (s8.take i_7.toNat).drop at9.toNat
    ob (strconv_Atoi n v21) fun y22 =>
    br (!(!y22.2)) (
     some ((-1), s8, i_7, oC, oD, uM, ())) (
     some (y22.1, s8, i_7, oC, oD, uM, ()))))) (
  chk ((decide (0 <= i_7) && decide (i_7 <= (s8.length : Int)) && (decide (0 <= at9) && decide (at9 <= i_7)))) (
   let v23 : List UInt8 := (s8.take i_7.toNat).drop at9.toNat
   ob (strconv_Atoi n v23) fun y24 =>
   br (!(!y24.2)) (
    some ((-1), s8, i_7, oC, oD, uM, ())) (
    some (y24.1, s8, i_7, oC, oD, uM, ()))))
def ji (n : Nat) (x : fK) : Option (Int × fK) :=
 let s1 : List UInt8 := x.1
 let at2 : Int := x.2.1
 let Dp : Int := x.2.2.1
 let Dq : List (Bool) := x.2.2.2.1
 let lQ : List (NdT) := x.2.2.2.2.1
 fix (jA n) n (at2, s1, at2, Dp, Dq, lQ, ())
def lT (n : Nat) (x : Int × fK) : Option nU :=
 let IQ : Int := x.1
 let s2 : List UInt8 := x.2.1
 let at3 : Int := x.2.2.1
 let eu : Int := x.2.2.2.1
 let eB : List (Bool) := x.2.2.2.2.1
 let aP : List (NdT) := x.2.2.2.2.2.1
 ob (bP n ([42], s2, at3, eu, eB, aP, ())) fun y7 =>
 br y7.1 (
  ob (bI n (6, [0, 0, 0, 0], IQ, 0, 0, (-1), 0, y7.2.1, y7.2.2.1, y7.2.2.2.1, y7.2.2.2.2.1, y7.2.2.2.2.2.1, ())) fun y8 =>
  ob (aS n ([42], y8.2.1, y8.2.2.1, y8.2.2.2.1, y8.2.2.2.2.1, y8.2.2.2.2.2.1, ())) fun y9 =>
  br y9.1 (
   ob2 (aD n (43, y9.2.2.1, y9.2.1, y9.2.2.1, y9.2.2.2.1, y9.2.2.2.2.1, y9.2.2.2.2.2.1, ())) (fun y10 =>
    none) (fun y10 =>
    some (.inr (y10.1, y10.2.1, y10.2.2.1, y10.2.2.2.1, y10.2.2.2.2.1, y10.2.2.2.2.2.1, y10.2.2.2.2.2.2.1, ())))) (
   ob (aS n ([92, 123], y9.2.1, y9.2.2.1, y9.2.2.2.1, y9.2.2.2.2.1, y9.2.2.2.2.2.1, ())) fun y11 =>
   br y11.1 (
    ob2 (aD n (43, y11.2.2.1, y11.2.1, y11.2.2.1, y11.2.2.2.1, y11.2.2.2.2.1, y11.2.2.2.2.2.1, ())) (fun y12 =>
     none) (fun y12 =>
     some (.inr (y12.1, y12.2.1, y12.2.2.1, y12.2.2.2.1, y12.2.2.2.2.1, y12.2.2.2.2.2.1, y12.2.2.2.2.2.2.1, ())))) (
    some (.inl (y8.1, y11.2.1, y11.2.2.1, y11.2.2.2.1, y11.2.2.2.2.1, y11.2.2.2.2.2.1, ()))))) (
  ob (bP n ([92, 123], y7.2.1, y7.2.2.1, y7.2.2.2.1, y7.2.2.2.2.1, y7.2.2.2.2.2.1, ())) fun y13 =>
  br (!y13.1) (
   some (.inl (IQ, y13.2.1, y13.2.2.1, y13.2.2.2.1, y13.2.2.2.2.1, y13.2.2.2.2.2.1, ()))) (
   ob (ji n (y13.2.1, y13.2.2.1, y13.2.2.2.1, y13.2.2.2.2.1, y13.2.2.2.2.2.1, ())) fun y14 =>
   ob (bP n ([44], y14.2.1, y14.2.2.1, y14.2.2.2.1, y14.2.2.2.2.1, y14.2.2.2.2.2.1, ())) fun y15 =>
   br y15.1 (
    ob (ji n (y15.2.1, y15.2.2.1, y15.2.2.2.1, y15.2.2.2.2.1, y15.2.2.2.2.2.1, ())) fun y16 =>
    br (y14.1 == (-1)) (
     ob2 (aD n (43, at3, y16.2.1, y16.2.2.1, y16.2.2.2.1, y16.2.2.2.2.1, y16.2.2.2.2.2.1, ())) (fun y17 =>
      none) (fun y17 =>
      some (.inr (y17.1, y17.2.1, y17.2.2.1, y17.2.2.2.1, y17.2.2.2.2.1, y17.2.2.2.2.2.1, y17.2.2.2.2.2.2.1, ())))) (
     ob (bP n ([92, 125], y16.2.1, y16.2.2.1, y16.2.2.2.1, y16.2.2.2.2.1, y16.2.2.2.2.2.1, ())) fun y18 =>
     br (!y18.1) (
      ob2 (aD n (43, at3, y18.2.1, y18.2.2.1, y18.2.2.2.1, y18.2.2.2.2.1, y18.2.2.2.2.2.1, ())) (fun y19 =>
       none) (fun y19 =>
       some (.inr (y19.1, y19.2.1, y19.2.2.1, y19.2.2.2.1, y19.2.2.2.2.1, y19.2.2.2.2.2.1, y19.2.2.2.2.2.2.1, ())))) (
      br (decide (y14.1 > 255)) (
       ob2 (aD n (43, at3, y18.2.1, y18.2.2.1, y18.2.2.2.1, y18.2.2.2.2.1, y18.2.2.2.2.2.1, ())) (fun y20 =>
        none) (fun y20 =>
        some (.inr (y20.1, y20.2.1, y20.2.2.1, y20.2.2.2.1, y20.2.2.2.2.1, y20.2.2.2.2.2.1, y20.2.2.2.2.2.2.1, ())))) (
       br (decide (y16.1 > 255)) (
        ob2 (aD n (43, at3, y18.2.1, y18.2.2.1, y18.2.2.2.1, y18.2.2.2.2.1, y18.2.2.2.2.2.1, ())) (fun y21 =>
         none) (fun y21 =>
         some (.inr (y21.1, y21.2.1, y21.2.2.1, y21.2.2.2.1, y21.2.2.2.2.1, y21.2.2.2.2.2.1, y21.2.2.2.2.2.2.1, ())))) (
        br (y16.1 != (-1)) (
         let v22 : Int := if 1 > y14.1 then 1 else y14.1
         br (decide (y16.1 < v22)) (
          ob2 (aD n (43, at3, y18.2.1, y18.2.2.1, y18.2.2.2.1, y18.2.2.2.2.1, y18.2.2.2.2.2.1, ())) (fun y23 =>
           none) (fun y23 =>
           some (.inr (y23.1, y23.2.1, y23.2.2.1, y23.2.2.2.1, y23.2.2.2.2.1, y23.2.2.2.2.2.1, y23.2.2.2.2.2.2.1, ())))) (
          ob (bI n (6, [0, 0, 0, 0], IQ, 0, y14.1, y16.1, 0, y18.2.1, y18.2.2.1, y18.2.2.2.1, y18.2.2.2.2.1, y18.2.2.2.2.2.1, ())) fun y24 =>
          ob (aS n ([42], y24.2.1, y24.2.2.1, y24.2.2.2.1, y24.2.2.2.2.1, y24.2.2.2.2.2.1, ())) fun y25 =>
          br y25.1 (
           ob2 (aD n (43, y25.2.2.1, y25.2.1, y25.2.2.1, y25.2.2.2.1, y25.2.2.2.2.1, y25.2.2.2.2.2.1, ())) (fun y26 =>
            none) (fun y26 =>
            some (.inr (y26.1, y26.2.1, y26.2.2.1, y26.2.2.2.1, y26.2.2.2.2.1, y26.2.2.2.2.2.1, y26.2.2.2.2.2.2.1, ())))) (
           ob (aS n ([92, 123], y25.2.1, y25.2.2.1, y25.2.2.2.1, y25.2.2.2.2.1, y25.2.2.2.2.2.1, ())) fun y27 =>
           br y27.1 (
            ob2 (aD n (43, y27.2.2.1, y27.2.1, y27.2.2.1, y27.2.2.2.1, y27.2.2.2.2.1, y27.2.2.2.2.2.1, ())) (fun y28 =>
             none) (fun y28 =>
             some (.inr (y28.1, y28.2.1, y28.2.2.1, y28.2.2.2.1, y28.2.2.2.2.1, y28.2.2.2.2.2.1, y28.2.2.2.2.2.2.1, ())))) (
            some (.inl (y24.1, y27.2.1, y27.2.2.1, y27.2.2.2.1, y27.2.2.2.2.1, y27.2.2.2.2.2.1, ())))))) (
         ob (bI n (6, [0, 0, 0, 0], IQ, 0, y14.1, y16.1, 0, y18.2.1, y18.2.2.1, y18.2.2.2.1, y18.2.2.2.2.1, y18.2.2.2.2.2.1, ())) fun y29 =>
         ob (aS n ([42], y29.2.1, y29.2.2.1, y29.2.2.2.1, y29.2.2.2.2.1, y29.2.2.2.2.2.1, ())) fun y30 =>
         br y30.1 (
          ob2 (aD n (43, y30.2.2.1, y30.2.1, y30.2.2.1, y30.2.2.2.1, y30.2.2.2.2.1, y30.2.2.2.2.2.1, ())) (fun y31 =>
           none) (fun y31 =>
           some (.inr (y31.1, y31.2.1, y31.2.2.1, y31.2.2.2.1, y31.2.2.2.2.1, y31.2.2.2.2.2.1, y31.2.2.2.2.2.2.1, ())))) (
          ob (aS n ([92, 123], y30.2.1, y30.2.2.1, y30.2.2.2.1, y30.2.2.2.2.1, y30.2.2.2.2.2.1, ())) fun y32 =>
          br y32.1 (
           ob2 (aD n (43, y32.2.2.1, y32.2.1, y32.2.2.1, y32.2.2.2.1, y32.2.2.2.2.1, y32.2.2.2.2.2.1, ())) (fun y33 =>
            none) (fun y33 =>
            some (.inr (y33.1, y33.2.1, y33.2.2.1, y33.2.2.2.1, y33.2.2.2.2.1, y33.2.2.2.2.2.1, y33.2.2.2.2.2.2.1, ())))) (
           some (.inl (y29.1, y32.2.1, y32.2.2.1, y32.2.2.2.1, y32.2.2.2.2.1, y32.2.2.2.2.2.1, ())))))))))) (
    br (y14.1 == (-1)) (
     ob2 (aD n (43, at3, y15.2.1, y15.2.2.1, y15.2.2.2.1, y15.2.2.2.2.1, y15.2.2.2.2.2.1, ())) (fun y34 =>
      none) (fun y34 =>
      some (.inr (y34.1, y34.2.1, y34.2.2.1, y34.2.2.2.1, y34.2.2.2.2.1, y34.2.2.2.2.2.1, y34.2.2.2.2.2.2.1, ())))) (
     ob (bP n ([92, 125], y15.2.1, y15.2.2.1, y15.2.2.2.1, y15.2.2.2.2.1, y15.2.2.2.2.2.1, ())) fun y35 =>
     br (!y35.1) (
      ob2 (aD n (43, at3, y35.2.1, y35.2.2.1, y35.2.2.2.1, y35.2.2.2.2.1, y35.2.2.2.2.2.1, ())) (fun y36 =>
       none) (fun y36 =>
       some (.inr (y36.1, y36.2.1, y36.2.2.1, y36.2.2.2.1, y36.2.2.2.2.1, y36.2.2.2.2.2.1, y36.2.2.2.2.2.2.1, ())))) (
      br (decide (y14.1 > 255)) (
       ob2 (aD n (43, at3, y35.2.1, y35.2.2.1, y35.2.2.2.1, y35.2.2.2.2.1, y35.2.2.2.2.2.1, ())) (fun y37 =>
        none) (fun y37 =>
        some (.inr (y37.1, y37.2.1, y37.2.2.1, y37.2.2.2.1, y37.2.2.2.2.1, y37.2.2.2.2.2.1, y37.2.2.2.2.2.2.1, ())))) (
       br (decide (y14.1 > 255)) (
        ob2 (aD n (43, at3, y35.2.1, y35.2.2.1, y35.2.2.2.1, y35.2.2.2.2.1, y35.2.2.2.2.2.1, ())) (fun y38 =>
         none) (fun y38 =>
         some (.inr (y38.1, y38.2.1, y38.2.2.1, y38.2.2.2.1, y38.2.2.2.2.1, y38.2.2.2.2.2.1, y38.2.2.2.2.2.2.1, ())))) (
        br (y14.1 != (-1)) (
         let v39 : Int := if 1 > y14.1 then 1 else y14.1
         br (decide (y14.1 < v39)) (
          ob2 (aD n (43, at3, y35.2.1, y35.2.2.1, y35.2.2.2.1, y35.2.2.2.2.1, y35.2.2.2.2.2.1, ())) (fun y40 =>
           none) (fun y40 =>
           some (.inr (y40.1, y40.2.1, y40.2.2.1, y40.2.2.2.1, y40.2.2.2.2.1, y40.2.2.2.2.2.1, y40.2.2.2.2.2.2.1, ())))) (
          ob (bI n (6, [0, 0, 0, 0], IQ, 0, y14.1, y14.1, 0, y35.2.1, y35.2.2.1, y35.2.2.2.1, y35.2.2.2.2.1, y35.2.2.2.2.2.1, ())) fun y41 =>
          ob (aS n ([42], y41.2.1, y41.2.2.1, y41.2.2.2.1, y41.2.2.2.2.1, y41.2.2.2.2.2.1, ())) fun y42 =>
          br y42.1 (
           ob2 (aD n (43, y42.2.2.1, y42.2.1, y42.2.2.1, y42.2.2.2.1, y42.2.2.2.2.1, y42.2.2.2.2.2.1, ())) (fun y43 =>
            none) (fun y43 =>
            some (.inr (y43.1, y43.2.1, y43.2.2.1, y43.2.2.2.1, y43.2.2.2.2.1, y43.2.2.2.2.2.1, y43.2.2.2.2.2.2.1, ())))) (
           ob (aS n ([92, 123], y42.2.1, y42.2.2.1, y42.2.2.2.1, y42.2.2.2.2.1, y42.2.2.2.2.2.1, ())) fun y44 =>
           br y44.1 (
            ob2 (aD n (43, y44.2.2.1, y44.2.1, y44.2.2.1, y44.2.2.2.1, y44.2.2.2.2.1, y44.2.2.2.2.2.1, ())) (fun y45 =>
             none) (fun y45 =>
             some (.inr (y45.1, y45.2.1, y45.2.2.1, y45.2.2.2.1, y45.2.2.2.2.1, y45.2.2.2.2.2.1, y45.2.2.2.2.2.2.1, ())))) (
            some (.inl (y41.1, y44.2.1, y44.2.2.1, y44.2.2.2.1, y44.2.2.2.2.1, y44.2.2.2.2.2.1, ())))))) (
         ob (bI n (6, [0, 0, 0, 0], IQ, 0, y14.1, y14.1, 0, y35.2.1, y35.2.2.1, y35.2.2.2.1, y35.2.2.2.2.1, y35.2.2.2.2.2.1, ())) fun y46 =>
         ob (aS n ([42], y46.2.1, y46.2.2.1, y46.2.2.2.1, y46.2.2.2.2.1, y46.2.2.2.2.2.1, ())) fun y47 =>
         br y47.1 (
          ob2 (aD n (43, y47.2.2.1, y47.2.1, y47.2.2.1, y47.2.2.2.1, y47.2.2.2.2.1, y47.2.2.2.2.2.1, ())) (fun y48 =>
           none) (fun y48 =>
           some (.inr (y48.1, y48.2.1, y48.2.2.1, y48.2.2.2.1, y48.2.2.2.2.1, y48.2.2.2.2.2.1, y48.2.2.2.2.2.2.1, ())))) (
          ob (aS n ([92, 123], y47.2.1, y47.2.2.1, y47.2.2.2.1, y47.2.2.2.2.1, y47.2.2.2.2.2.1, ())) fun y49 =>
          br y49.1 (
           ob2 (aD n (43, y49.2.2.1, y49.2.1, y49.2.2.1, y49.2.2.2.1, y49.2.2.2.2.1, y49.2.2.2.2.2.1, ())) (fun y50 =>
            none) (fun y50 =>
            some (.inr (y50.1, y50.2.1, y50.2.2.1, y50.2.2.2.1, y50.2.2.2.2.1, y50.2.2.2.2.2.1, y50.2.2.2.2.2.2.1, ())))) (
           some (.inl (y46.1, y49.2.1, y49.2.2.1, y49.2.2.2.1, y49.2.2.2.2.1, y49.2.2.2.2.2.1, ()))))))))))))
def lU (n : Nat) (aL : (fK) -> Option nU) (x : Int × fK) : Option nU :=
 let Nv : Int := x.1
 let s2 : List UInt8 := x.2.1
 let at3 : Int := x.2.2.1
 let eu : Int := x.2.2.2.1
 let eB : List (Bool) := x.2.2.2.2.1
 let aP : List (NdT) := x.2.2.2.2.2.1
 br (eu == 9) (
  ob2 (aD n (41, Nv, s2, at3, eu, eB, aP, ())) (fun y7 =>
   none) (fun y7 =>
   some (.inr (y7.1, y7.2.1, y7.2.2.1, y7.2.2.2.1, y7.2.2.2.2.1, y7.2.2.2.2.2.1, y7.2.2.2.2.2.2.1, ())))) (
  let v8 : Int := IntKind.wrap .i64 (eu + 1)
  ob2 (aL (s2, at3, v8, eB, aP, ())) (fun y9 =>
   br (y9.1 == (-1)) (
    ob2 (aD n (41, Nv, y9.2.1, y9.2.2.1, y9.2.2.2.1, y9.2.2.2.2.1, y9.2.2.2.2.2.1, ())) (fun y10 =>
     none) (fun y10 =>
     some (.inr (y10.1, y10.2.1, y10.2.2.1, y10.2.2.2.1, y10.2.2.2.2.1, y10.2.2.2.2.2.1, y10.2.2.2.2.2.2.1, ())))) (
    ob (bP n ([92, 41], y9.2.1, y9.2.2.1, y9.2.2.2.1, y9.2.2.2.2.1, y9.2.2.2.2.2.1, ())) fun y11 =>
    br (!y11.1) (
     ob2 (aD n (41, Nv, y11.2.1, y11.2.2.1, y11.2.2.2.1, y11.2.2.2.2.1, y11.2.2.2.2.2.1, ())) (fun y12 =>
      none) (fun y12 =>
      some (.inr (y12.1, y12.2.1, y12.2.2.1, y12.2.2.2.1, y12.2.2.2.2.1, y12.2.2.2.2.2.1, y12.2.2.2.2.2.2.1, ())))) (
     chk (inB v8 10) (
      chk (decide (v8.toNat < 10)) (
       ob (bI n (7, [0, 0, 0, 0], y9.1, 0, 0, 0, v8, y11.2.1, y11.2.2.1, y11.2.2.2.1, y11.2.2.2.2.1.set (v8.toNat) true, y11.2.2.2.2.2.1, ())) fun y13 =>
       some (.inl (y13.1, y13.2.1, y13.2.2.1, y13.2.2.2.1, y13.2.2.2.2.1, y13.2.2.2.2.2.1, ()))))))) (fun y9 =>
   some (.inr (y9.1, y9.2.1, y9.2.2.1, y9.2.2.2.1, y9.2.2.2.2.1, y9.2.2.2.2.2.1, y9.2.2.2.2.2.2.1, ()))))
def ni (n : Nat) (aL : (fK) -> Option nU) (x : Bool × fK) : Option nU :=
 let vH : Bool := x.1
 let s2 : List UInt8 := x.2.1
 let at3 : Int := x.2.2.1
 let eu : Int := x.2.2.2.1
 let eB : List (Bool) := x.2.2.2.2.1
 let aP : List (NdT) := x.2.2.2.2.2.1
 let v7 : Int := IntKind.wrap .i64 (at3 + 1)
 br (v7 == (s2.length : Int)) (
  ob2 (aD n (40, at3, s2, v7, eu, eB, aP, ())) (fun y8 =>
   none) (fun y8 =>
   some (.inr (y8.1, y8.2.1, y8.2.2.1, y8.2.2.2.1, y8.2.2.2.2.1, y8.2.2.2.2.2.1, y8.2.2.2.2.2.2.1, ())))) (
  chk (inB v7 s2.length) (
   let v9 : Int := ((aG 0 s2 v7).toNat : Int)
   let v10 : Int := IntKind.wrap .i64 (v7 + 1)
   br (v9 == 40) (
    ob2 (lU n aL (at3, s2, v10, eu, eB, aP, ())) (fun y11 =>
     some (.inl (y11.1, y11.2.1, y11.2.2.1, y11.2.2.2.1, y11.2.2.2.2.1, y11.2.2.2.2.2.1, ()))) (fun y11 =>
     some (.inr (y11.1, y11.2.1, y11.2.2.1, y11.2.2.2.1, y11.2.2.2.2.1, y11.2.2.2.2.2.1, y11.2.2.2.2.2.2.1, ())))) (
    br (decide (v9 ≥ 49)) (
     br (decide (v9 <= 57)) (
      let v12 : Int := IntKind.wrap .u8 (v9 - 48)
      chk (inB (IntKind.wrap .i64 v12) 10) (
       chk (decide ((IntKind.wrap .i64 v12).toNat < 10)) (
        br (!(eB.getD ((IntKind.wrap .i64 v12).toNat) (Ty.dflt .bool))) (
         ob2 (aD n (44, at3, s2, v10, eu, eB, aP, ())) (fun y13 =>
          none) (fun y13 =>
          some (.inr (y13.1, y13.2.1, y13.2.2.1, y13.2.2.2.1, y13.2.2.2.2.1, y13.2.2.2.2.2.1, y13.2.2.2.2.2.2.1, ())))) (
         ob (bI n (8, [0, 0, 0, 0], 0, 0, 0, 0, IntKind.wrap .i64 v12, s2, v10, eu, eB, aP, ())) fun y14 =>
         some (.inl (y14.1, y14.2.1, y14.2.2.1, y14.2.2.2.1, y14.2.2.2.2.1, y14.2.2.2.2.2.1, ())))))) (
      br (v9 == 110) (
       ob (ng n [10]) fun y15 =>
       ob (bY n (y15, s2, v10, eu, eB, aP, ())) fun y16 =>
       some (.inl (y16.1, y16.2.1, y16.2.2.1, y16.2.2.2.1, y16.2.2.2.2.1, y16.2.2.2.2.2.1, ()))) (
       ob (strings_IndexByte n ([46, 91, 92, 42, 94, 36, 47], v9)) fun y17 =>
       br (decide (y17 ≥ 0)) (
        ob (bU n (v9, v9)) fun y18 =>
        ob (bY n (y18, s2, v10, eu, eB, aP, ())) fun y19 =>
        some (.inl (y19.1, y19.2.1, y19.2.2.1, y19.2.2.2.1, y19.2.2.2.2.1, y19.2.2.2.2.2.1, ()))) (
        br (v9 == 123) (
         br vH (
          ob2 (aD n (43, at3, s2, v10, eu, eB, aP, ())) (fun y20 =>
           none) (fun y20 =>
           some (.inr (y20.1, y20.2.1, y20.2.2.1, y20.2.2.2.1, y20.2.2.2.2.1, y20.2.2.2.2.2.1, y20.2.2.2.2.2.2.1, ())))) (
          ob2 (aD n (40, at3, s2, v10, eu, eB, aP, ())) (fun y21 =>
           none) (fun y21 =>
           some (.inr (y21.1, y21.2.1, y21.2.2.1, y21.2.2.2.1, y21.2.2.2.2.1, y21.2.2.2.2.2.1, y21.2.2.2.2.2.2.1, ()))))) (
         ob2 (aD n (40, at3, s2, v10, eu, eB, aP, ())) (fun y22 =>
          none) (fun y22 =>
          some (.inr (y22.1, y22.2.1, y22.2.2.1, y22.2.2.2.1, y22.2.2.2.2.1, y22.2.2.2.2.2.1, y22.2.2.2.2.2.2.1, ())))))))) (
     br (v9 == 110) (
      ob (ng n [10]) fun y23 =>
      ob (bY n (y23, s2, v10, eu, eB, aP, ())) fun y24 =>
      some (.inl (y24.1, y24.2.1, y24.2.2.1, y24.2.2.2.1, y24.2.2.2.2.1, y24.2.2.2.2.2.1, ()))) (
      ob (strings_IndexByte n ([46, 91, 92, 42, 94, 36, 47], v9)) fun y25 =>
      br (decide (y25 ≥ 0)) (
       ob (bU n (v9, v9)) fun y26 =>
       ob (bY n (y26, s2, v10, eu, eB, aP, ())) fun y27 =>
       some (.inl (y27.1, y27.2.1, y27.2.2.1, y27.2.2.2.1, y27.2.2.2.2.1, y27.2.2.2.2.2.1, ()))) (
       br (v9 == 123) (
        br vH (
         ob2 (aD n (43, at3, s2, v10, eu, eB, aP, ())) (fun y28 =>
          none) (fun y28 =>
          some (.inr (y28.1, y28.2.1, y28.2.2.1, y28.2.2.2.1, y28.2.2.2.2.1, y28.2.2.2.2.2.1, y28.2.2.2.2.2.2.1, ())))) (
         ob2 (aD n (40, at3, s2, v10, eu, eB, aP, ())) (fun y29 =>
          none) (fun y29 =>
          some (.inr (y29.1, y29.2.1, y29.2.2.1, y29.2.2.2.1, y29.2.2.2.2.1, y29.2.2.2.2.2.1, y29.2.2.2.2.2.2.1, ()))))) (
        ob2 (aD n (40, at3, s2, v10, eu, eB, aP, ())) (fun y30 =>
         none) (fun y30 =>
         some (.inr (y30.1, y30.2.1, y30.2.2.1, y30.2.2.2.1, y30.2.2.2.2.1, y30.2.2.2.2.2.1, y30.2.2.2.2.2.2.1, ()))))))))))
def nk (n : Nat) (aL : (fK) -> Option nU) (x : Bool × fK) : Option nU :=
 let vH : Bool := x.1
 let s2 : List UInt8 := x.2.1
 let at3 : Int := x.2.2.1
 let eu : Int := x.2.2.2.1
 let eB : List (Bool) := x.2.2.2.2.1
 let aP : List (NdT) := x.2.2.2.2.2.1
 ob (bP n ([46], s2, at3, eu, eB, aP, ())) fun y7 =>
 br y7.1 (
  ob (Ae n ([0, 0, 0, 0])) fun y8 =>
  ob (bY n (y8, y7.2.1, y7.2.2.1, y7.2.2.2.1, y7.2.2.2.2.1, y7.2.2.2.2.2.1, ())) fun y9 =>
  some (.inl (y9.1, y9.2.1, y9.2.2.1, y9.2.2.2.1, y9.2.2.2.2.1, y9.2.2.2.2.2.1, ()))) (
  ob (aS n ([91], y7.2.1, y7.2.2.1, y7.2.2.2.1, y7.2.2.2.2.1, y7.2.2.2.2.2.1, ())) fun y10 =>
  br y10.1 (
   chk ((decide (0 <= y10.2.2.1) && decide (y10.2.2.1 <= (y10.2.1.length : Int)))) (
    let v11 : List UInt8 := y10.2.1.drop y10.2.2.1.toNat
    ob (nW n v11) fun y12 =>
    br (y12.2.2 != 0) (
     ob2 (aD n (y12.2.2, y10.2.2.1, y10.2.1, y10.2.2.1, y10.2.2.2.1, y10.2.2.2.2.1, y10.2.2.2.2.2.1, ())) (fun y13 =>
      none) (fun y13 =>
      some (.inr (y13.1, y13.2.1, y13.2.2.1, y13.2.2.2.1, y13.2.2.2.2.1, y13.2.2.2.2.2.1, y13.2.2.2.2.2.2.1, ())))) (
     let v14 : Int := IntKind.wrap .i64 (y10.2.2.1 + y12.2.1)
     ob (bY n (y12.1, y10.2.1, v14, y10.2.2.2.1, y10.2.2.2.2.1, y10.2.2.2.2.2.1, ())) fun y15 =>
     some (.inl (y15.1, y15.2.1, y15.2.2.1, y15.2.2.2.1, y15.2.2.2.2.1, y15.2.2.2.2.2.1, ()))))) (
   ob (aS n ([92], y10.2.1, y10.2.2.1, y10.2.2.2.1, y10.2.2.2.2.1, y10.2.2.2.2.2.1, ())) fun y16 =>
   br y16.1 (
    ob2 (ni n aL (vH, y16.2.1, y16.2.2.1, y16.2.2.2.1, y16.2.2.2.2.1, y16.2.2.2.2.2.1, ())) (fun y17 =>
     some (.inl (y17.1, y17.2.1, y17.2.2.1, y17.2.2.2.1, y17.2.2.2.2.1, y17.2.2.2.2.2.1, ()))) (fun y17 =>
     some (.inr (y17.1, y17.2.1, y17.2.2.1, y17.2.2.2.1, y17.2.2.2.2.1, y17.2.2.2.2.2.1, y17.2.2.2.2.2.2.1, ())))) (
    let v18 : Int := IntKind.wrap .i64 (y16.2.2.1 + 1)
    let v19 : Int := IntKind.wrap .i64 (v18 - 1)
    chk ((decide (0 <= v18) && decide (v18 <= (y16.2.1.length : Int)) && (decide (0 <= v19) && decide (v19 <= v18)))) (
     let v20 : List UInt8 := (y16.2.1.take v18.toNat).drop v19.toNat
     ob (ng n v20) fun y21 =>
     ob (bY n (y21, y16.2.1, v18, y16.2.2.2.1, y16.2.2.2.2.1, y16.2.2.2.2.2.1, ())) fun y22 =>
     some (.inl (y22.1, y22.2.1, y22.2.2.1, y22.2.2.2.1, y22.2.2.2.2.1, y22.2.2.2.2.2.1, ()))))))
def kR (n : Nat) (g1 : Int × Int × List UInt8 × Int × Int × List (Bool) × List (NdT) × List (Int) × Unit -> Option nU) (x50 : Int × Int × List UInt8 × Int × Int × List (Bool) × List (NdT) × List (Int) × Unit) : Option nU :=
 let Xv : Int := x50.1
 let Rq : Int := x50.2.1
 let s53 : List UInt8 := x50.2.2.1
 let zb0 : Int := x50.2.2.2.1
 let Ux : Int := x50.2.2.2.2.1
 let Uy : List (Bool) := x50.2.2.2.2.2.1
 let zac : List (NdT) := x50.2.2.2.2.2.2.1
 let IU : List (Int) := x50.2.2.2.2.2.2.2.1
 br (decide (Rq ≥ 0)) (
  chk ((inB Rq (IU.length) && decide (0 + (IU.length) <= IU.length))) (
   chk (decide (0 + Rq.toNat < IU.length)) (
    let v59 : Int := IU.getD (0 + Rq.toNat) (Ty.dflt (.int .i64))
    ob (bI n (4, [0, 0, 0, 0], v59, Xv, 0, 0, 0, s53, zb0, Ux, Uy, zac, ())) fun y60 =>
    let v61 : Int := IntKind.wrap .i64 (Rq - 1)
    g1 (y60.1, v61, y60.2.1, y60.2.2.1, y60.2.2.2.1, y60.2.2.2.2.1, y60.2.2.2.2.2.1, IU, ())))) (
  some (.inl (Xv, s53, zb0, Ux, Uy, zac, ())))
def kS (n : Nat) (x37 : List UInt8 × Int × Int × List (Bool) × List (NdT) × List (Int) × Unit) : Option nU :=
 let s38 : List UInt8 := x37.1
 let zb1 : Int := x37.2.1
 let Uz : Int := x37.2.2.1
 let UA : List (Bool) := x37.2.2.2.1
 let zad : List (NdT) := x37.2.2.2.2.1
 let zT : List (Int) := x37.2.2.2.2.2.1
 let v44 : Int := ((zT.length : Nat) : Int)
 br (v44 == 0) (
  some (.inl ((-1), s38, zb1, Uz, UA, zad, ()))) (
  let v45 : Int := ((zT.length : Nat) : Int)
  let v46 : Int := IntKind.wrap .i64 (v45 - 1)
  chk ((inB v46 (zT.length) && decide (0 + (zT.length) <= zT.length))) (
   chk (decide (0 + v46.toNat < zT.length)) (
    let v47 : Int := zT.getD (0 + v46.toNat) (Ty.dflt (.int .i64))
    let v48 : Int := ((zT.length : Nat) : Int)
    let v49 : Int := IntKind.wrap .i64 (v48 - 2)
    fix (kR n) n (v47, v49, s38, zb1, Uz, UA, zad, zT, ()))))
def fM (n : Nat) (aL : (fK) -> Option nU) (g0 : Bool × List UInt8 × Int × Int × List (Bool) × List (NdT) × List (Int) × Unit -> Option nU) (x26 : Bool × Bool × List UInt8 × Int × Int × List (Bool) × List (NdT) × List (Int) × Unit) : Option nU :=
 let Y1 : Bool := x26.1
 let zb2 : Bool := x26.2.1
 let s29 : List UInt8 := x26.2.2.1
 let zb3 : Int := x26.2.2.2.1
 let UC : Int := x26.2.2.2.2.1
 let UD : List (Bool) := x26.2.2.2.2.2.1
 let Qq : List (NdT) := x26.2.2.2.2.2.2.1
 let Qr : List (Int) := x26.2.2.2.2.2.2.2.1
 br zb2 (
  let v35 : Int := IntKind.wrap .i64 (zb3 + 1)
  ob (bI n (3, [0, 0, 0, 0], 0, 0, 0, 0, 0, s29, v35, UC, UD, Qq, ())) fun y36 =>
  chk (Nat.ble ((Qr.length + ([y36.1] : List (Int)).length) * 8) room) (
   jn (kS n) (y36.2.1, y36.2.2.1, y36.2.2.2.1, y36.2.2.2.2.1, y36.2.2.2.2.2.1, Qr ++ [y36.1], ()))) (
  ob2 (nk n aL (Y1, s29, zb3, UC, UD, Qq, ())) (fun y62 =>
   ob2 (lT n (y62.1, y62.2.1, y62.2.2.1, y62.2.2.2.1, y62.2.2.2.2.1, y62.2.2.2.2.2.1, ())) (fun y63 =>
    chk (Nat.ble ((Qr.length + ([y63.1] : List (Int)).length) * 8) room) (
     g0 (false, y63.2.1, y63.2.2.1, y63.2.2.2.1, y63.2.2.2.2.1, y63.2.2.2.2.2.1, Qr ++ [y63.1], ()))) (fun y63 =>
    some (.inr (y63.1, y63.2.1, y63.2.2.1, y63.2.2.2.1, y63.2.2.2.2.1, y63.2.2.2.2.2.1, y63.2.2.2.2.2.2.1, ())))) (fun y62 =>
   some (.inr (y62.1, y62.2.1, y62.2.2.1, y62.2.2.2.1, y62.2.2.2.2.1, y62.2.2.2.2.2.1, y62.2.2.2.2.2.2.1, ()))))
def jd (n : Nat) (aL : (fK) -> Option nU) (g0 : Bool × List UInt8 × Int × Int × List (Bool) × List (NdT) × List (Int) × Unit -> Option nU) (x15 : Bool × List UInt8 × Int × Int × List (Bool) × List (NdT) × List (Int) × Unit) : Option nU :=
 let Az : Bool := x15.1
 let s17 : List UInt8 := x15.2.1
 let zdR : Int := x15.2.2.1
 let zaM : Int := x15.2.2.2.1
 let zaN : List (Bool) := x15.2.2.2.2.1
 let zc2 : List (NdT) := x15.2.2.2.2.2.1
 let Qs : List (Int) := x15.2.2.2.2.2.2.1
 ob (kJ n (s17, zdR, zaM, zaN, zc2, ())) fun y23 =>
 br (!y23.1) (
  ob (aS n ([36], y23.2.1, y23.2.2.1, y23.2.2.2.1, y23.2.2.2.2.1, y23.2.2.2.2.2.1, ())) fun y24 =>
  br y24.1 (
   let v25 : Int := IntKind.wrap .i64 (y24.2.2.1 + 1)
   br (v25 == (y24.2.1.length : Int)) (
    jn (fM n aL g0) (Az, true, y24.2.1, y24.2.2.1, y24.2.2.2.1, y24.2.2.2.2.1, y24.2.2.2.2.2.1, Qs, ())) (
    ob (aS n ([36, 92, 41], y24.2.1, y24.2.2.1, y24.2.2.2.1, y24.2.2.2.2.1, y24.2.2.2.2.2.1, ())) fun y64 =>
    jn (fM n aL g0) (Az, y64.1, y64.2.1, y64.2.2.1, y64.2.2.2.1, y64.2.2.2.2.1, y64.2.2.2.2.2.1, Qs, ()))) (
   jn (fM n aL g0) (Az, false, y24.2.1, y24.2.2.1, y24.2.2.2.1, y24.2.2.2.2.1, y24.2.2.2.2.2.1, Qs, ()))) (
  jn (kS n) (y23.2.1, y23.2.2.1, y23.2.2.2.1, y23.2.2.2.2.1, y23.2.2.2.2.2.1, Qs, ()))
def kT (n : Nat) (aL : (fK) -> Option nU) (x8 : List UInt8 × Int × Int × List (Bool) × List (NdT) × List (Int) × Unit) : Option nU :=
 let s9 : List UInt8 := x8.1
 let zdS : Int := x8.2.1
 let zaO : Int := x8.2.2.1
 let zaP : List (Bool) := x8.2.2.2.1
 let Ca : List (NdT) := x8.2.2.2.2.1
 let zc3 : List (Int) := x8.2.2.2.2.2.1
 fix (jd n aL) n (true, s9, zdS, zaO, zaP, Ca, zc3, ())
def mg (n : Nat) (aL : (fK) -> Option nU) (x : fK) : Option nU :=
 let s1 : List UInt8 := x.1
 let at2 : Int := x.2.1
 let Dp : Int := x.2.2.1
 let Dq : List (Bool) := x.2.2.2.1
 let lQ : List (NdT) := x.2.2.2.2.1
 ob (bP n ([94], s1, at2, Dp, Dq, lQ, ())) fun y6 =>
 br y6.1 (
  ob (bI n (2, [0, 0, 0, 0], 0, 0, 0, 0, 0, y6.2.1, y6.2.2.1, y6.2.2.2.1, y6.2.2.2.2.1, y6.2.2.2.2.2.1, ())) fun y7 =>
  chk (Nat.ble (([y7.1] : List (Int)).length * 8) room) (
   jn (kT n aL) (y7.2.1, y7.2.2.1, y7.2.2.2.1, y7.2.2.2.2.1, y7.2.2.2.2.2.1, [y7.1], ()))) (
  jn (kT n aL) (y6.2.1, y6.2.2.1, y6.2.2.2.1, y6.2.2.2.2.1, y6.2.2.2.2.2.1, [], ()))
def gV (n : Nat) : (fK) -> Option nU :=
 Aw (fun n r x => mg n r x) n
def tZ (n : Nat) (x : List UInt8 × fK) : Option (Sum (List UInt8 × fK) (Int × Int × List UInt8 × fK)) :=
 let b1 : List UInt8 := x.1
 let s2 : List UInt8 := x.2.1
 let at3 : Int := x.2.2.1
 let eu : Int := x.2.2.2.1
 let eB : List (Bool) := x.2.2.2.2.1
 let aP : List (NdT) := x.2.2.2.2.2.1
 ob2 (gV n (s2, at3, eu, eB, aP, ())) (fun y7 =>
  br (decide (y7.2.2.1 < (b1.length : Int))) (
   ob2 (aD n (41, y7.2.2.1, y7.2.1, y7.2.2.1, y7.2.2.2.1, y7.2.2.2.2.1, y7.2.2.2.2.2.1, ())) (fun y8 =>
    none) (fun y8 =>
    some (.inr (y8.1, y8.2.1, b1, y8.2.2.1, y8.2.2.2.1, y8.2.2.2.2.1, y8.2.2.2.2.2.1, y8.2.2.2.2.2.2.1, ())))) (
   let v9 : Int := ((y7.2.2.2.2.2.1.length : Nat) : Int)
   br (decide (v9 > 120)) (
    ob2 (aD n (2, 0, y7.2.1, y7.2.2.1, y7.2.2.2.1, y7.2.2.2.2.1, y7.2.2.2.2.2.1, ())) (fun y10 =>
     none) (fun y10 =>
     some (.inr (y10.1, y10.2.1, b1, y10.2.2.1, y10.2.2.2.1, y10.2.2.2.2.1, y10.2.2.2.2.2.1, y10.2.2.2.2.2.2.1, ())))) (
    some (.inl (b1, y7.2.1, y7.2.2.1, y7.2.2.2.1, y7.2.2.2.2.1, y7.2.2.2.2.2.1, ()))))) (fun y7 =>
  some (.inr (y7.1, y7.2.1, b1, y7.2.2.1, y7.2.2.2.1, y7.2.2.2.2.1, y7.2.2.2.2.2.1, y7.2.2.2.2.2.2.1, ())))
def gq (n : Nat) (x : List UInt8 × fK) : Option (Int × Int × List UInt8 × fK) := ob2 (tZ n x) (fun y => some (0, 0, y)) (fun y => some y)
def oZ (n : Nat) (x : List UInt8) : Option (List (NdT) × Int × Int) :=
 let s_0 : List UInt8 := x
 br (s_0 == []) (
  some ([(0, ([0, 0, 0, 0], (0, (0, (0, (0, (0, ())))))))], 0, 0)) (
  ob (gq n (s_0, s_0, 0, 0, [false, false, false, false, false, false, false, false, false, false], [], ())) fun y1 =>
  br (y1.1 != 0) (
   some ([], y1.2.1, y1.1)) (
   some (y1.2.2.2.2.2.2.2.1, 0, 0)))
def gQ (n : Nat) (x : Int × List (Int) × Int × Int × Int × Int × Int × Unit) : Option (Int) :=
 let n_0 : Int × List (Int) × Int × Int × Int × Int × Int × Unit := x
 br (n_0.1 == 4) (
  br (n_0.1 == 4) (
   some 2) (
   br (n_0.1 == 6) (
    br (n_0.1 == 6) (
     some 1) (
     some 0)) (
    br (n_0.1 == 7) (
     some 1) (
     some 0)))) (
  br (n_0.1 == 5) (
   some 2) (
   br (n_0.1 == 6) (
    br (n_0.1 == 6) (
     some 1) (
     some 0)) (
    br (n_0.1 == 7) (
     some 1) (
     some 0))))
def bJ (n : Nat) (x : Int × List (Int) × Int × Int × Int × Int × Int × Unit) : Option (NdT) :=
 let n_0 : Int × List (Int) × Int × Int × Int × Int × Int × Unit := x
 br (n_0.1 == 1) (
  some (n_0.1, (n_0.2.1, (0, (0, (0, (0, (0, ())))))))) (
  br (n_0.1 == 4) (
   br (n_0.1 == 4) (
    some (n_0.1, ([0, 0, 0, 0], (n_0.2.2.1, (n_0.2.2.2.1, (0, (0, (0, ())))))))) (
    br (n_0.1 == 6) (
     some (n_0.1, ([0, 0, 0, 0], (n_0.2.2.1, (0, (n_0.2.2.2.2.1, (n_0.2.2.2.2.2.1, (0, ())))))))) (
     br (n_0.1 == 7) (
      some (n_0.1, ([0, 0, 0, 0], (n_0.2.2.1, (0, (0, (0, n_0.2.2.2.2.2.2))))))) (
      br (n_0.1 == 8) (
       some (n_0.1, ([0, 0, 0, 0], (0, (0, (0, (0, n_0.2.2.2.2.2.2))))))) (
       some (n_0.1, ([0, 0, 0, 0], (0, (0, (0, (0, (0, ())))))))))))) (
   br (n_0.1 == 5) (
    some (n_0.1, ([0, 0, 0, 0], (n_0.2.2.1, (n_0.2.2.2.1, (0, (0, (0, ())))))))) (
    br (n_0.1 == 6) (
     some (n_0.1, ([0, 0, 0, 0], (n_0.2.2.1, (0, (n_0.2.2.2.2.1, (n_0.2.2.2.2.2.1, (0, ())))))))) (
     br (n_0.1 == 7) (
      some (n_0.1, ([0, 0, 0, 0], (n_0.2.2.1, (0, (0, (0, n_0.2.2.2.2.2.2))))))) (
      br (n_0.1 == 8) (
       some (n_0.1, ([0, 0, 0, 0], (0, (0, (0, (0, n_0.2.2.2.2.2.2))))))) (
       some (n_0.1, ([0, 0, 0, 0], (0, (0, (0, (0, (0, ())))))))))))))
def nX (n : Nat) (x : Int × List (Int) × Int × Int × Int × Int × Int × Unit) : Option (Bool) :=
 let n_0 : Int × List (Int) × Int × Int × Int × Int × Int × Unit := x
 br (decide (n_0.1 < 0)) (
  some false) (
  br (decide (n_0.1 > 8)) (
   some false) (
   ob (bJ n n_0) fun y1 =>
   br (!(Ty.beq ak n_0 y1)) (
    some false) (
    br (n_0.1 == 1) (
     some (!(Ty.beq (.arr 4 (.int .u64)) n_0.2.1 ([0, 0, 0, 0])))) (
     br (n_0.1 == 6) (
      br (decide (n_0.2.2.2.2.1 ≥ 0)) (
       br (decide (n_0.2.2.2.2.1 <= 255)) (
        br (n_0.2.2.2.2.2.1 == (-1)) (
         some true) (
         let v2 : Int := if 1 > n_0.2.2.2.2.1 then 1 else n_0.2.2.2.2.1
         br (decide (n_0.2.2.2.2.2.1 ≥ v2)) (
          some (decide (n_0.2.2.2.2.2.1 <= 255))) (
          some false))) (
        some false)) (
       some false)) (
      br (n_0.1 == 7) (
       br (n_0.1 == 7) (
        br (decide (n_0.2.2.2.2.2.2.1 ≥ 1)) (
         some (decide (n_0.2.2.2.2.2.2.1 <= 9))) (
         some false)) (
        some true)) (
       br (n_0.1 == 8) (
        br (decide (n_0.2.2.2.2.2.2.1 ≥ 1)) (
         some (decide (n_0.2.2.2.2.2.2.1 <= 9))) (
         some false)) (
        some true)))))))
def CB (n : Nat) (g0 : List (Int) × Int × Int × Int × Unit -> Option (Int)) (x1 : List (Int) × Int × Int × Int × Unit) : Option (Int) :=
 let s_2 : List (Int) := x1.1
 let v_3 : Int := x1.2.1
 let mI : Int := x1.2.2.1
 let Rs : Int := x1.2.2.2.1
 br (decide (Rs < mI)) (
  chk (inB Rs s_2.length) (
   let v6 : Int := aG (Ty.dflt (.int .i64)) s_2 Rs
   br (v_3 == v6) (
    some Rs) (
    let v7 : Int := IntKind.wrap .i64 (Rs + 1)
    g0 (s_2, v_3, mI, v7, ())))) (
  some (-1))
def uX (n : Nat) (x : List (Int) × Int) : Option (Int) :=
 let s_0 : List (Int) := x.1
 let v_1 : Int := x.2
 fix (CB n) n (s_0, v_1, (s_0.length : Int), 0, ())
def mh (n : Nat) (x : List (Int) × Int) : Option (Bool) :=
 let s_0 : List (Int) := x.1
 let v_1 : Int := x.2
 ob (uX n (s_0, v_1)) fun y1 =>
 some (decide (y1 ≥ 0))
def jk (n : Nat) (x : List (NdT) × Int × List (Int) × Int × Int × Int × Int × Int × Unit) : Option (Bool) :=
 let l_0 : List (NdT) := x.1
 let n_1 : Int × List (Int) × Int × Int × Int × Int × Int × Unit := x.2
 br (n_1.1 == 4) (
  chk (inB n_1.2.2.1 l_0.length) (
   let v1 : Int × List (Int) × Int × Int × Int × Int × Int × Unit := aG (Ty.dflt ak) l_0 n_1.2.2.1
   br (v1.1 != 4) (
    chk (inB n_1.2.2.1 l_0.length) (
     let v2 : Int × List (Int) × Int × Int × Int × Int × Int × Unit := aG (Ty.dflt ak) l_0 n_1.2.2.1
     br (v2.1 != 5) (
      chk (inB n_1.2.2.2.1 l_0.length) (
       let v3 : Int × List (Int) × Int × Int × Int × Int × Int × Unit := aG (Ty.dflt ak) l_0 n_1.2.2.2.1
       some (v3.1 != 5))) (
      some false))) (
    some false))) (
  br (n_1.1 == 5) (
   chk (inB n_1.2.2.1 l_0.length) (
    let v4 : Int × List (Int) × Int × Int × Int × Int × Int × Unit := aG (Ty.dflt ak) l_0 n_1.2.2.1
    some (v4.1 != 5))) (
   br (n_1.1 == 6) (
    chk (inB n_1.2.2.1 l_0.length) (
     let v5 : Int × List (Int) × Int × Int × Int × Int × Int × Unit := aG (Ty.dflt ak) l_0 n_1.2.2.1
     ob (mh n ([1, 7, 8], v5.1)) fun y6 =>
     some y6)) (
    some true)))
def fO (n : Nat) (g0 : List (NdT) × List (NdT) × Int × Int × List (Int) × Unit -> Option (Bool)) (x1 : List (NdT) × List (NdT) × Int × Int × List (Int) × Unit) : Option (Bool) :=
 let l_2 : List (NdT) := x1.1
 let Gv : List (NdT) := x1.2.1
 let Kh : Int := x1.2.2.1
 let jP : Int := x1.2.2.2.1
 let aP : List (Int) := x1.2.2.2.2.1
 br (decide (jP < Kh)) (
  chk (inB jP Gv.length) (
   let v7 : Int × List (Int) × Int × Int × Int × Int × Int × Unit := aG (Ty.dflt ak) Gv jP
   let v8 : Int := ((aP.length : Nat) : Int)
   ob (gQ n v7) fun y9 =>
   let v10 : Int := IntKind.wrap .i64 (v8 - y9)
   ob (nX n v7) fun y11 =>
   br (!y11) (
    some false) (
    br (decide (v10 < 0)) (
     some false) (
     br (v7.1 == 0) (
      br (decide ((l_2.length : Int) > 1)) (
       some false) (
       chk ((decide (0 <= v10) && decide (v10 <= (aP.length : Int)))) (
        let v12 : Int := (((aP.length) - (v10.toNat) : Nat) : Int)
        br (decide (v12 > 0)) (
         chk ((inB 0 ((aP.length) - (v10.toNat)) && decide ((0 + (v10.toNat)) + ((aP.length) - (v10.toNat)) <= aP.length))) (
          chk (decide ((0 + (v10.toNat)) + (0 : Int).toNat < aP.length)) (
           let v13 : Int := aP.getD ((0 + (v10.toNat)) + (0 : Int).toNat) (Ty.dflt (.int .i64))
           br (v13 != v7.2.2.1) (
            some false) (
            let v14 : Int := (((aP.length) - (v10.toNat) : Nat) : Int)
            br (decide (v14 > 1)) (
             chk ((inB 1 ((aP.length) - (v10.toNat)) && decide ((0 + (v10.toNat)) + ((aP.length) - (v10.toNat)) <= aP.length))) (
              chk (decide ((0 + (v10.toNat)) + (1 : Int).toNat < aP.length)) (
               let v15 : Int := aP.getD ((0 + (v10.toNat)) + (1 : Int).toNat) (Ty.dflt (.int .i64))
               br (v15 != v7.2.2.2.1) (
                some false) (
                ob (jk n (l_2, v7)) fun y16 =>
                br (!y16) (
                 some false) (
                 chk ((decide (0 <= v10) && decide (v10 <= (aP.length : Int)))) (
                  chk ((Nat.ble (v10.toNat) aP.length && Nat.ble (((v10.toNat) + ([jP] : List (Int)).length) * 8) room)) (
                   let r17 : List (Int) := aP.take (v10.toNat) ++ [jP]
                   let v18 : Int := IntKind.wrap .i64 (jP + 1)
                   g0 (l_2, Gv, Kh, v18, r17, ())))))))) (
             ob (jk n (l_2, v7)) fun y19 =>
             br (!y19) (
              some false) (
              chk ((decide (0 <= v10) && decide (v10 <= (aP.length : Int)))) (
               chk ((Nat.ble (v10.toNat) aP.length && Nat.ble (((v10.toNat) + ([jP] : List (Int)).length) * 8) room)) (
                let r20 : List (Int) := aP.take (v10.toNat) ++ [jP]
                let v21 : Int := IntKind.wrap .i64 (jP + 1)
                g0 (l_2, Gv, Kh, v21, r20, ()))))))))) (
         ob (jk n (l_2, v7)) fun y22 =>
         br (!y22) (
          some false) (
          chk ((decide (0 <= v10) && decide (v10 <= (aP.length : Int)))) (
           chk ((Nat.ble (v10.toNat) aP.length && Nat.ble (((v10.toNat) + ([jP] : List (Int)).length) * 8) room)) (
            let r23 : List (Int) := aP.take (v10.toNat) ++ [jP]
            let v24 : Int := IntKind.wrap .i64 (jP + 1)
            g0 (l_2, Gv, Kh, v24, r23, ())))))))) (
      chk ((decide (0 <= v10) && decide (v10 <= (aP.length : Int)))) (
       let v25 : Int := (((aP.length) - (v10.toNat) : Nat) : Int)
       br (decide (v25 > 0)) (
        chk ((inB 0 ((aP.length) - (v10.toNat)) && decide ((0 + (v10.toNat)) + ((aP.length) - (v10.toNat)) <= aP.length))) (
         chk (decide ((0 + (v10.toNat)) + (0 : Int).toNat < aP.length)) (
          let v26 : Int := aP.getD ((0 + (v10.toNat)) + (0 : Int).toNat) (Ty.dflt (.int .i64))
          br (v26 != v7.2.2.1) (
           some false) (
           let v27 : Int := (((aP.length) - (v10.toNat) : Nat) : Int)
           br (decide (v27 > 1)) (
            chk ((inB 1 ((aP.length) - (v10.toNat)) && decide ((0 + (v10.toNat)) + ((aP.length) - (v10.toNat)) <= aP.length))) (
             chk (decide ((0 + (v10.toNat)) + (1 : Int).toNat < aP.length)) (
              let v28 : Int := aP.getD ((0 + (v10.toNat)) + (1 : Int).toNat) (Ty.dflt (.int .i64))
              br (v28 != v7.2.2.2.1) (
               some false) (
               ob (jk n (l_2, v7)) fun y29 =>
               br (!y29) (
                some false) (
                chk ((decide (0 <= v10) && decide (v10 <= (aP.length : Int)))) (
                 chk ((Nat.ble (v10.toNat) aP.length && Nat.ble (((v10.toNat) + ([jP] : List (Int)).length) * 8) room)) (
                  let r30 : List (Int) := aP.take (v10.toNat) ++ [jP]
                  let v31 : Int := IntKind.wrap .i64 (jP + 1)
                  g0 (l_2, Gv, Kh, v31, r30, ())))))))) (
            ob (jk n (l_2, v7)) fun y32 =>
            br (!y32) (
             some false) (
             chk ((decide (0 <= v10) && decide (v10 <= (aP.length : Int)))) (
              chk ((Nat.ble (v10.toNat) aP.length && Nat.ble (((v10.toNat) + ([jP] : List (Int)).length) * 8) room)) (
               let r33 : List (Int) := aP.take (v10.toNat) ++ [jP]
               let v34 : Int := IntKind.wrap .i64 (jP + 1)
               g0 (l_2, Gv, Kh, v34, r33, ()))))))))) (
        ob (jk n (l_2, v7)) fun y35 =>
        br (!y35) (
         some false) (
         chk ((decide (0 <= v10) && decide (v10 <= (aP.length : Int)))) (
          chk ((Nat.ble (v10.toNat) aP.length && Nat.ble (((v10.toNat) + ([jP] : List (Int)).length) * 8) room)) (
           let r36 : List (Int) := aP.take (v10.toNat) ++ [jP]
           let v37 : Int := IntKind.wrap .i64 (jP + 1)
           g0 (l_2, Gv, Kh, v37, r36, ()))))))))))) (
  let v38 : Int := ((aP.length : Nat) : Int)
  some (v38 == 1))
def sw (n : Nat) (x : List (NdT)) : Option (Bool) :=
 let l_0 : List (NdT) := x
 fix (fO n) n (l_0, l_0, (l_0.length : Int), 0, [], ())
def dh (n : Nat) (dz : (Int × List (NdT) × Int × Bool × List (Bool) × Bool × Unit) -> Option (List (NdT) × Int × Bool × List (Bool) × Bool × Unit)) (x : Int × List (NdT) × Int × Bool × List (Bool) × Bool × Unit) : Option (List (NdT) × Int × Bool × List (Bool) × Bool × Unit) :=
 let i_1 : Int := x.1
 let b2 : List (NdT) := x.2.1
 let b3 : Int := x.2.2.1
 let b4 : Bool := x.2.2.2.1
 let b5 : List (Bool) := x.2.2.2.2.1
 let b6 : Bool := x.2.2.2.2.2.1
 chk (inB i_1 b2.length) (
  let v7 : Int × List (Int) × Int × Int × Int × Int × Int × Unit := aG (Ty.dflt ak) b2 i_1
  br (v7.1 == 4) (
   br (v7.1 == 4) (
    ob (dz (v7.2.2.1, b2, b3, b4, b5, b6, ())) fun y8 =>
    ob (dz (v7.2.2.2.1, y8.1, y8.2.1, y8.2.2.1, y8.2.2.2.1, y8.2.2.2.2.1, ())) fun y9 =>
    some (y9.1, y9.2.1, y9.2.2.1, y9.2.2.2.1, y9.2.2.2.2.1, ())) (
    br (v7.1 == 6) (
     ob (dz (v7.2.2.1, b2, b3, b4, b5, b6, ())) fun y10 =>
     some (y10.1, y10.2.1, y10.2.2.1, y10.2.2.2.1, y10.2.2.2.2.1, ())) (
     br (v7.1 == 7) (
      let v11 : Int := IntKind.wrap .i64 (b3 + 1)
      br b4 (
       ob (dz (v7.2.2.1, b2, v11, (v7.2.2.2.2.2.2.1 == v11), b5, b6, ())) fun y12 =>
       chk (inB v7.2.2.2.2.2.2.1 10) (
        chk (decide (v7.2.2.2.2.2.2.1.toNat < 10)) (
         some (y12.1, y12.2.1, y12.2.2.1, y12.2.2.2.1.set (v7.2.2.2.2.2.2.1.toNat) true, y12.2.2.2.2.1, ())))) (
       ob (dz (v7.2.2.1, b2, v11, false, b5, b6, ())) fun y13 =>
       chk (inB v7.2.2.2.2.2.2.1 10) (
        chk (decide (v7.2.2.2.2.2.2.1.toNat < 10)) (
         some (y13.1, y13.2.1, y13.2.2.1, y13.2.2.2.1.set (v7.2.2.2.2.2.2.1.toNat) true, y13.2.2.2.2.1, ()))))) (
      br (v7.1 == 8) (
       br b4 (
        chk (inB v7.2.2.2.2.2.2.1 10) (
         chk (decide (v7.2.2.2.2.2.2.1.toNat < 10)) (
          some (b2, b3, b5.getD (v7.2.2.2.2.2.2.1.toNat) (Ty.dflt .bool), b5, true, ())))) (
        some (b2, b3, false, b5, true, ()))) (
       some (b2, b3, b4, b5, b6, ())))))) (
   br (v7.1 == 5) (
    ob (dz (v7.2.2.1, b2, b3, b4, b5, b6, ())) fun y14 =>
    ob (dz (v7.2.2.2.1, y14.1, y14.2.1, y14.2.2.1, y14.2.2.2.1, y14.2.2.2.2.1, ())) fun y15 =>
    some (y15.1, y15.2.1, y15.2.2.1, y15.2.2.2.1, y15.2.2.2.2.1, ())) (
    br (v7.1 == 6) (
     ob (dz (v7.2.2.1, b2, b3, b4, b5, b6, ())) fun y16 =>
     some (y16.1, y16.2.1, y16.2.2.1, y16.2.2.2.1, y16.2.2.2.2.1, ())) (
     br (v7.1 == 7) (
      let v17 : Int := IntKind.wrap .i64 (b3 + 1)
      br b4 (
       ob (dz (v7.2.2.1, b2, v17, (v7.2.2.2.2.2.2.1 == v17), b5, b6, ())) fun y18 =>
       chk (inB v7.2.2.2.2.2.2.1 10) (
        chk (decide (v7.2.2.2.2.2.2.1.toNat < 10)) (
         some (y18.1, y18.2.1, y18.2.2.1, y18.2.2.2.1.set (v7.2.2.2.2.2.2.1.toNat) true, y18.2.2.2.2.1, ())))) (
       ob (dz (v7.2.2.1, b2, v17, false, b5, b6, ())) fun y19 =>
       chk (inB v7.2.2.2.2.2.2.1 10) (
        chk (decide (v7.2.2.2.2.2.2.1.toNat < 10)) (
         some (y19.1, y19.2.1, y19.2.2.1, y19.2.2.2.1.set (v7.2.2.2.2.2.2.1.toNat) true, y19.2.2.2.2.1, ()))))) (
      br (v7.1 == 8) (
       br b4 (
        chk (inB v7.2.2.2.2.2.2.1 10) (
         chk (decide (v7.2.2.2.2.2.2.1.toNat < 10)) (
          some (b2, b3, b5.getD (v7.2.2.2.2.2.2.1.toNat) (Ty.dflt .bool), b5, true, ())))) (
        some (b2, b3, false, b5, true, ()))) (
       some (b2, b3, b4, b5, b6, ())))))))
def kC (n : Nat) : (Int × List (NdT) × Int × Bool × List (Bool) × Bool × Unit) -> Option (List (NdT) × Int × Bool × List (Bool) × Bool × Unit) :=
 Aw (fun n r x => dh n r x) n
def xZ (n : Nat) (x : List (NdT)) : Option (Int × Bool × Bool) :=
 let l_0 : List (NdT) := x
 let v1 : Int := IntKind.wrap .i64 ((l_0.length : Int) - 1)
 ob (kC n (v1, l_0, 0, true, [false, false, false, false, false, false, false, false, false, false], false, ())) fun y2 =>
 some (y2.2.1, y2.2.2.2.2.1, y2.2.2.1)
def qo (n : Nat) (x : List (NdT)) : Option (Int × Bool × Bool) :=
 let l_0 : List (NdT) := x
 br ((l_0.length : Int) == 0) (
  some (0, false, false)) (
  br (decide ((l_0.length : Int) > 120)) (
   some (0, false, false)) (
   ob (sw n l_0) fun y1 =>
   br (!y1) (
    some (0, false, false)) (
    ob (xZ n l_0) fun y2 =>
    br (!y2.2.2) (
     some (0, false, false)) (
     some (y2.1, y2.2.1, true)))))
def vY (n : Nat) (x : List (NdT)) : Option (Bool) :=
 let l_0 : List (NdT) := x
 ob (qo n l_0) fun y1 =>
 some y1.2.2
def AA (n : Nat) (x : Int) : Option (List UInt8) :=
 let b_0 : Int := x
 br (b_0 == 10) (
  some [92, 110]) (
  ob (strings_IndexByte n ([46, 91, 92, 42, 94, 36], b_0)) fun y1 =>
  br (decide (y1 ≥ 0)) (
   chk (decide ([92].length + (dQ [b_0]).length <= av)) (
    some ([92] ++ (dQ [b_0])))) (
   some (dQ [b_0])))
def qp (n : Nat) (x : List (Int) × Int) : Option (Bool) :=
 let s_0 : List (Int) := x.1
 let b_1 : Int := x.2
 chk (decide (0 <= 6)) (
  chk (inB (kP .u8 b_1 6) 4) (
   chk (decide ((kP .u8 b_1 6).toNat < 4)) (
    let v1 : Int := s_0.getD ((kP .u8 b_1 6).toNat) (Ty.dflt (.int .u64))
    chk (decide (0 <= dG .u8 .and b_1 63)) (
     let v2 : Int := kP .u64 v1 (dG .u8 .and b_1 63)
     some ((dG .u64 .and v2 1) == 1)))))
def sD (n : Nat) (g0 : List UInt8 × Int × Int × List (List UInt8) × Unit -> Option (List (List UInt8))) (x1 : List UInt8 × Int × Int × List (List UInt8) × Unit) : Option (List (List UInt8)) :=
 let s_2 : List UInt8 := x1.1
 let VY : Int := x1.2.1
 let mI : Int := x1.2.2.1
 let lQ : List (List UInt8) := x1.2.2.2.1
 br (decide (mI < VY)) (
  let v6 : Int := ((lQ.length : Nat) : Int)
  let v7 : Int := IntKind.wrap .i64 (v6 - 1)
  br (decide (v7 ≥ 0)) (
   chk (inB mI s_2.length) (
    let v8 : Int := ((aG 0 s_2 mI).toNat : Int)
    let v9 : Int := IntKind.wrap .i64 (mI - 1)
    chk (inB v9 s_2.length) (
     let v10 : Int := ((aG 0 s_2 v9).toNat : Int)
     let v11 : Int := IntKind.wrap .u8 (v10 + 1)
     br (v8 == v11) (
      chk ((inB v7 (lQ.length) && decide (0 + (lQ.length) <= lQ.length))) (
       chk (decide (0 + v7.toNat < lQ.length)) (
        let v12 : List UInt8 := lQ.getD (0 + v7.toNat) (Ty.dflt .str)
        let v13 : Int := IntKind.wrap .i64 (mI + 1)
        chk ((decide (0 <= v13) && decide (v13 <= (s_2.length : Int)) && (decide (0 <= mI) && decide (mI <= v13)))) (
         let v14 : List UInt8 := (s_2.take v13.toNat).drop mI.toNat
         chk (decide (v12.length + v14.length <= av)) (
          chk ((inB v7 (lQ.length) && decide (0 + (lQ.length) <= lQ.length))) (
           chk (decide (0 + v7.toNat < lQ.length)) (
            let r15 : List (List UInt8) := lQ.set (0 + v7.toNat) (v12 ++ v14)
            let v16 : Int := IntKind.wrap .i64 (mI + 1)
            g0 (s_2, VY, v16, r15, ())))))))) (
      let v17 : Int := IntKind.wrap .i64 (mI + 1)
      chk ((decide (0 <= v17) && decide (v17 <= (s_2.length : Int)) && (decide (0 <= mI) && decide (mI <= v17)))) (
       let v18 : List UInt8 := (s_2.take v17.toNat).drop mI.toNat
       chk (Nat.ble ((lQ.length + ([v18] : List (List UInt8)).length) * 16) room) (
        let v19 : Int := IntKind.wrap .i64 (mI + 1)
        g0 (s_2, VY, v19, lQ ++ [v18], ()))))))) (
   let v20 : Int := IntKind.wrap .i64 (mI + 1)
   chk ((decide (0 <= v20) && decide (v20 <= (s_2.length : Int)) && (decide (0 <= mI) && decide (mI <= v20)))) (
    let v21 : List UInt8 := (s_2.take v20.toNat).drop mI.toNat
    chk (Nat.ble ((lQ.length + ([v21] : List (List UInt8)).length) * 16) room) (
     let v22 : Int := IntKind.wrap .i64 (mI + 1)
     g0 (s_2, VY, v22, lQ ++ [v21], ()))))) (
  some lQ)
def AB (n : Nat) (x : List UInt8) : Option (List (List UInt8)) :=
 let s_0 : List UInt8 := x
 fix (sD n) n (s_0, (s_0.length : Int), 0, [], ())
def lF (n : Nat) (g2 : List UInt8 × Int × Int × List (Int) × List (List UInt8) × Unit -> Option (List UInt8)) (x35 : List UInt8 × Int × Int × List (Int) × List (List UInt8) × Unit) : Option (List UInt8) :=
 let CF : List UInt8 := x35.1
 let Dr : Int := x35.2.1
 let vZ : Int := x35.2.2.1
 let b39 : List (Int) := x35.2.2.2.1
 let x9 : List (List UInt8) := x35.2.2.2.2.1
 br (decide (vZ < Dr)) (
  chk ((inB vZ (x9.length) && decide (0 + (x9.length) <= x9.length))) (
   chk (decide (0 + vZ.toNat < x9.length)) (
    let v41 : List UInt8 := x9.getD (0 + vZ.toNat) (Ty.dflt .str)
    chk (inB 0 v41.length) (
     let v42 : Int := ((aG 0 v41 0).toNat : Int)
     ob (qp n (b39, v42)) fun y43 =>
     br y43 (
      br (v41 == [10]) (
       chk (decide (CF.length + ([92, 110] : List UInt8).length <= av)) (
        let v44 : Int := IntKind.wrap .i64 (vZ + 1)
        g2 (CF ++ [92, 110], Dr, v44, b39, x9, ()))) (
       chk (inB 0 v41.length) (
        let v45 : Int := ((aG 0 v41 0).toNat : Int)
        ob (qp n (b39, v45)) fun y46 =>
        br y46 (
         chk (decide (CF.length + v41.length <= av)) (
          let v47 : Int := IntKind.wrap .i64 (vZ + 1)
          g2 (CF ++ v41, Dr, v47, b39, x9, ()))) (
         let v48 : Int := IntKind.wrap .i64 (vZ + 1)
         g2 (CF, Dr, v48, b39, x9, ()))))) (
      chk (inB 0 v41.length) (
       let v49 : Int := ((aG 0 v41 0).toNat : Int)
       ob (qp n (b39, v49)) fun y50 =>
       br y50 (
        chk (decide (CF.length + v41.length <= av)) (
         let v51 : Int := IntKind.wrap .i64 (vZ + 1)
         g2 (CF ++ v41, Dr, v51, b39, x9, ()))) (
        let v52 : Int := IntKind.wrap .i64 (vZ + 1)
        g2 (CF, Dr, v52, b39, x9, ())))))))) (
  chk (decide (CF.length + ([93] : List UInt8).length <= av)) (
   some (CF ++ [93])))
def oF (n : Nat) (g1 : List UInt8 × List (List UInt8) × Int × Int × List (Int) × Unit -> Option (List UInt8)) (x22 : List UInt8 × List (List UInt8) × Int × Int × List (Int) × Unit) : Option (List UInt8) :=
 let Rt : List UInt8 := x22.1
 let LK : List (List UInt8) := x22.2.1
 let Ru : Int := x22.2.2.1
 let Gw : Int := x22.2.2.2.1
 let b27 : List (Int) := x22.2.2.2.2.1
 br (decide (Gw < Ru)) (
  chk (inB Gw LK.length) (
   let v28 : List UInt8 := aG (Ty.dflt .str) LK Gw
   br (decide ((v28.length : Int) > 2)) (
    chk ((decide (0 <= (1 : Int)) && decide ((1 : Int) <= (v28.length : Int)))) (
     chk (decide ((v28.take (1 : Int).toNat).length + ([45] : List UInt8).length <= av)) (
      let v29 : List UInt8 := (v28.take (1 : Int).toNat) ++ [45]
      let v30 : Int := IntKind.wrap .i64 ((v28.length : Int) - 1)
      chk ((decide (0 <= v30) && decide (v30 <= (v28.length : Int)))) (
       chk (decide (v29.length + (v28.drop v30.toNat).length <= av)) (
        let v31 : List UInt8 := v29 ++ (v28.drop v30.toNat)
        chk (decide (Rt.length + v31.length <= av)) (
         let v32 : Int := IntKind.wrap .i64 (Gw + 1)
         g1 (Rt ++ v31, LK, Ru, v32, b27, ()))))))) (
    chk (decide (Rt.length + v28.length <= av)) (
     let v33 : Int := IntKind.wrap .i64 (Gw + 1)
     g1 (Rt ++ v28, LK, Ru, v33, b27, ()))))) (
  let v34 : Int := (([[10], [91], [92], [94], [45]].length : Nat) : Int)
  fix (lF n) n (Rt, v34, 0, b27, [[10], [91], [92], [94], [45]], ()))
def oG (n : Nat) (g0 : List UInt8 × List (Int) × Int × Int × List (Int) × List (Int) × Unit -> Option (List UInt8)) (x10 : List UInt8 × List (Int) × Int × Int × List (Int) × List (Int) × Unit) : Option (List UInt8) :=
 let Y2 : List UInt8 := x10.1
 let LM : List (Int) := x10.2.1
 let Rv : Int := x10.2.2.1
 let Gx : Int := x10.2.2.2.1
 let b15 : List (Int) := x10.2.2.2.2.1
 let Cb : List (Int) := x10.2.2.2.2.2.1
 br (decide (Gx < Rv)) (
  chk (inB Gx LM.length) (
   let v17 : Int := aG (Ty.dflt (.int .u8)) LM Gx
   ob (strings_IndexByte n ([93, 91, 92, 94, 45, 10], v17)) fun y18 =>
   br (decide (y18 < 0)) (
    chk (Nat.ble ((Cb.length + ([v17] : List (Int)).length) * 1) room) (
     let v19 : Int := IntKind.wrap .i64 (Gx + 1)
     g0 (Y2, LM, Rv, v19, b15, Cb ++ [v17], ()))) (
    let v20 : Int := IntKind.wrap .i64 (Gx + 1)
    g0 (Y2, LM, Rv, v20, b15, Cb, ())))) (
  ob (AB n (dQ Cb)) fun y21 =>
  fix (oF n) n (Y2, y21, (y21.length : Int), 0, b15, ()))
def lG (n : Nat) (x5 : List UInt8 × List UInt8 × List (Int) × Unit) : Option (List UInt8) :=
 let l_6 : List UInt8 := x5.1
 let b_7 : List UInt8 := x5.2.1
 let b8 : List (Int) := x5.2.2.1
 chk (Nat.ble l_6.length room) (
  let v9 : Int := ((aY l_6).length : Int)
  fix (oG n) n (b_7, aY l_6, v9, 0, b8, [], ()))
def AJ (n : Nat) (x : List (Int)) : Option (List UInt8) :=
 let s_0 : List (Int) := x
 ob (rz n s_0) fun y1 =>
 br ((y1.length : Int) == 0) (
  some []) (
  br ((y1.length : Int) == 1) (
   chk (inB 0 y1.length) (
    let v2 : Int := ((aG 0 y1 0).toNat : Int)
    ob (AA n v2) fun y3 =>
    some y3)) (
   br ((y1.length : Int) == 256) (
    some [46]) (
    br (y1 == [45, 94]) (
     some [91, 45, 94, 93]) (
     ob (qp n (s_0, 93)) fun y4 =>
     br y4 (
      chk (decide ([91].length + ([93] : List UInt8).length <= av)) (
       jn (lG n) (y1, [91] ++ [93], s_0, ()))) (
      jn (lG n) (y1, [91], s_0, ()))))))
def yJ (n : Nat) (x : Int × List (Int) × Int × Int × Int × Int × Int × Unit) : Option (List UInt8) :=
 let n_0 : Int × List (Int) × Int × Int × Int × Int × Int × Unit := x
 ob (strconv_Itoa n n_0.2.2.2.2.1) fun y1 =>
 ob (strconv_Itoa n n_0.2.2.2.2.2.1) fun y2 =>
 br (n_0.2.2.2.2.2.1 == (-1)) (
  br (n_0.2.2.2.2.1 == 0) (
   some [42]) (
   br (n_0.2.2.2.2.2.1 == (-1)) (
    chk (decide ([92, 123].length + y1.length <= av)) (
     chk (decide (([92, 123] ++ y1).length + ([44, 92, 125] : List UInt8).length <= av)) (
      let v3 : List UInt8 := ([92, 123] ++ y1) ++ [44, 92, 125]
      some v3))) (
    br (n_0.2.2.2.2.2.1 == n_0.2.2.2.2.1) (
     chk (decide ([92, 123].length + y1.length <= av)) (
      chk (decide (([92, 123] ++ y1).length + ([92, 125] : List UInt8).length <= av)) (
       let v4 : List UInt8 := ([92, 123] ++ y1) ++ [92, 125]
       some v4))) (
     chk (decide ([92, 123].length + y1.length <= av)) (
      chk (decide (([92, 123] ++ y1).length + ([44] : List UInt8).length <= av)) (
       let v5 : List UInt8 := ([92, 123] ++ y1) ++ [44]
       chk (decide (v5.length + y2.length <= av)) (
        chk (decide ((v5 ++ y2).length + ([92, 125] : List UInt8).length <= av)) (
         some ((v5 ++ y2) ++ [92, 125]))))))))) (
  br (n_0.2.2.2.2.2.1 == (-1)) (
   chk (decide ([92, 123].length + y1.length <= av)) (
    chk (decide (([92, 123] ++ y1).length + ([44, 92, 125] : List UInt8).length <= av)) (
     let v6 : List UInt8 := ([92, 123] ++ y1) ++ [44, 92, 125]
     some v6))) (
   br (n_0.2.2.2.2.2.1 == n_0.2.2.2.2.1) (
    chk (decide ([92, 123].length + y1.length <= av)) (
     chk (decide (([92, 123] ++ y1).length + ([92, 125] : List UInt8).length <= av)) (
      let v7 : List UInt8 := ([92, 123] ++ y1) ++ [92, 125]
      some v7))) (
    chk (decide ([92, 123].length + y1.length <= av)) (
     chk (decide (([92, 123] ++ y1).length + ([44] : List UInt8).length <= av)) (
      let v8 : List UInt8 := ([92, 123] ++ y1) ++ [44]
      chk (decide (v8.length + y2.length <= av)) (
       chk (decide ((v8 ++ y2).length + ([92, 125] : List UInt8).length <= av)) (
        some ((v8 ++ y2) ++ [92, 125]))))))))
def uN (n : Nat) (g0 : List (NdT) × Int × Int × List (List UInt8) × Unit -> Option (List UInt8)) (g1 : Int × List UInt8 × List (NdT) × Int × Int × List (Int) × Int × Int × List (List UInt8) × Unit -> Option (List UInt8)) (x16 : Int × List UInt8 × List (NdT) × Int × Int × List (Int) × Int × Int × List (List UInt8) × Unit) : Option (List UInt8) :=
 let Nw : Int := x16.1
 let Rw : List UInt8 := x16.2.1
 let Xw : List (NdT) := x16.2.2.1
 let Xx : Int := x16.2.2.2.1
 let Xy : Int := x16.2.2.2.2.1
 let Rx : List (Int) := x16.2.2.2.2.2.1
 let Xz : Int := x16.2.2.2.2.2.2.1
 let LP : Int := x16.2.2.2.2.2.2.2.1
 let Qt : List (List UInt8) := x16.2.2.2.2.2.2.2.2.1
 br (decide (LP < Xz)) (
  chk (inB LP Rx.length) (
   let v26 : Int := aG (Ty.dflt (.int .u8)) Rx LP
   chk ((!decide (16 = 0))) (
    let v27 : Int := IntKind.wrap .u64 (Int.tdiv (IntKind.wrap .u64 v26) 16)
    ob (iN n (v27, 16)) fun y28 =>
    chk ((!decide (16 = 0))) (
     let v29 : Int := Int.tmod (IntKind.wrap .u64 v26) 16
     ob (iN n (v29, 16)) fun y30 =>
     chk (decide (y28.length + y30.length <= av)) (
      chk (decide (Rw.length + (y28 ++ y30).length <= av)) (
       let v31 : Int := IntKind.wrap .i64 (LP + 1)
       g1 (Nw, Rw ++ (y28 ++ y30), Xw, Xx, Xy, Rx, Xz, v31, Qt, ()))))))) (
  chk (decide (Rw.length + ([93] : List UInt8).length <= av)) (
   chk ((decide (0 <= Nw) && decide (Nw <= (Qt.length : Int)))) (
    chk ((Nat.ble (Nw.toNat) Qt.length && Nat.ble (((Nw.toNat) + ([Rw ++ [93]] : List (List UInt8)).length) * 16) room)) (
     let r32 : List (List UInt8) := Qt.take (Nw.toNat) ++ [Rw ++ [93]]
     let v33 : Int := IntKind.wrap .i64 (Xy + 1)
     g0 (Xw, Xx, v33, r32, ())))))
def fV (n : Nat) (g0 : List (NdT) × Int × Int × List (List UInt8) × Unit -> Option (List UInt8)) (x2 : List (NdT) × Int × Int × List (List UInt8) × Unit) : Option (List UInt8) :=
 let uO : List (NdT) := x2.1
 let wh : Int := x2.2.1
 let sF : Int := x2.2.2.1
 let aP : List (List UInt8) := x2.2.2.2.1
 br (decide (sF < wh)) (
  chk (inB sF uO.length) (
   let v7 : Int × List (Int) × Int × Int × Int × Int × Int × Unit := aG (Ty.dflt ak) uO sF
   let v8 : Int := ((aP.length : Nat) : Int)
   ob (gQ n v7) fun y9 =>
   let v10 : Int := IntKind.wrap .i64 (v8 - y9)
   chk ((decide (0 <= v10) && decide (v10 <= (aP.length : Int)))) (
    chk ((Nat.ble ((0 + (v10.toNat)) + ((aP.length) - (v10.toNat))) aP.length && true)) (
     ob (strings_Join n ((aP.drop (0 + (v10.toNat))).take ((aP.length) - (v10.toNat)), [])) fun y11 =>
     br (v7.1 == 0) (
      chk ((decide (0 <= v10) && decide (v10 <= (aP.length : Int)))) (
       chk ((Nat.ble (v10.toNat) aP.length && Nat.ble (((v10.toNat) + ([[101]] : List (List UInt8)).length) * 16) room)) (
        let r12 : List (List UInt8) := aP.take (v10.toNat) ++ [[101]]
        let v13 : Int := IntKind.wrap .i64 (sF + 1)
        g0 (uO, wh, v13, r12, ())))) (
      br (v7.1 == 1) (
       ob (rz n v7.2.1) fun y14 =>
       chk (Nat.ble y14.length room) (
        let v15 : Int := ((aY y14).length : Int)
        fix (uN n g0) n (v10, [91], uO, wh, sF, aY y14, v15, 0, aP, ()))) (
       br (v7.1 == 2) (
        chk ((decide (0 <= v10) && decide (v10 <= (aP.length : Int)))) (
         chk ((Nat.ble (v10.toNat) aP.length && Nat.ble (((v10.toNat) + ([[94]] : List (List UInt8)).length) * 16) room)) (
          let r34 : List (List UInt8) := aP.take (v10.toNat) ++ [[94]]
          let v35 : Int := IntKind.wrap .i64 (sF + 1)
          g0 (uO, wh, v35, r34, ())))) (
        br (v7.1 == 3) (
         chk ((decide (0 <= v10) && decide (v10 <= (aP.length : Int)))) (
          chk ((Nat.ble (v10.toNat) aP.length && Nat.ble (((v10.toNat) + ([[36]] : List (List UInt8)).length) * 16) room)) (
           let r36 : List (List UInt8) := aP.take (v10.toNat) ++ [[36]]
           let v37 : Int := IntKind.wrap .i64 (sF + 1)
           g0 (uO, wh, v37, r36, ())))) (
         br (v7.1 == 4) (
          chk (decide ([38].length + y11.length <= av)) (
           chk ((decide (0 <= v10) && decide (v10 <= (aP.length : Int)))) (
            chk ((Nat.ble (v10.toNat) aP.length && Nat.ble (((v10.toNat) + ([[38] ++ y11] : List (List UInt8)).length) * 16) room)) (
             let r38 : List (List UInt8) := aP.take (v10.toNat) ++ [[38] ++ y11]
             let v39 : Int := IntKind.wrap .i64 (sF + 1)
             g0 (uO, wh, v39, r38, ()))))) (
          br (v7.1 == 5) (
           chk (decide ([124].length + y11.length <= av)) (
            chk ((decide (0 <= v10) && decide (v10 <= (aP.length : Int)))) (
             chk ((Nat.ble (v10.toNat) aP.length && Nat.ble (((v10.toNat) + ([[124] ++ y11] : List (List UInt8)).length) * 16) room)) (
              let r40 : List (List UInt8) := aP.take (v10.toNat) ++ [[124] ++ y11]
              let v41 : Int := IntKind.wrap .i64 (sF + 1)
              g0 (uO, wh, v41, r40, ()))))) (
           br (v7.1 == 6) (
            ob (strconv_Itoa n v7.2.2.2.2.1) fun y42 =>
            chk (decide ([42].length + y42.length <= av)) (
             chk (decide (([42] ++ y42).length + ([44] : List UInt8).length <= av)) (
              ob (strconv_Itoa n v7.2.2.2.2.2.1) fun y43 =>
              chk (decide ((([42] ++ y42) ++ [44]).length + y43.length <= av)) (
               let v44 : List UInt8 := (([42] ++ y42) ++ [44]) ++ y43
               chk (decide (v44.length + ([59] : List UInt8).length <= av)) (
                chk (decide ((v44 ++ [59]).length + y11.length <= av)) (
                 chk ((decide (0 <= v10) && decide (v10 <= (aP.length : Int)))) (
                  chk ((Nat.ble (v10.toNat) aP.length && Nat.ble (((v10.toNat) + ([(v44 ++ [59]) ++ y11] : List (List UInt8)).length) * 16) room)) (
                   let r45 : List (List UInt8) := aP.take (v10.toNat) ++ [(v44 ++ [59]) ++ y11]
                   let v46 : Int := IntKind.wrap .i64 (sF + 1)
                   g0 (uO, wh, v46, r45, ()))))))))) (
            br (v7.1 == 7) (
             chk (decide ([40].length + y11.length <= av)) (
              chk (decide (([40] ++ y11).length + ([41] : List UInt8).length <= av)) (
               chk ((decide (0 <= v10) && decide (v10 <= (aP.length : Int)))) (
                chk ((Nat.ble (v10.toNat) aP.length && Nat.ble (((v10.toNat) + ([([40] ++ y11) ++ [41]] : List (List UInt8)).length) * 16) room)) (
                 let r47 : List (List UInt8) := aP.take (v10.toNat) ++ [([40] ++ y11) ++ [41]]
                 let v48 : Int := IntKind.wrap .i64 (sF + 1)
                 g0 (uO, wh, v48, r47, ())))))) (
             br (v7.1 == 8) (
              ob (strconv_Itoa n v7.2.2.2.2.2.2.1) fun y49 =>
              chk (decide ([92].length + y49.length <= av)) (
               chk ((decide (0 <= v10) && decide (v10 <= (aP.length : Int)))) (
                chk ((Nat.ble (v10.toNat) aP.length && Nat.ble (((v10.toNat) + ([[92] ++ y49] : List (List UInt8)).length) * 16) room)) (
                 let r50 : List (List UInt8) := aP.take (v10.toNat) ++ [[92] ++ y49]
                 let v51 : Int := IntKind.wrap .i64 (sF + 1)
                 g0 (uO, wh, v51, r50, ()))))) (
              chk ((decide (0 <= v10) && decide (v10 <= (aP.length : Int)))) (
               chk ((Nat.ble (v10.toNat) aP.length && Nat.ble (((v10.toNat) + ([[]] : List (List UInt8)).length) * 16) room)) (
                let r52 : List (List UInt8) := aP.take (v10.toNat) ++ [[]]
                let v53 : Int := IntKind.wrap .i64 (sF + 1)
                g0 (uO, wh, v53, r52, ())))))))))))))))) (
  chk ((inB 0 (aP.length) && decide (0 + (aP.length) <= aP.length))) (
   chk (decide (0 + (0 : Int).toNat < aP.length)) (
    let v54 : List UInt8 := aP.getD (0 + (0 : Int).toNat) (Ty.dflt .str)
    some v54)))
def Ag (n : Nat) (x : List (NdT)) : Option (List UInt8) :=
 let l_0 : List (NdT) := x
 ob (vY n l_0) fun y1 =>
 br (!y1) (
  some []) (
  fix (fV n) n (l_0, (l_0.length : Int), 0, [], ()))
def cO (n : Nat) (g0 : List (NdT) × List (NdT) × Int × Int × List (List UInt8) × Unit -> Option (List UInt8 × Int)) (x3 : List (NdT) × List (NdT) × Int × Int × List (List UInt8) × Unit) : Option (List UInt8 × Int) :=
 let l_4 : List (NdT) := x3.1
 let wm : List (NdT) := x3.2.1
 let yc : Int := x3.2.2.1
 let eD : Int := x3.2.2.2.1
 let bR : List (List UInt8) := x3.2.2.2.2.1
 br (decide (eD < yc)) (
  chk (inB eD wm.length) (
   let v9 : Int × List (Int) × Int × Int × Int × Int × Int × Unit := aG (Ty.dflt ak) wm eD
   br (v9.1 == 1) (
    ob (AJ n v9.2.1) fun y10 =>
    chk ((inB eD (bR.length) && decide (0 + (bR.length) <= bR.length))) (
     chk (decide (0 + eD.toNat < bR.length)) (
      let r11 : List (List UInt8) := bR.set (0 + eD.toNat) y10
      let v12 : Int := IntKind.wrap .i64 (eD + 1)
      g0 (l_4, wm, yc, v12, r11, ())))) (
    br (v9.1 == 2) (
     chk ((inB eD (bR.length) && decide (0 + (bR.length) <= bR.length))) (
      chk (decide (0 + eD.toNat < bR.length)) (
       let r13 : List (List UInt8) := bR.set (0 + eD.toNat) [94]
       let v14 : Int := IntKind.wrap .i64 (eD + 1)
       g0 (l_4, wm, yc, v14, r13, ())))) (
     br (v9.1 == 3) (
      chk ((inB eD (bR.length) && decide (0 + (bR.length) <= bR.length))) (
       chk (decide (0 + eD.toNat < bR.length)) (
        let r15 : List (List UInt8) := bR.set (0 + eD.toNat) [36]
        let v16 : Int := IntKind.wrap .i64 (eD + 1)
        g0 (l_4, wm, yc, v16, r15, ())))) (
      br (v9.1 == 4) (
       chk ((inB v9.2.2.1 (bR.length) && decide (0 + (bR.length) <= bR.length))) (
        chk (decide (0 + v9.2.2.1.toNat < bR.length)) (
         let v17 : List UInt8 := bR.getD (0 + v9.2.2.1.toNat) (Ty.dflt .str)
         chk ((inB v9.2.2.2.1 (bR.length) && decide (0 + (bR.length) <= bR.length))) (
          chk (decide (0 + v9.2.2.2.1.toNat < bR.length)) (
           let v18 : List UInt8 := bR.getD (0 + v9.2.2.2.1.toNat) (Ty.dflt .str)
           chk (decide (v17.length + v18.length <= av)) (
            chk ((inB eD (bR.length) && decide (0 + (bR.length) <= bR.length))) (
             chk (decide (0 + eD.toNat < bR.length)) (
              let r19 : List (List UInt8) := bR.set (0 + eD.toNat) (v17 ++ v18)
              let v20 : Int := IntKind.wrap .i64 (eD + 1)
              g0 (l_4, wm, yc, v20, r19, ()))))))))) (
       br (v9.1 == 5) (
        chk ((inB eD (bR.length) && decide (0 + (bR.length) <= bR.length))) (
         chk (decide (0 + eD.toNat < bR.length)) (
          let r21 : List (List UInt8) := bR.set (0 + eD.toNat) [124]
          let v22 : Int := IntKind.wrap .i64 (eD + 1)
          g0 (l_4, wm, yc, v22, r21, ())))) (
        br (v9.1 == 6) (
         chk ((inB v9.2.2.1 (bR.length) && decide (0 + (bR.length) <= bR.length))) (
          chk (decide (0 + v9.2.2.1.toNat < bR.length)) (
           let v23 : List UInt8 := bR.getD (0 + v9.2.2.1.toNat) (Ty.dflt .str)
           ob (yJ n v9) fun y24 =>
           chk (decide (v23.length + y24.length <= av)) (
            chk ((inB eD (bR.length) && decide (0 + (bR.length) <= bR.length))) (
             chk (decide (0 + eD.toNat < bR.length)) (
              let r25 : List (List UInt8) := bR.set (0 + eD.toNat) (v23 ++ y24)
              let v26 : Int := IntKind.wrap .i64 (eD + 1)
              g0 (l_4, wm, yc, v26, r25, ()))))))) (
         br (v9.1 == 7) (
          chk ((inB v9.2.2.1 (bR.length) && decide (0 + (bR.length) <= bR.length))) (
           chk (decide (0 + v9.2.2.1.toNat < bR.length)) (
            let v27 : List UInt8 := bR.getD (0 + v9.2.2.1.toNat) (Ty.dflt .str)
            chk (decide ([92, 40].length + v27.length <= av)) (
             chk (decide (([92, 40] ++ v27).length + ([92, 41] : List UInt8).length <= av)) (
              let v28 : List UInt8 := ([92, 40] ++ v27) ++ [92, 41]
              chk ((inB eD (bR.length) && decide (0 + (bR.length) <= bR.length))) (
               chk (decide (0 + eD.toNat < bR.length)) (
                let r29 : List (List UInt8) := bR.set (0 + eD.toNat) v28
                let v30 : Int := IntKind.wrap .i64 (eD + 1)
                g0 (l_4, wm, yc, v30, r29, ())))))))) (
          br (v9.1 == 8) (
           ob (strconv_Itoa n v9.2.2.2.2.2.2.1) fun y31 =>
           chk (decide ([92].length + y31.length <= av)) (
            chk ((inB eD (bR.length) && decide (0 + (bR.length) <= bR.length))) (
             chk (decide (0 + eD.toNat < bR.length)) (
              let r32 : List (List UInt8) := bR.set (0 + eD.toNat) ([92] ++ y31)
              let v33 : Int := IntKind.wrap .i64 (eD + 1)
              g0 (l_4, wm, yc, v33, r32, ()))))) (
           let v34 : Int := IntKind.wrap .i64 (eD + 1)
           g0 (l_4, wm, yc, v34, bR, ()))))))))))) (
  let v35 : Int := IntKind.wrap .i64 ((l_4.length : Int) - 1)
  chk ((inB v35 (bR.length) && decide (0 + (bR.length) <= bR.length))) (
   chk (decide (0 + v35.toNat < bR.length)) (
    let v36 : List UInt8 := bR.getD (0 + v35.toNat) (Ty.dflt .str)
    ob (oZ n v36) fun y37 =>
    br (y37.2.2 != 0) (
     some ([], 1)) (
     ob (Ag n y37.1) fun y38 =>
     ob (Ag n l_4) fun y39 =>
     br (!(y38 == y39)) (
      some ([], 1)) (
      some (v36, 0))))))
def o7 (n : Nat) (x : List (NdT)) : Option (List UInt8 × Int) :=
 let l_0 : List (NdT) := x
 ob (vY n l_0) fun y1 =>
 br (!y1) (
  some ([], 1)) (
  chk ((decide (0 <= (l_0.length : Int)) && (decide ((l_0.length : Int) = (l_0.length : Int)) && Nat.ble ((l_0.length : Int).toNat * 16) room))) (
   let r2 : List (List UInt8) := List.replicate (l_0.length : Int).toNat []
   fix (cO n) n (l_0, l_0, (l_0.length : Int), 0, r2, ())))
def Gy (n : Nat) (x : List (NdT)) : Option (Int) :=
 let l_0 : List (NdT) := x
 ob (qo n l_0) fun y1 =>
 some y1.1
def Ny (n : Nat) (x : List (NdT)) : Option (Bool) :=
 let l_0 : List (NdT) := x
 ob (qo n l_0) fun y1 =>
 some y1.2.1
def qw (n : Nat) (x : Unit) : Option (Bool) :=
 ob (oZ n [94, 97, 42, 92, 40, 98, 92, 41, 92, 49, 91, 120, 45, 122, 93, 36]) fun y1 =>
 ob (o7 n y1.1) fun y2 =>
 ob (oZ n [97, 92, 40, 98]) fun y3 =>
 br (y1.2.2 == 0) (
  br (y2.2 == 0) (
   br (y1.2.1 == 0) (
    br (y2.1 == [94, 97, 42, 92, 40, 98, 92, 41, 92, 49, 91, 120, 45, 122, 93, 36]) (
     ob (Gy n y1.1) fun y4 =>
     br (y4 == 1) (
      ob (Ny n y1.1) fun y5 =>
      br y5 (
       br (y3.2.1 == 1) (
        some (y3.2.2 == 41)) (
        some false)) (
       some false)) (
      some false)) (
     some false)) (
    some false)) (
   some false)) (
  some false)
def qO (n : Nat) (g0 : Int × List (Bool) × List (Bool) × Unit -> Option (List (Bool))) (x1 : Int × List (Bool) × List (Bool) × Unit) : Option (List (Bool)) :=
 let i_2 : Int := x1.1
 let b3 : List (Bool) := x1.2.1
 let b4 : List (Bool) := x1.2.2.1
 br (decide (i_2 < 256)) (
  chk (inB i_2 256) (
   chk (decide (i_2.toNat < 256)) (
    chk (inB i_2 256) (
     chk (decide (i_2.toNat < 256)) (
      let v5 : Int := IntKind.wrap .i64 (i_2 + 1)
      g0 (v5, b3.set (i_2.toNat) (!(b3.getD (i_2.toNat) (Ty.dflt .bool))), b4, ())))))) (
  some b3)
def yK (n : Nat) (x : List (Bool)) : Option (List (Bool)) :=
 let a_0 : List (Bool) := x
 fix (qO n) n (0, a_0, (List.replicate 256 false), ())
def oh (n : Nat) (g0 : Int × List (Bool) × List (Int) × Unit -> Option (List UInt8)) (x1 : Int × List (Bool) × List (Int) × Unit) : Option (List UInt8) :=
 let i_2 : Int := x1.1
 let b3 : List (Bool) := x1.2.1
 let Gz : List (Int) := x1.2.2.1
 br (decide (i_2 < 256)) (
  chk (inB i_2 256) (
   chk (decide (i_2.toNat < 256)) (
    br (b3.getD (i_2.toNat) (Ty.dflt .bool)) (
     chk (Nat.ble ((Gz.length + ([IntKind.wrap .u8 i_2] : List (Int)).length) * 1) room) (
      let r5 : List (Int) := Gz ++ [IntKind.wrap .u8 i_2]
      let v6 : Int := IntKind.wrap .i64 (i_2 + 1)
      g0 (v6, b3, r5, ()))) (
     let v7 : Int := IntKind.wrap .i64 (i_2 + 1)
     g0 (v7, b3, Gz, ()))))) (
  some (dQ Gz))
def jQ (n : Nat) (x : List (Bool)) : Option (List UInt8) :=
 let a_0 : List (Bool) := x
 fix (oh n) n (0, a_0, [], ())
def pI (n : Nat) (x : List (Bool)) : Option (Int) :=
 let a_0 : List (Bool) := x
 ob (jQ n a_0) fun y1 =>
 some (y1.length : Int)
def kK (n : Nat) (g0 : Int × Int × List (Bool) × List (Bool) × Unit -> Option (List (Bool))) (x1 : Int × Int × List (Bool) × List (Bool) × Unit) : Option (List (Bool)) :=
 let b_2 : Int := x1.1
 let i_3 : Int := x1.2.1
 let b4 : List (Bool) := x1.2.2.1
 let b5 : List (Bool) := x1.2.2.2.1
 br (decide (i_3 <= (IntKind.wrap .i64 b_2))) (
  chk (inB i_3 256) (
   chk (decide (i_3.toNat < 256)) (
    let v6 : Int := IntKind.wrap .i64 (i_3 + 1)
    g0 (b_2, v6, b4, b5.set (i_3.toNat) true, ())))) (
  some b5)
def bS (n : Nat) (x : Int × Int) : Option (List (Bool)) :=
 let a_0 : Int := x.1
 let b_1 : Int := x.2
 fix (kK n) n (b_1, IntKind.wrap .i64 a_0, (List.replicate 256 false), (List.replicate 256 false), ())
def sG (n : Nat) (g0 : Int × List (Bool) × List (Bool) × List (Bool) × Unit -> Option (List (Bool))) (x1 : Int × List (Bool) × List (Bool) × List (Bool) × Unit) : Option (List (Bool)) :=
 let i_2 : Int := x1.1
 let b3 : List (Bool) := x1.2.1
 let b4 : List (Bool) := x1.2.2.1
 let b5 : List (Bool) := x1.2.2.2.1
 br (decide (i_2 < 256)) (
  chk (inB i_2 256) (
   chk (decide (i_2.toNat < 256)) (
    br (b3.getD (i_2.toNat) (Ty.dflt .bool)) (
     chk (inB i_2 256) (
      chk (decide (i_2.toNat < 256)) (
       let v6 : Int := IntKind.wrap .i64 (i_2 + 1)
       g0 (v6, b3.set (i_2.toNat) true, b4, b5, ())))) (
     chk (inB i_2 256) (
      chk (decide (i_2.toNat < 256)) (
       chk (inB i_2 256) (
        chk (decide (i_2.toNat < 256)) (
         let v7 : Int := IntKind.wrap .i64 (i_2 + 1)
         g0 (v7, b3.set (i_2.toNat) (b4.getD (i_2.toNat) (Ty.dflt .bool)), b4, b5, ()))))))))) (
  some b3)
def iH (n : Nat) (x : List (Bool) × List (Bool)) : Option (List (Bool)) :=
 let a_0 : List (Bool) := x.1
 let b_1 : List (Bool) := x.2
 fix (sG n) n (0, a_0, b_1, (List.replicate 256 false), ())
def sH (n : Nat) (g0 : List UInt8 × Int × List (Bool) × List (Bool) × Unit -> Option (List (Bool))) (x1 : List UInt8 × Int × List (Bool) × List (Bool) × Unit) : Option (List (Bool)) :=
 let s_2 : List UInt8 := x1.1
 let i_3 : Int := x1.2.1
 let b4 : List (Bool) := x1.2.2.1
 let b5 : List (Bool) := x1.2.2.2.1
 br (decide (i_3 < (s_2.length : Int))) (
  chk (inB i_3 s_2.length) (
   let v6 : Int := ((aG 0 s_2 i_3).toNat : Int)
   chk (inB v6 256) (
    chk (decide (v6.toNat < 256)) (
     let v7 : Int := IntKind.wrap .i64 (i_3 + 1)
     g0 (s_2, v7, b4, b5.set (v6.toNat) true, ()))))) (
  some b5)
def iI (n : Nat) (x : List UInt8) : Option (List (Bool)) :=
 let s_0 : List UInt8 := x
 fix (sH n) n (s_0, 0, (List.replicate 256 false), (List.replicate 256 false), ())
def kL (n : Nat) (g0 : Int × List (Bool) × List (Bool) × List (Bool) × Unit -> Option (List (Bool) × Bool)) (x21 : Int × List (Bool) × List (Bool) × List (Bool) × Unit) : Option (List (Bool) × Bool) :=
 let rD : Int := x21.1
 let b23 : List (Bool) := x21.2.1
 let b24 : List (Bool) := x21.2.2.1
 let b25 : List (Bool) := x21.2.2.2.1
 br (decide (rD < 256)) (
  chk (inB rD 256) (
   chk (decide (rD.toNat < 256)) (
    br (b25.getD (rD.toNat) (Ty.dflt .bool)) (
     chk (inB rD 256) (
      chk (decide (rD.toNat < 256)) (
       chk (inB rD 256) (
        chk (decide (rD.toNat < 256)) (
         let v26 : Int := IntKind.wrap .i64 (rD + 1)
         g0 (v26, b23, b24, b25.set (rD.toNat) (!(b24.getD (rD.toNat) (Ty.dflt .bool))), ())))))) (
     chk (inB rD 256) (
      chk (decide (rD.toNat < 256)) (
       let v27 : Int := IntKind.wrap .i64 (rD + 1)
       g0 (v27, b23, b24, b25.set (rD.toNat) false, ()))))))) (
  some (b25, true))
def uf (n : Nat) (x : List UInt8) : Option (List (Bool) × Bool) :=
 let fU : List UInt8 := x
 ob (bS n (65, 90)) fun y1 =>
 ob (bS n (97, 122)) fun y2 =>
 ob (bS n (48, 57)) fun y3 =>
 ob (iH n (y1, y2)) fun y4 =>
 ob (iH n (y4, y3)) fun y5 =>
 br (fU == [117, 112, 112, 101, 114]) (
  some (y1, true)) (
  br (fU == [108, 111, 119, 101, 114]) (
   some (y2, true)) (
   br (fU == [97, 108, 112, 104, 97]) (
    ob (iH n (y1, y2)) fun y6 =>
    some (y6, true)) (
    br (fU == [100, 105, 103, 105, 116]) (
     some (y3, true)) (
     br (fU == [97, 108, 110, 117, 109]) (
      some (y5, true)) (
      br (fU == [120, 100, 105, 103, 105, 116]) (
       ob (bS n (65, 70)) fun y7 =>
       ob (bS n (97, 102)) fun y8 =>
       ob (iH n (y7, y8)) fun y9 =>
       ob (iH n (y3, y9)) fun y10 =>
       some (y10, true)) (
       br (fU == [98, 108, 97, 110, 107]) (
        ob (iI n [9, 32]) fun y11 =>
        some (y11, true)) (
        br (fU == [115, 112, 97, 99, 101]) (
         ob (bS n (9, 13)) fun y12 =>
         ob (iI n [32]) fun y13 =>
         ob (iH n (y12, y13)) fun y14 =>
         some (y14, true)) (
         br (fU == [99, 110, 116, 114, 108]) (
          ob (bS n (0, 31)) fun y15 =>
          ob (bS n (127, 127)) fun y16 =>
          ob (iH n (y15, y16)) fun y17 =>
          some (y17, true)) (
          br (fU == [103, 114, 97, 112, 104]) (
           ob (bS n (33, 126)) fun y18 =>
           some (y18, true)) (
           br (fU == [112, 114, 105, 110, 116]) (
            ob (bS n (32, 126)) fun y19 =>
            some (y19, true)) (
            br (fU == [112, 117, 110, 99, 116]) (
             ob (bS n (33, 126)) fun y20 =>
             fix (kL n) n (0, (List.replicate 256 false), y5, y20, ())) (
             some ((List.replicate 256 false), false)))))))))))))
def nu (n : Nat) (x41 : Bool × Bool × Int × Int × Unit) : Option (Int × Int × Bool) :=
 let Y3 : Bool := x41.1
 let zaQ : Bool := x41.2.1
 let Ry : Int := x41.2.2.1
 let zaR : Int := x41.2.2.2.1
 br (Ry == 45) (
  br (!Y3) (
   br (!zaQ) (
    br (zaR != 93) (
     some (0, 0, false)) (
     some (Ry, 1, true))) (
    some (Ry, 1, true))) (
   some (Ry, 1, true))) (
  some (Ry, 1, true))
def jS (n : Nat) (x36 : Bool × Bool × Int × Int × Unit) : Option (Int × Int × Bool) :=
 let xk : Bool := x36.1
 let UE : Bool := x36.2.1
 let Y4 : Int := x36.2.2.1
 let UF : Int := x36.2.2.2.1
 br (Y4 == 93) (
  br (!xk) (
   some (0, 0, false)) (
   jn (nu n) (xk, UE, Y4, UF, ()))) (
  jn (nu n) (xk, UE, Y4, UF, ()))
def jT (n : Nat) (x28 : List UInt8 × Int × Bool × Bool × Int × Int × Unit) : Option (Int × Int × Bool) :=
 let zdT : List UInt8 := x28.1
 let zdU : Int := x28.2.1
 let Ay : Bool := x28.2.2.1
 let Nz : Bool := x28.2.2.2.1
 let VZ : Int := x28.2.2.2.2.1
 let IV : Int := x28.2.2.2.2.2.1
 br (VZ == 92) (
  br (IV == 110) (
   let v35 : Int := IntKind.wrap .i64 (zdU + 1)
   br (decide (v35 < (zdT.length : Int))) (
    some (10, 2, true)) (
    jn (jS n) (Ay, Nz, VZ, IV, ()))) (
   jn (jS n) (Ay, Nz, VZ, IV, ()))) (
  jn (jS n) (Ay, Nz, VZ, IV, ()))
def dI (n : Nat) (x13 : List UInt8 × Int × Bool × Bool × Int × Int × Bool × Unit) : Option (Int × Int × Bool) :=
 let GA : List UInt8 := x13.1
 let Rz : Int := x13.2.1
 let Az : Bool := x13.2.2.1
 let zaS : Bool := x13.2.2.2.1
 let zdV : Int := x13.2.2.2.2.1
 let IW : Int := x13.2.2.2.2.2.1
 let zb4 : Bool := x13.2.2.2.2.2.2.1
 br zb4 (
  br (IW != 58) (
   let v21 : Int := IntKind.wrap .i64 (Rz + 4)
   br (decide (v21 < (GA.length : Int))) (
    let v22 : Int := IntKind.wrap .i64 (Rz + 3)
    chk (inB v22 GA.length) (
     let v23 : Int := ((aG 0 GA v22).toNat : Int)
     br (v23 == IW) (
      let v24 : Int := IntKind.wrap .i64 (Rz + 4)
      chk (inB v24 GA.length) (
       let v25 : Int := ((aG 0 GA v24).toNat : Int)
       br (v25 == 93) (
        let v26 : Int := IntKind.wrap .i64 (Rz + 2)
        chk (inB v26 GA.length) (
         let v27 : Int := ((aG 0 GA v26).toNat : Int)
         some (v27, 5, (IW == 46)))) (
        some (0, 0, false)))) (
      some (0, 0, false)))) (
    some (0, 0, false))) (
   some (0, 0, false))) (
  jn (jT n) (GA, Rz, Az, zaS, zdV, IW, ()))
def ny (n : Nat) (x5 : List UInt8 × Int × Bool × Bool × Int × Int × Unit) : Option (Int × Int × Bool) :=
 let s_6 : List UInt8 := x5.1
 let i_7 : Int := x5.2.1
 let Dt : Bool := x5.2.2.1
 let GD : Bool := x5.2.2.2.1
 let NA : Int := x5.2.2.2.2.1
 let vI : Int := x5.2.2.2.2.2.1
 br (NA == 91) (
  br (vI == 46) (
   let v12 : Int := IntKind.wrap .i64 (i_7 + 1)
   jn (dI n) (s_6, i_7, Dt, GD, NA, vI, (decide (v12 < (s_6.length : Int))), ())) (
   br (vI == 61) (
    let v46 : Int := IntKind.wrap .i64 (i_7 + 1)
    jn (dI n) (s_6, i_7, Dt, GD, NA, vI, (decide (v46 < (s_6.length : Int))), ())) (
    br (vI == 58) (
     let v47 : Int := IntKind.wrap .i64 (i_7 + 1)
     jn (dI n) (s_6, i_7, Dt, GD, NA, vI, (decide (v47 < (s_6.length : Int))), ())) (
     jn (dI n) (s_6, i_7, Dt, GD, NA, vI, false, ()))))) (
  jn (dI n) (s_6, i_7, Dt, GD, NA, vI, false, ()))
def lV (n : Nat) (x : List UInt8 × Int × Bool × Bool) : Option (Int × Int × Bool) :=
 let s_0 : List UInt8 := x.1
 let i_1 : Int := x.2.1
 let Du : Bool := x.2.2.1
 let XA : Bool := x.2.2.2
 br (decide (i_1 ≥ (s_0.length : Int))) (
  some (0, 0, false)) (
  chk (inB i_1 s_0.length) (
   let v1 : Int := ((aG 0 s_0 i_1).toNat : Int)
   let v2 : Int := IntKind.wrap .i64 (i_1 + 1)
   br (decide (v2 < (s_0.length : Int))) (
    let v3 : Int := IntKind.wrap .i64 (i_1 + 1)
    chk (inB v3 s_0.length) (
     let v4 : Int := ((aG 0 s_0 v3).toNat : Int)
     jn (ny n) (s_0, i_1, Du, XA, v1, v4, ()))) (
    jn (ny n) (s_0, i_1, Du, XA, v1, 0, ()))))
def mo (n : Nat) (x31 : Int × List (Bool) × List (Bool) × List (Bool) × Unit) : Option (List (Bool) × Int × Int) :=
 let zdW : Int := x31.1
 let b33 : List (Bool) := x31.2.1
 let b34 : List (Bool) := x31.2.2.1
 let b35 : List (Bool) := x31.2.2.2.1
 ob (pI n b35) fun y36 =>
 br (y36 == 0) (
  some (b34, 0, 42)) (
  some (b35, zdW, 0))
def qE (n : Nat) (x24 : Int × Bool × List (Bool) × List (Bool) × List (Bool) × Unit) : Option (List (Bool) × Int × Int) :=
 let zb5 : Int := x24.1
 let zb6 : Bool := x24.2.1
 let b27 : List (Bool) := x24.2.2.1
 let b28 : List (Bool) := x24.2.2.2.1
 let b29 : List (Bool) := x24.2.2.2.2.1
 br zb6 (
  ob (yK n b29) fun y30 =>
  jn (mo n) (zb5, b27, b28, y30, ())) (
  jn (mo n) (zb5, b27, b28, b29, ()))
def iB (n : Nat) (g0 : List UInt8 × Int × Bool × Bool × List (Bool) × List (Bool) × List (Bool) × Unit -> Option (List (Bool) × Int × Int)) (x70 : List UInt8 × Int × Bool × Int × List (Bool) × List (Bool) × List (Bool) × Unit) : Option (List (Bool) × Int × Int) :=
 let V3 : List UInt8 := x70.1
 let zdX : Int := x70.2.1
 let zb7 : Bool := x70.2.2.1
 let NC : Int := x70.2.2.2.1
 let b75 : List (Bool) := x70.2.2.2.2.1
 let b76 : List (Bool) := x70.2.2.2.2.2.1
 let b77 : List (Bool) := x70.2.2.2.2.2.2.1
 let v78 : Int := IntKind.wrap .i64 (NC + 1)
 br (decide (v78 ≥ (V3.length : Int))) (
  some (b76, 0, 42)) (
  let v79 : Int := IntKind.wrap .i64 (zdX + 2)
  chk ((decide (0 <= NC) && decide (NC <= (V3.length : Int)) && (decide (0 <= v79) && decide (v79 <= NC)))) (
   let v80 : List UInt8 := (V3.take NC.toNat).drop v79.toNat
   ob (uf n v80) fun y81 =>
   br (!y81.2) (
    some (b76, 0, 42)) (
    ob (iH n (b77, y81.1)) fun y82 =>
    let v83 : Int := IntKind.wrap .i64 (NC + 2)
    g0 (V3, v83, zb7, false, b75, b76, y82, ()))))
def mq (n : Nat) (g0 : List UInt8 × Int × Bool × Bool × List (Bool) × List (Bool) × List (Bool) × Unit -> Option (List (Bool) × Int × Int)) (g1 : List UInt8 × Int × Bool × Int × List (Bool) × List (Bool) × List (Bool) × Unit -> Option (List (Bool) × Int × Int)) (x58 : List UInt8 × Int × Bool × Int × List (Bool) × List (Bool) × List (Bool) × Unit) : Option (List (Bool) × Int × Int) :=
 let ND : List UInt8 := x58.1
 let Y5 : Int := x58.2.1
 let RA : Bool := x58.2.2.1
 let GH : Int := x58.2.2.2.1
 let b63 : List (Bool) := x58.2.2.2.2.1
 let b64 : List (Bool) := x58.2.2.2.2.2.1
 let b65 : List (Bool) := x58.2.2.2.2.2.2.1
 let v66 : Int := IntKind.wrap .i64 (GH + 1)
 br (decide (v66 < (ND.length : Int))) (
  let v67 : Int := IntKind.wrap .i64 (GH + 2)
  chk ((decide (0 <= v67) && decide (v67 <= (ND.length : Int)) && (decide (0 <= GH) && decide (GH <= v67)))) (
   let v68 : List UInt8 := (ND.take v67.toNat).drop GH.toNat
   br (!(v68 == [58, 93])) (
    let v69 : Int := IntKind.wrap .i64 (GH + 1)
    g1 (ND, Y5, RA, v69, b63, b64, b65, ())) (
    jn (iB n g0) (ND, Y5, RA, GH, b63, b64, b65, ())))) (
  jn (iB n g0) (ND, Y5, RA, GH, b63, b64, b65, ()))
def dY (n : Nat) (g0 : List UInt8 × Int × Bool × Bool × List (Bool) × List (Bool) × List (Bool) × Unit -> Option (List (Bool) × Int × Int)) (x98 : List UInt8 × Int × Bool × Int × Bool × Int × Bool × List (Bool) × List (Bool) × List (Bool) × Unit) : Option (List (Bool) × Int × Int) :=
 let Y6 : List UInt8 := x98.1
 let V4 : Int := x98.2.1
 let UG : Bool := x98.2.2.1
 let V5 : Int := x98.2.2.2.1
 let zaT : Bool := x98.2.2.2.2.1
 let zc4 : Int := x98.2.2.2.2.2.1
 let Y7 : Bool := x98.2.2.2.2.2.2.1
 let zb8 : List (Bool) := x98.2.2.2.2.2.2.2.1
 let NG : List (Bool) := x98.2.2.2.2.2.2.2.2.1
 let zb9 : List (Bool) := x98.2.2.2.2.2.2.2.2.2.1
 br Y7 (
  let v109 : Int := IntKind.wrap .i64 (V4 + 1)
  ob (lV n (Y6, v109, false, true)) fun RB =>
  br (RB.2.1 == 0) (
   some (NG, 0, 42)) (
   br (!RB.2.2) (
    some (NG, 0, 42)) (
    br (!zaT) (
     some (NG, 0, 42)) (
     br (decide (RB.1 < V5)) (
      some (NG, 0, 42)) (
      let zdY : Int := IntKind.wrap .i64 (1 + RB.2.1)
      let zdZ : Int := IntKind.wrap .i64 (V4 + zdY)
      ob (bS n (V5, RB.1)) fun y113 =>
      ob (iH n (zb9, y113)) fun y114 =>
      g0 (Y6, zdZ, UG, false, zb8, NG, y114, ())))))) (
  ob (bS n (V5, zc4)) fun y115 =>
  ob (iH n (zb9, y115)) fun zd0 =>
  g0 (Y6, V4, UG, false, zb8, NG, zd0, ()))
def qF (n : Nat) (g0 : List UInt8 × Int × Bool × Bool × List (Bool) × List (Bool) × List (Bool) × Unit -> Option (List (Bool) × Int × Int)) (x84 : List UInt8 × Int × Bool × Bool × List (Bool) × List (Bool) × List (Bool) × Unit) : Option (List (Bool) × Int × Int) :=
 let Es : List UInt8 := x84.1
 let zca : Int := x84.2.1
 let RD : Bool := x84.2.2.1
 let Y8 : Bool := x84.2.2.2.1
 let b89 : List (Bool) := x84.2.2.2.2.1
 let b90 : List (Bool) := x84.2.2.2.2.2.1
 let b91 : List (Bool) := x84.2.2.2.2.2.2.1
 ob (lV n (Es, zca, Y8, false)) fun y92 =>
 br (y92.2.1 == 0) (
  some (b90, 0, 42)) (
  let v93 : Int := IntKind.wrap .i64 (zca + y92.2.1)
  let v94 : Int := IntKind.wrap .i64 (v93 + 1)
  br (decide (v94 < (Es.length : Int))) (
   chk (inB v93 Es.length) (
    let v95 : Int := ((aG 0 Es v93).toNat : Int)
    br (v95 == 45) (
     let v96 : Int := IntKind.wrap .i64 (v93 + 1)
     chk (inB v96 Es.length) (
      let v97 : Int := ((aG 0 Es v96).toNat : Int)
      jn (dY n g0) (Es, v93, RD, y92.1, y92.2.2, y92.1, (v97 != 93), b89, b90, b91, ()))) (
     jn (dY n g0) (Es, v93, RD, y92.1, y92.2.2, y92.1, false, b89, b90, b91, ())))) (
   jn (dY n g0) (Es, v93, RD, y92.1, y92.2.2, y92.1, false, b89, b90, b91, ())))
def mD (n : Nat) (g0 : List UInt8 × Int × Bool × Bool × List (Bool) × List (Bool) × List (Bool) × Unit -> Option (List (Bool) × Int × Int)) (x48 : List UInt8 × Int × Bool × Bool × Bool × List (Bool) × List (Bool) × List (Bool) × Unit) : Option (List (Bool) × Int × Int) :=
 let zcb : List UInt8 := x48.1
 let Y9 : Int := x48.2.1
 let XB : Bool := x48.2.2.1
 let Za : Bool := x48.2.2.2.1
 let zcc : Bool := x48.2.2.2.2.1
 let b54 : List (Bool) := x48.2.2.2.2.2.1
 let b55 : List (Bool) := x48.2.2.2.2.2.2.1
 let b56 : List (Bool) := x48.2.2.2.2.2.2.2.1
 br zcc (
  let v57 : Int := IntKind.wrap .i64 (Y9 + 2)
  fix (mq n g0) n (zcb, Y9, XB, v57, b54, b55, b56, ())) (
  jn (qF n g0) (zcb, Y9, XB, Za, b54, b55, b56, ()))
def gu (n : Nat) (g0 : List UInt8 × Int × Bool × Bool × List (Bool) × List (Bool) × List (Bool) × Unit -> Option (List (Bool) × Int × Int)) (x37 : List UInt8 × Int × Bool × Bool × List (Bool) × List (Bool) × List (Bool) × Unit) : Option (List (Bool) × Int × Int) :=
 let RF : List UInt8 := x37.1
 let Ki : Int := x37.2.1
 let XC : Bool := x37.2.2.1
 let RG : Bool := x37.2.2.2.1
 let b42 : List (Bool) := x37.2.2.2.2.1
 let b43 : List (Bool) := x37.2.2.2.2.2.1
 let b44 : List (Bool) := x37.2.2.2.2.2.2.1
 let v45 : Int := IntKind.wrap .i64 (Ki + 1)
 br (decide (v45 < (RF.length : Int))) (
  let v46 : Int := IntKind.wrap .i64 (Ki + 2)
  chk ((decide (0 <= v46) && decide (v46 <= (RF.length : Int)) && (decide (0 <= Ki) && decide (Ki <= v46)))) (
   let v47 : List UInt8 := (RF.take v46.toNat).drop Ki.toNat
   jn (mD n g0) (RF, Ki, XC, RG, (v47 == [91, 58]), b42, b43, b44, ()))) (
  jn (mD n g0) (RF, Ki, XC, RG, false, b42, b43, b44, ()))
def mE (n : Nat) (g0 : List UInt8 × Int × Bool × Bool × List (Bool) × List (Bool) × List (Bool) × Unit -> Option (List (Bool) × Int × Int)) (x14 : List UInt8 × Int × Bool × Bool × List (Bool) × List (Bool) × List (Bool) × Unit) : Option (List (Bool) × Int × Int) :=
 let NH : List UInt8 := x14.1
 let Kj : Int := x14.2.1
 let LQ : Bool := x14.2.2.1
 let Et : Bool := x14.2.2.2.1
 let b19 : List (Bool) := x14.2.2.2.2.1
 let b20 : List (Bool) := x14.2.2.2.2.2.1
 let b21 : List (Bool) := x14.2.2.2.2.2.2.1
 br (decide (Kj < (NH.length : Int))) (
  chk (inB Kj NH.length) (
   let v22 : Int := ((aG 0 NH Kj).toNat : Int)
   br (v22 == 93) (
    br (!Et) (
     let v23 : Int := IntKind.wrap .i64 (Kj + 1)
     jn (qE n) (v23, LQ, b19, b20, b21, ())) (
     jn (gu n g0) (NH, Kj, LQ, Et, b19, b20, b21, ()))) (
    jn (gu n g0) (NH, Kj, LQ, Et, b19, b20, b21, ())))) (
  jn (gu n g0) (NH, Kj, LQ, Et, b19, b20, b21, ()))
def jE (n : Nat) (x8 : List UInt8 × Int × Bool × List (Bool) × List (Bool) × Unit) : Option (List (Bool) × Int × Int) :=
 let s_9 : List UInt8 := x8.1
 let zd1 : Int := x8.2.1
 let zcd : Bool := x8.2.2.1
 let b12 : List (Bool) := x8.2.2.2.1
 let b13 : List (Bool) := x8.2.2.2.2.1
 fix (mE n) n (s_9, zd1, zcd, true, b12, b13, (List.replicate 256 false), ())
def wP (n : Nat) (x2 : List UInt8 × List (Bool) × List (Bool) × Unit) : Option (List (Bool) × Int × Int) :=
 let s_3 : List UInt8 := x2.1
 let b4 : List (Bool) := x2.2.1
 let b5 : List (Bool) := x2.2.2.1
 br (decide ((1 : Int) < (s_3.length : Int))) (
  chk (inB 1 s_3.length) (
   let v6 : Int := ((aG 0 s_3 1).toNat : Int)
   br (v6 == 94) (
    let v7 : Int := IntKind.wrap .i64 (1 + 1)
    jn (jE n) (s_3, v7, true, b4, b5, ())) (
    jn (jE n) (s_3, 1, false, b4, b5, ())))) (
  jn (jE n) (s_3, 1, false, b4, b5, ()))
def qd (n : Nat) (x : List UInt8) : Option (List (Bool) × Int × Int) :=
 let s_0 : List UInt8 := x
 br ((s_0.length : Int) == 0) (
  some ((List.replicate 256 false), 0, 42)) (
  chk (inB 0 s_0.length) (
   let v1 : Int := ((aG 0 s_0 0).toNat : Int)
   br (v1 != 91) (
    some ((List.replicate 256 false), 0, 42)) (
    jn (wP n) (s_0, (List.replicate 256 false), (List.replicate 256 false), ()))))
def oo (n : Nat) (g0 : Int × List (Bool) × List (Int) × List (Int) × Unit -> Option (List (Int))) (x1 : Int × List (Bool) × List (Int) × List (Int) × Unit) : Option (List (Int)) :=
 let i_2 : Int := x1.1
 let b3 : List (Bool) := x1.2.1
 let b4 : List (Int) := x1.2.2.1
 let b5 : List (Int) := x1.2.2.2.1
 br (decide (i_2 ≥ 0)) (
  chk ((!decide (64 = 0))) (
   let v6 : Int := IntKind.wrap .i64 (Int.tdiv i_2 64)
   chk ((!decide (64 = 0))) (
    let v7 : Int := IntKind.wrap .i64 (Int.tdiv i_2 64)
    chk (inB v7 4) (
     chk (decide (v7.toNat < 4)) (
      let v8 : Int := b5.getD (v7.toNat) (Ty.dflt (.int .u64))
      let v9 : Int := IntKind.wrap .u64 (v8 * 2)
      chk (inB v6 4) (
       chk (decide (v6.toNat < 4)) (
        chk (inB i_2 256) (
         chk (decide (i_2.toNat < 256)) (
          br (b3.getD (i_2.toNat) (Ty.dflt .bool)) (
           chk ((!decide (64 = 0))) (
            let v10 : Int := IntKind.wrap .i64 (Int.tdiv i_2 64)
            chk (inB v10 4) (
             chk (decide (v10.toNat < 4)) (
              let v11 : Int := (b5.set (v6.toNat) v9).getD (v10.toNat) (Ty.dflt (.int .u64))
              let v12 : Int := IntKind.wrap .u64 (v11 + 1)
              chk (inB v10 4) (
               chk (decide (v10.toNat < 4)) (
                let v13 : Int := IntKind.wrap .i64 (i_2 - 1)
                g0 (v13, b3, b4, (b5.set (v6.toNat) v9).set (v10.toNat) v12, ()))))))) (
           let v14 : Int := IntKind.wrap .i64 (i_2 - 1)
           g0 (v14, b3, b4, b5.set (v6.toNat) v9, ()))))))))))) (
  some b5)
def ug (n : Nat) (x : List (Bool)) : Option (List (Int)) :=
 let a_0 : List (Bool) := x
 fix (oo n) n (255, a_0, [0, 0, 0, 0], [0, 0, 0, 0], ())
def bG (n : Nat) (x19 : Int × List (Int) × Int × Int × Int × Int × Int × Int × List (Int) × Int × Int × Int × Int × Int × Unit) : Option (Bool) :=
 let XD : Int := x19.1
 let zc5 : List (Int) := x19.2.1
 let A22 : Int := x19.2.2.1
 let B23 : Int := x19.2.2.2.1
 let zc6 : Int := x19.2.2.2.2.1
 let zc7 : Int := x19.2.2.2.2.2.1
 let N26 : Int := x19.2.2.2.2.2.2.1
 let zce : Int := x19.2.2.2.2.2.2.2.1
 let zc8 : List (Int) := x19.2.2.2.2.2.2.2.2.1
 let A29 : Int := x19.2.2.2.2.2.2.2.2.2.1
 let B30 : Int := x19.2.2.2.2.2.2.2.2.2.2.1
 let zc9 : Int := x19.2.2.2.2.2.2.2.2.2.2.2.1
 let zda : Int := x19.2.2.2.2.2.2.2.2.2.2.2.2.1
 let N33 : Int := x19.2.2.2.2.2.2.2.2.2.2.2.2.2.1
 br (Ty.beq ak (zce, (zc8, (A29, (B30, (zc9, (zda, (N33, ()))))))) (XD, (zc5, (A22, (B23, (zc6, (zc7, (N26, ())))))))) (
  br (decide (XD < 7)) (
   some true) (
   br (decide (N26 ≥ 1)) (
    some (decide (N26 <= 9))) (
    some false))) (
  some false)
def fF (n : Nat) (x34 : Int × Bool × Int × List (Int) × Int × Int × Int × Int × Int × Int × List (Int) × Int × Int × Int × Int × Int × Unit) : Option (Bool) :=
 let RH : Int := x34.1
 let zcf : Bool := x34.2.1
 let GI : Int := x34.2.2.1
 let LU : List (Int) := x34.2.2.2.1
 let A39 : Int := x34.2.2.2.2.1
 let B40 : Int := x34.2.2.2.2.2.1
 let yg : Int := x34.2.2.2.2.2.2.1
 let wo : Int := x34.2.2.2.2.2.2.2.1
 let N43 : Int := x34.2.2.2.2.2.2.2.2.1
 let GJ : Int := x34.2.2.2.2.2.2.2.2.2.1
 let LV : List (Int) := x34.2.2.2.2.2.2.2.2.2.2.1
 let A46 : Int := x34.2.2.2.2.2.2.2.2.2.2.2.1
 let B47 : Int := x34.2.2.2.2.2.2.2.2.2.2.2.2.1
 let V6 : Int := x34.2.2.2.2.2.2.2.2.2.2.2.2.2.1
 let V7 : Int := x34.2.2.2.2.2.2.2.2.2.2.2.2.2.2.1
 let N50 : Int := x34.2.2.2.2.2.2.2.2.2.2.2.2.2.2.2.1
 br zcf (
  jn (bG n) (GI, LU, A39, B40, yg, wo, N43, GJ, LV, A39, B40, V6, V7, N50, ())) (
  br (RH == 6) (
   br (decide (yg < 0)) (
    some false) (
    br (decide (yg > 255)) (
     some false) (
     br (wo != (-1)) (
      br (decide (wo < yg)) (
       some false) (
       br (decide (wo < 1)) (
        some false) (
        br (decide (wo > 255)) (
         some false) (
         jn (bG n) (GI, LU, A39, B40, yg, wo, N43, GJ, LV, A39, B47, yg, wo, N50, ()))))) (
      jn (bG n) (GI, LU, A39, B40, yg, wo, N43, GJ, LV, A39, B47, yg, wo, N50, ()))))) (
   br (RH == 7) (
    jn (bG n) (GI, LU, A39, B40, yg, wo, N43, GJ, LV, A39, B47, V6, V7, N43, ())) (
    br (RH == 8) (
     jn (bG n) (GI, LU, A39, B40, yg, wo, N43, GJ, LV, A46, B47, V6, V7, N43, ())) (
     some false))))
def bZ (n : Nat) (x1 : Int × Bool × Int × List (Int) × Int × Int × Int × Int × Int × Int × List (Int) × Int × Int × Int × Int × Int × List (Int) × Unit) : Option (Bool) :=
 let IX : Int := x1.1
 let zdb : Bool := x1.2.1
 let Qu : Int := x1.2.2.1
 let NI : List (Int) := x1.2.2.2.1
 let A6 : Int := x1.2.2.2.2.1
 let B7 : Int := x1.2.2.2.2.2.1
 let V8 : Int := x1.2.2.2.2.2.2.1
 let V9 : Int := x1.2.2.2.2.2.2.2.1
 let N10 : Int := x1.2.2.2.2.2.2.2.2.1
 let LW : Int := x1.2.2.2.2.2.2.2.2.2.1
 let Wd : List (Int) := x1.2.2.2.2.2.2.2.2.2.2.1
 let A13 : Int := x1.2.2.2.2.2.2.2.2.2.2.2.1
 let B14 : Int := x1.2.2.2.2.2.2.2.2.2.2.2.2.1
 let Qv : Int := x1.2.2.2.2.2.2.2.2.2.2.2.2.2.1
 let Qw : Int := x1.2.2.2.2.2.2.2.2.2.2.2.2.2.2.1
 let N17 : Int := x1.2.2.2.2.2.2.2.2.2.2.2.2.2.2.2.1
 let b18 : List (Int) := x1.2.2.2.2.2.2.2.2.2.2.2.2.2.2.2.2.1
 br zdb (
  jn (bG n) (Qu, NI, A6, B7, V8, V9, N10, LW, Wd, A13, B14, Qv, Qw, N17, ())) (
  br (IX == 1) (
   br (Ty.beq (.arr 4 (.int .u64)) NI b18) (
    some false) (
    jn (bG n) (Qu, NI, A6, B7, V8, V9, N10, LW, NI, A13, B14, Qv, Qw, N17, ()))) (
   br (IX == 4) (
    jn (fF n) (IX, (IX == 4), Qu, NI, A6, B7, V8, V9, N10, LW, Wd, A13, B14, Qv, Qw, N17, ())) (
    jn (fF n) (IX, (IX == 5), Qu, NI, A6, B7, V8, V9, N10, LW, Wd, A13, B14, Qv, Qw, N17, ()))))
def bC (n : Nat) (x : Int × List (Int) × Int × Int × Int × Int × Int × Unit) : Option (Bool) :=
 let n_0 : Int × List (Int) × Int × Int × Int × Int × Int × Unit := x
 br (n_0.1 == 0) (
  jn (bZ n) (n_0.1, (n_0.1 == 0), n_0.1, n_0.2.1, n_0.2.2.1, n_0.2.2.2.1, n_0.2.2.2.2.1, n_0.2.2.2.2.2.1, n_0.2.2.2.2.2.2.1, n_0.1, [0, 0, 0, 0], 0, 0, 0, 0, 0, [0, 0, 0, 0], ())) (
  br (n_0.1 == 2) (
   jn (bZ n) (n_0.1, (n_0.1 == 2), n_0.1, n_0.2.1, n_0.2.2.1, n_0.2.2.2.1, n_0.2.2.2.2.1, n_0.2.2.2.2.2.1, n_0.2.2.2.2.2.2.1, n_0.1, [0, 0, 0, 0], 0, 0, 0, 0, 0, [0, 0, 0, 0], ())) (
   jn (bZ n) (n_0.1, (n_0.1 == 3), n_0.1, n_0.2.1, n_0.2.2.1, n_0.2.2.2.1, n_0.2.2.2.2.1, n_0.2.2.2.2.2.1, n_0.2.2.2.2.2.2.1, n_0.1, [0, 0, 0, 0], 0, 0, 0, 0, 0, [0, 0, 0, 0], ())))
def eO (n : Nat) (eX : (List (NdT) × Int) -> Option (Int)) (x : List (NdT) × Int) : Option (Int) :=
 let l_0 : List (NdT) := x.1
 let i_1 : Int := x.2
 br (decide (i_1 < 0)) (
  some (-1)) (
  chk (inB i_1 l_0.length) (
   let v1 : Int × List (Int) × Int × Int × Int × Int × Int × Unit := aG (Ty.dflt ak) l_0 i_1
   br (v1.1 == 4) (
    br (v1.1 == 4) (
     chk (inB i_1 l_0.length) (
      let v2 : Int × List (Int) × Int × Int × Int × Int × Int × Unit := aG (Ty.dflt ak) l_0 i_1
      let v3 : Int := IntKind.wrap .i64 (i_1 - 1)
      br (v2.2.2.2.1 != v3) (
       some (-1)) (
       let v4 : Int := IntKind.wrap .i64 (i_1 - 1)
       ob (eX (l_0, v4)) fun y5 =>
       br (decide (y5 < 1)) (
        some (-1)) (
        chk (inB i_1 l_0.length) (
         let v6 : Int × List (Int) × Int × Int × Int × Int × Int × Unit := aG (Ty.dflt ak) l_0 i_1
         let v7 : Int := IntKind.wrap .i64 (y5 - 1)
         br (v6.2.2.1 != v7) (
          some (-1)) (
          let v8 : Int := IntKind.wrap .i64 (y5 - 1)
          ob (eX (l_0, v8)) fun y9 =>
          some y9)))))) (
     br (v1.1 == 6) (
      br (v1.1 == 6) (
       chk (inB i_1 l_0.length) (
        let v10 : Int × List (Int) × Int × Int × Int × Int × Int × Unit := aG (Ty.dflt ak) l_0 i_1
        let v11 : Int := IntKind.wrap .i64 (i_1 - 1)
        br (v10.2.2.1 != v11) (
         some (-1)) (
         let v12 : Int := IntKind.wrap .i64 (i_1 - 1)
         ob (eX (l_0, v12)) fun y13 =>
         some y13))) (
       some i_1)) (
      br (v1.1 == 7) (
       chk (inB i_1 l_0.length) (
        let v14 : Int × List (Int) × Int × Int × Int × Int × Int × Unit := aG (Ty.dflt ak) l_0 i_1
        let v15 : Int := IntKind.wrap .i64 (i_1 - 1)
        br (v14.2.2.1 != v15) (
         some (-1)) (
         let v16 : Int := IntKind.wrap .i64 (i_1 - 1)
         ob (eX (l_0, v16)) fun y17 =>
         some y17))) (
       some i_1)))) (
    br (v1.1 == 5) (
     chk (inB i_1 l_0.length) (
      let v18 : Int × List (Int) × Int × Int × Int × Int × Int × Unit := aG (Ty.dflt ak) l_0 i_1
      let v19 : Int := IntKind.wrap .i64 (i_1 - 1)
      br (v18.2.2.2.1 != v19) (
       some (-1)) (
       let v20 : Int := IntKind.wrap .i64 (i_1 - 1)
       ob (eX (l_0, v20)) fun y21 =>
       br (decide (y21 < 1)) (
        some (-1)) (
        chk (inB i_1 l_0.length) (
         let v22 : Int × List (Int) × Int × Int × Int × Int × Int × Unit := aG (Ty.dflt ak) l_0 i_1
         let v23 : Int := IntKind.wrap .i64 (y21 - 1)
         br (v22.2.2.1 != v23) (
          some (-1)) (
          let v24 : Int := IntKind.wrap .i64 (y21 - 1)
          ob (eX (l_0, v24)) fun y25 =>
          some y25)))))) (
     br (v1.1 == 6) (
      br (v1.1 == 6) (
       chk (inB i_1 l_0.length) (
        let v26 : Int × List (Int) × Int × Int × Int × Int × Int × Unit := aG (Ty.dflt ak) l_0 i_1
        let v27 : Int := IntKind.wrap .i64 (i_1 - 1)
        br (v26.2.2.1 != v27) (
         some (-1)) (
         let v28 : Int := IntKind.wrap .i64 (i_1 - 1)
         ob (eX (l_0, v28)) fun y29 =>
         some y29))) (
       some i_1)) (
      br (v1.1 == 7) (
       chk (inB i_1 l_0.length) (
        let v30 : Int × List (Int) × Int × Int × Int × Int × Int × Unit := aG (Ty.dflt ak) l_0 i_1
        let v31 : Int := IntKind.wrap .i64 (i_1 - 1)
        br (v30.2.2.1 != v31) (
         some (-1)) (
         let v32 : Int := IntKind.wrap .i64 (i_1 - 1)
         ob (eX (l_0, v32)) fun y33 =>
         some y33))) (
       some i_1))))))
def dL (n : Nat) : (List (NdT) × Int) -> Option (Int) :=
 Aw (fun n r x => eO n r x) n
def dn (n : Nat) (bq : (List (NdT) × Int × Bool × Int × List (Bool) × Bool × Unit) -> Option (Bool × Int × List (Bool) × Bool × Unit)) (x : List (NdT) × Int × Bool × Int × List (Bool) × Bool × Unit) : Option (Bool × Int × List (Bool) × Bool × Unit) :=
 let l_0 : List (NdT) := x.1
 let i_1 : Int := x.2.1
 let w_2 : Bool × Int × List (Bool) × Bool × Unit := x.2.2
 chk (inB i_1 l_0.length) (
  let v1 : Int × List (Int) × Int × Int × Int × Int × Int × Unit := aG (Ty.dflt ak) l_0 i_1
  br (v1.1 == 4) (
   chk (inB v1.2.2.1 l_0.length) (
    let v2 : Int × List (Int) × Int × Int × Int × Int × Int × Unit := aG (Ty.dflt ak) l_0 v1.2.2.1
    br (v2.1 == 4) (
     ob (bq (l_0, v1.2.2.1, (false, w_2.2))) fun y3 =>
     ob (bq (l_0, v1.2.2.2.1, y3)) fun y4 =>
     some y4) (
     chk (inB v1.2.2.1 l_0.length) (
      let v5 : Int × List (Int) × Int × Int × Int × Int × Int × Unit := aG (Ty.dflt ak) l_0 v1.2.2.1
      br (v5.1 == 5) (
       ob (bq (l_0, v1.2.2.1, (false, w_2.2))) fun y6 =>
       ob (bq (l_0, v1.2.2.2.1, y6)) fun y7 =>
       some y7) (
       chk (inB v1.2.2.2.1 l_0.length) (
        let v8 : Int × List (Int) × Int × Int × Int × Int × Int × Unit := aG (Ty.dflt ak) l_0 v1.2.2.2.1
        br (v8.1 == 5) (
         ob (bq (l_0, v1.2.2.1, (false, w_2.2))) fun y9 =>
         ob (bq (l_0, v1.2.2.2.1, y9)) fun y10 =>
         some y10) (
         ob (bq (l_0, v1.2.2.1, w_2)) fun y11 =>
         ob (bq (l_0, v1.2.2.2.1, y11)) fun y12 =>
         some y12))))))) (
   br (v1.1 == 5) (
    chk (inB v1.2.2.1 l_0.length) (
     let v13 : Int × List (Int) × Int × Int × Int × Int × Int × Unit := aG (Ty.dflt ak) l_0 v1.2.2.1
     br (v13.1 == 5) (
      ob (bq (l_0, v1.2.2.1, (false, w_2.2))) fun y14 =>
      ob (bq (l_0, v1.2.2.2.1, y14)) fun y15 =>
      some y15) (
      ob (bq (l_0, v1.2.2.1, w_2)) fun y16 =>
      ob (bq (l_0, v1.2.2.2.1, y16)) fun y17 =>
      some y17))) (
    br (v1.1 == 6) (
     chk (inB v1.2.2.1 l_0.length) (
      let v18 : Int × List (Int) × Int × Int × Int × Int × Int × Unit := aG (Ty.dflt ak) l_0 v1.2.2.1
      br (v18.1 != 1) (
       chk (inB v1.2.2.1 l_0.length) (
        let v19 : Int × List (Int) × Int × Int × Int × Int × Int × Unit := aG (Ty.dflt ak) l_0 v1.2.2.1
        br (v19.1 != 7) (
         chk (inB v1.2.2.1 l_0.length) (
          let v20 : Int × List (Int) × Int × Int × Int × Int × Int × Unit := aG (Ty.dflt ak) l_0 v1.2.2.1
          br (v20.1 != 8) (
           ob (bq (l_0, v1.2.2.1, (false, w_2.2))) fun y21 =>
           some y21) (
           ob (bq (l_0, v1.2.2.1, w_2)) fun y22 =>
           some y22))) (
         ob (bq (l_0, v1.2.2.1, w_2)) fun y23 =>
         some y23))) (
       ob (bq (l_0, v1.2.2.1, w_2)) fun y24 =>
       some y24))) (
     br (v1.1 == 7) (
      let v25 : Int := IntKind.wrap .i64 (w_2.2.1 + 1)
      br (v25 != v1.2.2.2.2.2.2.1) (
       ob (bq (l_0, v1.2.2.1, (false, (v25, w_2.2.2)))) fun y26 =>
       chk (inB v1.2.2.2.2.2.2.1 10) (
        chk (decide (v1.2.2.2.2.2.2.1.toNat < 10)) (
         some (y26.1, (y26.2.1, (y26.2.2.1.set (v1.2.2.2.2.2.2.1.toNat) true, y26.2.2.2)))))) (
       ob (bq (l_0, v1.2.2.1, (w_2.1, (v25, w_2.2.2)))) fun y27 =>
       chk (inB v1.2.2.2.2.2.2.1 10) (
        chk (decide (v1.2.2.2.2.2.2.1.toNat < 10)) (
         some (y27.1, (y27.2.1, (y27.2.2.1.set (v1.2.2.2.2.2.2.1.toNat) true, y27.2.2.2))))))) (
      br (v1.1 == 8) (
       chk (inB v1.2.2.2.2.2.2.1 10) (
        chk (decide (v1.2.2.2.2.2.2.1.toNat < 10)) (
         br (!(w_2.2.2.1.getD (v1.2.2.2.2.2.2.1.toNat) (Ty.dflt .bool))) (
          some (false, (w_2.2.1, (w_2.2.2.1, (true, ()))))) (
          some (w_2.1, (w_2.2.1, (w_2.2.2.1, (true, ())))))))) (
       br (v1.1 == 0) (
        br ((l_0.length : Int) != 1) (
         some (false, w_2.2)) (
         some w_2)) (
        some w_2)))))))
def eY (n : Nat) : (List (NdT) × Int × Bool × Int × List (Bool) × Bool × Unit) -> Option (Bool × Int × List (Bool) × Bool × Unit) :=
 Aw (fun n r x => dn n r x) n
def dX (n : Nat) (g0 : List (NdT) × Int × Bool × Int × List (Bool) × Bool × Unit -> Option (Bool × Int × List (Bool) × Bool × Unit)) (x1 : List (NdT) × Int × Bool × Int × List (Bool) × Bool × Unit) : Option (Bool × Int × List (Bool) × Bool × Unit) :=
 let l_2 : List (NdT) := x1.1
 let i_3 : Int := x1.2.1
 let zdc : Bool := x1.2.2.1
 let zcg : Int := x1.2.2.2.1
 let zch : List (Bool) := x1.2.2.2.2.1
 let zdd : Bool := x1.2.2.2.2.2.1
 br (decide (i_3 < (l_2.length : Int))) (
  chk (inB i_3 l_2.length) (
   let v8 : Int × List (Int) × Int × Int × Int × Int × Int × Unit := aG (Ty.dflt ak) l_2 i_3
   ob (bC n v8) fun y9 =>
   br (!y9) (
    some (false, (0, ([false, false, false, false, false, false, false, false, false, false], (false, ()))))) (
    let v10 : Int := IntKind.wrap .i64 (i_3 + 1)
    g0 (l_2, v10, zdc, zcg, zch, zdd, ())))) (
  let v11 : Int := IntKind.wrap .i64 ((l_2.length : Int) - 1)
  ob (dL n (l_2, v11)) fun y12 =>
  br (y12 != 0) (
   some (false, (0, ([false, false, false, false, false, false, false, false, false, false], (false, ()))))) (
   let v13 : Int := IntKind.wrap .i64 ((l_2.length : Int) - 1)
   ob (eY n (l_2, v13, (true, (0, ([false, false, false, false, false, false, false, false, false, false], (false, ())))))) fun y14 =>
   some y14))
def zU (n : Nat) (x : List (NdT)) : Option (Bool × Int × List (Bool) × Bool × Unit) :=
 let l_0 : List (NdT) := x
 br (decide ((l_0.length : Int) < 1)) (
  some (false, (0, ([false, false, false, false, false, false, false, false, false, false], (false, ()))))) (
  br (decide ((l_0.length : Int) > 120)) (
   some (false, (0, ([false, false, false, false, false, false, false, false, false, false], (false, ()))))) (
   fix (dX n) n (l_0, 0, false, 0, [false, false, false, false, false, false, false, false, false, false], false, ())))
def o8 (n : Nat) (x : List (NdT)) : Option (Bool) :=
 let l_0 : List (NdT) := x
 ob (zU n l_0) fun y1 =>
 some y1.1
def pJ (n : Nat) (g0 : Int × List (Int) × List (Bool) × List (Bool) × Unit -> Option (List (Bool))) (x1 : Int × List (Int) × List (Bool) × List (Bool) × Unit) : Option (List (Bool)) :=
 let i_2 : Int := x1.1
 let b3 : List (Int) := x1.2.1
 let b4 : List (Bool) := x1.2.2.1
 let b5 : List (Bool) := x1.2.2.2.1
 br (decide (i_2 < 256)) (
  chk ((!decide (64 = 0))) (
   let v6 : Int := IntKind.wrap .i64 (Int.tdiv i_2 64)
   chk (inB v6 4) (
    chk (decide (v6.toNat < 4)) (
     let v7 : Int := b3.getD (v6.toNat) (Ty.dflt (.int .u64))
     chk ((!decide (2 = 0))) (
      chk (inB i_2 256) (
       chk (decide (i_2.toNat < 256)) (
        chk ((!decide (64 = 0))) (
         let v8 : Int := IntKind.wrap .i64 (Int.tdiv i_2 64)
         chk ((!decide (64 = 0))) (
          let v9 : Int := IntKind.wrap .i64 (Int.tdiv i_2 64)
          chk (inB v9 4) (
           chk (decide (v9.toNat < 4)) (
            let v10 : Int := b3.getD (v9.toNat) (Ty.dflt (.int .u64))
            chk ((!decide (2 = 0))) (
             let v11 : Int := IntKind.wrap .u64 (Int.tdiv v10 2)
             chk (inB v8 4) (
              chk (decide (v8.toNat < 4)) (
               let v12 : Int := IntKind.wrap .i64 (i_2 + 1)
               g0 (v12, b3.set (v8.toNat) v11, b4, b5.set (i_2.toNat) ((Int.tmod v7 2) == 1), ()))))))))))))))) (
  some b5)
def wu (n : Nat) (x : List (Int)) : Option (List (Bool)) :=
 let w_0 : List (Int) := x
 fix (pJ n) n (0, w_0, (List.replicate 256 false), (List.replicate 256 false), ())
def nA (n : Nat) (nC : Int -> Option (List UInt8)) (x : Int) : Option (List UInt8) :=
 let n_0 : Int := x
 br (decide (n_0 < 10)) (
  let v1 : Int := IntKind.wrap .u64 (n_0 + 1)
  chk ((decide (0 <= v1) && decide (v1 <= ([48, 49, 50, 51, 52, 53, 54, 55, 56, 57].length : Int)) && (decide (0 <= n_0) && decide (n_0 <= v1)))) (
   let v2 : List UInt8 := ([48, 49, 50, 51, 52, 53, 54, 55, 56, 57].take v1.toNat).drop n_0.toNat
   some v2)) (
  chk ((!decide (10 = 0))) (
   let v3 : Int := IntKind.wrap .u64 (Int.tdiv n_0 10)
   ob (nC v3) fun y4 =>
   chk ((!decide (10 = 0))) (
    chk ((!decide (10 = 0))) (
     let v5 : Int := IntKind.wrap .u64 ((Int.tmod n_0 10) + 1)
     chk ((decide (0 <= v5) && decide (v5 <= ([48, 49, 50, 51, 52, 53, 54, 55, 56, 57].length : Int)) && (decide (0 <= (Int.tmod n_0 10)) && decide ((Int.tmod n_0 10) <= v5)))) (
      let v6 : List UInt8 := ([48, 49, 50, 51, 52, 53, 54, 55, 56, 57].take v5.toNat).drop (Int.tmod n_0 10).toNat
      chk (decide (y4.length + v6.length <= av)) (
       some (y4 ++ v6)))))))
def kD (n : Nat) : Int -> Option (List UInt8) :=
 Aw (fun n r x => nA n r x) n
def fq (n : Nat) (x : Int) : Option (List UInt8) :=
 let n_0 : Int := x
 br (decide (n_0 < 0)) (
  let v1 : Int := IntKind.wrap .i64 (n_0 + 1)
  let v2 : Int := IntKind.wrap .i64 (0 - v1)
  let v3 : Int := IntKind.wrap .u64 ((IntKind.wrap .u64 v2) + 1)
  ob (kD n v3) fun y4 =>
  chk (decide ([45].length + y4.length <= av)) (
   some ([45] ++ y4))) (
  ob (kD n (IntKind.wrap .u64 n_0)) fun y5 =>
  some y5)
def sI (n : Nat) (g0 : List UInt8 × Int × Int × Unit -> Option (Bool)) (x1 : List UInt8 × Int × Int × Unit) : Option (Bool) :=
 let s_2 : List UInt8 := x1.1
 let b_3 : Int := x1.2.1
 let i_4 : Int := x1.2.2.1
 br (decide (i_4 < (s_2.length : Int))) (
  chk (inB i_4 s_2.length) (
   let v5 : Int := ((aG 0 s_2 i_4).toNat : Int)
   br (v5 == b_3) (
    some true) (
    let v6 : Int := IntKind.wrap .i64 (i_4 + 1)
    g0 (s_2, b_3, v6, ())))) (
  some false)
def je (n : Nat) (x : List UInt8 × Int) : Option (Bool) :=
 let s_0 : List UInt8 := x.1
 let b_1 : Int := x.2
 fix (sI n) n (s_0, b_1, 0, ())
def qg (n : Nat) (x : Int × List UInt8) : Option (List UInt8) :=
 let b_0 : Int := x.1
 let GL : List UInt8 := x.2
 br (b_0 == 10) (
  some [92, 110]) (
  ob (je n (GL, b_0)) fun y1 =>
  br y1 (
   chk (decide ([92].length + (dQ [b_0]).length <= av)) (
    some ([92] ++ (dQ [b_0])))) (
   some (dQ [b_0])))
def lW (n : Nat) (g0 : List UInt8 × Int × List (Bool) × Unit -> Option (List UInt8)) (x31 : List UInt8 × Int × Int × Int × Int × Bool × List (Bool) × Unit) : Option (List UInt8) :=
 let LX : List UInt8 := x31.1
 let Wh : Int := x31.2.1
 let Zb : Int := x31.2.2.1
 let zes : Int := x31.2.2.2.1
 let zet : Int := x31.2.2.2.2.1
 let zeu : Bool := x31.2.2.2.2.2.1
 let b38 : List (Bool) := x31.2.2.2.2.2.2.1
 let v39 : Int := IntKind.wrap .i64 (Zb - Wh)
 br (decide (v39 ≥ 2)) (
  let v40 : List UInt8 := dQ [IntKind.wrap .u8 Wh, 45, IntKind.wrap .u8 Zb]
  chk (decide (LX.length + v40.length <= av)) (
   let v41 : Int := IntKind.wrap .i64 (Zb + 1)
   g0 (LX ++ v40, v41, b38, ()))) (
  let v42 : List UInt8 := dQ [IntKind.wrap .u8 Wh]
  chk (decide (LX.length + v42.length <= av)) (
   let v43 : Int := IntKind.wrap .i64 (Wh + 1)
   g0 (LX ++ v42, v43, b38, ())))
def uY (n : Nat) (g0 : List UInt8 × Int × List (Bool) × Unit -> Option (List UInt8)) (g1 : List UInt8 × Int × Int × Int × Int × Bool × List (Bool) × Unit -> Option (List UInt8)) (x18 : List UInt8 × Int × Int × Int × Int × Bool × List (Bool) × Unit) : Option (List UInt8) :=
 let LY : List UInt8 := x18.1
 let Wi : Int := x18.2.1
 let Kk : Int := x18.2.2.1
 let LZ : Int := x18.2.2.2.1
 let L6 : Int := x18.2.2.2.2.1
 let L8 : Bool := x18.2.2.2.2.2.1
 let b25 : List (Bool) := x18.2.2.2.2.2.2.1
 let v26 : Int := IntKind.wrap .i64 (Kk + 1)
 br (decide (v26 < 256)) (
  let v27 : Int := IntKind.wrap .i64 (Kk + 1)
  chk (inB v27 256) (
   chk (decide (v27.toNat < 256)) (
    br (b25.getD (v27.toNat) (Ty.dflt .bool)) (
     let v28 : Int := IntKind.wrap .i64 (Kk + 1)
     ob (je n ([93, 91, 92, 94, 45, 10], IntKind.wrap .u8 v28)) fun y29 =>
     br (!y29) (
      let v30 : Int := IntKind.wrap .i64 (Kk + 1)
      g1 (LY, Wi, v30, LZ, L6, L8, b25, ())) (
      jn (lW n g0) (LY, Wi, Kk, LZ, L6, L8, b25, ()))) (
     jn (lW n g0) (LY, Wi, Kk, LZ, L6, L8, b25, ()))))) (
  jn (lW n g0) (LY, Wi, Kk, LZ, L6, L8, b25, ()))
def AL (n : Nat) (g0 : List UInt8 × Int × List (Bool) × Unit -> Option (List UInt8)) (x11 : List UInt8 × Int × Int × Int × Bool × List (Bool) × Unit) : Option (List UInt8) :=
 let zci : List UInt8 := x11.1
 let zcj : Int := x11.2.1
 let zck : Int := x11.2.2.1
 let zcl : Int := x11.2.2.2.1
 let zcm : Bool := x11.2.2.2.2.1
 let b17 : List (Bool) := x11.2.2.2.2.2.1
 fix (uY n g0) n (zci, zcj, zcj, zck, zcl, zcm, b17, ())
def pK (n : Nat) (x50 : List UInt8 × List (Bool) × Unit) : Option (List UInt8) :=
 let oH : List UInt8 := x50.1
 let b52 : List (Bool) := x50.2.1
 ob (jQ n b52) fun y53 =>
 br (y53 == [45, 94]) (
  chk (decide (oH.length + ([45, 94, 93] : List UInt8).length <= av)) (
   some (oH ++ [45, 94, 93]))) (
  chk (inB 94 256) (
   chk (decide ((94 : Int).toNat < 256)) (
    br (b52.getD ((94 : Int).toNat) (Ty.dflt .bool)) (
     chk (decide (oH.length + ([94] : List UInt8).length <= av)) (
      chk (inB 45 256) (
       chk (decide ((45 : Int).toNat < 256)) (
        br (b52.getD ((45 : Int).toNat) (Ty.dflt .bool)) (
         chk (decide ((oH ++ [94]).length + ([45] : List UInt8).length <= av)) (
          chk (decide (((oH ++ [94]) ++ [45]).length + ([93] : List UInt8).length <= av)) (
           let v54 : List UInt8 := ((oH ++ [94]) ++ [45]) ++ [93]
           some v54))) (
         chk (decide ((oH ++ [94]).length + ([93] : List UInt8).length <= av)) (
          some ((oH ++ [94]) ++ [93]))))))) (
     chk (inB 45 256) (
      chk (decide ((45 : Int).toNat < 256)) (
       br (b52.getD ((45 : Int).toNat) (Ty.dflt .bool)) (
        chk (decide (oH.length + ([45] : List UInt8).length <= av)) (
         chk (decide ((oH ++ [45]).length + ([93] : List UInt8).length <= av)) (
          some ((oH ++ [45]) ++ [93])))) (
        chk (decide (oH.length + ([93] : List UInt8).length <= av)) (
         some (oH ++ [93])))))))))
def pO (n : Nat) (x47 : List UInt8 × List (Bool) × Unit) : Option (List UInt8) :=
 let RI : List UInt8 := x47.1
 let b49 : List (Bool) := x47.2.1
 chk (inB 92 256) (
  chk (decide ((92 : Int).toNat < 256)) (
   br (b49.getD ((92 : Int).toNat) (Ty.dflt .bool)) (
    chk (decide (RI.length + ([92] : List UInt8).length <= av)) (
     jn (pK n) (RI ++ [92], b49, ()))) (
    jn (pK n) (RI, b49, ()))))
def pQ (n : Nat) (x44 : List UInt8 × List (Bool) × Unit) : Option (List UInt8) :=
 let RJ : List UInt8 := x44.1
 let b46 : List (Bool) := x44.2.1
 chk (inB 91 256) (
  chk (decide ((91 : Int).toNat < 256)) (
   br (b46.getD ((91 : Int).toNat) (Ty.dflt .bool)) (
    chk (decide (RJ.length + ([91] : List UInt8).length <= av)) (
     jn (pO n) (RJ ++ [91], b46, ()))) (
    jn (pO n) (RJ, b46, ()))))
def jH (n : Nat) (g0 : List UInt8 × Int × List (Bool) × Unit -> Option (List UInt8)) (x4 : List UInt8 × Int × List (Bool) × Unit) : Option (List UInt8) :=
 let IY : List UInt8 := x4.1
 let i_6 : Int := x4.2.1
 let b7 : List (Bool) := x4.2.2.1
 br (decide (i_6 < 256)) (
  chk (inB i_6 256) (
   chk (decide (i_6.toNat < 256)) (
    br (!(b7.getD (i_6.toNat) (Ty.dflt .bool))) (
     let v8 : Int := IntKind.wrap .i64 (i_6 + 1)
     g0 (IY, v8, b7, ())) (
     ob (je n ([93, 91, 92, 94, 45, 10], IntKind.wrap .u8 i_6)) fun y9 =>
     br y9 (
      let v10 : Int := IntKind.wrap .i64 (i_6 + 1)
      g0 (IY, v10, b7, ())) (
      jn (AL n g0) (IY, i_6, i_6, IntKind.wrap .u8 i_6, y9, b7, ())))))) (
  chk (inB 10 256) (
   chk (decide ((10 : Int).toNat < 256)) (
    br (b7.getD ((10 : Int).toNat) (Ty.dflt .bool)) (
     chk (decide (IY.length + ([92, 110] : List UInt8).length <= av)) (
      jn (pQ n) (IY ++ [92, 110], b7, ()))) (
     jn (pQ n) (IY, b7, ())))))
def uZ (n : Nat) (x1 : List UInt8 × List (Bool) × Unit) : Option (List UInt8) :=
 let zde : List UInt8 := x1.1
 let b3 : List (Bool) := x1.2.1
 fix (jH n) n (zde, 0, b3, ())
def wz (n : Nat) (x : List (Bool)) : Option (List UInt8) :=
 let a_0 : List (Bool) := x
 chk (inB 93 256) (
  chk (decide ((93 : Int).toNat < 256)) (
   br (a_0.getD ((93 : Int).toNat) (Ty.dflt .bool)) (
    chk (decide ([91].length + ([93] : List UInt8).length <= av)) (
     jn (uZ n) ([91] ++ [93], a_0, ()))) (
    jn (uZ n) ([91], a_0, ()))))
def yh (n : Nat) (x : List (Bool) × List UInt8) : Option (List UInt8) :=
 let a_0 : List (Bool) := x.1
 let GL : List UInt8 := x.2
 ob (pI n a_0) fun y1 =>
 br (y1 == 0) (
  some []) (
  br (y1 == 1) (
   ob (jQ n a_0) fun y2 =>
   chk (inB 0 y2.length) (
    let v3 : Int := ((aG 0 y2 0).toNat : Int)
    ob (qg n (v3, GL)) fun y4 =>
    some y4)) (
   br (y1 == 256) (
    some [46]) (
    ob (wz n a_0) fun y5 =>
    some y5)))
def wB (n : Nat) (x : List (Bool)) : Option (List UInt8) :=
 let a_0 : List (Bool) := x
 ob (yh n (a_0, [46, 91, 92, 42, 94, 36])) fun y1 =>
 some y1
def dZ (n : Nat) (x : (List (NdT) × Int × List (Bool) × Int × Int × Unit) × Int × List (Int) × Int × Int × Int × Int × Int × Unit) : Option (List (NdT) × Int × List (Bool) × Int × Int × Unit) :=
 let t_0 : List (NdT) × Int × List (Bool) × Int × Int × Unit := x.1
 let n_1 : Int × List (Int) × Int × Int × Int × Int × Int × Unit := x.2
 chk (Nat.ble ((([] : List (NdT)).length + t_0.1.length) * 80) room) (
  chk (Nat.ble ((([] ++ t_0.1 : List (NdT)).length + ([n_1] : List (NdT)).length) * 80) room) (
   some (([] ++ t_0.1) ++ [n_1], t_0.2)))
def oI (n : Nat) (x : List UInt8 × Int) : Option (Bool) :=
 let s_0 : List UInt8 := x.1
 let i_1 : Int := x.2
 br (i_1 == (s_0.length : Int)) (
  some true) (
  let v1 : Int := IntKind.wrap .i64 (i_1 + 1)
  br (decide (v1 < (s_0.length : Int))) (
   let v2 : Int := IntKind.wrap .i64 (i_1 + 2)
   chk ((decide (0 <= v2) && decide (v2 <= (s_0.length : Int)) && (decide (0 <= i_1) && decide (i_1 <= v2)))) (
    let v3 : List UInt8 := (s_0.take v2.toNat).drop i_1.toNat
    some (v3 == [92, 41]))) (
   some false))
def fC (n : Nat) (x : (List (NdT) × Int × List (Bool) × Int × Int × Unit) × List (Bool)) : Option (List (NdT) × Int × List (Bool) × Int × Int × Unit) :=
 let t_0 : List (NdT) × Int × List (Bool) × Int × Int × Unit := x.1
 let a_1 : List (Bool) := x.2
 ob (ug n a_1) fun y1 =>
 ob (dZ n (t_0, (1, (y1, (0, (0, (0, (0, (0, ()))))))))) fun y2 =>
 some y2
def aT (n : Nat) (x : (List (NdT) × Int × List (Bool) × Int × Int × Unit) × Int × Int) : Option (List (NdT) × Int × List (Bool) × Int × Int × Unit) :=
 let t_0 : List (NdT) × Int × List (Bool) × Int × Int × Unit := x.1
 let Er : Int := x.2.1
 let e_2 : Int := x.2.2
 some (t_0.1, (t_0.2.1, (t_0.2.2.1, (Er, (e_2, ())))))
def wC (n : Nat) (bK : (List UInt8 × Int × List (NdT) × Int × List (Bool) × Int × Int × Unit) -> Option ((List (NdT) × Int × List (Bool) × Int × Int × Unit) × Int)) (x : List UInt8 × Int × Bool × List (NdT) × Int × List (Bool) × Int × Int × Unit) : Option ((List (NdT) × Int × List (Bool) × Int × Int × Unit) × Int) :=
 let s_0 : List UInt8 := x.1
 let i_1 : Int := x.2.1
 let Du : Bool := x.2.2.1
 let t_3 : List (NdT) × Int × List (Bool) × Int × Int × Unit := x.2.2.2
 chk (inB i_1 s_0.length) (
  let v1 : Int := ((aG 0 s_0 i_1).toNat : Int)
  br (v1 == 46) (
   ob (bS n (0, 255)) fun y2 =>
   ob (fC n (t_3, y2)) fun y3 =>
   let v4 : Int := IntKind.wrap .i64 (i_1 + 1)
   some (y3, v4)) (
   br (v1 == 91) (
    chk ((decide (0 <= i_1) && decide (i_1 <= (s_0.length : Int)))) (
     ob (qd n (s_0.drop i_1.toNat)) fun y5 =>
     br (y5.2.2 != 0) (
      ob (aT n (t_3, i_1, y5.2.2)) fun y6 =>
      some (y6, i_1)) (
      ob (fC n (t_3, y5.1)) fun y7 =>
      let v8 : Int := IntKind.wrap .i64 (i_1 + y5.2.1)
      some (y7, v8)))) (
    br (v1 != 92) (
     let v9 : Int := IntKind.wrap .i64 (i_1 + 1)
     chk ((decide (0 <= v9) && decide (v9 <= (s_0.length : Int)) && (decide (0 <= i_1) && decide (i_1 <= v9)))) (
      let v10 : List UInt8 := (s_0.take v9.toNat).drop i_1.toNat
      ob (iI n v10) fun y11 =>
      ob (fC n (t_3, y11)) fun y12 =>
      let v13 : Int := IntKind.wrap .i64 (i_1 + 1)
      some (y12, v13))) (
     let v14 : Int := IntKind.wrap .i64 (i_1 + 1)
     br (v14 == (s_0.length : Int)) (
      ob (aT n (t_3, i_1, 40)) fun y15 =>
      some (y15, i_1)) (
      let v16 : Int := IntKind.wrap .i64 (i_1 + 1)
      chk (inB v16 s_0.length) (
       let v17 : Int := ((aG 0 s_0 v16).toNat : Int)
       br (v17 == 40) (
        br (t_3.2.1 == 9) (
         ob (aT n (t_3, i_1, 41)) fun y18 =>
         some (y18, i_1)) (
         let v19 : Int := IntKind.wrap .i64 (t_3.2.1 + 1)
         let v20 : Int := IntKind.wrap .i64 (i_1 + 2)
         ob (bK (s_0, v20, (t_3.1, (v19, t_3.2.2)))) fun y21 =>
         br (y21.1.2.2.2.2.1 != 0) (
          some (y21.1, y21.2)) (
          br (y21.2 == (s_0.length : Int)) (
           ob (aT n ((t_3.1, (v19, t_3.2.2)), i_1, 41)) fun y22 =>
           some (y22, i_1)) (
           br ((y21.1.1.length : Int) == (t_3.1.length : Int)) (
            ob (aT n ((t_3.1, (v19, t_3.2.2)), i_1, 41)) fun y23 =>
            some (y23, i_1)) (
            chk (inB v19 10) (
             chk (decide (v19.toNat < 10)) (
              let v24 : Int := IntKind.wrap .i64 ((y21.1.1.length : Int) - 1)
              ob (dZ n ((y21.1.1, (y21.1.2.1, (y21.1.2.2.1.set (v19.toNat) true, y21.1.2.2.2))), (7, ([0, 0, 0, 0], (v24, (0, (0, (0, (v19, ()))))))))) fun y25 =>
              let v26 : Int := IntKind.wrap .i64 (y21.2 + 2)
              some (y25, v26)))))))) (
        br (decide (v17 ≥ 49)) (
         br (decide (v17 <= 57)) (
          let v27 : Int := IntKind.wrap .u8 (v17 - 48)
          chk (inB (IntKind.wrap .i64 v27) 10) (
           chk (decide ((IntKind.wrap .i64 v27).toNat < 10)) (
            br (!(t_3.2.2.1.getD ((IntKind.wrap .i64 v27).toNat) (Ty.dflt .bool))) (
             ob (aT n (t_3, i_1, 44)) fun y28 =>
             some (y28, i_1)) (
             let v29 : Int := IntKind.wrap .u8 (v17 - 48)
             ob (dZ n (t_3, (8, ([0, 0, 0, 0], (0, (0, (0, (0, (IntKind.wrap .i64 v29, ()))))))))) fun y30 =>
             let v31 : Int := IntKind.wrap .i64 (i_1 + 2)
             some (y30, v31))))) (
          br (v17 == 110) (
           ob (iI n [10]) fun y32 =>
           ob (fC n (t_3, y32)) fun y33 =>
           let v34 : Int := IntKind.wrap .i64 (i_1 + 2)
           some (y33, v34)) (
           ob (je n ([46, 91, 92, 42, 94, 36, 47], v17)) fun y35 =>
           br y35 (
            let v36 : Int := IntKind.wrap .i64 (i_1 + 1)
            let v37 : Int := IntKind.wrap .i64 (i_1 + 2)
            chk ((decide (0 <= v37) && decide (v37 <= (s_0.length : Int)) && (decide (0 <= v36) && decide (v36 <= v37)))) (
             let v38 : List UInt8 := (s_0.take v37.toNat).drop v36.toNat
             ob (iI n v38) fun y39 =>
             ob (fC n (t_3, y39)) fun y40 =>
             let v41 : Int := IntKind.wrap .i64 (i_1 + 2)
             some (y40, v41))) (
            br (v17 == 123) (
             br Du (
              ob (aT n (t_3, i_1, 43)) fun y42 =>
              some (y42, i_1)) (
              ob (aT n (t_3, i_1, 40)) fun y43 =>
              some (y43, i_1))) (
             ob (aT n (t_3, i_1, 40)) fun y44 =>
             some (y44, i_1)))))) (
         br (v17 == 110) (
          ob (iI n [10]) fun y45 =>
          ob (fC n (t_3, y45)) fun y46 =>
          let v47 : Int := IntKind.wrap .i64 (i_1 + 2)
          some (y46, v47)) (
          ob (je n ([46, 91, 92, 42, 94, 36, 47], v17)) fun y48 =>
          br y48 (
           let v49 : Int := IntKind.wrap .i64 (i_1 + 1)
           let v50 : Int := IntKind.wrap .i64 (i_1 + 2)
           chk ((decide (0 <= v50) && decide (v50 <= (s_0.length : Int)) && (decide (0 <= v49) && decide (v49 <= v50)))) (
            let v51 : List UInt8 := (s_0.take v50.toNat).drop v49.toNat
            ob (iI n v51) fun y52 =>
            ob (fC n (t_3, y52)) fun y53 =>
            let v54 : Int := IntKind.wrap .i64 (i_1 + 2)
            some (y53, v54))) (
           br (v17 == 123) (
            br Du (
             ob (aT n (t_3, i_1, 43)) fun y55 =>
             some (y55, i_1)) (
             ob (aT n (t_3, i_1, 40)) fun y56 =>
             some (y56, i_1))) (
            ob (aT n (t_3, i_1, 40)) fun y57 =>
            some (y57, i_1))))))))))))
def nD (n : Nat) (g0 : List UInt8 × Int × Int × Int × Unit -> Option (Int × Int)) (x1 : List UInt8 × Int × Int × Int × Unit) : Option (Int × Int) :=
 let s_2 : List UInt8 := x1.1
 let i_3 : Int := x1.2.1
 let n_4 : Int := x1.2.2.1
 let k_5 : Int := x1.2.2.2.1
 br (decide (k_5 < (s_2.length : Int))) (
  let v6 : Int := IntKind.wrap .i64 (i_3 + 3)
  br (decide (k_5 < v6)) (
   chk (inB k_5 s_2.length) (
    let v7 : Int := ((aG 0 s_2 k_5).toNat : Int)
    br (decide (v7 ≥ 48)) (
     chk (inB k_5 s_2.length) (
      let v8 : Int := ((aG 0 s_2 k_5).toNat : Int)
      br (decide (v8 <= 57)) (
       let v9 : Int := IntKind.wrap .i64 (n_4 * 10)
       chk (inB k_5 s_2.length) (
        let v10 : Int := ((aG 0 s_2 k_5).toNat : Int)
        let v11 : Int := IntKind.wrap .u8 (v10 - 48)
        let v12 : Int := IntKind.wrap .i64 (v9 + (IntKind.wrap .i64 v11))
        let v13 : Int := IntKind.wrap .i64 (k_5 + 1)
        g0 (s_2, i_3, v12, v13, ()))) (
       br (k_5 == i_3) (
        some (0, (-1))) (
        some (n_4, k_5))))) (
     br (k_5 == i_3) (
      some (0, (-1))) (
      some (n_4, k_5))))) (
   br (k_5 == i_3) (
    some (0, (-1))) (
    some (n_4, k_5)))) (
  br (k_5 == i_3) (
   some (0, (-1))) (
   some (n_4, k_5)))
def oJ (n : Nat) (x : List UInt8 × Int) : Option (Int × Int) :=
 let s_0 : List UInt8 := x.1
 let i_1 : Int := x.2
 fix (nD n) n (s_0, i_1, 0, i_1, ())
def qx (n : Nat) (x : List UInt8 × Int × List UInt8) : Option (Int × Int × Int) :=
 let s_0 : List UInt8 := x.1
 let i_1 : Int := x.2.1
 let oK : List UInt8 := x.2.2
 ob (oJ n (s_0, i_1)) fun y1 =>
 br (decide (y1.2 < 0)) (
  some (0, 0, (-1))) (
  br (decide (y1.2 < (s_0.length : Int))) (
   chk (inB y1.2 s_0.length) (
    let v2 : Int := ((aG 0 s_0 y1.2).toNat : Int)
    br (v2 == 44) (
     let v3 : Int := IntKind.wrap .i64 (y1.2 + 1)
     ob (oJ n (s_0, v3)) fun y4 =>
     br (decide (y4.2 ≥ 0)) (
      let v5 : Int := IntKind.wrap .i64 (y4.2 + (oK.length : Int))
      br (decide (v5 > (s_0.length : Int))) (
       some (0, 0, (-1))) (
       let v6 : Int := IntKind.wrap .i64 (y4.2 + (oK.length : Int))
       chk ((decide (0 <= v6) && decide (v6 <= (s_0.length : Int)) && (decide (0 <= y4.2) && decide (y4.2 <= v6)))) (
        let v7 : List UInt8 := (s_0.take v6.toNat).drop y4.2.toNat
        br (!(v7 == oK)) (
         some (0, 0, (-1))) (
         br (decide (y1.1 > 255)) (
          some (0, 0, (-1))) (
          br (decide (y4.1 > 255)) (
           some (0, 0, (-1))) (
           br (decide (y4.1 ≥ 0)) (
            br (decide (y4.1 < y1.1)) (
             some (0, 0, (-1))) (
             br (y4.1 == 0) (
              some (0, 0, (-1))) (
              let v8 : Int := IntKind.wrap .i64 (y4.2 + (oK.length : Int))
              some (y1.1, y4.1, v8)))) (
            br (y4.1 == 0) (
             some (0, 0, (-1))) (
             let v9 : Int := IntKind.wrap .i64 (y4.2 + (oK.length : Int))
             some (y1.1, y4.1, v9))))))))) (
      let v10 : Int := IntKind.wrap .i64 (v3 + (oK.length : Int))
      br (decide (v10 > (s_0.length : Int))) (
       some (0, 0, (-1))) (
       let v11 : Int := IntKind.wrap .i64 (v3 + (oK.length : Int))
       chk ((decide (0 <= v11) && decide (v11 <= (s_0.length : Int)) && (decide (0 <= v3) && decide (v3 <= v11)))) (
        let v12 : List UInt8 := (s_0.take v11.toNat).drop v3.toNat
        br (!(v12 == oK)) (
         some (0, 0, (-1))) (
         br (decide (y1.1 > 255)) (
          some (0, 0, (-1))) (
          br (decide (((-1) : Int) > 255)) (
           some (0, 0, (-1))) (
           br (decide (((-1) : Int) ≥ 0)) (
            br (decide (((-1) : Int) < y1.1)) (
             some (0, 0, (-1))) (
             br (((-1) : Int) == 0) (
              some (0, 0, (-1))) (
              let v13 : Int := IntKind.wrap .i64 (v3 + (oK.length : Int))
              some (y1.1, (-1), v13)))) (
            br (((-1) : Int) == 0) (
             some (0, 0, (-1))) (
             let v14 : Int := IntKind.wrap .i64 (v3 + (oK.length : Int))
             some (y1.1, (-1), v14)))))))))) (
     let v15 : Int := IntKind.wrap .i64 (y1.2 + (oK.length : Int))
     br (decide (v15 > (s_0.length : Int))) (
      some (0, 0, (-1))) (
      let v16 : Int := IntKind.wrap .i64 (y1.2 + (oK.length : Int))
      chk ((decide (0 <= v16) && decide (v16 <= (s_0.length : Int)) && (decide (0 <= y1.2) && decide (y1.2 <= v16)))) (
       let v17 : List UInt8 := (s_0.take v16.toNat).drop y1.2.toNat
       br (!(v17 == oK)) (
        some (0, 0, (-1))) (
        br (decide (y1.1 > 255)) (
         some (0, 0, (-1))) (
         br (decide (y1.1 > 255)) (
          some (0, 0, (-1))) (
          br (decide (y1.1 ≥ 0)) (
           br (decide (y1.1 < y1.1)) (
            some (0, 0, (-1))) (
            br (y1.1 == 0) (
             some (0, 0, (-1))) (
             let v18 : Int := IntKind.wrap .i64 (y1.2 + (oK.length : Int))
             some (y1.1, y1.1, v18)))) (
           br (y1.1 == 0) (
            some (0, 0, (-1))) (
            let v19 : Int := IntKind.wrap .i64 (y1.2 + (oK.length : Int))
            some (y1.1, y1.1, v19))))))))))) (
   let v20 : Int := IntKind.wrap .i64 (y1.2 + (oK.length : Int))
   br (decide (v20 > (s_0.length : Int))) (
    some (0, 0, (-1))) (
    let v21 : Int := IntKind.wrap .i64 (y1.2 + (oK.length : Int))
    chk ((decide (0 <= v21) && decide (v21 <= (s_0.length : Int)) && (decide (0 <= y1.2) && decide (y1.2 <= v21)))) (
     let v22 : List UInt8 := (s_0.take v21.toNat).drop y1.2.toNat
     br (!(v22 == oK)) (
      some (0, 0, (-1))) (
      br (decide (y1.1 > 255)) (
       some (0, 0, (-1))) (
       br (decide (y1.1 > 255)) (
        some (0, 0, (-1))) (
        br (decide (y1.1 ≥ 0)) (
         br (decide (y1.1 < y1.1)) (
          some (0, 0, (-1))) (
          br (y1.1 == 0) (
           some (0, 0, (-1))) (
           let v23 : Int := IntKind.wrap .i64 (y1.2 + (oK.length : Int))
           some (y1.1, y1.1, v23)))) (
         br (y1.1 == 0) (
          some (0, 0, (-1))) (
          let v24 : Int := IntKind.wrap .i64 (y1.2 + (oK.length : Int))
          some (y1.1, y1.1, v24))))))))))
def uh (n : Nat) (x : List UInt8 × Int × List (NdT) × Int × List (Bool) × Int × Int × Unit) : Option ((List (NdT) × Int × List (Bool) × Int × Int × Unit) × Int) :=
 let s_0 : List UInt8 := x.1
 let i_1 : Int := x.2.1
 let t_2 : List (NdT) × Int × List (Bool) × Int × Int × Unit := x.2.2
 br (decide (i_1 < (s_0.length : Int))) (
  chk (inB i_1 s_0.length) (
   let v1 : Int := ((aG 0 s_0 i_1).toNat : Int)
   br (v1 == 42) (
    let v2 : Int := IntKind.wrap .i64 (i_1 + 1)
    let v3 : Int := IntKind.wrap .i64 ((t_2.1.length : Int) - 1)
    ob (dZ n (t_2, (6, ([0, 0, 0, 0], (v3, (0, (0, ((-1), (0, ()))))))))) fun y4 =>
    br (decide (v2 < (s_0.length : Int))) (
     chk (inB v2 s_0.length) (
      let v5 : Int := ((aG 0 s_0 v2).toNat : Int)
      br (v5 == 42) (
       ob (aT n (y4, v2, 43)) fun y6 =>
       some (y6, v2)) (
       let v7 : Int := IntKind.wrap .i64 (v2 + 1)
       br (decide (v7 < (s_0.length : Int))) (
        let v8 : Int := IntKind.wrap .i64 (v2 + 2)
        chk ((decide (0 <= v8) && decide (v8 <= (s_0.length : Int)) && (decide (0 <= v2) && decide (v2 <= v8)))) (
         let v9 : List UInt8 := (s_0.take v8.toNat).drop v2.toNat
         br (v9 == [92, 123]) (
          ob (aT n (y4, v2, 43)) fun y10 =>
          some (y10, v2)) (
          some (y4, v2)))) (
        some (y4, v2))))) (
     let v11 : Int := IntKind.wrap .i64 (v2 + 1)
     br (decide (v11 < (s_0.length : Int))) (
      let v12 : Int := IntKind.wrap .i64 (v2 + 2)
      chk ((decide (0 <= v12) && decide (v12 <= (s_0.length : Int)) && (decide (0 <= v2) && decide (v2 <= v12)))) (
       let v13 : List UInt8 := (s_0.take v12.toNat).drop v2.toNat
       br (v13 == [92, 123]) (
        ob (aT n (y4, v2, 43)) fun y14 =>
        some (y14, v2)) (
        some (y4, v2)))) (
      some (y4, v2)))) (
    let v15 : Int := IntKind.wrap .i64 (i_1 + 1)
    br (decide (v15 < (s_0.length : Int))) (
     let v16 : Int := IntKind.wrap .i64 (i_1 + 2)
     chk ((decide (0 <= v16) && decide (v16 <= (s_0.length : Int)) && (decide (0 <= i_1) && decide (i_1 <= v16)))) (
      let v17 : List UInt8 := (s_0.take v16.toNat).drop i_1.toNat
      br (v17 == [92, 123]) (
       let v18 : Int := IntKind.wrap .i64 (i_1 + 2)
       ob (qx n (s_0, v18, [92, 125])) fun y19 =>
       br (decide (y19.2.2 < 0)) (
        ob (aT n (t_2, i_1, 43)) fun y20 =>
        some (y20, i_1)) (
        let v21 : Int := IntKind.wrap .i64 ((t_2.1.length : Int) - 1)
        ob (dZ n (t_2, (6, ([0, 0, 0, 0], (v21, (0, (y19.1, (y19.2.1, (0, ()))))))))) fun y22 =>
        br (decide (y19.2.2 < (s_0.length : Int))) (
         chk (inB y19.2.2 s_0.length) (
          let v23 : Int := ((aG 0 s_0 y19.2.2).toNat : Int)
          br (v23 == 42) (
           ob (aT n (y22, y19.2.2, 43)) fun y24 =>
           some (y24, y19.2.2)) (
           let v25 : Int := IntKind.wrap .i64 (y19.2.2 + 1)
           br (decide (v25 < (s_0.length : Int))) (
            let v26 : Int := IntKind.wrap .i64 (y19.2.2 + 2)
            chk ((decide (0 <= v26) && decide (v26 <= (s_0.length : Int)) && (decide (0 <= y19.2.2) && decide (y19.2.2 <= v26)))) (
             let v27 : List UInt8 := (s_0.take v26.toNat).drop y19.2.2.toNat
             br (v27 == [92, 123]) (
              ob (aT n (y22, y19.2.2, 43)) fun y28 =>
              some (y28, y19.2.2)) (
              some (y22, y19.2.2)))) (
            some (y22, y19.2.2))))) (
         let v29 : Int := IntKind.wrap .i64 (y19.2.2 + 1)
         br (decide (v29 < (s_0.length : Int))) (
          let v30 : Int := IntKind.wrap .i64 (y19.2.2 + 2)
          chk ((decide (0 <= v30) && decide (v30 <= (s_0.length : Int)) && (decide (0 <= y19.2.2) && decide (y19.2.2 <= v30)))) (
           let v31 : List UInt8 := (s_0.take v30.toNat).drop y19.2.2.toNat
           br (v31 == [92, 123]) (
            ob (aT n (y22, y19.2.2, 43)) fun y32 =>
            some (y32, y19.2.2)) (
            some (y22, y19.2.2)))) (
          some (y22, y19.2.2))))) (
       some (t_2, i_1)))) (
     some (t_2, i_1))))) (
  let v33 : Int := IntKind.wrap .i64 (i_1 + 1)
  br (decide (v33 < (s_0.length : Int))) (
   let v34 : Int := IntKind.wrap .i64 (i_1 + 2)
   chk ((decide (0 <= v34) && decide (v34 <= (s_0.length : Int)) && (decide (0 <= i_1) && decide (i_1 <= v34)))) (
    let v35 : List UInt8 := (s_0.take v34.toNat).drop i_1.toNat
    br (v35 == [92, 123]) (
     let v36 : Int := IntKind.wrap .i64 (i_1 + 2)
     ob (qx n (s_0, v36, [92, 125])) fun y37 =>
     br (decide (y37.2.2 < 0)) (
      ob (aT n (t_2, i_1, 43)) fun y38 =>
      some (y38, i_1)) (
      let v39 : Int := IntKind.wrap .i64 ((t_2.1.length : Int) - 1)
      ob (dZ n (t_2, (6, ([0, 0, 0, 0], (v39, (0, (y37.1, (y37.2.1, (0, ()))))))))) fun y40 =>
      br (decide (y37.2.2 < (s_0.length : Int))) (
       chk (inB y37.2.2 s_0.length) (
        let v41 : Int := ((aG 0 s_0 y37.2.2).toNat : Int)
        br (v41 == 42) (
         ob (aT n (y40, y37.2.2, 43)) fun y42 =>
         some (y42, y37.2.2)) (
         let v43 : Int := IntKind.wrap .i64 (y37.2.2 + 1)
         br (decide (v43 < (s_0.length : Int))) (
          let v44 : Int := IntKind.wrap .i64 (y37.2.2 + 2)
          chk ((decide (0 <= v44) && decide (v44 <= (s_0.length : Int)) && (decide (0 <= y37.2.2) && decide (y37.2.2 <= v44)))) (
           let v45 : List UInt8 := (s_0.take v44.toNat).drop y37.2.2.toNat
           br (v45 == [92, 123]) (
            ob (aT n (y40, y37.2.2, 43)) fun y46 =>
            some (y46, y37.2.2)) (
            some (y40, y37.2.2)))) (
          some (y40, y37.2.2))))) (
       let v47 : Int := IntKind.wrap .i64 (y37.2.2 + 1)
       br (decide (v47 < (s_0.length : Int))) (
        let v48 : Int := IntKind.wrap .i64 (y37.2.2 + 2)
        chk ((decide (0 <= v48) && decide (v48 <= (s_0.length : Int)) && (decide (0 <= y37.2.2) && decide (y37.2.2 <= v48)))) (
         let v49 : List UInt8 := (s_0.take v48.toNat).drop y37.2.2.toNat
         br (v49 == [92, 123]) (
          ob (aT n (y40, y37.2.2, 43)) fun y50 =>
          some (y50, y37.2.2)) (
          some (y40, y37.2.2)))) (
        some (y40, y37.2.2))))) (
     some (t_2, i_1)))) (
   some (t_2, i_1)))
def nE (n : Nat) (g1 : Int × Int × List (NdT) × Int × List (Bool) × Int × Int × List (NdT) × Int × List (Bool) × Int × Int × List (Int) × Unit -> Option ((List (NdT) × Int × List (Bool) × Int × Int × Unit) × Int)) (x87 : Int × Int × List (NdT) × Int × List (Bool) × Int × Int × List (NdT) × Int × List (Bool) × Int × Int × List (Int) × Unit) : Option ((List (NdT) × Int × List (Bool) × Int × Int × Unit) × Int) :=
 let zcn : Int := x87.1
 let RL : Int := x87.2.1
 let l90 : List (NdT) := x87.2.2.1
 let UH : Int := x87.2.2.2.1
 let UJ : List (Bool) := x87.2.2.2.2.1
 let zco : Int := x87.2.2.2.2.2.1
 let e94 : Int := x87.2.2.2.2.2.2.1
 let l95 : List (NdT) := x87.2.2.2.2.2.2.2.1
 let zaU : Int := x87.2.2.2.2.2.2.2.2.1
 let zaV : List (Bool) := x87.2.2.2.2.2.2.2.2.2.1
 let zd2 : Int := x87.2.2.2.2.2.2.2.2.2.2.1
 let e99 : Int := x87.2.2.2.2.2.2.2.2.2.2.2.1
 let Dv : List (Int) := x87.2.2.2.2.2.2.2.2.2.2.2.2.1
 br (decide (RL ≥ 0)) (
  chk ((inB RL (Dv.length) && decide (0 + (Dv.length) <= Dv.length))) (
   chk (decide (0 + RL.toNat < Dv.length)) (
    let zd3 : Int := Dv.getD (0 + RL.toNat) (Ty.dflt (.int .i64))
    let zd4 : Int := IntKind.wrap .i64 ((l90.length : Int) - 1)
    ob (dZ n ((l90, (UH, (UJ, (zco, (e94, ()))))), (4, ([0, 0, 0, 0], (zd3, (zd4, (0, (0, (0, ()))))))))) fun RN =>
    let zd5 : Int := IntKind.wrap .i64 (RL - 1)
    g1 (zcn, zd5, RN.1, RN.2.1, RN.2.2.1, RN.2.2.2.1, RN.2.2.2.2.1, l95, zaU, zaV, zd2, e99, Dv, ())))) (
  some ((l90, (UH, (UJ, (zco, (e94, ()))))), zcn))
def qP (n : Nat) (x72 : Int × List (NdT) × Int × List (Bool) × Int × Int × List (NdT) × Int × List (Bool) × Int × Int × List (Int) × Unit) : Option ((List (NdT) × Int × List (Bool) × Int × Int × Unit) × Int) :=
 let zd6 : Int := x72.1
 let l74 : List (NdT) := x72.2.1
 let zaW : Int := x72.2.2.1
 let zaX : List (Bool) := x72.2.2.2.1
 let zd7 : Int := x72.2.2.2.2.1
 let e78 : Int := x72.2.2.2.2.2.1
 let l79 : List (NdT) := x72.2.2.2.2.2.2.1
 let zaY : Int := x72.2.2.2.2.2.2.2.1
 let zaZ : List (Bool) := x72.2.2.2.2.2.2.2.2.1
 let zd8 : Int := x72.2.2.2.2.2.2.2.2.2.1
 let e83 : Int := x72.2.2.2.2.2.2.2.2.2.2.1
 let zae : List (Int) := x72.2.2.2.2.2.2.2.2.2.2.2.1
 let v85 : Int := ((zae.length : Nat) : Int)
 let v86 : Int := IntKind.wrap .i64 (v85 - 2)
 fix (nE n) n (zd6, v86, l74, zaW, zaX, zd7, e78, l79, zaY, zaZ, zd8, e83, zae, ())
def nG (n : Nat) (g0 : List UInt8 × Int × Bool × List (NdT) × Int × List (Bool) × Int × Int × List (NdT) × Int × List (Bool) × Int × Int × List (Int) × Unit -> Option ((List (NdT) × Int × List (Bool) × Int × Int × Unit) × Int)) (xq : List UInt8 × Int × List (NdT) × Int × List (Bool) × Int × Int × List (NdT) × Int × List (Bool) × Int × Int × List (Int) × Unit) : Option ((List (NdT) × Int × List (Bool) × Int × Int × Unit) × Int) :=
 let zdf : List UInt8 := xq.1
 let zaf : Int := xq.2.1
 let Zc : List (NdT) := xq.2.2.1
 let RO : Int := xq.2.2.2.1
 let RQ : List (Bool) := xq.2.2.2.2.1
 let zah : Int := xq.2.2.2.2.2.1
 let e129 : Int := xq.2.2.2.2.2.2.1
 let zd9 : List (NdT) := xq.2.2.2.2.2.2.2.1
 let Zd : Int := xq.2.2.2.2.2.2.2.2.1
 let Ze : List (Bool) := xq.2.2.2.2.2.2.2.2.2.1
 let zdg : Int := xq.2.2.2.2.2.2.2.2.2.2.1
 let zea : Int := xq.2.2.2.2.2.2.2.2.2.2.2.1
 let XE : List (Int) := xq.2.2.2.2.2.2.2.2.2.2.2.2.1
 br (e129 != 0) (
  some ((Zc, (RO, (RQ, (zah, (e129, ()))))), zaf)) (
  let zcp : Int := IntKind.wrap .i64 ((Zc.length : Int) - 1)
  chk (Nat.ble ((XE.length + ([zcp] : List (Int)).length) * 8) room) (
   g0 (zdf, zaf, false, Zc, RO, RQ, zah, e129, zd9, Zd, Ze, zdg, zea, XE ++ [zcp], ())))
def Cc (n : Nat) (bK : (List UInt8 × Int × List (NdT) × Int × List (Bool) × Int × Int × Unit) -> Option ((List (NdT) × Int × List (Bool) × Int × Int × Unit) × Int)) (g0 : List UInt8 × Int × Bool × List (NdT) × Int × List (Bool) × Int × Int × List (NdT) × Int × List (Bool) × Int × Int × List (Int) × Unit -> Option ((List (NdT) × Int × List (Bool) × Int × Int × Unit) × Int)) (x105 : List UInt8 × Int × Bool × List (NdT) × Int × List (Bool) × Int × Int × List (NdT) × Int × List (Bool) × Int × Int × List (Int) × Unit) : Option ((List (NdT) × Int × List (Bool) × Int × Int × Unit) × Int) :=
 let Qx : List UInt8 := x105.1
 let zdh : Int := x105.2.1
 let XF : Bool := x105.2.2.1
 let zeb : List (NdT) := x105.2.2.2.1
 let Zf : Int := x105.2.2.2.2.1
 let Zg : List (Bool) := x105.2.2.2.2.2.1
 let zdi : Int := x105.2.2.2.2.2.2.1
 let zec : Int := x105.2.2.2.2.2.2.2.1
 let zcq : List (NdT) := x105.2.2.2.2.2.2.2.2.1
 let RS : Int := x105.2.2.2.2.2.2.2.2.2.1
 let RU : List (Bool) := x105.2.2.2.2.2.2.2.2.2.2.1
 let zai : Int := x105.2.2.2.2.2.2.2.2.2.2.2.1
 let e118 : Int := x105.2.2.2.2.2.2.2.2.2.2.2.2.1
 let XG : List (Int) := x105.2.2.2.2.2.2.2.2.2.2.2.2.2.1
 ob (wC n bK (Qx, zdh, XF, (zeb, (Zf, (Zg, (zdi, (zec, ()))))))) fun Eu =>
 br (Eu.1.2.2.2.2.1 == 0) (
  ob (uh n (Qx, Eu.2, Eu.1)) fun NJ =>
  jn (nG n g0) (Qx, NJ.2, NJ.1.1, NJ.1.2.1, NJ.1.2.2.1, NJ.1.2.2.2.1, NJ.1.2.2.2.2.1, zcq, RS, RU, zai, e118, XG, ())) (
  jn (nG n g0) (Qx, Eu.2, Eu.1.1, Eu.1.2.1, Eu.1.2.2.1, Eu.1.2.2.2.1, Eu.1.2.2.2.2.1, zcq, RS, RU, zai, e118, XG, ()))
def jY (n : Nat) (bK : (List UInt8 × Int × List (NdT) × Int × List (Bool) × Int × Int × Unit) -> Option ((List (NdT) × Int × List (Bool) × Int × Int × Unit) × Int)) (g0 : List UInt8 × Int × Bool × List (NdT) × Int × List (Bool) × Int × Int × List (NdT) × Int × List (Bool) × Int × Int × List (Int) × Unit -> Option ((List (NdT) × Int × List (Bool) × Int × Int × Unit) × Int)) (x53 : List UInt8 × Int × Bool × Bool × List (NdT) × Int × List (Bool) × Int × Int × List (NdT) × Int × List (Bool) × Int × Int × List (Int) × Unit) : Option ((List (NdT) × Int × List (Bool) × Int × Int × Unit) × Int) :=
 let zed : List UInt8 := x53.1
 let zcr : Int := x53.2.1
 let Zh : Bool := x53.2.2.1
 let zcs : Bool := x53.2.2.2.1
 let l58 : List (NdT) := x53.2.2.2.2.1
 let UK : Int := x53.2.2.2.2.2.1
 let UL : List (Bool) := x53.2.2.2.2.2.2.1
 let zct : Int := x53.2.2.2.2.2.2.2.1
 let e62 : Int := x53.2.2.2.2.2.2.2.2.1
 let l63 : List (NdT) := x53.2.2.2.2.2.2.2.2.2.1
 let UM : Int := x53.2.2.2.2.2.2.2.2.2.2.1
 let UN : List (Bool) := x53.2.2.2.2.2.2.2.2.2.2.2.1
 let zcu : Int := x53.2.2.2.2.2.2.2.2.2.2.2.2.1
 let e67 : Int := x53.2.2.2.2.2.2.2.2.2.2.2.2.2.1
 let Wj : List (Int) := x53.2.2.2.2.2.2.2.2.2.2.2.2.2.2.1
 br zcs (
  ob (dZ n ((l58, (UK, (UL, (zct, (e62, ()))))), (3, ([0, 0, 0, 0], (0, (0, (0, (0, (0, ()))))))))) fun y69 =>
  let v70 : Int := IntKind.wrap .i64 ((y69.1.length : Int) - 1)
  chk (Nat.ble ((Wj.length + ([v70] : List (Int)).length) * 8) room) (
   let v71 : Int := IntKind.wrap .i64 (zcr + 1)
   jn (qP n) (v71, y69.1, y69.2.1, y69.2.2.1, y69.2.2.2.1, y69.2.2.2.2.1, l63, UM, UN, zcu, e67, Wj ++ [v70], ()))) (
  jn (Cc n bK g0) (zed, zcr, Zh, l58, UK, UL, zct, e62, l63, UM, UN, zcu, e67, Wj, ()))
def nH (n : Nat) (bK : (List UInt8 × Int × List (NdT) × Int × List (Bool) × Int × Int × Unit) -> Option ((List (NdT) × Int × List (Bool) × Int × Int × Unit) × Int)) (g0 : List UInt8 × Int × Bool × List (NdT) × Int × List (Bool) × Int × Int × List (NdT) × Int × List (Bool) × Int × Int × List (Int) × Unit -> Option ((List (NdT) × Int × List (Bool) × Int × Int × Unit) × Int)) (x34 : List UInt8 × Int × Bool × List (NdT) × Int × List (Bool) × Int × Int × List (NdT) × Int × List (Bool) × Int × Int × List (Int) × Unit) : Option ((List (NdT) × Int × List (Bool) × Int × Int × Unit) × Int) :=
 let NK : List UInt8 := x34.1
 let Kl : Int := x34.2.1
 let xk : Bool := x34.2.2.1
 let l38 : List (NdT) := x34.2.2.2.1
 let NM : Int := x34.2.2.2.2.1
 let NP : List (Bool) := x34.2.2.2.2.2.1
 let Zi : Int := x34.2.2.2.2.2.2.1
 let e42 : Int := x34.2.2.2.2.2.2.2.1
 let l43 : List (NdT) := x34.2.2.2.2.2.2.2.2.1
 let NQ : Int := x34.2.2.2.2.2.2.2.2.2.1
 let NR : List (Bool) := x34.2.2.2.2.2.2.2.2.2.2.1
 let Zj : Int := x34.2.2.2.2.2.2.2.2.2.2.2.1
 let e47 : Int := x34.2.2.2.2.2.2.2.2.2.2.2.2.1
 let Wm : List (Int) := x34.2.2.2.2.2.2.2.2.2.2.2.2.2.1
 ob (oI n (NK, Kl)) fun y49 =>
 br (!y49) (
  chk (inB Kl NK.length) (
   let v50 : Int := ((aG 0 NK Kl).toNat : Int)
   br (v50 == 36) (
    let v51 : Int := IntKind.wrap .i64 (Kl + 1)
    ob (oI n (NK, v51)) fun y52 =>
    jn (jY n bK g0) (NK, Kl, xk, y52, l38, NM, NP, Zi, e42, l43, NQ, NR, Zj, e47, Wm, ())) (
    jn (jY n bK g0) (NK, Kl, xk, false, l38, NM, NP, Zi, e42, l43, NQ, NR, Zj, e47, Wm, ())))) (
  jn (qP n) (Kl, l38, NM, NP, Zi, e42, l43, NQ, NR, Zj, e47, Wm, ()))
def qQ (n : Nat) (bK : (List UInt8 × Int × List (NdT) × Int × List (Bool) × Int × Int × Unit) -> Option ((List (NdT) × Int × List (Bool) × Int × Int × Unit) × Int)) (x20 : List UInt8 × Int × List (NdT) × Int × List (Bool) × Int × Int × List (NdT) × Int × List (Bool) × Int × Int × List (Int) × Unit) : Option ((List (NdT) × Int × List (Bool) × Int × Int × Unit) × Int) :=
 let zee : List UInt8 := x20.1
 let rD : Int := x20.2.1
 let l23 : List (NdT) := x20.2.2.1
 let za0 : Int := x20.2.2.2.1
 let za1 : List (Bool) := x20.2.2.2.2.1
 let zef : Int := x20.2.2.2.2.2.1
 let e27 : Int := x20.2.2.2.2.2.2.1
 let l28 : List (NdT) := x20.2.2.2.2.2.2.2.1
 let za2 : Int := x20.2.2.2.2.2.2.2.2.1
 let za3 : List (Bool) := x20.2.2.2.2.2.2.2.2.2.1
 let zeg : Int := x20.2.2.2.2.2.2.2.2.2.2.1
 let e32 : Int := x20.2.2.2.2.2.2.2.2.2.2.2.1
 let Qq : List (Int) := x20.2.2.2.2.2.2.2.2.2.2.2.2.1
 fix (nH n bK) n (zee, rD, true, l23, za0, za1, zef, e27, l28, za2, za3, zeg, e32, Qq, ())
def qR (n : Nat) (bK : (List UInt8 × Int × List (NdT) × Int × List (Bool) × Int × Int × Unit) -> Option ((List (NdT) × Int × List (Bool) × Int × Int × Unit) × Int)) (x2 : List UInt8 × Int × Bool × List (NdT) × Int × List (Bool) × Int × Int × List (NdT) × Int × List (Bool) × Int × Int × List (Int) × Unit) : Option ((List (NdT) × Int × List (Bool) × Int × Int × Unit) × Int) :=
 let s_3 : List UInt8 := x2.1
 let i_4 : Int := x2.2.1
 let zdj : Bool := x2.2.2.1
 let l6 : List (NdT) := x2.2.2.2.1
 let XH : Int := x2.2.2.2.2.1
 let XI : List (Bool) := x2.2.2.2.2.2.1
 let at9 : Int := x2.2.2.2.2.2.2.1
 let e10 : Int := x2.2.2.2.2.2.2.2.1
 let l11 : List (NdT) := x2.2.2.2.2.2.2.2.2.1
 let UO : Int := x2.2.2.2.2.2.2.2.2.2.1
 let UQ : List (Bool) := x2.2.2.2.2.2.2.2.2.2.2.1
 let zcv : Int := x2.2.2.2.2.2.2.2.2.2.2.2.1
 let e15 : Int := x2.2.2.2.2.2.2.2.2.2.2.2.2.1
 let Cb : List (Int) := x2.2.2.2.2.2.2.2.2.2.2.2.2.2.1
 br zdj (
  ob (dZ n ((l6, (XH, (XI, (at9, (e10, ()))))), (2, ([0, 0, 0, 0], (0, (0, (0, (0, (0, ()))))))))) fun y17 =>
  let v18 : Int := IntKind.wrap .i64 ((y17.1.length : Int) - 1)
  chk (Nat.ble ((Cb.length + ([v18] : List (Int)).length) * 8) room) (
   let v19 : Int := IntKind.wrap .i64 (i_4 + 1)
   jn (qQ n bK) (s_3, v19, y17.1, y17.2.1, y17.2.2.1, y17.2.2.2.1, y17.2.2.2.2.1, l11, UO, UQ, zcv, e15, Cb ++ [v18], ()))) (
  jn (qQ n bK) (s_3, i_4, l6, XH, XI, at9, e10, l11, UO, UQ, zcv, e15, Cb, ()))
def sJ (n : Nat) (bK : (List UInt8 × Int × List (NdT) × Int × List (Bool) × Int × Int × Unit) -> Option ((List (NdT) × Int × List (Bool) × Int × Int × Unit) × Int)) (x : List UInt8 × Int × List (NdT) × Int × List (Bool) × Int × Int × Unit) : Option ((List (NdT) × Int × List (Bool) × Int × Int × Unit) × Int) :=
 let s_0 : List UInt8 := x.1
 let i_1 : Int := x.2.1
 let t_2 : List (NdT) × Int × List (Bool) × Int × Int × Unit := x.2.2
 br (decide (i_1 < (s_0.length : Int))) (
  chk (inB i_1 s_0.length) (
   let v1 : Int := ((aG 0 s_0 i_1).toNat : Int)
   jn (qR n bK) (s_0, i_1, (v1 == 94), t_2.1, t_2.2.1, t_2.2.2.1, t_2.2.2.2.1, t_2.2.2.2.2.1, [], 0, [false, false, false, false, false, false, false, false, false, false], 0, 0, [], ()))) (
  jn (qR n bK) (s_0, i_1, false, t_2.1, t_2.2.1, t_2.2.2.1, t_2.2.2.2.1, t_2.2.2.2.2.1, [], 0, [false, false, false, false, false, false, false, false, false, false], 0, 0, [], ()))
def lg (n : Nat) : (List UInt8 × Int × List (NdT) × Int × List (Bool) × Int × Int × Unit) -> Option ((List (NdT) × Int × List (Bool) × Int × Int × Unit) × Int) :=
 Aw (fun n r x => sJ n r x) n
def uj (n : Nat) (x : List UInt8) : Option (List (NdT) × Int × Int) :=
 let s_0 : List UInt8 := x
 br (s_0 == []) (
  some ([(0, ([0, 0, 0, 0], (0, (0, (0, (0, (0, ())))))))], 0, 0)) (
  ob (lg n (s_0, 0, ([], (0, ([false, false, false, false, false, false, false, false, false, false], (0, (0, ()))))))) fun y1 =>
  br (y1.1.2.2.2.2.1 != 0) (
   some ([], y1.1.2.2.2.1, y1.1.2.2.2.2.1)) (
   br (decide (y1.2 < (s_0.length : Int))) (
    some ([], y1.2, 41)) (
    br (decide ((y1.1.1.length : Int) > 120)) (
     some ([], 0, 2)) (
     some (y1.1.1, 0, 0)))))
def qU (n : Nat) (g0 : List (NdT) × Int × List (NdT) × Unit -> Option (List (NdT))) (x1 : List (NdT) × Int × List (NdT) × Unit) : Option (List (NdT)) :=
 let l_2 : List (NdT) := x1.1
 let i_3 : Int := x1.2.1
 let Gz : List (NdT) := x1.2.2.1
 br (decide (i_3 < (l_2.length : Int))) (
  chk (inB i_3 l_2.length) (
   let v5 : Int × List (Int) × Int × Int × Int × Int × Int × Unit := aG (Ty.dflt ak) l_2 i_3
   chk (Nat.ble ((Gz.length + ([v5] : List (NdT)).length) * 80) room) (
    let v6 : Int := IntKind.wrap .i64 (i_3 + 1)
    g0 (l_2, v6, Gz ++ [v5], ())))) (
  some Gz)
def yL (n : Nat) (x : List (NdT)) : Option (List (NdT)) :=
 let l_0 : List (NdT) := x
 fix (qU n) n (l_0, 0, [], ())
def jI (n : Nat) (g0 : List (NdT) × List (NdT) × Int × Unit -> Option (Bool)) (x1 : List (NdT) × List (NdT) × Int × Unit) : Option (Bool) :=
 let a_2 : List (NdT) := x1.1
 let b_3 : List (NdT) := x1.2.1
 let i_4 : Int := x1.2.2.1
 br (decide (i_4 < (a_2.length : Int))) (
  chk (inB i_4 a_2.length) (
   let v5 : Int × List (Int) × Int × Int × Int × Int × Int × Unit := aG (Ty.dflt ak) a_2 i_4
   chk (inB i_4 b_3.length) (
    let v6 : Int × List (Int) × Int × Int × Int × Int × Int × Unit := aG (Ty.dflt ak) b_3 i_4
    br (!(Ty.beq ak v5 v6)) (
     some false) (
     let v7 : Int := IntKind.wrap .i64 (i_4 + 1)
     g0 (a_2, b_3, v7, ()))))) (
  some true)
def nI (n : Nat) (x : List (NdT) × List (NdT)) : Option (Bool) :=
 let a_0 : List (NdT) := x.1
 let b_1 : List (NdT) := x.2
 br ((a_0.length : Int) != (b_1.length : Int)) (
  some false) (
  fix (jI n) n (a_0, b_1, 0, ()))
def dN (n : Nat) (jq : (List (NdT) × Int) -> Option (List UInt8)) (x : List (NdT) × Int) : Option (List UInt8) :=
 let l_0 : List (NdT) := x.1
 let i_1 : Int := x.2
 chk (inB i_1 l_0.length) (
  let v1 : Int × List (Int) × Int × Int × Int × Int × Int × Unit := aG (Ty.dflt ak) l_0 i_1
  br (v1.1 == 1) (
   ob (wu n v1.2.1) fun y2 =>
   ob (wB n y2) fun y3 =>
   some y3) (
   br (v1.1 == 2) (
    some [94]) (
    br (v1.1 == 3) (
     some [36]) (
     br (v1.1 == 4) (
      ob (jq (l_0, v1.2.2.1)) fun y4 =>
      ob (jq (l_0, v1.2.2.2.1)) fun y5 =>
      chk (decide (y4.length + y5.length <= av)) (
       some (y4 ++ y5))) (
      br (v1.1 == 5) (
       some [124]) (
       br (v1.1 == 6) (
        ob (jq (l_0, v1.2.2.1)) fun y6 =>
        br (v1.2.2.2.2.1 == 0) (
         br (v1.2.2.2.2.2.1 == (-1)) (
          chk (decide (y6.length + ([42] : List UInt8).length <= av)) (
           some (y6 ++ [42]))) (
          br (v1.2.2.2.2.1 == v1.2.2.2.2.2.1) (
           chk (decide (y6.length + ([92, 123] : List UInt8).length <= av)) (
            ob (fq n v1.2.2.2.2.1) fun y7 =>
            chk (decide ((y6 ++ [92, 123]).length + y7.length <= av)) (
             chk (decide (((y6 ++ [92, 123]) ++ y7).length + ([92, 125] : List UInt8).length <= av)) (
              let v8 : List UInt8 := ((y6 ++ [92, 123]) ++ y7) ++ [92, 125]
              some v8)))) (
           br (v1.2.2.2.2.2.1 == (-1)) (
            chk (decide (y6.length + ([92, 123] : List UInt8).length <= av)) (
             ob (fq n v1.2.2.2.2.1) fun y9 =>
             chk (decide ((y6 ++ [92, 123]).length + y9.length <= av)) (
              chk (decide (((y6 ++ [92, 123]) ++ y9).length + ([44, 92, 125] : List UInt8).length <= av)) (
               let v10 : List UInt8 := ((y6 ++ [92, 123]) ++ y9) ++ [44, 92, 125]
               some v10)))) (
            chk (decide (y6.length + ([92, 123] : List UInt8).length <= av)) (
             ob (fq n v1.2.2.2.2.1) fun y11 =>
             chk (decide ((y6 ++ [92, 123]).length + y11.length <= av)) (
              chk (decide (((y6 ++ [92, 123]) ++ y11).length + ([44] : List UInt8).length <= av)) (
               let v12 : List UInt8 := ((y6 ++ [92, 123]) ++ y11) ++ [44]
               ob (fq n v1.2.2.2.2.2.1) fun y13 =>
               chk (decide (v12.length + y13.length <= av)) (
                chk (decide ((v12 ++ y13).length + ([92, 125] : List UInt8).length <= av)) (
                 let v14 : List UInt8 := (v12 ++ y13) ++ [92, 125]
                 some v14))))))))) (
         br (v1.2.2.2.2.1 == v1.2.2.2.2.2.1) (
          chk (decide (y6.length + ([92, 123] : List UInt8).length <= av)) (
           ob (fq n v1.2.2.2.2.1) fun y15 =>
           chk (decide ((y6 ++ [92, 123]).length + y15.length <= av)) (
            chk (decide (((y6 ++ [92, 123]) ++ y15).length + ([92, 125] : List UInt8).length <= av)) (
             let v16 : List UInt8 := ((y6 ++ [92, 123]) ++ y15) ++ [92, 125]
             some v16)))) (
          br (v1.2.2.2.2.2.1 == (-1)) (
           chk (decide (y6.length + ([92, 123] : List UInt8).length <= av)) (
            ob (fq n v1.2.2.2.2.1) fun y17 =>
            chk (decide ((y6 ++ [92, 123]).length + y17.length <= av)) (
             chk (decide (((y6 ++ [92, 123]) ++ y17).length + ([44, 92, 125] : List UInt8).length <= av)) (
              let v18 : List UInt8 := ((y6 ++ [92, 123]) ++ y17) ++ [44, 92, 125]
              some v18)))) (
           chk (decide (y6.length + ([92, 123] : List UInt8).length <= av)) (
            ob (fq n v1.2.2.2.2.1) fun y19 =>
            chk (decide ((y6 ++ [92, 123]).length + y19.length <= av)) (
             chk (decide (((y6 ++ [92, 123]) ++ y19).length + ([44] : List UInt8).length <= av)) (
              let v20 : List UInt8 := ((y6 ++ [92, 123]) ++ y19) ++ [44]
              ob (fq n v1.2.2.2.2.2.1) fun y21 =>
              chk (decide (v20.length + y21.length <= av)) (
               chk (decide ((v20 ++ y21).length + ([92, 125] : List UInt8).length <= av)) (
                let v22 : List UInt8 := (v20 ++ y21) ++ [92, 125]
                some v22))))))))) (
        br (v1.1 == 7) (
         ob (jq (l_0, v1.2.2.1)) fun y23 =>
         chk (decide ([92, 40].length + y23.length <= av)) (
          chk (decide (([92, 40] ++ y23).length + ([92, 41] : List UInt8).length <= av)) (
           let v24 : List UInt8 := ([92, 40] ++ y23) ++ [92, 41]
           some v24))) (
         br (v1.1 == 8) (
          ob (fq n v1.2.2.2.2.2.2.1) fun y25 =>
          chk (decide ([92].length + y25.length <= av)) (
           some ([92] ++ y25))) (
          some [])))))))))
def qy (n : Nat) : (List (NdT) × Int) -> Option (List UInt8) :=
 Aw (fun n r x => dN n r x) n
def qz (n : Nat) (x : List (NdT)) : Option (List UInt8 × Int) :=
 let l_0 : List (NdT) := x
 ob (o8 n l_0) fun y1 =>
 br (!y1) (
  some ([], 1)) (
  let v2 : Int := IntKind.wrap .i64 ((l_0.length : Int) - 1)
  ob (qy n (l_0, v2)) fun y3 =>
  ob (uj n y3) fun y4 =>
  br (y4.2.2 != 0) (
   some ([], 1)) (
   ob (nI n (y4.1, l_0)) fun y5 =>
   br (!y5) (
    some ([], 1)) (
    some (y3, 0))))
def wD (n : Nat) (x : List (NdT)) : Option (Bool) :=
 let l_0 : List (NdT) := x
 br (decide ((l_0.length : Int) > 130)) (
  ob (qw n ()) fun y1 =>
  some y1) (
  ob (qw n ()) fun y2 =>
  br (!y2) (
   ob (qw n ()) fun y3 =>
   some y3) (
   ob (o7 n l_0) fun y4 =>
   ob (yL n l_0) fun y5 =>
   ob (qz n y5) fun y6 =>
   br (y4.1 == y6.1) (
    some (y4.2 == y6.2)) (
    some false)))
end Go.Dec
