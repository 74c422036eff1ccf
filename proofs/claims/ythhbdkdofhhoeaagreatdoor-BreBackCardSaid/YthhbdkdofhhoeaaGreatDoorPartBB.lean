/- Part of a proof over this seat: a library of my own, and what it says of this seat. No statement is proved here. -/
import Derived.Test.YthhbdkdofhhoeaaGreatDoorPartAR
import Derived.Test.YthhbdkdofhhoeaaGreatDoorPartAU
namespace Go.Dec
set_option linter.unusedVariables false
abbrev aC : Ty := .pair (.int .i64) (.pair (.arr 4 (.int .u64)) (.pair (.int .i64) (.pair (.int .i64) (.pair (.int .i64) (.pair (.int .i64) (.pair (.int .i64) .unit))))))
abbrev zSk : Ty := .pair .str (.pair (.int .i64) .unit)
abbrev zNw : Ty := .pair (.int .i64) (.pair (.int .i64) .unit)
abbrev Dj : Ty := .pair .str (.pair (.int .i64) (.pair (.slice aC) (.pair (.int .i64) (.pair (.arr 10 .bool) .unit))))
abbrev Dk : Ty := .pair (.slice aC) (.pair (.int .i64) (.pair (.arr 10 .bool) zNw))
abbrev zGu : Ty := .pair .bool (.pair (.int .i64) (.pair (.arr 10 .bool) (.pair .bool .unit)))
abbrev NdT : Type := Int × List (Int) × Int × Int × Int × Int × Int × Unit
abbrev eT : Type := List UInt8 × Int × Int × List (Bool) × List (NdT) × Unit
abbrev nR : Type := Sum (Int × eT) (Int × Int × eT)
def fG (n : Nat) (x : List UInt8 × List UInt8) : Option (Bool) :=
 let s_0 : List UInt8 := x.1
 let Pk : List UInt8 := x.2
 br (decide ((s_0.length : Int) ≥ (Pk.length : Int))) (
  chk ((decide (0 <= (Pk.length : Int)) && decide ((Pk.length : Int) <= (s_0.length : Int)))) (
   let v1 : List UInt8 := s_0.take (Pk.length : Int).toNat
   some (v1 == Pk))) (
  some false)
def strings_HasPrefix (n : Nat) (x : List UInt8 × List UInt8) : Option (Bool) :=
 let s_0 : List UInt8 := x.1
 let Pk : List UInt8 := x.2
 ob (fG n (s_0, Pk)) fun y1 =>
 some y1
def aL (n : Nat) (x : List UInt8 × eT) : Option (Bool × eT) :=
 let t_1 : List UInt8 := x.1
 let s2 : List UInt8 := x.2.1
 let at3 : Int := x.2.2.1
 let dN : Int := x.2.2.2.1
 let dO : List (Bool) := x.2.2.2.2.1
 let aK : List (NdT) := x.2.2.2.2.2.1
 chk ((decide (0 <= at3) && decide (at3 <= (s2.length : Int)))) (
  ob (strings_HasPrefix n (s2.drop at3.toNat, t_1)) fun y7 =>
  some (y7, s2, at3, dN, dO, aK, ()))
def bJ (n : Nat) (x : List UInt8 × eT) : Option (Bool × eT) :=
 let t_1 : List UInt8 := x.1
 let s2 : List UInt8 := x.2.1
 let at3 : Int := x.2.2.1
 let dN : Int := x.2.2.2.1
 let dO : List (Bool) := x.2.2.2.2.1
 let aK : List (NdT) := x.2.2.2.2.2.1
 ob (aL n (t_1, s2, at3, dN, dO, aK, ())) fun y7 =>
 br (!y7.1) (
  some (false, y7.2.1, y7.2.2.1, y7.2.2.2.1, y7.2.2.2.2.1, y7.2.2.2.2.2.1, ())) (
  let v8 : Int := IntKind.wrap .i64 (y7.2.2.1 + (t_1.length : Int))
  some (true, y7.2.1, v8, y7.2.2.2.1, y7.2.2.2.2.1, y7.2.2.2.2.2.1, ()))
def bD (n : Nat) (x : Int × List (Int) × Int × Int × Int × Int × Int × eT) : Option (Int × eT) :=
 let n_1 : Int := x.1
 let n_2 : List (Int) := x.2.1
 let n_3 : Int := x.2.2.1
 let n_4 : Int := x.2.2.2.1
 let n_5 : Int := x.2.2.2.2.1
 let n_6 : Int := x.2.2.2.2.2.1
 let n_7 : Int := x.2.2.2.2.2.2.1
 let s8 : List UInt8 := x.2.2.2.2.2.2.2.1
 let at9 : Int := x.2.2.2.2.2.2.2.2.1
 let oH : Int := x.2.2.2.2.2.2.2.2.2.1
 let oI : List (Bool) := x.2.2.2.2.2.2.2.2.2.2.1
 let tZ : List (NdT) := x.2.2.2.2.2.2.2.2.2.2.2.1
 chk (Nat.ble ((tZ.length + ([(n_1, (n_2, (n_3, (n_4, (n_5, (n_6, (n_7, ())))))))] : List (NdT)).length) * 80) room) (
  let r13 : List (NdT) := tZ ++ [(n_1, (n_2, (n_3, (n_4, (n_5, (n_6, (n_7, ())))))))]
  let v14 : Int := ((r13.length : Nat) : Int)
  let v15 : Int := IntKind.wrap .i64 (v14 - 1)
  some (v15, s8, at9, oH, oI, r13, ()))
def kL (n : Nat) (x : eT) : Option (Bool × eT) :=
 let s1 : List UInt8 := x.1
 let at2 : Int := x.2.1
 let Ef : Int := x.2.2.1
 let Eh : List (Bool) := x.2.2.2.1
 let lS : List (NdT) := x.2.2.2.2.1
 br (at2 == (s1.length : Int)) (
  some (true, s1, at2, Ef, Eh, lS, ())) (
  ob (aL n ([92, 41], s1, at2, Ef, Eh, lS, ())) fun y6 =>
  some (y6.1, y6.2.1, y6.2.2.1, y6.2.2.2.1, y6.2.2.2.2.1, y6.2.2.2.2.2.1, ()))
def Xw (n : Nat) (g0 : Int × List (Int) × List (Int) × Unit -> Option (List (Int))) (x1 : Int × List (Int) × List (Int) × Unit) : Option (List (Int)) :=
 let Ke : Int := x1.1
 let b3 : List (Int) := x1.2.1
 let b4 : List (Int) := x1.2.2.1
 br (decide (Ke < 4)) (
  chk (inB Ke 4) (
   chk (decide (Ke.toNat < 4)) (
    let v5 : Int := b3.getD (Ke.toNat) (Ty.dflt (.int .u64))
    let v6 : Int := dD .u64 .xor 18446744073709551615 v5
    chk (inB Ke 4) (
     chk (decide (Ke.toNat < 4)) (
      let v7 : Int := IntKind.wrap .i64 (Ke + 1)
      g0 (v7, b3.set (Ke.toNat) v6, b4, ())))))) (
  some b3)
def Af (n : Nat) (x : List (Int)) : Option (List (Int)) :=
 let s_0 : List (Int) := x
 fix (Xw n) n (0, s_0, [0, 0, 0, 0], ())
def bS (n : Nat) (x : List (Int) × eT) : Option (Int × eT) :=
 let s_1 : List (Int) := x.1
 let s2 : List UInt8 := x.2.1
 let at3 : Int := x.2.2.1
 let dN : Int := x.2.2.2.1
 let dO : List (Bool) := x.2.2.2.2.1
 let aK : List (NdT) := x.2.2.2.2.2.1
 ob (bD n (1, s_1, 0, 0, 0, 0, 0, s2, at3, dN, dO, aK, ())) fun y7 =>
 some (y7.1, y7.2.1, y7.2.2.1, y7.2.2.2.1, y7.2.2.2.2.1, y7.2.2.2.2.2.1, ())
def dJ (n : Nat) (x : List UInt8 × List UInt8 × Int × Unit) : Option (Bool × List UInt8 × Int × Unit) :=
 let t_1 : List UInt8 := x.1
 let s2 : List UInt8 := x.2.1
 let at3 : Int := x.2.2.1
 chk ((decide (0 <= at3) && decide (at3 <= (s2.length : Int)))) (
  ob (strings_HasPrefix n (s2.drop at3.toNat, t_1)) fun y4 =>
  some (y4, s2, at3, ()))
def dB (n : Nat) (x : List UInt8 × List UInt8 × Int × Unit) : Option (Bool × List UInt8 × Int × Unit) :=
 let t_1 : List UInt8 := x.1
 let s2 : List UInt8 := x.2.1
 let at3 : Int := x.2.2.1
 ob (dJ n (t_1, s2, at3, ())) fun y4 =>
 br (!y4.1) (
  some (false, y4.2.1, y4.2.2.1, ())) (
  let v5 : Int := IntKind.wrap .i64 (y4.2.2.1 + (t_1.length : Int))
  some (true, y4.2.1, v5, ()))
def aW (_n : Nat) (x : List UInt8 × Int × Unit) : Option (Sum (List UInt8 × Int × Unit) (Int × Int × List UInt8 × Int × Unit)) := some (.inr (42, 0, x))
def nD (n : Nat) (g0 : Int × Int × List (Int) × Unit -> Option (List (Int))) (x1 : Int × Int × List (Int) × Unit) : Option (List (Int)) :=
 let b_2 : Int := x1.1
 let i_3 : Int := x1.2.1
 let b4 : List (Int) := x1.2.2.1
 br (decide (i_3 <= (IntKind.wrap .i64 b_2))) (
  chk (decide (0 <= 6)) (
   chk (inB (kR .i64 i_3 6) 4) (
    chk (decide ((kR .i64 i_3 6).toNat < 4)) (
     let v5 : Int := b4.getD ((kR .i64 i_3 6).toNat) (Ty.dflt (.int .u64))
     chk (decide (0 <= dD .i64 .and i_3 63)) (
      let v6 : Int := Iw .u64 1 (dD .i64 .and i_3 63)
      chk (inB (kR .i64 i_3 6) 4) (
       chk (decide ((kR .i64 i_3 6).toNat < 4)) (
        let v7 : Int := IntKind.wrap .i64 (i_3 + 1)
        g0 (b_2, v7, b4.set ((kR .i64 i_3 6).toNat) (dD .u64 .or v5 v6), ())))))))) (
  some b4)
def bN (n : Nat) (x : Int × Int) : Option (List (Int)) :=
 let a_0 : Int := x.1
 let b_1 : Int := x.2
 fix (nD n) n (b_1, IntKind.wrap .i64 a_0, [0, 0, 0, 0], ())
def Kg (n : Nat) (g0 : List (List (Int)) × Int × Int × List (Int) × Unit -> Option (List (Int))) (g1 : List (List (Int)) × Int × Int × Int × List (Int) × List (Int) × Unit -> Option (List (Int))) (x7 : List (List (Int)) × Int × Int × Int × List (Int) × List (Int) × Unit) : Option (List (Int)) :=
 let zRc : List (List (Int)) := x7.1
 let zRd : Int := x7.2.1
 let zNx : Int := x7.2.2.1
 let qQ : Int := x7.2.2.2.1
 let b12 : List (Int) := x7.2.2.2.2.1
 let b13 : List (Int) := x7.2.2.2.2.2.1
 br (decide (qQ < 4)) (
  chk (inB qQ 4) (
   chk (decide (qQ.toNat < 4)) (
    let v14 : Int := b12.getD (qQ.toNat) (Ty.dflt (.int .u64))
    chk (inB qQ 4) (
     chk (decide (qQ.toNat < 4)) (
      let v15 : Int := b13.getD (qQ.toNat) (Ty.dflt (.int .u64))
      chk (inB qQ 4) (
       chk (decide (qQ.toNat < 4)) (
        let v16 : Int := IntKind.wrap .i64 (qQ + 1)
        g1 (zRc, zRd, zNx, v16, b12.set (qQ.toNat) (dD .u64 .or v14 v15), b13, ())))))))) (
  let v17 : Int := IntKind.wrap .i64 (zNx + 1)
  g0 (zRc, zRd, v17, b12, ()))
def vK (n : Nat) (g0 : List (List (Int)) × Int × Int × List (Int) × Unit -> Option (List (Int))) (x1 : List (List (Int)) × Int × Int × List (Int) × Unit) : Option (List (Int)) :=
 let zMa : List (List (Int)) := x1.1
 let zRe : Int := x1.2.1
 let zGv : Int := x1.2.2.1
 let b5 : List (Int) := x1.2.2.2.1
 br (decide (zGv < zRe)) (
  chk (inB zGv zMa.length) (
   let v6 : List (Int) := bB (Ty.dflt (.arr 4 (.int .u64))) zMa zGv
   fix (Kg n g0) n (zMa, zRe, zGv, 0, b5, v6, ()))) (
  some b5)
def lT (n : Nat) (x : List (List (Int))) : Option (List (Int)) :=
 let l_0 : List (List (Int)) := x
 fix (vK n) n (l_0, (l_0.length : Int), 0, [0, 0, 0, 0], ())
def vL (n : Nat) (g0 : List UInt8 × Int × Int × List (Int) × Unit -> Option (List (Int))) (x1 : List UInt8 × Int × Int × List (Int) × Unit) : Option (List (Int)) :=
 let s_2 : List UInt8 := x1.1
 let zRf : Int := x1.2.1
 let Ur : Int := x1.2.2.1
 let b5 : List (Int) := x1.2.2.2.1
 br (decide (Ur < zRf)) (
  chk (inB Ur s_2.length) (
   let v6 : Int := ((bB 0 s_2 Ur).toNat : Int)
   chk (decide (0 <= 6)) (
    chk (inB (kR .u8 v6 6) 4) (
     chk (decide ((kR .u8 v6 6).toNat < 4)) (
      let v7 : Int := b5.getD ((kR .u8 v6 6).toNat) (Ty.dflt (.int .u64))
      chk (inB Ur s_2.length) (
       let v8 : Int := ((bB 0 s_2 Ur).toNat : Int)
       chk (decide (0 <= dD .u8 .and v8 63)) (
        let v9 : Int := Iw .u64 1 (dD .u8 .and v8 63)
        chk (inB (kR .u8 v6 6) 4) (
         chk (decide ((kR .u8 v6 6).toNat < 4)) (
          let v10 : Int := IntKind.wrap .i64 (Ur + 1)
          g0 (s_2, zRf, v10, b5.set ((kR .u8 v6 6).toNat) (dD .u64 .or v7 v9), ())))))))))) (
  some b5)
def nE (n : Nat) (x : List UInt8) : Option (List (Int)) :=
 let s_0 : List UInt8 := x
 fix (vL n) n (s_0, (s_0.length : Int), 0, [0, 0, 0, 0], ())
def yE (n : Nat) (x : List UInt8) : Option (List (Int) × Bool) :=
 let fA : List UInt8 := x
 ob (bN n (65, 90)) fun y1 =>
 ob (bN n (97, 122)) fun y2 =>
 ob (bN n (48, 57)) fun y3 =>
 br (fA == [117, 112, 112, 101, 114]) (
  some (y1, true)) (
  br (fA == [108, 111, 119, 101, 114]) (
   some (y2, true)) (
   br (fA == [97, 108, 112, 104, 97]) (
    ob (lT n [y1, y2]) fun y4 =>
    some (y4, true)) (
    br (fA == [100, 105, 103, 105, 116]) (
     some (y3, true)) (
     br (fA == [97, 108, 110, 117, 109]) (
      ob (lT n [y1, y2, y3]) fun y5 =>
      some (y5, true)) (
      br (fA == [120, 100, 105, 103, 105, 116]) (
       ob (bN n (65, 70)) fun y6 =>
       ob (bN n (97, 102)) fun y7 =>
       ob (lT n [y3, y6, y7]) fun y8 =>
       some (y8, true)) (
       br (fA == [98, 108, 97, 110, 107]) (
        ob (nE n [32, 9]) fun y9 =>
        some (y9, true)) (
        br (fA == [115, 112, 97, 99, 101]) (
         ob (nE n [32, 9, 10, 11, 12, 13]) fun y10 =>
         some (y10, true)) (
         br (fA == [99, 110, 116, 114, 108]) (
          ob (bN n (0, 31)) fun y11 =>
          ob (nE n [127]) fun y12 =>
          ob (lT n [y11, y12]) fun y13 =>
          some (y13, true)) (
          br (fA == [103, 114, 97, 112, 104]) (
           ob (bN n (33, 126)) fun y14 =>
           some (y14, true)) (
           br (fA == [112, 114, 105, 110, 116]) (
            ob (bN n (32, 126)) fun y15 =>
            some (y15, true)) (
            br (fA == [112, 117, 110, 99, 116]) (
             ob (bN n (33, 47)) fun y16 =>
             ob (bN n (58, 64)) fun y17 =>
             ob (bN n (91, 96)) fun y18 =>
             ob (bN n (123, 126)) fun y19 =>
             ob (lT n [y16, y17, y18, y19]) fun y20 =>
             some (y20, true)) (
             some ([0, 0, 0, 0], false)))))))))))))
def nS (n : Nat) (x21 : List UInt8 × List UInt8 × Int × Unit) : Option (Sum (Int × Bool × List UInt8 × Int × Unit) (Int × Int × List UInt8 × Int × Unit)) :=
 let zPd : List UInt8 := x21.1
 let s23 : List UInt8 := x21.2.1
 let zMb : Int := x21.2.2.1
 chk (inB zMb s23.length) (
  let v25 : Int := ((bB 0 s23 zMb).toNat : Int)
  let v26 : Int := IntKind.wrap .i64 (zMb + 3)
  some (.inl (v25, (zPd == [46]), s23, v26, ())))
def gN (n : Nat) (x41 : List UInt8 × Int × Unit) : Option (Sum (Int × Bool × List UInt8 × Int × Unit) (Int × Int × List UInt8 × Int × Unit)) :=
 let s42 : List UInt8 := x41.1
 let zTj : Int := x41.2.1
 let v44 : Int := IntKind.wrap .i64 (zTj + 1)
 let v45 : Int := IntKind.wrap .i64 (v44 - 1)
 chk (inB v45 s42.length) (
  let v46 : Int := ((bB 0 s42 v45).toNat : Int)
  some (.inl (v46, true, s42, v44, ())))
def fC (n : Nat) (x30 : Bool × Bool × List UInt8 × Int × Unit) : Option (Sum (Int × Bool × List UInt8 × Int × Unit) (Int × Int × List UInt8 × Int × Unit)) :=
 let zMc : Bool := x30.1
 let zEg : Bool := x30.2.1
 let s33 : List UInt8 := x30.2.2.1
 let zMd : Int := x30.2.2.2.1
 br (zMd == (s33.length : Int)) (
  ob2 (aW n (s33, zMd, ())) (fun y35 =>
   none) (fun y35 =>
   some (.inr (y35.1, y35.2.1, y35.2.2.1, y35.2.2.2.1, ())))) (
  ob (dJ n ([91, 58], s33, zMd, ())) fun y36 =>
  br y36.1 (
   ob2 (aW n (y36.2.1, y36.2.2.1, ())) (fun y37 =>
    none) (fun y37 =>
    some (.inr (y37.1, y37.2.1, y37.2.2.1, y37.2.2.2.1, ())))) (
   ob (dJ n ([93], y36.2.1, y36.2.2.1, ())) fun y38 =>
   br y38.1 (
    br (!zMc) (
     ob2 (aW n (y38.2.1, y38.2.2.1, ())) (fun y39 =>
      none) (fun y39 =>
      some (.inr (y39.1, y39.2.1, y39.2.2.1, y39.2.2.2.1, ())))) (
     br zEg (
      ob2 (aW n (y38.2.1, y38.2.2.1, ())) (fun y40 =>
       none) (fun y40 =>
       some (.inr (y40.1, y40.2.1, y40.2.2.1, y40.2.2.2.1, ())))) (
      jn (gN n) (y38.2.1, y38.2.2.1, ())))) (
    br zEg (
     ob2 (aW n (y38.2.1, y38.2.2.1, ())) (fun y47 =>
      none) (fun y47 =>
      some (.inr (y47.1, y47.2.1, y47.2.2.1, y47.2.2.2.1, ())))) (
     jn (gN n) (y38.2.1, y38.2.2.1, ())))))
def jM (n : Nat) (g0 : Bool × Bool × Int × Int × List UInt8 × Int × List (List UInt8) × Unit -> Option (Sum (Int × Bool × List UInt8 × Int × Unit) (Int × Int × List UInt8 × Int × Unit))) (x6 : Bool × Bool × Int × Int × List UInt8 × Int × List (List UInt8) × Unit) : Option (Sum (Int × Bool × List UInt8 × Int × Unit) (Int × Int × List UInt8 × Int × Unit)) :=
 let Ag : Bool := x6.1
 let zIx : Bool := x6.2.1
 let zNy : Int := x6.2.2.1
 let Kh : Int := x6.2.2.2.1
 let s11 : List UInt8 := x6.2.2.2.2.1
 let zAp : Int := x6.2.2.2.2.2.1
 let Cx : List (List UInt8) := x6.2.2.2.2.2.2.1
 br (decide (Kh < zNy)) (
  chk ((inB Kh (Cx.length) && decide (0 + (Cx.length) <= Cx.length))) (
   chk (decide (0 + Kh.toNat < Cx.length)) (
    let v14 : List UInt8 := Cx.getD (0 + Kh.toNat) (Ty.dflt .str)
    chk (decide ([91].length + v14.length <= aJ)) (
     ob (dB n ([91] ++ v14, s11, zAp, ())) fun y15 =>
     br (!y15.1) (
      let v16 : Int := IntKind.wrap .i64 (Kh + 1)
      g0 (Ag, zIx, zNy, v16, y15.2.1, y15.2.2.1, Cx, ())) (
      br ((y15.2.1.length : Int) == y15.2.2.1) (
       ob2 (aW n (y15.2.1, y15.2.2.1, ())) (fun y17 =>
        none) (fun y17 =>
        some (.inr (y17.1, y17.2.1, y17.2.2.1, y17.2.2.2.1, ())))) (
       let v18 : Int := IntKind.wrap .i64 (y15.2.2.1 + 1)
       chk ((decide (0 <= v18) && decide (v18 <= (y15.2.1.length : Int)))) (
        chk (decide (v14.length + ([93] : List UInt8).length <= aJ)) (
         ob (strings_HasPrefix n (y15.2.1.drop v18.toNat, v14 ++ [93])) fun y19 =>
         br (!y19) (
          ob2 (aW n (y15.2.1, y15.2.2.1, ())) (fun y20 =>
           none) (fun y20 =>
           some (.inr (y20.1, y20.2.1, y20.2.2.1, y20.2.2.2.1, ())))) (
          jn (nS n) (v14, y15.2.1, y15.2.2.1, ())))))))))) (
  ob (dB n ([92, 110], s11, zAp, ())) fun y27 =>
  br y27.1 (
   some (.inl (10, true, y27.2.1, y27.2.2.1, ()))) (
   ob (dJ n ([45], y27.2.1, y27.2.2.1, ())) fun y28 =>
   br y28.1 (
    br (!Ag) (
     br (!zIx) (
      ob (dJ n ([45, 93], y28.2.1, y28.2.2.1, ())) fun y29 =>
      jn (fC n) (Ag, (!y29.1), y29.2.1, y29.2.2.1, ())) (
      jn (fC n) (Ag, false, y28.2.1, y28.2.2.1, ()))) (
     jn (fC n) (Ag, false, y28.2.1, y28.2.2.1, ()))) (
    jn (fC n) (Ag, false, y28.2.1, y28.2.2.1, ()))))
def jG (n : Nat) (x : Bool × Bool × List UInt8 × Int × Unit) : Option (Sum (Int × Bool × List UInt8 × Int × Unit) (Int × Int × List UInt8 × Int × Unit)) :=
 let uY : Bool := x.1
 let zRg : Bool := x.2.1
 let s3 : List UInt8 := x.2.2.1
 let at4 : Int := x.2.2.2.1
 let v5 : Int := (([[46], [61]].length : Nat) : Int)
 fix (jM n) n (uY, zRg, v5, 0, s3, at4, [[46], [61]], ())
def kE (n : Nat) (x : Bool × List UInt8 × Int × Unit) : Option (Sum (List (Int) × List UInt8 × Int × Unit) (Int × Int × List UInt8 × Int × Unit)) :=
 let uY : Bool := x.1
 let s2 : List UInt8 := x.2.1
 let at3 : Int := x.2.2.1
 ob (dB n ([91, 58], s2, at3, ())) fun y4 =>
 br y4.1 (
  chk ((decide (0 <= y4.2.2.1) && decide (y4.2.2.1 <= (y4.2.1.length : Int)))) (
   let v5 : List UInt8 := y4.2.1.drop y4.2.2.1.toNat
   ob (strings_Cut n (v5, [58, 93])) fun y6 =>
   let v7 : Int := IntKind.wrap .i64 (y4.2.2.1 + (y6.1.length : Int))
   ob (yE n y6.1) fun y8 =>
   br (!y8.2) (
    ob2 (aW n (y4.2.1, v7, ())) (fun y9 =>
     none) (fun y9 =>
     some (.inr (y9.1, y9.2.1, y9.2.2.1, y9.2.2.2.1, ())))) (
    ob (dB n ([58, 93], y4.2.1, v7, ())) fun y10 =>
    br (!y10.1) (
     ob2 (aW n (y10.2.1, y10.2.2.1, ())) (fun y11 =>
      none) (fun y11 =>
      some (.inr (y11.1, y11.2.1, y11.2.2.1, y11.2.2.2.1, ())))) (
     some (.inl (y8.1, y10.2.1, y10.2.2.1, ())))))) (
  ob2 (jG n (uY, false, y4.2.1, y4.2.2.1, ())) (fun y12 =>
   ob (dJ n ([45], y12.2.2.1, y12.2.2.2.1, ())) fun y13 =>
   br (!y13.1) (
    ob (bN n (y12.1, y12.1)) fun y14 =>
    some (.inl (y14, y13.2.1, y13.2.2.1, ()))) (
    ob (dJ n ([45, 93], y13.2.1, y13.2.2.1, ())) fun y15 =>
    br y15.1 (
     ob (bN n (y12.1, y12.1)) fun y16 =>
     some (.inl (y16, y15.2.1, y15.2.2.1, ()))) (
     let v17 : Int := IntKind.wrap .i64 (y15.2.2.1 + 1)
     br (v17 == (y15.2.1.length : Int)) (
      ob (bN n (y12.1, y12.1)) fun y18 =>
      some (.inl (y18, y15.2.1, y15.2.2.1, ()))) (
      let v19 : Int := IntKind.wrap .i64 (y15.2.2.1 + 1)
      ob2 (jG n (false, true, y15.2.1, v19, ())) (fun y20 =>
       br (!y12.2.1) (
        ob2 (aW n (y20.2.2.1, y20.2.2.2.1, ())) (fun y21 =>
         none) (fun y21 =>
         some (.inr (y21.1, y21.2.1, y21.2.2.1, y21.2.2.2.1, ())))) (
        br (!y20.2.1) (
         ob2 (aW n (y20.2.2.1, y20.2.2.2.1, ())) (fun y22 =>
          none) (fun y22 =>
          some (.inr (y22.1, y22.2.1, y22.2.2.1, y22.2.2.2.1, ())))) (
         br (decide (y20.1 < y12.1)) (
          ob2 (aW n (y20.2.2.1, y20.2.2.2.1, ())) (fun y23 =>
           none) (fun y23 =>
           some (.inr (y23.1, y23.2.1, y23.2.2.1, y23.2.2.2.1, ())))) (
          ob (bN n (y12.1, y20.1)) fun y24 =>
          some (.inl (y24, y20.2.2.1, y20.2.2.2.1, ())))))) (fun y20 =>
       some (.inr (y20.1, y20.2.1, y20.2.2.1, y20.2.2.2.1, ()))))))) (fun y12 =>
   some (.inr (y12.1, y12.2.1, y12.2.2.1, y12.2.2.2.1, ()))))
def jD (n : Nat) (g0 : Bool × Bool × List (Int) × List UInt8 × Int × Unit -> Option (Sum (List (Int) × List UInt8 × Int × Unit) (Int × Int × List (Int) × List UInt8 × Int × Unit))) (x7 : Bool × Bool × List (Int) × List UInt8 × Int × Unit) : Option (Sum (List (Int) × List UInt8 × Int × Unit) (Int × Int × List (Int) × List UInt8 × Int × Unit)) :=
 let zGw : Bool := x7.1
 let Us : Bool := x7.2.1
 let b10 : List (Int) := x7.2.2.1
 let s11 : List UInt8 := x7.2.2.2.1
 let zAp : Int := x7.2.2.2.2.1
 br Us (
  ob2 (kE n (Us, s11, zAp, ())) (fun y13 =>
   ob (lT n [b10, y13.1]) fun y14 =>
   g0 (zGw, false, y14, y13.2.1, y13.2.2.1, ())) (fun y13 =>
   some (.inr (y13.1, y13.2.1, b10, y13.2.2.1, y13.2.2.2.1, ())))) (
  ob (dB n ([93], s11, zAp, ())) fun y15 =>
  br (!y15.1) (
   ob2 (kE n (Us, y15.2.1, y15.2.2.1, ())) (fun y16 =>
    ob (lT n [b10, y16.1]) fun y17 =>
    g0 (zGw, false, y17, y16.2.1, y16.2.2.1, ())) (fun y16 =>
    some (.inr (y16.1, y16.2.1, b10, y16.2.2.1, y16.2.2.2.1, ())))) (
   br zGw (
    ob (Af n b10) fun y18 =>
    br (Ty.beq (.arr 4 (.int .u64)) y18 ([0, 0, 0, 0])) (
     ob2 (aW n (y15.2.1, y15.2.2.1, ())) (fun y19 =>
      none) (fun y19 =>
      some (.inr (y19.1, y19.2.1, y18, y19.2.2.1, y19.2.2.2.1, ())))) (
     some (.inl (y18, y15.2.1, y15.2.2.1, ())))) (
    br (Ty.beq (.arr 4 (.int .u64)) b10 ([0, 0, 0, 0])) (
     ob2 (aW n (y15.2.1, y15.2.2.1, ())) (fun y20 =>
      none) (fun y20 =>
      some (.inr (y20.1, y20.2.1, b10, y20.2.2.1, y20.2.2.2.1, ())))) (
     some (.inl (b10, y15.2.1, y15.2.2.1, ()))))))
def iV (n : Nat) (x : List (Int) × List UInt8 × Int × Unit) : Option (Sum (List (Int) × List UInt8 × Int × Unit) (Int × Int × List (Int) × List UInt8 × Int × Unit)) :=
 let b1 : List (Int) := x.1
 let s2 : List UInt8 := x.2.1
 let at3 : Int := x.2.2.1
 ob (dB n ([91], s2, at3, ())) fun y4 =>
 br (!y4.1) (
  ob2 (aW n (y4.2.1, y4.2.2.1, ())) (fun y5 =>
   none) (fun y5 =>
   some (.inr (y5.1, y5.2.1, b1, y5.2.2.1, y5.2.2.2.1, ())))) (
  ob (dB n ([94], y4.2.1, y4.2.2.1, ())) fun y6 =>
  fix (jD n) n (y6.1, true, b1, y6.2.1, y6.2.2.1, ()))
def dV (n : Nat) (x : List (Int) × List UInt8 × Int × Unit) : Option (Int × Int × List (Int) × List UInt8 × Int × Unit) := ob2 (iV n x) (fun y => some (0, 0, y)) (fun y => some y)
def nT (n : Nat) (x : List UInt8) : Option (List (Int) × Int × Int) :=
 let s_0 : List UInt8 := x
 ob (dV n ([0, 0, 0, 0], s_0, 0, ())) fun y1 =>
 br (y1.1 != 0) (
  some ([0, 0, 0, 0], 0, y1.1)) (
  some (y1.2.2.1, y1.2.2.2.2.1, 0))
def aD (_n : Nat) (x : Int × Int × eT) : Option (Sum (eT) (Int × Int × eT)) := some (.inr x)
def jC (n : Nat) (g0 : Int × eT -> Option (Int × eT)) (x6 : Int × eT) : Option (Int × eT) :=
 let i_7 : Int := x6.1
 let s8 : List UInt8 := x6.2.1
 let at9 : Int := x6.2.2.1
 let oH : Int := x6.2.2.2.1
 let oI : List (Bool) := x6.2.2.2.2.1
 let tZ : List (NdT) := x6.2.2.2.2.2.1
 br (decide (i_7 < (s8.length : Int))) (
  let v13 : Int := IntKind.wrap .i64 (at9 + 3)
  br (decide (i_7 < v13)) (
   chk (inB i_7 s8.length) (
    let v14 : Int := ((bB 0 s8 i_7).toNat : Int)
    br (decide (v14 ≥ 48)) (
     chk (inB i_7 s8.length) (
      let v15 : Int := ((bB 0 s8 i_7).toNat : Int)
      br (decide (v15 <= 57)) (
       let v16 : Int := IntKind.wrap .i64 (i_7 + 1)
       g0 (v16, s8, at9, oH, oI, tZ, ())) (
       chk ((decide (0 <= i_7) && decide (i_7 <= (s8.length : Int)) && (decide (0 <= at9) && decide (at9 <= i_7)))) (
        let v17 : List UInt8 := (s8.take i_7.toNat).drop at9.toNat
        ob (strconv_Atoi n v17) fun y18 =>
        br (!(!y18.2)) (
         some ((-1), s8, i_7, oH, oI, tZ, ())) (
         some (y18.1, s8, i_7, oH, oI, tZ, ())))))) (
     chk ((decide (0 <= i_7) && decide (i_7 <= (s8.length : Int)) && (decide (0 <= at9) && decide (at9 <= i_7)))) (
      let v19 : List UInt8 := (s8.take i_7.toNat).drop at9.toNat
      ob (strconv_Atoi n v19) fun y20 =>
      br (!(!y20.2)) (
       some ((-1), s8, i_7, oH, oI, tZ, ())) (
       some (y20.1, s8, i_7, oH, oI, tZ, ())))))) (
   chk ((decide (0 <= i_7) && decide (i_7 <= (s8.length : Int)) && (decide (0 <= at9) && decide (at9 <= i_7)))) (
    let v21 : List UInt8 := (s8.take i_7.toNat).drop at9.toNat
    ob (strconv_Atoi n v21) fun y22 =>
    br (!(!y22.2)) (
     some ((-1), s8, i_7, oH, oI, tZ, ())) (
     some (y22.1, s8, i_7, oH, oI, tZ, ()))))) (
  chk ((decide (0 <= i_7) && decide (i_7 <= (s8.length : Int)) && (decide (0 <= at9) && decide (at9 <= i_7)))) (
   let v23 : List UInt8 := (s8.take i_7.toNat).drop at9.toNat
   ob (strconv_Atoi n v23) fun y24 =>
   br (!(!y24.2)) (
    some ((-1), s8, i_7, oH, oI, tZ, ())) (
    some (y24.1, s8, i_7, oH, oI, tZ, ()))))
def iP (n : Nat) (x : eT) : Option (Int × eT) :=
 let s1 : List UInt8 := x.1
 let at2 : Int := x.2.1
 let Ef : Int := x.2.2.1
 let Eh : List (Bool) := x.2.2.2.1
 let lS : List (NdT) := x.2.2.2.2.1
 fix (jC n) n (at2, s1, at2, Ef, Eh, lS, ())
def lU (n : Nat) (x : Int × eT) : Option nR :=
 let Mt : Int := x.1
 let s2 : List UInt8 := x.2.1
 let at3 : Int := x.2.2.1
 let dN : Int := x.2.2.2.1
 let dO : List (Bool) := x.2.2.2.2.1
 let aK : List (NdT) := x.2.2.2.2.2.1
 ob (bJ n ([42], s2, at3, dN, dO, aK, ())) fun y7 =>
 br y7.1 (
  ob (bD n (6, [0, 0, 0, 0], Mt, 0, 0, (-1), 0, y7.2.1, y7.2.2.1, y7.2.2.2.1, y7.2.2.2.2.1, y7.2.2.2.2.2.1, ())) fun y8 =>
  ob (aL n ([42], y8.2.1, y8.2.2.1, y8.2.2.2.1, y8.2.2.2.2.1, y8.2.2.2.2.2.1, ())) fun y9 =>
  br y9.1 (
   ob2 (aD n (43, y9.2.2.1, y9.2.1, y9.2.2.1, y9.2.2.2.1, y9.2.2.2.2.1, y9.2.2.2.2.2.1, ())) (fun y10 =>
    none) (fun y10 =>
    some (.inr (y10.1, y10.2.1, y10.2.2.1, y10.2.2.2.1, y10.2.2.2.2.1, y10.2.2.2.2.2.1, y10.2.2.2.2.2.2.1, ())))) (
   ob (aL n ([92, 123], y9.2.1, y9.2.2.1, y9.2.2.2.1, y9.2.2.2.2.1, y9.2.2.2.2.2.1, ())) fun y11 =>
   br y11.1 (
    ob2 (aD n (43, y11.2.2.1, y11.2.1, y11.2.2.1, y11.2.2.2.1, y11.2.2.2.2.1, y11.2.2.2.2.2.1, ())) (fun y12 =>
     none) (fun y12 =>
     some (.inr (y12.1, y12.2.1, y12.2.2.1, y12.2.2.2.1, y12.2.2.2.2.1, y12.2.2.2.2.2.1, y12.2.2.2.2.2.2.1, ())))) (
    some (.inl (y8.1, y11.2.1, y11.2.2.1, y11.2.2.2.1, y11.2.2.2.2.1, y11.2.2.2.2.2.1, ()))))) (
  ob (bJ n ([92, 123], y7.2.1, y7.2.2.1, y7.2.2.2.1, y7.2.2.2.2.1, y7.2.2.2.2.2.1, ())) fun y13 =>
  br (!y13.1) (
   some (.inl (Mt, y13.2.1, y13.2.2.1, y13.2.2.2.1, y13.2.2.2.2.1, y13.2.2.2.2.2.1, ()))) (
   ob (iP n (y13.2.1, y13.2.2.1, y13.2.2.2.1, y13.2.2.2.2.1, y13.2.2.2.2.2.1, ())) fun y14 =>
   ob (bJ n ([44], y14.2.1, y14.2.2.1, y14.2.2.2.1, y14.2.2.2.2.1, y14.2.2.2.2.2.1, ())) fun y15 =>
   br y15.1 (
    ob (iP n (y15.2.1, y15.2.2.1, y15.2.2.2.1, y15.2.2.2.2.1, y15.2.2.2.2.2.1, ())) fun y16 =>
    br (y14.1 == (-1)) (
     ob2 (aD n (43, at3, y16.2.1, y16.2.2.1, y16.2.2.2.1, y16.2.2.2.2.1, y16.2.2.2.2.2.1, ())) (fun y17 =>
      none) (fun y17 =>
      some (.inr (y17.1, y17.2.1, y17.2.2.1, y17.2.2.2.1, y17.2.2.2.2.1, y17.2.2.2.2.2.1, y17.2.2.2.2.2.2.1, ())))) (
     ob (bJ n ([92, 125], y16.2.1, y16.2.2.1, y16.2.2.2.1, y16.2.2.2.2.1, y16.2.2.2.2.2.1, ())) fun y18 =>
     br (!y18.1) (
      ob2 (aD n (43, at3, y18.2.1, y18.2.2.1, y18.2.2.2.1, y18.2.2.2.2.1, y18.2.2.2.2.2.1, ())) (fun y19 =>
       none) (fun y19 =>
       some (.inr (y19.1, y19.2.1, y19.2.2.1, y19.2.2.2.1, y19.2.2.2.2.1, y19.2.2.2.2.2.1, y19.2.2.2.2.2.2.1, ())))) (
      br (decide (y14.1 > 255)) (
       ob2 (aD n (43, at3, y18.2.1, y18.2.2.1, y18.2.2.2.1, y18.2.2.2.2.1, y18.2.2.2.2.2.1, ())) (fun y20 =>
        none) (fun y20 =>
        some (.inr (y20.1, y20.2.1, y20.2.2.1, y20.2.2.2.1, y20.2.2.2.2.1, y20.2.2.2.2.2.1, y20.2.2.2.2.2.2.1, ())))) (
       br (decide (y16.1 > 255)) (
        ob2 (aD n (43, at3, y18.2.1, y18.2.2.1, y18.2.2.2.1, y18.2.2.2.2.1, y18.2.2.2.2.2.1, ())) (fun y21 =>
         none) (fun y21 =>
         some (.inr (y21.1, y21.2.1, y21.2.2.1, y21.2.2.2.1, y21.2.2.2.2.1, y21.2.2.2.2.2.1, y21.2.2.2.2.2.2.1, ())))) (
        br (y16.1 != (-1)) (
         let v22 : Int := if 1 > y14.1 then 1 else y14.1
         br (decide (y16.1 < v22)) (
          ob2 (aD n (43, at3, y18.2.1, y18.2.2.1, y18.2.2.2.1, y18.2.2.2.2.1, y18.2.2.2.2.2.1, ())) (fun y23 =>
           none) (fun y23 =>
           some (.inr (y23.1, y23.2.1, y23.2.2.1, y23.2.2.2.1, y23.2.2.2.2.1, y23.2.2.2.2.2.1, y23.2.2.2.2.2.2.1, ())))) (
          ob (bD n (6, [0, 0, 0, 0], Mt, 0, y14.1, y16.1, 0, y18.2.1, y18.2.2.1, y18.2.2.2.1, y18.2.2.2.2.1, y18.2.2.2.2.2.1, ())) fun y24 =>
          ob (aL n ([42], y24.2.1, y24.2.2.1, y24.2.2.2.1, y24.2.2.2.2.1, y24.2.2.2.2.2.1, ())) fun y25 =>
          br y25.1 (
           ob2 (aD n (43, y25.2.2.1, y25.2.1, y25.2.2.1, y25.2.2.2.1, y25.2.2.2.2.1, y25.2.2.2.2.2.1, ())) (fun y26 =>
            none) (fun y26 =>
            some (.inr (y26.1, y26.2.1, y26.2.2.1, y26.2.2.2.1, y26.2.2.2.2.1, y26.2.2.2.2.2.1, y26.2.2.2.2.2.2.1, ())))) (
           ob (aL n ([92, 123], y25.2.1, y25.2.2.1, y25.2.2.2.1, y25.2.2.2.2.1, y25.2.2.2.2.2.1, ())) fun y27 =>
           br y27.1 (
            ob2 (aD n (43, y27.2.2.1, y27.2.1, y27.2.2.1, y27.2.2.2.1, y27.2.2.2.2.1, y27.2.2.2.2.2.1, ())) (fun y28 =>
             none) (fun y28 =>
             some (.inr (y28.1, y28.2.1, y28.2.2.1, y28.2.2.2.1, y28.2.2.2.2.1, y28.2.2.2.2.2.1, y28.2.2.2.2.2.2.1, ())))) (
            some (.inl (y24.1, y27.2.1, y27.2.2.1, y27.2.2.2.1, y27.2.2.2.2.1, y27.2.2.2.2.2.1, ())))))) (
         ob (bD n (6, [0, 0, 0, 0], Mt, 0, y14.1, y16.1, 0, y18.2.1, y18.2.2.1, y18.2.2.2.1, y18.2.2.2.2.1, y18.2.2.2.2.2.1, ())) fun y29 =>
         ob (aL n ([42], y29.2.1, y29.2.2.1, y29.2.2.2.1, y29.2.2.2.2.1, y29.2.2.2.2.2.1, ())) fun y30 =>
         br y30.1 (
          ob2 (aD n (43, y30.2.2.1, y30.2.1, y30.2.2.1, y30.2.2.2.1, y30.2.2.2.2.1, y30.2.2.2.2.2.1, ())) (fun y31 =>
           none) (fun y31 =>
           some (.inr (y31.1, y31.2.1, y31.2.2.1, y31.2.2.2.1, y31.2.2.2.2.1, y31.2.2.2.2.2.1, y31.2.2.2.2.2.2.1, ())))) (
          ob (aL n ([92, 123], y30.2.1, y30.2.2.1, y30.2.2.2.1, y30.2.2.2.2.1, y30.2.2.2.2.2.1, ())) fun y32 =>
          br y32.1 (
           ob2 (aD n (43, y32.2.2.1, y32.2.1, y32.2.2.1, y32.2.2.2.1, y32.2.2.2.2.1, y32.2.2.2.2.2.1, ())) (fun y33 =>
            none) (fun y33 =>
            some (.inr (y33.1, y33.2.1, y33.2.2.1, y33.2.2.2.1, y33.2.2.2.2.1, y33.2.2.2.2.2.1, y33.2.2.2.2.2.2.1, ())))) (
           some (.inl (y29.1, y32.2.1, y32.2.2.1, y32.2.2.2.1, y32.2.2.2.2.1, y32.2.2.2.2.2.1, ())))))))))) (
    br (y14.1 == (-1)) (
     ob2 (aD n (43, at3, y15.2.1, y15.2.2.1, y15.2.2.2.1, y15.2.2.2.2.1, y15.2.2.2.2.2.1, ())) (fun y34 =>
      none) (fun y34 =>
      some (.inr (y34.1, y34.2.1, y34.2.2.1, y34.2.2.2.1, y34.2.2.2.2.1, y34.2.2.2.2.2.1, y34.2.2.2.2.2.2.1, ())))) (
     ob (bJ n ([92, 125], y15.2.1, y15.2.2.1, y15.2.2.2.1, y15.2.2.2.2.1, y15.2.2.2.2.2.1, ())) fun y35 =>
     br (!y35.1) (
      ob2 (aD n (43, at3, y35.2.1, y35.2.2.1, y35.2.2.2.1, y35.2.2.2.2.1, y35.2.2.2.2.2.1, ())) (fun y36 =>
       none) (fun y36 =>
       some (.inr (y36.1, y36.2.1, y36.2.2.1, y36.2.2.2.1, y36.2.2.2.2.1, y36.2.2.2.2.2.1, y36.2.2.2.2.2.2.1, ())))) (
      br (decide (y14.1 > 255)) (
       ob2 (aD n (43, at3, y35.2.1, y35.2.2.1, y35.2.2.2.1, y35.2.2.2.2.1, y35.2.2.2.2.2.1, ())) (fun y37 =>
        none) (fun y37 =>
        some (.inr (y37.1, y37.2.1, y37.2.2.1, y37.2.2.2.1, y37.2.2.2.2.1, y37.2.2.2.2.2.1, y37.2.2.2.2.2.2.1, ())))) (
       br (decide (y14.1 > 255)) (
        ob2 (aD n (43, at3, y35.2.1, y35.2.2.1, y35.2.2.2.1, y35.2.2.2.2.1, y35.2.2.2.2.2.1, ())) (fun y38 =>
         none) (fun y38 =>
         some (.inr (y38.1, y38.2.1, y38.2.2.1, y38.2.2.2.1, y38.2.2.2.2.1, y38.2.2.2.2.2.1, y38.2.2.2.2.2.2.1, ())))) (
        br (y14.1 != (-1)) (
         let v39 : Int := if 1 > y14.1 then 1 else y14.1
         br (decide (y14.1 < v39)) (
          ob2 (aD n (43, at3, y35.2.1, y35.2.2.1, y35.2.2.2.1, y35.2.2.2.2.1, y35.2.2.2.2.2.1, ())) (fun y40 =>
           none) (fun y40 =>
           some (.inr (y40.1, y40.2.1, y40.2.2.1, y40.2.2.2.1, y40.2.2.2.2.1, y40.2.2.2.2.2.1, y40.2.2.2.2.2.2.1, ())))) (
          ob (bD n (6, [0, 0, 0, 0], Mt, 0, y14.1, y14.1, 0, y35.2.1, y35.2.2.1, y35.2.2.2.1, y35.2.2.2.2.1, y35.2.2.2.2.2.1, ())) fun y41 =>
          ob (aL n ([42], y41.2.1, y41.2.2.1, y41.2.2.2.1, y41.2.2.2.2.1, y41.2.2.2.2.2.1, ())) fun y42 =>
          br y42.1 (
           ob2 (aD n (43, y42.2.2.1, y42.2.1, y42.2.2.1, y42.2.2.2.1, y42.2.2.2.2.1, y42.2.2.2.2.2.1, ())) (fun y43 =>
            none) (fun y43 =>
            some (.inr (y43.1, y43.2.1, y43.2.2.1, y43.2.2.2.1, y43.2.2.2.2.1, y43.2.2.2.2.2.1, y43.2.2.2.2.2.2.1, ())))) (
           ob (aL n ([92, 123], y42.2.1, y42.2.2.1, y42.2.2.2.1, y42.2.2.2.2.1, y42.2.2.2.2.2.1, ())) fun y44 =>
           br y44.1 (
            ob2 (aD n (43, y44.2.2.1, y44.2.1, y44.2.2.1, y44.2.2.2.1, y44.2.2.2.2.1, y44.2.2.2.2.2.1, ())) (fun y45 =>
             none) (fun y45 =>
             some (.inr (y45.1, y45.2.1, y45.2.2.1, y45.2.2.2.1, y45.2.2.2.2.1, y45.2.2.2.2.2.1, y45.2.2.2.2.2.2.1, ())))) (
            some (.inl (y41.1, y44.2.1, y44.2.2.1, y44.2.2.2.1, y44.2.2.2.2.1, y44.2.2.2.2.2.1, ())))))) (
         ob (bD n (6, [0, 0, 0, 0], Mt, 0, y14.1, y14.1, 0, y35.2.1, y35.2.2.1, y35.2.2.2.1, y35.2.2.2.2.1, y35.2.2.2.2.2.1, ())) fun y46 =>
         ob (aL n ([42], y46.2.1, y46.2.2.1, y46.2.2.2.1, y46.2.2.2.2.1, y46.2.2.2.2.2.1, ())) fun y47 =>
         br y47.1 (
          ob2 (aD n (43, y47.2.2.1, y47.2.1, y47.2.2.1, y47.2.2.2.1, y47.2.2.2.2.1, y47.2.2.2.2.2.1, ())) (fun y48 =>
           none) (fun y48 =>
           some (.inr (y48.1, y48.2.1, y48.2.2.1, y48.2.2.2.1, y48.2.2.2.2.1, y48.2.2.2.2.2.1, y48.2.2.2.2.2.2.1, ())))) (
          ob (aL n ([92, 123], y47.2.1, y47.2.2.1, y47.2.2.2.1, y47.2.2.2.2.1, y47.2.2.2.2.2.1, ())) fun y49 =>
          br y49.1 (
           ob2 (aD n (43, y49.2.2.1, y49.2.1, y49.2.2.1, y49.2.2.2.1, y49.2.2.2.2.1, y49.2.2.2.2.2.1, ())) (fun y50 =>
            none) (fun y50 =>
            some (.inr (y50.1, y50.2.1, y50.2.2.1, y50.2.2.2.1, y50.2.2.2.2.1, y50.2.2.2.2.2.1, y50.2.2.2.2.2.2.1, ())))) (
           some (.inl (y46.1, y49.2.1, y49.2.2.1, y49.2.2.2.1, y49.2.2.2.2.1, y49.2.2.2.2.2.1, ()))))))))))))
def lV (n : Nat) (aI : (eT) -> Option nR) (x : Int × eT) : Option nR :=
 let Ut : Int := x.1
 let s2 : List UInt8 := x.2.1
 let at3 : Int := x.2.2.1
 let dN : Int := x.2.2.2.1
 let dO : List (Bool) := x.2.2.2.2.1
 let aK : List (NdT) := x.2.2.2.2.2.1
 br (dN == 9) (
  ob2 (aD n (41, Ut, s2, at3, dN, dO, aK, ())) (fun y7 =>
   none) (fun y7 =>
   some (.inr (y7.1, y7.2.1, y7.2.2.1, y7.2.2.2.1, y7.2.2.2.2.1, y7.2.2.2.2.2.1, y7.2.2.2.2.2.2.1, ())))) (
  let v8 : Int := IntKind.wrap .i64 (dN + 1)
  ob2 (aI (s2, at3, v8, dO, aK, ())) (fun y9 =>
   br (y9.1 == (-1)) (
    ob2 (aD n (41, Ut, y9.2.1, y9.2.2.1, y9.2.2.2.1, y9.2.2.2.2.1, y9.2.2.2.2.2.1, ())) (fun y10 =>
     none) (fun y10 =>
     some (.inr (y10.1, y10.2.1, y10.2.2.1, y10.2.2.2.1, y10.2.2.2.2.1, y10.2.2.2.2.2.1, y10.2.2.2.2.2.2.1, ())))) (
    ob (bJ n ([92, 41], y9.2.1, y9.2.2.1, y9.2.2.2.1, y9.2.2.2.2.1, y9.2.2.2.2.2.1, ())) fun y11 =>
    br (!y11.1) (
     ob2 (aD n (41, Ut, y11.2.1, y11.2.2.1, y11.2.2.2.1, y11.2.2.2.2.1, y11.2.2.2.2.2.1, ())) (fun y12 =>
      none) (fun y12 =>
      some (.inr (y12.1, y12.2.1, y12.2.2.1, y12.2.2.2.1, y12.2.2.2.2.1, y12.2.2.2.2.2.1, y12.2.2.2.2.2.2.1, ())))) (
     chk (inB v8 10) (
      chk (decide (v8.toNat < 10)) (
       ob (bD n (7, [0, 0, 0, 0], y9.1, 0, 0, 0, v8, y11.2.1, y11.2.2.1, y11.2.2.2.1, y11.2.2.2.2.1.set (v8.toNat) true, y11.2.2.2.2.2.1, ())) fun y13 =>
       some (.inl (y13.1, y13.2.1, y13.2.2.1, y13.2.2.2.1, y13.2.2.2.2.1, y13.2.2.2.2.2.1, ()))))))) (fun y9 =>
   some (.inr (y9.1, y9.2.1, y9.2.2.1, y9.2.2.2.1, y9.2.2.2.2.1, y9.2.2.2.2.2.1, y9.2.2.2.2.2.2.1, ()))))
def nG (n : Nat) (aI : (eT) -> Option nR) (x : Bool × eT) : Option nR :=
 let uY : Bool := x.1
 let s2 : List UInt8 := x.2.1
 let at3 : Int := x.2.2.1
 let dN : Int := x.2.2.2.1
 let dO : List (Bool) := x.2.2.2.2.1
 let aK : List (NdT) := x.2.2.2.2.2.1
 let v7 : Int := IntKind.wrap .i64 (at3 + 1)
 br (v7 == (s2.length : Int)) (
  ob2 (aD n (40, at3, s2, v7, dN, dO, aK, ())) (fun y8 =>
   none) (fun y8 =>
   some (.inr (y8.1, y8.2.1, y8.2.2.1, y8.2.2.2.1, y8.2.2.2.2.1, y8.2.2.2.2.2.1, y8.2.2.2.2.2.2.1, ())))) (
  chk (inB v7 s2.length) (
   let v9 : Int := ((bB 0 s2 v7).toNat : Int)
   let v10 : Int := IntKind.wrap .i64 (v7 + 1)
   br (v9 == 40) (
    ob2 (lV n aI (at3, s2, v10, dN, dO, aK, ())) (fun y11 =>
     some (.inl (y11.1, y11.2.1, y11.2.2.1, y11.2.2.2.1, y11.2.2.2.2.1, y11.2.2.2.2.2.1, ()))) (fun y11 =>
     some (.inr (y11.1, y11.2.1, y11.2.2.1, y11.2.2.2.1, y11.2.2.2.2.1, y11.2.2.2.2.2.1, y11.2.2.2.2.2.2.1, ())))) (
    br (decide (v9 ≥ 49)) (
     br (decide (v9 <= 57)) (
      let v12 : Int := IntKind.wrap .u8 (v9 - 48)
      chk (inB (IntKind.wrap .i64 v12) 10) (
       chk (decide ((IntKind.wrap .i64 v12).toNat < 10)) (
        br (!(dO.getD ((IntKind.wrap .i64 v12).toNat) (Ty.dflt .bool))) (
         ob2 (aD n (44, at3, s2, v10, dN, dO, aK, ())) (fun y13 =>
          none) (fun y13 =>
          some (.inr (y13.1, y13.2.1, y13.2.2.1, y13.2.2.2.1, y13.2.2.2.2.1, y13.2.2.2.2.2.1, y13.2.2.2.2.2.2.1, ())))) (
         ob (bD n (8, [0, 0, 0, 0], 0, 0, 0, 0, IntKind.wrap .i64 v12, s2, v10, dN, dO, aK, ())) fun y14 =>
         some (.inl (y14.1, y14.2.1, y14.2.2.1, y14.2.2.2.1, y14.2.2.2.2.1, y14.2.2.2.2.2.1, ())))))) (
      br (v9 == 110) (
       ob (nE n [10]) fun y15 =>
       ob (bS n (y15, s2, v10, dN, dO, aK, ())) fun y16 =>
       some (.inl (y16.1, y16.2.1, y16.2.2.1, y16.2.2.2.1, y16.2.2.2.2.1, y16.2.2.2.2.2.1, ()))) (
       ob (strings_IndexByte n ([46, 91, 92, 42, 94, 36, 47], v9)) fun y17 =>
       br (decide (y17 ≥ 0)) (
        ob (bN n (v9, v9)) fun y18 =>
        ob (bS n (y18, s2, v10, dN, dO, aK, ())) fun y19 =>
        some (.inl (y19.1, y19.2.1, y19.2.2.1, y19.2.2.2.1, y19.2.2.2.2.1, y19.2.2.2.2.2.1, ()))) (
        br (v9 == 123) (
         br uY (
          ob2 (aD n (43, at3, s2, v10, dN, dO, aK, ())) (fun y20 =>
           none) (fun y20 =>
           some (.inr (y20.1, y20.2.1, y20.2.2.1, y20.2.2.2.1, y20.2.2.2.2.1, y20.2.2.2.2.2.1, y20.2.2.2.2.2.2.1, ())))) (
          ob2 (aD n (40, at3, s2, v10, dN, dO, aK, ())) (fun y21 =>
           none) (fun y21 =>
           some (.inr (y21.1, y21.2.1, y21.2.2.1, y21.2.2.2.1, y21.2.2.2.2.1, y21.2.2.2.2.2.1, y21.2.2.2.2.2.2.1, ()))))) (
         ob2 (aD n (40, at3, s2, v10, dN, dO, aK, ())) (fun y22 =>
          none) (fun y22 =>
          some (.inr (y22.1, y22.2.1, y22.2.2.1, y22.2.2.2.1, y22.2.2.2.2.1, y22.2.2.2.2.2.1, y22.2.2.2.2.2.2.1, ())))))))) (
     br (v9 == 110) (
      ob (nE n [10]) fun y23 =>
      ob (bS n (y23, s2, v10, dN, dO, aK, ())) fun y24 =>
      some (.inl (y24.1, y24.2.1, y24.2.2.1, y24.2.2.2.1, y24.2.2.2.2.1, y24.2.2.2.2.2.1, ()))) (
      ob (strings_IndexByte n ([46, 91, 92, 42, 94, 36, 47], v9)) fun y25 =>
      br (decide (y25 ≥ 0)) (
       ob (bN n (v9, v9)) fun y26 =>
       ob (bS n (y26, s2, v10, dN, dO, aK, ())) fun y27 =>
       some (.inl (y27.1, y27.2.1, y27.2.2.1, y27.2.2.2.1, y27.2.2.2.2.1, y27.2.2.2.2.2.1, ()))) (
       br (v9 == 123) (
        br uY (
         ob2 (aD n (43, at3, s2, v10, dN, dO, aK, ())) (fun y28 =>
          none) (fun y28 =>
          some (.inr (y28.1, y28.2.1, y28.2.2.1, y28.2.2.2.1, y28.2.2.2.2.1, y28.2.2.2.2.2.1, y28.2.2.2.2.2.2.1, ())))) (
         ob2 (aD n (40, at3, s2, v10, dN, dO, aK, ())) (fun y29 =>
          none) (fun y29 =>
          some (.inr (y29.1, y29.2.1, y29.2.2.1, y29.2.2.2.1, y29.2.2.2.2.1, y29.2.2.2.2.2.1, y29.2.2.2.2.2.2.1, ()))))) (
        ob2 (aD n (40, at3, s2, v10, dN, dO, aK, ())) (fun y30 =>
         none) (fun y30 =>
         some (.inr (y30.1, y30.2.1, y30.2.2.1, y30.2.2.2.1, y30.2.2.2.2.1, y30.2.2.2.2.2.1, y30.2.2.2.2.2.2.1, ()))))))))))
def nH (n : Nat) (aI : (eT) -> Option nR) (x : Bool × eT) : Option nR :=
 let uY : Bool := x.1
 let s2 : List UInt8 := x.2.1
 let at3 : Int := x.2.2.1
 let dN : Int := x.2.2.2.1
 let dO : List (Bool) := x.2.2.2.2.1
 let aK : List (NdT) := x.2.2.2.2.2.1
 ob (bJ n ([46], s2, at3, dN, dO, aK, ())) fun y7 =>
 br y7.1 (
  ob (Af n ([0, 0, 0, 0])) fun y8 =>
  ob (bS n (y8, y7.2.1, y7.2.2.1, y7.2.2.2.1, y7.2.2.2.2.1, y7.2.2.2.2.2.1, ())) fun y9 =>
  some (.inl (y9.1, y9.2.1, y9.2.2.1, y9.2.2.2.1, y9.2.2.2.2.1, y9.2.2.2.2.2.1, ()))) (
  ob (aL n ([91], y7.2.1, y7.2.2.1, y7.2.2.2.1, y7.2.2.2.2.1, y7.2.2.2.2.2.1, ())) fun y10 =>
  br y10.1 (
   chk ((decide (0 <= y10.2.2.1) && decide (y10.2.2.1 <= (y10.2.1.length : Int)))) (
    let v11 : List UInt8 := y10.2.1.drop y10.2.2.1.toNat
    ob (nT n v11) fun y12 =>
    br (y12.2.2 != 0) (
     ob2 (aD n (y12.2.2, y10.2.2.1, y10.2.1, y10.2.2.1, y10.2.2.2.1, y10.2.2.2.2.1, y10.2.2.2.2.2.1, ())) (fun y13 =>
      none) (fun y13 =>
      some (.inr (y13.1, y13.2.1, y13.2.2.1, y13.2.2.2.1, y13.2.2.2.2.1, y13.2.2.2.2.2.1, y13.2.2.2.2.2.2.1, ())))) (
     let v14 : Int := IntKind.wrap .i64 (y10.2.2.1 + y12.2.1)
     ob (bS n (y12.1, y10.2.1, v14, y10.2.2.2.1, y10.2.2.2.2.1, y10.2.2.2.2.2.1, ())) fun y15 =>
     some (.inl (y15.1, y15.2.1, y15.2.2.1, y15.2.2.2.1, y15.2.2.2.2.1, y15.2.2.2.2.2.1, ()))))) (
   ob (aL n ([92], y10.2.1, y10.2.2.1, y10.2.2.2.1, y10.2.2.2.2.1, y10.2.2.2.2.2.1, ())) fun y16 =>
   br y16.1 (
    ob2 (nG n aI (uY, y16.2.1, y16.2.2.1, y16.2.2.2.1, y16.2.2.2.2.1, y16.2.2.2.2.2.1, ())) (fun y17 =>
     some (.inl (y17.1, y17.2.1, y17.2.2.1, y17.2.2.2.1, y17.2.2.2.2.1, y17.2.2.2.2.2.1, ()))) (fun y17 =>
     some (.inr (y17.1, y17.2.1, y17.2.2.1, y17.2.2.2.1, y17.2.2.2.2.1, y17.2.2.2.2.2.1, y17.2.2.2.2.2.2.1, ())))) (
    let v18 : Int := IntKind.wrap .i64 (y16.2.2.1 + 1)
    let v19 : Int := IntKind.wrap .i64 (v18 - 1)
    chk ((decide (0 <= v18) && decide (v18 <= (y16.2.1.length : Int)) && (decide (0 <= v19) && decide (v19 <= v18)))) (
     let v20 : List UInt8 := (y16.2.1.take v18.toNat).drop v19.toNat
     ob (nE n v20) fun y21 =>
     ob (bS n (y21, y16.2.1, v18, y16.2.2.2.1, y16.2.2.2.2.1, y16.2.2.2.2.2.1, ())) fun y22 =>
     some (.inl (y22.1, y22.2.1, y22.2.2.1, y22.2.2.2.1, y22.2.2.2.2.1, y22.2.2.2.2.2.1, ()))))))
def kT (n : Nat) (g1 : Int × Int × List UInt8 × Int × Int × List (Bool) × List (NdT) × List (Int) × Unit -> Option nR) (x50 : Int × Int × List UInt8 × Int × Int × List (Bool) × List (NdT) × List (Int) × Unit) : Option nR :=
 let zIy : Int := x50.1
 let zAq : Int := x50.2.1
 let s53 : List UInt8 := x50.2.2.1
 let zRh : Int := x50.2.2.2.1
 let zEh : Int := x50.2.2.2.2.1
 let zEi : List (Bool) := x50.2.2.2.2.2.1
 let zNz : List (NdT) := x50.2.2.2.2.2.2.1
 let Mv : List (Int) := x50.2.2.2.2.2.2.2.1
 br (decide (zAq ≥ 0)) (
  chk ((inB zAq (Mv.length) && decide (0 + (Mv.length) <= Mv.length))) (
   chk (decide (0 + zAq.toNat < Mv.length)) (
    let v59 : Int := Mv.getD (0 + zAq.toNat) (Ty.dflt (.int .i64))
    ob (bD n (4, [0, 0, 0, 0], v59, zIy, 0, 0, 0, s53, zRh, zEh, zEi, zNz, ())) fun y60 =>
    let v61 : Int := IntKind.wrap .i64 (zAq - 1)
    g1 (y60.1, v61, y60.2.1, y60.2.2.1, y60.2.2.2.1, y60.2.2.2.2.1, y60.2.2.2.2.2.1, Mv, ())))) (
  some (.inl (zIy, s53, zRh, zEh, zEi, zNz, ())))
def kU (n : Nat) (x37 : List UInt8 × Int × Int × List (Bool) × List (NdT) × List (Int) × Unit) : Option nR :=
 let s38 : List UInt8 := x37.1
 let zRi : Int := x37.2.1
 let zEj : Int := x37.2.2.1
 let zEk : List (Bool) := x37.2.2.2.1
 let zOa : List (NdT) := x37.2.2.2.2.1
 let zT : List (Int) := x37.2.2.2.2.2.1
 let v44 : Int := ((zT.length : Nat) : Int)
 br (v44 == 0) (
  some (.inl ((-1), s38, zRi, zEj, zEk, zOa, ()))) (
  let v45 : Int := ((zT.length : Nat) : Int)
  let v46 : Int := IntKind.wrap .i64 (v45 - 1)
  chk ((inB v46 (zT.length) && decide (0 + (zT.length) <= zT.length))) (
   chk (decide (0 + v46.toNat < zT.length)) (
    let v47 : Int := zT.getD (0 + v46.toNat) (Ty.dflt (.int .i64))
    let v48 : Int := ((zT.length : Nat) : Int)
    let v49 : Int := IntKind.wrap .i64 (v48 - 2)
    fix (kT n) n (v47, v49, s38, zRi, zEj, zEk, zOa, zT, ()))))
def eU (n : Nat) (aI : (eT) -> Option nR) (g0 : Bool × List UInt8 × Int × Int × List (Bool) × List (NdT) × List (Int) × Unit -> Option nR) (x26 : Bool × Bool × List UInt8 × Int × Int × List (Bool) × List (NdT) × List (Int) × Unit) : Option nR :=
 let zMe : Bool := x26.1
 let zRj : Bool := x26.2.1
 let s29 : List UInt8 := x26.2.2.1
 let zRk : Int := x26.2.2.2.1
 let zEl : Int := x26.2.2.2.2.1
 let zEm : List (Bool) := x26.2.2.2.2.2.1
 let zOb : List (NdT) := x26.2.2.2.2.2.2.1
 let Yq : List (Int) := x26.2.2.2.2.2.2.2.1
 br zRj (
  let v35 : Int := IntKind.wrap .i64 (zRk + 1)
  ob (bD n (3, [0, 0, 0, 0], 0, 0, 0, 0, 0, s29, v35, zEl, zEm, zOb, ())) fun y36 =>
  chk (Nat.ble ((Yq.length + ([y36.1] : List (Int)).length) * 8) room) (
   jn (kU n) (y36.2.1, y36.2.2.1, y36.2.2.2.1, y36.2.2.2.2.1, y36.2.2.2.2.2.1, Yq ++ [y36.1], ()))) (
  ob2 (nH n aI (zMe, s29, zRk, zEl, zEm, zOb, ())) (fun y62 =>
   ob2 (lU n (y62.1, y62.2.1, y62.2.2.1, y62.2.2.2.1, y62.2.2.2.2.1, y62.2.2.2.2.2.1, ())) (fun y63 =>
    chk (Nat.ble ((Yq.length + ([y63.1] : List (Int)).length) * 8) room) (
     g0 (false, y63.2.1, y63.2.2.1, y63.2.2.2.1, y63.2.2.2.2.1, y63.2.2.2.2.2.1, Yq ++ [y63.1], ()))) (fun y63 =>
    some (.inr (y63.1, y63.2.1, y63.2.2.1, y63.2.2.2.1, y63.2.2.2.2.1, y63.2.2.2.2.2.1, y63.2.2.2.2.2.2.1, ())))) (fun y62 =>
   some (.inr (y62.1, y62.2.1, y62.2.2.1, y62.2.2.2.1, y62.2.2.2.2.1, y62.2.2.2.2.2.1, y62.2.2.2.2.2.2.1, ()))))
def iI (n : Nat) (aI : (eT) -> Option nR) (g0 : Bool × List UInt8 × Int × Int × List (Bool) × List (NdT) × List (Int) × Unit -> Option nR) (x15 : Bool × List UInt8 × Int × Int × List (Bool) × List (NdT) × List (Int) × Unit) : Option nR :=
 let Pm : Bool := x15.1
 let s17 : List UInt8 := x15.2.1
 let zTk : Int := x15.2.2.1
 let zPe : Int := x15.2.2.2.1
 let zPf : List (Bool) := x15.2.2.2.2.1
 let zSl : List (NdT) := x15.2.2.2.2.2.1
 let Yr : List (Int) := x15.2.2.2.2.2.2.1
 ob (kL n (s17, zTk, zPe, zPf, zSl, ())) fun y23 =>
 br (!y23.1) (
  ob (aL n ([36], y23.2.1, y23.2.2.1, y23.2.2.2.1, y23.2.2.2.2.1, y23.2.2.2.2.2.1, ())) fun y24 =>
  br y24.1 (
   let v25 : Int := IntKind.wrap .i64 (y24.2.2.1 + 1)
   br (v25 == (y24.2.1.length : Int)) (
    jn (eU n aI g0) (Pm, true, y24.2.1, y24.2.2.1, y24.2.2.2.1, y24.2.2.2.2.1, y24.2.2.2.2.2.1, Yr, ())) (
    ob (aL n ([36, 92, 41], y24.2.1, y24.2.2.1, y24.2.2.2.1, y24.2.2.2.2.1, y24.2.2.2.2.2.1, ())) fun y64 =>
    jn (eU n aI g0) (Pm, y64.1, y64.2.1, y64.2.2.1, y64.2.2.2.1, y64.2.2.2.2.1, y64.2.2.2.2.2.1, Yr, ()))) (
   jn (eU n aI g0) (Pm, false, y24.2.1, y24.2.2.1, y24.2.2.2.1, y24.2.2.2.2.1, y24.2.2.2.2.2.1, Yr, ()))) (
  jn (kU n) (y23.2.1, y23.2.2.1, y23.2.2.2.1, y23.2.2.2.2.1, y23.2.2.2.2.2.1, Yr, ()))
def kV (n : Nat) (aI : (eT) -> Option nR) (x8 : List UInt8 × Int × Int × List (Bool) × List (NdT) × List (Int) × Unit) : Option nR :=
 let s9 : List UInt8 := x8.1
 let zTl : Int := x8.2.1
 let zPg : Int := x8.2.2.1
 let zPh : List (Bool) := x8.2.2.2.1
 let Cx : List (NdT) := x8.2.2.2.2.1
 let zSm : List (Int) := x8.2.2.2.2.2.1
 fix (iI n aI) n (true, s9, zTl, zPg, zPh, Cx, zSm, ())
def mG (n : Nat) (aI : (eT) -> Option nR) (x : eT) : Option nR :=
 let s1 : List UInt8 := x.1
 let at2 : Int := x.2.1
 let Ef : Int := x.2.2.1
 let Eh : List (Bool) := x.2.2.2.1
 let lS : List (NdT) := x.2.2.2.2.1
 ob (bJ n ([94], s1, at2, Ef, Eh, lS, ())) fun y6 =>
 br y6.1 (
  ob (bD n (2, [0, 0, 0, 0], 0, 0, 0, 0, 0, y6.2.1, y6.2.2.1, y6.2.2.2.1, y6.2.2.2.2.1, y6.2.2.2.2.2.1, ())) fun y7 =>
  chk (Nat.ble (([y7.1] : List (Int)).length * 8) room) (
   jn (kV n aI) (y7.2.1, y7.2.2.1, y7.2.2.2.1, y7.2.2.2.2.1, y7.2.2.2.2.2.1, [y7.1], ()))) (
  jn (kV n aI) (y6.2.1, y6.2.2.1, y6.2.2.2.1, y6.2.2.2.2.1, y6.2.2.2.2.2.1, [], ()))
def gF (n : Nat) : (eT) -> Option nR :=
 zAg (fun n r x => mG n r x) n
def sZ (n : Nat) (x : List UInt8 × eT) : Option (Sum (List UInt8 × eT) (Int × Int × List UInt8 × eT)) :=
 let b1 : List UInt8 := x.1
 let s2 : List UInt8 := x.2.1
 let at3 : Int := x.2.2.1
 let dN : Int := x.2.2.2.1
 let dO : List (Bool) := x.2.2.2.2.1
 let aK : List (NdT) := x.2.2.2.2.2.1
 ob2 (gF n (s2, at3, dN, dO, aK, ())) (fun y7 =>
  br (decide (y7.2.2.1 < (b1.length : Int))) (
   ob2 (aD n (41, y7.2.2.1, y7.2.1, y7.2.2.1, y7.2.2.2.1, y7.2.2.2.2.1, y7.2.2.2.2.2.1, ())) (fun y8 =>
    none) (fun y8 =>
    some (.inr (y8.1, y8.2.1, b1, y8.2.2.1, y8.2.2.2.1, y8.2.2.2.2.1, y8.2.2.2.2.2.1, y8.2.2.2.2.2.2.1, ())))) (
   let v9 : Int := ((y7.2.2.2.2.2.1.length : Nat) : Int)
   br (decide (v9 > 120)) (
    ob2 (aD n (2, 0, y7.2.1, y7.2.2.1, y7.2.2.2.1, y7.2.2.2.2.1, y7.2.2.2.2.2.1, ())) (fun y10 =>
     none) (fun y10 =>
     some (.inr (y10.1, y10.2.1, b1, y10.2.2.1, y10.2.2.2.1, y10.2.2.2.2.1, y10.2.2.2.2.2.1, y10.2.2.2.2.2.2.1, ())))) (
    some (.inl (b1, y7.2.1, y7.2.2.1, y7.2.2.2.1, y7.2.2.2.2.1, y7.2.2.2.2.2.1, ()))))) (fun y7 =>
  some (.inr (y7.1, y7.2.1, b1, y7.2.2.1, y7.2.2.2.1, y7.2.2.2.2.1, y7.2.2.2.2.2.1, y7.2.2.2.2.2.2.1, ())))
def fD (n : Nat) (x : List UInt8 × eT) : Option (Int × Int × List UInt8 × eT) := ob2 (sZ n x) (fun y => some (0, 0, y)) (fun y => some y)
def iW (n : Nat) (x : List UInt8) : Option (List (NdT) × Int × Int) :=
 let s_0 : List UInt8 := x
 br (s_0 == []) (
  some ([(0, ([0, 0, 0, 0], (0, (0, (0, (0, (0, ())))))))], 0, 0)) (
  ob (fD n (s_0, s_0, 0, 0, [false, false, false, false, false, false, false, false, false, false], [], ())) fun y1 =>
  br (y1.1 != 0) (
   some ([], y1.2.1, y1.1)) (
   some (y1.2.2.2.2.2.2.2.1, 0, 0)))
def gB (n : Nat) (x : Int × List (Int) × Int × Int × Int × Int × Int × Unit) : Option (Int) :=
 let n_0 : Int × List (Int) × Int × Int × Int × Int × Int × Unit := x
 br (n_0.1 == 4) (
  br (n_0.1 == 4) (
   some 2) (
   br (n_0.1 == 6) (
    br (n_0.1 == 6) (
     some 1) (
     some 0)) (
    br (n_0.1 == 7) (
     some 1) (
     some 0)))) (
  br (n_0.1 == 5) (
   some 2) (
   br (n_0.1 == 6) (
    br (n_0.1 == 6) (
     some 1) (
     some 0)) (
    br (n_0.1 == 7) (
     some 1) (
     some 0))))
def bF (n : Nat) (x : Int × List (Int) × Int × Int × Int × Int × Int × Unit) : Option (NdT) :=
 let n_0 : Int × List (Int) × Int × Int × Int × Int × Int × Unit := x
 br (n_0.1 == 1) (
  some (n_0.1, (n_0.2.1, (0, (0, (0, (0, (0, ())))))))) (
  br (n_0.1 == 4) (
   br (n_0.1 == 4) (
    some (n_0.1, ([0, 0, 0, 0], (n_0.2.2.1, (n_0.2.2.2.1, (0, (0, (0, ())))))))) (
    br (n_0.1 == 6) (
     some (n_0.1, ([0, 0, 0, 0], (n_0.2.2.1, (0, (n_0.2.2.2.2.1, (n_0.2.2.2.2.2.1, (0, ())))))))) (
     br (n_0.1 == 7) (
      some (n_0.1, ([0, 0, 0, 0], (n_0.2.2.1, (0, (0, (0, n_0.2.2.2.2.2.2))))))) (
      br (n_0.1 == 8) (
       some (n_0.1, ([0, 0, 0, 0], (0, (0, (0, (0, n_0.2.2.2.2.2.2))))))) (
       some (n_0.1, ([0, 0, 0, 0], (0, (0, (0, (0, (0, ())))))))))))) (
   br (n_0.1 == 5) (
    some (n_0.1, ([0, 0, 0, 0], (n_0.2.2.1, (n_0.2.2.2.1, (0, (0, (0, ())))))))) (
    br (n_0.1 == 6) (
     some (n_0.1, ([0, 0, 0, 0], (n_0.2.2.1, (0, (n_0.2.2.2.2.1, (n_0.2.2.2.2.2.1, (0, ())))))))) (
     br (n_0.1 == 7) (
      some (n_0.1, ([0, 0, 0, 0], (n_0.2.2.1, (0, (0, (0, n_0.2.2.2.2.2.2))))))) (
      br (n_0.1 == 8) (
       some (n_0.1, ([0, 0, 0, 0], (0, (0, (0, (0, n_0.2.2.2.2.2.2))))))) (
       some (n_0.1, ([0, 0, 0, 0], (0, (0, (0, (0, (0, ())))))))))))))
def nU (n : Nat) (x : Int × List (Int) × Int × Int × Int × Int × Int × Unit) : Option (Bool) :=
 let n_0 : Int × List (Int) × Int × Int × Int × Int × Int × Unit := x
 br (decide (n_0.1 < 0)) (
  some false) (
  br (decide (n_0.1 > 8)) (
   some false) (
   ob (bF n n_0) fun y1 =>
   br (!(Ty.beq aC n_0 y1)) (
    some false) (
    br (n_0.1 == 1) (
     some (!(Ty.beq (.arr 4 (.int .u64)) n_0.2.1 ([0, 0, 0, 0])))) (
     br (n_0.1 == 6) (
      br (decide (n_0.2.2.2.2.1 ≥ 0)) (
       br (decide (n_0.2.2.2.2.1 <= 255)) (
        br (n_0.2.2.2.2.2.1 == (-1)) (
         some true) (
         let v2 : Int := if 1 > n_0.2.2.2.2.1 then 1 else n_0.2.2.2.2.1
         br (decide (n_0.2.2.2.2.2.1 ≥ v2)) (
          some (decide (n_0.2.2.2.2.2.1 <= 255))) (
          some false))) (
        some false)) (
       some false)) (
      br (n_0.1 == 7) (
       br (n_0.1 == 7) (
        br (decide (n_0.2.2.2.2.2.2.1 ≥ 1)) (
         some (decide (n_0.2.2.2.2.2.2.1 <= 9))) (
         some false)) (
        some true)) (
       br (n_0.1 == 8) (
        br (decide (n_0.2.2.2.2.2.2.1 ≥ 1)) (
         some (decide (n_0.2.2.2.2.2.2.1 <= 9))) (
         some false)) (
        some true)))))))
def Dl (n : Nat) (g0 : List (Int) × Int × Int × Int × Unit -> Option (Int)) (x1 : List (Int) × Int × Int × Int × Unit) : Option (Int) :=
 let s_2 : List (Int) := x1.1
 let v_3 : Int := x1.2.1
 let mM : Int := x1.2.2.1
 let zAr : Int := x1.2.2.2.1
 br (decide (zAr < mM)) (
  chk (inB zAr s_2.length) (
   let v6 : Int := bB (Ty.dflt (.int .i64)) s_2 zAr
   br (v_3 == v6) (
    some zAr) (
    let v7 : Int := IntKind.wrap .i64 (zAr + 1)
    g0 (s_2, v_3, mM, v7, ())))) (
  some (-1))
def uM (n : Nat) (x : List (Int) × Int) : Option (Int) :=
 let s_0 : List (Int) := x.1
 let v_1 : Int := x.2
 fix (Dl n) n (s_0, v_1, (s_0.length : Int), 0, ())
def mH (n : Nat) (x : List (Int) × Int) : Option (Bool) :=
 let s_0 : List (Int) := x.1
 let v_1 : Int := x.2
 ob (uM n (s_0, v_1)) fun y1 =>
 some (decide (y1 ≥ 0))
def iQ (n : Nat) (x : List (NdT) × Int × List (Int) × Int × Int × Int × Int × Int × Unit) : Option (Bool) :=
 let l_0 : List (NdT) := x.1
 let n_1 : Int × List (Int) × Int × Int × Int × Int × Int × Unit := x.2
 br (n_1.1 == 4) (
  chk (inB n_1.2.2.1 l_0.length) (
   let v1 : Int × List (Int) × Int × Int × Int × Int × Int × Unit := bB (Ty.dflt aC) l_0 n_1.2.2.1
   br (v1.1 != 4) (
    chk (inB n_1.2.2.1 l_0.length) (
     let v2 : Int × List (Int) × Int × Int × Int × Int × Int × Unit := bB (Ty.dflt aC) l_0 n_1.2.2.1
     br (v2.1 != 5) (
      chk (inB n_1.2.2.2.1 l_0.length) (
       let v3 : Int × List (Int) × Int × Int × Int × Int × Int × Unit := bB (Ty.dflt aC) l_0 n_1.2.2.2.1
       some (v3.1 != 5))) (
      some false))) (
    some false))) (
  br (n_1.1 == 5) (
   chk (inB n_1.2.2.1 l_0.length) (
    let v4 : Int × List (Int) × Int × Int × Int × Int × Int × Unit := bB (Ty.dflt aC) l_0 n_1.2.2.1
    some (v4.1 != 5))) (
   br (n_1.1 == 6) (
    chk (inB n_1.2.2.1 l_0.length) (
     let v5 : Int × List (Int) × Int × Int × Int × Int × Int × Unit := bB (Ty.dflt aC) l_0 n_1.2.2.1
     ob (mH n ([1, 7, 8], v5.1)) fun y6 =>
     some y6)) (
    some true)))
def eX (n : Nat) (g0 : List (NdT) × List (NdT) × Int × Int × List (Int) × Unit -> Option (Bool)) (x1 : List (NdT) × List (NdT) × Int × Int × List (Int) × Unit) : Option (Bool) :=
 let l_2 : List (NdT) := x1.1
 let Ki : List (NdT) := x1.2.1
 let Pn : Int := x1.2.2.1
 let jN : Int := x1.2.2.2.1
 let aK : List (Int) := x1.2.2.2.2.1
 br (decide (jN < Pn)) (
  chk (inB jN Ki.length) (
   let v7 : Int × List (Int) × Int × Int × Int × Int × Int × Unit := bB (Ty.dflt aC) Ki jN
   let v8 : Int := ((aK.length : Nat) : Int)
   ob (gB n v7) fun y9 =>
   let v10 : Int := IntKind.wrap .i64 (v8 - y9)
   ob (nU n v7) fun y11 =>
   br (!y11) (
    some false) (
    br (decide (v10 < 0)) (
     some false) (
     br (v7.1 == 0) (
      br (decide ((l_2.length : Int) > 1)) (
       some false) (
       chk ((decide (0 <= v10) && decide (v10 <= (aK.length : Int)))) (
        let v12 : Int := (((aK.length) - (v10.toNat) : Nat) : Int)
        br (decide (v12 > 0)) (
         chk ((inB 0 ((aK.length) - (v10.toNat)) && decide ((0 + (v10.toNat)) + ((aK.length) - (v10.toNat)) <= aK.length))) (
          chk (decide ((0 + (v10.toNat)) + (0 : Int).toNat < aK.length)) (
           let v13 : Int := aK.getD ((0 + (v10.toNat)) + (0 : Int).toNat) (Ty.dflt (.int .i64))
           br (v13 != v7.2.2.1) (
            some false) (
            let v14 : Int := (((aK.length) - (v10.toNat) : Nat) : Int)
            br (decide (v14 > 1)) (
             chk ((inB 1 ((aK.length) - (v10.toNat)) && decide ((0 + (v10.toNat)) + ((aK.length) - (v10.toNat)) <= aK.length))) (
              chk (decide ((0 + (v10.toNat)) + (1 : Int).toNat < aK.length)) (
               let v15 : Int := aK.getD ((0 + (v10.toNat)) + (1 : Int).toNat) (Ty.dflt (.int .i64))
               br (v15 != v7.2.2.2.1) (
                some false) (
                ob (iQ n (l_2, v7)) fun y16 =>
                br (!y16) (
                 some false) (
                 chk ((decide (0 <= v10) && decide (v10 <= (aK.length : Int)))) (
                  chk ((Nat.ble (v10.toNat) aK.length && Nat.ble (((v10.toNat) + ([jN] : List (Int)).length) * 8) room)) (
                   let r17 : List (Int) := aK.take (v10.toNat) ++ [jN]
                   let v18 : Int := IntKind.wrap .i64 (jN + 1)
                   g0 (l_2, Ki, Pn, v18, r17, ())))))))) (
             ob (iQ n (l_2, v7)) fun y19 =>
             br (!y19) (
              some false) (
              chk ((decide (0 <= v10) && decide (v10 <= (aK.length : Int)))) (
               chk ((Nat.ble (v10.toNat) aK.length && Nat.ble (((v10.toNat) + ([jN] : List (Int)).length) * 8) room)) (
                let r20 : List (Int) := aK.take (v10.toNat) ++ [jN]
                let v21 : Int := IntKind.wrap .i64 (jN + 1)
                g0 (l_2, Ki, Pn, v21, r20, ()))))))))) (
         ob (iQ n (l_2, v7)) fun y22 =>
         br (!y22) (
          some false) (
          chk ((decide (0 <= v10) && decide (v10 <= (aK.length : Int)))) (
           chk ((Nat.ble (v10.toNat) aK.length && Nat.ble (((v10.toNat) + ([jN] : List (Int)).length) * 8) room)) (
            let r23 : List (Int) := aK.take (v10.toNat) ++ [jN]
            let v24 : Int := IntKind.wrap .i64 (jN + 1)
            g0 (l_2, Ki, Pn, v24, r23, ())))))))) (
      chk ((decide (0 <= v10) && decide (v10 <= (aK.length : Int)))) (
       let v25 : Int := (((aK.length) - (v10.toNat) : Nat) : Int)
       br (decide (v25 > 0)) (
        chk ((inB 0 ((aK.length) - (v10.toNat)) && decide ((0 + (v10.toNat)) + ((aK.length) - (v10.toNat)) <= aK.length))) (
         chk (decide ((0 + (v10.toNat)) + (0 : Int).toNat < aK.length)) (
          let v26 : Int := aK.getD ((0 + (v10.toNat)) + (0 : Int).toNat) (Ty.dflt (.int .i64))
          br (v26 != v7.2.2.1) (
           some false) (
           let v27 : Int := (((aK.length) - (v10.toNat) : Nat) : Int)
           br (decide (v27 > 1)) (
            chk ((inB 1 ((aK.length) - (v10.toNat)) && decide ((0 + (v10.toNat)) + ((aK.length) - (v10.toNat)) <= aK.length))) (
             chk (decide ((0 + (v10.toNat)) + (1 : Int).toNat < aK.length)) (
              let v28 : Int := aK.getD ((0 + (v10.toNat)) + (1 : Int).toNat) (Ty.dflt (.int .i64))
              br (v28 != v7.2.2.2.1) (
               some false) (
               ob (iQ n (l_2, v7)) fun y29 =>
               br (!y29) (
                some false) (
                chk ((decide (0 <= v10) && decide (v10 <= (aK.length : Int)))) (
                 chk ((Nat.ble (v10.toNat) aK.length && Nat.ble (((v10.toNat) + ([jN] : List (Int)).length) * 8) room)) (
                  let r30 : List (Int) := aK.take (v10.toNat) ++ [jN]
                  let v31 : Int := IntKind.wrap .i64 (jN + 1)
                  g0 (l_2, Ki, Pn, v31, r30, ())))))))) (
            ob (iQ n (l_2, v7)) fun y32 =>
            br (!y32) (
             some false) (
             chk ((decide (0 <= v10) && decide (v10 <= (aK.length : Int)))) (
              chk ((Nat.ble (v10.toNat) aK.length && Nat.ble (((v10.toNat) + ([jN] : List (Int)).length) * 8) room)) (
               let r33 : List (Int) := aK.take (v10.toNat) ++ [jN]
               let v34 : Int := IntKind.wrap .i64 (jN + 1)
               g0 (l_2, Ki, Pn, v34, r33, ()))))))))) (
        ob (iQ n (l_2, v7)) fun y35 =>
        br (!y35) (
         some false) (
         chk ((decide (0 <= v10) && decide (v10 <= (aK.length : Int)))) (
          chk ((Nat.ble (v10.toNat) aK.length && Nat.ble (((v10.toNat) + ([jN] : List (Int)).length) * 8) room)) (
           let r36 : List (Int) := aK.take (v10.toNat) ++ [jN]
           let v37 : Int := IntKind.wrap .i64 (jN + 1)
           g0 (l_2, Ki, Pn, v37, r36, ()))))))))))) (
  let v38 : Int := ((aK.length : Nat) : Int)
  some (v38 == 1))
def rM (n : Nat) (x : List (NdT)) : Option (Bool) :=
 let l_0 : List (NdT) := x
 fix (eX n) n (l_0, l_0, (l_0.length : Int), 0, [], ())
def cB (n : Nat) (cO : (Int × List (NdT) × Int × Bool × List (Bool) × Bool × Unit) -> Option (List (NdT) × Int × Bool × List (Bool) × Bool × Unit)) (x : Int × List (NdT) × Int × Bool × List (Bool) × Bool × Unit) : Option (List (NdT) × Int × Bool × List (Bool) × Bool × Unit) :=
 let i_1 : Int := x.1
 let b2 : List (NdT) := x.2.1
 let b3 : Int := x.2.2.1
 let b4 : Bool := x.2.2.2.1
 let b5 : List (Bool) := x.2.2.2.2.1
 let b6 : Bool := x.2.2.2.2.2.1
 chk (inB i_1 b2.length) (
  let v7 : Int × List (Int) × Int × Int × Int × Int × Int × Unit := bB (Ty.dflt aC) b2 i_1
  br (v7.1 == 4) (
   br (v7.1 == 4) (
    ob (cO (v7.2.2.1, b2, b3, b4, b5, b6, ())) fun y8 =>
    ob (cO (v7.2.2.2.1, y8.1, y8.2.1, y8.2.2.1, y8.2.2.2.1, y8.2.2.2.2.1, ())) fun y9 =>
    some (y9.1, y9.2.1, y9.2.2.1, y9.2.2.2.1, y9.2.2.2.2.1, ())) (
    br (v7.1 == 6) (
     ob (cO (v7.2.2.1, b2, b3, b4, b5, b6, ())) fun y10 =>
     some (y10.1, y10.2.1, y10.2.2.1, y10.2.2.2.1, y10.2.2.2.2.1, ())) (
     br (v7.1 == 7) (
      let v11 : Int := IntKind.wrap .i64 (b3 + 1)
      br b4 (
       ob (cO (v7.2.2.1, b2, v11, (v7.2.2.2.2.2.2.1 == v11), b5, b6, ())) fun y12 =>
       chk (inB v7.2.2.2.2.2.2.1 10) (
        chk (decide (v7.2.2.2.2.2.2.1.toNat < 10)) (
         some (y12.1, y12.2.1, y12.2.2.1, y12.2.2.2.1.set (v7.2.2.2.2.2.2.1.toNat) true, y12.2.2.2.2.1, ())))) (
       ob (cO (v7.2.2.1, b2, v11, false, b5, b6, ())) fun y13 =>
       chk (inB v7.2.2.2.2.2.2.1 10) (
        chk (decide (v7.2.2.2.2.2.2.1.toNat < 10)) (
         some (y13.1, y13.2.1, y13.2.2.1, y13.2.2.2.1.set (v7.2.2.2.2.2.2.1.toNat) true, y13.2.2.2.2.1, ()))))) (
      br (v7.1 == 8) (
       br b4 (
        chk (inB v7.2.2.2.2.2.2.1 10) (
         chk (decide (v7.2.2.2.2.2.2.1.toNat < 10)) (
          some (b2, b3, b5.getD (v7.2.2.2.2.2.2.1.toNat) (Ty.dflt .bool), b5, true, ())))) (
        some (b2, b3, false, b5, true, ()))) (
       some (b2, b3, b4, b5, b6, ())))))) (
   br (v7.1 == 5) (
    ob (cO (v7.2.2.1, b2, b3, b4, b5, b6, ())) fun y14 =>
    ob (cO (v7.2.2.2.1, y14.1, y14.2.1, y14.2.2.1, y14.2.2.2.1, y14.2.2.2.2.1, ())) fun y15 =>
    some (y15.1, y15.2.1, y15.2.2.1, y15.2.2.2.1, y15.2.2.2.2.1, ())) (
    br (v7.1 == 6) (
     ob (cO (v7.2.2.1, b2, b3, b4, b5, b6, ())) fun y16 =>
     some (y16.1, y16.2.1, y16.2.2.1, y16.2.2.2.1, y16.2.2.2.2.1, ())) (
     br (v7.1 == 7) (
      let v17 : Int := IntKind.wrap .i64 (b3 + 1)
      br b4 (
       ob (cO (v7.2.2.1, b2, v17, (v7.2.2.2.2.2.2.1 == v17), b5, b6, ())) fun y18 =>
       chk (inB v7.2.2.2.2.2.2.1 10) (
        chk (decide (v7.2.2.2.2.2.2.1.toNat < 10)) (
         some (y18.1, y18.2.1, y18.2.2.1, y18.2.2.2.1.set (v7.2.2.2.2.2.2.1.toNat) true, y18.2.2.2.2.1, ())))) (
       ob (cO (v7.2.2.1, b2, v17, false, b5, b6, ())) fun y19 =>
       chk (inB v7.2.2.2.2.2.2.1 10) (
        chk (decide (v7.2.2.2.2.2.2.1.toNat < 10)) (
         some (y19.1, y19.2.1, y19.2.2.1, y19.2.2.2.1.set (v7.2.2.2.2.2.2.1.toNat) true, y19.2.2.2.2.1, ()))))) (
      br (v7.1 == 8) (
       br b4 (
        chk (inB v7.2.2.2.2.2.2.1 10) (
         chk (decide (v7.2.2.2.2.2.2.1.toNat < 10)) (
          some (b2, b3, b5.getD (v7.2.2.2.2.2.2.1.toNat) (Ty.dflt .bool), b5, true, ())))) (
        some (b2, b3, false, b5, true, ()))) (
       some (b2, b3, b4, b5, b6, ())))))))
def kF (n : Nat) : (Int × List (NdT) × Int × Bool × List (Bool) × Bool × Unit) -> Option (List (NdT) × Int × Bool × List (Bool) × Bool × Unit) :=
 zAg (fun n r x => cB n r x) n
def xR (n : Nat) (x : List (NdT)) : Option (Int × Bool × Bool) :=
 let l_0 : List (NdT) := x
 let v1 : Int := IntKind.wrap .i64 ((l_0.length : Int) - 1)
 ob (kF n (v1, l_0, 0, true, [false, false, false, false, false, false, false, false, false, false], false, ())) fun y2 =>
 some (y2.2.1, y2.2.2.2.2.1, y2.2.2.1)
def pW (n : Nat) (x : List (NdT)) : Option (Int × Bool × Bool) :=
 let l_0 : List (NdT) := x
 br ((l_0.length : Int) == 0) (
  some (0, false, false)) (
  br (decide ((l_0.length : Int) > 120)) (
   some (0, false, false)) (
   ob (rM n l_0) fun y1 =>
   br (!y1) (
    some (0, false, false)) (
    ob (xR n l_0) fun y2 =>
    br (!y2.2.2) (
     some (0, false, false)) (
     some (y2.1, y2.2.1, true)))))
def vM (n : Nat) (x : List (NdT)) : Option (Bool) :=
 let l_0 : List (NdT) := x
 ob (pW n l_0) fun y1 =>
 some y1.2.2
def Aw (n : Nat) (x : Int) : Option (List UInt8) :=
 let b_0 : Int := x
 br (b_0 == 10) (
  some [92, 110]) (
  ob (strings_IndexByte n ([46, 91, 92, 42, 94, 36], b_0)) fun y1 =>
  br (decide (y1 ≥ 0)) (
   chk (decide ([92].length + (jF [b_0]).length <= aJ)) (
    some ([92] ++ (jF [b_0])))) (
   some (jF [b_0])))
def pX (n : Nat) (x : List (Int) × Int) : Option (Bool) :=
 let s_0 : List (Int) := x.1
 let b_1 : Int := x.2
 chk (decide (0 <= 6)) (
  chk (inB (kR .u8 b_1 6) 4) (
   chk (decide ((kR .u8 b_1 6).toNat < 4)) (
    let v1 : Int := s_0.getD ((kR .u8 b_1 6).toNat) (Ty.dflt (.int .u64))
    chk (decide (0 <= dD .u8 .and b_1 63)) (
     let v2 : Int := kR .u64 v1 (dD .u8 .and b_1 63)
     some ((dD .u64 .and v2 1) == 1)))))
def rO (n : Nat) (g0 : List UInt8 × Int × Int × List (List UInt8) × Unit -> Option (List (List UInt8))) (x1 : List UInt8 × Int × Int × List (List UInt8) × Unit) : Option (List (List UInt8)) :=
 let s_2 : List UInt8 := x1.1
 let zGx : Int := x1.2.1
 let mM : Int := x1.2.2.1
 let lS : List (List UInt8) := x1.2.2.2.1
 br (decide (mM < zGx)) (
  let v6 : Int := ((lS.length : Nat) : Int)
  let v7 : Int := IntKind.wrap .i64 (v6 - 1)
  br (decide (v7 ≥ 0)) (
   chk (inB mM s_2.length) (
    let v8 : Int := ((bB 0 s_2 mM).toNat : Int)
    let v9 : Int := IntKind.wrap .i64 (mM - 1)
    chk (inB v9 s_2.length) (
     let v10 : Int := ((bB 0 s_2 v9).toNat : Int)
     let v11 : Int := IntKind.wrap .u8 (v10 + 1)
     br (v8 == v11) (
      chk ((inB v7 (lS.length) && decide (0 + (lS.length) <= lS.length))) (
       chk (decide (0 + v7.toNat < lS.length)) (
        let v12 : List UInt8 := lS.getD (0 + v7.toNat) (Ty.dflt .str)
        let v13 : Int := IntKind.wrap .i64 (mM + 1)
        chk ((decide (0 <= v13) && decide (v13 <= (s_2.length : Int)) && (decide (0 <= mM) && decide (mM <= v13)))) (
         let v14 : List UInt8 := (s_2.take v13.toNat).drop mM.toNat
         chk (decide (v12.length + v14.length <= aJ)) (
          chk ((inB v7 (lS.length) && decide (0 + (lS.length) <= lS.length))) (
           chk (decide (0 + v7.toNat < lS.length)) (
            let r15 : List (List UInt8) := lS.set (0 + v7.toNat) (v12 ++ v14)
            let v16 : Int := IntKind.wrap .i64 (mM + 1)
            g0 (s_2, zGx, v16, r15, ())))))))) (
      let v17 : Int := IntKind.wrap .i64 (mM + 1)
      chk ((decide (0 <= v17) && decide (v17 <= (s_2.length : Int)) && (decide (0 <= mM) && decide (mM <= v17)))) (
       let v18 : List UInt8 := (s_2.take v17.toNat).drop mM.toNat
       chk (Nat.ble ((lS.length + ([v18] : List (List UInt8)).length) * 16) room) (
        let v19 : Int := IntKind.wrap .i64 (mM + 1)
        g0 (s_2, zGx, v19, lS ++ [v18], ()))))))) (
   let v20 : Int := IntKind.wrap .i64 (mM + 1)
   chk ((decide (0 <= v20) && decide (v20 <= (s_2.length : Int)) && (decide (0 <= mM) && decide (mM <= v20)))) (
    let v21 : List UInt8 := (s_2.take v20.toNat).drop mM.toNat
    chk (Nat.ble ((lS.length + ([v21] : List (List UInt8)).length) * 16) room) (
     let v22 : Int := IntKind.wrap .i64 (mM + 1)
     g0 (s_2, zGx, v22, lS ++ [v21], ()))))) (
  some lS)
def Ay (n : Nat) (x : List UInt8) : Option (List (List UInt8)) :=
 let s_0 : List UInt8 := x
 fix (rO n) n (s_0, (s_0.length : Int), 0, [], ())
def lI (n : Nat) (g2 : List UInt8 × Int × Int × List (Int) × List (List UInt8) × Unit -> Option (List UInt8)) (x35 : List UInt8 × Int × Int × List (Int) × List (List UInt8) × Unit) : Option (List UInt8) :=
 let Dm : List UInt8 := x35.1
 let Ei : Int := x35.2.1
 let vN : Int := x35.2.2.1
 let b39 : List (Int) := x35.2.2.2.1
 let xS : List (List UInt8) := x35.2.2.2.2.1
 br (decide (vN < Ei)) (
  chk ((inB vN (xS.length) && decide (0 + (xS.length) <= xS.length))) (
   chk (decide (0 + vN.toNat < xS.length)) (
    let v41 : List UInt8 := xS.getD (0 + vN.toNat) (Ty.dflt .str)
    chk (inB 0 v41.length) (
     let v42 : Int := ((bB 0 v41 0).toNat : Int)
     ob (pX n (b39, v42)) fun y43 =>
     br y43 (
      br (v41 == [10]) (
       chk (decide (Dm.length + ([92, 110] : List UInt8).length <= aJ)) (
        let v44 : Int := IntKind.wrap .i64 (vN + 1)
        g2 (Dm ++ [92, 110], Ei, v44, b39, xS, ()))) (
       chk (inB 0 v41.length) (
        let v45 : Int := ((bB 0 v41 0).toNat : Int)
        ob (pX n (b39, v45)) fun y46 =>
        br y46 (
         chk (decide (Dm.length + v41.length <= aJ)) (
          let v47 : Int := IntKind.wrap .i64 (vN + 1)
          g2 (Dm ++ v41, Ei, v47, b39, xS, ()))) (
         let v48 : Int := IntKind.wrap .i64 (vN + 1)
         g2 (Dm, Ei, v48, b39, xS, ()))))) (
      chk (inB 0 v41.length) (
       let v49 : Int := ((bB 0 v41 0).toNat : Int)
       ob (pX n (b39, v49)) fun y50 =>
       br y50 (
        chk (decide (Dm.length + v41.length <= aJ)) (
         let v51 : Int := IntKind.wrap .i64 (vN + 1)
         g2 (Dm ++ v41, Ei, v51, b39, xS, ()))) (
        let v52 : Int := IntKind.wrap .i64 (vN + 1)
        g2 (Dm, Ei, v52, b39, xS, ())))))))) (
  chk (decide (Dm.length + ([93] : List UInt8).length <= aJ)) (
   some (Dm ++ [93])))
def oJ (n : Nat) (g1 : List UInt8 × List (List UInt8) × Int × Int × List (Int) × Unit -> Option (List UInt8)) (x22 : List UInt8 × List (List UInt8) × Int × Int × List (Int) × Unit) : Option (List UInt8) :=
 let zAs : List UInt8 := x22.1
 let Rv : List (List UInt8) := x22.2.1
 let zAt : Int := x22.2.2.1
 let Kj : Int := x22.2.2.2.1
 let b27 : List (Int) := x22.2.2.2.2.1
 br (decide (Kj < zAt)) (
  chk (inB Kj Rv.length) (
   let v28 : List UInt8 := bB (Ty.dflt .str) Rv Kj
   br (decide ((v28.length : Int) > 2)) (
    chk ((decide (0 <= (1 : Int)) && decide ((1 : Int) <= (v28.length : Int)))) (
     chk (decide ((v28.take (1 : Int).toNat).length + ([45] : List UInt8).length <= aJ)) (
      let v29 : List UInt8 := (v28.take (1 : Int).toNat) ++ [45]
      let v30 : Int := IntKind.wrap .i64 ((v28.length : Int) - 1)
      chk ((decide (0 <= v30) && decide (v30 <= (v28.length : Int)))) (
       chk (decide (v29.length + (v28.drop v30.toNat).length <= aJ)) (
        let v31 : List UInt8 := v29 ++ (v28.drop v30.toNat)
        chk (decide (zAs.length + v31.length <= aJ)) (
         let v32 : Int := IntKind.wrap .i64 (Kj + 1)
         g1 (zAs ++ v31, Rv, zAt, v32, b27, ()))))))) (
    chk (decide (zAs.length + v28.length <= aJ)) (
     let v33 : Int := IntKind.wrap .i64 (Kj + 1)
     g1 (zAs ++ v28, Rv, zAt, v33, b27, ()))))) (
  let v34 : Int := (([[10], [91], [92], [94], [45]].length : Nat) : Int)
  fix (lI n) n (zAs, v34, 0, b27, [[10], [91], [92], [94], [45]], ()))
def oK (n : Nat) (g0 : List UInt8 × List (Int) × Int × Int × List (Int) × List (Int) × Unit -> Option (List UInt8)) (x10 : List UInt8 × List (Int) × Int × Int × List (Int) × List (Int) × Unit) : Option (List UInt8) :=
 let zMf : List UInt8 := x10.1
 let Rw : List (Int) := x10.2.1
 let zAu : Int := x10.2.2.1
 let Kk : Int := x10.2.2.2.1
 let b15 : List (Int) := x10.2.2.2.2.1
 let Yt : List (Int) := x10.2.2.2.2.2.1
 br (decide (Kk < zAu)) (
  chk (inB Kk Rw.length) (
   let v17 : Int := bB (Ty.dflt (.int .u8)) Rw Kk
   ob (strings_IndexByte n ([93, 91, 92, 94, 45, 10], v17)) fun y18 =>
   br (decide (y18 < 0)) (
    chk (Nat.ble ((Yt.length + ([v17] : List (Int)).length) * 1) room) (
     let v19 : Int := IntKind.wrap .i64 (Kk + 1)
     g0 (zMf, Rw, zAu, v19, b15, Yt ++ [v17], ()))) (
    let v20 : Int := IntKind.wrap .i64 (Kk + 1)
    g0 (zMf, Rw, zAu, v20, b15, Yt, ())))) (
  ob (Ay n (jF Yt)) fun y21 =>
  fix (oJ n) n (zMf, y21, (y21.length : Int), 0, b15, ()))
def lJ (n : Nat) (x5 : List UInt8 × List UInt8 × List (Int) × Unit) : Option (List UInt8) :=
 let l_6 : List UInt8 := x5.1
 let b_7 : List UInt8 := x5.2.1
 let b8 : List (Int) := x5.2.2.1
 chk (Nat.ble l_6.length room) (
  let v9 : Int := ((aR l_6).length : Int)
  fix (oK n) n (b_7, aR l_6, v9, 0, b8, [], ()))
def Az (n : Nat) (x : List (Int)) : Option (List UInt8) :=
 let s_0 : List (Int) := x
 ob (qP n s_0) fun y1 =>
 br ((y1.length : Int) == 0) (
  some []) (
  br ((y1.length : Int) == 1) (
   chk (inB 0 y1.length) (
    let v2 : Int := ((bB 0 y1 0).toNat : Int)
    ob (Aw n v2) fun y3 =>
    some y3)) (
   br ((y1.length : Int) == 256) (
    some [46]) (
    br (y1 == [45, 94]) (
     some [91, 45, 94, 93]) (
     ob (pX n (s_0, 93)) fun y4 =>
     br y4 (
      chk (decide ([91].length + ([93] : List UInt8).length <= aJ)) (
       jn (lJ n) (y1, [91] ++ [93], s_0, ()))) (
      jn (lJ n) (y1, [91], s_0, ()))))))
def yF (n : Nat) (x : Int × List (Int) × Int × Int × Int × Int × Int × Unit) : Option (List UInt8) :=
 let n_0 : Int × List (Int) × Int × Int × Int × Int × Int × Unit := x
 ob (strconv_Itoa n n_0.2.2.2.2.1) fun y1 =>
 ob (strconv_Itoa n n_0.2.2.2.2.2.1) fun y2 =>
 br (n_0.2.2.2.2.2.1 == (-1)) (
  br (n_0.2.2.2.2.1 == 0) (
   some [42]) (
   br (n_0.2.2.2.2.2.1 == (-1)) (
    chk (decide ([92, 123].length + y1.length <= aJ)) (
     chk (decide (([92, 123] ++ y1).length + ([44, 92, 125] : List UInt8).length <= aJ)) (
      let v3 : List UInt8 := ([92, 123] ++ y1) ++ [44, 92, 125]
      some v3))) (
    br (n_0.2.2.2.2.2.1 == n_0.2.2.2.2.1) (
     chk (decide ([92, 123].length + y1.length <= aJ)) (
      chk (decide (([92, 123] ++ y1).length + ([92, 125] : List UInt8).length <= aJ)) (
       let v4 : List UInt8 := ([92, 123] ++ y1) ++ [92, 125]
       some v4))) (
     chk (decide ([92, 123].length + y1.length <= aJ)) (
      chk (decide (([92, 123] ++ y1).length + ([44] : List UInt8).length <= aJ)) (
       let v5 : List UInt8 := ([92, 123] ++ y1) ++ [44]
       chk (decide (v5.length + y2.length <= aJ)) (
        chk (decide ((v5 ++ y2).length + ([92, 125] : List UInt8).length <= aJ)) (
         some ((v5 ++ y2) ++ [92, 125]))))))))) (
  br (n_0.2.2.2.2.2.1 == (-1)) (
   chk (decide ([92, 123].length + y1.length <= aJ)) (
    chk (decide (([92, 123] ++ y1).length + ([44, 92, 125] : List UInt8).length <= aJ)) (
     let v6 : List UInt8 := ([92, 123] ++ y1) ++ [44, 92, 125]
     some v6))) (
   br (n_0.2.2.2.2.2.1 == n_0.2.2.2.2.1) (
    chk (decide ([92, 123].length + y1.length <= aJ)) (
     chk (decide (([92, 123] ++ y1).length + ([92, 125] : List UInt8).length <= aJ)) (
      let v7 : List UInt8 := ([92, 123] ++ y1) ++ [92, 125]
      some v7))) (
    chk (decide ([92, 123].length + y1.length <= aJ)) (
     chk (decide (([92, 123] ++ y1).length + ([44] : List UInt8).length <= aJ)) (
      let v8 : List UInt8 := ([92, 123] ++ y1) ++ [44]
      chk (decide (v8.length + y2.length <= aJ)) (
       chk (decide ((v8 ++ y2).length + ([92, 125] : List UInt8).length <= aJ)) (
        some ((v8 ++ y2) ++ [92, 125]))))))))
def uD (n : Nat) (g0 : List (NdT) × Int × Int × List (List UInt8) × Unit -> Option (List UInt8)) (g1 : Int × List UInt8 × List (NdT) × Int × Int × List (Int) × Int × Int × List (List UInt8) × Unit -> Option (List UInt8)) (x16 : Int × List UInt8 × List (NdT) × Int × Int × List (Int) × Int × Int × List (List UInt8) × Unit) : Option (List UInt8) :=
 let Uu : Int := x16.1
 let zAv : List UInt8 := x16.2.1
 let zIz : List (NdT) := x16.2.2.1
 let zJa : Int := x16.2.2.2.1
 let zJb : Int := x16.2.2.2.2.1
 let zAw : List (Int) := x16.2.2.2.2.2.1
 let zJc : Int := x16.2.2.2.2.2.2.1
 let Rx : Int := x16.2.2.2.2.2.2.2.1
 let Yu : List (List UInt8) := x16.2.2.2.2.2.2.2.2.1
 br (decide (Rx < zJc)) (
  chk (inB Rx zAw.length) (
   let v26 : Int := bB (Ty.dflt (.int .u8)) zAw Rx
   chk ((!decide (16 = 0))) (
    let v27 : Int := IntKind.wrap .u64 (Int.tdiv (IntKind.wrap .u64 v26) 16)
    ob (gY n (v27, 16)) fun y28 =>
    chk ((!decide (16 = 0))) (
     let v29 : Int := Int.tmod (IntKind.wrap .u64 v26) 16
     ob (gY n (v29, 16)) fun y30 =>
     chk (decide (y28.length + y30.length <= aJ)) (
      chk (decide (zAv.length + (y28 ++ y30).length <= aJ)) (
       let v31 : Int := IntKind.wrap .i64 (Rx + 1)
       g1 (Uu, zAv ++ (y28 ++ y30), zIz, zJa, zJb, zAw, zJc, v31, Yu, ()))))))) (
  chk (decide (zAv.length + ([93] : List UInt8).length <= aJ)) (
   chk ((decide (0 <= Uu) && decide (Uu <= (Yu.length : Int)))) (
    chk ((Nat.ble (Uu.toNat) Yu.length && Nat.ble (((Uu.toNat) + ([zAv ++ [93]] : List (List UInt8)).length) * 16) room)) (
     let r32 : List (List UInt8) := Yu.take (Uu.toNat) ++ [zAv ++ [93]]
     let v33 : Int := IntKind.wrap .i64 (zJb + 1)
     g0 (zIz, zJa, v33, r32, ())))))
def fB (n : Nat) (g0 : List (NdT) × Int × Int × List (List UInt8) × Unit -> Option (List UInt8)) (x2 : List (NdT) × Int × Int × List (List UInt8) × Unit) : Option (List UInt8) :=
 let uE : List (NdT) := x2.1
 let vO : Int := x2.2.1
 let rP : Int := x2.2.2.1
 let aK : List (List UInt8) := x2.2.2.2.1
 br (decide (rP < vO)) (
  chk (inB rP uE.length) (
   let v7 : Int × List (Int) × Int × Int × Int × Int × Int × Unit := bB (Ty.dflt aC) uE rP
   let v8 : Int := ((aK.length : Nat) : Int)
   ob (gB n v7) fun y9 =>
   let v10 : Int := IntKind.wrap .i64 (v8 - y9)
   chk ((decide (0 <= v10) && decide (v10 <= (aK.length : Int)))) (
    chk ((Nat.ble ((0 + (v10.toNat)) + ((aK.length) - (v10.toNat))) aK.length && true)) (
     ob (strings_Join n ((aK.drop (0 + (v10.toNat))).take ((aK.length) - (v10.toNat)), [])) fun y11 =>
     br (v7.1 == 0) (
      chk ((decide (0 <= v10) && decide (v10 <= (aK.length : Int)))) (
       chk ((Nat.ble (v10.toNat) aK.length && Nat.ble (((v10.toNat) + ([[101]] : List (List UInt8)).length) * 16) room)) (
        let r12 : List (List UInt8) := aK.take (v10.toNat) ++ [[101]]
        let v13 : Int := IntKind.wrap .i64 (rP + 1)
        g0 (uE, vO, v13, r12, ())))) (
      br (v7.1 == 1) (
       ob (qP n v7.2.1) fun y14 =>
       chk (Nat.ble y14.length room) (
        let v15 : Int := ((aR y14).length : Int)
        fix (uD n g0) n (v10, [91], uE, vO, rP, aR y14, v15, 0, aK, ()))) (
       br (v7.1 == 2) (
        chk ((decide (0 <= v10) && decide (v10 <= (aK.length : Int)))) (
         chk ((Nat.ble (v10.toNat) aK.length && Nat.ble (((v10.toNat) + ([[94]] : List (List UInt8)).length) * 16) room)) (
          let r34 : List (List UInt8) := aK.take (v10.toNat) ++ [[94]]
          let v35 : Int := IntKind.wrap .i64 (rP + 1)
          g0 (uE, vO, v35, r34, ())))) (
        br (v7.1 == 3) (
         chk ((decide (0 <= v10) && decide (v10 <= (aK.length : Int)))) (
          chk ((Nat.ble (v10.toNat) aK.length && Nat.ble (((v10.toNat) + ([[36]] : List (List UInt8)).length) * 16) room)) (
           let r36 : List (List UInt8) := aK.take (v10.toNat) ++ [[36]]
           let v37 : Int := IntKind.wrap .i64 (rP + 1)
           g0 (uE, vO, v37, r36, ())))) (
         br (v7.1 == 4) (
          chk (decide ([38].length + y11.length <= aJ)) (
           chk ((decide (0 <= v10) && decide (v10 <= (aK.length : Int)))) (
            chk ((Nat.ble (v10.toNat) aK.length && Nat.ble (((v10.toNat) + ([[38] ++ y11] : List (List UInt8)).length) * 16) room)) (
             let r38 : List (List UInt8) := aK.take (v10.toNat) ++ [[38] ++ y11]
             let v39 : Int := IntKind.wrap .i64 (rP + 1)
             g0 (uE, vO, v39, r38, ()))))) (
          br (v7.1 == 5) (
           chk (decide ([124].length + y11.length <= aJ)) (
            chk ((decide (0 <= v10) && decide (v10 <= (aK.length : Int)))) (
             chk ((Nat.ble (v10.toNat) aK.length && Nat.ble (((v10.toNat) + ([[124] ++ y11] : List (List UInt8)).length) * 16) room)) (
              let r40 : List (List UInt8) := aK.take (v10.toNat) ++ [[124] ++ y11]
              let v41 : Int := IntKind.wrap .i64 (rP + 1)
              g0 (uE, vO, v41, r40, ()))))) (
           br (v7.1 == 6) (
            ob (strconv_Itoa n v7.2.2.2.2.1) fun y42 =>
            chk (decide ([42].length + y42.length <= aJ)) (
             chk (decide (([42] ++ y42).length + ([44] : List UInt8).length <= aJ)) (
              ob (strconv_Itoa n v7.2.2.2.2.2.1) fun y43 =>
              chk (decide ((([42] ++ y42) ++ [44]).length + y43.length <= aJ)) (
               let v44 : List UInt8 := (([42] ++ y42) ++ [44]) ++ y43
               chk (decide (v44.length + ([59] : List UInt8).length <= aJ)) (
                chk (decide ((v44 ++ [59]).length + y11.length <= aJ)) (
                 chk ((decide (0 <= v10) && decide (v10 <= (aK.length : Int)))) (
                  chk ((Nat.ble (v10.toNat) aK.length && Nat.ble (((v10.toNat) + ([(v44 ++ [59]) ++ y11] : List (List UInt8)).length) * 16) room)) (
                   let r45 : List (List UInt8) := aK.take (v10.toNat) ++ [(v44 ++ [59]) ++ y11]
                   let v46 : Int := IntKind.wrap .i64 (rP + 1)
                   g0 (uE, vO, v46, r45, ()))))))))) (
            br (v7.1 == 7) (
             chk (decide ([40].length + y11.length <= aJ)) (
              chk (decide (([40] ++ y11).length + ([41] : List UInt8).length <= aJ)) (
               chk ((decide (0 <= v10) && decide (v10 <= (aK.length : Int)))) (
                chk ((Nat.ble (v10.toNat) aK.length && Nat.ble (((v10.toNat) + ([([40] ++ y11) ++ [41]] : List (List UInt8)).length) * 16) room)) (
                 let r47 : List (List UInt8) := aK.take (v10.toNat) ++ [([40] ++ y11) ++ [41]]
                 let v48 : Int := IntKind.wrap .i64 (rP + 1)
                 g0 (uE, vO, v48, r47, ())))))) (
             br (v7.1 == 8) (
              ob (strconv_Itoa n v7.2.2.2.2.2.2.1) fun y49 =>
              chk (decide ([92].length + y49.length <= aJ)) (
               chk ((decide (0 <= v10) && decide (v10 <= (aK.length : Int)))) (
                chk ((Nat.ble (v10.toNat) aK.length && Nat.ble (((v10.toNat) + ([[92] ++ y49] : List (List UInt8)).length) * 16) room)) (
                 let r50 : List (List UInt8) := aK.take (v10.toNat) ++ [[92] ++ y49]
                 let v51 : Int := IntKind.wrap .i64 (rP + 1)
                 g0 (uE, vO, v51, r50, ()))))) (
              chk ((decide (0 <= v10) && decide (v10 <= (aK.length : Int)))) (
               chk ((Nat.ble (v10.toNat) aK.length && Nat.ble (((v10.toNat) + ([[]] : List (List UInt8)).length) * 16) room)) (
                let r52 : List (List UInt8) := aK.take (v10.toNat) ++ [[]]
                let v53 : Int := IntKind.wrap .i64 (rP + 1)
                g0 (uE, vO, v53, r52, ())))))))))))))))) (
  chk ((inB 0 (aK.length) && decide (0 + (aK.length) <= aK.length))) (
   chk (decide (0 + (0 : Int).toNat < aK.length)) (
    let v54 : List UInt8 := aK.getD (0 + (0 : Int).toNat) (Ty.dflt .str)
    some v54)))
def rQ (n : Nat) (x : List (NdT)) : Option (List UInt8) :=
 let l_0 : List (NdT) := x
 ob (vM n l_0) fun y1 =>
 br (!y1) (
  some []) (
  fix (fB n) n (l_0, (l_0.length : Int), 0, [], ()))
def bW (n : Nat) (g0 : List (NdT) × List (NdT) × Int × Int × List (List UInt8) × Unit -> Option (List UInt8 × Int)) (x3 : List (NdT) × List (NdT) × Int × Int × List (List UInt8) × Unit) : Option (List UInt8 × Int) :=
 let l_4 : List (NdT) := x3.1
 let vP : List (NdT) := x3.2.1
 let xU : Int := x3.2.2.1
 let dP : Int := x3.2.2.2.1
 let bK : List (List UInt8) := x3.2.2.2.2.1
 br (decide (dP < xU)) (
  chk (inB dP vP.length) (
   let v9 : Int × List (Int) × Int × Int × Int × Int × Int × Unit := bB (Ty.dflt aC) vP dP
   br (v9.1 == 1) (
    ob (Az n v9.2.1) fun y10 =>
    chk ((inB dP (bK.length) && decide (0 + (bK.length) <= bK.length))) (
     chk (decide (0 + dP.toNat < bK.length)) (
      let r11 : List (List UInt8) := bK.set (0 + dP.toNat) y10
      let v12 : Int := IntKind.wrap .i64 (dP + 1)
      g0 (l_4, vP, xU, v12, r11, ())))) (
    br (v9.1 == 2) (
     chk ((inB dP (bK.length) && decide (0 + (bK.length) <= bK.length))) (
      chk (decide (0 + dP.toNat < bK.length)) (
       let r13 : List (List UInt8) := bK.set (0 + dP.toNat) [94]
       let v14 : Int := IntKind.wrap .i64 (dP + 1)
       g0 (l_4, vP, xU, v14, r13, ())))) (
     br (v9.1 == 3) (
      chk ((inB dP (bK.length) && decide (0 + (bK.length) <= bK.length))) (
       chk (decide (0 + dP.toNat < bK.length)) (
        let r15 : List (List UInt8) := bK.set (0 + dP.toNat) [36]
        let v16 : Int := IntKind.wrap .i64 (dP + 1)
        g0 (l_4, vP, xU, v16, r15, ())))) (
      br (v9.1 == 4) (
       chk ((inB v9.2.2.1 (bK.length) && decide (0 + (bK.length) <= bK.length))) (
        chk (decide (0 + v9.2.2.1.toNat < bK.length)) (
         let v17 : List UInt8 := bK.getD (0 + v9.2.2.1.toNat) (Ty.dflt .str)
         chk ((inB v9.2.2.2.1 (bK.length) && decide (0 + (bK.length) <= bK.length))) (
          chk (decide (0 + v9.2.2.2.1.toNat < bK.length)) (
           let v18 : List UInt8 := bK.getD (0 + v9.2.2.2.1.toNat) (Ty.dflt .str)
           chk (decide (v17.length + v18.length <= aJ)) (
            chk ((inB dP (bK.length) && decide (0 + (bK.length) <= bK.length))) (
             chk (decide (0 + dP.toNat < bK.length)) (
              let r19 : List (List UInt8) := bK.set (0 + dP.toNat) (v17 ++ v18)
              let v20 : Int := IntKind.wrap .i64 (dP + 1)
              g0 (l_4, vP, xU, v20, r19, ()))))))))) (
       br (v9.1 == 5) (
        chk ((inB dP (bK.length) && decide (0 + (bK.length) <= bK.length))) (
         chk (decide (0 + dP.toNat < bK.length)) (
          let r21 : List (List UInt8) := bK.set (0 + dP.toNat) [124]
          let v22 : Int := IntKind.wrap .i64 (dP + 1)
          g0 (l_4, vP, xU, v22, r21, ())))) (
        br (v9.1 == 6) (
         chk ((inB v9.2.2.1 (bK.length) && decide (0 + (bK.length) <= bK.length))) (
          chk (decide (0 + v9.2.2.1.toNat < bK.length)) (
           let v23 : List UInt8 := bK.getD (0 + v9.2.2.1.toNat) (Ty.dflt .str)
           ob (yF n v9) fun y24 =>
           chk (decide (v23.length + y24.length <= aJ)) (
            chk ((inB dP (bK.length) && decide (0 + (bK.length) <= bK.length))) (
             chk (decide (0 + dP.toNat < bK.length)) (
              let r25 : List (List UInt8) := bK.set (0 + dP.toNat) (v23 ++ y24)
              let v26 : Int := IntKind.wrap .i64 (dP + 1)
              g0 (l_4, vP, xU, v26, r25, ()))))))) (
         br (v9.1 == 7) (
          chk ((inB v9.2.2.1 (bK.length) && decide (0 + (bK.length) <= bK.length))) (
           chk (decide (0 + v9.2.2.1.toNat < bK.length)) (
            let v27 : List UInt8 := bK.getD (0 + v9.2.2.1.toNat) (Ty.dflt .str)
            chk (decide ([92, 40].length + v27.length <= aJ)) (
             chk (decide (([92, 40] ++ v27).length + ([92, 41] : List UInt8).length <= aJ)) (
              let v28 : List UInt8 := ([92, 40] ++ v27) ++ [92, 41]
              chk ((inB dP (bK.length) && decide (0 + (bK.length) <= bK.length))) (
               chk (decide (0 + dP.toNat < bK.length)) (
                let r29 : List (List UInt8) := bK.set (0 + dP.toNat) v28
                let v30 : Int := IntKind.wrap .i64 (dP + 1)
                g0 (l_4, vP, xU, v30, r29, ())))))))) (
          br (v9.1 == 8) (
           ob (strconv_Itoa n v9.2.2.2.2.2.2.1) fun y31 =>
           chk (decide ([92].length + y31.length <= aJ)) (
            chk ((inB dP (bK.length) && decide (0 + (bK.length) <= bK.length))) (
             chk (decide (0 + dP.toNat < bK.length)) (
              let r32 : List (List UInt8) := bK.set (0 + dP.toNat) ([92] ++ y31)
              let v33 : Int := IntKind.wrap .i64 (dP + 1)
              g0 (l_4, vP, xU, v33, r32, ()))))) (
           let v34 : Int := IntKind.wrap .i64 (dP + 1)
           g0 (l_4, vP, xU, v34, bK, ()))))))))))) (
  let v35 : Int := IntKind.wrap .i64 ((l_4.length : Int) - 1)
  chk ((inB v35 (bK.length) && decide (0 + (bK.length) <= bK.length))) (
   chk (decide (0 + v35.toNat < bK.length)) (
    let v36 : List UInt8 := bK.getD (0 + v35.toNat) (Ty.dflt .str)
    ob (iW n v36) fun y37 =>
    br (y37.2.2 != 0) (
     some ([], 1)) (
     ob (rQ n y37.1) fun y38 =>
     ob (rQ n l_4) fun y39 =>
     br (!(y38 == y39)) (
      some ([], 1)) (
      some (v36, 0))))))
def oP (n : Nat) (x : List (NdT)) : Option (List UInt8 × Int) :=
 let l_0 : List (NdT) := x
 ob (vM n l_0) fun y1 =>
 br (!y1) (
  some ([], 1)) (
  chk ((decide (0 <= (l_0.length : Int)) && (decide ((l_0.length : Int) = (l_0.length : Int)) && Nat.ble ((l_0.length : Int).toNat * 16) room))) (
   let r2 : List (List UInt8) := List.replicate (l_0.length : Int).toNat []
   fix (bW n) n (l_0, l_0, (l_0.length : Int), 0, r2, ())))
def Kl (n : Nat) (x : List (NdT)) : Option (Int) :=
 let l_0 : List (NdT) := x
 ob (pW n l_0) fun y1 =>
 some y1.1
def Uv (n : Nat) (x : List (NdT)) : Option (Bool) :=
 let l_0 : List (NdT) := x
 ob (pW n l_0) fun y1 =>
 some y1.2.1
def pY (n : Nat) (x : Unit) : Option (Bool) :=
 ob (iW n [94, 97, 42, 92, 40, 98, 92, 41, 92, 49, 91, 120, 45, 122, 93, 36]) fun y1 =>
 ob (oP n y1.1) fun y2 =>
 ob (iW n [97, 92, 40, 98]) fun y3 =>
 br (y1.2.2 == 0) (
  br (y2.2 == 0) (
   br (y1.2.1 == 0) (
    br (y2.1 == [94, 97, 42, 92, 40, 98, 92, 41, 92, 49, 91, 120, 45, 122, 93, 36]) (
     ob (Kl n y1.1) fun y4 =>
     br (y4 == 1) (
      ob (Uv n y1.1) fun y5 =>
      br y5 (
       br (y3.2.1 == 1) (
        some (y3.2.2 == 41)) (
        some false)) (
       some false)) (
      some false)) (
     some false)) (
    some false)) (
   some false)) (
  some false)
def kM (n : Nat) (g0 : Int × Int × List (Bool) × List (Bool) × Unit -> Option (List (Bool))) (x1 : Int × Int × List (Bool) × List (Bool) × Unit) : Option (List (Bool)) :=
 let b_2 : Int := x1.1
 let i_3 : Int := x1.2.1
 let b4 : List (Bool) := x1.2.2.1
 let b5 : List (Bool) := x1.2.2.2.1
 br (decide (i_3 <= (IntKind.wrap .i64 b_2))) (
  chk (inB i_3 256) (
   chk (decide (i_3.toNat < 256)) (
    let v6 : Int := IntKind.wrap .i64 (i_3 + 1)
    g0 (b_2, v6, b4, b5.set (i_3.toNat) true, ())))) (
  some b5)
def dX (n : Nat) (x : Int × Int) : Option (List (Bool)) :=
 let a_0 : Int := x.1
 let b_1 : Int := x.2
 fix (kM n) n (b_1, IntKind.wrap .i64 a_0, (List.replicate 256 false), (List.replicate 256 false), ())
def rR (n : Nat) (g0 : Int × List (Bool) × List (Bool) × List (Bool) × Unit -> Option (List (Bool))) (x1 : Int × List (Bool) × List (Bool) × List (Bool) × Unit) : Option (List (Bool)) :=
 let i_2 : Int := x1.1
 let b3 : List (Bool) := x1.2.1
 let b4 : List (Bool) := x1.2.2.1
 let b5 : List (Bool) := x1.2.2.2.1
 br (decide (i_2 < 256)) (
  chk (inB i_2 256) (
   chk (decide (i_2.toNat < 256)) (
    br (b3.getD (i_2.toNat) (Ty.dflt .bool)) (
     chk (inB i_2 256) (
      chk (decide (i_2.toNat < 256)) (
       let v6 : Int := IntKind.wrap .i64 (i_2 + 1)
       g0 (v6, b3.set (i_2.toNat) true, b4, b5, ())))) (
     chk (inB i_2 256) (
      chk (decide (i_2.toNat < 256)) (
       chk (inB i_2 256) (
        chk (decide (i_2.toNat < 256)) (
         let v7 : Int := IntKind.wrap .i64 (i_2 + 1)
         g0 (v7, b3.set (i_2.toNat) (b4.getD (i_2.toNat) (Ty.dflt .bool)), b4, b5, ()))))))))) (
  some b3)
def pF (n : Nat) (x : List (Bool) × List (Bool)) : Option (List (Bool)) :=
 let a_0 : List (Bool) := x.1
 let b_1 : List (Bool) := x.2
 fix (rR n) n (0, a_0, b_1, (List.replicate 256 false), ())
def rT (n : Nat) (g0 : List UInt8 × Int × List (Bool) × List (Bool) × Unit -> Option (List (Bool))) (x1 : List UInt8 × Int × List (Bool) × List (Bool) × Unit) : Option (List (Bool)) :=
 let s_2 : List UInt8 := x1.1
 let i_3 : Int := x1.2.1
 let b4 : List (Bool) := x1.2.2.1
 let b5 : List (Bool) := x1.2.2.2.1
 br (decide (i_3 < (s_2.length : Int))) (
  chk (inB i_3 s_2.length) (
   let v6 : Int := ((bB 0 s_2 i_3).toNat : Int)
   chk (inB v6 256) (
    chk (decide (v6.toNat < 256)) (
     let v7 : Int := IntKind.wrap .i64 (i_3 + 1)
     g0 (s_2, v7, b4, b5.set (v6.toNat) true, ()))))) (
  some b5)
def Ba (n : Nat) (x : List UInt8) : Option (List (Bool)) :=
 let s_0 : List UInt8 := x
 fix (rT n) n (s_0, 0, (List.replicate 256 false), (List.replicate 256 false), ())
def kN (n : Nat) (g0 : Int × List (Bool) × List (Bool) × List (Bool) × Unit -> Option (List (Bool) × Bool)) (x21 : Int × List (Bool) × List (Bool) × List (Bool) × Unit) : Option (List (Bool) × Bool) :=
 let uN : Int := x21.1
 let b23 : List (Bool) := x21.2.1
 let b24 : List (Bool) := x21.2.2.1
 let b25 : List (Bool) := x21.2.2.2.1
 br (decide (uN < 256)) (
  chk (inB uN 256) (
   chk (decide (uN.toNat < 256)) (
    br (b25.getD (uN.toNat) (Ty.dflt .bool)) (
     chk (inB uN 256) (
      chk (decide (uN.toNat < 256)) (
       chk (inB uN 256) (
        chk (decide (uN.toNat < 256)) (
         let v26 : Int := IntKind.wrap .i64 (uN + 1)
         g0 (v26, b23, b24, b25.set (uN.toNat) (!(b24.getD (uN.toNat) (Ty.dflt .bool))), ())))))) (
     chk (inB uN 256) (
      chk (decide (uN.toNat < 256)) (
       let v27 : Int := IntKind.wrap .i64 (uN + 1)
       g0 (v27, b23, b24, b25.set (uN.toNat) false, ()))))))) (
  some (b25, true))
def Od (n : Nat) (x : List UInt8) : Option (List (Bool) × Bool) :=
 let fA : List UInt8 := x
 ob (dX n (65, 90)) fun y1 =>
 ob (dX n (97, 122)) fun y2 =>
 ob (dX n (48, 57)) fun y3 =>
 ob (pF n (y1, y2)) fun y4 =>
 ob (pF n (y4, y3)) fun y5 =>
 br (fA == [117, 112, 112, 101, 114]) (
  some (y1, true)) (
  br (fA == [108, 111, 119, 101, 114]) (
   some (y2, true)) (
   br (fA == [97, 108, 112, 104, 97]) (
    ob (pF n (y1, y2)) fun y6 =>
    some (y6, true)) (
    br (fA == [100, 105, 103, 105, 116]) (
     some (y3, true)) (
     br (fA == [97, 108, 110, 117, 109]) (
      some (y5, true)) (
      br (fA == [120, 100, 105, 103, 105, 116]) (
       ob (dX n (65, 70)) fun y7 =>
       ob (dX n (97, 102)) fun y8 =>
       ob (pF n (y7, y8)) fun y9 =>
       ob (pF n (y3, y9)) fun y10 =>
       some (y10, true)) (
       br (fA == [98, 108, 97, 110, 107]) (
        ob (Ba n [9, 32]) fun y11 =>
        some (y11, true)) (
        br (fA == [115, 112, 97, 99, 101]) (
         ob (dX n (9, 13)) fun y12 =>
         ob (Ba n [32]) fun y13 =>
         ob (pF n (y12, y13)) fun y14 =>
         some (y14, true)) (
         br (fA == [99, 110, 116, 114, 108]) (
          ob (dX n (0, 31)) fun y15 =>
          ob (dX n (127, 127)) fun y16 =>
          ob (pF n (y15, y16)) fun y17 =>
          some (y17, true)) (
          br (fA == [103, 114, 97, 112, 104]) (
           ob (dX n (33, 126)) fun y18 =>
           some (y18, true)) (
           br (fA == [112, 114, 105, 110, 116]) (
            ob (dX n (32, 126)) fun y19 =>
            some (y19, true)) (
            br (fA == [112, 117, 110, 99, 116]) (
             ob (dX n (33, 126)) fun y20 =>
             fix (kN n) n (0, (List.replicate 256 false), y5, y20, ())) (
             some ((List.replicate 256 false), false)))))))))))))
def yS (n : Nat) (x : List UInt8) : Option (Bool) :=
 let s_0 : List UInt8 := x
 br (decide ((s_0.length : Int) > 300)) (
  ob (pY n ()) fun y1 =>
  some y1) (
  ob (pY n ()) fun y2 =>
  br (!y2) (
   ob (pY n ()) fun y3 =>
   some y3) (
   ob (iW n s_0) fun y4 =>
   br (y4.2.2 != 0) (
    some ((y4.1.length : Int) == 0)) (
    ob (oP n y4.1) fun y5 =>
    ob (iW n y5.1) fun y6 =>
    ob (oP n y6.1) fun y7 =>
    br (y5.2 == 0) (
     br (y6.2.2 == 0) (
      br (y7.2 == 0) (
       ob (rQ n y6.1) fun y8 =>
       ob (rQ n y4.1) fun y9 =>
       br (y8 == y9) (
        some (y7.1 == y5.1)) (
        some false)) (
       some false)) (
      some false)) (
     some false))))
end Go.Dec
