/- Part of a proof over this seat: a library of my own, and what it says of this seat. No statement is proved here. -/
import Derived.Test.YthhbdkdofhhoeaaGreatDoorPartAL
import Derived.Test.YthhbdkdofhhoeaaGreatDoorPartAQ
namespace Go.Dec
set_option linter.unusedVariables false
abbrev aC:Ty:=.pair (.int .i64) (.pair (.arr 4 (.int .u64)) (.pair (.int .i64) (.pair (.int .i64) (.pair (.int .i64) (.pair (.int .i64) (.pair (.int .i64) .unit))))))
abbrev zUc:Ty:=.pair .str (.pair (.int .i64) .unit)
abbrev Xc:Ty:=.pair (.int .i64) (.pair (.int .i64) .unit)
abbrev uT:Ty:=.pair .str (.pair (.int .i64) (.pair (.slice aC) (.pair (.int .i64) (.pair (.arr 10 .bool) .unit))))
abbrev uU:Ty:=.pair (.slice aC) (.pair (.int .i64) (.pair (.arr 10 .bool) Xc))
abbrev Nb:Ty:=.pair (.int .i64) (.pair (.int .i64) (.pair (.slice (.int .i64)) (.pair (.slice (.int .i64)) .unit)))
abbrev xZ:Ty:=.pair .str (.pair (.int .i64) (.pair (.slice aC) (.pair (.int .i64) (.pair (.slice Nb) Xc))))
abbrev Nc:Ty:=.pair (.slice aC) (.pair (.int .i64) Xc)
abbrev Xd:Ty:=.pair .bool (.pair (.int .i64) (.pair (.arr 10 .bool) (.pair .bool .unit)))
abbrev NdT:Type:=Int × List (Int) × Int × Int × Int × Int × Int × Unit
def gN (n : Nat) (x : List UInt8 × List UInt8) : Option (Bool) :=
 let s_0 : List UInt8 := x.1
 let Tz : List UInt8 := x.2
 br (decide ((s_0.length : Int) ≥ (Tz.length : Int))) (
  chk ((decide (0 <= (Tz.length : Int)) && decide ((Tz.length : Int) <= (s_0.length : Int)))) (
   let v1 : List UInt8 := s_0.take (Tz.length : Int).toNat
   some (v1 == Tz))) (
  some false)
def strings_HasPrefix (n : Nat) (x : List UInt8 × List UInt8) : Option (Bool) :=
 let s_0 : List UInt8 := x.1
 let Tz : List UInt8 := x.2
 ob (gN n (s_0, Tz)) fun y1 =>
 some y1
def zCk (n : Nat) (g0 : Int × List (Int) × List (Int) × Unit -> Option (List (Int))) (x1 : Int × List (Int) × List (Int) × Unit) : Option (List (Int)) :=
 let Nf : Int := x1.1
 let b3 : List (Int) := x1.2.1
 let b4 : List (Int) := x1.2.2.1
 br (decide (Nf < 4)) (
  chk (inB Nf 4) (
   chk (decide (Nf.toNat < 4)) (
    let v5 : Int := b3.getD (Nf.toNat) (Ty.dflt (.int .u64))
    let v6 : Int := dP .u64 .xor 18446744073709551615 v5
    chk (inB Nf 4) (
     chk (decide (Nf.toNat < 4)) (
      let v7 : Int := IntKind.wrap .i64 (Nf + 1)
      g0 (v7, b3.set (Nf.toNat) v6, b4, ())))))) (
  some b3)
def Cn (n : Nat) (x : List (Int)) : Option (List (Int)) :=
 let s_0 : List (Int) := x
 fix (zCk n) n (0, s_0, [0, 0, 0, 0], ())
def dX (n : Nat) (x : List UInt8 × List UInt8 × Int × Unit) : Option (Bool × List UInt8 × Int × Unit) :=
 let t_1 : List UInt8 := x.1
 let s2 : List UInt8 := x.2.1
 let at3 : Int := x.2.2.1
 chk ((decide (0 <= at3) && decide (at3 <= (s2.length : Int)))) (
  ob (strings_HasPrefix n (s2.drop at3.toNat, t_1)) fun y4 =>
  some (y4, s2, at3, ()))
def dL (n : Nat) (x : List UInt8 × List UInt8 × Int × Unit) : Option (Bool × List UInt8 × Int × Unit) :=
 let t_1 : List UInt8 := x.1
 let s2 : List UInt8 := x.2.1
 let at3 : Int := x.2.2.1
 ob (dX n (t_1, s2, at3, ())) fun y4 =>
 br (!y4.1) (
  some (false, y4.2.1, y4.2.2.1, ())) (
  let v5 : Int := IntKind.wrap .i64 (y4.2.2.1 + (t_1.length : Int))
  some (true, y4.2.1, v5, ()))
def bE (_n:Nat) (x:List UInt8 × Int × Unit):Option (Sum (List UInt8 × Int × Unit) (Int × Int × List UInt8 × Int × Unit)):=some (.inr (42,0,x))
def nS (n : Nat) (g0 : Int × Int × List (Int) × Unit -> Option (List (Int))) (x1 : Int × Int × List (Int) × Unit) : Option (List (Int)) :=
 let b_2 : Int := x1.1
 let i_3 : Int := x1.2.1
 let b4 : List (Int) := x1.2.2.1
 br (decide (i_3 <= (IntKind.wrap .i64 b_2))) (
  chk (decide (0 <= 6)) (
   chk (inB (nG .i64 i_3 6) 4) (
    chk (decide ((nG .i64 i_3 6).toNat < 4)) (
     let v5 : Int := b4.getD ((nG .i64 i_3 6).toNat) (Ty.dflt (.int .u64))
     chk (decide (0 <= dP .i64 .and i_3 63)) (
      let v6 : Int := Lf .u64 1 (dP .i64 .and i_3 63)
      chk (inB (nG .i64 i_3 6) 4) (
       chk (decide ((nG .i64 i_3 6).toNat < 4)) (
        let v7 : Int := IntKind.wrap .i64 (i_3 + 1)
        g0 (b_2, v7, b4.set ((nG .i64 i_3 6).toNat) (dP .u64 .or v5 v6), ())))))))) (
  some b4)
def cO (n : Nat) (x : Int × Int) : Option (List (Int)) :=
 let a_0 : Int := x.1
 let b_1 : Int := x.2
 fix (nS n) n (b_1, IntKind.wrap .i64 a_0, [0, 0, 0, 0], ())
def Ng (n : Nat) (g0 : List (List (Int)) × Int × Int × List (Int) × Unit -> Option (List (Int))) (g1 : List (List (Int)) × Int × Int × Int × List (Int) × List (Int) × Unit -> Option (List (Int))) (x7 : List (List (Int)) × Int × Int × Int × List (Int) × List (Int) × Unit) : Option (List (Int)) :=
 let zXs : List (List (Int)) := x7.1
 let zXt : Int := x7.2.1
 let zUd : Int := x7.2.2.1
 let rZ : Int := x7.2.2.2.1
 let b12 : List (Int) := x7.2.2.2.2.1
 let b13 : List (Int) := x7.2.2.2.2.2.1
 br (decide (rZ < 4)) (
  chk (inB rZ 4) (
   chk (decide (rZ.toNat < 4)) (
    let v14 : Int := b12.getD (rZ.toNat) (Ty.dflt (.int .u64))
    chk (inB rZ 4) (
     chk (decide (rZ.toNat < 4)) (
      let v15 : Int := b13.getD (rZ.toNat) (Ty.dflt (.int .u64))
      chk (inB rZ 4) (
       chk (decide (rZ.toNat < 4)) (
        let v16 : Int := IntKind.wrap .i64 (rZ + 1)
        g1 (zXs, zXt, zUd, v16, b12.set (rZ.toNat) (dP .u64 .or v14 v15), b13, ())))))))) (
  let v17 : Int := IntKind.wrap .i64 (zUd + 1)
  g0 (zXs, zXt, v17, b12, ()))
def xC (n : Nat) (g0 : List (List (Int)) × Int × Int × List (Int) × Unit -> Option (List (Int))) (x1 : List (List (Int)) × Int × Int × List (Int) × Unit) : Option (List (Int)) :=
 let zSl : List (List (Int)) := x1.1
 let zXu : Int := x1.2.1
 let zMx : Int := x1.2.2.1
 let b5 : List (Int) := x1.2.2.2.1
 br (decide (zMx < zXu)) (
  chk (inB zMx zSl.length) (
   let v6 : List (Int) := bK (Ty.dflt (.arr 4 (.int .u64))) zSl zMx
   fix (Ng n g0) n (zSl, zXu, zMx, 0, b5, v6, ()))) (
  some b5)
def mQ (n : Nat) (x : List (List (Int))) : Option (List (Int)) :=
 let l_0 : List (List (Int)) := x
 fix (xC n) n (l_0, (l_0.length : Int), 0, [0, 0, 0, 0], ())
def xD (n : Nat) (g0 : List UInt8 × Int × Int × List (Int) × Unit -> Option (List (Int))) (x1 : List UInt8 × Int × Int × List (Int) × Unit) : Option (List (Int)) :=
 let s_2 : List UInt8 := x1.1
 let zXv : Int := x1.2.1
 let Zh : Int := x1.2.2.1
 let b5 : List (Int) := x1.2.2.2.1
 br (decide (Zh < zXv)) (
  chk (inB Zh s_2.length) (
   let v6 : Int := ((bK 0 s_2 Zh).toNat : Int)
   chk (decide (0 <= 6)) (
    chk (inB (nG .u8 v6 6) 4) (
     chk (decide ((nG .u8 v6 6).toNat < 4)) (
      let v7 : Int := b5.getD ((nG .u8 v6 6).toNat) (Ty.dflt (.int .u64))
      chk (inB Zh s_2.length) (
       let v8 : Int := ((bK 0 s_2 Zh).toNat : Int)
       chk (decide (0 <= dP .u8 .and v8 63)) (
        let v9 : Int := Lf .u64 1 (dP .u8 .and v8 63)
        chk (inB (nG .u8 v6 6) 4) (
         chk (decide ((nG .u8 v6 6).toNat < 4)) (
          let v10 : Int := IntKind.wrap .i64 (Zh + 1)
          g0 (s_2, zXv, v10, b5.set ((nG .u8 v6 6).toNat) (dP .u64 .or v7 v9), ())))))))))) (
  some b5)
def qL (n : Nat) (x : List UInt8) : Option (List (Int)) :=
 let s_0 : List UInt8 := x
 fix (xD n) n (s_0, (s_0.length : Int), 0, [0, 0, 0, 0], ())
def Ae (n : Nat) (x : List UInt8) : Option (List (Int) × Bool) :=
 let gD : List UInt8 := x
 ob (cO n (65, 90)) fun y1 =>
 ob (cO n (97, 122)) fun y2 =>
 ob (cO n (48, 57)) fun y3 =>
 br (gD == [117, 112, 112, 101, 114]) (
  some (y1, true)) (
  br (gD == [108, 111, 119, 101, 114]) (
   some (y2, true)) (
   br (gD == [97, 108, 112, 104, 97]) (
    ob (mQ n [y1, y2]) fun y4 =>
    some (y4, true)) (
    br (gD == [100, 105, 103, 105, 116]) (
     some (y3, true)) (
     br (gD == [97, 108, 110, 117, 109]) (
      ob (mQ n [y1, y2, y3]) fun y5 =>
      some (y5, true)) (
      br (gD == [120, 100, 105, 103, 105, 116]) (
       ob (cO n (65, 70)) fun y6 =>
       ob (cO n (97, 102)) fun y7 =>
       ob (mQ n [y3, y6, y7]) fun y8 =>
       some (y8, true)) (
       br (gD == [98, 108, 97, 110, 107]) (
        ob (qL n [32, 9]) fun y9 =>
        some (y9, true)) (
        br (gD == [115, 112, 97, 99, 101]) (
         ob (qL n [32, 9, 10, 11, 12, 13]) fun y10 =>
         some (y10, true)) (
         br (gD == [99, 110, 116, 114, 108]) (
          ob (cO n (0, 31)) fun y11 =>
          ob (qL n [127]) fun y12 =>
          ob (mQ n [y11, y12]) fun y13 =>
          some (y13, true)) (
          br (gD == [103, 114, 97, 112, 104]) (
           ob (cO n (33, 126)) fun y14 =>
           some (y14, true)) (
           br (gD == [112, 114, 105, 110, 116]) (
            ob (cO n (32, 126)) fun y15 =>
            some (y15, true)) (
            br (gD == [112, 117, 110, 99, 116]) (
             ob (cO n (33, 47)) fun y16 =>
             ob (cO n (58, 64)) fun y17 =>
             ob (cO n (91, 96)) fun y18 =>
             ob (cO n (123, 126)) fun y19 =>
             ob (mQ n [y16, y17, y18, y19]) fun y20 =>
             some (y20, true)) (
             some ([0, 0, 0, 0], false)))))))))))))
def oI (n : Nat) (x21 : List UInt8 × List UInt8 × Int × Unit) : Option (Sum (Int × Bool × List UInt8 × Int × Unit) (Int × Int × List UInt8 × Int × Unit)) :=
 let zVj : List UInt8 := x21.1
 let s23 : List UInt8 := x21.2.1
 let zSm : Int := x21.2.2.1
 chk (inB zSm s23.length) (
  let v25 : Int := ((bK 0 s23 zSm).toNat : Int)
  let v26 : Int := IntKind.wrap .i64 (zSm + 3)
  some (.inl (v25, (zVj == [46]), s23, v26, ())))
def iN (n : Nat) (x41 : List UInt8 × Int × Unit) : Option (Sum (Int × Bool × List UInt8 × Int × Unit) (Int × Int × List UInt8 × Int × Unit)) :=
 let s42 : List UInt8 := x41.1
 let yBf : Int := x41.2.1
 let v44 : Int := IntKind.wrap .i64 (yBf + 1)
 let v45 : Int := IntKind.wrap .i64 (v44 - 1)
 chk (inB v45 s42.length) (
  let v46 : Int := ((bK 0 s42 v45).toNat : Int)
  some (.inl (v46, true, s42, v44, ())))
def gI (n : Nat) (x30 : Bool × Bool × List UInt8 × Int × Unit) : Option (Sum (Int × Bool × List UInt8 × Int × Unit) (Int × Int × List UInt8 × Int × Unit)) :=
 let zSn : Bool := x30.1
 let zJr : Bool := x30.2.1
 let s33 : List UInt8 := x30.2.2.1
 let zSo : Int := x30.2.2.2.1
 br (zSo == (s33.length : Int)) (
  ob2 (bE n (s33, zSo, ())) (fun y35 =>
   none) (fun y35 =>
   some (.inr (y35.1, y35.2.1, y35.2.2.1, y35.2.2.2.1, ())))) (
  ob (dX n ([91, 58], s33, zSo, ())) fun y36 =>
  br y36.1 (
   ob2 (bE n (y36.2.1, y36.2.2.1, ())) (fun y37 =>
    none) (fun y37 =>
    some (.inr (y37.1, y37.2.1, y37.2.2.1, y37.2.2.2.1, ())))) (
   ob (dX n ([93], y36.2.1, y36.2.2.1, ())) fun y38 =>
   br y38.1 (
    br (!zSn) (
     ob2 (bE n (y38.2.1, y38.2.2.1, ())) (fun y39 =>
      none) (fun y39 =>
      some (.inr (y39.1, y39.2.1, y39.2.2.1, y39.2.2.2.1, ())))) (
     br zJr (
      ob2 (bE n (y38.2.1, y38.2.2.1, ())) (fun y40 =>
       none) (fun y40 =>
       some (.inr (y40.1, y40.2.1, y40.2.2.1, y40.2.2.2.1, ())))) (
      jn (iN n) (y38.2.1, y38.2.2.1, ())))) (
    br zJr (
     ob2 (bE n (y38.2.1, y38.2.2.1, ())) (fun y47 =>
      none) (fun y47 =>
      some (.inr (y47.1, y47.2.1, y47.2.2.1, y47.2.2.2.1, ())))) (
     jn (iN n) (y38.2.1, y38.2.2.1, ())))))
def kJ (n : Nat) (g0 : Bool × Bool × Int × Int × List UInt8 × Int × List (List UInt8) × Unit -> Option (Sum (Int × Bool × List UInt8 × Int × Unit) (Int × Int × List UInt8 × Int × Unit))) (x6 : Bool × Bool × Int × Int × List UInt8 × Int × List (List UInt8) × Unit) : Option (Sum (Int × Bool × List UInt8 × Int × Unit) (Int × Int × List UInt8 × Int × Unit)) :=
 let Cq : Bool := x6.1
 let zPd : Bool := x6.2.1
 let zUe : Int := x6.2.2.1
 let Nh : Int := x6.2.2.2.1
 let s11 : List UInt8 := x6.2.2.2.2.1
 let zFx : Int := x6.2.2.2.2.2.1
 let Qi : List (List UInt8) := x6.2.2.2.2.2.2.1
 br (decide (Nh < zUe)) (
  chk ((inB Nh (Qi.length) && decide (0 + (Qi.length) <= Qi.length))) (
   chk (decide (0 + Nh.toNat < Qi.length)) (
    let v14 : List UInt8 := Qi.getD (0 + Nh.toNat) (Ty.dflt .str)
    chk (decide ([91].length + v14.length <= aM)) (
     ob (dL n ([91] ++ v14, s11, zFx, ())) fun y15 =>
     br (!y15.1) (
      let v16 : Int := IntKind.wrap .i64 (Nh + 1)
      g0 (Cq, zPd, zUe, v16, y15.2.1, y15.2.2.1, Qi, ())) (
      br ((y15.2.1.length : Int) == y15.2.2.1) (
       ob2 (bE n (y15.2.1, y15.2.2.1, ())) (fun y17 =>
        none) (fun y17 =>
        some (.inr (y17.1, y17.2.1, y17.2.2.1, y17.2.2.2.1, ())))) (
       let v18 : Int := IntKind.wrap .i64 (y15.2.2.1 + 1)
       chk ((decide (0 <= v18) && decide (v18 <= (y15.2.1.length : Int)))) (
        chk (decide (v14.length + ([93] : List UInt8).length <= aM)) (
         ob (strings_HasPrefix n (y15.2.1.drop v18.toNat, v14 ++ [93])) fun y19 =>
         br (!y19) (
          ob2 (bE n (y15.2.1, y15.2.2.1, ())) (fun y20 =>
           none) (fun y20 =>
           some (.inr (y20.1, y20.2.1, y20.2.2.1, y20.2.2.2.1, ())))) (
          jn (oI n) (v14, y15.2.1, y15.2.2.1, ())))))))))) (
  ob (dL n ([92, 110], s11, zFx, ())) fun y27 =>
  br y27.1 (
   some (.inl (10, true, y27.2.1, y27.2.2.1, ()))) (
   ob (dX n ([45], y27.2.1, y27.2.2.1, ())) fun y28 =>
   br y28.1 (
    br (!Cq) (
     br (!zPd) (
      ob (dX n ([45, 93], y28.2.1, y28.2.2.1, ())) fun y29 =>
      jn (gI n) (Cq, (!y29.1), y29.2.1, y29.2.2.1, ())) (
      jn (gI n) (Cq, false, y28.2.1, y28.2.2.1, ()))) (
     jn (gI n) (Cq, false, y28.2.1, y28.2.2.1, ()))) (
    jn (gI n) (Cq, false, y28.2.1, y28.2.2.1, ()))))
def kD (n : Nat) (x : Bool × Bool × List UInt8 × Int × Unit) : Option (Sum (Int × Bool × List UInt8 × Int × Unit) (Int × Int × List UInt8 × Int × Unit)) :=
 let Zi : Bool := x.1
 let zXw : Bool := x.2.1
 let s3 : List UInt8 := x.2.2.1
 let at4 : Int := x.2.2.2.1
 let v5 : Int := (([[46], [61]].length : Nat) : Int)
 fix (kJ n) n (Zi, zXw, v5, 0, s3, at4, [[46], [61]], ())
def lH (n : Nat) (x : Bool × List UInt8 × Int × Unit) : Option (Sum (List (Int) × List UInt8 × Int × Unit) (Int × Int × List UInt8 × Int × Unit)) :=
 let Zi : Bool := x.1
 let s2 : List UInt8 := x.2.1
 let at3 : Int := x.2.2.1
 ob (dL n ([91, 58], s2, at3, ())) fun y4 =>
 br y4.1 (
  chk ((decide (0 <= y4.2.2.1) && decide (y4.2.2.1 <= (y4.2.1.length : Int)))) (
   let v5 : List UInt8 := y4.2.1.drop y4.2.2.1.toNat
   ob (strings_Cut n (v5, [58, 93])) fun y6 =>
   let v7 : Int := IntKind.wrap .i64 (y4.2.2.1 + (y6.1.length : Int))
   ob (Ae n y6.1) fun y8 =>
   br (!y8.2) (
    ob2 (bE n (y4.2.1, v7, ())) (fun y9 =>
     none) (fun y9 =>
     some (.inr (y9.1, y9.2.1, y9.2.2.1, y9.2.2.2.1, ())))) (
    ob (dL n ([58, 93], y4.2.1, v7, ())) fun y10 =>
    br (!y10.1) (
     ob2 (bE n (y10.2.1, y10.2.2.1, ())) (fun y11 =>
      none) (fun y11 =>
      some (.inr (y11.1, y11.2.1, y11.2.2.1, y11.2.2.2.1, ())))) (
     some (.inl (y8.1, y10.2.1, y10.2.2.1, ())))))) (
  ob2 (kD n (Zi, false, y4.2.1, y4.2.2.1, ())) (fun y12 =>
   ob (dX n ([45], y12.2.2.1, y12.2.2.2.1, ())) fun y13 =>
   br (!y13.1) (
    ob (cO n (y12.1, y12.1)) fun y14 =>
    some (.inl (y14, y13.2.1, y13.2.2.1, ()))) (
    ob (dX n ([45, 93], y13.2.1, y13.2.2.1, ())) fun y15 =>
    br y15.1 (
     ob (cO n (y12.1, y12.1)) fun y16 =>
     some (.inl (y16, y15.2.1, y15.2.2.1, ()))) (
     let v17 : Int := IntKind.wrap .i64 (y15.2.2.1 + 1)
     br (v17 == (y15.2.1.length : Int)) (
      ob (cO n (y12.1, y12.1)) fun y18 =>
      some (.inl (y18, y15.2.1, y15.2.2.1, ()))) (
      let v19 : Int := IntKind.wrap .i64 (y15.2.2.1 + 1)
      ob2 (kD n (false, true, y15.2.1, v19, ())) (fun y20 =>
       br (!y12.2.1) (
        ob2 (bE n (y20.2.2.1, y20.2.2.2.1, ())) (fun y21 =>
         none) (fun y21 =>
         some (.inr (y21.1, y21.2.1, y21.2.2.1, y21.2.2.2.1, ())))) (
        br (!y20.2.1) (
         ob2 (bE n (y20.2.2.1, y20.2.2.2.1, ())) (fun y22 =>
          none) (fun y22 =>
          some (.inr (y22.1, y22.2.1, y22.2.2.1, y22.2.2.2.1, ())))) (
         br (decide (y20.1 < y12.1)) (
          ob2 (bE n (y20.2.2.1, y20.2.2.2.1, ())) (fun y23 =>
           none) (fun y23 =>
           some (.inr (y23.1, y23.2.1, y23.2.2.1, y23.2.2.2.1, ())))) (
          ob (cO n (y12.1, y20.1)) fun y24 =>
          some (.inl (y24, y20.2.2.1, y20.2.2.2.1, ())))))) (fun y20 =>
       some (.inr (y20.1, y20.2.1, y20.2.2.1, y20.2.2.2.1, ()))))))) (fun y12 =>
   some (.inr (y12.1, y12.2.1, y12.2.2.1, y12.2.2.2.1, ()))))
def jW (n : Nat) (g0 : Bool × Bool × List (Int) × List UInt8 × Int × Unit -> Option (Sum (List (Int) × List UInt8 × Int × Unit) (Int × Int × List (Int) × List UInt8 × Int × Unit))) (x7 : Bool × Bool × List (Int) × List UInt8 × Int × Unit) : Option (Sum (List (Int) × List UInt8 × Int × Unit) (Int × Int × List (Int) × List UInt8 × Int × Unit)) :=
 let zMy : Bool := x7.1
 let Zj : Bool := x7.2.1
 let b10 : List (Int) := x7.2.2.1
 let s11 : List UInt8 := x7.2.2.2.1
 let zFx : Int := x7.2.2.2.2.1
 br Zj (
  ob2 (lH n (Zj, s11, zFx, ())) (fun y13 =>
   ob (mQ n [b10, y13.1]) fun y14 =>
   g0 (zMy, false, y14, y13.2.1, y13.2.2.1, ())) (fun y13 =>
   some (.inr (y13.1, y13.2.1, b10, y13.2.2.1, y13.2.2.2.1, ())))) (
  ob (dL n ([93], s11, zFx, ())) fun y15 =>
  br (!y15.1) (
   ob2 (lH n (Zj, y15.2.1, y15.2.2.1, ())) (fun y16 =>
    ob (mQ n [b10, y16.1]) fun y17 =>
    g0 (zMy, false, y17, y16.2.1, y16.2.2.1, ())) (fun y16 =>
    some (.inr (y16.1, y16.2.1, b10, y16.2.2.1, y16.2.2.2.1, ())))) (
   br zMy (
    ob (Cn n b10) fun y18 =>
    br (Ty.beq (.arr 4 (.int .u64)) y18 ([0, 0, 0, 0])) (
     ob2 (bE n (y15.2.1, y15.2.2.1, ())) (fun y19 =>
      none) (fun y19 =>
      some (.inr (y19.1, y19.2.1, y18, y19.2.2.1, y19.2.2.2.1, ())))) (
     some (.inl (y18, y15.2.1, y15.2.2.1, ())))) (
    br (Ty.beq (.arr 4 (.int .u64)) b10 ([0, 0, 0, 0])) (
     ob2 (bE n (y15.2.1, y15.2.2.1, ())) (fun y20 =>
      none) (fun y20 =>
      some (.inr (y20.1, y20.2.1, b10, y20.2.2.1, y20.2.2.2.1, ())))) (
     some (.inl (b10, y15.2.1, y15.2.2.1, ()))))))
def jP (n : Nat) (x : List (Int) × List UInt8 × Int × Unit) : Option (Sum (List (Int) × List UInt8 × Int × Unit) (Int × Int × List (Int) × List UInt8 × Int × Unit)) :=
 let b1 : List (Int) := x.1
 let s2 : List UInt8 := x.2.1
 let at3 : Int := x.2.2.1
 ob (dL n ([91], s2, at3, ())) fun y4 =>
 br (!y4.1) (
  ob2 (bE n (y4.2.1, y4.2.2.1, ())) (fun y5 =>
   none) (fun y5 =>
   some (.inr (y5.1, y5.2.1, b1, y5.2.2.1, y5.2.2.2.1, ())))) (
  ob (dL n ([94], y4.2.1, y4.2.2.1, ())) fun y6 =>
  fix (jW n) n (y6.1, true, b1, y6.2.1, y6.2.2.1, ()))
def fE (n:Nat) (x:List (Int) × List UInt8 × Int × Unit):Option (Int × Int × List (Int) × List UInt8 × Int × Unit):=ob2 (jP n x) (fun y=>some (0,0,y)) (fun y=>some y)
def oJ (n : Nat) (x : List UInt8) : Option (List (Int) × Int × Int) :=
 let s_0 : List UInt8 := x
 ob (fE n ([0, 0, 0, 0], s_0, 0, ())) fun y1 =>
 br (y1.1 != 0) (
  some ([0, 0, 0, 0], 0, y1.1)) (
  some (y1.2.2.1, y1.2.2.2.2.1, 0))
def gY (n : Nat) (x : Int × List (Int) × Int × Int × Int × Int × Int × Unit) : Option (Int) :=
 let n_0 : Int × List (Int) × Int × Int × Int × Int × Int × Unit := x
 br (n_0.1 == 4) (
  br (n_0.1 == 4) (
   some 2) (
   br (n_0.1 == 6) (
    br (n_0.1 == 6) (
     some 1) (
     some 0)) (
    br (n_0.1 == 7) (
     some 1) (
     some 0)))) (
  br (n_0.1 == 5) (
   some 2) (
   br (n_0.1 == 6) (
    br (n_0.1 == 6) (
     some 1) (
     some 0)) (
    br (n_0.1 == 7) (
     some 1) (
     some 0))))
def bQ (n : Nat) (x : Int × List (Int) × Int × Int × Int × Int × Int × Unit) : Option (NdT) :=
 let n_0 : Int × List (Int) × Int × Int × Int × Int × Int × Unit := x
 br (n_0.1 == 1) (
  some (n_0.1, (n_0.2.1, (0, (0, (0, (0, (0, ())))))))) (
  br (n_0.1 == 4) (
   br (n_0.1 == 4) (
    some (n_0.1, ([0, 0, 0, 0], (n_0.2.2.1, (n_0.2.2.2.1, (0, (0, (0, ())))))))) (
    br (n_0.1 == 6) (
     some (n_0.1, ([0, 0, 0, 0], (n_0.2.2.1, (0, (n_0.2.2.2.2.1, (n_0.2.2.2.2.2.1, (0, ())))))))) (
     br (n_0.1 == 7) (
      some (n_0.1, ([0, 0, 0, 0], (n_0.2.2.1, (0, (0, (0, n_0.2.2.2.2.2.2))))))) (
      br (n_0.1 == 8) (
       some (n_0.1, ([0, 0, 0, 0], (0, (0, (0, (0, n_0.2.2.2.2.2.2))))))) (
       some (n_0.1, ([0, 0, 0, 0], (0, (0, (0, (0, (0, ())))))))))))) (
   br (n_0.1 == 5) (
    some (n_0.1, ([0, 0, 0, 0], (n_0.2.2.1, (n_0.2.2.2.1, (0, (0, (0, ())))))))) (
    br (n_0.1 == 6) (
     some (n_0.1, ([0, 0, 0, 0], (n_0.2.2.1, (0, (n_0.2.2.2.2.1, (n_0.2.2.2.2.2.1, (0, ())))))))) (
     br (n_0.1 == 7) (
      some (n_0.1, ([0, 0, 0, 0], (n_0.2.2.1, (0, (0, (0, n_0.2.2.2.2.2.2))))))) (
      br (n_0.1 == 8) (
       some (n_0.1, ([0, 0, 0, 0], (0, (0, (0, (0, n_0.2.2.2.2.2.2))))))) (
       some (n_0.1, ([0, 0, 0, 0], (0, (0, (0, (0, (0, ())))))))))))))
def oK (n : Nat) (x : Int × List (Int) × Int × Int × Int × Int × Int × Unit) : Option (Bool) :=
 let n_0 : Int × List (Int) × Int × Int × Int × Int × Int × Unit := x
 br (decide (n_0.1 < 0)) (
  some false) (
  br (decide (n_0.1 > 8)) (
   some false) (
   ob (bQ n n_0) fun y1 =>
   br (!(Ty.beq aC n_0 y1)) (
    some false) (
    br (n_0.1 == 1) (
     some (!(Ty.beq (.arr 4 (.int .u64)) n_0.2.1 ([0, 0, 0, 0])))) (
     br (n_0.1 == 6) (
      br (decide (n_0.2.2.2.2.1 ≥ 0)) (
       br (decide (n_0.2.2.2.2.1 <= 255)) (
        br (n_0.2.2.2.2.2.1 == (-1)) (
         some true) (
         let v2 : Int := if 1 > n_0.2.2.2.2.1 then 1 else n_0.2.2.2.2.1
         br (decide (n_0.2.2.2.2.2.1 ≥ v2)) (
          some (decide (n_0.2.2.2.2.2.1 <= 255))) (
          some false))) (
        some false)) (
       some false)) (
      br (n_0.1 == 7) (
       br (n_0.1 == 7) (
        br (decide (n_0.2.2.2.2.2.2.1 ≥ 1)) (
         some (decide (n_0.2.2.2.2.2.2.1 <= 9))) (
         some false)) (
        some true)) (
       br (n_0.1 == 8) (
        br (decide (n_0.2.2.2.2.2.2.1 ≥ 1)) (
         some (decide (n_0.2.2.2.2.2.2.1 <= 9))) (
         some false)) (
        some true)))))))
def Fz (n : Nat) (g0 : List (Int) × Int × Int × Int × Unit -> Option (Int)) (x1 : List (Int) × Int × Int × Int × Unit) : Option (Int) :=
 let s_2 : List (Int) := x1.1
 let v_3 : Int := x1.2.1
 let nI : Int := x1.2.2.1
 let zFy : Int := x1.2.2.2.1
 br (decide (zFy < nI)) (
  chk (inB zFy s_2.length) (
   let v6 : Int := bK (Ty.dflt (.int .i64)) s_2 zFy
   br (v_3 == v6) (
    some zFy) (
    let v7 : Int := IntKind.wrap .i64 (zFy + 1)
    g0 (s_2, v_3, nI, v7, ())))) (
  some (-1))
def vO (n : Nat) (x : List (Int) × Int) : Option (Int) :=
 let s_0 : List (Int) := x.1
 let v_1 : Int := x.2
 fix (Fz n) n (s_0, v_1, (s_0.length : Int), 0, ())
def mY (n : Nat) (x : List (Int) × Int) : Option (Bool) :=
 let s_0 : List (Int) := x.1
 let v_1 : Int := x.2
 ob (vO n (s_0, v_1)) fun y1 =>
 some (decide (y1 ≥ 0))
def jN (n : Nat) (x : List (NdT) × Int × List (Int) × Int × Int × Int × Int × Int × Unit) : Option (Bool) :=
 let l_0 : List (NdT) := x.1
 let n_1 : Int × List (Int) × Int × Int × Int × Int × Int × Unit := x.2
 br (n_1.1 == 4) (
  chk (inB n_1.2.2.1 l_0.length) (
   let v1 : Int × List (Int) × Int × Int × Int × Int × Int × Unit := bK (Ty.dflt aC) l_0 n_1.2.2.1
   br (v1.1 != 4) (
    chk (inB n_1.2.2.1 l_0.length) (
     let v2 : Int × List (Int) × Int × Int × Int × Int × Int × Unit := bK (Ty.dflt aC) l_0 n_1.2.2.1
     br (v2.1 != 5) (
      chk (inB n_1.2.2.2.1 l_0.length) (
       let v3 : Int × List (Int) × Int × Int × Int × Int × Int × Unit := bK (Ty.dflt aC) l_0 n_1.2.2.2.1
       some (v3.1 != 5))) (
      some false))) (
    some false))) (
  br (n_1.1 == 5) (
   chk (inB n_1.2.2.1 l_0.length) (
    let v4 : Int × List (Int) × Int × Int × Int × Int × Int × Unit := bK (Ty.dflt aC) l_0 n_1.2.2.1
    some (v4.1 != 5))) (
   br (n_1.1 == 6) (
    chk (inB n_1.2.2.1 l_0.length) (
     let v5 : Int × List (Int) × Int × Int × Int × Int × Int × Unit := bK (Ty.dflt aC) l_0 n_1.2.2.1
     ob (mY n ([1, 7, 8], v5.1)) fun y6 =>
     some y6)) (
    some true)))
def fV (n : Nat) (g0 : List (NdT) × List (NdT) × Int × Int × List (Int) × Unit -> Option (Bool)) (x1 : List (NdT) × List (NdT) × Int × Int × List (Int) × Unit) : Option (Bool) :=
 let l_2 : List (NdT) := x1.1
 let Ni : List (NdT) := x1.2.1
 let Ua : Int := x1.2.2.1
 let kK : Int := x1.2.2.2.1
 let aV : List (Int) := x1.2.2.2.2.1
 br (decide (kK < Ua)) (
  chk (inB kK Ni.length) (
   let v7 : Int × List (Int) × Int × Int × Int × Int × Int × Unit := bK (Ty.dflt aC) Ni kK
   let v8 : Int := ((aV.length : Nat) : Int)
   ob (gY n v7) fun y9 =>
   let v10 : Int := IntKind.wrap .i64 (v8 - y9)
   ob (oK n v7) fun y11 =>
   br (!y11) (
    some false) (
    br (decide (v10 < 0)) (
     some false) (
     br (v7.1 == 0) (
      br (decide ((l_2.length : Int) > 1)) (
       some false) (
       chk ((decide (0 <= v10) && decide (v10 <= (aV.length : Int)))) (
        let v12 : Int := (((aV.length) - (v10.toNat) : Nat) : Int)
        br (decide (v12 > 0)) (
         chk ((inB 0 ((aV.length) - (v10.toNat)) && decide ((0 + (v10.toNat)) + ((aV.length) - (v10.toNat)) <= aV.length))) (
          chk (decide ((0 + (v10.toNat)) + (0 : Int).toNat < aV.length)) (
           let v13 : Int := aV.getD ((0 + (v10.toNat)) + (0 : Int).toNat) (Ty.dflt (.int .i64))
           br (v13 != v7.2.2.1) (
            some false) (
            let v14 : Int := (((aV.length) - (v10.toNat) : Nat) : Int)
            br (decide (v14 > 1)) (
             chk ((inB 1 ((aV.length) - (v10.toNat)) && decide ((0 + (v10.toNat)) + ((aV.length) - (v10.toNat)) <= aV.length))) (
              chk (decide ((0 + (v10.toNat)) + (1 : Int).toNat < aV.length)) (
               let v15 : Int := aV.getD ((0 + (v10.toNat)) + (1 : Int).toNat) (Ty.dflt (.int .i64))
               br (v15 != v7.2.2.2.1) (
                some false) (
                ob (jN n (l_2, v7)) fun y16 =>
                br (!y16) (
                 some false) (
                 chk ((decide (0 <= v10) && decide (v10 <= (aV.length : Int)))) (
                  chk ((Nat.ble (v10.toNat) aV.length && Nat.ble (((v10.toNat) + ([kK] : List (Int)).length) * 8) room)) (
                   let r17 : List (Int) := aV.take (v10.toNat) ++ [kK]
                   let v18 : Int := IntKind.wrap .i64 (kK + 1)
                   g0 (l_2, Ni, Ua, v18, r17, ())))))))) (
             ob (jN n (l_2, v7)) fun y19 =>
             br (!y19) (
              some false) (
              chk ((decide (0 <= v10) && decide (v10 <= (aV.length : Int)))) (
               chk ((Nat.ble (v10.toNat) aV.length && Nat.ble (((v10.toNat) + ([kK] : List (Int)).length) * 8) room)) (
                let r20 : List (Int) := aV.take (v10.toNat) ++ [kK]
                let v21 : Int := IntKind.wrap .i64 (kK + 1)
                g0 (l_2, Ni, Ua, v21, r20, ()))))))))) (
         ob (jN n (l_2, v7)) fun y22 =>
         br (!y22) (
          some false) (
          chk ((decide (0 <= v10) && decide (v10 <= (aV.length : Int)))) (
           chk ((Nat.ble (v10.toNat) aV.length && Nat.ble (((v10.toNat) + ([kK] : List (Int)).length) * 8) room)) (
            let r23 : List (Int) := aV.take (v10.toNat) ++ [kK]
            let v24 : Int := IntKind.wrap .i64 (kK + 1)
            g0 (l_2, Ni, Ua, v24, r23, ())))))))) (
      chk ((decide (0 <= v10) && decide (v10 <= (aV.length : Int)))) (
       let v25 : Int := (((aV.length) - (v10.toNat) : Nat) : Int)
       br (decide (v25 > 0)) (
        chk ((inB 0 ((aV.length) - (v10.toNat)) && decide ((0 + (v10.toNat)) + ((aV.length) - (v10.toNat)) <= aV.length))) (
         chk (decide ((0 + (v10.toNat)) + (0 : Int).toNat < aV.length)) (
          let v26 : Int := aV.getD ((0 + (v10.toNat)) + (0 : Int).toNat) (Ty.dflt (.int .i64))
          br (v26 != v7.2.2.1) (
           some false) (
           let v27 : Int := (((aV.length) - (v10.toNat) : Nat) : Int)
           br (decide (v27 > 1)) (
            chk ((inB 1 ((aV.length) - (v10.toNat)) && decide ((0 + (v10.toNat)) + ((aV.length) - (v10.toNat)) <= aV.length))) (
             chk (decide ((0 + (v10.toNat)) + (1 : Int).toNat < aV.length)) (
              let v28 : Int := aV.getD ((0 + (v10.toNat)) + (1 : Int).toNat) (Ty.dflt (.int .i64))
              br (v28 != v7.2.2.2.1) (
               some false) (
               ob (jN n (l_2, v7)) fun y29 =>
               br (!y29) (
                some false) (
                chk ((decide (0 <= v10) && decide (v10 <= (aV.length : Int)))) (
                 chk ((Nat.ble (v10.toNat) aV.length && Nat.ble (((v10.toNat) + ([kK] : List (Int)).length) * 8) room)) (
                  let r30 : List (Int) := aV.take (v10.toNat) ++ [kK]
                  let v31 : Int := IntKind.wrap .i64 (kK + 1)
                  g0 (l_2, Ni, Ua, v31, r30, ())))))))) (
            ob (jN n (l_2, v7)) fun y32 =>
            br (!y32) (
             some false) (
             chk ((decide (0 <= v10) && decide (v10 <= (aV.length : Int)))) (
              chk ((Nat.ble (v10.toNat) aV.length && Nat.ble (((v10.toNat) + ([kK] : List (Int)).length) * 8) room)) (
               let r33 : List (Int) := aV.take (v10.toNat) ++ [kK]
               let v34 : Int := IntKind.wrap .i64 (kK + 1)
               g0 (l_2, Ni, Ua, v34, r33, ()))))))))) (
        ob (jN n (l_2, v7)) fun y35 =>
        br (!y35) (
         some false) (
         chk ((decide (0 <= v10) && decide (v10 <= (aV.length : Int)))) (
          chk ((Nat.ble (v10.toNat) aV.length && Nat.ble (((v10.toNat) + ([kK] : List (Int)).length) * 8) room)) (
           let r36 : List (Int) := aV.take (v10.toNat) ++ [kK]
           let v37 : Int := IntKind.wrap .i64 (kK + 1)
           g0 (l_2, Ni, Ua, v37, r36, ()))))))))))) (
  let v38 : Int := ((aV.length : Nat) : Int)
  some (v38 == 1))
def sV (n : Nat) (x : List (NdT)) : Option (Bool) :=
 let l_0 : List (NdT) := x
 fix (fV n) n (l_0, l_0, (l_0.length : Int), 0, [], ())
def dF (n : Nat) (dI : (Int × List (NdT) × Int × Bool × List (Bool) × Bool × Unit) -> Option (List (NdT) × Int × Bool × List (Bool) × Bool × Unit)) (x : Int × List (NdT) × Int × Bool × List (Bool) × Bool × Unit) : Option (List (NdT) × Int × Bool × List (Bool) × Bool × Unit) :=
 let i_1 : Int := x.1
 let b2 : List (NdT) := x.2.1
 let b3 : Int := x.2.2.1
 let b4 : Bool := x.2.2.2.1
 let b5 : List (Bool) := x.2.2.2.2.1
 let b6 : Bool := x.2.2.2.2.2.1
 chk (inB i_1 b2.length) (
  let v7 : Int × List (Int) × Int × Int × Int × Int × Int × Unit := bK (Ty.dflt aC) b2 i_1
  br (v7.1 == 4) (
   br (v7.1 == 4) (
    ob (dI (v7.2.2.1, b2, b3, b4, b5, b6, ())) fun y8 =>
    ob (dI (v7.2.2.2.1, y8.1, y8.2.1, y8.2.2.1, y8.2.2.2.1, y8.2.2.2.2.1, ())) fun y9 =>
    some (y9.1, y9.2.1, y9.2.2.1, y9.2.2.2.1, y9.2.2.2.2.1, ())) (
    br (v7.1 == 6) (
     ob (dI (v7.2.2.1, b2, b3, b4, b5, b6, ())) fun y10 =>
     some (y10.1, y10.2.1, y10.2.2.1, y10.2.2.2.1, y10.2.2.2.2.1, ())) (
     br (v7.1 == 7) (
      let v11 : Int := IntKind.wrap .i64 (b3 + 1)
      br b4 (
       ob (dI (v7.2.2.1, b2, v11, (v7.2.2.2.2.2.2.1 == v11), b5, b6, ())) fun y12 =>
       chk (inB v7.2.2.2.2.2.2.1 10) (
        chk (decide (v7.2.2.2.2.2.2.1.toNat < 10)) (
         some (y12.1, y12.2.1, y12.2.2.1, y12.2.2.2.1.set (v7.2.2.2.2.2.2.1.toNat) true, y12.2.2.2.2.1, ())))) (
       ob (dI (v7.2.2.1, b2, v11, false, b5, b6, ())) fun y13 =>
       chk (inB v7.2.2.2.2.2.2.1 10) (
        chk (decide (v7.2.2.2.2.2.2.1.toNat < 10)) (
         some (y13.1, y13.2.1, y13.2.2.1, y13.2.2.2.1.set (v7.2.2.2.2.2.2.1.toNat) true, y13.2.2.2.2.1, ()))))) (
      br (v7.1 == 8) (
       br b4 (
        chk (inB v7.2.2.2.2.2.2.1 10) (
         chk (decide (v7.2.2.2.2.2.2.1.toNat < 10)) (
          some (b2, b3, b5.getD (v7.2.2.2.2.2.2.1.toNat) (Ty.dflt .bool), b5, true, ())))) (
        some (b2, b3, false, b5, true, ()))) (
       some (b2, b3, b4, b5, b6, ())))))) (
   br (v7.1 == 5) (
    ob (dI (v7.2.2.1, b2, b3, b4, b5, b6, ())) fun y14 =>
    ob (dI (v7.2.2.2.1, y14.1, y14.2.1, y14.2.2.1, y14.2.2.2.1, y14.2.2.2.2.1, ())) fun y15 =>
    some (y15.1, y15.2.1, y15.2.2.1, y15.2.2.2.1, y15.2.2.2.2.1, ())) (
    br (v7.1 == 6) (
     ob (dI (v7.2.2.1, b2, b3, b4, b5, b6, ())) fun y16 =>
     some (y16.1, y16.2.1, y16.2.2.1, y16.2.2.2.1, y16.2.2.2.2.1, ())) (
     br (v7.1 == 7) (
      let v17 : Int := IntKind.wrap .i64 (b3 + 1)
      br b4 (
       ob (dI (v7.2.2.1, b2, v17, (v7.2.2.2.2.2.2.1 == v17), b5, b6, ())) fun y18 =>
       chk (inB v7.2.2.2.2.2.2.1 10) (
        chk (decide (v7.2.2.2.2.2.2.1.toNat < 10)) (
         some (y18.1, y18.2.1, y18.2.2.1, y18.2.2.2.1.set (v7.2.2.2.2.2.2.1.toNat) true, y18.2.2.2.2.1, ())))) (
       ob (dI (v7.2.2.1, b2, v17, false, b5, b6, ())) fun y19 =>
       chk (inB v7.2.2.2.2.2.2.1 10) (
        chk (decide (v7.2.2.2.2.2.2.1.toNat < 10)) (
         some (y19.1, y19.2.1, y19.2.2.1, y19.2.2.2.1.set (v7.2.2.2.2.2.2.1.toNat) true, y19.2.2.2.2.1, ()))))) (
      br (v7.1 == 8) (
       br b4 (
        chk (inB v7.2.2.2.2.2.2.1 10) (
         chk (decide (v7.2.2.2.2.2.2.1.toNat < 10)) (
          some (b2, b3, b5.getD (v7.2.2.2.2.2.2.1.toNat) (Ty.dflt .bool), b5, true, ())))) (
        some (b2, b3, false, b5, true, ()))) (
       some (b2, b3, b4, b5, b6, ())))))))
def lI (n : Nat) : (Int × List (NdT) × Int × Bool × List (Bool) × Bool × Unit) -> Option (List (NdT) × Int × Bool × List (Bool) × Bool × Unit) :=
 zSc (fun n r x => dF n r x) n
def zN (n : Nat) (x : List (NdT)) : Option (Int × Bool × Bool) :=
 let l_0 : List (NdT) := x
 let v1 : Int := IntKind.wrap .i64 ((l_0.length : Int) - 1)
 ob (lI n (v1, l_0, 0, true, [false, false, false, false, false, false, false, false, false, false], false, ())) fun y2 =>
 some (y2.2.1, y2.2.2.2.2.1, y2.2.2.1)
def oZ (n : Nat) (x : List (NdT)) : Option (Int × Bool × Bool) :=
 let l_0 : List (NdT) := x
 br ((l_0.length : Int) == 0) (
  some (0, false, false)) (
  br (decide ((l_0.length : Int) > 120)) (
   some (0, false, false)) (
   ob (sV n l_0) fun y1 =>
   br (!y1) (
    some (0, false, false)) (
    ob (zN n l_0) fun y2 =>
    br (!y2.2.2) (
     some (0, false, false)) (
     some (y2.1, y2.2.1, true)))))
def Nj (n : Nat) (x : List (NdT)) : Option (Bool) :=
 let l_0 : List (NdT) := x
 ob (oZ n l_0) fun y1 =>
 some y1.2.2
def Ub (n : Nat) (x : Int) : Option (List UInt8) :=
 let b_0 : Int := x
 br (b_0 == 10) (
  some [92, 110]) (
  ob (strings_IndexByte n ([46, 91, 92, 42, 94, 36], b_0)) fun y1 =>
  br (decide (y1 ≥ 0)) (
   chk (decide ([92].length + (pQ [b_0]).length <= aM)) (
    some ([92] ++ (pQ [b_0])))) (
   some (pQ [b_0])))
def Cr (n : Nat) (x : List (Int) × Int) : Option (Bool) :=
 let s_0 : List (Int) := x.1
 let b_1 : Int := x.2
 chk (decide (0 <= 6)) (
  chk (inB (nG .u8 b_1 6) 4) (
   chk (decide ((nG .u8 b_1 6).toNat < 4)) (
    let v1 : Int := s_0.getD ((nG .u8 b_1 6).toNat) (Ty.dflt (.int .u64))
    chk (decide (0 <= dP .u8 .and b_1 63)) (
     let v2 : Int := nG .u64 v1 (dP .u8 .and b_1 63)
     some ((dP .u64 .and v2 1) == 1)))))
def Zk (n : Nat) (g0 : List UInt8 × Int × Int × List (List UInt8) × Unit -> Option (List (List UInt8))) (x1 : List UInt8 × Int × Int × List (List UInt8) × Unit) : Option (List (List UInt8)) :=
 let s_2 : List UInt8 := x1.1
 let zMz : Int := x1.2.1
 let nI : Int := x1.2.2.1
 let uF : List (List UInt8) := x1.2.2.2.1
 br (decide (nI < zMz)) (
  let v6 : Int := ((uF.length : Nat) : Int)
  let v7 : Int := IntKind.wrap .i64 (v6 - 1)
  br (decide (v7 ≥ 0)) (
   chk (inB nI s_2.length) (
    let v8 : Int := ((bK 0 s_2 nI).toNat : Int)
    let v9 : Int := IntKind.wrap .i64 (nI - 1)
    chk (inB v9 s_2.length) (
     let v10 : Int := ((bK 0 s_2 v9).toNat : Int)
     let v11 : Int := IntKind.wrap .u8 (v10 + 1)
     br (v8 == v11) (
      chk ((inB v7 (uF.length) && decide (0 + (uF.length) <= uF.length))) (
       chk (decide (0 + v7.toNat < uF.length)) (
        let v12 : List UInt8 := uF.getD (0 + v7.toNat) (Ty.dflt .str)
        let v13 : Int := IntKind.wrap .i64 (nI + 1)
        chk ((decide (0 <= v13) && decide (v13 <= (s_2.length : Int)) && (decide (0 <= nI) && decide (nI <= v13)))) (
         let v14 : List UInt8 := (s_2.take v13.toNat).drop nI.toNat
         chk (decide (v12.length + v14.length <= aM)) (
          chk ((inB v7 (uF.length) && decide (0 + (uF.length) <= uF.length))) (
           chk (decide (0 + v7.toNat < uF.length)) (
            let r15 : List (List UInt8) := uF.set (0 + v7.toNat) (v12 ++ v14)
            let v16 : Int := IntKind.wrap .i64 (nI + 1)
            g0 (s_2, zMz, v16, r15, ())))))))) (
      let v17 : Int := IntKind.wrap .i64 (nI + 1)
      chk ((decide (0 <= v17) && decide (v17 <= (s_2.length : Int)) && (decide (0 <= nI) && decide (nI <= v17)))) (
       let v18 : List UInt8 := (s_2.take v17.toNat).drop nI.toNat
       chk (Nat.ble ((uF.length + ([v18] : List (List UInt8)).length) * 16) room) (
        let v19 : Int := IntKind.wrap .i64 (nI + 1)
        g0 (s_2, zMz, v19, uF ++ [v18], ()))))))) (
   let v20 : Int := IntKind.wrap .i64 (nI + 1)
   chk ((decide (0 <= v20) && decide (v20 <= (s_2.length : Int)) && (decide (0 <= nI) && decide (nI <= v20)))) (
    let v21 : List UInt8 := (s_2.take v20.toNat).drop nI.toNat
    chk (Nat.ble ((uF.length + ([v21] : List (List UInt8)).length) * 16) room) (
     let v22 : Int := IntKind.wrap .i64 (nI + 1)
     g0 (s_2, zMz, v22, uF ++ [v21], ()))))) (
  some uF)
def Uc (n : Nat) (x : List UInt8) : Option (List (List UInt8)) :=
 let s_0 : List UInt8 := x
 fix (Zk n) n (s_0, (s_0.length : Int), 0, [], ())
def Zl (n : Nat) (g2 : List UInt8 × Int × Int × List (Int) × List (List UInt8) × Unit -> Option (List UInt8)) (x35 : List UInt8 × Int × Int × List (Int) × List (List UInt8) × Unit) : Option (List UInt8) :=
 let Ga : List UInt8 := x35.1
 let Hl : Int := x35.2.1
 let xE : Int := x35.2.2.1
 let b39 : List (Int) := x35.2.2.2.1
 let zO : List (List UInt8) := x35.2.2.2.2.1
 br (decide (xE < Hl)) (
  chk ((inB xE (zO.length) && decide (0 + (zO.length) <= zO.length))) (
   chk (decide (0 + xE.toNat < zO.length)) (
    let v41 : List UInt8 := zO.getD (0 + xE.toNat) (Ty.dflt .str)
    chk (inB 0 v41.length) (
     let v42 : Int := ((bK 0 v41 0).toNat : Int)
     ob (Cr n (b39, v42)) fun y43 =>
     br y43 (
      br (v41 == [10]) (
       chk (decide (Ga.length + ([92, 110] : List UInt8).length <= aM)) (
        let v44 : Int := IntKind.wrap .i64 (xE + 1)
        g2 (Ga ++ [92, 110], Hl, v44, b39, zO, ()))) (
       chk (inB 0 v41.length) (
        let v45 : Int := ((bK 0 v41 0).toNat : Int)
        ob (Cr n (b39, v45)) fun y46 =>
        br y46 (
         chk (decide (Ga.length + v41.length <= aM)) (
          let v47 : Int := IntKind.wrap .i64 (xE + 1)
          g2 (Ga ++ v41, Hl, v47, b39, zO, ()))) (
         let v48 : Int := IntKind.wrap .i64 (xE + 1)
         g2 (Ga, Hl, v48, b39, zO, ()))))) (
      chk (inB 0 v41.length) (
       let v49 : Int := ((bK 0 v41 0).toNat : Int)
       ob (Cr n (b39, v49)) fun y50 =>
       br y50 (
        chk (decide (Ga.length + v41.length <= aM)) (
         let v51 : Int := IntKind.wrap .i64 (xE + 1)
         g2 (Ga ++ v41, Hl, v51, b39, zO, ()))) (
        let v52 : Int := IntKind.wrap .i64 (xE + 1)
        g2 (Ga, Hl, v52, b39, zO, ())))))))) (
  chk (decide (Ga.length + ([93] : List UInt8).length <= aM)) (
   some (Ga ++ [93])))
def Zm (n : Nat) (g1 : List UInt8 × List (List UInt8) × Int × Int × List (Int) × Unit -> Option (List UInt8)) (x22 : List UInt8 × List (List UInt8) × Int × Int × List (Int) × Unit) : Option (List UInt8) :=
 let zFz : List UInt8 := x22.1
 let Xe : List (List UInt8) := x22.2.1
 let zGa : Int := x22.2.2.1
 let Nk : Int := x22.2.2.2.1
 let b27 : List (Int) := x22.2.2.2.2.1
 br (decide (Nk < zGa)) (
  chk (inB Nk Xe.length) (
   let v28 : List UInt8 := bK (Ty.dflt .str) Xe Nk
   br (decide ((v28.length : Int) > 2)) (
    chk ((decide (0 <= (1 : Int)) && decide ((1 : Int) <= (v28.length : Int)))) (
     chk (decide ((v28.take (1 : Int).toNat).length + ([45] : List UInt8).length <= aM)) (
      let v29 : List UInt8 := (v28.take (1 : Int).toNat) ++ [45]
      let v30 : Int := IntKind.wrap .i64 ((v28.length : Int) - 1)
      chk ((decide (0 <= v30) && decide (v30 <= (v28.length : Int)))) (
       chk (decide (v29.length + (v28.drop v30.toNat).length <= aM)) (
        let v31 : List UInt8 := v29 ++ (v28.drop v30.toNat)
        chk (decide (zFz.length + v31.length <= aM)) (
         let v32 : Int := IntKind.wrap .i64 (Nk + 1)
         g1 (zFz ++ v31, Xe, zGa, v32, b27, ()))))))) (
    chk (decide (zFz.length + v28.length <= aM)) (
     let v33 : Int := IntKind.wrap .i64 (Nk + 1)
     g1 (zFz ++ v28, Xe, zGa, v33, b27, ()))))) (
  let v34 : Int := (([[10], [91], [92], [94], [45]].length : Nat) : Int)
  fix (Zl n) n (zFz, v34, 0, b27, [[10], [91], [92], [94], [45]], ()))
def Zn (n : Nat) (g0 : List UInt8 × List (Int) × Int × Int × List (Int) × List (Int) × Unit -> Option (List UInt8)) (x10 : List UInt8 × List (Int) × Int × Int × List (Int) × List (Int) × Unit) : Option (List UInt8) :=
 let zSp : List UInt8 := x10.1
 let Xf : List (Int) := x10.2.1
 let zGb : Int := x10.2.2.1
 let Nl : Int := x10.2.2.2.1
 let b15 : List (Int) := x10.2.2.2.2.1
 let zDm : List (Int) := x10.2.2.2.2.2.1
 br (decide (Nl < zGb)) (
  chk (inB Nl Xf.length) (
   let v17 : Int := bK (Ty.dflt (.int .u8)) Xf Nl
   ob (strings_IndexByte n ([93, 91, 92, 94, 45, 10], v17)) fun y18 =>
   br (decide (y18 < 0)) (
    chk (Nat.ble ((zDm.length + ([v17] : List (Int)).length) * 1) room) (
     let v19 : Int := IntKind.wrap .i64 (Nl + 1)
     g0 (zSp, Xf, zGb, v19, b15, zDm ++ [v17], ()))) (
    let v20 : Int := IntKind.wrap .i64 (Nl + 1)
    g0 (zSp, Xf, zGb, v20, b15, zDm, ())))) (
  ob (Uc n (pQ zDm)) fun y21 =>
  fix (Zm n) n (zSp, y21, (y21.length : Int), 0, b15, ()))
def Ho (n : Nat) (x5 : List UInt8 × List UInt8 × List (Int) × Unit) : Option (List UInt8) :=
 let l_6 : List UInt8 := x5.1
 let b_7 : List UInt8 := x5.2.1
 let b8 : List (Int) := x5.2.2.1
 chk (Nat.ble l_6.length room) (
  let v9 : Int := ((cB l_6).length : Int)
  fix (Zn n) n (b_7, cB l_6, v9, 0, b8, [], ()))
def Jp (n : Nat) (x : List (Int)) : Option (List UInt8) :=
 let s_0 : List (Int) := x
 ob (rY n s_0) fun y1 =>
 br ((y1.length : Int) == 0) (
  some []) (
  br ((y1.length : Int) == 1) (
   chk (inB 0 y1.length) (
    let v2 : Int := ((bK 0 y1 0).toNat : Int)
    ob (Ub n v2) fun y3 =>
    some y3)) (
   br ((y1.length : Int) == 256) (
    some [46]) (
    br (y1 == [45, 94]) (
     some [91, 45, 94, 93]) (
     ob (Cr n (s_0, 93)) fun y4 =>
     br y4 (
      chk (decide ([91].length + ([93] : List UInt8).length <= aM)) (
       jn (Ho n) (y1, [91] ++ [93], s_0, ()))) (
      jn (Ho n) (y1, [91], s_0, ()))))))
def zCl (n : Nat) (g0 : List (NdT) × Int × Int × List (List UInt8) × Unit -> Option (List UInt8)) (g1 : Int × List UInt8 × List (NdT) × Int × Int × List (Int) × Int × Int × List (List UInt8) × Unit -> Option (List UInt8)) (x16 : Int × List UInt8 × List (NdT) × Int × Int × List (Int) × Int × Int × List (List UInt8) × Unit) : Option (List UInt8) :=
 let Zo : Int := x16.1
 let zGc : List UInt8 := x16.2.1
 let zPe : List (NdT) := x16.2.2.1
 let zPf : Int := x16.2.2.2.1
 let zPg : Int := x16.2.2.2.2.1
 let zGd : List (Int) := x16.2.2.2.2.2.1
 let zPh : Int := x16.2.2.2.2.2.2.1
 let Xg : Int := x16.2.2.2.2.2.2.2.1
 let xG : List (List UInt8) := x16.2.2.2.2.2.2.2.2.1
 br (decide (Xg < zPh)) (
  chk (inB Xg zGd.length) (
   let v26 : Int := bK (Ty.dflt (.int .u8)) zGd Xg
   chk ((!decide (16 = 0))) (
    let v27 : Int := IntKind.wrap .u64 (Int.tdiv (IntKind.wrap .u64 v26) 16)
    ob (nQ n (v27, 16)) fun y28 =>
    chk ((!decide (16 = 0))) (
     let v29 : Int := Int.tmod (IntKind.wrap .u64 v26) 16
     ob (nQ n (v29, 16)) fun y30 =>
     chk (decide (y28.length + y30.length <= aM)) (
      chk (decide (zGc.length + (y28 ++ y30).length <= aM)) (
       let v31 : Int := IntKind.wrap .i64 (Xg + 1)
       g1 (Zo, zGc ++ (y28 ++ y30), zPe, zPf, zPg, zGd, zPh, v31, xG, ()))))))) (
  chk (decide (zGc.length + ([93] : List UInt8).length <= aM)) (
   chk ((decide (0 <= Zo) && decide (Zo <= (xG.length : Int)))) (
    chk ((Nat.ble (Zo.toNat) xG.length && Nat.ble (((Zo.toNat) + ([zGc ++ [93]] : List (List UInt8)).length) * 16) room)) (
     let r32 : List (List UInt8) := xG.take (Zo.toNat) ++ [zGc ++ [93]]
     let v33 : Int := IntKind.wrap .i64 (zPg + 1)
     g0 (zPe, zPf, v33, r32, ())))))
def zCm (n : Nat) (g0 : List (NdT) × Int × Int × List (List UInt8) × Unit -> Option (List UInt8)) (x2 : List (NdT) × Int × Int × List (List UInt8) × Unit) : Option (List UInt8) :=
 let vH : List (NdT) := x2.1
 let xH : Int := x2.2.1
 let sW : Int := x2.2.2.1
 let aV : List (List UInt8) := x2.2.2.2.1
 br (decide (sW < xH)) (
  chk (inB sW vH.length) (
   let v7 : Int × List (Int) × Int × Int × Int × Int × Int × Unit := bK (Ty.dflt aC) vH sW
   let v8 : Int := ((aV.length : Nat) : Int)
   ob (gY n v7) fun y9 =>
   let v10 : Int := IntKind.wrap .i64 (v8 - y9)
   chk ((decide (0 <= v10) && decide (v10 <= (aV.length : Int)))) (
    chk ((Nat.ble ((0 + (v10.toNat)) + ((aV.length) - (v10.toNat))) aV.length && true)) (
     ob (strings_Join n ((aV.drop (0 + (v10.toNat))).take ((aV.length) - (v10.toNat)), [])) fun y11 =>
     br (v7.1 == 0) (
      chk ((decide (0 <= v10) && decide (v10 <= (aV.length : Int)))) (
       chk ((Nat.ble (v10.toNat) aV.length && Nat.ble (((v10.toNat) + ([[101]] : List (List UInt8)).length) * 16) room)) (
        let r12 : List (List UInt8) := aV.take (v10.toNat) ++ [[101]]
        let v13 : Int := IntKind.wrap .i64 (sW + 1)
        g0 (vH, xH, v13, r12, ())))) (
      br (v7.1 == 1) (
       ob (rY n v7.2.1) fun y14 =>
       chk (Nat.ble y14.length room) (
        let v15 : Int := ((cB y14).length : Int)
        fix (zCl n g0) n (v10, [91], vH, xH, sW, cB y14, v15, 0, aV, ()))) (
       br (v7.1 == 2) (
        chk ((decide (0 <= v10) && decide (v10 <= (aV.length : Int)))) (
         chk ((Nat.ble (v10.toNat) aV.length && Nat.ble (((v10.toNat) + ([[94]] : List (List UInt8)).length) * 16) room)) (
          let r34 : List (List UInt8) := aV.take (v10.toNat) ++ [[94]]
          let v35 : Int := IntKind.wrap .i64 (sW + 1)
          g0 (vH, xH, v35, r34, ())))) (
        br (v7.1 == 3) (
         chk ((decide (0 <= v10) && decide (v10 <= (aV.length : Int)))) (
          chk ((Nat.ble (v10.toNat) aV.length && Nat.ble (((v10.toNat) + ([[36]] : List (List UInt8)).length) * 16) room)) (
           let r36 : List (List UInt8) := aV.take (v10.toNat) ++ [[36]]
           let v37 : Int := IntKind.wrap .i64 (sW + 1)
           g0 (vH, xH, v37, r36, ())))) (
         br (v7.1 == 4) (
          chk (decide ([38].length + y11.length <= aM)) (
           chk ((decide (0 <= v10) && decide (v10 <= (aV.length : Int)))) (
            chk ((Nat.ble (v10.toNat) aV.length && Nat.ble (((v10.toNat) + ([[38] ++ y11] : List (List UInt8)).length) * 16) room)) (
             let r38 : List (List UInt8) := aV.take (v10.toNat) ++ [[38] ++ y11]
             let v39 : Int := IntKind.wrap .i64 (sW + 1)
             g0 (vH, xH, v39, r38, ()))))) (
          br (v7.1 == 5) (
           chk (decide ([124].length + y11.length <= aM)) (
            chk ((decide (0 <= v10) && decide (v10 <= (aV.length : Int)))) (
             chk ((Nat.ble (v10.toNat) aV.length && Nat.ble (((v10.toNat) + ([[124] ++ y11] : List (List UInt8)).length) * 16) room)) (
              let r40 : List (List UInt8) := aV.take (v10.toNat) ++ [[124] ++ y11]
              let v41 : Int := IntKind.wrap .i64 (sW + 1)
              g0 (vH, xH, v41, r40, ()))))) (
           br (v7.1 == 6) (
            ob (strconv_Itoa n v7.2.2.2.2.1) fun y42 =>
            chk (decide ([42].length + y42.length <= aM)) (
             chk (decide (([42] ++ y42).length + ([44] : List UInt8).length <= aM)) (
              ob (strconv_Itoa n v7.2.2.2.2.2.1) fun y43 =>
              chk (decide ((([42] ++ y42) ++ [44]).length + y43.length <= aM)) (
               let v44 : List UInt8 := (([42] ++ y42) ++ [44]) ++ y43
               chk (decide (v44.length + ([59] : List UInt8).length <= aM)) (
                chk (decide ((v44 ++ [59]).length + y11.length <= aM)) (
                 chk ((decide (0 <= v10) && decide (v10 <= (aV.length : Int)))) (
                  chk ((Nat.ble (v10.toNat) aV.length && Nat.ble (((v10.toNat) + ([(v44 ++ [59]) ++ y11] : List (List UInt8)).length) * 16) room)) (
                   let r45 : List (List UInt8) := aV.take (v10.toNat) ++ [(v44 ++ [59]) ++ y11]
                   let v46 : Int := IntKind.wrap .i64 (sW + 1)
                   g0 (vH, xH, v46, r45, ()))))))))) (
            br (v7.1 == 7) (
             chk (decide ([40].length + y11.length <= aM)) (
              chk (decide (([40] ++ y11).length + ([41] : List UInt8).length <= aM)) (
               chk ((decide (0 <= v10) && decide (v10 <= (aV.length : Int)))) (
                chk ((Nat.ble (v10.toNat) aV.length && Nat.ble (((v10.toNat) + ([([40] ++ y11) ++ [41]] : List (List UInt8)).length) * 16) room)) (
                 let r47 : List (List UInt8) := aV.take (v10.toNat) ++ [([40] ++ y11) ++ [41]]
                 let v48 : Int := IntKind.wrap .i64 (sW + 1)
                 g0 (vH, xH, v48, r47, ())))))) (
             br (v7.1 == 8) (
              ob (strconv_Itoa n v7.2.2.2.2.2.2.1) fun y49 =>
              chk (decide ([92].length + y49.length <= aM)) (
               chk ((decide (0 <= v10) && decide (v10 <= (aV.length : Int)))) (
                chk ((Nat.ble (v10.toNat) aV.length && Nat.ble (((v10.toNat) + ([[92] ++ y49] : List (List UInt8)).length) * 16) room)) (
                 let r50 : List (List UInt8) := aV.take (v10.toNat) ++ [[92] ++ y49]
                 let v51 : Int := IntKind.wrap .i64 (sW + 1)
                 g0 (vH, xH, v51, r50, ()))))) (
              chk ((decide (0 <= v10) && decide (v10 <= (aV.length : Int)))) (
               chk ((Nat.ble (v10.toNat) aV.length && Nat.ble (((v10.toNat) + ([[]] : List (List UInt8)).length) * 16) room)) (
                let r52 : List (List UInt8) := aV.take (v10.toNat) ++ [[]]
                let v53 : Int := IntKind.wrap .i64 (sW + 1)
                g0 (vH, xH, v53, r52, ())))))))))))))))) (
  chk ((inB 0 (aV.length) && decide (0 + (aV.length) <= aV.length))) (
   chk (decide (0 + (0 : Int).toNat < aV.length)) (
    let v54 : List UInt8 := aV.getD (0 + (0 : Int).toNat) (Ty.dflt .str)
    some v54)))
def Qj (n : Nat) (x : List (NdT)) : Option (List UInt8) :=
 let l_0 : List (NdT) := x
 ob (Nj n l_0) fun y1 =>
 br (!y1) (
  some []) (
  fix (zCm n) n (l_0, (l_0.length : Int), 0, [], ()))
def Nn (n : Nat) (x : List (NdT)) : Option (Int) :=
 let l_0 : List (NdT) := x
 ob (oZ n l_0) fun y1 =>
 some y1.1
def Hq (n : Nat) (x : List (NdT)) : Option (Bool) :=
 let l_0 : List (NdT) := x
 ob (oZ n l_0) fun y1 =>
 some y1.2.1
def lK (n : Nat) (g0 : Int × Int × List (Bool) × List (Bool) × Unit -> Option (List (Bool))) (x1 : Int × Int × List (Bool) × List (Bool) × Unit) : Option (List (Bool)) :=
 let b_2 : Int := x1.1
 let i_3 : Int := x1.2.1
 let b4 : List (Bool) := x1.2.2.1
 let b5 : List (Bool) := x1.2.2.2.1
 br (decide (i_3 <= (IntKind.wrap .i64 b_2))) (
  chk (inB i_3 256) (
   chk (decide (i_3.toNat < 256)) (
    let v6 : Int := IntKind.wrap .i64 (i_3 + 1)
    g0 (b_2, v6, b4, b5.set (i_3.toNat) true, ())))) (
  some b5)
def fI (n : Nat) (x : Int × Int) : Option (List (Bool)) :=
 let a_0 : Int := x.1
 let b_1 : Int := x.2
 fix (lK n) n (b_1, IntKind.wrap .i64 a_0, (List.replicate 256 false), (List.replicate 256 false), ())
def sZ (n : Nat) (g0 : Int × List (Bool) × List (Bool) × List (Bool) × Unit -> Option (List (Bool))) (x1 : Int × List (Bool) × List (Bool) × List (Bool) × Unit) : Option (List (Bool)) :=
 let i_2 : Int := x1.1
 let b3 : List (Bool) := x1.2.1
 let b4 : List (Bool) := x1.2.2.1
 let b5 : List (Bool) := x1.2.2.2.1
 br (decide (i_2 < 256)) (
  chk (inB i_2 256) (
   chk (decide (i_2.toNat < 256)) (
    br (b3.getD (i_2.toNat) (Ty.dflt .bool)) (
     chk (inB i_2 256) (
      chk (decide (i_2.toNat < 256)) (
       let v6 : Int := IntKind.wrap .i64 (i_2 + 1)
       g0 (v6, b3.set (i_2.toNat) true, b4, b5, ())))) (
     chk (inB i_2 256) (
      chk (decide (i_2.toNat < 256)) (
       chk (inB i_2 256) (
        chk (decide (i_2.toNat < 256)) (
         let v7 : Int := IntKind.wrap .i64 (i_2 + 1)
         g0 (v7, b3.set (i_2.toNat) (b4.getD (i_2.toNat) (Ty.dflt .bool)), b4, b5, ()))))))))) (
  some b3)
def qA (n : Nat) (x : List (Bool) × List (Bool)) : Option (List (Bool)) :=
 let a_0 : List (Bool) := x.1
 let b_1 : List (Bool) := x.2
 fix (sZ n) n (0, a_0, b_1, (List.replicate 256 false), ())
def tC (n : Nat) (g0 : List UInt8 × Int × List (Bool) × List (Bool) × Unit -> Option (List (Bool))) (x1 : List UInt8 × Int × List (Bool) × List (Bool) × Unit) : Option (List (Bool)) :=
 let s_2 : List UInt8 := x1.1
 let i_3 : Int := x1.2.1
 let b4 : List (Bool) := x1.2.2.1
 let b5 : List (Bool) := x1.2.2.2.1
 br (decide (i_3 < (s_2.length : Int))) (
  chk (inB i_3 s_2.length) (
   let v6 : Int := ((bK 0 s_2 i_3).toNat : Int)
   chk (inB v6 256) (
    chk (decide (v6.toNat < 256)) (
     let v7 : Int := IntKind.wrap .i64 (i_3 + 1)
     g0 (s_2, v7, b4, b5.set (v6.toNat) true, ()))))) (
  some b5)
def Dl (n : Nat) (x : List UInt8) : Option (List (Bool)) :=
 let s_0 : List UInt8 := x
 fix (tC n) n (s_0, 0, (List.replicate 256 false), (List.replicate 256 false), ())
def lM (n : Nat) (g0 : Int × List (Bool) × List (Bool) × List (Bool) × Unit -> Option (List (Bool) × Bool)) (x21 : Int × List (Bool) × List (Bool) × List (Bool) × Unit) : Option (List (Bool) × Bool) :=
 let vP : Int := x21.1
 let b23 : List (Bool) := x21.2.1
 let b24 : List (Bool) := x21.2.2.1
 let b25 : List (Bool) := x21.2.2.2.1
 br (decide (vP < 256)) (
  chk (inB vP 256) (
   chk (decide (vP.toNat < 256)) (
    br (b25.getD (vP.toNat) (Ty.dflt .bool)) (
     chk (inB vP 256) (
      chk (decide (vP.toNat < 256)) (
       chk (inB vP 256) (
        chk (decide (vP.toNat < 256)) (
         let v26 : Int := IntKind.wrap .i64 (vP + 1)
         g0 (v26, b23, b24, b25.set (vP.toNat) (!(b24.getD (vP.toNat) (Ty.dflt .bool))), ())))))) (
     chk (inB vP 256) (
      chk (decide (vP.toNat < 256)) (
       let v27 : Int := IntKind.wrap .i64 (vP + 1)
       g0 (v27, b23, b24, b25.set (vP.toNat) false, ()))))))) (
  some (b25, true))
def Ru (n : Nat) (x : List UInt8) : Option (List (Bool) × Bool) :=
 let gD : List UInt8 := x
 ob (fI n (65, 90)) fun y1 =>
 ob (fI n (97, 122)) fun y2 =>
 ob (fI n (48, 57)) fun y3 =>
 ob (qA n (y1, y2)) fun y4 =>
 ob (qA n (y4, y3)) fun y5 =>
 br (gD == [117, 112, 112, 101, 114]) (
  some (y1, true)) (
  br (gD == [108, 111, 119, 101, 114]) (
   some (y2, true)) (
   br (gD == [97, 108, 112, 104, 97]) (
    ob (qA n (y1, y2)) fun y6 =>
    some (y6, true)) (
    br (gD == [100, 105, 103, 105, 116]) (
     some (y3, true)) (
     br (gD == [97, 108, 110, 117, 109]) (
      some (y5, true)) (
      br (gD == [120, 100, 105, 103, 105, 116]) (
       ob (fI n (65, 70)) fun y7 =>
       ob (fI n (97, 102)) fun y8 =>
       ob (qA n (y7, y8)) fun y9 =>
       ob (qA n (y3, y9)) fun y10 =>
       some (y10, true)) (
       br (gD == [98, 108, 97, 110, 107]) (
        ob (Dl n [9, 32]) fun y11 =>
        some (y11, true)) (
        br (gD == [115, 112, 97, 99, 101]) (
         ob (fI n (9, 13)) fun y12 =>
         ob (Dl n [32]) fun y13 =>
         ob (qA n (y12, y13)) fun y14 =>
         some (y14, true)) (
         br (gD == [99, 110, 116, 114, 108]) (
          ob (fI n (0, 31)) fun y15 =>
          ob (fI n (127, 127)) fun y16 =>
          ob (qA n (y15, y16)) fun y17 =>
          some (y17, true)) (
          br (gD == [103, 114, 97, 112, 104]) (
           ob (fI n (33, 126)) fun y18 =>
           some (y18, true)) (
           br (gD == [112, 114, 105, 110, 116]) (
            ob (fI n (32, 126)) fun y19 =>
            some (y19, true)) (
            br (gD == [112, 117, 110, 99, 116]) (
             ob (fI n (33, 126)) fun y20 =>
             fix (lM n) n (0, (List.replicate 256 false), y5, y20, ())) (
             some ((List.replicate 256 false), false)))))))))))))
end Go.Dec
