/- Part of a proof over this seat: a library of my own, and what it says of this seat. No statement is proved here. -/
import Derived.Test.YthhbdkdofhhoeaaGreatDoorPartAL
import Derived.Test.YthhbdkdofhhoeaaGreatDoorPartAQ
namespace Go.Dec
set_option linter.unusedVariables false
abbrev aC:Ty:=.pair (.int .i64) (.pair (.arr 4 (.int .u64)) (.pair (.int .i64) (.pair (.int .i64) (.pair (.int .i64) (.pair (.int .i64) (.pair (.int .i64) .unit))))))
abbrev yEo:Ty:=.pair .str (.pair (.int .i64) .unit)
abbrev zEg:Ty:=.pair (.int .i64) (.pair (.int .i64) .unit)
abbrev xM:Ty:=.pair .str (.pair (.int .i64) (.pair (.slice aC) (.pair (.int .i64) (.pair (.arr 10 .bool) .unit))))
abbrev xO:Ty:=.pair (.slice aC) (.pair (.int .i64) (.pair (.arr 10 .bool) zEg))
abbrev Ue:Ty:=.pair (.int .i64) (.pair (.int .i64) (.pair (.slice (.int .i64)) (.pair (.slice (.int .i64)) .unit)))
abbrev Bu:Ty:=.pair .str (.pair (.int .i64) (.pair (.slice aC) (.pair (.int .i64) (.pair (.slice Ue) zEg))))
abbrev bY:Ty:=.pair (.slice aC) (.pair (.int .i64) zEg)
abbrev zEh:Ty:=.pair .bool (.pair (.int .i64) (.pair (.arr 10 .bool) (.pair .bool .unit)))
abbrev NdT:Type:=Int × List (Int) × Int × Int × Int × Int × Int × Unit
def iF (n : Nat) (x : List UInt8 × List UInt8) : Option (Bool) :=
 let s_0 : List UInt8 := x.1
 let Qh : List UInt8 := x.2
 br (decide ((s_0.length : Int) ≥ (Qh.length : Int))) (
  chk ((decide (0 <= (Qh.length : Int)) && decide ((Qh.length : Int) <= (s_0.length : Int)))) (
   let v1 : List UInt8 := s_0.take (Qh.length : Int).toNat
   some (v1 == Qh))) (
  some false)
def strings_HasPrefix (n : Nat) (x : List UInt8 × List UInt8) : Option (Bool) :=
 let s_0 : List UInt8 := x.1
 let Qh : List UInt8 := x.2
 ob (iF n (s_0, Qh)) fun y1 =>
 some y1
def zKj (n : Nat) (g0 : Int × List (Int) × List (Int) × Unit -> Option (List (Int))) (x1 : Int × List (Int) × List (Int) × Unit) : Option (List (Int)) :=
 let Uf : Int := x1.1
 let b3 : List (Int) := x1.2.1
 let b4 : List (Int) := x1.2.2.1
 br (decide (Uf < 4)) (
  chk (inB Uf 4) (
   chk (decide (Uf.toNat < 4)) (
    let v5 : Int := b3.getD (Uf.toNat) (Ty.dflt (.int .u64))
    let v6 : Int := eX .u64 .xor 18446744073709551615 v5
    chk (inB Uf 4) (
     chk (decide (Uf.toNat < 4)) (
      let v7 : Int := IntKind.wrap .i64 (Uf + 1)
      g0 (v7, b3.set (Uf.toNat) v6, b4, ())))))) (
  some b3)
def Ia (n : Nat) (x : List (Int)) : Option (List (Int)) :=
 let s_0 : List (Int) := x
 fix (zKj n) n (0, s_0, [0, 0, 0, 0], ())
def fF (n : Nat) (x : List UInt8 × List UInt8 × Int × Unit) : Option (Bool × List UInt8 × Int × Unit) :=
 let t_1 : List UInt8 := x.1
 let s2 : List UInt8 := x.2.1
 let at3 : Int := x.2.2.1
 chk ((decide (0 <= at3) && decide (at3 <= (s2.length : Int)))) (
  ob (strings_HasPrefix n (s2.drop at3.toNat, t_1)) fun y4 =>
  some (y4, s2, at3, ()))
def eD (n : Nat) (x : List UInt8 × List UInt8 × Int × Unit) : Option (Bool × List UInt8 × Int × Unit) :=
 let t_1 : List UInt8 := x.1
 let s2 : List UInt8 := x.2.1
 let at3 : Int := x.2.2.1
 ob (fF n (t_1, s2, at3, ())) fun y4 =>
 br (!y4.1) (
  some (false, y4.2.1, y4.2.2.1, ())) (
  let v5 : Int := IntKind.wrap .i64 (y4.2.2.1 + (t_1.length : Int))
  some (true, y4.2.1, v5, ()))
def bN (_n:Nat) (x:List UInt8 × Int × Unit):Option (Sum (List UInt8 × Int × Unit) (Int × Int × List UInt8 × Int × Unit)):=some (.inr (42,0,x))
def qC (n : Nat) (g0 : Int × Int × List (Int) × Unit -> Option (List (Int))) (x1 : Int × Int × List (Int) × Unit) : Option (List (Int)) :=
 let b_2 : Int := x1.1
 let i_3 : Int := x1.2.1
 let b4 : List (Int) := x1.2.2.1
 br (decide (i_3 <= (IntKind.wrap .i64 b_2))) (
  chk (decide (0 <= 6)) (
   chk (inB (pJ .i64 i_3 6) 4) (
    chk (decide ((pJ .i64 i_3 6).toNat < 4)) (
     let v5 : Int := b4.getD ((pJ .i64 i_3 6).toNat) (Ty.dflt (.int .u64))
     chk (decide (0 <= eX .i64 .and i_3 63)) (
      let v6 : Int := Sk .u64 1 (eX .i64 .and i_3 63)
      chk (inB (pJ .i64 i_3 6) 4) (
       chk (decide ((pJ .i64 i_3 6).toNat < 4)) (
        let v7 : Int := IntKind.wrap .i64 (i_3 + 1)
        g0 (b_2, v7, b4.set ((pJ .i64 i_3 6).toNat) (eX .u64 .or v5 v6), ())))))))) (
  some b4)
def dO (n : Nat) (x : Int × Int) : Option (List (Int)) :=
 let a_0 : Int := x.1
 let b_1 : Int := x.2
 fix (qC n) n (b_1, IntKind.wrap .i64 a_0, [0, 0, 0, 0], ())
def Ug (n : Nat) (g0 : List (List (Int)) × Int × Int × List (Int) × Unit -> Option (List (Int))) (g1 : List (List (Int)) × Int × Int × Int × List (Int) × List (Int) × Unit -> Option (List (Int))) (x7 : List (List (Int)) × Int × Int × Int × List (Int) × List (Int) × Unit) : Option (List (Int)) :=
 let yIt : List (List (Int)) := x7.1
 let yIu : Int := x7.2.1
 let yEp : Int := x7.2.2.1
 let vG : Int := x7.2.2.2.1
 let b12 : List (Int) := x7.2.2.2.2.1
 let b13 : List (Int) := x7.2.2.2.2.2.1
 br (decide (vG < 4)) (
  chk (inB vG 4) (
   chk (decide (vG.toNat < 4)) (
    let v14 : Int := b12.getD (vG.toNat) (Ty.dflt (.int .u64))
    chk (inB vG 4) (
     chk (decide (vG.toNat < 4)) (
      let v15 : Int := b13.getD (vG.toNat) (Ty.dflt (.int .u64))
      chk (inB vG 4) (
       chk (decide (vG.toNat < 4)) (
        let v16 : Int := IntKind.wrap .i64 (vG + 1)
        g1 (yIt, yIu, yEp, v16, b12.set (vG.toNat) (eX .u64 .or v14 v15), b13, ())))))))) (
  let v17 : Int := IntKind.wrap .i64 (yEp + 1)
  g0 (yIt, yIu, v17, b12, ()))
def Ah (n : Nat) (g0 : List (List (Int)) × Int × Int × List (Int) × Unit -> Option (List (Int))) (x1 : List (List (Int)) × Int × Int × List (Int) × Unit) : Option (List (Int)) :=
 let yCl : List (List (Int)) := x1.1
 let yIv : Int := x1.2.1
 let zWj : Int := x1.2.2.1
 let b5 : List (Int) := x1.2.2.2.1
 br (decide (zWj < yIv)) (
  chk (inB zWj yCl.length) (
   let v6 : List (Int) := aU (Ty.dflt (.arr 4 (.int .u64))) yCl zWj
   fix (Ug n g0) n (yCl, yIv, zWj, 0, b5, v6, ()))) (
  some b5)
def oD (n : Nat) (x : List (List (Int))) : Option (List (Int)) :=
 let l_0 : List (List (Int)) := x
 fix (Ah n) n (l_0, (l_0.length : Int), 0, [0, 0, 0, 0], ())
def Ai (n : Nat) (g0 : List UInt8 × Int × Int × List (Int) × Unit -> Option (List (Int))) (x1 : List UInt8 × Int × Int × List (Int) × Unit) : Option (List (Int)) :=
 let s_2 : List UInt8 := x1.1
 let yIw : Int := x1.2.1
 let zGr : Int := x1.2.2.1
 let b5 : List (Int) := x1.2.2.2.1
 br (decide (zGr < yIw)) (
  chk (inB zGr s_2.length) (
   let v6 : Int := ((aU 0 s_2 zGr).toNat : Int)
   chk (decide (0 <= 6)) (
    chk (inB (pJ .u8 v6 6) 4) (
     chk (decide ((pJ .u8 v6 6).toNat < 4)) (
      let v7 : Int := b5.getD ((pJ .u8 v6 6).toNat) (Ty.dflt (.int .u64))
      chk (inB zGr s_2.length) (
       let v8 : Int := ((aU 0 s_2 zGr).toNat : Int)
       chk (decide (0 <= eX .u8 .and v8 63)) (
        let v9 : Int := Sk .u64 1 (eX .u8 .and v8 63)
        chk (inB (pJ .u8 v6 6) 4) (
         chk (decide ((pJ .u8 v6 6).toNat < 4)) (
          let v10 : Int := IntKind.wrap .i64 (zGr + 1)
          g0 (s_2, yIw, v10, b5.set ((pJ .u8 v6 6).toNat) (eX .u64 .or v7 v9), ())))))))))) (
  some b5)
def tH (n : Nat) (x : List UInt8) : Option (List (Int)) :=
 let s_0 : List UInt8 := x
 fix (Ai n) n (s_0, (s_0.length : Int), 0, [0, 0, 0, 0], ())
def Ep (n : Nat) (x : List UInt8) : Option (List (Int) × Bool) :=
 let gX : List UInt8 := x
 ob (dO n (65, 90)) fun y1 =>
 ob (dO n (97, 122)) fun y2 =>
 ob (dO n (48, 57)) fun y3 =>
 br (gX == [117, 112, 112, 101, 114]) (
  some (y1, true)) (
  br (gX == [108, 111, 119, 101, 114]) (
   some (y2, true)) (
   br (gX == [97, 108, 112, 104, 97]) (
    ob (oD n [y1, y2]) fun y4 =>
    some (y4, true)) (
    br (gX == [100, 105, 103, 105, 116]) (
     some (y3, true)) (
     br (gX == [97, 108, 110, 117, 109]) (
      ob (oD n [y1, y2, y3]) fun y5 =>
      some (y5, true)) (
      br (gX == [120, 100, 105, 103, 105, 116]) (
       ob (dO n (65, 70)) fun y6 =>
       ob (dO n (97, 102)) fun y7 =>
       ob (oD n [y3, y6, y7]) fun y8 =>
       some (y8, true)) (
       br (gX == [98, 108, 97, 110, 107]) (
        ob (tH n [32, 9]) fun y9 =>
        some (y9, true)) (
        br (gX == [115, 112, 97, 99, 101]) (
         ob (tH n [32, 9, 10, 11, 12, 13]) fun y10 =>
         some (y10, true)) (
         br (gX == [99, 110, 116, 114, 108]) (
          ob (dO n (0, 31)) fun y11 =>
          ob (tH n [127]) fun y12 =>
          ob (oD n [y11, y12]) fun y13 =>
          some (y13, true)) (
          br (gX == [103, 114, 97, 112, 104]) (
           ob (dO n (33, 126)) fun y14 =>
           some (y14, true)) (
           br (gX == [112, 114, 105, 110, 116]) (
            ob (dO n (32, 126)) fun y15 =>
            some (y15, true)) (
            br (gX == [112, 117, 110, 99, 116]) (
             ob (dO n (33, 47)) fun y16 =>
             ob (dO n (58, 64)) fun y17 =>
             ob (dO n (91, 96)) fun y18 =>
             ob (dO n (123, 126)) fun y19 =>
             ob (oD n [y16, y17, y18, y19]) fun y20 =>
             some (y20, true)) (
             some ([0, 0, 0, 0], false)))))))))))))
def qX (n : Nat) (x21 : List UInt8 × List UInt8 × Int × Unit) : Option (Sum (Int × Bool × List UInt8 × Int × Unit) (Int × Int × List UInt8 × Int × Unit)) :=
 let yFw : List UInt8 := x21.1
 let s23 : List UInt8 := x21.2.1
 let yCm : Int := x21.2.2.1
 chk (inB yCm s23.length) (
  let v25 : Int := ((aU 0 s23 yCm).toNat : Int)
  let v26 : Int := IntKind.wrap .i64 (yCm + 3)
  some (.inl (v25, (yFw == [46]), s23, v26, ())))
def jF (n : Nat) (x41 : List UInt8 × Int × Unit) : Option (Sum (Int × Bool × List UInt8 × Int × Unit) (Int × Int × List UInt8 × Int × Unit)) :=
 let s42 : List UInt8 := x41.1
 let yNj : Int := x41.2.1
 let v44 : Int := IntKind.wrap .i64 (yNj + 1)
 let v45 : Int := IntKind.wrap .i64 (v44 - 1)
 chk (inB v45 s42.length) (
  let v46 : Int := ((aU 0 s42 v45).toNat : Int)
  some (.inl (v46, true, s42, v44, ())))
def iA (n : Nat) (x30 : Bool × Bool × List UInt8 × Int × Unit) : Option (Sum (Int × Bool × List UInt8 × Int × Unit) (Int × Int × List UInt8 × Int × Unit)) :=
 let Ja : Bool := x30.1
 let zSu : Bool := x30.2.1
 let s33 : List UInt8 := x30.2.2.1
 let yCn : Int := x30.2.2.2.1
 br (yCn == (s33.length : Int)) (
  ob2 (bN n (s33, yCn, ())) (fun y35 =>
   none) (fun y35 =>
   some (.inr (y35.1, y35.2.1, y35.2.2.1, y35.2.2.2.1, ())))) (
  ob (fF n ([91, 58], s33, yCn, ())) fun y36 =>
  br y36.1 (
   ob2 (bN n (y36.2.1, y36.2.2.1, ())) (fun y37 =>
    none) (fun y37 =>
    some (.inr (y37.1, y37.2.1, y37.2.2.1, y37.2.2.2.1, ())))) (
   ob (fF n ([93], y36.2.1, y36.2.2.1, ())) fun y38 =>
   br y38.1 (
    br (!Ja) (
     ob2 (bN n (y38.2.1, y38.2.2.1, ())) (fun y39 =>
      none) (fun y39 =>
      some (.inr (y39.1, y39.2.1, y39.2.2.1, y39.2.2.2.1, ())))) (
     br zSu (
      ob2 (bN n (y38.2.1, y38.2.2.1, ())) (fun y40 =>
       none) (fun y40 =>
       some (.inr (y40.1, y40.2.1, y40.2.2.1, y40.2.2.2.1, ())))) (
      jn (jF n) (y38.2.1, y38.2.2.1, ())))) (
    br zSu (
     ob2 (bN n (y38.2.1, y38.2.2.1, ())) (fun y47 =>
      none) (fun y47 =>
      some (.inr (y47.1, y47.2.1, y47.2.2.1, y47.2.2.2.1, ())))) (
     jn (jF n) (y38.2.1, y38.2.2.1, ())))))
def lQ (n : Nat) (g0 : Bool × Bool × Int × Int × List UInt8 × Int × List (List UInt8) × Unit -> Option (Sum (Int × Bool × List UInt8 × Int × Unit) (Int × Int × List UInt8 × Int × Unit))) (x6 : Bool × Bool × Int × Int × List UInt8 × Int × List (List UInt8) × Unit) : Option (Sum (Int × Bool × List UInt8 × Int × Unit) (Int × Int × List UInt8 × Int × Unit)) :=
 let Ib : Bool := x6.1
 let zYy : Bool := x6.2.1
 let yEq : Int := x6.2.2.1
 let Uh : Int := x6.2.2.2.1
 let s11 : List UInt8 := x6.2.2.2.2.1
 let zOk : Int := x6.2.2.2.2.2.1
 let Lb : List (List UInt8) := x6.2.2.2.2.2.2.1
 br (decide (Uh < yEq)) (
  chk ((inB Uh (Lb.length) && decide (0 + (Lb.length) <= Lb.length))) (
   chk (decide (0 + Uh.toNat < Lb.length)) (
    let v14 : List UInt8 := Lb.getD (0 + Uh.toNat) (Ty.dflt .str)
    chk (decide ([91].length + v14.length <= aP)) (
     ob (eD n ([91] ++ v14, s11, zOk, ())) fun y15 =>
     br (!y15.1) (
      let v16 : Int := IntKind.wrap .i64 (Uh + 1)
      g0 (Ib, zYy, yEq, v16, y15.2.1, y15.2.2.1, Lb, ())) (
      br ((y15.2.1.length : Int) == y15.2.2.1) (
       ob2 (bN n (y15.2.1, y15.2.2.1, ())) (fun y17 =>
        none) (fun y17 =>
        some (.inr (y17.1, y17.2.1, y17.2.2.1, y17.2.2.2.1, ())))) (
       let v18 : Int := IntKind.wrap .i64 (y15.2.2.1 + 1)
       chk ((decide (0 <= v18) && decide (v18 <= (y15.2.1.length : Int)))) (
        chk (decide (v14.length + ([93] : List UInt8).length <= aP)) (
         ob (strings_HasPrefix n (y15.2.1.drop v18.toNat, v14 ++ [93])) fun y19 =>
         br (!y19) (
          ob2 (bN n (y15.2.1, y15.2.2.1, ())) (fun y20 =>
           none) (fun y20 =>
           some (.inr (y20.1, y20.2.1, y20.2.2.1, y20.2.2.2.1, ())))) (
          jn (qX n) (v14, y15.2.1, y15.2.2.1, ())))))))))) (
  ob (eD n ([92, 110], s11, zOk, ())) fun y27 =>
  br y27.1 (
   some (.inl (10, true, y27.2.1, y27.2.2.1, ()))) (
   ob (fF n ([45], y27.2.1, y27.2.2.1, ())) fun y28 =>
   br y28.1 (
    br (!Ib) (
     br (!zYy) (
      ob (fF n ([45, 93], y28.2.1, y28.2.2.1, ())) fun y29 =>
      jn (iA n) (Ib, (!y29.1), y29.2.1, y29.2.2.1, ())) (
      jn (iA n) (Ib, false, y28.2.1, y28.2.2.1, ()))) (
     jn (iA n) (Ib, false, y28.2.1, y28.2.2.1, ()))) (
    jn (iA n) (Ib, false, y28.2.1, y28.2.2.1, ()))))
def lH (n : Nat) (x : Bool × Bool × List UInt8 × Int × Unit) : Option (Sum (Int × Bool × List UInt8 × Int × Unit) (Int × Int × List UInt8 × Int × Unit)) :=
 let zGs : Bool := x.1
 let yIx : Bool := x.2.1
 let s3 : List UInt8 := x.2.2.1
 let at4 : Int := x.2.2.2.1
 let v5 : Int := (([[46], [61]].length : Nat) : Int)
 fix (lQ n) n (zGs, yIx, v5, 0, s3, at4, [[46], [61]], ())
def mW (n : Nat) (x : Bool × List UInt8 × Int × Unit) : Option (Sum (List (Int) × List UInt8 × Int × Unit) (Int × Int × List UInt8 × Int × Unit)) :=
 let zGs : Bool := x.1
 let s2 : List UInt8 := x.2.1
 let at3 : Int := x.2.2.1
 ob (eD n ([91, 58], s2, at3, ())) fun y4 =>
 br y4.1 (
  chk ((decide (0 <= y4.2.2.1) && decide (y4.2.2.1 <= (y4.2.1.length : Int)))) (
   let v5 : List UInt8 := y4.2.1.drop y4.2.2.1.toNat
   ob (strings_Cut n (v5, [58, 93])) fun y6 =>
   let v7 : Int := IntKind.wrap .i64 (y4.2.2.1 + (y6.1.length : Int))
   ob (Ep n y6.1) fun y8 =>
   br (!y8.2) (
    ob2 (bN n (y4.2.1, v7, ())) (fun y9 =>
     none) (fun y9 =>
     some (.inr (y9.1, y9.2.1, y9.2.2.1, y9.2.2.2.1, ())))) (
    ob (eD n ([58, 93], y4.2.1, v7, ())) fun y10 =>
    br (!y10.1) (
     ob2 (bN n (y10.2.1, y10.2.2.1, ())) (fun y11 =>
      none) (fun y11 =>
      some (.inr (y11.1, y11.2.1, y11.2.2.1, y11.2.2.2.1, ())))) (
     some (.inl (y8.1, y10.2.1, y10.2.2.1, ())))))) (
  ob2 (lH n (zGs, false, y4.2.1, y4.2.2.1, ())) (fun y12 =>
   ob (fF n ([45], y12.2.2.1, y12.2.2.2.1, ())) fun y13 =>
   br (!y13.1) (
    ob (dO n (y12.1, y12.1)) fun y14 =>
    some (.inl (y14, y13.2.1, y13.2.2.1, ()))) (
    ob (fF n ([45, 93], y13.2.1, y13.2.2.1, ())) fun y15 =>
    br y15.1 (
     ob (dO n (y12.1, y12.1)) fun y16 =>
     some (.inl (y16, y15.2.1, y15.2.2.1, ()))) (
     let v17 : Int := IntKind.wrap .i64 (y15.2.2.1 + 1)
     br (v17 == (y15.2.1.length : Int)) (
      ob (dO n (y12.1, y12.1)) fun y18 =>
      some (.inl (y18, y15.2.1, y15.2.2.1, ()))) (
      let v19 : Int := IntKind.wrap .i64 (y15.2.2.1 + 1)
      ob2 (lH n (false, true, y15.2.1, v19, ())) (fun y20 =>
       br (!y12.2.1) (
        ob2 (bN n (y20.2.2.1, y20.2.2.2.1, ())) (fun y21 =>
         none) (fun y21 =>
         some (.inr (y21.1, y21.2.1, y21.2.2.1, y21.2.2.2.1, ())))) (
        br (!y20.2.1) (
         ob2 (bN n (y20.2.2.1, y20.2.2.2.1, ())) (fun y22 =>
          none) (fun y22 =>
          some (.inr (y22.1, y22.2.1, y22.2.2.1, y22.2.2.2.1, ())))) (
         br (decide (y20.1 < y12.1)) (
          ob2 (bN n (y20.2.2.1, y20.2.2.2.1, ())) (fun y23 =>
           none) (fun y23 =>
           some (.inr (y23.1, y23.2.1, y23.2.2.1, y23.2.2.2.1, ())))) (
          ob (dO n (y12.1, y20.1)) fun y24 =>
          some (.inl (y24, y20.2.2.1, y20.2.2.2.1, ())))))) (fun y20 =>
       some (.inr (y20.1, y20.2.1, y20.2.2.1, y20.2.2.2.1, ()))))))) (fun y12 =>
   some (.inr (y12.1, y12.2.1, y12.2.2.1, y12.2.2.2.1, ()))))
def kX (n : Nat) (g0 : Bool × Bool × List (Int) × List UInt8 × Int × Unit -> Option (Sum (List (Int) × List UInt8 × Int × Unit) (Int × Int × List (Int) × List UInt8 × Int × Unit))) (x7 : Bool × Bool × List (Int) × List UInt8 × Int × Unit) : Option (Sum (List (Int) × List UInt8 × Int × Unit) (Int × Int × List (Int) × List UInt8 × Int × Unit)) :=
 let zWk : Bool := x7.1
 let zGt : Bool := x7.2.1
 let b10 : List (Int) := x7.2.2.1
 let s11 : List UInt8 := x7.2.2.2.1
 let zOk : Int := x7.2.2.2.2.1
 br zGt (
  ob2 (mW n (zGt, s11, zOk, ())) (fun y13 =>
   ob (oD n [b10, y13.1]) fun y14 =>
   g0 (zWk, false, y14, y13.2.1, y13.2.2.1, ())) (fun y13 =>
   some (.inr (y13.1, y13.2.1, b10, y13.2.2.1, y13.2.2.2.1, ())))) (
  ob (eD n ([93], s11, zOk, ())) fun y15 =>
  br (!y15.1) (
   ob2 (mW n (zGt, y15.2.1, y15.2.2.1, ())) (fun y16 =>
    ob (oD n [b10, y16.1]) fun y17 =>
    g0 (zWk, false, y17, y16.2.1, y16.2.2.1, ())) (fun y16 =>
    some (.inr (y16.1, y16.2.1, b10, y16.2.2.1, y16.2.2.2.1, ())))) (
   br zWk (
    ob (Ia n b10) fun y18 =>
    br (Ty.beq (.arr 4 (.int .u64)) y18 ([0, 0, 0, 0])) (
     ob2 (bN n (y15.2.1, y15.2.2.1, ())) (fun y19 =>
      none) (fun y19 =>
      some (.inr (y19.1, y19.2.1, y18, y19.2.2.1, y19.2.2.2.1, ())))) (
     some (.inl (y18, y15.2.1, y15.2.2.1, ())))) (
    br (Ty.beq (.arr 4 (.int .u64)) b10 ([0, 0, 0, 0])) (
     ob2 (bN n (y15.2.1, y15.2.2.1, ())) (fun y20 =>
      none) (fun y20 =>
      some (.inr (y20.1, y20.2.1, b10, y20.2.2.1, y20.2.2.2.1, ())))) (
     some (.inl (b10, y15.2.1, y15.2.2.1, ()))))))
def kP (n : Nat) (x : List (Int) × List UInt8 × Int × Unit) : Option (Sum (List (Int) × List UInt8 × Int × Unit) (Int × Int × List (Int) × List UInt8 × Int × Unit)) :=
 let b1 : List (Int) := x.1
 let s2 : List UInt8 := x.2.1
 let at3 : Int := x.2.2.1
 ob (eD n ([91], s2, at3, ())) fun y4 =>
 br (!y4.1) (
  ob2 (bN n (y4.2.1, y4.2.2.1, ())) (fun y5 =>
   none) (fun y5 =>
   some (.inr (y5.1, y5.2.1, b1, y5.2.2.1, y5.2.2.2.1, ())))) (
  ob (eD n ([94], y4.2.1, y4.2.2.1, ())) fun y6 =>
  fix (kX n) n (y6.1, true, b1, y6.2.1, y6.2.2.1, ()))
def gF (n:Nat) (x:List (Int) × List UInt8 × Int × Unit):Option (Int × Int × List (Int) × List UInt8 × Int × Unit):=ob2 (kP n x) (fun y=>some (0,0,y)) (fun y=>some y)
def qY (n : Nat) (x : List UInt8) : Option (List (Int) × Int × Int) :=
 let s_0 : List UInt8 := x
 ob (gF n ([0, 0, 0, 0], s_0, 0, ())) fun y1 =>
 br (y1.1 != 0) (
  some ([0, 0, 0, 0], 0, y1.1)) (
  some (y1.2.2.1, y1.2.2.2.2.1, 0))
def iM (n : Nat) (x : Int × List (Int) × Int × Int × Int × Int × Int × Unit) : Option (Int) :=
 let n_0 : Int × List (Int) × Int × Int × Int × Int × Int × Unit := x
 br (n_0.1 == 4) (
  br (n_0.1 == 4) (
   some 2) (
   br (n_0.1 == 6) (
    br (n_0.1 == 6) (
     some 1) (
     some 0)) (
    br (n_0.1 == 7) (
     some 1) (
     some 0)))) (
  br (n_0.1 == 5) (
   some 2) (
   br (n_0.1 == 6) (
    br (n_0.1 == 6) (
     some 1) (
     some 0)) (
    br (n_0.1 == 7) (
     some 1) (
     some 0))))
def cB (n : Nat) (x : Int × List (Int) × Int × Int × Int × Int × Int × Unit) : Option (NdT) :=
 let n_0 : Int × List (Int) × Int × Int × Int × Int × Int × Unit := x
 br (n_0.1 == 1) (
  some (n_0.1, (n_0.2.1, (0, (0, (0, (0, (0, ())))))))) (
  br (n_0.1 == 4) (
   br (n_0.1 == 4) (
    some (n_0.1, ([0, 0, 0, 0], (n_0.2.2.1, (n_0.2.2.2.1, (0, (0, (0, ())))))))) (
    br (n_0.1 == 6) (
     some (n_0.1, ([0, 0, 0, 0], (n_0.2.2.1, (0, (n_0.2.2.2.2.1, (n_0.2.2.2.2.2.1, (0, ())))))))) (
     br (n_0.1 == 7) (
      some (n_0.1, ([0, 0, 0, 0], (n_0.2.2.1, (0, (0, (0, n_0.2.2.2.2.2.2))))))) (
      br (n_0.1 == 8) (
       some (n_0.1, ([0, 0, 0, 0], (0, (0, (0, (0, n_0.2.2.2.2.2.2))))))) (
       some (n_0.1, ([0, 0, 0, 0], (0, (0, (0, (0, (0, ())))))))))))) (
   br (n_0.1 == 5) (
    some (n_0.1, ([0, 0, 0, 0], (n_0.2.2.1, (n_0.2.2.2.1, (0, (0, (0, ())))))))) (
    br (n_0.1 == 6) (
     some (n_0.1, ([0, 0, 0, 0], (n_0.2.2.1, (0, (n_0.2.2.2.2.1, (n_0.2.2.2.2.2.1, (0, ())))))))) (
     br (n_0.1 == 7) (
      some (n_0.1, ([0, 0, 0, 0], (n_0.2.2.1, (0, (0, (0, n_0.2.2.2.2.2.2))))))) (
      br (n_0.1 == 8) (
       some (n_0.1, ([0, 0, 0, 0], (0, (0, (0, (0, n_0.2.2.2.2.2.2))))))) (
       some (n_0.1, ([0, 0, 0, 0], (0, (0, (0, (0, (0, ())))))))))))))
def qZ (n : Nat) (x : Int × List (Int) × Int × Int × Int × Int × Int × Unit) : Option (Bool) :=
 let n_0 : Int × List (Int) × Int × Int × Int × Int × Int × Unit := x
 br (decide (n_0.1 < 0)) (
  some false) (
  br (decide (n_0.1 > 8)) (
   some false) (
   ob (cB n n_0) fun y1 =>
   br (!(Ty.beq aC n_0 y1)) (
    some false) (
    br (n_0.1 == 1) (
     some (!(Ty.beq (.arr 4 (.int .u64)) n_0.2.1 ([0, 0, 0, 0])))) (
     br (n_0.1 == 6) (
      br (decide (n_0.2.2.2.2.1 ≥ 0)) (
       br (decide (n_0.2.2.2.2.1 <= 255)) (
        br (n_0.2.2.2.2.2.1 == (-1)) (
         some true) (
         let v2 : Int := if 1 > n_0.2.2.2.2.1 then 1 else n_0.2.2.2.2.1
         br (decide (n_0.2.2.2.2.2.1 ≥ v2)) (
          some (decide (n_0.2.2.2.2.2.1 <= 255))) (
          some false))) (
        some false)) (
       some false)) (
      br (n_0.1 == 7) (
       br (n_0.1 == 7) (
        br (decide (n_0.2.2.2.2.2.2.1 ≥ 1)) (
         some (decide (n_0.2.2.2.2.2.2.1 <= 9))) (
         some false)) (
        some true)) (
       br (n_0.1 == 8) (
        br (decide (n_0.2.2.2.2.2.2.1 ≥ 1)) (
         some (decide (n_0.2.2.2.2.2.2.1 <= 9))) (
         some false)) (
        some true)))))))
def Me (n : Nat) (g0 : List (Int) × Int × Int × Int × Unit -> Option (Int)) (x1 : List (Int) × Int × Int × Int × Unit) : Option (Int) :=
 let s_2 : List (Int) := x1.1
 let v_3 : Int := x1.2.1
 let pO : Int := x1.2.2.1
 let zOl : Int := x1.2.2.2.1
 br (decide (zOl < pO)) (
  chk (inB zOl s_2.length) (
   let v6 : Int := aU (Ty.dflt (.int .i64)) s_2 zOl
   br (v_3 == v6) (
    some zOl) (
    let v7 : Int := IntKind.wrap .i64 (zOl + 1)
    g0 (s_2, v_3, pO, v7, ())))) (
  some (-1))
def yO (n : Nat) (x : List (Int) × Int) : Option (Int) :=
 let s_0 : List (Int) := x.1
 let v_1 : Int := x.2
 fix (Me n) n (s_0, v_1, (s_0.length : Int), 0, ())
def oO (n : Nat) (x : List (Int) × Int) : Option (Bool) :=
 let s_0 : List (Int) := x.1
 let v_1 : Int := x.2
 ob (yO n (s_0, v_1)) fun y1 =>
 some (decide (y1 ≥ 0))
def kM (n : Nat) (x : List (NdT) × Int × List (Int) × Int × Int × Int × Int × Int × Unit) : Option (Bool) :=
 let l_0 : List (NdT) := x.1
 let n_1 : Int × List (Int) × Int × Int × Int × Int × Int × Unit := x.2
 br (n_1.1 == 4) (
  chk (inB n_1.2.2.1 l_0.length) (
   let v1 : Int × List (Int) × Int × Int × Int × Int × Int × Unit := aU (Ty.dflt aC) l_0 n_1.2.2.1
   br (v1.1 != 4) (
    chk (inB n_1.2.2.1 l_0.length) (
     let v2 : Int × List (Int) × Int × Int × Int × Int × Int × Unit := aU (Ty.dflt aC) l_0 n_1.2.2.1
     br (v2.1 != 5) (
      chk (inB n_1.2.2.2.1 l_0.length) (
       let v3 : Int × List (Int) × Int × Int × Int × Int × Int × Unit := aU (Ty.dflt aC) l_0 n_1.2.2.2.1
       some (v3.1 != 5))) (
      some false))) (
    some false))) (
  br (n_1.1 == 5) (
   chk (inB n_1.2.2.1 l_0.length) (
    let v4 : Int × List (Int) × Int × Int × Int × Int × Int × Unit := aU (Ty.dflt aC) l_0 n_1.2.2.1
    some (v4.1 != 5))) (
   br (n_1.1 == 6) (
    chk (inB n_1.2.2.1 l_0.length) (
     let v5 : Int × List (Int) × Int × Int × Int × Int × Int × Unit := aU (Ty.dflt aC) l_0 n_1.2.2.1
     ob (oO n ([1, 7, 8], v5.1)) fun y6 =>
     some y6)) (
    some true)))
def gV (n : Nat) (g0 : List (NdT) × List (NdT) × Int × Int × List (Int) × Unit -> Option (Bool)) (x1 : List (NdT) × List (NdT) × Int × Int × List (Int) × Unit) : Option (Bool) :=
 let l_2 : List (NdT) := x1.1
 let Ui : List (NdT) := x1.2.1
 let zAx : Int := x1.2.2.1
 let lS : Int := x1.2.2.2.1
 let aZ : List (Int) := x1.2.2.2.2.1
 br (decide (lS < zAx)) (
  chk (inB lS Ui.length) (
   let v7 : Int × List (Int) × Int × Int × Int × Int × Int × Unit := aU (Ty.dflt aC) Ui lS
   let v8 : Int := ((aZ.length : Nat) : Int)
   ob (iM n v7) fun y9 =>
   let v10 : Int := IntKind.wrap .i64 (v8 - y9)
   ob (qZ n v7) fun y11 =>
   br (!y11) (
    some false) (
    br (decide (v10 < 0)) (
     some false) (
     br (v7.1 == 0) (
      br (decide ((l_2.length : Int) > 1)) (
       some false) (
       chk ((decide (0 <= v10) && decide (v10 <= (aZ.length : Int)))) (
        let v12 : Int := (((aZ.length) - (v10.toNat) : Nat) : Int)
        br (decide (v12 > 0)) (
         chk ((inB 0 ((aZ.length) - (v10.toNat)) && decide ((0 + (v10.toNat)) + ((aZ.length) - (v10.toNat)) <= aZ.length))) (
          chk (decide ((0 + (v10.toNat)) + (0 : Int).toNat < aZ.length)) (
           let v13 : Int := aZ.getD ((0 + (v10.toNat)) + (0 : Int).toNat) (Ty.dflt (.int .i64))
           br (v13 != v7.2.2.1) (
            some false) (
            let v14 : Int := (((aZ.length) - (v10.toNat) : Nat) : Int)
            br (decide (v14 > 1)) (
             chk ((inB 1 ((aZ.length) - (v10.toNat)) && decide ((0 + (v10.toNat)) + ((aZ.length) - (v10.toNat)) <= aZ.length))) (
              chk (decide ((0 + (v10.toNat)) + (1 : Int).toNat < aZ.length)) (
               let v15 : Int := aZ.getD ((0 + (v10.toNat)) + (1 : Int).toNat) (Ty.dflt (.int .i64))
               br (v15 != v7.2.2.2.1) (
                some false) (
                ob (kM n (l_2, v7)) fun y16 =>
                br (!y16) (
                 some false) (
                 chk ((decide (0 <= v10) && decide (v10 <= (aZ.length : Int)))) (
                  chk ((Nat.ble (v10.toNat) aZ.length && Nat.ble (((v10.toNat) + ([lS] : List (Int)).length) * 8) room)) (
                   let r17 : List (Int) := aZ.take (v10.toNat) ++ [lS]
                   let v18 : Int := IntKind.wrap .i64 (lS + 1)
                   g0 (l_2, Ui, zAx, v18, r17, ())))))))) (
             ob (kM n (l_2, v7)) fun y19 =>
             br (!y19) (
              some false) (
              chk ((decide (0 <= v10) && decide (v10 <= (aZ.length : Int)))) (
               chk ((Nat.ble (v10.toNat) aZ.length && Nat.ble (((v10.toNat) + ([lS] : List (Int)).length) * 8) room)) (
                let r20 : List (Int) := aZ.take (v10.toNat) ++ [lS]
                let v21 : Int := IntKind.wrap .i64 (lS + 1)
                g0 (l_2, Ui, zAx, v21, r20, ()))))))))) (
         ob (kM n (l_2, v7)) fun y22 =>
         br (!y22) (
          some false) (
          chk ((decide (0 <= v10) && decide (v10 <= (aZ.length : Int)))) (
           chk ((Nat.ble (v10.toNat) aZ.length && Nat.ble (((v10.toNat) + ([lS] : List (Int)).length) * 8) room)) (
            let r23 : List (Int) := aZ.take (v10.toNat) ++ [lS]
            let v24 : Int := IntKind.wrap .i64 (lS + 1)
            g0 (l_2, Ui, zAx, v24, r23, ())))))))) (
      chk ((decide (0 <= v10) && decide (v10 <= (aZ.length : Int)))) (
       let v25 : Int := (((aZ.length) - (v10.toNat) : Nat) : Int)
       br (decide (v25 > 0)) (
        chk ((inB 0 ((aZ.length) - (v10.toNat)) && decide ((0 + (v10.toNat)) + ((aZ.length) - (v10.toNat)) <= aZ.length))) (
         chk (decide ((0 + (v10.toNat)) + (0 : Int).toNat < aZ.length)) (
          let v26 : Int := aZ.getD ((0 + (v10.toNat)) + (0 : Int).toNat) (Ty.dflt (.int .i64))
          br (v26 != v7.2.2.1) (
           some false) (
           let v27 : Int := (((aZ.length) - (v10.toNat) : Nat) : Int)
           br (decide (v27 > 1)) (
            chk ((inB 1 ((aZ.length) - (v10.toNat)) && decide ((0 + (v10.toNat)) + ((aZ.length) - (v10.toNat)) <= aZ.length))) (
             chk (decide ((0 + (v10.toNat)) + (1 : Int).toNat < aZ.length)) (
              let v28 : Int := aZ.getD ((0 + (v10.toNat)) + (1 : Int).toNat) (Ty.dflt (.int .i64))
              br (v28 != v7.2.2.2.1) (
               some false) (
               ob (kM n (l_2, v7)) fun y29 =>
               br (!y29) (
                some false) (
                chk ((decide (0 <= v10) && decide (v10 <= (aZ.length : Int)))) (
                 chk ((Nat.ble (v10.toNat) aZ.length && Nat.ble (((v10.toNat) + ([lS] : List (Int)).length) * 8) room)) (
                  let r30 : List (Int) := aZ.take (v10.toNat) ++ [lS]
                  let v31 : Int := IntKind.wrap .i64 (lS + 1)
                  g0 (l_2, Ui, zAx, v31, r30, ())))))))) (
            ob (kM n (l_2, v7)) fun y32 =>
            br (!y32) (
             some false) (
             chk ((decide (0 <= v10) && decide (v10 <= (aZ.length : Int)))) (
              chk ((Nat.ble (v10.toNat) aZ.length && Nat.ble (((v10.toNat) + ([lS] : List (Int)).length) * 8) room)) (
               let r33 : List (Int) := aZ.take (v10.toNat) ++ [lS]
               let v34 : Int := IntKind.wrap .i64 (lS + 1)
               g0 (l_2, Ui, zAx, v34, r33, ()))))))))) (
        ob (kM n (l_2, v7)) fun y35 =>
        br (!y35) (
         some false) (
         chk ((decide (0 <= v10) && decide (v10 <= (aZ.length : Int)))) (
          chk ((Nat.ble (v10.toNat) aZ.length && Nat.ble (((v10.toNat) + ([lS] : List (Int)).length) * 8) room)) (
           let r36 : List (Int) := aZ.take (v10.toNat) ++ [lS]
           let v37 : Int := IntKind.wrap .i64 (lS + 1)
           g0 (l_2, Ui, zAx, v37, r36, ()))))))))))) (
  let v38 : Int := ((aZ.length : Nat) : Int)
  some (v38 == 1))
def wC (n : Nat) (x : List (NdT)) : Option (Bool) :=
 let l_0 : List (NdT) := x
 fix (gV n) n (l_0, l_0, (l_0.length : Int), 0, [], ())
def dR (n : Nat) (dY : (Int × List (NdT) × Int × Bool × List (Bool) × Bool × Unit) -> Option (List (NdT) × Int × Bool × List (Bool) × Bool × Unit)) (x : Int × List (NdT) × Int × Bool × List (Bool) × Bool × Unit) : Option (List (NdT) × Int × Bool × List (Bool) × Bool × Unit) :=
 let i_1 : Int := x.1
 let b2 : List (NdT) := x.2.1
 let b3 : Int := x.2.2.1
 let b4 : Bool := x.2.2.2.1
 let b5 : List (Bool) := x.2.2.2.2.1
 let b6 : Bool := x.2.2.2.2.2.1
 chk (inB i_1 b2.length) (
  let v7 : Int × List (Int) × Int × Int × Int × Int × Int × Unit := aU (Ty.dflt aC) b2 i_1
  br (v7.1 == 4) (
   br (v7.1 == 4) (
    ob (dY (v7.2.2.1, b2, b3, b4, b5, b6, ())) fun y8 =>
    ob (dY (v7.2.2.2.1, y8.1, y8.2.1, y8.2.2.1, y8.2.2.2.1, y8.2.2.2.2.1, ())) fun y9 =>
    some (y9.1, y9.2.1, y9.2.2.1, y9.2.2.2.1, y9.2.2.2.2.1, ())) (
    br (v7.1 == 6) (
     ob (dY (v7.2.2.1, b2, b3, b4, b5, b6, ())) fun y10 =>
     some (y10.1, y10.2.1, y10.2.2.1, y10.2.2.2.1, y10.2.2.2.2.1, ())) (
     br (v7.1 == 7) (
      let v11 : Int := IntKind.wrap .i64 (b3 + 1)
      br b4 (
       ob (dY (v7.2.2.1, b2, v11, (v7.2.2.2.2.2.2.1 == v11), b5, b6, ())) fun y12 =>
       chk (inB v7.2.2.2.2.2.2.1 10) (
        chk (decide (v7.2.2.2.2.2.2.1.toNat < 10)) (
         some (y12.1, y12.2.1, y12.2.2.1, y12.2.2.2.1.set (v7.2.2.2.2.2.2.1.toNat) true, y12.2.2.2.2.1, ())))) (
       ob (dY (v7.2.2.1, b2, v11, false, b5, b6, ())) fun y13 =>
       chk (inB v7.2.2.2.2.2.2.1 10) (
        chk (decide (v7.2.2.2.2.2.2.1.toNat < 10)) (
         some (y13.1, y13.2.1, y13.2.2.1, y13.2.2.2.1.set (v7.2.2.2.2.2.2.1.toNat) true, y13.2.2.2.2.1, ()))))) (
      br (v7.1 == 8) (
       br b4 (
        chk (inB v7.2.2.2.2.2.2.1 10) (
         chk (decide (v7.2.2.2.2.2.2.1.toNat < 10)) (
          some (b2, b3, b5.getD (v7.2.2.2.2.2.2.1.toNat) (Ty.dflt .bool), b5, true, ())))) (
        some (b2, b3, false, b5, true, ()))) (
       some (b2, b3, b4, b5, b6, ())))))) (
   br (v7.1 == 5) (
    ob (dY (v7.2.2.1, b2, b3, b4, b5, b6, ())) fun y14 =>
    ob (dY (v7.2.2.2.1, y14.1, y14.2.1, y14.2.2.1, y14.2.2.2.1, y14.2.2.2.2.1, ())) fun y15 =>
    some (y15.1, y15.2.1, y15.2.2.1, y15.2.2.2.1, y15.2.2.2.2.1, ())) (
    br (v7.1 == 6) (
     ob (dY (v7.2.2.1, b2, b3, b4, b5, b6, ())) fun y16 =>
     some (y16.1, y16.2.1, y16.2.2.1, y16.2.2.2.1, y16.2.2.2.2.1, ())) (
     br (v7.1 == 7) (
      let v17 : Int := IntKind.wrap .i64 (b3 + 1)
      br b4 (
       ob (dY (v7.2.2.1, b2, v17, (v7.2.2.2.2.2.2.1 == v17), b5, b6, ())) fun y18 =>
       chk (inB v7.2.2.2.2.2.2.1 10) (
        chk (decide (v7.2.2.2.2.2.2.1.toNat < 10)) (
         some (y18.1, y18.2.1, y18.2.2.1, y18.2.2.2.1.set (v7.2.2.2.2.2.2.1.toNat) true, y18.2.2.2.2.1, ())))) (
       ob (dY (v7.2.2.1, b2, v17, false, b5, b6, ())) fun y19 =>
       chk (inB v7.2.2.2.2.2.2.1 10) (
        chk (decide (v7.2.2.2.2.2.2.1.toNat < 10)) (
         some (y19.1, y19.2.1, y19.2.2.1, y19.2.2.2.1.set (v7.2.2.2.2.2.2.1.toNat) true, y19.2.2.2.2.1, ()))))) (
      br (v7.1 == 8) (
       br b4 (
        chk (inB v7.2.2.2.2.2.2.1 10) (
         chk (decide (v7.2.2.2.2.2.2.1.toNat < 10)) (
          some (b2, b3, b5.getD (v7.2.2.2.2.2.2.1.toNat) (Ty.dflt .bool), b5, true, ())))) (
        some (b2, b3, false, b5, true, ()))) (
       some (b2, b3, b4, b5, b6, ())))))))
def mX (n : Nat) : (Int × List (NdT) × Int × Bool × List (Bool) × Bool × Unit) -> Option (List (NdT) × Int × Bool × List (Bool) × Bool × Unit) :=
 zNx (fun n r x => dR n r x) n
def Du (n : Nat) (x : List (NdT)) : Option (Int × Bool × Bool) :=
 let l_0 : List (NdT) := x
 let v1 : Int := IntKind.wrap .i64 ((l_0.length : Int) - 1)
 ob (mX n (v1, l_0, 0, true, [false, false, false, false, false, false, false, false, false, false], false, ())) fun y2 =>
 some (y2.2.1, y2.2.2.2.2.1, y2.2.2.1)
def zK (n : Nat) (x : List (NdT)) : Option (Int × Bool × Bool) :=
 let l_0 : List (NdT) := x
 br ((l_0.length : Int) == 0) (
  some (0, false, false)) (
  br (decide ((l_0.length : Int) > 120)) (
   some (0, false, false)) (
   ob (wC n l_0) fun y1 =>
   br (!y1) (
    some (0, false, false)) (
    ob (Du n l_0) fun y2 =>
    br (!y2.2.2) (
     some (0, false, false)) (
     some (y2.1, y2.2.1, true)))))
def tJ (n : Nat) (x : List (NdT)) : Option (Bool) :=
 let l_0 : List (NdT) := x
 ob (zK n l_0) fun y1 =>
 some y1.2.2
def zAy (n : Nat) (x : Int) : Option (List UInt8) :=
 let b_0 : Int := x
 br (b_0 == 10) (
  some [92, 110]) (
  ob (strings_IndexByte n ([46, 91, 92, 42, 94, 36], b_0)) fun y1 =>
  br (decide (y1 ≥ 0)) (
   chk (decide ([92].length + (nY [b_0]).length <= aP)) (
    some ([92] ++ (nY [b_0])))) (
   some (nY [b_0])))
def Ic (n : Nat) (x : List (Int) × Int) : Option (Bool) :=
 let s_0 : List (Int) := x.1
 let b_1 : Int := x.2
 chk (decide (0 <= 6)) (
  chk (inB (pJ .u8 b_1 6) 4) (
   chk (decide ((pJ .u8 b_1 6).toNat < 4)) (
    let v1 : Int := s_0.getD ((pJ .u8 b_1 6).toNat) (Ty.dflt (.int .u64))
    chk (decide (0 <= eX .u8 .and b_1 63)) (
     let v2 : Int := pJ .u64 v1 (eX .u8 .and b_1 63)
     some ((eX .u64 .and v2 1) == 1)))))
def zGu (n : Nat) (g0 : List UInt8 × Int × Int × List (List UInt8) × Unit -> Option (List (List UInt8))) (x1 : List UInt8 × Int × Int × List (List UInt8) × Unit) : Option (List (List UInt8)) :=
 let s_2 : List UInt8 := x1.1
 let zWl : Int := x1.2.1
 let pO : Int := x1.2.2.1
 let wX : List (List UInt8) := x1.2.2.2.1
 br (decide (pO < zWl)) (
  let v6 : Int := ((wX.length : Nat) : Int)
  let v7 : Int := IntKind.wrap .i64 (v6 - 1)
  br (decide (v7 ≥ 0)) (
   chk (inB pO s_2.length) (
    let v8 : Int := ((aU 0 s_2 pO).toNat : Int)
    let v9 : Int := IntKind.wrap .i64 (pO - 1)
    chk (inB v9 s_2.length) (
     let v10 : Int := ((aU 0 s_2 v9).toNat : Int)
     let v11 : Int := IntKind.wrap .u8 (v10 + 1)
     br (v8 == v11) (
      chk ((inB v7 (wX.length) && decide (0 + (wX.length) <= wX.length))) (
       chk (decide (0 + v7.toNat < wX.length)) (
        let v12 : List UInt8 := wX.getD (0 + v7.toNat) (Ty.dflt .str)
        let v13 : Int := IntKind.wrap .i64 (pO + 1)
        chk ((decide (0 <= v13) && decide (v13 <= (s_2.length : Int)) && (decide (0 <= pO) && decide (pO <= v13)))) (
         let v14 : List UInt8 := (s_2.take v13.toNat).drop pO.toNat
         chk (decide (v12.length + v14.length <= aP)) (
          chk ((inB v7 (wX.length) && decide (0 + (wX.length) <= wX.length))) (
           chk (decide (0 + v7.toNat < wX.length)) (
            let r15 : List (List UInt8) := wX.set (0 + v7.toNat) (v12 ++ v14)
            let v16 : Int := IntKind.wrap .i64 (pO + 1)
            g0 (s_2, zWl, v16, r15, ())))))))) (
      let v17 : Int := IntKind.wrap .i64 (pO + 1)
      chk ((decide (0 <= v17) && decide (v17 <= (s_2.length : Int)) && (decide (0 <= pO) && decide (pO <= v17)))) (
       let v18 : List UInt8 := (s_2.take v17.toNat).drop pO.toNat
       chk (Nat.ble ((wX.length + ([v18] : List (List UInt8)).length) * 16) room) (
        let v19 : Int := IntKind.wrap .i64 (pO + 1)
        g0 (s_2, zWl, v19, wX ++ [v18], ()))))))) (
   let v20 : Int := IntKind.wrap .i64 (pO + 1)
   chk ((decide (0 <= v20) && decide (v20 <= (s_2.length : Int)) && (decide (0 <= pO) && decide (pO <= v20)))) (
    let v21 : List UInt8 := (s_2.take v20.toNat).drop pO.toNat
    chk (Nat.ble ((wX.length + ([v21] : List (List UInt8)).length) * 16) room) (
     let v22 : Int := IntKind.wrap .i64 (pO + 1)
     g0 (s_2, zWl, v22, wX ++ [v21], ()))))) (
  some wX)
def zAz (n : Nat) (x : List UInt8) : Option (List (List UInt8)) :=
 let s_0 : List UInt8 := x
 fix (zGu n) n (s_0, (s_0.length : Int), 0, [], ())
def zGv (n : Nat) (g2 : List UInt8 × Int × Int × List (Int) × List (List UInt8) × Unit -> Option (List UInt8)) (x35 : List UInt8 × Int × Int × List (Int) × List (List UInt8) × Unit) : Option (List UInt8) :=
 let Mf : List UInt8 := x35.1
 let Nu : Int := x35.2.1
 let Aj : Int := x35.2.2.1
 let b39 : List (Int) := x35.2.2.2.1
 let Dv : List (List UInt8) := x35.2.2.2.2.1
 br (decide (Aj < Nu)) (
  chk ((inB Aj (Dv.length) && decide (0 + (Dv.length) <= Dv.length))) (
   chk (decide (0 + Aj.toNat < Dv.length)) (
    let v41 : List UInt8 := Dv.getD (0 + Aj.toNat) (Ty.dflt .str)
    chk (inB 0 v41.length) (
     let v42 : Int := ((aU 0 v41 0).toNat : Int)
     ob (Ic n (b39, v42)) fun y43 =>
     br y43 (
      br (v41 == [10]) (
       chk (decide (Mf.length + ([92, 110] : List UInt8).length <= aP)) (
        let v44 : Int := IntKind.wrap .i64 (Aj + 1)
        g2 (Mf ++ [92, 110], Nu, v44, b39, Dv, ()))) (
       chk (inB 0 v41.length) (
        let v45 : Int := ((aU 0 v41 0).toNat : Int)
        ob (Ic n (b39, v45)) fun y46 =>
        br y46 (
         chk (decide (Mf.length + v41.length <= aP)) (
          let v47 : Int := IntKind.wrap .i64 (Aj + 1)
          g2 (Mf ++ v41, Nu, v47, b39, Dv, ()))) (
         let v48 : Int := IntKind.wrap .i64 (Aj + 1)
         g2 (Mf, Nu, v48, b39, Dv, ()))))) (
      chk (inB 0 v41.length) (
       let v49 : Int := ((aU 0 v41 0).toNat : Int)
       ob (Ic n (b39, v49)) fun y50 =>
       br y50 (
        chk (decide (Mf.length + v41.length <= aP)) (
         let v51 : Int := IntKind.wrap .i64 (Aj + 1)
         g2 (Mf ++ v41, Nu, v51, b39, Dv, ()))) (
        let v52 : Int := IntKind.wrap .i64 (Aj + 1)
        g2 (Mf, Nu, v52, b39, Dv, ())))))))) (
  chk (decide (Mf.length + ([93] : List UInt8).length <= aP)) (
   some (Mf ++ [93])))
def zGw (n : Nat) (g1 : List UInt8 × List (List UInt8) × Int × Int × List (Int) × Unit -> Option (List UInt8)) (x22 : List UInt8 × List (List UInt8) × Int × Int × List (Int) × Unit) : Option (List UInt8) :=
 let zOm : List UInt8 := x22.1
 let zEi : List (List UInt8) := x22.2.1
 let zOn : Int := x22.2.2.1
 let Uj : Int := x22.2.2.2.1
 let b27 : List (Int) := x22.2.2.2.2.1
 br (decide (Uj < zOn)) (
  chk (inB Uj zEi.length) (
   let v28 : List UInt8 := aU (Ty.dflt .str) zEi Uj
   br (decide ((v28.length : Int) > 2)) (
    chk ((decide (0 <= (1 : Int)) && decide ((1 : Int) <= (v28.length : Int)))) (
     chk (decide ((v28.take (1 : Int).toNat).length + ([45] : List UInt8).length <= aP)) (
      let v29 : List UInt8 := (v28.take (1 : Int).toNat) ++ [45]
      let v30 : Int := IntKind.wrap .i64 ((v28.length : Int) - 1)
      chk ((decide (0 <= v30) && decide (v30 <= (v28.length : Int)))) (
       chk (decide (v29.length + (v28.drop v30.toNat).length <= aP)) (
        let v31 : List UInt8 := v29 ++ (v28.drop v30.toNat)
        chk (decide (zOm.length + v31.length <= aP)) (
         let v32 : Int := IntKind.wrap .i64 (Uj + 1)
         g1 (zOm ++ v31, zEi, zOn, v32, b27, ()))))))) (
    chk (decide (zOm.length + v28.length <= aP)) (
     let v33 : Int := IntKind.wrap .i64 (Uj + 1)
     g1 (zOm ++ v28, zEi, zOn, v33, b27, ()))))) (
  let v34 : Int := (([[10], [91], [92], [94], [45]].length : Nat) : Int)
  fix (zGv n) n (zOm, v34, 0, b27, [[10], [91], [92], [94], [45]], ()))
def zGx (n : Nat) (g0 : List UInt8 × List (Int) × Int × Int × List (Int) × List (Int) × Unit -> Option (List UInt8)) (x10 : List UInt8 × List (Int) × Int × Int × List (Int) × List (Int) × Unit) : Option (List UInt8) :=
 let yCo : List UInt8 := x10.1
 let zEj : List (Int) := x10.2.1
 let zOo : Int := x10.2.2.1
 let Uk : Int := x10.2.2.2.1
 let b15 : List (Int) := x10.2.2.2.2.1
 let Lc : List (Int) := x10.2.2.2.2.2.1
 br (decide (Uk < zOo)) (
  chk (inB Uk zEj.length) (
   let v17 : Int := aU (Ty.dflt (.int .u8)) zEj Uk
   ob (strings_IndexByte n ([93, 91, 92, 94, 45, 10], v17)) fun y18 =>
   br (decide (y18 < 0)) (
    chk (Nat.ble ((Lc.length + ([v17] : List (Int)).length) * 1) room) (
     let v19 : Int := IntKind.wrap .i64 (Uk + 1)
     g0 (yCo, zEj, zOo, v19, b15, Lc ++ [v17], ()))) (
    let v20 : Int := IntKind.wrap .i64 (Uk + 1)
    g0 (yCo, zEj, zOo, v20, b15, Lc, ())))) (
  ob (zAz n (nY Lc)) fun y21 =>
  fix (zGw n) n (yCo, y21, (y21.length : Int), 0, b15, ()))
def Nv (n : Nat) (x5 : List UInt8 × List UInt8 × List (Int) × Unit) : Option (List UInt8) :=
 let l_6 : List UInt8 := x5.1
 let b_7 : List UInt8 := x5.2.1
 let b8 : List (Int) := x5.2.2.1
 chk (Nat.ble l_6.length room) (
  let v9 : Int := ((dM l_6).length : Int)
  fix (zGx n) n (b_7, dM l_6, v9, 0, b8, [], ()))
def Qi (n : Nat) (x : List (Int)) : Option (List UInt8) :=
 let s_0 : List (Int) := x
 ob (vF n s_0) fun y1 =>
 br ((y1.length : Int) == 0) (
  some []) (
  br ((y1.length : Int) == 1) (
   chk (inB 0 y1.length) (
    let v2 : Int := ((aU 0 y1 0).toNat : Int)
    ob (zAy n v2) fun y3 =>
    some y3)) (
   br ((y1.length : Int) == 256) (
    some [46]) (
    br (y1 == [45, 94]) (
     some [91, 45, 94, 93]) (
     ob (Ic n (s_0, 93)) fun y4 =>
     br y4 (
      chk (decide ([91].length + ([93] : List UInt8).length <= aP)) (
       jn (Nv n) (y1, [91] ++ [93], s_0, ()))) (
      jn (Nv n) (y1, [91], s_0, ()))))))
def zKk (n : Nat) (g0 : List (NdT) × Int × Int × List (List UInt8) × Unit -> Option (List UInt8)) (g1 : Int × List UInt8 × List (NdT) × Int × Int × List (Int) × Int × Int × List (List UInt8) × Unit -> Option (List UInt8)) (x16 : Int × List UInt8 × List (NdT) × Int × Int × List (Int) × Int × Int × List (List UInt8) × Unit) : Option (List UInt8) :=
 let zGy : Int := x16.1
 let zOp : List UInt8 := x16.2.1
 let zYz : List (NdT) := x16.2.2.1
 let zZa : Int := x16.2.2.2.1
 let zZb : Int := x16.2.2.2.2.1
 let zOq : List (Int) := x16.2.2.2.2.2.1
 let zZc : Int := x16.2.2.2.2.2.2.1
 let zEk : Int := x16.2.2.2.2.2.2.2.1
 let Ak : List (List UInt8) := x16.2.2.2.2.2.2.2.2.1
 br (decide (zEk < zZc)) (
  chk (inB zEk zOq.length) (
   let v26 : Int := aU (Ty.dflt (.int .u8)) zOq zEk
   chk ((!decide (16 = 0))) (
    let v27 : Int := IntKind.wrap .u64 (Int.tdiv (IntKind.wrap .u64 v26) 16)
    ob (qA n (v27, 16)) fun y28 =>
    chk ((!decide (16 = 0))) (
     let v29 : Int := Int.tmod (IntKind.wrap .u64 v26) 16
     ob (qA n (v29, 16)) fun y30 =>
     chk (decide (y28.length + y30.length <= aP)) (
      chk (decide (zOp.length + (y28 ++ y30).length <= aP)) (
       let v31 : Int := IntKind.wrap .i64 (zEk + 1)
       g1 (zGy, zOp ++ (y28 ++ y30), zYz, zZa, zZb, zOq, zZc, v31, Ak, ()))))))) (
  chk (decide (zOp.length + ([93] : List UInt8).length <= aP)) (
   chk ((decide (0 <= zGy) && decide (zGy <= (Ak.length : Int)))) (
    chk ((Nat.ble (zGy.toNat) Ak.length && Nat.ble (((zGy.toNat) + ([zOp ++ [93]] : List (List UInt8)).length) * 16) room)) (
     let r32 : List (List UInt8) := Ak.take (zGy.toNat) ++ [zOp ++ [93]]
     let v33 : Int := IntKind.wrap .i64 (zZb + 1)
     g0 (zYz, zZa, v33, r32, ())))))
def zKl (n : Nat) (g0 : List (NdT) × Int × Int × List (List UInt8) × Unit -> Option (List UInt8)) (x2 : List (NdT) × Int × Int × List (List UInt8) × Unit) : Option (List UInt8) :=
 let yG : List (NdT) := x2.1
 let Al : Int := x2.2.1
 let wD : Int := x2.2.2.1
 let aZ : List (List UInt8) := x2.2.2.2.1
 br (decide (wD < Al)) (
  chk (inB wD yG.length) (
   let v7 : Int × List (Int) × Int × Int × Int × Int × Int × Unit := aU (Ty.dflt aC) yG wD
   let v8 : Int := ((aZ.length : Nat) : Int)
   ob (iM n v7) fun y9 =>
   let v10 : Int := IntKind.wrap .i64 (v8 - y9)
   chk ((decide (0 <= v10) && decide (v10 <= (aZ.length : Int)))) (
    chk ((Nat.ble ((0 + (v10.toNat)) + ((aZ.length) - (v10.toNat))) aZ.length && true)) (
     ob (strings_Join n ((aZ.drop (0 + (v10.toNat))).take ((aZ.length) - (v10.toNat)), [])) fun y11 =>
     br (v7.1 == 0) (
      chk ((decide (0 <= v10) && decide (v10 <= (aZ.length : Int)))) (
       chk ((Nat.ble (v10.toNat) aZ.length && Nat.ble (((v10.toNat) + ([[101]] : List (List UInt8)).length) * 16) room)) (
        let r12 : List (List UInt8) := aZ.take (v10.toNat) ++ [[101]]
        let v13 : Int := IntKind.wrap .i64 (wD + 1)
        g0 (yG, Al, v13, r12, ())))) (
      br (v7.1 == 1) (
       ob (vF n v7.2.1) fun y14 =>
       chk (Nat.ble y14.length room) (
        let v15 : Int := ((dM y14).length : Int)
        fix (zKk n g0) n (v10, [91], yG, Al, wD, dM y14, v15, 0, aZ, ()))) (
       br (v7.1 == 2) (
        chk ((decide (0 <= v10) && decide (v10 <= (aZ.length : Int)))) (
         chk ((Nat.ble (v10.toNat) aZ.length && Nat.ble (((v10.toNat) + ([[94]] : List (List UInt8)).length) * 16) room)) (
          let r34 : List (List UInt8) := aZ.take (v10.toNat) ++ [[94]]
          let v35 : Int := IntKind.wrap .i64 (wD + 1)
          g0 (yG, Al, v35, r34, ())))) (
        br (v7.1 == 3) (
         chk ((decide (0 <= v10) && decide (v10 <= (aZ.length : Int)))) (
          chk ((Nat.ble (v10.toNat) aZ.length && Nat.ble (((v10.toNat) + ([[36]] : List (List UInt8)).length) * 16) room)) (
           let r36 : List (List UInt8) := aZ.take (v10.toNat) ++ [[36]]
           let v37 : Int := IntKind.wrap .i64 (wD + 1)
           g0 (yG, Al, v37, r36, ())))) (
         br (v7.1 == 4) (
          chk (decide ([38].length + y11.length <= aP)) (
           chk ((decide (0 <= v10) && decide (v10 <= (aZ.length : Int)))) (
            chk ((Nat.ble (v10.toNat) aZ.length && Nat.ble (((v10.toNat) + ([[38] ++ y11] : List (List UInt8)).length) * 16) room)) (
             let r38 : List (List UInt8) := aZ.take (v10.toNat) ++ [[38] ++ y11]
             let v39 : Int := IntKind.wrap .i64 (wD + 1)
             g0 (yG, Al, v39, r38, ()))))) (
          br (v7.1 == 5) (
           chk (decide ([124].length + y11.length <= aP)) (
            chk ((decide (0 <= v10) && decide (v10 <= (aZ.length : Int)))) (
             chk ((Nat.ble (v10.toNat) aZ.length && Nat.ble (((v10.toNat) + ([[124] ++ y11] : List (List UInt8)).length) * 16) room)) (
              let r40 : List (List UInt8) := aZ.take (v10.toNat) ++ [[124] ++ y11]
              let v41 : Int := IntKind.wrap .i64 (wD + 1)
              g0 (yG, Al, v41, r40, ()))))) (
           br (v7.1 == 6) (
            ob (strconv_Itoa n v7.2.2.2.2.1) fun y42 =>
            chk (decide ([42].length + y42.length <= aP)) (
             chk (decide (([42] ++ y42).length + ([44] : List UInt8).length <= aP)) (
              ob (strconv_Itoa n v7.2.2.2.2.2.1) fun y43 =>
              chk (decide ((([42] ++ y42) ++ [44]).length + y43.length <= aP)) (
               let v44 : List UInt8 := (([42] ++ y42) ++ [44]) ++ y43
               chk (decide (v44.length + ([59] : List UInt8).length <= aP)) (
                chk (decide ((v44 ++ [59]).length + y11.length <= aP)) (
                 chk ((decide (0 <= v10) && decide (v10 <= (aZ.length : Int)))) (
                  chk ((Nat.ble (v10.toNat) aZ.length && Nat.ble (((v10.toNat) + ([(v44 ++ [59]) ++ y11] : List (List UInt8)).length) * 16) room)) (
                   let r45 : List (List UInt8) := aZ.take (v10.toNat) ++ [(v44 ++ [59]) ++ y11]
                   let v46 : Int := IntKind.wrap .i64 (wD + 1)
                   g0 (yG, Al, v46, r45, ()))))))))) (
            br (v7.1 == 7) (
             chk (decide ([40].length + y11.length <= aP)) (
              chk (decide (([40] ++ y11).length + ([41] : List UInt8).length <= aP)) (
               chk ((decide (0 <= v10) && decide (v10 <= (aZ.length : Int)))) (
                chk ((Nat.ble (v10.toNat) aZ.length && Nat.ble (((v10.toNat) + ([([40] ++ y11) ++ [41]] : List (List UInt8)).length) * 16) room)) (
                 let r47 : List (List UInt8) := aZ.take (v10.toNat) ++ [([40] ++ y11) ++ [41]]
                 let v48 : Int := IntKind.wrap .i64 (wD + 1)
                 g0 (yG, Al, v48, r47, ())))))) (
             br (v7.1 == 8) (
              ob (strconv_Itoa n v7.2.2.2.2.2.2.1) fun y49 =>
              chk (decide ([92].length + y49.length <= aP)) (
               chk ((decide (0 <= v10) && decide (v10 <= (aZ.length : Int)))) (
                chk ((Nat.ble (v10.toNat) aZ.length && Nat.ble (((v10.toNat) + ([[92] ++ y49] : List (List UInt8)).length) * 16) room)) (
                 let r50 : List (List UInt8) := aZ.take (v10.toNat) ++ [[92] ++ y49]
                 let v51 : Int := IntKind.wrap .i64 (wD + 1)
                 g0 (yG, Al, v51, r50, ()))))) (
              chk ((decide (0 <= v10) && decide (v10 <= (aZ.length : Int)))) (
               chk ((Nat.ble (v10.toNat) aZ.length && Nat.ble (((v10.toNat) + ([[]] : List (List UInt8)).length) * 16) room)) (
                let r52 : List (List UInt8) := aZ.take (v10.toNat) ++ [[]]
                let v53 : Int := IntKind.wrap .i64 (wD + 1)
                g0 (yG, Al, v53, r52, ())))))))))))))))) (
  chk ((inB 0 (aZ.length) && decide (0 + (aZ.length) <= aZ.length))) (
   chk (decide (0 + (0 : Int).toNat < aZ.length)) (
    let v54 : List UInt8 := aZ.getD (0 + (0 : Int).toNat) (Ty.dflt .str)
    some v54)))
def Xv (n : Nat) (x : List (NdT)) : Option (List UInt8) :=
 let l_0 : List (NdT) := x
 ob (tJ n l_0) fun y1 =>
 br (!y1) (
  some []) (
  fix (zKl n) n (l_0, (l_0.length : Int), 0, [], ()))
def Ul (n : Nat) (x : List (NdT)) : Option (Int) :=
 let l_0 : List (NdT) := x
 ob (zK n l_0) fun y1 =>
 some y1.1
def uO (n : Nat) (g0 : Int × List (Bool) × List (Bool) × Unit -> Option (List (Bool))) (x1 : Int × List (Bool) × List (Bool) × Unit) : Option (List (Bool)) :=
 let i_2 : Int := x1.1
 let b3 : List (Bool) := x1.2.1
 let b4 : List (Bool) := x1.2.2.1
 br (decide (i_2 < 256)) (
  chk (inB i_2 256) (
   chk (decide (i_2.toNat < 256)) (
    chk (inB i_2 256) (
     chk (decide (i_2.toNat < 256)) (
      let v5 : Int := IntKind.wrap .i64 (i_2 + 1)
      g0 (v5, b3.set (i_2.toNat) (!(b3.getD (i_2.toNat) (Ty.dflt .bool))), b4, ())))))) (
  some b3)
def Er (n : Nat) (x : List (Bool)) : Option (List (Bool)) :=
 let a_0 : List (Bool) := x
 fix (uO n) n (0, a_0, (List.replicate 256 false), ())
def rD (n : Nat) (g0 : Int × List (Bool) × List (Int) × Unit -> Option (List UInt8)) (x1 : Int × List (Bool) × List (Int) × Unit) : Option (List UInt8) :=
 let i_2 : Int := x1.1
 let b3 : List (Bool) := x1.2.1
 let Fp : List (Int) := x1.2.2.1
 br (decide (i_2 < 256)) (
  chk (inB i_2 256) (
   chk (decide (i_2.toNat < 256)) (
    br (b3.getD (i_2.toNat) (Ty.dflt .bool)) (
     chk (Nat.ble ((Fp.length + ([IntKind.wrap .u8 i_2] : List (Int)).length) * 1) room) (
      let r5 : List (Int) := Fp ++ [IntKind.wrap .u8 i_2]
      let v6 : Int := IntKind.wrap .i64 (i_2 + 1)
      g0 (v6, b3, r5, ()))) (
     let v7 : Int := IntKind.wrap .i64 (i_2 + 1)
     g0 (v7, b3, Fp, ()))))) (
  some (nY Fp))
def xP (n : Nat) (x : List (Bool)) : Option (List UInt8) :=
 let a_0 : List (Bool) := x
 fix (rD n) n (0, a_0, [], ())
def Am (n : Nat) (x : List (Bool)) : Option (Int) :=
 let a_0 : List (Bool) := x
 ob (xP n a_0) fun y1 =>
 some (y1.length : Int)
def nA (n : Nat) (g0 : Int × Int × List (Bool) × List (Bool) × Unit -> Option (List (Bool))) (x1 : Int × Int × List (Bool) × List (Bool) × Unit) : Option (List (Bool)) :=
 let b_2 : Int := x1.1
 let i_3 : Int := x1.2.1
 let b4 : List (Bool) := x1.2.2.1
 let b5 : List (Bool) := x1.2.2.2.1
 br (decide (i_3 <= (IntKind.wrap .i64 b_2))) (
  chk (inB i_3 256) (
   chk (decide (i_3.toNat < 256)) (
    let v6 : Int := IntKind.wrap .i64 (i_3 + 1)
    g0 (b_2, v6, b4, b5.set (i_3.toNat) true, ())))) (
  some b5)
def dH (n : Nat) (x : Int × Int) : Option (List (Bool)) :=
 let a_0 : Int := x.1
 let b_1 : Int := x.2
 fix (nA n) n (b_1, IntKind.wrap .i64 a_0, (List.replicate 256 false), (List.replicate 256 false), ())
def wE (n : Nat) (g0 : Int × List (Bool) × List (Bool) × List (Bool) × Unit -> Option (List (Bool))) (x1 : Int × List (Bool) × List (Bool) × List (Bool) × Unit) : Option (List (Bool)) :=
 let i_2 : Int := x1.1
 let b3 : List (Bool) := x1.2.1
 let b4 : List (Bool) := x1.2.2.1
 let b5 : List (Bool) := x1.2.2.2.1
 br (decide (i_2 < 256)) (
  chk (inB i_2 256) (
   chk (decide (i_2.toNat < 256)) (
    br (b3.getD (i_2.toNat) (Ty.dflt .bool)) (
     chk (inB i_2 256) (
      chk (decide (i_2.toNat < 256)) (
       let v6 : Int := IntKind.wrap .i64 (i_2 + 1)
       g0 (v6, b3.set (i_2.toNat) true, b4, b5, ())))) (
     chk (inB i_2 256) (
      chk (decide (i_2.toNat < 256)) (
       chk (inB i_2 256) (
        chk (decide (i_2.toNat < 256)) (
         let v7 : Int := IntKind.wrap .i64 (i_2 + 1)
         g0 (v7, b3.set (i_2.toNat) (b4.getD (i_2.toNat) (Ty.dflt .bool)), b4, b5, ()))))))))) (
  some b3)
def jR (n : Nat) (x : List (Bool) × List (Bool)) : Option (List (Bool)) :=
 let a_0 : List (Bool) := x.1
 let b_1 : List (Bool) := x.2
 fix (wE n) n (0, a_0, b_1, (List.replicate 256 false), ())
def wF (n : Nat) (g0 : List UInt8 × Int × List (Bool) × List (Bool) × Unit -> Option (List (Bool))) (x1 : List UInt8 × Int × List (Bool) × List (Bool) × Unit) : Option (List (Bool)) :=
 let s_2 : List UInt8 := x1.1
 let i_3 : Int := x1.2.1
 let b4 : List (Bool) := x1.2.2.1
 let b5 : List (Bool) := x1.2.2.2.1
 br (decide (i_3 < (s_2.length : Int))) (
  chk (inB i_3 s_2.length) (
   let v6 : Int := ((aU 0 s_2 i_3).toNat : Int)
   chk (inB v6 256) (
    chk (decide (v6.toNat < 256)) (
     let v7 : Int := IntKind.wrap .i64 (i_3 + 1)
     g0 (s_2, v7, b4, b5.set (v6.toNat) true, ()))))) (
  some b5)
def oF (n : Nat) (x : List UInt8) : Option (List (Bool)) :=
 let s_0 : List UInt8 := x
 fix (wF n) n (s_0, 0, (List.replicate 256 false), (List.replicate 256 false), ())
def nC (n : Nat) (g0 : Int × List (Bool) × List (Bool) × List (Bool) × Unit -> Option (List (Bool) × Bool)) (x21 : Int × List (Bool) × List (Bool) × List (Bool) × Unit) : Option (List (Bool) × Bool) :=
 let yP : Int := x21.1
 let b23 : List (Bool) := x21.2.1
 let b24 : List (Bool) := x21.2.2.1
 let b25 : List (Bool) := x21.2.2.2.1
 br (decide (yP < 256)) (
  chk (inB yP 256) (
   chk (decide (yP.toNat < 256)) (
    br (b25.getD (yP.toNat) (Ty.dflt .bool)) (
     chk (inB yP 256) (
      chk (decide (yP.toNat < 256)) (
       chk (inB yP 256) (
        chk (decide (yP.toNat < 256)) (
         let v26 : Int := IntKind.wrap .i64 (yP + 1)
         g0 (v26, b23, b24, b25.set (yP.toNat) (!(b24.getD (yP.toNat) (Ty.dflt .bool))), ())))))) (
     chk (inB yP 256) (
      chk (decide (yP.toNat < 256)) (
       let v27 : Int := IntKind.wrap .i64 (yP + 1)
       g0 (v27, b23, b24, b25.set (yP.toNat) false, ()))))))) (
  some (b25, true))
def xQ (n : Nat) (x : List UInt8) : Option (List (Bool) × Bool) :=
 let gX : List UInt8 := x
 ob (dH n (65, 90)) fun y1 =>
 ob (dH n (97, 122)) fun y2 =>
 ob (dH n (48, 57)) fun y3 =>
 ob (jR n (y1, y2)) fun y4 =>
 ob (jR n (y4, y3)) fun y5 =>
 br (gX == [117, 112, 112, 101, 114]) (
  some (y1, true)) (
  br (gX == [108, 111, 119, 101, 114]) (
   some (y2, true)) (
   br (gX == [97, 108, 112, 104, 97]) (
    ob (jR n (y1, y2)) fun y6 =>
    some (y6, true)) (
    br (gX == [100, 105, 103, 105, 116]) (
     some (y3, true)) (
     br (gX == [97, 108, 110, 117, 109]) (
      some (y5, true)) (
      br (gX == [120, 100, 105, 103, 105, 116]) (
       ob (dH n (65, 70)) fun y7 =>
       ob (dH n (97, 102)) fun y8 =>
       ob (jR n (y7, y8)) fun y9 =>
       ob (jR n (y3, y9)) fun y10 =>
       some (y10, true)) (
       br (gX == [98, 108, 97, 110, 107]) (
        ob (oF n [9, 32]) fun y11 =>
        some (y11, true)) (
        br (gX == [115, 112, 97, 99, 101]) (
         ob (dH n (9, 13)) fun y12 =>
         ob (oF n [32]) fun y13 =>
         ob (jR n (y12, y13)) fun y14 =>
         some (y14, true)) (
         br (gX == [99, 110, 116, 114, 108]) (
          ob (dH n (0, 31)) fun y15 =>
          ob (dH n (127, 127)) fun y16 =>
          ob (jR n (y15, y16)) fun y17 =>
          some (y17, true)) (
          br (gX == [103, 114, 97, 112, 104]) (
           ob (dH n (33, 126)) fun y18 =>
           some (y18, true)) (
           br (gX == [112, 114, 105, 110, 116]) (
            ob (dH n (32, 126)) fun y19 =>
            some (y19, true)) (
            br (gX == [112, 117, 110, 99, 116]) (
             ob (dH n (33, 126)) fun y20 =>
             fix (nC n) n (0, (List.replicate 256 false), y5, y20, ())) (
             some ((List.replicate 256 false), false)))))))))))))
def qD (n : Nat) (x41 : Bool × Bool × Int × Int × Unit) : Option (Int × Int × Bool) :=
 let yCp : Bool := x41.1
 let yFx : Bool := x41.2.1
 let zOr : Int := x41.2.2.1
 let yFy : Int := x41.2.2.2.1
 br (zOr == 45) (
  br (!yCp) (
   br (!yFx) (
    br (yFy != 93) (
     some (0, 0, false)) (
     some (zOr, 1, true))) (
    some (zOr, 1, true))) (
   some (zOr, 1, true))) (
  some (zOr, 1, true))
def mG (n : Nat) (x36 : Bool × Bool × Int × Int × Unit) : Option (Int × Int × Bool) :=
 let zBa : Bool := x36.1
 let zSv : Bool := x36.2.1
 let yCq : Int := x36.2.2.1
 let zSw : Int := x36.2.2.2.1
 br (yCq == 93) (
  br (!zBa) (
   some (0, 0, false)) (
   jn (qD n) (zBa, zSv, yCq, zSw, ()))) (
  jn (qD n) (zBa, zSv, yCq, zSw, ()))
def mH (n : Nat) (x28 : List UInt8 × Int × Bool × Bool × Int × Int × Unit) : Option (Int × Int × Bool) :=
 let yNk : List UInt8 := x28.1
 let yNl : Int := x28.2.1
 let Ja : Bool := x28.2.2.1
 let zGz : Bool := x28.2.2.2.1
 let zWm : Int := x28.2.2.2.2.1
 let Xw : Int := x28.2.2.2.2.2.1
 br (zWm == 92) (
  br (Xw == 110) (
   let v35 : Int := IntKind.wrap .i64 (yNl + 1)
   br (decide (v35 < (yNk.length : Int))) (
    some (10, 2, true)) (
    jn (mG n) (Ja, zGz, zWm, Xw, ()))) (
   jn (mG n) (Ja, zGz, zWm, Xw, ()))) (
  jn (mG n) (Ja, zGz, zWm, Xw, ()))
def eO (n : Nat) (x13 : List UInt8 × Int × Bool × Bool × Int × Int × Bool × Unit) : Option (Int × Int × Bool) :=
 let Um : List UInt8 := x13.1
 let zOs : Int := x13.2.1
 let yCr : Bool := x13.2.2.1
 let yFz : Bool := x13.2.2.2.1
 let yNm : Int := x13.2.2.2.2.1
 let Xx : Int := x13.2.2.2.2.2.1
 let yIy : Bool := x13.2.2.2.2.2.2.1
 br yIy (
  br (Xx != 58) (
   let v21 : Int := IntKind.wrap .i64 (zOs + 4)
   br (decide (v21 < (Um.length : Int))) (
    let v22 : Int := IntKind.wrap .i64 (zOs + 3)
    chk (inB v22 Um.length) (
     let v23 : Int := ((aU 0 Um v22).toNat : Int)
     br (v23 == Xx) (
      let v24 : Int := IntKind.wrap .i64 (zOs + 4)
      chk (inB v24 Um.length) (
       let v25 : Int := ((aU 0 Um v24).toNat : Int)
       br (v25 == 93) (
        let v26 : Int := IntKind.wrap .i64 (zOs + 2)
        chk (inB v26 Um.length) (
         let v27 : Int := ((aU 0 Um v26).toNat : Int)
         some (v27, 5, (Xx == 46)))) (
        some (0, 0, false)))) (
      some (0, 0, false)))) (
    some (0, 0, false))) (
   some (0, 0, false))) (
  jn (mH n) (Um, zOs, yCr, yFz, yNm, Xx, ()))
def qE (n : Nat) (x5 : List UInt8 × Int × Bool × Bool × Int × Int × Unit) : Option (Int × Int × Bool) :=
 let s_6 : List UInt8 := x5.1
 let i_7 : Int := x5.2.1
 let Nw : Bool := x5.2.2.1
 let Un : Bool := x5.2.2.2.1
 let zHa : Int := x5.2.2.2.2.1
 let zL : Int := x5.2.2.2.2.2.1
 br (zHa == 91) (
  br (zL == 46) (
   let v12 : Int := IntKind.wrap .i64 (i_7 + 1)
   jn (eO n) (s_6, i_7, Nw, Un, zHa, zL, (decide (v12 < (s_6.length : Int))), ())) (
   br (zL == 61) (
    let v46 : Int := IntKind.wrap .i64 (i_7 + 1)
    jn (eO n) (s_6, i_7, Nw, Un, zHa, zL, (decide (v46 < (s_6.length : Int))), ())) (
    br (zL == 58) (
     let v47 : Int := IntKind.wrap .i64 (i_7 + 1)
     jn (eO n) (s_6, i_7, Nw, Un, zHa, zL, (decide (v47 < (s_6.length : Int))), ())) (
     jn (eO n) (s_6, i_7, Nw, Un, zHa, zL, false, ()))))) (
  jn (eO n) (s_6, i_7, Nw, Un, zHa, zL, false, ()))
def oG (n : Nat) (x : List UInt8 × Int × Bool × Bool) : Option (Int × Int × Bool) :=
 let s_0 : List UInt8 := x.1
 let i_1 : Int := x.2.1
 let zSx : Bool := x.2.2.1
 let zZd : Bool := x.2.2.2
 br (decide (i_1 ≥ (s_0.length : Int))) (
  some (0, 0, false)) (
  chk (inB i_1 s_0.length) (
   let v1 : Int := ((aU 0 s_0 i_1).toNat : Int)
   let v2 : Int := IntKind.wrap .i64 (i_1 + 1)
   br (decide (v2 < (s_0.length : Int))) (
    let v3 : Int := IntKind.wrap .i64 (i_1 + 1)
    chk (inB v3 s_0.length) (
     let v4 : Int := ((aU 0 s_0 v3).toNat : Int)
     jn (qE n) (s_0, i_1, zSx, zZd, v1, v4, ()))) (
    jn (qE n) (s_0, i_1, zSx, zZd, v1, 0, ()))))
def oP (n : Nat) (x31 : Int × List (Bool) × List (Bool) × List (Bool) × Unit) : Option (List (Bool) × Int × Int) :=
 let yNn : Int := x31.1
 let b33 : List (Bool) := x31.2.1
 let b34 : List (Bool) := x31.2.2.1
 let b35 : List (Bool) := x31.2.2.2.1
 ob (Am n b35) fun y36 =>
 br (y36 == 0) (
  some (b34, 0, 42)) (
  some (b35, yNn, 0))
def tZ (n : Nat) (x24 : Int × Bool × List (Bool) × List (Bool) × List (Bool) × Unit) : Option (List (Bool) × Int × Int) :=
 let yIz : Int := x24.1
 let yJa : Bool := x24.2.1
 let b27 : List (Bool) := x24.2.2.1
 let b28 : List (Bool) := x24.2.2.2.1
 let b29 : List (Bool) := x24.2.2.2.2.1
 br yJa (
  ob (Er n b29) fun y30 =>
  jn (oP n) (yIz, b27, b28, y30, ())) (
  jn (oP n) (yIz, b27, b28, b29, ()))
def jD (n : Nat) (g0 : List UInt8 × Int × Bool × Bool × List (Bool) × List (Bool) × List (Bool) × Unit -> Option (List (Bool) × Int × Int)) (x70 : List UInt8 × Int × Bool × Int × List (Bool) × List (Bool) × List (Bool) × Unit) : Option (List (Bool) × Int × Int) :=
 let zWn : List UInt8 := x70.1
 let yNo : Int := x70.2.1
 let yJb : Bool := x70.2.2.1
 let zHb : Int := x70.2.2.2.1
 let b75 : List (Bool) := x70.2.2.2.2.1
 let b76 : List (Bool) := x70.2.2.2.2.2.1
 let b77 : List (Bool) := x70.2.2.2.2.2.2.1
 let v78 : Int := IntKind.wrap .i64 (zHb + 1)
 br (decide (v78 ≥ (zWn.length : Int))) (
  some (b76, 0, 42)) (
  let v79 : Int := IntKind.wrap .i64 (yNo + 2)
  chk ((decide (0 <= zHb) && decide (zHb <= (zWn.length : Int)) && (decide (0 <= v79) && decide (v79 <= zHb)))) (
   let v80 : List UInt8 := (zWn.take zHb.toNat).drop v79.toNat
   ob (xQ n v80) fun y81 =>
   br (!y81.2) (
    some (b76, 0, 42)) (
    ob (jR n (b77, y81.1)) fun y82 =>
    let v83 : Int := IntKind.wrap .i64 (zHb + 2)
    g0 (zWn, v83, yJb, false, b75, b76, y82, ()))))
def oQ (n : Nat) (g0 : List UInt8 × Int × Bool × Bool × List (Bool) × List (Bool) × List (Bool) × Unit -> Option (List (Bool) × Int × Int)) (g1 : List UInt8 × Int × Bool × Int × List (Bool) × List (Bool) × List (Bool) × Unit -> Option (List (Bool) × Int × Int)) (x58 : List UInt8 × Int × Bool × Int × List (Bool) × List (Bool) × List (Bool) × Unit) : Option (List (Bool) × Int × Int) :=
 let zHc : List UInt8 := x58.1
 let yCs : Int := x58.2.1
 let zOt : Bool := x58.2.2.1
 let Uo : Int := x58.2.2.2.1
 let b63 : List (Bool) := x58.2.2.2.2.1
 let b64 : List (Bool) := x58.2.2.2.2.2.1
 let b65 : List (Bool) := x58.2.2.2.2.2.2.1
 let v66 : Int := IntKind.wrap .i64 (Uo + 1)
 br (decide (v66 < (zHc.length : Int))) (
  let v67 : Int := IntKind.wrap .i64 (Uo + 2)
  chk ((decide (0 <= v67) && decide (v67 <= (zHc.length : Int)) && (decide (0 <= Uo) && decide (Uo <= v67)))) (
   let v68 : List UInt8 := (zHc.take v67.toNat).drop Uo.toNat
   br (!(v68 == [58, 93])) (
    let v69 : Int := IntKind.wrap .i64 (Uo + 1)
    g1 (zHc, yCs, zOt, v69, b63, b64, b65, ())) (
    jn (jD n g0) (zHc, yCs, zOt, Uo, b63, b64, b65, ())))) (
  jn (jD n g0) (zHc, yCs, zOt, Uo, b63, b64, b65, ()))
def fH (n : Nat) (g0 : List UInt8 × Int × Bool × Bool × List (Bool) × List (Bool) × List (Bool) × Unit -> Option (List (Bool) × Int × Int)) (x98 : List UInt8 × Int × Bool × Int × Bool × Int × Bool × List (Bool) × List (Bool) × List (Bool) × Unit) : Option (List (Bool) × Int × Int) :=
 let yCt : List UInt8 := x98.1
 let zWo : Int := x98.2.1
 let zSy : Bool := x98.2.2.1
 let zWp : Int := x98.2.2.2.1
 let yGa : Bool := x98.2.2.2.2.1
 let yLs : Int := x98.2.2.2.2.2.1
 let yCu : Bool := x98.2.2.2.2.2.2.1
 let yJc : List (Bool) := x98.2.2.2.2.2.2.2.1
 let zHd : List (Bool) := x98.2.2.2.2.2.2.2.2.1
 let yJd : List (Bool) := x98.2.2.2.2.2.2.2.2.2.1
 br yCu (
  let v109 : Int := IntKind.wrap .i64 (zWo + 1)
  ob (oG n (yCt, v109, false, true)) fun zOu =>
  br (zOu.2.1 == 0) (
   some (zHd, 0, 42)) (
   br (!zOu.2.2) (
    some (zHd, 0, 42)) (
    br (!yGa) (
     some (zHd, 0, 42)) (
     br (decide (zOu.1 < zWp)) (
      some (zHd, 0, 42)) (
      let yNp : Int := IntKind.wrap .i64 (1 + zOu.2.1)
      let yNq : Int := IntKind.wrap .i64 (zWo + yNp)
      ob (dH n (zWp, zOu.1)) fun y113 =>
      ob (jR n (yJd, y113)) fun y114 =>
      g0 (yCt, yNq, zSy, false, yJc, zHd, y114, ())))))) (
  ob (dH n (zWp, yLs)) fun y115 =>
  ob (jR n (yJd, y115)) fun yNr =>
  g0 (yCt, zWo, zSy, false, yJc, zHd, yNr, ()))
def uD (n : Nat) (g0 : List UInt8 × Int × Bool × Bool × List (Bool) × List (Bool) × List (Bool) × Unit -> Option (List (Bool) × Int × Int)) (x84 : List UInt8 × Int × Bool × Bool × List (Bool) × List (Bool) × List (Bool) × Unit) : Option (List (Bool) × Int × Int) :=
 let Qj : List UInt8 := x84.1
 let yJe : Int := x84.2.1
 let zOv : Bool := x84.2.2.1
 let yCv : Bool := x84.2.2.2.1
 let b89 : List (Bool) := x84.2.2.2.2.1
 let b90 : List (Bool) := x84.2.2.2.2.2.1
 let b91 : List (Bool) := x84.2.2.2.2.2.2.1
 ob (oG n (Qj, yJe, yCv, false)) fun y92 =>
 br (y92.2.1 == 0) (
  some (b90, 0, 42)) (
  let v93 : Int := IntKind.wrap .i64 (yJe + y92.2.1)
  let v94 : Int := IntKind.wrap .i64 (v93 + 1)
  br (decide (v94 < (Qj.length : Int))) (
   chk (inB v93 Qj.length) (
    let v95 : Int := ((aU 0 Qj v93).toNat : Int)
    br (v95 == 45) (
     let v96 : Int := IntKind.wrap .i64 (v93 + 1)
     chk (inB v96 Qj.length) (
      let v97 : Int := ((aU 0 Qj v96).toNat : Int)
      jn (fH n g0) (Qj, v93, zOv, y92.1, y92.2.2, y92.1, (v97 != 93), b89, b90, b91, ()))) (
     jn (fH n g0) (Qj, v93, zOv, y92.1, y92.2.2, y92.1, false, b89, b90, b91, ())))) (
   jn (fH n g0) (Qj, v93, zOv, y92.1, y92.2.2, y92.1, false, b89, b90, b91, ())))
def oU (n : Nat) (g0 : List UInt8 × Int × Bool × Bool × List (Bool) × List (Bool) × List (Bool) × Unit -> Option (List (Bool) × Int × Int)) (x48 : List UInt8 × Int × Bool × Bool × Bool × List (Bool) × List (Bool) × List (Bool) × Unit) : Option (List (Bool) × Int × Int) :=
 let yJf : List UInt8 := x48.1
 let yCw : Int := x48.2.1
 let zZe : Bool := x48.2.2.1
 let yCx : Bool := x48.2.2.2.1
 let yJg : Bool := x48.2.2.2.2.1
 let b54 : List (Bool) := x48.2.2.2.2.2.1
 let b55 : List (Bool) := x48.2.2.2.2.2.2.1
 let b56 : List (Bool) := x48.2.2.2.2.2.2.2.1
 br yJg (
  let v57 : Int := IntKind.wrap .i64 (yCw + 2)
  fix (oQ n g0) n (yJf, yCw, zZe, v57, b54, b55, b56, ())) (
  jn (uD n g0) (yJf, yCw, zZe, yCx, b54, b55, b56, ()))
def iD (n : Nat) (g0 : List UInt8 × Int × Bool × Bool × List (Bool) × List (Bool) × List (Bool) × Unit -> Option (List (Bool) × Int × Int)) (x37 : List UInt8 × Int × Bool × Bool × List (Bool) × List (Bool) × List (Bool) × Unit) : Option (List (Bool) × Int × Int) :=
 let zOw : List UInt8 := x37.1
 let zBb : Int := x37.2.1
 let zZf : Bool := x37.2.2.1
 let zOx : Bool := x37.2.2.2.1
 let b42 : List (Bool) := x37.2.2.2.2.1
 let b43 : List (Bool) := x37.2.2.2.2.2.1
 let b44 : List (Bool) := x37.2.2.2.2.2.2.1
 let v45 : Int := IntKind.wrap .i64 (zBb + 1)
 br (decide (v45 < (zOw.length : Int))) (
  let v46 : Int := IntKind.wrap .i64 (zBb + 2)
  chk ((decide (0 <= v46) && decide (v46 <= (zOw.length : Int)) && (decide (0 <= zBb) && decide (zBb <= v46)))) (
   let v47 : List UInt8 := (zOw.take v46.toNat).drop zBb.toNat
   jn (oU n g0) (zOw, zBb, zZf, zOx, (v47 == [91, 58]), b42, b43, b44, ()))) (
  jn (oU n g0) (zOw, zBb, zZf, zOx, false, b42, b43, b44, ()))
def oV (n : Nat) (g0 : List UInt8 × Int × Bool × Bool × List (Bool) × List (Bool) × List (Bool) × Unit -> Option (List (Bool) × Int × Int)) (x14 : List UInt8 × Int × Bool × Bool × List (Bool) × List (Bool) × List (Bool) × Unit) : Option (List (Bool) × Int × Int) :=
 let zHe : List UInt8 := x14.1
 let zBc : Int := x14.2.1
 let zEl : Bool := x14.2.2.1
 let Qk : Bool := x14.2.2.2.1
 let b19 : List (Bool) := x14.2.2.2.2.1
 let b20 : List (Bool) := x14.2.2.2.2.2.1
 let b21 : List (Bool) := x14.2.2.2.2.2.2.1
 br (decide (zBc < (zHe.length : Int))) (
  chk (inB zBc zHe.length) (
   let v22 : Int := ((aU 0 zHe zBc).toNat : Int)
   br (v22 == 93) (
    br (!Qk) (
     let v23 : Int := IntKind.wrap .i64 (zBc + 1)
     jn (tZ n) (v23, zEl, b19, b20, b21, ())) (
     jn (iD n g0) (zHe, zBc, zEl, Qk, b19, b20, b21, ()))) (
    jn (iD n g0) (zHe, zBc, zEl, Qk, b19, b20, b21, ())))) (
  jn (iD n g0) (zHe, zBc, zEl, Qk, b19, b20, b21, ()))
def kY (n : Nat) (x8 : List UInt8 × Int × Bool × List (Bool) × List (Bool) × Unit) : Option (List (Bool) × Int × Int) :=
 let s_9 : List UInt8 := x8.1
 let yNs : Int := x8.2.1
 let yJh : Bool := x8.2.2.1
 let b12 : List (Bool) := x8.2.2.2.1
 let b13 : List (Bool) := x8.2.2.2.2.1
 fix (oV n) n (s_9, yNs, yJh, true, b12, b13, (List.replicate 256 false), ())
def Bz (n : Nat) (x2 : List UInt8 × List (Bool) × List (Bool) × Unit) : Option (List (Bool) × Int × Int) :=
 let s_3 : List UInt8 := x2.1
 let b4 : List (Bool) := x2.2.1
 let b5 : List (Bool) := x2.2.2.1
 br (decide ((1 : Int) < (s_3.length : Int))) (
  chk (inB 1 s_3.length) (
   let v6 : Int := ((aU 0 s_3 1).toNat : Int)
   br (v6 == 94) (
    let v7 : Int := IntKind.wrap .i64 (1 + 1)
    jn (kY n) (s_3, v7, true, b4, b5, ())) (
    jn (kY n) (s_3, 1, false, b4, b5, ())))) (
  jn (kY n) (s_3, 1, false, b4, b5, ()))
def tK (n : Nat) (x : List UInt8) : Option (List (Bool) × Int × Int) :=
 let s_0 : List UInt8 := x
 br ((s_0.length : Int) == 0) (
  some ((List.replicate 256 false), 0, 42)) (
  chk (inB 0 s_0.length) (
   let v1 : Int := ((aU 0 s_0 0).toNat : Int)
   br (v1 != 91) (
    some ((List.replicate 256 false), 0, 42)) (
    jn (Bz n) (s_0, (List.replicate 256 false), (List.replicate 256 false), ()))))
def rE (n : Nat) (g0 : Int × List (Bool) × List (Int) × List (Int) × Unit -> Option (List (Int))) (x1 : Int × List (Bool) × List (Int) × List (Int) × Unit) : Option (List (Int)) :=
 let i_2 : Int := x1.1
 let b3 : List (Bool) := x1.2.1
 let b4 : List (Int) := x1.2.2.1
 let b5 : List (Int) := x1.2.2.2.1
 br (decide (i_2 ≥ 0)) (
  chk ((!decide (64 = 0))) (
   let v6 : Int := IntKind.wrap .i64 (Int.tdiv i_2 64)
   chk ((!decide (64 = 0))) (
    let v7 : Int := IntKind.wrap .i64 (Int.tdiv i_2 64)
    chk (inB v7 4) (
     chk (decide (v7.toNat < 4)) (
      let v8 : Int := b5.getD (v7.toNat) (Ty.dflt (.int .u64))
      let v9 : Int := IntKind.wrap .u64 (v8 * 2)
      chk (inB v6 4) (
       chk (decide (v6.toNat < 4)) (
        chk (inB i_2 256) (
         chk (decide (i_2.toNat < 256)) (
          br (b3.getD (i_2.toNat) (Ty.dflt .bool)) (
           chk ((!decide (64 = 0))) (
            let v10 : Int := IntKind.wrap .i64 (Int.tdiv i_2 64)
            chk (inB v10 4) (
             chk (decide (v10.toNat < 4)) (
              let v11 : Int := (b5.set (v6.toNat) v9).getD (v10.toNat) (Ty.dflt (.int .u64))
              let v12 : Int := IntKind.wrap .u64 (v11 + 1)
              chk (inB v10 4) (
               chk (decide (v10.toNat < 4)) (
                let v13 : Int := IntKind.wrap .i64 (i_2 - 1)
                g0 (v13, b3, b4, (b5.set (v6.toNat) v9).set (v10.toNat) v12, ()))))))) (
           let v14 : Int := IntKind.wrap .i64 (i_2 - 1)
           g0 (v14, b3, b4, b5.set (v6.toNat) v9, ()))))))))))) (
  some b5)
def xR (n : Nat) (x : List (Bool)) : Option (List (Int)) :=
 let a_0 : List (Bool) := x
 fix (rE n) n (255, a_0, [0, 0, 0, 0], [0, 0, 0, 0], ())
def wG (n : Nat) (g0 : List UInt8 × Int × Int × Unit -> Option (Bool)) (x1 : List UInt8 × Int × Int × Unit) : Option (Bool) :=
 let s_2 : List UInt8 := x1.1
 let b_3 : Int := x1.2.1
 let i_4 : Int := x1.2.2.1
 br (decide (i_4 < (s_2.length : Int))) (
  chk (inB i_4 s_2.length) (
   let v5 : Int := ((aU 0 s_2 i_4).toNat : Int)
   br (v5 == b_3) (
    some true) (
    let v6 : Int := IntKind.wrap .i64 (i_4 + 1)
    g0 (s_2, b_3, v6, ())))) (
  some false)
def zBd (n : Nat) (x : List UInt8 × Int) : Option (Bool) :=
 let s_0 : List UInt8 := x.1
 let b_1 : Int := x.2
 fix (wG n) n (s_0, b_1, 0, ())
def qF (n : Nat) (g0 : List UInt8 × Int × Int × Int × Unit -> Option (Int × Int)) (x1 : List UInt8 × Int × Int × Int × Unit) : Option (Int × Int) :=
 let s_2 : List UInt8 := x1.1
 let i_3 : Int := x1.2.1
 let n_4 : Int := x1.2.2.1
 let k_5 : Int := x1.2.2.2.1
 br (decide (k_5 < (s_2.length : Int))) (
  let v6 : Int := IntKind.wrap .i64 (i_3 + 3)
  br (decide (k_5 < v6)) (
   chk (inB k_5 s_2.length) (
    let v7 : Int := ((aU 0 s_2 k_5).toNat : Int)
    br (decide (v7 ≥ 48)) (
     chk (inB k_5 s_2.length) (
      let v8 : Int := ((aU 0 s_2 k_5).toNat : Int)
      br (decide (v8 <= 57)) (
       let v9 : Int := IntKind.wrap .i64 (n_4 * 10)
       chk (inB k_5 s_2.length) (
        let v10 : Int := ((aU 0 s_2 k_5).toNat : Int)
        let v11 : Int := IntKind.wrap .u8 (v10 - 48)
        let v12 : Int := IntKind.wrap .i64 (v9 + (IntKind.wrap .i64 v11))
        let v13 : Int := IntKind.wrap .i64 (k_5 + 1)
        g0 (s_2, i_3, v12, v13, ()))) (
       br (k_5 == i_3) (
        some (0, (-1))) (
        some (n_4, k_5))))) (
     br (k_5 == i_3) (
      some (0, (-1))) (
      some (n_4, k_5))))) (
   br (k_5 == i_3) (
    some (0, (-1))) (
    some (n_4, k_5)))) (
  br (k_5 == i_3) (
   some (0, (-1))) (
   some (n_4, k_5)))
def rO (n : Nat) (x : List UInt8 × Int) : Option (Int × Int) :=
 let s_0 : List UInt8 := x.1
 let i_1 : Int := x.2
 fix (qF n) n (s_0, i_1, 0, i_1, ())
def xS (n : Nat) (x : List UInt8 × Int × List UInt8) : Option (Int × Int × Int) :=
 let s_0 : List UInt8 := x.1
 let i_1 : Int := x.2.1
 let pQ : List UInt8 := x.2.2
 ob (rO n (s_0, i_1)) fun y1 =>
 br (decide (y1.2 < 0)) (
  some (0, 0, (-1))) (
  br (decide (y1.2 < (s_0.length : Int))) (
   chk (inB y1.2 s_0.length) (
    let v2 : Int := ((aU 0 s_0 y1.2).toNat : Int)
    br (v2 == 44) (
     let v3 : Int := IntKind.wrap .i64 (y1.2 + 1)
     ob (rO n (s_0, v3)) fun y4 =>
     br (decide (y4.2 ≥ 0)) (
      let v5 : Int := IntKind.wrap .i64 (y4.2 + (pQ.length : Int))
      br (decide (v5 > (s_0.length : Int))) (
       some (0, 0, (-1))) (
       let v6 : Int := IntKind.wrap .i64 (y4.2 + (pQ.length : Int))
       chk ((decide (0 <= v6) && decide (v6 <= (s_0.length : Int)) && (decide (0 <= y4.2) && decide (y4.2 <= v6)))) (
        let v7 : List UInt8 := (s_0.take v6.toNat).drop y4.2.toNat
        br (!(v7 == pQ)) (
         some (0, 0, (-1))) (
         br (decide (y1.1 > 255)) (
          some (0, 0, (-1))) (
          br (decide (y4.1 > 255)) (
           some (0, 0, (-1))) (
           br (decide (y4.1 ≥ 0)) (
            br (decide (y4.1 < y1.1)) (
             some (0, 0, (-1))) (
             br (y4.1 == 0) (
              some (0, 0, (-1))) (
              let v8 : Int := IntKind.wrap .i64 (y4.2 + (pQ.length : Int))
              some (y1.1, y4.1, v8)))) (
            br (y4.1 == 0) (
             some (0, 0, (-1))) (
             let v9 : Int := IntKind.wrap .i64 (y4.2 + (pQ.length : Int))
             some (y1.1, y4.1, v9))))))))) (
      let v10 : Int := IntKind.wrap .i64 (v3 + (pQ.length : Int))
      br (decide (v10 > (s_0.length : Int))) (
       some (0, 0, (-1))) (
       let v11 : Int := IntKind.wrap .i64 (v3 + (pQ.length : Int))
       chk ((decide (0 <= v11) && decide (v11 <= (s_0.length : Int)) && (decide (0 <= v3) && decide (v3 <= v11)))) (
        let v12 : List UInt8 := (s_0.take v11.toNat).drop v3.toNat
        br (!(v12 == pQ)) (
         some (0, 0, (-1))) (
         br (decide (y1.1 > 255)) (
          some (0, 0, (-1))) (
          br (decide (((-1) : Int) > 255)) (
           some (0, 0, (-1))) (
           br (decide (((-1) : Int) ≥ 0)) (
            br (decide (((-1) : Int) < y1.1)) (
             some (0, 0, (-1))) (
             br (((-1) : Int) == 0) (
              some (0, 0, (-1))) (
              let v13 : Int := IntKind.wrap .i64 (v3 + (pQ.length : Int))
              some (y1.1, (-1), v13)))) (
            br (((-1) : Int) == 0) (
             some (0, 0, (-1))) (
             let v14 : Int := IntKind.wrap .i64 (v3 + (pQ.length : Int))
             some (y1.1, (-1), v14)))))))))) (
     let v15 : Int := IntKind.wrap .i64 (y1.2 + (pQ.length : Int))
     br (decide (v15 > (s_0.length : Int))) (
      some (0, 0, (-1))) (
      let v16 : Int := IntKind.wrap .i64 (y1.2 + (pQ.length : Int))
      chk ((decide (0 <= v16) && decide (v16 <= (s_0.length : Int)) && (decide (0 <= y1.2) && decide (y1.2 <= v16)))) (
       let v17 : List UInt8 := (s_0.take v16.toNat).drop y1.2.toNat
       br (!(v17 == pQ)) (
        some (0, 0, (-1))) (
        br (decide (y1.1 > 255)) (
         some (0, 0, (-1))) (
         br (decide (y1.1 > 255)) (
          some (0, 0, (-1))) (
          br (decide (y1.1 ≥ 0)) (
           br (decide (y1.1 < y1.1)) (
            some (0, 0, (-1))) (
            br (y1.1 == 0) (
             some (0, 0, (-1))) (
             let v18 : Int := IntKind.wrap .i64 (y1.2 + (pQ.length : Int))
             some (y1.1, y1.1, v18)))) (
           br (y1.1 == 0) (
            some (0, 0, (-1))) (
            let v19 : Int := IntKind.wrap .i64 (y1.2 + (pQ.length : Int))
            some (y1.1, y1.1, v19))))))))))) (
   let v20 : Int := IntKind.wrap .i64 (y1.2 + (pQ.length : Int))
   br (decide (v20 > (s_0.length : Int))) (
    some (0, 0, (-1))) (
    let v21 : Int := IntKind.wrap .i64 (y1.2 + (pQ.length : Int))
    chk ((decide (0 <= v21) && decide (v21 <= (s_0.length : Int)) && (decide (0 <= y1.2) && decide (y1.2 <= v21)))) (
     let v22 : List UInt8 := (s_0.take v21.toNat).drop y1.2.toNat
     br (!(v22 == pQ)) (
      some (0, 0, (-1))) (
      br (decide (y1.1 > 255)) (
       some (0, 0, (-1))) (
       br (decide (y1.1 > 255)) (
        some (0, 0, (-1))) (
        br (decide (y1.1 ≥ 0)) (
         br (decide (y1.1 < y1.1)) (
          some (0, 0, (-1))) (
          br (y1.1 == 0) (
           some (0, 0, (-1))) (
           let v23 : Int := IntKind.wrap .i64 (y1.2 + (pQ.length : Int))
           some (y1.1, y1.1, v23)))) (
         br (y1.1 == 0) (
          some (0, 0, (-1))) (
          let v24 : Int := IntKind.wrap .i64 (y1.2 + (pQ.length : Int))
          some (y1.1, y1.1, v24))))))))))
def uP (n : Nat) (g0 : List (NdT) × Int × List (NdT) × Unit -> Option (List (NdT))) (x1 : List (NdT) × Int × List (NdT) × Unit) : Option (List (NdT)) :=
 let l_2 : List (NdT) := x1.1
 let i_3 : Int := x1.2.1
 let Fp : List (NdT) := x1.2.2.1
 br (decide (i_3 < (l_2.length : Int))) (
  chk (inB i_3 l_2.length) (
   let v5 : Int × List (Int) × Int × Int × Int × Int × Int × Unit := aU (Ty.dflt aC) l_2 i_3
   chk (Nat.ble ((Fp.length + ([v5] : List (NdT)).length) * 80) room) (
    let v6 : Int := IntKind.wrap .i64 (i_3 + 1)
    g0 (l_2, v6, Fp ++ [v5], ())))) (
  some Fp)
def Uq (n : Nat) (x : List (NdT)) : Option (List (NdT)) :=
 let l_0 : List (NdT) := x
 fix (uP n) n (l_0, 0, [], ())
def yQ (n : Nat) (g0 : List (NdT) × List (NdT) × Int × Unit -> Option (Bool)) (x1 : List (NdT) × List (NdT) × Int × Unit) : Option (Bool) :=
 let a_2 : List (NdT) := x1.1
 let b_3 : List (NdT) := x1.2.1
 let i_4 : Int := x1.2.2.1
 br (decide (i_4 < (a_2.length : Int))) (
  chk (inB i_4 a_2.length) (
   let v5 : Int × List (Int) × Int × Int × Int × Int × Int × Unit := aU (Ty.dflt aC) a_2 i_4
   chk (inB i_4 b_3.length) (
    let v6 : Int × List (Int) × Int × Int × Int × Int × Int × Unit := aU (Ty.dflt aC) b_3 i_4
    br (!(Ty.beq aC v5 v6)) (
     some false) (
     let v7 : Int := IntKind.wrap .i64 (i_4 + 1)
     g0 (a_2, b_3, v7, ()))))) (
  some true)
def Ao (n : Nat) (x : List (NdT) × List (NdT)) : Option (Bool) :=
 let a_0 : List (NdT) := x.1
 let b_1 : List (NdT) := x.2
 br ((a_0.length : Int) != (b_1.length : Int)) (
  some false) (
  fix (yQ n) n (a_0, b_1, 0, ()))
end Go.Dec
