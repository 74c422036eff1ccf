/- Part of a proof over this seat: a library of my own, and what it says of this seat. No statement is proved here. -/
import Derived.Test.YthhbdkdofhhoeaaGreatDoorPartAR
import Derived.Test.YthhbdkdofhhoeaaGreatDoorPartAU
namespace Go.Dec
set_option linter.unusedVariables false
abbrev aB : Ty := .pair (.int .i64) (.pair (.arr 4 (.int .u64)) (.pair (.int .i64) (.pair (.int .i64) (.pair (.int .i64) (.pair (.int .i64) (.pair (.int .i64) .unit))))))
abbrev zTt : Ty := .pair .str (.pair (.int .i64) .unit)
abbrev zOx : Ty := .pair (.int .i64) (.pair (.int .i64) .unit)
abbrev Ea : Ty := .pair .str (.pair (.int .i64) (.pair (.slice aB) (.pair (.int .i64) (.pair (.arr 10 .bool) .unit))))
abbrev Eb : Ty := .pair (.slice aB) (.pair (.int .i64) (.pair (.arr 10 .bool) zOx))
abbrev Ac : Ty := .pair .bool (.pair (.int .i64) (.pair (.arr 10 .bool) (.pair .bool .unit)))
abbrev NdT : Type := Int × List (Int) × Int × Int × Int × Int × Int × Unit
abbrev eX : Type := List UInt8 × Int × Int × List (Bool) × List (NdT) × Unit
abbrev oD : Type := Sum (Int × eX) (Int × Int × eX)
def fJ (n : Nat) (x : List UInt8 × List UInt8) : Option (Bool) :=
 let s_0 : List UInt8 := x.1
 let Qy : List UInt8 := x.2
 br (decide ((s_0.length : Int) ≥ (Qy.length : Int))) (
  chk ((decide (0 <= (Qy.length : Int)) && decide ((Qy.length : Int) <= (s_0.length : Int)))) (
   let v1 : List UInt8 := s_0.take (Qy.length : Int).toNat
   some (v1 == Qy))) (
  some false)
def strings_HasPrefix (n : Nat) (x : List UInt8 × List UInt8) : Option (Bool) :=
 let s_0 : List UInt8 := x.1
 let Qy : List UInt8 := x.2
 ob (fJ n (s_0, Qy)) fun y1 =>
 some y1
def aR (n : Nat) (x : List UInt8 × eX) : Option (Bool × eX) :=
 let t_1 : List UInt8 := x.1
 let s2 : List UInt8 := x.2.1
 let at3 : Int := x.2.2.1
 let dN : Int := x.2.2.2.1
 let dO : List (Bool) := x.2.2.2.2.1
 let aN : List (NdT) := x.2.2.2.2.2.1
 chk ((decide (0 <= at3) && decide (at3 <= (s2.length : Int)))) (
  ob (strings_HasPrefix n (s2.drop at3.toNat, t_1)) fun y7 =>
  some (y7, s2, at3, dN, dO, aN, ()))
def bN (n : Nat) (x : List UInt8 × eX) : Option (Bool × eX) :=
 let t_1 : List UInt8 := x.1
 let s2 : List UInt8 := x.2.1
 let at3 : Int := x.2.2.1
 let dN : Int := x.2.2.2.1
 let dO : List (Bool) := x.2.2.2.2.1
 let aN : List (NdT) := x.2.2.2.2.2.1
 ob (aR n (t_1, s2, at3, dN, dO, aN, ())) fun y7 =>
 br (!y7.1) (
  some (false, y7.2.1, y7.2.2.1, y7.2.2.2.1, y7.2.2.2.2.1, y7.2.2.2.2.2.1, ())) (
  let v8 : Int := IntKind.wrap .i64 (y7.2.2.1 + (t_1.length : Int))
  some (true, y7.2.1, v8, y7.2.2.2.1, y7.2.2.2.2.1, y7.2.2.2.2.2.1, ()))
def bH (n : Nat) (x : Int × List (Int) × Int × Int × Int × Int × Int × eX) : Option (Int × eX) :=
 let n_1 : Int := x.1
 let n_2 : List (Int) := x.2.1
 let n_3 : Int := x.2.2.1
 let n_4 : Int := x.2.2.2.1
 let n_5 : Int := x.2.2.2.2.1
 let n_6 : Int := x.2.2.2.2.2.1
 let n_7 : Int := x.2.2.2.2.2.2.1
 let s8 : List UInt8 := x.2.2.2.2.2.2.2.1
 let at9 : Int := x.2.2.2.2.2.2.2.2.1
 let oP : Int := x.2.2.2.2.2.2.2.2.2.1
 let oQ : List (Bool) := x.2.2.2.2.2.2.2.2.2.2.1
 let uO : List (NdT) := x.2.2.2.2.2.2.2.2.2.2.2.1
 chk (Nat.ble ((uO.length + ([(n_1, (n_2, (n_3, (n_4, (n_5, (n_6, (n_7, ())))))))] : List (NdT)).length) * 80) room) (
  let r13 : List (NdT) := uO ++ [(n_1, (n_2, (n_3, (n_4, (n_5, (n_6, (n_7, ())))))))]
  let v14 : Int := ((r13.length : Nat) : Int)
  let v15 : Int := IntKind.wrap .i64 (v14 - 1)
  some (v15, s8, at9, oP, oQ, r13, ()))
def kP (n : Nat) (x : eX) : Option (Bool × eX) :=
 let s1 : List UInt8 := x.1
 let at2 : Int := x.2.1
 let Fe : Int := x.2.2.1
 let Fg : List (Bool) := x.2.2.2.1
 let lV : List (NdT) := x.2.2.2.2.1
 br (at2 == (s1.length : Int)) (
  some (true, s1, at2, Fe, Fg, lV, ())) (
  ob (aR n ([92, 41], s1, at2, Fe, Fg, lV, ())) fun y6 =>
  some (y6.1, y6.2.1, y6.2.2.1, y6.2.2.2.1, y6.2.2.2.2.1, y6.2.2.2.2.2.1, ()))
def Zn (n : Nat) (g0 : Int × List (Int) × List (Int) × Unit -> Option (List (Int))) (x1 : Int × List (Int) × List (Int) × Unit) : Option (List (Int)) :=
 let Lb : Int := x1.1
 let b3 : List (Int) := x1.2.1
 let b4 : List (Int) := x1.2.2.1
 br (decide (Lb < 4)) (
  chk (inB Lb 4) (
   chk (decide (Lb.toNat < 4)) (
    let v5 : Int := b3.getD (Lb.toNat) (Ty.dflt (.int .u64))
    let v6 : Int := dF .u64 .xor 18446744073709551615 v5
    chk (inB Lb 4) (
     chk (decide (Lb.toNat < 4)) (
      let v7 : Int := IntKind.wrap .i64 (Lb + 1)
      g0 (v7, b3.set (Lb.toNat) v6, b4, ())))))) (
  some b3)
def Aq (n : Nat) (x : List (Int)) : Option (List (Int)) :=
 let s_0 : List (Int) := x
 fix (Zn n) n (0, s_0, [0, 0, 0, 0], ())
def bU (n : Nat) (x : List (Int) × eX) : Option (Int × eX) :=
 let s_1 : List (Int) := x.1
 let s2 : List UInt8 := x.2.1
 let at3 : Int := x.2.2.1
 let dN : Int := x.2.2.2.1
 let dO : List (Bool) := x.2.2.2.2.1
 let aN : List (NdT) := x.2.2.2.2.2.1
 ob (bH n (1, s_1, 0, 0, 0, 0, 0, s2, at3, dN, dO, aN, ())) fun y7 =>
 some (y7.1, y7.2.1, y7.2.2.1, y7.2.2.2.1, y7.2.2.2.2.1, y7.2.2.2.2.2.1, ())
def dI (n : Nat) (x : List UInt8 × List UInt8 × Int × Unit) : Option (Bool × List UInt8 × Int × Unit) :=
 let t_1 : List UInt8 := x.1
 let s2 : List UInt8 := x.2.1
 let at3 : Int := x.2.2.1
 chk ((decide (0 <= at3) && decide (at3 <= (s2.length : Int)))) (
  ob (strings_HasPrefix n (s2.drop at3.toNat, t_1)) fun y4 =>
  some (y4, s2, at3, ()))
def dD (n : Nat) (x : List UInt8 × List UInt8 × Int × Unit) : Option (Bool × List UInt8 × Int × Unit) :=
 let t_1 : List UInt8 := x.1
 let s2 : List UInt8 := x.2.1
 let at3 : Int := x.2.2.1
 ob (dI n (t_1, s2, at3, ())) fun y4 =>
 br (!y4.1) (
  some (false, y4.2.1, y4.2.2.1, ())) (
  let v5 : Int := IntKind.wrap .i64 (y4.2.2.1 + (t_1.length : Int))
  some (true, y4.2.1, v5, ()))
def aW (_n : Nat) (x : List UInt8 × Int × Unit) : Option (Sum (List UInt8 × Int × Unit) (Int × Int × List UInt8 × Int × Unit)) := some (.inr (42, 0, x))
def nM (n : Nat) (g0 : Int × Int × List (Int) × Unit -> Option (List (Int))) (x1 : Int × Int × List (Int) × Unit) : Option (List (Int)) :=
 let b_2 : Int := x1.1
 let i_3 : Int := x1.2.1
 let b4 : List (Int) := x1.2.2.1
 br (decide (i_3 <= (IntKind.wrap .i64 b_2))) (
  chk (decide (0 <= 6)) (
   chk (inB (mU .i64 i_3 6) 4) (
    chk (decide ((mU .i64 i_3 6).toNat < 4)) (
     let v5 : Int := b4.getD ((mU .i64 i_3 6).toNat) (Ty.dflt (.int .u64))
     chk (decide (0 <= dF .i64 .and i_3 63)) (
      let v6 : Int := Jq .u64 1 (dF .i64 .and i_3 63)
      chk (inB (mU .i64 i_3 6) 4) (
       chk (decide ((mU .i64 i_3 6).toNat < 4)) (
        let v7 : Int := IntKind.wrap .i64 (i_3 + 1)
        g0 (b_2, v7, b4.set ((mU .i64 i_3 6).toNat) (dF .u64 .or v5 v6), ())))))))) (
  some b4)
def bQ (n : Nat) (x : Int × Int) : Option (List (Int)) :=
 let a_0 : Int := x.1
 let b_1 : Int := x.2
 fix (nM n) n (b_1, IntKind.wrap .i64 a_0, [0, 0, 0, 0], ())
def Lc (n : Nat) (g0 : List (List (Int)) × Int × Int × List (Int) × Unit -> Option (List (Int))) (g1 : List (List (Int)) × Int × Int × Int × List (Int) × List (Int) × Unit -> Option (List (Int))) (x7 : List (List (Int)) × Int × Int × Int × List (Int) × List (Int) × Unit) : Option (List (Int)) :=
 let zSd : List (List (Int)) := x7.1
 let zSe : Int := x7.2.1
 let zOy : Int := x7.2.2.1
 let rD : Int := x7.2.2.2.1
 let b12 : List (Int) := x7.2.2.2.2.1
 let b13 : List (Int) := x7.2.2.2.2.2.1
 br (decide (rD < 4)) (
  chk (inB rD 4) (
   chk (decide (rD.toNat < 4)) (
    let v14 : Int := b12.getD (rD.toNat) (Ty.dflt (.int .u64))
    chk (inB rD 4) (
     chk (decide (rD.toNat < 4)) (
      let v15 : Int := b13.getD (rD.toNat) (Ty.dflt (.int .u64))
      chk (inB rD 4) (
       chk (decide (rD.toNat < 4)) (
        let v16 : Int := IntKind.wrap .i64 (rD + 1)
        g1 (zSd, zSe, zOy, v16, b12.set (rD.toNat) (dF .u64 .or v14 v15), b13, ())))))))) (
  let v17 : Int := IntKind.wrap .i64 (zOy + 1)
  g0 (zSd, zSe, v17, b12, ()))
def vU (n : Nat) (g0 : List (List (Int)) × Int × Int × List (Int) × Unit -> Option (List (Int))) (x1 : List (List (Int)) × Int × Int × List (Int) × Unit) : Option (List (Int)) :=
 let zNg : List (List (Int)) := x1.1
 let zSf : Int := x1.2.1
 let zIo : Int := x1.2.2.1
 let b5 : List (Int) := x1.2.2.2.1
 br (decide (zIo < zSf)) (
  chk (inB zIo zNg.length) (
   let v6 : List (Int) := aQ (Ty.dflt (.arr 4 (.int .u64))) zNg zIo
   fix (Lc n g0) n (zNg, zSf, zIo, 0, b5, v6, ()))) (
  some b5)
def lW (n : Nat) (x : List (List (Int))) : Option (List (Int)) :=
 let l_0 : List (List (Int)) := x
 fix (vU n) n (l_0, (l_0.length : Int), 0, [0, 0, 0, 0], ())
def vV (n : Nat) (g0 : List UInt8 × Int × Int × List (Int) × Unit -> Option (List (Int))) (x1 : List UInt8 × Int × Int × List (Int) × Unit) : Option (List (Int)) :=
 let s_2 : List UInt8 := x1.1
 let zSg : Int := x1.2.1
 let Wt : Int := x1.2.2.1
 let b5 : List (Int) := x1.2.2.2.1
 br (decide (Wt < zSg)) (
  chk (inB Wt s_2.length) (
   let v6 : Int := ((aQ 0 s_2 Wt).toNat : Int)
   chk (decide (0 <= 6)) (
    chk (inB (mU .u8 v6 6) 4) (
     chk (decide ((mU .u8 v6 6).toNat < 4)) (
      let v7 : Int := b5.getD ((mU .u8 v6 6).toNat) (Ty.dflt (.int .u64))
      chk (inB Wt s_2.length) (
       let v8 : Int := ((aQ 0 s_2 Wt).toNat : Int)
       chk (decide (0 <= dF .u8 .and v8 63)) (
        let v9 : Int := Jq .u64 1 (dF .u8 .and v8 63)
        chk (inB (mU .u8 v6 6) 4) (
         chk (decide ((mU .u8 v6 6).toNat < 4)) (
          let v10 : Int := IntKind.wrap .i64 (Wt + 1)
          g0 (s_2, zSg, v10, b5.set ((mU .u8 v6 6).toNat) (dF .u64 .or v7 v9), ())))))))))) (
  some b5)
def nN (n : Nat) (x : List UInt8) : Option (List (Int)) :=
 let s_0 : List UInt8 := x
 fix (vV n) n (s_0, (s_0.length : Int), 0, [0, 0, 0, 0], ())
def yO (n : Nat) (x : List UInt8) : Option (List (Int) × Bool) :=
 let fD : List UInt8 := x
 ob (bQ n (65, 90)) fun y1 =>
 ob (bQ n (97, 122)) fun y2 =>
 ob (bQ n (48, 57)) fun y3 =>
 br (fD == [117, 112, 112, 101, 114]) (
  some (y1, true)) (
  br (fD == [108, 111, 119, 101, 114]) (
   some (y2, true)) (
   br (fD == [97, 108, 112, 104, 97]) (
    ob (lW n [y1, y2]) fun y4 =>
    some (y4, true)) (
    br (fD == [100, 105, 103, 105, 116]) (
     some (y3, true)) (
     br (fD == [97, 108, 110, 117, 109]) (
      ob (lW n [y1, y2, y3]) fun y5 =>
      some (y5, true)) (
      br (fD == [120, 100, 105, 103, 105, 116]) (
       ob (bQ n (65, 70)) fun y6 =>
       ob (bQ n (97, 102)) fun y7 =>
       ob (lW n [y3, y6, y7]) fun y8 =>
       some (y8, true)) (
       br (fD == [98, 108, 97, 110, 107]) (
        ob (nN n [32, 9]) fun y9 =>
        some (y9, true)) (
        br (fD == [115, 112, 97, 99, 101]) (
         ob (nN n [32, 9, 10, 11, 12, 13]) fun y10 =>
         some (y10, true)) (
         br (fD == [99, 110, 116, 114, 108]) (
          ob (bQ n (0, 31)) fun y11 =>
          ob (nN n [127]) fun y12 =>
          ob (lW n [y11, y12]) fun y13 =>
          some (y13, true)) (
          br (fD == [103, 114, 97, 112, 104]) (
           ob (bQ n (33, 126)) fun y14 =>
           some (y14, true)) (
           br (fD == [112, 114, 105, 110, 116]) (
            ob (bQ n (32, 126)) fun y15 =>
            some (y15, true)) (
            br (fD == [112, 117, 110, 99, 116]) (
             ob (bQ n (33, 47)) fun y16 =>
             ob (bQ n (58, 64)) fun y17 =>
             ob (bQ n (91, 96)) fun y18 =>
             ob (bQ n (123, 126)) fun y19 =>
             ob (lW n [y16, y17, y18, y19]) fun y20 =>
             some (y20, true)) (
             some ([0, 0, 0, 0], false)))))))))))))
def oF (n : Nat) (x21 : List UInt8 × List UInt8 × Int × Unit) : Option (Sum (Int × Bool × List UInt8 × Int × Unit) (Int × Int × List UInt8 × Int × Unit)) :=
 let zQd : List UInt8 := x21.1
 let s23 : List UInt8 := x21.2.1
 let zNh : Int := x21.2.2.1
 chk (inB zNh s23.length) (
  let v25 : Int := ((aQ 0 s23 zNh).toNat : Int)
  let v26 : Int := IntKind.wrap .i64 (zNh + 3)
  some (.inl (v25, (zQd == [46]), s23, v26, ())))
def gP (n : Nat) (x41 : List UInt8 × Int × Unit) : Option (Sum (Int × Bool × List UInt8 × Int × Unit) (Int × Int × List UInt8 × Int × Unit)) :=
 let s42 : List UInt8 := x41.1
 let zVp : Int := x41.2.1
 let v44 : Int := IntKind.wrap .i64 (zVp + 1)
 let v45 : Int := IntKind.wrap .i64 (v44 - 1)
 chk (inB v45 s42.length) (
  let v46 : Int := ((aQ 0 s42 v45).toNat : Int)
  some (.inl (v46, true, s42, v44, ())))
def fG (n : Nat) (x30 : Bool × Bool × List UInt8 × Int × Unit) : Option (Sum (Int × Bool × List UInt8 × Int × Unit) (Int × Int × List UInt8 × Int × Unit)) :=
 let zNi : Bool := x30.1
 let zGb : Bool := x30.2.1
 let s33 : List UInt8 := x30.2.2.1
 let zNj : Int := x30.2.2.2.1
 br (zNj == (s33.length : Int)) (
  ob2 (aW n (s33, zNj, ())) (fun y35 =>
   none) (fun y35 =>
   some (.inr (y35.1, y35.2.1, y35.2.2.1, y35.2.2.2.1, ())))) (
  ob (dI n ([91, 58], s33, zNj, ())) fun y36 =>
  br y36.1 (
   ob2 (aW n (y36.2.1, y36.2.2.1, ())) (fun y37 =>
    none) (fun y37 =>
    some (.inr (y37.1, y37.2.1, y37.2.2.1, y37.2.2.2.1, ())))) (
   ob (dI n ([93], y36.2.1, y36.2.2.1, ())) fun y38 =>
   br y38.1 (
    br (!zNi) (
     ob2 (aW n (y38.2.1, y38.2.2.1, ())) (fun y39 =>
      none) (fun y39 =>
      some (.inr (y39.1, y39.2.1, y39.2.2.1, y39.2.2.2.1, ())))) (
     br zGb (
      ob2 (aW n (y38.2.1, y38.2.2.1, ())) (fun y40 =>
       none) (fun y40 =>
       some (.inr (y40.1, y40.2.1, y40.2.2.1, y40.2.2.2.1, ())))) (
      jn (gP n) (y38.2.1, y38.2.2.1, ())))) (
    br zGb (
     ob2 (aW n (y38.2.1, y38.2.2.1, ())) (fun y47 =>
      none) (fun y47 =>
      some (.inr (y47.1, y47.2.1, y47.2.2.1, y47.2.2.2.1, ())))) (
     jn (gP n) (y38.2.1, y38.2.2.1, ())))))
def jR (n : Nat) (g0 : Bool × Bool × Int × Int × List UInt8 × Int × List (List UInt8) × Unit -> Option (Sum (Int × Bool × List UInt8 × Int × Unit) (Int × Int × List UInt8 × Int × Unit))) (x6 : Bool × Bool × Int × Int × List UInt8 × Int × List (List UInt8) × Unit) : Option (Sum (Int × Bool × List UInt8 × Int × Unit) (Int × Int × List UInt8 × Int × Unit)) :=
 let Ar : Bool := x6.1
 let zKo : Bool := x6.2.1
 let zOz : Int := x6.2.2.1
 let Ld : Int := x6.2.2.2.1
 let s11 : List UInt8 := x6.2.2.2.2.1
 let zCn : Int := x6.2.2.2.2.2.1
 let Dp : List (List UInt8) := x6.2.2.2.2.2.2.1
 br (decide (Ld < zOz)) (
  chk ((inB Ld (Dp.length) && decide (0 + (Dp.length) <= Dp.length))) (
   chk (decide (0 + Ld.toNat < Dp.length)) (
    let v14 : List UInt8 := Dp.getD (0 + Ld.toNat) (Ty.dflt .str)
    chk (decide ([91].length + v14.length <= aG)) (
     ob (dD n ([91] ++ v14, s11, zCn, ())) fun y15 =>
     br (!y15.1) (
      let v16 : Int := IntKind.wrap .i64 (Ld + 1)
      g0 (Ar, zKo, zOz, v16, y15.2.1, y15.2.2.1, Dp, ())) (
      br ((y15.2.1.length : Int) == y15.2.2.1) (
       ob2 (aW n (y15.2.1, y15.2.2.1, ())) (fun y17 =>
        none) (fun y17 =>
        some (.inr (y17.1, y17.2.1, y17.2.2.1, y17.2.2.2.1, ())))) (
       let v18 : Int := IntKind.wrap .i64 (y15.2.2.1 + 1)
       chk ((decide (0 <= v18) && decide (v18 <= (y15.2.1.length : Int)))) (
        chk (decide (v14.length + ([93] : List UInt8).length <= aG)) (
         ob (strings_HasPrefix n (y15.2.1.drop v18.toNat, v14 ++ [93])) fun y19 =>
         br (!y19) (
          ob2 (aW n (y15.2.1, y15.2.2.1, ())) (fun y20 =>
           none) (fun y20 =>
           some (.inr (y20.1, y20.2.1, y20.2.2.1, y20.2.2.2.1, ())))) (
          jn (oF n) (v14, y15.2.1, y15.2.2.1, ())))))))))) (
  ob (dD n ([92, 110], s11, zCn, ())) fun y27 =>
  br y27.1 (
   some (.inl (10, true, y27.2.1, y27.2.2.1, ()))) (
   ob (dI n ([45], y27.2.1, y27.2.2.1, ())) fun y28 =>
   br y28.1 (
    br (!Ar) (
     br (!zKo) (
      ob (dI n ([45, 93], y28.2.1, y28.2.2.1, ())) fun y29 =>
      jn (fG n) (Ar, (!y29.1), y29.2.1, y29.2.2.1, ())) (
      jn (fG n) (Ar, false, y28.2.1, y28.2.2.1, ()))) (
     jn (fG n) (Ar, false, y28.2.1, y28.2.2.1, ()))) (
    jn (fG n) (Ar, false, y28.2.1, y28.2.2.1, ()))))
def jL (n : Nat) (x : Bool × Bool × List UInt8 × Int × Unit) : Option (Sum (Int × Bool × List UInt8 × Int × Unit) (Int × Int × List UInt8 × Int × Unit)) :=
 let vK : Bool := x.1
 let zSh : Bool := x.2.1
 let s3 : List UInt8 := x.2.2.1
 let at4 : Int := x.2.2.2.1
 let v5 : Int := (([[46], [61]].length : Nat) : Int)
 fix (jR n) n (vK, zSh, v5, 0, s3, at4, [[46], [61]], ())
def kG (n : Nat) (x : Bool × List UInt8 × Int × Unit) : Option (Sum (List (Int) × List UInt8 × Int × Unit) (Int × Int × List UInt8 × Int × Unit)) :=
 let vK : Bool := x.1
 let s2 : List UInt8 := x.2.1
 let at3 : Int := x.2.2.1
 ob (dD n ([91, 58], s2, at3, ())) fun y4 =>
 br y4.1 (
  chk ((decide (0 <= y4.2.2.1) && decide (y4.2.2.1 <= (y4.2.1.length : Int)))) (
   let v5 : List UInt8 := y4.2.1.drop y4.2.2.1.toNat
   ob (strings_Cut n (v5, [58, 93])) fun y6 =>
   let v7 : Int := IntKind.wrap .i64 (y4.2.2.1 + (y6.1.length : Int))
   ob (yO n y6.1) fun y8 =>
   br (!y8.2) (
    ob2 (aW n (y4.2.1, v7, ())) (fun y9 =>
     none) (fun y9 =>
     some (.inr (y9.1, y9.2.1, y9.2.2.1, y9.2.2.2.1, ())))) (
    ob (dD n ([58, 93], y4.2.1, v7, ())) fun y10 =>
    br (!y10.1) (
     ob2 (aW n (y10.2.1, y10.2.2.1, ())) (fun y11 =>
      none) (fun y11 =>
      some (.inr (y11.1, y11.2.1, y11.2.2.1, y11.2.2.2.1, ())))) (
     some (.inl (y8.1, y10.2.1, y10.2.2.1, ())))))) (
  ob2 (jL n (vK, false, y4.2.1, y4.2.2.1, ())) (fun y12 =>
   ob (dI n ([45], y12.2.2.1, y12.2.2.2.1, ())) fun y13 =>
   br (!y13.1) (
    ob (bQ n (y12.1, y12.1)) fun y14 =>
    some (.inl (y14, y13.2.1, y13.2.2.1, ()))) (
    ob (dI n ([45, 93], y13.2.1, y13.2.2.1, ())) fun y15 =>
    br y15.1 (
     ob (bQ n (y12.1, y12.1)) fun y16 =>
     some (.inl (y16, y15.2.1, y15.2.2.1, ()))) (
     let v17 : Int := IntKind.wrap .i64 (y15.2.2.1 + 1)
     br (v17 == (y15.2.1.length : Int)) (
      ob (bQ n (y12.1, y12.1)) fun y18 =>
      some (.inl (y18, y15.2.1, y15.2.2.1, ()))) (
      let v19 : Int := IntKind.wrap .i64 (y15.2.2.1 + 1)
      ob2 (jL n (false, true, y15.2.1, v19, ())) (fun y20 =>
       br (!y12.2.1) (
        ob2 (aW n (y20.2.2.1, y20.2.2.2.1, ())) (fun y21 =>
         none) (fun y21 =>
         some (.inr (y21.1, y21.2.1, y21.2.2.1, y21.2.2.2.1, ())))) (
        br (!y20.2.1) (
         ob2 (aW n (y20.2.2.1, y20.2.2.2.1, ())) (fun y22 =>
          none) (fun y22 =>
          some (.inr (y22.1, y22.2.1, y22.2.2.1, y22.2.2.2.1, ())))) (
         br (decide (y20.1 < y12.1)) (
          ob2 (aW n (y20.2.2.1, y20.2.2.2.1, ())) (fun y23 =>
           none) (fun y23 =>
           some (.inr (y23.1, y23.2.1, y23.2.2.1, y23.2.2.2.1, ())))) (
          ob (bQ n (y12.1, y20.1)) fun y24 =>
          some (.inl (y24, y20.2.2.1, y20.2.2.2.1, ())))))) (fun y20 =>
       some (.inr (y20.1, y20.2.1, y20.2.2.1, y20.2.2.2.1, ()))))))) (fun y12 =>
   some (.inr (y12.1, y12.2.1, y12.2.2.1, y12.2.2.2.1, ()))))
def jJ (n : Nat) (g0 : Bool × Bool × List (Int) × List UInt8 × Int × Unit -> Option (Sum (List (Int) × List UInt8 × Int × Unit) (Int × Int × List (Int) × List UInt8 × Int × Unit))) (x7 : Bool × Bool × List (Int) × List UInt8 × Int × Unit) : Option (Sum (List (Int) × List UInt8 × Int × Unit) (Int × Int × List (Int) × List UInt8 × Int × Unit)) :=
 let zIp : Bool := x7.1
 let Wu : Bool := x7.2.1
 let b10 : List (Int) := x7.2.2.1
 let s11 : List UInt8 := x7.2.2.2.1
 let zCn : Int := x7.2.2.2.2.1
 br Wu (
  ob2 (kG n (Wu, s11, zCn, ())) (fun y13 =>
   ob (lW n [b10, y13.1]) fun y14 =>
   g0 (zIp, false, y14, y13.2.1, y13.2.2.1, ())) (fun y13 =>
   some (.inr (y13.1, y13.2.1, b10, y13.2.2.1, y13.2.2.2.1, ())))) (
  ob (dD n ([93], s11, zCn, ())) fun y15 =>
  br (!y15.1) (
   ob2 (kG n (Wu, y15.2.1, y15.2.2.1, ())) (fun y16 =>
    ob (lW n [b10, y16.1]) fun y17 =>
    g0 (zIp, false, y17, y16.2.1, y16.2.2.1, ())) (fun y16 =>
    some (.inr (y16.1, y16.2.1, b10, y16.2.2.1, y16.2.2.2.1, ())))) (
   br zIp (
    ob (Aq n b10) fun y18 =>
    br (Ty.beq (.arr 4 (.int .u64)) y18 ([0, 0, 0, 0])) (
     ob2 (aW n (y15.2.1, y15.2.2.1, ())) (fun y19 =>
      none) (fun y19 =>
      some (.inr (y19.1, y19.2.1, y18, y19.2.2.1, y19.2.2.2.1, ())))) (
     some (.inl (y18, y15.2.1, y15.2.2.1, ())))) (
    br (Ty.beq (.arr 4 (.int .u64)) b10 ([0, 0, 0, 0])) (
     ob2 (aW n (y15.2.1, y15.2.2.1, ())) (fun y20 =>
      none) (fun y20 =>
      some (.inr (y20.1, y20.2.1, b10, y20.2.2.1, y20.2.2.2.1, ())))) (
     some (.inl (b10, y15.2.1, y15.2.2.1, ()))))))
def jB (n : Nat) (x : List (Int) × List UInt8 × Int × Unit) : Option (Sum (List (Int) × List UInt8 × Int × Unit) (Int × Int × List (Int) × List UInt8 × Int × Unit)) :=
 let b1 : List (Int) := x.1
 let s2 : List UInt8 := x.2.1
 let at3 : Int := x.2.2.1
 ob (dD n ([91], s2, at3, ())) fun y4 =>
 br (!y4.1) (
  ob2 (aW n (y4.2.1, y4.2.2.1, ())) (fun y5 =>
   none) (fun y5 =>
   some (.inr (y5.1, y5.2.1, b1, y5.2.2.1, y5.2.2.2.1, ())))) (
  ob (dD n ([94], y4.2.1, y4.2.2.1, ())) fun y6 =>
  fix (jJ n) n (y6.1, true, b1, y6.2.1, y6.2.2.1, ()))
def dY (n : Nat) (x : List (Int) × List UInt8 × Int × Unit) : Option (Int × Int × List (Int) × List UInt8 × Int × Unit) := ob2 (jB n x) (fun y => some (0, 0, y)) (fun y => some y)
def oG (n : Nat) (x : List UInt8) : Option (List (Int) × Int × Int) :=
 let s_0 : List UInt8 := x
 ob (dY n ([0, 0, 0, 0], s_0, 0, ())) fun y1 =>
 br (y1.1 != 0) (
  some ([0, 0, 0, 0], 0, y1.1)) (
  some (y1.2.2.1, y1.2.2.2.2.1, 0))
def aF (_n : Nat) (x : Int × Int × eX) : Option (Sum (eX) (Int × Int × eX)) := some (.inr x)
def jH (n : Nat) (g0 : Int × eX -> Option (Int × eX)) (x6 : Int × eX) : Option (Int × eX) :=
 let i_7 : Int := x6.1
 let s8 : List UInt8 := x6.2.1
 let at9 : Int := x6.2.2.1
 let oP : Int := x6.2.2.2.1
 let oQ : List (Bool) := x6.2.2.2.2.1
 let uO : List (NdT) := x6.2.2.2.2.2.1
 br (decide (i_7 < (s8.length : Int))) (
  let v13 : Int := IntKind.wrap .i64 (at9 + 3)
  br (decide (i_7 < v13)) (
   chk (inB i_7 s8.length) (
    let v14 : Int := ((aQ 0 s8 i_7).toNat : Int)
    br (decide (v14 ≥ 48)) (
     chk (inB i_7 s8.length) (
      let v15 : Int := ((aQ 0 s8 i_7).toNat : Int)
      br (decide (v15 <= 57)) (
       let v16 : Int := IntKind.wrap .i64 (i_7 + 1)
       g0 (v16, s8, at9, oP, oQ, uO, ())) (
       chk ((decide (0 <= i_7) && decide (i_7 <= (s8.length : Int)) && (decide (0 <= at9) && decide (at9 <= i_7)))) (
        let v17 : List UInt8 := (s8.take i_7.toNat).drop at9.toNat
        ob (strconv_Atoi n v17) fun y18 =>
        br (!(!y18.2)) (
         some ((-1), s8, i_7, oP, oQ, uO, ())) (
         some (y18.1, s8, i_7, oP, oQ, uO, ())))))) (
     chk ((decide (0 <= i_7) && decide (i_7 <= (s8.length : Int)) && (decide (0 <= at9) && decide (at9 <= i_7)))) (
      let v19 : List UInt8 := (s8.take i_7.toNat).drop at9.toNat
      ob (strconv_Atoi n v19) fun y20 =>
      br (!(!y20.2)) (
       some ((-1), s8, i_7, oP, oQ, uO, ())) (
       some (y20.1, s8, i_7, oP, oQ, uO, ())))))) (
   chk ((decide (0 <= i_7) && decide (i_7 <= (s8.length : Int)) && (decide (0 <= at9) && decide (at9 <= i_7)))) (
    let v21 : List UInt8 := (s8.take i_7.toNat).drop at9.toNat
    ob (strconv_Atoi n v21) fun y22 =>
    br (!(!y22.2)) (
     some ((-1), s8, i_7, oP, oQ, uO, ())) (
     some (y22.1, s8, i_7, oP, oQ, uO, ()))))) (
  chk ((decide (0 <= i_7) && decide (i_7 <= (s8.length : Int)) && (decide (0 <= at9) && decide (at9 <= i_7)))) (
   let v23 : List UInt8 := (s8.take i_7.toNat).drop at9.toNat
   ob (strconv_Atoi n v23) fun y24 =>
   br (!(!y24.2)) (
    some ((-1), s8, i_7, oP, oQ, uO, ())) (
    some (y24.1, s8, i_7, oP, oQ, uO, ()))))
def iW (n : Nat) (x : eX) : Option (Int × eX) :=
 let s1 : List UInt8 := x.1
 let at2 : Int := x.2.1
 let Fe : Int := x.2.2.1
 let Fg : List (Bool) := x.2.2.2.1
 let lV : List (NdT) := x.2.2.2.2.1
 fix (jH n) n (at2, s1, at2, Fe, Fg, lV, ())
def lX (n : Nat) (x : Int × eX) : Option oD :=
 let Oc : Int := x.1
 let s2 : List UInt8 := x.2.1
 let at3 : Int := x.2.2.1
 let dN : Int := x.2.2.2.1
 let dO : List (Bool) := x.2.2.2.2.1
 let aN : List (NdT) := x.2.2.2.2.2.1
 ob (bN n ([42], s2, at3, dN, dO, aN, ())) fun y7 =>
 br y7.1 (
  ob (bH n (6, [0, 0, 0, 0], Oc, 0, 0, (-1), 0, y7.2.1, y7.2.2.1, y7.2.2.2.1, y7.2.2.2.2.1, y7.2.2.2.2.2.1, ())) fun y8 =>
  ob (aR n ([42], y8.2.1, y8.2.2.1, y8.2.2.2.1, y8.2.2.2.2.1, y8.2.2.2.2.2.1, ())) fun y9 =>
  br y9.1 (
   ob2 (aF n (43, y9.2.2.1, y9.2.1, y9.2.2.1, y9.2.2.2.1, y9.2.2.2.2.1, y9.2.2.2.2.2.1, ())) (fun y10 =>
    none) (fun y10 =>
    some (.inr (y10.1, y10.2.1, y10.2.2.1, y10.2.2.2.1, y10.2.2.2.2.1, y10.2.2.2.2.2.1, y10.2.2.2.2.2.2.1, ())))) (
   ob (aR n ([92, 123], y9.2.1, y9.2.2.1, y9.2.2.2.1, y9.2.2.2.2.1, y9.2.2.2.2.2.1, ())) fun y11 =>
   br y11.1 (
    ob2 (aF n (43, y11.2.2.1, y11.2.1, y11.2.2.1, y11.2.2.2.1, y11.2.2.2.2.1, y11.2.2.2.2.2.1, ())) (fun y12 =>
     none) (fun y12 =>
     some (.inr (y12.1, y12.2.1, y12.2.2.1, y12.2.2.2.1, y12.2.2.2.2.1, y12.2.2.2.2.2.1, y12.2.2.2.2.2.2.1, ())))) (
    some (.inl (y8.1, y11.2.1, y11.2.2.1, y11.2.2.2.1, y11.2.2.2.2.1, y11.2.2.2.2.2.1, ()))))) (
  ob (bN n ([92, 123], y7.2.1, y7.2.2.1, y7.2.2.2.1, y7.2.2.2.2.1, y7.2.2.2.2.2.1, ())) fun y13 =>
  br (!y13.1) (
   some (.inl (Oc, y13.2.1, y13.2.2.1, y13.2.2.2.1, y13.2.2.2.2.1, y13.2.2.2.2.2.1, ()))) (
   ob (iW n (y13.2.1, y13.2.2.1, y13.2.2.2.1, y13.2.2.2.2.1, y13.2.2.2.2.2.1, ())) fun y14 =>
   ob (bN n ([44], y14.2.1, y14.2.2.1, y14.2.2.2.1, y14.2.2.2.2.1, y14.2.2.2.2.2.1, ())) fun y15 =>
   br y15.1 (
    ob (iW n (y15.2.1, y15.2.2.1, y15.2.2.2.1, y15.2.2.2.2.1, y15.2.2.2.2.2.1, ())) fun y16 =>
    br (y14.1 == (-1)) (
     ob2 (aF n (43, at3, y16.2.1, y16.2.2.1, y16.2.2.2.1, y16.2.2.2.2.1, y16.2.2.2.2.2.1, ())) (fun y17 =>
      none) (fun y17 =>
      some (.inr (y17.1, y17.2.1, y17.2.2.1, y17.2.2.2.1, y17.2.2.2.2.1, y17.2.2.2.2.2.1, y17.2.2.2.2.2.2.1, ())))) (
     ob (bN n ([92, 125], y16.2.1, y16.2.2.1, y16.2.2.2.1, y16.2.2.2.2.1, y16.2.2.2.2.2.1, ())) fun y18 =>
     br (!y18.1) (
      ob2 (aF n (43, at3, y18.2.1, y18.2.2.1, y18.2.2.2.1, y18.2.2.2.2.1, y18.2.2.2.2.2.1, ())) (fun y19 =>
       none) (fun y19 =>
       some (.inr (y19.1, y19.2.1, y19.2.2.1, y19.2.2.2.1, y19.2.2.2.2.1, y19.2.2.2.2.2.1, y19.2.2.2.2.2.2.1, ())))) (
      br (decide (y14.1 > 255)) (
       ob2 (aF n (43, at3, y18.2.1, y18.2.2.1, y18.2.2.2.1, y18.2.2.2.2.1, y18.2.2.2.2.2.1, ())) (fun y20 =>
        none) (fun y20 =>
        some (.inr (y20.1, y20.2.1, y20.2.2.1, y20.2.2.2.1, y20.2.2.2.2.1, y20.2.2.2.2.2.1, y20.2.2.2.2.2.2.1, ())))) (
       br (decide (y16.1 > 255)) (
        ob2 (aF n (43, at3, y18.2.1, y18.2.2.1, y18.2.2.2.1, y18.2.2.2.2.1, y18.2.2.2.2.2.1, ())) (fun y21 =>
         none) (fun y21 =>
         some (.inr (y21.1, y21.2.1, y21.2.2.1, y21.2.2.2.1, y21.2.2.2.2.1, y21.2.2.2.2.2.1, y21.2.2.2.2.2.2.1, ())))) (
        br (y16.1 != (-1)) (
         let v22 : Int := if 1 > y14.1 then 1 else y14.1
         br (decide (y16.1 < v22)) (
          ob2 (aF n (43, at3, y18.2.1, y18.2.2.1, y18.2.2.2.1, y18.2.2.2.2.1, y18.2.2.2.2.2.1, ())) (fun y23 =>
           none) (fun y23 =>
           some (.inr (y23.1, y23.2.1, y23.2.2.1, y23.2.2.2.1, y23.2.2.2.2.1, y23.2.2.2.2.2.1, y23.2.2.2.2.2.2.1, ())))) (
          ob (bH n (6, [0, 0, 0, 0], Oc, 0, y14.1, y16.1, 0, y18.2.1, y18.2.2.1, y18.2.2.2.1, y18.2.2.2.2.1, y18.2.2.2.2.2.1, ())) fun y24 =>
          ob (aR n ([42], y24.2.1, y24.2.2.1, y24.2.2.2.1, y24.2.2.2.2.1, y24.2.2.2.2.2.1, ())) fun y25 =>
          br y25.1 (
           ob2 (aF n (43, y25.2.2.1, y25.2.1, y25.2.2.1, y25.2.2.2.1, y25.2.2.2.2.1, y25.2.2.2.2.2.1, ())) (fun y26 =>
            none) (fun y26 =>
            some (.inr (y26.1, y26.2.1, y26.2.2.1, y26.2.2.2.1, y26.2.2.2.2.1, y26.2.2.2.2.2.1, y26.2.2.2.2.2.2.1, ())))) (
           ob (aR n ([92, 123], y25.2.1, y25.2.2.1, y25.2.2.2.1, y25.2.2.2.2.1, y25.2.2.2.2.2.1, ())) fun y27 =>
           br y27.1 (
            ob2 (aF n (43, y27.2.2.1, y27.2.1, y27.2.2.1, y27.2.2.2.1, y27.2.2.2.2.1, y27.2.2.2.2.2.1, ())) (fun y28 =>
             none) (fun y28 =>
             some (.inr (y28.1, y28.2.1, y28.2.2.1, y28.2.2.2.1, y28.2.2.2.2.1, y28.2.2.2.2.2.1, y28.2.2.2.2.2.2.1, ())))) (
            some (.inl (y24.1, y27.2.1, y27.2.2.1, y27.2.2.2.1, y27.2.2.2.2.1, y27.2.2.2.2.2.1, ())))))) (
         ob (bH n (6, [0, 0, 0, 0], Oc, 0, y14.1, y16.1, 0, y18.2.1, y18.2.2.1, y18.2.2.2.1, y18.2.2.2.2.1, y18.2.2.2.2.2.1, ())) fun y29 =>
         ob (aR n ([42], y29.2.1, y29.2.2.1, y29.2.2.2.1, y29.2.2.2.2.1, y29.2.2.2.2.2.1, ())) fun y30 =>
         br y30.1 (
          ob2 (aF n (43, y30.2.2.1, y30.2.1, y30.2.2.1, y30.2.2.2.1, y30.2.2.2.2.1, y30.2.2.2.2.2.1, ())) (fun y31 =>
           none) (fun y31 =>
           some (.inr (y31.1, y31.2.1, y31.2.2.1, y31.2.2.2.1, y31.2.2.2.2.1, y31.2.2.2.2.2.1, y31.2.2.2.2.2.2.1, ())))) (
          ob (aR n ([92, 123], y30.2.1, y30.2.2.1, y30.2.2.2.1, y30.2.2.2.2.1, y30.2.2.2.2.2.1, ())) fun y32 =>
          br y32.1 (
           ob2 (aF n (43, y32.2.2.1, y32.2.1, y32.2.2.1, y32.2.2.2.1, y32.2.2.2.2.1, y32.2.2.2.2.2.1, ())) (fun y33 =>
            none) (fun y33 =>
            some (.inr (y33.1, y33.2.1, y33.2.2.1, y33.2.2.2.1, y33.2.2.2.2.1, y33.2.2.2.2.2.1, y33.2.2.2.2.2.2.1, ())))) (
           some (.inl (y29.1, y32.2.1, y32.2.2.1, y32.2.2.2.1, y32.2.2.2.2.1, y32.2.2.2.2.2.1, ())))))))))) (
    br (y14.1 == (-1)) (
     ob2 (aF n (43, at3, y15.2.1, y15.2.2.1, y15.2.2.2.1, y15.2.2.2.2.1, y15.2.2.2.2.2.1, ())) (fun y34 =>
      none) (fun y34 =>
      some (.inr (y34.1, y34.2.1, y34.2.2.1, y34.2.2.2.1, y34.2.2.2.2.1, y34.2.2.2.2.2.1, y34.2.2.2.2.2.2.1, ())))) (
     ob (bN n ([92, 125], y15.2.1, y15.2.2.1, y15.2.2.2.1, y15.2.2.2.2.1, y15.2.2.2.2.2.1, ())) fun y35 =>
     br (!y35.1) (
      ob2 (aF n (43, at3, y35.2.1, y35.2.2.1, y35.2.2.2.1, y35.2.2.2.2.1, y35.2.2.2.2.2.1, ())) (fun y36 =>
       none) (fun y36 =>
       some (.inr (y36.1, y36.2.1, y36.2.2.1, y36.2.2.2.1, y36.2.2.2.2.1, y36.2.2.2.2.2.1, y36.2.2.2.2.2.2.1, ())))) (
      br (decide (y14.1 > 255)) (
       ob2 (aF n (43, at3, y35.2.1, y35.2.2.1, y35.2.2.2.1, y35.2.2.2.2.1, y35.2.2.2.2.2.1, ())) (fun y37 =>
        none) (fun y37 =>
        some (.inr (y37.1, y37.2.1, y37.2.2.1, y37.2.2.2.1, y37.2.2.2.2.1, y37.2.2.2.2.2.1, y37.2.2.2.2.2.2.1, ())))) (
       br (decide (y14.1 > 255)) (
        ob2 (aF n (43, at3, y35.2.1, y35.2.2.1, y35.2.2.2.1, y35.2.2.2.2.1, y35.2.2.2.2.2.1, ())) (fun y38 =>
         none) (fun y38 =>
         some (.inr (y38.1, y38.2.1, y38.2.2.1, y38.2.2.2.1, y38.2.2.2.2.1, y38.2.2.2.2.2.1, y38.2.2.2.2.2.2.1, ())))) (
        br (y14.1 != (-1)) (
         let v39 : Int := if 1 > y14.1 then 1 else y14.1
         br (decide (y14.1 < v39)) (
          ob2 (aF n (43, at3, y35.2.1, y35.2.2.1, y35.2.2.2.1, y35.2.2.2.2.1, y35.2.2.2.2.2.1, ())) (fun y40 =>
           none) (fun y40 =>
           some (.inr (y40.1, y40.2.1, y40.2.2.1, y40.2.2.2.1, y40.2.2.2.2.1, y40.2.2.2.2.2.1, y40.2.2.2.2.2.2.1, ())))) (
          ob (bH n (6, [0, 0, 0, 0], Oc, 0, y14.1, y14.1, 0, y35.2.1, y35.2.2.1, y35.2.2.2.1, y35.2.2.2.2.1, y35.2.2.2.2.2.1, ())) fun y41 =>
          ob (aR n ([42], y41.2.1, y41.2.2.1, y41.2.2.2.1, y41.2.2.2.2.1, y41.2.2.2.2.2.1, ())) fun y42 =>
          br y42.1 (
           ob2 (aF n (43, y42.2.2.1, y42.2.1, y42.2.2.1, y42.2.2.2.1, y42.2.2.2.2.1, y42.2.2.2.2.2.1, ())) (fun y43 =>
            none) (fun y43 =>
            some (.inr (y43.1, y43.2.1, y43.2.2.1, y43.2.2.2.1, y43.2.2.2.2.1, y43.2.2.2.2.2.1, y43.2.2.2.2.2.2.1, ())))) (
           ob (aR n ([92, 123], y42.2.1, y42.2.2.1, y42.2.2.2.1, y42.2.2.2.2.1, y42.2.2.2.2.2.1, ())) fun y44 =>
           br y44.1 (
            ob2 (aF n (43, y44.2.2.1, y44.2.1, y44.2.2.1, y44.2.2.2.1, y44.2.2.2.2.1, y44.2.2.2.2.2.1, ())) (fun y45 =>
             none) (fun y45 =>
             some (.inr (y45.1, y45.2.1, y45.2.2.1, y45.2.2.2.1, y45.2.2.2.2.1, y45.2.2.2.2.2.1, y45.2.2.2.2.2.2.1, ())))) (
            some (.inl (y41.1, y44.2.1, y44.2.2.1, y44.2.2.2.1, y44.2.2.2.2.1, y44.2.2.2.2.2.1, ())))))) (
         ob (bH n (6, [0, 0, 0, 0], Oc, 0, y14.1, y14.1, 0, y35.2.1, y35.2.2.1, y35.2.2.2.1, y35.2.2.2.2.1, y35.2.2.2.2.2.1, ())) fun y46 =>
         ob (aR n ([42], y46.2.1, y46.2.2.1, y46.2.2.2.1, y46.2.2.2.2.1, y46.2.2.2.2.2.1, ())) fun y47 =>
         br y47.1 (
          ob2 (aF n (43, y47.2.2.1, y47.2.1, y47.2.2.1, y47.2.2.2.1, y47.2.2.2.2.1, y47.2.2.2.2.2.1, ())) (fun y48 =>
           none) (fun y48 =>
           some (.inr (y48.1, y48.2.1, y48.2.2.1, y48.2.2.2.1, y48.2.2.2.2.1, y48.2.2.2.2.2.1, y48.2.2.2.2.2.2.1, ())))) (
          ob (aR n ([92, 123], y47.2.1, y47.2.2.1, y47.2.2.2.1, y47.2.2.2.2.1, y47.2.2.2.2.2.1, ())) fun y49 =>
          br y49.1 (
           ob2 (aF n (43, y49.2.2.1, y49.2.1, y49.2.2.1, y49.2.2.2.1, y49.2.2.2.2.1, y49.2.2.2.2.2.1, ())) (fun y50 =>
            none) (fun y50 =>
            some (.inr (y50.1, y50.2.1, y50.2.2.1, y50.2.2.2.1, y50.2.2.2.2.1, y50.2.2.2.2.2.1, y50.2.2.2.2.2.2.1, ())))) (
           some (.inl (y46.1, y49.2.1, y49.2.2.1, y49.2.2.2.1, y49.2.2.2.2.1, y49.2.2.2.2.2.1, ()))))))))))))
def lY (n : Nat) (aJ : (eX) -> Option oD) (x : Int × eX) : Option oD :=
 let Wv : Int := x.1
 let s2 : List UInt8 := x.2.1
 let at3 : Int := x.2.2.1
 let dN : Int := x.2.2.2.1
 let dO : List (Bool) := x.2.2.2.2.1
 let aN : List (NdT) := x.2.2.2.2.2.1
 br (dN == 9) (
  ob2 (aF n (41, Wv, s2, at3, dN, dO, aN, ())) (fun y7 =>
   none) (fun y7 =>
   some (.inr (y7.1, y7.2.1, y7.2.2.1, y7.2.2.2.1, y7.2.2.2.2.1, y7.2.2.2.2.2.1, y7.2.2.2.2.2.2.1, ())))) (
  let v8 : Int := IntKind.wrap .i64 (dN + 1)
  ob2 (aJ (s2, at3, v8, dO, aN, ())) (fun y9 =>
   br (y9.1 == (-1)) (
    ob2 (aF n (41, Wv, y9.2.1, y9.2.2.1, y9.2.2.2.1, y9.2.2.2.2.1, y9.2.2.2.2.2.1, ())) (fun y10 =>
     none) (fun y10 =>
     some (.inr (y10.1, y10.2.1, y10.2.2.1, y10.2.2.2.1, y10.2.2.2.2.1, y10.2.2.2.2.2.1, y10.2.2.2.2.2.2.1, ())))) (
    ob (bN n ([92, 41], y9.2.1, y9.2.2.1, y9.2.2.2.1, y9.2.2.2.2.1, y9.2.2.2.2.2.1, ())) fun y11 =>
    br (!y11.1) (
     ob2 (aF n (41, Wv, y11.2.1, y11.2.2.1, y11.2.2.2.1, y11.2.2.2.2.1, y11.2.2.2.2.2.1, ())) (fun y12 =>
      none) (fun y12 =>
      some (.inr (y12.1, y12.2.1, y12.2.2.1, y12.2.2.2.1, y12.2.2.2.2.1, y12.2.2.2.2.2.1, y12.2.2.2.2.2.2.1, ())))) (
     chk (inB v8 10) (
      chk (decide (v8.toNat < 10)) (
       ob (bH n (7, [0, 0, 0, 0], y9.1, 0, 0, 0, v8, y11.2.1, y11.2.2.1, y11.2.2.2.1, y11.2.2.2.2.1.set (v8.toNat) true, y11.2.2.2.2.2.1, ())) fun y13 =>
       some (.inl (y13.1, y13.2.1, y13.2.2.1, y13.2.2.2.1, y13.2.2.2.2.1, y13.2.2.2.2.2.1, ()))))))) (fun y9 =>
   some (.inr (y9.1, y9.2.1, y9.2.2.1, y9.2.2.2.1, y9.2.2.2.2.1, y9.2.2.2.2.2.1, y9.2.2.2.2.2.2.1, ()))))
def nO (n : Nat) (aJ : (eX) -> Option oD) (x : Bool × eX) : Option oD :=
 let vK : Bool := x.1
 let s2 : List UInt8 := x.2.1
 let at3 : Int := x.2.2.1
 let dN : Int := x.2.2.2.1
 let dO : List (Bool) := x.2.2.2.2.1
 let aN : List (NdT) := x.2.2.2.2.2.1
 let v7 : Int := IntKind.wrap .i64 (at3 + 1)
 br (v7 == (s2.length : Int)) (
  ob2 (aF n (40, at3, s2, v7, dN, dO, aN, ())) (fun y8 =>
   none) (fun y8 =>
   some (.inr (y8.1, y8.2.1, y8.2.2.1, y8.2.2.2.1, y8.2.2.2.2.1, y8.2.2.2.2.2.1, y8.2.2.2.2.2.2.1, ())))) (
  chk (inB v7 s2.length) (
   let v9 : Int := ((aQ 0 s2 v7).toNat : Int)
   let v10 : Int := IntKind.wrap .i64 (v7 + 1)
   br (v9 == 40) (
    ob2 (lY n aJ (at3, s2, v10, dN, dO, aN, ())) (fun y11 =>
     some (.inl (y11.1, y11.2.1, y11.2.2.1, y11.2.2.2.1, y11.2.2.2.2.1, y11.2.2.2.2.2.1, ()))) (fun y11 =>
     some (.inr (y11.1, y11.2.1, y11.2.2.1, y11.2.2.2.1, y11.2.2.2.2.1, y11.2.2.2.2.2.1, y11.2.2.2.2.2.2.1, ())))) (
    br (decide (v9 ≥ 49)) (
     br (decide (v9 <= 57)) (
      let v12 : Int := IntKind.wrap .u8 (v9 - 48)
      chk (inB (IntKind.wrap .i64 v12) 10) (
       chk (decide ((IntKind.wrap .i64 v12).toNat < 10)) (
        br (!(dO.getD ((IntKind.wrap .i64 v12).toNat) (Ty.dflt .bool))) (
         ob2 (aF n (44, at3, s2, v10, dN, dO, aN, ())) (fun y13 =>
          none) (fun y13 =>
          some (.inr (y13.1, y13.2.1, y13.2.2.1, y13.2.2.2.1, y13.2.2.2.2.1, y13.2.2.2.2.2.1, y13.2.2.2.2.2.2.1, ())))) (
         ob (bH n (8, [0, 0, 0, 0], 0, 0, 0, 0, IntKind.wrap .i64 v12, s2, v10, dN, dO, aN, ())) fun y14 =>
         some (.inl (y14.1, y14.2.1, y14.2.2.1, y14.2.2.2.1, y14.2.2.2.2.1, y14.2.2.2.2.2.1, ())))))) (
      br (v9 == 110) (
       ob (nN n [10]) fun y15 =>
       ob (bU n (y15, s2, v10, dN, dO, aN, ())) fun y16 =>
       some (.inl (y16.1, y16.2.1, y16.2.2.1, y16.2.2.2.1, y16.2.2.2.2.1, y16.2.2.2.2.2.1, ()))) (
       ob (strings_IndexByte n ([46, 91, 92, 42, 94, 36, 47], v9)) fun y17 =>
       br (decide (y17 ≥ 0)) (
        ob (bQ n (v9, v9)) fun y18 =>
        ob (bU n (y18, s2, v10, dN, dO, aN, ())) fun y19 =>
        some (.inl (y19.1, y19.2.1, y19.2.2.1, y19.2.2.2.1, y19.2.2.2.2.1, y19.2.2.2.2.2.1, ()))) (
        br (v9 == 123) (
         br vK (
          ob2 (aF n (43, at3, s2, v10, dN, dO, aN, ())) (fun y20 =>
           none) (fun y20 =>
           some (.inr (y20.1, y20.2.1, y20.2.2.1, y20.2.2.2.1, y20.2.2.2.2.1, y20.2.2.2.2.2.1, y20.2.2.2.2.2.2.1, ())))) (
          ob2 (aF n (40, at3, s2, v10, dN, dO, aN, ())) (fun y21 =>
           none) (fun y21 =>
           some (.inr (y21.1, y21.2.1, y21.2.2.1, y21.2.2.2.1, y21.2.2.2.2.1, y21.2.2.2.2.2.1, y21.2.2.2.2.2.2.1, ()))))) (
         ob2 (aF n (40, at3, s2, v10, dN, dO, aN, ())) (fun y22 =>
          none) (fun y22 =>
          some (.inr (y22.1, y22.2.1, y22.2.2.1, y22.2.2.2.1, y22.2.2.2.2.1, y22.2.2.2.2.2.1, y22.2.2.2.2.2.2.1, ())))))))) (
     br (v9 == 110) (
      ob (nN n [10]) fun y23 =>
      ob (bU n (y23, s2, v10, dN, dO, aN, ())) fun y24 =>
      some (.inl (y24.1, y24.2.1, y24.2.2.1, y24.2.2.2.1, y24.2.2.2.2.1, y24.2.2.2.2.2.1, ()))) (
      ob (strings_IndexByte n ([46, 91, 92, 42, 94, 36, 47], v9)) fun y25 =>
      br (decide (y25 ≥ 0)) (
       ob (bQ n (v9, v9)) fun y26 =>
       ob (bU n (y26, s2, v10, dN, dO, aN, ())) fun y27 =>
       some (.inl (y27.1, y27.2.1, y27.2.2.1, y27.2.2.2.1, y27.2.2.2.2.1, y27.2.2.2.2.2.1, ()))) (
       br (v9 == 123) (
        br vK (
         ob2 (aF n (43, at3, s2, v10, dN, dO, aN, ())) (fun y28 =>
          none) (fun y28 =>
          some (.inr (y28.1, y28.2.1, y28.2.2.1, y28.2.2.2.1, y28.2.2.2.2.1, y28.2.2.2.2.2.1, y28.2.2.2.2.2.2.1, ())))) (
         ob2 (aF n (40, at3, s2, v10, dN, dO, aN, ())) (fun y29 =>
          none) (fun y29 =>
          some (.inr (y29.1, y29.2.1, y29.2.2.1, y29.2.2.2.1, y29.2.2.2.2.1, y29.2.2.2.2.2.1, y29.2.2.2.2.2.2.1, ()))))) (
        ob2 (aF n (40, at3, s2, v10, dN, dO, aN, ())) (fun y30 =>
         none) (fun y30 =>
         some (.inr (y30.1, y30.2.1, y30.2.2.1, y30.2.2.2.1, y30.2.2.2.2.1, y30.2.2.2.2.2.1, y30.2.2.2.2.2.2.1, ()))))))))))
def nP (n : Nat) (aJ : (eX) -> Option oD) (x : Bool × eX) : Option oD :=
 let vK : Bool := x.1
 let s2 : List UInt8 := x.2.1
 let at3 : Int := x.2.2.1
 let dN : Int := x.2.2.2.1
 let dO : List (Bool) := x.2.2.2.2.1
 let aN : List (NdT) := x.2.2.2.2.2.1
 ob (bN n ([46], s2, at3, dN, dO, aN, ())) fun y7 =>
 br y7.1 (
  ob (Aq n ([0, 0, 0, 0])) fun y8 =>
  ob (bU n (y8, y7.2.1, y7.2.2.1, y7.2.2.2.1, y7.2.2.2.2.1, y7.2.2.2.2.2.1, ())) fun y9 =>
  some (.inl (y9.1, y9.2.1, y9.2.2.1, y9.2.2.2.1, y9.2.2.2.2.1, y9.2.2.2.2.2.1, ()))) (
  ob (aR n ([91], y7.2.1, y7.2.2.1, y7.2.2.2.1, y7.2.2.2.2.1, y7.2.2.2.2.2.1, ())) fun y10 =>
  br y10.1 (
   chk ((decide (0 <= y10.2.2.1) && decide (y10.2.2.1 <= (y10.2.1.length : Int)))) (
    let v11 : List UInt8 := y10.2.1.drop y10.2.2.1.toNat
    ob (oG n v11) fun y12 =>
    br (y12.2.2 != 0) (
     ob2 (aF n (y12.2.2, y10.2.2.1, y10.2.1, y10.2.2.1, y10.2.2.2.1, y10.2.2.2.2.1, y10.2.2.2.2.2.1, ())) (fun y13 =>
      none) (fun y13 =>
      some (.inr (y13.1, y13.2.1, y13.2.2.1, y13.2.2.2.1, y13.2.2.2.2.1, y13.2.2.2.2.2.1, y13.2.2.2.2.2.2.1, ())))) (
     let v14 : Int := IntKind.wrap .i64 (y10.2.2.1 + y12.2.1)
     ob (bU n (y12.1, y10.2.1, v14, y10.2.2.2.1, y10.2.2.2.2.1, y10.2.2.2.2.2.1, ())) fun y15 =>
     some (.inl (y15.1, y15.2.1, y15.2.2.1, y15.2.2.2.1, y15.2.2.2.2.1, y15.2.2.2.2.2.1, ()))))) (
   ob (aR n ([92], y10.2.1, y10.2.2.1, y10.2.2.2.1, y10.2.2.2.2.1, y10.2.2.2.2.2.1, ())) fun y16 =>
   br y16.1 (
    ob2 (nO n aJ (vK, y16.2.1, y16.2.2.1, y16.2.2.2.1, y16.2.2.2.2.1, y16.2.2.2.2.2.1, ())) (fun y17 =>
     some (.inl (y17.1, y17.2.1, y17.2.2.1, y17.2.2.2.1, y17.2.2.2.2.1, y17.2.2.2.2.2.1, ()))) (fun y17 =>
     some (.inr (y17.1, y17.2.1, y17.2.2.1, y17.2.2.2.1, y17.2.2.2.2.1, y17.2.2.2.2.2.1, y17.2.2.2.2.2.2.1, ())))) (
    let v18 : Int := IntKind.wrap .i64 (y16.2.2.1 + 1)
    let v19 : Int := IntKind.wrap .i64 (v18 - 1)
    chk ((decide (0 <= v18) && decide (v18 <= (y16.2.1.length : Int)) && (decide (0 <= v19) && decide (v19 <= v18)))) (
     let v20 : List UInt8 := (y16.2.1.take v18.toNat).drop v19.toNat
     ob (nN n v20) fun y21 =>
     ob (bU n (y21, y16.2.1, v18, y16.2.2.2.1, y16.2.2.2.2.1, y16.2.2.2.2.2.1, ())) fun y22 =>
     some (.inl (y22.1, y22.2.1, y22.2.2.1, y22.2.2.2.1, y22.2.2.2.2.1, y22.2.2.2.2.2.1, ()))))))
def kU (n : Nat) (g1 : Int × Int × List UInt8 × Int × Int × List (Bool) × List (NdT) × List (Int) × Unit -> Option oD) (x50 : Int × Int × List UInt8 × Int × Int × List (Bool) × List (NdT) × List (Int) × Unit) : Option oD :=
 let zKp : Int := x50.1
 let zCo : Int := x50.2.1
 let s53 : List UInt8 := x50.2.2.1
 let zSi : Int := x50.2.2.2.1
 let zGc : Int := x50.2.2.2.2.1
 let zGd : List (Bool) := x50.2.2.2.2.2.1
 let zPa : List (NdT) := x50.2.2.2.2.2.2.1
 let Od : List (Int) := x50.2.2.2.2.2.2.2.1
 br (decide (zCo ≥ 0)) (
  chk ((inB zCo (Od.length) && decide (0 + (Od.length) <= Od.length))) (
   chk (decide (0 + zCo.toNat < Od.length)) (
    let v59 : Int := Od.getD (0 + zCo.toNat) (Ty.dflt (.int .i64))
    ob (bH n (4, [0, 0, 0, 0], v59, zKp, 0, 0, 0, s53, zSi, zGc, zGd, zPa, ())) fun y60 =>
    let v61 : Int := IntKind.wrap .i64 (zCo - 1)
    g1 (y60.1, v61, y60.2.1, y60.2.2.1, y60.2.2.2.1, y60.2.2.2.2.1, y60.2.2.2.2.2.1, Od, ())))) (
  some (.inl (zKp, s53, zSi, zGc, zGd, zPa, ())))
def kV (n : Nat) (x37 : List UInt8 × Int × Int × List (Bool) × List (NdT) × List (Int) × Unit) : Option oD :=
 let s38 : List UInt8 := x37.1
 let zSj : Int := x37.2.1
 let zGe : Int := x37.2.2.1
 let zGf : List (Bool) := x37.2.2.2.1
 let zPb : List (NdT) := x37.2.2.2.2.1
 let Ad : List (Int) := x37.2.2.2.2.2.1
 let v44 : Int := ((Ad.length : Nat) : Int)
 br (v44 == 0) (
  some (.inl ((-1), s38, zSj, zGe, zGf, zPb, ()))) (
  let v45 : Int := ((Ad.length : Nat) : Int)
  let v46 : Int := IntKind.wrap .i64 (v45 - 1)
  chk ((inB v46 (Ad.length) && decide (0 + (Ad.length) <= Ad.length))) (
   chk (decide (0 + v46.toNat < Ad.length)) (
    let v47 : Int := Ad.getD (0 + v46.toNat) (Ty.dflt (.int .i64))
    let v48 : Int := ((Ad.length : Nat) : Int)
    let v49 : Int := IntKind.wrap .i64 (v48 - 2)
    fix (kU n) n (v47, v49, s38, zSj, zGe, zGf, zPb, Ad, ()))))
def eY (n : Nat) (aJ : (eX) -> Option oD) (g0 : Bool × List UInt8 × Int × Int × List (Bool) × List (NdT) × List (Int) × Unit -> Option oD) (x26 : Bool × Bool × List UInt8 × Int × Int × List (Bool) × List (NdT) × List (Int) × Unit) : Option oD :=
 let zNk : Bool := x26.1
 let zSk : Bool := x26.2.1
 let s29 : List UInt8 := x26.2.2.1
 let zSl : Int := x26.2.2.2.1
 let zGg : Int := x26.2.2.2.2.1
 let zGh : List (Bool) := x26.2.2.2.2.2.1
 let zPc : List (NdT) := x26.2.2.2.2.2.2.1
 let zAn : List (Int) := x26.2.2.2.2.2.2.2.1
 br zSk (
  let v35 : Int := IntKind.wrap .i64 (zSl + 1)
  ob (bH n (3, [0, 0, 0, 0], 0, 0, 0, 0, 0, s29, v35, zGg, zGh, zPc, ())) fun y36 =>
  chk (Nat.ble ((zAn.length + ([y36.1] : List (Int)).length) * 8) room) (
   jn (kV n) (y36.2.1, y36.2.2.1, y36.2.2.2.1, y36.2.2.2.2.1, y36.2.2.2.2.2.1, zAn ++ [y36.1], ()))) (
  ob2 (nP n aJ (zNk, s29, zSl, zGg, zGh, zPc, ())) (fun y62 =>
   ob2 (lX n (y62.1, y62.2.1, y62.2.2.1, y62.2.2.2.1, y62.2.2.2.2.1, y62.2.2.2.2.2.1, ())) (fun y63 =>
    chk (Nat.ble ((zAn.length + ([y63.1] : List (Int)).length) * 8) room) (
     g0 (false, y63.2.1, y63.2.2.1, y63.2.2.2.1, y63.2.2.2.2.1, y63.2.2.2.2.2.1, zAn ++ [y63.1], ()))) (fun y63 =>
    some (.inr (y63.1, y63.2.1, y63.2.2.1, y63.2.2.2.1, y63.2.2.2.2.1, y63.2.2.2.2.2.1, y63.2.2.2.2.2.2.1, ())))) (fun y62 =>
   some (.inr (y62.1, y62.2.1, y62.2.2.1, y62.2.2.2.1, y62.2.2.2.2.1, y62.2.2.2.2.2.1, y62.2.2.2.2.2.2.1, ()))))
def iO (n : Nat) (aJ : (eX) -> Option oD) (g0 : Bool × List UInt8 × Int × Int × List (Bool) × List (NdT) × List (Int) × Unit -> Option oD) (x15 : Bool × List UInt8 × Int × Int × List (Bool) × List (NdT) × List (Int) × Unit) : Option oD :=
 let Qz : Bool := x15.1
 let s17 : List UInt8 := x15.2.1
 let zVq : Int := x15.2.2.1
 let zQe : Int := x15.2.2.2.1
 let zQf : List (Bool) := x15.2.2.2.2.1
 let zTu : List (NdT) := x15.2.2.2.2.2.1
 let zAo : List (Int) := x15.2.2.2.2.2.2.1
 ob (kP n (s17, zVq, zQe, zQf, zTu, ())) fun y23 =>
 br (!y23.1) (
  ob (aR n ([36], y23.2.1, y23.2.2.1, y23.2.2.2.1, y23.2.2.2.2.1, y23.2.2.2.2.2.1, ())) fun y24 =>
  br y24.1 (
   let v25 : Int := IntKind.wrap .i64 (y24.2.2.1 + 1)
   br (v25 == (y24.2.1.length : Int)) (
    jn (eY n aJ g0) (Qz, true, y24.2.1, y24.2.2.1, y24.2.2.2.1, y24.2.2.2.2.1, y24.2.2.2.2.2.1, zAo, ())) (
    ob (aR n ([36, 92, 41], y24.2.1, y24.2.2.1, y24.2.2.2.1, y24.2.2.2.2.1, y24.2.2.2.2.2.1, ())) fun y64 =>
    jn (eY n aJ g0) (Qz, y64.1, y64.2.1, y64.2.2.1, y64.2.2.2.1, y64.2.2.2.2.1, y64.2.2.2.2.2.1, zAo, ()))) (
   jn (eY n aJ g0) (Qz, false, y24.2.1, y24.2.2.1, y24.2.2.2.1, y24.2.2.2.2.1, y24.2.2.2.2.2.1, zAo, ()))) (
  jn (kV n) (y23.2.1, y23.2.2.1, y23.2.2.2.1, y23.2.2.2.2.1, y23.2.2.2.2.2.1, zAo, ()))
def kW (n : Nat) (aJ : (eX) -> Option oD) (x8 : List UInt8 × Int × Int × List (Bool) × List (NdT) × List (Int) × Unit) : Option oD :=
 let s9 : List UInt8 := x8.1
 let zVr : Int := x8.2.1
 let zQg : Int := x8.2.2.1
 let zQh : List (Bool) := x8.2.2.2.1
 let Dp : List (NdT) := x8.2.2.2.2.1
 let zTv : List (Int) := x8.2.2.2.2.2.1
 fix (iO n aJ) n (true, s9, zVr, zQg, zQh, Dp, zTv, ())
def mM (n : Nat) (aJ : (eX) -> Option oD) (x : eX) : Option oD :=
 let s1 : List UInt8 := x.1
 let at2 : Int := x.2.1
 let Fe : Int := x.2.2.1
 let Fg : List (Bool) := x.2.2.2.1
 let lV : List (NdT) := x.2.2.2.2.1
 ob (bN n ([94], s1, at2, Fe, Fg, lV, ())) fun y6 =>
 br y6.1 (
  ob (bH n (2, [0, 0, 0, 0], 0, 0, 0, 0, 0, y6.2.1, y6.2.2.1, y6.2.2.2.1, y6.2.2.2.2.1, y6.2.2.2.2.2.1, ())) fun y7 =>
  chk (Nat.ble (([y7.1] : List (Int)).length * 8) room) (
   jn (kW n aJ) (y7.2.1, y7.2.2.1, y7.2.2.2.1, y7.2.2.2.2.1, y7.2.2.2.2.2.1, [y7.1], ()))) (
  jn (kW n aJ) (y6.2.1, y6.2.2.1, y6.2.2.2.1, y6.2.2.2.2.1, y6.2.2.2.2.2.1, [], ()))
def gH (n : Nat) : (eX) -> Option oD :=
 Dy (fun n r x => mM n r x) n
def tT (n : Nat) (x : List UInt8 × eX) : Option (Sum (List UInt8 × eX) (Int × Int × List UInt8 × eX)) :=
 let b1 : List UInt8 := x.1
 let s2 : List UInt8 := x.2.1
 let at3 : Int := x.2.2.1
 let dN : Int := x.2.2.2.1
 let dO : List (Bool) := x.2.2.2.2.1
 let aN : List (NdT) := x.2.2.2.2.2.1
 ob2 (gH n (s2, at3, dN, dO, aN, ())) (fun y7 =>
  br (decide (y7.2.2.1 < (b1.length : Int))) (
   ob2 (aF n (41, y7.2.2.1, y7.2.1, y7.2.2.1, y7.2.2.2.1, y7.2.2.2.2.1, y7.2.2.2.2.2.1, ())) (fun y8 =>
    none) (fun y8 =>
    some (.inr (y8.1, y8.2.1, b1, y8.2.2.1, y8.2.2.2.1, y8.2.2.2.2.1, y8.2.2.2.2.2.1, y8.2.2.2.2.2.2.1, ())))) (
   let v9 : Int := ((y7.2.2.2.2.2.1.length : Nat) : Int)
   br (decide (v9 > 120)) (
    ob2 (aF n (2, 0, y7.2.1, y7.2.2.1, y7.2.2.2.1, y7.2.2.2.2.1, y7.2.2.2.2.2.1, ())) (fun y10 =>
     none) (fun y10 =>
     some (.inr (y10.1, y10.2.1, b1, y10.2.2.1, y10.2.2.2.1, y10.2.2.2.2.1, y10.2.2.2.2.2.1, y10.2.2.2.2.2.2.1, ())))) (
    some (.inl (b1, y7.2.1, y7.2.2.1, y7.2.2.2.1, y7.2.2.2.2.1, y7.2.2.2.2.2.1, ()))))) (fun y7 =>
  some (.inr (y7.1, y7.2.1, b1, y7.2.2.1, y7.2.2.2.1, y7.2.2.2.2.1, y7.2.2.2.2.2.1, y7.2.2.2.2.2.2.1, ())))
def fH (n : Nat) (x : List UInt8 × eX) : Option (Int × Int × List UInt8 × eX) := ob2 (tT n x) (fun y => some (0, 0, y)) (fun y => some y)
def jU (n : Nat) (x : List UInt8) : Option (List (NdT) × Int × Int) :=
 let s_0 : List UInt8 := x
 br (s_0 == []) (
  some ([(0, ([0, 0, 0, 0], (0, (0, (0, (0, (0, ())))))))], 0, 0)) (
  ob (fH n (s_0, s_0, 0, 0, [false, false, false, false, false, false, false, false, false, false], [], ())) fun y1 =>
  br (y1.1 != 0) (
   some ([], y1.2.1, y1.1)) (
   some (y1.2.2.2.2.2.2.2.1, 0, 0)))
def gD (n : Nat) (x : Int × List (Int) × Int × Int × Int × Int × Int × Unit) : Option (Int) :=
 let n_0 : Int × List (Int) × Int × Int × Int × Int × Int × Unit := x
 br (n_0.1 == 4) (
  br (n_0.1 == 4) (
   some 2) (
   br (n_0.1 == 6) (
    br (n_0.1 == 6) (
     some 1) (
     some 0)) (
    br (n_0.1 == 7) (
     some 1) (
     some 0)))) (
  br (n_0.1 == 5) (
   some 2) (
   br (n_0.1 == 6) (
    br (n_0.1 == 6) (
     some 1) (
     some 0)) (
    br (n_0.1 == 7) (
     some 1) (
     some 0))))
def bJ (n : Nat) (x : Int × List (Int) × Int × Int × Int × Int × Int × Unit) : Option (NdT) :=
 let n_0 : Int × List (Int) × Int × Int × Int × Int × Int × Unit := x
 br (n_0.1 == 1) (
  some (n_0.1, (n_0.2.1, (0, (0, (0, (0, (0, ())))))))) (
  br (n_0.1 == 4) (
   br (n_0.1 == 4) (
    some (n_0.1, ([0, 0, 0, 0], (n_0.2.2.1, (n_0.2.2.2.1, (0, (0, (0, ())))))))) (
    br (n_0.1 == 6) (
     some (n_0.1, ([0, 0, 0, 0], (n_0.2.2.1, (0, (n_0.2.2.2.2.1, (n_0.2.2.2.2.2.1, (0, ())))))))) (
     br (n_0.1 == 7) (
      some (n_0.1, ([0, 0, 0, 0], (n_0.2.2.1, (0, (0, (0, n_0.2.2.2.2.2.2))))))) (
      br (n_0.1 == 8) (
       some (n_0.1, ([0, 0, 0, 0], (0, (0, (0, (0, n_0.2.2.2.2.2.2))))))) (
       some (n_0.1, ([0, 0, 0, 0], (0, (0, (0, (0, (0, ())))))))))))) (
   br (n_0.1 == 5) (
    some (n_0.1, ([0, 0, 0, 0], (n_0.2.2.1, (n_0.2.2.2.1, (0, (0, (0, ())))))))) (
    br (n_0.1 == 6) (
     some (n_0.1, ([0, 0, 0, 0], (n_0.2.2.1, (0, (n_0.2.2.2.2.1, (n_0.2.2.2.2.2.1, (0, ())))))))) (
     br (n_0.1 == 7) (
      some (n_0.1, ([0, 0, 0, 0], (n_0.2.2.1, (0, (0, (0, n_0.2.2.2.2.2.2))))))) (
      br (n_0.1 == 8) (
       some (n_0.1, ([0, 0, 0, 0], (0, (0, (0, (0, n_0.2.2.2.2.2.2))))))) (
       some (n_0.1, ([0, 0, 0, 0], (0, (0, (0, (0, (0, ())))))))))))))
def oH (n : Nat) (x : Int × List (Int) × Int × Int × Int × Int × Int × Unit) : Option (Bool) :=
 let n_0 : Int × List (Int) × Int × Int × Int × Int × Int × Unit := x
 br (decide (n_0.1 < 0)) (
  some false) (
  br (decide (n_0.1 > 8)) (
   some false) (
   ob (bJ n n_0) fun y1 =>
   br (!(Ty.beq aB n_0 y1)) (
    some false) (
    br (n_0.1 == 1) (
     some (!(Ty.beq (.arr 4 (.int .u64)) n_0.2.1 ([0, 0, 0, 0])))) (
     br (n_0.1 == 6) (
      br (decide (n_0.2.2.2.2.1 ≥ 0)) (
       br (decide (n_0.2.2.2.2.1 <= 255)) (
        br (n_0.2.2.2.2.2.1 == (-1)) (
         some true) (
         let v2 : Int := if 1 > n_0.2.2.2.2.1 then 1 else n_0.2.2.2.2.1
         br (decide (n_0.2.2.2.2.2.1 ≥ v2)) (
          some (decide (n_0.2.2.2.2.2.1 <= 255))) (
          some false))) (
        some false)) (
       some false)) (
      br (n_0.1 == 7) (
       br (n_0.1 == 7) (
        br (decide (n_0.2.2.2.2.2.2.1 ≥ 1)) (
         some (decide (n_0.2.2.2.2.2.2.1 <= 9))) (
         some false)) (
        some true)) (
       br (n_0.1 == 8) (
        br (decide (n_0.2.2.2.2.2.2.1 ≥ 1)) (
         some (decide (n_0.2.2.2.2.2.2.1 <= 9))) (
         some false)) (
        some true)))))))
def Ec (n : Nat) (g0 : List (Int) × Int × Int × Int × Unit -> Option (Int)) (x1 : List (Int) × Int × Int × Int × Unit) : Option (Int) :=
 let s_2 : List (Int) := x1.1
 let v_3 : Int := x1.2.1
 let mW : Int := x1.2.2.1
 let zCp : Int := x1.2.2.2.1
 br (decide (zCp < mW)) (
  chk (inB zCp s_2.length) (
   let v6 : Int := aQ (Ty.dflt (.int .i64)) s_2 zCp
   br (v_3 == v6) (
    some zCp) (
    let v7 : Int := IntKind.wrap .i64 (zCp + 1)
    g0 (s_2, v_3, mW, v7, ())))) (
  some (-1))
def uY (n : Nat) (x : List (Int) × Int) : Option (Int) :=
 let s_0 : List (Int) := x.1
 let v_1 : Int := x.2
 fix (Ec n) n (s_0, v_1, (s_0.length : Int), 0, ())
def mO (n : Nat) (x : List (Int) × Int) : Option (Bool) :=
 let s_0 : List (Int) := x.1
 let v_1 : Int := x.2
 ob (uY n (s_0, v_1)) fun y1 =>
 some (decide (y1 ≥ 0))
def iX (n : Nat) (x : List (NdT) × Int × List (Int) × Int × Int × Int × Int × Int × Unit) : Option (Bool) :=
 let l_0 : List (NdT) := x.1
 let n_1 : Int × List (Int) × Int × Int × Int × Int × Int × Unit := x.2
 br (n_1.1 == 4) (
  chk (inB n_1.2.2.1 l_0.length) (
   let v1 : Int × List (Int) × Int × Int × Int × Int × Int × Unit := aQ (Ty.dflt aB) l_0 n_1.2.2.1
   br (v1.1 != 4) (
    chk (inB n_1.2.2.1 l_0.length) (
     let v2 : Int × List (Int) × Int × Int × Int × Int × Int × Unit := aQ (Ty.dflt aB) l_0 n_1.2.2.1
     br (v2.1 != 5) (
      chk (inB n_1.2.2.2.1 l_0.length) (
       let v3 : Int × List (Int) × Int × Int × Int × Int × Int × Unit := aQ (Ty.dflt aB) l_0 n_1.2.2.2.1
       some (v3.1 != 5))) (
      some false))) (
    some false))) (
  br (n_1.1 == 5) (
   chk (inB n_1.2.2.1 l_0.length) (
    let v4 : Int × List (Int) × Int × Int × Int × Int × Int × Unit := aQ (Ty.dflt aB) l_0 n_1.2.2.1
    some (v4.1 != 5))) (
   br (n_1.1 == 6) (
    chk (inB n_1.2.2.1 l_0.length) (
     let v5 : Int × List (Int) × Int × Int × Int × Int × Int × Unit := aQ (Ty.dflt aB) l_0 n_1.2.2.1
     ob (mO n ([1, 7, 8], v5.1)) fun y6 =>
     some y6)) (
    some true)))
def eZ (n : Nat) (g0 : List (NdT) × List (NdT) × Int × Int × List (Int) × Unit -> Option (Bool)) (x1 : List (NdT) × List (NdT) × Int × Int × List (Int) × Unit) : Option (Bool) :=
 let l_2 : List (NdT) := x1.1
 let Le : List (NdT) := x1.2.1
 let Ra : Int := x1.2.2.1
 let jS : Int := x1.2.2.2.1
 let aN : List (Int) := x1.2.2.2.2.1
 br (decide (jS < Ra)) (
  chk (inB jS Le.length) (
   let v7 : Int × List (Int) × Int × Int × Int × Int × Int × Unit := aQ (Ty.dflt aB) Le jS
   let v8 : Int := ((aN.length : Nat) : Int)
   ob (gD n v7) fun y9 =>
   let v10 : Int := IntKind.wrap .i64 (v8 - y9)
   ob (oH n v7) fun y11 =>
   br (!y11) (
    some false) (
    br (decide (v10 < 0)) (
     some false) (
     br (v7.1 == 0) (
      br (decide ((l_2.length : Int) > 1)) (
       some false) (
       chk ((decide (0 <= v10) && decide (v10 <= (aN.length : Int)))) (
        let v12 : Int := (((aN.length) - (v10.toNat) : Nat) : Int)
        br (decide (v12 > 0)) (
         chk ((inB 0 ((aN.length) - (v10.toNat)) && decide ((0 + (v10.toNat)) + ((aN.length) - (v10.toNat)) <= aN.length))) (
          chk (decide ((0 + (v10.toNat)) + (0 : Int).toNat < aN.length)) (
           let v13 : Int := aN.getD ((0 + (v10.toNat)) + (0 : Int).toNat) (Ty.dflt (.int .i64))
           br (v13 != v7.2.2.1) (
            some false) (
            let v14 : Int := (((aN.length) - (v10.toNat) : Nat) : Int)
            br (decide (v14 > 1)) (
             chk ((inB 1 ((aN.length) - (v10.toNat)) && decide ((0 + (v10.toNat)) + ((aN.length) - (v10.toNat)) <= aN.length))) (
              chk (decide ((0 + (v10.toNat)) + (1 : Int).toNat < aN.length)) (
               let v15 : Int := aN.getD ((0 + (v10.toNat)) + (1 : Int).toNat) (Ty.dflt (.int .i64))
               br (v15 != v7.2.2.2.1) (
                some false) (
                ob (iX n (l_2, v7)) fun y16 =>
                br (!y16) (
                 some false) (
                 chk ((decide (0 <= v10) && decide (v10 <= (aN.length : Int)))) (
                  chk ((Nat.ble (v10.toNat) aN.length && Nat.ble (((v10.toNat) + ([jS] : List (Int)).length) * 8) room)) (
                   let r17 : List (Int) := aN.take (v10.toNat) ++ [jS]
                   let v18 : Int := IntKind.wrap .i64 (jS + 1)
                   g0 (l_2, Le, Ra, v18, r17, ())))))))) (
             ob (iX n (l_2, v7)) fun y19 =>
             br (!y19) (
              some false) (
              chk ((decide (0 <= v10) && decide (v10 <= (aN.length : Int)))) (
               chk ((Nat.ble (v10.toNat) aN.length && Nat.ble (((v10.toNat) + ([jS] : List (Int)).length) * 8) room)) (
                let r20 : List (Int) := aN.take (v10.toNat) ++ [jS]
                let v21 : Int := IntKind.wrap .i64 (jS + 1)
                g0 (l_2, Le, Ra, v21, r20, ()))))))))) (
         ob (iX n (l_2, v7)) fun y22 =>
         br (!y22) (
          some false) (
          chk ((decide (0 <= v10) && decide (v10 <= (aN.length : Int)))) (
           chk ((Nat.ble (v10.toNat) aN.length && Nat.ble (((v10.toNat) + ([jS] : List (Int)).length) * 8) room)) (
            let r23 : List (Int) := aN.take (v10.toNat) ++ [jS]
            let v24 : Int := IntKind.wrap .i64 (jS + 1)
            g0 (l_2, Le, Ra, v24, r23, ())))))))) (
      chk ((decide (0 <= v10) && decide (v10 <= (aN.length : Int)))) (
       let v25 : Int := (((aN.length) - (v10.toNat) : Nat) : Int)
       br (decide (v25 > 0)) (
        chk ((inB 0 ((aN.length) - (v10.toNat)) && decide ((0 + (v10.toNat)) + ((aN.length) - (v10.toNat)) <= aN.length))) (
         chk (decide ((0 + (v10.toNat)) + (0 : Int).toNat < aN.length)) (
          let v26 : Int := aN.getD ((0 + (v10.toNat)) + (0 : Int).toNat) (Ty.dflt (.int .i64))
          br (v26 != v7.2.2.1) (
           some false) (
           let v27 : Int := (((aN.length) - (v10.toNat) : Nat) : Int)
           br (decide (v27 > 1)) (
            chk ((inB 1 ((aN.length) - (v10.toNat)) && decide ((0 + (v10.toNat)) + ((aN.length) - (v10.toNat)) <= aN.length))) (
             chk (decide ((0 + (v10.toNat)) + (1 : Int).toNat < aN.length)) (
              let v28 : Int := aN.getD ((0 + (v10.toNat)) + (1 : Int).toNat) (Ty.dflt (.int .i64))
              br (v28 != v7.2.2.2.1) (
               some false) (
               ob (iX n (l_2, v7)) fun y29 =>
               br (!y29) (
                some false) (
                chk ((decide (0 <= v10) && decide (v10 <= (aN.length : Int)))) (
                 chk ((Nat.ble (v10.toNat) aN.length && Nat.ble (((v10.toNat) + ([jS] : List (Int)).length) * 8) room)) (
                  let r30 : List (Int) := aN.take (v10.toNat) ++ [jS]
                  let v31 : Int := IntKind.wrap .i64 (jS + 1)
                  g0 (l_2, Le, Ra, v31, r30, ())))))))) (
            ob (iX n (l_2, v7)) fun y32 =>
            br (!y32) (
             some false) (
             chk ((decide (0 <= v10) && decide (v10 <= (aN.length : Int)))) (
              chk ((Nat.ble (v10.toNat) aN.length && Nat.ble (((v10.toNat) + ([jS] : List (Int)).length) * 8) room)) (
               let r33 : List (Int) := aN.take (v10.toNat) ++ [jS]
               let v34 : Int := IntKind.wrap .i64 (jS + 1)
               g0 (l_2, Le, Ra, v34, r33, ()))))))))) (
        ob (iX n (l_2, v7)) fun y35 =>
        br (!y35) (
         some false) (
         chk ((decide (0 <= v10) && decide (v10 <= (aN.length : Int)))) (
          chk ((Nat.ble (v10.toNat) aN.length && Nat.ble (((v10.toNat) + ([jS] : List (Int)).length) * 8) room)) (
           let r36 : List (Int) := aN.take (v10.toNat) ++ [jS]
           let v37 : Int := IntKind.wrap .i64 (jS + 1)
           g0 (l_2, Le, Ra, v37, r36, ()))))))))))) (
  let v38 : Int := ((aN.length : Nat) : Int)
  some (v38 == 1))
def rX (n : Nat) (x : List (NdT)) : Option (Bool) :=
 let l_0 : List (NdT) := x
 fix (eZ n) n (l_0, l_0, (l_0.length : Int), 0, [], ())
def cB (n : Nat) (cZ : (Int × List (NdT) × Int × Bool × List (Bool) × Bool × Unit) -> Option (List (NdT) × Int × Bool × List (Bool) × Bool × Unit)) (x : Int × List (NdT) × Int × Bool × List (Bool) × Bool × Unit) : Option (List (NdT) × Int × Bool × List (Bool) × Bool × Unit) :=
 let i_1 : Int := x.1
 let b2 : List (NdT) := x.2.1
 let b3 : Int := x.2.2.1
 let b4 : Bool := x.2.2.2.1
 let b5 : List (Bool) := x.2.2.2.2.1
 let b6 : Bool := x.2.2.2.2.2.1
 chk (inB i_1 b2.length) (
  let v7 : Int × List (Int) × Int × Int × Int × Int × Int × Unit := aQ (Ty.dflt aB) b2 i_1
  br (v7.1 == 4) (
   br (v7.1 == 4) (
    ob (cZ (v7.2.2.1, b2, b3, b4, b5, b6, ())) fun y8 =>
    ob (cZ (v7.2.2.2.1, y8.1, y8.2.1, y8.2.2.1, y8.2.2.2.1, y8.2.2.2.2.1, ())) fun y9 =>
    some (y9.1, y9.2.1, y9.2.2.1, y9.2.2.2.1, y9.2.2.2.2.1, ())) (
    br (v7.1 == 6) (
     ob (cZ (v7.2.2.1, b2, b3, b4, b5, b6, ())) fun y10 =>
     some (y10.1, y10.2.1, y10.2.2.1, y10.2.2.2.1, y10.2.2.2.2.1, ())) (
     br (v7.1 == 7) (
      let v11 : Int := IntKind.wrap .i64 (b3 + 1)
      br b4 (
       ob (cZ (v7.2.2.1, b2, v11, (v7.2.2.2.2.2.2.1 == v11), b5, b6, ())) fun y12 =>
       chk (inB v7.2.2.2.2.2.2.1 10) (
        chk (decide (v7.2.2.2.2.2.2.1.toNat < 10)) (
         some (y12.1, y12.2.1, y12.2.2.1, y12.2.2.2.1.set (v7.2.2.2.2.2.2.1.toNat) true, y12.2.2.2.2.1, ())))) (
       ob (cZ (v7.2.2.1, b2, v11, false, b5, b6, ())) fun y13 =>
       chk (inB v7.2.2.2.2.2.2.1 10) (
        chk (decide (v7.2.2.2.2.2.2.1.toNat < 10)) (
         some (y13.1, y13.2.1, y13.2.2.1, y13.2.2.2.1.set (v7.2.2.2.2.2.2.1.toNat) true, y13.2.2.2.2.1, ()))))) (
      br (v7.1 == 8) (
       br b4 (
        chk (inB v7.2.2.2.2.2.2.1 10) (
         chk (decide (v7.2.2.2.2.2.2.1.toNat < 10)) (
          some (b2, b3, b5.getD (v7.2.2.2.2.2.2.1.toNat) (Ty.dflt .bool), b5, true, ())))) (
        some (b2, b3, false, b5, true, ()))) (
       some (b2, b3, b4, b5, b6, ())))))) (
   br (v7.1 == 5) (
    ob (cZ (v7.2.2.1, b2, b3, b4, b5, b6, ())) fun y14 =>
    ob (cZ (v7.2.2.2.1, y14.1, y14.2.1, y14.2.2.1, y14.2.2.2.1, y14.2.2.2.2.1, ())) fun y15 =>
    some (y15.1, y15.2.1, y15.2.2.1, y15.2.2.2.1, y15.2.2.2.2.1, ())) (
    br (v7.1 == 6) (
     ob (cZ (v7.2.2.1, b2, b3, b4, b5, b6, ())) fun y16 =>
     some (y16.1, y16.2.1, y16.2.2.1, y16.2.2.2.1, y16.2.2.2.2.1, ())) (
     br (v7.1 == 7) (
      let v17 : Int := IntKind.wrap .i64 (b3 + 1)
      br b4 (
       ob (cZ (v7.2.2.1, b2, v17, (v7.2.2.2.2.2.2.1 == v17), b5, b6, ())) fun y18 =>
       chk (inB v7.2.2.2.2.2.2.1 10) (
        chk (decide (v7.2.2.2.2.2.2.1.toNat < 10)) (
         some (y18.1, y18.2.1, y18.2.2.1, y18.2.2.2.1.set (v7.2.2.2.2.2.2.1.toNat) true, y18.2.2.2.2.1, ())))) (
       ob (cZ (v7.2.2.1, b2, v17, false, b5, b6, ())) fun y19 =>
       chk (inB v7.2.2.2.2.2.2.1 10) (
        chk (decide (v7.2.2.2.2.2.2.1.toNat < 10)) (
         some (y19.1, y19.2.1, y19.2.2.1, y19.2.2.2.1.set (v7.2.2.2.2.2.2.1.toNat) true, y19.2.2.2.2.1, ()))))) (
      br (v7.1 == 8) (
       br b4 (
        chk (inB v7.2.2.2.2.2.2.1 10) (
         chk (decide (v7.2.2.2.2.2.2.1.toNat < 10)) (
          some (b2, b3, b5.getD (v7.2.2.2.2.2.2.1.toNat) (Ty.dflt .bool), b5, true, ())))) (
        some (b2, b3, false, b5, true, ()))) (
       some (b2, b3, b4, b5, b6, ())))))))
def kH (n : Nat) : (Int × List (NdT) × Int × Bool × List (Bool) × Bool × Unit) -> Option (List (NdT) × Int × Bool × List (Bool) × Bool × Unit) :=
 Dy (fun n r x => cB n r x) n
def yC (n : Nat) (x : List (NdT)) : Option (Int × Bool × Bool) :=
 let l_0 : List (NdT) := x
 let v1 : Int := IntKind.wrap .i64 ((l_0.length : Int) - 1)
 ob (kH n (v1, l_0, 0, true, [false, false, false, false, false, false, false, false, false, false], false, ())) fun y2 =>
 some (y2.2.1, y2.2.2.2.2.1, y2.2.2.1)
def qI (n : Nat) (x : List (NdT)) : Option (Int × Bool × Bool) :=
 let l_0 : List (NdT) := x
 br ((l_0.length : Int) == 0) (
  some (0, false, false)) (
  br (decide ((l_0.length : Int) > 120)) (
   some (0, false, false)) (
   ob (rX n l_0) fun y1 =>
   br (!y1) (
    some (0, false, false)) (
    ob (yC n l_0) fun y2 =>
    br (!y2.2.2) (
     some (0, false, false)) (
     some (y2.1, y2.2.1, true)))))
def vX (n : Nat) (x : List (NdT)) : Option (Bool) :=
 let l_0 : List (NdT) := x
 ob (qI n l_0) fun y1 =>
 some y1.2.2
def Rb (n : Nat) (x : Int) : Option (List UInt8) :=
 let b_0 : Int := x
 br (b_0 == 10) (
  some [92, 110]) (
  ob (strings_IndexByte n ([46, 91, 92, 42, 94, 36], b_0)) fun y1 =>
  br (decide (y1 ≥ 0)) (
   chk (decide ([92].length + (lU [b_0]).length <= aG)) (
    some ([92] ++ (lU [b_0])))) (
   some (lU [b_0])))
def Au (n : Nat) (x : List (Int) × Int) : Option (Bool) :=
 let s_0 : List (Int) := x.1
 let b_1 : Int := x.2
 chk (decide (0 <= 6)) (
  chk (inB (mU .u8 b_1 6) 4) (
   chk (decide ((mU .u8 b_1 6).toNat < 4)) (
    let v1 : Int := s_0.getD ((mU .u8 b_1 6).toNat) (Ty.dflt (.int .u64))
    chk (decide (0 <= dF .u8 .and b_1 63)) (
     let v2 : Int := mU .u64 v1 (dF .u8 .and b_1 63)
     some ((dF .u64 .and v2 1) == 1)))))
def Ww (n : Nat) (g0 : List UInt8 × Int × Int × List (List UInt8) × Unit -> Option (List (List UInt8))) (x1 : List UInt8 × Int × Int × List (List UInt8) × Unit) : Option (List (List UInt8)) :=
 let s_2 : List UInt8 := x1.1
 let zIq : Int := x1.2.1
 let mW : Int := x1.2.2.1
 let lV : List (List UInt8) := x1.2.2.2.1
 br (decide (mW < zIq)) (
  let v6 : Int := ((lV.length : Nat) : Int)
  let v7 : Int := IntKind.wrap .i64 (v6 - 1)
  br (decide (v7 ≥ 0)) (
   chk (inB mW s_2.length) (
    let v8 : Int := ((aQ 0 s_2 mW).toNat : Int)
    let v9 : Int := IntKind.wrap .i64 (mW - 1)
    chk (inB v9 s_2.length) (
     let v10 : Int := ((aQ 0 s_2 v9).toNat : Int)
     let v11 : Int := IntKind.wrap .u8 (v10 + 1)
     br (v8 == v11) (
      chk ((inB v7 (lV.length) && decide (0 + (lV.length) <= lV.length))) (
       chk (decide (0 + v7.toNat < lV.length)) (
        let v12 : List UInt8 := lV.getD (0 + v7.toNat) (Ty.dflt .str)
        let v13 : Int := IntKind.wrap .i64 (mW + 1)
        chk ((decide (0 <= v13) && decide (v13 <= (s_2.length : Int)) && (decide (0 <= mW) && decide (mW <= v13)))) (
         let v14 : List UInt8 := (s_2.take v13.toNat).drop mW.toNat
         chk (decide (v12.length + v14.length <= aG)) (
          chk ((inB v7 (lV.length) && decide (0 + (lV.length) <= lV.length))) (
           chk (decide (0 + v7.toNat < lV.length)) (
            let r15 : List (List UInt8) := lV.set (0 + v7.toNat) (v12 ++ v14)
            let v16 : Int := IntKind.wrap .i64 (mW + 1)
            g0 (s_2, zIq, v16, r15, ())))))))) (
      let v17 : Int := IntKind.wrap .i64 (mW + 1)
      chk ((decide (0 <= v17) && decide (v17 <= (s_2.length : Int)) && (decide (0 <= mW) && decide (mW <= v17)))) (
       let v18 : List UInt8 := (s_2.take v17.toNat).drop mW.toNat
       chk (Nat.ble ((lV.length + ([v18] : List (List UInt8)).length) * 16) room) (
        let v19 : Int := IntKind.wrap .i64 (mW + 1)
        g0 (s_2, zIq, v19, lV ++ [v18], ()))))))) (
   let v20 : Int := IntKind.wrap .i64 (mW + 1)
   chk ((decide (0 <= v20) && decide (v20 <= (s_2.length : Int)) && (decide (0 <= mW) && decide (mW <= v20)))) (
    let v21 : List UInt8 := (s_2.take v20.toNat).drop mW.toNat
    chk (Nat.ble ((lV.length + ([v21] : List (List UInt8)).length) * 16) room) (
     let v22 : Int := IntKind.wrap .i64 (mW + 1)
     g0 (s_2, zIq, v22, lV ++ [v21], ()))))) (
  some lV)
def Rc (n : Nat) (x : List UInt8) : Option (List (List UInt8)) :=
 let s_0 : List UInt8 := x
 fix (Ww n) n (s_0, (s_0.length : Int), 0, [], ())
def Wx (n : Nat) (g2 : List UInt8 × Int × Int × List (Int) × List (List UInt8) × Unit -> Option (List UInt8)) (x35 : List UInt8 × Int × Int × List (Int) × List (List UInt8) × Unit) : Option (List UInt8) :=
 let Ed : List UInt8 := x35.1
 let Fh : Int := x35.2.1
 let vY : Int := x35.2.2.1
 let b39 : List (Int) := x35.2.2.2.1
 let yD : List (List UInt8) := x35.2.2.2.2.1
 br (decide (vY < Fh)) (
  chk ((inB vY (yD.length) && decide (0 + (yD.length) <= yD.length))) (
   chk (decide (0 + vY.toNat < yD.length)) (
    let v41 : List UInt8 := yD.getD (0 + vY.toNat) (Ty.dflt .str)
    chk (inB 0 v41.length) (
     let v42 : Int := ((aQ 0 v41 0).toNat : Int)
     ob (Au n (b39, v42)) fun y43 =>
     br y43 (
      br (v41 == [10]) (
       chk (decide (Ed.length + ([92, 110] : List UInt8).length <= aG)) (
        let v44 : Int := IntKind.wrap .i64 (vY + 1)
        g2 (Ed ++ [92, 110], Fh, v44, b39, yD, ()))) (
       chk (inB 0 v41.length) (
        let v45 : Int := ((aQ 0 v41 0).toNat : Int)
        ob (Au n (b39, v45)) fun y46 =>
        br y46 (
         chk (decide (Ed.length + v41.length <= aG)) (
          let v47 : Int := IntKind.wrap .i64 (vY + 1)
          g2 (Ed ++ v41, Fh, v47, b39, yD, ()))) (
         let v48 : Int := IntKind.wrap .i64 (vY + 1)
         g2 (Ed, Fh, v48, b39, yD, ()))))) (
      chk (inB 0 v41.length) (
       let v49 : Int := ((aQ 0 v41 0).toNat : Int)
       ob (Au n (b39, v49)) fun y50 =>
       br y50 (
        chk (decide (Ed.length + v41.length <= aG)) (
         let v51 : Int := IntKind.wrap .i64 (vY + 1)
         g2 (Ed ++ v41, Fh, v51, b39, yD, ()))) (
        let v52 : Int := IntKind.wrap .i64 (vY + 1)
        g2 (Ed, Fh, v52, b39, yD, ())))))))) (
  chk (decide (Ed.length + ([93] : List UInt8).length <= aG)) (
   some (Ed ++ [93])))
def Wy (n : Nat) (g1 : List UInt8 × List (List UInt8) × Int × Int × List (Int) × Unit -> Option (List UInt8)) (x22 : List UInt8 × List (List UInt8) × Int × Int × List (Int) × Unit) : Option (List UInt8) :=
 let zCq : List UInt8 := x22.1
 let Ub : List (List UInt8) := x22.2.1
 let zCr : Int := x22.2.2.1
 let Lf : Int := x22.2.2.2.1
 let b27 : List (Int) := x22.2.2.2.2.1
 br (decide (Lf < zCr)) (
  chk (inB Lf Ub.length) (
   let v28 : List UInt8 := aQ (Ty.dflt .str) Ub Lf
   br (decide ((v28.length : Int) > 2)) (
    chk ((decide (0 <= (1 : Int)) && decide ((1 : Int) <= (v28.length : Int)))) (
     chk (decide ((v28.take (1 : Int).toNat).length + ([45] : List UInt8).length <= aG)) (
      let v29 : List UInt8 := (v28.take (1 : Int).toNat) ++ [45]
      let v30 : Int := IntKind.wrap .i64 ((v28.length : Int) - 1)
      chk ((decide (0 <= v30) && decide (v30 <= (v28.length : Int)))) (
       chk (decide (v29.length + (v28.drop v30.toNat).length <= aG)) (
        let v31 : List UInt8 := v29 ++ (v28.drop v30.toNat)
        chk (decide (zCq.length + v31.length <= aG)) (
         let v32 : Int := IntKind.wrap .i64 (Lf + 1)
         g1 (zCq ++ v31, Ub, zCr, v32, b27, ()))))))) (
    chk (decide (zCq.length + v28.length <= aG)) (
     let v33 : Int := IntKind.wrap .i64 (Lf + 1)
     g1 (zCq ++ v28, Ub, zCr, v33, b27, ()))))) (
  let v34 : Int := (([[10], [91], [92], [94], [45]].length : Nat) : Int)
  fix (Wx n) n (zCq, v34, 0, b27, [[10], [91], [92], [94], [45]], ()))
def Wz (n : Nat) (g0 : List UInt8 × List (Int) × Int × Int × List (Int) × List (Int) × Unit -> Option (List UInt8)) (x10 : List UInt8 × List (Int) × Int × Int × List (Int) × List (Int) × Unit) : Option (List UInt8) :=
 let zNl : List UInt8 := x10.1
 let Uc : List (Int) := x10.2.1
 let zCs : Int := x10.2.2.1
 let Lg : Int := x10.2.2.2.1
 let b15 : List (Int) := x10.2.2.2.2.1
 let zAp : List (Int) := x10.2.2.2.2.2.1
 br (decide (Lg < zCs)) (
  chk (inB Lg Uc.length) (
   let v17 : Int := aQ (Ty.dflt (.int .u8)) Uc Lg
   ob (strings_IndexByte n ([93, 91, 92, 94, 45, 10], v17)) fun y18 =>
   br (decide (y18 < 0)) (
    chk (Nat.ble ((zAp.length + ([v17] : List (Int)).length) * 1) room) (
     let v19 : Int := IntKind.wrap .i64 (Lg + 1)
     g0 (zNl, Uc, zCs, v19, b15, zAp ++ [v17], ()))) (
    let v20 : Int := IntKind.wrap .i64 (Lg + 1)
    g0 (zNl, Uc, zCs, v20, b15, zAp, ())))) (
  ob (Rc n (lU zAp)) fun y21 =>
  fix (Wy n) n (zNl, y21, (y21.length : Int), 0, b15, ()))
def Fj (n : Nat) (x5 : List UInt8 × List UInt8 × List (Int) × Unit) : Option (List UInt8) :=
 let l_6 : List UInt8 := x5.1
 let b_7 : List UInt8 := x5.2.1
 let b8 : List (Int) := x5.2.2.1
 chk (Nat.ble l_6.length room) (
  let v9 : Int := ((bF l_6).length : Int)
  fix (Wz n) n (b_7, bF l_6, v9, 0, b8, [], ()))
def Rf (n : Nat) (x : List (Int)) : Option (List UInt8) :=
 let s_0 : List (Int) := x
 ob (rC n s_0) fun y1 =>
 br ((y1.length : Int) == 0) (
  some []) (
  br ((y1.length : Int) == 1) (
   chk (inB 0 y1.length) (
    let v2 : Int := ((aQ 0 y1 0).toNat : Int)
    ob (Rb n v2) fun y3 =>
    some y3)) (
   br ((y1.length : Int) == 256) (
    some [46]) (
    br (y1 == [45, 94]) (
     some [91, 45, 94, 93]) (
     ob (Au n (s_0, 93)) fun y4 =>
     br y4 (
      chk (decide ([91].length + ([93] : List UInt8).length <= aG)) (
       jn (Fj n) (y1, [91] ++ [93], s_0, ()))) (
      jn (Fj n) (y1, [91], s_0, ()))))))
def Lh (n : Nat) (x : Int × List (Int) × Int × Int × Int × Int × Int × Unit) : Option (List UInt8) :=
 let n_0 : Int × List (Int) × Int × Int × Int × Int × Int × Unit := x
 ob (strconv_Itoa n n_0.2.2.2.2.1) fun y1 =>
 ob (strconv_Itoa n n_0.2.2.2.2.2.1) fun y2 =>
 br (n_0.2.2.2.2.2.1 == (-1)) (
  br (n_0.2.2.2.2.1 == 0) (
   some [42]) (
   br (n_0.2.2.2.2.2.1 == (-1)) (
    chk (decide ([92, 123].length + y1.length <= aG)) (
     chk (decide (([92, 123] ++ y1).length + ([44, 92, 125] : List UInt8).length <= aG)) (
      let v3 : List UInt8 := ([92, 123] ++ y1) ++ [44, 92, 125]
      some v3))) (
    br (n_0.2.2.2.2.2.1 == n_0.2.2.2.2.1) (
     chk (decide ([92, 123].length + y1.length <= aG)) (
      chk (decide (([92, 123] ++ y1).length + ([92, 125] : List UInt8).length <= aG)) (
       let v4 : List UInt8 := ([92, 123] ++ y1) ++ [92, 125]
       some v4))) (
     chk (decide ([92, 123].length + y1.length <= aG)) (
      chk (decide (([92, 123] ++ y1).length + ([44] : List UInt8).length <= aG)) (
       let v5 : List UInt8 := ([92, 123] ++ y1) ++ [44]
       chk (decide (v5.length + y2.length <= aG)) (
        chk (decide ((v5 ++ y2).length + ([92, 125] : List UInt8).length <= aG)) (
         some ((v5 ++ y2) ++ [92, 125]))))))))) (
  br (n_0.2.2.2.2.2.1 == (-1)) (
   chk (decide ([92, 123].length + y1.length <= aG)) (
    chk (decide (([92, 123] ++ y1).length + ([44, 92, 125] : List UInt8).length <= aG)) (
     let v6 : List UInt8 := ([92, 123] ++ y1) ++ [44, 92, 125]
     some v6))) (
   br (n_0.2.2.2.2.2.1 == n_0.2.2.2.2.1) (
    chk (decide ([92, 123].length + y1.length <= aG)) (
     chk (decide (([92, 123] ++ y1).length + ([92, 125] : List UInt8).length <= aG)) (
      let v7 : List UInt8 := ([92, 123] ++ y1) ++ [92, 125]
      some v7))) (
    chk (decide ([92, 123].length + y1.length <= aG)) (
     chk (decide (([92, 123] ++ y1).length + ([44] : List UInt8).length <= aG)) (
      let v8 : List UInt8 := ([92, 123] ++ y1) ++ [44]
      chk (decide (v8.length + y2.length <= aG)) (
       chk (decide ((v8 ++ y2).length + ([92, 125] : List UInt8).length <= aG)) (
        some ((v8 ++ y2) ++ [92, 125]))))))))
def uP (n : Nat) (g0 : List (NdT) × Int × Int × List (List UInt8) × Unit -> Option (List UInt8)) (g1 : Int × List UInt8 × List (NdT) × Int × Int × List (Int) × Int × Int × List (List UInt8) × Unit -> Option (List UInt8)) (x16 : Int × List UInt8 × List (NdT) × Int × Int × List (Int) × Int × Int × List (List UInt8) × Unit) : Option (List UInt8) :=
 let Xa : Int := x16.1
 let zCt : List UInt8 := x16.2.1
 let zKq : List (NdT) := x16.2.2.1
 let zKr : Int := x16.2.2.2.1
 let zKs : Int := x16.2.2.2.2.1
 let zCu : List (Int) := x16.2.2.2.2.2.1
 let zKt : Int := x16.2.2.2.2.2.2.1
 let Ud : Int := x16.2.2.2.2.2.2.2.1
 let zAq : List (List UInt8) := x16.2.2.2.2.2.2.2.2.1
 br (decide (Ud < zKt)) (
  chk (inB Ud zCu.length) (
   let v26 : Int := aQ (Ty.dflt (.int .u8)) zCu Ud
   chk ((!decide (16 = 0))) (
    let v27 : Int := IntKind.wrap .u64 (Int.tdiv (IntKind.wrap .u64 v26) 16)
    ob (iD n (v27, 16)) fun y28 =>
    chk ((!decide (16 = 0))) (
     let v29 : Int := Int.tmod (IntKind.wrap .u64 v26) 16
     ob (iD n (v29, 16)) fun y30 =>
     chk (decide (y28.length + y30.length <= aG)) (
      chk (decide (zCt.length + (y28 ++ y30).length <= aG)) (
       let v31 : Int := IntKind.wrap .i64 (Ud + 1)
       g1 (Xa, zCt ++ (y28 ++ y30), zKq, zKr, zKs, zCu, zKt, v31, zAq, ()))))))) (
  chk (decide (zCt.length + ([93] : List UInt8).length <= aG)) (
   chk ((decide (0 <= Xa) && decide (Xa <= (zAq.length : Int)))) (
    chk ((Nat.ble (Xa.toNat) zAq.length && Nat.ble (((Xa.toNat) + ([zCt ++ [93]] : List (List UInt8)).length) * 16) room)) (
     let r32 : List (List UInt8) := zAq.take (Xa.toNat) ++ [zCt ++ [93]]
     let v33 : Int := IntKind.wrap .i64 (zKs + 1)
     g0 (zKq, zKr, v33, r32, ())))))
def fE (n : Nat) (g0 : List (NdT) × Int × Int × List (List UInt8) × Unit -> Option (List UInt8)) (x2 : List (NdT) × Int × Int × List (List UInt8) × Unit) : Option (List UInt8) :=
 let uQ : List (NdT) := x2.1
 let vZ : Int := x2.2.1
 let rY : Int := x2.2.2.1
 let aN : List (List UInt8) := x2.2.2.2.1
 br (decide (rY < vZ)) (
  chk (inB rY uQ.length) (
   let v7 : Int × List (Int) × Int × Int × Int × Int × Int × Unit := aQ (Ty.dflt aB) uQ rY
   let v8 : Int := ((aN.length : Nat) : Int)
   ob (gD n v7) fun y9 =>
   let v10 : Int := IntKind.wrap .i64 (v8 - y9)
   chk ((decide (0 <= v10) && decide (v10 <= (aN.length : Int)))) (
    chk ((Nat.ble ((0 + (v10.toNat)) + ((aN.length) - (v10.toNat))) aN.length && true)) (
     ob (strings_Join n ((aN.drop (0 + (v10.toNat))).take ((aN.length) - (v10.toNat)), [])) fun y11 =>
     br (v7.1 == 0) (
      chk ((decide (0 <= v10) && decide (v10 <= (aN.length : Int)))) (
       chk ((Nat.ble (v10.toNat) aN.length && Nat.ble (((v10.toNat) + ([[101]] : List (List UInt8)).length) * 16) room)) (
        let r12 : List (List UInt8) := aN.take (v10.toNat) ++ [[101]]
        let v13 : Int := IntKind.wrap .i64 (rY + 1)
        g0 (uQ, vZ, v13, r12, ())))) (
      br (v7.1 == 1) (
       ob (rC n v7.2.1) fun y14 =>
       chk (Nat.ble y14.length room) (
        let v15 : Int := ((bF y14).length : Int)
        fix (uP n g0) n (v10, [91], uQ, vZ, rY, bF y14, v15, 0, aN, ()))) (
       br (v7.1 == 2) (
        chk ((decide (0 <= v10) && decide (v10 <= (aN.length : Int)))) (
         chk ((Nat.ble (v10.toNat) aN.length && Nat.ble (((v10.toNat) + ([[94]] : List (List UInt8)).length) * 16) room)) (
          let r34 : List (List UInt8) := aN.take (v10.toNat) ++ [[94]]
          let v35 : Int := IntKind.wrap .i64 (rY + 1)
          g0 (uQ, vZ, v35, r34, ())))) (
        br (v7.1 == 3) (
         chk ((decide (0 <= v10) && decide (v10 <= (aN.length : Int)))) (
          chk ((Nat.ble (v10.toNat) aN.length && Nat.ble (((v10.toNat) + ([[36]] : List (List UInt8)).length) * 16) room)) (
           let r36 : List (List UInt8) := aN.take (v10.toNat) ++ [[36]]
           let v37 : Int := IntKind.wrap .i64 (rY + 1)
           g0 (uQ, vZ, v37, r36, ())))) (
         br (v7.1 == 4) (
          chk (decide ([38].length + y11.length <= aG)) (
           chk ((decide (0 <= v10) && decide (v10 <= (aN.length : Int)))) (
            chk ((Nat.ble (v10.toNat) aN.length && Nat.ble (((v10.toNat) + ([[38] ++ y11] : List (List UInt8)).length) * 16) room)) (
             let r38 : List (List UInt8) := aN.take (v10.toNat) ++ [[38] ++ y11]
             let v39 : Int := IntKind.wrap .i64 (rY + 1)
             g0 (uQ, vZ, v39, r38, ()))))) (
          br (v7.1 == 5) (
           chk (decide ([124].length + y11.length <= aG)) (
            chk ((decide (0 <= v10) && decide (v10 <= (aN.length : Int)))) (
             chk ((Nat.ble (v10.toNat) aN.length && Nat.ble (((v10.toNat) + ([[124] ++ y11] : List (List UInt8)).length) * 16) room)) (
              let r40 : List (List UInt8) := aN.take (v10.toNat) ++ [[124] ++ y11]
              let v41 : Int := IntKind.wrap .i64 (rY + 1)
              g0 (uQ, vZ, v41, r40, ()))))) (
           br (v7.1 == 6) (
            ob (strconv_Itoa n v7.2.2.2.2.1) fun y42 =>
            chk (decide ([42].length + y42.length <= aG)) (
             chk (decide (([42] ++ y42).length + ([44] : List UInt8).length <= aG)) (
              ob (strconv_Itoa n v7.2.2.2.2.2.1) fun y43 =>
              chk (decide ((([42] ++ y42) ++ [44]).length + y43.length <= aG)) (
               let v44 : List UInt8 := (([42] ++ y42) ++ [44]) ++ y43
               chk (decide (v44.length + ([59] : List UInt8).length <= aG)) (
                chk (decide ((v44 ++ [59]).length + y11.length <= aG)) (
                 chk ((decide (0 <= v10) && decide (v10 <= (aN.length : Int)))) (
                  chk ((Nat.ble (v10.toNat) aN.length && Nat.ble (((v10.toNat) + ([(v44 ++ [59]) ++ y11] : List (List UInt8)).length) * 16) room)) (
                   let r45 : List (List UInt8) := aN.take (v10.toNat) ++ [(v44 ++ [59]) ++ y11]
                   let v46 : Int := IntKind.wrap .i64 (rY + 1)
                   g0 (uQ, vZ, v46, r45, ()))))))))) (
            br (v7.1 == 7) (
             chk (decide ([40].length + y11.length <= aG)) (
              chk (decide (([40] ++ y11).length + ([41] : List UInt8).length <= aG)) (
               chk ((decide (0 <= v10) && decide (v10 <= (aN.length : Int)))) (
                chk ((Nat.ble (v10.toNat) aN.length && Nat.ble (((v10.toNat) + ([([40] ++ y11) ++ [41]] : List (List UInt8)).length) * 16) room)) (
                 let r47 : List (List UInt8) := aN.take (v10.toNat) ++ [([40] ++ y11) ++ [41]]
                 let v48 : Int := IntKind.wrap .i64 (rY + 1)
                 g0 (uQ, vZ, v48, r47, ())))))) (
             br (v7.1 == 8) (
              ob (strconv_Itoa n v7.2.2.2.2.2.2.1) fun y49 =>
              chk (decide ([92].length + y49.length <= aG)) (
               chk ((decide (0 <= v10) && decide (v10 <= (aN.length : Int)))) (
                chk ((Nat.ble (v10.toNat) aN.length && Nat.ble (((v10.toNat) + ([[92] ++ y49] : List (List UInt8)).length) * 16) room)) (
                 let r50 : List (List UInt8) := aN.take (v10.toNat) ++ [[92] ++ y49]
                 let v51 : Int := IntKind.wrap .i64 (rY + 1)
                 g0 (uQ, vZ, v51, r50, ()))))) (
              chk ((decide (0 <= v10) && decide (v10 <= (aN.length : Int)))) (
               chk ((Nat.ble (v10.toNat) aN.length && Nat.ble (((v10.toNat) + ([[]] : List (List UInt8)).length) * 16) room)) (
                let r52 : List (List UInt8) := aN.take (v10.toNat) ++ [[]]
                let v53 : Int := IntKind.wrap .i64 (rY + 1)
                g0 (uQ, vZ, v53, r52, ())))))))))))))))) (
  chk ((inB 0 (aN.length) && decide (0 + (aN.length) <= aN.length))) (
   chk (decide (0 + (0 : Int).toNat < aN.length)) (
    let v54 : List UInt8 := aN.getD (0 + (0 : Int).toNat) (Ty.dflt .str)
    some v54)))
def rZ (n : Nat) (x : List (NdT)) : Option (List UInt8) :=
 let l_0 : List (NdT) := x
 ob (vX n l_0) fun y1 =>
 br (!y1) (
  some []) (
  fix (fE n) n (l_0, (l_0.length : Int), 0, [], ()))
def Ue (n : Nat) (g0 : List (NdT) × List (NdT) × Int × Int × List (List UInt8) × Unit -> Option (List UInt8 × Int)) (x3 : List (NdT) × List (NdT) × Int × Int × List (List UInt8) × Unit) : Option (List UInt8 × Int) :=
 let l_4 : List (NdT) := x3.1
 let wB : List (NdT) := x3.2.1
 let yE : Int := x3.2.2.1
 let dP : Int := x3.2.2.2.1
 let bP : List (List UInt8) := x3.2.2.2.2.1
 br (decide (dP < yE)) (
  chk (inB dP wB.length) (
   let v9 : Int × List (Int) × Int × Int × Int × Int × Int × Unit := aQ (Ty.dflt aB) wB dP
   br (v9.1 == 1) (
    ob (Rf n v9.2.1) fun y10 =>
    chk ((inB dP (bP.length) && decide (0 + (bP.length) <= bP.length))) (
     chk (decide (0 + dP.toNat < bP.length)) (
      let r11 : List (List UInt8) := bP.set (0 + dP.toNat) y10
      let v12 : Int := IntKind.wrap .i64 (dP + 1)
      g0 (l_4, wB, yE, v12, r11, ())))) (
    br (v9.1 == 2) (
     chk ((inB dP (bP.length) && decide (0 + (bP.length) <= bP.length))) (
      chk (decide (0 + dP.toNat < bP.length)) (
       let r13 : List (List UInt8) := bP.set (0 + dP.toNat) [94]
       let v14 : Int := IntKind.wrap .i64 (dP + 1)
       g0 (l_4, wB, yE, v14, r13, ())))) (
     br (v9.1 == 3) (
      chk ((inB dP (bP.length) && decide (0 + (bP.length) <= bP.length))) (
       chk (decide (0 + dP.toNat < bP.length)) (
        let r15 : List (List UInt8) := bP.set (0 + dP.toNat) [36]
        let v16 : Int := IntKind.wrap .i64 (dP + 1)
        g0 (l_4, wB, yE, v16, r15, ())))) (
      br (v9.1 == 4) (
       chk ((inB v9.2.2.1 (bP.length) && decide (0 + (bP.length) <= bP.length))) (
        chk (decide (0 + v9.2.2.1.toNat < bP.length)) (
         let v17 : List UInt8 := bP.getD (0 + v9.2.2.1.toNat) (Ty.dflt .str)
         chk ((inB v9.2.2.2.1 (bP.length) && decide (0 + (bP.length) <= bP.length))) (
          chk (decide (0 + v9.2.2.2.1.toNat < bP.length)) (
           let v18 : List UInt8 := bP.getD (0 + v9.2.2.2.1.toNat) (Ty.dflt .str)
           chk (decide (v17.length + v18.length <= aG)) (
            chk ((inB dP (bP.length) && decide (0 + (bP.length) <= bP.length))) (
             chk (decide (0 + dP.toNat < bP.length)) (
              let r19 : List (List UInt8) := bP.set (0 + dP.toNat) (v17 ++ v18)
              let v20 : Int := IntKind.wrap .i64 (dP + 1)
              g0 (l_4, wB, yE, v20, r19, ()))))))))) (
       br (v9.1 == 5) (
        chk ((inB dP (bP.length) && decide (0 + (bP.length) <= bP.length))) (
         chk (decide (0 + dP.toNat < bP.length)) (
          let r21 : List (List UInt8) := bP.set (0 + dP.toNat) [124]
          let v22 : Int := IntKind.wrap .i64 (dP + 1)
          g0 (l_4, wB, yE, v22, r21, ())))) (
        br (v9.1 == 6) (
         chk ((inB v9.2.2.1 (bP.length) && decide (0 + (bP.length) <= bP.length))) (
          chk (decide (0 + v9.2.2.1.toNat < bP.length)) (
           let v23 : List UInt8 := bP.getD (0 + v9.2.2.1.toNat) (Ty.dflt .str)
           ob (Lh n v9) fun y24 =>
           chk (decide (v23.length + y24.length <= aG)) (
            chk ((inB dP (bP.length) && decide (0 + (bP.length) <= bP.length))) (
             chk (decide (0 + dP.toNat < bP.length)) (
              let r25 : List (List UInt8) := bP.set (0 + dP.toNat) (v23 ++ y24)
              let v26 : Int := IntKind.wrap .i64 (dP + 1)
              g0 (l_4, wB, yE, v26, r25, ()))))))) (
         br (v9.1 == 7) (
          chk ((inB v9.2.2.1 (bP.length) && decide (0 + (bP.length) <= bP.length))) (
           chk (decide (0 + v9.2.2.1.toNat < bP.length)) (
            let v27 : List UInt8 := bP.getD (0 + v9.2.2.1.toNat) (Ty.dflt .str)
            chk (decide ([92, 40].length + v27.length <= aG)) (
             chk (decide (([92, 40] ++ v27).length + ([92, 41] : List UInt8).length <= aG)) (
              let v28 : List UInt8 := ([92, 40] ++ v27) ++ [92, 41]
              chk ((inB dP (bP.length) && decide (0 + (bP.length) <= bP.length))) (
               chk (decide (0 + dP.toNat < bP.length)) (
                let r29 : List (List UInt8) := bP.set (0 + dP.toNat) v28
                let v30 : Int := IntKind.wrap .i64 (dP + 1)
                g0 (l_4, wB, yE, v30, r29, ())))))))) (
          br (v9.1 == 8) (
           ob (strconv_Itoa n v9.2.2.2.2.2.2.1) fun y31 =>
           chk (decide ([92].length + y31.length <= aG)) (
            chk ((inB dP (bP.length) && decide (0 + (bP.length) <= bP.length))) (
             chk (decide (0 + dP.toNat < bP.length)) (
              let r32 : List (List UInt8) := bP.set (0 + dP.toNat) ([92] ++ y31)
              let v33 : Int := IntKind.wrap .i64 (dP + 1)
              g0 (l_4, wB, yE, v33, r32, ()))))) (
           let v34 : Int := IntKind.wrap .i64 (dP + 1)
           g0 (l_4, wB, yE, v34, bP, ()))))))))))) (
  let v35 : Int := IntKind.wrap .i64 ((l_4.length : Int) - 1)
  chk ((inB v35 (bP.length) && decide (0 + (bP.length) <= bP.length))) (
   chk (decide (0 + v35.toNat < bP.length)) (
    let v36 : List UInt8 := bP.getD (0 + v35.toNat) (Ty.dflt .str)
    ob (jU n v36) fun y37 =>
    br (y37.2.2 != 0) (
     some ([], 1)) (
     ob (rZ n y37.1) fun y38 =>
     ob (rZ n l_4) fun y39 =>
     br (!(y38 == y39)) (
      some ([], 1)) (
      some (v36, 0))))))
def Li (n : Nat) (x : List (NdT)) : Option (List UInt8 × Int) :=
 let l_0 : List (NdT) := x
 ob (vX n l_0) fun y1 =>
 br (!y1) (
  some ([], 1)) (
  chk ((decide (0 <= (l_0.length : Int)) && (decide ((l_0.length : Int) = (l_0.length : Int)) && Nat.ble ((l_0.length : Int).toNat * 16) room))) (
   let r2 : List (List UInt8) := List.replicate (l_0.length : Int).toNat []
   fix (Ue n) n (l_0, l_0, (l_0.length : Int), 0, r2, ())))
def Lj (n : Nat) (x : List (NdT)) : Option (Int) :=
 let l_0 : List (NdT) := x
 ob (qI n l_0) fun y1 =>
 some y1.1
def Xb (n : Nat) (x : List (NdT)) : Option (Bool) :=
 let l_0 : List (NdT) := x
 ob (qI n l_0) fun y1 =>
 some y1.2.1
def oI (n : Nat) (x : Unit) : Option (Bool) :=
 ob (jU n [94, 97, 42, 92, 40, 98, 92, 41, 92, 49, 91, 120, 45, 122, 93, 36]) fun y1 =>
 ob (Li n y1.1) fun y2 =>
 ob (jU n [97, 92, 40, 98]) fun y3 =>
 br (y1.2.2 == 0) (
  br (y2.2 == 0) (
   br (y1.2.1 == 0) (
    br (y2.1 == [94, 97, 42, 92, 40, 98, 92, 41, 92, 49, 91, 120, 45, 122, 93, 36]) (
     ob (Lj n y1.1) fun y4 =>
     br (y4 == 1) (
      ob (Xb n y1.1) fun y5 =>
      br y5 (
       br (y3.2.1 == 1) (
        some (y3.2.2 == 41)) (
        some false)) (
       some false)) (
      some false)) (
     some false)) (
    some false)) (
   some false)) (
  some false)
def oK (n : Nat) (g0 : Int × List (Bool) × List (Int) × Unit -> Option (List UInt8)) (x1 : Int × List (Bool) × List (Int) × Unit) : Option (List UInt8) :=
 let i_2 : Int := x1.1
 let b3 : List (Bool) := x1.2.1
 let zIr : List (Int) := x1.2.2.1
 br (decide (i_2 < 256)) (
  chk (inB i_2 256) (
   chk (decide (i_2.toNat < 256)) (
    br (b3.getD (i_2.toNat) (Ty.dflt .bool)) (
     chk (Nat.ble ((zIr.length + ([IntKind.wrap .u8 i_2] : List (Int)).length) * 1) room) (
      let r5 : List (Int) := zIr ++ [IntKind.wrap .u8 i_2]
      let v6 : Int := IntKind.wrap .i64 (i_2 + 1)
      g0 (v6, b3, r5, ()))) (
     let v7 : Int := IntKind.wrap .i64 (i_2 + 1)
     g0 (v7, b3, zIr, ()))))) (
  some (lU zIr))
def tV (n : Nat) (x : List (Bool)) : Option (List UInt8) :=
 let a_0 : List (Bool) := x
 fix (oK n) n (0, a_0, [], ())
def kQ (n : Nat) (g0 : Int × Int × List (Bool) × List (Bool) × Unit -> Option (List (Bool))) (x1 : Int × Int × List (Bool) × List (Bool) × Unit) : Option (List (Bool)) :=
 let b_2 : Int := x1.1
 let i_3 : Int := x1.2.1
 let b4 : List (Bool) := x1.2.2.1
 let b5 : List (Bool) := x1.2.2.2.1
 br (decide (i_3 <= (IntKind.wrap .i64 b_2))) (
  chk (inB i_3 256) (
   chk (decide (i_3.toNat < 256)) (
    let v6 : Int := IntKind.wrap .i64 (i_3 + 1)
    g0 (b_2, v6, b4, b5.set (i_3.toNat) true, ())))) (
  some b5)
def eD (n : Nat) (x : Int × Int) : Option (List (Bool)) :=
 let a_0 : Int := x.1
 let b_1 : Int := x.2
 fix (kQ n) n (b_1, IntKind.wrap .i64 a_0, (List.replicate 256 false), (List.replicate 256 false), ())
def sD (n : Nat) (g0 : Int × List (Bool) × List (Bool) × List (Bool) × Unit -> Option (List (Bool))) (x1 : Int × List (Bool) × List (Bool) × List (Bool) × Unit) : Option (List (Bool)) :=
 let i_2 : Int := x1.1
 let b3 : List (Bool) := x1.2.1
 let b4 : List (Bool) := x1.2.2.1
 let b5 : List (Bool) := x1.2.2.2.1
 br (decide (i_2 < 256)) (
  chk (inB i_2 256) (
   chk (decide (i_2.toNat < 256)) (
    br (b3.getD (i_2.toNat) (Ty.dflt .bool)) (
     chk (inB i_2 256) (
      chk (decide (i_2.toNat < 256)) (
       let v6 : Int := IntKind.wrap .i64 (i_2 + 1)
       g0 (v6, b3.set (i_2.toNat) true, b4, b5, ())))) (
     chk (inB i_2 256) (
      chk (decide (i_2.toNat < 256)) (
       chk (inB i_2 256) (
        chk (decide (i_2.toNat < 256)) (
         let v7 : Int := IntKind.wrap .i64 (i_2 + 1)
         g0 (v7, b3.set (i_2.toNat) (b4.getD (i_2.toNat) (Ty.dflt .bool)), b4, b5, ()))))))))) (
  some b3)
def pV (n : Nat) (x : List (Bool) × List (Bool)) : Option (List (Bool)) :=
 let a_0 : List (Bool) := x.1
 let b_1 : List (Bool) := x.2
 fix (sD n) n (0, a_0, b_1, (List.replicate 256 false), ())
def sF (n : Nat) (g0 : List UInt8 × Int × List (Bool) × List (Bool) × Unit -> Option (List (Bool))) (x1 : List UInt8 × Int × List (Bool) × List (Bool) × Unit) : Option (List (Bool)) :=
 let s_2 : List UInt8 := x1.1
 let i_3 : Int := x1.2.1
 let b4 : List (Bool) := x1.2.2.1
 let b5 : List (Bool) := x1.2.2.2.1
 br (decide (i_3 < (s_2.length : Int))) (
  chk (inB i_3 s_2.length) (
   let v6 : Int := ((aQ 0 s_2 i_3).toNat : Int)
   chk (inB v6 256) (
    chk (decide (v6.toNat < 256)) (
     let v7 : Int := IntKind.wrap .i64 (i_3 + 1)
     g0 (s_2, v7, b4, b5.set (v6.toNat) true, ()))))) (
  some b5)
def lZ (n : Nat) (x : List UInt8) : Option (List (Bool)) :=
 let s_0 : List UInt8 := x
 fix (sF n) n (s_0, 0, (List.replicate 256 false), (List.replicate 256 false), ())
def kR (n : Nat) (g0 : Int × List (Bool) × List (Bool) × List (Bool) × Unit -> Option (List (Bool) × Bool)) (x21 : Int × List (Bool) × List (Bool) × List (Bool) × Unit) : Option (List (Bool) × Bool) :=
 let uZ : Int := x21.1
 let b23 : List (Bool) := x21.2.1
 let b24 : List (Bool) := x21.2.2.1
 let b25 : List (Bool) := x21.2.2.2.1
 br (decide (uZ < 256)) (
  chk (inB uZ 256) (
   chk (decide (uZ.toNat < 256)) (
    br (b25.getD (uZ.toNat) (Ty.dflt .bool)) (
     chk (inB uZ 256) (
      chk (decide (uZ.toNat < 256)) (
       chk (inB uZ 256) (
        chk (decide (uZ.toNat < 256)) (
         let v26 : Int := IntKind.wrap .i64 (uZ + 1)
         g0 (v26, b23, b24, b25.set (uZ.toNat) (!(b24.getD (uZ.toNat) (Ty.dflt .bool))), ())))))) (
     chk (inB uZ 256) (
      chk (decide (uZ.toNat < 256)) (
       let v27 : Int := IntKind.wrap .i64 (uZ + 1)
       g0 (v27, b23, b24, b25.set (uZ.toNat) false, ()))))))) (
  some (b25, true))
def Pz (n : Nat) (x : List UInt8) : Option (List (Bool) × Bool) :=
 let fD : List UInt8 := x
 ob (eD n (65, 90)) fun y1 =>
 ob (eD n (97, 122)) fun y2 =>
 ob (eD n (48, 57)) fun y3 =>
 ob (pV n (y1, y2)) fun y4 =>
 ob (pV n (y4, y3)) fun y5 =>
 br (fD == [117, 112, 112, 101, 114]) (
  some (y1, true)) (
  br (fD == [108, 111, 119, 101, 114]) (
   some (y2, true)) (
   br (fD == [97, 108, 112, 104, 97]) (
    ob (pV n (y1, y2)) fun y6 =>
    some (y6, true)) (
    br (fD == [100, 105, 103, 105, 116]) (
     some (y3, true)) (
     br (fD == [97, 108, 110, 117, 109]) (
      some (y5, true)) (
      br (fD == [120, 100, 105, 103, 105, 116]) (
       ob (eD n (65, 70)) fun y7 =>
       ob (eD n (97, 102)) fun y8 =>
       ob (pV n (y7, y8)) fun y9 =>
       ob (pV n (y3, y9)) fun y10 =>
       some (y10, true)) (
       br (fD == [98, 108, 97, 110, 107]) (
        ob (lZ n [9, 32]) fun y11 =>
        some (y11, true)) (
        br (fD == [115, 112, 97, 99, 101]) (
         ob (eD n (9, 13)) fun y12 =>
         ob (lZ n [32]) fun y13 =>
         ob (pV n (y12, y13)) fun y14 =>
         some (y14, true)) (
         br (fD == [99, 110, 116, 114, 108]) (
          ob (eD n (0, 31)) fun y15 =>
          ob (eD n (127, 127)) fun y16 =>
          ob (pV n (y15, y16)) fun y17 =>
          some (y17, true)) (
          br (fD == [103, 114, 97, 112, 104]) (
           ob (eD n (33, 126)) fun y18 =>
           some (y18, true)) (
           br (fD == [112, 114, 105, 110, 116]) (
            ob (eD n (32, 126)) fun y19 =>
            some (y19, true)) (
            br (fD == [112, 117, 110, 99, 116]) (
             ob (eD n (33, 126)) fun y20 =>
             fix (kR n) n (0, (List.replicate 256 false), y5, y20, ())) (
             some ((List.replicate 256 false), false)))))))))))))
def oL (n : Nat) (g0 : Int × List (Bool) × List (Int) × List (Int) × Unit -> Option (List (Int))) (x1 : Int × List (Bool) × List (Int) × List (Int) × Unit) : Option (List (Int)) :=
 let i_2 : Int := x1.1
 let b3 : List (Bool) := x1.2.1
 let b4 : List (Int) := x1.2.2.1
 let b5 : List (Int) := x1.2.2.2.1
 br (decide (i_2 ≥ 0)) (
  chk ((!decide (64 = 0))) (
   let v6 : Int := IntKind.wrap .i64 (Int.tdiv i_2 64)
   chk ((!decide (64 = 0))) (
    let v7 : Int := IntKind.wrap .i64 (Int.tdiv i_2 64)
    chk (inB v7 4) (
     chk (decide (v7.toNat < 4)) (
      let v8 : Int := b5.getD (v7.toNat) (Ty.dflt (.int .u64))
      let v9 : Int := IntKind.wrap .u64 (v8 * 2)
      chk (inB v6 4) (
       chk (decide (v6.toNat < 4)) (
        chk (inB i_2 256) (
         chk (decide (i_2.toNat < 256)) (
          br (b3.getD (i_2.toNat) (Ty.dflt .bool)) (
           chk ((!decide (64 = 0))) (
            let v10 : Int := IntKind.wrap .i64 (Int.tdiv i_2 64)
            chk (inB v10 4) (
             chk (decide (v10.toNat < 4)) (
              let v11 : Int := (b5.set (v6.toNat) v9).getD (v10.toNat) (Ty.dflt (.int .u64))
              let v12 : Int := IntKind.wrap .u64 (v11 + 1)
              chk (inB v10 4) (
               chk (decide (v10.toNat < 4)) (
                let v13 : Int := IntKind.wrap .i64 (i_2 - 1)
                g0 (v13, b3, b4, (b5.set (v6.toNat) v9).set (v10.toNat) v12, ()))))))) (
           let v14 : Int := IntKind.wrap .i64 (i_2 - 1)
           g0 (v14, b3, b4, b5.set (v6.toNat) v9, ()))))))))))) (
  some b5)
def lF (n : Nat) (x : List (Bool)) : Option (List (Int)) :=
 let a_0 : List (Bool) := x
 fix (oL n) n (255, a_0, [0, 0, 0, 0], [0, 0, 0, 0], ())
def bD (n : Nat) (x19 : Int × List (Int) × Int × Int × Int × Int × Int × Int × List (Int) × Int × Int × Int × Int × Int × Unit) : Option (Bool) :=
 let zKu : Int := x19.1
 let zTw : List (Int) := x19.2.1
 let A22 : Int := x19.2.2.1
 let B23 : Int := x19.2.2.2.1
 let zTx : Int := x19.2.2.2.2.1
 let zTy : Int := x19.2.2.2.2.2.1
 let N26 : Int := x19.2.2.2.2.2.2.1
 let zSm : Int := x19.2.2.2.2.2.2.2.1
 let zTz : List (Int) := x19.2.2.2.2.2.2.2.2.1
 let A29 : Int := x19.2.2.2.2.2.2.2.2.2.1
 let B30 : Int := x19.2.2.2.2.2.2.2.2.2.2.1
 let zUa : Int := x19.2.2.2.2.2.2.2.2.2.2.2.1
 let zUb : Int := x19.2.2.2.2.2.2.2.2.2.2.2.2.1
 let N33 : Int := x19.2.2.2.2.2.2.2.2.2.2.2.2.2.1
 br (Ty.beq aB (zSm, (zTz, (A29, (B30, (zUa, (zUb, (N33, ()))))))) (zKu, (zTw, (A22, (B23, (zTx, (zTy, (N26, ())))))))) (
  br (decide (zKu < 7)) (
   some true) (
   br (decide (N26 ≥ 1)) (
    some (decide (N26 <= 9))) (
    some false))) (
  some false)
def eO (n : Nat) (x34 : Int × Bool × Int × List (Int) × Int × Int × Int × Int × Int × Int × List (Int) × Int × Int × Int × Int × Int × Unit) : Option (Bool) :=
 let zCv : Int := x34.1
 let zSn : Bool := x34.2.1
 let Ll : Int := x34.2.2.1
 let Uf : List (Int) := x34.2.2.2.1
 let A39 : Int := x34.2.2.2.2.1
 let B40 : Int := x34.2.2.2.2.2.1
 let yF : Int := x34.2.2.2.2.2.2.1
 let wC : Int := x34.2.2.2.2.2.2.2.1
 let N43 : Int := x34.2.2.2.2.2.2.2.2.1
 let Lm : Int := x34.2.2.2.2.2.2.2.2.2.1
 let Ug : List (Int) := x34.2.2.2.2.2.2.2.2.2.2.1
 let A46 : Int := x34.2.2.2.2.2.2.2.2.2.2.2.1
 let B47 : Int := x34.2.2.2.2.2.2.2.2.2.2.2.2.1
 let zIs : Int := x34.2.2.2.2.2.2.2.2.2.2.2.2.2.1
 let zIt : Int := x34.2.2.2.2.2.2.2.2.2.2.2.2.2.2.1
 let N50 : Int := x34.2.2.2.2.2.2.2.2.2.2.2.2.2.2.2.1
 br zSn (
  jn (bD n) (Ll, Uf, A39, B40, yF, wC, N43, Lm, Ug, A39, B40, zIs, zIt, N50, ())) (
  br (zCv == 6) (
   br (decide (yF < 0)) (
    some false) (
    br (decide (yF > 255)) (
     some false) (
     br (wC != (-1)) (
      br (decide (wC < yF)) (
       some false) (
       br (decide (wC < 1)) (
        some false) (
        br (decide (wC > 255)) (
         some false) (
         jn (bD n) (Ll, Uf, A39, B40, yF, wC, N43, Lm, Ug, A39, B47, yF, wC, N50, ()))))) (
      jn (bD n) (Ll, Uf, A39, B40, yF, wC, N43, Lm, Ug, A39, B47, yF, wC, N50, ()))))) (
   br (zCv == 7) (
    jn (bD n) (Ll, Uf, A39, B40, yF, wC, N43, Lm, Ug, A39, B47, zIs, zIt, N43, ())) (
    br (zCv == 8) (
     jn (bD n) (Ll, Uf, A39, B40, yF, wC, N43, Lm, Ug, A46, B47, zIs, zIt, N43, ())) (
     some false))))
def bV (n : Nat) (x1 : Int × Bool × Int × List (Int) × Int × Int × Int × Int × Int × Int × List (Int) × Int × Int × Int × Int × Int × List (Int) × Unit) : Option (Bool) :=
 let Oe : Int := x1.1
 let zUc : Bool := x1.2.1
 let zAr : Int := x1.2.2.1
 let Xc : List (Int) := x1.2.2.2.1
 let A6 : Int := x1.2.2.2.2.1
 let B7 : Int := x1.2.2.2.2.2.1
 let zIu : Int := x1.2.2.2.2.2.2.1
 let zIv : Int := x1.2.2.2.2.2.2.2.1
 let N10 : Int := x1.2.2.2.2.2.2.2.2.1
 let Uh : Int := x1.2.2.2.2.2.2.2.2.2.1
 let zIw : List (Int) := x1.2.2.2.2.2.2.2.2.2.2.1
 let A13 : Int := x1.2.2.2.2.2.2.2.2.2.2.2.1
 let B14 : Int := x1.2.2.2.2.2.2.2.2.2.2.2.2.1
 let zAs : Int := x1.2.2.2.2.2.2.2.2.2.2.2.2.2.1
 let zAt : Int := x1.2.2.2.2.2.2.2.2.2.2.2.2.2.2.1
 let N17 : Int := x1.2.2.2.2.2.2.2.2.2.2.2.2.2.2.2.1
 let b18 : List (Int) := x1.2.2.2.2.2.2.2.2.2.2.2.2.2.2.2.2.1
 br zUc (
  jn (bD n) (zAr, Xc, A6, B7, zIu, zIv, N10, Uh, zIw, A13, B14, zAs, zAt, N17, ())) (
  br (Oe == 1) (
   br (Ty.beq (.arr 4 (.int .u64)) Xc b18) (
    some false) (
    jn (bD n) (zAr, Xc, A6, B7, zIu, zIv, N10, Uh, Xc, A13, B14, zAs, zAt, N17, ()))) (
   br (Oe == 4) (
    jn (eO n) (Oe, (Oe == 4), zAr, Xc, A6, B7, zIu, zIv, N10, Uh, zIw, A13, B14, zAs, zAt, N17, ())) (
    jn (eO n) (Oe, (Oe == 5), zAr, Xc, A6, B7, zIu, zIv, N10, Uh, zIw, A13, B14, zAs, zAt, N17, ()))))
def aY (n : Nat) (x : Int × List (Int) × Int × Int × Int × Int × Int × Unit) : Option (Bool) :=
 let n_0 : Int × List (Int) × Int × Int × Int × Int × Int × Unit := x
 br (n_0.1 == 0) (
  jn (bV n) (n_0.1, (n_0.1 == 0), n_0.1, n_0.2.1, n_0.2.2.1, n_0.2.2.2.1, n_0.2.2.2.2.1, n_0.2.2.2.2.2.1, n_0.2.2.2.2.2.2.1, n_0.1, [0, 0, 0, 0], 0, 0, 0, 0, 0, [0, 0, 0, 0], ())) (
  br (n_0.1 == 2) (
   jn (bV n) (n_0.1, (n_0.1 == 2), n_0.1, n_0.2.1, n_0.2.2.1, n_0.2.2.2.1, n_0.2.2.2.2.1, n_0.2.2.2.2.2.1, n_0.2.2.2.2.2.2.1, n_0.1, [0, 0, 0, 0], 0, 0, 0, 0, 0, [0, 0, 0, 0], ())) (
   jn (bV n) (n_0.1, (n_0.1 == 3), n_0.1, n_0.2.1, n_0.2.2.1, n_0.2.2.2.1, n_0.2.2.2.2.1, n_0.2.2.2.2.2.1, n_0.2.2.2.2.2.2.1, n_0.1, [0, 0, 0, 0], 0, 0, 0, 0, 0, [0, 0, 0, 0], ())))
def dS (n : Nat) (dW : (List (NdT) × Int) -> Option (Int)) (x : List (NdT) × Int) : Option (Int) :=
 let l_0 : List (NdT) := x.1
 let i_1 : Int := x.2
 br (decide (i_1 < 0)) (
  some (-1)) (
  chk (inB i_1 l_0.length) (
   let v1 : Int × List (Int) × Int × Int × Int × Int × Int × Unit := aQ (Ty.dflt aB) l_0 i_1
   br (v1.1 == 4) (
    br (v1.1 == 4) (
     chk (inB i_1 l_0.length) (
      let v2 : Int × List (Int) × Int × Int × Int × Int × Int × Unit := aQ (Ty.dflt aB) l_0 i_1
      let v3 : Int := IntKind.wrap .i64 (i_1 - 1)
      br (v2.2.2.2.1 != v3) (
       some (-1)) (
       let v4 : Int := IntKind.wrap .i64 (i_1 - 1)
       ob (dW (l_0, v4)) fun y5 =>
       br (decide (y5 < 1)) (
        some (-1)) (
        chk (inB i_1 l_0.length) (
         let v6 : Int × List (Int) × Int × Int × Int × Int × Int × Unit := aQ (Ty.dflt aB) l_0 i_1
         let v7 : Int := IntKind.wrap .i64 (y5 - 1)
         br (v6.2.2.1 != v7) (
          some (-1)) (
          let v8 : Int := IntKind.wrap .i64 (y5 - 1)
          ob (dW (l_0, v8)) fun y9 =>
          some y9)))))) (
     br (v1.1 == 6) (
      br (v1.1 == 6) (
       chk (inB i_1 l_0.length) (
        let v10 : Int × List (Int) × Int × Int × Int × Int × Int × Unit := aQ (Ty.dflt aB) l_0 i_1
        let v11 : Int := IntKind.wrap .i64 (i_1 - 1)
        br (v10.2.2.1 != v11) (
         some (-1)) (
         let v12 : Int := IntKind.wrap .i64 (i_1 - 1)
         ob (dW (l_0, v12)) fun y13 =>
         some y13))) (
       some i_1)) (
      br (v1.1 == 7) (
       chk (inB i_1 l_0.length) (
        let v14 : Int × List (Int) × Int × Int × Int × Int × Int × Unit := aQ (Ty.dflt aB) l_0 i_1
        let v15 : Int := IntKind.wrap .i64 (i_1 - 1)
        br (v14.2.2.1 != v15) (
         some (-1)) (
         let v16 : Int := IntKind.wrap .i64 (i_1 - 1)
         ob (dW (l_0, v16)) fun y17 =>
         some y17))) (
       some i_1)))) (
    br (v1.1 == 5) (
     chk (inB i_1 l_0.length) (
      let v18 : Int × List (Int) × Int × Int × Int × Int × Int × Unit := aQ (Ty.dflt aB) l_0 i_1
      let v19 : Int := IntKind.wrap .i64 (i_1 - 1)
      br (v18.2.2.2.1 != v19) (
       some (-1)) (
       let v20 : Int := IntKind.wrap .i64 (i_1 - 1)
       ob (dW (l_0, v20)) fun y21 =>
       br (decide (y21 < 1)) (
        some (-1)) (
        chk (inB i_1 l_0.length) (
         let v22 : Int × List (Int) × Int × Int × Int × Int × Int × Unit := aQ (Ty.dflt aB) l_0 i_1
         let v23 : Int := IntKind.wrap .i64 (y21 - 1)
         br (v22.2.2.1 != v23) (
          some (-1)) (
          let v24 : Int := IntKind.wrap .i64 (y21 - 1)
          ob (dW (l_0, v24)) fun y25 =>
          some y25)))))) (
     br (v1.1 == 6) (
      br (v1.1 == 6) (
       chk (inB i_1 l_0.length) (
        let v26 : Int × List (Int) × Int × Int × Int × Int × Int × Unit := aQ (Ty.dflt aB) l_0 i_1
        let v27 : Int := IntKind.wrap .i64 (i_1 - 1)
        br (v26.2.2.1 != v27) (
         some (-1)) (
         let v28 : Int := IntKind.wrap .i64 (i_1 - 1)
         ob (dW (l_0, v28)) fun y29 =>
         some y29))) (
       some i_1)) (
      br (v1.1 == 7) (
       chk (inB i_1 l_0.length) (
        let v30 : Int × List (Int) × Int × Int × Int × Int × Int × Unit := aQ (Ty.dflt aB) l_0 i_1
        let v31 : Int := IntKind.wrap .i64 (i_1 - 1)
        br (v30.2.2.1 != v31) (
         some (-1)) (
         let v32 : Int := IntKind.wrap .i64 (i_1 - 1)
         ob (dW (l_0, v32)) fun y33 =>
         some y33))) (
       some i_1))))))
def dG (n : Nat) : (List (NdT) × Int) -> Option (Int) :=
 Dy (fun n r x => dS n r x) n
def cK (n : Nat) (aV : (List (NdT) × Int × Bool × Int × List (Bool) × Bool × Unit) -> Option (Bool × Int × List (Bool) × Bool × Unit)) (x : List (NdT) × Int × Bool × Int × List (Bool) × Bool × Unit) : Option (Bool × Int × List (Bool) × Bool × Unit) :=
 let l_0 : List (NdT) := x.1
 let i_1 : Int := x.2.1
 let w_2 : Bool × Int × List (Bool) × Bool × Unit := x.2.2
 chk (inB i_1 l_0.length) (
  let v1 : Int × List (Int) × Int × Int × Int × Int × Int × Unit := aQ (Ty.dflt aB) l_0 i_1
  br (v1.1 == 4) (
   chk (inB v1.2.2.1 l_0.length) (
    let v2 : Int × List (Int) × Int × Int × Int × Int × Int × Unit := aQ (Ty.dflt aB) l_0 v1.2.2.1
    br (v2.1 == 4) (
     ob (aV (l_0, v1.2.2.1, (false, w_2.2))) fun y3 =>
     ob (aV (l_0, v1.2.2.2.1, y3)) fun y4 =>
     some y4) (
     chk (inB v1.2.2.1 l_0.length) (
      let v5 : Int × List (Int) × Int × Int × Int × Int × Int × Unit := aQ (Ty.dflt aB) l_0 v1.2.2.1
      br (v5.1 == 5) (
       ob (aV (l_0, v1.2.2.1, (false, w_2.2))) fun y6 =>
       ob (aV (l_0, v1.2.2.2.1, y6)) fun y7 =>
       some y7) (
       chk (inB v1.2.2.2.1 l_0.length) (
        let v8 : Int × List (Int) × Int × Int × Int × Int × Int × Unit := aQ (Ty.dflt aB) l_0 v1.2.2.2.1
        br (v8.1 == 5) (
         ob (aV (l_0, v1.2.2.1, (false, w_2.2))) fun y9 =>
         ob (aV (l_0, v1.2.2.2.1, y9)) fun y10 =>
         some y10) (
         ob (aV (l_0, v1.2.2.1, w_2)) fun y11 =>
         ob (aV (l_0, v1.2.2.2.1, y11)) fun y12 =>
         some y12))))))) (
   br (v1.1 == 5) (
    chk (inB v1.2.2.1 l_0.length) (
     let v13 : Int × List (Int) × Int × Int × Int × Int × Int × Unit := aQ (Ty.dflt aB) l_0 v1.2.2.1
     br (v13.1 == 5) (
      ob (aV (l_0, v1.2.2.1, (false, w_2.2))) fun y14 =>
      ob (aV (l_0, v1.2.2.2.1, y14)) fun y15 =>
      some y15) (
      ob (aV (l_0, v1.2.2.1, w_2)) fun y16 =>
      ob (aV (l_0, v1.2.2.2.1, y16)) fun y17 =>
      some y17))) (
    br (v1.1 == 6) (
     chk (inB v1.2.2.1 l_0.length) (
      let v18 : Int × List (Int) × Int × Int × Int × Int × Int × Unit := aQ (Ty.dflt aB) l_0 v1.2.2.1
      br (v18.1 != 1) (
       chk (inB v1.2.2.1 l_0.length) (
        let v19 : Int × List (Int) × Int × Int × Int × Int × Int × Unit := aQ (Ty.dflt aB) l_0 v1.2.2.1
        br (v19.1 != 7) (
         chk (inB v1.2.2.1 l_0.length) (
          let v20 : Int × List (Int) × Int × Int × Int × Int × Int × Unit := aQ (Ty.dflt aB) l_0 v1.2.2.1
          br (v20.1 != 8) (
           ob (aV (l_0, v1.2.2.1, (false, w_2.2))) fun y21 =>
           some y21) (
           ob (aV (l_0, v1.2.2.1, w_2)) fun y22 =>
           some y22))) (
         ob (aV (l_0, v1.2.2.1, w_2)) fun y23 =>
         some y23))) (
       ob (aV (l_0, v1.2.2.1, w_2)) fun y24 =>
       some y24))) (
     br (v1.1 == 7) (
      let v25 : Int := IntKind.wrap .i64 (w_2.2.1 + 1)
      br (v25 != v1.2.2.2.2.2.2.1) (
       ob (aV (l_0, v1.2.2.1, (false, (v25, w_2.2.2)))) fun y26 =>
       chk (inB v1.2.2.2.2.2.2.1 10) (
        chk (decide (v1.2.2.2.2.2.2.1.toNat < 10)) (
         some (y26.1, (y26.2.1, (y26.2.2.1.set (v1.2.2.2.2.2.2.1.toNat) true, y26.2.2.2)))))) (
       ob (aV (l_0, v1.2.2.1, (w_2.1, (v25, w_2.2.2)))) fun y27 =>
       chk (inB v1.2.2.2.2.2.2.1 10) (
        chk (decide (v1.2.2.2.2.2.2.1.toNat < 10)) (
         some (y27.1, (y27.2.1, (y27.2.2.1.set (v1.2.2.2.2.2.2.1.toNat) true, y27.2.2.2))))))) (
      br (v1.1 == 8) (
       chk (inB v1.2.2.2.2.2.2.1 10) (
        chk (decide (v1.2.2.2.2.2.2.1.toNat < 10)) (
         br (!(w_2.2.2.1.getD (v1.2.2.2.2.2.2.1.toNat) (Ty.dflt .bool))) (
          some (false, (w_2.2.1, (w_2.2.2.1, (true, ()))))) (
          some (w_2.1, (w_2.2.1, (w_2.2.2.1, (true, ())))))))) (
       br (v1.1 == 0) (
        br ((l_0.length : Int) != 1) (
         some (false, w_2.2)) (
         some w_2)) (
        some w_2)))))))
def dX (n : Nat) : (List (NdT) × Int × Bool × Int × List (Bool) × Bool × Unit) -> Option (Bool × Int × List (Bool) × Bool × Unit) :=
 Dy (fun n r x => cK n r x) n
def dL (n : Nat) (g0 : List (NdT) × Int × Bool × Int × List (Bool) × Bool × Unit -> Option (Bool × Int × List (Bool) × Bool × Unit)) (x1 : List (NdT) × Int × Bool × Int × List (Bool) × Bool × Unit) : Option (Bool × Int × List (Bool) × Bool × Unit) :=
 let l_2 : List (NdT) := x1.1
 let i_3 : Int := x1.2.1
 let zUd : Bool := x1.2.2.1
 let zSo : Int := x1.2.2.2.1
 let zSp : List (Bool) := x1.2.2.2.2.1
 let zUe : Bool := x1.2.2.2.2.2.1
 br (decide (i_3 < (l_2.length : Int))) (
  chk (inB i_3 l_2.length) (
   let v8 : Int × List (Int) × Int × Int × Int × Int × Int × Unit := aQ (Ty.dflt aB) l_2 i_3
   ob (aY n v8) fun y9 =>
   br (!y9) (
    some (false, (0, ([false, false, false, false, false, false, false, false, false, false], (false, ()))))) (
    let v10 : Int := IntKind.wrap .i64 (i_3 + 1)
    g0 (l_2, v10, zUd, zSo, zSp, zUe, ())))) (
  let v11 : Int := IntKind.wrap .i64 ((l_2.length : Int) - 1)
  ob (dG n (l_2, v11)) fun y12 =>
  br (y12 != 0) (
   some (false, (0, ([false, false, false, false, false, false, false, false, false, false], (false, ()))))) (
   let v13 : Int := IntKind.wrap .i64 ((l_2.length : Int) - 1)
   ob (dX n (l_2, v13, (true, (0, ([false, false, false, false, false, false, false, false, false, false], (false, ())))))) fun y14 =>
   some y14))
def Ae (n : Nat) (x : List (NdT)) : Option (Bool × Int × List (Bool) × Bool × Unit) :=
 let l_0 : List (NdT) := x
 br (decide ((l_0.length : Int) < 1)) (
  some (false, (0, ([false, false, false, false, false, false, false, false, false, false], (false, ()))))) (
  br (decide ((l_0.length : Int) > 120)) (
   some (false, (0, ([false, false, false, false, false, false, false, false, false, false], (false, ()))))) (
   fix (dL n) n (l_0, 0, false, 0, [false, false, false, false, false, false, false, false, false, false], false, ())))
def rE (n : Nat) (x : List (NdT)) : Option (Bool) :=
 let l_0 : List (NdT) := x
 ob (Ae n l_0) fun y1 =>
 some y1.1
def pW (n : Nat) (g0 : Int × List (Int) × List (Bool) × List (Bool) × Unit -> Option (List (Bool))) (x1 : Int × List (Int) × List (Bool) × List (Bool) × Unit) : Option (List (Bool)) :=
 let i_2 : Int := x1.1
 let b3 : List (Int) := x1.2.1
 let b4 : List (Bool) := x1.2.2.1
 let b5 : List (Bool) := x1.2.2.2.1
 br (decide (i_2 < 256)) (
  chk ((!decide (64 = 0))) (
   let v6 : Int := IntKind.wrap .i64 (Int.tdiv i_2 64)
   chk (inB v6 4) (
    chk (decide (v6.toNat < 4)) (
     let v7 : Int := b3.getD (v6.toNat) (Ty.dflt (.int .u64))
     chk ((!decide (2 = 0))) (
      chk (inB i_2 256) (
       chk (decide (i_2.toNat < 256)) (
        chk ((!decide (64 = 0))) (
         let v8 : Int := IntKind.wrap .i64 (Int.tdiv i_2 64)
         chk ((!decide (64 = 0))) (
          let v9 : Int := IntKind.wrap .i64 (Int.tdiv i_2 64)
          chk (inB v9 4) (
           chk (decide (v9.toNat < 4)) (
            let v10 : Int := b3.getD (v9.toNat) (Ty.dflt (.int .u64))
            chk ((!decide (2 = 0))) (
             let v11 : Int := IntKind.wrap .u64 (Int.tdiv v10 2)
             chk (inB v8 4) (
              chk (decide (v8.toNat < 4)) (
               let v12 : Int := IntKind.wrap .i64 (i_2 + 1)
               g0 (v12, b3.set (v8.toNat) v11, b4, b5.set (i_2.toNat) ((Int.tmod v7 2) == 1), ()))))))))))))))) (
  some b5)
def wD (n : Nat) (x : List (Int)) : Option (List (Bool)) :=
 let w_0 : List (Int) := x
 fix (pW n) n (0, w_0, (List.replicate 256 false), (List.replicate 256 false), ())
def Ui (n : Nat) (g0 : List UInt8 × List UInt8 × Int × Unit -> Option (List UInt8)) (x1 : List UInt8 × List UInt8 × Int × Unit) : Option (List UInt8) :=
 let s_2 : List UInt8 := x1.1
 let zAu : List UInt8 := x1.2.1
 let i_4 : Int := x1.2.2.1
 br (decide (i_4 < (s_2.length : Int))) (
  chk (inB i_4 s_2.length) (
   let v5 : Int := ((aQ 0 s_2 i_4).toNat : Int)
   chk ((!decide (16 = 0))) (
    let v6 : Int := IntKind.wrap .i64 (Int.tdiv (IntKind.wrap .i64 v5) 16)
    chk (inB i_4 s_2.length) (
     let v7 : Int := ((aQ 0 s_2 i_4).toNat : Int)
     chk ((!decide (16 = 0))) (
      let v8 : Int := Int.tmod (IntKind.wrap .i64 v7) 16
      let v9 : Int := IntKind.wrap .i64 (v6 + 1)
      chk ((decide (0 <= v9) && decide (v9 <= ([48, 49, 50, 51, 52, 53, 54, 55, 56, 57, 97, 98, 99, 100, 101, 102].length : Int)) && (decide (0 <= v6) && decide (v6 <= v9)))) (
       let v10 : List UInt8 := ([48, 49, 50, 51, 52, 53, 54, 55, 56, 57, 97, 98, 99, 100, 101, 102].take v9.toNat).drop v6.toNat
       chk (decide (zAu.length + v10.length <= aG)) (
        let v11 : Int := IntKind.wrap .i64 (v8 + 1)
        chk ((decide (0 <= v11) && decide (v11 <= ([48, 49, 50, 51, 52, 53, 54, 55, 56, 57, 97, 98, 99, 100, 101, 102].length : Int)) && (decide (0 <= v8) && decide (v8 <= v11)))) (
         let v12 : List UInt8 := ([48, 49, 50, 51, 52, 53, 54, 55, 56, 57, 97, 98, 99, 100, 101, 102].take v11.toNat).drop v8.toNat
         chk (decide ((zAu ++ v10).length + v12.length <= aG)) (
          let v13 : Int := IntKind.wrap .i64 (i_4 + 1)
          g0 (s_2, (zAu ++ v10) ++ v12, v13, ())))))))))) (
  some zAu)
def yP (n : Nat) (x : List UInt8) : Option (List UInt8) :=
 let s_0 : List UInt8 := x
 fix (Ui n) n (s_0, [], 0, ())
def yQ (n : Nat) (nQ : Int -> Option (List UInt8)) (x : Int) : Option (List UInt8) :=
 let n_0 : Int := x
 br (decide (n_0 < 10)) (
  let v1 : Int := IntKind.wrap .u64 (n_0 + 1)
  chk ((decide (0 <= v1) && decide (v1 <= ([48, 49, 50, 51, 52, 53, 54, 55, 56, 57].length : Int)) && (decide (0 <= n_0) && decide (n_0 <= v1)))) (
   let v2 : List UInt8 := ([48, 49, 50, 51, 52, 53, 54, 55, 56, 57].take v1.toNat).drop n_0.toNat
   some v2)) (
  chk ((!decide (10 = 0))) (
   let v3 : Int := IntKind.wrap .u64 (Int.tdiv n_0 10)
   ob (nQ v3) fun y4 =>
   chk ((!decide (10 = 0))) (
    chk ((!decide (10 = 0))) (
     let v5 : Int := IntKind.wrap .u64 ((Int.tmod n_0 10) + 1)
     chk ((decide (0 <= v5) && decide (v5 <= ([48, 49, 50, 51, 52, 53, 54, 55, 56, 57].length : Int)) && (decide (0 <= (Int.tmod n_0 10)) && decide ((Int.tmod n_0 10) <= v5)))) (
      let v6 : List UInt8 := ([48, 49, 50, 51, 52, 53, 54, 55, 56, 57].take v5.toNat).drop (Int.tmod n_0 10).toNat
      chk (decide (y4.length + v6.length <= aG)) (
       some (y4 ++ v6)))))))
def uR (n : Nat) : Int -> Option (List UInt8) :=
 Dy (fun n r x => yQ n r x) n
def rF (n : Nat) (x : Int) : Option (List UInt8) :=
 let n_0 : Int := x
 br (decide (n_0 < 0)) (
  let v1 : Int := IntKind.wrap .i64 (n_0 + 1)
  let v2 : Int := IntKind.wrap .i64 (0 - v1)
  let v3 : Int := IntKind.wrap .u64 ((IntKind.wrap .u64 v2) + 1)
  ob (uR n v3) fun y4 =>
  chk (decide ([45].length + y4.length <= aG)) (
   some ([45] ++ y4))) (
  ob (uR n (IntKind.wrap .u64 n_0)) fun y5 =>
  some y5)
def qV (n : Nat) (gQ : (List (NdT) × Int) -> Option (List UInt8)) (x : List (NdT) × Int) : Option (List UInt8) :=
 let l_0 : List (NdT) := x.1
 let i_1 : Int := x.2
 chk (inB i_1 l_0.length) (
  let v1 : Int × List (Int) × Int × Int × Int × Int × Int × Unit := aQ (Ty.dflt aB) l_0 i_1
  br (v1.1 == 0) (
   some [101]) (
   br (v1.1 == 1) (
    ob (wD n v1.2.1) fun y2 =>
    ob (tV n y2) fun y3 =>
    ob (yP n y3) fun y4 =>
    chk (decide ([91].length + y4.length <= aG)) (
     chk (decide (([91] ++ y4).length + ([93] : List UInt8).length <= aG)) (
      some (([91] ++ y4) ++ [93])))) (
    br (v1.1 == 2) (
     some [94]) (
     br (v1.1 == 3) (
      some [36]) (
      br (v1.1 == 4) (
       ob (gQ (l_0, v1.2.2.1)) fun y5 =>
       chk (decide ([38].length + y5.length <= aG)) (
        ob (gQ (l_0, v1.2.2.2.1)) fun y6 =>
        chk (decide (([38] ++ y5).length + y6.length <= aG)) (
         some (([38] ++ y5) ++ y6)))) (
       br (v1.1 == 5) (
        ob (gQ (l_0, v1.2.2.1)) fun y7 =>
        chk (decide ([124].length + y7.length <= aG)) (
         ob (gQ (l_0, v1.2.2.2.1)) fun y8 =>
         chk (decide (([124] ++ y7).length + y8.length <= aG)) (
          some (([124] ++ y7) ++ y8)))) (
        br (v1.1 == 6) (
         ob (rF n v1.2.2.2.2.1) fun y9 =>
         chk (decide ([42].length + y9.length <= aG)) (
          chk (decide (([42] ++ y9).length + ([44] : List UInt8).length <= aG)) (
           ob (rF n v1.2.2.2.2.2.1) fun y10 =>
           chk (decide ((([42] ++ y9) ++ [44]).length + y10.length <= aG)) (
            let v11 : List UInt8 := (([42] ++ y9) ++ [44]) ++ y10
            chk (decide (v11.length + ([59] : List UInt8).length <= aG)) (
             ob (gQ (l_0, v1.2.2.1)) fun y12 =>
             chk (decide ((v11 ++ [59]).length + y12.length <= aG)) (
              some ((v11 ++ [59]) ++ y12))))))) (
         br (v1.1 == 7) (
          ob (gQ (l_0, v1.2.2.1)) fun y13 =>
          chk (decide ([40].length + y13.length <= aG)) (
           chk (decide (([40] ++ y13).length + ([41] : List UInt8).length <= aG)) (
            some (([40] ++ y13) ++ [41])))) (
          ob (rF n v1.2.2.2.2.2.2.1) fun y14 =>
          chk (decide ([92].length + y14.length <= aG)) (
           some ([92] ++ y14)))))))))))
def wE (n : Nat) : (List (NdT) × Int) -> Option (List UInt8) :=
 Dy (fun n r x => qV n r x) n
def nR (n : Nat) (x : List (NdT)) : Option (List UInt8) :=
 let l_0 : List (NdT) := x
 ob (rE n l_0) fun y1 =>
 br (!y1) (
  some []) (
  let v2 : Int := IntKind.wrap .i64 ((l_0.length : Int) - 1)
  ob (wE n (l_0, v2)) fun y3 =>
  some y3)
def gT (n : Nat) (g0 : List UInt8 × List UInt8 × Int × Unit -> Option (Bool)) (x5 : List UInt8 × List UInt8 × Int × Unit) : Option (Bool) :=
 let s_6 : List UInt8 := x5.1
 let oU : List UInt8 := x5.2.1
 let i_8 : Int := x5.2.2.1
 br (decide (i_8 < (s_6.length : Int))) (
  chk (inB i_8 s_6.length) (
   let v9 : Int := ((aQ 0 s_6 i_8).toNat : Int)
   br (decide (v9 < 97)) (
    chk (inB i_8 s_6.length) (
     let v10 : Int := ((aQ 0 s_6 i_8).toNat : Int)
     br (decide (v10 < 48)) (
      some true) (
      chk (inB i_8 s_6.length) (
       let v11 : Int := ((aQ 0 s_6 i_8).toNat : Int)
       br (decide (v11 > 57)) (
        some true) (
        let v12 : Int := IntKind.wrap .i64 (i_8 + 1)
        chk ((decide (0 <= v12) && decide (v12 <= (s_6.length : Int)) && (decide (0 <= i_8) && decide (i_8 <= v12)))) (
         let v13 : List UInt8 := (s_6.take v12.toNat).drop i_8.toNat
         ob (lZ n v13) fun y14 =>
         ob (lF n y14) fun y15 =>
         ob (nR n [(1, (y15, (0, (0, (0, (0, (0, ())))))))]) fun y16 =>
         chk ((decide (0 <= (1 : Int)) && decide ((1 : Int) <= (y16.length : Int)))) (
          chk (decide ([91].length + (y16.drop (1 : Int).toNat).length <= aG)) (
           let v17 : Int := IntKind.wrap .i64 ((s_6.length : Int) - 1)
           br (decide (i_8 < v17)) (
            chk (decide ([38].length + ([91] ++ (y16.drop (1 : Int).toNat) : List UInt8).length <= aG)) (
             chk (decide (oU.length + ([38] ++ ([91] ++ (y16.drop (1 : Int).toNat)) : List UInt8).length <= aG)) (
              let v18 : List UInt8 := oU ++ ([38] ++ ([91] ++ (y16.drop (1 : Int).toNat)))
              let v19 : Int := IntKind.wrap .i64 (i_8 + 1)
              g0 (s_6, v18, v19, ())))) (
            chk (decide (oU.length + ([91] ++ (y16.drop (1 : Int).toNat) : List UInt8).length <= aG)) (
             let v20 : List UInt8 := oU ++ ([91] ++ (y16.drop (1 : Int).toNat))
             let v21 : Int := IntKind.wrap .i64 (i_8 + 1)
             g0 (s_6, v20, v21, ()))))))))))) (
    chk (inB i_8 s_6.length) (
     let v22 : Int := ((aQ 0 s_6 i_8).toNat : Int)
     br (decide (v22 > 122)) (
      chk (inB i_8 s_6.length) (
       let v23 : Int := ((aQ 0 s_6 i_8).toNat : Int)
       br (decide (v23 < 48)) (
        some true) (
        chk (inB i_8 s_6.length) (
         let v24 : Int := ((aQ 0 s_6 i_8).toNat : Int)
         br (decide (v24 > 57)) (
          some true) (
          let v25 : Int := IntKind.wrap .i64 (i_8 + 1)
          chk ((decide (0 <= v25) && decide (v25 <= (s_6.length : Int)) && (decide (0 <= i_8) && decide (i_8 <= v25)))) (
           let v26 : List UInt8 := (s_6.take v25.toNat).drop i_8.toNat
           ob (lZ n v26) fun y27 =>
           ob (lF n y27) fun y28 =>
           ob (nR n [(1, (y28, (0, (0, (0, (0, (0, ())))))))]) fun y29 =>
           chk ((decide (0 <= (1 : Int)) && decide ((1 : Int) <= (y29.length : Int)))) (
            chk (decide ([91].length + (y29.drop (1 : Int).toNat).length <= aG)) (
             let v30 : Int := IntKind.wrap .i64 ((s_6.length : Int) - 1)
             br (decide (i_8 < v30)) (
              chk (decide ([38].length + ([91] ++ (y29.drop (1 : Int).toNat) : List UInt8).length <= aG)) (
               chk (decide (oU.length + ([38] ++ ([91] ++ (y29.drop (1 : Int).toNat)) : List UInt8).length <= aG)) (
                let v31 : List UInt8 := oU ++ ([38] ++ ([91] ++ (y29.drop (1 : Int).toNat)))
                let v32 : Int := IntKind.wrap .i64 (i_8 + 1)
                g0 (s_6, v31, v32, ())))) (
              chk (decide (oU.length + ([91] ++ (y29.drop (1 : Int).toNat) : List UInt8).length <= aG)) (
               let v33 : List UInt8 := oU ++ ([91] ++ (y29.drop (1 : Int).toNat))
               let v34 : Int := IntKind.wrap .i64 (i_8 + 1)
               g0 (s_6, v33, v34, ()))))))))))) (
      let v35 : Int := IntKind.wrap .i64 (i_8 + 1)
      chk ((decide (0 <= v35) && decide (v35 <= (s_6.length : Int)) && (decide (0 <= i_8) && decide (i_8 <= v35)))) (
       let v36 : List UInt8 := (s_6.take v35.toNat).drop i_8.toNat
       ob (lZ n v36) fun y37 =>
       ob (lF n y37) fun y38 =>
       ob (nR n [(1, (y38, (0, (0, (0, (0, (0, ())))))))]) fun y39 =>
       chk ((decide (0 <= (1 : Int)) && decide ((1 : Int) <= (y39.length : Int)))) (
        chk (decide ([91].length + (y39.drop (1 : Int).toNat).length <= aG)) (
         let v40 : Int := IntKind.wrap .i64 ((s_6.length : Int) - 1)
         br (decide (i_8 < v40)) (
          chk (decide ([38].length + ([91] ++ (y39.drop (1 : Int).toNat) : List UInt8).length <= aG)) (
           chk (decide (oU.length + ([38] ++ ([91] ++ (y39.drop (1 : Int).toNat)) : List UInt8).length <= aG)) (
            let v41 : List UInt8 := oU ++ ([38] ++ ([91] ++ (y39.drop (1 : Int).toNat)))
            let v42 : Int := IntKind.wrap .i64 (i_8 + 1)
            g0 (s_6, v41, v42, ())))) (
          chk (decide (oU.length + ([91] ++ (y39.drop (1 : Int).toNat) : List UInt8).length <= aG)) (
           let v43 : List UInt8 := oU ++ ([91] ++ (y39.drop (1 : Int).toNat))
           let v44 : Int := IntKind.wrap .i64 (i_8 + 1)
           g0 (s_6, v43, v44, ()))))))))))) (
  ob (jU n s_6) fun y45 =>
  br (y45.2.2 == 0) (
   ob (rZ n y45.1) fun y46 =>
   some (y46 == oU)) (
   some false))
def vB (n : Nat) (x : List UInt8) : Option (Bool) :=
 let s_0 : List UInt8 := x
 br (decide ((s_0.length : Int) > 40)) (
  ob (oI n ()) fun y1 =>
  some y1) (
  br (s_0 == []) (
   ob (oI n ()) fun y2 =>
   some y2) (
   ob (oI n ()) fun y3 =>
   br (!y3) (
    ob (oI n ()) fun y4 =>
    some y4) (
    fix (gT n) n (s_0, [], 0, ()))))
end Go.Dec
