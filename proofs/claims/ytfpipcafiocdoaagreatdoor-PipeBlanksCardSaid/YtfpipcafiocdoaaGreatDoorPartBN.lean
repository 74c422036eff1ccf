/- Part of a proof over this seat: a library of my own, and what it says of this seat. No statement is proved here. -/
import Derived.Test.YtfpipcafiocdoaaGreatDoorPartAJ
import Derived.Test.YtfpipcafiocdoaaGreatDoorPartBJ
import Derived.Test.YtfpipcafiocdoaaGreatDoorPartBL
import Derived.Test.YtfpipcafiocdoaaGreatDoorPartBA
namespace Go.Dec
set_option linter.unusedVariables false
abbrev wS : Ty:=.pair .str (.pair .str .unit)
def mF (n : Nat) (x : Int) : Option (Bool) :=
 let c_0 : Int := x
 br (decide (c_0 < 97)) (
  br (decide (c_0 < 65)) (
   br (decide (c_0 < 48)) (
    ob (strings_IndexByte n ([95, 45, 46, 47, 44, 58, 61, 43, 64, 37], c_0)) fun y1 =>
    some (decide (y1 < 0))) (
    br (decide (c_0 > 57)) (
     ob (strings_IndexByte n ([95, 45, 46, 47, 44, 58, 61, 43, 64, 37], c_0)) fun y2 =>
     some (decide (y2 < 0))) (
     some false))) (
   br (decide (c_0 > 90)) (
    br (decide (c_0 < 48)) (
     ob (strings_IndexByte n ([95, 45, 46, 47, 44, 58, 61, 43, 64, 37], c_0)) fun y3 =>
     some (decide (y3 < 0))) (
     br (decide (c_0 > 57)) (
      ob (strings_IndexByte n ([95, 45, 46, 47, 44, 58, 61, 43, 64, 37], c_0)) fun y4 =>
      some (decide (y4 < 0))) (
      some false))) (
    some false))) (
  br (decide (c_0 > 122)) (
   br (decide (c_0 < 65)) (
    br (decide (c_0 < 48)) (
     ob (strings_IndexByte n ([95, 45, 46, 47, 44, 58, 61, 43, 64, 37], c_0)) fun y5 =>
     some (decide (y5 < 0))) (
     br (decide (c_0 > 57)) (
      ob (strings_IndexByte n ([95, 45, 46, 47, 44, 58, 61, 43, 64, 37], c_0)) fun y6 =>
      some (decide (y6 < 0))) (
      some false))) (
    br (decide (c_0 > 90)) (
     br (decide (c_0 < 48)) (
      ob (strings_IndexByte n ([95, 45, 46, 47, 44, 58, 61, 43, 64, 37], c_0)) fun y7 =>
      some (decide (y7 < 0))) (
      br (decide (c_0 > 57)) (
       ob (strings_IndexByte n ([95, 45, 46, 47, 44, 58, 61, 43, 64, 37], c_0)) fun y8 =>
       some (decide (y8 < 0))) (
       some false))) (
     some false))) (
   some false))
def bG (n : Nat) (g0 : List (Int) × Int × Int × Unit -> Option (Int × Unit)) (x2 : List (Int) × Int × Int × Unit) : Option (Int × Unit) :=
 let s_3 : List (Int) := x2.1
 let zTq : Int := x2.2.1
 let Yi : Int := x2.2.2.1
 br (decide (Yi < zTq)) (
  chk (inB Yi s_3.length) (
   let v6 : Int := aN (Ty.dflt (.int .u8)) s_3 Yi
   ob (mF n v6) fun y7 =>
   br y7 (
    some (Yi, ())) (
    let v8 : Int := IntKind.wrap .i64 (Yi + 1)
    g0 (s_3, zTq, v8, ())))) (
  some ((-1), ()))
def bR (n : Nat) (x : List (Int) × Unit) : Option (Int × Unit) :=
 let s_1 : List (Int) := x.1
 fix (bG n) n (s_1, (s_1.length : Int), 0, ())
def bD (n : Nat) (x : List (Int) × Unit) : Option (Bool × Unit) :=
 let s_1 : List (Int) := x.1
 ob (bR n (s_1, ())) fun y2 =>
 some ((decide (y2.1 ≥ 0)), ())
def gQ (n : Nat) (x : List UInt8) : Option (List UInt8) :=
 let w_0 : List UInt8 := x
 br (!(w_0 == [])) (
  chk (Nat.ble w_0.length room) (
   ob (bD n (aI w_0, ())) fun y1 =>
   br (!y1.1) (
    some w_0) (
    ob (strings_ReplaceAll n (w_0, [39], [39, 92, 39, 39])) fun y2 =>
    chk (decide ([39].length + y2.length <= bP)) (
     chk (decide (([39] ++ y2).length + ([39] : List UInt8).length <= bP)) (
      some (([39] ++ y2) ++ [39])))))) (
  ob (strings_ReplaceAll n (w_0, [39], [39, 92, 39, 39])) fun y3 =>
  chk (decide ([39].length + y3.length <= bP)) (
   chk (decide (([39] ++ y3).length + ([39] : List UInt8).length <= bP)) (
    some (([39] ++ y3) ++ [39]))))
def gB (n : Nat) (g0 : List (List (List UInt8)) × List (List UInt8 × List UInt8 × Unit) × Int × Unit -> Option (Bool)) (g1 : List (List (List UInt8)) × List (List UInt8 × List UInt8 × Unit) × Int × Int × Unit -> Option (Bool)) (x5 : List (List (List UInt8)) × List (List UInt8 × List UInt8 × Unit) × Int × Int × Unit) : Option (Bool) :=
 let l_6 : List (List (List UInt8)) := x5.1
 let t_7 : List (List UInt8 × List UInt8 × Unit) := x5.2.1
 let i_8 : Int := x5.2.2.1
 let k_9 : Int := x5.2.2.2.1
 chk (inB i_8 l_6.length) (
  let v10 : List (List UInt8) := aN (Ty.dflt (.slice .str)) l_6 i_8
  br (decide (k_9 < (v10.length : Int))) (
   chk (inB i_8 l_6.length) (
    let v11 : List (List UInt8) := aN (Ty.dflt (.slice .str)) l_6 i_8
    chk (inB k_9 v11.length) (
     let v12 : List UInt8 := aN (Ty.dflt .str) v11 k_9
     br (decide ((v12.length : Int) > 100)) (
      some false) (
      let v13 : Int := IntKind.wrap .i64 (k_9 + 1)
      g1 (l_6, t_7, i_8, v13, ()))))) (
   chk (inB i_8 l_6.length) (
    let v14 : List (List UInt8) := aN (Ty.dflt (.slice .str)) l_6 i_8
    br (decide ((v14.length : Int) > 12)) (
     some false) (
     let v15 : Int := IntKind.wrap .i64 (i_8 + 1)
     g0 (l_6, t_7, v15, ())))))
def qA (n : Nat) (g2 : List (List (List UInt8)) × List (List UInt8 × List UInt8 × Unit) × Int × Unit -> Option (Bool)) (x16 : List (List (List UInt8)) × List (List UInt8 × List UInt8 × Unit) × Int × Unit) : Option (Bool) :=
 let zTr : List (List (List UInt8)) := x16.1
 let Jo : List (List UInt8 × List UInt8 × Unit) := x16.2.1
 let Pq : Int := x16.2.2.1
 br (decide (Pq < (Jo.length : Int))) (
  chk (inB Pq Jo.length) (
   let v20 : List UInt8 × List UInt8 × Unit := aN (Ty.dflt wS) Jo Pq
   br (decide ((v20.1.length : Int) > 60)) (
    some false) (
    chk (inB Pq Jo.length) (
     let v21 : List UInt8 × List UInt8 × Unit := aN (Ty.dflt wS) Jo Pq
     br (decide ((v21.2.1.length : Int) > 100)) (
      some false) (
      let v22 : Int := IntKind.wrap .i64 (Pq + 1)
      g2 (zTr, Jo, v22, ())))))) (
  br (decide ((zTr.length : Int) <= 8)) (
   some (decide ((Jo.length : Int) <= 8))) (
   some false))
def dZ (n : Nat) (g0 : List (List (List UInt8)) × List (List UInt8 × List UInt8 × Unit) × Int × Unit -> Option (Bool)) (x1 : List (List (List UInt8)) × List (List UInt8 × List UInt8 × Unit) × Int × Unit) : Option (Bool) :=
 let l_2 : List (List (List UInt8)) := x1.1
 let t_3 : List (List UInt8 × List UInt8 × Unit) := x1.2.1
 let i_4 : Int := x1.2.2.1
 br (decide (i_4 < (l_2.length : Int))) (
  fix (gB n g0) n (l_2, t_3, i_4, 0, ())) (
  fix (qA n) n (l_2, t_3, 0, ()))
def lD (n : Nat) (x : List (List (List UInt8)) × List (List UInt8 × List UInt8 × Unit)) : Option (Bool) :=
 let l_0 : List (List (List UInt8)) := x.1
 let t_1 : List (List UInt8 × List UInt8 × Unit) := x.2
 fix (dZ n) n (l_0, t_1, 0, ())
def kV (n : Nat) (g0 : List (List (List UInt8)) × Int × Int × List (List UInt8) × Unit -> Option (List UInt8 × Int)) (g1 : List (List (List UInt8)) × Int × Int × List (List UInt8) × Int × Int × List (List UInt8) × List (List UInt8) × Unit -> Option (List UInt8 × Int)) (x8 : List (List (List UInt8)) × Int × Int × List (List UInt8) × Int × Int × List (List UInt8) × List (List UInt8) × Unit) : Option (List UInt8 × Int) :=
 let zKy : List (List (List UInt8)) := x8.1
 let zGq : Int := x8.2.1
 let zGr : Int := x8.2.2.1
 let Yj : List (List UInt8) := x8.2.2.2.1
 let zGs : Int := x8.2.2.2.2.1
 let Nj : Int := x8.2.2.2.2.2.1
 let zEl : List (List UInt8) := x8.2.2.2.2.2.2.1
 let zEm : List (List UInt8) := x8.2.2.2.2.2.2.2.1
 br (decide (Nj < zGs)) (
  chk (inB Nj Yj.length) (
   let v17 : List UInt8 := aN (Ty.dflt .str) Yj Nj
   ob (gQ n v17) fun y18 =>
   chk (Nat.ble ((zEm.length + ([y18] : List (List UInt8)).length) * 16) room) (
    let v19 : Int := IntKind.wrap .i64 (Nj + 1)
    g1 (zKy, zGq, zGr, Yj, zGs, v19, zEl, zEm ++ [y18], ())))) (
  ob (strings_Join n (zEm, [32])) fun y20 =>
  chk (Nat.ble ((zEl.length + ([y20] : List (List UInt8)).length) * 16) room) (
   let v21 : Int := IntKind.wrap .i64 (zGr + 1)
   g0 (zKy, zGq, v21, zEl ++ [y20], ())))
def jB (n : Nat) (g0 : List (List (List UInt8)) × Int × Int × List (List UInt8) × Unit -> Option (List UInt8 × Int)) (x1 : List (List (List UInt8)) × Int × Int × List (List UInt8) × Unit) : Option (List UInt8 × Int) :=
 let zEn : List (List (List UInt8)) := x1.1
 let zKz : Int := x1.2.1
 let Un : Int := x1.2.2.1
 let zTs : List (List UInt8) := x1.2.2.2.1
 br (decide (Un < zKz)) (
  chk (inB Un zEn.length) (
   let v6 : List (List UInt8) := aN (Ty.dflt (.slice .str)) zEn Un
   br ((v6.length : Int) == 0) (
    some ([], 1)) (
    chk (inB 0 v6.length) (
     let v7 : List UInt8 := aN (Ty.dflt .str) v6 0
     br (!(v7 == [115, 101, 100])) (
      some ([], 1)) (
      fix (kV n g0) n (zEn, zKz, Un, v6, (v6.length : Int), 0, zTs, [], ())))))) (
  ob (strings_Join n (zTs, [32, 124, 32])) fun y22 =>
  some (y22, 0))
def uM (n : Nat) (x : List (List (List UInt8))) : Option (List UInt8 × Int) :=
 let l_0 : List (List (List UInt8)) := x
 fix (jB n) n (l_0, (l_0.length : Int), 0, [], ())
def kW (n : Nat) (g0 : List (List (List UInt8)) × List (List (List UInt8)) × Int × Unit -> Option (Bool)) (g1 : List (List (List UInt8)) × List (List (List UInt8)) × Int × Int × Unit -> Option (Bool)) (x7 : List (List (List UInt8)) × List (List (List UInt8)) × Int × Int × Unit) : Option (Bool) :=
 let a_8 : List (List (List UInt8)) := x7.1
 let b_9 : List (List (List UInt8)) := x7.2.1
 let Ed : Int := x7.2.2.1
 let Pv : Int := x7.2.2.2.1
 chk (inB Ed a_8.length) (
  let v12 : List (List UInt8) := aN (Ty.dflt (.slice .str)) a_8 Ed
  br (decide (Pv < (v12.length : Int))) (
   chk (inB Ed a_8.length) (
    let v13 : List (List UInt8) := aN (Ty.dflt (.slice .str)) a_8 Ed
    chk (inB Pv v13.length) (
     let v14 : List UInt8 := aN (Ty.dflt .str) v13 Pv
     chk (inB Ed b_9.length) (
      let v15 : List (List UInt8) := aN (Ty.dflt (.slice .str)) b_9 Ed
      chk (inB Pv v15.length) (
       let v16 : List UInt8 := aN (Ty.dflt .str) v15 Pv
       br (!(v14 == v16)) (
        some false) (
        let v17 : Int := IntKind.wrap .i64 (Pv + 1)
        g1 (a_8, b_9, Ed, v17, ()))))))) (
   let v18 : Int := IntKind.wrap .i64 (Ed + 1)
   g0 (a_8, b_9, v18, ())))
def jC (n : Nat) (g0 : List (List (List UInt8)) × List (List (List UInt8)) × Int × Unit -> Option (Bool)) (x1 : List (List (List UInt8)) × List (List (List UInt8)) × Int × Unit) : Option (Bool) :=
 let a_2 : List (List (List UInt8)) := x1.1
 let b_3 : List (List (List UInt8)) := x1.2.1
 let i_4 : Int := x1.2.2.1
 br (decide (i_4 < (a_2.length : Int))) (
  chk (inB i_4 a_2.length) (
   let v5 : List (List UInt8) := aN (Ty.dflt (.slice .str)) a_2 i_4
   chk (inB i_4 b_3.length) (
    let v6 : List (List UInt8) := aN (Ty.dflt (.slice .str)) b_3 i_4
    br ((v5.length : Int) != (v6.length : Int)) (
     some false) (
     fix (kW n g0) n (a_2, b_3, i_4, 0, ()))))) (
  some true)
def pU (n : Nat) (x : List (List (List UInt8)) × List (List (List UInt8))) : Option (Bool) :=
 let a_0 : List (List (List UInt8)) := x.1
 let b_1 : List (List (List UInt8)) := x.2
 br ((a_0.length : Int) != (b_1.length : Int)) (
  some false) (
  fix (jC n) n (a_0, b_1, 0, ()))
def dD (n : Nat) (g0 : List (List (List UInt8)) × List (Int) × List UInt8 × Int × Int × Unit -> Option (Bool)) (g1 : List (List (List UInt8)) × List (Int) × List UInt8 × Int × Int × Int × Unit -> Option (Bool)) (x13 : List (List (List UInt8)) × List (Int) × List UInt8 × Int × Int × Int × Unit) : Option (Bool) :=
 let Ar : List (List (List UInt8)) := x13.1
 let Ga : List (Int) := x13.2.1
 let Jp : List UInt8 := x13.2.2.1
 let Gb : Int := x13.2.2.2.1
 let Au : Int := x13.2.2.2.2.1
 let Jq : Int := x13.2.2.2.2.2.1
 chk (inB Au Ar.length) (
  let v20 : List (List UInt8) := aN (Ty.dflt (.slice .str)) Ar Au
  br (decide (Jq < (v20.length : Int))) (
   br (decide (Gb < (Ga.length : Int))) (
    chk (inB Gb Ga.length) (
     let v21 : Int := aN (Ty.dflt (.int .u8)) Ga Gb
     chk ((!decide (4 = 0))) (
      chk ((inB (Int.tmod v21 4) ([[32], [9], [32, 32], [32, 9, 32]].length) && decide (0 + ([[32], [9], [32, 32], [32, 9, 32]].length) <= [[32], [9], [32, 32], [32, 9, 32]].length))) (
       chk (decide (0 + (Int.tmod v21 4).toNat < [[32], [9], [32, 32], [32, 9, 32]].length)) (
        let v22 : Int := IntKind.wrap .i64 (Gb + 1)
        chk (decide (Jp.length + ([[32], [9], [32, 32], [32, 9, 32]].getD (0 + (Int.tmod v21 4).toNat) (Ty.dflt .str) : List UInt8).length <= bP)) (
         let v23 : List UInt8 := Jp ++ ([[32], [9], [32, 32], [32, 9, 32]].getD (0 + (Int.tmod v21 4).toNat) (Ty.dflt .str))
         chk (inB Au Ar.length) (
          let v24 : List (List UInt8) := aN (Ty.dflt (.slice .str)) Ar Au
          chk (inB Jq v24.length) (
           let v25 : List UInt8 := aN (Ty.dflt .str) v24 Jq
           ob (gQ n v25) fun y26 =>
           chk (decide (v23.length + y26.length <= bP)) (
            chk (decide ((v23 ++ y26).length + ([[32], [9], [32, 32], [32, 9, 32]].getD (0 + (Int.tmod v21 4).toNat) (Ty.dflt .str) : List UInt8).length <= bP)) (
             let v27 : List UInt8 := (v23 ++ y26) ++ ([[32], [9], [32, 32], [32, 9, 32]].getD (0 + (Int.tmod v21 4).toNat) (Ty.dflt .str))
             let v28 : Int := IntKind.wrap .i64 (Jq + 1)
             g1 (Ar, Ga, v27, v22, Au, v28, ()))))))))))) (
    let v29 : Int := IntKind.wrap .i64 (Gb + 1)
    chk (decide (Jp.length + ([32] : List UInt8).length <= bP)) (
     chk (inB Au Ar.length) (
      let v30 : List (List UInt8) := aN (Ty.dflt (.slice .str)) Ar Au
      chk (inB Jq v30.length) (
       let v31 : List UInt8 := aN (Ty.dflt .str) v30 Jq
       ob (gQ n v31) fun y32 =>
       chk (decide ((Jp ++ [32]).length + y32.length <= bP)) (
        chk (decide (((Jp ++ [32]) ++ y32).length + ([32] : List UInt8).length <= bP)) (
         let v33 : List UInt8 := ((Jp ++ [32]) ++ y32) ++ [32]
         let v34 : Int := IntKind.wrap .i64 (Jq + 1)
         g1 (Ar, Ga, v33, v29, Au, v34, ())))))))) (
   let v35 : Int := IntKind.wrap .i64 (Au + 1)
   g0 (Ar, Ga, Jp, Gb, v35, ())))
def mW (n : Nat) (g0 : List (List (List UInt8)) × List (Int) × List UInt8 × Int × Int × Unit -> Option (Bool)) (g1 : List (List (List UInt8)) × List (Int) × List UInt8 × Int × Int × Int × Unit -> Option (Bool)) (x36 : List (List (List UInt8)) × List (Int) × List UInt8 × Int × Int × Int × Unit) : Option (Bool) :=
 let Av : List (List (List UInt8)) := x36.1
 let Gc : List (Int) := x36.2.1
 let Jr : List UInt8 := x36.2.2.1
 let Gd : Int := x36.2.2.2.1
 let Aw : Int := x36.2.2.2.2.1
 let Js : Int := x36.2.2.2.2.2.1
 chk (inB Aw Av.length) (
  let v43 : List (List UInt8) := aN (Ty.dflt (.slice .str)) Av Aw
  br (decide (Js < (v43.length : Int))) (
   br (decide (Gd < (Gc.length : Int))) (
    chk (inB Gd Gc.length) (
     let v44 : Int := aN (Ty.dflt (.int .u8)) Gc Gd
     chk ((!decide (4 = 0))) (
      chk ((inB (Int.tmod v44 4) ([[32], [9], [32, 32], [32, 9, 32]].length) && decide (0 + ([[32], [9], [32, 32], [32, 9, 32]].length) <= [[32], [9], [32, 32], [32, 9, 32]].length))) (
       chk (decide (0 + (Int.tmod v44 4).toNat < [[32], [9], [32, 32], [32, 9, 32]].length)) (
        let v45 : Int := IntKind.wrap .i64 (Gd + 1)
        chk (decide (Jr.length + ([[32], [9], [32, 32], [32, 9, 32]].getD (0 + (Int.tmod v44 4).toNat) (Ty.dflt .str) : List UInt8).length <= bP)) (
         let v46 : List UInt8 := Jr ++ ([[32], [9], [32, 32], [32, 9, 32]].getD (0 + (Int.tmod v44 4).toNat) (Ty.dflt .str))
         chk (inB Aw Av.length) (
          let v47 : List (List UInt8) := aN (Ty.dflt (.slice .str)) Av Aw
          chk (inB Js v47.length) (
           let v48 : List UInt8 := aN (Ty.dflt .str) v47 Js
           ob (gQ n v48) fun y49 =>
           chk (decide (v46.length + y49.length <= bP)) (
            chk (decide ((v46 ++ y49).length + ([[32], [9], [32, 32], [32, 9, 32]].getD (0 + (Int.tmod v44 4).toNat) (Ty.dflt .str) : List UInt8).length <= bP)) (
             let v50 : List UInt8 := (v46 ++ y49) ++ ([[32], [9], [32, 32], [32, 9, 32]].getD (0 + (Int.tmod v44 4).toNat) (Ty.dflt .str))
             let v51 : Int := IntKind.wrap .i64 (Js + 1)
             g1 (Av, Gc, v50, v45, Aw, v51, ()))))))))))) (
    let v52 : Int := IntKind.wrap .i64 (Gd + 1)
    chk (decide (Jr.length + ([32] : List UInt8).length <= bP)) (
     chk (inB Aw Av.length) (
      let v53 : List (List UInt8) := aN (Ty.dflt (.slice .str)) Av Aw
      chk (inB Js v53.length) (
       let v54 : List UInt8 := aN (Ty.dflt .str) v53 Js
       ob (gQ n v54) fun y55 =>
       chk (decide ((Jr ++ [32]).length + y55.length <= bP)) (
        chk (decide (((Jr ++ [32]) ++ y55).length + ([32] : List UInt8).length <= bP)) (
         let v56 : List UInt8 := ((Jr ++ [32]) ++ y55) ++ [32]
         let v57 : Int := IntKind.wrap .i64 (Js + 1)
         g1 (Av, Gc, v56, v52, Aw, v57, ())))))))) (
   let v58 : Int := IntKind.wrap .i64 (Aw + 1)
   g0 (Av, Gc, Jr, Gd, v58, ())))
def dF (n : Nat) (g0 : List (List (List UInt8)) × List (Int) × List UInt8 × Int × Int × Unit -> Option (Bool)) (x7 : List (List (List UInt8)) × List (Int) × List UInt8 × Int × Int × Unit) : Option (Bool) :=
 let l_8 : List (List (List UInt8)) := x7.1
 let zTt : List (Int) := x7.2.1
 let zEo : List UInt8 := x7.2.2.1
 let zLa : Int := x7.2.2.2.1
 let zEp : Int := x7.2.2.2.2.1
 br (decide (zEp < (l_8.length : Int))) (
  br (decide (zEp > 0)) (
   chk (decide (zEo.length + ([124] : List UInt8).length <= bP)) (
    fix (dD n g0) n (l_8, zTt, zEo ++ [124], zLa, zEp, 0, ()))) (
   fix (mW n g0) n (l_8, zTt, zEo, zLa, zEp, 0, ()))) (
  ob (eD n zEo) fun y59 =>
  br (y59.2.2 == 0) (
   ob (pU n (l_8, y59.1)) fun y60 =>
   some y60) (
   some false))
def nZ (n : Nat) (x : List (List (List UInt8)) × List (Int)) : Option (Bool) :=
 let l_0 : List (List (List UInt8)) := x.1
 let zTu : List (Int) := x.2
 ob (lD n (l_0, [])) fun y1 =>
 br (!y1) (
  ob (shown21 n ()) fun y2 =>
  some y2) (
  br (decide ((zTu.length : Int) > 100)) (
   ob (shown21 n ()) fun y3 =>
   some y3) (
   ob (shown21 n ()) fun y4 =>
   br (!y4) (
    ob (shown21 n ()) fun y5 =>
    some y5) (
    ob (uM n l_0) fun y6 =>
    br (y6.2 != 0) (
     some (y6.1 == [])) (
     fix (dF n) n (l_0, zTu, [], 0, 0, ())))))
end Go.Dec
namespace Go.Dec
abbrev Nk : List UInt8:=[95,45,46,47,44,58,61,43,64,37]
def inM (v : Int) : Bool:=Nk.any fun x => (x.toNat : Int) == v
def strange (v : Int) : Bool:=(decide (v < 97) || decide (v > 122)) && ((decide (v < 65) || decide (v > 90)) && ((decide (v < 48) || decide (v > 57)) && !inM v))
def st (c : UInt8) : Bool:=strange (c.toNat : Int)
theorem zTv : ∀ k : Fin 256,decide (Go.Lib.indexByte Nk (k.val.toUInt8) < 0) = !(inM (k.val : Int)):=by decide +kernel
theorem zVw (c : UInt8) : decide (Go.Lib.indexByte Nk ((c.toNat : Int).toNat.toUInt8) < 0) = !(inM (c.toNat : Int)):=by
 have:=zTv ⟨c.toNat,c.toNat_lt⟩
 simpa using this
theorem zGt (n : Nat) (c : UInt8) : mF n (c.toNat : Int) = some (st c):=by
 unfold mF
 simp only [strings_IndexByte,gH]
 have h:=zVw c
 simp only [Nk] at h
 simp only [h,st,strange]
 generalize hm : inM (c.toNat : Int) = q
 generalize (c.toNat : Int) = v
 by_cases h1 : v < 97 <;> by_cases h2 : v > 122 <;> by_cases h3 : v < 65 <;> by_cases h4 : v > 90 <;> by_cases h5 : v < 48 <;> by_cases h6 : v > 57 <;> simp [h1,h2,h3,h4,h5,h6]
theorem zEq {s pre r : List UInt8} {c : UInt8} (h : s = pre ++ c :: r) : aN (Ty.dflt (.int .u8)) (aI s) (pre.length : Int) = (c.toNat : Int):=by
 have h2 : aI s = aI pre ++ (c.toNat : Int) :: aI r:=by rw [h]; simp [aI]
 have:=dO (d:=Ty.dflt (.int .u8)) h2
 rwa [mE] at this
theorem zTw {n : Nat} {w : List UInt8} (hw : w.length <= 1000) : ∀ (r pre : List UInt8) (m : Nat),w = pre ++ r -> r.length < m ->
  ∃ i : Int,fix (bG n) m (aI w,(w.length : Int),(pre.length : Int),()) = some (i,()) ∧ decide (i ≥ 0) = r.any st:=by
 intro r
 induction r with
 | nil =>
  intro pre m hp hm
  have hp : pre = w:=by simpa using hp.symm
  subst hp
  rw [bU (by omega),bG]
  simp only
  rw [aR (by simp)]
  exact ⟨_,rfl,by decide⟩
 | cons c r ih =>
  intro pre m hp hm
  have hm' : r.length + 1 < m:=hm
  have hlen : w.length = pre.length + r.length + 1:=by rw [hp]; simp; omega
  have hi:=ih (pre ++ [c]) (m - 1) (by rw [hp]; simp) (by omega)
  rw [show ((pre ++ [c]).length : Int) = (pre.length : Int) + 1 by simp] at hi
  rw [bU (by omega),bG]
  simp only
  rw [bJ (decide_eq_true (by omega)),aL (by rw [mE]; exact eZ (by omega)),zEq hp,zGt]
  simp only [gH]
  cases hs : st c with
  | true =>
   refine ⟨_,bJ rfl _ _,?_⟩
   simp [hs]
  | false =>
   rw [Db,fZ (by omega) (by omega)]
   obtain ⟨i,h1,h2⟩:=hi
   exact ⟨i,h1,by rw [h2]; simp [hs]⟩
theorem zOa {n : Nat} {w : List UInt8} (hw : w.length <= 1000) (hn : w.length < n) : bD n (aI w,()) = some (w.any st,()):=by
 unfold bD bR
 simp only [mE]
 obtain ⟨i,h1,h2⟩:=zTw (n:=n) hw w [] n rfl hn
 simp only [List.length_nil] at h1
 rw [show ((0 : Nat) : Int) = 0 from rfl] at h1
 rw [h1]
 simp only [gH]
 rw [h2]
abbrev qt : List UInt8:=[39,92,39,39]
def qS (w : List UInt8) : List UInt8:=if (!(w == []) && !(w.any st)) = true then w else [39] ++ bT 39 qt w ++ [39]
theorem Ee (o : UInt8) (new : List UInt8) (h : 1 <= new.length) : ∀ s : List UInt8,(bT o new s).length <= new.length * s.length
 | [] => by simp [bT]
 | c :: r => by
  have ih:=Ee o new h r
  have e : new.length * (c :: r).length = new.length + new.length * r.length:=by simp only [List.length_cons,Nat.mul_add,Nat.mul_one]; omega
  rw [e]
  simp only [bT]
  split
  ·simp only [List.length_append]; omega
  ·simp only [List.length_cons]; omega
theorem Yk (w : List UInt8) : (qS w).length <= 4 * w.length + 2:=by
 unfold qS
 have h:=Ee 39 qt (by simp) w
 simp only [List.length_cons,List.length_nil] at h
 split
 ·omega
 ·simp only [List.length_append,List.length_cons,List.length_nil]; omega
theorem quote_eq {n : Nat} {w : List UInt8} (hw : w.length <= 1000) (hn : w.length < n) : gQ n w = some (qS w):=by
 have hr:=Ee 39 qt (by simp) w
 simp only [List.length_cons,List.length_nil] at hr
 simp only [qt] at hr
 have tail : (ob (strings_ReplaceAll n (w,[39],[39,92,39,39])) fun y3 => chk (decide ([39].length + y3.length <= bP)) (chk (decide (([39] ++ y3).length + ([39] : List UInt8).length <= bP)) (some (([39] ++ y3) ++ [39])))) = some ([39] ++ bT 39 qt w ++ [39]):=by
  unfold strings_ReplaceAll
  simp only
  rw [aL (by simp; omega)]
  simp only [gH]
  rw [aL (decide_eq_true (by simp [bP]; omega)),aL (decide_eq_true (by simp [bP]; omega))]
 unfold gQ
 simp only
 cases hz : w == [] with
 | true =>
  rw [aR (by rfl)]
  rw [tail]
  unfold qS
  rw [hz]
  simp
 | false =>
  rw [bJ (by rfl),aL (by simp [room]; omega),zOa hw hn]
  simp only [gH]
  cases ha : w.any st with
  | true =>
   rw [aR (by rfl),tail]
   unfold qS
   rw [hz,ha]
   simp
  | false =>
   rw [bJ (by rfl)]
   unfold qS
   rw [hz,ha]
   simp
end Go.Dec
namespace Go.Dec
theorem Ef (sep : List UInt8) (B : Nat) : ∀ (a : List (List UInt8)),(∀ x ∈ a,x.length <= B) -> (eO a sep).length <= a.length * (B + sep.length)
 | [],_ => by simp [eO]
 | [y],h => by have:=h y (by simp); simp [eO]; omega
 | y :: z :: r,h => by
  have ih:=Ef sep B (z :: r) (fun x hx => h x (List.mem_cons_of_mem _ hx))
  have h1:=h y (by simp)
  have e : (y :: z :: r).length * (B + sep.length) = (B + sep.length) + (z :: r).length * (B + sep.length):=by simp only [List.length_cons,Nat.add_mul,Nat.one_mul]; omega
  rw [e]
  simp only [eO,List.length_append]
  omega
def dS (ws : List (List UInt8)) : List UInt8:=eO (ws.map qS) [32]
def pV : List (List UInt8) -> Bool
 | [] => false
 | w :: _ => w == [115,101,100]
def fM (ws : List (List UInt8)) : Prop:=ws.length <= 12 ∧ ∀ w ∈ ws,w.length <= 100
theorem zTx {ws : List (List UInt8)} (h : ∀ w ∈ ws,w.length <= 100) : ∀ x ∈ ws.map qS,x.length <= 402:=by
 intro x hx
 obtain ⟨w,hw,rfl⟩:=List.mem_map.1 hx
 have:=Yk w
 have:=h w hw
 omega
theorem Jt {ws : List (List UInt8)} (h : fM ws) : (dS ws).length <= 5000:=by
 have:=Ef [32] 402 (ws.map qS) (zTx h.2)
 have h1:=h.1
 simp only [List.length_map,List.length_cons,List.length_nil] at this
 unfold dS
 have : ws.length * 403 <= 12 * 403:=Nat.mul_le_mul_right _ h1
 omega
theorem Sl {pre : List (List (List UInt8))} (hl : pre.length <= 8) (h : ∀ ws ∈ pre,fM ws) (sep : List UInt8) (hs : sep.length <= 3) : (eO (pre.map dS) sep).length <= 50000:=by
 have:=Ef sep 5000 (pre.map dS) fun x hx => by
  obtain ⟨w,hw,rfl⟩:=List.mem_map.1 hx
  exact Jt (h w hw)
 simp only [List.length_map] at this
 have h2 : pre.length * (5000 + sep.length) <= 8 * (5000 + sep.length):=Nat.mul_le_mul_right _ hl
 omega
theorem join_eq {n : Nat} {a : List (List UInt8)} {sep : List UInt8} (h1 : a.length <= 1000) (h2 : (eO a sep).length <= 100000) : strings_Join n (a,sep) = some (eO a sep):=by
 unfold strings_Join
 simp only
 rw [aL (by simp [room]; omega)]
theorem zTy {n : Nat} (hn : 2000 <= n) {l : List (List (List UInt8))} {row : List (List UInt8)} {L i : Int} {ws : List (List UInt8)} (hw : fM ws) (hr : row.length <= 8) (hi : 0 <= i ∧ i < 100) (g0 : List (List (List UInt8)) × Int × Int × List (List UInt8) × Unit -> Option (List UInt8 × Int)) :
  ∀ (r pre : List (List UInt8)) (m : Nat),ws = pre ++ r -> r.length < m -> fix (kV n g0) m (l,L,i,ws,(ws.length : Int),(pre.length : Int),row,pre.map qS,()) = g0 (l,L,i + 1,row ++ [dS ws],()):=by
 have hw1:=hw.1
 intro r
 induction r with
 | nil =>
  intro pre m hp hm
  have hp : pre = ws:=by simpa using hp.symm
  subst hp
  have hll:=Jt hw
  rw [bU (by omega),kV]
  simp only
  rw [aR (by simp),join_eq (by simp; omega) (by have:=Jt hw; unfold dS at this; omega)]
  simp only [gH]
  rw [aL (by simp [room]; omega),fZ (by omega) (by omega)]
  rfl
 | cons c r ih =>
  intro pre m hp hm
  have hm' : r.length + 1 < m:=hm
  have hlen : ws.length = pre.length + r.length + 1:=by rw [hp]; simp; omega
  have hc : c.length <= 100:=hw.2 c (by rw [hp]; simp)
  have h:=ih (pre ++ [c]) (m - 1) (by rw [hp]; simp) (by omega)
  rw [show ((pre ++ [c]).length : Int) = (pre.length : Int) + 1 by simp,List.map_append,List.map_cons,List.map_nil] at h
  rw [bU (by omega),kV]
  simp only
  rw [bJ (decide_eq_true (by omega)),aL (eZ (by omega)),dO hp,quote_eq (by omega) (by omega)]
  simp only [gH]
  rw [aL (by simp [room]; omega),fZ (by omega) (by omega)]
  exact h
abbrev Ju : List UInt8:=[32,124,32]
theorem zVx {n : Nat} (hn : 2000 <= n) {l : List (List (List UInt8))} (hl : l.length <= 8) (hs : ∀ ws ∈ l,fM ws) : ∀ (r pre : List (List (List UInt8))) (m : Nat),l = pre ++ r -> r.length < m ->
  fix (jB n) m (l,(l.length : Int),(pre.length : Int),pre.map dS,()) = some (if r.all pV = true then (eO (l.map dS) Ju,0) else ([],1)):=by
 intro r
 induction r with
 | nil =>
  intro pre m hp hm
  have hp : pre = l:=by simpa using hp.symm
  subst hp
  have hj:=Sl hl hs Ju (by simp)
  rw [bU (by omega),jB]
  simp only
  rw [aR (by simp),join_eq (by simp; omega) (Nat.le_trans hj (by omega))]
  simp [gH]
 | cons ws r ih =>
  intro pre m hp hm
  have hm' : r.length + 1 < m:=hm
  have hlen : l.length = pre.length + r.length + 1:=by rw [hp]; simp; omega
  have hw : fM ws:=hs ws (by rw [hp]; simp)
  have h:=ih (pre ++ [ws]) (m - 1) (by rw [hp]; simp) (by omega)
  rw [show ((pre ++ [ws]).length : Int) = (pre.length : Int) + 1 by simp,List.map_append,List.map_cons,List.map_nil] at h
  rw [bU (by omega),jB]
  simp only
  rw [bJ (decide_eq_true (by omega)),aL (eZ (by omega)),dO hp]
  cases ws with
  | nil => rw [bJ (by rfl)]; simp [pV]
  | cons w q =>
   rw [aR (by rw [beq_eq_false_iff_ne]; simp only [List.length_cons]; omega),aL (zCr (by omega) (by simp only [List.length_cons]; omega))]
   have hg : aN (Ty.dflt .str) (w :: q) 0 = w:=rfl
   rw [hg]
   cases hh : w == ([115,101,100] : List UInt8) with
   | false => rw [bJ (by rfl)]; simp [pV,hh]
   | true =>
    rw [aR (by rfl)]
    have hp1:=zTy hn (l:=l) (row:=pre.map dS) (L:=(l.length : Int)) (i:=(pre.length : Int)) hw (by simp; omega) (by omega) (fix (jB n) (m - 1)) (w :: q) [] n rfl (by have:=hw.1; omega)
    simp only [List.map_nil,List.length_nil] at hp1
    rw [show ((0 : Nat) : Int) = 0 from rfl] at hp1
    rw [hp1,h]
    simp [pV,hh]
def pW : List (List (List UInt8)) -> Nat
 | [] => 0
 | ws :: r => ws.length + 1 + pW r
theorem Sm {ws : List (List UInt8)} : ∀ {l : List (List (List UInt8))},ws ∈ l -> ws.length <= pW l
 | [],h => by cases h
 | a :: r,h => by
  rcases List.mem_cons.1 h with rfl | h
  ·simp only [pW]; omega
  ·have:=Sm h; simp only [pW]; omega
theorem Sn : ∀ (l : List (List (List UInt8))),l.length <= pW l
 | [] => by simp
 | a :: r => by have:=Sn r; simp only [pW,List.length_cons]; omega
theorem zTz {n : Nat} {l : List (List (List UInt8))} {i : Nat} {ws : List (List UInt8)} (hi : i < l.length) (hl : l.length <= maxLen) (hg : aN (Ty.dflt (.slice .str)) l (i : Int) = ws) (hw : ws.length <= maxLen) (g0 : List (List (List UInt8)) × List (List UInt8 × List UInt8 × Unit) × Int × Unit -> Option Bool) :
  ∀ (r pre : List (List UInt8)) (m : Nat),ws = pre ++ r -> r.length < m ->
  fix (gB n g0) m (l,[],(i : Int),(pre.length : Int),()) = some false ∨ ((∀ w ∈ r,w.length <= 100) ∧ ws.length <= 12 ∧ fix (gB n g0) m (l,[],(i : Int),(pre.length : Int),()) = g0 (l,[],(i : Int) + 1,())):=by
 simp only [maxLen] at hl hw
 intro r
 induction r with
 | nil =>
  intro pre m hp hm
  have hp : pre = ws:=by simpa using hp.symm
  subst hp
  rw [bU (by omega),gB]
  simp only
  rw [aL (eZ hi),hg,aR (by simp),aL (eZ hi)]
  by_cases h12 : (pre.length : Int) > 12
  ·rw [bJ (decide_eq_true h12)]
   exact .inl rfl
  ·rw [aR (decide_eq_false h12),fZ (by omega) (by omega)]
   exact .inr ⟨(by simp),by omega,rfl⟩
 | cons c r ih =>
  intro pre m hp hm
  have hm' : r.length + 1 < m:=hm
  have hlen : ws.length = pre.length + r.length + 1:=by rw [hp]; simp; omega
  have h:=ih (pre ++ [c]) (m - 1) (by rw [hp]; simp) (by omega)
  rw [show ((pre ++ [c]).length : Int) = (pre.length : Int) + 1 by simp] at h
  rw [bU (by omega),gB]
  simp only
  rw [aL (eZ hi),hg,bJ (decide_eq_true (by omega)),aL (eZ hi),aL (eZ (by omega)),dO hp]
  by_cases h1 : (c.length : Int) > 100
  ·rw [bJ (decide_eq_true h1)]
   exact .inl rfl
  ·rw [aR (decide_eq_false h1),fZ (by omega) (by omega)]
   rcases h with h | ⟨h2,h3,h4⟩
   ·exact .inl h
   ·refine .inr ⟨fun w hw => ?_,h3,h4⟩
    rcases List.mem_cons.1 hw with rfl | hw
    ·omega
    ·exact h2 w hw
theorem zVy {n : Nat} {l : List (List (List UInt8))} (hl : l.length <= maxLen) (hls : ∀ ws ∈ l,ws.length <= maxLen) (hn : pW l < n) : ∀ (r pre : List (List (List UInt8))) (m : Nat),l = pre ++ r -> r.length < m -> (∀ ws ∈ pre,fM ws) ->
  fix (dZ n) m (l,[],(pre.length : Int),()) = some false ∨ (fix (dZ n) m (l,[],(pre.length : Int),()) = some true ∧ l.length <= 8 ∧ ∀ ws ∈ l,fM ws):=by
 have hl2:=hl
 simp only [maxLen] at hl2
 intro r
 induction r with
 | nil =>
  intro pre m hp hm hall
  have hp : pre = l:=by simpa using hp.symm
  subst hp
  rw [bU (by omega),dZ]
  simp only
  rw [aR (by simp),bU (by omega),qA]
  simp only
  rw [aR (by simp)]
  by_cases h8 : (pre.length : Int) <= 8
  ·rw [bJ (decide_eq_true h8)]
   exact .inr ⟨rfl,by omega,hall⟩
  ·rw [aR (decide_eq_false h8)]
   exact .inl rfl
 | cons ws r ih =>
  intro pre m hp hm hall
  have hm' : r.length + 1 < m:=hm
  have hlen : l.length = pre.length + r.length + 1:=by rw [hp]; simp; omega
  have hmem : ws ∈ l:=by rw [hp]; simp
  have hws:=Sm hmem
  rw [bU (by omega),dZ]
  simp only
  rw [bJ (decide_eq_true (by omega))]
  have hb:=zTz (n:=n) (i:=pre.length) (by omega) hl (dO (d:=Ty.dflt (.slice .str)) hp) (hls ws hmem) (fix (dZ n) (m - 1)) ws [] n rfl (by omega)
  simp only [List.length_nil] at hb
  rw [show ((0 : Nat) : Int) = 0 from rfl] at hb
  rcases hb with hb | ⟨h1,h2,hb⟩
  ·exact .inl hb
  ·rw [hb]
   have h:=ih (pre ++ [ws]) (m - 1) (by rw [hp]; simp) (by omega) (fun v hv => by
    rcases List.mem_append.1 hv with hv | hv
    ·exact hall v hv
    ·simp only [List.mem_singleton] at hv
     subst hv
     exact ⟨h2,h1⟩)
   rw [show ((pre ++ [ws]).length : Int) = (pre.length : Int) + 1 by simp] at h
   exact h
end Go.Dec
