/- Part of a proof over this seat: a library of my own, and what it says of this seat. No statement is proved here. -/
import Derived.Test.YtlimifngdjkogaaGreatDoorPartBI
import Derived.Test.YtlimifngdjkogaaGreatDoorPartAM
namespace Go.Dec
def shown15 (_n : Nat) (_x : Unit) : Option Bool := some true
end Go.Dec
namespace Go.Dec
set_option linter.unusedVariables false
abbrev cZ : Ty := .pair .str (.pair .bool .unit)
def bD (n : Nat) (x : List UInt8 × List (Int) × Unit) : Option (Int × Bool × List (Int) × Unit) :=
 let s_1 : List UInt8 := x.1
 let zKj : List (Int) := x.2.1
 ob (lS n (zKj, ())) fun y3 =>
 chk (Nat.ble ((y3.1.length + s_1.length) * 1) room) (
  some ((s_1.length : Int), false, y3.1 ++ aK s_1, ()))
def iB (n : Nat) (g0 : List UInt8 × List (List UInt8 × Bool × Unit) × Int × Int × List (Int) × Unit -> Option (List UInt8)) (x1 : List UInt8 × List (List UInt8 × Bool × Unit) × Int × Int × List (Int) × Unit) : Option (List UInt8) :=
 let zEh : List UInt8 := x1.1
 let Yr : List (List UInt8 × Bool × Unit) := x1.2.1
 let zDo : Int := x1.2.2.1
 let Ry : Int := x1.2.2.2.1
 let zIq : List (Int) := x1.2.2.2.2.1
 br (decide (Ry < zDo)) (
  chk (inB Ry Yr.length) (
   let v7 : List UInt8 × Bool × Unit := bY (Ty.dflt cZ) Yr Ry
   chk (decide (zEh.length + v7.1.length <= eX)) (
    ob (bD n (zEh ++ v7.1, zIq, ())) fun y8 =>
    br v7.2.1 (
     ob (bD n ([10], y8.2.2.1, ())) fun y9 =>
     let v10 : Int := IntKind.wrap .i64 (Ry + 1)
     g0 ([], Yr, zDo, v10, y9.2.2.1, ())) (
     let v11 : Int := IntKind.wrap .i64 (Ry + 1)
     g0 ([10], Yr, zDo, v11, y8.2.2.1, ()))))) (
  ob (Builder_String n (zIq, ())) fun y12 =>
  some y12.1)
def nJ (n : Nat) (x : List (List UInt8 × Bool × Unit)) : Option (List UInt8) :=
 let l_0 : List (List UInt8 × Bool × Unit) := x
 fix (iB n) n ([], l_0, (l_0.length : Int), 0, [], ())
def iV (n : Nat) (g0 : List (List UInt8 × Bool × Unit) × Int × List (List UInt8 × Bool × Unit) × Unit -> Option (List (List UInt8 × Bool × Unit))) (x1 : List (List UInt8 × Bool × Unit) × Int × List (List UInt8 × Bool × Unit) × Unit) : Option (List (List UInt8 × Bool × Unit)) :=
 let l_2 : List (List UInt8 × Bool × Unit) := x1.1
 let i_3 : Int := x1.2.1
 let zDp : List (List UInt8 × Bool × Unit) := x1.2.2.1
 br (decide (i_3 < (l_2.length : Int))) (
  chk (inB i_3 l_2.length) (
   let v5 : List UInt8 × Bool × Unit := bY (Ty.dflt cZ) l_2 i_3
   chk (Nat.ble ((zDp.length + ([v5] : List (List UInt8 × Bool × Unit)).length) * 24) room) (
    let v6 : Int := IntKind.wrap .i64 (i_3 + 1)
    g0 (l_2, v6, zDp ++ [v5], ())))) (
  some zDp)
def iQ (n : Nat) (x : List (List UInt8 × Bool × Unit)) : Option (List (List UInt8 × Bool × Unit)) :=
 let l_0 : List (List UInt8 × Bool × Unit) := x
 fix (iV n) n (l_0, 0, [], ())
def gB (n : Nat) (g0 : List (List UInt8 × Bool × Unit) × List UInt8 × Int × Unit -> Option (List UInt8)) (x1 : List (List UInt8 × Bool × Unit) × List UInt8 × Int × Unit) : Option (List UInt8) :=
 let l_2 : List (List UInt8 × Bool × Unit) := x1.1
 let s_3 : List UInt8 := x1.2.1
 let i_4 : Int := x1.2.2.1
 br (decide (i_4 < (l_2.length : Int))) (
  br (decide (i_4 > 0)) (
   let v5 : Int := IntKind.wrap .i64 (i_4 - 1)
   chk (inB v5 l_2.length) (
    let v6 : List UInt8 × Bool × Unit := bY (Ty.dflt cZ) l_2 v5
    br (!v6.2.1) (
     chk (decide (s_3.length + ([10] : List UInt8).length <= eX)) (
      chk (inB i_4 l_2.length) (
       let v7 : List UInt8 × Bool × Unit := bY (Ty.dflt cZ) l_2 i_4
       chk (decide ((s_3 ++ [10]).length + v7.1.length <= eX)) (
        chk (inB i_4 l_2.length) (
         let v8 : List UInt8 × Bool × Unit := bY (Ty.dflt cZ) l_2 i_4
         br v8.2.1 (
          chk (decide (((s_3 ++ [10]) ++ v7.1).length + ([10] : List UInt8).length <= eX)) (
           let v9 : List UInt8 := ((s_3 ++ [10]) ++ v7.1) ++ [10]
           let v10 : Int := IntKind.wrap .i64 (i_4 + 1)
           g0 (l_2, v9, v10, ()))) (
          let v11 : Int := IntKind.wrap .i64 (i_4 + 1)
          g0 (l_2, (s_3 ++ [10]) ++ v7.1, v11, ()))))))) (
     chk (inB i_4 l_2.length) (
      let v12 : List UInt8 × Bool × Unit := bY (Ty.dflt cZ) l_2 i_4
      chk (decide (s_3.length + v12.1.length <= eX)) (
       chk (inB i_4 l_2.length) (
        let v13 : List UInt8 × Bool × Unit := bY (Ty.dflt cZ) l_2 i_4
        br v13.2.1 (
         chk (decide ((s_3 ++ v12.1).length + ([10] : List UInt8).length <= eX)) (
          let v14 : Int := IntKind.wrap .i64 (i_4 + 1)
          g0 (l_2, (s_3 ++ v12.1) ++ [10], v14, ()))) (
         let v15 : Int := IntKind.wrap .i64 (i_4 + 1)
         g0 (l_2, s_3 ++ v12.1, v15, ())))))))) (
   chk (inB i_4 l_2.length) (
    let v16 : List UInt8 × Bool × Unit := bY (Ty.dflt cZ) l_2 i_4
    chk (decide (s_3.length + v16.1.length <= eX)) (
     chk (inB i_4 l_2.length) (
      let v17 : List UInt8 × Bool × Unit := bY (Ty.dflt cZ) l_2 i_4
      br v17.2.1 (
       chk (decide ((s_3 ++ v16.1).length + ([10] : List UInt8).length <= eX)) (
        let v18 : Int := IntKind.wrap .i64 (i_4 + 1)
        g0 (l_2, (s_3 ++ v16.1) ++ [10], v18, ()))) (
       let v19 : Int := IntKind.wrap .i64 (i_4 + 1)
       g0 (l_2, s_3 ++ v16.1, v19, ()))))))) (
  some s_3)
def iR (n : Nat) (x : List (List UInt8 × Bool × Unit)) : Option (List UInt8) :=
 let l_0 : List (List UInt8 × Bool × Unit) := x
 fix (gB n) n (l_0, [], 0, ())
def fQ (n : Nat) (g0 : List (List UInt8 × Bool × Unit) × Int × Int × Unit -> Option (Bool)) (x4 : List (List UInt8 × Bool × Unit) × Int × Int × Unit) : Option (Bool) :=
 let l_5 : List (List UInt8 × Bool × Unit) := x4.1
 let n_6 : Int := x4.2.1
 let i_7 : Int := x4.2.2.1
 br (decide (i_7 < (l_5.length : Int))) (
  chk (inB i_7 l_5.length) (
   let v8 : List UInt8 × Bool × Unit := bY (Ty.dflt cZ) l_5 i_7
   br (decide ((v8.1.length : Int) > 100)) (
    ob (shown15 n ()) fun y9 =>
    some y9) (
    chk (inB i_7 l_5.length) (
     let v10 : List UInt8 × Bool × Unit := bY (Ty.dflt cZ) l_5 i_7
     let v11 : Int := IntKind.wrap .i64 ((v10.1.length : Int) + 1)
     let v12 : Int := IntKind.wrap .i64 (n_6 + v11)
     let v13 : Int := IntKind.wrap .i64 (i_7 + 1)
     g0 (l_5, v12, v13, ()))))) (
  ob (nJ n l_5) fun y14 =>
  br (decide ((l_5.length : Int) > 0)) (
   let v15 : Int := IntKind.wrap .i64 ((l_5.length : Int) - 1)
   chk (inB v15 l_5.length) (
    let v16 : List UInt8 × Bool × Unit := bY (Ty.dflt cZ) l_5 v15
    br (!v16.2.1) (
     let v17 : Int := IntKind.wrap .i64 (n_6 - 1)
     ob (iQ n l_5) fun y18 =>
     ob (iR n y18) fun y19 =>
     br (y14 == y19) (
      some ((y14.length : Int) == v17)) (
      some false)) (
     ob (iQ n l_5) fun y20 =>
     ob (iR n y20) fun y21 =>
     br (y14 == y21) (
      some ((y14.length : Int) == n_6)) (
      some false)))) (
   ob (iQ n l_5) fun y22 =>
   ob (iR n y22) fun y23 =>
   br (y14 == y23) (
    some ((y14.length : Int) == n_6)) (
    some false)))
def nK (n : Nat) (x : List (List UInt8 × Bool × Unit)) : Option (Bool) :=
 let l_0 : List (List UInt8 × Bool × Unit) := x
 br (decide ((l_0.length : Int) > 60)) (
  ob (shown15 n ()) fun y1 =>
  some y1) (
  ob (shown15 n ()) fun y2 =>
  br (!y2) (
   ob (shown15 n ()) fun y3 =>
   some y3) (
   fix (fQ n) n (l_0, 0, 0, ())))
end Go.Dec
