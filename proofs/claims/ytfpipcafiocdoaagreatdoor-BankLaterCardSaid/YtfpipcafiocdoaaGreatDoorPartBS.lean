/- Part of a proof over this seat: a library of my own, and what it says of this seat. No statement is proved here. -/
import Derived.Test.YtfpipcafiocdoaaGreatDoorPartAJ
import Derived.Test.YtfpipcafiocdoaaGreatDoorPartBJ
import Derived.Test.YtfpipcafiocdoaaGreatDoorPartBQ
namespace Go.Dec
noncomputable section
set_option linter.unusedVariables false
def Et (n : Nat) (x : Bool × List (List fE × Bool × Unit) × List dM × Unit) : Option (Int × Int × Int × Int × Int × List UInt8 × List UInt8 × Bool × Bool × Bool × List (Bool × Int × Unit) × List (List UInt8 × Bool × Unit) × Unit) :=
 let x_0 := x
 chk ((decide (0 <= (x_0.2.2.1.length : Int)) && (decide ((x_0.2.2.1.length : Int) = (x_0.2.2.1.length : Int)) && Nat.ble ((x_0.2.2.1.length : Int).toNat * 16) room))) (
  let r1 : List (Bool × Int × Unit) := List.replicate (x_0.2.2.1.length : Int).toNat (false, (0, ()))
  some (0, (0, (0, (0, ((-1), ([], ([], (false, (false, (false, (r1, ([], ())))))))))))))
def zN (n : Nat) (x : (Int × Int × Int × Int × Int × List UInt8 × List UInt8 × Bool × Bool × Bool × List (Bool × Int × Unit) × List (List UInt8 × Bool × Unit) × Unit) × (List UInt8 × Bool × Unit) × Bool) : Option (Int × Int × Int × Int × Int × List UInt8 × List UInt8 × Bool × Bool × Bool × List (Bool × Int × Unit) × List (List UInt8 × Bool × Unit) × Unit) :=
 let b_0 := x.1
 let l_1 := x.2.1
 let zCg := x.2.2
 br (b_0.1 == 0) (
  let v1 : Int := IntKind.wrap .i64 (b_0.2.2.1 + 1)
  some (1, (0, (v1, (b_0.2.2.2.1, (b_0.2.2.2.2.1, (l_1.1, (b_0.2.2.2.2.2.2.1, (l_1.2.1, (zCg, b_0.2.2.2.2.2.2.2.2.2)))))))))) (
  br (b_0.1 == 2) (
   let v2 : Int := IntKind.wrap .i64 (b_0.2.1 + 1)
   let v3 : Int := IntKind.wrap .i64 (b_0.2.2.1 + 1)
   some (1, (v2, (v3, (b_0.2.2.2.1, (b_0.2.2.2.2.1, (l_1.1, (b_0.2.2.2.2.2.2.1, (l_1.2.1, (zCg, b_0.2.2.2.2.2.2.2.2.2)))))))))) (
   br (b_0.1 == 3) (
    let v4 : Int := IntKind.wrap .i64 (b_0.2.1 + 1)
    chk (decide (b_0.2.2.2.2.2.1.length + ([10] : List UInt8).length <= gL)) (
     chk (decide ((b_0.2.2.2.2.2.1 ++ [10]).length + l_1.1.length <= gL)) (
      let v5 : List UInt8 := (b_0.2.2.2.2.2.1 ++ [10]) ++ l_1.1
      let v6 : Int := IntKind.wrap .i64 (b_0.2.2.1 + 1)
      some (1, (v4, (v6, (b_0.2.2.2.1, (b_0.2.2.2.2.1, (v5, (b_0.2.2.2.2.2.2.1, (l_1.2.1, (zCg, b_0.2.2.2.2.2.2.2.2.2)))))))))))) (
    some b_0)))
def bQ (n : Nat) (x : List UInt8 × List (Int) × Unit) : Option (Int × Bool × List (Int) × Unit) :=
 let s_1 := x.1
 let yEa := x.2.1
 ob (qA n (yEa, ())) fun y3 =>
 chk (Nat.ble ((y3.1.length + s_1.length) * 1) room) (
  some ((s_1.length : Int), false, y3.1 ++ aO s_1, ()))
def jO (n : Nat) (g0 : List UInt8 × List (List UInt8 × Bool × Unit) × Int × Int × List (Int) × Unit -> Option (List UInt8)) (x1 : List UInt8 × List (List UInt8 × Bool × Unit) × Int × Int × List (Int) × Unit) : Option (List UInt8) :=
 let zQo := x1.1
 let zJm := x1.2.1
 let zPp := x1.2.2.1
 let zCh := x1.2.2.2.1
 let yAf := x1.2.2.2.2.1
 br (decide (zCh < zPp)) (
  chk (inB zCh zJm.length) (
   let v7 : List UInt8 × Bool × Unit := dO (Ty.dflt aT) zJm zCh
   chk (decide (zQo.length + v7.1.length <= gL)) (
    ob (bQ n (zQo ++ v7.1, yAf, ())) fun y8 =>
    br v7.2.1 (
     ob (bQ n ([10], y8.2.2.1, ())) fun y9 =>
     let v10 : Int := IntKind.wrap .i64 (zCh + 1)
     g0 ([], zJm, zPp, v10, y9.2.2.1, ())) (
     let v11 : Int := IntKind.wrap .i64 (zCh + 1)
     g0 ([10], zJm, zPp, v11, y8.2.2.1, ()))))) (
  ob (Builder_String n (yAf, ())) fun y12 =>
  some y12.1)
def kL (n : Nat) (x : List (List UInt8 × Bool × Unit)) : Option (List UInt8) :=
 let l_0 := x
 fix (jO n) n ([], l_0, (l_0.length : Int), 0, [], ())
def bZ (n : Nat) (g0 : List UInt8 × List UInt8 × List UInt8 × Int × Bool × List (List fE × Bool × Unit) × List dM × Int × Int × Int × Int × Int × List UInt8 × List UInt8 × Bool × Bool × Bool × List (Bool × Int × Unit) × List (List UInt8 × Bool × Unit) × List (List UInt8 × Bool × Unit) × Unit -> Option (Bool)) (x8 : List UInt8 × List UInt8 × List UInt8 × Int × Bool × List (List fE × Bool × Unit) × List dM × Int × Int × Int × Int × Int × List UInt8 × List UInt8 × Bool × Bool × Bool × List (Bool × Int × Unit) × List (List UInt8 × Bool × Unit) × List (List UInt8 × Bool × Unit) × Unit) : Option (Bool) :=
 let a_9 := x8.1
 let Ki := x8.2.1
 let iM := x8.2.2.1
 let yAg := x8.2.2.2.1
 let jF := x8.2.2.2.2.1
 let mI := x8.2.2.2.2.2.1
 let mJ := x8.2.2.2.2.2.2.1
 let Kj := x8.2.2.2.2.2.2.2.1
 let yEb := x8.2.2.2.2.2.2.2.2.1
 let N18 := x8.2.2.2.2.2.2.2.2.2.1
 let yAh := x8.2.2.2.2.2.2.2.2.2.2.1
 let yAi := x8.2.2.2.2.2.2.2.2.2.2.2.1
 let zMd := x8.2.2.2.2.2.2.2.2.2.2.2.2.1
 let yAj := x8.2.2.2.2.2.2.2.2.2.2.2.2.2.1
 let yCp := x8.2.2.2.2.2.2.2.2.2.2.2.2.2.2.1
 let yAk := x8.2.2.2.2.2.2.2.2.2.2.2.2.2.2.2.1
 let zMe := x8.2.2.2.2.2.2.2.2.2.2.2.2.2.2.2.2.1
 let zPq := x8.2.2.2.2.2.2.2.2.2.2.2.2.2.2.2.2.2.1
 let rD := x8.2.2.2.2.2.2.2.2.2.2.2.2.2.2.2.2.2.2.1
 let Rq := x8.2.2.2.2.2.2.2.2.2.2.2.2.2.2.2.2.2.2.2.1
 br (decide (yAg < 4)) (
  ob (vL n ((jF, (mI, (mJ, ()))), false, (Kj, (yEb, (N18, (yAh, (yAi, (zMd, (yAj, (yCp, (yAk, (zMe, (zPq, (rD, ())))))))))))), [([102], (iM, ()))])) fun y29 =>
  chk (Nat.ble ((Rq.length + y29.2.2.length) * 24) room) (
   let v30 : Int := IntKind.wrap .i64 (yAg + 1)
   g0 (a_9, Ki, iM, v30, jF, mI, mJ, y29.1.1, y29.1.2.1, y29.1.2.2.1, y29.1.2.2.2.1, y29.1.2.2.2.2.1, y29.1.2.2.2.2.2.1, y29.1.2.2.2.2.2.2.1, y29.1.2.2.2.2.2.2.2.1, y29.1.2.2.2.2.2.2.2.2.1, y29.1.2.2.2.2.2.2.2.2.2.1, y29.1.2.2.2.2.2.2.2.2.2.2.1, y29.1.2.2.2.2.2.2.2.2.2.2.2.1, Rq ++ y29.2.2, ()))) (
  chk (decide (a_9.length + ([10] : List UInt8).length <= gL)) (
   chk (decide ((a_9 ++ [10]).length + Ki.length <= gL)) (
    chk (decide (((a_9 ++ [10]) ++ Ki).length + ([10] : List UInt8).length <= gL)) (
     let v31 : List UInt8 := ((a_9 ++ [10]) ++ Ki) ++ [10]
     chk (decide (v31.length + iM.length <= gL)) (
      br (!(iM == [])) (
       let v32 : Int := IntKind.wrap .i64 ((iM.length : Int) - 1)
       chk (inB v32 iM.length) (
        let v33 : Int := ((dO 0 iM v32).toNat : Int)
        br (v33 != 10) (
         chk (decide ((v31 ++ iM).length + ([10] : List UInt8).length <= gL)) (
          ob (kL n Rq) fun y34 =>
          chk (decide (((v31 ++ iM) ++ [10]).length + ([122, 10] : List UInt8).length <= gL)) (
           let v35 : List UInt8 := ((v31 ++ iM) ++ [10]) ++ [122, 10]
           br (y34 == v35) (
            br (Kj == 0) (
             some ((rD.length : Int) == 0)) (
             some false)) (
            some false)))) (
         ob (kL n Rq) fun y36 =>
         chk (decide ((v31 ++ iM).length + ([122, 10] : List UInt8).length <= gL)) (
          let v37 : List UInt8 := (v31 ++ iM) ++ [122, 10]
          br (y36 == v37) (
           br (Kj == 0) (
            some ((rD.length : Int) == 0)) (
            some false)) (
           some false))))) (
       ob (kL n Rq) fun y38 =>
       chk (decide ((v31 ++ iM).length + ([122, 10] : List UInt8).length <= gL)) (
        let v39 : List UInt8 := (v31 ++ iM) ++ [122, 10]
        br (y38 == v39) (
         br (Kj == 0) (
          some ((rD.length : Int) == 0)) (
          some false)) (
         some false))))))))
def sG (n : Nat) (x : List UInt8 × List UInt8 × List UInt8) : Option (Bool) :=
 let a_0 := x.1
 let Iz := x.2.1
 let zMf := x.2.2
 br (decide ((a_0.length : Int) > 60)) (
  ob (shown15 n ()) fun y1 =>
  some y1) (
  br (decide ((Iz.length : Int) > 60)) (
   ob (shown15 n ()) fun y2 =>
   some y2) (
   br (decide ((zMf.length : Int) > 100)) (
    ob (shown15 n ()) fun y3 =>
    some y3) (
    ob (shown15 n ()) fun y4 =>
    br (!y4) (
     ob (shown15 n ()) fun y5 =>
     some y5) (
     chk (decide (Iz.length + ([10] : List UInt8).length <= gL)) (
      ob (Et n (false, ([], ([(((0, (0, (0, ()))), ((0, (0, (0, ()))), (false, ()))), (97, (Iz ++ [10], ([], (0, (0, ((-1), ([], (false, (false, ())))))))))), (((0, (0, (0, ()))), ((0, (0, (0, ()))), (false, ()))), (114, ([102], ([], (0, (0, ((-1), ([], (false, (false, ())))))))))), (((0, (0, (0, ()))), ((0, (0, (0, ()))), (false, ()))), (97, ([122, 10], ([], (0, (0, ((-1), ([], (false, (false, ()))))))))))], ())))) fun y6 =>
      ob (zN n (y6, (a_0, (true, ())), true)) fun y7 =>
      fix (bZ n) n (a_0, Iz, zMf, 0, false, [], [(((0, (0, (0, ()))), ((0, (0, (0, ()))), (false, ()))), (97, (Iz ++ [10], ([], (0, (0, ((-1), ([], (false, (false, ())))))))))), (((0, (0, (0, ()))), ((0, (0, (0, ()))), (false, ()))), (114, ([102], ([], (0, (0, ((-1), ([], (false, (false, ())))))))))), (((0, (0, (0, ()))), ((0, (0, (0, ()))), (false, ()))), (97, ([122, 10], ([], (0, (0, ((-1), ([], (false, (false, ()))))))))))], y7.1, y7.2.1, y7.2.2.1, y7.2.2.2.1, y7.2.2.2.2.1, y7.2.2.2.2.2.1, y7.2.2.2.2.2.2.1, y7.2.2.2.2.2.2.2.1, y7.2.2.2.2.2.2.2.2.1, y7.2.2.2.2.2.2.2.2.2.1, y7.2.2.2.2.2.2.2.2.2.2.1, y7.2.2.2.2.2.2.2.2.2.2.2.1, [], ()))))))
end
end Go.Dec
