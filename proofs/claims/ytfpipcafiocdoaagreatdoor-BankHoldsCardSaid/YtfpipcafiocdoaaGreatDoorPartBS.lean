/- Part of a proof over this seat: a library of my own, and what it says of this seat. No statement is proved here. -/
import Derived.Test.YtfpipcafiocdoaaGreatDoorPartBP
import Derived.Test.YtfpipcafiocdoaaGreatDoorPartBR
namespace Go.Dec
noncomputable section
set_option linter.unusedVariables false
def Gp (n : Nat) (x : Bool × List (List (Int × List (Int) × Int × Int × Int × Int × Int × Unit) × Bool × Unit) × List (((Int × Int × Int × Unit) × (Int × Int × Int × Unit) × Bool × Unit) × Int × List UInt8 × List UInt8 × Int × Int × Int × List (List UInt8 × Int × Unit) × Bool × Bool × Unit) × Unit) : Option (Int × Int × Int × Int × Int × List UInt8 × List UInt8 × Bool × Bool × Bool × List (Bool × Int × Unit) × List (List UInt8 × Bool × Unit) × Unit) :=
 let x_0 : Bool × List (List (Int × List (Int) × Int × Int × Int × Int × Int × Unit) × Bool × Unit) × List (((Int × Int × Int × Unit) × (Int × Int × Int × Unit) × Bool × Unit) × Int × List UInt8 × List UInt8 × Int × Int × Int × List (List UInt8 × Int × Unit) × Bool × Bool × Unit) × Unit := x
 chk ((decide (0 <= (x_0.2.2.1.length : Int)) && (decide ((x_0.2.2.1.length : Int) = (x_0.2.2.1.length : Int)) && Nat.ble ((x_0.2.2.1.length : Int).toNat * 16) room))) (
  let r1 : List (Bool × Int × Unit) := List.replicate (x_0.2.2.1.length : Int).toNat (false, (0, ()))
  some (0, (0, (0, (0, ((-1), ([], ([], (false, (false, (false, (r1, ([], ())))))))))))))
def sK (n : Nat) (x : (Int × Int × Int × Int × Int × List UInt8 × List UInt8 × Bool × Bool × Bool × List (Bool × Int × Unit) × List (List UInt8 × Bool × Unit) × Unit) × (List UInt8 × Bool × Unit) × Bool) : Option (Int × Int × Int × Int × Int × List UInt8 × List UInt8 × Bool × Bool × Bool × List (Bool × Int × Unit) × List (List UInt8 × Bool × Unit) × Unit) :=
 let b_0 : Int × Int × Int × Int × Int × List UInt8 × List UInt8 × Bool × Bool × Bool × List (Bool × Int × Unit) × List (List UInt8 × Bool × Unit) × Unit := x.1
 let l_1 : List UInt8 × Bool × Unit := x.2.1
 let zCd : Bool := x.2.2
 br (b_0.1 == 0) (
  let v1 : Int := IntKind.wrap .i64 (b_0.2.2.1 + 1)
  some (1, (0, (v1, (b_0.2.2.2.1, (b_0.2.2.2.2.1, (l_1.1, (b_0.2.2.2.2.2.2.1, (l_1.2.1, (zCd, b_0.2.2.2.2.2.2.2.2.2)))))))))) (
  br (b_0.1 == 2) (
   let v2 : Int := IntKind.wrap .i64 (b_0.2.1 + 1)
   let v3 : Int := IntKind.wrap .i64 (b_0.2.2.1 + 1)
   some (1, (v2, (v3, (b_0.2.2.2.1, (b_0.2.2.2.2.1, (l_1.1, (b_0.2.2.2.2.2.2.1, (l_1.2.1, (zCd, b_0.2.2.2.2.2.2.2.2.2)))))))))) (
   br (b_0.1 == 3) (
    let v4 : Int := IntKind.wrap .i64 (b_0.2.1 + 1)
    chk (decide (b_0.2.2.2.2.2.1.length + ([10] : List UInt8).length <= eH)) (
     chk (decide ((b_0.2.2.2.2.2.1 ++ [10]).length + l_1.1.length <= eH)) (
      let v5 : List UInt8 := (b_0.2.2.2.2.2.1 ++ [10]) ++ l_1.1
      let v6 : Int := IntKind.wrap .i64 (b_0.2.2.1 + 1)
      some (1, (v4, (v6, (b_0.2.2.2.1, (b_0.2.2.2.2.1, (v5, (b_0.2.2.2.2.2.2.1, (l_1.2.1, (zCd, b_0.2.2.2.2.2.2.2.2.2)))))))))))) (
    some b_0)))
def bZ (n : Nat) (g1 : List UInt8 × List UInt8 × Int × Bool × List (List (Int × List (Int) × Int × Int × Int × Int × Int × Unit) × Bool × Unit) × List (((Int × Int × Int × Unit) × (Int × Int × Int × Unit) × Bool × Unit) × Int × List UInt8 × List UInt8 × Int × Int × Int × List (List UInt8 × Int × Unit) × Bool × Bool × Unit) × Int × Int × Int × Int × Int × List UInt8 × List UInt8 × Bool × Bool × Bool × List (Bool × Int × Unit) × List (List UInt8 × Bool × Unit) × Unit -> Option (Bool)) (x31 : List UInt8 × List UInt8 × Int × Bool × List (List (Int × List (Int) × Int × Int × Int × Int × Int × Unit) × Bool × Unit) × List (((Int × Int × Int × Unit) × (Int × Int × Int × Unit) × Bool × Unit) × Int × List UInt8 × List UInt8 × Int × Int × Int × List (List UInt8 × Int × Unit) × Bool × Bool × Unit) × Int × Int × Int × Int × Int × List UInt8 × List UInt8 × Bool × Bool × Bool × List (Bool × Int × Unit) × List (List UInt8 × Bool × Unit) × Unit) : Option (Bool) :=
 let aY : List UInt8 := x31.1
 let zT : List UInt8 := x31.2.1
 let Ke : Int := x31.2.2.1
 let vF : Bool := x31.2.2.2.1
 let zN : List (List (Int × List (Int) × Int × Int × Int × Int × Int × Unit) × Bool × Unit) := x31.2.2.2.2.1
 let zO : List (((Int × Int × Int × Unit) × (Int × Int × Int × Unit) × Bool × Unit) × Int × List UInt8 × List UInt8 × Int × Int × Int × List (List UInt8 × Int × Unit) × Bool × Bool × Unit) := x31.2.2.2.2.2.1
 let zEw : Int := x31.2.2.2.2.2.2.1
 let yEj : Int := x31.2.2.2.2.2.2.2.1
 let N40 : Int := x31.2.2.2.2.2.2.2.2.1
 let zZk : Int := x31.2.2.2.2.2.2.2.2.2.1
 let zZl : Int := x31.2.2.2.2.2.2.2.2.2.2.1
 let zLd : List UInt8 := x31.2.2.2.2.2.2.2.2.2.2.2.1
 let zZm : List UInt8 := x31.2.2.2.2.2.2.2.2.2.2.2.2.1
 let yCn : Bool := x31.2.2.2.2.2.2.2.2.2.2.2.2.2.1
 let zZn : Bool := x31.2.2.2.2.2.2.2.2.2.2.2.2.2.2.1
 let zLe : Bool := x31.2.2.2.2.2.2.2.2.2.2.2.2.2.2.2.1
 let zPb : List (Bool × Int × Unit) := x31.2.2.2.2.2.2.2.2.2.2.2.2.2.2.2.2.1
 let zTm : List (List UInt8 × Bool × Unit) := x31.2.2.2.2.2.2.2.2.2.2.2.2.2.2.2.2.2.1
 br (decide (Ke < 6)) (
  ob (dX n ((vF, (zN, (zO, ()))), false, (zEw, (yEj, (N40, (zZk, (zZl, (zLd, (zZm, (yCn, (zZn, (zLe, (zPb, (zTm, ())))))))))))), [])) fun y50 =>
  chk (decide (aY.length + ([10] : List UInt8).length <= eH)) (
   chk (decide ((aY ++ [10]).length + aY.length <= eH)) (
    chk (decide (((aY ++ [10]) ++ aY).length + ([10] : List UInt8).length <= eH)) (
     let v51 : List UInt8 := ((aY ++ [10]) ++ aY) ++ [10]
     chk (decide (v51.length + aY.length <= eH)) (
      chk ((inB Ke ([zT, aY, aY, aY, aY, v51 ++ aY].length) && decide (0 + ([zT, aY, aY, aY, aY, v51 ++ aY].length) <= [zT, aY, aY, aY, aY, v51 ++ aY].length))) (
       chk (decide (0 + Ke.toNat < [zT, aY, aY, aY, aY, v51 ++ aY].length)) (
        chk (decide (aY.length + ([10] : List UInt8).length <= eH)) (
         chk (decide ((aY ++ [10]).length + aY.length <= eH)) (
          chk (decide (aY.length + ([10] : List UInt8).length <= eH)) (
           chk (decide ((aY ++ [10]).length + aY.length <= eH)) (
            chk ((inB Ke ([aY, zT, aY, aY, (aY ++ [10]) ++ aY, (aY ++ [10]) ++ aY].length) && decide (0 + ([aY, zT, aY, aY, (aY ++ [10]) ++ aY, (aY ++ [10]) ++ aY].length) <= [aY, zT, aY, aY, (aY ++ [10]) ++ aY, (aY ++ [10]) ++ aY].length))) (
             chk (decide (0 + Ke.toNat < [aY, zT, aY, aY, (aY ++ [10]) ++ aY, (aY ++ [10]) ++ aY].length)) (
              br (!(y50.1.2.2.2.2.2.1 == ([zT, aY, aY, aY, aY, v51 ++ aY].getD (0 + Ke.toNat) (Ty.dflt .str)))) (
               some false) (
               br (!(y50.1.2.2.2.2.2.2.1 == ([aY, zT, aY, aY, (aY ++ [10]) ++ aY, (aY ++ [10]) ++ aY].getD (0 + Ke.toNat) (Ty.dflt .str)))) (
                some false) (
                let v52 : Int := IntKind.wrap .i64 (Ke + 1)
                g1 (aY, zT, v52, vF, zN, zO, y50.1.1, y50.1.2.1, y50.1.2.2.1, y50.1.2.2.2.1, y50.1.2.2.2.2.1, y50.1.2.2.2.2.2.1, y50.1.2.2.2.2.2.2.1, y50.1.2.2.2.2.2.2.2.1, y50.1.2.2.2.2.2.2.2.2.1, y50.1.2.2.2.2.2.2.2.2.2.1, y50.1.2.2.2.2.2.2.2.2.2.2.1, y50.1.2.2.2.2.2.2.2.2.2.2.2.1, ())))))))))))))))) (
  some (zEw == 1))
def fJ (n : Nat) (g0 : List UInt8 × List UInt8 × Int × Bool × List (List (Int × List (Int) × Int × Int × Int × Int × Int × Unit) × Bool × Unit) × List (((Int × Int × Int × Unit) × (Int × Int × Int × Unit) × Bool × Unit) × Int × List UInt8 × List UInt8 × Int × Int × Int × List (List UInt8 × Int × Unit) × Bool × Bool × Unit) × Int × Int × Int × Int × Int × List UInt8 × List UInt8 × Bool × Bool × Bool × List (Bool × Int × Unit) × List (List UInt8 × Bool × Unit) × Unit -> Option (Bool)) (x8 : List UInt8 × List UInt8 × Int × Bool × List (List (Int × List (Int) × Int × Int × Int × Int × Int × Unit) × Bool × Unit) × List (((Int × Int × Int × Unit) × (Int × Int × Int × Unit) × Bool × Unit) × Int × List UInt8 × List UInt8 × Int × Int × Int × List (List UInt8 × Int × Unit) × Bool × Bool × Unit) × Int × Int × Int × Int × Int × List UInt8 × List UInt8 × Bool × Bool × Bool × List (Bool × Int × Unit) × List (List UInt8 × Bool × Unit) × Unit) : Option (Bool) :=
 let a_9 : List UInt8 := x8.1
 let Uc : List UInt8 := x8.2.1
 let zZo : Int := x8.2.2.1
 let sI : Bool := x8.2.2.2.1
 let wP : List (List (Int × List (Int) × Int × Int × Int × Int × Int × Unit) × Bool × Unit) := x8.2.2.2.2.1
 let wQ : List (((Int × Int × Int × Unit) × (Int × Int × Int × Unit) × Bool × Unit) × Int × List UInt8 × List UInt8 × Int × Int × Int × List (List UInt8 × Int × Unit) × Bool × Bool × Unit) := x8.2.2.2.2.2.1
 let zEx : Int := x8.2.2.2.2.2.2.1
 let zZp : Int := x8.2.2.2.2.2.2.2.1
 let N17 : Int := x8.2.2.2.2.2.2.2.2.1
 let zLf : Int := x8.2.2.2.2.2.2.2.2.2.1
 let zLg : Int := x8.2.2.2.2.2.2.2.2.2.2.1
 let Vw : List UInt8 := x8.2.2.2.2.2.2.2.2.2.2.2.1
 let zLh : List UInt8 := x8.2.2.2.2.2.2.2.2.2.2.2.2.1
 let zPy : Bool := x8.2.2.2.2.2.2.2.2.2.2.2.2.2.1
 let zLi : Bool := x8.2.2.2.2.2.2.2.2.2.2.2.2.2.2.1
 let Vx : Bool := x8.2.2.2.2.2.2.2.2.2.2.2.2.2.2.2.1
 let zCe : List (Bool × Int × Unit) := x8.2.2.2.2.2.2.2.2.2.2.2.2.2.2.2.2.1
 let zEy : List (List UInt8 × Bool × Unit) := x8.2.2.2.2.2.2.2.2.2.2.2.2.2.2.2.2.2.1
 br (decide (zZo < 3)) (
  ob (dX n ((sI, (wP, (wQ, ()))), false, (zEx, (zZp, (N17, (zLf, (zLg, (Vw, (zLh, (zPy, (zLi, (Vx, (zCe, (zEy, ())))))))))))), [])) fun y27 =>
  let v28 : Int := IntKind.wrap .i64 (zZo + 1)
  g0 (a_9, Uc, v28, sI, wP, wQ, y27.1.1, y27.1.2.1, y27.1.2.2.1, y27.1.2.2.2.1, y27.1.2.2.2.2.1, y27.1.2.2.2.2.2.1, y27.1.2.2.2.2.2.2.1, y27.1.2.2.2.2.2.2.2.1, y27.1.2.2.2.2.2.2.2.2.1, y27.1.2.2.2.2.2.2.2.2.2.1, y27.1.2.2.2.2.2.2.2.2.2.2.1, y27.1.2.2.2.2.2.2.2.2.2.2.2.1, ())) (
  ob (sK n ((zEx, (zZp, (N17, (zLf, (zLg, (Vw, (zLh, (zPy, (zLi, (Vx, (zCe, (zEy, ())))))))))))), (a_9, (true, ())), false)) fun y29 =>
  ob (dX n ((sI, (wP, (wQ, ()))), false, y29, [])) fun y30 =>
  fix (bZ n) n (a_9, Uc, 0, sI, wP, wQ, y30.1.1, y30.1.2.1, y30.1.2.2.1, y30.1.2.2.2.1, y30.1.2.2.2.2.1, y30.1.2.2.2.2.2.1, y30.1.2.2.2.2.2.2.1, y30.1.2.2.2.2.2.2.2.1, y30.1.2.2.2.2.2.2.2.2.1, y30.1.2.2.2.2.2.2.2.2.2.1, y30.1.2.2.2.2.2.2.2.2.2.2.1, y30.1.2.2.2.2.2.2.2.2.2.2.2.1, ()))
def uF (n : Nat) (x : List UInt8 × List UInt8) : Option (Bool) :=
 let a_0 : List UInt8 := x.1
 let c_1 : List UInt8 := x.2
 br (decide ((a_0.length : Int) > 60)) (
  ob (shown15 n ()) fun y1 =>
  some y1) (
  br (decide ((c_1.length : Int) > 60)) (
   ob (shown15 n ()) fun y2 =>
   some y2) (
   ob (shown15 n ()) fun y3 =>
   br (!y3) (
    ob (shown15 n ()) fun y4 =>
    some y4) (
    ob (oO n [49, 123, 104, 59, 100, 125, 59, 120, 59, 120, 59, 104, 59, 103, 59, 72, 59, 71]) fun y5 =>
    br (!y5.2) (
     some false) (
     ob (Gp n y5.1) fun y6 =>
     ob (sK n (y6, (c_1, (true, ())), false)) fun y7 =>
     fix (fJ n) n (a_0, c_1, 0, y5.1.1, y5.1.2.1, y5.1.2.2.1, y7.1, y7.2.1, y7.2.2.1, y7.2.2.2.1, y7.2.2.2.2.1, y7.2.2.2.2.2.1, y7.2.2.2.2.2.2.1, y7.2.2.2.2.2.2.2.1, y7.2.2.2.2.2.2.2.2.1, y7.2.2.2.2.2.2.2.2.2.1, y7.2.2.2.2.2.2.2.2.2.2.1, y7.2.2.2.2.2.2.2.2.2.2.2.1, ())))))
end
end Go.Dec
