/- Part of a proof over this seat: a library of my own, and what it says of this seat. No statement is proved here. -/
import Derived.Test.YtfpipcafiocdoaaGreatDoorPfrtAJ
import Derived.Test.YtfpipcafiocdoaaGreatDoorPfrtBQ
import Derived.Test.YtfpipcafiocdoaaGreatDoorPfrtBP
namespace Go.Dec
set_option linter.unusedVariables false
abbrev ZLn:Type:=List UInt8 × Bool × Unit
abbrev ZLk:Type:=List UInt8 × Bool × Bool × Unit
abbrev ZFl:Type:=List UInt8 × List UInt8 × Unit
abbrev ZBk:Type:=Int × Int × Int × Int × Int × List UInt8 × List UInt8 × Bool × Bool × Bool × List (Bool × Int × Unit) × List ZLn × Unit
abbrev yU:Ty:=.pair (.int .i64) (.pair (.arr 4 (.int .u64)) (.pair (.int .i64) (.pair (.int .i64) (.pair (.int .i64) (.pair (.int .i64) (.pair (.int .i64) .unit))))))
abbrev bU:Ty:=.pair (.slice yU) (.pair .bool .unit)
abbrev Tj:Ty:=.pair (.int .i64) (.pair (.int .i64) (.pair (.int .i64) .unit))
abbrev Cv:Ty:=.pair Tj (.pair Tj (.pair .bool .unit))
abbrev zLq:Ty:=.pair .str (.pair (.int .i64) .unit)
abbrev aQ:Ty:=.pair Cv (.pair (.int .u8) (.pair .str (.pair .str (.pair (.int .i64) (.pair (.int .i64) (.pair (.int .i64) (.pair (.slice zLq) (.pair .bool (.pair .bool .unit)))))))))
abbrev Ap:Ty:=.pair .bool (.pair (.slice bU) (.pair (.slice aQ) .unit))
abbrev zLr:Ty:=.pair .bool (.pair (.int .i64) .unit)
abbrev aO:Ty:=.pair .str (.pair .bool .unit)
abbrev aB:Ty:=.pair (.int .i64) (.pair (.int .i64) (.pair (.int .i64) (.pair (.int .i64) (.pair (.int .i64) (.pair .str (.pair .str (.pair .bool (.pair .bool (.pair .bool (.pair (.slice zLr) (.pair (.slice aO) .unit)))))))))))
abbrev dY:Ty:=.pair .str (.pair .str .unit)
abbrev aK:Ty:=.pair Ap (.pair .bool (.pair (.slice .str) (.pair .bool .unit)))
abbrev bE:Ty:=.pair .str (.pair .bool (.pair .bool .unit))
abbrev jF:Ty:=.pair (.slice aK) (.pair (.slice .bool) (.pair .bool (.pair (.slice aB) (.pair (.slice .bool) (.pair (.slice (.slice aO)) (.pair (.slice bE) (.pair (.slice aO) (.pair (.slice dY) (.pair (.slice (.int .i64)) Tj)))))))))
def sI (n : Nat) (x : Bool × List (List lW × Bool × Unit) × List lX × Bool × List (List UInt8) × Bool × Bool × List (List lW × Bool × Unit) × List lX × Bool × List (List UInt8) × Bool × Unit) : Option (Bool × Bool × List (List lW × Bool × Unit) × List lX × Bool × List (List UInt8) × Bool × Unit) :=
 let a_1 := x.1
 let a_2 := x.2.1
 let a_3 := x.2.2.1
 let a_4 := x.2.2.2.1
 let a_5 := x.2.2.2.2.1
 let a_6 := x.2.2.2.2.2.1
 let zOk := x.2.2.2.2.2.2.1
 let zTi := x.2.2.2.2.2.2.2.1
 let zTj := x.2.2.2.2.2.2.2.2.1
 let zHf := x.2.2.2.2.2.2.2.2.2.1
 let zHg := x.2.2.2.2.2.2.2.2.2.2.1
 let zTk := x.2.2.2.2.2.2.2.2.2.2.2.1
 ob (uU n (((a_1, (a_2, (a_3, ()))), (a_4, (a_5, (a_6, ())))), ((zOk, (zTi, (zTj, ()))), (zHf, (zHg, (zTk, ())))))) fun y13 =>
 some (y13, zOk, zTi, zTj, zHf, zHg, zTk, ())
def kF (n : Nat) (g0 : List aS × Int × Int × Bool × List (List lW × Bool × Unit) × List lX × Bool × List (List UInt8) × Bool × Unit -> Option (Int × Bool × List (List lW × Bool × Unit) × List lX × Bool × List (List UInt8) × Bool × Unit)) (x8 : List aS × Int × Int × Bool × List (List lW × Bool × Unit) × List lX × Bool × List (List UInt8) × Bool × Unit) : Option (Int × Bool × List (List lW × Bool × Unit) × List lX × Bool × List (List UInt8) × Bool × Unit) :=
 let s_9 := x8.1
 let zTl := x8.2.1
 let Tm := x8.2.2.1
 let zHh := x8.2.2.2.1
 let zOl := x8.2.2.2.2.1
 let zOm := x8.2.2.2.2.2.1
 let zHi := x8.2.2.2.2.2.2.1
 let zHj := x8.2.2.2.2.2.2.2.1
 let zTm := x8.2.2.2.2.2.2.2.2.1
 br (decide (Tm < zTl)) (
  chk (inB Tm s_9.length) (
   let v18 : (Bool × List (List lW × Bool × Unit) × List lX × Unit) × Bool × List (List UInt8) × Bool × Unit := dI (Ty.dflt aK) s_9 Tm
   ob (sI n (v18.1.1, v18.1.2.1, v18.1.2.2.1, v18.2.1, v18.2.2.1, v18.2.2.2.1, zHh, zOl, zOm, zHi, zHj, zTm, ())) fun y19 =>
   br y19.1 (
    some (Tm, y19.2.1, y19.2.2.1, y19.2.2.2.1, y19.2.2.2.2.1, y19.2.2.2.2.2.1, y19.2.2.2.2.2.2.1, ())) (
    let v20 : Int := IntKind.wrap .i64 (Tm + 1)
    g0 (s_9, zTl, v20, y19.2.1, y19.2.2.1, y19.2.2.2.1, y19.2.2.2.2.1, y19.2.2.2.2.2.1, y19.2.2.2.2.2.2.1, ())))) (
  some ((-1), zHh, zOl, zOm, zHi, zHj, zTm, ()))
def dS (n : Nat) (x : List aS × Bool × List (List lW × Bool × Unit) × List lX × Bool × List (List UInt8) × Bool × Unit) : Option (Int × Bool × List (List lW × Bool × Unit) × List lX × Bool × List (List UInt8) × Bool × Unit) :=
 let s_1 := x.1
 let zDa := x.2.1
 let zLs := x.2.2.1
 let zLt := x.2.2.2.1
 let zDb := x.2.2.2.2.1
 let zDc := x.2.2.2.2.2.1
 let zSd := x.2.2.2.2.2.2.1
 fix (kF n) n (s_1, (s_1.length : Int), 0, zDa, zLs, zLt, zDb, zDc, zSd, ())
def dH (n : Nat) (x : List aS × Bool × List (List lW × Bool × Unit) × List lX × Bool × List (List UInt8) × Bool × Unit) : Option (Bool × Bool × List (List lW × Bool × Unit) × List lX × Bool × List (List UInt8) × Bool × Unit) :=
 let s_1 := x.1
 let zDa := x.2.1
 let zLs := x.2.2.1
 let zLt := x.2.2.2.1
 let zDb := x.2.2.2.2.1
 let zDc := x.2.2.2.2.2.1
 let zSd := x.2.2.2.2.2.2.1
 ob (dS n (s_1, zDa, zLs, zLt, zDb, zDc, zSd, ())) fun y8 =>
 some ((decide (y8.1 ≥ 0)), y8.2.1, y8.2.2.1, y8.2.2.2.1, y8.2.2.2.2.1, y8.2.2.2.2.2.1, y8.2.2.2.2.2.2.1, ())
def Hq (n : Nat) (g0 : List aS × List aS × Int × Int × List (Bool) × Unit -> Option (List (Bool))) (x2 : List aS × List aS × Int × Int × List (Bool) × Unit) : Option (List (Bool)) :=
 let l_3 := x2.1
 let zSe := x2.2.1
 let zTn := x2.2.2.1
 let uV := x2.2.2.2.1
 let Vx := x2.2.2.2.2.1
 br (decide (uV < zTn)) (
  chk (inB uV zSe.length) (
   let v8 : (Bool × List (List lW × Bool × Unit) × List lX × Unit) × Bool × List (List UInt8) × Bool × Unit := dI (Ty.dflt aK) zSe uV
   chk ((decide (0 <= uV) && decide (uV <= (l_3.length : Int)))) (
    ob (dH n (l_3.take uV.toNat, v8.1.1, v8.1.2.1, v8.1.2.2.1, v8.2.1, v8.2.2.1, v8.2.2.2.1, ())) fun y9 =>
    chk ((inB uV (Vx.length) && decide (0 + (Vx.length) <= Vx.length))) (
     chk (decide (0 + uV.toNat < Vx.length)) (
      let r10 : List (Bool) := Vx.set (0 + uV.toNat) y9.1
      let v11 : Int := IntKind.wrap .i64 (uV + 1)
      g0 (l_3, zSe, zTn, v11, r10, ())))))) (
  some Vx)
def wB (n : Nat) (x : List aS) : Option (List (Bool)) :=
 let l_0 := x
 chk ((decide (0 <= (l_0.length : Int)) && (decide ((l_0.length : Int) = (l_0.length : Int)) && Nat.ble ((l_0.length : Int).toNat * 1) room))) (
  let r1 : List (Bool) := List.replicate (l_0.length : Int).toNat false
  fix (Hq n) n (l_0, l_0, (l_0.length : Int), 0, r1, ()))
def Qc (n : Nat) (x : Bool × List (List lW × Bool × Unit) × List lX × Unit) : Option (Int × Int × Int × Int × Int × List UInt8 × List UInt8 × Bool × Bool × Bool × List (Bool × Int × Unit) × List ZLn × Unit) :=
 let x_0 := x
 chk ((decide (0 <= (x_0.2.2.1.length : Int)) && (decide ((x_0.2.2.1.length : Int) = (x_0.2.2.1.length : Int)) && Nat.ble ((x_0.2.2.1.length : Int).toNat * 16) room))) (
  let r1 : List (Bool × Int × Unit) := List.replicate (x_0.2.2.1.length : Int).toNat (false, (0, ()))
  some (0, (0, (0, (0, ((-1), ([], ([], (false, (false, (false, (r1, ([], ())))))))))))))
def kW (n : Nat) (g1 : List ZLn × Int × Int × List aS × List (Bool) × Bool × List (Bool) × List (List ZLn) × List ZLk × List ZFl × List (Int) × Int × Int × Int × List aS × List (Bool) × Bool × List (Bool) × List (List ZLn) × List ZFl × List (Int) × Int × Int × Int × List ZBk × List ZLn × List ZBk × List ZLk × List ZLn × Unit -> Option ((List aS × List (Bool) × Bool × List ZBk × List (Bool) × List (List ZLn) × List ZLk × List ZLn × List ZFl × List (Int) × Int × Int × Int × Unit) × Int)) (x43 : List ZLn × Int × Int × List aS × List (Bool) × Bool × List (Bool) × List (List ZLn) × List ZLk × List ZFl × List (Int) × Int × Int × Int × List aS × List (Bool) × Bool × List (Bool) × List (List ZLn) × List ZFl × List (Int) × Int × Int × Int × List ZBk × List ZLn × List ZBk × List ZLk × List ZLn × Unit) : Option ((List aS × List (Bool) × Bool × List ZBk × List (Bool) × List (List ZLn) × List ZLk × List ZLn × List ZFl × List (Int) × Int × Int × Int × Unit) × Int) :=
 let zDd := x43.1
 let zOn := x43.2.1
 let Tn := x43.2.2.1
 let zSf := x43.2.2.2.1
 let zLu := x43.2.2.2.2.1
 let yDd := x43.2.2.2.2.2.1
 let zXh := x43.2.2.2.2.2.2.1
 let yFp := x43.2.2.2.2.2.2.2.1
 let zXi := x43.2.2.2.2.2.2.2.2.1
 let zXj := x43.2.2.2.2.2.2.2.2.2.1
 let zSg := x43.2.2.2.2.2.2.2.2.2.2.1
 let zXk := x43.2.2.2.2.2.2.2.2.2.2.2.1
 let yDe := x43.2.2.2.2.2.2.2.2.2.2.2.2.1
 let yDf := x43.2.2.2.2.2.2.2.2.2.2.2.2.2.1
 let zDe := x43.2.2.2.2.2.2.2.2.2.2.2.2.2.2.1
 let Tp := x43.2.2.2.2.2.2.2.2.2.2.2.2.2.2.2.1
 let zOo := x43.2.2.2.2.2.2.2.2.2.2.2.2.2.2.2.2.1
 let zHk := x43.2.2.2.2.2.2.2.2.2.2.2.2.2.2.2.2.2.1
 let zTo := x43.2.2.2.2.2.2.2.2.2.2.2.2.2.2.2.2.2.2.1
 let zHl := x43.2.2.2.2.2.2.2.2.2.2.2.2.2.2.2.2.2.2.2.1
 let zDf := x43.2.2.2.2.2.2.2.2.2.2.2.2.2.2.2.2.2.2.2.2.1
 let zHm := x43.2.2.2.2.2.2.2.2.2.2.2.2.2.2.2.2.2.2.2.2.2.1
 let zOp := x43.2.2.2.2.2.2.2.2.2.2.2.2.2.2.2.2.2.2.2.2.2.2.1
 let zOq := x43.2.2.2.2.2.2.2.2.2.2.2.2.2.2.2.2.2.2.2.2.2.2.2.1
 let yFq := x43.2.2.2.2.2.2.2.2.2.2.2.2.2.2.2.2.2.2.2.2.2.2.2.2.1
 let yFr := x43.2.2.2.2.2.2.2.2.2.2.2.2.2.2.2.2.2.2.2.2.2.2.2.2.2.1
 let zTp := x43.2.2.2.2.2.2.2.2.2.2.2.2.2.2.2.2.2.2.2.2.2.2.2.2.2.2.1
 let zTq := x43.2.2.2.2.2.2.2.2.2.2.2.2.2.2.2.2.2.2.2.2.2.2.2.2.2.2.2.1
 let zLv := x43.2.2.2.2.2.2.2.2.2.2.2.2.2.2.2.2.2.2.2.2.2.2.2.2.2.2.2.2.1
 br (decide (Tn < zOn)) (
  chk (inB Tn zDd.length) (
   let v73 : List UInt8 × Bool × Unit := dI (Ty.dflt aO) zDd Tn
   chk (Nat.ble ((zLv.length + ([v73] : List ZLn).length) * 24) room) (
    let v74 : Int := IntKind.wrap .i64 (Tn + 1)
    g1 (zDd, zOn, v74, zSf, zLu, yDd, zXh, yFp, zXi, zXj, zSg, zXk, yDe, yDf, zDe, Tp, zOo, zHk, zTo, zHl, zDf, zHm, zOp, zOq, yFq, yFr, zTp, zTq, zLv ++ [v73], ())))) (
  some ((zDe, (Tp, (zOo, (zTp, (zHk, (zTo, (zTq, (zLv, (zHl, (zDf, (zHm, (zOp, (zOq, ()))))))))))))), 0))
def Vy (n : Nat) (g0 : List aS × List UInt8 × List aS × Int × Int × List aS × List (Bool) × Bool × List (Bool) × List (List ZLn) × List ZLk × List ZFl × List (Int) × Int × Int × Int × List aS × List (Bool) × Bool × List (Bool) × List (List ZLn) × List ZFl × List (Int) × Int × Int × Int × List ZBk × List ZLn × List ZBk × List ZLk × List ZLn × Unit -> Option ((List aS × List (Bool) × Bool × List ZBk × List (Bool) × List (List ZLn) × List ZLk × List ZLn × List ZFl × List (Int) × Int × Int × Int × Unit) × Int)) (x6 : List aS × List UInt8 × List aS × Int × Int × List aS × List (Bool) × Bool × List (Bool) × List (List ZLn) × List ZLk × List ZFl × List (Int) × Int × Int × Int × List aS × List (Bool) × Bool × List (Bool) × List (List ZLn) × List ZFl × List (Int) × Int × Int × Int × List ZBk × List ZLn × List ZBk × List ZLk × List ZLn × Unit) : Option ((List aS × List (Bool) × Bool × List ZBk × List (Bool) × List (List ZLn) × List ZLk × List ZLn × List ZFl × List (Int) × Int × Int × Int × Unit) × Int) :=
 let l_7 := x6.1
 let zSh := x6.2.1
 let zLw := x6.2.2.1
 let zOr := x6.2.2.2.1
 let Tq := x6.2.2.2.2.1
 let zDg := x6.2.2.2.2.2.1
 let Tt := x6.2.2.2.2.2.2.1
 let zOs := x6.2.2.2.2.2.2.2.1
 let zHn := x6.2.2.2.2.2.2.2.2.1
 let zTr := x6.2.2.2.2.2.2.2.2.2.1
 let zHo := x6.2.2.2.2.2.2.2.2.2.2.1
 let zHp := x6.2.2.2.2.2.2.2.2.2.2.2.1
 let zDh := x6.2.2.2.2.2.2.2.2.2.2.2.2.1
 let zHq := x6.2.2.2.2.2.2.2.2.2.2.2.2.2.1
 let zOt := x6.2.2.2.2.2.2.2.2.2.2.2.2.2.2.1
 let zOu := x6.2.2.2.2.2.2.2.2.2.2.2.2.2.2.2.1
 let Qd := x6.2.2.2.2.2.2.2.2.2.2.2.2.2.2.2.2.1
 let Gd := x6.2.2.2.2.2.2.2.2.2.2.2.2.2.2.2.2.2.1
 let zDi := x6.2.2.2.2.2.2.2.2.2.2.2.2.2.2.2.2.2.2.1
 let Vz := x6.2.2.2.2.2.2.2.2.2.2.2.2.2.2.2.2.2.2.2.1
 let zLx := x6.2.2.2.2.2.2.2.2.2.2.2.2.2.2.2.2.2.2.2.2.1
 let Wd := x6.2.2.2.2.2.2.2.2.2.2.2.2.2.2.2.2.2.2.2.2.2.1
 let Qe := x6.2.2.2.2.2.2.2.2.2.2.2.2.2.2.2.2.2.2.2.2.2.2.1
 let Wh := x6.2.2.2.2.2.2.2.2.2.2.2.2.2.2.2.2.2.2.2.2.2.2.2.1
 let zDj := x6.2.2.2.2.2.2.2.2.2.2.2.2.2.2.2.2.2.2.2.2.2.2.2.2.1
 let zDk := x6.2.2.2.2.2.2.2.2.2.2.2.2.2.2.2.2.2.2.2.2.2.2.2.2.2.1
 let zTs := x6.2.2.2.2.2.2.2.2.2.2.2.2.2.2.2.2.2.2.2.2.2.2.2.2.2.2.1
 let zTt := x6.2.2.2.2.2.2.2.2.2.2.2.2.2.2.2.2.2.2.2.2.2.2.2.2.2.2.2.1
 let Zf := x6.2.2.2.2.2.2.2.2.2.2.2.2.2.2.2.2.2.2.2.2.2.2.2.2.2.2.2.2.1
 let Gf := x6.2.2.2.2.2.2.2.2.2.2.2.2.2.2.2.2.2.2.2.2.2.2.2.2.2.2.2.2.2.1
 let zLy := x6.2.2.2.2.2.2.2.2.2.2.2.2.2.2.2.2.2.2.2.2.2.2.2.2.2.2.2.2.2.2.1
 br (decide (Tq < zOr)) (
  chk (inB Tq zLw.length) (
   let v38 : (Bool × List (List lW × Bool × Unit) × List lX × Unit) × Bool × List (List UInt8) × Bool × Unit := dI (Ty.dflt aK) zLw Tq
   ob (Qc n v38.1) fun y39 =>
   chk (Nat.ble ((Zf.length + ([y39] : List ZBk).length) * 128) room) (
    let v40 : Int := IntKind.wrap .i64 (Tq + 1)
    g0 (l_7, zSh, zLw, zOr, v40, zDg, Tt, zOs, zHn, zTr, zHo, zHp, zDh, zHq, zOt, zOu, Qd, Gd, zDi, Vz, zLx, Wd, Qe, Wh, zDj, zDk, zTs, zTt, Zf ++ [y39], Gf, zLy, ())))) (
  br (decide ((l_7.length : Int) > 0)) (
   chk ((inB 0 (Gf.length) && decide (0 + (Gf.length) <= Gf.length))) (
    chk (decide (0 + (0 : Int).toNat < Gf.length)) (
     let r41 : List ZLk := Gf.set (0 + (0 : Int).toNat) (zSh, (false, (true, ())))
     some ((Qd, (Gd, (zDi, (Zf, (Vz, (zLx, (r41, (zLy, (Wd, (Qe, (Wh, (zDj, (zDk, ()))))))))))))), 0)))) (
   ob (mO n zSh) fun y42 =>
   fix (kW n) n (y42, (y42.length : Int), 0, zDg, Tt, zOs, zHn, zTr, zHo, zHp, zDh, zHq, zOt, zOu, Qd, Gd, zDi, Vz, zLx, Wd, Qe, Wh, zDj, zDk, zTs, zTt, Zf, Gf, zLy, ())))
def yV (n : Nat) (x : List aS × List UInt8 × List ZFl × Bool) : Option ((List aS × List (Bool) × Bool × List ZBk × List (Bool) × List (List ZLn) × List ZLk × List ZLn × List ZFl × List (Int) × Int × Int × Int × Unit) × Int) :=
 let l_0 := x.1
 let yHg := x.2.1
 let t_2 := x.2.2.1
 let yDg := x.2.2.2
 br (decide ((l_0.length : Int) > 8)) (
  some (([], ([], (false, ([], ([], ([], ([], ([], ([], ([], (0, (0, (0, ()))))))))))))), 2)) (
  ob (wB n l_0) fun y1 =>
  chk ((decide (0 <= (l_0.length : Int)) && (decide ((l_0.length : Int) = (l_0.length : Int)) && Nat.ble ((l_0.length : Int).toNat * 1) room))) (
   let v2 : List (Bool) := List.replicate (l_0.length : Int).toNat false
   chk ((decide (0 <= (l_0.length : Int)) && (decide ((l_0.length : Int) = (l_0.length : Int)) && Nat.ble ((l_0.length : Int).toNat * 24) room))) (
    let v3 : List (List ZLn) := List.replicate (l_0.length : Int).toNat []
    chk ((decide (0 <= (l_0.length : Int)) && (decide ((l_0.length : Int) = (l_0.length : Int)) && Nat.ble ((l_0.length : Int).toNat * 24) room))) (
     let r4 : List ZLk := List.replicate (l_0.length : Int).toNat ([], (false, (false, ())))
     chk ((decide (0 <= (l_0.length : Int)) && (decide ((l_0.length : Int) = (l_0.length : Int)) && Nat.ble ((l_0.length : Int).toNat * 8) room))) (
      let v5 : List (Int) := List.replicate (l_0.length : Int).toNat 0
      fix (Vy n) n (l_0, yHg, l_0, (l_0.length : Int), 0, [], [], false, [], [], [], [], [], 0, 0, 0, l_0, y1, yDg, v2, v3, t_2, v5, 0, 0, 0, [], [], [], r4, [], ()))))))
def oU (n : Nat) (x : Int × List aS × List (Bool) × Bool × List ZBk × List (Bool) × List (List ZLn) × List ZLk × List ZLn × List ZFl × List (Int) × Int × Int × Int × Unit) : Option (Bool × List aS × List (Bool) × Bool × List ZBk × List (Bool) × List (List ZLn) × List ZLk × List ZLn × List ZFl × List (Int) × Int × Int × Int × Unit) :=
 let i_1 := x.1
 let fD := x.2.1
 let fA := x.2.2.1
 let mX := x.2.2.2.1
 let sJ := x.2.2.2.2.1
 let Jz := x.2.2.2.2.2.1
 let zDl := x.2.2.2.2.2.2.1
 let Ka := x.2.2.2.2.2.2.2.1
 let zDm := x.2.2.2.2.2.2.2.2.1
 let Cw := x.2.2.2.2.2.2.2.2.2.1
 let yX := x.2.2.2.2.2.2.2.2.2.2.1
 let Cy := x.2.2.2.2.2.2.2.2.2.2.2.1
 let Kc := x.2.2.2.2.2.2.2.2.2.2.2.2.1
 let Ke := x.2.2.2.2.2.2.2.2.2.2.2.2.2.1
 chk (inB i_1 sJ.length) (
  let v15 : Int × Int × Int × Int × Int × List UInt8 × List UInt8 × Bool × Bool × Bool × List (Bool × Int × Unit) × List ZLn × Unit := dI (Ty.dflt aB) sJ i_1
  some ((v15.1 == 4), fD, fA, mX, sJ, Jz, zDl, Ka, zDm, Cw, yX, Cy, Kc, Ke, ()))
def lY (n : Nat) (x : Int × Int × Int × Int × Int × List UInt8 × List UInt8 × Bool × Bool × Bool × List (Bool × Int × Unit) × List ZLn × Unit) : Option (Bool) :=
 let b_0 := x
 some (b_0.1 != 4)
def jI (n : Nat) (g0 : List ZBk × Int × Int × Unit -> Option (Int × Unit)) (x2 : List ZBk × Int × Int × Unit) : Option (Int × Unit) :=
 let s_3 := x2.1
 let yDh := x2.2.1
 let zDn := x2.2.2.1
 br (decide (zDn < yDh)) (
  chk (inB zDn s_3.length) (
   let v6 : Int × Int × Int × Int × Int × List UInt8 × List UInt8 × Bool × Bool × Bool × List (Bool × Int × Unit) × List ZLn × Unit := dI (Ty.dflt aB) s_3 zDn
   ob (lY n v6) fun y7 =>
   br y7 (
    some (zDn, ())) (
    let v8 : Int := IntKind.wrap .i64 (zDn + 1)
    g0 (s_3, yDh, v8, ())))) (
  some ((-1), ()))
def dA (n : Nat) (x : List ZBk × Unit) : Option (Int × Unit) :=
 let s_1 := x.1
 fix (jI n) n (s_1, (s_1.length : Int), 0, ())
def cK (n : Nat) (x : List ZBk × Unit) : Option (Bool × Unit) :=
 let s_1 := x.1
 ob (dA n (s_1, ())) fun y2 =>
 some ((decide (y2.1 ≥ 0)), ())
def nR (n : Nat) (x : Int × List aS × List (Bool) × Bool × List ZBk × List (Bool) × List (List ZLn) × List ZLk × List ZLn × List ZFl × List (Int) × Int × Int × Int × Unit) : Option (Bool × List aS × List (Bool) × Bool × List ZBk × List (Bool) × List (List ZLn) × List ZLk × List ZLn × List ZFl × List (Int) × Int × Int × Int × Unit) :=
 let i_1 := x.1
 let fD := x.2.1
 let fA := x.2.2.1
 let mX := x.2.2.2.1
 let sJ := x.2.2.2.2.1
 let Jz := x.2.2.2.2.2.1
 let zDl := x.2.2.2.2.2.2.1
 let Ka := x.2.2.2.2.2.2.2.1
 let zDm := x.2.2.2.2.2.2.2.2.1
 let Cw := x.2.2.2.2.2.2.2.2.2.1
 let yX := x.2.2.2.2.2.2.2.2.2.2.1
 let Cy := x.2.2.2.2.2.2.2.2.2.2.2.1
 let Kc := x.2.2.2.2.2.2.2.2.2.2.2.2.1
 let Ke := x.2.2.2.2.2.2.2.2.2.2.2.2.2.1
 chk ((decide (0 <= i_1) && decide (i_1 <= (sJ.length : Int)))) (
  ob (cK n (sJ.take i_1.toNat, ())) fun y15 =>
  some ((!y15.1), fD, fA, mX, sJ, Jz, zDl, Ka, zDm, Cw, yX, Cy, Kc, Ke, ()))
def Kg (n : Nat) (x : List UInt8 × Bool × Bool × Unit) : Option ((List UInt8 × Bool × Bool × Unit) × (List UInt8 × Bool × Unit) × Bool × Bool) :=
 let k_0 := x
 ob (strings_Cut n (k_0.1, [10])) fun y1 =>
 br (y1.2.1 == []) (
  br (!k_0.2.2.1) (
   some (k_0, ([], (false, ())), false, false)) (
   br (k_0.1 == []) (
    some (k_0, ([], (false, ())), false, false)) (
    some ((y1.2.1, k_0.2), (y1.1, (y1.2.2, ())), (y1.2.1 == []), true)))) (
  br (k_0.1 == []) (
   some (k_0, ([], (false, ())), false, false)) (
   some ((y1.2.1, k_0.2), (y1.1, (y1.2.2, ())), (y1.2.1 == []), true)))
def Gg (n : Nat) (x : List UInt8 × Bool × Bool × Unit) : Option ((List UInt8 × Bool × Unit) × Bool × Bool) :=
 let k_0 := x
 ob (Kg n k_0) fun y1 =>
 some (y1.2.1, y1.2.2.1, y1.2.2.2)
def Gh (n : Nat) (x : List UInt8 × Bool × Bool × Unit) : Option (Bool) :=
 let k_0 := x
 br k_0.2.2.1 (
  some (k_0.1 == [])) (
  some false)
def qR (n : Nat) (x : Int × List aS × List (Bool) × Bool × List ZBk × List (Bool) × List (List ZLn) × List ZLk × List ZLn × List ZFl × List (Int) × Int × Int × Int × Unit) : Option (Bool × List aS × List (Bool) × Bool × List ZBk × List (Bool) × List (List ZLn) × List ZLk × List ZLn × List ZFl × List (Int) × Int × Int × Int × Unit) :=
 let i_1 := x.1
 let fD := x.2.1
 let fA := x.2.2.1
 let mX := x.2.2.2.1
 let sJ := x.2.2.2.2.1
 let Jz := x.2.2.2.2.2.1
 let zDl := x.2.2.2.2.2.2.1
 let Ka := x.2.2.2.2.2.2.2.1
 let zDm := x.2.2.2.2.2.2.2.2.1
 let Cw := x.2.2.2.2.2.2.2.2.2.1
 let yX := x.2.2.2.2.2.2.2.2.2.2.1
 let Cy := x.2.2.2.2.2.2.2.2.2.2.2.1
 let Kc := x.2.2.2.2.2.2.2.2.2.2.2.2.1
 let Ke := x.2.2.2.2.2.2.2.2.2.2.2.2.2.1
 chk (inB i_1 fD.length) (
  let v15 : (Bool × List (List lW × Bool × Unit) × List lX × Unit) × Bool × List (List UInt8) × Bool × Unit := dI (Ty.dflt aK) fD i_1
  ob (oU n (i_1, fD, fA, mX, sJ, Jz, zDl, Ka, zDm, Cw, yX, Cy, Kc, Ke, ())) fun y16 =>
  br y16.1 (
   some (false, y16.2.1, y16.2.2.1, y16.2.2.2.1, y16.2.2.2.2.1, y16.2.2.2.2.2.1, y16.2.2.2.2.2.2.1, y16.2.2.2.2.2.2.2.1, y16.2.2.2.2.2.2.2.2.1, y16.2.2.2.2.2.2.2.2.2.1, y16.2.2.2.2.2.2.2.2.2.2.1, y16.2.2.2.2.2.2.2.2.2.2.2.1, y16.2.2.2.2.2.2.2.2.2.2.2.2.1, y16.2.2.2.2.2.2.2.2.2.2.2.2.2.1, ())) (
   chk (inB i_1 y16.2.2.2.2.2.1.length) (
    let v17 : Bool := dI (Ty.dflt .bool) y16.2.2.2.2.2.1 i_1
    br (!v17) (
     br v15.2.2.2.1 (
      some (true, y16.2.1, y16.2.2.1, y16.2.2.2.1, y16.2.2.2.2.1, y16.2.2.2.2.2.1, y16.2.2.2.2.2.2.1, y16.2.2.2.2.2.2.2.1, y16.2.2.2.2.2.2.2.2.1, y16.2.2.2.2.2.2.2.2.2.1, y16.2.2.2.2.2.2.2.2.2.2.1, y16.2.2.2.2.2.2.2.2.2.2.2.1, y16.2.2.2.2.2.2.2.2.2.2.2.2.1, y16.2.2.2.2.2.2.2.2.2.2.2.2.2.1, ())) (
      chk (inB i_1 y16.2.2.1.length) (
       let v18 : Bool := dI (Ty.dflt .bool) y16.2.2.1 i_1
       br (!v18) (
        some (true, y16.2.1, y16.2.2.1, y16.2.2.2.1, y16.2.2.2.2.1, y16.2.2.2.2.2.1, y16.2.2.2.2.2.2.1, y16.2.2.2.2.2.2.2.1, y16.2.2.2.2.2.2.2.2.1, y16.2.2.2.2.2.2.2.2.2.1, y16.2.2.2.2.2.2.2.2.2.2.1, y16.2.2.2.2.2.2.2.2.2.2.2.1, y16.2.2.2.2.2.2.2.2.2.2.2.2.1, y16.2.2.2.2.2.2.2.2.2.2.2.2.2.1, ())) (
        ob (nR n (i_1, y16.2.1, y16.2.2.1, y16.2.2.2.1, y16.2.2.2.2.1, y16.2.2.2.2.2.1, y16.2.2.2.2.2.2.1, y16.2.2.2.2.2.2.2.1, y16.2.2.2.2.2.2.2.2.1, y16.2.2.2.2.2.2.2.2.2.1, y16.2.2.2.2.2.2.2.2.2.2.1, y16.2.2.2.2.2.2.2.2.2.2.2.1, y16.2.2.2.2.2.2.2.2.2.2.2.2.1, y16.2.2.2.2.2.2.2.2.2.2.2.2.2.1, ())) fun y19 =>
        some (y19.1, y19.2.1, y19.2.2.1, y19.2.2.2.1, y19.2.2.2.2.1, y19.2.2.2.2.2.1, y19.2.2.2.2.2.2.1, y19.2.2.2.2.2.2.2.1, y19.2.2.2.2.2.2.2.2.1, y19.2.2.2.2.2.2.2.2.2.1, y19.2.2.2.2.2.2.2.2.2.2.1, y19.2.2.2.2.2.2.2.2.2.2.2.1, y19.2.2.2.2.2.2.2.2.2.2.2.2.1, y19.2.2.2.2.2.2.2.2.2.2.2.2.2.1, ()))))) (
     chk (inB i_1 y16.2.2.2.2.1.length) (
      let v20 : Int × Int × Int × Int × Int × List UInt8 × List UInt8 × Bool × Bool × Bool × List (Bool × Int × Unit) × List ZLn × Unit := dI (Ty.dflt aB) y16.2.2.2.2.1 i_1
      br (v20.1 == 1) (
       some (true, y16.2.1, y16.2.2.1, y16.2.2.2.1, y16.2.2.2.2.1, y16.2.2.2.2.2.1, y16.2.2.2.2.2.2.1, y16.2.2.2.2.2.2.2.1, y16.2.2.2.2.2.2.2.2.1, y16.2.2.2.2.2.2.2.2.2.1, y16.2.2.2.2.2.2.2.2.2.2.1, y16.2.2.2.2.2.2.2.2.2.2.2.1, y16.2.2.2.2.2.2.2.2.2.2.2.2.1, y16.2.2.2.2.2.2.2.2.2.2.2.2.2.1, ())) (
       br (decide ((v15.2.2.1.length : Int) > 0)) (
        some (true, y16.2.1, y16.2.2.1, y16.2.2.2.1, y16.2.2.2.2.1, y16.2.2.2.2.2.1, y16.2.2.2.2.2.2.1, y16.2.2.2.2.2.2.2.1, y16.2.2.2.2.2.2.2.2.1, y16.2.2.2.2.2.2.2.2.2.1, y16.2.2.2.2.2.2.2.2.2.2.1, y16.2.2.2.2.2.2.2.2.2.2.2.1, y16.2.2.2.2.2.2.2.2.2.2.2.2.1, y16.2.2.2.2.2.2.2.2.2.2.2.2.2.1, ())) (
        chk (inB i_1 y16.2.2.2.2.2.2.2.1.length) (
         let v21 : List UInt8 × Bool × Bool × Unit := dI (Ty.dflt bE) y16.2.2.2.2.2.2.2.1 i_1
         ob (Gg n v21) fun y22 =>
         br y22.2.2 (
          some (true, y16.2.1, y16.2.2.1, y16.2.2.2.1, y16.2.2.2.2.1, y16.2.2.2.2.2.1, y16.2.2.2.2.2.2.1, y16.2.2.2.2.2.2.2.1, y16.2.2.2.2.2.2.2.2.1, y16.2.2.2.2.2.2.2.2.2.1, y16.2.2.2.2.2.2.2.2.2.2.1, y16.2.2.2.2.2.2.2.2.2.2.2.1, y16.2.2.2.2.2.2.2.2.2.2.2.2.1, y16.2.2.2.2.2.2.2.2.2.2.2.2.2.1, ())) (
          chk (inB i_1 y16.2.2.2.2.2.2.2.1.length) (
           let v23 : List UInt8 × Bool × Bool × Unit := dI (Ty.dflt bE) y16.2.2.2.2.2.2.2.1 i_1
           ob (Gh n v23) fun y24 =>
           some (y24, y16.2.1, y16.2.2.1, y16.2.2.2.1, y16.2.2.2.2.1, y16.2.2.2.2.2.1, y16.2.2.2.2.2.2.1, y16.2.2.2.2.2.2.2.1, y16.2.2.2.2.2.2.2.2.1, y16.2.2.2.2.2.2.2.2.2.1, y16.2.2.2.2.2.2.2.2.2.2.1, y16.2.2.2.2.2.2.2.2.2.2.2.1, y16.2.2.2.2.2.2.2.2.2.2.2.2.1, y16.2.2.2.2.2.2.2.2.2.2.2.2.2.1, ())))))))))))
def Tv (n : Nat) (g0 : Int × List aS × List (Bool) × Bool × List ZBk × List (Bool) × List (List ZLn) × List ZLk × List ZLn × List ZFl × List (Int) × Int × Int × Int × Unit -> Option (Int)) (x2 : Int × List aS × List (Bool) × Bool × List ZBk × List (Bool) × List (List ZLn) × List ZLk × List ZLn × List ZFl × List (Int) × Int × Int × Int × Unit) : Option (Int) :=
 let i_3 := x2.1
 let Cz := x2.2.1
 let vK := x2.2.2.1
 let Tw := x2.2.2.2.1
 let Kh := x2.2.2.2.2.1
 let Ki := x2.2.2.2.2.2.1
 let zDo := x2.2.2.2.2.2.2.1
 let Da := x2.2.2.2.2.2.2.2.1
 let Tx := x2.2.2.2.2.2.2.2.2.1
 let Db := x2.2.2.2.2.2.2.2.2.2.1
 let yY := x2.2.2.2.2.2.2.2.2.2.2.1
 let Dc := x2.2.2.2.2.2.2.2.2.2.2.2.1
 let Kj := x2.2.2.2.2.2.2.2.2.2.2.2.2.1
 let Kk := x2.2.2.2.2.2.2.2.2.2.2.2.2.2.1
 br (decide (i_3 ≥ 0)) (
  ob (qR n (i_3, Cz, vK, Tw, Kh, Ki, zDo, Da, Tx, Db, yY, Dc, Kj, Kk, ())) fun y17 =>
  br y17.1 (
   some i_3) (
   let v18 : Int := IntKind.wrap .i64 (i_3 - 1)
   g0 (v18, y17.2.1, y17.2.2.1, y17.2.2.2.1, y17.2.2.2.2.1, y17.2.2.2.2.2.1, y17.2.2.2.2.2.2.1, y17.2.2.2.2.2.2.2.1, y17.2.2.2.2.2.2.2.2.1, y17.2.2.2.2.2.2.2.2.2.1, y17.2.2.2.2.2.2.2.2.2.2.1, y17.2.2.2.2.2.2.2.2.2.2.2.1, y17.2.2.2.2.2.2.2.2.2.2.2.2.1, y17.2.2.2.2.2.2.2.2.2.2.2.2.2.1, ()))) (
  some (-1))
def vL (n : Nat) (x : List aS × List (Bool) × Bool × List ZBk × List (Bool) × List (List ZLn) × List ZLk × List ZLn × List ZFl × List (Int) × Int × Int × Int × Unit) : Option (Int) :=
 let m_0 := x
 let v1 : Int := IntKind.wrap .i64 ((m_0.1.length : Int) - 1)
 fix (Tv n) n (v1, m_0.1, m_0.2.1, m_0.2.2.1, m_0.2.2.2.1, m_0.2.2.2.2.1, m_0.2.2.2.2.2.1, m_0.2.2.2.2.2.2.1, m_0.2.2.2.2.2.2.2.1, m_0.2.2.2.2.2.2.2.2.1, m_0.2.2.2.2.2.2.2.2.2.1, m_0.2.2.2.2.2.2.2.2.2.2.1, m_0.2.2.2.2.2.2.2.2.2.2.2.1, m_0.2.2.2.2.2.2.2.2.2.2.2.2.1, ())
def kX (_n:Nat) (x:List ZBk × Unit):Option (List ZBk × Unit):=Bz 128 x
def oV (_n:Nat) (x:List (Bool) × Unit):Option (List (Bool) × Unit):=Bz 1 x
def jX (_n:Nat) (x:List (List ZLn) × Unit):Option (List (List ZLn) × Unit):=Bz 24 x
def kY (_n:Nat) (x:List ZLk × Unit):Option (List ZLk × Unit):=Bz 24 x
def slices_Clone_int (_n:Nat) (x:List (Int) × Unit):Option (List (Int) × Unit):=Bz 8 x
def qU (n : Nat) (x : List ZLn) : Option (List ZLn) :=
 let s_0 := x
 chk ((decide ((s_0.length : Int) = (s_0.length : Int)) && decide ((s_0.length : Int) = (s_0.length : Int)))) (
  some s_0)
def qV (n : Nat) (x : List aS × List (Bool) × Bool × List ZBk × List (Bool) × List (List ZLn) × List ZLk × List ZLn × List ZFl × List (Int) × Int × Int × Int × Unit) : Option (List aS × List (Bool) × Bool × List ZLn × List ZFl × Int × Int × Int × List ZBk × List (Bool) × List (List ZLn) × List ZLk × List (Int) × Unit) :=
 let m_1 := x.1
 let m_2 := x.2.1
 let m_3 := x.2.2.1
 let m_4 := x.2.2.2.1
 let m_5 := x.2.2.2.2.1
 let m_6 := x.2.2.2.2.2.1
 let m_7 := x.2.2.2.2.2.2.1
 let m_8 := x.2.2.2.2.2.2.2.1
 let m_9 := x.2.2.2.2.2.2.2.2.1
 let yHh := x.2.2.2.2.2.2.2.2.2.1
 let yHi := x.2.2.2.2.2.2.2.2.2.2.1
 let yHj := x.2.2.2.2.2.2.2.2.2.2.2.1
 let yHk := x.2.2.2.2.2.2.2.2.2.2.2.2.1
 ob (kX n (m_4, ())) fun y14 =>
 ob (oV n (m_5, ())) fun y15 =>
 ob (jX n (m_6, ())) fun y16 =>
 ob (kY n (m_7, ())) fun y17 =>
 ob (slices_Clone_int n (yHh, ())) fun y18 =>
 ob (qU n m_8) fun y19 =>
 some (m_1, m_2, m_3, y19, m_9, yHi, yHj, yHk, y14.1, y15.1, y16.1, y17.1, y18.1, ())
def Gi (n : Nat) (x : List UInt8 × Bool × Bool × Unit) : Option (List UInt8 × Bool × Bool × Unit) :=
 let k_0 := x
 some (k_0.1, (k_0.2.1, (true, ())))
def kQ (n : Nat) (x : Int × List aS × List (Bool) × Bool × List ZLn × List ZFl × Int × Int × Int × List ZBk × List (Bool) × List (List ZLn) × List ZLk × List (Int) × Unit) : Option (List aS × List (Bool) × Bool × List ZLn × List ZFl × Int × Int × Int × List ZBk × List (Bool) × List (List ZLn) × List ZLk × List (Int) × Unit) :=
 let i_1 := x.1
 let fD := x.2.1
 let fA := x.2.2.1
 let mX := x.2.2.2.1
 let Kl := x.2.2.2.2.1
 let yZ := x.2.2.2.2.2.1
 let vM := x.2.2.2.2.2.2.1
 let Ab := x.2.2.2.2.2.2.2.1
 let Ac := x.2.2.2.2.2.2.2.2.1
 let bT := x.2.2.2.2.2.2.2.2.2.1
 let qH := x.2.2.2.2.2.2.2.2.2.2.1
 let mY := x.2.2.2.2.2.2.2.2.2.2.2.1
 let lZ := x.2.2.2.2.2.2.2.2.2.2.2.2.1
 let mZ := x.2.2.2.2.2.2.2.2.2.2.2.2.2.1
 chk ((inB i_1 (bT.length) && decide (0 + (bT.length) <= bT.length))) (
  chk (decide (0 + i_1.toNat < bT.length)) (
   let r15 : List ZBk := bT.set (0 + i_1.toNat) (4, ((bT.getD (0 + i_1.toNat) (Ty.dflt aB)).2.1, ((bT.getD (0 + i_1.toNat) (Ty.dflt aB)).2.2.1, ((bT.getD (0 + i_1.toNat) (Ty.dflt aB)).2.2.2.1, ((bT.getD (0 + i_1.toNat) (Ty.dflt aB)).2.2.2.2.1, ((bT.getD (0 + i_1.toNat) (Ty.dflt aB)).2.2.2.2.2.1, ((bT.getD (0 + i_1.toNat) (Ty.dflt aB)).2.2.2.2.2.2.1, ((bT.getD (0 + i_1.toNat) (Ty.dflt aB)).2.2.2.2.2.2.2.1, ((bT.getD (0 + i_1.toNat) (Ty.dflt aB)).2.2.2.2.2.2.2.2.1, ((bT.getD (0 + i_1.toNat) (Ty.dflt aB)).2.2.2.2.2.2.2.2.2.1, ((bT.getD (0 + i_1.toNat) (Ty.dflt aB)).2.2.2.2.2.2.2.2.2.2.1, ((bT.getD (0 + i_1.toNat) (Ty.dflt aB)).2.2.2.2.2.2.2.2.2.2.2.1, ()))))))))))))
   chk ((inB i_1 (lZ.length) && decide (0 + (lZ.length) <= lZ.length))) (
    chk (decide (0 + i_1.toNat < lZ.length)) (
     let r16 : List ZLk := lZ.set (0 + i_1.toNat) ([], ((lZ.getD (0 + i_1.toNat) (Ty.dflt bE)).2.1, ((lZ.getD (0 + i_1.toNat) (Ty.dflt bE)).2.2.1, ())))
     let v17 : Int := IntKind.wrap .i64 (i_1 + 1)
     let v18 : Int := ((r16.length : Nat) : Int)
     br (decide (v17 < v18)) (
      let v19 : Int := IntKind.wrap .i64 (i_1 + 1)
      let v20 : Int := IntKind.wrap .i64 (i_1 + 1)
      chk ((inB v20 (r16.length) && decide (0 + (r16.length) <= r16.length))) (
       chk (decide (0 + v20.toNat < r16.length)) (
        ob (Gi n ((r16.getD (0 + v20.toNat) (Ty.dflt bE)).1, ((r16.getD (0 + v20.toNat) (Ty.dflt bE)).2.1, ((r16.getD (0 + v20.toNat) (Ty.dflt bE)).2.2.1, ())))) fun y21 =>
        chk ((inB v19 (r16.length) && decide (0 + (r16.length) <= r16.length))) (
         chk (decide (0 + v19.toNat < r16.length)) (
          let r22 : List ZLk := r16.set (0 + v19.toNat) y21
          some (fD, fA, mX, Kl, yZ, vM, Ab, Ac, r15, qH, mY, r22, mZ, ())))))) (
      some (fD, fA, mX, Kl, yZ, vM, Ab, Ac, r15, qH, mY, r16, mZ, ()))))))
def Qf (n : Nat) (g0 : List aS × Int × Unit -> Option (Int)) (x2 : List aS × Int × Unit) : Option (Int) :=
 let l_3 := x2.1
 let i_4 := x2.2.1
 br (decide (i_4 ≥ 0)) (
  chk (inB i_4 l_3.length) (
   let v5 : (Bool × List (List lW × Bool × Unit) × List lX × Unit) × Bool × List (List UInt8) × Bool × Unit := dI (Ty.dflt aK) l_3 i_4
   ob (sG n v5) fun y6 =>
   br (decide ((y6.2.length : Int) > 0)) (
    some i_4) (
    let v7 : Int := IntKind.wrap .i64 (i_4 - 1)
    g0 (l_3, v7, ())))) (
  some (-1))
def Gj (n : Nat) (x : List aS × Int) : Option (Int) :=
 let l_0 := x.1
 let j_1 := x.2
 br (decide (j_1 < 0)) (
  some (-1)) (
  br (decide (j_1 > (l_0.length : Int))) (
   some (-1)) (
   let v1 : Int := IntKind.wrap .i64 (j_1 - 1)
   fix (Qf n) n (l_0, v1, ())))
def mD (n : Nat) (x : Int × List aS × List (Bool) × Bool × List ZLn × List ZFl × Int × Int × Int × List ZBk × List (Bool) × List (List ZLn) × List ZLk × List (Int) × Unit) : Option (Bool × List aS × List (Bool) × Bool × List ZLn × List ZFl × Int × Int × Int × List ZBk × List (Bool) × List (List ZLn) × List ZLk × List (Int) × Unit) :=
 let i_1 := x.1
 let fD := x.2.1
 let fA := x.2.2.1
 let mX := x.2.2.2.1
 let Kl := x.2.2.2.2.1
 let yZ := x.2.2.2.2.2.1
 let vM := x.2.2.2.2.2.2.1
 let Ab := x.2.2.2.2.2.2.2.1
 let Ac := x.2.2.2.2.2.2.2.2.1
 let bT := x.2.2.2.2.2.2.2.2.2.1
 let qH := x.2.2.2.2.2.2.2.2.2.2.1
 let mY := x.2.2.2.2.2.2.2.2.2.2.2.1
 let lZ := x.2.2.2.2.2.2.2.2.2.2.2.2.1
 let mZ := x.2.2.2.2.2.2.2.2.2.2.2.2.2.1
 chk ((inB i_1 (bT.length) && decide (0 + (bT.length) <= bT.length))) (
  chk (decide (0 + i_1.toNat < bT.length)) (
   let v15 : Int := (bT.getD (0 + i_1.toNat) (Ty.dflt aB)).1
   some ((v15 == 4), fD, fA, mX, Kl, yZ, vM, Ab, Ac, bT, qH, mY, lZ, mZ, ())))
def Aq (n : Nat) (g0 : Int × Int × List aS × List (Bool) × Bool × List ZLn × List ZFl × Int × Int × Int × List ZBk × List (Bool) × List (List ZLn) × List ZLk × List (Int) × Unit -> Option (List aS × List (Bool) × Bool × List ZLn × List ZFl × Int × Int × Int × List ZBk × List (Bool) × List (List ZLn) × List ZLk × List (Int) × Unit)) (x35 : Int × Int × List aS × List (Bool) × Bool × List ZLn × List ZFl × Int × Int × Int × List ZBk × List (Bool) × List (List ZLn) × List ZLk × List (Int) × Unit) : Option (List aS × List (Bool) × Bool × List ZLn × List ZFl × Int × Int × Int × List ZBk × List (Bool) × List (List ZLn) × List ZLk × List (Int) × Unit) :=
 let zSi := x35.1
 let Km := x35.2.1
 let zDp := x35.2.2.1
 let Tz := x35.2.2.2.1
 let zOv := x35.2.2.2.2.1
 let zTu := x35.2.2.2.2.2.1
 let zHr := x35.2.2.2.2.2.2.1
 let zHs := x35.2.2.2.2.2.2.2.1
 let zOw := x35.2.2.2.2.2.2.2.2.1
 let zOx := x35.2.2.2.2.2.2.2.2.2.1
 let zTv := x35.2.2.2.2.2.2.2.2.2.2.1
 let zTw := x35.2.2.2.2.2.2.2.2.2.2.2.1
 let zTx := x35.2.2.2.2.2.2.2.2.2.2.2.2.1
 let zTy := x35.2.2.2.2.2.2.2.2.2.2.2.2.2.1
 let zTz := x35.2.2.2.2.2.2.2.2.2.2.2.2.2.2.1
 br (decide (Km < zSi)) (
  ob (mD n (Km, zDp, Tz, zOv, zTu, zHr, zHs, zOw, zOx, zTv, zTw, zTx, zTy, zTz, ())) fun y51 =>
  br (!y51.1) (
   ob (kQ n (Km, y51.2.1, y51.2.2.1, y51.2.2.2.1, y51.2.2.2.2.1, y51.2.2.2.2.2.1, y51.2.2.2.2.2.2.1, y51.2.2.2.2.2.2.2.1, y51.2.2.2.2.2.2.2.2.1, y51.2.2.2.2.2.2.2.2.2.1, y51.2.2.2.2.2.2.2.2.2.2.1, y51.2.2.2.2.2.2.2.2.2.2.2.1, y51.2.2.2.2.2.2.2.2.2.2.2.2.1, y51.2.2.2.2.2.2.2.2.2.2.2.2.2.1, ())) fun y52 =>
   chk ((inB Km (y52.2.2.2.2.2.2.2.2.2.2.2.2.1.length) && decide (0 + (y52.2.2.2.2.2.2.2.2.2.2.2.2.1.length) <= y52.2.2.2.2.2.2.2.2.2.2.2.2.1.length))) (
    chk (decide (0 + Km.toNat < y52.2.2.2.2.2.2.2.2.2.2.2.2.1.length)) (
     let r53 : List (Int) := y52.2.2.2.2.2.2.2.2.2.2.2.2.1.set (0 + Km.toNat) (-1)
     let v54 : Int := IntKind.wrap .i64 (Km + 1)
     g0 (zSi, v54, y52.1, y52.2.1, y52.2.2.1, y52.2.2.2.1, y52.2.2.2.2.1, y52.2.2.2.2.2.1, y52.2.2.2.2.2.2.1, y52.2.2.2.2.2.2.2.1, y52.2.2.2.2.2.2.2.2.1, y52.2.2.2.2.2.2.2.2.2.1, y52.2.2.2.2.2.2.2.2.2.2.1, y52.2.2.2.2.2.2.2.2.2.2.2.1, r53, ())))) (
   let v55 : Int := IntKind.wrap .i64 (Km + 1)
   g0 (zSi, v55, y51.2.1, y51.2.2.1, y51.2.2.2.1, y51.2.2.2.2.1, y51.2.2.2.2.2.1, y51.2.2.2.2.2.2.1, y51.2.2.2.2.2.2.2.1, y51.2.2.2.2.2.2.2.2.1, y51.2.2.2.2.2.2.2.2.2.1, y51.2.2.2.2.2.2.2.2.2.2.1, y51.2.2.2.2.2.2.2.2.2.2.2.1, y51.2.2.2.2.2.2.2.2.2.2.2.2.1, y51.2.2.2.2.2.2.2.2.2.2.2.2.2.1, ()))) (
  some (zDp, Tz, zOv, zTu, zHr, zHs, zOw, zOx, zTv, zTw, zTx, zTy, zTz, ()))
def pU (n : Nat) (x18 : Int × List aS × List (Bool) × Bool × List ZLn × List ZFl × Int × Int × Int × List ZBk × List (Bool) × List (List ZLn) × List ZLk × List (Int) × Unit) : Option (List aS × List (Bool) × Bool × List ZLn × List ZFl × Int × Int × Int × List ZBk × List (Bool) × List (List ZLn) × List ZLk × List (Int) × Unit) :=
 let yDi := x18.1
 let Qg := x18.2.1
 let Ua := x18.2.2.1
 let zDq := x18.2.2.2.1
 let zUa := x18.2.2.2.2.1
 let zHt := x18.2.2.2.2.2.1
 let Mj := x18.2.2.2.2.2.2.1
 let Ub := x18.2.2.2.2.2.2.2.1
 let Uc := x18.2.2.2.2.2.2.2.2.1
 let Zg := x18.2.2.2.2.2.2.2.2.2.1
 let Zh := x18.2.2.2.2.2.2.2.2.2.2.1
 let zUb := x18.2.2.2.2.2.2.2.2.2.2.2.1
 let zUc := x18.2.2.2.2.2.2.2.2.2.2.2.2.1
 let zUd := x18.2.2.2.2.2.2.2.2.2.2.2.2.2.1
 br (!zDq) (
  some (Qg, Ua, zDq, zUa, zHt, Mj, Ub, Uc, Zg, Zh, zUb, zUc, zUd, ())) (
  ob (Gj n (Qg, yDi)) fun y33 =>
  let v34 : Int := IntKind.wrap .i64 (y33 + 1)
  fix (Aq n) n (yDi, v34, Qg, Ua, zDq, zUa, zHt, Mj, Ub, Uc, Zg, Zh, zUb, zUc, zUd, ()))
def qW (n : Nat) (x : Int × Int × List aS × List (Bool) × Bool × List ZLn × List ZFl × Int × Int × Int × List ZBk × List (Bool) × List (List ZLn) × List ZLk × List (Int) × Unit) : Option (List aS × List (Bool) × Bool × List ZLn × List ZFl × Int × Int × Int × List ZBk × List (Bool) × List (List ZLn) × List ZLk × List (Int) × Unit) :=
 let i_1 := x.1
 let zDr := x.2.1
 let zXl := x.2.2.1
 let zOy := x.2.2.2.1
 let yFs := x.2.2.2.2.1
 let yHl := x.2.2.2.2.2.1
 let yDj := x.2.2.2.2.2.2.1
 let yDk := x.2.2.2.2.2.2.2.1
 let yFt := x.2.2.2.2.2.2.2.2.1
 let yDl := x.2.2.2.2.2.2.2.2.2.1
 let qH := x.2.2.2.2.2.2.2.2.2.2.1
 let mY := x.2.2.2.2.2.2.2.2.2.2.2.1
 let lZ := x.2.2.2.2.2.2.2.2.2.2.2.2.1
 let mZ := x.2.2.2.2.2.2.2.2.2.2.2.2.2.1
 let yFu := x.2.2.2.2.2.2.2.2.2.2.2.2.2.2.1
 ob (kQ n (i_1, zXl, zOy, yFs, yHl, yDj, yDk, yFt, yDl, qH, mY, lZ, mZ, yFu, ())) fun y16 =>
 br (zDr != 0) (
  chk ((inB i_1 (y16.2.2.2.2.2.2.2.2.2.2.2.2.1.length) && decide (0 + (y16.2.2.2.2.2.2.2.2.2.2.2.2.1.length) <= y16.2.2.2.2.2.2.2.2.2.2.2.2.1.length))) (
   chk (decide (0 + i_1.toNat < y16.2.2.2.2.2.2.2.2.2.2.2.2.1.length)) (
    let r17 : List (Int) := y16.2.2.2.2.2.2.2.2.2.2.2.2.1.set (0 + i_1.toNat) zDr
    jn (pU n) (i_1, y16.1, y16.2.1, y16.2.2.1, y16.2.2.2.1, y16.2.2.2.2.1, y16.2.2.2.2.2.1, y16.2.2.2.2.2.2.1, y16.2.2.2.2.2.2.2.1, y16.2.2.2.2.2.2.2.2.1, y16.2.2.2.2.2.2.2.2.2.1, y16.2.2.2.2.2.2.2.2.2.2.1, y16.2.2.2.2.2.2.2.2.2.2.2.1, r17, ())))) (
  jn (pU n) (i_1, y16.1, y16.2.1, y16.2.2.1, y16.2.2.2.1, y16.2.2.2.2.1, y16.2.2.2.2.2.1, y16.2.2.2.2.2.2.1, y16.2.2.2.2.2.2.2.1, y16.2.2.2.2.2.2.2.2.1, y16.2.2.2.2.2.2.2.2.2.1, y16.2.2.2.2.2.2.2.2.2.2.1, y16.2.2.2.2.2.2.2.2.2.2.2.1, y16.2.2.2.2.2.2.2.2.2.2.2.2.1, ()))
def nS (n : Nat) (x : Int × List aS × List (Bool) × Bool × List ZLn × List ZFl × Int × Int × Int × List ZBk × List (Bool) × List (List ZLn) × List ZLk × List (Int) × Unit) : Option (List aS × List (Bool) × Bool × List ZLn × List ZFl × Int × Int × Int × List ZBk × List (Bool) × List (List ZLn) × List ZLk × List (Int) × Unit) :=
 let i_1 := x.1
 let fD := x.2.1
 let fA := x.2.2.1
 let mX := x.2.2.2.1
 let Kl := x.2.2.2.2.1
 let yZ := x.2.2.2.2.2.1
 let vM := x.2.2.2.2.2.2.1
 let Ab := x.2.2.2.2.2.2.2.1
 let Ac := x.2.2.2.2.2.2.2.2.1
 let bT := x.2.2.2.2.2.2.2.2.2.1
 let qH := x.2.2.2.2.2.2.2.2.2.2.1
 let mY := x.2.2.2.2.2.2.2.2.2.2.2.1
 let lZ := x.2.2.2.2.2.2.2.2.2.2.2.2.1
 let mZ := x.2.2.2.2.2.2.2.2.2.2.2.2.2.1
 chk (inB i_1 fD.length) (
  let v15 : (Bool × List (List lW × Bool × Unit) × List lX × Unit) × Bool × List (List UInt8) × Bool × Unit := dI (Ty.dflt aK) fD i_1
  chk ((inB i_1 (qH.length) && decide (0 + (qH.length) <= qH.length))) (
   chk (decide (0 + i_1.toNat < qH.length)) (
    let r16 : List (Bool) := qH.set (0 + i_1.toNat) true
    br v15.2.2.2.1 (
     ob (qW n (i_1, 1, fD, fA, mX, Kl, yZ, vM, Ab, Ac, bT, r16, mY, lZ, mZ, ())) fun y17 =>
     some (y17.1, y17.2.1, y17.2.2.1, y17.2.2.2.1, y17.2.2.2.2.1, y17.2.2.2.2.2.1, y17.2.2.2.2.2.2.1, y17.2.2.2.2.2.2.2.1, y17.2.2.2.2.2.2.2.2.1, y17.2.2.2.2.2.2.2.2.2.1, y17.2.2.2.2.2.2.2.2.2.2.1, y17.2.2.2.2.2.2.2.2.2.2.2.1, y17.2.2.2.2.2.2.2.2.2.2.2.2.1, ())) (
     ob (qQ n (v15, yZ)) fun y18 =>
     br (decide ((v15.2.2.1.length : Int) > 0)) (
      ob (qP n (v15, [], y18)) fun y19 =>
      chk ((inB i_1 (mY.length) && decide (0 + (mY.length) <= mY.length))) (
       chk (decide (0 + i_1.toNat < mY.length)) (
        let r20 : List (List ZLn) := mY.set (0 + i_1.toNat) y19.1
        chk ((inB i_1 (mZ.length) && decide (0 + (mZ.length) <= mZ.length))) (
         chk (decide (0 + i_1.toNat < mZ.length)) (
          let r21 : List (Int) := mZ.set (0 + i_1.toNat) y19.2
          some (fD, fA, mX, Kl, y18, vM, Ab, Ac, bT, r16, r20, lZ, r21, ())))))) (
      some (fD, fA, mX, Kl, y18, vM, Ab, Ac, bT, r16, mY, lZ, mZ, ()))))))
def Kn (n : Nat) (x : List aS × List (Bool) × Bool × List ZBk × List (Bool) × List (List ZLn) × List ZLk × List ZLn × List ZFl × List (Int) × Int × Int × Int × Unit) : Option (List aS × List (Bool) × Bool × List ZBk × List (Bool) × List (List ZLn) × List ZLk × List ZLn × List ZFl × List (Int) × Int × Int × Int × Unit) :=
 let m_0 := x
 ob (vL n m_0) fun y1 =>
 br (y1 == (-1)) (
  some m_0) (
  ob (qV n (m_0.1, m_0.2.1, m_0.2.2.1, m_0.2.2.2.1, m_0.2.2.2.2.1, m_0.2.2.2.2.2.1, m_0.2.2.2.2.2.2.1, m_0.2.2.2.2.2.2.2.1, m_0.2.2.2.2.2.2.2.2.1, m_0.2.2.2.2.2.2.2.2.2.1, m_0.2.2.2.2.2.2.2.2.2.2.1, m_0.2.2.2.2.2.2.2.2.2.2.2.1, m_0.2.2.2.2.2.2.2.2.2.2.2.2.1, ())) fun y2 =>
  let v3 : Int := IntKind.wrap .i64 (y2.2.2.2.2.2.1 + 1)
  chk ((inB y1 (y2.2.2.2.2.2.2.2.2.2.1.length) && decide (0 + (y2.2.2.2.2.2.2.2.2.2.1.length) <= y2.2.2.2.2.2.2.2.2.2.1.length))) (
   chk (decide (0 + y1.toNat < y2.2.2.2.2.2.2.2.2.2.1.length)) (
    br (!(y2.2.2.2.2.2.2.2.2.2.1.getD (0 + y1.toNat) (Ty.dflt .bool))) (
     ob (nS n (y1, y2.1, y2.2.1, y2.2.2.1, y2.2.2.2.1, y2.2.2.2.2.1, v3, y2.2.2.2.2.2.2.1, y2.2.2.2.2.2.2.2.1, y2.2.2.2.2.2.2.2.2.1, y2.2.2.2.2.2.2.2.2.2.1, y2.2.2.2.2.2.2.2.2.2.2.1, y2.2.2.2.2.2.2.2.2.2.2.2.1, y2.2.2.2.2.2.2.2.2.2.2.2.2.1, ())) fun y4 =>
     some (y4.1, (y4.2.1, (y4.2.2.1, (y4.2.2.2.2.2.2.2.2.1, (y4.2.2.2.2.2.2.2.2.2.1, (y4.2.2.2.2.2.2.2.2.2.2.1, (y4.2.2.2.2.2.2.2.2.2.2.2.1, (y4.2.2.2.1, (y4.2.2.2.2.1, (y4.2.2.2.2.2.2.2.2.2.2.2.2.1, (y4.2.2.2.2.2.1, (y4.2.2.2.2.2.2.1, (y4.2.2.2.2.2.2.2.1, ())))))))))))))) (
     chk ((inB y1 (y2.2.2.2.2.2.2.2.2.1.length) && decide (0 + (y2.2.2.2.2.2.2.2.2.1.length) <= y2.2.2.2.2.2.2.2.2.1.length))) (
      chk (decide (0 + y1.toNat < y2.2.2.2.2.2.2.2.2.1.length)) (
       let v5 : Int := (y2.2.2.2.2.2.2.2.2.1.getD (0 + y1.toNat) (Ty.dflt aB)).1
       br (v5 == 1) (
        none) (
        none)))))))
def Wi (n : Nat) (g0 : Int × Int × List aS × List (Bool) × Bool × List ZBk × List (Bool) × List (List ZLn) × List ZLk × List ZLn × List ZFl × List (Int) × Int × Int × Int × List aS × List (Bool) × Bool × List (Bool) × List (List ZLn) × List ZLk × List ZFl × List (Int) × Int × Int × Int × List ZBk × List ZLn × Unit -> Option ((List aS × List (Bool) × Bool × List ZBk × List (Bool) × List (List ZLn) × List ZLk × List ZLn × List ZFl × List (Int) × Int × Int × Int × Unit) × Int)) (x1 : Int × Int × List aS × List (Bool) × Bool × List ZBk × List (Bool) × List (List ZLn) × List ZLk × List ZLn × List ZFl × List (Int) × Int × Int × Int × List aS × List (Bool) × Bool × List (Bool) × List (List ZLn) × List ZLk × List ZFl × List (Int) × Int × Int × Int × List ZBk × List ZLn × Unit) : Option ((List aS × List (Bool) × Bool × List ZBk × List (Bool) × List (List ZLn) × List ZLk × List ZLn × List ZFl × List (Int) × Int × Int × Int × Unit) × Int) :=
 let zOz := x1.1
 let n_3 := x1.2.1
 let Cz := x1.2.2.1
 let vK := x1.2.2.2.1
 let Tw := x1.2.2.2.2.1
 let Kh := x1.2.2.2.2.2.1
 let Ki := x1.2.2.2.2.2.2.1
 let zDo := x1.2.2.2.2.2.2.2.1
 let Da := x1.2.2.2.2.2.2.2.2.1
 let Tx := x1.2.2.2.2.2.2.2.2.2.1
 let Db := x1.2.2.2.2.2.2.2.2.2.2.1
 let yY := x1.2.2.2.2.2.2.2.2.2.2.2.1
 let Dc := x1.2.2.2.2.2.2.2.2.2.2.2.2.1
 let Kj := x1.2.2.2.2.2.2.2.2.2.2.2.2.2.1
 let Kk := x1.2.2.2.2.2.2.2.2.2.2.2.2.2.2.1
 let zSj := x1.2.2.2.2.2.2.2.2.2.2.2.2.2.2.2.1
 let zLz := x1.2.2.2.2.2.2.2.2.2.2.2.2.2.2.2.2.1
 let yDm := x1.2.2.2.2.2.2.2.2.2.2.2.2.2.2.2.2.2.1
 let zXm := x1.2.2.2.2.2.2.2.2.2.2.2.2.2.2.2.2.2.2.1
 let yFv := x1.2.2.2.2.2.2.2.2.2.2.2.2.2.2.2.2.2.2.2.1
 let zXn := x1.2.2.2.2.2.2.2.2.2.2.2.2.2.2.2.2.2.2.2.2.1
 let zXo := x1.2.2.2.2.2.2.2.2.2.2.2.2.2.2.2.2.2.2.2.2.2.1
 let zSk := x1.2.2.2.2.2.2.2.2.2.2.2.2.2.2.2.2.2.2.2.2.2.2.1
 let Mj := x1.2.2.2.2.2.2.2.2.2.2.2.2.2.2.2.2.2.2.2.2.2.2.2.1
 let Ub := x1.2.2.2.2.2.2.2.2.2.2.2.2.2.2.2.2.2.2.2.2.2.2.2.2.1
 let Uc := x1.2.2.2.2.2.2.2.2.2.2.2.2.2.2.2.2.2.2.2.2.2.2.2.2.2.1
 let Zg := x1.2.2.2.2.2.2.2.2.2.2.2.2.2.2.2.2.2.2.2.2.2.2.2.2.2.2.1
 let Zh := x1.2.2.2.2.2.2.2.2.2.2.2.2.2.2.2.2.2.2.2.2.2.2.2.2.2.2.2.1
 ob (vL n (Cz, (vK, (Tw, (Kh, (Ki, (zDo, (Da, (Tx, (Db, (yY, (Dc, (Kj, (Kk, ())))))))))))))) fun y30 =>
 br (y30 != (-1)) (
  br (decide (n_3 ≥ zOz)) (
   some (([], ([], (false, ([], ([], ([], ([], ([], ([], ([], (0, (0, (0, ()))))))))))))), 4)) (
   ob (Kn n (Cz, (vK, (Tw, (Kh, (Ki, (zDo, (Da, (Tx, (Db, (yY, (Dc, (Kj, (Kk, ())))))))))))))) fun y31 =>
   let v32 : Int := IntKind.wrap .i64 (n_3 + 1)
   g0 (zOz, v32, y31.1, y31.2.1, y31.2.2.1, y31.2.2.2.1, y31.2.2.2.2.1, y31.2.2.2.2.2.1, y31.2.2.2.2.2.2.1, y31.2.2.2.2.2.2.2.1, y31.2.2.2.2.2.2.2.2.1, y31.2.2.2.2.2.2.2.2.2.1, y31.2.2.2.2.2.2.2.2.2.2.1, y31.2.2.2.2.2.2.2.2.2.2.2.1, y31.2.2.2.2.2.2.2.2.2.2.2.2.1, zSj, zLz, yDm, zXm, yFv, zXn, zXo, zSk, Mj, Ub, Uc, Zg, Zh, ()))) (
  some ((Cz, (vK, (Tw, (Kh, (Ki, (zDo, (Da, (Tx, (Db, (yY, (Dc, (Kj, (Kk, ()))))))))))))), 0))
def Gl (n : Nat) (x : (List aS × List (Bool) × Bool × List ZBk × List (Bool) × List (List ZLn) × List ZLk × List ZLn × List ZFl × List (Int) × Int × Int × Int × Unit) × Int) : Option ((List aS × List (Bool) × Bool × List ZBk × List (Bool) × List (List ZLn) × List ZLk × List ZLn × List ZFl × List (Int) × Int × Int × Int × Unit) × Int) :=
 let m_0 := x.1
 let yDn := x.2
 fix (Wi n) n (yDn, 0, m_0.1, m_0.2.1, m_0.2.2.1, m_0.2.2.2.1, m_0.2.2.2.2.1, m_0.2.2.2.2.2.1, m_0.2.2.2.2.2.2.1, m_0.2.2.2.2.2.2.2.1, m_0.2.2.2.2.2.2.2.2.1, m_0.2.2.2.2.2.2.2.2.2.1, m_0.2.2.2.2.2.2.2.2.2.2.1, m_0.2.2.2.2.2.2.2.2.2.2.2.1, m_0.2.2.2.2.2.2.2.2.2.2.2.2.1, [], [], false, [], [], [], [], [], 0, 0, 0, [], [], ())
def bW (n : Nat) (x : List UInt8 × List (Int) × Unit) : Option (Int × Bool × List (Int) × Unit) :=
 let s_1 := x.1
 let yHm := x.2.1
 ob (qF n (yHm, ())) fun y3 =>
 chk (Nat.ble ((y3.1.length + s_1.length) * 1) room) (
  some ((s_1.length : Int), false, y3.1 ++ aR s_1, ()))
def jP (n : Nat) (g0 : List UInt8 × List ZLn × Int × Int × List (Int) × Unit -> Option (List UInt8)) (x1 : List UInt8 × List ZLn × Int × Int × List (Int) × Unit) : Option (List UInt8) :=
 let zUe := x1.1
 let zMa := x1.2.1
 let zSl := x1.2.2.1
 let zDs := x1.2.2.2.1
 let yDo := x1.2.2.2.2.1
 br (decide (zDs < zSl)) (
  chk (inB zDs zMa.length) (
   let v7 : List UInt8 × Bool × Unit := dI (Ty.dflt aO) zMa zDs
   chk (decide (zUe.length + v7.1.length <= Qn)) (
    ob (bW n (zUe ++ v7.1, yDo, ())) fun y8 =>
    br v7.2.1 (
     ob (bW n ([10], y8.2.2.1, ())) fun y9 =>
     let v10 : Int := IntKind.wrap .i64 (zDs + 1)
     g0 ([], zMa, zSl, v10, y9.2.2.1, ())) (
     let v11 : Int := IntKind.wrap .i64 (zDs + 1)
     g0 ([10], zMa, zSl, v11, y8.2.2.1, ()))))) (
  ob (Builder_String n (yDo, ())) fun y12 =>
  some y12.1)
def mE (n : Nat) (x : List ZLn) : Option (List UInt8) :=
 let l_0 := x
 fix (jP n) n ([], l_0, (l_0.length : Int), 0, [], ())
def aH (n : Nat) (g0 : List UInt8 × Int × Bool × Int × List aS × Unit -> Option (Bool)) (x5 : List UInt8 × Int × Bool × Int × List aS × Unit) : Option (Bool) :=
 let zSm := x5.1
 let n_7 := x5.2.1
 let zPa := x5.2.2.1
 let i_9 := x5.2.2.2.1
 let bT := x5.2.2.2.2.1
 chk ((!decide (20 = 0))) (
  let v11 : Int := Int.tmod (IntKind.wrap .i64 n_7) 20
  br (decide (i_9 < v11)) (
   chk (Nat.ble ((bT.length + ([((false, ([], ([], ()))), (false, ([], (true, ()))))] : List aS).length) * 96) room) (
    let r12 : List aS := bT ++ [((false, ([], ([], ()))), (false, ([], (true, ()))))]
    let v13 : Int := IntKind.wrap .i64 (i_9 + 1)
    g0 (zSm, n_7, zPa, v13, r12, ()))) (
   ob (yV n (bT, zSm, [], zPa)) fun y14 =>
   br (decide ((bT.length : Int) > 8)) (
    br (y14.2 == 2) (
     some ((y14.1.1.length : Int) == 0)) (
     some false)) (
    ob (Gl n (y14.1, 8)) fun y15 =>
    br (y14.2 != 0) (
     some false) (
     br (y15.2 != 0) (
      some false) (
      let v16 := y15.1.2.2.2.2.2.2.2.2.2.1
      br ((v16.length : Int) != (bT.length : Int)) (
       some false) (
       br ((bT.length : Int) == 0) (
        ob (mE n y15.1.2.2.2.2.2.2.2.1) fun y17 =>
        br (y17 == zSm) (
         some true) (
         br (decide ((bT.length : Int) > 0)) (
          ob (mE n y15.1.2.2.2.2.2.2.2.1) fun y18 =>
          br (y18 == []) (
           let v19 := y15.1.2.2.2.2.2.2.2.2.2.1
           let v20 : Int := IntKind.wrap .i64 ((bT.length : Int) - 1)
           chk (inB v20 v19.length) (
            let v21 : Int := dI (Ty.dflt (.int .i64)) v19 v20
            some (v21 == 1))) (
           some false)) (
          some false))) (
        br (decide ((bT.length : Int) > 0)) (
         ob (mE n y15.1.2.2.2.2.2.2.2.1) fun y22 =>
         br (y22 == []) (
          let v23 := y15.1.2.2.2.2.2.2.2.2.2.1
          let v24 : Int := IntKind.wrap .i64 ((bT.length : Int) - 1)
          chk (inB v24 v23.length) (
           let v25 : Int := dI (Ty.dflt (.int .i64)) v23 v24
           some (v25 == 1))) (
          some false)) (
         some false))))))))
def oN (n : Nat) (x : List UInt8 × Int × Bool) : Option (Bool) :=
 let yDp := x.1
 let n_1 := x.2.1
 let yDq := x.2.2
 br (decide ((yDp.length : Int) > 300)) (
  ob (shown20 n ()) fun y1 =>
  some y1) (
  ob (shown20 n ()) fun y2 =>
  br (!y2) (
   ob (shown20 n ()) fun y3 =>
   some y3) (
   chk ((decide (0 <= 0) && (decide (0 = 0) && Nat.ble ((0 : Int).toNat * 96) room))) (
    let r4 : List aS := List.replicate (0 : Int).toNat ((false, ([], ([], ()))), (false, ([], (false, ()))))
    fix (aH n) n (yDp, n_1, yDq, 0, r4, ()))))
end Go.Dec
