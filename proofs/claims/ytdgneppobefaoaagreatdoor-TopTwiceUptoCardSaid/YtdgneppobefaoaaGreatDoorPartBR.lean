/- Part of a proof over this seat: a library of my own, and what it says of this seat. No statement is proved here. -/
import Derived.Test.YtdgneppobefaoaaGreatDoorPartAJ
import Derived.Test.YtdgneppobefaoaaGreatDoorPartBQ
import Derived.Test.YtdgneppobefaoaaGreatDoorPartBO
namespace Go.Dec
noncomputable section
set_option linter.unusedVariables false
abbrev ZLn:Type:=List UInt8 × Bool × Unit
abbrev ZLk:Type:=List UInt8 × Bool × Bool × Unit
abbrev ZFl:Type:=List UInt8 × List UInt8 × Unit
abbrev ZBk:Type:=Int × Int × Int × Int × Int × List UInt8 × List UInt8 × Bool × Bool × Bool × List (Bool × Int × Unit) × List ZLn × Unit
abbrev aD:Ty:=.pair .str (.pair .bool .unit)
abbrev Ee:Ty:=.pair (.int .i64) (.pair (.arr 4 (.int .u64)) (.pair (.int .i64) (.pair (.int .i64) (.pair (.int .i64) (.pair (.int .i64) (.pair (.int .i64) .unit))))))
abbrev aK:Ty:=.pair (.slice Ee) (.pair .bool .unit)
abbrev wI:Ty:=.pair (.int .i64) (.pair (.int .i64) (.pair (.int .i64) .unit))
abbrev Kg:Ty:=.pair wI (.pair wI (.pair .bool .unit))
abbrev Uy:Ty:=.pair .str (.pair (.int .i64) .unit)
abbrev aC:Ty:=.pair Kg (.pair (.int .u8) (.pair .str (.pair .str (.pair (.int .i64) (.pair (.int .i64) (.pair (.int .i64) (.pair (.slice Uy) (.pair .bool (.pair .bool .unit)))))))))
abbrev tQ:Ty:=.pair .bool (.pair (.slice aK) (.pair (.slice aC) .unit))
abbrev aP:Ty:=.pair .str (.pair .str .unit)
abbrev uJ:Ty:=.pair .str (.pair (.slice aP) (.pair (.slice (.int .i64)) (.pair (.int .i64) (.pair (.int .i64) .unit))))
abbrev aG:Ty:=.pair tQ (.pair .bool (.pair (.slice .str) (.pair .bool .unit)))
abbrev fV:Ty:=.pair .bool (.pair (.int .i64) .unit)
abbrev aA:Ty:=.pair (.int .i64) (.pair (.int .i64) (.pair (.int .i64) (.pair (.int .i64) (.pair (.int .i64) (.pair .str (.pair .str (.pair .bool (.pair .bool (.pair .bool (.pair (.slice fV) (.pair (.slice aD) .unit)))))))))))
abbrev aO:Ty:=.pair .str (.pair .bool (.pair .bool .unit))
abbrev gG:Ty:=.pair (.slice aG) (.pair (.slice .bool) (.pair .bool (.pair (.slice aA) (.pair (.slice .bool) (.pair (.slice (.slice aD)) (.pair (.slice aO) (.pair (.slice aD) (.pair (.slice aP) (.pair (.slice (.int .i64)) wI)))))))))
abbrev zPa:Ty:=.pair aA (.pair tQ (.pair .bool (.pair (.slice aP) (.pair (.slice aD) .unit))))
abbrev yFe:Ty:=.pair (.int .i64) (.pair .bool (.pair (.slice .bool) .unit))
def wJ (n : Nat) (x : Bool × List (List dD × Bool × Unit) × List cZ × Bool × List (List UInt8) × Bool × Bool × List (List dD × Bool × Unit) × List cZ × Bool × List (List UInt8) × Bool × Unit) : Option (Bool × Bool × List (List dD × Bool × Unit) × List cZ × Bool × List (List UInt8) × Bool × Unit) :=
 let a_1 := x.1
 let a_2 := x.2.1
 let a_3 := x.2.2.1
 let a_4 := x.2.2.2.1
 let a_5 := x.2.2.2.2.1
 let a_6 := x.2.2.2.2.2.1
 let zYc := x.2.2.2.2.2.2.1
 let yDn := x.2.2.2.2.2.2.2.1
 let yDo := x.2.2.2.2.2.2.2.2.1
 let zQi := x.2.2.2.2.2.2.2.2.2.1
 let zQj := x.2.2.2.2.2.2.2.2.2.2.1
 let yDp := x.2.2.2.2.2.2.2.2.2.2.2.1
 ob (wH n (((a_1, (a_2, (a_3, ()))), (a_4, (a_5, (a_6, ())))), ((zYc, (yDn, (yDo, ()))), (zQi, (zQj, (yDp, ())))))) fun y13 =>
 some (y13, zYc, yDn, yDo, zQi, zQj, yDp, ())
def lZ (n : Nat) (g0 : List aY × Int × Int × Bool × List (List dD × Bool × Unit) × List cZ × Bool × List (List UInt8) × Bool × Unit -> Option (Int × Bool × List (List dD × Bool × Unit) × List cZ × Bool × List (List UInt8) × Bool × Unit)) (x8 : List aY × Int × Int × Bool × List (List dD × Bool × Unit) × List cZ × Bool × List (List UInt8) × Bool × Unit) : Option (Int × Bool × List (List dD × Bool × Unit) × List cZ × Bool × List (List UInt8) × Bool × Unit) :=
 let s_9 := x8.1
 let yDq := x8.2.1
 let zBs := x8.2.2.1
 let Uz := x8.2.2.2.1
 let zBt := x8.2.2.2.2.1
 let zBu := x8.2.2.2.2.2.1
 let Va := x8.2.2.2.2.2.2.1
 let zQk := x8.2.2.2.2.2.2.2.1
 let yDr := x8.2.2.2.2.2.2.2.2.1
 br (decide (zBs < yDq)) (
  chk (inB zBs s_9.length) (
   let v18 : (Bool × List (List dD × Bool × Unit) × List cZ × Unit) × Bool × List (List UInt8) × Bool × Unit := bV (Ty.dflt aG) s_9 zBs
   ob (wJ n (v18.1.1, v18.1.2.1, v18.1.2.2.1, v18.2.1, v18.2.2.1, v18.2.2.2.1, Uz, zBt, zBu, Va, zQk, yDr, ())) fun y19 =>
   br y19.1 (
    some (zBs, y19.2.1, y19.2.2.1, y19.2.2.2.1, y19.2.2.2.2.1, y19.2.2.2.2.2.1, y19.2.2.2.2.2.2.1, ())) (
    let v20 : Int := IntKind.wrap .i64 (zBs + 1)
    g0 (s_9, yDq, v20, y19.2.1, y19.2.2.1, y19.2.2.2.1, y19.2.2.2.2.1, y19.2.2.2.2.2.1, y19.2.2.2.2.2.2.1, ())))) (
  some ((-1), Uz, zBt, zBu, Va, zQk, yDr, ()))
def eD (n : Nat) (x : List aY × Bool × List (List dD × Bool × Unit) × List cZ × Bool × List (List UInt8) × Bool × Unit) : Option (Int × Bool × List (List dD × Bool × Unit) × List cZ × Bool × List (List UInt8) × Bool × Unit) :=
 let s_1 := x.1
 let zMf := x.2.1
 let zUz := x.2.2.1
 let zVa := x.2.2.2.1
 let zMg := x.2.2.2.2.1
 let zMh := x.2.2.2.2.2.1
 let yCb := x.2.2.2.2.2.2.1
 fix (lZ n) n (s_1, (s_1.length : Int), 0, zMf, zUz, zVa, zMg, zMh, yCb, ())
def dR (n : Nat) (x : List aY × Bool × List (List dD × Bool × Unit) × List cZ × Bool × List (List UInt8) × Bool × Unit) : Option (Bool × Bool × List (List dD × Bool × Unit) × List cZ × Bool × List (List UInt8) × Bool × Unit) :=
 let s_1 := x.1
 let zMf := x.2.1
 let zUz := x.2.2.1
 let zVa := x.2.2.2.1
 let zMg := x.2.2.2.2.1
 let zMh := x.2.2.2.2.2.1
 let yCb := x.2.2.2.2.2.2.1
 ob (eD n (s_1, zMf, zUz, zVa, zMg, zMh, yCb, ())) fun y8 =>
 some ((decide (y8.1 ≥ 0)), y8.2.1, y8.2.2.1, y8.2.2.2.1, y8.2.2.2.2.1, y8.2.2.2.2.2.1, y8.2.2.2.2.2.2.1, ())
def Pw (n : Nat) (g0 : List aY × List aY × Int × Int × List (Bool) × Unit -> Option (List (Bool))) (x2 : List aY × List aY × Int × Int × List (Bool) × Unit) : Option (List (Bool)) :=
 let l_3 := x2.1
 let yCc := x2.2.1
 let yDs := x2.2.2.1
 let yT := x2.2.2.2.1
 let zEs := x2.2.2.2.2.1
 br (decide (yT < yDs)) (
  chk (inB yT yCc.length) (
   let v8 : (Bool × List (List dD × Bool × Unit) × List cZ × Unit) × Bool × List (List UInt8) × Bool × Unit := bV (Ty.dflt aG) yCc yT
   chk ((decide (0 <= yT) && decide (yT <= (l_3.length : Int)))) (
    ob (dR n (l_3.take yT.toNat, v8.1.1, v8.1.2.1, v8.1.2.2.1, v8.2.1, v8.2.2.1, v8.2.2.2.1, ())) fun y9 =>
    chk ((inB yT (zEs.length) && decide (0 + (zEs.length) <= zEs.length))) (
     chk (decide (0 + yT.toNat < zEs.length)) (
      let r10 : List (Bool) := zEs.set (0 + yT.toNat) y9.1
      let v11 : Int := IntKind.wrap .i64 (yT + 1)
      g0 (l_3, yCc, yDs, v11, r10, ())))))) (
  some zEs)
def Ah (n : Nat) (x : List aY) : Option (List (Bool)) :=
 let l_0 := x
 chk ((decide (0 <= (l_0.length : Int)) && (decide ((l_0.length : Int) = (l_0.length : Int)) && Nat.ble ((l_0.length : Int).toNat * 1) room))) (
  let r1 : List (Bool) := List.replicate (l_0.length : Int).toNat false
  fix (Pw n) n (l_0, l_0, (l_0.length : Int), 0, r1, ()))
def Yl (n : Nat) (x : Bool × List (List dD × Bool × Unit) × List cZ × Unit) : Option (Int × Int × Int × Int × Int × List UInt8 × List UInt8 × Bool × Bool × Bool × List (Bool × Int × Unit) × List ZLn × Unit) :=
 let x_0 := x
 chk ((decide (0 <= (x_0.2.2.1.length : Int)) && (decide ((x_0.2.2.1.length : Int) = (x_0.2.2.1.length : Int)) && Nat.ble ((x_0.2.2.1.length : Int).toNat * 16) room))) (
  let r1 : List (Bool × Int × Unit) := List.replicate (x_0.2.2.1.length : Int).toNat (false, (0, ()))
  some (0, (0, (0, (0, ((-1), ([], ([], (false, (false, (false, (r1, ([], ())))))))))))))
def zEt (n : Nat) (g1 : List ZLn × Int × Int × List aY × List (Bool) × Bool × List (Bool) × List (List ZLn) × List ZLk × List ZFl × List (Int) × Int × Int × Int × List aY × List (Bool) × Bool × List (Bool) × List (List ZLn) × List ZFl × List (Int) × Int × Int × Int × List ZBk × List ZLn × List ZBk × List ZLk × List ZLn × Unit -> Option ((List aY × List (Bool) × Bool × List ZBk × List (Bool) × List (List ZLn) × List ZLk × List ZLn × List ZFl × List (Int) × Int × Int × Int × Unit) × Int)) (x43 : List ZLn × Int × Int × List aY × List (Bool) × Bool × List (Bool) × List (List ZLn) × List ZLk × List ZFl × List (Int) × Int × Int × Int × List aY × List (Bool) × Bool × List (Bool) × List (List ZLn) × List ZFl × List (Int) × Int × Int × Int × List ZBk × List ZLn × List ZBk × List ZLk × List ZLn × Unit) : Option ((List aY × List (Bool) × Bool × List ZBk × List (Bool) × List (List ZLn) × List ZLk × List ZLn × List ZFl × List (Int) × Int × Int × Int × Unit) × Int) :=
 let zMi := x43.1
 let zYd := x43.2.1
 let zBv := x43.2.2.1
 let yCd := x43.2.2.2.1
 let zVb := x43.2.2.2.2.1
 let yIu := x43.2.2.2.2.2.1
 let yFf := x43.2.2.2.2.2.2.1
 let yKy := x43.2.2.2.2.2.2.2.1
 let yFg := x43.2.2.2.2.2.2.2.2.1
 let yFh := x43.2.2.2.2.2.2.2.2.2.1
 let yCe := x43.2.2.2.2.2.2.2.2.2.2.1
 let yFi := x43.2.2.2.2.2.2.2.2.2.2.2.1
 let yIv := x43.2.2.2.2.2.2.2.2.2.2.2.2.1
 let yIw := x43.2.2.2.2.2.2.2.2.2.2.2.2.2.1
 let zMj := x43.2.2.2.2.2.2.2.2.2.2.2.2.2.2.1
 let zBw := x43.2.2.2.2.2.2.2.2.2.2.2.2.2.2.2.1
 let zYe := x43.2.2.2.2.2.2.2.2.2.2.2.2.2.2.2.2.1
 let zQl := x43.2.2.2.2.2.2.2.2.2.2.2.2.2.2.2.2.2.1
 let yDt := x43.2.2.2.2.2.2.2.2.2.2.2.2.2.2.2.2.2.2.1
 let zQm := x43.2.2.2.2.2.2.2.2.2.2.2.2.2.2.2.2.2.2.2.1
 let zMk := x43.2.2.2.2.2.2.2.2.2.2.2.2.2.2.2.2.2.2.2.2.1
 let Vb := x43.2.2.2.2.2.2.2.2.2.2.2.2.2.2.2.2.2.2.2.2.2.1
 let zBx := x43.2.2.2.2.2.2.2.2.2.2.2.2.2.2.2.2.2.2.2.2.2.2.1
 let zBy := x43.2.2.2.2.2.2.2.2.2.2.2.2.2.2.2.2.2.2.2.2.2.2.2.1
 let zVc := x43.2.2.2.2.2.2.2.2.2.2.2.2.2.2.2.2.2.2.2.2.2.2.2.2.1
 let zVd := x43.2.2.2.2.2.2.2.2.2.2.2.2.2.2.2.2.2.2.2.2.2.2.2.2.2.1
 let zIk := x43.2.2.2.2.2.2.2.2.2.2.2.2.2.2.2.2.2.2.2.2.2.2.2.2.2.2.1
 let Hf := x43.2.2.2.2.2.2.2.2.2.2.2.2.2.2.2.2.2.2.2.2.2.2.2.2.2.2.2.1
 let zBz := x43.2.2.2.2.2.2.2.2.2.2.2.2.2.2.2.2.2.2.2.2.2.2.2.2.2.2.2.2.1
 br (decide (zBv < zYd)) (
  chk (inB zBv zMi.length) (
   let v73 : List UInt8 × Bool × Unit := bV (Ty.dflt aD) zMi zBv
   chk (Nat.ble ((zBz.length + ([v73] : List ZLn).length) * 24) room) (
    let v74 : Int := IntKind.wrap .i64 (zBv + 1)
    g1 (zMi, zYd, v74, yCd, zVb, yIu, yFf, yKy, yFg, yFh, yCe, yFi, yIv, yIw, zMj, zBw, zYe, zQl, yDt, zQm, zMk, Vb, zBx, zBy, zVc, zVd, zIk, Hf, zBz ++ [v73], ())))) (
  some ((zMj, (zBw, (zYe, (zIk, (zQl, (yDt, (Hf, (zBz, (zQm, (zMk, (Vb, (zBx, (zBy, ()))))))))))))), 0))
def zEu (n : Nat) (g0 : List aY × List UInt8 × List aY × Int × Int × List aY × List (Bool) × Bool × List (Bool) × List (List ZLn) × List ZLk × List ZFl × List (Int) × Int × Int × Int × List aY × List (Bool) × Bool × List (Bool) × List (List ZLn) × List ZFl × List (Int) × Int × Int × Int × List ZBk × List ZLn × List ZBk × List ZLk × List ZLn × Unit -> Option ((List aY × List (Bool) × Bool × List ZBk × List (Bool) × List (List ZLn) × List ZLk × List ZLn × List ZFl × List (Int) × Int × Int × Int × Unit) × Int)) (x6 : List aY × List UInt8 × List aY × Int × Int × List aY × List (Bool) × Bool × List (Bool) × List (List ZLn) × List ZLk × List ZFl × List (Int) × Int × Int × Int × List aY × List (Bool) × Bool × List (Bool) × List (List ZLn) × List ZFl × List (Int) × Int × Int × Int × List ZBk × List ZLn × List ZBk × List ZLk × List ZLn × Unit) : Option ((List aY × List (Bool) × Bool × List ZBk × List (Bool) × List (List ZLn) × List ZLk × List ZLn × List ZFl × List (Int) × Int × Int × Int × Unit) × Int) :=
 let l_7 := x6.1
 let zVe := x6.2.1
 let zVf := x6.2.2.1
 let zYf := x6.2.2.2.1
 let zCa := x6.2.2.2.2.1
 let zMl := x6.2.2.2.2.2.1
 let zCb := x6.2.2.2.2.2.2.1
 let zYg := x6.2.2.2.2.2.2.2.1
 let zQn := x6.2.2.2.2.2.2.2.2.1
 let yDu := x6.2.2.2.2.2.2.2.2.2.1
 let zQo := x6.2.2.2.2.2.2.2.2.2.2.1
 let zQp := x6.2.2.2.2.2.2.2.2.2.2.2.1
 let zMm := x6.2.2.2.2.2.2.2.2.2.2.2.2.1
 let zQq := x6.2.2.2.2.2.2.2.2.2.2.2.2.2.1
 let zYh := x6.2.2.2.2.2.2.2.2.2.2.2.2.2.2.1
 let zYi := x6.2.2.2.2.2.2.2.2.2.2.2.2.2.2.2.1
 let Ym := x6.2.2.2.2.2.2.2.2.2.2.2.2.2.2.2.2.1
 let Oa := x6.2.2.2.2.2.2.2.2.2.2.2.2.2.2.2.2.2.1
 let zMn := x6.2.2.2.2.2.2.2.2.2.2.2.2.2.2.2.2.2.2.1
 let zEv := x6.2.2.2.2.2.2.2.2.2.2.2.2.2.2.2.2.2.2.2.1
 let zVg := x6.2.2.2.2.2.2.2.2.2.2.2.2.2.2.2.2.2.2.2.2.1
 let zEw := x6.2.2.2.2.2.2.2.2.2.2.2.2.2.2.2.2.2.2.2.2.2.1
 let Yn := x6.2.2.2.2.2.2.2.2.2.2.2.2.2.2.2.2.2.2.2.2.2.2.1
 let zEx := x6.2.2.2.2.2.2.2.2.2.2.2.2.2.2.2.2.2.2.2.2.2.2.2.1
 let zMo := x6.2.2.2.2.2.2.2.2.2.2.2.2.2.2.2.2.2.2.2.2.2.2.2.2.1
 let zMp := x6.2.2.2.2.2.2.2.2.2.2.2.2.2.2.2.2.2.2.2.2.2.2.2.2.2.1
 let uK := x6.2.2.2.2.2.2.2.2.2.2.2.2.2.2.2.2.2.2.2.2.2.2.2.2.2.2.1
 let Cm := x6.2.2.2.2.2.2.2.2.2.2.2.2.2.2.2.2.2.2.2.2.2.2.2.2.2.2.2.1
 let zIl := x6.2.2.2.2.2.2.2.2.2.2.2.2.2.2.2.2.2.2.2.2.2.2.2.2.2.2.2.2.1
 let Oc := x6.2.2.2.2.2.2.2.2.2.2.2.2.2.2.2.2.2.2.2.2.2.2.2.2.2.2.2.2.2.1
 let zVh := x6.2.2.2.2.2.2.2.2.2.2.2.2.2.2.2.2.2.2.2.2.2.2.2.2.2.2.2.2.2.2.1
 br (decide (zCa < zYf)) (
  chk (inB zCa zVf.length) (
   let v38 : (Bool × List (List dD × Bool × Unit) × List cZ × Unit) × Bool × List (List UInt8) × Bool × Unit := bV (Ty.dflt aG) zVf zCa
   ob (Yl n v38.1) fun y39 =>
   chk (Nat.ble ((zIl.length + ([y39] : List ZBk).length) * 128) room) (
    let v40 : Int := IntKind.wrap .i64 (zCa + 1)
    g0 (l_7, zVe, zVf, zYf, v40, zMl, zCb, zYg, zQn, yDu, zQo, zQp, zMm, zQq, zYh, zYi, Ym, Oa, zMn, zEv, zVg, zEw, Yn, zEx, zMo, zMp, uK, Cm, zIl ++ [y39], Oc, zVh, ())))) (
  br (decide ((l_7.length : Int) > 0)) (
   chk ((inB 0 (Oc.length) && decide (0 + (Oc.length) <= Oc.length))) (
    chk (decide (0 + (0 : Int).toNat < Oc.length)) (
     let r41 : List ZLk := Oc.set (0 + (0 : Int).toNat) (zVe, (false, (true, ())))
     some ((Ym, (Oa, (zMn, (zIl, (zEv, (zVg, (r41, (zVh, (zEw, (Yn, (zEx, (zMo, (zMp, ()))))))))))))), 0)))) (
   ob (jC n zVe) fun y42 =>
   fix (zEt n) n (y42, (y42.length : Int), 0, zMl, zCb, zYg, zQn, yDu, zQo, zQp, zMm, zQq, zYh, zYi, Ym, Oa, zMn, zEv, zVg, zEw, Yn, zEx, zMo, zMp, uK, Cm, zIl, Oc, zVh, ())))
def Ef (n : Nat) (x : List aY × List UInt8 × List ZFl × Bool) : Option ((List aY × List (Bool) × Bool × List ZBk × List (Bool) × List (List ZLn) × List ZLk × List ZLn × List ZFl × List (Int) × Int × Int × Int × Unit) × Int) :=
 let l_0 := x.1
 let zEy := x.2.1
 let t_2 := x.2.2.1
 let zMq := x.2.2.2
 br (decide ((l_0.length : Int) > 8)) (
  some (([], ([], (false, ([], ([], ([], ([], ([], ([], ([], (0, (0, (0, ()))))))))))))), 2)) (
  ob (Ah n l_0) fun y1 =>
  chk ((decide (0 <= (l_0.length : Int)) && (decide ((l_0.length : Int) = (l_0.length : Int)) && Nat.ble ((l_0.length : Int).toNat * 1) room))) (
   let v2 : List (Bool) := List.replicate (l_0.length : Int).toNat false
   chk ((decide (0 <= (l_0.length : Int)) && (decide ((l_0.length : Int) = (l_0.length : Int)) && Nat.ble ((l_0.length : Int).toNat * 24) room))) (
    let v3 : List (List ZLn) := List.replicate (l_0.length : Int).toNat []
    chk ((decide (0 <= (l_0.length : Int)) && (decide ((l_0.length : Int) = (l_0.length : Int)) && Nat.ble ((l_0.length : Int).toNat * 24) room))) (
     let r4 : List ZLk := List.replicate (l_0.length : Int).toNat ([], (false, (false, ())))
     chk ((decide (0 <= (l_0.length : Int)) && (decide ((l_0.length : Int) = (l_0.length : Int)) && Nat.ble ((l_0.length : Int).toNat * 8) room))) (
      let v5 : List (Int) := List.replicate (l_0.length : Int).toNat 0
      fix (zEu n) n (l_0, zEy, l_0, (l_0.length : Int), 0, [], [], false, [], [], [], [], [], 0, 0, 0, l_0, y1, zMq, v2, v3, t_2, v5, 0, 0, 0, [], [], [], r4, [], ()))))))
def sM (n : Nat) (x : Int × List aY × List (Bool) × Bool × List ZBk × List (Bool) × List (List ZLn) × List ZLk × List ZLn × List ZFl × List (Int) × Int × Int × Int × Unit) : Option (Bool × List aY × List (Bool) × Bool × List ZBk × List (Bool) × List (List ZLn) × List ZLk × List ZLn × List ZFl × List (Int) × Int × Int × Int × Unit) :=
 let i_1 := x.1
 let bY := x.2.1
 let dA := x.2.2.1
 let iO := x.2.2.2.1
 let Sg := x.2.2.2.2.1
 let zMr := x.2.2.2.2.2.1
 let yCf := x.2.2.2.2.2.2.1
 let zMs := x.2.2.2.2.2.2.2.1
 let yCg := x.2.2.2.2.2.2.2.2.1
 let zEz := x.2.2.2.2.2.2.2.2.2.1
 let Yo := x.2.2.2.2.2.2.2.2.2.2.1
 let zFa := x.2.2.2.2.2.2.2.2.2.2.2.1
 let zMt := x.2.2.2.2.2.2.2.2.2.2.2.2.1
 let zMu := x.2.2.2.2.2.2.2.2.2.2.2.2.2.1
 chk (inB i_1 Sg.length) (
  let v15 : Int × Int × Int × Int × Int × List UInt8 × List UInt8 × Bool × Bool × Bool × List (Bool × Int × Unit) × List ZLn × Unit := bV (Ty.dflt aA) Sg i_1
  some ((v15.1 == 4), bY, dA, iO, Sg, zMr, yCf, zMs, yCg, zEz, Yo, zFa, zMt, zMu, ()))
def nM (n : Nat) (x : List UInt8 × Bool × Bool × Unit) : Option ((List UInt8 × Bool × Bool × Unit) × (List UInt8 × Bool × Unit) × Bool × Bool) :=
 let k_0 := x
 ob (strings_Cut n (k_0.1, [10])) fun y1 =>
 br (y1.2.1 == []) (
  br (!k_0.2.2.1) (
   some (k_0, ([], (false, ())), false, false)) (
   br (k_0.1 == []) (
    some (k_0, ([], (false, ())), false, false)) (
    some ((y1.2.1, k_0.2), (y1.1, (y1.2.2, ())), (y1.2.1 == []), true)))) (
  br (k_0.1 == []) (
   some (k_0, ([], (false, ())), false, false)) (
   some ((y1.2.1, k_0.2), (y1.1, (y1.2.2, ())), (y1.2.1 == []), true)))
def rU (n : Nat) (x : List UInt8 × Bool × Bool × Unit) : Option ((List UInt8 × Bool × Unit) × Bool × Bool) :=
 let k_0 := x
 ob (nM n k_0) fun y1 =>
 some (y1.2.1, y1.2.2.1, y1.2.2.2)
def Cn (n : Nat) (x : List UInt8 × Bool × Bool × Unit) : Option (Bool) :=
 let k_0 := x
 br k_0.2.2.1 (
  some (k_0.1 == [])) (
  some false)
def oF (n : Nat) (x : Int × List aY × List (Bool) × Bool × List ZBk × List (Bool) × List (List ZLn) × List ZLk × List ZLn × List ZFl × List (Int) × Int × Int × Int × Unit) : Option (Bool × List aY × List (Bool) × Bool × List ZBk × List (Bool) × List (List ZLn) × List ZLk × List ZLn × List ZFl × List (Int) × Int × Int × Int × Unit) :=
 let i_1 := x.1
 let bY := x.2.1
 let dA := x.2.2.1
 let iO := x.2.2.2.1
 let Sg := x.2.2.2.2.1
 let zMr := x.2.2.2.2.2.1
 let yCf := x.2.2.2.2.2.2.1
 let zMs := x.2.2.2.2.2.2.2.1
 let yCg := x.2.2.2.2.2.2.2.2.1
 let zEz := x.2.2.2.2.2.2.2.2.2.1
 let Yo := x.2.2.2.2.2.2.2.2.2.2.1
 let zFa := x.2.2.2.2.2.2.2.2.2.2.2.1
 let zMt := x.2.2.2.2.2.2.2.2.2.2.2.2.1
 let zMu := x.2.2.2.2.2.2.2.2.2.2.2.2.2.1
 chk (inB i_1 bY.length) (
  let v15 : (Bool × List (List dD × Bool × Unit) × List cZ × Unit) × Bool × List (List UInt8) × Bool × Unit := bV (Ty.dflt aG) bY i_1
  ob (sM n (i_1, bY, dA, iO, Sg, zMr, yCf, zMs, yCg, zEz, Yo, zFa, zMt, zMu, ())) fun y16 =>
  br y16.1 (
   some (false, y16.2.1, y16.2.2.1, y16.2.2.2.1, y16.2.2.2.2.1, y16.2.2.2.2.2.1, y16.2.2.2.2.2.2.1, y16.2.2.2.2.2.2.2.1, y16.2.2.2.2.2.2.2.2.1, y16.2.2.2.2.2.2.2.2.2.1, y16.2.2.2.2.2.2.2.2.2.2.1, y16.2.2.2.2.2.2.2.2.2.2.2.1, y16.2.2.2.2.2.2.2.2.2.2.2.2.1, y16.2.2.2.2.2.2.2.2.2.2.2.2.2.1, ())) (
   chk (inB i_1 y16.2.2.2.2.2.1.length) (
    let v17 : Bool := bV (Ty.dflt .bool) y16.2.2.2.2.2.1 i_1
    br (!v17) (
     br v15.2.2.2.1 (
      some (true, y16.2.1, y16.2.2.1, y16.2.2.2.1, y16.2.2.2.2.1, y16.2.2.2.2.2.1, y16.2.2.2.2.2.2.1, y16.2.2.2.2.2.2.2.1, y16.2.2.2.2.2.2.2.2.1, y16.2.2.2.2.2.2.2.2.2.1, y16.2.2.2.2.2.2.2.2.2.2.1, y16.2.2.2.2.2.2.2.2.2.2.2.1, y16.2.2.2.2.2.2.2.2.2.2.2.2.1, y16.2.2.2.2.2.2.2.2.2.2.2.2.2.1, ())) (
      chk (inB i_1 y16.2.2.1.length) (
       let v18 : Bool := bV (Ty.dflt .bool) y16.2.2.1 i_1
       br (!v18) (
        some (true, y16.2.1, y16.2.2.1, y16.2.2.2.1, y16.2.2.2.2.1, y16.2.2.2.2.2.1, y16.2.2.2.2.2.2.1, y16.2.2.2.2.2.2.2.1, y16.2.2.2.2.2.2.2.2.1, y16.2.2.2.2.2.2.2.2.2.1, y16.2.2.2.2.2.2.2.2.2.2.1, y16.2.2.2.2.2.2.2.2.2.2.2.1, y16.2.2.2.2.2.2.2.2.2.2.2.2.1, y16.2.2.2.2.2.2.2.2.2.2.2.2.2.1, ())) (
        none)))) (
     chk (inB i_1 y16.2.2.2.2.1.length) (
      let v19 : Int × Int × Int × Int × Int × List UInt8 × List UInt8 × Bool × Bool × Bool × List (Bool × Int × Unit) × List ZLn × Unit := bV (Ty.dflt aA) y16.2.2.2.2.1 i_1
      br (v19.1 == 1) (
       some (true, y16.2.1, y16.2.2.1, y16.2.2.2.1, y16.2.2.2.2.1, y16.2.2.2.2.2.1, y16.2.2.2.2.2.2.1, y16.2.2.2.2.2.2.2.1, y16.2.2.2.2.2.2.2.2.1, y16.2.2.2.2.2.2.2.2.2.1, y16.2.2.2.2.2.2.2.2.2.2.1, y16.2.2.2.2.2.2.2.2.2.2.2.1, y16.2.2.2.2.2.2.2.2.2.2.2.2.1, y16.2.2.2.2.2.2.2.2.2.2.2.2.2.1, ())) (
       br (decide ((v15.2.2.1.length : Int) > 0)) (
        some (true, y16.2.1, y16.2.2.1, y16.2.2.2.1, y16.2.2.2.2.1, y16.2.2.2.2.2.1, y16.2.2.2.2.2.2.1, y16.2.2.2.2.2.2.2.1, y16.2.2.2.2.2.2.2.2.1, y16.2.2.2.2.2.2.2.2.2.1, y16.2.2.2.2.2.2.2.2.2.2.1, y16.2.2.2.2.2.2.2.2.2.2.2.1, y16.2.2.2.2.2.2.2.2.2.2.2.2.1, y16.2.2.2.2.2.2.2.2.2.2.2.2.2.1, ())) (
        chk (inB i_1 y16.2.2.2.2.2.2.2.1.length) (
         let v20 : List UInt8 × Bool × Bool × Unit := bV (Ty.dflt aO) y16.2.2.2.2.2.2.2.1 i_1
         ob (rU n v20) fun y21 =>
         br y21.2.2 (
          some (true, y16.2.1, y16.2.2.1, y16.2.2.2.1, y16.2.2.2.2.1, y16.2.2.2.2.2.1, y16.2.2.2.2.2.2.1, y16.2.2.2.2.2.2.2.1, y16.2.2.2.2.2.2.2.2.1, y16.2.2.2.2.2.2.2.2.2.1, y16.2.2.2.2.2.2.2.2.2.2.1, y16.2.2.2.2.2.2.2.2.2.2.2.1, y16.2.2.2.2.2.2.2.2.2.2.2.2.1, y16.2.2.2.2.2.2.2.2.2.2.2.2.2.1, ())) (
          chk (inB i_1 y16.2.2.2.2.2.2.2.1.length) (
           let v22 : List UInt8 × Bool × Bool × Unit := bV (Ty.dflt aO) y16.2.2.2.2.2.2.2.1 i_1
           ob (Cn n v22) fun y23 =>
           some (y23, y16.2.1, y16.2.2.1, y16.2.2.2.1, y16.2.2.2.2.1, y16.2.2.2.2.2.1, y16.2.2.2.2.2.2.1, y16.2.2.2.2.2.2.2.1, y16.2.2.2.2.2.2.2.2.1, y16.2.2.2.2.2.2.2.2.2.1, y16.2.2.2.2.2.2.2.2.2.2.1, y16.2.2.2.2.2.2.2.2.2.2.2.1, y16.2.2.2.2.2.2.2.2.2.2.2.2.1, y16.2.2.2.2.2.2.2.2.2.2.2.2.2.1, ())))))))))))
def Hg (n : Nat) (g0 : Int × List aY × List (Bool) × Bool × List ZBk × List (Bool) × List (List ZLn) × List ZLk × List ZLn × List ZFl × List (Int) × Int × Int × Int × Unit -> Option (Int)) (x2 : Int × List aY × List (Bool) × Bool × List ZBk × List (Bool) × List (List ZLn) × List ZLk × List ZLn × List ZFl × List (Int) × Int × Int × Int × Unit) : Option (Int) :=
 let i_3 := x2.1
 let Kh := x2.2.1
 let zM := x2.2.2.1
 let zCc := x2.2.2.2.1
 let Si := x2.2.2.2.2.1
 let Sj := x2.2.2.2.2.2.1
 let zMv := x2.2.2.2.2.2.2.1
 let Ki := x2.2.2.2.2.2.2.2.1
 let zCd := x2.2.2.2.2.2.2.2.2.1
 let Kj := x2.2.2.2.2.2.2.2.2.2.1
 let Eh := x2.2.2.2.2.2.2.2.2.2.2.1
 let Kk := x2.2.2.2.2.2.2.2.2.2.2.2.1
 let Sk := x2.2.2.2.2.2.2.2.2.2.2.2.2.1
 let Sl := x2.2.2.2.2.2.2.2.2.2.2.2.2.2.1
 br (decide (i_3 ≥ 0)) (
  ob (oF n (i_3, Kh, zM, zCc, Si, Sj, zMv, Ki, zCd, Kj, Eh, Kk, Sk, Sl, ())) fun y17 =>
  br y17.1 (
   some i_3) (
   let v18 : Int := IntKind.wrap .i64 (i_3 - 1)
   g0 (v18, y17.2.1, y17.2.2.1, y17.2.2.2.1, y17.2.2.2.2.1, y17.2.2.2.2.2.1, y17.2.2.2.2.2.2.1, y17.2.2.2.2.2.2.2.1, y17.2.2.2.2.2.2.2.2.1, y17.2.2.2.2.2.2.2.2.2.1, y17.2.2.2.2.2.2.2.2.2.2.1, y17.2.2.2.2.2.2.2.2.2.2.2.1, y17.2.2.2.2.2.2.2.2.2.2.2.2.1, y17.2.2.2.2.2.2.2.2.2.2.2.2.2.1, ()))) (
  some (-1))
def gM (n : Nat) (x : List aY × List (Bool) × Bool × List ZBk × List (Bool) × List (List ZLn) × List ZLk × List ZLn × List ZFl × List (Int) × Int × Int × Int × Unit) : Option (Int) :=
 let m_0 := x
 let v1 : Int := IntKind.wrap .i64 ((m_0.1.length : Int) - 1)
 fix (Hg n) n (v1, m_0.1, m_0.2.1, m_0.2.2.1, m_0.2.2.2.1, m_0.2.2.2.2.1, m_0.2.2.2.2.2.1, m_0.2.2.2.2.2.2.1, m_0.2.2.2.2.2.2.2.1, m_0.2.2.2.2.2.2.2.2.1, m_0.2.2.2.2.2.2.2.2.2.1, m_0.2.2.2.2.2.2.2.2.2.2.1, m_0.2.2.2.2.2.2.2.2.2.2.2.1, m_0.2.2.2.2.2.2.2.2.2.2.2.2.1, ())
def nC (_n:Nat) (x:List ZBk × Unit):Option (List ZBk × Unit):=Dt 128 x
def sN (_n:Nat) (x:List (Bool) × Unit):Option (List (Bool) × Unit):=Dt 1 x
def lN (_n:Nat) (x:List (List ZLn) × Unit):Option (List (List ZLn) × Unit):=Dt 24 x
def nD (_n:Nat) (x:List ZLk × Unit):Option (List ZLk × Unit):=Dt 24 x
def slices_Clone_int (_n:Nat) (x:List (Int) × Unit):Option (List (Int) × Unit):=Dt 8 x
def iY (n : Nat) (x : List ZLn) : Option (List ZLn) :=
 let s_0 := x
 chk ((decide ((s_0.length : Int) = (s_0.length : Int)) && decide ((s_0.length : Int) = (s_0.length : Int)))) (
  some s_0)
def kX (n : Nat) (x : List aY × List (Bool) × Bool × List ZBk × List (Bool) × List (List ZLn) × List ZLk × List ZLn × List ZFl × List (Int) × Int × Int × Int × Unit) : Option (List aY × List (Bool) × Bool × List ZLn × List ZFl × Int × Int × Int × List ZBk × List (Bool) × List (List ZLn) × List ZLk × List (Int) × Unit) :=
 let m_1 := x.1
 let m_2 := x.2.1
 let m_3 := x.2.2.1
 let m_4 := x.2.2.2.1
 let m_5 := x.2.2.2.2.1
 let m_6 := x.2.2.2.2.2.1
 let m_7 := x.2.2.2.2.2.2.1
 let m_8 := x.2.2.2.2.2.2.2.1
 let m_9 := x.2.2.2.2.2.2.2.2.1
 let yNb := x.2.2.2.2.2.2.2.2.2.1
 let yNc := x.2.2.2.2.2.2.2.2.2.2.1
 let yNd := x.2.2.2.2.2.2.2.2.2.2.2.1
 let yNe := x.2.2.2.2.2.2.2.2.2.2.2.2.1
 ob (nC n (m_4, ())) fun y14 =>
 ob (sN n (m_5, ())) fun y15 =>
 ob (lN n (m_6, ())) fun y16 =>
 ob (nD n (m_7, ())) fun y17 =>
 ob (slices_Clone_int n (yNb, ())) fun y18 =>
 ob (iY n m_8) fun y19 =>
 some (m_1, m_2, m_3, y19, m_9, yNc, yNd, yNe, y14.1, y15.1, y16.1, y17.1, y18.1, ())
def wK (n : Nat) (x : List UInt8 × Bool × Bool × Unit) : Option (List UInt8 × Bool × Bool × Unit) :=
 let k_0 := x
 some (k_0.1, (k_0.2.1, (true, ())))
def sO (n : Nat) (x : Int × List aY × List (Bool) × Bool × List ZLn × List ZFl × Int × Int × Int × List ZBk × List (Bool) × List (List ZLn) × List ZLk × List (Int) × Unit) : Option (List aY × List (Bool) × Bool × List ZLn × List ZFl × Int × Int × Int × List ZBk × List (Bool) × List (List ZLn) × List ZLk × List (Int) × Unit) :=
 let i_1 := x.1
 let bY := x.2.1
 let dA := x.2.2.1
 let iO := x.2.2.2.1
 let pO := x.2.2.2.2.1
 let iQ := x.2.2.2.2.2.1
 let iR := x.2.2.2.2.2.2.1
 let lG := x.2.2.2.2.2.2.2.1
 let lH := x.2.2.2.2.2.2.2.2.1
 let aS := x.2.2.2.2.2.2.2.2.2.1
 let dP := x.2.2.2.2.2.2.2.2.2.2.1
 let dJ := x.2.2.2.2.2.2.2.2.2.2.2.1
 let bU := x.2.2.2.2.2.2.2.2.2.2.2.2.1
 let fZ := x.2.2.2.2.2.2.2.2.2.2.2.2.2.1
 chk ((inB i_1 (aS.length) && decide (0 + (aS.length) <= aS.length))) (
  chk (decide (0 + i_1.toNat < aS.length)) (
   let r15 : List ZBk := aS.set (0 + i_1.toNat) (4, ((aS.getD (0 + i_1.toNat) (Ty.dflt aA)).2.1, ((aS.getD (0 + i_1.toNat) (Ty.dflt aA)).2.2.1, ((aS.getD (0 + i_1.toNat) (Ty.dflt aA)).2.2.2.1, ((aS.getD (0 + i_1.toNat) (Ty.dflt aA)).2.2.2.2.1, ((aS.getD (0 + i_1.toNat) (Ty.dflt aA)).2.2.2.2.2.1, ((aS.getD (0 + i_1.toNat) (Ty.dflt aA)).2.2.2.2.2.2.1, ((aS.getD (0 + i_1.toNat) (Ty.dflt aA)).2.2.2.2.2.2.2.1, ((aS.getD (0 + i_1.toNat) (Ty.dflt aA)).2.2.2.2.2.2.2.2.1, ((aS.getD (0 + i_1.toNat) (Ty.dflt aA)).2.2.2.2.2.2.2.2.2.1, ((aS.getD (0 + i_1.toNat) (Ty.dflt aA)).2.2.2.2.2.2.2.2.2.2.1, ((aS.getD (0 + i_1.toNat) (Ty.dflt aA)).2.2.2.2.2.2.2.2.2.2.2.1, ()))))))))))))
   chk ((inB i_1 (bU.length) && decide (0 + (bU.length) <= bU.length))) (
    chk (decide (0 + i_1.toNat < bU.length)) (
     let r16 : List ZLk := bU.set (0 + i_1.toNat) ([], ((bU.getD (0 + i_1.toNat) (Ty.dflt aO)).2.1, ((bU.getD (0 + i_1.toNat) (Ty.dflt aO)).2.2.1, ())))
     let v17 : Int := IntKind.wrap .i64 (i_1 + 1)
     let v18 : Int := ((r16.length : Nat) : Int)
     br (decide (v17 < v18)) (
      let v19 : Int := IntKind.wrap .i64 (i_1 + 1)
      let v20 : Int := IntKind.wrap .i64 (i_1 + 1)
      chk ((inB v20 (r16.length) && decide (0 + (r16.length) <= r16.length))) (
       chk (decide (0 + v20.toNat < r16.length)) (
        ob (wK n ((r16.getD (0 + v20.toNat) (Ty.dflt aO)).1, ((r16.getD (0 + v20.toNat) (Ty.dflt aO)).2.1, ((r16.getD (0 + v20.toNat) (Ty.dflt aO)).2.2.1, ())))) fun y21 =>
        chk ((inB v19 (r16.length) && decide (0 + (r16.length) <= r16.length))) (
         chk (decide (0 + v19.toNat < r16.length)) (
          let r22 : List ZLk := r16.set (0 + v19.toNat) y21
          some (bY, dA, iO, pO, iQ, iR, lG, lH, r15, dP, dJ, r22, fZ, ())))))) (
      some (bY, dA, iO, pO, iQ, iR, lG, lH, r15, dP, dJ, r16, fZ, ()))))))
def kY (n : Nat) (x : Int × Int × List aY × List (Bool) × Bool × List ZLn × List ZFl × Int × Int × Int × List ZBk × List (Bool) × List (List ZLn) × List ZLk × List (Int) × Unit) : Option (List aY × List (Bool) × Bool × List ZLn × List ZFl × Int × Int × Int × List ZBk × List (Bool) × List (List ZLn) × List ZLk × List (Int) × Unit) :=
 let i_1 := x.1
 let Ei := x.2.1
 let pI := x.2.2.1
 let qN := x.2.2.2.1
 let Od := x.2.2.2.2.1
 let Sm := x.2.2.2.2.2.1
 let Ej := x.2.2.2.2.2.2.1
 let El := x.2.2.2.2.2.2.2.1
 let Oe := x.2.2.2.2.2.2.2.2.1
 let Em := x.2.2.2.2.2.2.2.2.2.1
 let dP := x.2.2.2.2.2.2.2.2.2.2.1
 let dJ := x.2.2.2.2.2.2.2.2.2.2.2.1
 let bU := x.2.2.2.2.2.2.2.2.2.2.2.2.1
 let fZ := x.2.2.2.2.2.2.2.2.2.2.2.2.2.1
 let Og := x.2.2.2.2.2.2.2.2.2.2.2.2.2.2.1
 ob (sO n (i_1, pI, qN, Od, Sm, Ej, El, Oe, Em, dP, dJ, bU, fZ, Og, ())) fun y16 =>
 br (Ei != 0) (
  chk ((inB i_1 (y16.2.2.2.2.2.2.2.2.2.2.2.2.1.length) && decide (0 + (y16.2.2.2.2.2.2.2.2.2.2.2.2.1.length) <= y16.2.2.2.2.2.2.2.2.2.2.2.2.1.length))) (
   chk (decide (0 + i_1.toNat < y16.2.2.2.2.2.2.2.2.2.2.2.2.1.length)) (
    let r17 : List (Int) := y16.2.2.2.2.2.2.2.2.2.2.2.2.1.set (0 + i_1.toNat) Ei
    br (!y16.2.2.1) (
     some (y16.1, y16.2.1, y16.2.2.1, y16.2.2.2.1, y16.2.2.2.2.1, y16.2.2.2.2.2.1, y16.2.2.2.2.2.2.1, y16.2.2.2.2.2.2.2.1, y16.2.2.2.2.2.2.2.2.1, y16.2.2.2.2.2.2.2.2.2.1, y16.2.2.2.2.2.2.2.2.2.2.1, y16.2.2.2.2.2.2.2.2.2.2.2.1, r17, ())) (
     none)))) (
  br (!y16.2.2.1) (
   some (y16.1, y16.2.1, y16.2.2.1, y16.2.2.2.1, y16.2.2.2.2.1, y16.2.2.2.2.2.1, y16.2.2.2.2.2.2.1, y16.2.2.2.2.2.2.2.1, y16.2.2.2.2.2.2.2.2.1, y16.2.2.2.2.2.2.2.2.2.1, y16.2.2.2.2.2.2.2.2.2.2.1, y16.2.2.2.2.2.2.2.2.2.2.2.1, y16.2.2.2.2.2.2.2.2.2.2.2.2.1, ())) (
   none))
def mD (n : Nat) (x : Int × List aY × List (Bool) × Bool × List ZLn × List ZFl × Int × Int × Int × List ZBk × List (Bool) × List (List ZLn) × List ZLk × List (Int) × Unit) : Option (List aY × List (Bool) × Bool × List ZLn × List ZFl × Int × Int × Int × List ZBk × List (Bool) × List (List ZLn) × List ZLk × List (Int) × Unit) :=
 let i_1 := x.1
 let bY := x.2.1
 let dA := x.2.2.1
 let iO := x.2.2.2.1
 let pO := x.2.2.2.2.1
 let iQ := x.2.2.2.2.2.1
 let iR := x.2.2.2.2.2.2.1
 let lG := x.2.2.2.2.2.2.2.1
 let lH := x.2.2.2.2.2.2.2.2.1
 let aS := x.2.2.2.2.2.2.2.2.2.1
 let dP := x.2.2.2.2.2.2.2.2.2.2.1
 let dJ := x.2.2.2.2.2.2.2.2.2.2.2.1
 let bU := x.2.2.2.2.2.2.2.2.2.2.2.2.1
 let fZ := x.2.2.2.2.2.2.2.2.2.2.2.2.2.1
 chk (inB i_1 bY.length) (
  let v15 : (Bool × List (List dD × Bool × Unit) × List cZ × Unit) × Bool × List (List UInt8) × Bool × Unit := bV (Ty.dflt aG) bY i_1
  chk ((inB i_1 (dP.length) && decide (0 + (dP.length) <= dP.length))) (
   chk (decide (0 + i_1.toNat < dP.length)) (
    let r16 : List (Bool) := dP.set (0 + i_1.toNat) true
    br v15.2.2.2.1 (
     ob (kY n (i_1, 1, bY, dA, iO, pO, iQ, iR, lG, lH, aS, r16, dJ, bU, fZ, ())) fun y17 =>
     some (y17.1, y17.2.1, y17.2.2.1, y17.2.2.2.1, y17.2.2.2.2.1, y17.2.2.2.2.2.1, y17.2.2.2.2.2.2.1, y17.2.2.2.2.2.2.2.1, y17.2.2.2.2.2.2.2.2.1, y17.2.2.2.2.2.2.2.2.2.1, y17.2.2.2.2.2.2.2.2.2.2.1, y17.2.2.2.2.2.2.2.2.2.2.2.1, y17.2.2.2.2.2.2.2.2.2.2.2.2.1, ())) (
     ob (kW n (v15, iQ)) fun y18 =>
     br (decide ((v15.2.2.1.length : Int) > 0)) (
      none) (
      some (bY, dA, iO, pO, y18, iR, lG, lH, aS, r16, dJ, bU, fZ, ()))))))
def lU (n : Nat) (x : List UInt8 × Bool × Int × Int × Int × Int × Int × List UInt8 × List UInt8 × Bool × Bool × Bool × List (Bool × Int × Unit) × List ZLn × Bool × List (List dD × Bool × Unit) × List cZ × Bool × List ZFl × List ZLn × Unit) : Option (Int × Int × Int × Int × Int × List UInt8 × List UInt8 × Bool × Bool × Bool × List (Bool × Int × Unit) × List ZLn × Bool × List (List dD × Bool × Unit) × List cZ × Bool × List ZFl × List ZLn × Unit) :=
 let s_1 := x.1
 let zMw := x.2.1
 let zMx := x.2.2.1
 let PC4 := x.2.2.2.1
 let N5 := x.2.2.2.2.1
 let zVi := x.2.2.2.2.2.1
 let zVj := x.2.2.2.2.2.2.1
 let Yp := x.2.2.2.2.2.2.2.1
 let zVk := x.2.2.2.2.2.2.2.2.1
 let zVl := x.2.2.2.2.2.2.2.2.2.1
 let zMy := x.2.2.2.2.2.2.2.2.2.2.1
 let Sn := x.2.2.2.2.2.2.2.2.2.2.2.1
 let yCh := x.2.2.2.2.2.2.2.2.2.2.2.2.1
 let yFj := x.2.2.2.2.2.2.2.2.2.2.2.2.2.1
 let Va := x.2.2.2.2.2.2.2.2.2.2.2.2.2.2.1
 let yIx := x.2.2.2.2.2.2.2.2.2.2.2.2.2.2.2.1
 let yIy := x.2.2.2.2.2.2.2.2.2.2.2.2.2.2.2.2.1
 let yFk := x.2.2.2.2.2.2.2.2.2.2.2.2.2.2.2.2.2.1
 let yFl := x.2.2.2.2.2.2.2.2.2.2.2.2.2.2.2.2.2.2.1
 let zCe := x.2.2.2.2.2.2.2.2.2.2.2.2.2.2.2.2.2.2.2.1
 chk (Nat.ble ((zCe.length + ([(s_1, (zMw, ()))] : List ZLn).length) * 24) room) (
  let r21 : List ZLn := zCe ++ [(s_1, (zMw, ()))]
  some (zMx, PC4, N5, zVi, zVj, Yp, zVk, zVl, zMy, Sn, yCh, yFj, Va, yIx, yIy, yFk, yFl, r21, ()))
def sP (n : Nat) (x : Int × Int × Int × Int × Int × List UInt8 × List UInt8 × Bool × Bool × Bool × List (Bool × Int × Unit) × List ZLn × Bool × List (List dD × Bool × Unit) × List cZ × Bool × List ZFl × List ZLn × Unit) : Option (Int × Int × Int × Int × Int × List UInt8 × List UInt8 × Bool × Bool × Bool × List (Bool × Int × Unit) × List ZLn × Bool × List (List dD × Bool × Unit) × List cZ × Bool × List ZFl × List ZLn × Unit) :=
 let qO := x.1
 let PC2 := x.2.1
 let N3 := x.2.2.1
 let wL := x.2.2.2.1
 let wM := x.2.2.2.2.1
 let iZ := x.2.2.2.2.2.1
 let wN := x.2.2.2.2.2.2.1
 let xZ := x.2.2.2.2.2.2.2.1
 let wO := x.2.2.2.2.2.2.2.2.1
 let jN := x.2.2.2.2.2.2.2.2.2.1
 let oG := x.2.2.2.2.2.2.2.2.2.2.1
 let nE := x.2.2.2.2.2.2.2.2.2.2.2.1
 let pJ := x.2.2.2.2.2.2.2.2.2.2.2.2.1
 let wP := x.2.2.2.2.2.2.2.2.2.2.2.2.2.1
 let wQ := x.2.2.2.2.2.2.2.2.2.2.2.2.2.2.1
 let pK := x.2.2.2.2.2.2.2.2.2.2.2.2.2.2.2.1
 let rV := x.2.2.2.2.2.2.2.2.2.2.2.2.2.2.2.2.1
 let wR := x.2.2.2.2.2.2.2.2.2.2.2.2.2.2.2.2.2.1
 ob (lU n (iZ, xZ, qO, PC2, N3, wL, wM, iZ, wN, xZ, wO, jN, oG, nE, pJ, wP, wQ, pK, rV, wR, ())) fun y19 =>
 some (y19.1, y19.2.1, y19.2.2.1, y19.2.2.2.1, y19.2.2.2.2.1, y19.2.2.2.2.2.1, y19.2.2.2.2.2.2.1, y19.2.2.2.2.2.2.2.1, y19.2.2.2.2.2.2.2.2.1, y19.2.2.2.2.2.2.2.2.2.1, y19.2.2.2.2.2.2.2.2.2.2.1, y19.2.2.2.2.2.2.2.2.2.2.2.1, y19.2.2.2.2.2.2.2.2.2.2.2.2.1, y19.2.2.2.2.2.2.2.2.2.2.2.2.2.1, y19.2.2.2.2.2.2.2.2.2.2.2.2.2.2.1, y19.2.2.2.2.2.2.2.2.2.2.2.2.2.2.2.1, y19.2.2.2.2.2.2.2.2.2.2.2.2.2.2.2.2.1, y19.2.2.2.2.2.2.2.2.2.2.2.2.2.2.2.2.2.1, ())
def wS (n : Nat) (x : Int × Int × Int × Int × Int × List UInt8 × List UInt8 × Bool × Bool × Bool × List (Bool × Int × Unit) × List ZLn × Bool × List (List dD × Bool × Unit) × List cZ × Bool × List ZFl × List ZLn × Unit) : Option (Int × Int × Int × Int × Int × List UInt8 × List UInt8 × Bool × Bool × Bool × List (Bool × Int × Unit) × List ZLn × Bool × List (List dD × Bool × Unit) × List cZ × Bool × List ZFl × List ZLn × Unit) :=
 let qO := x.1
 let PC2 := x.2.1
 let N3 := x.2.2.1
 let wL := x.2.2.2.1
 let wM := x.2.2.2.2.1
 let iZ := x.2.2.2.2.2.1
 let wN := x.2.2.2.2.2.2.1
 let xZ := x.2.2.2.2.2.2.2.1
 let wO := x.2.2.2.2.2.2.2.2.1
 let jN := x.2.2.2.2.2.2.2.2.2.1
 let oG := x.2.2.2.2.2.2.2.2.2.2.1
 let nE := x.2.2.2.2.2.2.2.2.2.2.2.1
 let pJ := x.2.2.2.2.2.2.2.2.2.2.2.2.1
 let wP := x.2.2.2.2.2.2.2.2.2.2.2.2.2.1
 let wQ := x.2.2.2.2.2.2.2.2.2.2.2.2.2.2.1
 let pK := x.2.2.2.2.2.2.2.2.2.2.2.2.2.2.2.1
 let rV := x.2.2.2.2.2.2.2.2.2.2.2.2.2.2.2.2.1
 let wR := x.2.2.2.2.2.2.2.2.2.2.2.2.2.2.2.2.2.1
 br (!pK) (
  br (!pJ) (
   ob (sP n (qO, PC2, N3, wL, wM, iZ, wN, xZ, wO, jN, oG, nE, pJ, wP, wQ, pK, rV, wR, ())) fun y19 =>
   some (y19.1, y19.2.1, y19.2.2.1, y19.2.2.2.1, y19.2.2.2.2.1, y19.2.2.2.2.2.1, y19.2.2.2.2.2.2.1, y19.2.2.2.2.2.2.2.1, y19.2.2.2.2.2.2.2.2.1, y19.2.2.2.2.2.2.2.2.2.1, y19.2.2.2.2.2.2.2.2.2.2.1, y19.2.2.2.2.2.2.2.2.2.2.2.1, y19.2.2.2.2.2.2.2.2.2.2.2.2.1, y19.2.2.2.2.2.2.2.2.2.2.2.2.2.1, y19.2.2.2.2.2.2.2.2.2.2.2.2.2.2.1, y19.2.2.2.2.2.2.2.2.2.2.2.2.2.2.2.1, y19.2.2.2.2.2.2.2.2.2.2.2.2.2.2.2.2.1, y19.2.2.2.2.2.2.2.2.2.2.2.2.2.2.2.2.2.1, ())) (
   some (qO, PC2, N3, wL, wM, iZ, wN, xZ, wO, jN, oG, nE, pJ, wP, wQ, pK, rV, wR, ()))) (
  some (qO, PC2, N3, wL, wM, iZ, wN, xZ, wO, jN, oG, nE, pJ, wP, wQ, pK, rV, wR, ()))
def Ij (n : Nat) (x : List UInt8 × List UInt8 × List UInt8 × Unit) : Option (Bool × List UInt8 × Unit) :=
 let f_1 := x.1
 let f_2 := x.2.1
 let b3 := x.2.2.1
 some ((f_1 == b3), b3, ())
def oH (n : Nat) (g0 : List ZFl × Int × Int × List UInt8 × Unit -> Option (Int × List UInt8 × Unit)) (x3 : List ZFl × Int × Int × List UInt8 × Unit) : Option (Int × List UInt8 × Unit) :=
 let s_4 := x3.1
 let yIz := x3.2.1
 let zMz := x3.2.2.1
 let b7 := x3.2.2.2.1
 br (decide (zMz < yIz)) (
  chk (inB zMz s_4.length) (
   let v8 : List UInt8 × List UInt8 × Unit := bV (Ty.dflt aP) s_4 zMz
   ob (Ij n (v8.1, v8.2.1, b7, ())) fun y9 =>
   br y9.1 (
    some (zMz, y9.2.1, ())) (
    let v10 : Int := IntKind.wrap .i64 (zMz + 1)
    g0 (s_4, yIz, v10, y9.2.1, ())))) (
  some ((-1), b7, ()))
def fQ (n : Nat) (x : List ZFl × List UInt8 × Unit) : Option (Int × List UInt8 × Unit) :=
 let s_1 := x.1
 let b2 := x.2.1
 fix (oH n) n (s_1, (s_1.length : Int), 0, b2, ())
def Sq (n : Nat) (x : List ZFl × List UInt8) : Option (List UInt8 × Bool) :=
 let t_0 := x.1
 let yJa := x.2
 ob (fQ n (t_0, yJa, ())) fun y1 =>
 br (decide (y1.1 < 0)) (
  some ([], false)) (
  chk (inB y1.1 t_0.length) (
   let v2 : List UInt8 × List UInt8 × Unit := bV (Ty.dflt aP) t_0 y1.1
   some (v2.2.1, true)))
def iG (n : Nat) (x : List UInt8 × List UInt8) : Option (Bool) :=
 let s_0 := x.1
 let qP := x.2
 br (decide ((s_0.length : Int) ≥ (qP.length : Int))) (
  let v1 : Int := IntKind.wrap .i64 ((s_0.length : Int) - (qP.length : Int))
  chk ((decide (0 <= v1) && decide (v1 <= (s_0.length : Int)))) (
   some ((s_0.drop v1.toNat) == qP))) (
  some false)
def iH (n : Nat) (x : List UInt8 × List UInt8) : Option (List UInt8 × Bool) :=
 let s_0 := x.1
 let qP := x.2
 ob (iG n (s_0, qP)) fun y1 =>
 br (!y1) (
  some (s_0, false)) (
  let v2 : Int := IntKind.wrap .i64 ((s_0.length : Int) - (qP.length : Int))
  chk ((decide (0 <= v2) && decide (v2 <= (s_0.length : Int)))) (
   some (s_0.take v2.toNat, true)))
def strings_CutSuffix (n : Nat) (x : List UInt8 × List UInt8) : Option (List UInt8 × Bool) :=
 let s_0 := x.1
 let qP := x.2
 ob (iH n (s_0, qP)) fun y1 =>
 some (y1.1, y1.2)
def Kl (n : Nat) (g0 : List ZLn × Int × Int × Int × Int × Int × Int × Int × List UInt8 × List UInt8 × Bool × Bool × Bool × List (Bool × Int × Unit) × List ZLn × Bool × List (List dD × Bool × Unit) × List cZ × Bool × List ZFl × List ZLn × Unit -> Option (Int × Int × Int × Int × Int × List UInt8 × List UInt8 × Bool × Bool × Bool × List (Bool × Int × Unit) × List ZLn × Bool × List (List dD × Bool × Unit) × List cZ × Bool × List ZFl × List ZLn × Unit)) (x19 : List ZLn × Int × Int × Int × Int × Int × Int × Int × List UInt8 × List UInt8 × Bool × Bool × Bool × List (Bool × Int × Unit) × List ZLn × Bool × List (List dD × Bool × Unit) × List cZ × Bool × List ZFl × List ZLn × Unit) : Option (Int × Int × Int × Int × Int × List UInt8 × List UInt8 × Bool × Bool × Bool × List (Bool × Int × Unit) × List ZLn × Bool × List (List dD × Bool × Unit) × List cZ × Bool × List ZFl × List ZLn × Unit) :=
 let Sr := x19.1
 let zCf := x19.2.1
 let Km := x19.2.2.1
 let Vd := x19.2.2.2.1
 let zVm := x19.2.2.2.2.1
 let N25 := x19.2.2.2.2.2.1
 let zCg := x19.2.2.2.2.2.2.1
 let zCh := x19.2.2.2.2.2.2.2.1
 let Hl := x19.2.2.2.2.2.2.2.2.1
 let zCi := x19.2.2.2.2.2.2.2.2.2.1
 let zIm := x19.2.2.2.2.2.2.2.2.2.2.1
 let zCj := x19.2.2.2.2.2.2.2.2.2.2.2.1
 let Ho := x19.2.2.2.2.2.2.2.2.2.2.2.2.1
 let Oh := x19.2.2.2.2.2.2.2.2.2.2.2.2.2.1
 let zFb := x19.2.2.2.2.2.2.2.2.2.2.2.2.2.2.1
 let Ve := x19.2.2.2.2.2.2.2.2.2.2.2.2.2.2.2.1
 let zCk := x19.2.2.2.2.2.2.2.2.2.2.2.2.2.2.2.2.1
 let zCl := x19.2.2.2.2.2.2.2.2.2.2.2.2.2.2.2.2.2.1
 let Vf := x19.2.2.2.2.2.2.2.2.2.2.2.2.2.2.2.2.2.2.1
 let Kn := x19.2.2.2.2.2.2.2.2.2.2.2.2.2.2.2.2.2.2.2.1
 let zIn := x19.2.2.2.2.2.2.2.2.2.2.2.2.2.2.2.2.2.2.2.2.1
 br (decide (Km < zCf)) (
  chk (inB Km Sr.length) (
   let v41 : List UInt8 × Bool × Unit := bV (Ty.dflt aD) Sr Km
   br (!v41.2.1) (
    ob (lU n (v41.1, true, Vd, zVm, N25, zCg, zCh, Hl, zCi, zIm, zCj, Ho, Oh, zFb, Ve, zCk, zCl, Vf, Kn, zIn, ())) fun y42 =>
    let v43 : Int := IntKind.wrap .i64 (Km + 1)
    g0 (Sr, zCf, v43, y42.1, y42.2.1, y42.2.2.1, y42.2.2.2.1, y42.2.2.2.2.1, y42.2.2.2.2.2.1, y42.2.2.2.2.2.2.1, y42.2.2.2.2.2.2.2.1, y42.2.2.2.2.2.2.2.2.1, y42.2.2.2.2.2.2.2.2.2.1, y42.2.2.2.2.2.2.2.2.2.2.1, y42.2.2.2.2.2.2.2.2.2.2.2.1, y42.2.2.2.2.2.2.2.2.2.2.2.2.1, y42.2.2.2.2.2.2.2.2.2.2.2.2.2.1, y42.2.2.2.2.2.2.2.2.2.2.2.2.2.2.1, y42.2.2.2.2.2.2.2.2.2.2.2.2.2.2.2.1, y42.2.2.2.2.2.2.2.2.2.2.2.2.2.2.2.2.1, y42.2.2.2.2.2.2.2.2.2.2.2.2.2.2.2.2.2.1, ())) (
    ob (Sq n (Kn, v41.1)) fun y44 =>
    br (!(y44.1 == [])) (
     ob (strings_CutSuffix n (y44.1, [10])) fun y45 =>
     ob (lU n (y45.1, y45.2, Vd, zVm, N25, zCg, zCh, Hl, zCi, zIm, zCj, Ho, Oh, zFb, Ve, zCk, zCl, Vf, Kn, zIn, ())) fun y46 =>
     let v47 : Int := IntKind.wrap .i64 (Km + 1)
     g0 (Sr, zCf, v47, y46.1, y46.2.1, y46.2.2.1, y46.2.2.2.1, y46.2.2.2.2.1, y46.2.2.2.2.2.1, y46.2.2.2.2.2.2.1, y46.2.2.2.2.2.2.2.1, y46.2.2.2.2.2.2.2.2.1, y46.2.2.2.2.2.2.2.2.2.1, y46.2.2.2.2.2.2.2.2.2.2.1, y46.2.2.2.2.2.2.2.2.2.2.2.1, y46.2.2.2.2.2.2.2.2.2.2.2.2.1, y46.2.2.2.2.2.2.2.2.2.2.2.2.2.1, y46.2.2.2.2.2.2.2.2.2.2.2.2.2.2.1, y46.2.2.2.2.2.2.2.2.2.2.2.2.2.2.2.1, y46.2.2.2.2.2.2.2.2.2.2.2.2.2.2.2.2.1, y46.2.2.2.2.2.2.2.2.2.2.2.2.2.2.2.2.2.1, ())) (
     let v48 : Int := IntKind.wrap .i64 (Km + 1)
     g0 (Sr, zCf, v48, Vd, zVm, N25, zCg, zCh, Hl, zCi, zIm, zCj, Ho, Oh, zFb, Ve, zCk, zCl, Vf, Kn, zIn, ()))))) (
  some (Vd, zVm, N25, zCg, zCh, Hl, zCi, zIm, zCj, Ho, Oh, [], Ve, zCk, zCl, Vf, Kn, zIn, ()))
def wT (n : Nat) (x : Int × Int × Int × Int × Int × List UInt8 × List UInt8 × Bool × Bool × Bool × List (Bool × Int × Unit) × List ZLn × Bool × List (List dD × Bool × Unit) × List cZ × Bool × List ZFl × List ZLn × Unit) : Option (Int × Int × Int × Int × Int × List UInt8 × List UInt8 × Bool × Bool × Bool × List (Bool × Int × Unit) × List ZLn × Bool × List (List dD × Bool × Unit) × List cZ × Bool × List ZFl × List ZLn × Unit) :=
 let qO := x.1
 let PC2 := x.2.1
 let N3 := x.2.2.1
 let wL := x.2.2.2.1
 let wM := x.2.2.2.2.1
 let iZ := x.2.2.2.2.2.1
 let wN := x.2.2.2.2.2.2.1
 let xZ := x.2.2.2.2.2.2.2.1
 let wO := x.2.2.2.2.2.2.2.2.1
 let jN := x.2.2.2.2.2.2.2.2.2.1
 let oG := x.2.2.2.2.2.2.2.2.2.2.1
 let nE := x.2.2.2.2.2.2.2.2.2.2.2.1
 let pJ := x.2.2.2.2.2.2.2.2.2.2.2.2.1
 let wP := x.2.2.2.2.2.2.2.2.2.2.2.2.2.1
 let wQ := x.2.2.2.2.2.2.2.2.2.2.2.2.2.2.1
 let pK := x.2.2.2.2.2.2.2.2.2.2.2.2.2.2.2.1
 let rV := x.2.2.2.2.2.2.2.2.2.2.2.2.2.2.2.2.1
 let wR := x.2.2.2.2.2.2.2.2.2.2.2.2.2.2.2.2.2.1
 fix (Kl n) n (nE, (nE.length : Int), 0, qO, PC2, N3, wL, wM, iZ, wN, xZ, wO, jN, oG, nE, pJ, wP, wQ, pK, rV, wR, ())
def Ai (n : Nat) (x : Int × Int × Int × Int × Int × List UInt8 × List UInt8 × Bool × Bool × Bool × List (Bool × Int × Unit) × List ZLn × Bool × List (List dD × Bool × Unit) × List cZ × Bool × List ZFl × List ZLn × Unit) : Option (Int × Int × Int × Int × Int × List UInt8 × List UInt8 × Bool × Bool × Bool × List (Bool × Int × Unit) × List ZLn × Bool × List (List dD × Bool × Unit) × List cZ × Bool × List ZFl × List ZLn × Unit) :=
 let qO := x.1
 let PC2 := x.2.1
 let N3 := x.2.2.1
 let wL := x.2.2.2.1
 let wM := x.2.2.2.2.1
 let iZ := x.2.2.2.2.2.1
 let wN := x.2.2.2.2.2.2.1
 let xZ := x.2.2.2.2.2.2.2.1
 let wO := x.2.2.2.2.2.2.2.2.1
 let jN := x.2.2.2.2.2.2.2.2.2.1
 let oG := x.2.2.2.2.2.2.2.2.2.2.1
 let nE := x.2.2.2.2.2.2.2.2.2.2.2.1
 let pJ := x.2.2.2.2.2.2.2.2.2.2.2.2.1
 let wP := x.2.2.2.2.2.2.2.2.2.2.2.2.2.1
 let wQ := x.2.2.2.2.2.2.2.2.2.2.2.2.2.2.1
 let pK := x.2.2.2.2.2.2.2.2.2.2.2.2.2.2.2.1
 let rV := x.2.2.2.2.2.2.2.2.2.2.2.2.2.2.2.2.1
 let wR := x.2.2.2.2.2.2.2.2.2.2.2.2.2.2.2.2.2.1
 ob (wT n (qO, PC2, N3, wL, wM, iZ, wN, xZ, wO, jN, oG, nE, pJ, wP, wQ, pK, rV, wR, ())) fun y19 =>
 some (0, y19.2.1, y19.2.2.1, y19.2.2.2.1, y19.2.2.2.2.1, y19.2.2.2.2.2.1, y19.2.2.2.2.2.2.1, y19.2.2.2.2.2.2.2.1, y19.2.2.2.2.2.2.2.2.1, y19.2.2.2.2.2.2.2.2.2.1, y19.2.2.2.2.2.2.2.2.2.2.1, y19.2.2.2.2.2.2.2.2.2.2.2.1, y19.2.2.2.2.2.2.2.2.2.2.2.2.1, y19.2.2.2.2.2.2.2.2.2.2.2.2.2.1, y19.2.2.2.2.2.2.2.2.2.2.2.2.2.2.1, y19.2.2.2.2.2.2.2.2.2.2.2.2.2.2.2.1, y19.2.2.2.2.2.2.2.2.2.2.2.2.2.2.2.2.1, y19.2.2.2.2.2.2.2.2.2.2.2.2.2.2.2.2.2.1, ())
def mJ (_n:Nat) (x:List (Bool × Int × Unit) × Unit):Option (List (Bool × Int × Unit) × Unit):=Dt 16 x
def Ko (n : Nat) (g0 : Int × Int × Int × Int × Int × Int × Int × List UInt8 × List UInt8 × Bool × Bool × Bool × List (Bool × Int × Unit) × List ZLn × Bool × List (List dD × Bool × Unit) × List cZ × Bool × List ZFl × List ZLn × Int × Int × Int × Int × Int × Int × Bool × Int × List UInt8 × List UInt8 × Int × Int × Int × List (List UInt8 × Int × Unit) × Bool × Bool × List (Bool) × List (Int × Int × Int × Unit) × Unit -> Option (Bool × Int × Int × Int × Int × Int × List UInt8 × List UInt8 × Bool × Bool × Bool × List ZLn × Bool × List (List dD × Bool × Unit) × List cZ × Bool × List ZFl × List ZLn × List (Bool × Int × Unit) × Unit)) (x37 : Int × Int × Int × Int × Int × Int × Int × List UInt8 × List UInt8 × Bool × Bool × Bool × List (Bool × Int × Unit) × List ZLn × Bool × List (List dD × Bool × Unit) × List cZ × Bool × List ZFl × List ZLn × Int × Int × Int × Int × Int × Int × Bool × Int × List UInt8 × List UInt8 × Int × Int × Int × List (List UInt8 × Int × Unit) × Bool × Bool × List (Bool) × List (Int × Int × Int × Unit) × Unit) : Option (Bool × Int × Int × Int × Int × Int × List UInt8 × List UInt8 × Bool × Bool × Bool × List ZLn × Bool × List (List dD × Bool × Unit) × List cZ × Bool × List ZFl × List ZLn × List (Bool × Int × Unit) × Unit) :=
 let zYj := x37.1
 let En := x37.2.1
 let zQr := x37.2.2.1
 let Yq := x37.2.2.2.1
 let N42 := x37.2.2.2.2.1
 let zYk := x37.2.2.2.2.2.1
 let zYl := x37.2.2.2.2.2.2.1
 let zGv := x37.2.2.2.2.2.2.2.1
 let zYm := x37.2.2.2.2.2.2.2.2.1
 let yDv := x37.2.2.2.2.2.2.2.2.2.1
 let zNa := x37.2.2.2.2.2.2.2.2.2.2.1
 let zGw := x37.2.2.2.2.2.2.2.2.2.2.2.1
 let Oi := x37.2.2.2.2.2.2.2.2.2.2.2.2.1
 let zQs := x37.2.2.2.2.2.2.2.2.2.2.2.2.2.1
 let zQt := x37.2.2.2.2.2.2.2.2.2.2.2.2.2.2.1
 let zYn := x37.2.2.2.2.2.2.2.2.2.2.2.2.2.2.2.1
 let zYo := x37.2.2.2.2.2.2.2.2.2.2.2.2.2.2.2.2.1
 let zQu := x37.2.2.2.2.2.2.2.2.2.2.2.2.2.2.2.2.2.1
 let zQv := x37.2.2.2.2.2.2.2.2.2.2.2.2.2.2.2.2.2.2.1
 let yDw := x37.2.2.2.2.2.2.2.2.2.2.2.2.2.2.2.2.2.2.2.1
 let zYp := x37.2.2.2.2.2.2.2.2.2.2.2.2.2.2.2.2.2.2.2.2.1
 let N59 := x37.2.2.2.2.2.2.2.2.2.2.2.2.2.2.2.2.2.2.2.2.2.1
 let M60 := x37.2.2.2.2.2.2.2.2.2.2.2.2.2.2.2.2.2.2.2.2.2.2.1
 let zYq := x37.2.2.2.2.2.2.2.2.2.2.2.2.2.2.2.2.2.2.2.2.2.2.2.1
 let N62 := x37.2.2.2.2.2.2.2.2.2.2.2.2.2.2.2.2.2.2.2.2.2.2.2.2.1
 let M63 := x37.2.2.2.2.2.2.2.2.2.2.2.2.2.2.2.2.2.2.2.2.2.2.2.2.2.1
 let yDx := x37.2.2.2.2.2.2.2.2.2.2.2.2.2.2.2.2.2.2.2.2.2.2.2.2.2.2.1
 let yNf := x37.2.2.2.2.2.2.2.2.2.2.2.2.2.2.2.2.2.2.2.2.2.2.2.2.2.2.2.1
 let yJb := x37.2.2.2.2.2.2.2.2.2.2.2.2.2.2.2.2.2.2.2.2.2.2.2.2.2.2.2.2.1
 let yJc := x37.2.2.2.2.2.2.2.2.2.2.2.2.2.2.2.2.2.2.2.2.2.2.2.2.2.2.2.2.2.1
 let N68 := x37.2.2.2.2.2.2.2.2.2.2.2.2.2.2.2.2.2.2.2.2.2.2.2.2.2.2.2.2.2.2.1
 let yNg := x37.2.2.2.2.2.2.2.2.2.2.2.2.2.2.2.2.2.2.2.2.2.2.2.2.2.2.2.2.2.2.2.1
 let yKz := x37.2.2.2.2.2.2.2.2.2.2.2.2.2.2.2.2.2.2.2.2.2.2.2.2.2.2.2.2.2.2.2.2.1
 let yFm := x37.2.2.2.2.2.2.2.2.2.2.2.2.2.2.2.2.2.2.2.2.2.2.2.2.2.2.2.2.2.2.2.2.2.1
 let yLa := x37.2.2.2.2.2.2.2.2.2.2.2.2.2.2.2.2.2.2.2.2.2.2.2.2.2.2.2.2.2.2.2.2.2.2.1
 let yFn := x37.2.2.2.2.2.2.2.2.2.2.2.2.2.2.2.2.2.2.2.2.2.2.2.2.2.2.2.2.2.2.2.2.2.2.2.1
 let yDy := x37.2.2.2.2.2.2.2.2.2.2.2.2.2.2.2.2.2.2.2.2.2.2.2.2.2.2.2.2.2.2.2.2.2.2.2.2.1
 let Hq := x37.2.2.2.2.2.2.2.2.2.2.2.2.2.2.2.2.2.2.2.2.2.2.2.2.2.2.2.2.2.2.2.2.2.2.2.2.2.1
 br (decide (En < zYj)) (
  chk ((inB En (Hq.length) && decide (0 + (Hq.length) <= Hq.length))) (
   chk (decide (0 + En.toNat < Hq.length)) (
    let v76 : Int := (Hq.getD (0 + En.toNat) (Ty.dflt wI)).1
    br (v76 == 4) (
     let v77 : Int := (Hq.getD (0 + En.toNat) (Ty.dflt wI)).2.1
     let v78 : Int := (Hq.getD (0 + En.toNat) (Ty.dflt wI)).2.1
     none) (
     let v79 : Int := IntKind.wrap .i64 (En + 1)
     g0 (zYj, v79, zQr, Yq, N42, zYk, zYl, zGv, zYm, yDv, zNa, zGw, Oi, zQs, zQt, zYn, zYo, zQu, zQv, yDw, zYp, N59, M60, zYq, N62, M63, yDx, yNf, yJb, yJc, N68, yNg, yKz, yFm, yLa, yFn, yDy, Hq, ()))))) (
  chk (inB Yq Oi.length) (
   let v80 : Bool × Int × Unit := bV (Ty.dflt fV) Oi Yq
   ob (uT n (((zYp, (N59, (M60, ()))), ((zYq, (N62, (M63, ()))), (yDx, ()))), v80, (N42, (zNa, (yDy, ()))))) fun y81 =>
   ob (mJ n (Oi, ())) fun y82 =>
   chk ((inB Yq (y82.1.length) && decide (0 + (y82.1.length) <= y82.1.length))) (
    chk (decide (0 + Yq.toNat < y82.1.length)) (
     let r83 : List (Bool × Int × Unit) := y82.1.set (0 + Yq.toNat) y81.2
     some (y81.1, zQr, Yq, N42, zYk, zYl, zGv, zYm, yDv, zNa, zGw, zQs, zQt, zYn, zYo, zQu, zQv, yDw, r83, ())))))
def mE (n : Nat) (x : Int × Int × Int × Int × Int × Int × Bool × Int × List UInt8 × List UInt8 × Int × Int × Int × List (List UInt8 × Int × Unit) × Bool × Bool × Int × Int × Int × Int × Int × List UInt8 × List UInt8 × Bool × Bool × Bool × List (Bool × Int × Unit) × List ZLn × Bool × List (List dD × Bool × Unit) × List cZ × Bool × List ZFl × List ZLn × Unit) : Option (Bool × Int × Int × Int × Int × Int × List UInt8 × List UInt8 × Bool × Bool × Bool × List ZLn × Bool × List (List dD × Bool × Unit) × List cZ × Bool × List ZFl × List ZLn × List (Bool × Int × Unit) × Unit) :=
 let c_1 := x.1
 let c_2 := x.2.1
 let c_3 := x.2.2.1
 let c_4 := x.2.2.2.1
 let c_5 := x.2.2.2.2.1
 let c_6 := x.2.2.2.2.2.1
 let c_7 := x.2.2.2.2.2.2.1
 let c_8 := x.2.2.2.2.2.2.2.1
 let c_9 := x.2.2.2.2.2.2.2.2.1
 let yNh := x.2.2.2.2.2.2.2.2.2.1
 let yNi := x.2.2.2.2.2.2.2.2.2.2.1
 let yNj := x.2.2.2.2.2.2.2.2.2.2.2.1
 let yNk := x.2.2.2.2.2.2.2.2.2.2.2.2.1
 let yNl := x.2.2.2.2.2.2.2.2.2.2.2.2.2.1
 let yNm := x.2.2.2.2.2.2.2.2.2.2.2.2.2.2.1
 let yNn := x.2.2.2.2.2.2.2.2.2.2.2.2.2.2.2.1
 let zFc := x.2.2.2.2.2.2.2.2.2.2.2.2.2.2.2.2.1
 let yCi := x.2.2.2.2.2.2.2.2.2.2.2.2.2.2.2.2.2.1
 let N19 := x.2.2.2.2.2.2.2.2.2.2.2.2.2.2.2.2.2.2.1
 let zNb := x.2.2.2.2.2.2.2.2.2.2.2.2.2.2.2.2.2.2.2.1
 let zNc := x.2.2.2.2.2.2.2.2.2.2.2.2.2.2.2.2.2.2.2.2.1
 let Sv := x.2.2.2.2.2.2.2.2.2.2.2.2.2.2.2.2.2.2.2.2.2.1
 let zNd := x.2.2.2.2.2.2.2.2.2.2.2.2.2.2.2.2.2.2.2.2.2.2.1
 let zVn := x.2.2.2.2.2.2.2.2.2.2.2.2.2.2.2.2.2.2.2.2.2.2.2.1
 let zNe := x.2.2.2.2.2.2.2.2.2.2.2.2.2.2.2.2.2.2.2.2.2.2.2.2.1
 let Sw := x.2.2.2.2.2.2.2.2.2.2.2.2.2.2.2.2.2.2.2.2.2.2.2.2.2.1
 let yCj := x.2.2.2.2.2.2.2.2.2.2.2.2.2.2.2.2.2.2.2.2.2.2.2.2.2.2.1
 let yFo := x.2.2.2.2.2.2.2.2.2.2.2.2.2.2.2.2.2.2.2.2.2.2.2.2.2.2.2.1
 let yFp := x.2.2.2.2.2.2.2.2.2.2.2.2.2.2.2.2.2.2.2.2.2.2.2.2.2.2.2.2.1
 let Kq := x.2.2.2.2.2.2.2.2.2.2.2.2.2.2.2.2.2.2.2.2.2.2.2.2.2.2.2.2.2.1
 let yJd := x.2.2.2.2.2.2.2.2.2.2.2.2.2.2.2.2.2.2.2.2.2.2.2.2.2.2.2.2.2.2.1
 let yFq := x.2.2.2.2.2.2.2.2.2.2.2.2.2.2.2.2.2.2.2.2.2.2.2.2.2.2.2.2.2.2.2.1
 let yFr := x.2.2.2.2.2.2.2.2.2.2.2.2.2.2.2.2.2.2.2.2.2.2.2.2.2.2.2.2.2.2.2.2.1
 let Cm := x.2.2.2.2.2.2.2.2.2.2.2.2.2.2.2.2.2.2.2.2.2.2.2.2.2.2.2.2.2.2.2.2.2.1
 chk ((decide (0 <= (Kq.length : Int)) && (decide ((Kq.length : Int) = (Kq.length : Int)) && Nat.ble ((Kq.length : Int).toNat * 1) room))) (
  let r35 : List (Bool) := List.replicate (Kq.length : Int).toNat false
  let v36 : Int := (([(c_1, (c_2, (c_3, ()))), (c_4, (c_5, (c_6, ())))].length : Nat) : Int)
  fix (Ko n) n (v36, 0, zFc, yCi, N19, zNb, zNc, Sv, zNd, zVn, zNe, Sw, yCj, yFo, yFp, Kq, yJd, yFq, yFr, Cm, c_1, c_2, c_3, c_4, c_5, c_6, c_7, c_8, c_9, yNh, yNi, yNj, yNk, yNl, yNm, yNn, r35, [(c_1, (c_2, (c_3, ()))), (c_4, (c_5, (c_6, ())))], ()))
def uU (n : Nat) (x : List UInt8 × Bool × Int × Int × Int × Int × Int × List UInt8 × List UInt8 × Bool × Bool × Bool × List ZLn × Bool × List (List dD × Bool × Unit) × List cZ × Bool × List ZFl × List (Bool × Int × Unit) × List ZLn × Unit) : Option (Int × Int × Int × Int × Int × List UInt8 × List UInt8 × Bool × Bool × Bool × List ZLn × Bool × List (List dD × Bool × Unit) × List cZ × Bool × List ZFl × List (Bool × Int × Unit) × List ZLn × Unit) :=
 let s_1 := x.1
 let zMw := x.2.1
 let zMx := x.2.2.1
 let PC4 := x.2.2.2.1
 let N5 := x.2.2.2.2.1
 let zVi := x.2.2.2.2.2.1
 let zVj := x.2.2.2.2.2.2.1
 let Yp := x.2.2.2.2.2.2.2.1
 let zVk := x.2.2.2.2.2.2.2.2.1
 let zVl := x.2.2.2.2.2.2.2.2.2.1
 let zMy := x.2.2.2.2.2.2.2.2.2.2.1
 let Sn := x.2.2.2.2.2.2.2.2.2.2.2.1
 let yFs := x.2.2.2.2.2.2.2.2.2.2.2.2.1
 let yFt := x.2.2.2.2.2.2.2.2.2.2.2.2.2.1
 let yJe := x.2.2.2.2.2.2.2.2.2.2.2.2.2.2.1
 let yJf := x.2.2.2.2.2.2.2.2.2.2.2.2.2.2.2.1
 let yFu := x.2.2.2.2.2.2.2.2.2.2.2.2.2.2.2.2.1
 let yFv := x.2.2.2.2.2.2.2.2.2.2.2.2.2.2.2.2.2.1
 let yLb := x.2.2.2.2.2.2.2.2.2.2.2.2.2.2.2.2.2.2.1
 let zCe := x.2.2.2.2.2.2.2.2.2.2.2.2.2.2.2.2.2.2.2.1
 chk (Nat.ble ((zCe.length + ([(s_1, (zMw, ()))] : List ZLn).length) * 24) room) (
  let r21 : List ZLn := zCe ++ [(s_1, (zMw, ()))]
  some (zMx, PC4, N5, zVi, zVj, Yp, zVk, zVl, zMy, Sn, yFs, yFt, yJe, yJf, yFu, yFv, yLb, r21, ()))
def oI (n : Nat) (x : Int × Int × Int × Int × Int × List UInt8 × List UInt8 × Bool × Bool × Bool × List ZLn × Bool × List (List dD × Bool × Unit) × List cZ × Bool × List ZFl × List (Bool × Int × Unit) × List ZLn × Unit) : Option (Int × Int × Int × Int × Int × List UInt8 × List UInt8 × Bool × Bool × Bool × List ZLn × Bool × List (List dD × Bool × Unit) × List cZ × Bool × List ZFl × List (Bool × Int × Unit) × List ZLn × Unit) :=
 let qO := x.1
 let PC2 := x.2.1
 let N3 := x.2.2.1
 let wL := x.2.2.2.1
 let wM := x.2.2.2.2.1
 let iZ := x.2.2.2.2.2.1
 let wN := x.2.2.2.2.2.2.1
 let xZ := x.2.2.2.2.2.2.2.1
 let wO := x.2.2.2.2.2.2.2.2.1
 let jN := x.2.2.2.2.2.2.2.2.2.1
 let yFw := x.2.2.2.2.2.2.2.2.2.2.1
 let Uz := x.2.2.2.2.2.2.2.2.2.2.2.1
 let zBt := x.2.2.2.2.2.2.2.2.2.2.2.2.1
 let zBu := x.2.2.2.2.2.2.2.2.2.2.2.2.2.1
 let yFx := x.2.2.2.2.2.2.2.2.2.2.2.2.2.2.1
 let yFy := x.2.2.2.2.2.2.2.2.2.2.2.2.2.2.2.1
 let yLc := x.2.2.2.2.2.2.2.2.2.2.2.2.2.2.2.2.1
 let wR := x.2.2.2.2.2.2.2.2.2.2.2.2.2.2.2.2.2.1
 ob (uU n (iZ, xZ, qO, PC2, N3, wL, wM, iZ, wN, xZ, wO, jN, yFw, Uz, zBt, zBu, yFx, yFy, yLc, wR, ())) fun y19 =>
 some (y19.1, y19.2.1, y19.2.2.1, y19.2.2.2.1, y19.2.2.2.2.1, y19.2.2.2.2.2.1, y19.2.2.2.2.2.2.1, y19.2.2.2.2.2.2.2.1, y19.2.2.2.2.2.2.2.2.1, y19.2.2.2.2.2.2.2.2.2.1, y19.2.2.2.2.2.2.2.2.2.2.1, y19.2.2.2.2.2.2.2.2.2.2.2.1, y19.2.2.2.2.2.2.2.2.2.2.2.2.1, y19.2.2.2.2.2.2.2.2.2.2.2.2.2.1, y19.2.2.2.2.2.2.2.2.2.2.2.2.2.2.1, y19.2.2.2.2.2.2.2.2.2.2.2.2.2.2.2.1, y19.2.2.2.2.2.2.2.2.2.2.2.2.2.2.2.2.1, y19.2.2.2.2.2.2.2.2.2.2.2.2.2.2.2.2.2.1, ())
def uV (n : Nat) (x : Int × Int × Int × Int × Int × Int × Bool × Int × List UInt8 × List UInt8 × Int × Int × Int × List (List UInt8 × Int × Unit) × Bool × Bool × Int × Int × Int × Int × Int × List UInt8 × List UInt8 × Bool × Bool × Bool × List ZLn × Bool × List (List dD × Bool × Unit) × List cZ × Bool × List ZFl × List (Bool × Int × Unit) × List ZLn × Unit) : Option (Int × Int × Int × Int × Int × List UInt8 × List UInt8 × Bool × Bool × Bool × List ZLn × Bool × List (List dD × Bool × Unit) × List cZ × Bool × List ZFl × List (Bool × Int × Unit) × List ZLn × Unit) :=
 let zEy := x.1
 let yOv := x.2.1
 let yOw := x.2.2.1
 let yOx := x.2.2.2.1
 let yOy := x.2.2.2.2.1
 let yOz := x.2.2.2.2.2.1
 let yPa := x.2.2.2.2.2.2.1
 let zVe := x.2.2.2.2.2.2.2.1
 let yPb := x.2.2.2.2.2.2.2.2.1
 let yNw := x.2.2.2.2.2.2.2.2.2.1
 let yNx := x.2.2.2.2.2.2.2.2.2.2.1
 let yNy := x.2.2.2.2.2.2.2.2.2.2.2.1
 let yNz := x.2.2.2.2.2.2.2.2.2.2.2.2.1
 let yOa := x.2.2.2.2.2.2.2.2.2.2.2.2.2.1
 let yOb := x.2.2.2.2.2.2.2.2.2.2.2.2.2.2.1
 let yOc := x.2.2.2.2.2.2.2.2.2.2.2.2.2.2.2.1
 let zFc := x.2.2.2.2.2.2.2.2.2.2.2.2.2.2.2.2.1
 let yCi := x.2.2.2.2.2.2.2.2.2.2.2.2.2.2.2.2.2.1
 let N19 := x.2.2.2.2.2.2.2.2.2.2.2.2.2.2.2.2.2.2.1
 let zNb := x.2.2.2.2.2.2.2.2.2.2.2.2.2.2.2.2.2.2.2.1
 let zNc := x.2.2.2.2.2.2.2.2.2.2.2.2.2.2.2.2.2.2.2.2.1
 let Sv := x.2.2.2.2.2.2.2.2.2.2.2.2.2.2.2.2.2.2.2.2.2.1
 let zNd := x.2.2.2.2.2.2.2.2.2.2.2.2.2.2.2.2.2.2.2.2.2.2.1
 let zVn := x.2.2.2.2.2.2.2.2.2.2.2.2.2.2.2.2.2.2.2.2.2.2.2.1
 let zNe := x.2.2.2.2.2.2.2.2.2.2.2.2.2.2.2.2.2.2.2.2.2.2.2.2.1
 let Sw := x.2.2.2.2.2.2.2.2.2.2.2.2.2.2.2.2.2.2.2.2.2.2.2.2.2.1
 let yFz := x.2.2.2.2.2.2.2.2.2.2.2.2.2.2.2.2.2.2.2.2.2.2.2.2.2.2.1
 let yGa := x.2.2.2.2.2.2.2.2.2.2.2.2.2.2.2.2.2.2.2.2.2.2.2.2.2.2.2.1
 let yJg := x.2.2.2.2.2.2.2.2.2.2.2.2.2.2.2.2.2.2.2.2.2.2.2.2.2.2.2.2.1
 let yJh := x.2.2.2.2.2.2.2.2.2.2.2.2.2.2.2.2.2.2.2.2.2.2.2.2.2.2.2.2.2.1
 let yGb := x.2.2.2.2.2.2.2.2.2.2.2.2.2.2.2.2.2.2.2.2.2.2.2.2.2.2.2.2.2.2.1
 let yGc := x.2.2.2.2.2.2.2.2.2.2.2.2.2.2.2.2.2.2.2.2.2.2.2.2.2.2.2.2.2.2.2.1
 let uK := x.2.2.2.2.2.2.2.2.2.2.2.2.2.2.2.2.2.2.2.2.2.2.2.2.2.2.2.2.2.2.2.2.1
 let Cm := x.2.2.2.2.2.2.2.2.2.2.2.2.2.2.2.2.2.2.2.2.2.2.2.2.2.2.2.2.2.2.2.2.2.1
 ob (oI n (zFc, yCi, N19, zNb, zNc, Sv, zNd, zVn, zNe, Sw, yFz, yGa, yJg, yJh, yGb, yGc, uK, Cm, ())) fun y35 =>
 some (y35.1, y35.2.1, y35.2.2.1, y35.2.2.2.1, y35.2.2.2.2.1, y35.2.2.2.2.2.1, y35.2.2.2.2.2.2.1, y35.2.2.2.2.2.2.2.1, y35.2.2.2.2.2.2.2.2.1, y35.2.2.2.2.2.2.2.2.2.1, y35.2.2.2.2.2.2.2.2.2.2.1, y35.2.2.2.2.2.2.2.2.2.2.2.1, y35.2.2.2.2.2.2.2.2.2.2.2.2.1, y35.2.2.2.2.2.2.2.2.2.2.2.2.2.1, y35.2.2.2.2.2.2.2.2.2.2.2.2.2.2.1, y35.2.2.2.2.2.2.2.2.2.2.2.2.2.2.2.1, y35.2.2.2.2.2.2.2.2.2.2.2.2.2.2.2.2.1, y35.2.2.2.2.2.2.2.2.2.2.2.2.2.2.2.2.2.1, ())
def nN (n : Nat) (x : (Bool × List (List dD × Bool × Unit) × List cZ × Unit) × Bool × (Int × Int × Int × Int × Int × List UInt8 × List UInt8 × Bool × Bool × Bool × List (Bool × Int × Unit) × List ZLn × Unit) × List ZFl) : Option ((Int × Int × Int × Int × Int × List UInt8 × List UInt8 × Bool × Bool × Bool × List (Bool × Int × Unit) × List ZLn × Unit) × List ZFl × List ZLn) :=
 let x_0 := x.1
 let zQw := x.2.1
 let b_2 := x.2.2.1
 let t_3 := x.2.2.2
 br (b_2.1 != 1) (
  some (b_2, t_3, [])) (
  br (b_2.2.1 == (x_0.2.2.1.length : Int)) (
   ob (wS n (b_2.1, b_2.2.1, b_2.2.2.1, b_2.2.2.2.1, b_2.2.2.2.2.1, b_2.2.2.2.2.2.1, b_2.2.2.2.2.2.2.1, b_2.2.2.2.2.2.2.2.1, b_2.2.2.2.2.2.2.2.2.1, b_2.2.2.2.2.2.2.2.2.2.1, b_2.2.2.2.2.2.2.2.2.2.2.1, b_2.2.2.2.2.2.2.2.2.2.2.2.1, x_0.1, x_0.2.1, x_0.2.2.1, zQw, t_3, [], ())) fun y1 =>
   ob (Ai n (y1.1, y1.2.1, y1.2.2.1, y1.2.2.2.1, y1.2.2.2.2.1, y1.2.2.2.2.2.1, y1.2.2.2.2.2.2.1, y1.2.2.2.2.2.2.2.1, y1.2.2.2.2.2.2.2.2.1, y1.2.2.2.2.2.2.2.2.2.1, y1.2.2.2.2.2.2.2.2.2.2.1, y1.2.2.2.2.2.2.2.2.2.2.2.1, y1.2.2.2.2.2.2.2.2.2.2.2.2.1, y1.2.2.2.2.2.2.2.2.2.2.2.2.2.1, y1.2.2.2.2.2.2.2.2.2.2.2.2.2.2.1, y1.2.2.2.2.2.2.2.2.2.2.2.2.2.2.2.1, y1.2.2.2.2.2.2.2.2.2.2.2.2.2.2.2.2.1, y1.2.2.2.2.2.2.2.2.2.2.2.2.2.2.2.2.2.1, ())) fun y2 =>
   let v3 := y2.2.2.2.2.2.2.2.2.2.2.2.2.2.2.2.2.1
   some ((y2.1, (y2.2.1, (y2.2.2.1, (y2.2.2.2.1, (y2.2.2.2.2.1, (y2.2.2.2.2.2.1, (y2.2.2.2.2.2.2.1, (y2.2.2.2.2.2.2.2.1, (y2.2.2.2.2.2.2.2.2.1, (y2.2.2.2.2.2.2.2.2.2.1, (y2.2.2.2.2.2.2.2.2.2.2.1, (y2.2.2.2.2.2.2.2.2.2.2.2.1, ())))))))))))), v3, y2.2.2.2.2.2.2.2.2.2.2.2.2.2.2.2.2.2.1)) (
   chk (inB b_2.2.1 x_0.2.2.1.length) (
    let v4 : ((Int × Int × Int × Unit) × (Int × Int × Int × Unit) × Bool × Unit) × Int × List UInt8 × List UInt8 × Int × Int × Int × List (List UInt8 × Int × Unit) × Bool × Bool × Unit := bV (Ty.dflt aC) x_0.2.2.1 b_2.2.1
    ob (mE n (v4.1.1.1, v4.1.1.2.1, v4.1.1.2.2.1, v4.1.2.1.1, v4.1.2.1.2.1, v4.1.2.1.2.2.1, v4.1.2.2.1, v4.2.1, v4.2.2.1, v4.2.2.2.1, v4.2.2.2.2.1, v4.2.2.2.2.2.1, v4.2.2.2.2.2.2.1, v4.2.2.2.2.2.2.2.1, v4.2.2.2.2.2.2.2.2.1, v4.2.2.2.2.2.2.2.2.2.1, b_2.1, b_2.2.1, b_2.2.2.1, b_2.2.2.2.1, b_2.2.2.2.2.1, b_2.2.2.2.2.2.1, b_2.2.2.2.2.2.2.1, b_2.2.2.2.2.2.2.2.1, b_2.2.2.2.2.2.2.2.2.1, b_2.2.2.2.2.2.2.2.2.2.1, b_2.2.2.2.2.2.2.2.2.2.2.1, b_2.2.2.2.2.2.2.2.2.2.2.2.1, x_0.1, x_0.2.1, x_0.2.2.1, zQw, t_3, [], ())) fun y5 =>
    let v6 : Int := IntKind.wrap .i64 (y5.2.2.1 + 1)
    br y5.1 (
     chk ((v4.2.1 == 112)) (
      ob (uV n (v4.1.1.1, v4.1.1.2.1, v4.1.1.2.2.1, v4.1.2.1.1, v4.1.2.1.2.1, v4.1.2.1.2.2.1, v4.1.2.2.1, v4.2.1, v4.2.2.1, v4.2.2.2.1, v4.2.2.2.2.1, v4.2.2.2.2.2.1, v4.2.2.2.2.2.2.1, v4.2.2.2.2.2.2.2.1, v4.2.2.2.2.2.2.2.2.1, v4.2.2.2.2.2.2.2.2.2.1, y5.2.1, v6, y5.2.2.2.1, y5.2.2.2.2.1, y5.2.2.2.2.2.1, y5.2.2.2.2.2.2.1, y5.2.2.2.2.2.2.2.1, y5.2.2.2.2.2.2.2.2.1, y5.2.2.2.2.2.2.2.2.2.1, y5.2.2.2.2.2.2.2.2.2.2.1, y5.2.2.2.2.2.2.2.2.2.2.2.1, y5.2.2.2.2.2.2.2.2.2.2.2.2.1, y5.2.2.2.2.2.2.2.2.2.2.2.2.2.1, y5.2.2.2.2.2.2.2.2.2.2.2.2.2.2.1, y5.2.2.2.2.2.2.2.2.2.2.2.2.2.2.2.1, y5.2.2.2.2.2.2.2.2.2.2.2.2.2.2.2.2.1, y5.2.2.2.2.2.2.2.2.2.2.2.2.2.2.2.2.2.2.1, y5.2.2.2.2.2.2.2.2.2.2.2.2.2.2.2.2.2.1, ())) fun y7 =>
      let v8 := y7.2.2.2.2.2.2.2.2.2.2.2.2.2.2.2.1
      some ((y7.1, (y7.2.1, (y7.2.2.1, (y7.2.2.2.1, (y7.2.2.2.2.1, (y7.2.2.2.2.2.1, (y7.2.2.2.2.2.2.1, (y7.2.2.2.2.2.2.2.1, (y7.2.2.2.2.2.2.2.2.1, (y7.2.2.2.2.2.2.2.2.2.1, (y7.2.2.2.2.2.2.2.2.2.2.2.2.2.2.2.2.1, (y7.2.2.2.2.2.2.2.2.2.2.1, ())))))))))))), v8, y7.2.2.2.2.2.2.2.2.2.2.2.2.2.2.2.2.2.1))) (
     br (v4.2.1 == 123) (
      let v9 : Int := IntKind.wrap .i64 (v4.2.2.2.2.2.1 + 1)
      let v10 := y5.2.2.2.2.2.2.2.2.2.2.2.2.2.2.2.2.1
      some ((y5.2.1, (v9, (y5.2.2.2.1, (y5.2.2.2.2.1, (y5.2.2.2.2.2.1, (y5.2.2.2.2.2.2.1, (y5.2.2.2.2.2.2.2.1, (y5.2.2.2.2.2.2.2.2.1, (y5.2.2.2.2.2.2.2.2.2.1, (y5.2.2.2.2.2.2.2.2.2.2.1, (y5.2.2.2.2.2.2.2.2.2.2.2.2.2.2.2.2.2.2.1, (y5.2.2.2.2.2.2.2.2.2.2.2.1, ())))))))))))), v10, y5.2.2.2.2.2.2.2.2.2.2.2.2.2.2.2.2.2.1)) (
      let v11 := y5.2.2.2.2.2.2.2.2.2.2.2.2.2.2.2.2.1
      some ((y5.2.1, (v6, (y5.2.2.2.1, (y5.2.2.2.2.1, (y5.2.2.2.2.2.1, (y5.2.2.2.2.2.2.1, (y5.2.2.2.2.2.2.2.1, (y5.2.2.2.2.2.2.2.2.1, (y5.2.2.2.2.2.2.2.2.2.1, (y5.2.2.2.2.2.2.2.2.2.2.1, (y5.2.2.2.2.2.2.2.2.2.2.2.2.2.2.2.2.2.2.1, (y5.2.2.2.2.2.2.2.2.2.2.2.1, ())))))))))))), v11, y5.2.2.2.2.2.2.2.2.2.2.2.2.2.2.2.2.2.1))))))
def oJ (n : Nat) (x : Int × List aY × List (Bool) × Bool × List ZLn × List ZFl × Int × Int × Int × List ZBk × List (Bool) × List (List ZLn) × List ZLk × List (Int) × Unit) : Option (Bool × List aY × List (Bool) × Bool × List ZLn × List ZFl × Int × Int × Int × List ZBk × List (Bool) × List (List ZLn) × List ZLk × List (Int) × Unit) :=
 let i_1 := x.1
 let bY := x.2.1
 let dA := x.2.2.1
 let iO := x.2.2.2.1
 let pO := x.2.2.2.2.1
 let iQ := x.2.2.2.2.2.1
 let iR := x.2.2.2.2.2.2.1
 let lG := x.2.2.2.2.2.2.2.1
 let lH := x.2.2.2.2.2.2.2.2.1
 let aS := x.2.2.2.2.2.2.2.2.2.1
 let dP := x.2.2.2.2.2.2.2.2.2.2.1
 let dJ := x.2.2.2.2.2.2.2.2.2.2.2.1
 let bU := x.2.2.2.2.2.2.2.2.2.2.2.2.1
 let fZ := x.2.2.2.2.2.2.2.2.2.2.2.2.2.1
 chk ((inB i_1 (aS.length) && decide (0 + (aS.length) <= aS.length))) (
  chk (decide (0 + i_1.toNat < aS.length)) (
   let v15 : Int := (aS.getD (0 + i_1.toNat) (Ty.dflt aA)).1
   some ((v15 == 4), bY, dA, iO, pO, iQ, iR, lG, lH, aS, dP, dJ, bU, fZ, ())))
def Fe (n : Nat) (g0 : Int × List ZLn × Int × Int × List aY × List (Bool) × Bool × List ZLn × List ZFl × Int × Int × Int × List ZBk × List (Bool) × List (List ZLn) × List ZLk × List (Int) × Unit -> Option (List aY × List (Bool) × Bool × List ZLn × List ZFl × Int × Int × Int × List ZBk × List (Bool) × List (List ZLn) × List ZLk × List (Int) × Unit)) (x55 : Int × List ZLn × Int × Int × List aY × List (Bool) × Bool × List ZLn × List ZFl × Int × Int × Int × List ZBk × List (Bool) × List (List ZLn) × List ZLk × List (Int) × Unit) : Option (List aY × List (Bool) × Bool × List ZLn × List ZFl × Int × Int × Int × List ZBk × List (Bool) × List (List ZLn) × List ZLk × List (Int) × Unit) :=
 let yDz := x55.1
 let zYr := x55.2.1
 let yJi := x55.2.2.1
 let zNf := x55.2.2.2.1
 let yCk := x55.2.2.2.2.1
 let zVo := x55.2.2.2.2.2.1
 let yJj := x55.2.2.2.2.2.2.1
 let yLd := x55.2.2.2.2.2.2.2.1
 let yGd := x55.2.2.2.2.2.2.2.2.1
 let Vb := x55.2.2.2.2.2.2.2.2.2.1
 let zBx := x55.2.2.2.2.2.2.2.2.2.2.1
 let zBy := x55.2.2.2.2.2.2.2.2.2.2.2.1
 let zVc := x55.2.2.2.2.2.2.2.2.2.2.2.2.1
 let zVd := x55.2.2.2.2.2.2.2.2.2.2.2.2.2.1
 let zIk := x55.2.2.2.2.2.2.2.2.2.2.2.2.2.2.1
 let Hf := x55.2.2.2.2.2.2.2.2.2.2.2.2.2.2.2.1
 let zBz := x55.2.2.2.2.2.2.2.2.2.2.2.2.2.2.2.2.1
 br (decide (zNf < yJi)) (
  chk (inB zNf zYr.length) (
   let v73 : List UInt8 × Bool × Unit := bV (Ty.dflt aD) zYr zNf
   chk ((inB yDz (Hf.length) && decide (0 + (Hf.length) <= Hf.length))) (
    chk (decide (0 + yDz.toNat < Hf.length)) (
     none)))) (
  some (yCk, zVo, yJj, yLd, yGd, Vb, zBx, zBy, zVc, zVd, zIk, Hf, zBz, ()))
def sF (n : Nat) (x39 : List ZLn × Int × List aY × List (Bool) × Bool × List ZLn × List ZFl × Int × Int × Int × List ZBk × List (Bool) × List (List ZLn) × List ZLk × List (Int) × Unit) : Option (List aY × List (Bool) × Bool × List ZLn × List ZFl × Int × Int × Int × List ZBk × List (Bool) × List (List ZLn) × List ZLk × List (Int) × Unit) :=
 let yJk := x39.1
 let yLe := x39.2.1
 let yCl := x39.2.2.1
 let zVp := x39.2.2.2.1
 let yJl := x39.2.2.2.2.1
 let yLf := x39.2.2.2.2.2.1
 let yGe := x39.2.2.2.2.2.2.1
 let yGf := x39.2.2.2.2.2.2.2.1
 let yJm := x39.2.2.2.2.2.2.2.2.1
 let yJn := x39.2.2.2.2.2.2.2.2.2.1
 let yLg := x39.2.2.2.2.2.2.2.2.2.2.1
 let yLh := x39.2.2.2.2.2.2.2.2.2.2.2.1
 let yLi := x39.2.2.2.2.2.2.2.2.2.2.2.2.1
 let yLj := x39.2.2.2.2.2.2.2.2.2.2.2.2.2.1
 let yLk := x39.2.2.2.2.2.2.2.2.2.2.2.2.2.2.1
 fix (Fe n) n (yLe, yJk, (yJk.length : Int), 0, yCl, zVp, yJl, yLf, yGe, yGf, yJm, yJn, yLg, yLh, yLi, yLj, yLk, ())
def Fg (n : Nat) (x19 : List ZLn × Int × List aY × List (Bool) × Bool × List ZLn × List ZFl × Int × Int × Int × List ZBk × List (Bool) × List (List ZLn) × List ZLk × List (Int) × Unit) : Option (List aY × List (Bool) × Bool × List ZLn × List ZFl × Int × Int × Int × List ZBk × List (Bool) × List (List ZLn) × List ZLk × List (Int) × Unit) :=
 let yJo := x19.1
 let Oj := x19.2.1
 let zNg := x19.2.2.1
 let Cq := x19.2.2.2.1
 let zYs := x19.2.2.2.2.1
 let yEa := x19.2.2.2.2.2.1
 let zQx := x19.2.2.2.2.2.2.1
 let zQy := x19.2.2.2.2.2.2.2.1
 let zYt := x19.2.2.2.2.2.2.2.2.1
 let zNh := x19.2.2.2.2.2.2.2.2.2.1
 let yEb := x19.2.2.2.2.2.2.2.2.2.2.1
 let yEc := x19.2.2.2.2.2.2.2.2.2.2.2.1
 let yEd := x19.2.2.2.2.2.2.2.2.2.2.2.2.1
 let uK := x19.2.2.2.2.2.2.2.2.2.2.2.2.2.1
 let Cm := x19.2.2.2.2.2.2.2.2.2.2.2.2.2.2.1
 chk (inB Oj Cq.length) (
  let v35 : Bool := bV (Ty.dflt .bool) Cq Oj
  br (!v35) (
   chk ((inB Oj (uK.length) && decide (0 + (uK.length) <= uK.length))) (
    chk (decide (0 + Oj.toNat < uK.length)) (
     let v36 : List UInt8 := (uK.getD (0 + Oj.toNat) (Ty.dflt aO)).1
     ob (jC n v36) fun y37 =>
     let v38 : Int := if (y37.length : Int) > zNh then (y37.length : Int) else zNh
     jn (sF n) (yJo, Oj, zNg, Cq, zYs, yEa, zQx, zQy, zYt, v38, yEb, yEc, yEd, uK, Cm, ())))) (
   jn (sF n) (yJo, Oj, zNg, Cq, zYs, yEa, zQx, zQy, zYt, zNh, yEb, yEc, yEd, uK, Cm, ())))
def jZ (n : Nat) (x : Int × List ZLn × List aY × List (Bool) × Bool × List ZLn × List ZFl × Int × Int × Int × List ZBk × List (Bool) × List (List ZLn) × List ZLk × List (Int) × Unit) : Option (List aY × List (Bool) × Bool × List ZLn × List ZFl × Int × Int × Int × List ZBk × List (Bool) × List (List ZLn) × List ZLk × List (Int) × Unit) :=
 let i_1 := x.1
 let l_2 := x.2.1
 let pI := x.2.2.1
 let qN := x.2.2.2.1
 let Od := x.2.2.2.2.1
 let Sm := x.2.2.2.2.2.1
 let Ej := x.2.2.2.2.2.2.1
 let El := x.2.2.2.2.2.2.2.1
 let Oe := x.2.2.2.2.2.2.2.2.1
 let Em := x.2.2.2.2.2.2.2.2.2.1
 let dP := x.2.2.2.2.2.2.2.2.2.2.1
 let dJ := x.2.2.2.2.2.2.2.2.2.2.2.1
 let bU := x.2.2.2.2.2.2.2.2.2.2.2.2.1
 let fZ := x.2.2.2.2.2.2.2.2.2.2.2.2.2.1
 let Og := x.2.2.2.2.2.2.2.2.2.2.2.2.2.2.1
 let v16 : Int := IntKind.wrap .i64 (i_1 + 1)
 br (v16 == (pI.length : Int)) (
  chk (Nat.ble ((Sm.length + l_2.length) * 24) room) (
   some (pI, qN, Od, Sm ++ l_2, Ej, El, Oe, Em, dP, dJ, bU, fZ, Og, ()))) (
  chk (inB v16 pI.length) (
   let v17 : (Bool × List (List dD × Bool × Unit) × List cZ × Unit) × Bool × List (List UInt8) × Bool × Unit := bV (Ty.dflt aG) pI v16
   br ((l_2.length : Int) == 0) (
    some (pI, qN, Od, Sm, Ej, El, Oe, Em, dP, dJ, bU, fZ, Og, ())) (
    ob (oJ n (v16, pI, qN, Od, Sm, Ej, El, Oe, Em, dP, dJ, bU, fZ, Og, ())) fun y18 =>
    br y18.1 (
     some (y18.2.1, y18.2.2.1, y18.2.2.2.1, y18.2.2.2.2.1, y18.2.2.2.2.2.1, y18.2.2.2.2.2.2.1, y18.2.2.2.2.2.2.2.1, y18.2.2.2.2.2.2.2.2.1, y18.2.2.2.2.2.2.2.2.2.1, y18.2.2.2.2.2.2.2.2.2.2.1, y18.2.2.2.2.2.2.2.2.2.2.2.1, y18.2.2.2.2.2.2.2.2.2.2.2.2.1, y18.2.2.2.2.2.2.2.2.2.2.2.2.2.1, ())) (
     br v17.2.2.2.1 (
      some (y18.2.1, y18.2.2.1, y18.2.2.2.1, y18.2.2.2.2.1, y18.2.2.2.2.2.1, y18.2.2.2.2.2.2.1, y18.2.2.2.2.2.2.2.1, y18.2.2.2.2.2.2.2.2.1, y18.2.2.2.2.2.2.2.2.2.1, y18.2.2.2.2.2.2.2.2.2.2.1, y18.2.2.2.2.2.2.2.2.2.2.2.1, y18.2.2.2.2.2.2.2.2.2.2.2.2.1, y18.2.2.2.2.2.2.2.2.2.2.2.2.2.1, ())) (
      br (decide ((v17.2.2.1.length : Int) > 0)) (
       some (y18.2.1, y18.2.2.1, y18.2.2.2.1, y18.2.2.2.2.1, y18.2.2.2.2.2.1, y18.2.2.2.2.2.2.1, y18.2.2.2.2.2.2.2.1, y18.2.2.2.2.2.2.2.2.1, y18.2.2.2.2.2.2.2.2.2.1, y18.2.2.2.2.2.2.2.2.2.2.1, y18.2.2.2.2.2.2.2.2.2.2.2.1, y18.2.2.2.2.2.2.2.2.2.2.2.2.1, y18.2.2.2.2.2.2.2.2.2.2.2.2.2.1, ())) (
       jn (Fg n) (l_2, v16, y18.2.1, y18.2.2.1, y18.2.2.2.1, y18.2.2.2.2.1, y18.2.2.2.2.2.1, y18.2.2.2.2.2.2.1, y18.2.2.2.2.2.2.2.1, y18.2.2.2.2.2.2.2.2.1, y18.2.2.2.2.2.2.2.2.2.1, y18.2.2.2.2.2.2.2.2.2.2.1, y18.2.2.2.2.2.2.2.2.2.2.2.1, y18.2.2.2.2.2.2.2.2.2.2.2.2.1, y18.2.2.2.2.2.2.2.2.2.2.2.2.2.1, ())))))))
def kL (n : Nat) (x : Int × List aY × List (Bool) × Bool × List ZLn × List ZFl × Int × Int × Int × List ZBk × List (Bool) × List (List ZLn) × List ZLk × List (Int) × Unit) : Option (Bool × List aY × List (Bool) × Bool × List ZLn × List ZFl × Int × Int × Int × List ZBk × List (Bool) × List (List ZLn) × List ZLk × List (Int) × Unit) :=
 let i_1 := x.1
 let bY := x.2.1
 let dA := x.2.2.1
 let iO := x.2.2.2.1
 let pO := x.2.2.2.2.1
 let iQ := x.2.2.2.2.2.1
 let iR := x.2.2.2.2.2.2.1
 let lG := x.2.2.2.2.2.2.2.1
 let lH := x.2.2.2.2.2.2.2.2.1
 let aS := x.2.2.2.2.2.2.2.2.2.1
 let dP := x.2.2.2.2.2.2.2.2.2.2.1
 let dJ := x.2.2.2.2.2.2.2.2.2.2.2.1
 let bU := x.2.2.2.2.2.2.2.2.2.2.2.2.1
 let fZ := x.2.2.2.2.2.2.2.2.2.2.2.2.2.1
 chk ((inB i_1 (aS.length) && decide (0 + (aS.length) <= aS.length))) (
  chk (decide (0 + i_1.toNat < aS.length)) (
   let v15 : Int := (aS.getD (0 + i_1.toNat) (Ty.dflt aA)).1
   some ((v15 == 4), bY, dA, iO, pO, iQ, iR, lG, lH, aS, dP, dJ, bU, fZ, ())))
def oK (n : Nat) (x : Int × List aY × List (Bool) × Bool × List ZLn × List ZFl × Int × Int × Int × List ZBk × List (Bool) × List (List ZLn) × List ZLk × List (Int) × Unit) : Option (List aY × List (Bool) × Bool × List ZLn × List ZFl × Int × Int × Int × List ZBk × List (Bool) × List (List ZLn) × List ZLk × List (Int) × Unit) :=
 let i_1 := x.1
 let bY := x.2.1
 let dA := x.2.2.1
 let iO := x.2.2.2.1
 let pO := x.2.2.2.2.1
 let iQ := x.2.2.2.2.2.1
 let iR := x.2.2.2.2.2.2.1
 let lG := x.2.2.2.2.2.2.2.1
 let lH := x.2.2.2.2.2.2.2.2.1
 let aS := x.2.2.2.2.2.2.2.2.2.1
 let dP := x.2.2.2.2.2.2.2.2.2.2.1
 let dJ := x.2.2.2.2.2.2.2.2.2.2.2.1
 let bU := x.2.2.2.2.2.2.2.2.2.2.2.2.1
 let fZ := x.2.2.2.2.2.2.2.2.2.2.2.2.2.1
 chk ((inB i_1 (aS.length) && decide (0 + (aS.length) <= aS.length))) (
  chk (decide (0 + i_1.toNat < aS.length)) (
   let r15 : List ZBk := aS.set (0 + i_1.toNat) (4, ((aS.getD (0 + i_1.toNat) (Ty.dflt aA)).2.1, ((aS.getD (0 + i_1.toNat) (Ty.dflt aA)).2.2.1, ((aS.getD (0 + i_1.toNat) (Ty.dflt aA)).2.2.2.1, ((aS.getD (0 + i_1.toNat) (Ty.dflt aA)).2.2.2.2.1, ((aS.getD (0 + i_1.toNat) (Ty.dflt aA)).2.2.2.2.2.1, ((aS.getD (0 + i_1.toNat) (Ty.dflt aA)).2.2.2.2.2.2.1, ((aS.getD (0 + i_1.toNat) (Ty.dflt aA)).2.2.2.2.2.2.2.1, ((aS.getD (0 + i_1.toNat) (Ty.dflt aA)).2.2.2.2.2.2.2.2.1, ((aS.getD (0 + i_1.toNat) (Ty.dflt aA)).2.2.2.2.2.2.2.2.2.1, ((aS.getD (0 + i_1.toNat) (Ty.dflt aA)).2.2.2.2.2.2.2.2.2.2.1, ((aS.getD (0 + i_1.toNat) (Ty.dflt aA)).2.2.2.2.2.2.2.2.2.2.2.1, ()))))))))))))
   chk ((inB i_1 (bU.length) && decide (0 + (bU.length) <= bU.length))) (
    chk (decide (0 + i_1.toNat < bU.length)) (
     let r16 : List ZLk := bU.set (0 + i_1.toNat) ([], ((bU.getD (0 + i_1.toNat) (Ty.dflt aO)).2.1, ((bU.getD (0 + i_1.toNat) (Ty.dflt aO)).2.2.1, ())))
     let v17 : Int := IntKind.wrap .i64 (i_1 + 1)
     let v18 : Int := ((r16.length : Nat) : Int)
     br (decide (v17 < v18)) (
      let v19 : Int := IntKind.wrap .i64 (i_1 + 1)
      let v20 : Int := IntKind.wrap .i64 (i_1 + 1)
      chk ((inB v20 (r16.length) && decide (0 + (r16.length) <= r16.length))) (
       chk (decide (0 + v20.toNat < r16.length)) (
        ob (wK n ((r16.getD (0 + v20.toNat) (Ty.dflt aO)).1, ((r16.getD (0 + v20.toNat) (Ty.dflt aO)).2.1, ((r16.getD (0 + v20.toNat) (Ty.dflt aO)).2.2.1, ())))) fun y21 =>
        chk ((inB v19 (r16.length) && decide (0 + (r16.length) <= r16.length))) (
         chk (decide (0 + v19.toNat < r16.length)) (
          let r22 : List ZLk := r16.set (0 + v19.toNat) y21
          some (bY, dA, iO, pO, iQ, iR, lG, lH, r15, dP, dJ, r22, fZ, ())))))) (
      some (bY, dA, iO, pO, iQ, iR, lG, lH, r15, dP, dJ, r16, fZ, ()))))))
def pQ (n : Nat) (x : Int × Int × List aY × List (Bool) × Bool × List ZLn × List ZFl × Int × Int × Int × List ZBk × List (Bool) × List (List ZLn) × List ZLk × List (Int) × Unit) : Option (List aY × List (Bool) × Bool × List ZLn × List ZFl × Int × Int × Int × List ZBk × List (Bool) × List (List ZLn) × List ZLk × List (Int) × Unit) :=
 let i_1 := x.1
 let Ei := x.2.1
 let pI := x.2.2.1
 let qN := x.2.2.2.1
 let Od := x.2.2.2.2.1
 let Sm := x.2.2.2.2.2.1
 let Ej := x.2.2.2.2.2.2.1
 let El := x.2.2.2.2.2.2.2.1
 let Oe := x.2.2.2.2.2.2.2.2.1
 let Em := x.2.2.2.2.2.2.2.2.2.1
 let dP := x.2.2.2.2.2.2.2.2.2.2.1
 let dJ := x.2.2.2.2.2.2.2.2.2.2.2.1
 let bU := x.2.2.2.2.2.2.2.2.2.2.2.2.1
 let fZ := x.2.2.2.2.2.2.2.2.2.2.2.2.2.1
 let Og := x.2.2.2.2.2.2.2.2.2.2.2.2.2.2.1
 ob (oK n (i_1, pI, qN, Od, Sm, Ej, El, Oe, Em, dP, dJ, bU, fZ, Og, ())) fun y16 =>
 br (Ei != 0) (
  chk ((inB i_1 (y16.2.2.2.2.2.2.2.2.2.2.2.2.1.length) && decide (0 + (y16.2.2.2.2.2.2.2.2.2.2.2.2.1.length) <= y16.2.2.2.2.2.2.2.2.2.2.2.2.1.length))) (
   chk (decide (0 + i_1.toNat < y16.2.2.2.2.2.2.2.2.2.2.2.2.1.length)) (
    let r17 : List (Int) := y16.2.2.2.2.2.2.2.2.2.2.2.2.1.set (0 + i_1.toNat) Ei
    br (!y16.2.2.1) (
     some (y16.1, y16.2.1, y16.2.2.1, y16.2.2.2.1, y16.2.2.2.2.1, y16.2.2.2.2.2.1, y16.2.2.2.2.2.2.1, y16.2.2.2.2.2.2.2.1, y16.2.2.2.2.2.2.2.2.1, y16.2.2.2.2.2.2.2.2.2.1, y16.2.2.2.2.2.2.2.2.2.2.1, y16.2.2.2.2.2.2.2.2.2.2.2.1, r17, ())) (
     none)))) (
  br (!y16.2.2.1) (
   some (y16.1, y16.2.1, y16.2.2.1, y16.2.2.2.1, y16.2.2.2.2.1, y16.2.2.2.2.2.1, y16.2.2.2.2.2.2.1, y16.2.2.2.2.2.2.2.1, y16.2.2.2.2.2.2.2.2.1, y16.2.2.2.2.2.2.2.2.2.1, y16.2.2.2.2.2.2.2.2.2.2.1, y16.2.2.2.2.2.2.2.2.2.2.2.1, y16.2.2.2.2.2.2.2.2.2.2.2.2.1, ())) (
   none))
def kZ (n : Nat) (x : Int × List aY × List (Bool) × Bool × List ZLn × List ZFl × Int × Int × Int × List ZBk × List (Bool) × List (List ZLn) × List ZLk × List (Int) × Unit) : Option (List aY × List (Bool) × Bool × List ZLn × List ZFl × Int × Int × Int × List ZBk × List (Bool) × List (List ZLn) × List ZLk × List (Int) × Unit) :=
 let i_1 := x.1
 let bY := x.2.1
 let dA := x.2.2.1
 let iO := x.2.2.2.1
 let pO := x.2.2.2.2.1
 let iQ := x.2.2.2.2.2.1
 let iR := x.2.2.2.2.2.2.1
 let lG := x.2.2.2.2.2.2.2.1
 let lH := x.2.2.2.2.2.2.2.2.1
 let aS := x.2.2.2.2.2.2.2.2.2.1
 let dP := x.2.2.2.2.2.2.2.2.2.2.1
 let dJ := x.2.2.2.2.2.2.2.2.2.2.2.1
 let bU := x.2.2.2.2.2.2.2.2.2.2.2.2.1
 let fZ := x.2.2.2.2.2.2.2.2.2.2.2.2.2.1
 chk (inB i_1 bY.length) (
  let v15 : (Bool × List (List dD × Bool × Unit) × List cZ × Unit) × Bool × List (List UInt8) × Bool × Unit := bV (Ty.dflt aG) bY i_1
  chk ((inB i_1 (aS.length) && decide (0 + (aS.length) <= aS.length))) (
   chk (decide (0 + i_1.toNat < aS.length)) (
    ob (nN n (v15.1, v15.2.1, ((aS.getD (0 + i_1.toNat) (Ty.dflt aA)).1, ((aS.getD (0 + i_1.toNat) (Ty.dflt aA)).2.1, ((aS.getD (0 + i_1.toNat) (Ty.dflt aA)).2.2.1, ((aS.getD (0 + i_1.toNat) (Ty.dflt aA)).2.2.2.1, ((aS.getD (0 + i_1.toNat) (Ty.dflt aA)).2.2.2.2.1, ((aS.getD (0 + i_1.toNat) (Ty.dflt aA)).2.2.2.2.2.1, ((aS.getD (0 + i_1.toNat) (Ty.dflt aA)).2.2.2.2.2.2.1, ((aS.getD (0 + i_1.toNat) (Ty.dflt aA)).2.2.2.2.2.2.2.1, ((aS.getD (0 + i_1.toNat) (Ty.dflt aA)).2.2.2.2.2.2.2.2.1, ((aS.getD (0 + i_1.toNat) (Ty.dflt aA)).2.2.2.2.2.2.2.2.2.1, ((aS.getD (0 + i_1.toNat) (Ty.dflt aA)).2.2.2.2.2.2.2.2.2.2.1, ((aS.getD (0 + i_1.toNat) (Ty.dflt aA)).2.2.2.2.2.2.2.2.2.2.2.1, ())))))))))))), iQ)) fun y16 =>
    chk ((inB i_1 (aS.length) && decide (0 + (aS.length) <= aS.length))) (
     chk (decide (0 + i_1.toNat < aS.length)) (
      let r17 : List ZBk := aS.set (0 + i_1.toNat) y16.1
      let v18 : Int := IntKind.wrap .i64 (lG + 1)
      ob (jZ n (i_1, y16.2.2, bY, dA, iO, pO, y16.2.1, iR, v18, lH, r17, dP, dJ, bU, fZ, ())) fun y19 =>
      ob (kL n (i_1, y19.1, y19.2.1, y19.2.2.1, y19.2.2.2.1, y19.2.2.2.2.1, y19.2.2.2.2.2.1, y19.2.2.2.2.2.2.1, y19.2.2.2.2.2.2.2.1, y19.2.2.2.2.2.2.2.2.1, y19.2.2.2.2.2.2.2.2.2.1, y19.2.2.2.2.2.2.2.2.2.2.1, y19.2.2.2.2.2.2.2.2.2.2.2.1, y19.2.2.2.2.2.2.2.2.2.2.2.2.1, ())) fun y20 =>
      br y20.1 (
       ob (pQ n (i_1, y16.1.2.2.2.1, y20.2.1, y20.2.2.1, y20.2.2.2.1, y20.2.2.2.2.1, y20.2.2.2.2.2.1, y20.2.2.2.2.2.2.1, y20.2.2.2.2.2.2.2.1, y20.2.2.2.2.2.2.2.2.1, y20.2.2.2.2.2.2.2.2.2.1, y20.2.2.2.2.2.2.2.2.2.2.1, y20.2.2.2.2.2.2.2.2.2.2.2.1, y20.2.2.2.2.2.2.2.2.2.2.2.2.1, y20.2.2.2.2.2.2.2.2.2.2.2.2.2.1, ())) fun y21 =>
       some (y21.1, y21.2.1, y21.2.2.1, y21.2.2.2.1, y21.2.2.2.2.1, y21.2.2.2.2.2.1, y21.2.2.2.2.2.2.1, y21.2.2.2.2.2.2.2.1, y21.2.2.2.2.2.2.2.2.1, y21.2.2.2.2.2.2.2.2.2.1, y21.2.2.2.2.2.2.2.2.2.2.1, y21.2.2.2.2.2.2.2.2.2.2.2.1, y21.2.2.2.2.2.2.2.2.2.2.2.2.1, ())) (
       some (y20.2.1, y20.2.2.1, y20.2.2.2.1, y20.2.2.2.2.1, y20.2.2.2.2.2.1, y20.2.2.2.2.2.2.1, y20.2.2.2.2.2.2.2.1, y20.2.2.2.2.2.2.2.2.1, y20.2.2.2.2.2.2.2.2.2.1, y20.2.2.2.2.2.2.2.2.2.2.1, y20.2.2.2.2.2.2.2.2.2.2.2.1, y20.2.2.2.2.2.2.2.2.2.2.2.2.1, y20.2.2.2.2.2.2.2.2.2.2.2.2.2.1, ())))))))
def mQ (n : Nat) (x : Int × List aY × List (Bool) × Bool × List ZLn × List ZFl × Int × Int × Int × List ZBk × List (Bool) × List (List ZLn) × List ZLk × List (Int) × Unit) : Option (List UInt8 × Bool × Bool × Bool × List aY × List (Bool) × Bool × List ZLn × List ZFl × Int × Int × Int × List ZBk × List (Bool) × List (List ZLn) × List ZLk × List (Int) × Unit) :=
 let i_1 := x.1
 let bY := x.2.1
 let dA := x.2.2.1
 let iO := x.2.2.2.1
 let pO := x.2.2.2.2.1
 let iQ := x.2.2.2.2.2.1
 let iR := x.2.2.2.2.2.2.1
 let lG := x.2.2.2.2.2.2.2.1
 let lH := x.2.2.2.2.2.2.2.2.1
 let aS := x.2.2.2.2.2.2.2.2.2.1
 let dP := x.2.2.2.2.2.2.2.2.2.2.1
 let dJ := x.2.2.2.2.2.2.2.2.2.2.2.1
 let bU := x.2.2.2.2.2.2.2.2.2.2.2.2.1
 let fZ := x.2.2.2.2.2.2.2.2.2.2.2.2.2.1
 chk (inB i_1 bY.length) (
  let v15 : (Bool × List (List dD × Bool × Unit) × List cZ × Unit) × Bool × List (List UInt8) × Bool × Unit := bV (Ty.dflt aG) bY i_1
  br ((v15.2.2.1.length : Int) == 0) (
   chk ((inB i_1 (bU.length) && decide (0 + (bU.length) <= bU.length))) (
    chk (decide (0 + i_1.toNat < bU.length)) (
     ob (nM n ((bU.getD (0 + i_1.toNat) (Ty.dflt aO)).1, ((bU.getD (0 + i_1.toNat) (Ty.dflt aO)).2.1, ((bU.getD (0 + i_1.toNat) (Ty.dflt aO)).2.2.1, ())))) fun y16 =>
     chk ((inB i_1 (bU.length) && decide (0 + (bU.length) <= bU.length))) (
      chk (decide (0 + i_1.toNat < bU.length)) (
       let r17 : List ZLk := bU.set (0 + i_1.toNat) y16.1
       some (y16.2.1.1, y16.2.1.2.1, y16.2.2.1, y16.2.2.2, bY, dA, iO, pO, iQ, iR, lG, lH, aS, dP, dJ, r17, fZ, ())))))) (
   chk ((inB i_1 (dJ.length) && decide (0 + (dJ.length) <= dJ.length))) (
    chk (decide (0 + i_1.toNat < dJ.length)) (
     let v18 : List ZLn := dJ.getD (0 + i_1.toNat) (Ty.dflt (.slice aD))
     br ((v18.length : Int) == 0) (
      some ([], false, false, false, bY, dA, iO, pO, iQ, iR, lG, lH, aS, dP, dJ, bU, fZ, ())) (
      chk ((decide (0 <= (1 : Int)) && decide ((1 : Int) <= (v18.length : Int)))) (
       chk ((inB i_1 (dJ.length) && decide (0 + (dJ.length) <= dJ.length))) (
        chk (decide (0 + i_1.toNat < dJ.length)) (
         let r19 : List (List ZLn) := dJ.set (0 + i_1.toNat) (v18.drop (1 : Int).toNat)
         chk (inB 0 v18.length) (
          let v20 : List UInt8 × Bool × Unit := bV (Ty.dflt aD) v18 0
          some (v20.1, v20.2.1, ((v18.length : Int) == 1), true, bY, dA, iO, pO, iQ, iR, lG, lH, aS, dP, r19, bU, fZ, ()))))))))))
def Hr (n : Nat) (x : (Int × Int × Int × Int × Int × List UInt8 × List UInt8 × Bool × Bool × Bool × List (Bool × Int × Unit) × List ZLn × Unit) × (List UInt8 × Bool × Unit) × Bool) : Option (Int × Int × Int × Int × Int × List UInt8 × List UInt8 × Bool × Bool × Bool × List (Bool × Int × Unit) × List ZLn × Unit) :=
 let b_0 := x.1
 let l_1 := x.2.1
 let zNi := x.2.2
 br (b_0.1 == 0) (
  let v1 : Int := IntKind.wrap .i64 (b_0.2.2.1 + 1)
  some (1, (0, (v1, (b_0.2.2.2.1, (b_0.2.2.2.2.1, (l_1.1, (b_0.2.2.2.2.2.2.1, (l_1.2.1, (zNi, b_0.2.2.2.2.2.2.2.2.2)))))))))) (
  br (b_0.1 == 2) (
   let v2 : Int := IntKind.wrap .i64 (b_0.2.1 + 1)
   let v3 : Int := IntKind.wrap .i64 (b_0.2.2.1 + 1)
   some (1, (v2, (v3, (b_0.2.2.2.1, (b_0.2.2.2.2.1, (l_1.1, (b_0.2.2.2.2.2.2.1, (l_1.2.1, (zNi, b_0.2.2.2.2.2.2.2.2.2)))))))))) (
   br (b_0.1 == 3) (
    let v4 : Int := IntKind.wrap .i64 (b_0.2.1 + 1)
    chk (decide (b_0.2.2.2.2.2.1.length + ([10] : List UInt8).length <= Jg)) (
     chk (decide ((b_0.2.2.2.2.2.1 ++ [10]).length + l_1.1.length <= Jg)) (
      let v5 : List UInt8 := (b_0.2.2.2.2.2.1 ++ [10]) ++ l_1.1
      let v6 : Int := IntKind.wrap .i64 (b_0.2.2.1 + 1)
      some (1, (v4, (v6, (b_0.2.2.2.1, (b_0.2.2.2.2.1, (v5, (b_0.2.2.2.2.2.2.1, (l_1.2.1, (zNi, b_0.2.2.2.2.2.2.2.2.2)))))))))))) (
    some b_0)))
def iM (n : Nat) (x : List aY × List (Bool) × Bool × List ZBk × List (Bool) × List (List ZLn) × List ZLk × List ZLn × List ZFl × List (Int) × Int × Int × Int × Unit) : Option (List aY × List (Bool) × Bool × List ZBk × List (Bool) × List (List ZLn) × List ZLk × List ZLn × List ZFl × List (Int) × Int × Int × Int × Unit) :=
 let m_0 := x
 ob (gM n m_0) fun y1 =>
 br (y1 == (-1)) (
  some m_0) (
  ob (kX n (m_0.1, m_0.2.1, m_0.2.2.1, m_0.2.2.2.1, m_0.2.2.2.2.1, m_0.2.2.2.2.2.1, m_0.2.2.2.2.2.2.1, m_0.2.2.2.2.2.2.2.1, m_0.2.2.2.2.2.2.2.2.1, m_0.2.2.2.2.2.2.2.2.2.1, m_0.2.2.2.2.2.2.2.2.2.2.1, m_0.2.2.2.2.2.2.2.2.2.2.2.1, m_0.2.2.2.2.2.2.2.2.2.2.2.2.1, ())) fun y2 =>
  let v3 : Int := IntKind.wrap .i64 (y2.2.2.2.2.2.1 + 1)
  chk ((inB y1 (y2.2.2.2.2.2.2.2.2.2.1.length) && decide (0 + (y2.2.2.2.2.2.2.2.2.2.1.length) <= y2.2.2.2.2.2.2.2.2.2.1.length))) (
   chk (decide (0 + y1.toNat < y2.2.2.2.2.2.2.2.2.2.1.length)) (
    br (!(y2.2.2.2.2.2.2.2.2.2.1.getD (0 + y1.toNat) (Ty.dflt .bool))) (
     ob (mD n (y1, y2.1, y2.2.1, y2.2.2.1, y2.2.2.2.1, y2.2.2.2.2.1, v3, y2.2.2.2.2.2.2.1, y2.2.2.2.2.2.2.2.1, y2.2.2.2.2.2.2.2.2.1, y2.2.2.2.2.2.2.2.2.2.1, y2.2.2.2.2.2.2.2.2.2.2.1, y2.2.2.2.2.2.2.2.2.2.2.2.1, y2.2.2.2.2.2.2.2.2.2.2.2.2.1, ())) fun y4 =>
     some (y4.1, (y4.2.1, (y4.2.2.1, (y4.2.2.2.2.2.2.2.2.1, (y4.2.2.2.2.2.2.2.2.2.1, (y4.2.2.2.2.2.2.2.2.2.2.1, (y4.2.2.2.2.2.2.2.2.2.2.2.1, (y4.2.2.2.1, (y4.2.2.2.2.1, (y4.2.2.2.2.2.2.2.2.2.2.2.2.1, (y4.2.2.2.2.2.1, (y4.2.2.2.2.2.2.1, (y4.2.2.2.2.2.2.2.1, ())))))))))))))) (
     chk ((inB y1 (y2.2.2.2.2.2.2.2.2.1.length) && decide (0 + (y2.2.2.2.2.2.2.2.2.1.length) <= y2.2.2.2.2.2.2.2.2.1.length))) (
      chk (decide (0 + y1.toNat < y2.2.2.2.2.2.2.2.2.1.length)) (
       let v5 : Int := (y2.2.2.2.2.2.2.2.2.1.getD (0 + y1.toNat) (Ty.dflt aA)).1
       br (v5 == 1) (
        ob (kZ n (y1, y2.1, y2.2.1, y2.2.2.1, y2.2.2.2.1, y2.2.2.2.2.1, v3, y2.2.2.2.2.2.2.1, y2.2.2.2.2.2.2.2.1, y2.2.2.2.2.2.2.2.2.1, y2.2.2.2.2.2.2.2.2.2.1, y2.2.2.2.2.2.2.2.2.2.2.1, y2.2.2.2.2.2.2.2.2.2.2.2.1, y2.2.2.2.2.2.2.2.2.2.2.2.2.1, ())) fun y6 =>
        some (y6.1, (y6.2.1, (y6.2.2.1, (y6.2.2.2.2.2.2.2.2.1, (y6.2.2.2.2.2.2.2.2.2.1, (y6.2.2.2.2.2.2.2.2.2.2.1, (y6.2.2.2.2.2.2.2.2.2.2.2.1, (y6.2.2.2.1, (y6.2.2.2.2.1, (y6.2.2.2.2.2.2.2.2.2.2.2.2.1, (y6.2.2.2.2.2.1, (y6.2.2.2.2.2.2.1, (y6.2.2.2.2.2.2.2.1, ())))))))))))))) (
        ob (mQ n (y1, y2.1, y2.2.1, y2.2.2.1, y2.2.2.2.1, y2.2.2.2.2.1, v3, y2.2.2.2.2.2.2.1, y2.2.2.2.2.2.2.2.1, y2.2.2.2.2.2.2.2.2.1, y2.2.2.2.2.2.2.2.2.2.1, y2.2.2.2.2.2.2.2.2.2.2.1, y2.2.2.2.2.2.2.2.2.2.2.2.1, y2.2.2.2.2.2.2.2.2.2.2.2.2.1, ())) fun y7 =>
        br y7.2.2.2.1 (
         chk ((inB y1 (y7.2.2.2.2.2.2.2.2.2.2.2.2.1.length) && decide (0 + (y7.2.2.2.2.2.2.2.2.2.2.2.2.1.length) <= y7.2.2.2.2.2.2.2.2.2.2.2.2.1.length))) (
          chk (decide (0 + y1.toNat < y7.2.2.2.2.2.2.2.2.2.2.2.2.1.length)) (
           ob (Hr n (((y7.2.2.2.2.2.2.2.2.2.2.2.2.1.getD (0 + y1.toNat) (Ty.dflt aA)).1, ((y7.2.2.2.2.2.2.2.2.2.2.2.2.1.getD (0 + y1.toNat) (Ty.dflt aA)).2.1, ((y7.2.2.2.2.2.2.2.2.2.2.2.2.1.getD (0 + y1.toNat) (Ty.dflt aA)).2.2.1, ((y7.2.2.2.2.2.2.2.2.2.2.2.2.1.getD (0 + y1.toNat) (Ty.dflt aA)).2.2.2.1, ((y7.2.2.2.2.2.2.2.2.2.2.2.2.1.getD (0 + y1.toNat) (Ty.dflt aA)).2.2.2.2.1, ((y7.2.2.2.2.2.2.2.2.2.2.2.2.1.getD (0 + y1.toNat) (Ty.dflt aA)).2.2.2.2.2.1, ((y7.2.2.2.2.2.2.2.2.2.2.2.2.1.getD (0 + y1.toNat) (Ty.dflt aA)).2.2.2.2.2.2.1, ((y7.2.2.2.2.2.2.2.2.2.2.2.2.1.getD (0 + y1.toNat) (Ty.dflt aA)).2.2.2.2.2.2.2.1, ((y7.2.2.2.2.2.2.2.2.2.2.2.2.1.getD (0 + y1.toNat) (Ty.dflt aA)).2.2.2.2.2.2.2.2.1, ((y7.2.2.2.2.2.2.2.2.2.2.2.2.1.getD (0 + y1.toNat) (Ty.dflt aA)).2.2.2.2.2.2.2.2.2.1, ((y7.2.2.2.2.2.2.2.2.2.2.2.2.1.getD (0 + y1.toNat) (Ty.dflt aA)).2.2.2.2.2.2.2.2.2.2.1, ((y7.2.2.2.2.2.2.2.2.2.2.2.2.1.getD (0 + y1.toNat) (Ty.dflt aA)).2.2.2.2.2.2.2.2.2.2.2.1, ())))))))))))), (y7.1, (y7.2.1, ())), y7.2.2.1)) fun y8 =>
           chk ((inB y1 (y7.2.2.2.2.2.2.2.2.2.2.2.2.1.length) && decide (0 + (y7.2.2.2.2.2.2.2.2.2.2.2.2.1.length) <= y7.2.2.2.2.2.2.2.2.2.2.2.2.1.length))) (
            chk (decide (0 + y1.toNat < y7.2.2.2.2.2.2.2.2.2.2.2.2.1.length)) (
             let r9 : List ZBk := y7.2.2.2.2.2.2.2.2.2.2.2.2.1.set (0 + y1.toNat) y8
             some (y7.2.2.2.2.1, (y7.2.2.2.2.2.1, (y7.2.2.2.2.2.2.1, (r9, (y7.2.2.2.2.2.2.2.2.2.2.2.2.2.1, (y7.2.2.2.2.2.2.2.2.2.2.2.2.2.2.1, (y7.2.2.2.2.2.2.2.2.2.2.2.2.2.2.2.1, (y7.2.2.2.2.2.2.2.1, (y7.2.2.2.2.2.2.2.2.1, (y7.2.2.2.2.2.2.2.2.2.2.2.2.2.2.2.2.1, (y7.2.2.2.2.2.2.2.2.2.1, (y7.2.2.2.2.2.2.2.2.2.2.1, (y7.2.2.2.2.2.2.2.2.2.2.2.1, ())))))))))))))))))) (
         ob (kY n (y1, 0, y7.2.2.2.2.1, y7.2.2.2.2.2.1, y7.2.2.2.2.2.2.1, y7.2.2.2.2.2.2.2.1, y7.2.2.2.2.2.2.2.2.1, y7.2.2.2.2.2.2.2.2.2.1, y7.2.2.2.2.2.2.2.2.2.2.1, y7.2.2.2.2.2.2.2.2.2.2.2.1, y7.2.2.2.2.2.2.2.2.2.2.2.2.1, y7.2.2.2.2.2.2.2.2.2.2.2.2.2.1, y7.2.2.2.2.2.2.2.2.2.2.2.2.2.2.1, y7.2.2.2.2.2.2.2.2.2.2.2.2.2.2.2.1, y7.2.2.2.2.2.2.2.2.2.2.2.2.2.2.2.2.1, ())) fun y10 =>
         some (y10.1, (y10.2.1, (y10.2.2.1, (y10.2.2.2.2.2.2.2.2.1, (y10.2.2.2.2.2.2.2.2.2.1, (y10.2.2.2.2.2.2.2.2.2.2.1, (y10.2.2.2.2.2.2.2.2.2.2.2.1, (y10.2.2.2.1, (y10.2.2.2.2.1, (y10.2.2.2.2.2.2.2.2.2.2.2.2.1, (y10.2.2.2.2.2.1, (y10.2.2.2.2.2.2.1, (y10.2.2.2.2.2.2.2.1, ())))))))))))))))))))))
def gN (n : Nat) (g0 : Int × Int × List aY × List (Bool) × Bool × List ZBk × List (Bool) × List (List ZLn) × List ZLk × List ZLn × List ZFl × List (Int) × Int × Int × Int × List aY × List (Bool) × Bool × List (Bool) × List (List ZLn) × List ZLk × List ZFl × List (Int) × Int × Int × Int × List ZBk × List ZLn × Unit -> Option ((List aY × List (Bool) × Bool × List ZBk × List (Bool) × List (List ZLn) × List ZLk × List ZLn × List ZFl × List (Int) × Int × Int × Int × Unit) × Int)) (x1 : Int × Int × List aY × List (Bool) × Bool × List ZBk × List (Bool) × List (List ZLn) × List ZLk × List ZLn × List ZFl × List (Int) × Int × Int × Int × List aY × List (Bool) × Bool × List (Bool) × List (List ZLn) × List ZLk × List ZFl × List (Int) × Int × Int × Int × List ZBk × List ZLn × Unit) : Option ((List aY × List (Bool) × Bool × List ZBk × List (Bool) × List (List ZLn) × List ZLk × List ZLn × List ZFl × List (Int) × Int × Int × Int × Unit) × Int) :=
 let zYu := x1.1
 let n_3 := x1.2.1
 let Kh := x1.2.2.1
 let zM := x1.2.2.2.1
 let zCc := x1.2.2.2.2.1
 let Si := x1.2.2.2.2.2.1
 let Sj := x1.2.2.2.2.2.2.1
 let zMv := x1.2.2.2.2.2.2.2.1
 let Ki := x1.2.2.2.2.2.2.2.2.1
 let zCd := x1.2.2.2.2.2.2.2.2.2.1
 let Kj := x1.2.2.2.2.2.2.2.2.2.2.1
 let Eh := x1.2.2.2.2.2.2.2.2.2.2.2.1
 let Kk := x1.2.2.2.2.2.2.2.2.2.2.2.2.1
 let Sk := x1.2.2.2.2.2.2.2.2.2.2.2.2.2.1
 let Sl := x1.2.2.2.2.2.2.2.2.2.2.2.2.2.2.1
 let yCm := x1.2.2.2.2.2.2.2.2.2.2.2.2.2.2.2.1
 let zVq := x1.2.2.2.2.2.2.2.2.2.2.2.2.2.2.2.2.1
 let yJp := x1.2.2.2.2.2.2.2.2.2.2.2.2.2.2.2.2.2.1
 let yGg := x1.2.2.2.2.2.2.2.2.2.2.2.2.2.2.2.2.2.2.1
 let yLl := x1.2.2.2.2.2.2.2.2.2.2.2.2.2.2.2.2.2.2.2.1
 let yGh := x1.2.2.2.2.2.2.2.2.2.2.2.2.2.2.2.2.2.2.2.2.1
 let yGi := x1.2.2.2.2.2.2.2.2.2.2.2.2.2.2.2.2.2.2.2.2.2.1
 let yCn := x1.2.2.2.2.2.2.2.2.2.2.2.2.2.2.2.2.2.2.2.2.2.2.1
 let yGj := x1.2.2.2.2.2.2.2.2.2.2.2.2.2.2.2.2.2.2.2.2.2.2.2.1
 let yJq := x1.2.2.2.2.2.2.2.2.2.2.2.2.2.2.2.2.2.2.2.2.2.2.2.2.1
 let yJr := x1.2.2.2.2.2.2.2.2.2.2.2.2.2.2.2.2.2.2.2.2.2.2.2.2.2.1
 let yLm := x1.2.2.2.2.2.2.2.2.2.2.2.2.2.2.2.2.2.2.2.2.2.2.2.2.2.2.1
 let yLn := x1.2.2.2.2.2.2.2.2.2.2.2.2.2.2.2.2.2.2.2.2.2.2.2.2.2.2.2.1
 ob (gM n (Kh, (zM, (zCc, (Si, (Sj, (zMv, (Ki, (zCd, (Kj, (Eh, (Kk, (Sk, (Sl, ())))))))))))))) fun y30 =>
 br (y30 != (-1)) (
  br (decide (n_3 ≥ zYu)) (
   some (([], ([], (false, ([], ([], ([], ([], ([], ([], ([], (0, (0, (0, ()))))))))))))), 4)) (
   ob (iM n (Kh, (zM, (zCc, (Si, (Sj, (zMv, (Ki, (zCd, (Kj, (Eh, (Kk, (Sk, (Sl, ())))))))))))))) fun y31 =>
   let v32 : Int := IntKind.wrap .i64 (n_3 + 1)
   g0 (zYu, v32, y31.1, y31.2.1, y31.2.2.1, y31.2.2.2.1, y31.2.2.2.2.1, y31.2.2.2.2.2.1, y31.2.2.2.2.2.2.1, y31.2.2.2.2.2.2.2.1, y31.2.2.2.2.2.2.2.2.1, y31.2.2.2.2.2.2.2.2.2.1, y31.2.2.2.2.2.2.2.2.2.2.1, y31.2.2.2.2.2.2.2.2.2.2.2.1, y31.2.2.2.2.2.2.2.2.2.2.2.2.1, yCm, zVq, yJp, yGg, yLl, yGh, yGi, yCn, yGj, yJq, yJr, yLm, yLn, ()))) (
  some ((Kh, (zM, (zCc, (Si, (Sj, (zMv, (Ki, (zCd, (Kj, (Eh, (Kk, (Sk, (Sl, ()))))))))))))), 0))
def Eo (n : Nat) (x : (List aY × List (Bool) × Bool × List ZBk × List (Bool) × List (List ZLn) × List ZLk × List ZLn × List ZFl × List (Int) × Int × Int × Int × Unit) × Int) : Option ((List aY × List (Bool) × Bool × List ZBk × List (Bool) × List (List ZLn) × List ZLk × List ZLn × List ZFl × List (Int) × Int × Int × Int × Unit) × Int) :=
 let m_0 := x.1
 let yJs := x.2
 fix (gN n) n (yJs, 0, m_0.1, m_0.2.1, m_0.2.2.1, m_0.2.2.2.1, m_0.2.2.2.2.1, m_0.2.2.2.2.2.1, m_0.2.2.2.2.2.2.1, m_0.2.2.2.2.2.2.2.1, m_0.2.2.2.2.2.2.2.2.1, m_0.2.2.2.2.2.2.2.2.2.1, m_0.2.2.2.2.2.2.2.2.2.2.1, m_0.2.2.2.2.2.2.2.2.2.2.2.1, m_0.2.2.2.2.2.2.2.2.2.2.2.2.1, [], [], false, [], [], [], [], [], 0, 0, 0, [], [], ())
def bR (n : Nat) (x : List UInt8 × List (Int) × Unit) : Option (Int × Bool × List (Int) × Unit) :=
 let s_1 := x.1
 let yCo := x.2.1
 ob (jV n (yCo, ())) fun y3 =>
 chk (Nat.ble ((y3.1.length + s_1.length) * 1) room) (
  some ((s_1.length : Int), false, y3.1 ++ aV s_1, ()))
def lC (n : Nat) (g0 : List UInt8 × List ZLn × Int × Int × List (Int) × Unit -> Option (List UInt8)) (x1 : List UInt8 × List ZLn × Int × Int × List (Int) × Unit) : Option (List UInt8) :=
 let yEe := x1.1
 let Sy := x1.2.1
 let Ol := x1.2.2.1
 let zNj := x1.2.2.2.1
 let yJt := x1.2.2.2.2.1
 br (decide (zNj < Ol)) (
  chk (inB zNj Sy.length) (
   let v7 : List UInt8 × Bool × Unit := bV (Ty.dflt aD) Sy zNj
   chk (decide (yEe.length + v7.1.length <= Jg)) (
    ob (bR n (yEe ++ v7.1, yJt, ())) fun y8 =>
    br v7.2.1 (
     ob (bR n ([10], y8.2.2.1, ())) fun y9 =>
     let v10 : Int := IntKind.wrap .i64 (zNj + 1)
     g0 ([], Sy, Ol, v10, y9.2.2.1, ())) (
     let v11 : Int := IntKind.wrap .i64 (zNj + 1)
     g0 ([10], Sy, Ol, v11, y8.2.2.1, ()))))) (
  ob (Builder_String n (yJt, ())) fun y12 =>
  some y12.1)
def rW (n : Nat) (x : List ZLn) : Option (List UInt8) :=
 let l_0 := x
 fix (lC n) n ([], l_0, (l_0.length : Int), 0, [], ())
def yU (n : Nat) (x : List aY × List UInt8 × List ZFl × Bool × Int × Unit) : Option (List UInt8 × List ZFl × List (Int) × Int × Int × Int × List UInt8 × List ZFl × Bool × Int × Unit) :=
 let l_1 := x.1
 let b2 := x.2.1
 let b3 := x.2.2.1
 let b4 := x.2.2.2.1
 let b5 := x.2.2.2.2.1
 ob (Ef n (l_1, b2, b3, b4)) fun y6 =>
 br (y6.2 != 0) (
  some ([], [], [], 0, 0, y6.2, b2, b3, b4, b5, ())) (
  ob (Eo n (y6.1, b5)) fun y7 =>
  ob (rW n y7.1.2.2.2.2.2.2.2.1) fun y8 =>
  let v9 := y7.1.2.2.2.2.2.2.2.2.2.2.1
  some (y8, y7.1.2.2.2.2.2.2.2.2.1, y7.1.2.2.2.2.2.2.2.2.2.1, v9, 0, y7.2, b2, b3, b4, b5, ()))
def Sz (n : Nat) (x : List UInt8 × List ZFl × List (Int) × Int × Int × Unit) : Option (Int) :=
 let x_0 := x
 br (decide ((x_0.2.2.1.length : Int) > 0)) (
  let v1 : Int := IntKind.wrap .i64 ((x_0.2.2.1.length : Int) - 1)
  chk (inB v1 x_0.2.2.1.length) (
   let v2 : Int := bV (Ty.dflt (.int .i64)) x_0.2.2.1 v1
   some v2)) (
  some 0)
def gU (n : Nat) (x : List UInt8 × List ZFl × List UInt8 × List ZFl × Bool × Int × Unit) : Option (List UInt8 × List ZFl × List (Int) × Int × Int × Int × Int × List UInt8 × List ZFl × Bool × Int × Unit) :=
 let yJu := x.1
 let t_2 := x.2.1
 let b3 := x.2.2.1
 let b4 := x.2.2.2.1
 let b5 := x.2.2.2.2.1
 let b6 := x.2.2.2.2.2.1
 ob (kV n (yJu, t_2)) fun y7 =>
 br (y7.2.2 != 0) (
  some ([], [], [], 0, 0, y7.2.1, y7.2.2, b3, b4, b5, b6, ())) (
  ob (yU n (y7.1, b3, b4, b5, b6, ())) fun y8 =>
  br (y8.2.2.2.2.2.1 != 0) (
   some ([], [], [], 0, 0, 0, y8.2.2.2.2.2.1, y8.2.2.2.2.2.2.1, y8.2.2.2.2.2.2.2.1, y8.2.2.2.2.2.2.2.2.1, y8.2.2.2.2.2.2.2.2.2.1, ())) (
   ob (Sz n (y8.1, (y8.2.1, (y8.2.2.1, (y8.2.2.2.1, (y8.2.2.2.2.1, ())))))) fun y9 =>
   some (y8.1, y8.2.1, y8.2.2.1, y9, y8.2.2.2.1, 0, 0, y8.2.2.2.2.2.2.1, y8.2.2.2.2.2.2.2.1, y8.2.2.2.2.2.2.2.2.1, y8.2.2.2.2.2.2.2.2.2.1, ())))
def Ht (n : Nat) (x : List UInt8 × List UInt8 × List ZFl × Bool × Int) : Option ((List UInt8 × List ZFl × List (Int) × Int × Int × Unit) × Int × Int) :=
 let zNk := x.1
 let zEy := x.2.1
 let t_2 := x.2.2.1
 let zMq := x.2.2.2.1
 let yJv := x.2.2.2.2
 ob (gU n (zNk, t_2, zEy, t_2, zMq, yJv, ())) fun y1 =>
 some ((y1.1, (y1.2.1, (y1.2.2.1, (y1.2.2.2.1, (y1.2.2.2.2.1, ()))))), y1.2.2.2.2.2.1, y1.2.2.2.2.2.2.1)
def Ep (n : Nat) (x : List UInt8 × List UInt8) : Option (List UInt8 × Bool) :=
 let zNk := x.1
 let zEy := x.2
 ob (Ht n (zNk, zEy, [], false, 5000)) fun y1 =>
 br (y1.2.2 == 0) (
  some (y1.1.1, (y1.1.2.2.2.1 == 0))) (
  some (y1.1.1, false))
def eU (n : Nat) (x : Int × List (Int) × Unit) : Option (Bool × List (Int) × Unit) :=
 let c_1 := x.1
 let yCo := x.2.1
 ob (jV n (yCo, ())) fun y3 =>
 chk (Nat.ble ((y3.1.length + ([c_1] : List (Int)).length) * 1) room) (
  some (false, y3.1 ++ [c_1], ()))
def oL (n : Nat) (g0 : List ZLn × Int × Int × List (Int) × Unit -> Option (List UInt8)) (x1 : List ZLn × Int × Int × List (Int) × Unit) : Option (List UInt8) :=
 let zVr := x1.1
 let Sy := x1.2.1
 let Ol := x1.2.2.1
 let yJw := x1.2.2.2.1
 br (decide (Ol < Sy)) (
  chk (inB Ol zVr.length) (
   let v6 : List UInt8 × Bool × Unit := bV (Ty.dflt aD) zVr Ol
   ob (bR n (v6.1, yJw, ())) fun y7 =>
   br v6.2.1 (
    ob (eU n (10, y7.2.2.1, ())) fun y8 =>
    let v9 : Int := IntKind.wrap .i64 (Ol + 1)
    g0 (zVr, Sy, v9, y8.2.1, ())) (
    let v10 : Int := IntKind.wrap .i64 (Ol + 1)
    g0 (zVr, Sy, v10, y7.2.2.1, ())))) (
  ob (Builder_String n (yJw, ())) fun y11 =>
  some y11.1)
def rX (n : Nat) (x : List ZLn) : Option (List UInt8) :=
 let l_0 := x
 fix (oL n) n (l_0, (l_0.length : Int), 0, [], ())
def jO (n : Nat) (g0 : List ZLn × List UInt8 × Bool × Int × List ZLn × Unit -> Option (Bool)) (x6 : List ZLn × List UInt8 × Bool × Int × List ZLn × Unit) : Option (Bool) :=
 let l_7 := x6.1
 let s_8 := x6.2.1
 let yJx := x6.2.2.1
 let zFd := x6.2.2.2.1
 let dP := x6.2.2.2.2.1
 br (decide (zFd < (l_7.length : Int))) (
  chk (inB zFd l_7.length) (
   let v12 : List UInt8 × Bool × Unit := bV (Ty.dflt aD) l_7 zFd
   chk (inB zFd l_7.length) (
    let v13 : List UInt8 × Bool × Unit := bV (Ty.dflt aD) l_7 zFd
    chk (Nat.ble ((dP.length + ([(v12.1, (true, ())), v13] : List ZLn).length) * 24) room) (
     let r14 : List ZLn := dP ++ [(v12.1, (true, ())), v13]
     let v15 : Int := IntKind.wrap .i64 (zFd + 1)
     g0 (l_7, s_8, yJx, v15, r14, ()))))) (
  br yJx (
   ob (rX n dP) fun y16 =>
   some (s_8 == y16)) (
   some false))
def Er (n : Nat) (x : List UInt8) : Option (Bool) :=
 let yCp := x
 ob (jC n yCp) fun y1 =>
 br (decide ((yCp.length : Int) > 300)) (
  ob (showntop n ()) fun y2 =>
  some y2) (
  ob (showntop n ()) fun y3 =>
  br (!y3) (
   ob (showntop n ()) fun y4 =>
   some y4) (
   ob (Ep n ([115, 101, 100, 32, 112], yCp)) fun y5 =>
   fix (jO n) n (y1, y5.1, y5.2, 0, [], ())))
end
end Go.Dec
