/- Part of a proof over this seat: a library of my own, and what it says of this seat. No statement is proved here. -/
import Derived.Test.YtdgneppobefaoaaGreatDoorPartAJ
import Derived.Test.YtdgneppobefaoaaGreatDoorPartBP
import Derived.Test.YtdgneppobefaoaaGreatDoorPartBO
namespace Go.Dec
noncomputable section
set_option linter.unusedVariables false
abbrev ZLn:Type:=List UInt8 × Bool × Unit
abbrev ZLk:Type:=List UInt8 × Bool × Bool × Unit
abbrev ZFl:Type:=List UInt8 × List UInt8 × Unit
abbrev ZBk:Type:=Int × Int × Int × Int × Int × List UInt8 × List UInt8 × Bool × Bool × Bool × List (Bool × Int × Unit) × List ZLn × Unit
abbrev aI:Ty:=.pair .str (.pair .bool .unit)
abbrev Gw:Ty:=.pair (.int .i64) (.pair (.arr 4 (.int .u64)) (.pair (.int .i64) (.pair (.int .i64) (.pair (.int .i64) (.pair (.int .i64) (.pair (.int .i64) .unit))))))
abbrev aR:Ty:=.pair (.slice Gw) (.pair .bool .unit)
abbrev xW:Ty:=.pair (.int .i64) (.pair (.int .i64) (.pair (.int .i64) .unit))
abbrev Nh:Ty:=.pair xW (.pair xW (.pair .bool .unit))
abbrev Xu:Ty:=.pair .str (.pair (.int .i64) .unit)
abbrev aG:Ty:=.pair Nh (.pair (.int .u8) (.pair .str (.pair .str (.pair (.int .i64) (.pair (.int .i64) (.pair (.int .i64) (.pair (.slice Xu) (.pair .bool (.pair .bool .unit)))))))))
abbrev vH:Ty:=.pair .bool (.pair (.slice aR) (.pair (.slice aG) .unit))
abbrev bC:Ty:=.pair .str (.pair .str .unit)
abbrev vW:Ty:=.pair .str (.pair (.slice bC) (.pair (.slice (.int .i64)) (.pair (.int .i64) (.pair (.int .i64) .unit))))
abbrev aM:Ty:=.pair vH (.pair .bool (.pair (.slice .str) (.pair .bool .unit)))
abbrev iR:Ty:=.pair .bool (.pair (.int .i64) .unit)
abbrev aC:Ty:=.pair (.int .i64) (.pair (.int .i64) (.pair (.int .i64) (.pair (.int .i64) (.pair (.int .i64) (.pair .str (.pair .str (.pair .bool (.pair .bool (.pair .bool (.pair (.slice iR) (.pair (.slice aI) .unit)))))))))))
abbrev aY:Ty:=.pair .str (.pair .bool (.pair .bool .unit))
abbrev iC:Ty:=.pair (.slice aM) (.pair (.slice .bool) (.pair .bool (.pair (.slice aC) (.pair (.slice .bool) (.pair (.slice (.slice aI)) (.pair (.slice aY) (.pair (.slice aI) (.pair (.slice bC) (.pair (.slice (.int .i64)) xW)))))))))
abbrev zSx:Ty:=.pair aC (.pair vH (.pair .bool (.pair (.slice bC) (.pair (.slice aI) .unit))))
abbrev yKa:Ty:=.pair (.int .i64) (.pair .bool (.pair (.slice .bool) .unit))
abbrev ZQ0:Type:=List eZ × List (Bool) × Bool × List ZLn × List ZFl × Int × Int × Int × List ZBk × List (Bool) × List (List ZLn) × List ZLk × List (Int) × Unit
abbrev ZQ1:Type:=Int × Int × Int × Int × Int × List UInt8 × List UInt8 × Bool × Bool × Bool × List (Bool × Int × Unit) × List ZLn × Bool × List (List oO × Bool × Unit) × List lU × Bool × List ZFl × List ZLn × Unit
abbrev ZQ2:Type:=List eZ × List (Bool) × Bool × List ZBk × List (Bool) × List (List ZLn) × List ZLk × List ZLn × List ZFl × List (Int) × Int × Int × Int × Unit
abbrev ZQ3:Type:=Bool × List (List oO × Bool × Unit) × List lU × Bool × List (List UInt8) × Bool × Unit
abbrev ZQ4:Type:=Int × Int × Int × Int × Int × List UInt8 × List UInt8 × Bool × Bool × Bool × List ZLn × Bool × List (List oO × Bool × Unit) × List lU × Bool × List ZFl × List (Bool × Int × Unit) × List ZLn × Unit
abbrev ZQ5:Type:=Int × Int × Int × Int × Int × List UInt8 × List UInt8 × Bool × Bool × Bool × List (Bool × Int × Unit) × List ZLn × Unit
abbrev ZQ6:Type:=Bool × Int × Int × Int × Int × Int × List UInt8 × List UInt8 × Bool × Bool × Bool × List ZLn × Bool × List (List oO × Bool × Unit) × List lU × Bool × List ZFl × List ZLn × List (Bool × Int × Unit) × Unit
abbrev ZQ7:Type:=Int × Int × List eZ × List (Bool) × Bool × List (Bool) × List (List ZLn) × List ZLk × List ZFl × List (Int) × Int × Int × Int × List eZ × List (Bool) × Bool × List (Bool) × List (List ZLn) × List ZFl × List (Int) × Int × Int × Int × List ZBk × List ZLn × List ZBk × List ZLk × List ZLn × Unit
abbrev ZQ8:Type:=List UInt8 × Bool × Bool × Unit
abbrev ZQ9:Type:=List UInt8 × List ZFl × Bool × Int × Unit
def xX (n : Nat) (x : Bool × List (List oO × Bool × Unit) × List lU × Bool × List (List UInt8) × Bool × ZQ3) : Option (Bool × ZQ3) :=
 let a_1 := x.1
 let a_2 := x.2.1
 let a_3 := x.2.2.1
 let a_4 := x.2.2.2.1
 let a_5 := x.2.2.2.2.1
 let a_6 := x.2.2.2.2.2.1
 let yCj := x.2.2.2.2.2.2.1
 let yIf := x.2.2.2.2.2.2.2.1
 let zx1 := x.2.2.2.2.2.2
 let yIg := zx1.2.2.1
 let zUf := zx1.2.2.2.1
 let zUg := zx1.2.2.2.2.1
 let yIh := zx1.2.2.2.2.2.1
 ob (xV n (((a_1, (a_2, (a_3, ()))), (a_4, (a_5, (a_6, ())))), ((yCj, (yIf, (yIg, ()))), (zUf, (zUg, (yIh, ())))))) fun y13 =>
 some (y13, yCj, yIf, yIg, zUf, zUg, yIh, ())
def nK (n : Nat) (g0 : List eZ × Int × Int × Bool × List (List oO × Bool × Unit) × List lU × Bool × List (List UInt8) × Bool × Unit -> Option (Int × ZQ3)) (x8 : List eZ × Int × Int × ZQ3) : Option (Int × ZQ3) :=
 let s_9 := x8.1
 let yIi := x8.2.1
 let zEb := x8.2.2.1
 let zUh := x8.2.2.2.1
 let yCk := x8.2.2.2.2.1
 let yCl := x8.2.2.2.2.2.1
 let Xv := x8.2.2.2.2.2.2.1
 let zUi := x8.2.2.2.2.2.2.2.1
 let yTb := x8.2.2.2.2.2.2
 let yIj := yTb.2.2.1
 br (decide (zEb < yIi)) (
  chk (inB zEb s_9.length) (
   let v18 : (Bool × List (List oO × Bool × Unit) × List lU × Unit) × Bool × List (List UInt8) × Bool × Unit := bZ (Ty.dflt aM) s_9 zEb
   ob (xX n (v18.1.1, v18.1.2.1, v18.1.2.2.1, v18.2.1, v18.2.2.1, v18.2.2.2.1, zUh, yCk, yCl, Xv, zUi, yIj, ())) fun y19 =>
   br y19.1 (
    some (zEb, y19.2.1, y19.2.2.1, y19.2.2.2.1, y19.2.2.2.2.1, y19.2.2.2.2.2.1, y19.2.2.2.2.2.2.1, ())) (
    let v20 : Int := IntKind.wrap .i64 (zEb + 1)
    g0 (s_9, yIi, v20, y19.2.1, y19.2.2.1, y19.2.2.2.1, y19.2.2.2.2.1, y19.2.2.2.2.2.1, y19.2.2.2.2.2.2.1, ())))) (
  some ((-1), zUh, yCk, yCl, Xv, zUi, yIj, ()))
def fK (n : Nat) (x : List eZ × ZQ3) : Option (Int × ZQ3) :=
 let s_1 := x.1
 let zQa := x.2.1
 let zZf := x.2.2.1
 let zZg := x.2.2.2.1
 let zQb := x.2.2.2.2.1
 let zQc := x.2.2.2.2.2.1
 let yGp := x.2.2.2.2.2.2.1
 fix (nK n) n (s_1, (s_1.length : Int), 0, zQa, zZf, zZg, zQb, zQc, yGp, ())
def eX (n : Nat) (x : List eZ × ZQ3) : Option (Bool × ZQ3) :=
 let s_1 := x.1
 let zQa := x.2.1
 let zZf := x.2.2.1
 let zZg := x.2.2.2.1
 let zQb := x.2.2.2.2.1
 let zQc := x.2.2.2.2.2.1
 let yGp := x.2.2.2.2.2.2.1
 ob (fK n (s_1, zQa, zZf, zZg, zQb, zQc, yGp, ())) fun y8 =>
 some ((decide (y8.1 ≥ 0)), y8.2.1, y8.2.2.1, y8.2.2.2.1, y8.2.2.2.2.1, y8.2.2.2.2.2.1, y8.2.2.2.2.2.2.1, ())
def Sy (n : Nat) (g0 : List eZ × List eZ × Int × Int × List (Bool) × Unit -> Option (List (Bool))) (x2 : List eZ × List eZ × Int × Int × List (Bool) × Unit) : Option (List (Bool)) :=
 let l_3 := x2.1
 let yGq := x2.2.1
 let yIk := x2.2.2.1
 let Ai := x2.2.2.2.1
 let Qx := x2.2.2.2.2.1
 br (decide (Ai < yIk)) (
  chk (inB Ai yGq.length) (
   let v8 : (Bool × List (List oO × Bool × Unit) × List lU × Unit) × Bool × List (List UInt8) × Bool × Unit := bZ (Ty.dflt aM) yGq Ai
   chk ((decide (0 <= Ai) && decide (Ai <= (l_3.length : Int)))) (
    ob (eX n (l_3.take Ai.toNat, v8.1.1, v8.1.2.1, v8.1.2.2.1, v8.2.1, v8.2.2.1, v8.2.2.2.1, ())) fun y9 =>
    chk ((inB Ai (Qx.length) && decide (0 + (Qx.length) <= Qx.length))) (
     chk (decide (0 + Ai.toNat < Qx.length)) (
      let r10 : List (Bool) := Qx.set (0 + Ai.toNat) y9.1
      let v11 : Int := IntKind.wrap .i64 (Ai + 1)
      g0 (l_3, yGq, yIk, v11, r10, ())))))) (
  some Qx)
def Cu (n : Nat) (x : List eZ) : Option (List (Bool)) :=
 let l_0 := x
 chk ((decide (0 <= (l_0.length : Int)) && (decide ((l_0.length : Int) = (l_0.length : Int)) && Nat.ble ((l_0.length : Int).toNat * 1) room))) (
  let r1 : List (Bool) := List.replicate (l_0.length : Int).toNat false
  fix (Sy n) n (l_0, l_0, (l_0.length : Int), 0, r1, ()))
def zBi (n : Nat) (x : Bool × List (List oO × Bool × Unit) × List lU × Unit) : Option (ZQ5) :=
 let x_0 := x
 chk ((decide (0 <= (x_0.2.2.1.length : Int)) && (decide ((x_0.2.2.1.length : Int) = (x_0.2.2.1.length : Int)) && Nat.ble ((x_0.2.2.1.length : Int).toNat * 16) room))) (
  let r1 : List (Bool × Int × Unit) := List.replicate (x_0.2.2.1.length : Int).toNat (false, (0, ()))
  some (0, (0, (0, (0, ((-1), ([], ([], (false, (false, (false, (r1, ([], ())))))))))))))
def zHv (n : Nat) (g1 : List ZLn × Int × Int × List eZ × List (Bool) × Bool × List (Bool) × List (List ZLn) × List ZLk × List ZFl × List (Int) × Int × Int × Int × List eZ × List (Bool) × Bool × List (Bool) × List (List ZLn) × List ZFl × List (Int) × Int × Int × Int × List ZBk × List ZLn × List ZBk × List ZLk × List ZLn × Unit -> Option ((ZQ2) × Int)) (x43 : List ZLn × ZQ7) : Option ((ZQ2) × Int) :=
 let zQd := x43.1
 let yCm := x43.2.1
 let zEc := x43.2.2.1
 let yGr := x43.2.2.2.1
 let zZh := x43.2.2.2.2.1
 let yNr := x43.2.2.2.2.2.1
 let yKb := x43.2.2.2.2.2.2.1
 let yQj := x43.2.2.2.2.2.2.2.1
 let Xw := x43.2.2.2.2.2.2
 let yKc := Xw.2.2.1
 let yKd := Xw.2.2.2.1
 let yGs := Xw.2.2.2.2.1
 let yKe := Xw.2.2.2.2.2.1
 let yNs := Xw.2.2.2.2.2.2.1
 let Qy := Xw.2.2.2.2.2.2
 let yNt := Qy.2.1
 let zQe := Qy.2.2.1
 let zEd := Qy.2.2.2.1
 let yCn := Qy.2.2.2.2.1
 let zUj := Qy.2.2.2.2.2.1
 let yIl := Qy.2.2.2.2.2.2.1
 let Qz := Qy.2.2.2.2.2.2
 let zUk := Qz.2.1
 let zQf := Qz.2.2.1
 let Xx := Qz.2.2.2.1
 let zEe := Qz.2.2.2.2.1
 let zEf := Qz.2.2.2.2.2.1
 let zZi := Qz.2.2.2.2.2.2.1
 let zLz := Qz.2.2.2.2.2.2
 let zZj := zLz.2.1
 let zMa := zLz.2.2.1
 let Jt := zLz.2.2.2.1
 let zEg := zLz.2.2.2.2.1
 br (decide (zEc < yCm)) (
  chk (inB zEc zQd.length) (
   let v73 : List UInt8 × Bool × Unit := bZ (Ty.dflt aI) zQd zEc
   chk (Nat.ble ((zEg.length + ([v73] : List ZLn).length) * 24) room) (
    let v74 : Int := IntKind.wrap .i64 (zEc + 1)
    g1 (zQd, yCm, v74, yGr, zZh, yNr, yKb, yQj, yKc, yKd, yGs, yKe, yNs, yNt, zQe, zEd, yCn, zUj, yIl, zUk, zQf, Xx, zEe, zEf, zZi, zZj, zMa, Jt, zEg ++ [v73], ())))) (
  some ((zQe, (zEd, (yCn, (zMa, (zUj, (yIl, (Jt, (zEg, (zUk, (zQf, (Xx, (zEe, (zEf, ()))))))))))))), 0))
def zHw (n : Nat) (g0 : List eZ × List UInt8 × List eZ × Int × Int × List eZ × List (Bool) × Bool × List (Bool) × List (List ZLn) × List ZLk × List ZFl × List (Int) × Int × Int × Int × List eZ × List (Bool) × Bool × List (Bool) × List (List ZLn) × List ZFl × List (Int) × Int × Int × Int × List ZBk × List ZLn × List ZBk × List ZLk × List ZLn × Unit -> Option ((ZQ2) × Int)) (x6 : List eZ × List UInt8 × List eZ × ZQ7) : Option ((ZQ2) × Int) :=
 let l_7 := x6.1
 let yGt := x6.2.1
 let zZk := x6.2.2.1
 let yCo := x6.2.2.2.1
 let zEh := x6.2.2.2.2.1
 let zQg := x6.2.2.2.2.2.1
 let zEi := x6.2.2.2.2.2.2.1
 let yCp := x6.2.2.2.2.2.2.2.1
 let zHx := x6.2.2.2.2.2.2
 let zUl := zHx.2.2.1
 let yIm := zHx.2.2.2.1
 let zUm := zHx.2.2.2.2.1
 let zUn := zHx.2.2.2.2.2.1
 let zQh := zHx.2.2.2.2.2.2.1
 let zBj := zHx.2.2.2.2.2.2
 let zUo := zBj.2.1
 let yCq := zBj.2.2.1
 let yCr := zBj.2.2.2.1
 let zBk := zBj.2.2.2.2.1
 let Ra := zBj.2.2.2.2.2.1
 let zQi := zBj.2.2.2.2.2.2.1
 let zBl := zBj.2.2.2.2.2.2
 let zHy := zBl.2.1
 let zZl := zBl.2.2.1
 let zHz := zBl.2.2.2.1
 let zBm := zBl.2.2.2.2.1
 let zIa := zBl.2.2.2.2.2.1
 let zQj := zBl.2.2.2.2.2.2.1
 let zIb := zBl.2.2.2.2.2.2
 let zQk := zIb.2.1
 let tX := zIb.2.2.1
 let Aj := zIb.2.2.2.1
 let zMb := zIb.2.2.2.2.1
 let Rb := zIb.2.2.2.2.2.1
 let zZm := zIb.2.2.2.2.2.2.1
 br (decide (zEh < yCo)) (
  chk (inB zEh zZk.length) (
   let v38 : (Bool × List (List oO × Bool × Unit) × List lU × Unit) × Bool × List (List UInt8) × Bool × Unit := bZ (Ty.dflt aM) zZk zEh
   ob (zBi n v38.1) fun y39 =>
   chk (Nat.ble ((zMb.length + ([y39] : List ZBk).length) * 128) room) (
    let v40 : Int := IntKind.wrap .i64 (zEh + 1)
    g0 (l_7, yGt, zZk, yCo, v40, zQg, zEi, yCp, zUl, yIm, zUm, zUn, zQh, zUo, yCq, yCr, zBk, Ra, zQi, zHy, zZl, zHz, zBm, zIa, zQj, zQk, tX, Aj, zMb ++ [y39], Rb, zZm, ())))) (
  br (decide ((l_7.length : Int) > 0)) (
   chk ((inB 0 (Rb.length) && decide (0 + (Rb.length) <= Rb.length))) (
    chk (decide (0 + (0 : Int).toNat < Rb.length)) (
     let r41 : List ZLk := Rb.set (0 + (0 : Int).toNat) (yGt, (false, (true, ())))
     some ((zBk, (Ra, (zQi, (zMb, (zHy, (zZl, (r41, (zZm, (zHz, (zBm, (zIa, (zQj, (zQk, ()))))))))))))), 0)))) (
   ob (gJ n yGt) fun y42 =>
   fix (zHv n) n (y42, (y42.length : Int), 0, zQg, zEi, yCp, zUl, yIm, zUm, zUn, zQh, zUo, yCq, yCr, zBk, Ra, zQi, zHy, zZl, zHz, zBm, zIa, zQj, zQk, tX, Aj, zMb, Rb, zZm, ())))
def Gx (n : Nat) (x : List eZ × List UInt8 × List ZFl × Bool) : Option ((ZQ2) × Int) :=
 let l_0 := x.1
 let rC := x.2.1
 let t_2 := x.2.2.1
 let zQl := x.2.2.2
 br (decide ((l_0.length : Int) > 8)) (
  some (([], ([], (false, ([], ([], ([], ([], ([], ([], ([], (0, (0, (0, ()))))))))))))), 2)) (
  ob (Cu n l_0) fun y1 =>
  chk ((decide (0 <= (l_0.length : Int)) && (decide ((l_0.length : Int) = (l_0.length : Int)) && Nat.ble ((l_0.length : Int).toNat * 1) room))) (
   let v2 : List (Bool) := List.replicate (l_0.length : Int).toNat false
   chk ((decide (0 <= (l_0.length : Int)) && (decide ((l_0.length : Int) = (l_0.length : Int)) && Nat.ble ((l_0.length : Int).toNat * 24) room))) (
    let v3 : List (List ZLn) := List.replicate (l_0.length : Int).toNat []
    chk ((decide (0 <= (l_0.length : Int)) && (decide ((l_0.length : Int) = (l_0.length : Int)) && Nat.ble ((l_0.length : Int).toNat * 24) room))) (
     let r4 : List ZLk := List.replicate (l_0.length : Int).toNat ([], (false, (false, ())))
     chk ((decide (0 <= (l_0.length : Int)) && (decide ((l_0.length : Int) = (l_0.length : Int)) && Nat.ble ((l_0.length : Int).toNat * 8) room))) (
      let v5 : List (Int) := List.replicate (l_0.length : Int).toNat 0
      fix (zHw n) n (l_0, rC, l_0, (l_0.length : Int), 0, [], [], false, [], [], [], [], [], 0, 0, 0, l_0, y1, zQl, v2, v3, t_2, v5, 0, 0, 0, [], [], [], r4, [], ()))))))
def uP (n : Nat) (x : Int × ZQ2) : Option (Bool × ZQ2) :=
 let i_1 := x.1
 let dL := x.2.1
 let dR := x.2.2.1
 let jM := x.2.2.2.1
 let Vn := x.2.2.2.2.1
 let zQm := x.2.2.2.2.2.1
 let yGu := x.2.2.2.2.2.2.1
 let zQn := x.2.2.2.2.2.2.2.1
 let zx1 := x.2.2.2.2.2.2
 let yGv := zx1.2.2.1
 let zIc := zx1.2.2.2.1
 let zBn := zx1.2.2.2.2.1
 let zId := zx1.2.2.2.2.2.1
 let zQo := zx1.2.2.2.2.2.2.1
 let zx2 := zx1.2.2.2.2.2.2
 let zQp := zx2.2.1
 chk (inB i_1 Vn.length) (
  let v15 : Int × Int × Int × Int × Int × List UInt8 × List UInt8 × Bool × Bool × Bool × List (Bool × Int × Unit) × List ZLn × Unit := bZ (Ty.dflt aC) Vn i_1
  some ((v15.1 == 4), dL, dR, jM, Vn, zQm, yGu, zQn, yGv, zIc, zBn, zId, zQo, zQp, ()))
def pI (n : Nat) (x : ZQ8) : Option ((ZQ8) × (List UInt8 × Bool × Unit) × Bool × Bool) :=
 let k_0 := x
 ob (strings_Cut n (k_0.1, [10])) fun y1 =>
 br (y1.2.1 == []) (
  br (!k_0.2.2.1) (
   some (k_0, ([], (false, ())), false, false)) (
   br (k_0.1 == []) (
    some (k_0, ([], (false, ())), false, false)) (
    some ((y1.2.1, k_0.2), (y1.1, (y1.2.2, ())), (y1.2.1 == []), true)))) (
  br (k_0.1 == []) (
   some (k_0, ([], (false, ())), false, false)) (
   some ((y1.2.1, k_0.2), (y1.1, (y1.2.2, ())), (y1.2.1 == []), true)))
def tY (n : Nat) (x : ZQ8) : Option ((List UInt8 × Bool × Unit) × Bool × Bool) :=
 let k_0 := x
 ob (pI n k_0) fun y1 =>
 some (y1.2.1, y1.2.2.1, y1.2.2.2)
def Eo (n : Nat) (x : ZQ8) : Option (Bool) :=
 let k_0 := x
 br k_0.2.2.1 (
  some (k_0.1 == [])) (
  some false)
def qF (n : Nat) (x : Int × ZQ2) : Option (Bool × ZQ2) :=
 let i_1 := x.1
 let dL := x.2.1
 let dR := x.2.2.1
 let jM := x.2.2.2.1
 let Vn := x.2.2.2.2.1
 let zQm := x.2.2.2.2.2.1
 let yGu := x.2.2.2.2.2.2.1
 let zQn := x.2.2.2.2.2.2.2.1
 let zx1 := x.2.2.2.2.2.2
 let yGv := zx1.2.2.1
 let zIc := zx1.2.2.2.1
 let zBn := zx1.2.2.2.2.1
 let zId := zx1.2.2.2.2.2.1
 let zQo := zx1.2.2.2.2.2.2.1
 let zx2 := zx1.2.2.2.2.2.2
 let zQp := zx2.2.1
 chk (inB i_1 dL.length) (
  let v15 : (Bool × List (List oO × Bool × Unit) × List lU × Unit) × Bool × List (List UInt8) × Bool × Unit := bZ (Ty.dflt aM) dL i_1
  ob (uP n (i_1, dL, dR, jM, Vn, zQm, yGu, zQn, yGv, zIc, zBn, zId, zQo, zQp, ())) fun y16 =>
  br y16.1 (
   some (false, y16.2.1, y16.2.2.1, y16.2.2.2.1, y16.2.2.2.2.1, y16.2.2.2.2.2.1, y16.2.2.2.2.2.2.1, y16.2.2.2.2.2.2.2.1, y16.2.2.2.2.2.2.2.2.1, y16.2.2.2.2.2.2.2.2.2.1, y16.2.2.2.2.2.2.2.2.2.2.1, y16.2.2.2.2.2.2.2.2.2.2.2.1, y16.2.2.2.2.2.2.2.2.2.2.2.2.1, y16.2.2.2.2.2.2.2.2.2.2.2.2.2.1, ())) (
   chk (inB i_1 y16.2.2.2.2.2.1.length) (
    let v17 : Bool := bZ (Ty.dflt .bool) y16.2.2.2.2.2.1 i_1
    br (!v17) (
     br v15.2.2.2.1 (
      some (true, y16.2.1, y16.2.2.1, y16.2.2.2.1, y16.2.2.2.2.1, y16.2.2.2.2.2.1, y16.2.2.2.2.2.2.1, y16.2.2.2.2.2.2.2.1, y16.2.2.2.2.2.2.2.2.1, y16.2.2.2.2.2.2.2.2.2.1, y16.2.2.2.2.2.2.2.2.2.2.1, y16.2.2.2.2.2.2.2.2.2.2.2.1, y16.2.2.2.2.2.2.2.2.2.2.2.2.1, y16.2.2.2.2.2.2.2.2.2.2.2.2.2.1, ())) (
      chk (inB i_1 y16.2.2.1.length) (
       let v18 : Bool := bZ (Ty.dflt .bool) y16.2.2.1 i_1
       br (!v18) (
        some (true, y16.2.1, y16.2.2.1, y16.2.2.2.1, y16.2.2.2.2.1, y16.2.2.2.2.2.1, y16.2.2.2.2.2.2.1, y16.2.2.2.2.2.2.2.1, y16.2.2.2.2.2.2.2.2.1, y16.2.2.2.2.2.2.2.2.2.1, y16.2.2.2.2.2.2.2.2.2.2.1, y16.2.2.2.2.2.2.2.2.2.2.2.1, y16.2.2.2.2.2.2.2.2.2.2.2.2.1, y16.2.2.2.2.2.2.2.2.2.2.2.2.2.1, ())) (
        none)))) (
     chk (inB i_1 y16.2.2.2.2.1.length) (
      let v19 : Int × Int × Int × Int × Int × List UInt8 × List UInt8 × Bool × Bool × Bool × List (Bool × Int × Unit) × List ZLn × Unit := bZ (Ty.dflt aC) y16.2.2.2.2.1 i_1
      br (v19.1 == 1) (
       some (true, y16.2.1, y16.2.2.1, y16.2.2.2.1, y16.2.2.2.2.1, y16.2.2.2.2.2.1, y16.2.2.2.2.2.2.1, y16.2.2.2.2.2.2.2.1, y16.2.2.2.2.2.2.2.2.1, y16.2.2.2.2.2.2.2.2.2.1, y16.2.2.2.2.2.2.2.2.2.2.1, y16.2.2.2.2.2.2.2.2.2.2.2.1, y16.2.2.2.2.2.2.2.2.2.2.2.2.1, y16.2.2.2.2.2.2.2.2.2.2.2.2.2.1, ())) (
       br (decide ((v15.2.2.1.length : Int) > 0)) (
        some (true, y16.2.1, y16.2.2.1, y16.2.2.2.1, y16.2.2.2.2.1, y16.2.2.2.2.2.1, y16.2.2.2.2.2.2.1, y16.2.2.2.2.2.2.2.1, y16.2.2.2.2.2.2.2.2.1, y16.2.2.2.2.2.2.2.2.2.1, y16.2.2.2.2.2.2.2.2.2.2.1, y16.2.2.2.2.2.2.2.2.2.2.2.1, y16.2.2.2.2.2.2.2.2.2.2.2.2.1, y16.2.2.2.2.2.2.2.2.2.2.2.2.2.1, ())) (
        chk (inB i_1 y16.2.2.2.2.2.2.2.1.length) (
         let v20 : List UInt8 × Bool × Bool × Unit := bZ (Ty.dflt aY) y16.2.2.2.2.2.2.2.1 i_1
         ob (tY n v20) fun y21 =>
         br y21.2.2 (
          some (true, y16.2.1, y16.2.2.1, y16.2.2.2.1, y16.2.2.2.2.1, y16.2.2.2.2.2.1, y16.2.2.2.2.2.2.1, y16.2.2.2.2.2.2.2.1, y16.2.2.2.2.2.2.2.2.1, y16.2.2.2.2.2.2.2.2.2.1, y16.2.2.2.2.2.2.2.2.2.2.1, y16.2.2.2.2.2.2.2.2.2.2.2.1, y16.2.2.2.2.2.2.2.2.2.2.2.2.1, y16.2.2.2.2.2.2.2.2.2.2.2.2.2.1, ())) (
          chk (inB i_1 y16.2.2.2.2.2.2.2.1.length) (
           let v22 : List UInt8 × Bool × Bool × Unit := bZ (Ty.dflt aY) y16.2.2.2.2.2.2.2.1 i_1
           ob (Eo n v22) fun y23 =>
           some (y23, y16.2.1, y16.2.2.1, y16.2.2.2.1, y16.2.2.2.2.1, y16.2.2.2.2.2.1, y16.2.2.2.2.2.2.1, y16.2.2.2.2.2.2.2.1, y16.2.2.2.2.2.2.2.2.1, y16.2.2.2.2.2.2.2.2.2.1, y16.2.2.2.2.2.2.2.2.2.2.1, y16.2.2.2.2.2.2.2.2.2.2.2.1, y16.2.2.2.2.2.2.2.2.2.2.2.2.1, y16.2.2.2.2.2.2.2.2.2.2.2.2.2.1, ())))))))))))
def Ju (n : Nat) (g0 : Int × List eZ × List (Bool) × Bool × List ZBk × List (Bool) × List (List ZLn) × List ZLk × List ZLn × List ZFl × List (Int) × Int × Int × Int × Unit -> Option (Int)) (x2 : Int × ZQ2) : Option (Int) :=
 let i_3 := x2.1
 let Ni := x2.2.1
 let Bo := x2.2.2.1
 let zEj := x2.2.2.2.1
 let Vo := x2.2.2.2.2.1
 let Vp := x2.2.2.2.2.2.1
 let zQq := x2.2.2.2.2.2.2.1
 let Nj := x2.2.2.2.2.2.2.2.1
 let zIe := x2.2.2.2.2.2.2
 let zEk := zIe.2.2.1
 let Nk := zIe.2.2.2.1
 let Gy := zIe.2.2.2.2.1
 let Nl := zIe.2.2.2.2.2.1
 let Vq := zIe.2.2.2.2.2.2.1
 let yTc := zIe.2.2.2.2.2.2
 let Vr := yTc.2.1
 br (decide (i_3 ≥ 0)) (
  ob (qF n (i_3, Ni, Bo, zEj, Vo, Vp, zQq, Nj, zEk, Nk, Gy, Nl, Vq, Vr, ())) fun y17 =>
  br y17.1 (
   some i_3) (
   let v18 : Int := IntKind.wrap .i64 (i_3 - 1)
   g0 (v18, y17.2.1, y17.2.2.1, y17.2.2.2.1, y17.2.2.2.2.1, y17.2.2.2.2.2.1, y17.2.2.2.2.2.2.1, y17.2.2.2.2.2.2.2.1, y17.2.2.2.2.2.2.2.2.1, y17.2.2.2.2.2.2.2.2.2.1, y17.2.2.2.2.2.2.2.2.2.2.1, y17.2.2.2.2.2.2.2.2.2.2.2.1, y17.2.2.2.2.2.2.2.2.2.2.2.2.1, y17.2.2.2.2.2.2.2.2.2.2.2.2.2.1, ()))) (
  some (-1))
def iM (n : Nat) (x : ZQ2) : Option (Int) :=
 let m_0 := x
 let v1 : Int := IntKind.wrap .i64 ((m_0.1.length : Int) - 1)
 fix (Ju n) n (v1, m_0.1, m_0.2.1, m_0.2.2.1, m_0.2.2.2.1, m_0.2.2.2.2.1, m_0.2.2.2.2.2.1, m_0.2.2.2.2.2.2.1, m_0.2.2.2.2.2.2.2.1, m_0.2.2.2.2.2.2.2.2.1, m_0.2.2.2.2.2.2.2.2.2.1, m_0.2.2.2.2.2.2.2.2.2.2.1, m_0.2.2.2.2.2.2.2.2.2.2.2.1, m_0.2.2.2.2.2.2.2.2.2.2.2.2.1, ())
def oP (_n:Nat) (x:List ZBk × Unit):Option (List ZBk × Unit):=Gj 128 x
def uQ (_n:Nat) (x:List (Bool) × Unit):Option (List (Bool) × Unit):=Gj 1 x
def mR (_n:Nat) (x:List (List ZLn) × Unit):Option (List (List ZLn) × Unit):=Gj 24 x
def oQ (_n:Nat) (x:List ZLk × Unit):Option (List ZLk × Unit):=Gj 24 x
def slices_Clone_int (_n:Nat) (x:List (Int) × Unit):Option (List (Int) × Unit):=Gj 8 x
def jV (n : Nat) (x : List ZLn) : Option (List ZLn) :=
 let s_0 := x
 chk ((decide ((s_0.length : Int) = (s_0.length : Int)) && decide ((s_0.length : Int) = (s_0.length : Int)))) (
  some s_0)
def lX (n : Nat) (x : ZQ2) : Option (ZQ0) :=
 let m_1 := x.1
 let m_2 := x.2.1
 let m_3 := x.2.2.1
 let m_4 := x.2.2.2.1
 let m_5 := x.2.2.2.2.1
 let m_6 := x.2.2.2.2.2.1
 let m_7 := x.2.2.2.2.2.2.1
 let m_8 := x.2.2.2.2.2.2.2.1
 let zx1 := x.2.2.2.2.2.2
 let m_9 := zx1.2.2.1
 let yTd := zx1.2.2.2.1
 let yTe := zx1.2.2.2.2.1
 let yTf := zx1.2.2.2.2.2.1
 let yTg := zx1.2.2.2.2.2.2.1
 ob (oP n (m_4, ())) fun y14 =>
 ob (uQ n (m_5, ())) fun y15 =>
 ob (mR n (m_6, ())) fun y16 =>
 ob (oQ n (m_7, ())) fun y17 =>
 ob (slices_Clone_int n (yTd, ())) fun y18 =>
 ob (jV n m_8) fun y19 =>
 some (m_1, m_2, m_3, y19, m_9, yTe, yTf, yTg, y14.1, y15.1, y16.1, y17.1, y18.1, ())
def xY (n : Nat) (x : ZQ8) : Option (ZQ8) :=
 let k_0 := x
 some (k_0.1, (k_0.2.1, (true, ())))
def uR (n : Nat) (x : Int × ZQ0) : Option (ZQ0) :=
 let i_1 := x.1
 let dL := x.2.1
 let dR := x.2.2.1
 let jM := x.2.2.2.1
 let rD := x.2.2.2.2.1
 let jO := x.2.2.2.2.2.1
 let jP := x.2.2.2.2.2.2.1
 let mI := x.2.2.2.2.2.2.2.1
 let zx1 := x.2.2.2.2.2.2
 let mJ := zx1.2.2.1
 let bB := zx1.2.2.2.1
 let fZ := zx1.2.2.2.2.1
 let eD := zx1.2.2.2.2.2.1
 let dG := zx1.2.2.2.2.2.2.1
 let zx2 := zx1.2.2.2.2.2.2
 let gY := zx2.2.1
 chk ((inB i_1 (bB.length) && decide (0 + (bB.length) <= bB.length))) (
  chk (decide (0 + i_1.toNat < bB.length)) (
   let r15 : List ZBk := bB.set (0 + i_1.toNat) (4, ((bB.getD (0 + i_1.toNat) (Ty.dflt aC)).2.1, ((bB.getD (0 + i_1.toNat) (Ty.dflt aC)).2.2.1, ((bB.getD (0 + i_1.toNat) (Ty.dflt aC)).2.2.2.1, ((bB.getD (0 + i_1.toNat) (Ty.dflt aC)).2.2.2.2.1, ((bB.getD (0 + i_1.toNat) (Ty.dflt aC)).2.2.2.2.2.1, ((bB.getD (0 + i_1.toNat) (Ty.dflt aC)).2.2.2.2.2.2.1, ((bB.getD (0 + i_1.toNat) (Ty.dflt aC)).2.2.2.2.2.2.2.1, ((bB.getD (0 + i_1.toNat) (Ty.dflt aC)).2.2.2.2.2.2.2.2.1, ((bB.getD (0 + i_1.toNat) (Ty.dflt aC)).2.2.2.2.2.2.2.2.2.1, ((bB.getD (0 + i_1.toNat) (Ty.dflt aC)).2.2.2.2.2.2.2.2.2.2.1, ((bB.getD (0 + i_1.toNat) (Ty.dflt aC)).2.2.2.2.2.2.2.2.2.2.2.1, ()))))))))))))
   chk ((inB i_1 (dG.length) && decide (0 + (dG.length) <= dG.length))) (
    chk (decide (0 + i_1.toNat < dG.length)) (
     let r16 : List ZLk := dG.set (0 + i_1.toNat) ([], ((dG.getD (0 + i_1.toNat) (Ty.dflt aY)).2.1, ((dG.getD (0 + i_1.toNat) (Ty.dflt aY)).2.2.1, ())))
     let v17 : Int := IntKind.wrap .i64 (i_1 + 1)
     let v18 : Int := ((r16.length : Nat) : Int)
     br (decide (v17 < v18)) (
      let v19 : Int := IntKind.wrap .i64 (i_1 + 1)
      let v20 : Int := IntKind.wrap .i64 (i_1 + 1)
      chk ((inB v20 (r16.length) && decide (0 + (r16.length) <= r16.length))) (
       chk (decide (0 + v20.toNat < r16.length)) (
        ob (xY n ((r16.getD (0 + v20.toNat) (Ty.dflt aY)).1, ((r16.getD (0 + v20.toNat) (Ty.dflt aY)).2.1, ((r16.getD (0 + v20.toNat) (Ty.dflt aY)).2.2.1, ())))) fun y21 =>
        chk ((inB v19 (r16.length) && decide (0 + (r16.length) <= r16.length))) (
         chk (decide (0 + v19.toNat < r16.length)) (
          let r22 : List ZLk := r16.set (0 + v19.toNat) y21
          some (dL, dR, jM, rD, jO, jP, mI, mJ, r15, fZ, eD, r22, gY, ())))))) (
      some (dL, dR, jM, rD, jO, jP, mI, mJ, r15, fZ, eD, r16, gY, ()))))))
def lY (n : Nat) (x : Int × Int × ZQ0) : Option (ZQ0) :=
 let i_1 := x.1
 let Gz := x.2.1
 let qY := x.2.2.1
 let sK := x.2.2.2.1
 let Rc := x.2.2.2.2.1
 let Vs := x.2.2.2.2.2.1
 let He := x.2.2.2.2.2.2.1
 let Hf := x.2.2.2.2.2.2.2.1
 let zx1 := x.2.2.2.2.2.2
 let Rf := zx1.2.2.1
 let Hg := zx1.2.2.2.1
 let fZ := zx1.2.2.2.2.1
 let eD := zx1.2.2.2.2.2.1
 let dG := zx1.2.2.2.2.2.2.1
 let zx2 := zx1.2.2.2.2.2.2
 let gY := zx2.2.1
 let Rh := zx2.2.2.1
 ob (uR n (i_1, qY, sK, Rc, Vs, He, Hf, Rf, Hg, fZ, eD, dG, gY, Rh, ())) fun y16 =>
 br (Gz != 0) (
  chk ((inB i_1 (y16.2.2.2.2.2.2.2.2.2.2.2.2.1.length) && decide (0 + (y16.2.2.2.2.2.2.2.2.2.2.2.2.1.length) <= y16.2.2.2.2.2.2.2.2.2.2.2.2.1.length))) (
   chk (decide (0 + i_1.toNat < y16.2.2.2.2.2.2.2.2.2.2.2.2.1.length)) (
    let r17 : List (Int) := y16.2.2.2.2.2.2.2.2.2.2.2.2.1.set (0 + i_1.toNat) Gz
    br (!y16.2.2.1) (
     some (y16.1, y16.2.1, y16.2.2.1, y16.2.2.2.1, y16.2.2.2.2.1, y16.2.2.2.2.2.1, y16.2.2.2.2.2.2.1, y16.2.2.2.2.2.2.2.1, y16.2.2.2.2.2.2.2.2.1, y16.2.2.2.2.2.2.2.2.2.1, y16.2.2.2.2.2.2.2.2.2.2.1, y16.2.2.2.2.2.2.2.2.2.2.2.1, r17, ())) (
     none)))) (
  br (!y16.2.2.1) (
   some (y16.1, y16.2.1, y16.2.2.1, y16.2.2.2.1, y16.2.2.2.2.1, y16.2.2.2.2.2.1, y16.2.2.2.2.2.2.1, y16.2.2.2.2.2.2.2.1, y16.2.2.2.2.2.2.2.2.1, y16.2.2.2.2.2.2.2.2.2.1, y16.2.2.2.2.2.2.2.2.2.2.1, y16.2.2.2.2.2.2.2.2.2.2.2.1, y16.2.2.2.2.2.2.2.2.2.2.2.2.1, ())) (
   none))
def nL (n : Nat) (x : Int × ZQ0) : Option (ZQ0) :=
 let i_1 := x.1
 let dL := x.2.1
 let dR := x.2.2.1
 let jM := x.2.2.2.1
 let rD := x.2.2.2.2.1
 let jO := x.2.2.2.2.2.1
 let jP := x.2.2.2.2.2.2.1
 let mI := x.2.2.2.2.2.2.2.1
 let zx1 := x.2.2.2.2.2.2
 let mJ := zx1.2.2.1
 let bB := zx1.2.2.2.1
 let fZ := zx1.2.2.2.2.1
 let eD := zx1.2.2.2.2.2.1
 let dG := zx1.2.2.2.2.2.2.1
 let zx2 := zx1.2.2.2.2.2.2
 let gY := zx2.2.1
 chk (inB i_1 dL.length) (
  let v15 : (Bool × List (List oO × Bool × Unit) × List lU × Unit) × Bool × List (List UInt8) × Bool × Unit := bZ (Ty.dflt aM) dL i_1
  chk ((inB i_1 (fZ.length) && decide (0 + (fZ.length) <= fZ.length))) (
   chk (decide (0 + i_1.toNat < fZ.length)) (
    let r16 : List (Bool) := fZ.set (0 + i_1.toNat) true
    br v15.2.2.2.1 (
     ob (lY n (i_1, 1, dL, dR, jM, rD, jO, jP, mI, mJ, bB, r16, eD, dG, gY, ())) fun y17 =>
     some (y17.1, y17.2.1, y17.2.2.1, y17.2.2.2.1, y17.2.2.2.2.1, y17.2.2.2.2.2.1, y17.2.2.2.2.2.2.1, y17.2.2.2.2.2.2.2.1, y17.2.2.2.2.2.2.2.2.1, y17.2.2.2.2.2.2.2.2.2.1, y17.2.2.2.2.2.2.2.2.2.2.1, y17.2.2.2.2.2.2.2.2.2.2.2.1, y17.2.2.2.2.2.2.2.2.2.2.2.2.1, ())) (
     ob (lW n (v15, jO)) fun y18 =>
     br (decide ((v15.2.2.1.length : Int) > 0)) (
      none) (
      some (dL, dR, jM, rD, y18, jP, mI, mJ, bB, r16, eD, dG, gY, ()))))))
def mZ (n : Nat) (x : List UInt8 × Bool × ZQ1) : Option (ZQ1) :=
 let s_1 := x.1
 let zQr := x.2.1
 let zQs := x.2.2.1
 let PC4 := x.2.2.2.1
 let N5 := x.2.2.2.2.1
 let zZn := x.2.2.2.2.2.1
 let zZo := x.2.2.2.2.2.2.1
 let zBo := x.2.2.2.2.2.2.2.1
 let zx1 := x.2.2.2.2.2.2
 let zZp := zx1.2.2.1
 let zZq := zx1.2.2.2.1
 let zQt := zx1.2.2.2.2.1
 let Vt := zx1.2.2.2.2.2.1
 let yGw := zx1.2.2.2.2.2.2.1
 let zx2 := zx1.2.2.2.2.2.2
 let yKf := zx2.2.1
 let Xv := zx2.2.2.1
 let yNu := zx2.2.2.2.1
 let yNv := zx2.2.2.2.2.1
 let yKg := zx2.2.2.2.2.2.1
 let yKh := zx2.2.2.2.2.2.2.1
 let zx3 := zx2.2.2.2.2.2.2
 let zEl := zx3.2.1
 chk (Nat.ble ((zEl.length + ([(s_1, (zQr, ()))] : List ZLn).length) * 24) room) (
  let r21 : List ZLn := zEl ++ [(s_1, (zQr, ()))]
  some (zQs, PC4, N5, zZn, zZo, zBo, zZp, zZq, zQt, Vt, yGw, yKf, Xv, yNu, yNv, yKg, yKh, r21, ()))
def uS (n : Nat) (x : ZQ1) : Option (ZQ1) :=
 let xZ := x.1
 let PC2 := x.2.1
 let N3 := x.2.2.1
 let Ep := x.2.2.2.1
 let Er := x.2.2.2.2.1
 let nV := x.2.2.2.2.2.1
 let Es := x.2.2.2.2.2.2.1
 let Kw := x.2.2.2.2.2.2.2.1
 let zx1 := x.2.2.2.2.2.2
 let Et := zx1.2.2.1
 let nM := zx1.2.2.2.1
 let qG := zx1.2.2.2.2.1
 let oU := zx1.2.2.2.2.2.1
 let qZ := zx1.2.2.2.2.2.2.1
 let zx2 := zx1.2.2.2.2.2.2
 let yA := zx2.2.1
 let yB := zx2.2.2.1
 let rA := zx2.2.2.2.1
 let tZ := zx2.2.2.2.2.1
 let Eu := zx2.2.2.2.2.2.1
 ob (mZ n (nV, Kw, xZ, PC2, N3, Ep, Er, nV, Es, Kw, Et, nM, qG, oU, qZ, yA, yB, rA, tZ, Eu, ())) fun y19 =>
 some (y19.1, y19.2.1, y19.2.2.1, y19.2.2.2.1, y19.2.2.2.2.1, y19.2.2.2.2.2.1, y19.2.2.2.2.2.2.1, y19.2.2.2.2.2.2.2.1, y19.2.2.2.2.2.2.2.2.1, y19.2.2.2.2.2.2.2.2.2.1, y19.2.2.2.2.2.2.2.2.2.2.1, y19.2.2.2.2.2.2.2.2.2.2.2.1, y19.2.2.2.2.2.2.2.2.2.2.2.2.1, y19.2.2.2.2.2.2.2.2.2.2.2.2.2.1, y19.2.2.2.2.2.2.2.2.2.2.2.2.2.2.1, y19.2.2.2.2.2.2.2.2.2.2.2.2.2.2.2.1, y19.2.2.2.2.2.2.2.2.2.2.2.2.2.2.2.2.1, y19.2.2.2.2.2.2.2.2.2.2.2.2.2.2.2.2.2.1, ())
def yC (n : Nat) (x : ZQ1) : Option (ZQ1) :=
 let xZ := x.1
 let PC2 := x.2.1
 let N3 := x.2.2.1
 let Ep := x.2.2.2.1
 let Er := x.2.2.2.2.1
 let nV := x.2.2.2.2.2.1
 let Es := x.2.2.2.2.2.2.1
 let Kw := x.2.2.2.2.2.2.2.1
 let zx1 := x.2.2.2.2.2.2
 let Et := zx1.2.2.1
 let nM := zx1.2.2.2.1
 let qG := zx1.2.2.2.2.1
 let oU := zx1.2.2.2.2.2.1
 let qZ := zx1.2.2.2.2.2.2.1
 let zx2 := zx1.2.2.2.2.2.2
 let yA := zx2.2.1
 let yB := zx2.2.2.1
 let rA := zx2.2.2.2.1
 let tZ := zx2.2.2.2.2.1
 let Eu := zx2.2.2.2.2.2.1
 br (!rA) (
  br (!qZ) (
   ob (uS n (xZ, PC2, N3, Ep, Er, nV, Es, Kw, Et, nM, qG, oU, qZ, yA, yB, rA, tZ, Eu, ())) fun y19 =>
   some (y19.1, y19.2.1, y19.2.2.1, y19.2.2.2.1, y19.2.2.2.2.1, y19.2.2.2.2.2.1, y19.2.2.2.2.2.2.1, y19.2.2.2.2.2.2.2.1, y19.2.2.2.2.2.2.2.2.1, y19.2.2.2.2.2.2.2.2.2.1, y19.2.2.2.2.2.2.2.2.2.2.1, y19.2.2.2.2.2.2.2.2.2.2.2.1, y19.2.2.2.2.2.2.2.2.2.2.2.2.1, y19.2.2.2.2.2.2.2.2.2.2.2.2.2.1, y19.2.2.2.2.2.2.2.2.2.2.2.2.2.2.1, y19.2.2.2.2.2.2.2.2.2.2.2.2.2.2.2.1, y19.2.2.2.2.2.2.2.2.2.2.2.2.2.2.2.2.1, y19.2.2.2.2.2.2.2.2.2.2.2.2.2.2.2.2.2.1, ())) (
   some (xZ, PC2, N3, Ep, Er, nV, Es, Kw, Et, nM, qG, oU, qZ, yA, yB, rA, tZ, Eu, ()))) (
  some (xZ, PC2, N3, Ep, Er, nV, Es, Kw, Et, nM, qG, oU, qZ, yA, yB, rA, tZ, Eu, ()))
def Ky (n : Nat) (x : List UInt8 × List UInt8 × List UInt8 × Unit) : Option (Bool × List UInt8 × Unit) :=
 let f_1 := x.1
 let f_2 := x.2.1
 let b3 := x.2.2.1
 some ((f_1 == b3), b3, ())
def qH (n : Nat) (g0 : List ZFl × Int × Int × List UInt8 × Unit -> Option (Int × List UInt8 × Unit)) (x3 : List ZFl × Int × Int × List UInt8 × Unit) : Option (Int × List UInt8 × Unit) :=
 let s_4 := x3.1
 let yNw := x3.2.1
 let zQu := x3.2.2.1
 let b7 := x3.2.2.2.1
 br (decide (zQu < yNw)) (
  chk (inB zQu s_4.length) (
   let v8 : List UInt8 × List UInt8 × Unit := bZ (Ty.dflt bC) s_4 zQu
   ob (Ky n (v8.1, v8.2.1, b7, ())) fun y9 =>
   br y9.1 (
    some (zQu, y9.2.1, ())) (
    let v10 : Int := IntKind.wrap .i64 (zQu + 1)
    g0 (s_4, yNw, v10, y9.2.1, ())))) (
  some ((-1), b7, ()))
def gV (n : Nat) (x : List ZFl × List UInt8 × Unit) : Option (Int × List UInt8 × Unit) :=
 let s_1 := x.1
 let b2 := x.2.1
 fix (qH n) n (s_1, (s_1.length : Int), 0, b2, ())
def Vu (n : Nat) (x : List ZFl × List UInt8) : Option (List UInt8 × Bool) :=
 let t_0 := x.1
 let yNx := x.2
 ob (gV n (t_0, yNx, ())) fun y1 =>
 br (decide (y1.1 < 0)) (
  some ([], false)) (
  chk (inB y1.1 t_0.length) (
   let v2 : List UInt8 × List UInt8 × Unit := bZ (Ty.dflt bC) t_0 y1.1
   some (v2.2.1, true)))
def bR (n : Nat) (x : List UInt8 × List UInt8) : Option (Bool) :=
 let s_0 := x.1
 let jW := x.2
 br (decide ((s_0.length : Int) ≥ (jW.length : Int))) (
  let v1 : Int := IntKind.wrap .i64 ((s_0.length : Int) - (jW.length : Int))
  chk ((decide (0 <= v1) && decide (v1 <= (s_0.length : Int)))) (
   some ((s_0.drop v1.toNat) == jW))) (
  some false)
def gB (n : Nat) (x : List UInt8 × List UInt8) : Option (List UInt8 × Bool) :=
 let s_0 := x.1
 let jW := x.2
 ob (bR n (s_0, jW)) fun y1 =>
 br (!y1) (
  some (s_0, false)) (
  let v2 : Int := IntKind.wrap .i64 ((s_0.length : Int) - (jW.length : Int))
  chk ((decide (0 <= v2) && decide (v2 <= (s_0.length : Int)))) (
   some (s_0.take v2.toNat, true)))
def strings_CutSuffix (n : Nat) (x : List UInt8 × List UInt8) : Option (List UInt8 × Bool) :=
 let s_0 := x.1
 let jW := x.2
 ob (gB n (s_0, jW)) fun y1 =>
 some (y1.1, y1.2)
def Nn (n : Nat) (g0 : List ZLn × Int × Int × Int × Int × Int × Int × Int × List UInt8 × List UInt8 × Bool × Bool × Bool × List (Bool × Int × Unit) × List ZLn × Bool × List (List oO × Bool × Unit) × List lU × Bool × List ZFl × List ZLn × Unit -> Option (ZQ1)) (x19 : List ZLn × Int × Int × ZQ1) : Option (ZQ1) :=
 let Vv := x19.1
 let zEm := x19.2.1
 let Np := x19.2.2.1
 let Xy := x19.2.2.2.1
 let zZr := x19.2.2.2.2.1
 let N25 := x19.2.2.2.2.2.1
 let zEn := x19.2.2.2.2.2.2.1
 let zEo := x19.2.2.2.2.2.2.2.1
 let uD := x19.2.2.2.2.2.2
 let Jv := uD.2.2.1
 let zEp := uD.2.2.2.1
 let zMc := uD.2.2.2.2.1
 let zEq := uD.2.2.2.2.2.1
 let Jw := uD.2.2.2.2.2.2.1
 let Ak := uD.2.2.2.2.2.2
 let Ri := Ak.2.1
 let zIf := Ak.2.2.1
 let Xz := Ak.2.2.2.1
 let zEr := Ak.2.2.2.2.1
 let zEs := Ak.2.2.2.2.2.1
 let Ya := Ak.2.2.2.2.2.2.1
 let yIn := Ak.2.2.2.2.2.2
 let Nq := yIn.2.1
 let zMd := yIn.2.2.1
 br (decide (Np < zEm)) (
  chk (inB Np Vv.length) (
   let v41 : List UInt8 × Bool × Unit := bZ (Ty.dflt aI) Vv Np
   br (!v41.2.1) (
    ob (mZ n (v41.1, true, Xy, zZr, N25, zEn, zEo, Jv, zEp, zMc, zEq, Jw, Ri, zIf, Xz, zEr, zEs, Ya, Nq, zMd, ())) fun y42 =>
    let v43 : Int := IntKind.wrap .i64 (Np + 1)
    g0 (Vv, zEm, v43, y42.1, y42.2.1, y42.2.2.1, y42.2.2.2.1, y42.2.2.2.2.1, y42.2.2.2.2.2.1, y42.2.2.2.2.2.2.1, y42.2.2.2.2.2.2.2.1, y42.2.2.2.2.2.2.2.2.1, y42.2.2.2.2.2.2.2.2.2.1, y42.2.2.2.2.2.2.2.2.2.2.1, y42.2.2.2.2.2.2.2.2.2.2.2.1, y42.2.2.2.2.2.2.2.2.2.2.2.2.1, y42.2.2.2.2.2.2.2.2.2.2.2.2.2.1, y42.2.2.2.2.2.2.2.2.2.2.2.2.2.2.1, y42.2.2.2.2.2.2.2.2.2.2.2.2.2.2.2.1, y42.2.2.2.2.2.2.2.2.2.2.2.2.2.2.2.2.1, y42.2.2.2.2.2.2.2.2.2.2.2.2.2.2.2.2.2.1, ())) (
    ob (Vu n (Nq, v41.1)) fun y44 =>
    br (!(y44.1 == [])) (
     ob (strings_CutSuffix n (y44.1, [10])) fun y45 =>
     ob (mZ n (y45.1, y45.2, Xy, zZr, N25, zEn, zEo, Jv, zEp, zMc, zEq, Jw, Ri, zIf, Xz, zEr, zEs, Ya, Nq, zMd, ())) fun y46 =>
     let v47 : Int := IntKind.wrap .i64 (Np + 1)
     g0 (Vv, zEm, v47, y46.1, y46.2.1, y46.2.2.1, y46.2.2.2.1, y46.2.2.2.2.1, y46.2.2.2.2.2.1, y46.2.2.2.2.2.2.1, y46.2.2.2.2.2.2.2.1, y46.2.2.2.2.2.2.2.2.1, y46.2.2.2.2.2.2.2.2.2.1, y46.2.2.2.2.2.2.2.2.2.2.1, y46.2.2.2.2.2.2.2.2.2.2.2.1, y46.2.2.2.2.2.2.2.2.2.2.2.2.1, y46.2.2.2.2.2.2.2.2.2.2.2.2.2.1, y46.2.2.2.2.2.2.2.2.2.2.2.2.2.2.1, y46.2.2.2.2.2.2.2.2.2.2.2.2.2.2.2.1, y46.2.2.2.2.2.2.2.2.2.2.2.2.2.2.2.2.1, y46.2.2.2.2.2.2.2.2.2.2.2.2.2.2.2.2.2.1, ())) (
     let v48 : Int := IntKind.wrap .i64 (Np + 1)
     g0 (Vv, zEm, v48, Xy, zZr, N25, zEn, zEo, Jv, zEp, zMc, zEq, Jw, Ri, zIf, Xz, zEr, zEs, Ya, Nq, zMd, ()))))) (
  some (Xy, zZr, N25, zEn, zEo, Jv, zEp, zMc, zEq, Jw, Ri, [], Xz, zEr, zEs, Ya, Nq, zMd, ()))
def yD (n : Nat) (x : ZQ1) : Option (ZQ1) :=
 let xZ := x.1
 let PC2 := x.2.1
 let N3 := x.2.2.1
 let Ep := x.2.2.2.1
 let Er := x.2.2.2.2.1
 let nV := x.2.2.2.2.2.1
 let Es := x.2.2.2.2.2.2.1
 let Kw := x.2.2.2.2.2.2.2.1
 let zx1 := x.2.2.2.2.2.2
 let Et := zx1.2.2.1
 let nM := zx1.2.2.2.1
 let qG := zx1.2.2.2.2.1
 let oU := zx1.2.2.2.2.2.1
 let qZ := zx1.2.2.2.2.2.2.1
 let zx2 := zx1.2.2.2.2.2.2
 let yA := zx2.2.1
 let yB := zx2.2.2.1
 let rA := zx2.2.2.2.1
 let tZ := zx2.2.2.2.2.1
 let Eu := zx2.2.2.2.2.2.1
 fix (Nn n) n (oU, (oU.length : Int), 0, xZ, PC2, N3, Ep, Er, nV, Es, Kw, Et, nM, qG, oU, qZ, yA, yB, rA, tZ, Eu, ())
def Cv (n : Nat) (x : ZQ1) : Option (ZQ1) :=
 let xZ := x.1
 let PC2 := x.2.1
 let N3 := x.2.2.1
 let Ep := x.2.2.2.1
 let Er := x.2.2.2.2.1
 let nV := x.2.2.2.2.2.1
 let Es := x.2.2.2.2.2.2.1
 let Kw := x.2.2.2.2.2.2.2.1
 let zx1 := x.2.2.2.2.2.2
 let Et := zx1.2.2.1
 let nM := zx1.2.2.2.1
 let qG := zx1.2.2.2.2.1
 let oU := zx1.2.2.2.2.2.1
 let qZ := zx1.2.2.2.2.2.2.1
 let zx2 := zx1.2.2.2.2.2.2
 let yA := zx2.2.1
 let yB := zx2.2.2.1
 let rA := zx2.2.2.2.1
 let tZ := zx2.2.2.2.2.1
 let Eu := zx2.2.2.2.2.2.1
 ob (yD n (xZ, PC2, N3, Ep, Er, nV, Es, Kw, Et, nM, qG, oU, qZ, yA, yB, rA, tZ, Eu, ())) fun y19 =>
 some (0, y19.2.1, y19.2.2.1, y19.2.2.2.1, y19.2.2.2.2.1, y19.2.2.2.2.2.1, y19.2.2.2.2.2.2.1, y19.2.2.2.2.2.2.2.1, y19.2.2.2.2.2.2.2.2.1, y19.2.2.2.2.2.2.2.2.2.1, y19.2.2.2.2.2.2.2.2.2.2.1, y19.2.2.2.2.2.2.2.2.2.2.2.1, y19.2.2.2.2.2.2.2.2.2.2.2.2.1, y19.2.2.2.2.2.2.2.2.2.2.2.2.2.1, y19.2.2.2.2.2.2.2.2.2.2.2.2.2.2.1, y19.2.2.2.2.2.2.2.2.2.2.2.2.2.2.2.1, y19.2.2.2.2.2.2.2.2.2.2.2.2.2.2.2.2.1, y19.2.2.2.2.2.2.2.2.2.2.2.2.2.2.2.2.2.1, ())
def nW (_n:Nat) (x:List (Bool × Int × Unit) × Unit):Option (List (Bool × Int × Unit) × Unit):=Gj 16 x
def Nr (n : Nat) (g0 : Int × Int × Int × Int × Int × Int × Int × List UInt8 × List UInt8 × Bool × Bool × Bool × List (Bool × Int × Unit) × List ZLn × Bool × List (List oO × Bool × Unit) × List lU × Bool × List ZFl × List ZLn × Int × Int × Int × Int × Int × Int × Bool × Int × List UInt8 × List UInt8 × Int × Int × Int × List (List UInt8 × Int × Unit) × Bool × Bool × List (Bool) × List (Int × Int × Int × Unit) × Unit -> Option (ZQ6)) (x37 : Int × Int × Int × Int × Int × Int × Int × List UInt8 × List UInt8 × Bool × Bool × Bool × List (Bool × Int × Unit) × List ZLn × Bool × List (List oO × Bool × Unit) × List lU × Bool × List ZFl × List ZLn × Int × Int × Int × Int × Int × Int × Bool × Int × List UInt8 × List UInt8 × Int × Int × Int × List (List UInt8 × Int × Unit) × Bool × Bool × List (Bool) × List (Int × Int × Int × Unit) × Unit) : Option (ZQ6) :=
 let yCs := x37.1
 let Hl := x37.2.1
 let zUp := x37.2.2.1
 let zBp := x37.2.2.2.1
 let N42 := x37.2.2.2.2.1
 let yCt := x37.2.2.2.2.2.1
 let yCu := x37.2.2.2.2.2.2.1
 let zKg := x37.2.2.2.2.2.2.2.1
 let Yb := x37.2.2.2.2.2.2
 let yCv := Yb.2.2.1
 let yIo := Yb.2.2.2.1
 let zQv := Yb.2.2.2.2.1
 let zKh := Yb.2.2.2.2.2.1
 let Rj := Yb.2.2.2.2.2.2.1
 let Rk := Yb.2.2.2.2.2.2
 let zUq := Rk.2.1
 let zUr := Rk.2.2.1
 let yCw := Rk.2.2.2.1
 let yCx := Rk.2.2.2.2.1
 let zUs := Rk.2.2.2.2.2.1
 let zUt := Rk.2.2.2.2.2.2.1
 let Rl := Rk.2.2.2.2.2.2
 let yIp := Rl.2.1
 let yCy := Rl.2.2.1
 let N59 := Rl.2.2.2.1
 let M60 := Rl.2.2.2.2.1
 let yCz := Rl.2.2.2.2.2.1
 let N62 := Rl.2.2.2.2.2.2.1
 let Rm := Rl.2.2.2.2.2.2
 let M63 := Rm.2.1
 let yIq := Rm.2.2.1
 let yTh := Rm.2.2.2.1
 let yNy := Rm.2.2.2.2.1
 let yNz := Rm.2.2.2.2.2.1
 let N68 := Rm.2.2.2.2.2.2.1
 let Rn := Rm.2.2.2.2.2.2
 let yTi := Rn.2.1
 let yQk := Rn.2.2.1
 let yKi := Rn.2.2.2.1
 let yQl := Rn.2.2.2.2.1
 let yKj := Rn.2.2.2.2.2.1
 let yIr := Rn.2.2.2.2.2.2.1
 let yQm := Rn.2.2.2.2.2.2
 let Jy := yQm.2.1
 br (decide (Hl < yCs)) (
  chk ((inB Hl (Jy.length) && decide (0 + (Jy.length) <= Jy.length))) (
   chk (decide (0 + Hl.toNat < Jy.length)) (
    let v76 : Int := (Jy.getD (0 + Hl.toNat) (Ty.dflt xW)).1
    br (v76 == 4) (
     let v77 : Int := (Jy.getD (0 + Hl.toNat) (Ty.dflt xW)).2.1
     let v78 : Int := (Jy.getD (0 + Hl.toNat) (Ty.dflt xW)).2.1
     none) (
     let v79 : Int := IntKind.wrap .i64 (Hl + 1)
     g0 (yCs, v79, zUp, zBp, N42, yCt, yCu, zKg, yCv, yIo, zQv, zKh, Rj, zUq, zUr, yCw, yCx, zUs, zUt, yIp, yCy, N59, M60, yCz, N62, M63, yIq, yTh, yNy, yNz, N68, yTi, yQk, yKi, yQl, yKj, yIr, Jy, ()))))) (
  chk (inB zBp Rj.length) (
   let v80 : Bool × Int × Unit := bZ (Ty.dflt iR) Rj zBp
   ob (wG n (((yCy, (N59, (M60, ()))), ((yCz, (N62, (M63, ()))), (yIq, ()))), v80, (N42, (zQv, (yIr, ()))))) fun y81 =>
   ob (nW n (Rj, ())) fun y82 =>
   chk ((inB zBp (y82.1.length) && decide (0 + (y82.1.length) <= y82.1.length))) (
    chk (decide (0 + zBp.toNat < y82.1.length)) (
     let r83 : List (Bool × Int × Unit) := y82.1.set (0 + zBp.toNat) y81.2
     some (y81.1, zUp, zBp, N42, yCt, yCu, zKg, yCv, yIo, zQv, zKh, zUq, zUr, yCw, yCx, zUs, zUt, yIp, r83, ())))))
def nN (n : Nat) (x : Int × Int × Int × Int × Int × Int × Bool × Int × List UInt8 × List UInt8 × Int × Int × Int × List (List UInt8 × Int × Unit) × Bool × Bool × ZQ1) : Option (ZQ6) :=
 let c_1 := x.1
 let c_2 := x.2.1
 let c_3 := x.2.2.1
 let c_4 := x.2.2.2.1
 let c_5 := x.2.2.2.2.1
 let c_6 := x.2.2.2.2.2.1
 let c_7 := x.2.2.2.2.2.2.1
 let c_8 := x.2.2.2.2.2.2.2.1
 let zx1 := x.2.2.2.2.2.2
 let c_9 := zx1.2.2.1
 let yOa := zx1.2.2.2.1
 let zZs := zx1.2.2.2.2.1
 let yOb := zx1.2.2.2.2.2.1
 let yOc := zx1.2.2.2.2.2.2.1
 let zx2 := zx1.2.2.2.2.2.2
 let yOd := zx2.2.1
 let yOe := zx2.2.2.1
 let yOf := zx2.2.2.2.1
 let Yc := zx2.2.2.2.2.1
 let zZt := zx2.2.2.2.2.2.1
 let N19 := zx2.2.2.2.2.2.2.1
 let zx3 := zx2.2.2.2.2.2.2
 let zEt := zx3.2.1
 let zEu := zx3.2.2.1
 let wZ := zx3.2.2.2.1
 let zEv := zx3.2.2.2.2.1
 let zMe := zx3.2.2.2.2.2.1
 let zEw := zx3.2.2.2.2.2.2.1
 let zx4 := zx3.2.2.2.2.2.2
 let Jz := zx4.2.1
 let yGx := zx4.2.2.1
 let yKk := zx4.2.2.2.1
 let yKl := zx4.2.2.2.2.1
 let Ns := zx4.2.2.2.2.2.1
 let yOg := zx4.2.2.2.2.2.2.1
 let zx5 := zx4.2.2.2.2.2.2
 let yKm := zx5.2.1
 let yKn := zx5.2.2.1
 let Aj := zx5.2.2.2.1
 chk ((decide (0 <= (Ns.length : Int)) && (decide ((Ns.length : Int) = (Ns.length : Int)) && Nat.ble ((Ns.length : Int).toNat * 1) room))) (
  let r35 : List (Bool) := List.replicate (Ns.length : Int).toNat false
  let v36 : Int := (([(c_1, (c_2, (c_3, ()))), (c_4, (c_5, (c_6, ())))].length : Nat) : Int)
  fix (Nr n) n (v36, 0, Yc, zZt, N19, zEt, zEu, wZ, zEv, zMe, zEw, Jz, yGx, yKk, yKl, Ns, yOg, yKm, yKn, Aj, c_1, c_2, c_3, c_4, c_5, c_6, c_7, c_8, c_9, yOa, zZs, yOb, yOc, yOd, yOe, yOf, r35, [(c_1, (c_2, (c_3, ()))), (c_4, (c_5, (c_6, ())))], ()))
def nX (n : Nat) (x : Int) : Option (List UInt8) :=
 let b_0 := x
 br (b_0 == 92) (
  some [92, 92]) (
  br (decide (b_0 ≥ 7)) (
   br (decide (b_0 <= 13)) (
    let v1 : Int := IntKind.wrap .u8 (b_0 - 7)
    chk (inB v1 [97, 98, 116, 110, 118, 102, 114].length) (
     let v2 : Int := ((bZ (0 : UInt8) [97, 98, 116, 110, 118, 102, 114] v1).toNat : Int)
     chk (decide ([92].length + (dU [v2]).length <= kD)) (
      some ([92] ++ (dU [v2]))))) (
    br (decide (b_0 < 32)) (
     ob (iL n (IntKind.wrap .u64 b_0, 8)) fun y3 =>
     let v4 : Int := IntKind.wrap .i64 (3 - (y3.length : Int))
     ob (strings_Repeat n ([48], v4)) fun y5 =>
     chk (decide ([92].length + y5.length <= kD)) (
      chk (decide (([92] ++ y5).length + y3.length <= kD)) (
       some (([92] ++ y5) ++ y3)))) (
     br (decide (b_0 > 126)) (
      ob (iL n (IntKind.wrap .u64 b_0, 8)) fun y6 =>
      let v7 : Int := IntKind.wrap .i64 (3 - (y6.length : Int))
      ob (strings_Repeat n ([48], v7)) fun y8 =>
      chk (decide ([92].length + y8.length <= kD)) (
       chk (decide (([92] ++ y8).length + y6.length <= kD)) (
        some (([92] ++ y8) ++ y6)))) (
      some (dU [b_0]))))) (
   br (decide (b_0 < 32)) (
    ob (iL n (IntKind.wrap .u64 b_0, 8)) fun y9 =>
    let v10 : Int := IntKind.wrap .i64 (3 - (y9.length : Int))
    ob (strings_Repeat n ([48], v10)) fun y11 =>
    chk (decide ([92].length + y11.length <= kD)) (
     chk (decide (([92] ++ y11).length + y9.length <= kD)) (
      some (([92] ++ y11) ++ y9)))) (
    br (decide (b_0 > 126)) (
     ob (iL n (IntKind.wrap .u64 b_0, 8)) fun y12 =>
     let v13 : Int := IntKind.wrap .i64 (3 - (y12.length : Int))
     ob (strings_Repeat n ([48], v13)) fun y14 =>
     chk (decide ([92].length + y14.length <= kD)) (
      chk (decide (([92] ++ y14).length + y12.length <= kD)) (
       some (([92] ++ y14) ++ y12)))) (
     some (dU [b_0])))))
def aX (n : Nat) (x : List UInt8 × List (Int) × Unit) : Option (Int × Bool × List (Int) × Unit) :=
 let s_1 := x.1
 let yTj := x.2.1
 ob (vT n (yTj, ())) fun y3 =>
 chk (Nat.ble ((y3.1.length + s_1.length) * 1) room) (
  some ((s_1.length : Int), false, y3.1 ++ bA s_1, ()))
def yE (n : Nat) (x : List UInt8 × Int × Int × List (Int) × Unit) : Option (Int × Int × List (Int) × Unit) :=
 let p_1 := x.1
 let b2 := x.2.1
 let b3 := x.2.2.1
 let zZu := x.2.2.2.1
 br (decide (b2 > 1)) (
  br (decide (b3 > 0)) (
   let v5 : Int := IntKind.wrap .i64 (b3 + (p_1.length : Int))
   br (decide (v5 ≥ b2)) (
    ob (aX n ([92, 10], zZu, ())) fun y6 =>
    ob (aX n (p_1, y6.2.2.1, ())) fun y7 =>
    let v8 : Int := IntKind.wrap .i64 (0 + (p_1.length : Int))
    some (b2, v8, y7.2.2.1, ())) (
    ob (aX n (p_1, zZu, ())) fun y9 =>
    let v10 : Int := IntKind.wrap .i64 (b3 + (p_1.length : Int))
    some (b2, v10, y9.2.2.1, ()))) (
   ob (aX n (p_1, zZu, ())) fun y11 =>
   let v12 : Int := IntKind.wrap .i64 (b3 + (p_1.length : Int))
   some (b2, v12, y11.2.2.1, ()))) (
  ob (aX n (p_1, zZu, ())) fun y13 =>
  let v14 : Int := IntKind.wrap .i64 (b3 + (p_1.length : Int))
  some (b2, v14, y13.2.2.1, ()))
def qI (n : Nat) (g0 : List UInt8 × Int × Int × Int × Int × List (Int) × Unit -> Option (List UInt8)) (x1 : List UInt8 × Int × Int × Int × Int × List (Int) × Unit) : Option (List UInt8) :=
 let s_2 := x1.1
 let yIs := x1.2.1
 let zMf := x1.2.2.1
 let b5 := x1.2.2.2.1
 let b6 := x1.2.2.2.2.1
 let Qx := x1.2.2.2.2.2.1
 br (decide (zMf < yIs)) (
  chk (inB zMf s_2.length) (
   let v8 : Int := ((bZ 0 s_2 zMf).toNat : Int)
   ob (nX n v8) fun y9 =>
   ob (yE n (y9, b5, b6, Qx, ())) fun y10 =>
   let v11 : Int := IntKind.wrap .i64 (zMf + 1)
   g0 (s_2, yIs, v11, y10.1, y10.2.1, y10.2.2.1, ()))) (
  ob (aX n ([36, 10], Qx, ())) fun y12 =>
  ob (Builder_String n (y12.2.2.1, ())) fun y13 =>
  some y13.1)
def nO (n : Nat) (x : List UInt8 × Int) : Option (List UInt8) :=
 let s_0 := x.1
 let yKo := x.2
 fix (qI n) n (s_0, (s_0.length : Int), 0, yKo, 0, [], ())
def fM (n : Nat) (x : List UInt8 × List UInt8) : Option (List UInt8) :=
 let s_0 := x.1
 let jW := x.2
 ob (bR n (s_0, jW)) fun y1 =>
 br y1 (
  let v2 : Int := IntKind.wrap .i64 ((s_0.length : Int) - (jW.length : Int))
  chk ((decide (0 <= v2) && decide (v2 <= (s_0.length : Int)))) (
   some (s_0.take v2.toNat))) (
  some s_0)
def strings_TrimSuffix (n : Nat) (x : List UInt8 × List UInt8) : Option (List UInt8) :=
 let s_0 := x.1
 let jW := x.2
 ob (fM n (s_0, jW)) fun y1 =>
 some y1
def qJ (n : Nat) (x : List UInt8 × Bool × ZQ4) : Option (ZQ4) :=
 let s_1 := x.1
 let zQr := x.2.1
 let zQs := x.2.2.1
 let PC4 := x.2.2.2.1
 let N5 := x.2.2.2.2.1
 let zZn := x.2.2.2.2.2.1
 let zZo := x.2.2.2.2.2.2.1
 let zBo := x.2.2.2.2.2.2.2.1
 let zx1 := x.2.2.2.2.2.2
 let zZp := zx1.2.2.1
 let zZq := zx1.2.2.2.1
 let zQt := zx1.2.2.2.2.1
 let Vt := zx1.2.2.2.2.2.1
 let yKp := zx1.2.2.2.2.2.2.1
 let zx2 := zx1.2.2.2.2.2.2
 let yKq := zx2.2.1
 let yOh := zx2.2.2.1
 let yOi := zx2.2.2.2.1
 let yKr := zx2.2.2.2.2.1
 let yKs := zx2.2.2.2.2.2.1
 let yQn := zx2.2.2.2.2.2.2.1
 let zx3 := zx2.2.2.2.2.2.2
 let zEl := zx3.2.1
 chk (Nat.ble ((zEl.length + ([(s_1, (zQr, ()))] : List ZLn).length) * 24) room) (
  let r21 : List ZLn := zEl ++ [(s_1, (zQr, ()))]
  some (zQs, PC4, N5, zZn, zZo, zBo, zZp, zZq, zQt, Vt, yKp, yKq, yOh, yOi, yKr, yKs, yQn, r21, ()))
def nP (n : Nat) (x : Int × Int × Int × Int × Int × Int × Bool × Int × List UInt8 × List UInt8 × Int × Int × Int × List (List UInt8 × Int × Unit) × Bool × Bool × ZQ4) : Option (ZQ4) :=
 let c_1 := x.1
 let c_2 := x.2.1
 let c_3 := x.2.2.1
 let c_4 := x.2.2.2.1
 let c_5 := x.2.2.2.2.1
 let c_6 := x.2.2.2.2.2.1
 let c_7 := x.2.2.2.2.2.2.1
 let c_8 := x.2.2.2.2.2.2.2.1
 let zx1 := x.2.2.2.2.2.2
 let c_9 := zx1.2.2.1
 let yOa := zx1.2.2.2.1
 let zZs := zx1.2.2.2.2.1
 let yOb := zx1.2.2.2.2.2.1
 let yOc := zx1.2.2.2.2.2.2.1
 let zx2 := zx1.2.2.2.2.2.2
 let yOd := zx2.2.1
 let yOe := zx2.2.2.1
 let yOf := zx2.2.2.2.1
 let Yc := zx2.2.2.2.2.1
 let zZt := zx2.2.2.2.2.2.1
 let N19 := zx2.2.2.2.2.2.2.1
 let zx3 := zx2.2.2.2.2.2.2
 let zEt := zx3.2.1
 let zEu := zx3.2.2.1
 let wZ := zx3.2.2.2.1
 let zEv := zx3.2.2.2.2.1
 let zMe := zx3.2.2.2.2.2.1
 let zEw := zx3.2.2.2.2.2.2.1
 let zx4 := zx3.2.2.2.2.2.2
 let Jz := zx4.2.1
 let zUu := zx4.2.2.1
 let zUv := zx4.2.2.2.1
 let yDa := zx4.2.2.2.2.1
 let yDb := zx4.2.2.2.2.2.1
 let zUw := zx4.2.2.2.2.2.2.1
 let zx5 := zx4.2.2.2.2.2.2
 let zUx := zx5.2.1
 let tX := zx5.2.2.1
 let Aj := zx5.2.2.2.1
 br (zZs == (-1)) (
  ob (nO n (wZ, 70)) fun y35 =>
  ob (strings_TrimSuffix n (y35, [10])) fun y36 =>
  ob (qJ n (y36, true, Yc, zZt, N19, zEt, zEu, wZ, zEv, zMe, zEw, Jz, zUu, zUv, yDa, yDb, zUw, zUx, tX, Aj, ())) fun y37 =>
  some (y37.1, y37.2.1, y37.2.2.1, y37.2.2.2.1, y37.2.2.2.2.1, y37.2.2.2.2.2.1, y37.2.2.2.2.2.2.1, y37.2.2.2.2.2.2.2.1, y37.2.2.2.2.2.2.2.2.1, y37.2.2.2.2.2.2.2.2.2.1, y37.2.2.2.2.2.2.2.2.2.2.1, y37.2.2.2.2.2.2.2.2.2.2.2.1, y37.2.2.2.2.2.2.2.2.2.2.2.2.1, y37.2.2.2.2.2.2.2.2.2.2.2.2.2.1, y37.2.2.2.2.2.2.2.2.2.2.2.2.2.2.1, y37.2.2.2.2.2.2.2.2.2.2.2.2.2.2.2.1, y37.2.2.2.2.2.2.2.2.2.2.2.2.2.2.2.2.1, y37.2.2.2.2.2.2.2.2.2.2.2.2.2.2.2.2.2.1, ())) (
  ob (nO n (wZ, zZs)) fun y38 =>
  ob (strings_TrimSuffix n (y38, [10])) fun y39 =>
  ob (qJ n (y39, true, Yc, zZt, N19, zEt, zEu, wZ, zEv, zMe, zEw, Jz, zUu, zUv, yDa, yDb, zUw, zUx, tX, Aj, ())) fun y40 =>
  some (y40.1, y40.2.1, y40.2.2.1, y40.2.2.2.1, y40.2.2.2.2.1, y40.2.2.2.2.2.1, y40.2.2.2.2.2.2.1, y40.2.2.2.2.2.2.2.1, y40.2.2.2.2.2.2.2.2.1, y40.2.2.2.2.2.2.2.2.2.1, y40.2.2.2.2.2.2.2.2.2.2.1, y40.2.2.2.2.2.2.2.2.2.2.2.1, y40.2.2.2.2.2.2.2.2.2.2.2.2.1, y40.2.2.2.2.2.2.2.2.2.2.2.2.2.1, y40.2.2.2.2.2.2.2.2.2.2.2.2.2.2.1, y40.2.2.2.2.2.2.2.2.2.2.2.2.2.2.2.1, y40.2.2.2.2.2.2.2.2.2.2.2.2.2.2.2.2.1, y40.2.2.2.2.2.2.2.2.2.2.2.2.2.2.2.2.2.1, ()))
def pJ (n : Nat) (x : (Bool × List (List oO × Bool × Unit) × List lU × Unit) × Bool × (ZQ5) × List ZFl) : Option ((ZQ5) × List ZFl × List ZLn) :=
 let x_0 := x.1
 let zUy := x.2.1
 let b_2 := x.2.2.1
 let t_3 := x.2.2.2
 br (b_2.1 != 1) (
  some (b_2, t_3, [])) (
  br (b_2.2.1 == (x_0.2.2.1.length : Int)) (
   ob (yC n (b_2.1, b_2.2.1, b_2.2.2.1, b_2.2.2.2.1, b_2.2.2.2.2.1, b_2.2.2.2.2.2.1, b_2.2.2.2.2.2.2.1, b_2.2.2.2.2.2.2.2.1, b_2.2.2.2.2.2.2.2.2.1, b_2.2.2.2.2.2.2.2.2.2.1, b_2.2.2.2.2.2.2.2.2.2.2.1, b_2.2.2.2.2.2.2.2.2.2.2.2.1, x_0.1, x_0.2.1, x_0.2.2.1, zUy, t_3, [], ())) fun y1 =>
   ob (Cv n (y1.1, y1.2.1, y1.2.2.1, y1.2.2.2.1, y1.2.2.2.2.1, y1.2.2.2.2.2.1, y1.2.2.2.2.2.2.1, y1.2.2.2.2.2.2.2.1, y1.2.2.2.2.2.2.2.2.1, y1.2.2.2.2.2.2.2.2.2.1, y1.2.2.2.2.2.2.2.2.2.2.1, y1.2.2.2.2.2.2.2.2.2.2.2.1, y1.2.2.2.2.2.2.2.2.2.2.2.2.1, y1.2.2.2.2.2.2.2.2.2.2.2.2.2.1, y1.2.2.2.2.2.2.2.2.2.2.2.2.2.2.1, y1.2.2.2.2.2.2.2.2.2.2.2.2.2.2.2.1, y1.2.2.2.2.2.2.2.2.2.2.2.2.2.2.2.2.1, y1.2.2.2.2.2.2.2.2.2.2.2.2.2.2.2.2.2.1, ())) fun y2 =>
   let v3 := y2.2.2.2.2.2.2.2.2.2.2.2.2.2.2.2.2.1
   some ((y2.1, (y2.2.1, (y2.2.2.1, (y2.2.2.2.1, (y2.2.2.2.2.1, (y2.2.2.2.2.2.1, (y2.2.2.2.2.2.2.1, (y2.2.2.2.2.2.2.2.1, (y2.2.2.2.2.2.2.2.2.1, (y2.2.2.2.2.2.2.2.2.2.1, (y2.2.2.2.2.2.2.2.2.2.2.1, (y2.2.2.2.2.2.2.2.2.2.2.2.1, ())))))))))))), v3, y2.2.2.2.2.2.2.2.2.2.2.2.2.2.2.2.2.2.1)) (
   chk (inB b_2.2.1 x_0.2.2.1.length) (
    let v4 : ((Int × Int × Int × Unit) × (Int × Int × Int × Unit) × Bool × Unit) × Int × List UInt8 × List UInt8 × Int × Int × Int × List (List UInt8 × Int × Unit) × Bool × Bool × Unit := bZ (Ty.dflt aG) x_0.2.2.1 b_2.2.1
    ob (nN n (v4.1.1.1, v4.1.1.2.1, v4.1.1.2.2.1, v4.1.2.1.1, v4.1.2.1.2.1, v4.1.2.1.2.2.1, v4.1.2.2.1, v4.2.1, v4.2.2.1, v4.2.2.2.1, v4.2.2.2.2.1, v4.2.2.2.2.2.1, v4.2.2.2.2.2.2.1, v4.2.2.2.2.2.2.2.1, v4.2.2.2.2.2.2.2.2.1, v4.2.2.2.2.2.2.2.2.2.1, b_2.1, b_2.2.1, b_2.2.2.1, b_2.2.2.2.1, b_2.2.2.2.2.1, b_2.2.2.2.2.2.1, b_2.2.2.2.2.2.2.1, b_2.2.2.2.2.2.2.2.1, b_2.2.2.2.2.2.2.2.2.1, b_2.2.2.2.2.2.2.2.2.2.1, b_2.2.2.2.2.2.2.2.2.2.2.1, b_2.2.2.2.2.2.2.2.2.2.2.2.1, x_0.1, x_0.2.1, x_0.2.2.1, zUy, t_3, [], ())) fun y5 =>
    let v6 : Int := IntKind.wrap .i64 (y5.2.2.1 + 1)
    br y5.1 (
     chk ((v4.2.1 == 108)) (
      ob (nP n (v4.1.1.1, v4.1.1.2.1, v4.1.1.2.2.1, v4.1.2.1.1, v4.1.2.1.2.1, v4.1.2.1.2.2.1, v4.1.2.2.1, v4.2.1, v4.2.2.1, v4.2.2.2.1, v4.2.2.2.2.1, v4.2.2.2.2.2.1, v4.2.2.2.2.2.2.1, v4.2.2.2.2.2.2.2.1, v4.2.2.2.2.2.2.2.2.1, v4.2.2.2.2.2.2.2.2.2.1, y5.2.1, v6, y5.2.2.2.1, y5.2.2.2.2.1, y5.2.2.2.2.2.1, y5.2.2.2.2.2.2.1, y5.2.2.2.2.2.2.2.1, y5.2.2.2.2.2.2.2.2.1, y5.2.2.2.2.2.2.2.2.2.1, y5.2.2.2.2.2.2.2.2.2.2.1, y5.2.2.2.2.2.2.2.2.2.2.2.1, y5.2.2.2.2.2.2.2.2.2.2.2.2.1, y5.2.2.2.2.2.2.2.2.2.2.2.2.2.1, y5.2.2.2.2.2.2.2.2.2.2.2.2.2.2.1, y5.2.2.2.2.2.2.2.2.2.2.2.2.2.2.2.1, y5.2.2.2.2.2.2.2.2.2.2.2.2.2.2.2.2.1, y5.2.2.2.2.2.2.2.2.2.2.2.2.2.2.2.2.2.2.1, y5.2.2.2.2.2.2.2.2.2.2.2.2.2.2.2.2.2.1, ())) fun y7 =>
      let v8 := y7.2.2.2.2.2.2.2.2.2.2.2.2.2.2.2.1
      some ((y7.1, (y7.2.1, (y7.2.2.1, (y7.2.2.2.1, (y7.2.2.2.2.1, (y7.2.2.2.2.2.1, (y7.2.2.2.2.2.2.1, (y7.2.2.2.2.2.2.2.1, (y7.2.2.2.2.2.2.2.2.1, (y7.2.2.2.2.2.2.2.2.2.1, (y7.2.2.2.2.2.2.2.2.2.2.2.2.2.2.2.2.1, (y7.2.2.2.2.2.2.2.2.2.2.1, ())))))))))))), v8, y7.2.2.2.2.2.2.2.2.2.2.2.2.2.2.2.2.2.1))) (
     br (v4.2.1 == 123) (
      let v9 : Int := IntKind.wrap .i64 (v4.2.2.2.2.2.1 + 1)
      let v10 := y5.2.2.2.2.2.2.2.2.2.2.2.2.2.2.2.2.1
      some ((y5.2.1, (v9, (y5.2.2.2.1, (y5.2.2.2.2.1, (y5.2.2.2.2.2.1, (y5.2.2.2.2.2.2.1, (y5.2.2.2.2.2.2.2.1, (y5.2.2.2.2.2.2.2.2.1, (y5.2.2.2.2.2.2.2.2.2.1, (y5.2.2.2.2.2.2.2.2.2.2.1, (y5.2.2.2.2.2.2.2.2.2.2.2.2.2.2.2.2.2.2.1, (y5.2.2.2.2.2.2.2.2.2.2.2.1, ())))))))))))), v10, y5.2.2.2.2.2.2.2.2.2.2.2.2.2.2.2.2.2.1)) (
      let v11 := y5.2.2.2.2.2.2.2.2.2.2.2.2.2.2.2.2.1
      some ((y5.2.1, (v6, (y5.2.2.2.1, (y5.2.2.2.2.1, (y5.2.2.2.2.2.1, (y5.2.2.2.2.2.2.1, (y5.2.2.2.2.2.2.2.1, (y5.2.2.2.2.2.2.2.2.1, (y5.2.2.2.2.2.2.2.2.2.1, (y5.2.2.2.2.2.2.2.2.2.2.1, (y5.2.2.2.2.2.2.2.2.2.2.2.2.2.2.2.2.2.2.1, (y5.2.2.2.2.2.2.2.2.2.2.2.1, ())))))))))))), v11, y5.2.2.2.2.2.2.2.2.2.2.2.2.2.2.2.2.2.1))))))
def qK (n : Nat) (x : Int × ZQ0) : Option (Bool × ZQ0) :=
 let i_1 := x.1
 let dL := x.2.1
 let dR := x.2.2.1
 let jM := x.2.2.2.1
 let rD := x.2.2.2.2.1
 let jO := x.2.2.2.2.2.1
 let jP := x.2.2.2.2.2.2.1
 let mI := x.2.2.2.2.2.2.2.1
 let zx1 := x.2.2.2.2.2.2
 let mJ := zx1.2.2.1
 let bB := zx1.2.2.2.1
 let fZ := zx1.2.2.2.2.1
 let eD := zx1.2.2.2.2.2.1
 let dG := zx1.2.2.2.2.2.2.1
 let zx2 := zx1.2.2.2.2.2.2
 let gY := zx2.2.1
 chk ((inB i_1 (bB.length) && decide (0 + (bB.length) <= bB.length))) (
  chk (decide (0 + i_1.toNat < bB.length)) (
   let v15 : Int := (bB.getD (0 + i_1.toNat) (Ty.dflt aC)).1
   some ((v15 == 4), dL, dR, jM, rD, jO, jP, mI, mJ, bB, fZ, eD, dG, gY, ())))
def Ih (n : Nat) (g0 : Int × List ZLn × Int × Int × List eZ × List (Bool) × Bool × List ZLn × List ZFl × Int × Int × Int × List ZBk × List (Bool) × List (List ZLn) × List ZLk × List (Int) × Unit -> Option (ZQ0)) (x55 : Int × List ZLn × Int × Int × ZQ0) : Option (ZQ0) :=
 let yIt := x55.1
 let yDc := x55.2.1
 let yOj := x55.2.2.1
 let zQw := x55.2.2.2.1
 let yGy := x55.2.2.2.2.1
 let zZv := x55.2.2.2.2.2.1
 let yOk := x55.2.2.2.2.2.2.1
 let yQo := x55.2.2.2.2.2.2.2.1
 let Yd := x55.2.2.2.2.2.2
 let yKt := Yd.2.2.1
 let Xx := Yd.2.2.2.1
 let zEe := Yd.2.2.2.2.1
 let zEf := Yd.2.2.2.2.2.1
 let zZi := Yd.2.2.2.2.2.2.1
 let zMg := Yd.2.2.2.2.2.2
 let zZj := zMg.2.1
 let zMa := zMg.2.2.1
 let Jt := zMg.2.2.2.1
 let zEg := zMg.2.2.2.2.1
 br (decide (zQw < yOj)) (
  chk (inB zQw yDc.length) (
   let v73 : List UInt8 × Bool × Unit := bZ (Ty.dflt aI) yDc zQw
   chk ((inB yIt (Jt.length) && decide (0 + (Jt.length) <= Jt.length))) (
    chk (decide (0 + yIt.toNat < Jt.length)) (
     none)))) (
  some (yGy, zZv, yOk, yQo, yKt, Xx, zEe, zEf, zZi, zZj, zMa, Jt, zEg, ()))
def uJ (n : Nat) (x39 : List ZLn × Int × ZQ0) : Option (ZQ0) :=
 let yOl := x39.1
 let yQp := x39.2.1
 let yGz := x39.2.2.1
 let zZw := x39.2.2.2.1
 let yOm := x39.2.2.2.2.1
 let yQq := x39.2.2.2.2.2.1
 let yKu := x39.2.2.2.2.2.2.1
 let yKv := x39.2.2.2.2.2.2.2.1
 let Ye := x39.2.2.2.2.2.2
 let yOn := Ye.2.2.1
 let yOo := Ye.2.2.2.1
 let yQr := Ye.2.2.2.2.1
 let yQs := Ye.2.2.2.2.2.1
 let yQt := Ye.2.2.2.2.2.2.1
 let yIu := Ye.2.2.2.2.2.2
 let yQu := yIu.2.1
 let yQv := yIu.2.2.1
 fix (Ih n) n (yQp, yOl, (yOl.length : Int), 0, yGz, zZw, yOm, yQq, yKu, yKv, yOn, yOo, yQr, yQs, yQt, yQu, yQv, ())
def Ii (n : Nat) (x19 : List ZLn × Int × ZQ0) : Option (ZQ0) :=
 let yOp := x19.1
 let Ro := x19.2.1
 let zQx := x19.2.2.1
 let Ev := x19.2.2.2.1
 let yDd := x19.2.2.2.2.1
 let yIv := x19.2.2.2.2.2.1
 let zUz := x19.2.2.2.2.2.2.1
 let zVa := x19.2.2.2.2.2.2.2.1
 let uD := x19.2.2.2.2.2.2
 let yDe := uD.2.2.1
 let zQy := uD.2.2.2.1
 let yIw := uD.2.2.2.2.1
 let yIx := uD.2.2.2.2.2.1
 let yIy := uD.2.2.2.2.2.2.1
 let Ak := uD.2.2.2.2.2.2
 let tX := Ak.2.1
 let Aj := Ak.2.2.1
 chk (inB Ro Ev.length) (
  let v35 : Bool := bZ (Ty.dflt .bool) Ev Ro
  br (!v35) (
   chk ((inB Ro (tX.length) && decide (0 + (tX.length) <= tX.length))) (
    chk (decide (0 + Ro.toNat < tX.length)) (
     let v36 : List UInt8 := (tX.getD (0 + Ro.toNat) (Ty.dflt aY)).1
     ob (gJ n v36) fun y37 =>
     let v38 : Int := if (y37.length : Int) > zQy then (y37.length : Int) else zQy
     jn (uJ n) (yOp, Ro, zQx, Ev, yDd, yIv, zUz, zVa, yDe, v38, yIw, yIx, yIy, tX, Aj, ())))) (
   jn (uJ n) (yOp, Ro, zQx, Ev, yDd, yIv, zUz, zVa, yDe, zQy, yIw, yIx, yIy, tX, Aj, ())))
def kV (n : Nat) (x : Int × List ZLn × ZQ0) : Option (ZQ0) :=
 let i_1 := x.1
 let l_2 := x.2.1
 let qY := x.2.2.1
 let sK := x.2.2.2.1
 let Rc := x.2.2.2.2.1
 let Vs := x.2.2.2.2.2.1
 let He := x.2.2.2.2.2.2.1
 let Hf := x.2.2.2.2.2.2.2.1
 let zx1 := x.2.2.2.2.2.2
 let Rf := zx1.2.2.1
 let Hg := zx1.2.2.2.1
 let fZ := zx1.2.2.2.2.1
 let eD := zx1.2.2.2.2.2.1
 let dG := zx1.2.2.2.2.2.2.1
 let zx2 := zx1.2.2.2.2.2.2
 let gY := zx2.2.1
 let Rh := zx2.2.2.1
 let v16 : Int := IntKind.wrap .i64 (i_1 + 1)
 br (v16 == (qY.length : Int)) (
  chk (Nat.ble ((Vs.length + l_2.length) * 24) room) (
   some (qY, sK, Rc, Vs ++ l_2, He, Hf, Rf, Hg, fZ, eD, dG, gY, Rh, ()))) (
  chk (inB v16 qY.length) (
   let v17 : (Bool × List (List oO × Bool × Unit) × List lU × Unit) × Bool × List (List UInt8) × Bool × Unit := bZ (Ty.dflt aM) qY v16
   br ((l_2.length : Int) == 0) (
    some (qY, sK, Rc, Vs, He, Hf, Rf, Hg, fZ, eD, dG, gY, Rh, ())) (
    ob (qK n (v16, qY, sK, Rc, Vs, He, Hf, Rf, Hg, fZ, eD, dG, gY, Rh, ())) fun y18 =>
    br y18.1 (
     some (y18.2.1, y18.2.2.1, y18.2.2.2.1, y18.2.2.2.2.1, y18.2.2.2.2.2.1, y18.2.2.2.2.2.2.1, y18.2.2.2.2.2.2.2.1, y18.2.2.2.2.2.2.2.2.1, y18.2.2.2.2.2.2.2.2.2.1, y18.2.2.2.2.2.2.2.2.2.2.1, y18.2.2.2.2.2.2.2.2.2.2.2.1, y18.2.2.2.2.2.2.2.2.2.2.2.2.1, y18.2.2.2.2.2.2.2.2.2.2.2.2.2.1, ())) (
     br v17.2.2.2.1 (
      some (y18.2.1, y18.2.2.1, y18.2.2.2.1, y18.2.2.2.2.1, y18.2.2.2.2.2.1, y18.2.2.2.2.2.2.1, y18.2.2.2.2.2.2.2.1, y18.2.2.2.2.2.2.2.2.1, y18.2.2.2.2.2.2.2.2.2.1, y18.2.2.2.2.2.2.2.2.2.2.1, y18.2.2.2.2.2.2.2.2.2.2.2.1, y18.2.2.2.2.2.2.2.2.2.2.2.2.1, y18.2.2.2.2.2.2.2.2.2.2.2.2.2.1, ())) (
      br (decide ((v17.2.2.1.length : Int) > 0)) (
       some (y18.2.1, y18.2.2.1, y18.2.2.2.1, y18.2.2.2.2.1, y18.2.2.2.2.2.1, y18.2.2.2.2.2.2.1, y18.2.2.2.2.2.2.2.1, y18.2.2.2.2.2.2.2.2.1, y18.2.2.2.2.2.2.2.2.2.1, y18.2.2.2.2.2.2.2.2.2.2.1, y18.2.2.2.2.2.2.2.2.2.2.2.1, y18.2.2.2.2.2.2.2.2.2.2.2.2.1, y18.2.2.2.2.2.2.2.2.2.2.2.2.2.1, ())) (
       jn (Ii n) (l_2, v16, y18.2.1, y18.2.2.1, y18.2.2.2.1, y18.2.2.2.2.1, y18.2.2.2.2.2.1, y18.2.2.2.2.2.2.1, y18.2.2.2.2.2.2.2.1, y18.2.2.2.2.2.2.2.2.1, y18.2.2.2.2.2.2.2.2.2.1, y18.2.2.2.2.2.2.2.2.2.2.1, y18.2.2.2.2.2.2.2.2.2.2.2.1, y18.2.2.2.2.2.2.2.2.2.2.2.2.1, y18.2.2.2.2.2.2.2.2.2.2.2.2.2.1, ())))))))
def lI (n : Nat) (x : Int × ZQ0) : Option (Bool × ZQ0) :=
 let i_1 := x.1
 let dL := x.2.1
 let dR := x.2.2.1
 let jM := x.2.2.2.1
 let rD := x.2.2.2.2.1
 let jO := x.2.2.2.2.2.1
 let jP := x.2.2.2.2.2.2.1
 let mI := x.2.2.2.2.2.2.2.1
 let zx1 := x.2.2.2.2.2.2
 let mJ := zx1.2.2.1
 let bB := zx1.2.2.2.1
 let fZ := zx1.2.2.2.2.1
 let eD := zx1.2.2.2.2.2.1
 let dG := zx1.2.2.2.2.2.2.1
 let zx2 := zx1.2.2.2.2.2.2
 let gY := zx2.2.1
 chk ((inB i_1 (bB.length) && decide (0 + (bB.length) <= bB.length))) (
  chk (decide (0 + i_1.toNat < bB.length)) (
   let v15 : Int := (bB.getD (0 + i_1.toNat) (Ty.dflt aC)).1
   some ((v15 == 4), dL, dR, jM, rD, jO, jP, mI, mJ, bB, fZ, eD, dG, gY, ())))
def qL (n : Nat) (x : Int × ZQ0) : Option (ZQ0) :=
 let i_1 := x.1
 let dL := x.2.1
 let dR := x.2.2.1
 let jM := x.2.2.2.1
 let rD := x.2.2.2.2.1
 let jO := x.2.2.2.2.2.1
 let jP := x.2.2.2.2.2.2.1
 let mI := x.2.2.2.2.2.2.2.1
 let zx1 := x.2.2.2.2.2.2
 let mJ := zx1.2.2.1
 let bB := zx1.2.2.2.1
 let fZ := zx1.2.2.2.2.1
 let eD := zx1.2.2.2.2.2.1
 let dG := zx1.2.2.2.2.2.2.1
 let zx2 := zx1.2.2.2.2.2.2
 let gY := zx2.2.1
 chk ((inB i_1 (bB.length) && decide (0 + (bB.length) <= bB.length))) (
  chk (decide (0 + i_1.toNat < bB.length)) (
   let r15 : List ZBk := bB.set (0 + i_1.toNat) (4, ((bB.getD (0 + i_1.toNat) (Ty.dflt aC)).2.1, ((bB.getD (0 + i_1.toNat) (Ty.dflt aC)).2.2.1, ((bB.getD (0 + i_1.toNat) (Ty.dflt aC)).2.2.2.1, ((bB.getD (0 + i_1.toNat) (Ty.dflt aC)).2.2.2.2.1, ((bB.getD (0 + i_1.toNat) (Ty.dflt aC)).2.2.2.2.2.1, ((bB.getD (0 + i_1.toNat) (Ty.dflt aC)).2.2.2.2.2.2.1, ((bB.getD (0 + i_1.toNat) (Ty.dflt aC)).2.2.2.2.2.2.2.1, ((bB.getD (0 + i_1.toNat) (Ty.dflt aC)).2.2.2.2.2.2.2.2.1, ((bB.getD (0 + i_1.toNat) (Ty.dflt aC)).2.2.2.2.2.2.2.2.2.1, ((bB.getD (0 + i_1.toNat) (Ty.dflt aC)).2.2.2.2.2.2.2.2.2.2.1, ((bB.getD (0 + i_1.toNat) (Ty.dflt aC)).2.2.2.2.2.2.2.2.2.2.2.1, ()))))))))))))
   chk ((inB i_1 (dG.length) && decide (0 + (dG.length) <= dG.length))) (
    chk (decide (0 + i_1.toNat < dG.length)) (
     let r16 : List ZLk := dG.set (0 + i_1.toNat) ([], ((dG.getD (0 + i_1.toNat) (Ty.dflt aY)).2.1, ((dG.getD (0 + i_1.toNat) (Ty.dflt aY)).2.2.1, ())))
     let v17 : Int := IntKind.wrap .i64 (i_1 + 1)
     let v18 : Int := ((r16.length : Nat) : Int)
     br (decide (v17 < v18)) (
      let v19 : Int := IntKind.wrap .i64 (i_1 + 1)
      let v20 : Int := IntKind.wrap .i64 (i_1 + 1)
      chk ((inB v20 (r16.length) && decide (0 + (r16.length) <= r16.length))) (
       chk (decide (0 + v20.toNat < r16.length)) (
        ob (xY n ((r16.getD (0 + v20.toNat) (Ty.dflt aY)).1, ((r16.getD (0 + v20.toNat) (Ty.dflt aY)).2.1, ((r16.getD (0 + v20.toNat) (Ty.dflt aY)).2.2.1, ())))) fun y21 =>
        chk ((inB v19 (r16.length) && decide (0 + (r16.length) <= r16.length))) (
         chk (decide (0 + v19.toNat < r16.length)) (
          let r22 : List ZLk := r16.set (0 + v19.toNat) y21
          some (dL, dR, jM, rD, jO, jP, mI, mJ, r15, fZ, eD, r22, gY, ())))))) (
      some (dL, dR, jM, rD, jO, jP, mI, mJ, r15, fZ, eD, r16, gY, ()))))))
def rE (n : Nat) (x : Int × Int × ZQ0) : Option (ZQ0) :=
 let i_1 := x.1
 let Gz := x.2.1
 let qY := x.2.2.1
 let sK := x.2.2.2.1
 let Rc := x.2.2.2.2.1
 let Vs := x.2.2.2.2.2.1
 let He := x.2.2.2.2.2.2.1
 let Hf := x.2.2.2.2.2.2.2.1
 let zx1 := x.2.2.2.2.2.2
 let Rf := zx1.2.2.1
 let Hg := zx1.2.2.2.1
 let fZ := zx1.2.2.2.2.1
 let eD := zx1.2.2.2.2.2.1
 let dG := zx1.2.2.2.2.2.2.1
 let zx2 := zx1.2.2.2.2.2.2
 let gY := zx2.2.1
 let Rh := zx2.2.2.1
 ob (qL n (i_1, qY, sK, Rc, Vs, He, Hf, Rf, Hg, fZ, eD, dG, gY, Rh, ())) fun y16 =>
 br (Gz != 0) (
  chk ((inB i_1 (y16.2.2.2.2.2.2.2.2.2.2.2.2.1.length) && decide (0 + (y16.2.2.2.2.2.2.2.2.2.2.2.2.1.length) <= y16.2.2.2.2.2.2.2.2.2.2.2.2.1.length))) (
   chk (decide (0 + i_1.toNat < y16.2.2.2.2.2.2.2.2.2.2.2.2.1.length)) (
    let r17 : List (Int) := y16.2.2.2.2.2.2.2.2.2.2.2.2.1.set (0 + i_1.toNat) Gz
    br (!y16.2.2.1) (
     some (y16.1, y16.2.1, y16.2.2.1, y16.2.2.2.1, y16.2.2.2.2.1, y16.2.2.2.2.2.1, y16.2.2.2.2.2.2.1, y16.2.2.2.2.2.2.2.1, y16.2.2.2.2.2.2.2.2.1, y16.2.2.2.2.2.2.2.2.2.1, y16.2.2.2.2.2.2.2.2.2.2.1, y16.2.2.2.2.2.2.2.2.2.2.2.1, r17, ())) (
     none)))) (
  br (!y16.2.2.1) (
   some (y16.1, y16.2.1, y16.2.2.1, y16.2.2.2.1, y16.2.2.2.2.1, y16.2.2.2.2.2.1, y16.2.2.2.2.2.2.1, y16.2.2.2.2.2.2.2.1, y16.2.2.2.2.2.2.2.2.1, y16.2.2.2.2.2.2.2.2.2.1, y16.2.2.2.2.2.2.2.2.2.2.1, y16.2.2.2.2.2.2.2.2.2.2.2.1, y16.2.2.2.2.2.2.2.2.2.2.2.2.1, ())) (
   none))
def lZ (n : Nat) (x : Int × ZQ0) : Option (ZQ0) :=
 let i_1 := x.1
 let dL := x.2.1
 let dR := x.2.2.1
 let jM := x.2.2.2.1
 let rD := x.2.2.2.2.1
 let jO := x.2.2.2.2.2.1
 let jP := x.2.2.2.2.2.2.1
 let mI := x.2.2.2.2.2.2.2.1
 let zx1 := x.2.2.2.2.2.2
 let mJ := zx1.2.2.1
 let bB := zx1.2.2.2.1
 let fZ := zx1.2.2.2.2.1
 let eD := zx1.2.2.2.2.2.1
 let dG := zx1.2.2.2.2.2.2.1
 let zx2 := zx1.2.2.2.2.2.2
 let gY := zx2.2.1
 chk (inB i_1 dL.length) (
  let v15 : (Bool × List (List oO × Bool × Unit) × List lU × Unit) × Bool × List (List UInt8) × Bool × Unit := bZ (Ty.dflt aM) dL i_1
  chk ((inB i_1 (bB.length) && decide (0 + (bB.length) <= bB.length))) (
   chk (decide (0 + i_1.toNat < bB.length)) (
    ob (pJ n (v15.1, v15.2.1, ((bB.getD (0 + i_1.toNat) (Ty.dflt aC)).1, ((bB.getD (0 + i_1.toNat) (Ty.dflt aC)).2.1, ((bB.getD (0 + i_1.toNat) (Ty.dflt aC)).2.2.1, ((bB.getD (0 + i_1.toNat) (Ty.dflt aC)).2.2.2.1, ((bB.getD (0 + i_1.toNat) (Ty.dflt aC)).2.2.2.2.1, ((bB.getD (0 + i_1.toNat) (Ty.dflt aC)).2.2.2.2.2.1, ((bB.getD (0 + i_1.toNat) (Ty.dflt aC)).2.2.2.2.2.2.1, ((bB.getD (0 + i_1.toNat) (Ty.dflt aC)).2.2.2.2.2.2.2.1, ((bB.getD (0 + i_1.toNat) (Ty.dflt aC)).2.2.2.2.2.2.2.2.1, ((bB.getD (0 + i_1.toNat) (Ty.dflt aC)).2.2.2.2.2.2.2.2.2.1, ((bB.getD (0 + i_1.toNat) (Ty.dflt aC)).2.2.2.2.2.2.2.2.2.2.1, ((bB.getD (0 + i_1.toNat) (Ty.dflt aC)).2.2.2.2.2.2.2.2.2.2.2.1, ())))))))))))), jO)) fun y16 =>
    chk ((inB i_1 (bB.length) && decide (0 + (bB.length) <= bB.length))) (
     chk (decide (0 + i_1.toNat < bB.length)) (
      let r17 : List ZBk := bB.set (0 + i_1.toNat) y16.1
      let v18 : Int := IntKind.wrap .i64 (mI + 1)
      ob (kV n (i_1, y16.2.2, dL, dR, jM, rD, y16.2.1, jP, v18, mJ, r17, fZ, eD, dG, gY, ())) fun y19 =>
      ob (lI n (i_1, y19.1, y19.2.1, y19.2.2.1, y19.2.2.2.1, y19.2.2.2.2.1, y19.2.2.2.2.2.1, y19.2.2.2.2.2.2.1, y19.2.2.2.2.2.2.2.1, y19.2.2.2.2.2.2.2.2.1, y19.2.2.2.2.2.2.2.2.2.1, y19.2.2.2.2.2.2.2.2.2.2.1, y19.2.2.2.2.2.2.2.2.2.2.2.1, y19.2.2.2.2.2.2.2.2.2.2.2.2.1, ())) fun y20 =>
      br y20.1 (
       ob (rE n (i_1, y16.1.2.2.2.1, y20.2.1, y20.2.2.1, y20.2.2.2.1, y20.2.2.2.2.1, y20.2.2.2.2.2.1, y20.2.2.2.2.2.2.1, y20.2.2.2.2.2.2.2.1, y20.2.2.2.2.2.2.2.2.1, y20.2.2.2.2.2.2.2.2.2.1, y20.2.2.2.2.2.2.2.2.2.2.1, y20.2.2.2.2.2.2.2.2.2.2.2.1, y20.2.2.2.2.2.2.2.2.2.2.2.2.1, y20.2.2.2.2.2.2.2.2.2.2.2.2.2.1, ())) fun y21 =>
       some (y21.1, y21.2.1, y21.2.2.1, y21.2.2.2.1, y21.2.2.2.2.1, y21.2.2.2.2.2.1, y21.2.2.2.2.2.2.1, y21.2.2.2.2.2.2.2.1, y21.2.2.2.2.2.2.2.2.1, y21.2.2.2.2.2.2.2.2.2.1, y21.2.2.2.2.2.2.2.2.2.2.1, y21.2.2.2.2.2.2.2.2.2.2.2.1, y21.2.2.2.2.2.2.2.2.2.2.2.2.1, ())) (
       some (y20.2.1, y20.2.2.1, y20.2.2.2.1, y20.2.2.2.2.1, y20.2.2.2.2.2.1, y20.2.2.2.2.2.2.1, y20.2.2.2.2.2.2.2.1, y20.2.2.2.2.2.2.2.2.1, y20.2.2.2.2.2.2.2.2.2.1, y20.2.2.2.2.2.2.2.2.2.2.1, y20.2.2.2.2.2.2.2.2.2.2.2.1, y20.2.2.2.2.2.2.2.2.2.2.2.2.1, y20.2.2.2.2.2.2.2.2.2.2.2.2.2.1, ())))))))
def oG (n : Nat) (x : Int × ZQ0) : Option (List UInt8 × Bool × Bool × Bool × ZQ0) :=
 let i_1 := x.1
 let dL := x.2.1
 let dR := x.2.2.1
 let jM := x.2.2.2.1
 let rD := x.2.2.2.2.1
 let jO := x.2.2.2.2.2.1
 let jP := x.2.2.2.2.2.2.1
 let mI := x.2.2.2.2.2.2.2.1
 let zx1 := x.2.2.2.2.2.2
 let mJ := zx1.2.2.1
 let bB := zx1.2.2.2.1
 let fZ := zx1.2.2.2.2.1
 let eD := zx1.2.2.2.2.2.1
 let dG := zx1.2.2.2.2.2.2.1
 let zx2 := zx1.2.2.2.2.2.2
 let gY := zx2.2.1
 chk (inB i_1 dL.length) (
  let v15 : (Bool × List (List oO × Bool × Unit) × List lU × Unit) × Bool × List (List UInt8) × Bool × Unit := bZ (Ty.dflt aM) dL i_1
  br ((v15.2.2.1.length : Int) == 0) (
   chk ((inB i_1 (dG.length) && decide (0 + (dG.length) <= dG.length))) (
    chk (decide (0 + i_1.toNat < dG.length)) (
     ob (pI n ((dG.getD (0 + i_1.toNat) (Ty.dflt aY)).1, ((dG.getD (0 + i_1.toNat) (Ty.dflt aY)).2.1, ((dG.getD (0 + i_1.toNat) (Ty.dflt aY)).2.2.1, ())))) fun y16 =>
     chk ((inB i_1 (dG.length) && decide (0 + (dG.length) <= dG.length))) (
      chk (decide (0 + i_1.toNat < dG.length)) (
       let r17 : List ZLk := dG.set (0 + i_1.toNat) y16.1
       some (y16.2.1.1, y16.2.1.2.1, y16.2.2.1, y16.2.2.2, dL, dR, jM, rD, jO, jP, mI, mJ, bB, fZ, eD, r17, gY, ())))))) (
   chk ((inB i_1 (eD.length) && decide (0 + (eD.length) <= eD.length))) (
    chk (decide (0 + i_1.toNat < eD.length)) (
     let v18 : List ZLn := eD.getD (0 + i_1.toNat) (Ty.dflt (.slice aI))
     br ((v18.length : Int) == 0) (
      some ([], false, false, false, dL, dR, jM, rD, jO, jP, mI, mJ, bB, fZ, eD, dG, gY, ())) (
      chk ((decide (0 <= (1 : Int)) && decide ((1 : Int) <= (v18.length : Int)))) (
       chk ((inB i_1 (eD.length) && decide (0 + (eD.length) <= eD.length))) (
        chk (decide (0 + i_1.toNat < eD.length)) (
         let r19 : List (List ZLn) := eD.set (0 + i_1.toNat) (v18.drop (1 : Int).toNat)
         chk (inB 0 v18.length) (
          let v20 : List UInt8 × Bool × Unit := bZ (Ty.dflt aI) v18 0
          some (v20.1, v20.2.1, ((v18.length : Int) == 1), true, dL, dR, jM, rD, jO, jP, mI, mJ, bB, fZ, r19, dG, gY, ()))))))))))
def Ka (n : Nat) (x : (ZQ5) × (List UInt8 × Bool × Unit) × Bool) : Option (ZQ5) :=
 let b_0 := x.1
 let l_1 := x.2.1
 let zQz := x.2.2
 br (b_0.1 == 0) (
  let v1 : Int := IntKind.wrap .i64 (b_0.2.2.1 + 1)
  some (1, (0, (v1, (b_0.2.2.2.1, (b_0.2.2.2.2.1, (l_1.1, (b_0.2.2.2.2.2.2.1, (l_1.2.1, (zQz, b_0.2.2.2.2.2.2.2.2.2)))))))))) (
  br (b_0.1 == 2) (
   let v2 : Int := IntKind.wrap .i64 (b_0.2.1 + 1)
   let v3 : Int := IntKind.wrap .i64 (b_0.2.2.1 + 1)
   some (1, (v2, (v3, (b_0.2.2.2.1, (b_0.2.2.2.2.1, (l_1.1, (b_0.2.2.2.2.2.2.1, (l_1.2.1, (zQz, b_0.2.2.2.2.2.2.2.2.2)))))))))) (
   br (b_0.1 == 3) (
    let v4 : Int := IntKind.wrap .i64 (b_0.2.1 + 1)
    chk (decide (b_0.2.2.2.2.2.1.length + ([10] : List UInt8).length <= kD)) (
     chk (decide ((b_0.2.2.2.2.2.1 ++ [10]).length + l_1.1.length <= kD)) (
      let v5 : List UInt8 := (b_0.2.2.2.2.2.1 ++ [10]) ++ l_1.1
      let v6 : Int := IntKind.wrap .i64 (b_0.2.2.1 + 1)
      some (1, (v4, (v6, (b_0.2.2.2.1, (b_0.2.2.2.2.1, (v5, (b_0.2.2.2.2.2.2.1, (l_1.2.1, (zQz, b_0.2.2.2.2.2.2.2.2.2)))))))))))) (
    some b_0)))
def jK (n : Nat) (x : ZQ2) : Option (ZQ2) :=
 let m_0 := x
 ob (iM n m_0) fun y1 =>
 br (y1 == (-1)) (
  some m_0) (
  ob (lX n (m_0.1, m_0.2.1, m_0.2.2.1, m_0.2.2.2.1, m_0.2.2.2.2.1, m_0.2.2.2.2.2.1, m_0.2.2.2.2.2.2.1, m_0.2.2.2.2.2.2.2.1, m_0.2.2.2.2.2.2.2.2.1, m_0.2.2.2.2.2.2.2.2.2.1, m_0.2.2.2.2.2.2.2.2.2.2.1, m_0.2.2.2.2.2.2.2.2.2.2.2.1, m_0.2.2.2.2.2.2.2.2.2.2.2.2.1, ())) fun y2 =>
  let v3 : Int := IntKind.wrap .i64 (y2.2.2.2.2.2.1 + 1)
  chk ((inB y1 (y2.2.2.2.2.2.2.2.2.2.1.length) && decide (0 + (y2.2.2.2.2.2.2.2.2.2.1.length) <= y2.2.2.2.2.2.2.2.2.2.1.length))) (
   chk (decide (0 + y1.toNat < y2.2.2.2.2.2.2.2.2.2.1.length)) (
    br (!(y2.2.2.2.2.2.2.2.2.2.1.getD (0 + y1.toNat) (Ty.dflt .bool))) (
     ob (nL n (y1, y2.1, y2.2.1, y2.2.2.1, y2.2.2.2.1, y2.2.2.2.2.1, v3, y2.2.2.2.2.2.2.1, y2.2.2.2.2.2.2.2.1, y2.2.2.2.2.2.2.2.2.1, y2.2.2.2.2.2.2.2.2.2.1, y2.2.2.2.2.2.2.2.2.2.2.1, y2.2.2.2.2.2.2.2.2.2.2.2.1, y2.2.2.2.2.2.2.2.2.2.2.2.2.1, ())) fun y4 =>
     some (y4.1, (y4.2.1, (y4.2.2.1, (y4.2.2.2.2.2.2.2.2.1, (y4.2.2.2.2.2.2.2.2.2.1, (y4.2.2.2.2.2.2.2.2.2.2.1, (y4.2.2.2.2.2.2.2.2.2.2.2.1, (y4.2.2.2.1, (y4.2.2.2.2.1, (y4.2.2.2.2.2.2.2.2.2.2.2.2.1, (y4.2.2.2.2.2.1, (y4.2.2.2.2.2.2.1, (y4.2.2.2.2.2.2.2.1, ())))))))))))))) (
     chk ((inB y1 (y2.2.2.2.2.2.2.2.2.1.length) && decide (0 + (y2.2.2.2.2.2.2.2.2.1.length) <= y2.2.2.2.2.2.2.2.2.1.length))) (
      chk (decide (0 + y1.toNat < y2.2.2.2.2.2.2.2.2.1.length)) (
       let v5 : Int := (y2.2.2.2.2.2.2.2.2.1.getD (0 + y1.toNat) (Ty.dflt aC)).1
       br (v5 == 1) (
        ob (lZ n (y1, y2.1, y2.2.1, y2.2.2.1, y2.2.2.2.1, y2.2.2.2.2.1, v3, y2.2.2.2.2.2.2.1, y2.2.2.2.2.2.2.2.1, y2.2.2.2.2.2.2.2.2.1, y2.2.2.2.2.2.2.2.2.2.1, y2.2.2.2.2.2.2.2.2.2.2.1, y2.2.2.2.2.2.2.2.2.2.2.2.1, y2.2.2.2.2.2.2.2.2.2.2.2.2.1, ())) fun y6 =>
        some (y6.1, (y6.2.1, (y6.2.2.1, (y6.2.2.2.2.2.2.2.2.1, (y6.2.2.2.2.2.2.2.2.2.1, (y6.2.2.2.2.2.2.2.2.2.2.1, (y6.2.2.2.2.2.2.2.2.2.2.2.1, (y6.2.2.2.1, (y6.2.2.2.2.1, (y6.2.2.2.2.2.2.2.2.2.2.2.2.1, (y6.2.2.2.2.2.1, (y6.2.2.2.2.2.2.1, (y6.2.2.2.2.2.2.2.1, ())))))))))))))) (
        ob (oG n (y1, y2.1, y2.2.1, y2.2.2.1, y2.2.2.2.1, y2.2.2.2.2.1, v3, y2.2.2.2.2.2.2.1, y2.2.2.2.2.2.2.2.1, y2.2.2.2.2.2.2.2.2.1, y2.2.2.2.2.2.2.2.2.2.1, y2.2.2.2.2.2.2.2.2.2.2.1, y2.2.2.2.2.2.2.2.2.2.2.2.1, y2.2.2.2.2.2.2.2.2.2.2.2.2.1, ())) fun y7 =>
        br y7.2.2.2.1 (
         chk ((inB y1 (y7.2.2.2.2.2.2.2.2.2.2.2.2.1.length) && decide (0 + (y7.2.2.2.2.2.2.2.2.2.2.2.2.1.length) <= y7.2.2.2.2.2.2.2.2.2.2.2.2.1.length))) (
          chk (decide (0 + y1.toNat < y7.2.2.2.2.2.2.2.2.2.2.2.2.1.length)) (
           ob (Ka n (((y7.2.2.2.2.2.2.2.2.2.2.2.2.1.getD (0 + y1.toNat) (Ty.dflt aC)).1, ((y7.2.2.2.2.2.2.2.2.2.2.2.2.1.getD (0 + y1.toNat) (Ty.dflt aC)).2.1, ((y7.2.2.2.2.2.2.2.2.2.2.2.2.1.getD (0 + y1.toNat) (Ty.dflt aC)).2.2.1, ((y7.2.2.2.2.2.2.2.2.2.2.2.2.1.getD (0 + y1.toNat) (Ty.dflt aC)).2.2.2.1, ((y7.2.2.2.2.2.2.2.2.2.2.2.2.1.getD (0 + y1.toNat) (Ty.dflt aC)).2.2.2.2.1, ((y7.2.2.2.2.2.2.2.2.2.2.2.2.1.getD (0 + y1.toNat) (Ty.dflt aC)).2.2.2.2.2.1, ((y7.2.2.2.2.2.2.2.2.2.2.2.2.1.getD (0 + y1.toNat) (Ty.dflt aC)).2.2.2.2.2.2.1, ((y7.2.2.2.2.2.2.2.2.2.2.2.2.1.getD (0 + y1.toNat) (Ty.dflt aC)).2.2.2.2.2.2.2.1, ((y7.2.2.2.2.2.2.2.2.2.2.2.2.1.getD (0 + y1.toNat) (Ty.dflt aC)).2.2.2.2.2.2.2.2.1, ((y7.2.2.2.2.2.2.2.2.2.2.2.2.1.getD (0 + y1.toNat) (Ty.dflt aC)).2.2.2.2.2.2.2.2.2.1, ((y7.2.2.2.2.2.2.2.2.2.2.2.2.1.getD (0 + y1.toNat) (Ty.dflt aC)).2.2.2.2.2.2.2.2.2.2.1, ((y7.2.2.2.2.2.2.2.2.2.2.2.2.1.getD (0 + y1.toNat) (Ty.dflt aC)).2.2.2.2.2.2.2.2.2.2.2.1, ())))))))))))), (y7.1, (y7.2.1, ())), y7.2.2.1)) fun y8 =>
           chk ((inB y1 (y7.2.2.2.2.2.2.2.2.2.2.2.2.1.length) && decide (0 + (y7.2.2.2.2.2.2.2.2.2.2.2.2.1.length) <= y7.2.2.2.2.2.2.2.2.2.2.2.2.1.length))) (
            chk (decide (0 + y1.toNat < y7.2.2.2.2.2.2.2.2.2.2.2.2.1.length)) (
             let r9 : List ZBk := y7.2.2.2.2.2.2.2.2.2.2.2.2.1.set (0 + y1.toNat) y8
             some (y7.2.2.2.2.1, (y7.2.2.2.2.2.1, (y7.2.2.2.2.2.2.1, (r9, (y7.2.2.2.2.2.2.2.2.2.2.2.2.2.1, (y7.2.2.2.2.2.2.2.2.2.2.2.2.2.2.1, (y7.2.2.2.2.2.2.2.2.2.2.2.2.2.2.2.1, (y7.2.2.2.2.2.2.2.1, (y7.2.2.2.2.2.2.2.2.1, (y7.2.2.2.2.2.2.2.2.2.2.2.2.2.2.2.2.1, (y7.2.2.2.2.2.2.2.2.2.1, (y7.2.2.2.2.2.2.2.2.2.2.1, (y7.2.2.2.2.2.2.2.2.2.2.2.1, ())))))))))))))))))) (
         ob (lY n (y1, 0, y7.2.2.2.2.1, y7.2.2.2.2.2.1, y7.2.2.2.2.2.2.1, y7.2.2.2.2.2.2.2.1, y7.2.2.2.2.2.2.2.2.1, y7.2.2.2.2.2.2.2.2.2.1, y7.2.2.2.2.2.2.2.2.2.2.1, y7.2.2.2.2.2.2.2.2.2.2.2.1, y7.2.2.2.2.2.2.2.2.2.2.2.2.1, y7.2.2.2.2.2.2.2.2.2.2.2.2.2.1, y7.2.2.2.2.2.2.2.2.2.2.2.2.2.2.1, y7.2.2.2.2.2.2.2.2.2.2.2.2.2.2.2.1, y7.2.2.2.2.2.2.2.2.2.2.2.2.2.2.2.2.1, ())) fun y10 =>
         some (y10.1, (y10.2.1, (y10.2.2.1, (y10.2.2.2.2.2.2.2.2.1, (y10.2.2.2.2.2.2.2.2.2.1, (y10.2.2.2.2.2.2.2.2.2.2.1, (y10.2.2.2.2.2.2.2.2.2.2.2.1, (y10.2.2.2.1, (y10.2.2.2.2.1, (y10.2.2.2.2.2.2.2.2.2.2.2.2.1, (y10.2.2.2.2.2.1, (y10.2.2.2.2.2.2.1, (y10.2.2.2.2.2.2.2.1, ())))))))))))))))))))))
def iN (n : Nat) (g0 : Int × Int × List eZ × List (Bool) × Bool × List ZBk × List (Bool) × List (List ZLn) × List ZLk × List ZLn × List ZFl × List (Int) × Int × Int × Int × List eZ × List (Bool) × Bool × List (Bool) × List (List ZLn) × List ZLk × List ZFl × List (Int) × Int × Int × Int × List ZBk × List ZLn × Unit -> Option ((ZQ2) × Int)) (x1 : Int × Int × List eZ × List (Bool) × Bool × List ZBk × List (Bool) × List (List ZLn) × List ZLk × List ZLn × List ZFl × List (Int) × Int × Int × Int × List eZ × List (Bool) × Bool × List (Bool) × List (List ZLn) × List ZLk × List ZFl × List (Int) × Int × Int × Int × List ZBk × List ZLn × Unit) : Option ((ZQ2) × Int) :=
 let yDf := x1.1
 let n_3 := x1.2.1
 let Ni := x1.2.2.1
 let Bo := x1.2.2.2.1
 let zEj := x1.2.2.2.2.1
 let Vo := x1.2.2.2.2.2.1
 let Vp := x1.2.2.2.2.2.2.1
 let zQq := x1.2.2.2.2.2.2.2.1
 let zIg := x1.2.2.2.2.2.2
 let Nj := zIg.2.2.1
 let zEk := zIg.2.2.2.1
 let Nk := zIg.2.2.2.2.1
 let Gy := zIg.2.2.2.2.2.1
 let Nl := zIg.2.2.2.2.2.2.1
 let zBq := zIg.2.2.2.2.2.2
 let Vq := zBq.2.1
 let Vr := zBq.2.2.1
 let yHa := zBq.2.2.2.1
 let zZx := zBq.2.2.2.2.1
 let yOq := zBq.2.2.2.2.2.1
 let yKw := zBq.2.2.2.2.2.2.1
 let zBr := zBq.2.2.2.2.2.2
 let yQw := zBr.2.1
 let yKx := zBr.2.2.1
 let yKy := zBr.2.2.2.1
 let yHb := zBr.2.2.2.2.1
 let yKz := zBr.2.2.2.2.2.1
 let yOr := zBr.2.2.2.2.2.2.1
 let yHc := zBr.2.2.2.2.2.2
 let yOs := yHc.2.1
 let yQx := yHc.2.2.1
 let yQy := yHc.2.2.2.1
 ob (iM n (Ni, (Bo, (zEj, (Vo, (Vp, (zQq, (Nj, (zEk, (Nk, (Gy, (Nl, (Vq, (Vr, ())))))))))))))) fun y30 =>
 br (y30 != (-1)) (
  br (decide (n_3 ≥ yDf)) (
   some (([], ([], (false, ([], ([], ([], ([], ([], ([], ([], (0, (0, (0, ()))))))))))))), 4)) (
   ob (jK n (Ni, (Bo, (zEj, (Vo, (Vp, (zQq, (Nj, (zEk, (Nk, (Gy, (Nl, (Vq, (Vr, ())))))))))))))) fun y31 =>
   let v32 : Int := IntKind.wrap .i64 (n_3 + 1)
   g0 (yDf, v32, y31.1, y31.2.1, y31.2.2.1, y31.2.2.2.1, y31.2.2.2.2.1, y31.2.2.2.2.2.1, y31.2.2.2.2.2.2.1, y31.2.2.2.2.2.2.2.1, y31.2.2.2.2.2.2.2.2.1, y31.2.2.2.2.2.2.2.2.2.1, y31.2.2.2.2.2.2.2.2.2.2.1, y31.2.2.2.2.2.2.2.2.2.2.2.1, y31.2.2.2.2.2.2.2.2.2.2.2.2.1, yHa, zZx, yOq, yKw, yQw, yKx, yKy, yHb, yKz, yOr, yOs, yQx, yQy, ()))) (
  some ((Ni, (Bo, (zEj, (Vo, (Vp, (zQq, (Nj, (zEk, (Nk, (Gy, (Nl, (Vq, (Vr, ()))))))))))))), 0))
def Ho (n : Nat) (x : (ZQ2) × Int) : Option ((ZQ2) × Int) :=
 let m_0 := x.1
 let yOt := x.2
 fix (iN n) n (yOt, 0, m_0.1, m_0.2.1, m_0.2.2.1, m_0.2.2.2.1, m_0.2.2.2.2.1, m_0.2.2.2.2.2.1, m_0.2.2.2.2.2.2.1, m_0.2.2.2.2.2.2.2.1, m_0.2.2.2.2.2.2.2.2.1, m_0.2.2.2.2.2.2.2.2.2.1, m_0.2.2.2.2.2.2.2.2.2.2.1, m_0.2.2.2.2.2.2.2.2.2.2.2.1, m_0.2.2.2.2.2.2.2.2.2.2.2.2.1, [], [], false, [], [], [], [], [], 0, 0, 0, [], [], ())
def mD (n : Nat) (g0 : List UInt8 × List ZLn × Int × Int × List (Int) × Unit -> Option (List UInt8)) (x1 : List UInt8 × List ZLn × Int × Int × List (Int) × Unit) : Option (List UInt8) :=
 let yIz := x1.1
 let zZy := x1.2.1
 let yHd := x1.2.2.1
 let zRa := x1.2.2.2.1
 let yOu := x1.2.2.2.2.1
 br (decide (zRa < yHd)) (
  chk (inB zRa zZy.length) (
   let v7 : List UInt8 × Bool × Unit := bZ (Ty.dflt aI) zZy zRa
   chk (decide (yIz.length + v7.1.length <= kD)) (
    ob (aX n (yIz ++ v7.1, yOu, ())) fun y8 =>
    br v7.2.1 (
     ob (aX n ([10], y8.2.2.1, ())) fun y9 =>
     let v10 : Int := IntKind.wrap .i64 (zRa + 1)
     g0 ([], zZy, yHd, v10, y9.2.2.1, ())) (
     let v11 : Int := IntKind.wrap .i64 (zRa + 1)
     g0 ([10], zZy, yHd, v11, y8.2.2.1, ()))))) (
  ob (Builder_String n (yOu, ())) fun y12 =>
  some y12.1)
def uE (n : Nat) (x : List ZLn) : Option (List UInt8) :=
 let l_0 := x
 fix (mD n) n ([], l_0, (l_0.length : Int), 0, [], ())
def Al (n : Nat) (x : List eZ × ZQ9) : Option (List UInt8 × List ZFl × List (Int) × Int × Int × Int × ZQ9) :=
 let l_1 := x.1
 let b2 := x.2.1
 let b3 := x.2.2.1
 let b4 := x.2.2.2.1
 let b5 := x.2.2.2.2.1
 ob (Gx n (l_1, b2, b3, b4)) fun y6 =>
 br (y6.2 != 0) (
  some ([], [], [], 0, 0, y6.2, b2, b3, b4, b5, ())) (
  ob (Ho n (y6.1, b5)) fun y7 =>
  ob (uE n y7.1.2.2.2.2.2.2.2.1) fun y8 =>
  let v9 := y7.1.2.2.2.2.2.2.2.2.2.2.1
  some (y8, y7.1.2.2.2.2.2.2.2.2.1, y7.1.2.2.2.2.2.2.2.2.2.1, v9, 0, y7.2, b2, b3, b4, b5, ()))
def Vw (n : Nat) (x : List UInt8 × List ZFl × List (Int) × Int × Int × Unit) : Option (Int) :=
 let x_0 := x
 br (decide ((x_0.2.2.1.length : Int) > 0)) (
  let v1 : Int := IntKind.wrap .i64 ((x_0.2.2.1.length : Int) - 1)
  chk (inB v1 x_0.2.2.1.length) (
   let v2 : Int := bZ (Ty.dflt (.int .i64)) x_0.2.2.1 v1
   some v2)) (
  some 0)
def iT (n : Nat) (x : List UInt8 × List ZFl × ZQ9) : Option (List UInt8 × List ZFl × List (Int) × Int × Int × Int × Int × ZQ9) :=
 let yOv := x.1
 let t_2 := x.2.1
 let b3 := x.2.2.1
 let b4 := x.2.2.2.1
 let b5 := x.2.2.2.2.1
 let b6 := x.2.2.2.2.2.1
 ob (lV n (yOv, t_2)) fun y7 =>
 br (y7.2.2 != 0) (
  some ([], [], [], 0, 0, y7.2.1, y7.2.2, b3, b4, b5, b6, ())) (
  ob (Al n (y7.1, b3, b4, b5, b6, ())) fun y8 =>
  br (y8.2.2.2.2.2.1 != 0) (
   some ([], [], [], 0, 0, 0, y8.2.2.2.2.2.1, y8.2.2.2.2.2.2.1, y8.2.2.2.2.2.2.2.1, y8.2.2.2.2.2.2.2.2.1, y8.2.2.2.2.2.2.2.2.2.1, ())) (
   ob (Vw n (y8.1, (y8.2.1, (y8.2.2.1, (y8.2.2.2.1, (y8.2.2.2.2.1, ())))))) fun y9 =>
   some (y8.1, y8.2.1, y8.2.2.1, y9, y8.2.2.2.1, 0, 0, y8.2.2.2.2.2.2.1, y8.2.2.2.2.2.2.2.1, y8.2.2.2.2.2.2.2.2.1, y8.2.2.2.2.2.2.2.2.2.1, ())))
def Kc (n : Nat) (x : List UInt8 × List UInt8 × List ZFl × Bool × Int) : Option ((List UInt8 × List ZFl × List (Int) × Int × Int × Unit) × Int × Int) :=
 let zRb := x.1
 let rC := x.2.1
 let t_2 := x.2.2.1
 let zQl := x.2.2.2.1
 let yOw := x.2.2.2.2
 ob (iT n (zRb, t_2, rC, t_2, zQl, yOw, ())) fun y1 =>
 some ((y1.1, (y1.2.1, (y1.2.2.1, (y1.2.2.2.1, (y1.2.2.2.2.1, ()))))), y1.2.2.2.2.2.1, y1.2.2.2.2.2.2.1)
def Hq (n : Nat) (x : List UInt8 × List UInt8) : Option (List UInt8 × Bool) :=
 let zRb := x.1
 let rC := x.2
 ob (Kc n (zRb, rC, [], false, 5000)) fun y1 =>
 br (y1.2.2 == 0) (
  some (y1.1.1, (y1.1.2.2.2.1 == 0))) (
  some (y1.1.1, false))
def dH (n : Nat) (x : List UInt8 × List UInt8) : Option (Bool) :=
 let s_0 := x.1
 let rC := x.2
 br (decide ((s_0.length : Int) ≥ (rC.length : Int))) (
  chk ((decide (0 <= (rC.length : Int)) && decide ((rC.length : Int) <= (s_0.length : Int)))) (
   let v1 : List UInt8 := s_0.take (rC.length : Int).toNat
   some (v1 == rC))) (
  some false)
def eG (n : Nat) (x : List UInt8 × List UInt8) : Option (List UInt8 × Bool) :=
 let s_0 := x.1
 let rC := x.2
 ob (dH n (s_0, rC)) fun y1 =>
 br (!y1) (
  some (s_0, false)) (
  chk ((decide (0 <= (rC.length : Int)) && decide ((rC.length : Int) <= (s_0.length : Int)))) (
   let v2 : List UInt8 := s_0.drop (rC.length : Int).toNat
   some (v2, true)))
def strings_CutPrefix (n : Nat) (x : List UInt8 × List UInt8) : Option (List UInt8 × Bool) :=
 let s_0 := x.1
 let rC := x.2
 ob (eG n (s_0, rC)) fun y1 =>
 some (y1.1, y1.2)
def wH (n : Nat) (g1 : List UInt8 × List UInt8 × Int × Unit -> Option (List UInt8 × Int)) (x21 : List UInt8 × List UInt8 × Int × Unit) : Option (List UInt8 × Int) :=
 let yOx := x21.1
 let yHe := x21.2.1
 let zRc := x21.2.2.1
 br (decide (zRc < 301)) (
  ob (nO n (yHe, zRc)) fun y25 =>
  br (y25 == yOx) (
   some (yHe, 0)) (
   let v26 : Int := IntKind.wrap .i64 (zRc + 1)
   g1 (yOx, yHe, v26, ()))) (
  some ([], 1))
def fG (n : Nat) (g0 : List UInt8 × List UInt8 × List (Int) × Unit -> Option (List UInt8 × Int)) (x2 : List UInt8 × List UInt8 × List (Int) × Unit) : Option (List UInt8 × Int) :=
 let s_3 := x2.1
 let yDg := x2.2.1
 let yF := x2.2.2.1
 br (!(yDg == [])) (
  ob (strings_CutPrefix n (yDg, [92, 10])) fun y6 =>
  br y6.2 (
   g0 (s_3, y6.1, yF, ())) (
   chk (inB 0 y6.1.length) (
    let v7 : Int := ((bZ 0 y6.1 0).toNat : Int)
    br (v7 == 92) (
     br (decide ((y6.1.length : Int) > 1)) (
      chk (inB 1 y6.1.length) (
       let v8 : Int := ((bZ 0 y6.1 1).toNat : Int)
       ob (strings_IndexByte n ([97, 98, 116, 110, 118, 102, 114], v8)) fun y9 =>
       br (decide (y9 ≥ 0)) (
        let v10 : Int := IntKind.wrap .u8 (7 + (IntKind.wrap .u8 y9))
        chk (Nat.ble ((yF.length + ([v10] : List (Int)).length) * 1) room) (
         chk ((decide (0 <= (2 : Int)) && decide ((2 : Int) <= (y6.1.length : Int)))) (
          let v11 : List UInt8 := y6.1.drop (2 : Int).toNat
          g0 (s_3, v11, yF ++ [v10], ())))) (
        let v12 : Int := if (y6.1.length : Int) < 4 then (y6.1.length : Int) else 4
        chk ((decide (0 <= v12) && decide (v12 <= (y6.1.length : Int)) && (decide (0 <= (1 : Int)) && decide ((1 : Int) <= v12)))) (
         let v13 : List UInt8 := (y6.1.take v12.toNat).drop (1 : Int).toNat
         ob (fP n (v13, 8, 8)) fun y14 =>
         br (!y14.2) (
          br (decide ((y6.1.length : Int) > 3)) (
           chk (Nat.ble ((yF.length + ([IntKind.wrap .u8 y14.1] : List (Int)).length) * 1) room) (
            let r15 : List (Int) := yF ++ [IntKind.wrap .u8 y14.1]
            chk ((decide (0 <= (4 : Int)) && decide ((4 : Int) <= (y6.1.length : Int)))) (
             let v16 : List UInt8 := y6.1.drop (4 : Int).toNat
             g0 (s_3, v16, r15, ())))) (
           chk (Nat.ble ((yF.length + ([v7] : List (Int)).length) * 1) room) (
            chk ((decide (0 <= (2 : Int)) && decide ((2 : Int) <= (y6.1.length : Int)))) (
             let v17 : List UInt8 := y6.1.drop (2 : Int).toNat
             g0 (s_3, v17, yF ++ [v7], ()))))) (
          chk (Nat.ble ((yF.length + ([v7] : List (Int)).length) * 1) room) (
           chk ((decide (0 <= (2 : Int)) && decide ((2 : Int) <= (y6.1.length : Int)))) (
            let v18 : List UInt8 := y6.1.drop (2 : Int).toNat
            g0 (s_3, v18, yF ++ [v7], ())))))))) (
      chk (Nat.ble ((yF.length + ([v7] : List (Int)).length) * 1) room) (
       chk ((decide (0 <= (1 : Int)) && decide ((1 : Int) <= (y6.1.length : Int)))) (
        let v19 : List UInt8 := y6.1.drop (1 : Int).toNat
        g0 (s_3, v19, yF ++ [v7], ()))))) (
     chk (Nat.ble ((yF.length + ([v7] : List (Int)).length) * 1) room) (
      chk ((decide (0 <= (1 : Int)) && decide ((1 : Int) <= (y6.1.length : Int)))) (
       let v20 : List UInt8 := y6.1.drop (1 : Int).toNat
       g0 (s_3, v20, yF ++ [v7], ()))))))) (
  fix (wH n) n (s_3, dU yF, 0, ()))
def yG (n : Nat) (x : List UInt8) : Option (List UInt8 × Int) :=
 let s_0 := x
 ob (strings_CutSuffix n (s_0, [36, 10])) fun y1 =>
 br (!y1.2) (
  some ([], 1)) (
  fix (fG n) n (s_0, y1.1, [], ()))
def oH (n : Nat) (g0 : List ZLn × List ZLn × Int × Unit -> Option (Bool)) (x7 : List ZLn × List ZLn × Int × Unit) : Option (Bool) :=
 let l_8 := x7.1
 let zZz := x7.2.1
 let zIh := x7.2.2.1
 br (decide (zIh < (l_8.length : Int))) (
  chk (inB zIh zZz.length) (
   let v11 : List UInt8 × Bool × Unit := bZ (Ty.dflt aI) zZz zIh
   chk (decide (v11.1.length + ([10] : List UInt8).length <= kD)) (
    ob (yG n (v11.1 ++ [10])) fun y12 =>
    br (y12.2 != 0) (
     some false) (
     chk (inB zIh l_8.length) (
      let v13 : List UInt8 × Bool × Unit := bZ (Ty.dflt aI) l_8 zIh
      br (!(y12.1 == v13.1)) (
       some false) (
       let v14 : Int := IntKind.wrap .i64 (zIh + 1)
       g0 (l_8, zZz, v14, ()))))))) (
  some true)
def Kz (n : Nat) (x : List UInt8) : Option (Bool) :=
 let yHf := x
 ob (gJ n yHf) fun y1 =>
 br (decide ((yHf.length : Int) > 150)) (
  ob (showntop n ()) fun y2 =>
  some y2) (
  ob (showntop n ()) fun y3 =>
  br (!y3) (
   ob (showntop n ()) fun y4 =>
   some y4) (
   ob (Hq n ([115, 101, 100, 32, 45, 110, 32, 39, 108, 32, 48, 39], yHf)) fun y5 =>
   ob (gJ n y5.1) fun y6 =>
   br (!y5.2) (
    some false) (
    br ((y6.length : Int) != (y1.length : Int)) (
     some false) (
     fix (oH n) n (y1, y6, 0, ())))))
end
end Go.Dec
