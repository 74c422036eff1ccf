/- Part of a proof over this seat: a library of my own, and what it says of this seat. No statement is proved here. -/
import Derived.Test.YtdgneppobefaoaaGreatDoorPartAJ
import Derived.Test.YtdgneppobefaoaaGreatDoorPartBR
import Derived.Test.YtdgneppobefaoaaGreatDoorPartBS
namespace Go.Dec
noncomputable section
set_option linter.unusedVariables false
abbrev Zf0:Type:=List eX × List (Bool) × Bool × List ZLn × List ZFl × Int × Int × Int × List ZBk × List (Bool) × List (List ZLn) × List ZLk × List (Int) × Unit
abbrev Zf1:Type:=List eX × List (Bool) × Bool × List ZBk × List (Bool) × List (List ZLn) × List ZLk × List ZLn × List ZFl × List (Int) × Int × Int × Int × Unit
abbrev Zf2:Type:=Bool × List (List oD × Bool × Unit) × List kD × Bool × List (List UInt8) × Bool × Unit
abbrev Zf3:Type:=Int × Int × List eX × List (Bool) × Bool × List (Bool) × List (List ZLn) × List ZLk × List ZFl × List (Int) × Int × Int × Int × List eX × List (Bool) × Bool × List (Bool) × List (List ZLn) × List ZFl × List (Int) × Int × Int × Int × List ZBk × List ZLn × List ZBk × List ZLk × List ZLn × Unit
abbrev Zf4:Type:=Int × Int × Int × Int × Int × List UInt8 × List UInt8 × Bool × Bool × Bool × List (Bool × Int × Unit) × List ZLn × Unit
abbrev Zf5:Type:=List UInt8 × Bool × Bool × Unit
abbrev Zf6:Type:=List UInt8 × List ZFl × Bool × Int × Unit
def Ab (n : Nat) (x : Bool × List (List oD × Bool × Unit) × List kD × Bool × List (List UInt8) × Bool × Zf2) : Option (Bool × Zf2) :=
 let a_1 := x.1
 let a_2 := x.2.1
 let a_3 := x.2.2.1
 let a_4 := x.2.2.2.1
 let a_5 := x.2.2.2.2.1
 let a_6 := x.2.2.2.2.2.1
 let yCq := x.2.2.2.2.2.2.1
 let yJj := x.2.2.2.2.2.2.2.1
 let zx1 := x.2.2.2.2.2.2
 let yJk := zx1.2.2.1
 let zUj := zx1.2.2.2.1
 let zUk := zx1.2.2.2.2.1
 let yJl := zx1.2.2.2.2.2.1
 ob (zV n (((a_1, (a_2, (a_3, ()))), (a_4, (a_5, (a_6, ())))), ((yCq, (yJj, (yJk, ()))), (zUj, (zUk, (yJl, ())))))) fun y13 =>
 some (y13, yCq, yJj, yJk, zUj, zUk, yJl, ())
def oQ (n : Nat) (g0 : List eX × Int × Int × Bool × List (List oD × Bool × Unit) × List kD × Bool × List (List UInt8) × Bool × Unit -> Option (Int × Zf2)) (x8 : List eX × Int × Int × Zf2) : Option (Int × Zf2) :=
 let s_9 := x8.1
 let yJm := x8.2.1
 let zFh := x8.2.2.1
 let mY := x8.2.2.2.1
 let sJ := x8.2.2.2.2.1
 let sK := x8.2.2.2.2.2.1
 let Yx := x8.2.2.2.2.2.2.1
 let zUl := x8.2.2.2.2.2.2.2.1
 let yUu := x8.2.2.2.2.2.2
 let yJn := yUu.2.2.1
 br (decide (zFh < yJm)) (
  chk (inB zFh s_9.length) (
   let v18 : (Bool × List (List oD × Bool × Unit) × List kD × Unit) × Bool × List (List UInt8) × Bool × Unit := bV (Ty.dflt aM) s_9 zFh
   ob (Ab n (v18.1.1, v18.1.2.1, v18.1.2.2.1, v18.2.1, v18.2.2.1, v18.2.2.2.1, mY, sJ, sK, Yx, zUl, yJn, ())) fun y19 =>
   br y19.1 (
    some (zFh, y19.2.1, y19.2.2.1, y19.2.2.2.1, y19.2.2.2.2.1, y19.2.2.2.2.2.1, y19.2.2.2.2.2.2.1, ())) (
    let v20 : Int := IntKind.wrap .i64 (zFh + 1)
    g0 (s_9, yJm, v20, y19.2.1, y19.2.2.1, y19.2.2.2.1, y19.2.2.2.2.1, y19.2.2.2.2.2.1, y19.2.2.2.2.2.2.1, ())))) (
  some ((-1), mY, sJ, sK, Yx, zUl, yJn, ()))
def fQ (n : Nat) (x : List eX × Zf2) : Option (Int × Zf2) :=
 let s_1 := x.1
 let zPk := x.2.1
 let zZc := x.2.2.1
 let zZd := x.2.2.2.1
 let zPl := x.2.2.2.2.1
 let zPm := x.2.2.2.2.2.1
 let yHq := x.2.2.2.2.2.2.1
 fix (oQ n) n (s_1, (s_1.length : Int), 0, zPk, zZc, zZd, zPl, zPm, yHq, ())
def fF (n : Nat) (x : List eX × Zf2) : Option (Bool × Zf2) :=
 let s_1 := x.1
 let zPk := x.2.1
 let zZc := x.2.2.1
 let zZd := x.2.2.2.1
 let zPl := x.2.2.2.2.1
 let zPm := x.2.2.2.2.2.1
 let yHq := x.2.2.2.2.2.2.1
 ob (fQ n (s_1, zPk, zZc, zZd, zPl, zPm, yHq, ())) fun y8 =>
 some ((decide (y8.1 ≥ 0)), y8.2.1, y8.2.2.1, y8.2.2.2.1, y8.2.2.2.2.1, y8.2.2.2.2.2.1, y8.2.2.2.2.2.2.1, ())
def Un (n : Nat) (g0 : List eX × List eX × Int × Int × List (Bool) × Unit -> Option (List (Bool))) (x2 : List eX × List eX × Int × Int × List (Bool) × Unit) : Option (List (Bool)) :=
 let l_3 := x2.1
 let yHr := x2.2.1
 let yJo := x2.2.2.1
 let Da := x2.2.2.2.1
 let zHq := x2.2.2.2.2.1
 br (decide (Da < yJo)) (
  chk (inB Da yHr.length) (
   let v8 : (Bool × List (List oD × Bool × Unit) × List kD × Unit) × Bool × List (List UInt8) × Bool × Unit := bV (Ty.dflt aM) yHr Da
   chk ((decide (0 <= Da) && decide (Da <= (l_3.length : Int)))) (
    ob (fF n (l_3.take Da.toNat, v8.1.1, v8.1.2.1, v8.1.2.2.1, v8.2.1, v8.2.2.1, v8.2.2.2.1, ())) fun y9 =>
    chk ((inB Da (zHq.length) && decide (0 + (zHq.length) <= zHq.length))) (
     chk (decide (0 + Da.toNat < zHq.length)) (
      let r10 : List (Bool) := zHq.set (0 + Da.toNat) y9.1
      let v11 : Int := IntKind.wrap .i64 (Da + 1)
      g0 (l_3, yHr, yJo, v11, r10, ())))))) (
  some zHq)
def Ez (n : Nat) (x : List eX) : Option (List (Bool)) :=
 let l_0 := x
 chk ((decide (0 <= (l_0.length : Int)) && (decide ((l_0.length : Int) = (l_0.length : Int)) && Nat.ble ((l_0.length : Int).toNat * 1) room))) (
  let r1 : List (Bool) := List.replicate (l_0.length : Int).toNat false
  fix (Un n) n (l_0, l_0, (l_0.length : Int), 0, r1, ()))
def zCk (n : Nat) (x : Bool × List (List oD × Bool × Unit) × List kD × Unit) : Option (Zf4) :=
 let x_0 := x
 chk ((decide (0 <= (x_0.2.2.1.length : Int)) && (decide ((x_0.2.2.1.length : Int) = (x_0.2.2.1.length : Int)) && Nat.ble ((x_0.2.2.1.length : Int).toNat * 16) room))) (
  let r1 : List (Bool × Int × Unit) := List.replicate (x_0.2.2.1.length : Int).toNat (false, (0, ()))
  some (0, (0, (0, (0, ((-1), ([], ([], (false, (false, (false, (r1, ([], ())))))))))))))
def zHr (n : Nat) (g1 : List ZLn × Int × Int × List eX × List (Bool) × Bool × List (Bool) × List (List ZLn) × List ZLk × List ZFl × List (Int) × Int × Int × Int × List eX × List (Bool) × Bool × List (Bool) × List (List ZLn) × List ZFl × List (Int) × Int × Int × Int × List ZBk × List ZLn × List ZBk × List ZLk × List ZLn × Unit -> Option ((Zf1) × Int)) (x43 : List ZLn × Zf3) : Option ((Zf1) × Int) :=
 let zPn := x43.1
 let yCr := x43.2.1
 let zFi := x43.2.2.1
 let yHs := x43.2.2.2.1
 let zZe := x43.2.2.2.2.1
 let yPh := x43.2.2.2.2.2.1
 let yMb := x43.2.2.2.2.2.2.1
 let ySd := x43.2.2.2.2.2.2.2.1
 let Yz := x43.2.2.2.2.2.2
 let yMc := Yz.2.2.1
 let yMd := Yz.2.2.2.1
 let yHt := Yz.2.2.2.2.1
 let yMe := Yz.2.2.2.2.2.1
 let yPi := Yz.2.2.2.2.2.2.1
 let Td := Yz.2.2.2.2.2.2
 let yPj := Td.2.1
 let zPo := Td.2.2.1
 let zFj := Td.2.2.2.1
 let yCs := Td.2.2.2.2.1
 let zUm := Td.2.2.2.2.2.1
 let yJp := Td.2.2.2.2.2.2.1
 let Te := Td.2.2.2.2.2.2
 let zUn := Te.2.1
 let zPp := Te.2.2.1
 let Za := Te.2.2.2.1
 let zFk := Te.2.2.2.2.1
 let zFl := Te.2.2.2.2.2.1
 let zZf := Te.2.2.2.2.2.2.1
 let zLe := Te.2.2.2.2.2.2
 let zZg := zLe.2.1
 let zLf := zLe.2.2.1
 let Mq := zLe.2.2.2.1
 let zFm := zLe.2.2.2.2.1
 br (decide (zFi < yCr)) (
  chk (inB zFi zPn.length) (
   let v73 : List UInt8 × Bool × Unit := bV (Ty.dflt aH) zPn zFi
   chk (Nat.ble ((zFm.length + ([v73] : List ZLn).length) * 24) room) (
    let v74 : Int := IntKind.wrap .i64 (zFi + 1)
    g1 (zPn, yCr, v74, yHs, zZe, yPh, yMb, ySd, yMc, yMd, yHt, yMe, yPi, yPj, zPo, zFj, yCs, zUm, yJp, zUn, zPp, Za, zFk, zFl, zZf, zZg, zLf, Mq, zFm ++ [v73], ())))) (
  some ((zPo, (zFj, (yCs, (zLf, (zUm, (yJp, (Mq, (zFm, (zUn, (zPp, (Za, (zFk, (zFl, ()))))))))))))), 0))
def zHs (n : Nat) (g0 : List eX × List UInt8 × List eX × Int × Int × List eX × List (Bool) × Bool × List (Bool) × List (List ZLn) × List ZLk × List ZFl × List (Int) × Int × Int × Int × List eX × List (Bool) × Bool × List (Bool) × List (List ZLn) × List ZFl × List (Int) × Int × Int × Int × List ZBk × List ZLn × List ZBk × List ZLk × List ZLn × Unit -> Option ((Zf1) × Int)) (x6 : List eX × List UInt8 × List eX × Zf3) : Option ((Zf1) × Int) :=
 let l_7 := x6.1
 let zPf := x6.2.1
 let zZh := x6.2.2.1
 let yCt := x6.2.2.2.1
 let zFn := x6.2.2.2.2.1
 let zPq := x6.2.2.2.2.2.1
 let zFo := x6.2.2.2.2.2.2.1
 let yCu := x6.2.2.2.2.2.2.2.1
 let zHt := x6.2.2.2.2.2.2
 let zUo := zHt.2.2.1
 let yJq := zHt.2.2.2.1
 let zUp := zHt.2.2.2.2.1
 let zUq := zHt.2.2.2.2.2.1
 let zPr := zHt.2.2.2.2.2.2.1
 let zCl := zHt.2.2.2.2.2.2
 let zUr := zCl.2.1
 let yCv := zCl.2.2.1
 let yCw := zCl.2.2.2.1
 let zCm := zCl.2.2.2.2.1
 let Tf := zCl.2.2.2.2.2.1
 let zPs := zCl.2.2.2.2.2.2.1
 let zCn := zCl.2.2.2.2.2.2
 let zHu := zCn.2.1
 let zZi := zCn.2.2.1
 let zHv := zCn.2.2.2.1
 let zCo := zCn.2.2.2.2.1
 let zHw := zCn.2.2.2.2.2.1
 let zPt := zCn.2.2.2.2.2.2.1
 let zHx := zCn.2.2.2.2.2.2
 let zPu := zHx.2.1
 let kP := zHx.2.2.1
 let nT := zHx.2.2.2.1
 let zLg := zHx.2.2.2.2.1
 let Tg := zHx.2.2.2.2.2.1
 let zZj := zHx.2.2.2.2.2.2.1
 br (decide (zFn < yCt)) (
  chk (inB zFn zZh.length) (
   let v38 : (Bool × List (List oD × Bool × Unit) × List kD × Unit) × Bool × List (List UInt8) × Bool × Unit := bV (Ty.dflt aM) zZh zFn
   ob (zCk n v38.1) fun y39 =>
   chk (Nat.ble ((zLg.length + ([y39] : List ZBk).length) * 128) room) (
    let v40 : Int := IntKind.wrap .i64 (zFn + 1)
    g0 (l_7, zPf, zZh, yCt, v40, zPq, zFo, yCu, zUo, yJq, zUp, zUq, zPr, zUr, yCv, yCw, zCm, Tf, zPs, zHu, zZi, zHv, zCo, zHw, zPt, zPu, kP, nT, zLg ++ [y39], Tg, zZj, ())))) (
  br (decide ((l_7.length : Int) > 0)) (
   chk ((inB 0 (Tg.length) && decide (0 + (Tg.length) <= Tg.length))) (
    chk (decide (0 + (0 : Int).toNat < Tg.length)) (
     let r41 : List ZLk := Tg.set (0 + (0 : Int).toNat) (zPf, (false, (true, ())))
     some ((zCm, (Tf, (zPs, (zLg, (zHu, (zZi, (r41, (zZj, (zHv, (zCo, (zHw, (zPt, (zPu, ()))))))))))))), 0)))) (
   ob (kL n zPf) fun y42 =>
   fix (zHr n) n (y42, (y42.length : Int), 0, zPq, zFo, yCu, zUo, yJq, zUp, zUq, zPr, zUr, yCv, yCw, zCm, Tf, zPs, zHu, zZi, zHv, zCo, zHw, zPt, zPu, kP, nT, zLg, Tg, zZj, ())))
def Bw (n : Nat) (x : List eX × List UInt8 × List ZFl × Bool) : Option ((Zf1) × Int) :=
 let l_0 := x.1
 let zCc := x.2.1
 let t_2 := x.2.2.1
 let zPv := x.2.2.2
 br (decide ((l_0.length : Int) > 8)) (
  some (([], ([], (false, ([], ([], ([], ([], ([], ([], ([], (0, (0, (0, ()))))))))))))), 2)) (
  ob (Ez n l_0) fun y1 =>
  chk ((decide (0 <= (l_0.length : Int)) && (decide ((l_0.length : Int) = (l_0.length : Int)) && Nat.ble ((l_0.length : Int).toNat * 1) room))) (
   let v2 : List (Bool) := List.replicate (l_0.length : Int).toNat false
   chk ((decide (0 <= (l_0.length : Int)) && (decide ((l_0.length : Int) = (l_0.length : Int)) && Nat.ble ((l_0.length : Int).toNat * 24) room))) (
    let v3 : List (List ZLn) := List.replicate (l_0.length : Int).toNat []
    chk ((decide (0 <= (l_0.length : Int)) && (decide ((l_0.length : Int) = (l_0.length : Int)) && Nat.ble ((l_0.length : Int).toNat * 24) room))) (
     let r4 : List ZLk := List.replicate (l_0.length : Int).toNat ([], (false, (false, ())))
     chk ((decide (0 <= (l_0.length : Int)) && (decide ((l_0.length : Int) = (l_0.length : Int)) && Nat.ble ((l_0.length : Int).toNat * 8) room))) (
      let v5 : List (Int) := List.replicate (l_0.length : Int).toNat 0
      fix (zHs n) n (l_0, zCc, l_0, (l_0.length : Int), 0, [], [], false, [], [], [], [], [], 0, 0, 0, l_0, y1, zPv, v2, v3, t_2, v5, 0, 0, 0, [], [], [], r4, [], ()))))))
def wR (n : Nat) (x : Int × Zf1) : Option (Bool × Zf1) :=
 let i_1 := x.1
 let dR := x.2.1
 let dZ := x.2.2.1
 let jQ := x.2.2.2.1
 let Xe := x.2.2.2.2.1
 let zPw := x.2.2.2.2.2.1
 let yHu := x.2.2.2.2.2.2.1
 let zPx := x.2.2.2.2.2.2.2.1
 let zx1 := x.2.2.2.2.2.2
 let yHv := zx1.2.2.1
 let zHy := zx1.2.2.2.1
 let zCp := zx1.2.2.2.2.1
 let zHz := zx1.2.2.2.2.2.1
 let zPy := zx1.2.2.2.2.2.2.1
 let zx2 := zx1.2.2.2.2.2.2
 let zPz := zx2.2.1
 chk (inB i_1 Xe.length) (
  let v15 : Int × Int × Int × Int × Int × List UInt8 × List UInt8 × Bool × Bool × Bool × List (Bool × Int × Unit) × List ZLn × Unit := bV (Ty.dflt aC) Xe i_1
  some ((v15.1 == 4), dR, dZ, jQ, Xe, zPw, yHu, zPx, yHv, zHy, zCp, zHz, zPy, zPz, ()))
def qQ (n : Nat) (x : Zf5) : Option ((Zf5) × (List UInt8 × Bool × Unit) × Bool × Bool) :=
 let k_0 := x
 ob (strings_Cut n (k_0.1, [10])) fun y1 =>
 br (y1.2.1 == []) (
  br (!k_0.2.2.1) (
   some (k_0, ([], (false, ())), false, false)) (
   br (k_0.1 == []) (
    some (k_0, ([], (false, ())), false, false)) (
    some ((y1.2.1, k_0.2), (y1.1, (y1.2.2, ())), (y1.2.1 == []), true)))) (
  br (k_0.1 == []) (
   some (k_0, ([], (false, ())), false, false)) (
   some ((y1.2.1, k_0.2), (y1.1, (y1.2.2, ())), (y1.2.1 == []), true)))
def wC (n : Nat) (x : Zf5) : Option ((List UInt8 × Bool × Unit) × Bool × Bool) :=
 let k_0 := x
 ob (qQ n k_0) fun y1 =>
 some (y1.2.1, y1.2.2.1, y1.2.2.2)
def Hw (n : Nat) (x : Zf5) : Option (Bool) :=
 let k_0 := x
 br k_0.2.2.1 (
  some (k_0.1 == [])) (
  some false)
def rU (n : Nat) (x : Int × Zf1) : Option (Bool × Zf1) :=
 let i_1 := x.1
 let dR := x.2.1
 let dZ := x.2.2.1
 let jQ := x.2.2.2.1
 let Xe := x.2.2.2.2.1
 let zPw := x.2.2.2.2.2.1
 let yHu := x.2.2.2.2.2.2.1
 let zPx := x.2.2.2.2.2.2.2.1
 let zx1 := x.2.2.2.2.2.2
 let yHv := zx1.2.2.1
 let zHy := zx1.2.2.2.1
 let zCp := zx1.2.2.2.2.1
 let zHz := zx1.2.2.2.2.2.1
 let zPy := zx1.2.2.2.2.2.2.1
 let zx2 := zx1.2.2.2.2.2.2
 let zPz := zx2.2.1
 chk (inB i_1 dR.length) (
  let v15 : (Bool × List (List oD × Bool × Unit) × List kD × Unit) × Bool × List (List UInt8) × Bool × Unit := bV (Ty.dflt aM) dR i_1
  ob (wR n (i_1, dR, dZ, jQ, Xe, zPw, yHu, zPx, yHv, zHy, zCp, zHz, zPy, zPz, ())) fun y16 =>
  br y16.1 (
   some (false, y16.2.1, y16.2.2.1, y16.2.2.2.1, y16.2.2.2.2.1, y16.2.2.2.2.2.1, y16.2.2.2.2.2.2.1, y16.2.2.2.2.2.2.2.1, y16.2.2.2.2.2.2.2.2.1, y16.2.2.2.2.2.2.2.2.2.1, y16.2.2.2.2.2.2.2.2.2.2.1, y16.2.2.2.2.2.2.2.2.2.2.2.1, y16.2.2.2.2.2.2.2.2.2.2.2.2.1, y16.2.2.2.2.2.2.2.2.2.2.2.2.2.1, ())) (
   chk (inB i_1 y16.2.2.2.2.2.1.length) (
    let v17 : Bool := bV (Ty.dflt .bool) y16.2.2.2.2.2.1 i_1
    br (!v17) (
     br v15.2.2.2.1 (
      some (true, y16.2.1, y16.2.2.1, y16.2.2.2.1, y16.2.2.2.2.1, y16.2.2.2.2.2.1, y16.2.2.2.2.2.2.1, y16.2.2.2.2.2.2.2.1, y16.2.2.2.2.2.2.2.2.1, y16.2.2.2.2.2.2.2.2.2.1, y16.2.2.2.2.2.2.2.2.2.2.1, y16.2.2.2.2.2.2.2.2.2.2.2.1, y16.2.2.2.2.2.2.2.2.2.2.2.2.1, y16.2.2.2.2.2.2.2.2.2.2.2.2.2.1, ())) (
      chk (inB i_1 y16.2.2.1.length) (
       let v18 : Bool := bV (Ty.dflt .bool) y16.2.2.1 i_1
       br (!v18) (
        some (true, y16.2.1, y16.2.2.1, y16.2.2.2.1, y16.2.2.2.2.1, y16.2.2.2.2.2.1, y16.2.2.2.2.2.2.1, y16.2.2.2.2.2.2.2.1, y16.2.2.2.2.2.2.2.2.1, y16.2.2.2.2.2.2.2.2.2.1, y16.2.2.2.2.2.2.2.2.2.2.1, y16.2.2.2.2.2.2.2.2.2.2.2.1, y16.2.2.2.2.2.2.2.2.2.2.2.2.1, y16.2.2.2.2.2.2.2.2.2.2.2.2.2.1, ())) (
        none)))) (
     chk (inB i_1 y16.2.2.2.2.1.length) (
      let v19 : Int × Int × Int × Int × Int × List UInt8 × List UInt8 × Bool × Bool × Bool × List (Bool × Int × Unit) × List ZLn × Unit := bV (Ty.dflt aC) y16.2.2.2.2.1 i_1
      br (v19.1 == 1) (
       some (true, y16.2.1, y16.2.2.1, y16.2.2.2.1, y16.2.2.2.2.1, y16.2.2.2.2.2.1, y16.2.2.2.2.2.2.1, y16.2.2.2.2.2.2.2.1, y16.2.2.2.2.2.2.2.2.1, y16.2.2.2.2.2.2.2.2.2.1, y16.2.2.2.2.2.2.2.2.2.2.1, y16.2.2.2.2.2.2.2.2.2.2.2.1, y16.2.2.2.2.2.2.2.2.2.2.2.2.1, y16.2.2.2.2.2.2.2.2.2.2.2.2.2.1, ())) (
       br (decide ((v15.2.2.1.length : Int) > 0)) (
        some (true, y16.2.1, y16.2.2.1, y16.2.2.2.1, y16.2.2.2.2.1, y16.2.2.2.2.2.1, y16.2.2.2.2.2.2.1, y16.2.2.2.2.2.2.2.1, y16.2.2.2.2.2.2.2.2.1, y16.2.2.2.2.2.2.2.2.2.1, y16.2.2.2.2.2.2.2.2.2.2.1, y16.2.2.2.2.2.2.2.2.2.2.2.1, y16.2.2.2.2.2.2.2.2.2.2.2.2.1, y16.2.2.2.2.2.2.2.2.2.2.2.2.2.1, ())) (
        chk (inB i_1 y16.2.2.2.2.2.2.2.1.length) (
         let v20 : List UInt8 × Bool × Bool × Unit := bV (Ty.dflt aY) y16.2.2.2.2.2.2.2.1 i_1
         ob (wC n v20) fun y21 =>
         br y21.2.2 (
          some (true, y16.2.1, y16.2.2.1, y16.2.2.2.1, y16.2.2.2.2.1, y16.2.2.2.2.2.1, y16.2.2.2.2.2.2.1, y16.2.2.2.2.2.2.2.1, y16.2.2.2.2.2.2.2.2.1, y16.2.2.2.2.2.2.2.2.2.1, y16.2.2.2.2.2.2.2.2.2.2.1, y16.2.2.2.2.2.2.2.2.2.2.2.1, y16.2.2.2.2.2.2.2.2.2.2.2.2.1, y16.2.2.2.2.2.2.2.2.2.2.2.2.2.1, ())) (
          chk (inB i_1 y16.2.2.2.2.2.2.2.1.length) (
           let v22 : List UInt8 × Bool × Bool × Unit := bV (Ty.dflt aY) y16.2.2.2.2.2.2.2.1 i_1
           ob (Hw n v22) fun y23 =>
           some (y23, y16.2.1, y16.2.2.1, y16.2.2.2.1, y16.2.2.2.2.1, y16.2.2.2.2.2.1, y16.2.2.2.2.2.2.1, y16.2.2.2.2.2.2.2.1, y16.2.2.2.2.2.2.2.2.1, y16.2.2.2.2.2.2.2.2.2.1, y16.2.2.2.2.2.2.2.2.2.2.1, y16.2.2.2.2.2.2.2.2.2.2.2.1, y16.2.2.2.2.2.2.2.2.2.2.2.2.1, y16.2.2.2.2.2.2.2.2.2.2.2.2.2.1, ())))))))))))
def Mr (n : Nat) (g0 : Int × List eX × List (Bool) × Bool × List ZBk × List (Bool) × List (List ZLn) × List ZLk × List ZLn × List ZFl × List (Int) × Int × Int × Int × Unit -> Option (Int)) (x2 : Int × Zf1) : Option (Int) :=
 let i_3 := x2.1
 let Pw := x2.2.1
 let Ed := x2.2.2.1
 let zFp := x2.2.2.2.1
 let Xf := x2.2.2.2.2.1
 let Xg := x2.2.2.2.2.2.1
 let zQa := x2.2.2.2.2.2.2.1
 let Px := x2.2.2.2.2.2.2.2.1
 let zIa := x2.2.2.2.2.2.2
 let zFq := zIa.2.2.1
 let Py := zIa.2.2.2.1
 let Ka := zIa.2.2.2.2.1
 let Pz := zIa.2.2.2.2.2.1
 let Xh := zIa.2.2.2.2.2.2.1
 let yUv := zIa.2.2.2.2.2.2
 let Xi := yUv.2.1
 br (decide (i_3 ≥ 0)) (
  ob (rU n (i_3, Pw, Ed, zFp, Xf, Xg, zQa, Px, zFq, Py, Ka, Pz, Xh, Xi, ())) fun y17 =>
  br y17.1 (
   some i_3) (
   let v18 : Int := IntKind.wrap .i64 (i_3 - 1)
   g0 (v18, y17.2.1, y17.2.2.1, y17.2.2.2.1, y17.2.2.2.2.1, y17.2.2.2.2.2.1, y17.2.2.2.2.2.2.1, y17.2.2.2.2.2.2.2.1, y17.2.2.2.2.2.2.2.2.1, y17.2.2.2.2.2.2.2.2.2.1, y17.2.2.2.2.2.2.2.2.2.2.1, y17.2.2.2.2.2.2.2.2.2.2.2.1, y17.2.2.2.2.2.2.2.2.2.2.2.2.1, y17.2.2.2.2.2.2.2.2.2.2.2.2.2.1, ()))) (
  some (-1))
def iR (n : Nat) (x : Zf1) : Option (Int) :=
 let m_0 := x
 let v1 : Int := IntKind.wrap .i64 ((m_0.1.length : Int) - 1)
 fix (Mr n) n (v1, m_0.1, m_0.2.1, m_0.2.2.1, m_0.2.2.2.1, m_0.2.2.2.2.1, m_0.2.2.2.2.2.1, m_0.2.2.2.2.2.2.1, m_0.2.2.2.2.2.2.2.1, m_0.2.2.2.2.2.2.2.2.1, m_0.2.2.2.2.2.2.2.2.2.1, m_0.2.2.2.2.2.2.2.2.2.2.1, m_0.2.2.2.2.2.2.2.2.2.2.2.1, m_0.2.2.2.2.2.2.2.2.2.2.2.2.1, ())
def qI (_n:Nat) (x:List ZBk × Unit):Option (List ZBk × Unit):=Jc 128 x
def wS (_n:Nat) (x:List (Bool) × Unit):Option (List (Bool) × Unit):=Jc 1 x
def oF (_n:Nat) (x:List (List ZLn) × Unit):Option (List (List ZLn) × Unit):=Jc 24 x
def qJ (_n:Nat) (x:List ZLk × Unit):Option (List ZLk × Unit):=Jc 24 x
def slices_Clone_int (_n:Nat) (x:List (Int) × Unit):Option (List (Int) × Unit):=Jc 8 x
def kH (n : Nat) (x : List ZLn) : Option (List ZLn) :=
 let s_0 := x
 chk ((decide ((s_0.length : Int) = (s_0.length : Int)) && decide ((s_0.length : Int) = (s_0.length : Int)))) (
  some s_0)
def nM (n : Nat) (x : Zf1) : Option (Zf0) :=
 let m_1 := x.1
 let m_2 := x.2.1
 let m_3 := x.2.2.1
 let m_4 := x.2.2.2.1
 let m_5 := x.2.2.2.2.1
 let m_6 := x.2.2.2.2.2.1
 let m_7 := x.2.2.2.2.2.2.1
 let m_8 := x.2.2.2.2.2.2.2.1
 let zx1 := x.2.2.2.2.2.2
 let m_9 := zx1.2.2.1
 let yUw := zx1.2.2.2.1
 let yUx := zx1.2.2.2.2.1
 let yUy := zx1.2.2.2.2.2.1
 let yUz := zx1.2.2.2.2.2.2.1
 ob (qI n (m_4, ())) fun y14 =>
 ob (wS n (m_5, ())) fun y15 =>
 ob (oF n (m_6, ())) fun y16 =>
 ob (qJ n (m_7, ())) fun y17 =>
 ob (slices_Clone_int n (yUw, ())) fun y18 =>
 ob (kH n m_8) fun y19 =>
 some (m_1, m_2, m_3, y19, m_9, yUx, yUy, yUz, y14.1, y15.1, y16.1, y17.1, y18.1, ())
def Ac (n : Nat) (x : Zf5) : Option (Zf5) :=
 let k_0 := x
 some (k_0.1, (k_0.2.1, (true, ())))
def wT (n : Nat) (x : Int × Zf0) : Option (Zf0) :=
 let i_1 := x.1
 let dR := x.2.1
 let dZ := x.2.2.1
 let jQ := x.2.2.2.1
 let tO := x.2.2.2.2.1
 let jU := x.2.2.2.2.2.1
 let jV := x.2.2.2.2.2.2.1
 let nW := x.2.2.2.2.2.2.2.1
 let zx1 := x.2.2.2.2.2.2
 let nX := zx1.2.2.1
 let aZ := zx1.2.2.2.1
 let gG := zx1.2.2.2.2.1
 let eT := zx1.2.2.2.2.2.1
 let dM := zx1.2.2.2.2.2.2.1
 let zx2 := zx1.2.2.2.2.2.2
 let iD := zx2.2.1
 chk ((inB i_1 (aZ.length) && decide (0 + (aZ.length) <= aZ.length))) (
  chk (decide (0 + i_1.toNat < aZ.length)) (
   let r15 : List ZBk := aZ.set (0 + i_1.toNat) (4, ((aZ.getD (0 + i_1.toNat) (Ty.dflt aC)).2.1, ((aZ.getD (0 + i_1.toNat) (Ty.dflt aC)).2.2.1, ((aZ.getD (0 + i_1.toNat) (Ty.dflt aC)).2.2.2.1, ((aZ.getD (0 + i_1.toNat) (Ty.dflt aC)).2.2.2.2.1, ((aZ.getD (0 + i_1.toNat) (Ty.dflt aC)).2.2.2.2.2.1, ((aZ.getD (0 + i_1.toNat) (Ty.dflt aC)).2.2.2.2.2.2.1, ((aZ.getD (0 + i_1.toNat) (Ty.dflt aC)).2.2.2.2.2.2.2.1, ((aZ.getD (0 + i_1.toNat) (Ty.dflt aC)).2.2.2.2.2.2.2.2.1, ((aZ.getD (0 + i_1.toNat) (Ty.dflt aC)).2.2.2.2.2.2.2.2.2.1, ((aZ.getD (0 + i_1.toNat) (Ty.dflt aC)).2.2.2.2.2.2.2.2.2.2.1, ((aZ.getD (0 + i_1.toNat) (Ty.dflt aC)).2.2.2.2.2.2.2.2.2.2.2.1, ()))))))))))))
   chk ((inB i_1 (dM.length) && decide (0 + (dM.length) <= dM.length))) (
    chk (decide (0 + i_1.toNat < dM.length)) (
     let r16 : List ZLk := dM.set (0 + i_1.toNat) ([], ((dM.getD (0 + i_1.toNat) (Ty.dflt aY)).2.1, ((dM.getD (0 + i_1.toNat) (Ty.dflt aY)).2.2.1, ())))
     let v17 : Int := IntKind.wrap .i64 (i_1 + 1)
     let v18 : Int := ((r16.length : Nat) : Int)
     br (decide (v17 < v18)) (
      let v19 : Int := IntKind.wrap .i64 (i_1 + 1)
      let v20 : Int := IntKind.wrap .i64 (i_1 + 1)
      chk ((inB v20 (r16.length) && decide (0 + (r16.length) <= r16.length))) (
       chk (decide (0 + v20.toNat < r16.length)) (
        ob (Ac n ((r16.getD (0 + v20.toNat) (Ty.dflt aY)).1, ((r16.getD (0 + v20.toNat) (Ty.dflt aY)).2.1, ((r16.getD (0 + v20.toNat) (Ty.dflt aY)).2.2.1, ())))) fun y21 =>
        chk ((inB v19 (r16.length) && decide (0 + (r16.length) <= r16.length))) (
         chk (decide (0 + v19.toNat < r16.length)) (
          let r22 : List ZLk := r16.set (0 + v19.toNat) y21
          some (dR, dZ, jQ, tO, jU, jV, nW, nX, r15, gG, eT, r22, iD, ())))))) (
      some (dR, dZ, jQ, tO, jU, jV, nW, nX, r15, gG, eT, r16, iD, ()))))))
def nN (n : Nat) (x : Int × Int × Zf0) : Option (Zf0) :=
 let i_1 := x.1
 let Kc := x.2.1
 let tL := x.2.2.1
 let uV := x.2.2.2.1
 let Ti := x.2.2.2.2.1
 let Xj := x.2.2.2.2.2.1
 let Ke := x.2.2.2.2.2.2.1
 let Kg := x.2.2.2.2.2.2.2.1
 let zx1 := x.2.2.2.2.2.2
 let Tj := zx1.2.2.1
 let Kh := zx1.2.2.2.1
 let gG := zx1.2.2.2.2.1
 let eT := zx1.2.2.2.2.2.1
 let dM := zx1.2.2.2.2.2.2.1
 let zx2 := zx1.2.2.2.2.2.2
 let iD := zx2.2.1
 let Tm := zx2.2.2.1
 ob (wT n (i_1, tL, uV, Ti, Xj, Ke, Kg, Tj, Kh, gG, eT, dM, iD, Tm, ())) fun y16 =>
 br (Kc != 0) (
  chk ((inB i_1 (y16.2.2.2.2.2.2.2.2.2.2.2.2.1.length) && decide (0 + (y16.2.2.2.2.2.2.2.2.2.2.2.2.1.length) <= y16.2.2.2.2.2.2.2.2.2.2.2.2.1.length))) (
   chk (decide (0 + i_1.toNat < y16.2.2.2.2.2.2.2.2.2.2.2.2.1.length)) (
    let r17 : List (Int) := y16.2.2.2.2.2.2.2.2.2.2.2.2.1.set (0 + i_1.toNat) Kc
    br (!y16.2.2.1) (
     some (y16.1, y16.2.1, y16.2.2.1, y16.2.2.2.1, y16.2.2.2.2.1, y16.2.2.2.2.2.1, y16.2.2.2.2.2.2.1, y16.2.2.2.2.2.2.2.1, y16.2.2.2.2.2.2.2.2.1, y16.2.2.2.2.2.2.2.2.2.1, y16.2.2.2.2.2.2.2.2.2.2.1, y16.2.2.2.2.2.2.2.2.2.2.2.1, r17, ())) (
     none)))) (
  br (!y16.2.2.1) (
   some (y16.1, y16.2.1, y16.2.2.1, y16.2.2.2.1, y16.2.2.2.2.1, y16.2.2.2.2.2.1, y16.2.2.2.2.2.2.1, y16.2.2.2.2.2.2.2.1, y16.2.2.2.2.2.2.2.2.1, y16.2.2.2.2.2.2.2.2.2.1, y16.2.2.2.2.2.2.2.2.2.2.1, y16.2.2.2.2.2.2.2.2.2.2.2.1, y16.2.2.2.2.2.2.2.2.2.2.2.2.1, ())) (
   none))
def oU (n : Nat) (x : Int × Zf0) : Option (Zf0) :=
 let i_1 := x.1
 let dR := x.2.1
 let dZ := x.2.2.1
 let jQ := x.2.2.2.1
 let tO := x.2.2.2.2.1
 let jU := x.2.2.2.2.2.1
 let jV := x.2.2.2.2.2.2.1
 let nW := x.2.2.2.2.2.2.2.1
 let zx1 := x.2.2.2.2.2.2
 let nX := zx1.2.2.1
 let aZ := zx1.2.2.2.1
 let gG := zx1.2.2.2.2.1
 let eT := zx1.2.2.2.2.2.1
 let dM := zx1.2.2.2.2.2.2.1
 let zx2 := zx1.2.2.2.2.2.2
 let iD := zx2.2.1
 chk (inB i_1 dR.length) (
  let v15 : (Bool × List (List oD × Bool × Unit) × List kD × Unit) × Bool × List (List UInt8) × Bool × Unit := bV (Ty.dflt aM) dR i_1
  chk ((inB i_1 (gG.length) && decide (0 + (gG.length) <= gG.length))) (
   chk (decide (0 + i_1.toNat < gG.length)) (
    let r16 : List (Bool) := gG.set (0 + i_1.toNat) true
    br v15.2.2.2.1 (
     ob (nN n (i_1, 1, dR, dZ, jQ, tO, jU, jV, nW, nX, aZ, r16, eT, dM, iD, ())) fun y17 =>
     some (y17.1, y17.2.1, y17.2.2.1, y17.2.2.2.1, y17.2.2.2.2.1, y17.2.2.2.2.2.1, y17.2.2.2.2.2.2.1, y17.2.2.2.2.2.2.2.1, y17.2.2.2.2.2.2.2.2.1, y17.2.2.2.2.2.2.2.2.2.1, y17.2.2.2.2.2.2.2.2.2.2.1, y17.2.2.2.2.2.2.2.2.2.2.2.1, y17.2.2.2.2.2.2.2.2.2.2.2.2.1, ())) (
     ob (nH n (v15, jU)) fun y18 =>
     br (decide ((v15.2.2.1.length : Int) > 0)) (
      none) (
      some (dR, dZ, jQ, tO, y18, jV, nW, nX, aZ, r16, eT, dM, iD, ()))))))
def rV (n : Nat) (x : Int × Zf0) : Option (Bool × Zf0) :=
 let i_1 := x.1
 let dR := x.2.1
 let dZ := x.2.2.1
 let jQ := x.2.2.2.1
 let tO := x.2.2.2.2.1
 let jU := x.2.2.2.2.2.1
 let jV := x.2.2.2.2.2.2.1
 let nW := x.2.2.2.2.2.2.2.1
 let zx1 := x.2.2.2.2.2.2
 let nX := zx1.2.2.1
 let aZ := zx1.2.2.2.1
 let gG := zx1.2.2.2.2.1
 let eT := zx1.2.2.2.2.2.1
 let dM := zx1.2.2.2.2.2.2.1
 let zx2 := zx1.2.2.2.2.2.2
 let iD := zx2.2.1
 chk ((inB i_1 (aZ.length) && decide (0 + (aZ.length) <= aZ.length))) (
  chk (decide (0 + i_1.toNat < aZ.length)) (
   let v15 : Int := (aZ.getD (0 + i_1.toNat) (Ty.dflt aC)).1
   some ((v15 == 4), dR, dZ, jQ, tO, jU, jV, nW, nX, aZ, gG, eT, dM, iD, ())))
def Kr (n : Nat) (g0 : Int × List ZLn × Int × Int × List eX × List (Bool) × Bool × List ZLn × List ZFl × Int × Int × Int × List ZBk × List (Bool) × List (List ZLn) × List ZLk × List (Int) × Unit -> Option (Zf0)) (x55 : Int × List ZLn × Int × Int × Zf0) : Option (Zf0) :=
 let yJr := x55.1
 let yCx := x55.2.1
 let yPk := x55.2.2.1
 let zQb := x55.2.2.2.1
 let yHw := x55.2.2.2.2.1
 let zZk := x55.2.2.2.2.2.1
 let yPl := x55.2.2.2.2.2.2.1
 let ySe := x55.2.2.2.2.2.2.2.1
 let Zb := x55.2.2.2.2.2.2
 let yMf := Zb.2.2.1
 let Za := Zb.2.2.2.1
 let zFk := Zb.2.2.2.2.1
 let zFl := Zb.2.2.2.2.2.1
 let zZf := Zb.2.2.2.2.2.2.1
 let zLh := Zb.2.2.2.2.2.2
 let zZg := zLh.2.1
 let zLf := zLh.2.2.1
 let Mq := zLh.2.2.2.1
 let zFm := zLh.2.2.2.2.1
 br (decide (zQb < yPk)) (
  chk (inB zQb yCx.length) (
   let v73 : List UInt8 × Bool × Unit := bV (Ty.dflt aH) yCx zQb
   chk ((inB yJr (Mq.length) && decide (0 + (Mq.length) <= Mq.length))) (
    chk (decide (0 + yJr.toNat < Mq.length)) (
     none)))) (
  some (yHw, zZk, yPl, ySe, yMf, Za, zFk, zFl, zZf, zZg, zLf, Mq, zFm, ()))
def wI (n : Nat) (x39 : List ZLn × Int × Zf0) : Option (Zf0) :=
 let yPm := x39.1
 let ySf := x39.2.1
 let yHx := x39.2.2.1
 let zZl := x39.2.2.2.1
 let yPn := x39.2.2.2.2.1
 let ySg := x39.2.2.2.2.2.1
 let yMg := x39.2.2.2.2.2.2.1
 let yMh := x39.2.2.2.2.2.2.2.1
 let Zc := x39.2.2.2.2.2.2
 let yPo := Zc.2.2.1
 let yPp := Zc.2.2.2.1
 let ySh := Zc.2.2.2.2.1
 let ySi := Zc.2.2.2.2.2.1
 let ySj := Zc.2.2.2.2.2.2.1
 let yJs := Zc.2.2.2.2.2.2
 let ySk := yJs.2.1
 let ySl := yJs.2.2.1
 fix (Kr n) n (ySf, yPm, (yPm.length : Int), 0, yHx, zZl, yPn, ySg, yMg, yMh, yPo, yPp, ySh, ySi, ySj, ySk, ySl, ())
def Ku (n : Nat) (x19 : List ZLn × Int × Zf0) : Option (Zf0) :=
 let yPq := x19.1
 let Tn := x19.2.1
 let zQc := x19.2.2.1
 let Hy := x19.2.2.2.1
 let yCy := x19.2.2.2.2.1
 let yJt := x19.2.2.2.2.2.1
 let zUs := x19.2.2.2.2.2.2.1
 let zUt := x19.2.2.2.2.2.2.2.1
 let lI := x19.2.2.2.2.2.2
 let yCz := lI.2.2.1
 let zQd := lI.2.2.2.1
 let yJu := lI.2.2.2.2.1
 let yJv := lI.2.2.2.2.2.1
 let yJw := lI.2.2.2.2.2.2.1
 let nS := lI.2.2.2.2.2.2
 let kP := nS.2.1
 let nT := nS.2.2.1
 chk (inB Tn Hy.length) (
  let v35 : Bool := bV (Ty.dflt .bool) Hy Tn
  br (!v35) (
   chk ((inB Tn (kP.length) && decide (0 + (kP.length) <= kP.length))) (
    chk (decide (0 + Tn.toNat < kP.length)) (
     let v36 : List UInt8 := (kP.getD (0 + Tn.toNat) (Ty.dflt aY)).1
     ob (kL n v36) fun y37 =>
     let v38 : Int := if (y37.length : Int) > zQd then (y37.length : Int) else zQd
     jn (wI n) (yPq, Tn, zQc, Hy, yCy, yJt, zUs, zUt, yCz, v38, yJu, yJv, yJw, kP, nT, ())))) (
   jn (wI n) (yPq, Tn, zQc, Hy, yCy, yJt, zUs, zUt, yCz, zQd, yJu, yJv, yJw, kP, nT, ())))
def lY (n : Nat) (x : Int × List ZLn × Zf0) : Option (Zf0) :=
 let i_1 := x.1
 let l_2 := x.2.1
 let tL := x.2.2.1
 let uV := x.2.2.2.1
 let Ti := x.2.2.2.2.1
 let Xj := x.2.2.2.2.2.1
 let Ke := x.2.2.2.2.2.2.1
 let Kg := x.2.2.2.2.2.2.2.1
 let zx1 := x.2.2.2.2.2.2
 let Tj := zx1.2.2.1
 let Kh := zx1.2.2.2.1
 let gG := zx1.2.2.2.2.1
 let eT := zx1.2.2.2.2.2.1
 let dM := zx1.2.2.2.2.2.2.1
 let zx2 := zx1.2.2.2.2.2.2
 let iD := zx2.2.1
 let Tm := zx2.2.2.1
 let v16 : Int := IntKind.wrap .i64 (i_1 + 1)
 br (v16 == (tL.length : Int)) (
  chk (Nat.ble ((Xj.length + l_2.length) * 24) room) (
   some (tL, uV, Ti, Xj ++ l_2, Ke, Kg, Tj, Kh, gG, eT, dM, iD, Tm, ()))) (
  chk (inB v16 tL.length) (
   let v17 : (Bool × List (List oD × Bool × Unit) × List kD × Unit) × Bool × List (List UInt8) × Bool × Unit := bV (Ty.dflt aM) tL v16
   br ((l_2.length : Int) == 0) (
    some (tL, uV, Ti, Xj, Ke, Kg, Tj, Kh, gG, eT, dM, iD, Tm, ())) (
    ob (rV n (v16, tL, uV, Ti, Xj, Ke, Kg, Tj, Kh, gG, eT, dM, iD, Tm, ())) fun y18 =>
    br y18.1 (
     some (y18.2.1, y18.2.2.1, y18.2.2.2.1, y18.2.2.2.2.1, y18.2.2.2.2.2.1, y18.2.2.2.2.2.2.1, y18.2.2.2.2.2.2.2.1, y18.2.2.2.2.2.2.2.2.1, y18.2.2.2.2.2.2.2.2.2.1, y18.2.2.2.2.2.2.2.2.2.2.1, y18.2.2.2.2.2.2.2.2.2.2.2.1, y18.2.2.2.2.2.2.2.2.2.2.2.2.1, y18.2.2.2.2.2.2.2.2.2.2.2.2.2.1, ())) (
     br v17.2.2.2.1 (
      some (y18.2.1, y18.2.2.1, y18.2.2.2.1, y18.2.2.2.2.1, y18.2.2.2.2.2.1, y18.2.2.2.2.2.2.1, y18.2.2.2.2.2.2.2.1, y18.2.2.2.2.2.2.2.2.1, y18.2.2.2.2.2.2.2.2.2.1, y18.2.2.2.2.2.2.2.2.2.2.1, y18.2.2.2.2.2.2.2.2.2.2.2.1, y18.2.2.2.2.2.2.2.2.2.2.2.2.1, y18.2.2.2.2.2.2.2.2.2.2.2.2.2.1, ())) (
      br (decide ((v17.2.2.1.length : Int) > 0)) (
       some (y18.2.1, y18.2.2.1, y18.2.2.2.1, y18.2.2.2.2.1, y18.2.2.2.2.2.1, y18.2.2.2.2.2.2.1, y18.2.2.2.2.2.2.2.1, y18.2.2.2.2.2.2.2.2.1, y18.2.2.2.2.2.2.2.2.2.1, y18.2.2.2.2.2.2.2.2.2.2.1, y18.2.2.2.2.2.2.2.2.2.2.2.1, y18.2.2.2.2.2.2.2.2.2.2.2.2.1, y18.2.2.2.2.2.2.2.2.2.2.2.2.2.1, ())) (
       jn (Ku n) (l_2, v16, y18.2.1, y18.2.2.1, y18.2.2.2.1, y18.2.2.2.2.1, y18.2.2.2.2.2.1, y18.2.2.2.2.2.2.1, y18.2.2.2.2.2.2.2.1, y18.2.2.2.2.2.2.2.2.1, y18.2.2.2.2.2.2.2.2.2.1, y18.2.2.2.2.2.2.2.2.2.2.1, y18.2.2.2.2.2.2.2.2.2.2.2.1, y18.2.2.2.2.2.2.2.2.2.2.2.2.1, y18.2.2.2.2.2.2.2.2.2.2.2.2.2.1, ())))))))
def jK (n : Nat) (x : Int × Zf0) : Option (Bool × Zf0) :=
 let i_1 := x.1
 let dR := x.2.1
 let dZ := x.2.2.1
 let jQ := x.2.2.2.1
 let tO := x.2.2.2.2.1
 let jU := x.2.2.2.2.2.1
 let jV := x.2.2.2.2.2.2.1
 let nW := x.2.2.2.2.2.2.2.1
 let zx1 := x.2.2.2.2.2.2
 let nX := zx1.2.2.1
 let aZ := zx1.2.2.2.1
 let gG := zx1.2.2.2.2.1
 let eT := zx1.2.2.2.2.2.1
 let dM := zx1.2.2.2.2.2.2.1
 let zx2 := zx1.2.2.2.2.2.2
 let iD := zx2.2.1
 chk ((inB i_1 (aZ.length) && decide (0 + (aZ.length) <= aZ.length))) (
  chk (decide (0 + i_1.toNat < aZ.length)) (
   let v15 : Int := (aZ.getD (0 + i_1.toNat) (Ty.dflt aC)).1
   some ((v15 == 4), dR, dZ, jQ, tO, jU, jV, nW, nX, aZ, gG, eT, dM, iD, ())))
def rW (n : Nat) (x : Int × Zf0) : Option (Zf0) :=
 let i_1 := x.1
 let dR := x.2.1
 let dZ := x.2.2.1
 let jQ := x.2.2.2.1
 let tO := x.2.2.2.2.1
 let jU := x.2.2.2.2.2.1
 let jV := x.2.2.2.2.2.2.1
 let nW := x.2.2.2.2.2.2.2.1
 let zx1 := x.2.2.2.2.2.2
 let nX := zx1.2.2.1
 let aZ := zx1.2.2.2.1
 let gG := zx1.2.2.2.2.1
 let eT := zx1.2.2.2.2.2.1
 let dM := zx1.2.2.2.2.2.2.1
 let zx2 := zx1.2.2.2.2.2.2
 let iD := zx2.2.1
 chk ((inB i_1 (aZ.length) && decide (0 + (aZ.length) <= aZ.length))) (
  chk (decide (0 + i_1.toNat < aZ.length)) (
   let r15 : List ZBk := aZ.set (0 + i_1.toNat) (4, ((aZ.getD (0 + i_1.toNat) (Ty.dflt aC)).2.1, ((aZ.getD (0 + i_1.toNat) (Ty.dflt aC)).2.2.1, ((aZ.getD (0 + i_1.toNat) (Ty.dflt aC)).2.2.2.1, ((aZ.getD (0 + i_1.toNat) (Ty.dflt aC)).2.2.2.2.1, ((aZ.getD (0 + i_1.toNat) (Ty.dflt aC)).2.2.2.2.2.1, ((aZ.getD (0 + i_1.toNat) (Ty.dflt aC)).2.2.2.2.2.2.1, ((aZ.getD (0 + i_1.toNat) (Ty.dflt aC)).2.2.2.2.2.2.2.1, ((aZ.getD (0 + i_1.toNat) (Ty.dflt aC)).2.2.2.2.2.2.2.2.1, ((aZ.getD (0 + i_1.toNat) (Ty.dflt aC)).2.2.2.2.2.2.2.2.2.1, ((aZ.getD (0 + i_1.toNat) (Ty.dflt aC)).2.2.2.2.2.2.2.2.2.2.1, ((aZ.getD (0 + i_1.toNat) (Ty.dflt aC)).2.2.2.2.2.2.2.2.2.2.2.1, ()))))))))))))
   chk ((inB i_1 (dM.length) && decide (0 + (dM.length) <= dM.length))) (
    chk (decide (0 + i_1.toNat < dM.length)) (
     let r16 : List ZLk := dM.set (0 + i_1.toNat) ([], ((dM.getD (0 + i_1.toNat) (Ty.dflt aY)).2.1, ((dM.getD (0 + i_1.toNat) (Ty.dflt aY)).2.2.1, ())))
     let v17 : Int := IntKind.wrap .i64 (i_1 + 1)
     let v18 : Int := ((r16.length : Nat) : Int)
     br (decide (v17 < v18)) (
      let v19 : Int := IntKind.wrap .i64 (i_1 + 1)
      let v20 : Int := IntKind.wrap .i64 (i_1 + 1)
      chk ((inB v20 (r16.length) && decide (0 + (r16.length) <= r16.length))) (
       chk (decide (0 + v20.toNat < r16.length)) (
        ob (Ac n ((r16.getD (0 + v20.toNat) (Ty.dflt aY)).1, ((r16.getD (0 + v20.toNat) (Ty.dflt aY)).2.1, ((r16.getD (0 + v20.toNat) (Ty.dflt aY)).2.2.1, ())))) fun y21 =>
        chk ((inB v19 (r16.length) && decide (0 + (r16.length) <= r16.length))) (
         chk (decide (0 + v19.toNat < r16.length)) (
          let r22 : List ZLk := r16.set (0 + v19.toNat) y21
          some (dR, dZ, jQ, tO, jU, jV, nW, nX, r15, gG, eT, r22, iD, ())))))) (
      some (dR, dZ, jQ, tO, jU, jV, nW, nX, r15, gG, eT, r16, iD, ()))))))
def nY (n : Nat) (x : Int × Int × Zf0) : Option (Zf0) :=
 let i_1 := x.1
 let Kc := x.2.1
 let tL := x.2.2.1
 let uV := x.2.2.2.1
 let Ti := x.2.2.2.2.1
 let Xj := x.2.2.2.2.2.1
 let Ke := x.2.2.2.2.2.2.1
 let Kg := x.2.2.2.2.2.2.2.1
 let zx1 := x.2.2.2.2.2.2
 let Tj := zx1.2.2.1
 let Kh := zx1.2.2.2.1
 let gG := zx1.2.2.2.2.1
 let eT := zx1.2.2.2.2.2.1
 let dM := zx1.2.2.2.2.2.2.1
 let zx2 := zx1.2.2.2.2.2.2
 let iD := zx2.2.1
 let Tm := zx2.2.2.1
 ob (rW n (i_1, tL, uV, Ti, Xj, Ke, Kg, Tj, Kh, gG, eT, dM, iD, Tm, ())) fun y16 =>
 br (Kc != 0) (
  chk ((inB i_1 (y16.2.2.2.2.2.2.2.2.2.2.2.2.1.length) && decide (0 + (y16.2.2.2.2.2.2.2.2.2.2.2.2.1.length) <= y16.2.2.2.2.2.2.2.2.2.2.2.2.1.length))) (
   chk (decide (0 + i_1.toNat < y16.2.2.2.2.2.2.2.2.2.2.2.2.1.length)) (
    let r17 : List (Int) := y16.2.2.2.2.2.2.2.2.2.2.2.2.1.set (0 + i_1.toNat) Kc
    br (!y16.2.2.1) (
     some (y16.1, y16.2.1, y16.2.2.1, y16.2.2.2.1, y16.2.2.2.2.1, y16.2.2.2.2.2.1, y16.2.2.2.2.2.2.1, y16.2.2.2.2.2.2.2.1, y16.2.2.2.2.2.2.2.2.1, y16.2.2.2.2.2.2.2.2.2.1, y16.2.2.2.2.2.2.2.2.2.2.1, y16.2.2.2.2.2.2.2.2.2.2.2.1, r17, ())) (
     none)))) (
  br (!y16.2.2.1) (
   some (y16.1, y16.2.1, y16.2.2.1, y16.2.2.2.1, y16.2.2.2.2.1, y16.2.2.2.2.2.1, y16.2.2.2.2.2.2.1, y16.2.2.2.2.2.2.2.1, y16.2.2.2.2.2.2.2.2.1, y16.2.2.2.2.2.2.2.2.2.1, y16.2.2.2.2.2.2.2.2.2.2.1, y16.2.2.2.2.2.2.2.2.2.2.2.1, y16.2.2.2.2.2.2.2.2.2.2.2.2.1, ())) (
   none))
def iM (n : Nat) (x : Int × Zf0) : Option (Zf0) :=
 let i_1 := x.1
 let dR := x.2.1
 let dZ := x.2.2.1
 let jQ := x.2.2.2.1
 let tO := x.2.2.2.2.1
 let jU := x.2.2.2.2.2.1
 let jV := x.2.2.2.2.2.2.1
 let nW := x.2.2.2.2.2.2.2.1
 let zx1 := x.2.2.2.2.2.2
 let nX := zx1.2.2.1
 let aZ := zx1.2.2.2.1
 let gG := zx1.2.2.2.2.1
 let eT := zx1.2.2.2.2.2.1
 let dM := zx1.2.2.2.2.2.2.1
 let zx2 := zx1.2.2.2.2.2.2
 let iD := zx2.2.1
 chk (inB i_1 dR.length) (
  let v15 : (Bool × List (List oD × Bool × Unit) × List kD × Unit) × Bool × List (List UInt8) × Bool × Unit := bV (Ty.dflt aM) dR i_1
  chk ((inB i_1 (aZ.length) && decide (0 + (aZ.length) <= aZ.length))) (
   chk (decide (0 + i_1.toNat < aZ.length)) (
    ob (fD n (v15.1, v15.2.1, ((aZ.getD (0 + i_1.toNat) (Ty.dflt aC)).1, ((aZ.getD (0 + i_1.toNat) (Ty.dflt aC)).2.1, ((aZ.getD (0 + i_1.toNat) (Ty.dflt aC)).2.2.1, ((aZ.getD (0 + i_1.toNat) (Ty.dflt aC)).2.2.2.1, ((aZ.getD (0 + i_1.toNat) (Ty.dflt aC)).2.2.2.2.1, ((aZ.getD (0 + i_1.toNat) (Ty.dflt aC)).2.2.2.2.2.1, ((aZ.getD (0 + i_1.toNat) (Ty.dflt aC)).2.2.2.2.2.2.1, ((aZ.getD (0 + i_1.toNat) (Ty.dflt aC)).2.2.2.2.2.2.2.1, ((aZ.getD (0 + i_1.toNat) (Ty.dflt aC)).2.2.2.2.2.2.2.2.1, ((aZ.getD (0 + i_1.toNat) (Ty.dflt aC)).2.2.2.2.2.2.2.2.2.1, ((aZ.getD (0 + i_1.toNat) (Ty.dflt aC)).2.2.2.2.2.2.2.2.2.2.1, ((aZ.getD (0 + i_1.toNat) (Ty.dflt aC)).2.2.2.2.2.2.2.2.2.2.2.1, ())))))))))))), jU)) fun y16 =>
    chk ((inB i_1 (aZ.length) && decide (0 + (aZ.length) <= aZ.length))) (
     chk (decide (0 + i_1.toNat < aZ.length)) (
      let r17 : List ZBk := aZ.set (0 + i_1.toNat) y16.1
      let v18 : Int := IntKind.wrap .i64 (nW + 1)
      ob (lY n (i_1, y16.2.2, dR, dZ, jQ, tO, y16.2.1, jV, v18, nX, r17, gG, eT, dM, iD, ())) fun y19 =>
      ob (jK n (i_1, y19.1, y19.2.1, y19.2.2.1, y19.2.2.2.1, y19.2.2.2.2.1, y19.2.2.2.2.2.1, y19.2.2.2.2.2.2.1, y19.2.2.2.2.2.2.2.1, y19.2.2.2.2.2.2.2.2.1, y19.2.2.2.2.2.2.2.2.2.1, y19.2.2.2.2.2.2.2.2.2.2.1, y19.2.2.2.2.2.2.2.2.2.2.2.1, y19.2.2.2.2.2.2.2.2.2.2.2.2.1, ())) fun y20 =>
      br y20.1 (
       ob (nY n (i_1, y16.1.2.2.2.1, y20.2.1, y20.2.2.1, y20.2.2.2.1, y20.2.2.2.2.1, y20.2.2.2.2.2.1, y20.2.2.2.2.2.2.1, y20.2.2.2.2.2.2.2.1, y20.2.2.2.2.2.2.2.2.1, y20.2.2.2.2.2.2.2.2.2.1, y20.2.2.2.2.2.2.2.2.2.2.1, y20.2.2.2.2.2.2.2.2.2.2.2.1, y20.2.2.2.2.2.2.2.2.2.2.2.2.1, y20.2.2.2.2.2.2.2.2.2.2.2.2.2.1, ())) fun y21 =>
       some (y21.1, y21.2.1, y21.2.2.1, y21.2.2.2.1, y21.2.2.2.2.1, y21.2.2.2.2.2.1, y21.2.2.2.2.2.2.1, y21.2.2.2.2.2.2.2.1, y21.2.2.2.2.2.2.2.2.1, y21.2.2.2.2.2.2.2.2.2.1, y21.2.2.2.2.2.2.2.2.2.2.1, y21.2.2.2.2.2.2.2.2.2.2.2.1, y21.2.2.2.2.2.2.2.2.2.2.2.2.1, ())) (
       some (y20.2.1, y20.2.2.1, y20.2.2.2.1, y20.2.2.2.2.1, y20.2.2.2.2.2.1, y20.2.2.2.2.2.2.1, y20.2.2.2.2.2.2.2.1, y20.2.2.2.2.2.2.2.2.1, y20.2.2.2.2.2.2.2.2.2.1, y20.2.2.2.2.2.2.2.2.2.2.1, y20.2.2.2.2.2.2.2.2.2.2.2.1, y20.2.2.2.2.2.2.2.2.2.2.2.2.1, y20.2.2.2.2.2.2.2.2.2.2.2.2.2.1, ())))))))
def pV (n : Nat) (x : Int × Zf0) : Option (List UInt8 × Bool × Bool × Bool × Zf0) :=
 let i_1 := x.1
 let dR := x.2.1
 let dZ := x.2.2.1
 let jQ := x.2.2.2.1
 let tO := x.2.2.2.2.1
 let jU := x.2.2.2.2.2.1
 let jV := x.2.2.2.2.2.2.1
 let nW := x.2.2.2.2.2.2.2.1
 let zx1 := x.2.2.2.2.2.2
 let nX := zx1.2.2.1
 let aZ := zx1.2.2.2.1
 let gG := zx1.2.2.2.2.1
 let eT := zx1.2.2.2.2.2.1
 let dM := zx1.2.2.2.2.2.2.1
 let zx2 := zx1.2.2.2.2.2.2
 let iD := zx2.2.1
 chk (inB i_1 dR.length) (
  let v15 : (Bool × List (List oD × Bool × Unit) × List kD × Unit) × Bool × List (List UInt8) × Bool × Unit := bV (Ty.dflt aM) dR i_1
  br ((v15.2.2.1.length : Int) == 0) (
   chk ((inB i_1 (dM.length) && decide (0 + (dM.length) <= dM.length))) (
    chk (decide (0 + i_1.toNat < dM.length)) (
     ob (qQ n ((dM.getD (0 + i_1.toNat) (Ty.dflt aY)).1, ((dM.getD (0 + i_1.toNat) (Ty.dflt aY)).2.1, ((dM.getD (0 + i_1.toNat) (Ty.dflt aY)).2.2.1, ())))) fun y16 =>
     chk ((inB i_1 (dM.length) && decide (0 + (dM.length) <= dM.length))) (
      chk (decide (0 + i_1.toNat < dM.length)) (
       let r17 : List ZLk := dM.set (0 + i_1.toNat) y16.1
       some (y16.2.1.1, y16.2.1.2.1, y16.2.2.1, y16.2.2.2, dR, dZ, jQ, tO, jU, jV, nW, nX, aZ, gG, eT, r17, iD, ())))))) (
   chk ((inB i_1 (eT.length) && decide (0 + (eT.length) <= eT.length))) (
    chk (decide (0 + i_1.toNat < eT.length)) (
     let v18 : List ZLn := eT.getD (0 + i_1.toNat) (Ty.dflt (.slice aH))
     br ((v18.length : Int) == 0) (
      some ([], false, false, false, dR, dZ, jQ, tO, jU, jV, nW, nX, aZ, gG, eT, dM, iD, ())) (
      chk ((decide (0 <= (1 : Int)) && decide ((1 : Int) <= (v18.length : Int)))) (
       chk ((inB i_1 (eT.length) && decide (0 + (eT.length) <= eT.length))) (
        chk (decide (0 + i_1.toNat < eT.length)) (
         let r19 : List (List ZLn) := eT.set (0 + i_1.toNat) (v18.drop (1 : Int).toNat)
         chk (inB 0 v18.length) (
          let v20 : List UInt8 × Bool × Unit := bV (Ty.dflt aH) v18 0
          some (v20.1, v20.2.1, ((v18.length : Int) == 1), true, dR, dZ, jQ, tO, jU, jV, nW, nX, aZ, gG, r19, dM, iD, ()))))))))))
def Ms (n : Nat) (x : (Zf4) × (List UInt8 × Bool × Unit) × Bool) : Option (Zf4) :=
 let b_0 := x.1
 let l_1 := x.2.1
 let zQe := x.2.2
 br (b_0.1 == 0) (
  let v1 : Int := IntKind.wrap .i64 (b_0.2.2.1 + 1)
  some (1, (0, (v1, (b_0.2.2.2.1, (b_0.2.2.2.2.1, (l_1.1, (b_0.2.2.2.2.2.2.1, (l_1.2.1, (zQe, b_0.2.2.2.2.2.2.2.2.2)))))))))) (
  br (b_0.1 == 2) (
   let v2 : Int := IntKind.wrap .i64 (b_0.2.1 + 1)
   let v3 : Int := IntKind.wrap .i64 (b_0.2.2.1 + 1)
   some (1, (v2, (v3, (b_0.2.2.2.1, (b_0.2.2.2.2.1, (l_1.1, (b_0.2.2.2.2.2.2.1, (l_1.2.1, (zQe, b_0.2.2.2.2.2.2.2.2.2)))))))))) (
   br (b_0.1 == 3) (
    let v4 : Int := IntKind.wrap .i64 (b_0.2.1 + 1)
    chk (decide (b_0.2.2.2.2.2.1.length + ([10] : List UInt8).length <= jR)) (
     chk (decide ((b_0.2.2.2.2.2.1 ++ [10]).length + l_1.1.length <= jR)) (
      let v5 : List UInt8 := (b_0.2.2.2.2.2.1 ++ [10]) ++ l_1.1
      let v6 : Int := IntKind.wrap .i64 (b_0.2.2.1 + 1)
      some (1, (v4, (v6, (b_0.2.2.2.1, (b_0.2.2.2.2.1, (v5, (b_0.2.2.2.2.2.2.1, (l_1.2.1, (zQe, b_0.2.2.2.2.2.2.2.2.2)))))))))))) (
    some b_0)))
def iE (n : Nat) (x : Zf1) : Option (Zf1) :=
 let m_0 := x
 ob (iR n m_0) fun y1 =>
 br (y1 == (-1)) (
  some m_0) (
  ob (nM n (m_0.1, m_0.2.1, m_0.2.2.1, m_0.2.2.2.1, m_0.2.2.2.2.1, m_0.2.2.2.2.2.1, m_0.2.2.2.2.2.2.1, m_0.2.2.2.2.2.2.2.1, m_0.2.2.2.2.2.2.2.2.1, m_0.2.2.2.2.2.2.2.2.2.1, m_0.2.2.2.2.2.2.2.2.2.2.1, m_0.2.2.2.2.2.2.2.2.2.2.2.1, m_0.2.2.2.2.2.2.2.2.2.2.2.2.1, ())) fun y2 =>
  let v3 : Int := IntKind.wrap .i64 (y2.2.2.2.2.2.1 + 1)
  chk ((inB y1 (y2.2.2.2.2.2.2.2.2.2.1.length) && decide (0 + (y2.2.2.2.2.2.2.2.2.2.1.length) <= y2.2.2.2.2.2.2.2.2.2.1.length))) (
   chk (decide (0 + y1.toNat < y2.2.2.2.2.2.2.2.2.2.1.length)) (
    br (!(y2.2.2.2.2.2.2.2.2.2.1.getD (0 + y1.toNat) (Ty.dflt .bool))) (
     ob (oU n (y1, y2.1, y2.2.1, y2.2.2.1, y2.2.2.2.1, y2.2.2.2.2.1, v3, y2.2.2.2.2.2.2.1, y2.2.2.2.2.2.2.2.1, y2.2.2.2.2.2.2.2.2.1, y2.2.2.2.2.2.2.2.2.2.1, y2.2.2.2.2.2.2.2.2.2.2.1, y2.2.2.2.2.2.2.2.2.2.2.2.1, y2.2.2.2.2.2.2.2.2.2.2.2.2.1, ())) fun y4 =>
     some (y4.1, (y4.2.1, (y4.2.2.1, (y4.2.2.2.2.2.2.2.2.1, (y4.2.2.2.2.2.2.2.2.2.1, (y4.2.2.2.2.2.2.2.2.2.2.1, (y4.2.2.2.2.2.2.2.2.2.2.2.1, (y4.2.2.2.1, (y4.2.2.2.2.1, (y4.2.2.2.2.2.2.2.2.2.2.2.2.1, (y4.2.2.2.2.2.1, (y4.2.2.2.2.2.2.1, (y4.2.2.2.2.2.2.2.1, ())))))))))))))) (
     chk ((inB y1 (y2.2.2.2.2.2.2.2.2.1.length) && decide (0 + (y2.2.2.2.2.2.2.2.2.1.length) <= y2.2.2.2.2.2.2.2.2.1.length))) (
      chk (decide (0 + y1.toNat < y2.2.2.2.2.2.2.2.2.1.length)) (
       let v5 : Int := (y2.2.2.2.2.2.2.2.2.1.getD (0 + y1.toNat) (Ty.dflt aC)).1
       br (v5 == 1) (
        ob (iM n (y1, y2.1, y2.2.1, y2.2.2.1, y2.2.2.2.1, y2.2.2.2.2.1, v3, y2.2.2.2.2.2.2.1, y2.2.2.2.2.2.2.2.1, y2.2.2.2.2.2.2.2.2.1, y2.2.2.2.2.2.2.2.2.2.1, y2.2.2.2.2.2.2.2.2.2.2.1, y2.2.2.2.2.2.2.2.2.2.2.2.1, y2.2.2.2.2.2.2.2.2.2.2.2.2.1, ())) fun y6 =>
        some (y6.1, (y6.2.1, (y6.2.2.1, (y6.2.2.2.2.2.2.2.2.1, (y6.2.2.2.2.2.2.2.2.2.1, (y6.2.2.2.2.2.2.2.2.2.2.1, (y6.2.2.2.2.2.2.2.2.2.2.2.1, (y6.2.2.2.1, (y6.2.2.2.2.1, (y6.2.2.2.2.2.2.2.2.2.2.2.2.1, (y6.2.2.2.2.2.1, (y6.2.2.2.2.2.2.1, (y6.2.2.2.2.2.2.2.1, ())))))))))))))) (
        ob (pV n (y1, y2.1, y2.2.1, y2.2.2.1, y2.2.2.2.1, y2.2.2.2.2.1, v3, y2.2.2.2.2.2.2.1, y2.2.2.2.2.2.2.2.1, y2.2.2.2.2.2.2.2.2.1, y2.2.2.2.2.2.2.2.2.2.1, y2.2.2.2.2.2.2.2.2.2.2.1, y2.2.2.2.2.2.2.2.2.2.2.2.1, y2.2.2.2.2.2.2.2.2.2.2.2.2.1, ())) fun y7 =>
        br y7.2.2.2.1 (
         chk ((inB y1 (y7.2.2.2.2.2.2.2.2.2.2.2.2.1.length) && decide (0 + (y7.2.2.2.2.2.2.2.2.2.2.2.2.1.length) <= y7.2.2.2.2.2.2.2.2.2.2.2.2.1.length))) (
          chk (decide (0 + y1.toNat < y7.2.2.2.2.2.2.2.2.2.2.2.2.1.length)) (
           ob (Ms n (((y7.2.2.2.2.2.2.2.2.2.2.2.2.1.getD (0 + y1.toNat) (Ty.dflt aC)).1, ((y7.2.2.2.2.2.2.2.2.2.2.2.2.1.getD (0 + y1.toNat) (Ty.dflt aC)).2.1, ((y7.2.2.2.2.2.2.2.2.2.2.2.2.1.getD (0 + y1.toNat) (Ty.dflt aC)).2.2.1, ((y7.2.2.2.2.2.2.2.2.2.2.2.2.1.getD (0 + y1.toNat) (Ty.dflt aC)).2.2.2.1, ((y7.2.2.2.2.2.2.2.2.2.2.2.2.1.getD (0 + y1.toNat) (Ty.dflt aC)).2.2.2.2.1, ((y7.2.2.2.2.2.2.2.2.2.2.2.2.1.getD (0 + y1.toNat) (Ty.dflt aC)).2.2.2.2.2.1, ((y7.2.2.2.2.2.2.2.2.2.2.2.2.1.getD (0 + y1.toNat) (Ty.dflt aC)).2.2.2.2.2.2.1, ((y7.2.2.2.2.2.2.2.2.2.2.2.2.1.getD (0 + y1.toNat) (Ty.dflt aC)).2.2.2.2.2.2.2.1, ((y7.2.2.2.2.2.2.2.2.2.2.2.2.1.getD (0 + y1.toNat) (Ty.dflt aC)).2.2.2.2.2.2.2.2.1, ((y7.2.2.2.2.2.2.2.2.2.2.2.2.1.getD (0 + y1.toNat) (Ty.dflt aC)).2.2.2.2.2.2.2.2.2.1, ((y7.2.2.2.2.2.2.2.2.2.2.2.2.1.getD (0 + y1.toNat) (Ty.dflt aC)).2.2.2.2.2.2.2.2.2.2.1, ((y7.2.2.2.2.2.2.2.2.2.2.2.2.1.getD (0 + y1.toNat) (Ty.dflt aC)).2.2.2.2.2.2.2.2.2.2.2.1, ())))))))))))), (y7.1, (y7.2.1, ())), y7.2.2.1)) fun y8 =>
           chk ((inB y1 (y7.2.2.2.2.2.2.2.2.2.2.2.2.1.length) && decide (0 + (y7.2.2.2.2.2.2.2.2.2.2.2.2.1.length) <= y7.2.2.2.2.2.2.2.2.2.2.2.2.1.length))) (
            chk (decide (0 + y1.toNat < y7.2.2.2.2.2.2.2.2.2.2.2.2.1.length)) (
             let r9 : List ZBk := y7.2.2.2.2.2.2.2.2.2.2.2.2.1.set (0 + y1.toNat) y8
             some (y7.2.2.2.2.1, (y7.2.2.2.2.2.1, (y7.2.2.2.2.2.2.1, (r9, (y7.2.2.2.2.2.2.2.2.2.2.2.2.2.1, (y7.2.2.2.2.2.2.2.2.2.2.2.2.2.2.1, (y7.2.2.2.2.2.2.2.2.2.2.2.2.2.2.2.1, (y7.2.2.2.2.2.2.2.1, (y7.2.2.2.2.2.2.2.2.1, (y7.2.2.2.2.2.2.2.2.2.2.2.2.2.2.2.2.1, (y7.2.2.2.2.2.2.2.2.2.1, (y7.2.2.2.2.2.2.2.2.2.2.1, (y7.2.2.2.2.2.2.2.2.2.2.2.1, ())))))))))))))))))) (
         ob (nN n (y1, 0, y7.2.2.2.2.1, y7.2.2.2.2.2.1, y7.2.2.2.2.2.2.1, y7.2.2.2.2.2.2.2.1, y7.2.2.2.2.2.2.2.2.1, y7.2.2.2.2.2.2.2.2.2.1, y7.2.2.2.2.2.2.2.2.2.2.1, y7.2.2.2.2.2.2.2.2.2.2.2.1, y7.2.2.2.2.2.2.2.2.2.2.2.2.1, y7.2.2.2.2.2.2.2.2.2.2.2.2.2.1, y7.2.2.2.2.2.2.2.2.2.2.2.2.2.2.1, y7.2.2.2.2.2.2.2.2.2.2.2.2.2.2.2.1, y7.2.2.2.2.2.2.2.2.2.2.2.2.2.2.2.2.1, ())) fun y10 =>
         some (y10.1, (y10.2.1, (y10.2.2.1, (y10.2.2.2.2.2.2.2.2.1, (y10.2.2.2.2.2.2.2.2.2.1, (y10.2.2.2.2.2.2.2.2.2.2.1, (y10.2.2.2.2.2.2.2.2.2.2.2.1, (y10.2.2.2.1, (y10.2.2.2.2.1, (y10.2.2.2.2.2.2.2.2.2.2.2.2.1, (y10.2.2.2.2.2.1, (y10.2.2.2.2.2.2.1, (y10.2.2.2.2.2.2.2.1, ())))))))))))))))))))))
def fV (n : Nat) (g0 : Int × Int × List eX × List (Bool) × Bool × List ZBk × List (Bool) × List (List ZLn) × List ZLk × List ZLn × List ZFl × List (Int) × Int × Int × Int × List eX × List (Bool) × Bool × List (Bool) × List (List ZLn) × List ZLk × List ZFl × List (Int) × Int × Int × Int × List ZBk × List ZLn × Unit -> Option ((Zf1) × Int)) (x1 : Int × Int × List eX × List (Bool) × Bool × List ZBk × List (Bool) × List (List ZLn) × List ZLk × List ZLn × List ZFl × List (Int) × Int × Int × Int × List eX × List (Bool) × Bool × List (Bool) × List (List ZLn) × List ZLk × List ZFl × List (Int) × Int × Int × Int × List ZBk × List ZLn × Unit) : Option ((Zf1) × Int) :=
 let yDa := x1.1
 let n_3 := x1.2.1
 let Pw := x1.2.2.1
 let Ed := x1.2.2.2.1
 let zFp := x1.2.2.2.2.1
 let Xf := x1.2.2.2.2.2.1
 let Xg := x1.2.2.2.2.2.2.1
 let zQa := x1.2.2.2.2.2.2.2.1
 let zIb := x1.2.2.2.2.2.2
 let Px := zIb.2.2.1
 let zFq := zIb.2.2.2.1
 let Py := zIb.2.2.2.2.1
 let Ka := zIb.2.2.2.2.2.1
 let Pz := zIb.2.2.2.2.2.2.1
 let zCq := zIb.2.2.2.2.2.2
 let Xh := zCq.2.1
 let Xi := zCq.2.2.1
 let yHy := zCq.2.2.2.1
 let zZm := zCq.2.2.2.2.1
 let yPr := zCq.2.2.2.2.2.1
 let yMi := zCq.2.2.2.2.2.2.1
 let zCr := zCq.2.2.2.2.2.2
 let ySm := zCr.2.1
 let yMj := zCr.2.2.1
 let yMk := zCr.2.2.2.1
 let yHz := zCr.2.2.2.2.1
 let yMl := zCr.2.2.2.2.2.1
 let yPs := zCr.2.2.2.2.2.2.1
 let yIa := zCr.2.2.2.2.2.2
 let yPt := yIa.2.1
 let ySn := yIa.2.2.1
 let ySo := yIa.2.2.2.1
 ob (iR n (Pw, (Ed, (zFp, (Xf, (Xg, (zQa, (Px, (zFq, (Py, (Ka, (Pz, (Xh, (Xi, ())))))))))))))) fun y30 =>
 br (y30 != (-1)) (
  br (decide (n_3 ≥ yDa)) (
   some (([], ([], (false, ([], ([], ([], ([], ([], ([], ([], (0, (0, (0, ()))))))))))))), 4)) (
   ob (iE n (Pw, (Ed, (zFp, (Xf, (Xg, (zQa, (Px, (zFq, (Py, (Ka, (Pz, (Xh, (Xi, ())))))))))))))) fun y31 =>
   let v32 : Int := IntKind.wrap .i64 (n_3 + 1)
   g0 (yDa, v32, y31.1, y31.2.1, y31.2.2.1, y31.2.2.2.1, y31.2.2.2.2.1, y31.2.2.2.2.2.1, y31.2.2.2.2.2.2.1, y31.2.2.2.2.2.2.2.1, y31.2.2.2.2.2.2.2.2.1, y31.2.2.2.2.2.2.2.2.2.1, y31.2.2.2.2.2.2.2.2.2.2.1, y31.2.2.2.2.2.2.2.2.2.2.2.1, y31.2.2.2.2.2.2.2.2.2.2.2.2.1, yHy, zZm, yPr, yMi, ySm, yMj, yMk, yHz, yMl, yPs, yPt, ySn, ySo, ()))) (
  some ((Pw, (Ed, (zFp, (Xf, (Xg, (zQa, (Px, (zFq, (Py, (Ka, (Pz, (Xh, (Xi, ()))))))))))))), 0))
def Bz (n : Nat) (x : (Zf1) × Int) : Option ((Zf1) × Int) :=
 let m_0 := x.1
 let yPu := x.2
 fix (fV n) n (yPu, 0, m_0.1, m_0.2.1, m_0.2.2.1, m_0.2.2.2.1, m_0.2.2.2.2.1, m_0.2.2.2.2.2.1, m_0.2.2.2.2.2.2.1, m_0.2.2.2.2.2.2.2.1, m_0.2.2.2.2.2.2.2.2.1, m_0.2.2.2.2.2.2.2.2.2.1, m_0.2.2.2.2.2.2.2.2.2.2.1, m_0.2.2.2.2.2.2.2.2.2.2.2.1, m_0.2.2.2.2.2.2.2.2.2.2.2.2.1, [], [], false, [], [], [], [], [], 0, 0, 0, [], [], ())
def dI (n : Nat) (x : List UInt8 × List (Int) × Unit) : Option (Int × Bool × List (Int) × Unit) :=
 let s_1 := x.1
 let yIb := x.2.1
 ob (lT n (yIb, ())) fun y3 =>
 chk (Nat.ble ((y3.1.length + s_1.length) * 1) room) (
  some ((s_1.length : Int), false, y3.1 ++ bD s_1, ()))
def nO (n : Nat) (g0 : List UInt8 × List ZLn × Int × Int × List (Int) × Unit -> Option (List UInt8)) (x1 : List UInt8 × List ZLn × Int × Int × List (Int) × Unit) : Option (List UInt8) :=
 let yJx := x1.1
 let Xk := x1.2.1
 let Tp := x1.2.2.1
 let zQf := x1.2.2.2.1
 let yPv := x1.2.2.2.2.1
 br (decide (zQf < Tp)) (
  chk (inB zQf Xk.length) (
   let v7 : List UInt8 × Bool × Unit := bV (Ty.dflt aH) Xk zQf
   chk (decide (yJx.length + v7.1.length <= jR)) (
    ob (dI n (yJx ++ v7.1, yPv, ())) fun y8 =>
    br v7.2.1 (
     ob (dI n ([10], y8.2.2.1, ())) fun y9 =>
     let v10 : Int := IntKind.wrap .i64 (zQf + 1)
     g0 ([], Xk, Tp, v10, y9.2.2.1, ())) (
     let v11 : Int := IntKind.wrap .i64 (zQf + 1)
     g0 ([10], Xk, Tp, v11, y8.2.2.1, ()))))) (
  ob (Builder_String n (yPv, ())) fun y12 =>
  some y12.1)
def wD (n : Nat) (x : List ZLn) : Option (List UInt8) :=
 let l_0 := x
 fix (nO n) n ([], l_0, (l_0.length : Int), 0, [], ())
def Db (n : Nat) (x : List eX × Zf6) : Option (List UInt8 × List ZFl × List (Int) × Int × Int × Int × Zf6) :=
 let l_1 := x.1
 let b2 := x.2.1
 let b3 := x.2.2.1
 let b4 := x.2.2.2.1
 let b5 := x.2.2.2.2.1
 ob (Bw n (l_1, b2, b3, b4)) fun y6 =>
 br (y6.2 != 0) (
  some ([], [], [], 0, 0, y6.2, b2, b3, b4, b5, ())) (
  ob (Bz n (y6.1, b5)) fun y7 =>
  ob (wD n y7.1.2.2.2.2.2.2.2.1) fun y8 =>
  let v9 := y7.1.2.2.2.2.2.2.2.2.2.2.1
  some (y8, y7.1.2.2.2.2.2.2.2.2.1, y7.1.2.2.2.2.2.2.2.2.2.1, v9, 0, y7.2, b2, b3, b4, b5, ()))
def Xl (n : Nat) (x : List UInt8 × List ZFl × List (Int) × Int × Int × Unit) : Option (Int) :=
 let x_0 := x
 br (decide ((x_0.2.2.1.length : Int) > 0)) (
  let v1 : Int := IntKind.wrap .i64 ((x_0.2.2.1.length : Int) - 1)
  chk (inB v1 x_0.2.2.1.length) (
   let v2 : Int := bV (Ty.dflt (.int .i64)) x_0.2.2.1 v1
   some v2)) (
  some 0)
def iW (n : Nat) (x : List UInt8 × List ZFl × Zf6) : Option (List UInt8 × List ZFl × List (Int) × Int × Int × Int × Int × Zf6) :=
 let yPw := x.1
 let t_2 := x.2.1
 let b3 := x.2.2.1
 let b4 := x.2.2.2.1
 let b5 := x.2.2.2.2.1
 let b6 := x.2.2.2.2.2.1
 ob (jH n (yPw, t_2)) fun y7 =>
 br (y7.2.2 != 0) (
  some ([], [], [], 0, 0, y7.2.1, y7.2.2, b3, b4, b5, b6, ())) (
  ob (Db n (y7.1, b3, b4, b5, b6, ())) fun y8 =>
  br (y8.2.2.2.2.2.1 != 0) (
   some ([], [], [], 0, 0, 0, y8.2.2.2.2.2.1, y8.2.2.2.2.2.2.1, y8.2.2.2.2.2.2.2.1, y8.2.2.2.2.2.2.2.2.1, y8.2.2.2.2.2.2.2.2.2.1, ())) (
   ob (Xl n (y8.1, (y8.2.1, (y8.2.2.1, (y8.2.2.2.1, (y8.2.2.2.2.1, ())))))) fun y9 =>
   some (y8.1, y8.2.1, y8.2.2.1, y9, y8.2.2.2.1, 0, 0, y8.2.2.2.2.2.2.1, y8.2.2.2.2.2.2.2.1, y8.2.2.2.2.2.2.2.2.1, y8.2.2.2.2.2.2.2.2.2.1, ())))
def Mt (n : Nat) (x : List UInt8 × List UInt8 × List ZFl × Bool × Int) : Option ((List UInt8 × List ZFl × List (Int) × Int × Int × Unit) × Int × Int) :=
 let zQg := x.1
 let zCc := x.2.1
 let t_2 := x.2.2.1
 let zPv := x.2.2.2.1
 let yPx := x.2.2.2.2
 ob (iW n (zQg, t_2, zCc, t_2, zPv, yPx, ())) fun y1 =>
 some ((y1.1, (y1.2.1, (y1.2.2.1, (y1.2.2.2.1, (y1.2.2.2.2.1, ()))))), y1.2.2.2.2.2.1, y1.2.2.2.2.2.2.1)
def Ca (n : Nat) (x : List UInt8 × List UInt8) : Option (List UInt8 × Bool) :=
 let zQg := x.1
 let zCc := x.2
 ob (Mt n (zQg, zCc, [], false, 5000)) fun y1 =>
 br (y1.2.2 == 0) (
  some (y1.1.1, (y1.1.2.2.2.1 == 0))) (
  some (y1.1.1, false))
def gH (n : Nat) (x : Int × List (Int) × Unit) : Option (Bool × List (Int) × Unit) :=
 let c_1 := x.1
 let yIb := x.2.1
 ob (lT n (yIb, ())) fun y3 =>
 chk (Nat.ble ((y3.1.length + ([c_1] : List (Int)).length) * 1) room) (
  some (false, y3.1 ++ [c_1], ()))
def rX (n : Nat) (g0 : List ZLn × Int × Int × List (Int) × Unit -> Option (List UInt8)) (x1 : List ZLn × Int × Int × List (Int) × Unit) : Option (List UInt8) :=
 let zZn := x1.1
 let Xk := x1.2.1
 let Tp := x1.2.2.1
 let yPy := x1.2.2.2.1
 br (decide (Tp < Xk)) (
  chk (inB Tp zZn.length) (
   let v6 : List UInt8 × Bool × Unit := bV (Ty.dflt aH) zZn Tp
   ob (dI n (v6.1, yPy, ())) fun y7 =>
   br v6.2.1 (
    ob (gH n (10, y7.2.2.1, ())) fun y8 =>
    let v9 : Int := IntKind.wrap .i64 (Tp + 1)
    g0 (zZn, Xk, v9, y8.2.1, ())) (
    let v10 : Int := IntKind.wrap .i64 (Tp + 1)
    g0 (zZn, Xk, v10, y7.2.2.1, ())))) (
  ob (Builder_String n (yPy, ())) fun y11 =>
  some y11.1)
def Ad (n : Nat) (x : List ZLn) : Option (List UInt8) :=
 let l_0 := x
 fix (rX n) n (l_0, (l_0.length : Int), 0, [], ())
def Dc (n : Nat) (x : List UInt8 × Int) : Option (Bool) :=
 let zZo := x.1
 let n_1 := x.2
 br (decide ((zZo.length : Int) > 300)) (
  ob (showntop n ()) fun y1 =>
  some y1) (
  ob (showntop n ()) fun y2 =>
  br (!y2) (
   ob (showntop n ()) fun y3 =>
   some y3) (
   chk ((!decide (9 = 0))) (
    let v4 : Int := Int.tmod (IntKind.wrap .i64 n_1) 9
    let v5 : Int := IntKind.wrap .i64 (1 + v4)
    let v6 : Int := IntKind.wrap .u8 (48 + (IntKind.wrap .u8 v5))
    chk (decide ([115, 101, 100, 32].length + (cO [v6]).length <= jR)) (
     chk (decide (([115, 101, 100, 32] ++ (cO [v6])).length + ([113] : List UInt8).length <= jR)) (
      let v7 : List UInt8 := ([115, 101, 100, 32] ++ (cO [v6])) ++ [113]
      ob (Ca n (v7, zZo)) fun y8 =>
      chk (decide ([115, 101, 100, 32, 39].length + (cO [v6]).length <= jR)) (
       chk (decide (([115, 101, 100, 32, 39] ++ (cO [v6])).length + ([44, 36, 33, 123, 112, 59, 100, 125, 59] : List UInt8).length <= jR)) (
        let v9 : List UInt8 := ([115, 101, 100, 32, 39] ++ (cO [v6])) ++ [44, 36, 33, 123, 112, 59, 100, 125, 59]
        chk (decide (v9.length + (cO [v6]).length <= jR)) (
         chk (decide ((v9 ++ (cO [v6])).length + ([33, 100, 39] : List UInt8).length <= jR)) (
          let v10 : List UInt8 := (v9 ++ (cO [v6])) ++ [33, 100, 39]
          ob (Ca n (v10, zZo)) fun y11 =>
          ob (kL n zZo) fun y12 =>
          br y8.2 (
           br y11.2 (
            br (y8.1 == y11.1) (
             let v13 : Int := if (y12.length : Int) < v5 then (y12.length : Int) else v5
             chk ((decide (0 <= v13) && decide (v13 <= (y12.length : Int)))) (
              ob (Ad n (y12.take v13.toNat)) fun y14 =>
              some (y8.1 == y14))) (
             some false)) (
            some false)) (
           some false))))))))))
end
end Go.Dec
