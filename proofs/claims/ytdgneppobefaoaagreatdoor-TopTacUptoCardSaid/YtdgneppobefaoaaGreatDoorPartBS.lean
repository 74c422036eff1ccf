/- Part of a proof over this seat: a library of my own, and what it says of this seat. No statement is proved here. -/
import Derived.Test.YtdgneppobefaoaaGreatDoorPartAJ
import Derived.Test.YtdgneppobefaoaaGreatDoorPartBP
import Derived.Test.YtdgneppobefaoaaGreatDoorPartBQ
namespace Go.Dec
noncomputable section
set_option linter.unusedVariables false
def xL (n : Nat) (x : Bool × List (List dB × Bool × Unit) × List bV × Bool × List (List UInt8) × Bool × Bool × List (List dB × Bool × Unit) × List bV × Bool × List (List UInt8) × Bool × Unit) : Option (Bool × Bool × List (List dB × Bool × Unit) × List bV × Bool × List (List UInt8) × Bool × Unit) :=
 let a_1 := x.1
 let a_2 := x.2.1
 let a_3 := x.2.2.1
 let a_4 := x.2.2.2.1
 let a_5 := x.2.2.2.2.1
 let a_6 := x.2.2.2.2.2.1
 let zYv := x.2.2.2.2.2.2.1
 let yEe := x.2.2.2.2.2.2.2.1
 let yEf := x.2.2.2.2.2.2.2.2.1
 let zRe := x.2.2.2.2.2.2.2.2.2.1
 let zRf := x.2.2.2.2.2.2.2.2.2.2.1
 let yEg := x.2.2.2.2.2.2.2.2.2.2.2.1
 ob (xB n (((a_1, (a_2, (a_3, ()))), (a_4, (a_5, (a_6, ())))), ((zYv, (yEe, (yEf, ()))), (zRe, (zRf, (yEg, ())))))) fun y13 =>
 some (y13, zYv, yEe, yEf, zRe, zRf, yEg, ())
def mJ (n : Nat) (g0 : List aW × Int × Int × Bool × List (List dB × Bool × Unit) × List bV × Bool × List (List UInt8) × Bool × Unit -> Option (Int × Bool × List (List dB × Bool × Unit) × List bV × Bool × List (List UInt8) × Bool × Unit)) (x8 : List aW × Int × Int × Bool × List (List dB × Bool × Unit) × List bV × Bool × List (List UInt8) × Bool × Unit) : Option (Int × Bool × List (List dB × Bool × Unit) × List bV × Bool × List (List UInt8) × Bool × Unit) :=
 let s_9 := x8.1
 let yEh := x8.2.1
 let zCi := x8.2.2.1
 let Vu := x8.2.2.2.1
 let zCd := x8.2.2.2.2.1
 let zCe := x8.2.2.2.2.2.1
 let Vq := x8.2.2.2.2.2.2.1
 let zRg := x8.2.2.2.2.2.2.2.1
 let yEi := x8.2.2.2.2.2.2.2.2.1
 br (decide (zCi < yEh)) (
  chk (inB zCi s_9.length) (
   let v18 : (Bool × List (List dB × Bool × Unit) × List bV × Unit) × Bool × List (List UInt8) × Bool × Unit := bM (Ty.dflt aG) s_9 zCi
   ob (xL n (v18.1.1, v18.1.2.1, v18.1.2.2.1, v18.2.1, v18.2.2.1, v18.2.2.2.1, Vu, zCd, zCe, Vq, zRg, yEi, ())) fun y19 =>
   br y19.1 (
    some (zCi, y19.2.1, y19.2.2.1, y19.2.2.2.1, y19.2.2.2.2.1, y19.2.2.2.2.2.1, y19.2.2.2.2.2.2.1, ())) (
    let v20 : Int := IntKind.wrap .i64 (zCi + 1)
    g0 (s_9, yEh, v20, y19.2.1, y19.2.2.1, y19.2.2.2.1, y19.2.2.2.2.1, y19.2.2.2.2.2.1, y19.2.2.2.2.2.2.1, ())))) (
  some ((-1), Vu, zCd, zCe, Vq, zRg, yEi, ()))
def eG (n : Nat) (x : List aW × Bool × List (List dB × Bool × Unit) × List bV × Bool × List (List UInt8) × Bool × Unit) : Option (Int × Bool × List (List dB × Bool × Unit) × List bV × Bool × List (List UInt8) × Bool × Unit) :=
 let s_1 := x.1
 let zNf := x.2.1
 let zVs := x.2.2.1
 let zVt := x.2.2.2.1
 let zNg := x.2.2.2.2.1
 let zNh := x.2.2.2.2.2.1
 let yCq := x.2.2.2.2.2.2.1
 fix (mJ n) n (s_1, (s_1.length : Int), 0, zNf, zVs, zVt, zNg, zNh, yCq, ())
def dS (n : Nat) (x : List aW × Bool × List (List dB × Bool × Unit) × List bV × Bool × List (List UInt8) × Bool × Unit) : Option (Bool × Bool × List (List dB × Bool × Unit) × List bV × Bool × List (List UInt8) × Bool × Unit) :=
 let s_1 := x.1
 let zNf := x.2.1
 let zVs := x.2.2.1
 let zVt := x.2.2.2.1
 let zNg := x.2.2.2.2.1
 let zNh := x.2.2.2.2.2.1
 let yCq := x.2.2.2.2.2.2.1
 ob (eG n (s_1, zNf, zVs, zVt, zNg, zNh, yCq, ())) fun y8 =>
 some ((decide (y8.1 ≥ 0)), y8.2.1, y8.2.2.1, y8.2.2.2.1, y8.2.2.2.2.1, y8.2.2.2.2.2.1, y8.2.2.2.2.2.2.1, ())
def Qy (n : Nat) (g0 : List aW × List aW × Int × Int × List (Bool) × Unit -> Option (List (Bool))) (x2 : List aW × List aW × Int × Int × List (Bool) × Unit) : Option (List (Bool)) :=
 let l_3 := x2.1
 let yCr := x2.2.1
 let yEj := x2.2.2.1
 let zR := x2.2.2.2.1
 let zEr := x2.2.2.2.2.1
 br (decide (zR < yEj)) (
  chk (inB zR yCr.length) (
   let v8 : (Bool × List (List dB × Bool × Unit) × List bV × Unit) × Bool × List (List UInt8) × Bool × Unit := bM (Ty.dflt aG) yCr zR
   chk ((decide (0 <= zR) && decide (zR <= (l_3.length : Int)))) (
    ob (dS n (l_3.take zR.toNat, v8.1.1, v8.1.2.1, v8.1.2.2.1, v8.2.1, v8.2.2.1, v8.2.2.2.1, ())) fun y9 =>
    chk ((inB zR (zEr.length) && decide (0 + (zEr.length) <= zEr.length))) (
     chk (decide (0 + zR.toNat < zEr.length)) (
      let r10 : List (Bool) := zEr.set (0 + zR.toNat) y9.1
      let v11 : Int := IntKind.wrap .i64 (zR + 1)
      g0 (l_3, yCr, yEj, v11, r10, ())))))) (
  some zEr)
def Br (n : Nat) (x : List aW) : Option (List (Bool)) :=
 let l_0 := x
 chk ((decide (0 <= (l_0.length : Int)) && (decide ((l_0.length : Int) = (l_0.length : Int)) && Nat.ble ((l_0.length : Int).toNat * 1) room))) (
  let r1 : List (Bool) := List.replicate (l_0.length : Int).toNat false
  fix (Qy n) n (l_0, l_0, (l_0.length : Int), 0, r1, ()))
def Zh (n : Nat) (x : Bool × List (List dB × Bool × Unit) × List bV × Unit) : Option (Int × Int × Int × Int × Int × List UInt8 × List UInt8 × Bool × Bool × Bool × List (Bool × Int × Unit) × List ZLn × Unit) :=
 let x_0 := x
 chk ((decide (0 <= (x_0.2.2.1.length : Int)) && (decide ((x_0.2.2.1.length : Int) = (x_0.2.2.1.length : Int)) && Nat.ble ((x_0.2.2.1.length : Int).toNat * 16) room))) (
  let r1 : List (Bool × Int × Unit) := List.replicate (x_0.2.2.1.length : Int).toNat (false, (0, ()))
  some (0, (0, (0, (0, ((-1), ([], ([], (false, (false, (false, (r1, ([], ())))))))))))))
def zEs (n : Nat) (g1 : List ZLn × Int × Int × List aW × List (Bool) × Bool × List (Bool) × List (List ZLn) × List ZLk × List ZFl × List (Int) × Int × Int × Int × List aW × List (Bool) × Bool × List (Bool) × List (List ZLn) × List ZFl × List (Int) × Int × Int × Int × List ZBk × List ZLn × List ZBk × List ZLk × List ZLn × Unit -> Option ((List aW × List (Bool) × Bool × List ZBk × List (Bool) × List (List ZLn) × List ZLk × List ZLn × List ZFl × List (Int) × Int × Int × Int × Unit) × Int)) (x43 : List ZLn × Int × Int × List aW × List (Bool) × Bool × List (Bool) × List (List ZLn) × List ZLk × List ZFl × List (Int) × Int × Int × Int × List aW × List (Bool) × Bool × List (Bool) × List (List ZLn) × List ZFl × List (Int) × Int × Int × Int × List ZBk × List ZLn × List ZBk × List ZLk × List ZLn × Unit) : Option ((List aW × List (Bool) × Bool × List ZBk × List (Bool) × List (List ZLn) × List ZLk × List ZLn × List ZFl × List (Int) × Int × Int × Int × Unit) × Int) :=
 let zNi := x43.1
 let zYw := x43.2.1
 let zCj := x43.2.2.1
 let yCs := x43.2.2.2.1
 let zVu := x43.2.2.2.2.1
 let yJw := x43.2.2.2.2.2.1
 let yGk := x43.2.2.2.2.2.2.1
 let yLp := x43.2.2.2.2.2.2.2.1
 let yGl := x43.2.2.2.2.2.2.2.2.1
 let yGm := x43.2.2.2.2.2.2.2.2.2.1
 let yCt := x43.2.2.2.2.2.2.2.2.2.2.1
 let yGn := x43.2.2.2.2.2.2.2.2.2.2.2.1
 let yJx := x43.2.2.2.2.2.2.2.2.2.2.2.2.1
 let yJy := x43.2.2.2.2.2.2.2.2.2.2.2.2.2.1
 let zNj := x43.2.2.2.2.2.2.2.2.2.2.2.2.2.2.1
 let zCk := x43.2.2.2.2.2.2.2.2.2.2.2.2.2.2.2.1
 let zYx := x43.2.2.2.2.2.2.2.2.2.2.2.2.2.2.2.2.1
 let zRh := x43.2.2.2.2.2.2.2.2.2.2.2.2.2.2.2.2.2.1
 let yEk := x43.2.2.2.2.2.2.2.2.2.2.2.2.2.2.2.2.2.2.1
 let zRi := x43.2.2.2.2.2.2.2.2.2.2.2.2.2.2.2.2.2.2.2.1
 let zNk := x43.2.2.2.2.2.2.2.2.2.2.2.2.2.2.2.2.2.2.2.2.1
 let Vv := x43.2.2.2.2.2.2.2.2.2.2.2.2.2.2.2.2.2.2.2.2.2.1
 let zCl := x43.2.2.2.2.2.2.2.2.2.2.2.2.2.2.2.2.2.2.2.2.2.2.1
 let zCm := x43.2.2.2.2.2.2.2.2.2.2.2.2.2.2.2.2.2.2.2.2.2.2.2.1
 let zVv := x43.2.2.2.2.2.2.2.2.2.2.2.2.2.2.2.2.2.2.2.2.2.2.2.2.1
 let zVw := x43.2.2.2.2.2.2.2.2.2.2.2.2.2.2.2.2.2.2.2.2.2.2.2.2.2.1
 let zJf := x43.2.2.2.2.2.2.2.2.2.2.2.2.2.2.2.2.2.2.2.2.2.2.2.2.2.2.1
 let Iu := x43.2.2.2.2.2.2.2.2.2.2.2.2.2.2.2.2.2.2.2.2.2.2.2.2.2.2.2.1
 let zCn := x43.2.2.2.2.2.2.2.2.2.2.2.2.2.2.2.2.2.2.2.2.2.2.2.2.2.2.2.2.1
 br (decide (zCj < zYw)) (
  chk (inB zCj zNi.length) (
   let v73 : List UInt8 × Bool × Unit := bM (Ty.dflt aD) zNi zCj
   chk (Nat.ble ((zCn.length + ([v73] : List ZLn).length) * 24) room) (
    let v74 : Int := IntKind.wrap .i64 (zCj + 1)
    g1 (zNi, zYw, v74, yCs, zVu, yJw, yGk, yLp, yGl, yGm, yCt, yGn, yJx, yJy, zNj, zCk, zYx, zRh, yEk, zRi, zNk, Vv, zCl, zCm, zVv, zVw, zJf, Iu, zCn ++ [v73], ())))) (
  some ((zNj, (zCk, (zYx, (zJf, (zRh, (yEk, (Iu, (zCn, (zRi, (zNk, (Vv, (zCl, (zCm, ()))))))))))))), 0))
def zEt (n : Nat) (g0 : List aW × List UInt8 × List aW × Int × Int × List aW × List (Bool) × Bool × List (Bool) × List (List ZLn) × List ZLk × List ZFl × List (Int) × Int × Int × Int × List aW × List (Bool) × Bool × List (Bool) × List (List ZLn) × List ZFl × List (Int) × Int × Int × Int × List ZBk × List ZLn × List ZBk × List ZLk × List ZLn × Unit -> Option ((List aW × List (Bool) × Bool × List ZBk × List (Bool) × List (List ZLn) × List ZLk × List ZLn × List ZFl × List (Int) × Int × Int × Int × Unit) × Int)) (x6 : List aW × List UInt8 × List aW × Int × Int × List aW × List (Bool) × Bool × List (Bool) × List (List ZLn) × List ZLk × List ZFl × List (Int) × Int × Int × Int × List aW × List (Bool) × Bool × List (Bool) × List (List ZLn) × List ZFl × List (Int) × Int × Int × Int × List ZBk × List ZLn × List ZBk × List ZLk × List ZLn × Unit) : Option ((List aW × List (Bool) × Bool × List ZBk × List (Bool) × List (List ZLn) × List ZLk × List ZLn × List ZFl × List (Int) × Int × Int × Int × Unit) × Int) :=
 let l_7 := x6.1
 let zVr := x6.2.1
 let zVx := x6.2.2.1
 let zYy := x6.2.2.2.1
 let zCo := x6.2.2.2.2.1
 let zNl := x6.2.2.2.2.2.1
 let zCp := x6.2.2.2.2.2.2.1
 let zYz := x6.2.2.2.2.2.2.2.1
 let zRj := x6.2.2.2.2.2.2.2.2.1
 let yEl := x6.2.2.2.2.2.2.2.2.2.1
 let zRk := x6.2.2.2.2.2.2.2.2.2.2.1
 let zRl := x6.2.2.2.2.2.2.2.2.2.2.2.1
 let zNm := x6.2.2.2.2.2.2.2.2.2.2.2.2.1
 let zRm := x6.2.2.2.2.2.2.2.2.2.2.2.2.2.1
 let zZa := x6.2.2.2.2.2.2.2.2.2.2.2.2.2.2.1
 let zZb := x6.2.2.2.2.2.2.2.2.2.2.2.2.2.2.2.1
 let Zi := x6.2.2.2.2.2.2.2.2.2.2.2.2.2.2.2.2.1
 let Pv := x6.2.2.2.2.2.2.2.2.2.2.2.2.2.2.2.2.2.1
 let zNn := x6.2.2.2.2.2.2.2.2.2.2.2.2.2.2.2.2.2.2.1
 let zEu := x6.2.2.2.2.2.2.2.2.2.2.2.2.2.2.2.2.2.2.2.1
 let zVy := x6.2.2.2.2.2.2.2.2.2.2.2.2.2.2.2.2.2.2.2.2.1
 let zEv := x6.2.2.2.2.2.2.2.2.2.2.2.2.2.2.2.2.2.2.2.2.2.1
 let Zj := x6.2.2.2.2.2.2.2.2.2.2.2.2.2.2.2.2.2.2.2.2.2.2.1
 let zEw := x6.2.2.2.2.2.2.2.2.2.2.2.2.2.2.2.2.2.2.2.2.2.2.2.1
 let zNo := x6.2.2.2.2.2.2.2.2.2.2.2.2.2.2.2.2.2.2.2.2.2.2.2.2.1
 let zNp := x6.2.2.2.2.2.2.2.2.2.2.2.2.2.2.2.2.2.2.2.2.2.2.2.2.2.1
 let kQ := x6.2.2.2.2.2.2.2.2.2.2.2.2.2.2.2.2.2.2.2.2.2.2.2.2.2.2.1
 let mY := x6.2.2.2.2.2.2.2.2.2.2.2.2.2.2.2.2.2.2.2.2.2.2.2.2.2.2.2.1
 let zJg := x6.2.2.2.2.2.2.2.2.2.2.2.2.2.2.2.2.2.2.2.2.2.2.2.2.2.2.2.2.1
 let Pw := x6.2.2.2.2.2.2.2.2.2.2.2.2.2.2.2.2.2.2.2.2.2.2.2.2.2.2.2.2.2.1
 let zVz := x6.2.2.2.2.2.2.2.2.2.2.2.2.2.2.2.2.2.2.2.2.2.2.2.2.2.2.2.2.2.2.1
 br (decide (zCo < zYy)) (
  chk (inB zCo zVx.length) (
   let v38 : (Bool × List (List dB × Bool × Unit) × List bV × Unit) × Bool × List (List UInt8) × Bool × Unit := bM (Ty.dflt aG) zVx zCo
   ob (Zh n v38.1) fun y39 =>
   chk (Nat.ble ((zJg.length + ([y39] : List ZBk).length) * 128) room) (
    let v40 : Int := IntKind.wrap .i64 (zCo + 1)
    g0 (l_7, zVr, zVx, zYy, v40, zNl, zCp, zYz, zRj, yEl, zRk, zRl, zNm, zRm, zZa, zZb, Zi, Pv, zNn, zEu, zVy, zEv, Zj, zEw, zNo, zNp, kQ, mY, zJg ++ [y39], Pw, zVz, ())))) (
  br (decide ((l_7.length : Int) > 0)) (
   chk ((inB 0 (Pw.length) && decide (0 + (Pw.length) <= Pw.length))) (
    chk (decide (0 + (0 : Int).toNat < Pw.length)) (
     let r41 : List ZLk := Pw.set (0 + (0 : Int).toNat) (zVr, (false, (true, ())))
     some ((Zi, (Pv, (zNn, (zJg, (zEu, (zVy, (r41, (zVz, (zEv, (Zj, (zEw, (zNo, (zNp, ()))))))))))))), 0)))) (
   ob (jF n zVr) fun y42 =>
   fix (zEs n) n (y42, (y42.length : Int), 0, zNl, zCp, zYz, zRj, yEl, zRk, zRl, zNm, zRm, zZa, zZb, Zi, Pv, zNn, zEu, zVy, zEv, Zj, zEw, zNo, zNp, kQ, mY, zJg, Pw, zVz, ())))
def Gg (n : Nat) (x : List aW × List UInt8 × List ZFl × Bool) : Option ((List aW × List (Bool) × Bool × List ZBk × List (Bool) × List (List ZLn) × List ZLk × List ZLn × List ZFl × List (Int) × Int × Int × Int × Unit) × Int) :=
 let l_0 := x.1
 let zEo := x.2.1
 let t_2 := x.2.2.1
 let zNq := x.2.2.2
 br (decide ((l_0.length : Int) > 8)) (
  some (([], ([], (false, ([], ([], ([], ([], ([], ([], ([], (0, (0, (0, ()))))))))))))), 2)) (
  ob (Br n l_0) fun y1 =>
  chk ((decide (0 <= (l_0.length : Int)) && (decide ((l_0.length : Int) = (l_0.length : Int)) && Nat.ble ((l_0.length : Int).toNat * 1) room))) (
   let v2 : List (Bool) := List.replicate (l_0.length : Int).toNat false
   chk ((decide (0 <= (l_0.length : Int)) && (decide ((l_0.length : Int) = (l_0.length : Int)) && Nat.ble ((l_0.length : Int).toNat * 24) room))) (
    let v3 : List (List ZLn) := List.replicate (l_0.length : Int).toNat []
    chk ((decide (0 <= (l_0.length : Int)) && (decide ((l_0.length : Int) = (l_0.length : Int)) && Nat.ble ((l_0.length : Int).toNat * 24) room))) (
     let r4 : List ZLk := List.replicate (l_0.length : Int).toNat ([], (false, (false, ())))
     chk ((decide (0 <= (l_0.length : Int)) && (decide ((l_0.length : Int) = (l_0.length : Int)) && Nat.ble ((l_0.length : Int).toNat * 8) room))) (
      let v5 : List (Int) := List.replicate (l_0.length : Int).toNat 0
      fix (zEt n) n (l_0, zEo, l_0, (l_0.length : Int), 0, [], [], false, [], [], [], [], [], 0, 0, 0, l_0, y1, zNq, v2, v3, t_2, v5, 0, 0, 0, [], [], [], r4, [], ()))))))
def tF (n : Nat) (x : Int × List aW × List (Bool) × Bool × List ZBk × List (Bool) × List (List ZLn) × List ZLk × List ZLn × List ZFl × List (Int) × Int × Int × Int × Unit) : Option (Bool × List aW × List (Bool) × Bool × List ZBk × List (Bool) × List (List ZLn) × List ZLk × List ZLn × List ZFl × List (Int) × Int × Int × Int × Unit) :=
 let i_1 := x.1
 let bY := x.2.1
 let dD := x.2.2.1
 let iM := x.2.2.2.1
 let Tz := x.2.2.2.2.1
 let zNr := x.2.2.2.2.2.1
 let yCu := x.2.2.2.2.2.2.1
 let zNs := x.2.2.2.2.2.2.2.1
 let yCv := x.2.2.2.2.2.2.2.2.1
 let zEx := x.2.2.2.2.2.2.2.2.2.1
 let Zk := x.2.2.2.2.2.2.2.2.2.2.1
 let zEy := x.2.2.2.2.2.2.2.2.2.2.2.1
 let zNt := x.2.2.2.2.2.2.2.2.2.2.2.2.1
 let zNu := x.2.2.2.2.2.2.2.2.2.2.2.2.2.1
 chk (inB i_1 Tz.length) (
  let v15 : Int × Int × Int × Int × Int × List UInt8 × List UInt8 × Bool × Bool × Bool × List (Bool × Int × Unit) × List ZLn × Unit := bM (Ty.dflt aA) Tz i_1
  some ((v15.1 == 4), bY, dD, iM, Tz, zNr, yCu, zNs, yCv, zEx, Zk, zEy, zNt, zNu, ()))
def nV (n : Nat) (x : List UInt8 × Bool × Bool × Unit) : Option ((List UInt8 × Bool × Bool × Unit) × (List UInt8 × Bool × Unit) × Bool × Bool) :=
 let k_0 := x
 ob (strings_Cut n (k_0.1, [10])) fun y1 =>
 br (y1.2.1 == []) (
  br (!k_0.2.2.1) (
   some (k_0, ([], (false, ())), false, false)) (
   br (k_0.1 == []) (
    some (k_0, ([], (false, ())), false, false)) (
    some ((y1.2.1, k_0.2), (y1.1, (y1.2.2, ())), (y1.2.1 == []), true)))) (
  br (k_0.1 == []) (
   some (k_0, ([], (false, ())), false, false)) (
   some ((y1.2.1, k_0.2), (y1.1, (y1.2.2, ())), (y1.2.1 == []), true)))
def sN (n : Nat) (x : List UInt8 × Bool × Bool × Unit) : Option ((List UInt8 × Bool × Unit) × Bool × Bool) :=
 let k_0 := x
 ob (nV n k_0) fun y1 =>
 some (y1.2.1, y1.2.2.1, y1.2.2.2)
def Dw (n : Nat) (x : List UInt8 × Bool × Bool × Unit) : Option (Bool) :=
 let k_0 := x
 br k_0.2.2.1 (
  some (k_0.1 == [])) (
  some false)
def oW (n : Nat) (x : Int × List aW × List (Bool) × Bool × List ZBk × List (Bool) × List (List ZLn) × List ZLk × List ZLn × List ZFl × List (Int) × Int × Int × Int × Unit) : Option (Bool × List aW × List (Bool) × Bool × List ZBk × List (Bool) × List (List ZLn) × List ZLk × List ZLn × List ZFl × List (Int) × Int × Int × Int × Unit) :=
 let i_1 := x.1
 let bY := x.2.1
 let dD := x.2.2.1
 let iM := x.2.2.2.1
 let Tz := x.2.2.2.2.1
 let zNr := x.2.2.2.2.2.1
 let yCu := x.2.2.2.2.2.2.1
 let zNs := x.2.2.2.2.2.2.2.1
 let yCv := x.2.2.2.2.2.2.2.2.1
 let zEx := x.2.2.2.2.2.2.2.2.2.1
 let Zk := x.2.2.2.2.2.2.2.2.2.2.1
 let zEy := x.2.2.2.2.2.2.2.2.2.2.2.1
 let zNt := x.2.2.2.2.2.2.2.2.2.2.2.2.1
 let zNu := x.2.2.2.2.2.2.2.2.2.2.2.2.2.1
 chk (inB i_1 bY.length) (
  let v15 : (Bool × List (List dB × Bool × Unit) × List bV × Unit) × Bool × List (List UInt8) × Bool × Unit := bM (Ty.dflt aG) bY i_1
  ob (tF n (i_1, bY, dD, iM, Tz, zNr, yCu, zNs, yCv, zEx, Zk, zEy, zNt, zNu, ())) fun y16 =>
  br y16.1 (
   some (false, y16.2.1, y16.2.2.1, y16.2.2.2.1, y16.2.2.2.2.1, y16.2.2.2.2.2.1, y16.2.2.2.2.2.2.1, y16.2.2.2.2.2.2.2.1, y16.2.2.2.2.2.2.2.2.1, y16.2.2.2.2.2.2.2.2.2.1, y16.2.2.2.2.2.2.2.2.2.2.1, y16.2.2.2.2.2.2.2.2.2.2.2.1, y16.2.2.2.2.2.2.2.2.2.2.2.2.1, y16.2.2.2.2.2.2.2.2.2.2.2.2.2.1, ())) (
   chk (inB i_1 y16.2.2.2.2.2.1.length) (
    let v17 : Bool := bM (Ty.dflt .bool) y16.2.2.2.2.2.1 i_1
    br (!v17) (
     br v15.2.2.2.1 (
      some (true, y16.2.1, y16.2.2.1, y16.2.2.2.1, y16.2.2.2.2.1, y16.2.2.2.2.2.1, y16.2.2.2.2.2.2.1, y16.2.2.2.2.2.2.2.1, y16.2.2.2.2.2.2.2.2.1, y16.2.2.2.2.2.2.2.2.2.1, y16.2.2.2.2.2.2.2.2.2.2.1, y16.2.2.2.2.2.2.2.2.2.2.2.1, y16.2.2.2.2.2.2.2.2.2.2.2.2.1, y16.2.2.2.2.2.2.2.2.2.2.2.2.2.1, ())) (
      chk (inB i_1 y16.2.2.1.length) (
       let v18 : Bool := bM (Ty.dflt .bool) y16.2.2.1 i_1
       br (!v18) (
        some (true, y16.2.1, y16.2.2.1, y16.2.2.2.1, y16.2.2.2.2.1, y16.2.2.2.2.2.1, y16.2.2.2.2.2.2.1, y16.2.2.2.2.2.2.2.1, y16.2.2.2.2.2.2.2.2.1, y16.2.2.2.2.2.2.2.2.2.1, y16.2.2.2.2.2.2.2.2.2.2.1, y16.2.2.2.2.2.2.2.2.2.2.2.1, y16.2.2.2.2.2.2.2.2.2.2.2.2.1, y16.2.2.2.2.2.2.2.2.2.2.2.2.2.1, ())) (
        none)))) (
     chk (inB i_1 y16.2.2.2.2.1.length) (
      let v19 : Int × Int × Int × Int × Int × List UInt8 × List UInt8 × Bool × Bool × Bool × List (Bool × Int × Unit) × List ZLn × Unit := bM (Ty.dflt aA) y16.2.2.2.2.1 i_1
      br (v19.1 == 1) (
       some (true, y16.2.1, y16.2.2.1, y16.2.2.2.1, y16.2.2.2.2.1, y16.2.2.2.2.2.1, y16.2.2.2.2.2.2.1, y16.2.2.2.2.2.2.2.1, y16.2.2.2.2.2.2.2.2.1, y16.2.2.2.2.2.2.2.2.2.1, y16.2.2.2.2.2.2.2.2.2.2.1, y16.2.2.2.2.2.2.2.2.2.2.2.1, y16.2.2.2.2.2.2.2.2.2.2.2.2.1, y16.2.2.2.2.2.2.2.2.2.2.2.2.2.1, ())) (
       br (decide ((v15.2.2.1.length : Int) > 0)) (
        some (true, y16.2.1, y16.2.2.1, y16.2.2.2.1, y16.2.2.2.2.1, y16.2.2.2.2.2.1, y16.2.2.2.2.2.2.1, y16.2.2.2.2.2.2.2.1, y16.2.2.2.2.2.2.2.2.1, y16.2.2.2.2.2.2.2.2.2.1, y16.2.2.2.2.2.2.2.2.2.2.1, y16.2.2.2.2.2.2.2.2.2.2.2.1, y16.2.2.2.2.2.2.2.2.2.2.2.2.1, y16.2.2.2.2.2.2.2.2.2.2.2.2.2.1, ())) (
        chk (inB i_1 y16.2.2.2.2.2.2.2.1.length) (
         let v20 : List UInt8 × Bool × Bool × Unit := bM (Ty.dflt aQ) y16.2.2.2.2.2.2.2.1 i_1
         ob (sN n v20) fun y21 =>
         br y21.2.2 (
          some (true, y16.2.1, y16.2.2.1, y16.2.2.2.1, y16.2.2.2.2.1, y16.2.2.2.2.2.1, y16.2.2.2.2.2.2.1, y16.2.2.2.2.2.2.2.1, y16.2.2.2.2.2.2.2.2.1, y16.2.2.2.2.2.2.2.2.2.1, y16.2.2.2.2.2.2.2.2.2.2.1, y16.2.2.2.2.2.2.2.2.2.2.2.1, y16.2.2.2.2.2.2.2.2.2.2.2.2.1, y16.2.2.2.2.2.2.2.2.2.2.2.2.2.1, ())) (
          chk (inB i_1 y16.2.2.2.2.2.2.2.1.length) (
           let v22 : List UInt8 × Bool × Bool × Unit := bM (Ty.dflt aQ) y16.2.2.2.2.2.2.2.1 i_1
           ob (Dw n v22) fun y23 =>
           some (y23, y16.2.1, y16.2.2.1, y16.2.2.2.1, y16.2.2.2.2.1, y16.2.2.2.2.2.1, y16.2.2.2.2.2.2.1, y16.2.2.2.2.2.2.2.1, y16.2.2.2.2.2.2.2.2.1, y16.2.2.2.2.2.2.2.2.2.1, y16.2.2.2.2.2.2.2.2.2.2.1, y16.2.2.2.2.2.2.2.2.2.2.2.1, y16.2.2.2.2.2.2.2.2.2.2.2.2.1, y16.2.2.2.2.2.2.2.2.2.2.2.2.2.1, ())))))))))))
def Iw (n : Nat) (g0 : Int × List aW × List (Bool) × Bool × List ZBk × List (Bool) × List (List ZLn) × List ZLk × List ZLn × List ZFl × List (Int) × Int × Int × Int × Unit -> Option (Int)) (x2 : Int × List aW × List (Bool) × Bool × List ZBk × List (Bool) × List (List ZLn) × List ZLk × List ZLn × List ZFl × List (Int) × Int × Int × Int × Unit) : Option (Int) :=
 let i_3 := x2.1
 let Ma := x2.2.1
 let Ao := x2.2.2.1
 let zCq := x2.2.2.2.1
 let Ua := x2.2.2.2.2.1
 let Ub := x2.2.2.2.2.2.1
 let zNv := x2.2.2.2.2.2.2.1
 let Mc := x2.2.2.2.2.2.2.2.1
 let zCr := x2.2.2.2.2.2.2.2.2.1
 let Me := x2.2.2.2.2.2.2.2.2.2.1
 let Gh := x2.2.2.2.2.2.2.2.2.2.2.1
 let Mf := x2.2.2.2.2.2.2.2.2.2.2.2.1
 let Uc := x2.2.2.2.2.2.2.2.2.2.2.2.2.1
 let Ud := x2.2.2.2.2.2.2.2.2.2.2.2.2.2.1
 br (decide (i_3 ≥ 0)) (
  ob (oW n (i_3, Ma, Ao, zCq, Ua, Ub, zNv, Mc, zCr, Me, Gh, Mf, Uc, Ud, ())) fun y17 =>
  br y17.1 (
   some i_3) (
   let v18 : Int := IntKind.wrap .i64 (i_3 - 1)
   g0 (v18, y17.2.1, y17.2.2.1, y17.2.2.2.1, y17.2.2.2.2.1, y17.2.2.2.2.2.1, y17.2.2.2.2.2.2.1, y17.2.2.2.2.2.2.2.1, y17.2.2.2.2.2.2.2.2.1, y17.2.2.2.2.2.2.2.2.2.1, y17.2.2.2.2.2.2.2.2.2.2.1, y17.2.2.2.2.2.2.2.2.2.2.2.1, y17.2.2.2.2.2.2.2.2.2.2.2.2.1, y17.2.2.2.2.2.2.2.2.2.2.2.2.2.1, ()))) (
  some (-1))
def gK (n : Nat) (x : List aW × List (Bool) × Bool × List ZBk × List (Bool) × List (List ZLn) × List ZLk × List ZLn × List ZFl × List (Int) × Int × Int × Int × Unit) : Option (Int) :=
 let m_0 := x
 let v1 : Int := IntKind.wrap .i64 ((m_0.1.length : Int) - 1)
 fix (Iw n) n (v1, m_0.1, m_0.2.1, m_0.2.2.1, m_0.2.2.2.1, m_0.2.2.2.2.1, m_0.2.2.2.2.2.1, m_0.2.2.2.2.2.2.1, m_0.2.2.2.2.2.2.2.1, m_0.2.2.2.2.2.2.2.2.1, m_0.2.2.2.2.2.2.2.2.2.1, m_0.2.2.2.2.2.2.2.2.2.2.1, m_0.2.2.2.2.2.2.2.2.2.2.2.1, m_0.2.2.2.2.2.2.2.2.2.2.2.2.1, ())
def nN (_n:Nat) (x:List ZBk × Unit):Option (List ZBk × Unit):=Ey 128 x
def tH (_n:Nat) (x:List (Bool) × Unit):Option (List (Bool) × Unit):=Ey 1 x
def lU (_n:Nat) (x:List (List ZLn) × Unit):Option (List (List ZLn) × Unit):=Ey 24 x
def nO (_n:Nat) (x:List ZLk × Unit):Option (List ZLk × Unit):=Ey 24 x
def slices_Clone_int (_n:Nat) (x:List (Int) × Unit):Option (List (Int) × Unit):=Ey 8 x
def jA (n : Nat) (x : List ZLn) : Option (List ZLn) :=
 let s_0 := x
 chk ((decide ((s_0.length : Int) = (s_0.length : Int)) && decide ((s_0.length : Int) = (s_0.length : Int)))) (
  some s_0)
def lC (n : Nat) (x : List aW × List (Bool) × Bool × List ZBk × List (Bool) × List (List ZLn) × List ZLk × List ZLn × List ZFl × List (Int) × Int × Int × Int × Unit) : Option (List aW × List (Bool) × Bool × List ZLn × List ZFl × Int × Int × Int × List ZBk × List (Bool) × List (List ZLn) × List ZLk × List (Int) × Unit) :=
 let m_1 := x.1
 let m_2 := x.2.1
 let m_3 := x.2.2.1
 let m_4 := x.2.2.2.1
 let m_5 := x.2.2.2.2.1
 let m_6 := x.2.2.2.2.2.1
 let m_7 := x.2.2.2.2.2.2.1
 let m_8 := x.2.2.2.2.2.2.2.1
 let m_9 := x.2.2.2.2.2.2.2.2.1
 let yNv := x.2.2.2.2.2.2.2.2.2.1
 let yNw := x.2.2.2.2.2.2.2.2.2.2.1
 let yNx := x.2.2.2.2.2.2.2.2.2.2.2.1
 let yNy := x.2.2.2.2.2.2.2.2.2.2.2.2.1
 ob (nN n (m_4, ())) fun y14 =>
 ob (tH n (m_5, ())) fun y15 =>
 ob (lU n (m_6, ())) fun y16 =>
 ob (nO n (m_7, ())) fun y17 =>
 ob (slices_Clone_int n (yNv, ())) fun y18 =>
 ob (jA n m_8) fun y19 =>
 some (m_1, m_2, m_3, y19, m_9, yNw, yNx, yNy, y14.1, y15.1, y16.1, y17.1, y18.1, ())
def xM (n : Nat) (x : List UInt8 × Bool × Bool × Unit) : Option (List UInt8 × Bool × Bool × Unit) :=
 let k_0 := x
 some (k_0.1, (k_0.2.1, (true, ())))
def tJ (n : Nat) (x : Int × List aW × List (Bool) × Bool × List ZLn × List ZFl × Int × Int × Int × List ZBk × List (Bool) × List (List ZLn) × List ZLk × List (Int) × Unit) : Option (List aW × List (Bool) × Bool × List ZLn × List ZFl × Int × Int × Int × List ZBk × List (Bool) × List (List ZLn) × List ZLk × List (Int) × Unit) :=
 let i_1 := x.1
 let bY := x.2.1
 let dD := x.2.2.1
 let iM := x.2.2.2.1
 let qD := x.2.2.2.2.1
 let iQ := x.2.2.2.2.2.1
 let iR := x.2.2.2.2.2.2.1
 let lK := x.2.2.2.2.2.2.2.1
 let lM := x.2.2.2.2.2.2.2.2.1
 let aT := x.2.2.2.2.2.2.2.2.2.1
 let eY := x.2.2.2.2.2.2.2.2.2.2.1
 let dL := x.2.2.2.2.2.2.2.2.2.2.2.1
 let bT := x.2.2.2.2.2.2.2.2.2.2.2.2.1
 let fV := x.2.2.2.2.2.2.2.2.2.2.2.2.2.1
 chk ((inB i_1 (aT.length) && decide (0 + (aT.length) <= aT.length))) (
  chk (decide (0 + i_1.toNat < aT.length)) (
   let r15 : List ZBk := aT.set (0 + i_1.toNat) (4, ((aT.getD (0 + i_1.toNat) (Ty.dflt aA)).2.1, ((aT.getD (0 + i_1.toNat) (Ty.dflt aA)).2.2.1, ((aT.getD (0 + i_1.toNat) (Ty.dflt aA)).2.2.2.1, ((aT.getD (0 + i_1.toNat) (Ty.dflt aA)).2.2.2.2.1, ((aT.getD (0 + i_1.toNat) (Ty.dflt aA)).2.2.2.2.2.1, ((aT.getD (0 + i_1.toNat) (Ty.dflt aA)).2.2.2.2.2.2.1, ((aT.getD (0 + i_1.toNat) (Ty.dflt aA)).2.2.2.2.2.2.2.1, ((aT.getD (0 + i_1.toNat) (Ty.dflt aA)).2.2.2.2.2.2.2.2.1, ((aT.getD (0 + i_1.toNat) (Ty.dflt aA)).2.2.2.2.2.2.2.2.2.1, ((aT.getD (0 + i_1.toNat) (Ty.dflt aA)).2.2.2.2.2.2.2.2.2.2.1, ((aT.getD (0 + i_1.toNat) (Ty.dflt aA)).2.2.2.2.2.2.2.2.2.2.2.1, ()))))))))))))
   chk ((inB i_1 (bT.length) && decide (0 + (bT.length) <= bT.length))) (
    chk (decide (0 + i_1.toNat < bT.length)) (
     let r16 : List ZLk := bT.set (0 + i_1.toNat) ([], ((bT.getD (0 + i_1.toNat) (Ty.dflt aQ)).2.1, ((bT.getD (0 + i_1.toNat) (Ty.dflt aQ)).2.2.1, ())))
     let v17 : Int := IntKind.wrap .i64 (i_1 + 1)
     let v18 : Int := ((r16.length : Nat) : Int)
     br (decide (v17 < v18)) (
      let v19 : Int := IntKind.wrap .i64 (i_1 + 1)
      let v20 : Int := IntKind.wrap .i64 (i_1 + 1)
      chk ((inB v20 (r16.length) && decide (0 + (r16.length) <= r16.length))) (
       chk (decide (0 + v20.toNat < r16.length)) (
        ob (xM n ((r16.getD (0 + v20.toNat) (Ty.dflt aQ)).1, ((r16.getD (0 + v20.toNat) (Ty.dflt aQ)).2.1, ((r16.getD (0 + v20.toNat) (Ty.dflt aQ)).2.2.1, ())))) fun y21 =>
        chk ((inB v19 (r16.length) && decide (0 + (r16.length) <= r16.length))) (
         chk (decide (0 + v19.toNat < r16.length)) (
          let r22 : List ZLk := r16.set (0 + v19.toNat) y21
          some (bY, dD, iM, qD, iQ, iR, lK, lM, r15, eY, dL, r22, fV, ())))))) (
      some (bY, dD, iM, qD, iQ, iR, lK, lM, r15, eY, dL, r16, fV, ()))))))
def lD (n : Nat) (x : Int × Int × List aW × List (Bool) × Bool × List ZLn × List ZFl × Int × Int × Int × List ZBk × List (Bool) × List (List ZLn) × List ZLk × List (Int) × Unit) : Option (List aW × List (Bool) × Bool × List ZLn × List ZFl × Int × Int × Int × List ZBk × List (Bool) × List (List ZLn) × List ZLk × List (Int) × Unit) :=
 let i_1 := x.1
 let Gi := x.2.1
 let qC := x.2.2.1
 let rG := x.2.2.2.1
 let Px := x.2.2.2.2.1
 let Ue := x.2.2.2.2.2.1
 let Gj := x.2.2.2.2.2.2.1
 let Gl := x.2.2.2.2.2.2.2.1
 let Py := x.2.2.2.2.2.2.2.2.1
 let Gm := x.2.2.2.2.2.2.2.2.2.1
 let eY := x.2.2.2.2.2.2.2.2.2.2.1
 let dL := x.2.2.2.2.2.2.2.2.2.2.2.1
 let bT := x.2.2.2.2.2.2.2.2.2.2.2.2.1
 let fV := x.2.2.2.2.2.2.2.2.2.2.2.2.2.1
 let Pz := x.2.2.2.2.2.2.2.2.2.2.2.2.2.2.1
 ob (tJ n (i_1, qC, rG, Px, Ue, Gj, Gl, Py, Gm, eY, dL, bT, fV, Pz, ())) fun y16 =>
 br (Gi != 0) (
  chk ((inB i_1 (y16.2.2.2.2.2.2.2.2.2.2.2.2.1.length) && decide (0 + (y16.2.2.2.2.2.2.2.2.2.2.2.2.1.length) <= y16.2.2.2.2.2.2.2.2.2.2.2.2.1.length))) (
   chk (decide (0 + i_1.toNat < y16.2.2.2.2.2.2.2.2.2.2.2.2.1.length)) (
    let r17 : List (Int) := y16.2.2.2.2.2.2.2.2.2.2.2.2.1.set (0 + i_1.toNat) Gi
    br (!y16.2.2.1) (
     some (y16.1, y16.2.1, y16.2.2.1, y16.2.2.2.1, y16.2.2.2.2.1, y16.2.2.2.2.2.1, y16.2.2.2.2.2.2.1, y16.2.2.2.2.2.2.2.1, y16.2.2.2.2.2.2.2.2.1, y16.2.2.2.2.2.2.2.2.2.1, y16.2.2.2.2.2.2.2.2.2.2.1, y16.2.2.2.2.2.2.2.2.2.2.2.1, r17, ())) (
     none)))) (
  br (!y16.2.2.1) (
   some (y16.1, y16.2.1, y16.2.2.1, y16.2.2.2.1, y16.2.2.2.2.1, y16.2.2.2.2.2.1, y16.2.2.2.2.2.2.1, y16.2.2.2.2.2.2.2.1, y16.2.2.2.2.2.2.2.2.1, y16.2.2.2.2.2.2.2.2.2.1, y16.2.2.2.2.2.2.2.2.2.2.1, y16.2.2.2.2.2.2.2.2.2.2.2.1, y16.2.2.2.2.2.2.2.2.2.2.2.2.1, ())) (
   none))
def mK (n : Nat) (x : Int × List aW × List (Bool) × Bool × List ZLn × List ZFl × Int × Int × Int × List ZBk × List (Bool) × List (List ZLn) × List ZLk × List (Int) × Unit) : Option (List aW × List (Bool) × Bool × List ZLn × List ZFl × Int × Int × Int × List ZBk × List (Bool) × List (List ZLn) × List ZLk × List (Int) × Unit) :=
 let i_1 := x.1
 let bY := x.2.1
 let dD := x.2.2.1
 let iM := x.2.2.2.1
 let qD := x.2.2.2.2.1
 let iQ := x.2.2.2.2.2.1
 let iR := x.2.2.2.2.2.2.1
 let lK := x.2.2.2.2.2.2.2.1
 let lM := x.2.2.2.2.2.2.2.2.1
 let aT := x.2.2.2.2.2.2.2.2.2.1
 let eY := x.2.2.2.2.2.2.2.2.2.2.1
 let dL := x.2.2.2.2.2.2.2.2.2.2.2.1
 let bT := x.2.2.2.2.2.2.2.2.2.2.2.2.1
 let fV := x.2.2.2.2.2.2.2.2.2.2.2.2.2.1
 chk (inB i_1 bY.length) (
  let v15 : (Bool × List (List dB × Bool × Unit) × List bV × Unit) × Bool × List (List UInt8) × Bool × Unit := bM (Ty.dflt aG) bY i_1
  chk ((inB i_1 (eY.length) && decide (0 + (eY.length) <= eY.length))) (
   chk (decide (0 + i_1.toNat < eY.length)) (
    let r16 : List (Bool) := eY.set (0 + i_1.toNat) true
    br v15.2.2.2.1 (
     ob (lD n (i_1, 1, bY, dD, iM, qD, iQ, iR, lK, lM, aT, r16, dL, bT, fV, ())) fun y17 =>
     some (y17.1, y17.2.1, y17.2.2.1, y17.2.2.2.1, y17.2.2.2.2.1, y17.2.2.2.2.2.1, y17.2.2.2.2.2.2.1, y17.2.2.2.2.2.2.2.1, y17.2.2.2.2.2.2.2.2.1, y17.2.2.2.2.2.2.2.2.2.1, y17.2.2.2.2.2.2.2.2.2.2.1, y17.2.2.2.2.2.2.2.2.2.2.2.1, y17.2.2.2.2.2.2.2.2.2.2.2.2.1, ())) (
     ob (nK n (v15, iQ)) fun y18 =>
     br (decide ((v15.2.2.1.length : Int) > 0)) (
      none) (
      some (bY, dD, iM, qD, y18, iR, lK, lM, aT, r16, dL, bT, fV, ()))))))
def oZ (n : Nat) (x : Int × List aW × List (Bool) × Bool × List ZLn × List ZFl × Int × Int × Int × List ZBk × List (Bool) × List (List ZLn) × List ZLk × List (Int) × Unit) : Option (Bool × List aW × List (Bool) × Bool × List ZLn × List ZFl × Int × Int × Int × List ZBk × List (Bool) × List (List ZLn) × List ZLk × List (Int) × Unit) :=
 let i_1 := x.1
 let bY := x.2.1
 let dD := x.2.2.1
 let iM := x.2.2.2.1
 let qD := x.2.2.2.2.1
 let iQ := x.2.2.2.2.2.1
 let iR := x.2.2.2.2.2.2.1
 let lK := x.2.2.2.2.2.2.2.1
 let lM := x.2.2.2.2.2.2.2.2.1
 let aT := x.2.2.2.2.2.2.2.2.2.1
 let eY := x.2.2.2.2.2.2.2.2.2.2.1
 let dL := x.2.2.2.2.2.2.2.2.2.2.2.1
 let bT := x.2.2.2.2.2.2.2.2.2.2.2.2.1
 let fV := x.2.2.2.2.2.2.2.2.2.2.2.2.2.1
 chk ((inB i_1 (aT.length) && decide (0 + (aT.length) <= aT.length))) (
  chk (decide (0 + i_1.toNat < aT.length)) (
   let v15 : Int := (aT.getD (0 + i_1.toNat) (Ty.dflt aA)).1
   some ((v15 == 4), bY, dD, iM, qD, iQ, iR, lK, lM, aT, eY, dL, bT, fV, ())))
def Gw (n : Nat) (g0 : Int × List ZLn × Int × Int × List aW × List (Bool) × Bool × List ZLn × List ZFl × Int × Int × Int × List ZBk × List (Bool) × List (List ZLn) × List ZLk × List (Int) × Unit -> Option (List aW × List (Bool) × Bool × List ZLn × List ZFl × Int × Int × Int × List ZBk × List (Bool) × List (List ZLn) × List ZLk × List (Int) × Unit)) (x55 : Int × List ZLn × Int × Int × List aW × List (Bool) × Bool × List ZLn × List ZFl × Int × Int × Int × List ZBk × List (Bool) × List (List ZLn) × List ZLk × List (Int) × Unit) : Option (List aW × List (Bool) × Bool × List ZLn × List ZFl × Int × Int × Int × List ZBk × List (Bool) × List (List ZLn) × List ZLk × List (Int) × Unit) :=
 let yEm := x55.1
 let zZc := x55.2.1
 let yJz := x55.2.2.1
 let zNw := x55.2.2.2.1
 let yCw := x55.2.2.2.2.1
 let zWa := x55.2.2.2.2.2.1
 let yKa := x55.2.2.2.2.2.2.1
 let yLq := x55.2.2.2.2.2.2.2.1
 let yGo := x55.2.2.2.2.2.2.2.2.1
 let Vv := x55.2.2.2.2.2.2.2.2.2.1
 let zCl := x55.2.2.2.2.2.2.2.2.2.2.1
 let zCm := x55.2.2.2.2.2.2.2.2.2.2.2.1
 let zVv := x55.2.2.2.2.2.2.2.2.2.2.2.2.1
 let zVw := x55.2.2.2.2.2.2.2.2.2.2.2.2.2.1
 let zJf := x55.2.2.2.2.2.2.2.2.2.2.2.2.2.2.1
 let Iu := x55.2.2.2.2.2.2.2.2.2.2.2.2.2.2.2.1
 let zCn := x55.2.2.2.2.2.2.2.2.2.2.2.2.2.2.2.2.1
 br (decide (zNw < yJz)) (
  chk (inB zNw zZc.length) (
   let v73 : List UInt8 × Bool × Unit := bM (Ty.dflt aD) zZc zNw
   chk ((inB yEm (Iu.length) && decide (0 + (Iu.length) <= Iu.length))) (
    chk (decide (0 + yEm.toNat < Iu.length)) (
     none)))) (
  some (yCw, zWa, yKa, yLq, yGo, Vv, zCl, zCm, zVv, zVw, zJf, Iu, zCn, ()))
def sQ (n : Nat) (x39 : List ZLn × Int × List aW × List (Bool) × Bool × List ZLn × List ZFl × Int × Int × Int × List ZBk × List (Bool) × List (List ZLn) × List ZLk × List (Int) × Unit) : Option (List aW × List (Bool) × Bool × List ZLn × List ZFl × Int × Int × Int × List ZBk × List (Bool) × List (List ZLn) × List ZLk × List (Int) × Unit) :=
 let yKb := x39.1
 let yLr := x39.2.1
 let yCx := x39.2.2.1
 let zWb := x39.2.2.2.1
 let yKc := x39.2.2.2.2.1
 let yLs := x39.2.2.2.2.2.1
 let yGp := x39.2.2.2.2.2.2.1
 let yGq := x39.2.2.2.2.2.2.2.1
 let yKd := x39.2.2.2.2.2.2.2.2.1
 let yKe := x39.2.2.2.2.2.2.2.2.2.1
 let yLt := x39.2.2.2.2.2.2.2.2.2.2.1
 let yLu := x39.2.2.2.2.2.2.2.2.2.2.2.1
 let yLv := x39.2.2.2.2.2.2.2.2.2.2.2.2.1
 let yLw := x39.2.2.2.2.2.2.2.2.2.2.2.2.2.1
 let yLx := x39.2.2.2.2.2.2.2.2.2.2.2.2.2.2.1
 fix (Gw n) n (yLr, yKb, (yKb.length : Int), 0, yCx, zWb, yKc, yLs, yGp, yGq, yKd, yKe, yLt, yLu, yLv, yLw, yLx, ())
def Gx (n : Nat) (x19 : List ZLn × Int × List aW × List (Bool) × Bool × List ZLn × List ZFl × Int × Int × Int × List ZBk × List (Bool) × List (List ZLn) × List ZLk × List (Int) × Unit) : Option (List aW × List (Bool) × Bool × List ZLn × List ZFl × Int × Int × Int × List ZBk × List (Bool) × List (List ZLn) × List ZLk × List (Int) × Unit) :=
 let yKf := x19.1
 let Qa := x19.2.1
 let zNx := x19.2.2.1
 let Dx := x19.2.2.2.1
 let zZd := x19.2.2.2.2.1
 let yEn := x19.2.2.2.2.2.1
 let zRn := x19.2.2.2.2.2.2.1
 let zRo := x19.2.2.2.2.2.2.2.1
 let zZe := x19.2.2.2.2.2.2.2.2.1
 let zNy := x19.2.2.2.2.2.2.2.2.2.1
 let yEo := x19.2.2.2.2.2.2.2.2.2.2.1
 let yEp := x19.2.2.2.2.2.2.2.2.2.2.2.1
 let yEq := x19.2.2.2.2.2.2.2.2.2.2.2.2.1
 let kQ := x19.2.2.2.2.2.2.2.2.2.2.2.2.2.1
 let mY := x19.2.2.2.2.2.2.2.2.2.2.2.2.2.2.1
 chk (inB Qa Dx.length) (
  let v35 : Bool := bM (Ty.dflt .bool) Dx Qa
  br (!v35) (
   chk ((inB Qa (kQ.length) && decide (0 + (kQ.length) <= kQ.length))) (
    chk (decide (0 + Qa.toNat < kQ.length)) (
     let v36 : List UInt8 := (kQ.getD (0 + Qa.toNat) (Ty.dflt aQ)).1
     ob (jF n v36) fun y37 =>
     let v38 : Int := if (y37.length : Int) > zNy then (y37.length : Int) else zNy
     jn (sQ n) (yKf, Qa, zNx, Dx, zZd, yEn, zRn, zRo, zZe, v38, yEo, yEp, yEq, kQ, mY, ())))) (
   jn (sQ n) (yKf, Qa, zNx, Dx, zZd, yEn, zRn, zRo, zZe, zNy, yEo, yEp, yEq, kQ, mY, ())))
def kE (n : Nat) (x : Int × List ZLn × List aW × List (Bool) × Bool × List ZLn × List ZFl × Int × Int × Int × List ZBk × List (Bool) × List (List ZLn) × List ZLk × List (Int) × Unit) : Option (List aW × List (Bool) × Bool × List ZLn × List ZFl × Int × Int × Int × List ZBk × List (Bool) × List (List ZLn) × List ZLk × List (Int) × Unit) :=
 let i_1 := x.1
 let l_2 := x.2.1
 let qC := x.2.2.1
 let rG := x.2.2.2.1
 let Px := x.2.2.2.2.1
 let Ue := x.2.2.2.2.2.1
 let Gj := x.2.2.2.2.2.2.1
 let Gl := x.2.2.2.2.2.2.2.1
 let Py := x.2.2.2.2.2.2.2.2.1
 let Gm := x.2.2.2.2.2.2.2.2.2.1
 let eY := x.2.2.2.2.2.2.2.2.2.2.1
 let dL := x.2.2.2.2.2.2.2.2.2.2.2.1
 let bT := x.2.2.2.2.2.2.2.2.2.2.2.2.1
 let fV := x.2.2.2.2.2.2.2.2.2.2.2.2.2.1
 let Pz := x.2.2.2.2.2.2.2.2.2.2.2.2.2.2.1
 let v16 : Int := IntKind.wrap .i64 (i_1 + 1)
 br (v16 == (qC.length : Int)) (
  chk (Nat.ble ((Ue.length + l_2.length) * 24) room) (
   some (qC, rG, Px, Ue ++ l_2, Gj, Gl, Py, Gm, eY, dL, bT, fV, Pz, ()))) (
  chk (inB v16 qC.length) (
   let v17 : (Bool × List (List dB × Bool × Unit) × List bV × Unit) × Bool × List (List UInt8) × Bool × Unit := bM (Ty.dflt aG) qC v16
   br ((l_2.length : Int) == 0) (
    some (qC, rG, Px, Ue, Gj, Gl, Py, Gm, eY, dL, bT, fV, Pz, ())) (
    ob (oZ n (v16, qC, rG, Px, Ue, Gj, Gl, Py, Gm, eY, dL, bT, fV, Pz, ())) fun y18 =>
    br y18.1 (
     some (y18.2.1, y18.2.2.1, y18.2.2.2.1, y18.2.2.2.2.1, y18.2.2.2.2.2.1, y18.2.2.2.2.2.2.1, y18.2.2.2.2.2.2.2.1, y18.2.2.2.2.2.2.2.2.1, y18.2.2.2.2.2.2.2.2.2.1, y18.2.2.2.2.2.2.2.2.2.2.1, y18.2.2.2.2.2.2.2.2.2.2.2.1, y18.2.2.2.2.2.2.2.2.2.2.2.2.1, y18.2.2.2.2.2.2.2.2.2.2.2.2.2.1, ())) (
     br v17.2.2.2.1 (
      some (y18.2.1, y18.2.2.1, y18.2.2.2.1, y18.2.2.2.2.1, y18.2.2.2.2.2.1, y18.2.2.2.2.2.2.1, y18.2.2.2.2.2.2.2.1, y18.2.2.2.2.2.2.2.2.1, y18.2.2.2.2.2.2.2.2.2.1, y18.2.2.2.2.2.2.2.2.2.2.1, y18.2.2.2.2.2.2.2.2.2.2.2.1, y18.2.2.2.2.2.2.2.2.2.2.2.2.1, y18.2.2.2.2.2.2.2.2.2.2.2.2.2.1, ())) (
      br (decide ((v17.2.2.1.length : Int) > 0)) (
       some (y18.2.1, y18.2.2.1, y18.2.2.2.1, y18.2.2.2.2.1, y18.2.2.2.2.2.1, y18.2.2.2.2.2.2.1, y18.2.2.2.2.2.2.2.1, y18.2.2.2.2.2.2.2.2.1, y18.2.2.2.2.2.2.2.2.2.1, y18.2.2.2.2.2.2.2.2.2.2.1, y18.2.2.2.2.2.2.2.2.2.2.2.1, y18.2.2.2.2.2.2.2.2.2.2.2.2.1, y18.2.2.2.2.2.2.2.2.2.2.2.2.2.1, ())) (
       jn (Gx n) (l_2, v16, y18.2.1, y18.2.2.1, y18.2.2.2.1, y18.2.2.2.2.1, y18.2.2.2.2.2.1, y18.2.2.2.2.2.2.1, y18.2.2.2.2.2.2.2.1, y18.2.2.2.2.2.2.2.2.1, y18.2.2.2.2.2.2.2.2.2.1, y18.2.2.2.2.2.2.2.2.2.2.1, y18.2.2.2.2.2.2.2.2.2.2.2.1, y18.2.2.2.2.2.2.2.2.2.2.2.2.1, y18.2.2.2.2.2.2.2.2.2.2.2.2.2.1, ())))))))
def kR (n : Nat) (x : Int × List aW × List (Bool) × Bool × List ZLn × List ZFl × Int × Int × Int × List ZBk × List (Bool) × List (List ZLn) × List ZLk × List (Int) × Unit) : Option (Bool × List aW × List (Bool) × Bool × List ZLn × List ZFl × Int × Int × Int × List ZBk × List (Bool) × List (List ZLn) × List ZLk × List (Int) × Unit) :=
 let i_1 := x.1
 let bY := x.2.1
 let dD := x.2.2.1
 let iM := x.2.2.2.1
 let qD := x.2.2.2.2.1
 let iQ := x.2.2.2.2.2.1
 let iR := x.2.2.2.2.2.2.1
 let lK := x.2.2.2.2.2.2.2.1
 let lM := x.2.2.2.2.2.2.2.2.1
 let aT := x.2.2.2.2.2.2.2.2.2.1
 let eY := x.2.2.2.2.2.2.2.2.2.2.1
 let dL := x.2.2.2.2.2.2.2.2.2.2.2.1
 let bT := x.2.2.2.2.2.2.2.2.2.2.2.2.1
 let fV := x.2.2.2.2.2.2.2.2.2.2.2.2.2.1
 chk ((inB i_1 (aT.length) && decide (0 + (aT.length) <= aT.length))) (
  chk (decide (0 + i_1.toNat < aT.length)) (
   let v15 : Int := (aT.getD (0 + i_1.toNat) (Ty.dflt aA)).1
   some ((v15 == 4), bY, dD, iM, qD, iQ, iR, lK, lM, aT, eY, dL, bT, fV, ())))
def pE (n : Nat) (x : Int × List aW × List (Bool) × Bool × List ZLn × List ZFl × Int × Int × Int × List ZBk × List (Bool) × List (List ZLn) × List ZLk × List (Int) × Unit) : Option (List aW × List (Bool) × Bool × List ZLn × List ZFl × Int × Int × Int × List ZBk × List (Bool) × List (List ZLn) × List ZLk × List (Int) × Unit) :=
 let i_1 := x.1
 let bY := x.2.1
 let dD := x.2.2.1
 let iM := x.2.2.2.1
 let qD := x.2.2.2.2.1
 let iQ := x.2.2.2.2.2.1
 let iR := x.2.2.2.2.2.2.1
 let lK := x.2.2.2.2.2.2.2.1
 let lM := x.2.2.2.2.2.2.2.2.1
 let aT := x.2.2.2.2.2.2.2.2.2.1
 let eY := x.2.2.2.2.2.2.2.2.2.2.1
 let dL := x.2.2.2.2.2.2.2.2.2.2.2.1
 let bT := x.2.2.2.2.2.2.2.2.2.2.2.2.1
 let fV := x.2.2.2.2.2.2.2.2.2.2.2.2.2.1
 chk ((inB i_1 (aT.length) && decide (0 + (aT.length) <= aT.length))) (
  chk (decide (0 + i_1.toNat < aT.length)) (
   let r15 : List ZBk := aT.set (0 + i_1.toNat) (4, ((aT.getD (0 + i_1.toNat) (Ty.dflt aA)).2.1, ((aT.getD (0 + i_1.toNat) (Ty.dflt aA)).2.2.1, ((aT.getD (0 + i_1.toNat) (Ty.dflt aA)).2.2.2.1, ((aT.getD (0 + i_1.toNat) (Ty.dflt aA)).2.2.2.2.1, ((aT.getD (0 + i_1.toNat) (Ty.dflt aA)).2.2.2.2.2.1, ((aT.getD (0 + i_1.toNat) (Ty.dflt aA)).2.2.2.2.2.2.1, ((aT.getD (0 + i_1.toNat) (Ty.dflt aA)).2.2.2.2.2.2.2.1, ((aT.getD (0 + i_1.toNat) (Ty.dflt aA)).2.2.2.2.2.2.2.2.1, ((aT.getD (0 + i_1.toNat) (Ty.dflt aA)).2.2.2.2.2.2.2.2.2.1, ((aT.getD (0 + i_1.toNat) (Ty.dflt aA)).2.2.2.2.2.2.2.2.2.2.1, ((aT.getD (0 + i_1.toNat) (Ty.dflt aA)).2.2.2.2.2.2.2.2.2.2.2.1, ()))))))))))))
   chk ((inB i_1 (bT.length) && decide (0 + (bT.length) <= bT.length))) (
    chk (decide (0 + i_1.toNat < bT.length)) (
     let r16 : List ZLk := bT.set (0 + i_1.toNat) ([], ((bT.getD (0 + i_1.toNat) (Ty.dflt aQ)).2.1, ((bT.getD (0 + i_1.toNat) (Ty.dflt aQ)).2.2.1, ())))
     let v17 : Int := IntKind.wrap .i64 (i_1 + 1)
     let v18 : Int := ((r16.length : Nat) : Int)
     br (decide (v17 < v18)) (
      let v19 : Int := IntKind.wrap .i64 (i_1 + 1)
      let v20 : Int := IntKind.wrap .i64 (i_1 + 1)
      chk ((inB v20 (r16.length) && decide (0 + (r16.length) <= r16.length))) (
       chk (decide (0 + v20.toNat < r16.length)) (
        ob (xM n ((r16.getD (0 + v20.toNat) (Ty.dflt aQ)).1, ((r16.getD (0 + v20.toNat) (Ty.dflt aQ)).2.1, ((r16.getD (0 + v20.toNat) (Ty.dflt aQ)).2.2.1, ())))) fun y21 =>
        chk ((inB v19 (r16.length) && decide (0 + (r16.length) <= r16.length))) (
         chk (decide (0 + v19.toNat < r16.length)) (
          let r22 : List ZLk := r16.set (0 + v19.toNat) y21
          some (bY, dD, iM, qD, iQ, iR, lK, lM, r15, eY, dL, r22, fV, ())))))) (
      some (bY, dD, iM, qD, iQ, iR, lK, lM, r15, eY, dL, r16, fV, ()))))))
def qE (n : Nat) (x : Int × Int × List aW × List (Bool) × Bool × List ZLn × List ZFl × Int × Int × Int × List ZBk × List (Bool) × List (List ZLn) × List ZLk × List (Int) × Unit) : Option (List aW × List (Bool) × Bool × List ZLn × List ZFl × Int × Int × Int × List ZBk × List (Bool) × List (List ZLn) × List ZLk × List (Int) × Unit) :=
 let i_1 := x.1
 let Gi := x.2.1
 let qC := x.2.2.1
 let rG := x.2.2.2.1
 let Px := x.2.2.2.2.1
 let Ue := x.2.2.2.2.2.1
 let Gj := x.2.2.2.2.2.2.1
 let Gl := x.2.2.2.2.2.2.2.1
 let Py := x.2.2.2.2.2.2.2.2.1
 let Gm := x.2.2.2.2.2.2.2.2.2.1
 let eY := x.2.2.2.2.2.2.2.2.2.2.1
 let dL := x.2.2.2.2.2.2.2.2.2.2.2.1
 let bT := x.2.2.2.2.2.2.2.2.2.2.2.2.1
 let fV := x.2.2.2.2.2.2.2.2.2.2.2.2.2.1
 let Pz := x.2.2.2.2.2.2.2.2.2.2.2.2.2.2.1
 ob (pE n (i_1, qC, rG, Px, Ue, Gj, Gl, Py, Gm, eY, dL, bT, fV, Pz, ())) fun y16 =>
 br (Gi != 0) (
  chk ((inB i_1 (y16.2.2.2.2.2.2.2.2.2.2.2.2.1.length) && decide (0 + (y16.2.2.2.2.2.2.2.2.2.2.2.2.1.length) <= y16.2.2.2.2.2.2.2.2.2.2.2.2.1.length))) (
   chk (decide (0 + i_1.toNat < y16.2.2.2.2.2.2.2.2.2.2.2.2.1.length)) (
    let r17 : List (Int) := y16.2.2.2.2.2.2.2.2.2.2.2.2.1.set (0 + i_1.toNat) Gi
    br (!y16.2.2.1) (
     some (y16.1, y16.2.1, y16.2.2.1, y16.2.2.2.1, y16.2.2.2.2.1, y16.2.2.2.2.2.1, y16.2.2.2.2.2.2.1, y16.2.2.2.2.2.2.2.1, y16.2.2.2.2.2.2.2.2.1, y16.2.2.2.2.2.2.2.2.2.1, y16.2.2.2.2.2.2.2.2.2.2.1, y16.2.2.2.2.2.2.2.2.2.2.2.1, r17, ())) (
     none)))) (
  br (!y16.2.2.1) (
   some (y16.1, y16.2.1, y16.2.2.1, y16.2.2.2.1, y16.2.2.2.2.1, y16.2.2.2.2.2.1, y16.2.2.2.2.2.2.1, y16.2.2.2.2.2.2.2.1, y16.2.2.2.2.2.2.2.2.1, y16.2.2.2.2.2.2.2.2.2.1, y16.2.2.2.2.2.2.2.2.2.2.1, y16.2.2.2.2.2.2.2.2.2.2.2.1, y16.2.2.2.2.2.2.2.2.2.2.2.2.1, ())) (
   none))
def lF (n : Nat) (x : Int × List aW × List (Bool) × Bool × List ZLn × List ZFl × Int × Int × Int × List ZBk × List (Bool) × List (List ZLn) × List ZLk × List (Int) × Unit) : Option (List aW × List (Bool) × Bool × List ZLn × List ZFl × Int × Int × Int × List ZBk × List (Bool) × List (List ZLn) × List ZLk × List (Int) × Unit) :=
 let i_1 := x.1
 let bY := x.2.1
 let dD := x.2.2.1
 let iM := x.2.2.2.1
 let qD := x.2.2.2.2.1
 let iQ := x.2.2.2.2.2.1
 let iR := x.2.2.2.2.2.2.1
 let lK := x.2.2.2.2.2.2.2.1
 let lM := x.2.2.2.2.2.2.2.2.1
 let aT := x.2.2.2.2.2.2.2.2.2.1
 let eY := x.2.2.2.2.2.2.2.2.2.2.1
 let dL := x.2.2.2.2.2.2.2.2.2.2.2.1
 let bT := x.2.2.2.2.2.2.2.2.2.2.2.2.1
 let fV := x.2.2.2.2.2.2.2.2.2.2.2.2.2.1
 chk (inB i_1 bY.length) (
  let v15 : (Bool × List (List dB × Bool × Unit) × List bV × Unit) × Bool × List (List UInt8) × Bool × Unit := bM (Ty.dflt aG) bY i_1
  chk ((inB i_1 (aT.length) && decide (0 + (aT.length) <= aT.length))) (
   chk (decide (0 + i_1.toNat < aT.length)) (
    ob (mI n (v15.1, v15.2.1, ((aT.getD (0 + i_1.toNat) (Ty.dflt aA)).1, ((aT.getD (0 + i_1.toNat) (Ty.dflt aA)).2.1, ((aT.getD (0 + i_1.toNat) (Ty.dflt aA)).2.2.1, ((aT.getD (0 + i_1.toNat) (Ty.dflt aA)).2.2.2.1, ((aT.getD (0 + i_1.toNat) (Ty.dflt aA)).2.2.2.2.1, ((aT.getD (0 + i_1.toNat) (Ty.dflt aA)).2.2.2.2.2.1, ((aT.getD (0 + i_1.toNat) (Ty.dflt aA)).2.2.2.2.2.2.1, ((aT.getD (0 + i_1.toNat) (Ty.dflt aA)).2.2.2.2.2.2.2.1, ((aT.getD (0 + i_1.toNat) (Ty.dflt aA)).2.2.2.2.2.2.2.2.1, ((aT.getD (0 + i_1.toNat) (Ty.dflt aA)).2.2.2.2.2.2.2.2.2.1, ((aT.getD (0 + i_1.toNat) (Ty.dflt aA)).2.2.2.2.2.2.2.2.2.2.1, ((aT.getD (0 + i_1.toNat) (Ty.dflt aA)).2.2.2.2.2.2.2.2.2.2.2.1, ())))))))))))), iQ)) fun y16 =>
    chk ((inB i_1 (aT.length) && decide (0 + (aT.length) <= aT.length))) (
     chk (decide (0 + i_1.toNat < aT.length)) (
      let r17 : List ZBk := aT.set (0 + i_1.toNat) y16.1
      let v18 : Int := IntKind.wrap .i64 (lK + 1)
      ob (kE n (i_1, y16.2.2, bY, dD, iM, qD, y16.2.1, iR, v18, lM, r17, eY, dL, bT, fV, ())) fun y19 =>
      ob (kR n (i_1, y19.1, y19.2.1, y19.2.2.1, y19.2.2.2.1, y19.2.2.2.2.1, y19.2.2.2.2.2.1, y19.2.2.2.2.2.2.1, y19.2.2.2.2.2.2.2.1, y19.2.2.2.2.2.2.2.2.1, y19.2.2.2.2.2.2.2.2.2.1, y19.2.2.2.2.2.2.2.2.2.2.1, y19.2.2.2.2.2.2.2.2.2.2.2.1, y19.2.2.2.2.2.2.2.2.2.2.2.2.1, ())) fun y20 =>
      br y20.1 (
       ob (qE n (i_1, y16.1.2.2.2.1, y20.2.1, y20.2.2.1, y20.2.2.2.1, y20.2.2.2.2.1, y20.2.2.2.2.2.1, y20.2.2.2.2.2.2.1, y20.2.2.2.2.2.2.2.1, y20.2.2.2.2.2.2.2.2.1, y20.2.2.2.2.2.2.2.2.2.1, y20.2.2.2.2.2.2.2.2.2.2.1, y20.2.2.2.2.2.2.2.2.2.2.2.1, y20.2.2.2.2.2.2.2.2.2.2.2.2.1, y20.2.2.2.2.2.2.2.2.2.2.2.2.2.1, ())) fun y21 =>
       some (y21.1, y21.2.1, y21.2.2.1, y21.2.2.2.1, y21.2.2.2.2.1, y21.2.2.2.2.2.1, y21.2.2.2.2.2.2.1, y21.2.2.2.2.2.2.2.1, y21.2.2.2.2.2.2.2.2.1, y21.2.2.2.2.2.2.2.2.2.1, y21.2.2.2.2.2.2.2.2.2.2.1, y21.2.2.2.2.2.2.2.2.2.2.2.1, y21.2.2.2.2.2.2.2.2.2.2.2.2.1, ())) (
       some (y20.2.1, y20.2.2.1, y20.2.2.2.1, y20.2.2.2.2.1, y20.2.2.2.2.2.1, y20.2.2.2.2.2.2.1, y20.2.2.2.2.2.2.2.1, y20.2.2.2.2.2.2.2.2.1, y20.2.2.2.2.2.2.2.2.2.1, y20.2.2.2.2.2.2.2.2.2.2.1, y20.2.2.2.2.2.2.2.2.2.2.2.1, y20.2.2.2.2.2.2.2.2.2.2.2.2.1, y20.2.2.2.2.2.2.2.2.2.2.2.2.2.1, ())))))))
def mZ (n : Nat) (x : Int × List aW × List (Bool) × Bool × List ZLn × List ZFl × Int × Int × Int × List ZBk × List (Bool) × List (List ZLn) × List ZLk × List (Int) × Unit) : Option (List UInt8 × Bool × Bool × Bool × List aW × List (Bool) × Bool × List ZLn × List ZFl × Int × Int × Int × List ZBk × List (Bool) × List (List ZLn) × List ZLk × List (Int) × Unit) :=
 let i_1 := x.1
 let bY := x.2.1
 let dD := x.2.2.1
 let iM := x.2.2.2.1
 let qD := x.2.2.2.2.1
 let iQ := x.2.2.2.2.2.1
 let iR := x.2.2.2.2.2.2.1
 let lK := x.2.2.2.2.2.2.2.1
 let lM := x.2.2.2.2.2.2.2.2.1
 let aT := x.2.2.2.2.2.2.2.2.2.1
 let eY := x.2.2.2.2.2.2.2.2.2.2.1
 let dL := x.2.2.2.2.2.2.2.2.2.2.2.1
 let bT := x.2.2.2.2.2.2.2.2.2.2.2.2.1
 let fV := x.2.2.2.2.2.2.2.2.2.2.2.2.2.1
 chk (inB i_1 bY.length) (
  let v15 : (Bool × List (List dB × Bool × Unit) × List bV × Unit) × Bool × List (List UInt8) × Bool × Unit := bM (Ty.dflt aG) bY i_1
  br ((v15.2.2.1.length : Int) == 0) (
   chk ((inB i_1 (bT.length) && decide (0 + (bT.length) <= bT.length))) (
    chk (decide (0 + i_1.toNat < bT.length)) (
     ob (nV n ((bT.getD (0 + i_1.toNat) (Ty.dflt aQ)).1, ((bT.getD (0 + i_1.toNat) (Ty.dflt aQ)).2.1, ((bT.getD (0 + i_1.toNat) (Ty.dflt aQ)).2.2.1, ())))) fun y16 =>
     chk ((inB i_1 (bT.length) && decide (0 + (bT.length) <= bT.length))) (
      chk (decide (0 + i_1.toNat < bT.length)) (
       let r17 : List ZLk := bT.set (0 + i_1.toNat) y16.1
       some (y16.2.1.1, y16.2.1.2.1, y16.2.2.1, y16.2.2.2, bY, dD, iM, qD, iQ, iR, lK, lM, aT, eY, dL, r17, fV, ())))))) (
   chk ((inB i_1 (dL.length) && decide (0 + (dL.length) <= dL.length))) (
    chk (decide (0 + i_1.toNat < dL.length)) (
     let v18 : List ZLn := dL.getD (0 + i_1.toNat) (Ty.dflt (.slice aD))
     br ((v18.length : Int) == 0) (
      some ([], false, false, false, bY, dD, iM, qD, iQ, iR, lK, lM, aT, eY, dL, bT, fV, ())) (
      chk ((decide (0 <= (1 : Int)) && decide ((1 : Int) <= (v18.length : Int)))) (
       chk ((inB i_1 (dL.length) && decide (0 + (dL.length) <= dL.length))) (
        chk (decide (0 + i_1.toNat < dL.length)) (
         let r19 : List (List ZLn) := dL.set (0 + i_1.toNat) (v18.drop (1 : Int).toNat)
         chk (inB 0 v18.length) (
          let v20 : List UInt8 × Bool × Unit := bM (Ty.dflt aD) v18 0
          some (v20.1, v20.2.1, ((v18.length : Int) == 1), true, bY, dD, iM, qD, iQ, iR, lK, lM, aT, eY, r19, bT, fV, ()))))))))))
def Iy (n : Nat) (x : (Int × Int × Int × Int × Int × List UInt8 × List UInt8 × Bool × Bool × Bool × List (Bool × Int × Unit) × List ZLn × Unit) × (List UInt8 × Bool × Unit) × Bool) : Option (Int × Int × Int × Int × Int × List UInt8 × List UInt8 × Bool × Bool × Bool × List (Bool × Int × Unit) × List ZLn × Unit) :=
 let b_0 := x.1
 let l_1 := x.2.1
 let zNz := x.2.2
 br (b_0.1 == 0) (
  let v1 : Int := IntKind.wrap .i64 (b_0.2.2.1 + 1)
  some (1, (0, (v1, (b_0.2.2.2.1, (b_0.2.2.2.2.1, (l_1.1, (b_0.2.2.2.2.2.2.1, (l_1.2.1, (zNz, b_0.2.2.2.2.2.2.2.2.2)))))))))) (
  br (b_0.1 == 2) (
   let v2 : Int := IntKind.wrap .i64 (b_0.2.1 + 1)
   let v3 : Int := IntKind.wrap .i64 (b_0.2.2.1 + 1)
   some (1, (v2, (v3, (b_0.2.2.2.1, (b_0.2.2.2.2.1, (l_1.1, (b_0.2.2.2.2.2.2.1, (l_1.2.1, (zNz, b_0.2.2.2.2.2.2.2.2.2)))))))))) (
   br (b_0.1 == 3) (
    let v4 : Int := IntKind.wrap .i64 (b_0.2.1 + 1)
    chk (decide (b_0.2.2.2.2.2.1.length + ([10] : List UInt8).length <= iN)) (
     chk (decide ((b_0.2.2.2.2.2.1 ++ [10]).length + l_1.1.length <= iN)) (
      let v5 : List UInt8 := (b_0.2.2.2.2.2.1 ++ [10]) ++ l_1.1
      let v6 : Int := IntKind.wrap .i64 (b_0.2.2.1 + 1)
      some (1, (v4, (v6, (b_0.2.2.2.1, (b_0.2.2.2.2.1, (v5, (b_0.2.2.2.2.2.2.1, (l_1.2.1, (zNz, b_0.2.2.2.2.2.2.2.2.2)))))))))))) (
    some b_0)))
def iK (n : Nat) (x : List aW × List (Bool) × Bool × List ZBk × List (Bool) × List (List ZLn) × List ZLk × List ZLn × List ZFl × List (Int) × Int × Int × Int × Unit) : Option (List aW × List (Bool) × Bool × List ZBk × List (Bool) × List (List ZLn) × List ZLk × List ZLn × List ZFl × List (Int) × Int × Int × Int × Unit) :=
 let m_0 := x
 ob (gK n m_0) fun y1 =>
 br (y1 == (-1)) (
  some m_0) (
  ob (lC n (m_0.1, m_0.2.1, m_0.2.2.1, m_0.2.2.2.1, m_0.2.2.2.2.1, m_0.2.2.2.2.2.1, m_0.2.2.2.2.2.2.1, m_0.2.2.2.2.2.2.2.1, m_0.2.2.2.2.2.2.2.2.1, m_0.2.2.2.2.2.2.2.2.2.1, m_0.2.2.2.2.2.2.2.2.2.2.1, m_0.2.2.2.2.2.2.2.2.2.2.2.1, m_0.2.2.2.2.2.2.2.2.2.2.2.2.1, ())) fun y2 =>
  let v3 : Int := IntKind.wrap .i64 (y2.2.2.2.2.2.1 + 1)
  chk ((inB y1 (y2.2.2.2.2.2.2.2.2.2.1.length) && decide (0 + (y2.2.2.2.2.2.2.2.2.2.1.length) <= y2.2.2.2.2.2.2.2.2.2.1.length))) (
   chk (decide (0 + y1.toNat < y2.2.2.2.2.2.2.2.2.2.1.length)) (
    br (!(y2.2.2.2.2.2.2.2.2.2.1.getD (0 + y1.toNat) (Ty.dflt .bool))) (
     ob (mK n (y1, y2.1, y2.2.1, y2.2.2.1, y2.2.2.2.1, y2.2.2.2.2.1, v3, y2.2.2.2.2.2.2.1, y2.2.2.2.2.2.2.2.1, y2.2.2.2.2.2.2.2.2.1, y2.2.2.2.2.2.2.2.2.2.1, y2.2.2.2.2.2.2.2.2.2.2.1, y2.2.2.2.2.2.2.2.2.2.2.2.1, y2.2.2.2.2.2.2.2.2.2.2.2.2.1, ())) fun y4 =>
     some (y4.1, (y4.2.1, (y4.2.2.1, (y4.2.2.2.2.2.2.2.2.1, (y4.2.2.2.2.2.2.2.2.2.1, (y4.2.2.2.2.2.2.2.2.2.2.1, (y4.2.2.2.2.2.2.2.2.2.2.2.1, (y4.2.2.2.1, (y4.2.2.2.2.1, (y4.2.2.2.2.2.2.2.2.2.2.2.2.1, (y4.2.2.2.2.2.1, (y4.2.2.2.2.2.2.1, (y4.2.2.2.2.2.2.2.1, ())))))))))))))) (
     chk ((inB y1 (y2.2.2.2.2.2.2.2.2.1.length) && decide (0 + (y2.2.2.2.2.2.2.2.2.1.length) <= y2.2.2.2.2.2.2.2.2.1.length))) (
      chk (decide (0 + y1.toNat < y2.2.2.2.2.2.2.2.2.1.length)) (
       let v5 : Int := (y2.2.2.2.2.2.2.2.2.1.getD (0 + y1.toNat) (Ty.dflt aA)).1
       br (v5 == 1) (
        ob (lF n (y1, y2.1, y2.2.1, y2.2.2.1, y2.2.2.2.1, y2.2.2.2.2.1, v3, y2.2.2.2.2.2.2.1, y2.2.2.2.2.2.2.2.1, y2.2.2.2.2.2.2.2.2.1, y2.2.2.2.2.2.2.2.2.2.1, y2.2.2.2.2.2.2.2.2.2.2.1, y2.2.2.2.2.2.2.2.2.2.2.2.1, y2.2.2.2.2.2.2.2.2.2.2.2.2.1, ())) fun y6 =>
        some (y6.1, (y6.2.1, (y6.2.2.1, (y6.2.2.2.2.2.2.2.2.1, (y6.2.2.2.2.2.2.2.2.2.1, (y6.2.2.2.2.2.2.2.2.2.2.1, (y6.2.2.2.2.2.2.2.2.2.2.2.1, (y6.2.2.2.1, (y6.2.2.2.2.1, (y6.2.2.2.2.2.2.2.2.2.2.2.2.1, (y6.2.2.2.2.2.1, (y6.2.2.2.2.2.2.1, (y6.2.2.2.2.2.2.2.1, ())))))))))))))) (
        ob (mZ n (y1, y2.1, y2.2.1, y2.2.2.1, y2.2.2.2.1, y2.2.2.2.2.1, v3, y2.2.2.2.2.2.2.1, y2.2.2.2.2.2.2.2.1, y2.2.2.2.2.2.2.2.2.1, y2.2.2.2.2.2.2.2.2.2.1, y2.2.2.2.2.2.2.2.2.2.2.1, y2.2.2.2.2.2.2.2.2.2.2.2.1, y2.2.2.2.2.2.2.2.2.2.2.2.2.1, ())) fun y7 =>
        br y7.2.2.2.1 (
         chk ((inB y1 (y7.2.2.2.2.2.2.2.2.2.2.2.2.1.length) && decide (0 + (y7.2.2.2.2.2.2.2.2.2.2.2.2.1.length) <= y7.2.2.2.2.2.2.2.2.2.2.2.2.1.length))) (
          chk (decide (0 + y1.toNat < y7.2.2.2.2.2.2.2.2.2.2.2.2.1.length)) (
           ob (Iy n (((y7.2.2.2.2.2.2.2.2.2.2.2.2.1.getD (0 + y1.toNat) (Ty.dflt aA)).1, ((y7.2.2.2.2.2.2.2.2.2.2.2.2.1.getD (0 + y1.toNat) (Ty.dflt aA)).2.1, ((y7.2.2.2.2.2.2.2.2.2.2.2.2.1.getD (0 + y1.toNat) (Ty.dflt aA)).2.2.1, ((y7.2.2.2.2.2.2.2.2.2.2.2.2.1.getD (0 + y1.toNat) (Ty.dflt aA)).2.2.2.1, ((y7.2.2.2.2.2.2.2.2.2.2.2.2.1.getD (0 + y1.toNat) (Ty.dflt aA)).2.2.2.2.1, ((y7.2.2.2.2.2.2.2.2.2.2.2.2.1.getD (0 + y1.toNat) (Ty.dflt aA)).2.2.2.2.2.1, ((y7.2.2.2.2.2.2.2.2.2.2.2.2.1.getD (0 + y1.toNat) (Ty.dflt aA)).2.2.2.2.2.2.1, ((y7.2.2.2.2.2.2.2.2.2.2.2.2.1.getD (0 + y1.toNat) (Ty.dflt aA)).2.2.2.2.2.2.2.1, ((y7.2.2.2.2.2.2.2.2.2.2.2.2.1.getD (0 + y1.toNat) (Ty.dflt aA)).2.2.2.2.2.2.2.2.1, ((y7.2.2.2.2.2.2.2.2.2.2.2.2.1.getD (0 + y1.toNat) (Ty.dflt aA)).2.2.2.2.2.2.2.2.2.1, ((y7.2.2.2.2.2.2.2.2.2.2.2.2.1.getD (0 + y1.toNat) (Ty.dflt aA)).2.2.2.2.2.2.2.2.2.2.1, ((y7.2.2.2.2.2.2.2.2.2.2.2.2.1.getD (0 + y1.toNat) (Ty.dflt aA)).2.2.2.2.2.2.2.2.2.2.2.1, ())))))))))))), (y7.1, (y7.2.1, ())), y7.2.2.1)) fun y8 =>
           chk ((inB y1 (y7.2.2.2.2.2.2.2.2.2.2.2.2.1.length) && decide (0 + (y7.2.2.2.2.2.2.2.2.2.2.2.2.1.length) <= y7.2.2.2.2.2.2.2.2.2.2.2.2.1.length))) (
            chk (decide (0 + y1.toNat < y7.2.2.2.2.2.2.2.2.2.2.2.2.1.length)) (
             let r9 : List ZBk := y7.2.2.2.2.2.2.2.2.2.2.2.2.1.set (0 + y1.toNat) y8
             some (y7.2.2.2.2.1, (y7.2.2.2.2.2.1, (y7.2.2.2.2.2.2.1, (r9, (y7.2.2.2.2.2.2.2.2.2.2.2.2.2.1, (y7.2.2.2.2.2.2.2.2.2.2.2.2.2.2.1, (y7.2.2.2.2.2.2.2.2.2.2.2.2.2.2.2.1, (y7.2.2.2.2.2.2.2.1, (y7.2.2.2.2.2.2.2.2.1, (y7.2.2.2.2.2.2.2.2.2.2.2.2.2.2.2.2.1, (y7.2.2.2.2.2.2.2.2.2.1, (y7.2.2.2.2.2.2.2.2.2.2.1, (y7.2.2.2.2.2.2.2.2.2.2.2.1, ())))))))))))))))))) (
         ob (lD n (y1, 0, y7.2.2.2.2.1, y7.2.2.2.2.2.1, y7.2.2.2.2.2.2.1, y7.2.2.2.2.2.2.2.1, y7.2.2.2.2.2.2.2.2.1, y7.2.2.2.2.2.2.2.2.2.1, y7.2.2.2.2.2.2.2.2.2.2.1, y7.2.2.2.2.2.2.2.2.2.2.2.1, y7.2.2.2.2.2.2.2.2.2.2.2.2.1, y7.2.2.2.2.2.2.2.2.2.2.2.2.2.1, y7.2.2.2.2.2.2.2.2.2.2.2.2.2.2.1, y7.2.2.2.2.2.2.2.2.2.2.2.2.2.2.2.1, y7.2.2.2.2.2.2.2.2.2.2.2.2.2.2.2.2.1, ())) fun y10 =>
         some (y10.1, (y10.2.1, (y10.2.2.1, (y10.2.2.2.2.2.2.2.2.1, (y10.2.2.2.2.2.2.2.2.2.1, (y10.2.2.2.2.2.2.2.2.2.2.1, (y10.2.2.2.2.2.2.2.2.2.2.2.1, (y10.2.2.2.1, (y10.2.2.2.2.1, (y10.2.2.2.2.2.2.2.2.2.2.2.2.1, (y10.2.2.2.2.2.1, (y10.2.2.2.2.2.2.1, (y10.2.2.2.2.2.2.2.1, ())))))))))))))))))))))
def gL (n : Nat) (g0 : Int × Int × List aW × List (Bool) × Bool × List ZBk × List (Bool) × List (List ZLn) × List ZLk × List ZLn × List ZFl × List (Int) × Int × Int × Int × List aW × List (Bool) × Bool × List (Bool) × List (List ZLn) × List ZLk × List ZFl × List (Int) × Int × Int × Int × List ZBk × List ZLn × Unit -> Option ((List aW × List (Bool) × Bool × List ZBk × List (Bool) × List (List ZLn) × List ZLk × List ZLn × List ZFl × List (Int) × Int × Int × Int × Unit) × Int)) (x1 : Int × Int × List aW × List (Bool) × Bool × List ZBk × List (Bool) × List (List ZLn) × List ZLk × List ZLn × List ZFl × List (Int) × Int × Int × Int × List aW × List (Bool) × Bool × List (Bool) × List (List ZLn) × List ZLk × List ZFl × List (Int) × Int × Int × Int × List ZBk × List ZLn × Unit) : Option ((List aW × List (Bool) × Bool × List ZBk × List (Bool) × List (List ZLn) × List ZLk × List ZLn × List ZFl × List (Int) × Int × Int × Int × Unit) × Int) :=
 let zZf := x1.1
 let n_3 := x1.2.1
 let Ma := x1.2.2.1
 let Ao := x1.2.2.2.1
 let zCq := x1.2.2.2.2.1
 let Ua := x1.2.2.2.2.2.1
 let Ub := x1.2.2.2.2.2.2.1
 let zNv := x1.2.2.2.2.2.2.2.1
 let Mc := x1.2.2.2.2.2.2.2.2.1
 let zCr := x1.2.2.2.2.2.2.2.2.2.1
 let Me := x1.2.2.2.2.2.2.2.2.2.2.1
 let Gh := x1.2.2.2.2.2.2.2.2.2.2.2.1
 let Mf := x1.2.2.2.2.2.2.2.2.2.2.2.2.1
 let Uc := x1.2.2.2.2.2.2.2.2.2.2.2.2.2.1
 let Ud := x1.2.2.2.2.2.2.2.2.2.2.2.2.2.2.1
 let yCy := x1.2.2.2.2.2.2.2.2.2.2.2.2.2.2.2.1
 let zWc := x1.2.2.2.2.2.2.2.2.2.2.2.2.2.2.2.2.1
 let yKg := x1.2.2.2.2.2.2.2.2.2.2.2.2.2.2.2.2.2.1
 let yGr := x1.2.2.2.2.2.2.2.2.2.2.2.2.2.2.2.2.2.2.1
 let yLy := x1.2.2.2.2.2.2.2.2.2.2.2.2.2.2.2.2.2.2.2.1
 let yGs := x1.2.2.2.2.2.2.2.2.2.2.2.2.2.2.2.2.2.2.2.2.1
 let yGt := x1.2.2.2.2.2.2.2.2.2.2.2.2.2.2.2.2.2.2.2.2.2.1
 let yCz := x1.2.2.2.2.2.2.2.2.2.2.2.2.2.2.2.2.2.2.2.2.2.2.1
 let yGu := x1.2.2.2.2.2.2.2.2.2.2.2.2.2.2.2.2.2.2.2.2.2.2.2.1
 let yKh := x1.2.2.2.2.2.2.2.2.2.2.2.2.2.2.2.2.2.2.2.2.2.2.2.2.1
 let yKi := x1.2.2.2.2.2.2.2.2.2.2.2.2.2.2.2.2.2.2.2.2.2.2.2.2.2.1
 let yLz := x1.2.2.2.2.2.2.2.2.2.2.2.2.2.2.2.2.2.2.2.2.2.2.2.2.2.2.1
 let yMa := x1.2.2.2.2.2.2.2.2.2.2.2.2.2.2.2.2.2.2.2.2.2.2.2.2.2.2.2.1
 ob (gK n (Ma, (Ao, (zCq, (Ua, (Ub, (zNv, (Mc, (zCr, (Me, (Gh, (Mf, (Uc, (Ud, ())))))))))))))) fun y30 =>
 br (y30 != (-1)) (
  br (decide (n_3 ≥ zZf)) (
   some (([], ([], (false, ([], ([], ([], ([], ([], ([], ([], (0, (0, (0, ()))))))))))))), 4)) (
   ob (iK n (Ma, (Ao, (zCq, (Ua, (Ub, (zNv, (Mc, (zCr, (Me, (Gh, (Mf, (Uc, (Ud, ())))))))))))))) fun y31 =>
   let v32 : Int := IntKind.wrap .i64 (n_3 + 1)
   g0 (zZf, v32, y31.1, y31.2.1, y31.2.2.1, y31.2.2.2.1, y31.2.2.2.2.1, y31.2.2.2.2.2.1, y31.2.2.2.2.2.2.1, y31.2.2.2.2.2.2.2.1, y31.2.2.2.2.2.2.2.2.1, y31.2.2.2.2.2.2.2.2.2.1, y31.2.2.2.2.2.2.2.2.2.2.1, y31.2.2.2.2.2.2.2.2.2.2.2.1, y31.2.2.2.2.2.2.2.2.2.2.2.2.1, yCy, zWc, yKg, yGr, yLy, yGs, yGt, yCz, yGu, yKh, yKi, yLz, yMa, ()))) (
  some ((Ma, (Ao, (zCq, (Ua, (Ub, (zNv, (Mc, (zCr, (Me, (Gh, (Mf, (Uc, (Ud, ()))))))))))))), 0))
def Gn (n : Nat) (x : (List aW × List (Bool) × Bool × List ZBk × List (Bool) × List (List ZLn) × List ZLk × List ZLn × List ZFl × List (Int) × Int × Int × Int × Unit) × Int) : Option ((List aW × List (Bool) × Bool × List ZBk × List (Bool) × List (List ZLn) × List ZLk × List ZLn × List ZFl × List (Int) × Int × Int × Int × Unit) × Int) :=
 let m_0 := x.1
 let yKj := x.2
 fix (gL n) n (yKj, 0, m_0.1, m_0.2.1, m_0.2.2.1, m_0.2.2.2.1, m_0.2.2.2.2.1, m_0.2.2.2.2.2.1, m_0.2.2.2.2.2.2.1, m_0.2.2.2.2.2.2.2.1, m_0.2.2.2.2.2.2.2.2.1, m_0.2.2.2.2.2.2.2.2.2.1, m_0.2.2.2.2.2.2.2.2.2.2.1, m_0.2.2.2.2.2.2.2.2.2.2.2.1, m_0.2.2.2.2.2.2.2.2.2.2.2.2.1, [], [], false, [], [], [], [], [], 0, 0, 0, [], [], ())
def dH (n : Nat) (x : List UInt8 × List (Int) × Unit) : Option (Int × Bool × List (Int) × Unit) :=
 let s_1 := x.1
 let yNz := x.2.1
 ob (uU n (yNz, ())) fun y3 =>
 chk (Nat.ble ((y3.1.length + s_1.length) * 1) room) (
  some ((s_1.length : Int), false, y3.1 ++ aX s_1, ()))
def lG (n : Nat) (g0 : List UInt8 × List ZLn × Int × Int × List (Int) × Unit -> Option (List UInt8)) (x1 : List UInt8 × List ZLn × Int × Int × List (Int) × Unit) : Option (List UInt8) :=
 let yEr := x1.1
 let zWd := x1.2.1
 let yDa := x1.2.2.1
 let zOa := x1.2.2.2.1
 let yKk := x1.2.2.2.2.1
 br (decide (zOa < yDa)) (
  chk (inB zOa zWd.length) (
   let v7 : List UInt8 × Bool × Unit := bM (Ty.dflt aD) zWd zOa
   chk (decide (yEr.length + v7.1.length <= iN)) (
    ob (dH n (yEr ++ v7.1, yKk, ())) fun y8 =>
    br v7.2.1 (
     ob (dH n ([10], y8.2.2.1, ())) fun y9 =>
     let v10 : Int := IntKind.wrap .i64 (zOa + 1)
     g0 ([], zWd, yDa, v10, y9.2.2.1, ())) (
     let v11 : Int := IntKind.wrap .i64 (zOa + 1)
     g0 ([10], zWd, yDa, v11, y8.2.2.1, ()))))) (
  ob (Builder_String n (yKk, ())) fun y12 =>
  some y12.1)
def pF (n : Nat) (x : List ZLn) : Option (List UInt8) :=
 let l_0 := x
 fix (lG n) n ([], l_0, (l_0.length : Int), 0, [], ())
def zS (n : Nat) (x : List aW × List UInt8 × List ZFl × Bool × Int × Unit) : Option (List UInt8 × List ZFl × List (Int) × Int × Int × Int × List UInt8 × List ZFl × Bool × Int × Unit) :=
 let l_1 := x.1
 let b2 := x.2.1
 let b3 := x.2.2.1
 let b4 := x.2.2.2.1
 let b5 := x.2.2.2.2.1
 ob (Gg n (l_1, b2, b3, b4)) fun y6 =>
 br (y6.2 != 0) (
  some ([], [], [], 0, 0, y6.2, b2, b3, b4, b5, ())) (
  ob (Gn n (y6.1, b5)) fun y7 =>
  ob (pF n y7.1.2.2.2.2.2.2.2.1) fun y8 =>
  let v9 := y7.1.2.2.2.2.2.2.2.2.2.2.1
  some (y8, y7.1.2.2.2.2.2.2.2.2.1, y7.1.2.2.2.2.2.2.2.2.2.1, v9, 0, y7.2, b2, b3, b4, b5, ()))
def Uf (n : Nat) (x : List UInt8 × List ZFl × List (Int) × Int × Int × Unit) : Option (Int) :=
 let x_0 := x
 br (decide ((x_0.2.2.1.length : Int) > 0)) (
  let v1 : Int := IntKind.wrap .i64 ((x_0.2.2.1.length : Int) - 1)
  chk (inB v1 x_0.2.2.1.length) (
   let v2 : Int := bM (Ty.dflt (.int .i64)) x_0.2.2.1 v1
   some v2)) (
  some 0)
def gQ (n : Nat) (x : List UInt8 × List ZFl × List UInt8 × List ZFl × Bool × Int × Unit) : Option (List UInt8 × List ZFl × List (Int) × Int × Int × Int × Int × List UInt8 × List ZFl × Bool × Int × Unit) :=
 let yKl := x.1
 let t_2 := x.2.1
 let b3 := x.2.2.1
 let b4 := x.2.2.2.1
 let b5 := x.2.2.2.2.1
 let b6 := x.2.2.2.2.2.1
 ob (nJ n (yKl, t_2)) fun y7 =>
 br (y7.2.2 != 0) (
  some ([], [], [], 0, 0, y7.2.1, y7.2.2, b3, b4, b5, b6, ())) (
  ob (zS n (y7.1, b3, b4, b5, b6, ())) fun y8 =>
  br (y8.2.2.2.2.2.1 != 0) (
   some ([], [], [], 0, 0, 0, y8.2.2.2.2.2.1, y8.2.2.2.2.2.2.1, y8.2.2.2.2.2.2.2.1, y8.2.2.2.2.2.2.2.2.1, y8.2.2.2.2.2.2.2.2.2.1, ())) (
   ob (Uf n (y8.1, (y8.2.1, (y8.2.2.1, (y8.2.2.2.1, (y8.2.2.2.2.1, ())))))) fun y9 =>
   some (y8.1, y8.2.1, y8.2.2.1, y9, y8.2.2.2.1, 0, 0, y8.2.2.2.2.2.2.1, y8.2.2.2.2.2.2.2.1, y8.2.2.2.2.2.2.2.2.1, y8.2.2.2.2.2.2.2.2.2.1, ())))
def Iz (n : Nat) (x : List UInt8 × List UInt8 × List ZFl × Bool × Int) : Option ((List UInt8 × List ZFl × List (Int) × Int × Int × Unit) × Int × Int) :=
 let zOb := x.1
 let zEo := x.2.1
 let t_2 := x.2.2.1
 let zNq := x.2.2.2.1
 let yKm := x.2.2.2.2
 ob (gQ n (zOb, t_2, zEo, t_2, zNq, yKm, ())) fun y1 =>
 some ((y1.1, (y1.2.1, (y1.2.2.1, (y1.2.2.2.1, (y1.2.2.2.2.1, ()))))), y1.2.2.2.2.2.1, y1.2.2.2.2.2.2.1)
def Gp (n : Nat) (x : List UInt8 × List UInt8) : Option (List UInt8 × Bool) :=
 let zOb := x.1
 let zEo := x.2
 ob (Iz n (zOb, zEo, [], false, 5000)) fun y1 =>
 br (y1.2.2 == 0) (
  some (y1.1.1, (y1.1.2.2.2.1 == 0))) (
  some (y1.1.1, false))
def lH (n : Nat) (g0 : List ZLn × List UInt8 × Bool × List UInt8 × Int × Unit -> Option (Bool)) (x8 : List ZLn × List UInt8 × Bool × List UInt8 × Int × Unit) : Option (Bool) :=
 let l_9 := x8.1
 let zOc := x8.2.1
 let zCs := x8.2.2.1
 let wH := x8.2.2.2.1
 let zEz := x8.2.2.2.2.1
 br (decide (zEz ≥ 0)) (
  chk (inB zEz l_9.length) (
   let v14 : List UInt8 × Bool × Unit := bM (Ty.dflt aD) l_9 zEz
   chk (decide (wH.length + v14.1.length <= iN)) (
    br (decide (zEz > 0)) (
     chk (decide ((wH ++ v14.1).length + ([10] : List UInt8).length <= iN)) (
      let v15 : List UInt8 := (wH ++ v14.1) ++ [10]
      let v16 : Int := IntKind.wrap .i64 (zEz - 1)
      g0 (l_9, zOc, zCs, v15, v16, ()))) (
     let v17 : Int := IntKind.wrap .i64 (zEz - 1)
     g0 (l_9, zOc, zCs, wH ++ v14.1, v17, ()))))) (
  br (decide ((l_9.length : Int) > 0)) (
   let v18 : Int := IntKind.wrap .i64 ((l_9.length : Int) - 1)
   chk (inB v18 l_9.length) (
    let v19 : List UInt8 × Bool × Unit := bM (Ty.dflt aD) l_9 v18
    br v19.2.1 (
     chk (decide (wH.length + ([10] : List UInt8).length <= iN)) (
      br zCs (
       some (zOc == (wH ++ [10]))) (
       some false))) (
     br zCs (
      some (zOc == wH)) (
      some false)))) (
   br zCs (
    some (zOc == wH)) (
    some false)))
def Qb (n : Nat) (x : List UInt8) : Option (Bool) :=
 let yDb := x
 ob (jF n yDb) fun y1 =>
 br (decide ((yDb.length : Int) > 120)) (
  ob (showntop n ()) fun y2 =>
  some y2) (
  br (decide ((y1.length : Int) > 25)) (
   ob (showntop n ()) fun y3 =>
   some y3) (
   ob (showntop n ()) fun y4 =>
   br (!y4) (
    ob (showntop n ()) fun y5 =>
    some y5) (
    ob (Gp n ([115, 101, 100, 32, 45, 110, 32, 39, 49, 33, 71, 59, 104, 59, 36, 112, 39], yDb)) fun y6 =>
    let v7 : Int := IntKind.wrap .i64 ((y1.length : Int) - 1)
    fix (lH n) n (y1, y6.1, y6.2, [], v7, ()))))
end
end Go.Dec
