/- Part of a proof over this seat: a library of my own, and what it says of this seat. No statement is proved here. -/
import Derived.Test.YtdgneppobefaoaaGreatDoorPartAJ
import Derived.Test.YtdgneppobefaoaaGreatDoorPartBJ
import Derived.Test.YtdgneppobefaoaaGreatDoorPartBO
namespace Go.Dec
noncomputable section
set_option linter.unusedVariables false
abbrev ZLn:Type:=List UInt8 × Bool × Unit
abbrev ZLk:Type:=List UInt8 × Bool × Bool × Unit
abbrev ZFl:Type:=List UInt8 × List UInt8 × Unit
abbrev ZBk:Type:=Int × Int × Int × Int × Int × List UInt8 × List UInt8 × Bool × Bool × Bool × List (Bool × Int × Unit) × List ZLn × Unit
abbrev aD:Ty:=.pair .str (.pair .bool .unit)
abbrev qZ:Ty:=.pair (.int .i64) (.pair (.arr 4 (.int .u64)) (.pair (.int .i64) (.pair (.int .i64) (.pair (.int .i64) (.pair (.int .i64) (.pair (.int .i64) .unit))))))
abbrev aK:Ty:=.pair (.slice qZ) (.pair .bool .unit)
abbrev uF:Ty:=.pair (.int .i64) (.pair (.int .i64) (.pair (.int .i64) .unit))
abbrev yT:Ty:=.pair uF (.pair uF (.pair .bool .unit))
abbrev Du:Ty:=.pair .str (.pair (.int .i64) .unit)
abbrev aC:Ty:=.pair yT (.pair (.int .u8) (.pair .str (.pair .str (.pair (.int .i64) (.pair (.int .i64) (.pair (.int .i64) (.pair (.slice Du) (.pair .bool (.pair .bool .unit)))))))))
abbrev pX:Ty:=.pair .bool (.pair (.slice aK) (.pair (.slice aC) .unit))
abbrev aP:Ty:=.pair .str (.pair .str .unit)
abbrev uX:Ty:=.pair .str (.pair (.slice aP) (.pair (.slice (.int .i64)) (.pair (.int .i64) (.pair (.int .i64) .unit))))
abbrev aG:Ty:=.pair pX (.pair .bool (.pair (.slice .str) (.pair .bool .unit)))
abbrev eH:Ty:=.pair .bool (.pair (.int .i64) .unit)
abbrev aA:Ty:=.pair (.int .i64) (.pair (.int .i64) (.pair (.int .i64) (.pair (.int .i64) (.pair (.int .i64) (.pair .str (.pair .str (.pair .bool (.pair .bool (.pair .bool (.pair (.slice eH) (.pair (.slice aD) .unit)))))))))))
abbrev aQ:Ty:=.pair .str (.pair .bool (.pair .bool .unit))
abbrev gF:Ty:=.pair (.slice aG) (.pair (.slice .bool) (.pair .bool (.pair (.slice aA) (.pair (.slice .bool) (.pair (.slice (.slice aD)) (.pair (.slice aQ) (.pair (.slice aD) (.pair (.slice aP) (.pair (.slice (.int .i64)) uF)))))))))
abbrev zPr:Ty:=.pair aA (.pair pX (.pair .bool (.pair (.slice aP) (.pair (.slice aD) .unit))))
abbrev yFt:Ty:=.pair (.int .i64) (.pair .bool (.pair (.slice .bool) .unit))
def lY (n : Nat) (x : List UInt8 × Bool × Int × Int × Int × Int × Int × List UInt8 × List UInt8 × Bool × Bool × Bool × List (Bool × Int × Unit) × List ZLn × Bool × List (List dB × Bool × Unit) × List bV × Bool × List ZFl × List ZLn × Unit) : Option (Int × Int × Int × Int × Int × List UInt8 × List UInt8 × Bool × Bool × Bool × List (Bool × Int × Unit) × List ZLn × Bool × List (List dB × Bool × Unit) × List bV × Bool × List ZFl × List ZLn × Unit) :=
 let s_1 := x.1
 let zMy := x.2.1
 let zMz := x.2.2.1
 let PC4 := x.2.2.2.1
 let N5 := x.2.2.2.2.1
 let zVm := x.2.2.2.2.2.1
 let zVn := x.2.2.2.2.2.2.1
 let Ze := x.2.2.2.2.2.2.2.1
 let zVo := x.2.2.2.2.2.2.2.2.1
 let zVp := x.2.2.2.2.2.2.2.2.2.1
 let zNa := x.2.2.2.2.2.2.2.2.2.2.1
 let Tp := x.2.2.2.2.2.2.2.2.2.2.2.1
 let yCo := x.2.2.2.2.2.2.2.2.2.2.2.2.1
 let yFu := x.2.2.2.2.2.2.2.2.2.2.2.2.2.1
 let Vq := x.2.2.2.2.2.2.2.2.2.2.2.2.2.2.1
 let yJf := x.2.2.2.2.2.2.2.2.2.2.2.2.2.2.2.1
 let yJg := x.2.2.2.2.2.2.2.2.2.2.2.2.2.2.2.2.1
 let yFv := x.2.2.2.2.2.2.2.2.2.2.2.2.2.2.2.2.2.1
 let yFw := x.2.2.2.2.2.2.2.2.2.2.2.2.2.2.2.2.2.2.1
 let zBv := x.2.2.2.2.2.2.2.2.2.2.2.2.2.2.2.2.2.2.2.1
 chk (Nat.ble ((zBv.length + ([(s_1, (zMy, ()))] : List ZLn).length) * 24) room) (
  let r21 : List ZLn := zBv ++ [(s_1, (zMy, ()))]
  some (zMz, PC4, N5, zVm, zVn, Ze, zVo, zVp, zNa, Tp, yCo, yFu, Vq, yJf, yJg, yFv, yFw, r21, ()))
def sW (n : Nat) (x : Int × Int × Int × Int × Int × List UInt8 × List UInt8 × Bool × Bool × Bool × List (Bool × Int × Unit) × List ZLn × Bool × List (List dB × Bool × Unit) × List bV × Bool × List ZFl × List ZLn × Unit) : Option (Int × Int × Int × Int × Int × List UInt8 × List UInt8 × Bool × Bool × Bool × List (Bool × Int × Unit) × List ZLn × Bool × List (List dB × Bool × Unit) × List bV × Bool × List ZFl × List ZLn × Unit) :=
 let rA := x.1
 let PC2 := x.2.1
 let N3 := x.2.2.1
 let xC := x.2.2.2.1
 let xD := x.2.2.2.2.1
 let iZ := x.2.2.2.2.2.1
 let xE := x.2.2.2.2.2.2.1
 let yU := x.2.2.2.2.2.2.2.1
 let xG := x.2.2.2.2.2.2.2.2.1
 let jT := x.2.2.2.2.2.2.2.2.2.1
 let oN := x.2.2.2.2.2.2.2.2.2.2.1
 let nL := x.2.2.2.2.2.2.2.2.2.2.2.1
 let pY := x.2.2.2.2.2.2.2.2.2.2.2.2.1
 let xH := x.2.2.2.2.2.2.2.2.2.2.2.2.2.1
 let xI := x.2.2.2.2.2.2.2.2.2.2.2.2.2.2.1
 let qA := x.2.2.2.2.2.2.2.2.2.2.2.2.2.2.2.1
 let sG := x.2.2.2.2.2.2.2.2.2.2.2.2.2.2.2.2.1
 let xJ := x.2.2.2.2.2.2.2.2.2.2.2.2.2.2.2.2.2.1
 ob (lY n (iZ, yU, rA, PC2, N3, xC, xD, iZ, xE, yU, xG, jT, oN, nL, pY, xH, xI, qA, sG, xJ, ())) fun y19 =>
 some (y19.1, y19.2.1, y19.2.2.1, y19.2.2.2.1, y19.2.2.2.2.1, y19.2.2.2.2.2.1, y19.2.2.2.2.2.2.1, y19.2.2.2.2.2.2.2.1, y19.2.2.2.2.2.2.2.2.1, y19.2.2.2.2.2.2.2.2.2.1, y19.2.2.2.2.2.2.2.2.2.2.1, y19.2.2.2.2.2.2.2.2.2.2.2.1, y19.2.2.2.2.2.2.2.2.2.2.2.2.1, y19.2.2.2.2.2.2.2.2.2.2.2.2.2.1, y19.2.2.2.2.2.2.2.2.2.2.2.2.2.2.1, y19.2.2.2.2.2.2.2.2.2.2.2.2.2.2.2.1, y19.2.2.2.2.2.2.2.2.2.2.2.2.2.2.2.2.1, y19.2.2.2.2.2.2.2.2.2.2.2.2.2.2.2.2.2.1, ())
def mF (n : Nat) (x : Int × Int × Int × Int × Int × List UInt8 × List UInt8 × Bool × Bool × Bool × List (Bool × Int × Unit) × List ZLn × Bool × List (List dB × Bool × Unit) × List bV × Bool × List ZFl × List ZLn × Unit) : Option (Int × Int × Int × Int × Int × List UInt8 × List UInt8 × Bool × Bool × Bool × List (Bool × Int × Unit) × List ZLn × Bool × List (List dB × Bool × Unit) × List bV × Bool × List ZFl × List ZLn × Unit) :=
 let rA := x.1
 let PC2 := x.2.1
 let N3 := x.2.2.1
 let xC := x.2.2.2.1
 let xD := x.2.2.2.2.1
 let iZ := x.2.2.2.2.2.1
 let xE := x.2.2.2.2.2.2.1
 let yU := x.2.2.2.2.2.2.2.1
 let xG := x.2.2.2.2.2.2.2.2.1
 let jT := x.2.2.2.2.2.2.2.2.2.1
 let oN := x.2.2.2.2.2.2.2.2.2.2.1
 let nL := x.2.2.2.2.2.2.2.2.2.2.2.1
 let pY := x.2.2.2.2.2.2.2.2.2.2.2.2.1
 let xH := x.2.2.2.2.2.2.2.2.2.2.2.2.2.1
 let xI := x.2.2.2.2.2.2.2.2.2.2.2.2.2.2.1
 let qA := x.2.2.2.2.2.2.2.2.2.2.2.2.2.2.2.1
 let sG := x.2.2.2.2.2.2.2.2.2.2.2.2.2.2.2.2.1
 let xJ := x.2.2.2.2.2.2.2.2.2.2.2.2.2.2.2.2.2.1
 br (!qA) (
  br (!pY) (
   ob (sW n (rA, PC2, N3, xC, xD, iZ, xE, yU, xG, jT, oN, nL, pY, xH, xI, qA, sG, xJ, ())) fun y19 =>
   some (y19.1, y19.2.1, y19.2.2.1, y19.2.2.2.1, y19.2.2.2.2.1, y19.2.2.2.2.2.1, y19.2.2.2.2.2.2.1, y19.2.2.2.2.2.2.2.1, y19.2.2.2.2.2.2.2.2.1, y19.2.2.2.2.2.2.2.2.2.1, y19.2.2.2.2.2.2.2.2.2.2.1, y19.2.2.2.2.2.2.2.2.2.2.2.1, y19.2.2.2.2.2.2.2.2.2.2.2.2.1, y19.2.2.2.2.2.2.2.2.2.2.2.2.2.1, y19.2.2.2.2.2.2.2.2.2.2.2.2.2.2.1, y19.2.2.2.2.2.2.2.2.2.2.2.2.2.2.2.1, y19.2.2.2.2.2.2.2.2.2.2.2.2.2.2.2.2.1, y19.2.2.2.2.2.2.2.2.2.2.2.2.2.2.2.2.2.1, ())) (
   some (rA, PC2, N3, xC, xD, iZ, xE, yU, xG, jT, oN, nL, pY, xH, xI, qA, sG, xJ, ()))) (
  some (rA, PC2, N3, xC, xD, iZ, xE, yU, xG, jT, oN, nL, pY, xH, xI, qA, sG, xJ, ()))
def Jl (n : Nat) (x : List UInt8 × List UInt8 × List UInt8 × Unit) : Option (Bool × List UInt8 × Unit) :=
 let f_1 := x.1
 let f_2 := x.2.1
 let b3 := x.2.2.1
 some ((f_1 == b3), b3, ())
def oO (n : Nat) (g0 : List ZFl × Int × Int × List UInt8 × Unit -> Option (Int × List UInt8 × Unit)) (x3 : List ZFl × Int × Int × List UInt8 × Unit) : Option (Int × List UInt8 × Unit) :=
 let s_4 := x3.1
 let yJh := x3.2.1
 let zNb := x3.2.2.1
 let b7 := x3.2.2.2.1
 br (decide (zNb < yJh)) (
  chk (inB zNb s_4.length) (
   let v8 : List UInt8 × List UInt8 × Unit := bM (Ty.dflt aP) s_4 zNb
   ob (Jl n (v8.1, v8.2.1, b7, ())) fun y9 =>
   br y9.1 (
    some (zNb, y9.2.1, ())) (
    let v10 : Int := IntKind.wrap .i64 (zNb + 1)
    g0 (s_4, yJh, v10, y9.2.1, ())))) (
  some ((-1), b7, ()))
def fP (n : Nat) (x : List ZFl × List UInt8 × Unit) : Option (Int × List UInt8 × Unit) :=
 let s_1 := x.1
 let b2 := x.2.1
 fix (oO n) n (s_1, (s_1.length : Int), 0, b2, ())
def Tq (n : Nat) (x : List ZFl × List UInt8) : Option (List UInt8 × Bool) :=
 let t_0 := x.1
 let yJi := x.2
 ob (fP n (t_0, yJi, ())) fun y1 =>
 br (decide (y1.1 < 0)) (
  some ([], false)) (
  chk (inB y1.1 t_0.length) (
   let v2 : List UInt8 × List UInt8 × Unit := bM (Ty.dflt aP) t_0 y1.1
   some (v2.2.1, true)))
def iE (n : Nat) (x : List UInt8 × List UInt8) : Option (Bool) :=
 let s_0 := x.1
 let rC := x.2
 br (decide ((s_0.length : Int) ≥ (rC.length : Int))) (
  let v1 : Int := IntKind.wrap .i64 ((s_0.length : Int) - (rC.length : Int))
  chk ((decide (0 <= v1) && decide (v1 <= (s_0.length : Int)))) (
   some ((s_0.drop v1.toNat) == rC))) (
  some false)
def iF (n : Nat) (x : List UInt8 × List UInt8) : Option (List UInt8 × Bool) :=
 let s_0 := x.1
 let rC := x.2
 ob (iE n (s_0, rC)) fun y1 =>
 br (!y1) (
  some (s_0, false)) (
  let v2 : Int := IntKind.wrap .i64 ((s_0.length : Int) - (rC.length : Int))
  chk ((decide (0 <= v2) && decide (v2 <= (s_0.length : Int)))) (
   some (s_0.take v2.toNat, true)))
def strings_CutSuffix (n : Nat) (x : List UInt8 × List UInt8) : Option (List UInt8 × Bool) :=
 let s_0 := x.1
 let rC := x.2
 ob (iF n (s_0, rC)) fun y1 =>
 some (y1.1, y1.2)
def Ll (n : Nat) (g0 : List ZLn × Int × Int × Int × Int × Int × Int × Int × List UInt8 × List UInt8 × Bool × Bool × Bool × List (Bool × Int × Unit) × List ZLn × Bool × List (List dB × Bool × Unit) × List bV × Bool × List ZFl × List ZLn × Unit -> Option (Int × Int × Int × Int × Int × List UInt8 × List UInt8 × Bool × Bool × Bool × List (Bool × Int × Unit) × List ZLn × Bool × List (List dB × Bool × Unit) × List bV × Bool × List ZFl × List ZLn × Unit)) (x19 : List ZLn × Int × Int × Int × Int × Int × Int × Int × List UInt8 × List UInt8 × Bool × Bool × Bool × List (Bool × Int × Unit) × List ZLn × Bool × List (List dB × Bool × Unit) × List bV × Bool × List ZFl × List ZLn × Unit) : Option (Int × Int × Int × Int × Int × List UInt8 × List UInt8 × Bool × Bool × Bool × List (Bool × Int × Unit) × List ZLn × Bool × List (List dB × Bool × Unit) × List bV × Bool × List ZFl × List ZLn × Unit) :=
 let Tt := x19.1
 let zBw := x19.2.1
 let Lm := x19.2.2.1
 let Vr := x19.2.2.2.1
 let zVq := x19.2.2.2.2.1
 let N25 := x19.2.2.2.2.2.1
 let zBx := x19.2.2.2.2.2.2.1
 let zBy := x19.2.2.2.2.2.2.2.1
 let Ip := x19.2.2.2.2.2.2.2.2.1
 let zBz := x19.2.2.2.2.2.2.2.2.2.1
 let zJd := x19.2.2.2.2.2.2.2.2.2.2.1
 let zCa := x19.2.2.2.2.2.2.2.2.2.2.2.1
 let Iq := x19.2.2.2.2.2.2.2.2.2.2.2.2.1
 let Po := x19.2.2.2.2.2.2.2.2.2.2.2.2.2.1
 let zEn := x19.2.2.2.2.2.2.2.2.2.2.2.2.2.2.1
 let Vs := x19.2.2.2.2.2.2.2.2.2.2.2.2.2.2.2.1
 let zCb := x19.2.2.2.2.2.2.2.2.2.2.2.2.2.2.2.2.1
 let zCc := x19.2.2.2.2.2.2.2.2.2.2.2.2.2.2.2.2.2.1
 let Vt := x19.2.2.2.2.2.2.2.2.2.2.2.2.2.2.2.2.2.2.1
 let Lp := x19.2.2.2.2.2.2.2.2.2.2.2.2.2.2.2.2.2.2.2.1
 let zJe := x19.2.2.2.2.2.2.2.2.2.2.2.2.2.2.2.2.2.2.2.2.1
 br (decide (Lm < zBw)) (
  chk (inB Lm Tt.length) (
   let v41 : List UInt8 × Bool × Unit := bM (Ty.dflt aD) Tt Lm
   br (!v41.2.1) (
    ob (lY n (v41.1, true, Vr, zVq, N25, zBx, zBy, Ip, zBz, zJd, zCa, Iq, Po, zEn, Vs, zCb, zCc, Vt, Lp, zJe, ())) fun y42 =>
    let v43 : Int := IntKind.wrap .i64 (Lm + 1)
    g0 (Tt, zBw, v43, y42.1, y42.2.1, y42.2.2.1, y42.2.2.2.1, y42.2.2.2.2.1, y42.2.2.2.2.2.1, y42.2.2.2.2.2.2.1, y42.2.2.2.2.2.2.2.1, y42.2.2.2.2.2.2.2.2.1, y42.2.2.2.2.2.2.2.2.2.1, y42.2.2.2.2.2.2.2.2.2.2.1, y42.2.2.2.2.2.2.2.2.2.2.2.1, y42.2.2.2.2.2.2.2.2.2.2.2.2.1, y42.2.2.2.2.2.2.2.2.2.2.2.2.2.1, y42.2.2.2.2.2.2.2.2.2.2.2.2.2.2.1, y42.2.2.2.2.2.2.2.2.2.2.2.2.2.2.2.1, y42.2.2.2.2.2.2.2.2.2.2.2.2.2.2.2.2.1, y42.2.2.2.2.2.2.2.2.2.2.2.2.2.2.2.2.2.1, ())) (
    ob (Tq n (Lp, v41.1)) fun y44 =>
    br (!(y44.1 == [])) (
     ob (strings_CutSuffix n (y44.1, [10])) fun y45 =>
     ob (lY n (y45.1, y45.2, Vr, zVq, N25, zBx, zBy, Ip, zBz, zJd, zCa, Iq, Po, zEn, Vs, zCb, zCc, Vt, Lp, zJe, ())) fun y46 =>
     let v47 : Int := IntKind.wrap .i64 (Lm + 1)
     g0 (Tt, zBw, v47, y46.1, y46.2.1, y46.2.2.1, y46.2.2.2.1, y46.2.2.2.2.1, y46.2.2.2.2.2.1, y46.2.2.2.2.2.2.1, y46.2.2.2.2.2.2.2.1, y46.2.2.2.2.2.2.2.2.1, y46.2.2.2.2.2.2.2.2.2.1, y46.2.2.2.2.2.2.2.2.2.2.1, y46.2.2.2.2.2.2.2.2.2.2.2.1, y46.2.2.2.2.2.2.2.2.2.2.2.2.1, y46.2.2.2.2.2.2.2.2.2.2.2.2.2.1, y46.2.2.2.2.2.2.2.2.2.2.2.2.2.2.1, y46.2.2.2.2.2.2.2.2.2.2.2.2.2.2.2.1, y46.2.2.2.2.2.2.2.2.2.2.2.2.2.2.2.2.1, y46.2.2.2.2.2.2.2.2.2.2.2.2.2.2.2.2.2.1, ())) (
     let v48 : Int := IntKind.wrap .i64 (Lm + 1)
     g0 (Tt, zBw, v48, Vr, zVq, N25, zBx, zBy, Ip, zBz, zJd, zCa, Iq, Po, zEn, Vs, zCb, zCc, Vt, Lp, zJe, ()))))) (
  some (Vr, zVq, N25, zBx, zBy, Ip, zBz, zJd, zCa, Iq, Po, [], Vs, zCb, zCc, Vt, Lp, zJe, ()))
def xK (n : Nat) (x : Int × Int × Int × Int × Int × List UInt8 × List UInt8 × Bool × Bool × Bool × List (Bool × Int × Unit) × List ZLn × Bool × List (List dB × Bool × Unit) × List bV × Bool × List ZFl × List ZLn × Unit) : Option (Int × Int × Int × Int × Int × List UInt8 × List UInt8 × Bool × Bool × Bool × List (Bool × Int × Unit) × List ZLn × Bool × List (List dB × Bool × Unit) × List bV × Bool × List ZFl × List ZLn × Unit) :=
 let rA := x.1
 let PC2 := x.2.1
 let N3 := x.2.2.1
 let xC := x.2.2.2.1
 let xD := x.2.2.2.2.1
 let iZ := x.2.2.2.2.2.1
 let xE := x.2.2.2.2.2.2.1
 let yU := x.2.2.2.2.2.2.2.1
 let xG := x.2.2.2.2.2.2.2.2.1
 let jT := x.2.2.2.2.2.2.2.2.2.1
 let oN := x.2.2.2.2.2.2.2.2.2.2.1
 let nL := x.2.2.2.2.2.2.2.2.2.2.2.1
 let pY := x.2.2.2.2.2.2.2.2.2.2.2.2.1
 let xH := x.2.2.2.2.2.2.2.2.2.2.2.2.2.1
 let xI := x.2.2.2.2.2.2.2.2.2.2.2.2.2.2.1
 let qA := x.2.2.2.2.2.2.2.2.2.2.2.2.2.2.2.1
 let sG := x.2.2.2.2.2.2.2.2.2.2.2.2.2.2.2.2.1
 let xJ := x.2.2.2.2.2.2.2.2.2.2.2.2.2.2.2.2.2.1
 fix (Ll n) n (nL, (nL.length : Int), 0, rA, PC2, N3, xC, xD, iZ, xE, yU, xG, jT, oN, nL, pY, xH, xI, qA, sG, xJ, ())
def pJ (n : Nat) (x : Int × Int × Int × Int × Int × List UInt8 × List UInt8 × Bool × Bool × Bool × List (Bool × Int × Unit) × List ZLn × Bool × List (List dB × Bool × Unit) × List bV × Bool × List ZFl × List ZLn × Unit) : Option (Int × Int × Int × Int × Int × List UInt8 × List UInt8 × Bool × Bool × Bool × List (Bool × Int × Unit) × List ZLn × Bool × List (List dB × Bool × Unit) × List bV × Bool × List ZFl × List ZLn × Unit) :=
 let rA := x.1
 let PC2 := x.2.1
 let N3 := x.2.2.1
 let xC := x.2.2.2.1
 let xD := x.2.2.2.2.1
 let iZ := x.2.2.2.2.2.1
 let xE := x.2.2.2.2.2.2.1
 let yU := x.2.2.2.2.2.2.2.1
 let xG := x.2.2.2.2.2.2.2.2.1
 let jT := x.2.2.2.2.2.2.2.2.2.1
 let oN := x.2.2.2.2.2.2.2.2.2.2.1
 let nL := x.2.2.2.2.2.2.2.2.2.2.2.1
 let pY := x.2.2.2.2.2.2.2.2.2.2.2.2.1
 let xH := x.2.2.2.2.2.2.2.2.2.2.2.2.2.1
 let xI := x.2.2.2.2.2.2.2.2.2.2.2.2.2.2.1
 let qA := x.2.2.2.2.2.2.2.2.2.2.2.2.2.2.2.1
 let sG := x.2.2.2.2.2.2.2.2.2.2.2.2.2.2.2.2.1
 let xJ := x.2.2.2.2.2.2.2.2.2.2.2.2.2.2.2.2.2.1
 ob (xK n (rA, PC2, N3, xC, xD, iZ, xE, yU, xG, jT, oN, nL, pY, xH, xI, qA, sG, xJ, ())) fun y19 =>
 some (0, y19.2.1, y19.2.2.1, y19.2.2.2.1, y19.2.2.2.2.1, y19.2.2.2.2.2.1, y19.2.2.2.2.2.2.1, y19.2.2.2.2.2.2.2.1, y19.2.2.2.2.2.2.2.2.1, y19.2.2.2.2.2.2.2.2.2.1, y19.2.2.2.2.2.2.2.2.2.2.1, y19.2.2.2.2.2.2.2.2.2.2.2.1, y19.2.2.2.2.2.2.2.2.2.2.2.2.1, y19.2.2.2.2.2.2.2.2.2.2.2.2.2.1, y19.2.2.2.2.2.2.2.2.2.2.2.2.2.2.1, y19.2.2.2.2.2.2.2.2.2.2.2.2.2.2.2.1, y19.2.2.2.2.2.2.2.2.2.2.2.2.2.2.2.2.1, y19.2.2.2.2.2.2.2.2.2.2.2.2.2.2.2.2.2.1, ())
def mR (_n:Nat) (x:List (Bool × Int × Unit) × Unit):Option (List (Bool × Int × Unit) × Unit):=Ey 16 x
def Lr (n : Nat) (g0 : Int × Int × Int × Int × Int × Int × Int × List UInt8 × List UInt8 × Bool × Bool × Bool × List (Bool × Int × Unit) × List ZLn × Bool × List (List dB × Bool × Unit) × List bV × Bool × List ZFl × List ZLn × Int × Int × Int × Int × Int × Int × Bool × Int × List UInt8 × List UInt8 × Int × Int × Int × List (List UInt8 × Int × Unit) × Bool × Bool × List (Bool) × List (Int × Int × Int × Unit) × Unit -> Option (Bool × Int × Int × Int × Int × Int × List UInt8 × List UInt8 × Bool × Bool × Bool × List ZLn × Bool × List (List dB × Bool × Unit) × List bV × Bool × List ZFl × List ZLn × List (Bool × Int × Unit) × Unit)) (x37 : Int × Int × Int × Int × Int × Int × Int × List UInt8 × List UInt8 × Bool × Bool × Bool × List (Bool × Int × Unit) × List ZLn × Bool × List (List dB × Bool × Unit) × List bV × Bool × List ZFl × List ZLn × Int × Int × Int × Int × Int × Int × Bool × Int × List UInt8 × List UInt8 × Int × Int × Int × List (List UInt8 × Int × Unit) × Bool × Bool × List (Bool) × List (Int × Int × Int × Unit) × Unit) : Option (Bool × Int × Int × Int × Int × Int × List UInt8 × List UInt8 × Bool × Bool × Bool × List ZLn × Bool × List (List dB × Bool × Unit) × List bV × Bool × List ZFl × List ZLn × List (Bool × Int × Unit) × Unit) :=
 let zYn := x37.1
 let Ga := x37.2.1
 let zQz := x37.2.2.1
 let Zf := x37.2.2.2.1
 let N42 := x37.2.2.2.2.1
 let zYo := x37.2.2.2.2.2.1
 let zYp := x37.2.2.2.2.2.2.1
 let zHj := x37.2.2.2.2.2.2.2.1
 let zYq := x37.2.2.2.2.2.2.2.2.1
 let yEa := x37.2.2.2.2.2.2.2.2.2.1
 let zNc := x37.2.2.2.2.2.2.2.2.2.2.1
 let zHk := x37.2.2.2.2.2.2.2.2.2.2.2.1
 let Pp := x37.2.2.2.2.2.2.2.2.2.2.2.2.1
 let zRa := x37.2.2.2.2.2.2.2.2.2.2.2.2.2.1
 let zRb := x37.2.2.2.2.2.2.2.2.2.2.2.2.2.2.1
 let zYr := x37.2.2.2.2.2.2.2.2.2.2.2.2.2.2.2.1
 let zYs := x37.2.2.2.2.2.2.2.2.2.2.2.2.2.2.2.2.1
 let zRc := x37.2.2.2.2.2.2.2.2.2.2.2.2.2.2.2.2.2.1
 let zRd := x37.2.2.2.2.2.2.2.2.2.2.2.2.2.2.2.2.2.2.1
 let yEb := x37.2.2.2.2.2.2.2.2.2.2.2.2.2.2.2.2.2.2.2.1
 let zYt := x37.2.2.2.2.2.2.2.2.2.2.2.2.2.2.2.2.2.2.2.2.1
 let N59 := x37.2.2.2.2.2.2.2.2.2.2.2.2.2.2.2.2.2.2.2.2.2.1
 let M60 := x37.2.2.2.2.2.2.2.2.2.2.2.2.2.2.2.2.2.2.2.2.2.2.1
 let zYu := x37.2.2.2.2.2.2.2.2.2.2.2.2.2.2.2.2.2.2.2.2.2.2.2.1
 let N62 := x37.2.2.2.2.2.2.2.2.2.2.2.2.2.2.2.2.2.2.2.2.2.2.2.2.1
 let M63 := x37.2.2.2.2.2.2.2.2.2.2.2.2.2.2.2.2.2.2.2.2.2.2.2.2.2.1
 let yEc := x37.2.2.2.2.2.2.2.2.2.2.2.2.2.2.2.2.2.2.2.2.2.2.2.2.2.2.1
 let yNt := x37.2.2.2.2.2.2.2.2.2.2.2.2.2.2.2.2.2.2.2.2.2.2.2.2.2.2.2.1
 let yJj := x37.2.2.2.2.2.2.2.2.2.2.2.2.2.2.2.2.2.2.2.2.2.2.2.2.2.2.2.2.1
 let yJk := x37.2.2.2.2.2.2.2.2.2.2.2.2.2.2.2.2.2.2.2.2.2.2.2.2.2.2.2.2.2.1
 let N68 := x37.2.2.2.2.2.2.2.2.2.2.2.2.2.2.2.2.2.2.2.2.2.2.2.2.2.2.2.2.2.2.1
 let yNu := x37.2.2.2.2.2.2.2.2.2.2.2.2.2.2.2.2.2.2.2.2.2.2.2.2.2.2.2.2.2.2.2.1
 let yLl := x37.2.2.2.2.2.2.2.2.2.2.2.2.2.2.2.2.2.2.2.2.2.2.2.2.2.2.2.2.2.2.2.2.1
 let yFx := x37.2.2.2.2.2.2.2.2.2.2.2.2.2.2.2.2.2.2.2.2.2.2.2.2.2.2.2.2.2.2.2.2.2.1
 let yLm := x37.2.2.2.2.2.2.2.2.2.2.2.2.2.2.2.2.2.2.2.2.2.2.2.2.2.2.2.2.2.2.2.2.2.2.1
 let yFy := x37.2.2.2.2.2.2.2.2.2.2.2.2.2.2.2.2.2.2.2.2.2.2.2.2.2.2.2.2.2.2.2.2.2.2.2.1
 let yEd := x37.2.2.2.2.2.2.2.2.2.2.2.2.2.2.2.2.2.2.2.2.2.2.2.2.2.2.2.2.2.2.2.2.2.2.2.2.1
 let Ir := x37.2.2.2.2.2.2.2.2.2.2.2.2.2.2.2.2.2.2.2.2.2.2.2.2.2.2.2.2.2.2.2.2.2.2.2.2.2.1
 br (decide (Ga < zYn)) (
  chk ((inB Ga (Ir.length) && decide (0 + (Ir.length) <= Ir.length))) (
   chk (decide (0 + Ga.toNat < Ir.length)) (
    let v76 : Int := (Ir.getD (0 + Ga.toNat) (Ty.dflt uF)).1
    br (v76 == 4) (
     let v77 : Int := (Ir.getD (0 + Ga.toNat) (Ty.dflt uF)).2.1
     let v78 : Int := (Ir.getD (0 + Ga.toNat) (Ty.dflt uF)).2.1
     none) (
     let v79 : Int := IntKind.wrap .i64 (Ga + 1)
     g0 (zYn, v79, zQz, Zf, N42, zYo, zYp, zHj, zYq, yEa, zNc, zHk, Pp, zRa, zRb, zYr, zYs, zRc, zRd, yEb, zYt, N59, M60, zYu, N62, M63, yEc, yNt, yJj, yJk, N68, yNu, yLl, yFx, yLm, yFy, yEd, Ir, ()))))) (
  chk (inB Zf Pp.length) (
   let v80 : Bool × Int × Unit := bM (Ty.dflt eH) Pp Zf
   ob (oM n (((zYt, (N59, (M60, ()))), ((zYu, (N62, (M63, ()))), (yEc, ()))), v80, (N42, (zNc, (yEd, ()))))) fun y81 =>
   ob (mR n (Pp, ())) fun y82 =>
   chk ((inB Zf (y82.1.length) && decide (0 + (y82.1.length) <= y82.1.length))) (
    chk (decide (0 + Zf.toNat < y82.1.length)) (
     let r83 : List (Bool × Int × Unit) := y82.1.set (0 + Zf.toNat) y81.2
     some (y81.1, zQz, Zf, N42, zYo, zYp, zHj, zYq, yEa, zNc, zHk, zRa, zRb, zYr, zYs, zRc, zRd, yEb, r83, ())))))
def dK (n : Nat) (x : Int × Int × Int × Int × Int × Int × Bool × Int × List UInt8 × List UInt8 × Int × Int × Int × List (List UInt8 × Int × Unit) × Bool × Bool × Int × Int × Int × Int × Int × List UInt8 × List UInt8 × Bool × Bool × Bool × List (Bool × Int × Unit) × List ZLn × Bool × List (List dB × Bool × Unit) × List bV × Bool × List ZFl × List ZLn × Unit) : Option (Bool × Int × Int × Int × Int × Int × List UInt8 × List UInt8 × Bool × Bool × Bool × List ZLn × Bool × List (List dB × Bool × Unit) × List bV × Bool × List ZFl × List ZLn × List (Bool × Int × Unit) × Unit) :=
 let c_1 := x.1
 let c_2 := x.2.1
 let c_3 := x.2.2.1
 let c_4 := x.2.2.2.1
 let c_5 := x.2.2.2.2.1
 let c_6 := x.2.2.2.2.2.1
 let c_7 := x.2.2.2.2.2.2.1
 let c_8 := x.2.2.2.2.2.2.2.1
 let c_9 := x.2.2.2.2.2.2.2.2.1
 let yJl := x.2.2.2.2.2.2.2.2.2.1
 let yJm := x.2.2.2.2.2.2.2.2.2.2.1
 let yJn := x.2.2.2.2.2.2.2.2.2.2.2.1
 let yJo := x.2.2.2.2.2.2.2.2.2.2.2.2.1
 let yJp := x.2.2.2.2.2.2.2.2.2.2.2.2.2.1
 let yJq := x.2.2.2.2.2.2.2.2.2.2.2.2.2.2.1
 let yJr := x.2.2.2.2.2.2.2.2.2.2.2.2.2.2.2.1
 let qB := x.2.2.2.2.2.2.2.2.2.2.2.2.2.2.2.2.1
 let Jm := x.2.2.2.2.2.2.2.2.2.2.2.2.2.2.2.2.2.1
 let N19 := x.2.2.2.2.2.2.2.2.2.2.2.2.2.2.2.2.2.2.1
 let uG := x.2.2.2.2.2.2.2.2.2.2.2.2.2.2.2.2.2.2.2.1
 let uH := x.2.2.2.2.2.2.2.2.2.2.2.2.2.2.2.2.2.2.2.2.1
 let fU := x.2.2.2.2.2.2.2.2.2.2.2.2.2.2.2.2.2.2.2.2.2.1
 let mG := x.2.2.2.2.2.2.2.2.2.2.2.2.2.2.2.2.2.2.2.2.2.2.1
 let zQ := x.2.2.2.2.2.2.2.2.2.2.2.2.2.2.2.2.2.2.2.2.2.2.2.1
 let uI := x.2.2.2.2.2.2.2.2.2.2.2.2.2.2.2.2.2.2.2.2.2.2.2.2.1
 let kS := x.2.2.2.2.2.2.2.2.2.2.2.2.2.2.2.2.2.2.2.2.2.2.2.2.2.1
 let yCp := x.2.2.2.2.2.2.2.2.2.2.2.2.2.2.2.2.2.2.2.2.2.2.2.2.2.2.1
 let yFz := x.2.2.2.2.2.2.2.2.2.2.2.2.2.2.2.2.2.2.2.2.2.2.2.2.2.2.2.1
 let yGa := x.2.2.2.2.2.2.2.2.2.2.2.2.2.2.2.2.2.2.2.2.2.2.2.2.2.2.2.2.1
 let Ls := x.2.2.2.2.2.2.2.2.2.2.2.2.2.2.2.2.2.2.2.2.2.2.2.2.2.2.2.2.2.1
 let yJs := x.2.2.2.2.2.2.2.2.2.2.2.2.2.2.2.2.2.2.2.2.2.2.2.2.2.2.2.2.2.2.1
 let yGb := x.2.2.2.2.2.2.2.2.2.2.2.2.2.2.2.2.2.2.2.2.2.2.2.2.2.2.2.2.2.2.2.1
 let yGc := x.2.2.2.2.2.2.2.2.2.2.2.2.2.2.2.2.2.2.2.2.2.2.2.2.2.2.2.2.2.2.2.2.1
 let mY := x.2.2.2.2.2.2.2.2.2.2.2.2.2.2.2.2.2.2.2.2.2.2.2.2.2.2.2.2.2.2.2.2.2.1
 chk ((decide (0 <= (Ls.length : Int)) && (decide ((Ls.length : Int) = (Ls.length : Int)) && Nat.ble ((Ls.length : Int).toNat * 1) room))) (
  let r35 : List (Bool) := List.replicate (Ls.length : Int).toNat false
  let v36 : Int := (([(c_1, (c_2, (c_3, ()))), (c_4, (c_5, (c_6, ())))].length : Nat) : Int)
  fix (Lr n) n (v36, 0, qB, Jm, N19, uG, uH, fU, mG, zQ, uI, kS, yCp, yFz, yGa, Ls, yJs, yGb, yGc, mY, c_1, c_2, c_3, c_4, c_5, c_6, c_7, c_8, c_9, yJl, yJm, yJn, yJo, yJp, yJq, yJr, r35, [(c_1, (c_2, (c_3, ()))), (c_4, (c_5, (c_6, ())))], ()))
def vH (n : Nat) (x : List UInt8 × Bool × Int × Int × Int × Int × Int × List UInt8 × List UInt8 × Bool × Bool × Bool × List ZLn × Bool × List (List dB × Bool × Unit) × List bV × Bool × List ZFl × List (Bool × Int × Unit) × List ZLn × Unit) : Option (Int × Int × Int × Int × Int × List UInt8 × List UInt8 × Bool × Bool × Bool × List ZLn × Bool × List (List dB × Bool × Unit) × List bV × Bool × List ZFl × List (Bool × Int × Unit) × List ZLn × Unit) :=
 let s_1 := x.1
 let zMy := x.2.1
 let zMz := x.2.2.1
 let PC4 := x.2.2.2.1
 let N5 := x.2.2.2.2.1
 let zVm := x.2.2.2.2.2.1
 let zVn := x.2.2.2.2.2.2.1
 let Ze := x.2.2.2.2.2.2.2.1
 let zVo := x.2.2.2.2.2.2.2.2.1
 let zVp := x.2.2.2.2.2.2.2.2.2.1
 let zNa := x.2.2.2.2.2.2.2.2.2.2.1
 let Tp := x.2.2.2.2.2.2.2.2.2.2.2.1
 let yGd := x.2.2.2.2.2.2.2.2.2.2.2.2.1
 let yGe := x.2.2.2.2.2.2.2.2.2.2.2.2.2.1
 let yJt := x.2.2.2.2.2.2.2.2.2.2.2.2.2.2.1
 let yJu := x.2.2.2.2.2.2.2.2.2.2.2.2.2.2.2.1
 let yGf := x.2.2.2.2.2.2.2.2.2.2.2.2.2.2.2.2.1
 let yGg := x.2.2.2.2.2.2.2.2.2.2.2.2.2.2.2.2.2.1
 let yLn := x.2.2.2.2.2.2.2.2.2.2.2.2.2.2.2.2.2.2.1
 let zBv := x.2.2.2.2.2.2.2.2.2.2.2.2.2.2.2.2.2.2.2.1
 chk (Nat.ble ((zBv.length + ([(s_1, (zMy, ()))] : List ZLn).length) * 24) room) (
  let r21 : List ZLn := zBv ++ [(s_1, (zMy, ()))]
  some (zMz, PC4, N5, zVm, zVn, Ze, zVo, zVp, zNa, Tp, yGd, yGe, yJt, yJu, yGf, yGg, yLn, r21, ()))
def oP (n : Nat) (x : Int × Int × Int × Int × Int × List UInt8 × List UInt8 × Bool × Bool × Bool × List ZLn × Bool × List (List dB × Bool × Unit) × List bV × Bool × List ZFl × List (Bool × Int × Unit) × List ZLn × Unit) : Option (Int × Int × Int × Int × Int × List UInt8 × List UInt8 × Bool × Bool × Bool × List ZLn × Bool × List (List dB × Bool × Unit) × List bV × Bool × List ZFl × List (Bool × Int × Unit) × List ZLn × Unit) :=
 let rA := x.1
 let PC2 := x.2.1
 let N3 := x.2.2.1
 let xC := x.2.2.2.1
 let xD := x.2.2.2.2.1
 let iZ := x.2.2.2.2.2.1
 let xE := x.2.2.2.2.2.2.1
 let yU := x.2.2.2.2.2.2.2.1
 let xG := x.2.2.2.2.2.2.2.2.1
 let jT := x.2.2.2.2.2.2.2.2.2.1
 let yGh := x.2.2.2.2.2.2.2.2.2.2.1
 let Vu := x.2.2.2.2.2.2.2.2.2.2.2.1
 let zCd := x.2.2.2.2.2.2.2.2.2.2.2.2.1
 let zCe := x.2.2.2.2.2.2.2.2.2.2.2.2.2.1
 let yGi := x.2.2.2.2.2.2.2.2.2.2.2.2.2.2.1
 let yGj := x.2.2.2.2.2.2.2.2.2.2.2.2.2.2.2.1
 let yLo := x.2.2.2.2.2.2.2.2.2.2.2.2.2.2.2.2.1
 let xJ := x.2.2.2.2.2.2.2.2.2.2.2.2.2.2.2.2.2.1
 ob (vH n (iZ, yU, rA, PC2, N3, xC, xD, iZ, xE, yU, xG, jT, yGh, Vu, zCd, zCe, yGi, yGj, yLo, xJ, ())) fun y19 =>
 some (y19.1, y19.2.1, y19.2.2.1, y19.2.2.2.1, y19.2.2.2.2.1, y19.2.2.2.2.2.1, y19.2.2.2.2.2.2.1, y19.2.2.2.2.2.2.2.1, y19.2.2.2.2.2.2.2.2.1, y19.2.2.2.2.2.2.2.2.2.1, y19.2.2.2.2.2.2.2.2.2.2.1, y19.2.2.2.2.2.2.2.2.2.2.2.1, y19.2.2.2.2.2.2.2.2.2.2.2.2.1, y19.2.2.2.2.2.2.2.2.2.2.2.2.2.1, y19.2.2.2.2.2.2.2.2.2.2.2.2.2.2.1, y19.2.2.2.2.2.2.2.2.2.2.2.2.2.2.2.1, y19.2.2.2.2.2.2.2.2.2.2.2.2.2.2.2.2.1, y19.2.2.2.2.2.2.2.2.2.2.2.2.2.2.2.2.2.1, ())
def vI (n : Nat) (x : Int × Int × Int × Int × Int × Int × Bool × Int × List UInt8 × List UInt8 × Int × Int × Int × List (List UInt8 × Int × Unit) × Bool × Bool × Int × Int × Int × Int × Int × List UInt8 × List UInt8 × Bool × Bool × Bool × List ZLn × Bool × List (List dB × Bool × Unit) × List bV × Bool × List ZFl × List (Bool × Int × Unit) × List ZLn × Unit) : Option (Int × Int × Int × Int × Int × List UInt8 × List UInt8 × Bool × Bool × Bool × List ZLn × Bool × List (List dB × Bool × Unit) × List bV × Bool × List ZFl × List (Bool × Int × Unit) × List ZLn × Unit) :=
 let zEo := x.1
 let yPi := x.2.1
 let yPj := x.2.2.1
 let yPk := x.2.2.2.1
 let yPl := x.2.2.2.2.1
 let yPm := x.2.2.2.2.2.1
 let yPn := x.2.2.2.2.2.2.1
 let zVr := x.2.2.2.2.2.2.2.1
 let yPo := x.2.2.2.2.2.2.2.2.1
 let yOj := x.2.2.2.2.2.2.2.2.2.1
 let yOk := x.2.2.2.2.2.2.2.2.2.2.1
 let yOl := x.2.2.2.2.2.2.2.2.2.2.2.1
 let yOm := x.2.2.2.2.2.2.2.2.2.2.2.2.1
 let yOn := x.2.2.2.2.2.2.2.2.2.2.2.2.2.1
 let yOo := x.2.2.2.2.2.2.2.2.2.2.2.2.2.2.1
 let yOp := x.2.2.2.2.2.2.2.2.2.2.2.2.2.2.2.1
 let qB := x.2.2.2.2.2.2.2.2.2.2.2.2.2.2.2.2.1
 let Jm := x.2.2.2.2.2.2.2.2.2.2.2.2.2.2.2.2.2.1
 let N19 := x.2.2.2.2.2.2.2.2.2.2.2.2.2.2.2.2.2.2.1
 let uG := x.2.2.2.2.2.2.2.2.2.2.2.2.2.2.2.2.2.2.2.1
 let uH := x.2.2.2.2.2.2.2.2.2.2.2.2.2.2.2.2.2.2.2.2.1
 let fU := x.2.2.2.2.2.2.2.2.2.2.2.2.2.2.2.2.2.2.2.2.2.1
 let mG := x.2.2.2.2.2.2.2.2.2.2.2.2.2.2.2.2.2.2.2.2.2.2.1
 let zQ := x.2.2.2.2.2.2.2.2.2.2.2.2.2.2.2.2.2.2.2.2.2.2.2.1
 let uI := x.2.2.2.2.2.2.2.2.2.2.2.2.2.2.2.2.2.2.2.2.2.2.2.2.1
 let kS := x.2.2.2.2.2.2.2.2.2.2.2.2.2.2.2.2.2.2.2.2.2.2.2.2.2.1
 let vZ := x.2.2.2.2.2.2.2.2.2.2.2.2.2.2.2.2.2.2.2.2.2.2.2.2.2.2.1
 let wB := x.2.2.2.2.2.2.2.2.2.2.2.2.2.2.2.2.2.2.2.2.2.2.2.2.2.2.2.1
 let Aj := x.2.2.2.2.2.2.2.2.2.2.2.2.2.2.2.2.2.2.2.2.2.2.2.2.2.2.2.2.1
 let Ak := x.2.2.2.2.2.2.2.2.2.2.2.2.2.2.2.2.2.2.2.2.2.2.2.2.2.2.2.2.2.1
 let wC := x.2.2.2.2.2.2.2.2.2.2.2.2.2.2.2.2.2.2.2.2.2.2.2.2.2.2.2.2.2.2.1
 let wD := x.2.2.2.2.2.2.2.2.2.2.2.2.2.2.2.2.2.2.2.2.2.2.2.2.2.2.2.2.2.2.2.1
 let kQ := x.2.2.2.2.2.2.2.2.2.2.2.2.2.2.2.2.2.2.2.2.2.2.2.2.2.2.2.2.2.2.2.2.1
 let mY := x.2.2.2.2.2.2.2.2.2.2.2.2.2.2.2.2.2.2.2.2.2.2.2.2.2.2.2.2.2.2.2.2.2.1
 ob (oP n (qB, Jm, N19, uG, uH, fU, mG, zQ, uI, kS, vZ, wB, Aj, Ak, wC, wD, kQ, mY, ())) fun y35 =>
 some (y35.1, y35.2.1, y35.2.2.1, y35.2.2.2.1, y35.2.2.2.2.1, y35.2.2.2.2.2.1, y35.2.2.2.2.2.2.1, y35.2.2.2.2.2.2.2.1, y35.2.2.2.2.2.2.2.2.1, y35.2.2.2.2.2.2.2.2.2.1, y35.2.2.2.2.2.2.2.2.2.2.1, y35.2.2.2.2.2.2.2.2.2.2.2.1, y35.2.2.2.2.2.2.2.2.2.2.2.2.1, y35.2.2.2.2.2.2.2.2.2.2.2.2.2.1, y35.2.2.2.2.2.2.2.2.2.2.2.2.2.2.1, y35.2.2.2.2.2.2.2.2.2.2.2.2.2.2.2.1, y35.2.2.2.2.2.2.2.2.2.2.2.2.2.2.2.2.1, y35.2.2.2.2.2.2.2.2.2.2.2.2.2.2.2.2.2.1, ())
def jG (b : Int) (n : Nat) (x : (Bool × List (List dB × Bool × Unit) × List bV × Unit) × Bool × (Int × Int × Int × Int × Int × List UInt8 × List UInt8 × Bool × Bool × Bool × List (Bool × Int × Unit) × List ZLn × Unit) × List ZFl) : Option ((Int × Int × Int × Int × Int × List UInt8 × List UInt8 × Bool × Bool × Bool × List (Bool × Int × Unit) × List ZLn × Unit) × List ZFl × List ZLn) :=
 let x_0 := x.1
 let Lu := x.2.1
 let b_2 := x.2.2.1
 let t_3 := x.2.2.2
 br (b_2.1 != 1) (
  some (b_2, t_3, [])) (
  br (b_2.2.1 == (x_0.2.2.1.length : Int)) (
   ob (mF n (b_2.1, b_2.2.1, b_2.2.2.1, b_2.2.2.2.1, b_2.2.2.2.2.1, b_2.2.2.2.2.2.1, b_2.2.2.2.2.2.2.1, b_2.2.2.2.2.2.2.2.1, b_2.2.2.2.2.2.2.2.2.1, b_2.2.2.2.2.2.2.2.2.2.1, b_2.2.2.2.2.2.2.2.2.2.2.1, b_2.2.2.2.2.2.2.2.2.2.2.2.1, x_0.1, x_0.2.1, x_0.2.2.1, Lu, t_3, [], ())) fun y1 =>
   ob (pJ n (y1.1, y1.2.1, y1.2.2.1, y1.2.2.2.1, y1.2.2.2.2.1, y1.2.2.2.2.2.1, y1.2.2.2.2.2.2.1, y1.2.2.2.2.2.2.2.1, y1.2.2.2.2.2.2.2.2.1, y1.2.2.2.2.2.2.2.2.2.1, y1.2.2.2.2.2.2.2.2.2.2.1, y1.2.2.2.2.2.2.2.2.2.2.2.1, y1.2.2.2.2.2.2.2.2.2.2.2.2.1, y1.2.2.2.2.2.2.2.2.2.2.2.2.2.1, y1.2.2.2.2.2.2.2.2.2.2.2.2.2.2.1, y1.2.2.2.2.2.2.2.2.2.2.2.2.2.2.2.1, y1.2.2.2.2.2.2.2.2.2.2.2.2.2.2.2.2.1, y1.2.2.2.2.2.2.2.2.2.2.2.2.2.2.2.2.2.1, ())) fun y2 =>
   let v3 := y2.2.2.2.2.2.2.2.2.2.2.2.2.2.2.2.2.1
   some ((y2.1, (y2.2.1, (y2.2.2.1, (y2.2.2.2.1, (y2.2.2.2.2.1, (y2.2.2.2.2.2.1, (y2.2.2.2.2.2.2.1, (y2.2.2.2.2.2.2.2.1, (y2.2.2.2.2.2.2.2.2.1, (y2.2.2.2.2.2.2.2.2.2.1, (y2.2.2.2.2.2.2.2.2.2.2.1, (y2.2.2.2.2.2.2.2.2.2.2.2.1, ())))))))))))), v3, y2.2.2.2.2.2.2.2.2.2.2.2.2.2.2.2.2.2.1)) (
   chk (inB b_2.2.1 x_0.2.2.1.length) (
    let v4 : ((Int × Int × Int × Unit) × (Int × Int × Int × Unit) × Bool × Unit) × Int × List UInt8 × List UInt8 × Int × Int × Int × List (List UInt8 × Int × Unit) × Bool × Bool × Unit := bM (Ty.dflt aC) x_0.2.2.1 b_2.2.1
    ob (dK n (v4.1.1.1, v4.1.1.2.1, v4.1.1.2.2.1, v4.1.2.1.1, v4.1.2.1.2.1, v4.1.2.1.2.2.1, v4.1.2.2.1, v4.2.1, v4.2.2.1, v4.2.2.2.1, v4.2.2.2.2.1, v4.2.2.2.2.2.1, v4.2.2.2.2.2.2.1, v4.2.2.2.2.2.2.2.1, v4.2.2.2.2.2.2.2.2.1, v4.2.2.2.2.2.2.2.2.2.1, b_2.1, b_2.2.1, b_2.2.2.1, b_2.2.2.2.1, b_2.2.2.2.2.1, b_2.2.2.2.2.2.1, b_2.2.2.2.2.2.2.1, b_2.2.2.2.2.2.2.2.1, b_2.2.2.2.2.2.2.2.2.1, b_2.2.2.2.2.2.2.2.2.2.1, b_2.2.2.2.2.2.2.2.2.2.2.1, b_2.2.2.2.2.2.2.2.2.2.2.2.1, x_0.1, x_0.2.1, x_0.2.2.1, Lu, t_3, [], ())) fun y5 =>
    let v6 : Int := IntKind.wrap .i64 (y5.2.2.1 + 1)
    br y5.1 (
     chk ((v4.2.1 == b)) (
      ob (vI n (v4.1.1.1, v4.1.1.2.1, v4.1.1.2.2.1, v4.1.2.1.1, v4.1.2.1.2.1, v4.1.2.1.2.2.1, v4.1.2.2.1, v4.2.1, v4.2.2.1, v4.2.2.2.1, v4.2.2.2.2.1, v4.2.2.2.2.2.1, v4.2.2.2.2.2.2.1, v4.2.2.2.2.2.2.2.1, v4.2.2.2.2.2.2.2.2.1, v4.2.2.2.2.2.2.2.2.2.1, y5.2.1, v6, y5.2.2.2.1, y5.2.2.2.2.1, y5.2.2.2.2.2.1, y5.2.2.2.2.2.2.1, y5.2.2.2.2.2.2.2.1, y5.2.2.2.2.2.2.2.2.1, y5.2.2.2.2.2.2.2.2.2.1, y5.2.2.2.2.2.2.2.2.2.2.1, y5.2.2.2.2.2.2.2.2.2.2.2.1, y5.2.2.2.2.2.2.2.2.2.2.2.2.1, y5.2.2.2.2.2.2.2.2.2.2.2.2.2.1, y5.2.2.2.2.2.2.2.2.2.2.2.2.2.2.1, y5.2.2.2.2.2.2.2.2.2.2.2.2.2.2.2.1, y5.2.2.2.2.2.2.2.2.2.2.2.2.2.2.2.2.1, y5.2.2.2.2.2.2.2.2.2.2.2.2.2.2.2.2.2.2.1, y5.2.2.2.2.2.2.2.2.2.2.2.2.2.2.2.2.2.1, ())) fun y7 =>
      let v8 := y7.2.2.2.2.2.2.2.2.2.2.2.2.2.2.2.1
      some ((y7.1, (y7.2.1, (y7.2.2.1, (y7.2.2.2.1, (y7.2.2.2.2.1, (y7.2.2.2.2.2.1, (y7.2.2.2.2.2.2.1, (y7.2.2.2.2.2.2.2.1, (y7.2.2.2.2.2.2.2.2.1, (y7.2.2.2.2.2.2.2.2.2.1, (y7.2.2.2.2.2.2.2.2.2.2.2.2.2.2.2.2.1, (y7.2.2.2.2.2.2.2.2.2.2.1, ())))))))))))), v8, y7.2.2.2.2.2.2.2.2.2.2.2.2.2.2.2.2.2.1))) (
     br (v4.2.1 == 123) (
      let v9 : Int := IntKind.wrap .i64 (v4.2.2.2.2.2.1 + 1)
      let v10 := y5.2.2.2.2.2.2.2.2.2.2.2.2.2.2.2.2.1
      some ((y5.2.1, (v9, (y5.2.2.2.1, (y5.2.2.2.2.1, (y5.2.2.2.2.2.1, (y5.2.2.2.2.2.2.1, (y5.2.2.2.2.2.2.2.1, (y5.2.2.2.2.2.2.2.2.1, (y5.2.2.2.2.2.2.2.2.2.1, (y5.2.2.2.2.2.2.2.2.2.2.1, (y5.2.2.2.2.2.2.2.2.2.2.2.2.2.2.2.2.2.2.1, (y5.2.2.2.2.2.2.2.2.2.2.2.1, ())))))))))))), v10, y5.2.2.2.2.2.2.2.2.2.2.2.2.2.2.2.2.2.1)) (
      let v11 := y5.2.2.2.2.2.2.2.2.2.2.2.2.2.2.2.2.1
      some ((y5.2.1, (v6, (y5.2.2.2.1, (y5.2.2.2.2.1, (y5.2.2.2.2.2.1, (y5.2.2.2.2.2.2.1, (y5.2.2.2.2.2.2.2.1, (y5.2.2.2.2.2.2.2.2.1, (y5.2.2.2.2.2.2.2.2.2.1, (y5.2.2.2.2.2.2.2.2.2.2.1, (y5.2.2.2.2.2.2.2.2.2.2.2.2.2.2.2.2.2.2.1, (y5.2.2.2.2.2.2.2.2.2.2.2.1, ())))))))))))), v11, y5.2.2.2.2.2.2.2.2.2.2.2.2.2.2.2.2.2.1))))))
def mH (n : Nat) (x : Int × Int × Int × Int × Int × Int × Bool × Int × List UInt8 × List UInt8 × Int × Int × Int × List (List UInt8 × Int × Unit) × Bool × Bool × Int × Int × Int × Int × Int × List UInt8 × List UInt8 × Bool × Bool × Bool × List ZLn × Bool × List (List dB × Bool × Unit) × List bV × Bool × List ZFl × List (Bool × Int × Unit) × List ZLn × Unit) : Option (Int × Int × Int × Int × Int × List UInt8 × List UInt8 × Bool × Bool × Bool × List ZLn × Bool × List (List dB × Bool × Unit) × List bV × Bool × List ZFl × List (Bool × Int × Unit) × List ZLn × Unit) :=
 let c_1 := x.1
 let c_2 := x.2.1
 let c_3 := x.2.2.1
 let c_4 := x.2.2.2.1
 let c_5 := x.2.2.2.2.1
 let c_6 := x.2.2.2.2.2.1
 let c_7 := x.2.2.2.2.2.2.1
 let c_8 := x.2.2.2.2.2.2.2.1
 let c_9 := x.2.2.2.2.2.2.2.2.1
 let yJl := x.2.2.2.2.2.2.2.2.2.1
 let yJm := x.2.2.2.2.2.2.2.2.2.2.1
 let yJn := x.2.2.2.2.2.2.2.2.2.2.2.1
 let yJo := x.2.2.2.2.2.2.2.2.2.2.2.2.1
 let yJp := x.2.2.2.2.2.2.2.2.2.2.2.2.2.1
 let yJq := x.2.2.2.2.2.2.2.2.2.2.2.2.2.2.1
 let yJr := x.2.2.2.2.2.2.2.2.2.2.2.2.2.2.2.1
 let qB := x.2.2.2.2.2.2.2.2.2.2.2.2.2.2.2.2.1
 let Jm := x.2.2.2.2.2.2.2.2.2.2.2.2.2.2.2.2.2.1
 let N19 := x.2.2.2.2.2.2.2.2.2.2.2.2.2.2.2.2.2.2.1
 let uG := x.2.2.2.2.2.2.2.2.2.2.2.2.2.2.2.2.2.2.2.1
 let uH := x.2.2.2.2.2.2.2.2.2.2.2.2.2.2.2.2.2.2.2.2.1
 let fU := x.2.2.2.2.2.2.2.2.2.2.2.2.2.2.2.2.2.2.2.2.2.1
 let mG := x.2.2.2.2.2.2.2.2.2.2.2.2.2.2.2.2.2.2.2.2.2.2.1
 let zQ := x.2.2.2.2.2.2.2.2.2.2.2.2.2.2.2.2.2.2.2.2.2.2.2.1
 let uI := x.2.2.2.2.2.2.2.2.2.2.2.2.2.2.2.2.2.2.2.2.2.2.2.2.1
 let kS := x.2.2.2.2.2.2.2.2.2.2.2.2.2.2.2.2.2.2.2.2.2.2.2.2.2.1
 let vZ := x.2.2.2.2.2.2.2.2.2.2.2.2.2.2.2.2.2.2.2.2.2.2.2.2.2.2.1
 let wB := x.2.2.2.2.2.2.2.2.2.2.2.2.2.2.2.2.2.2.2.2.2.2.2.2.2.2.2.1
 let Aj := x.2.2.2.2.2.2.2.2.2.2.2.2.2.2.2.2.2.2.2.2.2.2.2.2.2.2.2.2.1
 let Ak := x.2.2.2.2.2.2.2.2.2.2.2.2.2.2.2.2.2.2.2.2.2.2.2.2.2.2.2.2.2.1
 let wC := x.2.2.2.2.2.2.2.2.2.2.2.2.2.2.2.2.2.2.2.2.2.2.2.2.2.2.2.2.2.2.1
 let wD := x.2.2.2.2.2.2.2.2.2.2.2.2.2.2.2.2.2.2.2.2.2.2.2.2.2.2.2.2.2.2.2.1
 let kQ := x.2.2.2.2.2.2.2.2.2.2.2.2.2.2.2.2.2.2.2.2.2.2.2.2.2.2.2.2.2.2.2.2.1
 let mY := x.2.2.2.2.2.2.2.2.2.2.2.2.2.2.2.2.2.2.2.2.2.2.2.2.2.2.2.2.2.2.2.2.2.1
 br (c_8 == 103) (
  some (qB, Jm, N19, uG, uH, mG, mG, zQ, uI, kS, vZ, wB, Aj, Ak, wC, wD, kQ, mY, ())) (
  br (c_8 == 71) (
   chk (decide ([10].length + mG.length <= iN)) (
    chk (decide (fU.length + ([10] ++ mG : List UInt8).length <= iN)) (
     let v35 : List UInt8 := fU ++ ([10] ++ mG)
     some (qB, Jm, N19, uG, uH, v35, mG, zQ, uI, kS, vZ, wB, Aj, Ak, wC, wD, kQ, mY, ())))) (
   br (c_8 == 104) (
    some (qB, Jm, N19, uG, uH, fU, fU, zQ, uI, kS, vZ, wB, Aj, Ak, wC, wD, kQ, mY, ())) (
    br (c_8 == 72) (
     chk (decide ([10].length + fU.length <= iN)) (
      chk (decide (mG.length + ([10] ++ fU : List UInt8).length <= iN)) (
       let v36 : List UInt8 := mG ++ ([10] ++ fU)
       some (qB, Jm, N19, uG, uH, fU, v36, zQ, uI, kS, vZ, wB, Aj, Ak, wC, wD, kQ, mY, ())))) (
     br (c_8 == 120) (
      some (qB, Jm, N19, uG, uH, mG, fU, zQ, uI, kS, vZ, wB, Aj, Ak, wC, wD, kQ, mY, ())) (
      some (qB, Jm, N19, uG, uH, fU, mG, zQ, uI, kS, vZ, wB, Aj, Ak, wC, wD, kQ, mY, ()))))))
def jH (b : Int) (n : Nat) (x : (Bool × List (List dB × Bool × Unit) × List bV × Unit) × Bool × (Int × Int × Int × Int × Int × List UInt8 × List UInt8 × Bool × Bool × Bool × List (Bool × Int × Unit) × List ZLn × Unit) × List ZFl) : Option ((Int × Int × Int × Int × Int × List UInt8 × List UInt8 × Bool × Bool × Bool × List (Bool × Int × Unit) × List ZLn × Unit) × List ZFl × List ZLn) :=
 let x_0 := x.1
 let Lu := x.2.1
 let b_2 := x.2.2.1
 let t_3 := x.2.2.2
 br (b_2.1 != 1) (
  some (b_2, t_3, [])) (
  br (b_2.2.1 == (x_0.2.2.1.length : Int)) (
   ob (mF n (b_2.1, b_2.2.1, b_2.2.2.1, b_2.2.2.2.1, b_2.2.2.2.2.1, b_2.2.2.2.2.2.1, b_2.2.2.2.2.2.2.1, b_2.2.2.2.2.2.2.2.1, b_2.2.2.2.2.2.2.2.2.1, b_2.2.2.2.2.2.2.2.2.2.1, b_2.2.2.2.2.2.2.2.2.2.2.1, b_2.2.2.2.2.2.2.2.2.2.2.2.1, x_0.1, x_0.2.1, x_0.2.2.1, Lu, t_3, [], ())) fun y1 =>
   ob (pJ n (y1.1, y1.2.1, y1.2.2.1, y1.2.2.2.1, y1.2.2.2.2.1, y1.2.2.2.2.2.1, y1.2.2.2.2.2.2.1, y1.2.2.2.2.2.2.2.1, y1.2.2.2.2.2.2.2.2.1, y1.2.2.2.2.2.2.2.2.2.1, y1.2.2.2.2.2.2.2.2.2.2.1, y1.2.2.2.2.2.2.2.2.2.2.2.1, y1.2.2.2.2.2.2.2.2.2.2.2.2.1, y1.2.2.2.2.2.2.2.2.2.2.2.2.2.1, y1.2.2.2.2.2.2.2.2.2.2.2.2.2.2.1, y1.2.2.2.2.2.2.2.2.2.2.2.2.2.2.2.1, y1.2.2.2.2.2.2.2.2.2.2.2.2.2.2.2.2.1, y1.2.2.2.2.2.2.2.2.2.2.2.2.2.2.2.2.2.1, ())) fun y2 =>
   let v3 := y2.2.2.2.2.2.2.2.2.2.2.2.2.2.2.2.2.1
   some ((y2.1, (y2.2.1, (y2.2.2.1, (y2.2.2.2.1, (y2.2.2.2.2.1, (y2.2.2.2.2.2.1, (y2.2.2.2.2.2.2.1, (y2.2.2.2.2.2.2.2.1, (y2.2.2.2.2.2.2.2.2.1, (y2.2.2.2.2.2.2.2.2.2.1, (y2.2.2.2.2.2.2.2.2.2.2.1, (y2.2.2.2.2.2.2.2.2.2.2.2.1, ())))))))))))), v3, y2.2.2.2.2.2.2.2.2.2.2.2.2.2.2.2.2.2.1)) (
   chk (inB b_2.2.1 x_0.2.2.1.length) (
    let v4 : ((Int × Int × Int × Unit) × (Int × Int × Int × Unit) × Bool × Unit) × Int × List UInt8 × List UInt8 × Int × Int × Int × List (List UInt8 × Int × Unit) × Bool × Bool × Unit := bM (Ty.dflt aC) x_0.2.2.1 b_2.2.1
    ob (dK n (v4.1.1.1, v4.1.1.2.1, v4.1.1.2.2.1, v4.1.2.1.1, v4.1.2.1.2.1, v4.1.2.1.2.2.1, v4.1.2.2.1, v4.2.1, v4.2.2.1, v4.2.2.2.1, v4.2.2.2.2.1, v4.2.2.2.2.2.1, v4.2.2.2.2.2.2.1, v4.2.2.2.2.2.2.2.1, v4.2.2.2.2.2.2.2.2.1, v4.2.2.2.2.2.2.2.2.2.1, b_2.1, b_2.2.1, b_2.2.2.1, b_2.2.2.2.1, b_2.2.2.2.2.1, b_2.2.2.2.2.2.1, b_2.2.2.2.2.2.2.1, b_2.2.2.2.2.2.2.2.1, b_2.2.2.2.2.2.2.2.2.1, b_2.2.2.2.2.2.2.2.2.2.1, b_2.2.2.2.2.2.2.2.2.2.2.1, b_2.2.2.2.2.2.2.2.2.2.2.2.1, x_0.1, x_0.2.1, x_0.2.2.1, Lu, t_3, [], ())) fun y5 =>
    let v6 : Int := IntKind.wrap .i64 (y5.2.2.1 + 1)
    br y5.1 (
     chk ((v4.2.1 == b)) (
      ob (mH n (v4.1.1.1, v4.1.1.2.1, v4.1.1.2.2.1, v4.1.2.1.1, v4.1.2.1.2.1, v4.1.2.1.2.2.1, v4.1.2.2.1, v4.2.1, v4.2.2.1, v4.2.2.2.1, v4.2.2.2.2.1, v4.2.2.2.2.2.1, v4.2.2.2.2.2.2.1, v4.2.2.2.2.2.2.2.1, v4.2.2.2.2.2.2.2.2.1, v4.2.2.2.2.2.2.2.2.2.1, y5.2.1, v6, y5.2.2.2.1, y5.2.2.2.2.1, y5.2.2.2.2.2.1, y5.2.2.2.2.2.2.1, y5.2.2.2.2.2.2.2.1, y5.2.2.2.2.2.2.2.2.1, y5.2.2.2.2.2.2.2.2.2.1, y5.2.2.2.2.2.2.2.2.2.2.1, y5.2.2.2.2.2.2.2.2.2.2.2.1, y5.2.2.2.2.2.2.2.2.2.2.2.2.1, y5.2.2.2.2.2.2.2.2.2.2.2.2.2.1, y5.2.2.2.2.2.2.2.2.2.2.2.2.2.2.1, y5.2.2.2.2.2.2.2.2.2.2.2.2.2.2.2.1, y5.2.2.2.2.2.2.2.2.2.2.2.2.2.2.2.2.1, y5.2.2.2.2.2.2.2.2.2.2.2.2.2.2.2.2.2.2.1, y5.2.2.2.2.2.2.2.2.2.2.2.2.2.2.2.2.2.1, ())) fun y7 =>
      let v8 := y7.2.2.2.2.2.2.2.2.2.2.2.2.2.2.2.1
      some ((y7.1, (y7.2.1, (y7.2.2.1, (y7.2.2.2.1, (y7.2.2.2.2.1, (y7.2.2.2.2.2.1, (y7.2.2.2.2.2.2.1, (y7.2.2.2.2.2.2.2.1, (y7.2.2.2.2.2.2.2.2.1, (y7.2.2.2.2.2.2.2.2.2.1, (y7.2.2.2.2.2.2.2.2.2.2.2.2.2.2.2.2.1, (y7.2.2.2.2.2.2.2.2.2.2.1, ())))))))))))), v8, y7.2.2.2.2.2.2.2.2.2.2.2.2.2.2.2.2.2.1))) (
     br (v4.2.1 == 123) (
      let v9 : Int := IntKind.wrap .i64 (v4.2.2.2.2.2.1 + 1)
      let v10 := y5.2.2.2.2.2.2.2.2.2.2.2.2.2.2.2.2.1
      some ((y5.2.1, (v9, (y5.2.2.2.1, (y5.2.2.2.2.1, (y5.2.2.2.2.2.1, (y5.2.2.2.2.2.2.1, (y5.2.2.2.2.2.2.2.1, (y5.2.2.2.2.2.2.2.2.1, (y5.2.2.2.2.2.2.2.2.2.1, (y5.2.2.2.2.2.2.2.2.2.2.1, (y5.2.2.2.2.2.2.2.2.2.2.2.2.2.2.2.2.2.2.1, (y5.2.2.2.2.2.2.2.2.2.2.2.1, ())))))))))))), v10, y5.2.2.2.2.2.2.2.2.2.2.2.2.2.2.2.2.2.1)) (
      let v11 := y5.2.2.2.2.2.2.2.2.2.2.2.2.2.2.2.2.1
      some ((y5.2.1, (v6, (y5.2.2.2.1, (y5.2.2.2.2.1, (y5.2.2.2.2.2.1, (y5.2.2.2.2.2.2.1, (y5.2.2.2.2.2.2.2.1, (y5.2.2.2.2.2.2.2.2.1, (y5.2.2.2.2.2.2.2.2.2.1, (y5.2.2.2.2.2.2.2.2.2.2.1, (y5.2.2.2.2.2.2.2.2.2.2.2.2.2.2.2.2.2.2.1, (y5.2.2.2.2.2.2.2.2.2.2.2.1, ())))))))))))), v11, y5.2.2.2.2.2.2.2.2.2.2.2.2.2.2.2.2.2.1))))))
def mI (n:Nat):=orF (jG 112 n) (orF (jH 71 n) (jH 104 n))
end
end Go.Dec
