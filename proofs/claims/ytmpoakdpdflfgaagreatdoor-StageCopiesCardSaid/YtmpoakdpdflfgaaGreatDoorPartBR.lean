/- Part of a proof over this seat: a library of my own, and what it says of this seat. No statement is proved here. -/
import Derived.Test.YtmpoakdpdflfgaaGreatDoorPartAJ
import Derived.Test.YtmpoakdpdflfgaaGreatDoorPartBQ
import Derived.Test.YtmpoakdpdflfgaaGreatDoorPartBN
namespace Go.Dec
noncomputable section
set_option linter.unusedVariables false
abbrev xZ : Ty:=.pair (.int .i64) (.pair (.arr 4 (.int .u64)) (.pair (.int .i64) (.pair (.int .i64) (.pair (.int .i64) (.pair (.int .i64) (.pair (.int .i64) .unit))))))
abbrev aR : Ty:=.pair (.slice xZ) (.pair .bool .unit)
abbrev Bg : Ty:=.pair (.int .i64) (.pair (.int .i64) (.pair (.int .i64) .unit))
abbrev Bh : Ty:=.pair Bg (.pair Bg (.pair .bool .unit))
abbrev Si : Ty:=.pair .str (.pair (.int .i64) .unit)
abbrev aG : Ty:=.pair Bh (.pair (.int .u8) (.pair .str (.pair .str (.pair (.int .i64) (.pair (.int .i64) (.pair (.int .i64) (.pair (.slice Si) (.pair .bool (.pair .bool .unit)))))))))
abbrev oO : Ty:=.pair .bool (.pair (.slice aR) (.pair (.slice aG) .unit))
abbrev zU : Ty:=.pair oO (.pair .bool (.pair (.slice .str) (.pair .bool .unit)))
abbrev aT : Ty:=.pair .str (.pair .bool .unit)
abbrev cK : Ty:=.pair .str (.pair .str .unit)
abbrev zC : Ty:=.pair (.slice aT) (.pair (.slice cK) (.pair (.int .i64) (.pair (.int .i64) .unit)))
abbrev gM : Ty:=.pair .bool (.pair (.int .i64) .unit)
abbrev bD : Ty:=.pair (.int .i64) (.pair (.int .i64) (.pair (.int .i64) (.pair (.int .i64) (.pair (.int .i64) (.pair .str (.pair .str (.pair .bool (.pair .bool (.pair .bool (.pair (.slice gM) (.pair (.slice aT) .unit)))))))))))
abbrev zFk : Ty:=.pair bD (.pair oO (.pair .bool (.pair (.slice cK) (.pair (.slice aT) .unit))))
abbrev zUb : Ty:=.pair (.int .i64) (.pair .bool (.pair (.slice .bool) .unit))
abbrev NdT : Type:=Int × List (Int) × Int × Int × Int × Int × Int × Unit
def zV (n : Nat) (x : List UInt8 × List UInt8 × List UInt8 × Unit) : Option (Bool × List UInt8 × Unit) :=
 let f_1 : List UInt8 := x.1
 let f_2 : List UInt8 := x.2.1
 let b3 : List UInt8 := x.2.2.1
 some ((f_1 == b3), b3, ())
def lI (n : Nat) (g0 : List (List UInt8 × List UInt8 × Unit) × Int × Int × List UInt8 × Unit -> Option (Int × List UInt8 × Unit)) (x3 : List (List UInt8 × List UInt8 × Unit) × Int × Int × List UInt8 × Unit) : Option (Int × List UInt8 × Unit) :=
 let s_4 : List (List UInt8 × List UInt8 × Unit) := x3.1
 let zYk : Int := x3.2.1
 let zDo : Int := x3.2.2.1
 let b7 : List UInt8 := x3.2.2.2.1
 br (decide (zDo < zYk)) (
  chk (inB zDo s_4.length) (
   let v8 : List UInt8 × List UInt8 × Unit := bZ (Ty.dflt cK) s_4 zDo
   ob (zV n (v8.1, v8.2.1, b7, ())) fun y9 =>
   br y9.1 (
    some (zDo, y9.2.1, ())) (
    let v10 : Int := IntKind.wrap .i64 (zDo + 1)
    g0 (s_4, zYk, v10, y9.2.1, ())))) (
  some ((-1), b7, ()))
def dR (n : Nat) (x : List (List UInt8 × List UInt8 × Unit) × List UInt8 × Unit) : Option (Int × List UInt8 × Unit) :=
 let s_1 : List (List UInt8 × List UInt8 × Unit) := x.1
 let b2 : List UInt8 := x.2.1
 fix (lI n) n (s_1, (s_1.length : Int), 0, b2, ())
def mV (n : Nat) (x : List (List UInt8 × List UInt8 × Unit) × List UInt8) : Option (List UInt8 × Bool) :=
 let t_0 : List (List UInt8 × List UInt8 × Unit) := x.1
 let zYl : List UInt8 := x.2
 ob (dR n (t_0, zYl, ())) fun y1 =>
 br (decide (y1.1 < 0)) (
  some ([], false)) (
  chk (inB y1.1 t_0.length) (
   let v2 : List UInt8 × List UInt8 × Unit := bZ (Ty.dflt cK) t_0 y1.1
   some (v2.2.1, true)))
def fT (n : Nat) (g1 : Int × Int × Int × List (List UInt8 × Bool × Unit) × Unit -> Option (List (List UInt8 × Bool × Unit) × Int)) (x18 : Int × Int × Int × List (List UInt8 × Bool × Unit) × Unit) : Option (List (List UInt8 × Bool × Unit) × Int) :=
 let Ym : Int := x18.1
 let zNc : Int := x18.2.1
 let Bj : Int := x18.2.2.1
 let Eo : List (List UInt8 × Bool × Unit) := x18.2.2.2.1
 br (decide (Bj < zNc)) (
  chk ((inB Bj (Eo.length) && decide (0 + (Eo.length) <= Eo.length))) (
   chk (decide (0 + Bj.toNat < Eo.length)) (
    let r23 : List (List UInt8 × Bool × Unit) := Eo.set (0 + Bj.toNat) ((Eo.getD (0 + Bj.toNat) (Ty.dflt aT)).1, (true, ()))
    let v24 : Int := IntKind.wrap .i64 (Bj + 1)
    g1 (Ym, zNc, v24, r23, ())))) (
  some (Eo, Ym))
def vI (n : Nat) (g0 : List (List UInt8 × List UInt8 × Unit) × Int × List (List UInt8) × Int × Int × List (List UInt8 × Bool × Unit) × Unit -> Option (List (List UInt8 × Bool × Unit) × Int)) (x2 : List (List UInt8 × List UInt8 × Unit) × Int × List (List UInt8) × Int × Int × List (List UInt8 × Bool × Unit) × Unit) : Option (List (List UInt8 × Bool × Unit) × Int) :=
 let t_3 : List (List UInt8 × List UInt8 × Unit) := x2.1
 let zDp : Int := x2.2.1
 let Zv : List (List UInt8) := x2.2.2.1
 let zKi : Int := x2.2.2.2.1
 let Sj : Int := x2.2.2.2.2.1
 let Wi : List (List UInt8 × Bool × Unit) := x2.2.2.2.2.2.1
 br (decide (Sj < zKi)) (
  chk (inB Sj Zv.length) (
   let v9 : List UInt8 := bZ (Ty.dflt .str) Zv Sj
   ob (mV n (t_3, v9)) fun y10 =>
   br (!y10.2) (
    ob (fK n (y10.1, ())) fun y11 =>
    chk (Nat.ble ((Wi.length + y11.1.length) * 24) room) (
     let v12 : Int := IntKind.wrap .i64 (Sj + 1)
     g0 (t_3, 2, Zv, zKi, v12, Wi ++ y11.1, ()))) (
    ob (fK n (y10.1, ())) fun y13 =>
    chk (Nat.ble ((Wi.length + y13.1.length) * 24) room) (
     let v14 : Int := IntKind.wrap .i64 (Sj + 1)
     g0 (t_3, zDp, Zv, zKi, v14, Wi ++ y13.1, ()))))) (
  let v15 : Int := ((Wi.length : Nat) : Int)
  let v16 : Int := IntKind.wrap .i64 (v15 - 1)
  let v17 : Int := if v16 > 0 then v16 else 0
  fix (fT n) n (zDp, v17, 0, Wi, ()))
def eP (n : Nat) (g1 : Int × Int × Int × List (List UInt8 × Bool × Unit) × Unit -> Option (List (List UInt8 × Bool × Unit) × Int)) (x41 : Int × Int × Int × List (List UInt8 × Bool × Unit) × Unit) : Option (List (List UInt8 × Bool × Unit) × Int) :=
 let Yn : Int := x41.1
 let zNd : Int := x41.2.1
 let Bl : Int := x41.2.2.1
 let Ep : List (List UInt8 × Bool × Unit) := x41.2.2.2.1
 br (decide (Bl < zNd)) (
  chk ((inB Bl (Ep.length) && decide (0 + (Ep.length) <= Ep.length))) (
   chk (decide (0 + Bl.toNat < Ep.length)) (
    let r46 : List (List UInt8 × Bool × Unit) := Ep.set (0 + Bl.toNat) ((Ep.getD (0 + Bl.toNat) (Ty.dflt aT)).1, (true, ()))
    let v47 : Int := IntKind.wrap .i64 (Bl + 1)
    g1 (Yn, zNd, v47, r46, ())))) (
  some (Ep, Yn))
def mW (n : Nat) (g0 : List (List UInt8 × List UInt8 × Unit) × Int × List (List UInt8) × Int × Int × List (List UInt8 × Bool × Unit) × Unit -> Option (List (List UInt8 × Bool × Unit) × Int)) (x25 : List (List UInt8 × List UInt8 × Unit) × Int × List (List UInt8) × Int × Int × List (List UInt8 × Bool × Unit) × Unit) : Option (List (List UInt8 × Bool × Unit) × Int) :=
 let zQw : List (List UInt8 × List UInt8 × Unit) := x25.1
 let Yo : Int := x25.2.1
 let Sk : List (List UInt8) := x25.2.2.1
 let zDq : Int := x25.2.2.2.1
 let Ja : Int := x25.2.2.2.2.1
 let nU : List (List UInt8 × Bool × Unit) := x25.2.2.2.2.2.1
 br (decide (Ja < zDq)) (
  chk (inB Ja Sk.length) (
   let v32 : List UInt8 := bZ (Ty.dflt .str) Sk Ja
   ob (mV n (zQw, v32)) fun y33 =>
   br (!y33.2) (
    ob (fK n (y33.1, ())) fun y34 =>
    chk (Nat.ble ((nU.length + y34.1.length) * 24) room) (
     let v35 : Int := IntKind.wrap .i64 (Ja + 1)
     g0 (zQw, 2, Sk, zDq, v35, nU ++ y34.1, ()))) (
    ob (fK n (y33.1, ())) fun y36 =>
    chk (Nat.ble ((nU.length + y36.1.length) * 24) room) (
     let v37 : Int := IntKind.wrap .i64 (Ja + 1)
     g0 (zQw, Yo, Sk, zDq, v37, nU ++ y36.1, ()))))) (
  let v38 : Int := ((nU.length : Nat) : Int)
  let v39 : Int := IntKind.wrap .i64 (v38 - 1)
  let v40 : Int := if v39 > 0 then v39 else 0
  fix (eP n) n (Yo, v40, 0, nU, ()))
def iQ (n : Nat) (x : ((Bool × List (List (NdT) × Bool × Unit) × List (((Int × Int × Int × Unit) × (Int × Int × Int × Unit) × Bool × Unit) × Int × List UInt8 × List UInt8 × Int × Int × Int × List (List UInt8 × Int × Unit) × Bool × Bool × Unit) × Unit) × Bool × List (List UInt8) × Bool × Unit) × List UInt8 × List (List UInt8 × List UInt8 × Unit)) : Option (List (List UInt8 × Bool × Unit) × Int) :=
 let g_0 : (Bool × List (List (NdT) × Bool × Unit) × List (((Int × Int × Int × Unit) × (Int × Int × Int × Unit) × Bool × Unit) × Int × List UInt8 × List UInt8 × Int × Int × Int × List (List UInt8 × Int × Unit) × Bool × Bool × Unit) × Unit) × Bool × List (List UInt8) × Bool × Unit := x.1
 let zQx : List UInt8 := x.2.1
 let t_2 : List (List UInt8 × List UInt8 × Unit) := x.2.2
 br g_0.2.2.2.1 (
  some ([], 0)) (
  br ((g_0.2.2.1.length : Int) == 0) (
   ob (fK n (zQx, ())) fun y1 =>
   fix (vI n) n (t_2, 0, g_0.2.2.1, (g_0.2.2.1.length : Int), 0, y1.1, ())) (
   fix (mW n) n (t_2, 0, g_0.2.2.1, (g_0.2.2.1.length : Int), 0, [], ())))
def Er (n : Nat) (x : Bool × List (List (NdT) × Bool × Unit) × List (((Int × Int × Int × Unit) × (Int × Int × Int × Unit) × Bool × Unit) × Int × List UInt8 × List UInt8 × Int × Int × Int × List (List UInt8 × Int × Unit) × Bool × Bool × Unit) × Unit) : Option (Int × Int × Int × Int × Int × List UInt8 × List UInt8 × Bool × Bool × Bool × List (Bool × Int × Unit) × List (List UInt8 × Bool × Unit) × Unit) :=
 let x_0 : Bool × List (List (NdT) × Bool × Unit) × List (((Int × Int × Int × Unit) × (Int × Int × Int × Unit) × Bool × Unit) × Int × List UInt8 × List UInt8 × Int × Int × Int × List (List UInt8 × Int × Unit) × Bool × Bool × Unit) × Unit := x
 chk ((decide (0 <= (x_0.2.2.1.length : Int)) && (decide ((x_0.2.2.1.length : Int) = (x_0.2.2.1.length : Int)) && Nat.ble ((x_0.2.2.1.length : Int).toNat * 16) room))) (
  let r1 : List (Bool × Int × Unit) := List.replicate (x_0.2.2.1.length : Int).toNat (false, (0, ()))
  some (0, (0, (0, (0, ((-1), ([], ([], (false, (false, (false, (r1, ([], ())))))))))))))
def jW (n : Nat) (x : Int × Int × Int × Int × Int × List UInt8 × List UInt8 × Bool × Bool × Bool × List (Bool × Int × Unit) × List (List UInt8 × Bool × Unit) × Unit) : Option (Int × Int × Int × Int × Int × List UInt8 × List UInt8 × Bool × Bool × Bool × List (Bool × Int × Unit) × List (List UInt8 × Bool × Unit) × Unit) :=
 let b_0 : Int × Int × Int × Int × Int × List UInt8 × List UInt8 × Bool × Bool × Bool × List (Bool × Int × Unit) × List (List UInt8 × Bool × Unit) × Unit := x
 br (b_0.1 == 0) (
  some (4, b_0.2)) (
  some b_0)
def kS (n : Nat) (x : (Int × Int × Int × Int × Int × List UInt8 × List UInt8 × Bool × Bool × Bool × List (Bool × Int × Unit) × List (List UInt8 × Bool × Unit) × Unit) × (List UInt8 × Bool × Unit) × Bool) : Option (Int × Int × Int × Int × Int × List UInt8 × List UInt8 × Bool × Bool × Bool × List (Bool × Int × Unit) × List (List UInt8 × Bool × Unit) × Unit) :=
 let b_0 : Int × Int × Int × Int × Int × List UInt8 × List UInt8 × Bool × Bool × Bool × List (Bool × Int × Unit) × List (List UInt8 × Bool × Unit) × Unit := x.1
 let l_1 : List UInt8 × Bool × Unit := x.2.1
 let zDr : Bool := x.2.2
 br (b_0.1 == 0) (
  let v1 : Int := IntKind.wrap .i64 (b_0.2.2.1 + 1)
  some (1, (0, (v1, (b_0.2.2.2.1, (b_0.2.2.2.2.1, (l_1.1, (b_0.2.2.2.2.2.2.1, (l_1.2.1, (zDr, b_0.2.2.2.2.2.2.2.2.2)))))))))) (
  br (b_0.1 == 2) (
   let v2 : Int := IntKind.wrap .i64 (b_0.2.1 + 1)
   let v3 : Int := IntKind.wrap .i64 (b_0.2.2.1 + 1)
   some (1, (v2, (v3, (b_0.2.2.2.1, (b_0.2.2.2.2.1, (l_1.1, (b_0.2.2.2.2.2.2.1, (l_1.2.1, (zDr, b_0.2.2.2.2.2.2.2.2.2)))))))))) (
   br (b_0.1 == 3) (
    let v4 : Int := IntKind.wrap .i64 (b_0.2.1 + 1)
    chk (decide (b_0.2.2.2.2.2.1.length + ([10] : List UInt8).length <= Ac)) (
     chk (decide ((b_0.2.2.2.2.2.1 ++ [10]).length + l_1.1.length <= Ac)) (
      let v5 : List UInt8 := (b_0.2.2.2.2.2.1 ++ [10]) ++ l_1.1
      let v6 : Int := IntKind.wrap .i64 (b_0.2.2.1 + 1)
      some (1, (v4, (v6, (b_0.2.2.2.1, (b_0.2.2.2.2.1, (v5, (b_0.2.2.2.2.2.2.1, (l_1.2.1, (zDr, b_0.2.2.2.2.2.2.2.2.2)))))))))))) (
    some b_0)))
def jP (n : Nat) (x : List UInt8 × Bool × Int × Int × Int × Int × Int × List UInt8 × List UInt8 × Bool × Bool × Bool × List (Bool × Int × Unit) × List (List UInt8 × Bool × Unit) × Bool × List (List (NdT) × Bool × Unit) × List (((Int × Int × Int × Unit) × (Int × Int × Int × Unit) × Bool × Unit) × Int × List UInt8 × List UInt8 × Int × Int × Int × List (List UInt8 × Int × Unit) × Bool × Bool × Unit) × Bool × List (List UInt8 × List UInt8 × Unit) × List (List UInt8 × Bool × Unit) × Unit) : Option (Int × Int × Int × Int × Int × List UInt8 × List UInt8 × Bool × Bool × Bool × List (Bool × Int × Unit) × List (List UInt8 × Bool × Unit) × Bool × List (List (NdT) × Bool × Unit) × List (((Int × Int × Int × Unit) × (Int × Int × Int × Unit) × Bool × Unit) × Int × List UInt8 × List UInt8 × Int × Int × Int × List (List UInt8 × Int × Unit) × Bool × Bool × Unit) × Bool × List (List UInt8 × List UInt8 × Unit) × List (List UInt8 × Bool × Unit) × Unit) :=
 let s_1 : List UInt8 := x.1
 let zYm : Bool := x.2.1
 let zYn : Int := x.2.2.1
 let PC4 : Int := x.2.2.2.1
 let N5 : Int := x.2.2.2.2.1
 let zZr : Int := x.2.2.2.2.2.1
 let zZs : Int := x.2.2.2.2.2.2.1
 let zQy : List UInt8 := x.2.2.2.2.2.2.2.1
 let zZt : List UInt8 := x.2.2.2.2.2.2.2.2.1
 let zZu : Bool := x.2.2.2.2.2.2.2.2.2.1
 let zYo : Bool := x.2.2.2.2.2.2.2.2.2.2.1
 let zNe : Bool := x.2.2.2.2.2.2.2.2.2.2.2.1
 let zQz : List (Bool × Int × Unit) := x.2.2.2.2.2.2.2.2.2.2.2.2.1
 let zUc : List (List UInt8 × Bool × Unit) := x.2.2.2.2.2.2.2.2.2.2.2.2.2.1
 let zUd : Bool := x.2.2.2.2.2.2.2.2.2.2.2.2.2.2.1
 let zYp : List (List (NdT) × Bool × Unit) := x.2.2.2.2.2.2.2.2.2.2.2.2.2.2.2.1
 let zYq : List (((Int × Int × Int × Unit) × (Int × Int × Int × Unit) × Bool × Unit) × Int × List UInt8 × List UInt8 × Int × Int × Int × List (List UInt8 × Int × Unit) × Bool × Bool × Unit) := x.2.2.2.2.2.2.2.2.2.2.2.2.2.2.2.2.1
 let zUe : Bool := x.2.2.2.2.2.2.2.2.2.2.2.2.2.2.2.2.2.1
 let zUf : List (List UInt8 × List UInt8 × Unit) := x.2.2.2.2.2.2.2.2.2.2.2.2.2.2.2.2.2.2.1
 let zRw : List (List UInt8 × Bool × Unit) := x.2.2.2.2.2.2.2.2.2.2.2.2.2.2.2.2.2.2.2.1
 chk (Nat.ble ((zRw.length + ([(s_1, (zYm, ()))] : List (List UInt8 × Bool × Unit)).length) * 24) room) (
  let r21 : List (List UInt8 × Bool × Unit) := zRw ++ [(s_1, (zYm, ()))]
  some (zYn, PC4, N5, zZr, zZs, zQy, zZt, zZu, zYo, zNe, zQz, zUc, zUd, zYp, zYq, zUe, zUf, r21, ()))
def oF (n : Nat) (x : Int × Int × Int × Int × Int × List UInt8 × List UInt8 × Bool × Bool × Bool × List (Bool × Int × Unit) × List (List UInt8 × Bool × Unit) × Bool × List (List (NdT) × Bool × Unit) × List (((Int × Int × Int × Unit) × (Int × Int × Int × Unit) × Bool × Unit) × Int × List UInt8 × List UInt8 × Int × Int × Int × List (List UInt8 × Int × Unit) × Bool × Bool × Unit) × Bool × List (List UInt8 × List UInt8 × Unit) × List (List UInt8 × Bool × Unit) × Unit) : Option (Int × Int × Int × Int × Int × List UInt8 × List UInt8 × Bool × Bool × Bool × List (Bool × Int × Unit) × List (List UInt8 × Bool × Unit) × Bool × List (List (NdT) × Bool × Unit) × List (((Int × Int × Int × Unit) × (Int × Int × Int × Unit) × Bool × Unit) × Int × List UInt8 × List UInt8 × Int × Int × Int × List (List UInt8 × Int × Unit) × Bool × Bool × Unit) × Bool × List (List UInt8 × List UInt8 × Unit) × List (List UInt8 × Bool × Unit) × Unit) :=
 let rC : Int := x.1
 let PC2 : Int := x.2.1
 let N3 : Int := x.2.2.1
 let wK : Int := x.2.2.2.1
 let wL : Int := x.2.2.2.2.1
 let kE : List UInt8 := x.2.2.2.2.2.1
 let wM : List UInt8 := x.2.2.2.2.2.2.1
 let zW : Bool := x.2.2.2.2.2.2.2.1
 let wN : Bool := x.2.2.2.2.2.2.2.2.1
 let jX : Bool := x.2.2.2.2.2.2.2.2.2.1
 let lJ : List (Bool × Int × Unit) := x.2.2.2.2.2.2.2.2.2.2.1
 let kP : List (List UInt8 × Bool × Unit) := x.2.2.2.2.2.2.2.2.2.2.2.1
 let gI : Bool := x.2.2.2.2.2.2.2.2.2.2.2.2.1
 let rD : List (List (NdT) × Bool × Unit) := x.2.2.2.2.2.2.2.2.2.2.2.2.2.1
 let rE : List (((Int × Int × Int × Unit) × (Int × Int × Int × Unit) × Bool × Unit) × Int × List UInt8 × List UInt8 × Int × Int × Int × List (List UInt8 × Int × Unit) × Bool × Bool × Unit) := x.2.2.2.2.2.2.2.2.2.2.2.2.2.2.1
 let lY : Bool := x.2.2.2.2.2.2.2.2.2.2.2.2.2.2.2.1
 let nV : List (List UInt8 × List UInt8 × Unit) := x.2.2.2.2.2.2.2.2.2.2.2.2.2.2.2.2.1
 let wO : List (List UInt8 × Bool × Unit) := x.2.2.2.2.2.2.2.2.2.2.2.2.2.2.2.2.2.1
 ob (jP n (kE, zW, rC, PC2, N3, wK, wL, kE, wM, zW, wN, jX, lJ, kP, gI, rD, rE, lY, nV, wO, ())) fun y19 =>
 some (y19.1, y19.2.1, y19.2.2.1, y19.2.2.2.1, y19.2.2.2.2.1, y19.2.2.2.2.2.1, y19.2.2.2.2.2.2.1, y19.2.2.2.2.2.2.2.1, y19.2.2.2.2.2.2.2.2.1, y19.2.2.2.2.2.2.2.2.2.1, y19.2.2.2.2.2.2.2.2.2.2.1, y19.2.2.2.2.2.2.2.2.2.2.2.1, y19.2.2.2.2.2.2.2.2.2.2.2.2.1, y19.2.2.2.2.2.2.2.2.2.2.2.2.2.1, y19.2.2.2.2.2.2.2.2.2.2.2.2.2.2.1, y19.2.2.2.2.2.2.2.2.2.2.2.2.2.2.2.1, y19.2.2.2.2.2.2.2.2.2.2.2.2.2.2.2.2.1, y19.2.2.2.2.2.2.2.2.2.2.2.2.2.2.2.2.2.1, ())
def rF (n : Nat) (x : Int × Int × Int × Int × Int × List UInt8 × List UInt8 × Bool × Bool × Bool × List (Bool × Int × Unit) × List (List UInt8 × Bool × Unit) × Bool × List (List (NdT) × Bool × Unit) × List (((Int × Int × Int × Unit) × (Int × Int × Int × Unit) × Bool × Unit) × Int × List UInt8 × List UInt8 × Int × Int × Int × List (List UInt8 × Int × Unit) × Bool × Bool × Unit) × Bool × List (List UInt8 × List UInt8 × Unit) × List (List UInt8 × Bool × Unit) × Unit) : Option (Int × Int × Int × Int × Int × List UInt8 × List UInt8 × Bool × Bool × Bool × List (Bool × Int × Unit) × List (List UInt8 × Bool × Unit) × Bool × List (List (NdT) × Bool × Unit) × List (((Int × Int × Int × Unit) × (Int × Int × Int × Unit) × Bool × Unit) × Int × List UInt8 × List UInt8 × Int × Int × Int × List (List UInt8 × Int × Unit) × Bool × Bool × Unit) × Bool × List (List UInt8 × List UInt8 × Unit) × List (List UInt8 × Bool × Unit) × Unit) :=
 let rC : Int := x.1
 let PC2 : Int := x.2.1
 let N3 : Int := x.2.2.1
 let wK : Int := x.2.2.2.1
 let wL : Int := x.2.2.2.2.1
 let kE : List UInt8 := x.2.2.2.2.2.1
 let wM : List UInt8 := x.2.2.2.2.2.2.1
 let zW : Bool := x.2.2.2.2.2.2.2.1
 let wN : Bool := x.2.2.2.2.2.2.2.2.1
 let jX : Bool := x.2.2.2.2.2.2.2.2.2.1
 let lJ : List (Bool × Int × Unit) := x.2.2.2.2.2.2.2.2.2.2.1
 let kP : List (List UInt8 × Bool × Unit) := x.2.2.2.2.2.2.2.2.2.2.2.1
 let gI : Bool := x.2.2.2.2.2.2.2.2.2.2.2.2.1
 let rD : List (List (NdT) × Bool × Unit) := x.2.2.2.2.2.2.2.2.2.2.2.2.2.1
 let rE : List (((Int × Int × Int × Unit) × (Int × Int × Int × Unit) × Bool × Unit) × Int × List UInt8 × List UInt8 × Int × Int × Int × List (List UInt8 × Int × Unit) × Bool × Bool × Unit) := x.2.2.2.2.2.2.2.2.2.2.2.2.2.2.1
 let lY : Bool := x.2.2.2.2.2.2.2.2.2.2.2.2.2.2.2.1
 let nV : List (List UInt8 × List UInt8 × Unit) := x.2.2.2.2.2.2.2.2.2.2.2.2.2.2.2.2.1
 let wO : List (List UInt8 × Bool × Unit) := x.2.2.2.2.2.2.2.2.2.2.2.2.2.2.2.2.2.1
 br (!lY) (
  br (!gI) (
   ob (oF n (rC, PC2, N3, wK, wL, kE, wM, zW, wN, jX, lJ, kP, gI, rD, rE, lY, nV, wO, ())) fun y19 =>
   some (y19.1, y19.2.1, y19.2.2.1, y19.2.2.2.1, y19.2.2.2.2.1, y19.2.2.2.2.2.1, y19.2.2.2.2.2.2.1, y19.2.2.2.2.2.2.2.1, y19.2.2.2.2.2.2.2.2.1, y19.2.2.2.2.2.2.2.2.2.1, y19.2.2.2.2.2.2.2.2.2.2.1, y19.2.2.2.2.2.2.2.2.2.2.2.1, y19.2.2.2.2.2.2.2.2.2.2.2.2.1, y19.2.2.2.2.2.2.2.2.2.2.2.2.2.1, y19.2.2.2.2.2.2.2.2.2.2.2.2.2.2.1, y19.2.2.2.2.2.2.2.2.2.2.2.2.2.2.2.1, y19.2.2.2.2.2.2.2.2.2.2.2.2.2.2.2.2.1, y19.2.2.2.2.2.2.2.2.2.2.2.2.2.2.2.2.2.1, ())) (
   some (rC, PC2, N3, wK, wL, kE, wM, zW, wN, jX, lJ, kP, gI, rD, rE, lY, nV, wO, ()))) (
  some (rC, PC2, N3, wK, wL, kE, wM, zW, wN, jX, lJ, kP, gI, rD, rE, lY, nV, wO, ()))
def fO (n : Nat) (x : List UInt8 × List UInt8) : Option (Bool) :=
 let s_0 : List UInt8 := x.1
 let mX : List UInt8 := x.2
 br (decide ((s_0.length : Int) ≥ (mX.length : Int))) (
  let v1 : Int := IntKind.wrap .i64 ((s_0.length : Int) - (mX.length : Int))
  chk ((decide (0 <= v1) && decide (v1 <= (s_0.length : Int)))) (
   some ((s_0.drop v1.toNat) == mX))) (
  some false)
def fP (n : Nat) (x : List UInt8 × List UInt8) : Option (List UInt8 × Bool) :=
 let s_0 : List UInt8 := x.1
 let mX : List UInt8 := x.2
 ob (fO n (s_0, mX)) fun y1 =>
 br (!y1) (
  some (s_0, false)) (
  let v2 : Int := IntKind.wrap .i64 ((s_0.length : Int) - (mX.length : Int))
  chk ((decide (0 <= v2) && decide (v2 <= (s_0.length : Int)))) (
   some (s_0.take v2.toNat, true)))
def strings_CutSuffix (n : Nat) (x : List UInt8 × List UInt8) : Option (List UInt8 × Bool) :=
 let s_0 : List UInt8 := x.1
 let mX : List UInt8 := x.2
 ob (fP n (s_0, mX)) fun y1 =>
 some (y1.1, y1.2)
def Bn (n : Nat) (g0 : List (List UInt8 × Bool × Unit) × Int × Int × Int × Int × Int × Int × Int × List UInt8 × List UInt8 × Bool × Bool × Bool × List (Bool × Int × Unit) × List (List UInt8 × Bool × Unit) × Bool × List (List (NdT) × Bool × Unit) × List (((Int × Int × Int × Unit) × (Int × Int × Int × Unit) × Bool × Unit) × Int × List UInt8 × List UInt8 × Int × Int × Int × List (List UInt8 × Int × Unit) × Bool × Bool × Unit) × Bool × List (List UInt8 × List UInt8 × Unit) × List (List UInt8 × Bool × Unit) × Unit -> Option (Int × Int × Int × Int × Int × List UInt8 × List UInt8 × Bool × Bool × Bool × List (Bool × Int × Unit) × List (List UInt8 × Bool × Unit) × Bool × List (List (NdT) × Bool × Unit) × List (((Int × Int × Int × Unit) × (Int × Int × Int × Unit) × Bool × Unit) × Int × List UInt8 × List UInt8 × Int × Int × Int × List (List UInt8 × Int × Unit) × Bool × Bool × Unit) × Bool × List (List UInt8 × List UInt8 × Unit) × List (List UInt8 × Bool × Unit) × Unit)) (x19 : List (List UInt8 × Bool × Unit) × Int × Int × Int × Int × Int × Int × Int × List UInt8 × List UInt8 × Bool × Bool × Bool × List (Bool × Int × Unit) × List (List UInt8 × Bool × Unit) × Bool × List (List (NdT) × Bool × Unit) × List (((Int × Int × Int × Unit) × (Int × Int × Int × Unit) × Bool × Unit) × Int × List UInt8 × List UInt8 × Int × Int × Int × List (List UInt8 × Int × Unit) × Bool × Bool × Unit) × Bool × List (List UInt8 × List UInt8 × Unit) × List (List UInt8 × Bool × Unit) × Unit) : Option (Int × Int × Int × Int × Int × List UInt8 × List UInt8 × Bool × Bool × Bool × List (Bool × Int × Unit) × List (List UInt8 × Bool × Unit) × Bool × List (List (NdT) × Bool × Unit) × List (((Int × Int × Int × Unit) × (Int × Int × Int × Unit) × Bool × Unit) × Int × List UInt8 × List UInt8 × Int × Int × Int × List (List UInt8 × Int × Unit) × Bool × Bool × Unit) × Bool × List (List UInt8 × List UInt8 × Unit) × List (List UInt8 × Bool × Unit) × Unit) :=
 let Jb : List (List UInt8 × Bool × Unit) := x19.1
 let Sl : Int := x19.2.1
 let Bo : Int := x19.2.2.1
 let Kn : Int := x19.2.2.2.1
 let zKj : Int := x19.2.2.2.2.1
 let N25 : Int := x19.2.2.2.2.2.1
 let Sm : Int := x19.2.2.2.2.2.2.1
 let Sn : Int := x19.2.2.2.2.2.2.2.1
 let zD : List UInt8 := x19.2.2.2.2.2.2.2.2.1
 let Sq : List UInt8 := x19.2.2.2.2.2.2.2.2.2.1
 let Zw : Bool := x19.2.2.2.2.2.2.2.2.2.2.1
 let Sr : Bool := x19.2.2.2.2.2.2.2.2.2.2.2.1
 let zF : Bool := x19.2.2.2.2.2.2.2.2.2.2.2.2.1
 let Es : List (Bool × Int × Unit) := x19.2.2.2.2.2.2.2.2.2.2.2.2.2.1
 let Wj : List (List UInt8 × Bool × Unit) := x19.2.2.2.2.2.2.2.2.2.2.2.2.2.2.1
 let Ko : Bool := x19.2.2.2.2.2.2.2.2.2.2.2.2.2.2.2.1
 let Sv : List (List (NdT) × Bool × Unit) := x19.2.2.2.2.2.2.2.2.2.2.2.2.2.2.2.2.1
 let Sw : List (((Int × Int × Int × Unit) × (Int × Int × Int × Unit) × Bool × Unit) × Int × List UInt8 × List UInt8 × Int × Int × Int × List (List UInt8 × Int × Unit) × Bool × Bool × Unit) := x19.2.2.2.2.2.2.2.2.2.2.2.2.2.2.2.2.2.1
 let Kq : Bool := x19.2.2.2.2.2.2.2.2.2.2.2.2.2.2.2.2.2.2.1
 let Bp : List (List UInt8 × List UInt8 × Unit) := x19.2.2.2.2.2.2.2.2.2.2.2.2.2.2.2.2.2.2.2.1
 let Zx : List (List UInt8 × Bool × Unit) := x19.2.2.2.2.2.2.2.2.2.2.2.2.2.2.2.2.2.2.2.2.1
 br (decide (Bo < Sl)) (
  chk (inB Bo Jb.length) (
   let v41 : List UInt8 × Bool × Unit := bZ (Ty.dflt aT) Jb Bo
   br (!v41.2.1) (
    ob (jP n (v41.1, true, Kn, zKj, N25, Sm, Sn, zD, Sq, Zw, Sr, zF, Es, Wj, Ko, Sv, Sw, Kq, Bp, Zx, ())) fun y42 =>
    let v43 : Int := IntKind.wrap .i64 (Bo + 1)
    g0 (Jb, Sl, v43, y42.1, y42.2.1, y42.2.2.1, y42.2.2.2.1, y42.2.2.2.2.1, y42.2.2.2.2.2.1, y42.2.2.2.2.2.2.1, y42.2.2.2.2.2.2.2.1, y42.2.2.2.2.2.2.2.2.1, y42.2.2.2.2.2.2.2.2.2.1, y42.2.2.2.2.2.2.2.2.2.2.1, y42.2.2.2.2.2.2.2.2.2.2.2.1, y42.2.2.2.2.2.2.2.2.2.2.2.2.1, y42.2.2.2.2.2.2.2.2.2.2.2.2.2.1, y42.2.2.2.2.2.2.2.2.2.2.2.2.2.2.1, y42.2.2.2.2.2.2.2.2.2.2.2.2.2.2.2.1, y42.2.2.2.2.2.2.2.2.2.2.2.2.2.2.2.2.1, y42.2.2.2.2.2.2.2.2.2.2.2.2.2.2.2.2.2.1, ())) (
    ob (mV n (Bp, v41.1)) fun y44 =>
    br (!(y44.1 == [])) (
     ob (strings_CutSuffix n (y44.1, [10])) fun y45 =>
     ob (jP n (y45.1, y45.2, Kn, zKj, N25, Sm, Sn, zD, Sq, Zw, Sr, zF, Es, Wj, Ko, Sv, Sw, Kq, Bp, Zx, ())) fun y46 =>
     let v47 : Int := IntKind.wrap .i64 (Bo + 1)
     g0 (Jb, Sl, v47, y46.1, y46.2.1, y46.2.2.1, y46.2.2.2.1, y46.2.2.2.2.1, y46.2.2.2.2.2.1, y46.2.2.2.2.2.2.1, y46.2.2.2.2.2.2.2.1, y46.2.2.2.2.2.2.2.2.1, y46.2.2.2.2.2.2.2.2.2.1, y46.2.2.2.2.2.2.2.2.2.2.1, y46.2.2.2.2.2.2.2.2.2.2.2.1, y46.2.2.2.2.2.2.2.2.2.2.2.2.1, y46.2.2.2.2.2.2.2.2.2.2.2.2.2.1, y46.2.2.2.2.2.2.2.2.2.2.2.2.2.2.1, y46.2.2.2.2.2.2.2.2.2.2.2.2.2.2.2.1, y46.2.2.2.2.2.2.2.2.2.2.2.2.2.2.2.2.1, y46.2.2.2.2.2.2.2.2.2.2.2.2.2.2.2.2.2.1, ())) (
     let v48 : Int := IntKind.wrap .i64 (Bo + 1)
     g0 (Jb, Sl, v48, Kn, zKj, N25, Sm, Sn, zD, Sq, Zw, Sr, zF, Es, Wj, Ko, Sv, Sw, Kq, Bp, Zx, ()))))) (
  some (Kn, zKj, N25, Sm, Sn, zD, Sq, Zw, Sr, zF, Es, [], Ko, Sv, Sw, Kq, Bp, Zx, ()))
def rG (n : Nat) (x : Int × Int × Int × Int × Int × List UInt8 × List UInt8 × Bool × Bool × Bool × List (Bool × Int × Unit) × List (List UInt8 × Bool × Unit) × Bool × List (List (NdT) × Bool × Unit) × List (((Int × Int × Int × Unit) × (Int × Int × Int × Unit) × Bool × Unit) × Int × List UInt8 × List UInt8 × Int × Int × Int × List (List UInt8 × Int × Unit) × Bool × Bool × Unit) × Bool × List (List UInt8 × List UInt8 × Unit) × List (List UInt8 × Bool × Unit) × Unit) : Option (Int × Int × Int × Int × Int × List UInt8 × List UInt8 × Bool × Bool × Bool × List (Bool × Int × Unit) × List (List UInt8 × Bool × Unit) × Bool × List (List (NdT) × Bool × Unit) × List (((Int × Int × Int × Unit) × (Int × Int × Int × Unit) × Bool × Unit) × Int × List UInt8 × List UInt8 × Int × Int × Int × List (List UInt8 × Int × Unit) × Bool × Bool × Unit) × Bool × List (List UInt8 × List UInt8 × Unit) × List (List UInt8 × Bool × Unit) × Unit) :=
 let rC : Int := x.1
 let PC2 : Int := x.2.1
 let N3 : Int := x.2.2.1
 let wK : Int := x.2.2.2.1
 let wL : Int := x.2.2.2.2.1
 let kE : List UInt8 := x.2.2.2.2.2.1
 let wM : List UInt8 := x.2.2.2.2.2.2.1
 let zW : Bool := x.2.2.2.2.2.2.2.1
 let wN : Bool := x.2.2.2.2.2.2.2.2.1
 let jX : Bool := x.2.2.2.2.2.2.2.2.2.1
 let lJ : List (Bool × Int × Unit) := x.2.2.2.2.2.2.2.2.2.2.1
 let kP : List (List UInt8 × Bool × Unit) := x.2.2.2.2.2.2.2.2.2.2.2.1
 let gI : Bool := x.2.2.2.2.2.2.2.2.2.2.2.2.1
 let rD : List (List (NdT) × Bool × Unit) := x.2.2.2.2.2.2.2.2.2.2.2.2.2.1
 let rE : List (((Int × Int × Int × Unit) × (Int × Int × Int × Unit) × Bool × Unit) × Int × List UInt8 × List UInt8 × Int × Int × Int × List (List UInt8 × Int × Unit) × Bool × Bool × Unit) := x.2.2.2.2.2.2.2.2.2.2.2.2.2.2.1
 let lY : Bool := x.2.2.2.2.2.2.2.2.2.2.2.2.2.2.2.1
 let nV : List (List UInt8 × List UInt8 × Unit) := x.2.2.2.2.2.2.2.2.2.2.2.2.2.2.2.2.1
 let wO : List (List UInt8 × Bool × Unit) := x.2.2.2.2.2.2.2.2.2.2.2.2.2.2.2.2.2.1
 fix (Bn n) n (kP, (kP.length : Int), 0, rC, PC2, N3, wK, wL, kE, wM, zW, wN, jX, lJ, kP, gI, rD, rE, lY, nV, wO, ())
def vF (n : Nat) (x : Int × Int × Int × Int × Int × List UInt8 × List UInt8 × Bool × Bool × Bool × List (Bool × Int × Unit) × List (List UInt8 × Bool × Unit) × Bool × List (List (NdT) × Bool × Unit) × List (((Int × Int × Int × Unit) × (Int × Int × Int × Unit) × Bool × Unit) × Int × List UInt8 × List UInt8 × Int × Int × Int × List (List UInt8 × Int × Unit) × Bool × Bool × Unit) × Bool × List (List UInt8 × List UInt8 × Unit) × List (List UInt8 × Bool × Unit) × Unit) : Option (Int × Int × Int × Int × Int × List UInt8 × List UInt8 × Bool × Bool × Bool × List (Bool × Int × Unit) × List (List UInt8 × Bool × Unit) × Bool × List (List (NdT) × Bool × Unit) × List (((Int × Int × Int × Unit) × (Int × Int × Int × Unit) × Bool × Unit) × Int × List UInt8 × List UInt8 × Int × Int × Int × List (List UInt8 × Int × Unit) × Bool × Bool × Unit) × Bool × List (List UInt8 × List UInt8 × Unit) × List (List UInt8 × Bool × Unit) × Unit) :=
 let rC : Int := x.1
 let PC2 : Int := x.2.1
 let N3 : Int := x.2.2.1
 let wK : Int := x.2.2.2.1
 let wL : Int := x.2.2.2.2.1
 let kE : List UInt8 := x.2.2.2.2.2.1
 let wM : List UInt8 := x.2.2.2.2.2.2.1
 let zW : Bool := x.2.2.2.2.2.2.2.1
 let wN : Bool := x.2.2.2.2.2.2.2.2.1
 let jX : Bool := x.2.2.2.2.2.2.2.2.2.1
 let lJ : List (Bool × Int × Unit) := x.2.2.2.2.2.2.2.2.2.2.1
 let kP : List (List UInt8 × Bool × Unit) := x.2.2.2.2.2.2.2.2.2.2.2.1
 let gI : Bool := x.2.2.2.2.2.2.2.2.2.2.2.2.1
 let rD : List (List (NdT) × Bool × Unit) := x.2.2.2.2.2.2.2.2.2.2.2.2.2.1
 let rE : List (((Int × Int × Int × Unit) × (Int × Int × Int × Unit) × Bool × Unit) × Int × List UInt8 × List UInt8 × Int × Int × Int × List (List UInt8 × Int × Unit) × Bool × Bool × Unit) := x.2.2.2.2.2.2.2.2.2.2.2.2.2.2.1
 let lY : Bool := x.2.2.2.2.2.2.2.2.2.2.2.2.2.2.2.1
 let nV : List (List UInt8 × List UInt8 × Unit) := x.2.2.2.2.2.2.2.2.2.2.2.2.2.2.2.2.1
 let wO : List (List UInt8 × Bool × Unit) := x.2.2.2.2.2.2.2.2.2.2.2.2.2.2.2.2.2.1
 ob (rG n (rC, PC2, N3, wK, wL, kE, wM, zW, wN, jX, lJ, kP, gI, rD, rE, lY, nV, wO, ())) fun y19 =>
 some (0, y19.2.1, y19.2.2.1, y19.2.2.2.1, y19.2.2.2.2.1, y19.2.2.2.2.2.1, y19.2.2.2.2.2.2.1, y19.2.2.2.2.2.2.2.1, y19.2.2.2.2.2.2.2.2.1, y19.2.2.2.2.2.2.2.2.2.1, y19.2.2.2.2.2.2.2.2.2.2.1, y19.2.2.2.2.2.2.2.2.2.2.2.1, y19.2.2.2.2.2.2.2.2.2.2.2.2.1, y19.2.2.2.2.2.2.2.2.2.2.2.2.2.1, y19.2.2.2.2.2.2.2.2.2.2.2.2.2.2.1, y19.2.2.2.2.2.2.2.2.2.2.2.2.2.2.2.1, y19.2.2.2.2.2.2.2.2.2.2.2.2.2.2.2.2.1, y19.2.2.2.2.2.2.2.2.2.2.2.2.2.2.2.2.2.1, ())
def kF (_n : Nat) (x : List (Bool × Int × Unit) × Unit) : Option (List (Bool × Int × Unit) × Unit):=zLt 16 x
def Bq (n : Nat) (g0 : Int × Int × Int × Int × Int × Int × Int × List UInt8 × List UInt8 × Bool × Bool × Bool × List (Bool × Int × Unit) × List (List UInt8 × Bool × Unit) × Bool × List (List (NdT) × Bool × Unit) × List (((Int × Int × Int × Unit) × (Int × Int × Int × Unit) × Bool × Unit) × Int × List UInt8 × List UInt8 × Int × Int × Int × List (List UInt8 × Int × Unit) × Bool × Bool × Unit) × Bool × List (List UInt8 × List UInt8 × Unit) × List (List UInt8 × Bool × Unit) × Int × Int × Int × Int × Int × Int × Bool × Int × List UInt8 × List UInt8 × Int × Int × Int × List (List UInt8 × Int × Unit) × Bool × Bool × List (Bool) × List (Int × Int × Int × Unit) × Unit -> Option (Bool × Int × Int × Int × Int × Int × List UInt8 × List UInt8 × Bool × Bool × Bool × List (List UInt8 × Bool × Unit) × Bool × List (List (NdT) × Bool × Unit) × List (((Int × Int × Int × Unit) × (Int × Int × Int × Unit) × Bool × Unit) × Int × List UInt8 × List UInt8 × Int × Int × Int × List (List UInt8 × Int × Unit) × Bool × Bool × Unit) × Bool × List (List UInt8 × List UInt8 × Unit) × List (List UInt8 × Bool × Unit) × List (Bool × Int × Unit) × Unit)) (x37 : Int × Int × Int × Int × Int × Int × Int × List UInt8 × List UInt8 × Bool × Bool × Bool × List (Bool × Int × Unit) × List (List UInt8 × Bool × Unit) × Bool × List (List (NdT) × Bool × Unit) × List (((Int × Int × Int × Unit) × (Int × Int × Int × Unit) × Bool × Unit) × Int × List UInt8 × List UInt8 × Int × Int × Int × List (List UInt8 × Int × Unit) × Bool × Bool × Unit) × Bool × List (List UInt8 × List UInt8 × Unit) × List (List UInt8 × Bool × Unit) × Int × Int × Int × Int × Int × Int × Bool × Int × List UInt8 × List UInt8 × Int × Int × Int × List (List UInt8 × Int × Unit) × Bool × Bool × List (Bool) × List (Int × Int × Int × Unit) × Unit) : Option (Bool × Int × Int × Int × Int × Int × List UInt8 × List UInt8 × Bool × Bool × Bool × List (List UInt8 × Bool × Unit) × Bool × List (List (NdT) × Bool × Unit) × List (((Int × Int × Int × Unit) × (Int × Int × Int × Unit) × Bool × Unit) × Int × List UInt8 × List UInt8 × Int × Int × Int × List (List UInt8 × Int × Unit) × Bool × Bool × Unit) × Bool × List (List UInt8 × List UInt8 × Unit) × List (List UInt8 × Bool × Unit) × List (Bool × Int × Unit) × Unit) :=
 let zNf : Int := x37.1
 let Jc : Int := x37.2.1
 let zGo : Int := x37.2.2.1
 let Ou : Int := x37.2.2.2.1
 let N42 : Int := x37.2.2.2.2.1
 let zNg : Int := x37.2.2.2.2.2.1
 let zNh : Int := x37.2.2.2.2.2.2.1
 let Yp : List UInt8 := x37.2.2.2.2.2.2.2.1
 let zNi : List UInt8 := x37.2.2.2.2.2.2.2.2.1
 let zRx : Bool := x37.2.2.2.2.2.2.2.2.2.1
 let zDs : Bool := x37.2.2.2.2.2.2.2.2.2.2.1
 let Yq : Bool := x37.2.2.2.2.2.2.2.2.2.2.2.1
 let Et : List (Bool × Int × Unit) := x37.2.2.2.2.2.2.2.2.2.2.2.2.1
 let zGp : List (List UInt8 × Bool × Unit) := x37.2.2.2.2.2.2.2.2.2.2.2.2.2.1
 let zGq : Bool := x37.2.2.2.2.2.2.2.2.2.2.2.2.2.2.1
 let zNj : List (List (NdT) × Bool × Unit) := x37.2.2.2.2.2.2.2.2.2.2.2.2.2.2.2.1
 let zNk : List (((Int × Int × Int × Unit) × (Int × Int × Int × Unit) × Bool × Unit) × Int × List UInt8 × List UInt8 × Int × Int × Int × List (List UInt8 × Int × Unit) × Bool × Bool × Unit) := x37.2.2.2.2.2.2.2.2.2.2.2.2.2.2.2.2.1
 let zGr : Bool := x37.2.2.2.2.2.2.2.2.2.2.2.2.2.2.2.2.2.1
 let zGs : List (List UInt8 × List UInt8 × Unit) := x37.2.2.2.2.2.2.2.2.2.2.2.2.2.2.2.2.2.2.1
 let zRy : List (List UInt8 × Bool × Unit) := x37.2.2.2.2.2.2.2.2.2.2.2.2.2.2.2.2.2.2.2.1
 let zNl : Int := x37.2.2.2.2.2.2.2.2.2.2.2.2.2.2.2.2.2.2.2.2.1
 let N59 : Int := x37.2.2.2.2.2.2.2.2.2.2.2.2.2.2.2.2.2.2.2.2.2.1
 let M60 : Int := x37.2.2.2.2.2.2.2.2.2.2.2.2.2.2.2.2.2.2.2.2.2.2.1
 let zNm : Int := x37.2.2.2.2.2.2.2.2.2.2.2.2.2.2.2.2.2.2.2.2.2.2.2.1
 let N62 : Int := x37.2.2.2.2.2.2.2.2.2.2.2.2.2.2.2.2.2.2.2.2.2.2.2.2.1
 let M63 : Int := x37.2.2.2.2.2.2.2.2.2.2.2.2.2.2.2.2.2.2.2.2.2.2.2.2.2.1
 let zRz : Bool := x37.2.2.2.2.2.2.2.2.2.2.2.2.2.2.2.2.2.2.2.2.2.2.2.2.2.2.1
 let yBl : Int := x37.2.2.2.2.2.2.2.2.2.2.2.2.2.2.2.2.2.2.2.2.2.2.2.2.2.2.2.1
 let zYr : List UInt8 := x37.2.2.2.2.2.2.2.2.2.2.2.2.2.2.2.2.2.2.2.2.2.2.2.2.2.2.2.2.1
 let zYs : List UInt8 := x37.2.2.2.2.2.2.2.2.2.2.2.2.2.2.2.2.2.2.2.2.2.2.2.2.2.2.2.2.2.1
 let N68 : Int := x37.2.2.2.2.2.2.2.2.2.2.2.2.2.2.2.2.2.2.2.2.2.2.2.2.2.2.2.2.2.2.1
 let yBm : Int := x37.2.2.2.2.2.2.2.2.2.2.2.2.2.2.2.2.2.2.2.2.2.2.2.2.2.2.2.2.2.2.2.1
 let zZv : Int := x37.2.2.2.2.2.2.2.2.2.2.2.2.2.2.2.2.2.2.2.2.2.2.2.2.2.2.2.2.2.2.2.2.1
 let zUg : List (List UInt8 × Int × Unit) := x37.2.2.2.2.2.2.2.2.2.2.2.2.2.2.2.2.2.2.2.2.2.2.2.2.2.2.2.2.2.2.2.2.2.1
 let zZw : Bool := x37.2.2.2.2.2.2.2.2.2.2.2.2.2.2.2.2.2.2.2.2.2.2.2.2.2.2.2.2.2.2.2.2.2.2.1
 let zUh : Bool := x37.2.2.2.2.2.2.2.2.2.2.2.2.2.2.2.2.2.2.2.2.2.2.2.2.2.2.2.2.2.2.2.2.2.2.2.1
 let zSa : List (Bool) := x37.2.2.2.2.2.2.2.2.2.2.2.2.2.2.2.2.2.2.2.2.2.2.2.2.2.2.2.2.2.2.2.2.2.2.2.2.1
 let Kr : List (Int × Int × Int × Unit) := x37.2.2.2.2.2.2.2.2.2.2.2.2.2.2.2.2.2.2.2.2.2.2.2.2.2.2.2.2.2.2.2.2.2.2.2.2.2.1
 br (decide (Jc < zNf)) (
  chk ((inB Jc (Kr.length) && decide (0 + (Kr.length) <= Kr.length))) (
   chk (decide (0 + Jc.toNat < Kr.length)) (
    let v76 : Int := (Kr.getD (0 + Jc.toNat) (Ty.dflt Bg)).1
    br (v76 == 4) (
     none) (
     let v79 : Int := IntKind.wrap .i64 (Jc + 1)
     g0 (zNf, v79, zGo, Ou, N42, zNg, zNh, Yp, zNi, zRx, zDs, Yq, Et, zGp, zGq, zNj, zNk, zGr, zGs, zRy, zNl, N59, M60, zNm, N62, M63, zRz, yBl, zYr, zYs, N68, yBm, zZv, zUg, zZw, zUh, zSa, Kr, ()))))) (
  chk (inB Ou Et.length) (
   let v80 : Bool × Int × Unit := bZ (Ty.dflt gM) Et Ou
   ob (vE n (((zNl, (N59, (M60, ()))), ((zNm, (N62, (M63, ()))), (zRz, ()))), v80, (N42, (zDs, (zSa, ()))))) fun y81 =>
   ob (kF n (Et, ())) fun y82 =>
   chk ((inB Ou (y82.1.length) && decide (0 + (y82.1.length) <= y82.1.length))) (
    chk (decide (0 + Ou.toNat < y82.1.length)) (
     let r83 : List (Bool × Int × Unit) := y82.1.set (0 + Ou.toNat) y81.2
     some (y81.1, zGo, Ou, N42, zNg, zNh, Yp, zNi, zRx, zDs, Yq, zGp, zGq, zNj, zNk, zGr, zGs, zRy, r83, ())))))
def rH (n : Nat) (x : Int × Int × Int × Int × Int × Int × Bool × Int × List UInt8 × List UInt8 × Int × Int × Int × List (List UInt8 × Int × Unit) × Bool × Bool × Int × Int × Int × Int × Int × List UInt8 × List UInt8 × Bool × Bool × Bool × List (Bool × Int × Unit) × List (List UInt8 × Bool × Unit) × Bool × List (List (NdT) × Bool × Unit) × List (((Int × Int × Int × Unit) × (Int × Int × Int × Unit) × Bool × Unit) × Int × List UInt8 × List UInt8 × Int × Int × Int × List (List UInt8 × Int × Unit) × Bool × Bool × Unit) × Bool × List (List UInt8 × List UInt8 × Unit) × List (List UInt8 × Bool × Unit) × Unit) : Option (Bool × Int × Int × Int × Int × Int × List UInt8 × List UInt8 × Bool × Bool × Bool × List (List UInt8 × Bool × Unit) × Bool × List (List (NdT) × Bool × Unit) × List (((Int × Int × Int × Unit) × (Int × Int × Int × Unit) × Bool × Unit) × Int × List UInt8 × List UInt8 × Int × Int × Int × List (List UInt8 × Int × Unit) × Bool × Bool × Unit) × Bool × List (List UInt8 × List UInt8 × Unit) × List (List UInt8 × Bool × Unit) × List (Bool × Int × Unit) × Unit) :=
 let c_1 : Int := x.1
 let c_2 : Int := x.2.1
 let c_3 : Int := x.2.2.1
 let c_4 : Int := x.2.2.2.1
 let c_5 : Int := x.2.2.2.2.1
 let c_6 : Int := x.2.2.2.2.2.1
 let c_7 : Bool := x.2.2.2.2.2.2.1
 let c_8 : Int := x.2.2.2.2.2.2.2.1
 let c_9 : List UInt8 := x.2.2.2.2.2.2.2.2.1
 let yBn : List UInt8 := x.2.2.2.2.2.2.2.2.2.1
 let yBo : Int := x.2.2.2.2.2.2.2.2.2.2.1
 let yBp : Int := x.2.2.2.2.2.2.2.2.2.2.2.1
 let yBq : Int := x.2.2.2.2.2.2.2.2.2.2.2.2.1
 let yBr : List (List UInt8 × Int × Unit) := x.2.2.2.2.2.2.2.2.2.2.2.2.2.1
 let yBs : Bool := x.2.2.2.2.2.2.2.2.2.2.2.2.2.2.1
 let yBt : Bool := x.2.2.2.2.2.2.2.2.2.2.2.2.2.2.2.1
 let zUi : Int := x.2.2.2.2.2.2.2.2.2.2.2.2.2.2.2.2.1
 let yBu : Int := x.2.2.2.2.2.2.2.2.2.2.2.2.2.2.2.2.2.1
 let N19 : Int := x.2.2.2.2.2.2.2.2.2.2.2.2.2.2.2.2.2.2.1
 let zYt : Int := x.2.2.2.2.2.2.2.2.2.2.2.2.2.2.2.2.2.2.2.1
 let zYu : Int := x.2.2.2.2.2.2.2.2.2.2.2.2.2.2.2.2.2.2.2.2.1
 let zNn : List UInt8 := x.2.2.2.2.2.2.2.2.2.2.2.2.2.2.2.2.2.2.2.2.2.1
 let zYv : List UInt8 := x.2.2.2.2.2.2.2.2.2.2.2.2.2.2.2.2.2.2.2.2.2.2.1
 let zZx : Bool := x.2.2.2.2.2.2.2.2.2.2.2.2.2.2.2.2.2.2.2.2.2.2.2.1
 let zYw : Bool := x.2.2.2.2.2.2.2.2.2.2.2.2.2.2.2.2.2.2.2.2.2.2.2.2.1
 let zNo : Bool := x.2.2.2.2.2.2.2.2.2.2.2.2.2.2.2.2.2.2.2.2.2.2.2.2.2.1
 let zRa : List (Bool × Int × Unit) := x.2.2.2.2.2.2.2.2.2.2.2.2.2.2.2.2.2.2.2.2.2.2.2.2.2.2.1
 let zUj : List (List UInt8 × Bool × Unit) := x.2.2.2.2.2.2.2.2.2.2.2.2.2.2.2.2.2.2.2.2.2.2.2.2.2.2.2.1
 let zUk : Bool := x.2.2.2.2.2.2.2.2.2.2.2.2.2.2.2.2.2.2.2.2.2.2.2.2.2.2.2.2.1
 let Br : List (List (NdT) × Bool × Unit) := x.2.2.2.2.2.2.2.2.2.2.2.2.2.2.2.2.2.2.2.2.2.2.2.2.2.2.2.2.2.1
 let zYx : List (((Int × Int × Int × Unit) × (Int × Int × Int × Unit) × Bool × Unit) × Int × List UInt8 × List UInt8 × Int × Int × Int × List (List UInt8 × Int × Unit) × Bool × Bool × Unit) := x.2.2.2.2.2.2.2.2.2.2.2.2.2.2.2.2.2.2.2.2.2.2.2.2.2.2.2.2.2.2.1
 let zUl : Bool := x.2.2.2.2.2.2.2.2.2.2.2.2.2.2.2.2.2.2.2.2.2.2.2.2.2.2.2.2.2.2.2.1
 let zUm : List (List UInt8 × List UInt8 × Unit) := x.2.2.2.2.2.2.2.2.2.2.2.2.2.2.2.2.2.2.2.2.2.2.2.2.2.2.2.2.2.2.2.2.1
 let zZy : List (List UInt8 × Bool × Unit) := x.2.2.2.2.2.2.2.2.2.2.2.2.2.2.2.2.2.2.2.2.2.2.2.2.2.2.2.2.2.2.2.2.2.1
 chk ((decide (0 <= (Br.length : Int)) && (decide ((Br.length : Int) = (Br.length : Int)) && Nat.ble ((Br.length : Int).toNat * 1) room))) (
  let r35 : List (Bool) := List.replicate (Br.length : Int).toNat false
  let v36 : Int := (([(c_1, (c_2, (c_3, ()))), (c_4, (c_5, (c_6, ())))].length : Nat) : Int)
  fix (Bq n) n (v36, 0, zUi, yBu, N19, zYt, zYu, zNn, zYv, zZx, zYw, zNo, zRa, zUj, zUk, Br, zYx, zUl, zUm, zZy, c_1, c_2, c_3, c_4, c_5, c_6, c_7, c_8, c_9, yBn, yBo, yBp, yBq, yBr, yBs, yBt, r35, [(c_1, (c_2, (c_3, ()))), (c_4, (c_5, (c_6, ())))], ()))
def mY (n : Nat) (x : (Bool × List (List (NdT) × Bool × Unit) × List (((Int × Int × Int × Unit) × (Int × Int × Int × Unit) × Bool × Unit) × Int × List UInt8 × List UInt8 × Int × Int × Int × List (List UInt8 × Int × Unit) × Bool × Bool × Unit) × Unit) × Bool × (Int × Int × Int × Int × Int × List UInt8 × List UInt8 × Bool × Bool × Bool × List (Bool × Int × Unit) × List (List UInt8 × Bool × Unit) × Unit) × List (List UInt8 × List UInt8 × Unit)) : Option ((Int × Int × Int × Int × Int × List UInt8 × List UInt8 × Bool × Bool × Bool × List (Bool × Int × Unit) × List (List UInt8 × Bool × Unit) × Unit) × List (List UInt8 × List UInt8 × Unit) × List (List UInt8 × Bool × Unit)) :=
 let x_0 : Bool × List (List (NdT) × Bool × Unit) × List (((Int × Int × Int × Unit) × (Int × Int × Int × Unit) × Bool × Unit) × Int × List UInt8 × List UInt8 × Int × Int × Int × List (List UInt8 × Int × Unit) × Bool × Bool × Unit) × Unit := x.1
 let wW : Bool := x.2.1
 let b_2 : Int × Int × Int × Int × Int × List UInt8 × List UInt8 × Bool × Bool × Bool × List (Bool × Int × Unit) × List (List UInt8 × Bool × Unit) × Unit := x.2.2.1
 let t_3 : List (List UInt8 × List UInt8 × Unit) := x.2.2.2
 br (b_2.1 != 1) (
  some (b_2, t_3, [])) (
  br (b_2.2.1 == (x_0.2.2.1.length : Int)) (
   ob (rF n (b_2.1, b_2.2.1, b_2.2.2.1, b_2.2.2.2.1, b_2.2.2.2.2.1, b_2.2.2.2.2.2.1, b_2.2.2.2.2.2.2.1, b_2.2.2.2.2.2.2.2.1, b_2.2.2.2.2.2.2.2.2.1, b_2.2.2.2.2.2.2.2.2.2.1, b_2.2.2.2.2.2.2.2.2.2.2.1, b_2.2.2.2.2.2.2.2.2.2.2.2.1, x_0.1, x_0.2.1, x_0.2.2.1, wW, t_3, [], ())) fun y1 =>
   ob (vF n (y1.1, y1.2.1, y1.2.2.1, y1.2.2.2.1, y1.2.2.2.2.1, y1.2.2.2.2.2.1, y1.2.2.2.2.2.2.1, y1.2.2.2.2.2.2.2.1, y1.2.2.2.2.2.2.2.2.1, y1.2.2.2.2.2.2.2.2.2.1, y1.2.2.2.2.2.2.2.2.2.2.1, y1.2.2.2.2.2.2.2.2.2.2.2.1, y1.2.2.2.2.2.2.2.2.2.2.2.2.1, y1.2.2.2.2.2.2.2.2.2.2.2.2.2.1, y1.2.2.2.2.2.2.2.2.2.2.2.2.2.2.1, y1.2.2.2.2.2.2.2.2.2.2.2.2.2.2.2.1, y1.2.2.2.2.2.2.2.2.2.2.2.2.2.2.2.2.1, y1.2.2.2.2.2.2.2.2.2.2.2.2.2.2.2.2.2.1, ())) fun y2 =>
   let v3 : List (List UInt8 × List UInt8 × Unit) := y2.2.2.2.2.2.2.2.2.2.2.2.2.2.2.2.2.1
   some ((y2.1, (y2.2.1, (y2.2.2.1, (y2.2.2.2.1, (y2.2.2.2.2.1, (y2.2.2.2.2.2.1, (y2.2.2.2.2.2.2.1, (y2.2.2.2.2.2.2.2.1, (y2.2.2.2.2.2.2.2.2.1, (y2.2.2.2.2.2.2.2.2.2.1, (y2.2.2.2.2.2.2.2.2.2.2.1, (y2.2.2.2.2.2.2.2.2.2.2.2.1, ())))))))))))), v3, y2.2.2.2.2.2.2.2.2.2.2.2.2.2.2.2.2.2.1)) (
   chk (inB b_2.2.1 x_0.2.2.1.length) (
    let v4 : ((Int × Int × Int × Unit) × (Int × Int × Int × Unit) × Bool × Unit) × Int × List UInt8 × List UInt8 × Int × Int × Int × List (List UInt8 × Int × Unit) × Bool × Bool × Unit := bZ (Ty.dflt aG) x_0.2.2.1 b_2.2.1
    ob (rH n (v4.1.1.1, v4.1.1.2.1, v4.1.1.2.2.1, v4.1.2.1.1, v4.1.2.1.2.1, v4.1.2.1.2.2.1, v4.1.2.2.1, v4.2.1, v4.2.2.1, v4.2.2.2.1, v4.2.2.2.2.1, v4.2.2.2.2.2.1, v4.2.2.2.2.2.2.1, v4.2.2.2.2.2.2.2.1, v4.2.2.2.2.2.2.2.2.1, v4.2.2.2.2.2.2.2.2.2.1, b_2.1, b_2.2.1, b_2.2.2.1, b_2.2.2.2.1, b_2.2.2.2.2.1, b_2.2.2.2.2.2.1, b_2.2.2.2.2.2.2.1, b_2.2.2.2.2.2.2.2.1, b_2.2.2.2.2.2.2.2.2.1, b_2.2.2.2.2.2.2.2.2.2.1, b_2.2.2.2.2.2.2.2.2.2.2.1, b_2.2.2.2.2.2.2.2.2.2.2.2.1, x_0.1, x_0.2.1, x_0.2.2.1, wW, t_3, [], ())) fun y5 =>
    let v6 : Int := IntKind.wrap .i64 (y5.2.2.1 + 1)
    br y5.1 (
     none) (
     br (v4.2.1 == 123) (
      let v7 : Int := IntKind.wrap .i64 (v4.2.2.2.2.2.1 + 1)
      let v8 : List (List UInt8 × List UInt8 × Unit) := y5.2.2.2.2.2.2.2.2.2.2.2.2.2.2.2.2.1
      some ((y5.2.1, (v7, (y5.2.2.2.1, (y5.2.2.2.2.1, (y5.2.2.2.2.2.1, (y5.2.2.2.2.2.2.1, (y5.2.2.2.2.2.2.2.1, (y5.2.2.2.2.2.2.2.2.1, (y5.2.2.2.2.2.2.2.2.2.1, (y5.2.2.2.2.2.2.2.2.2.2.1, (y5.2.2.2.2.2.2.2.2.2.2.2.2.2.2.2.2.2.2.1, (y5.2.2.2.2.2.2.2.2.2.2.2.1, ())))))))))))), v8, y5.2.2.2.2.2.2.2.2.2.2.2.2.2.2.2.2.2.1)) (
      let v9 : List (List UInt8 × List UInt8 × Unit) := y5.2.2.2.2.2.2.2.2.2.2.2.2.2.2.2.2.1
      some ((y5.2.1, (v6, (y5.2.2.2.1, (y5.2.2.2.2.1, (y5.2.2.2.2.2.1, (y5.2.2.2.2.2.2.1, (y5.2.2.2.2.2.2.2.1, (y5.2.2.2.2.2.2.2.2.1, (y5.2.2.2.2.2.2.2.2.2.1, (y5.2.2.2.2.2.2.2.2.2.2.1, (y5.2.2.2.2.2.2.2.2.2.2.2.2.2.2.2.2.2.2.1, (y5.2.2.2.2.2.2.2.2.2.2.2.1, ())))))))))))), v9, y5.2.2.2.2.2.2.2.2.2.2.2.2.2.2.2.2.2.1))))))
def zG (n : Nat) (g0 : List (List UInt8 × List UInt8 × Unit) × Int × List (List UInt8 × Bool × Unit) × Int × Bool × List (List (NdT) × Bool × Unit) × List (((Int × Int × Int × Unit) × (Int × Int × Int × Unit) × Bool × Unit) × Int × List UInt8 × List UInt8 × Int × Int × Int × List (List UInt8 × Int × Unit) × Bool × Bool × Unit) × Bool × List (List UInt8) × Bool × List (List UInt8 × List UInt8 × Unit) × Int × Int × Int × Int × Int × Int × Int × List UInt8 × List UInt8 × Bool × Bool × Bool × List (Bool × Int × Unit) × List (List UInt8 × Bool × Unit) × List (List UInt8 × Bool × Unit) × Unit -> Option ((List (List UInt8 × Bool × Unit) × List (List UInt8 × List UInt8 × Unit) × Int × Int × Unit) × Int)) (x5 : List (List UInt8 × List UInt8 × Unit) × Int × List (List UInt8 × Bool × Unit) × Int × Bool × List (List (NdT) × Bool × Unit) × List (((Int × Int × Int × Unit) × (Int × Int × Int × Unit) × Bool × Unit) × Int × List UInt8 × List UInt8 × Int × Int × Int × List (List UInt8 × Int × Unit) × Bool × Bool × Unit) × Bool × List (List UInt8) × Bool × List (List UInt8 × List UInt8 × Unit) × Int × Int × Int × Int × Int × Int × Int × List UInt8 × List UInt8 × Bool × Bool × Bool × List (Bool × Int × Unit) × List (List UInt8 × Bool × Unit) × List (List UInt8 × Bool × Unit) × Unit) : Option ((List (List UInt8 × Bool × Unit) × List (List UInt8 × List UInt8 × Unit) × Int × Int × Unit) × Int) :=
 let t_6 : List (List UInt8 × List UInt8 × Unit) := x5.1
 let Sy : Int := x5.2.1
 let qK : List (List UInt8 × Bool × Unit) := x5.2.2.1
 let Eu : Int := x5.2.2.2.1
 let Ku : Bool := x5.2.2.2.2.1
 let Sz : List (List (NdT) × Bool × Unit) := x5.2.2.2.2.2.1
 let Ta : List (((Int × Int × Int × Unit) × (Int × Int × Int × Unit) × Bool × Unit) × Int × List UInt8 × List UInt8 × Int × Int × Int × List (List UInt8 × Int × Unit) × Bool × Bool × Unit) := x5.2.2.2.2.2.2.1
 let gI : Bool := x5.2.2.2.2.2.2.2.1
 let Wm : List (List UInt8) := x5.2.2.2.2.2.2.2.2.1
 let zKk : Bool := x5.2.2.2.2.2.2.2.2.2.1
 let Wn : List (List UInt8 × List UInt8 × Unit) := x5.2.2.2.2.2.2.2.2.2.2.1
 let Ov : Int := x5.2.2.2.2.2.2.2.2.2.2.2.1
 let wX : Int := x5.2.2.2.2.2.2.2.2.2.2.2.2.1
 let Bu : Int := x5.2.2.2.2.2.2.2.2.2.2.2.2.2.1
 let zRb : Int := x5.2.2.2.2.2.2.2.2.2.2.2.2.2.2.1
 let N21 : Int := x5.2.2.2.2.2.2.2.2.2.2.2.2.2.2.2.1
 let Jd : Int := x5.2.2.2.2.2.2.2.2.2.2.2.2.2.2.2.2.1
 let zDt : Int := x5.2.2.2.2.2.2.2.2.2.2.2.2.2.2.2.2.2.1
 let Je : List UInt8 := x5.2.2.2.2.2.2.2.2.2.2.2.2.2.2.2.2.2.2.1
 let zDu : List UInt8 := x5.2.2.2.2.2.2.2.2.2.2.2.2.2.2.2.2.2.2.2.1
 let zKl : Bool := x5.2.2.2.2.2.2.2.2.2.2.2.2.2.2.2.2.2.2.2.2.1
 let zDv : Bool := x5.2.2.2.2.2.2.2.2.2.2.2.2.2.2.2.2.2.2.2.2.2.1
 let Jf : Bool := x5.2.2.2.2.2.2.2.2.2.2.2.2.2.2.2.2.2.2.2.2.2.2.1
 let Ow : List (Bool × Int × Unit) := x5.2.2.2.2.2.2.2.2.2.2.2.2.2.2.2.2.2.2.2.2.2.2.2.1
 let Wo : List (List UInt8 × Bool × Unit) := x5.2.2.2.2.2.2.2.2.2.2.2.2.2.2.2.2.2.2.2.2.2.2.2.2.1
 let nU : List (List UInt8 × Bool × Unit) := x5.2.2.2.2.2.2.2.2.2.2.2.2.2.2.2.2.2.2.2.2.2.2.2.2.2.1
 br (Bu == 4) (
  br (Jd == 0) (
   some ((nU, (t_6, (Eu, (wX, ())))), 0)) (
   some ((nU, (t_6, (Jd, (wX, ())))), 0))) (
  br (Bu != 1) (
   br ((qK.length : Int) == 0) (
    ob (jW n (Bu, (zRb, (N21, (Jd, (zDt, (Je, (zDu, (zKl, (zDv, (Jf, (Ow, (Wo, ()))))))))))))) fun y32 =>
    g0 (t_6, Sy, qK, Eu, Ku, Sz, Ta, gI, Wm, zKk, Wn, Ov, wX, y32.1, y32.2.1, y32.2.2.1, y32.2.2.2.1, y32.2.2.2.2.1, y32.2.2.2.2.2.1, y32.2.2.2.2.2.2.1, y32.2.2.2.2.2.2.2.1, y32.2.2.2.2.2.2.2.2.1, y32.2.2.2.2.2.2.2.2.2.1, y32.2.2.2.2.2.2.2.2.2.2.1, y32.2.2.2.2.2.2.2.2.2.2.2.1, nU, ())) (
    chk (inB 0 qK.length) (
     let v33 : List UInt8 × Bool × Unit := bZ (Ty.dflt aT) qK 0
     ob (kS n ((Bu, (zRb, (N21, (Jd, (zDt, (Je, (zDu, (zKl, (zDv, (Jf, (Ow, (Wo, ())))))))))))), v33, ((qK.length : Int) == 1))) fun y34 =>
     chk ((decide (0 <= (1 : Int)) && decide ((1 : Int) <= (qK.length : Int)))) (
      let v35 : List (List UInt8 × Bool × Unit) := qK.drop (1 : Int).toNat
      g0 (t_6, Sy, v35, Eu, Ku, Sz, Ta, gI, Wm, zKk, Wn, Ov, wX, y34.1, y34.2.1, y34.2.2.1, y34.2.2.2.1, y34.2.2.2.2.1, y34.2.2.2.2.2.1, y34.2.2.2.2.2.2.1, y34.2.2.2.2.2.2.2.1, y34.2.2.2.2.2.2.2.2.1, y34.2.2.2.2.2.2.2.2.2.1, y34.2.2.2.2.2.2.2.2.2.2.1, y34.2.2.2.2.2.2.2.2.2.2.2.1, nU, ()))))) (
   br (decide (wX ≥ Sy)) (
    some (([], ([], (0, (0, ())))), 4)) (
    let v36 : Int := IntKind.wrap .i64 (wX + 1)
    ob (mY n ((Ku, (Sz, (Ta, ()))), gI, (Bu, (zRb, (N21, (Jd, (zDt, (Je, (zDu, (zKl, (zDv, (Jf, (Ow, (Wo, ())))))))))))), t_6)) fun y37 =>
    chk (Nat.ble ((nU.length + y37.2.2.length) * 24) room) (
     g0 (y37.2.1, Sy, qK, Eu, Ku, Sz, Ta, gI, Wm, zKk, Wn, Ov, v36, y37.1.1, y37.1.2.1, y37.1.2.2.1, y37.1.2.2.2.1, y37.1.2.2.2.2.1, y37.1.2.2.2.2.2.1, y37.1.2.2.2.2.2.2.1, y37.1.2.2.2.2.2.2.2.1, y37.1.2.2.2.2.2.2.2.2.1, y37.1.2.2.2.2.2.2.2.2.2.1, y37.1.2.2.2.2.2.2.2.2.2.2.1, y37.1.2.2.2.2.2.2.2.2.2.2.2.1, nU ++ y37.2.2, ())))))
def eD (n : Nat) (g0 : List (List UInt8 × List UInt8 × Unit) × Int × List (List UInt8 × Bool × Unit) × Int × Bool × List (List (NdT) × Bool × Unit) × List (((Int × Int × Int × Unit) × (Int × Int × Int × Unit) × Bool × Unit) × Int × List UInt8 × List UInt8 × Int × Int × Int × List (List UInt8 × Int × Unit) × Bool × Bool × Unit) × Bool × List (List UInt8) × Bool × List (List UInt8 × List UInt8 × Unit) × Int × Int × Int × Int × Int × Int × Int × List UInt8 × List UInt8 × Bool × Bool × Bool × List (Bool × Int × Unit) × List (List UInt8 × Bool × Unit) × List (List UInt8 × Bool × Unit) × Unit -> Option ((List (List UInt8 × Bool × Unit) × List (List UInt8 × List UInt8 × Unit) × Int × Int × Unit) × Int)) (x41 : List (List UInt8 × List UInt8 × Unit) × Int × List (List UInt8 × Bool × Unit) × Int × Bool × List (List (NdT) × Bool × Unit) × List (((Int × Int × Int × Unit) × (Int × Int × Int × Unit) × Bool × Unit) × Int × List UInt8 × List UInt8 × Int × Int × Int × List (List UInt8 × Int × Unit) × Bool × Bool × Unit) × Bool × List (List UInt8) × Bool × List (List UInt8 × List UInt8 × Unit) × Int × Int × Int × Int × Int × Int × Int × List UInt8 × List UInt8 × Bool × Bool × Bool × List (Bool × Int × Unit) × List (List UInt8 × Bool × Unit) × List (List UInt8 × Bool × Unit) × Unit) : Option ((List (List UInt8 × Bool × Unit) × List (List UInt8 × List UInt8 × Unit) × Int × Int × Unit) × Int) :=
 let zDw : List (List UInt8 × List UInt8 × Unit) := x41.1
 let Kv : Int := x41.2.1
 let mZ : List (List UInt8 × Bool × Unit) := x41.2.2.1
 let zH : Int := x41.2.2.2.1
 let Kw : Bool := x41.2.2.2.2.1
 let Tc : List (List (NdT) × Bool × Unit) := x41.2.2.2.2.2.1
 let Td : List (((Int × Int × Int × Unit) × (Int × Int × Int × Unit) × Bool × Unit) × Int × List UInt8 × List UInt8 × Int × Int × Int × List (List UInt8 × Int × Unit) × Bool × Bool × Unit) := x41.2.2.2.2.2.2.1
 let Ky : Bool := x41.2.2.2.2.2.2.2.1
 let Wp : List (List UInt8) := x41.2.2.2.2.2.2.2.2.1
 let zKm : Bool := x41.2.2.2.2.2.2.2.2.2.1
 let Wq : List (List UInt8 × List UInt8 × Unit) := x41.2.2.2.2.2.2.2.2.2.2.1
 let Ox : Int := x41.2.2.2.2.2.2.2.2.2.2.2.1
 let wY : Int := x41.2.2.2.2.2.2.2.2.2.2.2.2.1
 let Bv : Int := x41.2.2.2.2.2.2.2.2.2.2.2.2.2.1
 let zRc : Int := x41.2.2.2.2.2.2.2.2.2.2.2.2.2.2.1
 let N57 : Int := x41.2.2.2.2.2.2.2.2.2.2.2.2.2.2.2.1
 let Jg : Int := x41.2.2.2.2.2.2.2.2.2.2.2.2.2.2.2.2.1
 let zDx : Int := x41.2.2.2.2.2.2.2.2.2.2.2.2.2.2.2.2.2.1
 let Jh : List UInt8 := x41.2.2.2.2.2.2.2.2.2.2.2.2.2.2.2.2.2.2.1
 let zDy : List UInt8 := x41.2.2.2.2.2.2.2.2.2.2.2.2.2.2.2.2.2.2.2.1
 let zKn : Bool := x41.2.2.2.2.2.2.2.2.2.2.2.2.2.2.2.2.2.2.2.2.1
 let zDz : Bool := x41.2.2.2.2.2.2.2.2.2.2.2.2.2.2.2.2.2.2.2.2.2.1
 let Ji : Bool := x41.2.2.2.2.2.2.2.2.2.2.2.2.2.2.2.2.2.2.2.2.2.2.1
 let Oy : List (Bool × Int × Unit) := x41.2.2.2.2.2.2.2.2.2.2.2.2.2.2.2.2.2.2.2.2.2.2.2.1
 let Ws : List (List UInt8 × Bool × Unit) := x41.2.2.2.2.2.2.2.2.2.2.2.2.2.2.2.2.2.2.2.2.2.2.2.2.1
 let Kz : List (List UInt8 × Bool × Unit) := x41.2.2.2.2.2.2.2.2.2.2.2.2.2.2.2.2.2.2.2.2.2.2.2.2.2.1
 br (Bv == 4) (
  br (Jg == 0) (
   some ((Kz, (zDw, (zH, (wY, ())))), 0)) (
   some ((Kz, (zDw, (Jg, (wY, ())))), 0))) (
  br (Bv != 1) (
   br ((mZ.length : Int) == 0) (
    ob (jW n (Bv, (zRc, (N57, (Jg, (zDx, (Jh, (zDy, (zKn, (zDz, (Ji, (Oy, (Ws, ()))))))))))))) fun y68 =>
    g0 (zDw, Kv, mZ, zH, Kw, Tc, Td, Ky, Wp, zKm, Wq, Ox, wY, y68.1, y68.2.1, y68.2.2.1, y68.2.2.2.1, y68.2.2.2.2.1, y68.2.2.2.2.2.1, y68.2.2.2.2.2.2.1, y68.2.2.2.2.2.2.2.1, y68.2.2.2.2.2.2.2.2.1, y68.2.2.2.2.2.2.2.2.2.1, y68.2.2.2.2.2.2.2.2.2.2.1, y68.2.2.2.2.2.2.2.2.2.2.2.1, Kz, ())) (
    chk (inB 0 mZ.length) (
     let v69 : List UInt8 × Bool × Unit := bZ (Ty.dflt aT) mZ 0
     ob (kS n ((Bv, (zRc, (N57, (Jg, (zDx, (Jh, (zDy, (zKn, (zDz, (Ji, (Oy, (Ws, ())))))))))))), v69, ((mZ.length : Int) == 1))) fun y70 =>
     chk ((decide (0 <= (1 : Int)) && decide ((1 : Int) <= (mZ.length : Int)))) (
      let v71 : List (List UInt8 × Bool × Unit) := mZ.drop (1 : Int).toNat
      g0 (zDw, Kv, v71, zH, Kw, Tc, Td, Ky, Wp, zKm, Wq, Ox, wY, y70.1, y70.2.1, y70.2.2.1, y70.2.2.2.1, y70.2.2.2.2.1, y70.2.2.2.2.2.1, y70.2.2.2.2.2.2.1, y70.2.2.2.2.2.2.2.1, y70.2.2.2.2.2.2.2.2.1, y70.2.2.2.2.2.2.2.2.2.1, y70.2.2.2.2.2.2.2.2.2.2.1, y70.2.2.2.2.2.2.2.2.2.2.2.1, Kz, ()))))) (
   br (decide (wY ≥ Kv)) (
    some (([], ([], (0, (0, ())))), 4)) (
    let v72 : Int := IntKind.wrap .i64 (wY + 1)
    ob (mY n ((Kw, (Tc, (Td, ()))), Ky, (Bv, (zRc, (N57, (Jg, (zDx, (Jh, (zDy, (zKn, (zDz, (Ji, (Oy, (Ws, ())))))))))))), zDw)) fun y73 =>
    chk (Nat.ble ((Kz.length + y73.2.2.length) * 24) room) (
     g0 (y73.2.1, Kv, mZ, zH, Kw, Tc, Td, Ky, Wp, zKm, Wq, Ox, v72, y73.1.1, y73.1.2.1, y73.1.2.2.1, y73.1.2.2.2.1, y73.1.2.2.2.2.1, y73.1.2.2.2.2.2.1, y73.1.2.2.2.2.2.2.1, y73.1.2.2.2.2.2.2.2.1, y73.1.2.2.2.2.2.2.2.2.1, y73.1.2.2.2.2.2.2.2.2.2.1, y73.1.2.2.2.2.2.2.2.2.2.2.1, y73.1.2.2.2.2.2.2.2.2.2.2.2.1, Kz ++ y73.2.2, ())))))
def Lf (n : Nat) (g0 : List (List UInt8 × List UInt8 × Unit) × Int × List (List UInt8 × Bool × Unit) × Int × Bool × List (List (NdT) × Bool × Unit) × List (((Int × Int × Int × Unit) × (Int × Int × Int × Unit) × Bool × Unit) × Int × List UInt8 × List UInt8 × Int × Int × Int × List (List UInt8 × Int × Unit) × Bool × Bool × Unit) × Bool × List (List UInt8) × Bool × List (List UInt8 × List UInt8 × Unit) × Int × Int × Int × Int × Int × Int × Int × List UInt8 × List UInt8 × Bool × Bool × Bool × List (Bool × Int × Unit) × List (List UInt8 × Bool × Unit) × List (List UInt8 × Bool × Unit) × Unit -> Option ((List (List UInt8 × Bool × Unit) × List (List UInt8 × List UInt8 × Unit) × Int × Int × Unit) × Int)) (x76 : List (List UInt8 × List UInt8 × Unit) × Int × List (List UInt8 × Bool × Unit) × Int × Bool × List (List (NdT) × Bool × Unit) × List (((Int × Int × Int × Unit) × (Int × Int × Int × Unit) × Bool × Unit) × Int × List UInt8 × List UInt8 × Int × Int × Int × List (List UInt8 × Int × Unit) × Bool × Bool × Unit) × Bool × List (List UInt8) × Bool × List (List UInt8 × List UInt8 × Unit) × Int × Int × Int × Int × Int × Int × Int × List UInt8 × List UInt8 × Bool × Bool × Bool × List (Bool × Int × Unit) × List (List UInt8 × Bool × Unit) × List (List UInt8 × Bool × Unit) × Unit) : Option ((List (List UInt8 × Bool × Unit) × List (List UInt8 × List UInt8 × Unit) × Int × Int × Unit) × Int) :=
 let zEa : List (List UInt8 × List UInt8 × Unit) := x76.1
 let La : Int := x76.2.1
 let nA : List (List UInt8 × Bool × Unit) := x76.2.2.1
 let zI : Int := x76.2.2.2.1
 let Lb : Bool := x76.2.2.2.2.1
 let Te : List (List (NdT) × Bool × Unit) := x76.2.2.2.2.2.1
 let Tf : List (((Int × Int × Int × Unit) × (Int × Int × Int × Unit) × Bool × Unit) × Int × List UInt8 × List UInt8 × Int × Int × Int × List (List UInt8 × Int × Unit) × Bool × Bool × Unit) := x76.2.2.2.2.2.2.1
 let Lc : Bool := x76.2.2.2.2.2.2.2.1
 let Wt : List (List UInt8) := x76.2.2.2.2.2.2.2.2.1
 let zKo : Bool := x76.2.2.2.2.2.2.2.2.2.1
 let Wu : List (List UInt8 × List UInt8 × Unit) := x76.2.2.2.2.2.2.2.2.2.2.1
 let Oz : Int := x76.2.2.2.2.2.2.2.2.2.2.2.1
 let wZ : Int := x76.2.2.2.2.2.2.2.2.2.2.2.2.1
 let Bw : Int := x76.2.2.2.2.2.2.2.2.2.2.2.2.2.1
 let zRd : Int := x76.2.2.2.2.2.2.2.2.2.2.2.2.2.2.1
 let N92 : Int := x76.2.2.2.2.2.2.2.2.2.2.2.2.2.2.2.1
 let Jj : Int := x76.2.2.2.2.2.2.2.2.2.2.2.2.2.2.2.2.1
 let zEb : Int := x76.2.2.2.2.2.2.2.2.2.2.2.2.2.2.2.2.2.1
 let Jk : List UInt8 := x76.2.2.2.2.2.2.2.2.2.2.2.2.2.2.2.2.2.2.1
 let zEc : List UInt8 := x76.2.2.2.2.2.2.2.2.2.2.2.2.2.2.2.2.2.2.2.1
 let zKp : Bool := x76.2.2.2.2.2.2.2.2.2.2.2.2.2.2.2.2.2.2.2.2.1
 let zEd : Bool := x76.2.2.2.2.2.2.2.2.2.2.2.2.2.2.2.2.2.2.2.2.2.1
 let Jl : Bool := x76.2.2.2.2.2.2.2.2.2.2.2.2.2.2.2.2.2.2.2.2.2.2.1
 let Jm : List (Bool × Int × Unit) := x76.2.2.2.2.2.2.2.2.2.2.2.2.2.2.2.2.2.2.2.2.2.2.2.1
 let Pf : List (List UInt8 × Bool × Unit) := x76.2.2.2.2.2.2.2.2.2.2.2.2.2.2.2.2.2.2.2.2.2.2.2.2.1
 let Bz : List (List UInt8 × Bool × Unit) := x76.2.2.2.2.2.2.2.2.2.2.2.2.2.2.2.2.2.2.2.2.2.2.2.2.2.1
 br (Bw == 4) (
  br (Jj == 0) (
   some ((Bz, (zEa, (zI, (wZ, ())))), 0)) (
   some ((Bz, (zEa, (Jj, (wZ, ())))), 0))) (
  br (Bw != 1) (
   br ((nA.length : Int) == 0) (
    ob (jW n (Bw, (zRd, (N92, (Jj, (zEb, (Jk, (zEc, (zKp, (zEd, (Jl, (Jm, (Pf, ()))))))))))))) fun vG =>
    g0 (zEa, La, nA, zI, Lb, Te, Tf, Lc, Wt, zKo, Wu, Oz, wZ, vG.1, vG.2.1, vG.2.2.1, vG.2.2.2.1, vG.2.2.2.2.1, vG.2.2.2.2.2.1, vG.2.2.2.2.2.2.1, vG.2.2.2.2.2.2.2.1, vG.2.2.2.2.2.2.2.2.1, vG.2.2.2.2.2.2.2.2.2.1, vG.2.2.2.2.2.2.2.2.2.2.1, vG.2.2.2.2.2.2.2.2.2.2.2.1, Bz, ())) (
    chk (inB 0 nA.length) (
     let yBv : List UInt8 × Bool × Unit := bZ (Ty.dflt aT) nA 0
     ob (kS n ((Bw, (zRd, (N92, (Jj, (zEb, (Jk, (zEc, (zKp, (zEd, (Jl, (Jm, (Pf, ())))))))))))), yBv, ((nA.length : Int) == 1))) fun vH =>
     chk ((decide (0 <= (1 : Int)) && decide ((1 : Int) <= (nA.length : Int)))) (
      let yBw : List (List UInt8 × Bool × Unit) := nA.drop (1 : Int).toNat
      g0 (zEa, La, yBw, zI, Lb, Te, Tf, Lc, Wt, zKo, Wu, Oz, wZ, vH.1, vH.2.1, vH.2.2.1, vH.2.2.2.1, vH.2.2.2.2.1, vH.2.2.2.2.2.1, vH.2.2.2.2.2.2.1, vH.2.2.2.2.2.2.2.1, vH.2.2.2.2.2.2.2.2.1, vH.2.2.2.2.2.2.2.2.2.1, vH.2.2.2.2.2.2.2.2.2.2.1, vH.2.2.2.2.2.2.2.2.2.2.2.1, Bz, ()))))) (
   br (decide (wZ ≥ La)) (
    some (([], ([], (0, (0, ())))), 4)) (
    let v107 : Int := IntKind.wrap .i64 (wZ + 1)
    ob (mY n ((Lb, (Te, (Tf, ()))), Lc, (Bw, (zRd, (N92, (Jj, (zEb, (Jk, (zEc, (zKp, (zEd, (Jl, (Jm, (Pf, ())))))))))))), zEa)) fun pV =>
    chk (Nat.ble ((Bz.length + pV.2.2.length) * 24) room) (
     g0 (pV.2.1, La, nA, zI, Lb, Te, Tf, Lc, Wt, zKo, Wu, Oz, v107, pV.1.1, pV.1.2.1, pV.1.2.2.1, pV.1.2.2.2.1, pV.1.2.2.2.2.1, pV.1.2.2.2.2.2.1, pV.1.2.2.2.2.2.2.1, pV.1.2.2.2.2.2.2.2.1, pV.1.2.2.2.2.2.2.2.2.1, pV.1.2.2.2.2.2.2.2.2.2.1, pV.1.2.2.2.2.2.2.2.2.2.2.1, pV.1.2.2.2.2.2.2.2.2.2.2.2.1, Bz ++ pV.2.2, ())))))
def qL (n : Nat) (x : ((Bool × List (List (NdT) × Bool × Unit) × List (((Int × Int × Int × Unit) × (Int × Int × Int × Unit) × Bool × Unit) × Int × List UInt8 × List UInt8 × Int × Int × Int × List (List UInt8 × Int × Unit) × Bool × Bool × Unit) × Unit) × Bool × List (List UInt8) × Bool × Unit) × List UInt8 × List (List UInt8 × List UInt8 × Unit) × Int) : Option ((List (List UInt8 × Bool × Unit) × List (List UInt8 × List UInt8 × Unit) × Int × Int × Unit) × Int) :=
 let g_0 : (Bool × List (List (NdT) × Bool × Unit) × List (((Int × Int × Int × Unit) × (Int × Int × Int × Unit) × Bool × Unit) × Int × List UInt8 × List UInt8 × Int × Int × Int × List (List UInt8 × Int × Unit) × Bool × Bool × Unit) × Unit) × Bool × List (List UInt8) × Bool × Unit := x.1
 let zQx : List UInt8 := x.2.1
 let t_2 : List (List UInt8 × List UInt8 × Unit) := x.2.2.1
 let Tg : Int := x.2.2.2
 br g_0.2.2.2.1 (
  some (([], (t_2, (1, (0, ())))), 0)) (
  ob (iP n (g_0, t_2)) fun y1 =>
  ob (iQ n (g_0, zQx, y1)) fun y2 =>
  ob (Er n g_0.1) fun y3 =>
  br (y3.1 == 4) (
   br (y3.2.2.2.1 == 0) (
    some (([], (y1, (y2.2, (0, ())))), 0)) (
    some (([], (y1, (y3.2.2.2.1, (0, ())))), 0))) (
   br (y3.1 != 1) (
    br ((y2.1.length : Int) == 0) (
     ob (jW n y3) fun y4 =>
     fix (zG n) n (y1, Tg, y2.1, y2.2, g_0.1.1, g_0.1.2.1, g_0.1.2.2.1, g_0.2.1, g_0.2.2.1, g_0.2.2.2.1, [], 0, 0, y4.1, y4.2.1, y4.2.2.1, y4.2.2.2.1, y4.2.2.2.2.1, y4.2.2.2.2.2.1, y4.2.2.2.2.2.2.1, y4.2.2.2.2.2.2.2.1, y4.2.2.2.2.2.2.2.2.1, y4.2.2.2.2.2.2.2.2.2.1, y4.2.2.2.2.2.2.2.2.2.2.1, y4.2.2.2.2.2.2.2.2.2.2.2.1, [], ())) (
     chk (inB 0 y2.1.length) (
      let v38 : List UInt8 × Bool × Unit := bZ (Ty.dflt aT) y2.1 0
      ob (kS n (y3, v38, ((y2.1.length : Int) == 1))) fun y39 =>
      chk ((decide (0 <= (1 : Int)) && decide ((1 : Int) <= (y2.1.length : Int)))) (
       let v40 : List (List UInt8 × Bool × Unit) := y2.1.drop (1 : Int).toNat
       fix (eD n) n (y1, Tg, v40, y2.2, g_0.1.1, g_0.1.2.1, g_0.1.2.2.1, g_0.2.1, g_0.2.2.1, g_0.2.2.2.1, [], 0, 0, y39.1, y39.2.1, y39.2.2.1, y39.2.2.2.1, y39.2.2.2.2.1, y39.2.2.2.2.2.1, y39.2.2.2.2.2.2.1, y39.2.2.2.2.2.2.2.1, y39.2.2.2.2.2.2.2.2.1, y39.2.2.2.2.2.2.2.2.2.1, y39.2.2.2.2.2.2.2.2.2.2.1, y39.2.2.2.2.2.2.2.2.2.2.2.1, [], ()))))) (
    br (decide ((0 : Int) ≥ Tg)) (
     some (([], ([], (0, (0, ())))), 4)) (
     let v74 : Int := IntKind.wrap .i64 (0 + 1)
     ob (mY n (g_0.1, g_0.2.1, y3, y1)) fun y75 =>
     chk (Nat.ble (y75.2.2.length * 24) room) (
      fix (Lf n) n (y75.2.1, Tg, y2.1, y2.2, g_0.1.1, g_0.1.2.1, g_0.1.2.2.1, g_0.2.1, g_0.2.2.1, g_0.2.2.2.1, [], 0, v74, y75.1.1, y75.1.2.1, y75.1.2.2.1, y75.1.2.2.2.1, y75.1.2.2.2.2.1, y75.1.2.2.2.2.2.1, y75.1.2.2.2.2.2.2.1, y75.1.2.2.2.2.2.2.2.1, y75.1.2.2.2.2.2.2.2.2.1, y75.1.2.2.2.2.2.2.2.2.2.1, y75.1.2.2.2.2.2.2.2.2.2.2.1, y75.1.2.2.2.2.2.2.2.2.2.2.2.1, y75.2.2, ()))))))
def bM (n : Nat) (x : List UInt8 × List (Int) × Unit) : Option (Int × Bool × List (Int) × Unit) :=
 let s_1 : List UInt8 := x.1
 let yBx : List (Int) := x.2.1
 ob (pF n (yBx, ())) fun y3 =>
 chk (Nat.ble ((y3.1.length + s_1.length) * 1) room) (
  some ((s_1.length : Int), false, y3.1 ++ aN s_1, ()))
def jE (n : Nat) (g0 : List UInt8 × List (List UInt8 × Bool × Unit) × Int × Int × List (Int) × Unit -> Option (List UInt8)) (x1 : List UInt8 × List (List UInt8 × Bool × Unit) × Int × Int × List (Int) × Unit) : Option (List UInt8) :=
 let zSb : List UInt8 := x1.1
 let zKq : List (List UInt8 × Bool × Unit) := x1.2.1
 let zRe : Int := x1.2.2.1
 let zEe : Int := x1.2.2.2.1
 let zYy : List (Int) := x1.2.2.2.2.1
 br (decide (zEe < zRe)) (
  chk (inB zEe zKq.length) (
   let v7 : List UInt8 × Bool × Unit := bZ (Ty.dflt aT) zKq zEe
   chk (decide (zSb.length + v7.1.length <= Ac)) (
    ob (bM n (zSb ++ v7.1, zYy, ())) fun y8 =>
    br v7.2.1 (
     ob (bM n ([10], y8.2.2.1, ())) fun y9 =>
     let v10 : Int := IntKind.wrap .i64 (zEe + 1)
     g0 ([], zKq, zRe, v10, y9.2.2.1, ())) (
     let v11 : Int := IntKind.wrap .i64 (zEe + 1)
     g0 ([10], zKq, zRe, v11, y8.2.2.1, ()))))) (
  ob (Builder_String n (zYy, ())) fun y12 =>
  some y12.1)
def iN (n : Nat) (x : List (List UInt8 × Bool × Unit)) : Option (List UInt8) :=
 let l_0 : List (List UInt8 × Bool × Unit) := x
 fix (jE n) n ([], l_0, (l_0.length : Int), 0, [], ())
def oG (n : Nat) (x : List UInt8 × Bool) : Option (Bool) :=
 let Pg : List UInt8 := x.1
 let wW : Bool := x.2
 br (decide ((Pg.length : Int) > 200)) (
  ob (shown16 n ()) fun y1 =>
  some y1) (
  ob (shown16 n ()) fun y2 =>
  br (!y2) (
   ob (shown16 n ()) fun y3 =>
   some y3) (
   ob (qL n (((false, ([], ([], ()))), (wW, ([], (false, ())))), Pg, [], 1000)) fun y4 =>
   ob (qL n (((false, ([], ([], ()))), (wW, ([[102]], (false, ())))), [111, 116, 104, 101, 114], [([102], (Pg, ()))], 1000)) fun y5 =>
   br wW (
    br (y4.2 == 0) (
     br (y5.2 == 0) (
      ob (iN n y4.1.1) fun y6 =>
      br (y6 == []) (
       ob (iN n y5.1.1) fun y7 =>
       br (y7 == []) (
        ob (lX n Pg) fun y8 =>
        some (y4.1.2.2.2.1 == (y8.length : Int))) (
        some false)) (
       some false)) (
      some false)) (
     some false)) (
    br (y4.2 == 0) (
     br (y5.2 == 0) (
      ob (iN n y4.1.1) fun y9 =>
      br (y9 == Pg) (
       ob (iN n y5.1.1) fun y10 =>
       br (y10 == Pg) (
        ob (lX n Pg) fun y11 =>
        some (y4.1.2.2.2.1 == (y11.length : Int))) (
        some false)) (
       some false)) (
      some false)) (
     some false))))
end
end Go.Dec
