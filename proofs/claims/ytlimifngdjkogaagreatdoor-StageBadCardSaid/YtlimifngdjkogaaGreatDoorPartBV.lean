/- Part of a proof over this seat: a library of my own, and what it says of this seat. No statement is proved here. -/
import Derived.Test.YtlimifngdjkogaaGreatDoorPartBT
import Derived.Test.YtlimifngdjkogaaGreatDoorPartAM
namespace Go.Dec
def pO (_n : Nat) (_x : (Bool × List (List (Int × List (Int) × Int × Int × Int × Int × Int × Unit) × Bool × Unit) × List (((Int × Int × Int × Unit) × (Int × Int × Int × Unit) × Bool × Unit) × Int × List UInt8 × List UInt8 × Int × Int × Int × List (List UInt8 × Int × Unit) × Bool × Bool × Unit) × Unit)) : Option ((List (List UInt8)) × (List (List UInt8))) := none
def kZ (_n : Nat) (_x : ((Bool × List (List (Int × List (Int) × Int × Int × Int × Int × Int × Unit) × Bool × Unit) × List (((Int × Int × Int × Unit) × (Int × Int × Int × Unit) × Bool × Unit) × Int × List UInt8 × List UInt8 × Int × Int × Int × List (List UInt8 × Int × Unit) × Bool × Bool × Unit) × Unit) × Bool × List (List UInt8) × Bool × Unit) × (List (List UInt8 × List UInt8 × Unit))) : Option ((List (List UInt8 × List UInt8 × Unit))) := none
def pK (_n : Nat) (_x : (Bool × List (List (Int × List (Int) × Int × Int × Int × Int × Int × Unit) × Bool × Unit) × List (((Int × Int × Int × Unit) × (Int × Int × Int × Unit) × Bool × Unit) × Int × List UInt8 × List UInt8 × Int × Int × Int × List (List UInt8 × Int × Unit) × Bool × Bool × Unit) × Unit)) : Option ((Int × Int × Int × Int × Int × List UInt8 × List UInt8 × Bool × Bool × Bool × List (Bool × Int × Unit) × List (List UInt8 × Bool × Unit) × Unit)) := none
def vP (_n : Nat) (_x : (Int × Int × Int × Int × Int × List UInt8 × List UInt8 × Bool × Bool × Bool × List (Bool × Int × Unit) × List (List UInt8 × Bool × Unit) × Unit) × (List UInt8 × Bool × Unit) × (Bool)) : Option ((Int × Int × Int × Int × Int × List UInt8 × List UInt8 × Bool × Bool × Bool × List (Bool × Int × Unit) × List (List UInt8 × Bool × Unit) × Unit)) := none
def vQ (_n : Nat) (_x : (Bool × List (List (Int × List (Int) × Int × Int × Int × Int × Int × Unit) × Bool × Unit) × List (((Int × Int × Int × Unit) × (Int × Int × Int × Unit) × Bool × Unit) × Int × List UInt8 × List UInt8 × Int × Int × Int × List (List UInt8 × Int × Unit) × Bool × Bool × Unit) × Unit) × (Bool) × (Int × Int × Int × Int × Int × List UInt8 × List UInt8 × Bool × Bool × Bool × List (Bool × Int × Unit) × List (List UInt8 × Bool × Unit) × Unit) × (List (List UInt8 × List UInt8 × Unit))) : Option ((Int × Int × Int × Int × Int × List UInt8 × List UInt8 × Bool × Bool × Bool × List (Bool × Int × Unit) × List (List UInt8 × Bool × Unit) × Unit) × (List (List UInt8 × List UInt8 × Unit)) × (List (List UInt8 × Bool × Unit))) := none
def tQ (_n : Nat) (_x : (Int × Int × Int × Int × Int × List UInt8 × List UInt8 × Bool × Bool × Bool × List (Bool × Int × Unit) × List (List UInt8 × Bool × Unit) × Unit)) : Option ((Int × Int × Int × Int × Int × List UInt8 × List UInt8 × Bool × Bool × Bool × List (Bool × Int × Unit) × List (List UInt8 × Bool × Unit) × Unit)) := none
def nK (_n : Nat) (_x : (List (List UInt8 × List UInt8 × Unit)) × (List UInt8)) : Option ((List UInt8) × (Bool)) := none
def iT (_n : Nat) (_x : (List UInt8)) : Option ((List (List UInt8 × Bool × Unit))) := none
end Go.Dec
namespace Go.Dec
set_option linter.unusedVariables false
abbrev kR : Ty := .pair .str (.pair .bool .unit)
abbrev rZ : Ty := .pair (.int .i64) (.pair (.arr 4 (.int .u64)) (.pair (.int .i64) (.pair (.int .i64) (.pair (.int .i64) (.pair (.int .i64) (.pair (.int .i64) .unit))))))
abbrev lC : Ty := .pair (.slice rZ) (.pair .bool .unit)
abbrev Rv : Ty := .pair (.int .i64) (.pair (.int .i64) (.pair (.int .i64) .unit))
abbrev vR : Ty := .pair Rv (.pair Rv (.pair .bool .unit))
abbrev Yl : Ty := .pair .str (.pair (.int .i64) .unit)
abbrev dW : Ty := .pair vR (.pair (.int .u8) (.pair .str (.pair .str (.pair (.int .i64) (.pair (.int .i64) (.pair (.int .i64) (.pair (.slice Yl) (.pair .bool (.pair .bool .unit)))))))))
abbrev Cq : Ty := .pair .bool (.pair (.slice lC) (.pair (.slice dW) .unit))
abbrev Ym : Ty := .pair .bool (.pair (.int .i64) .unit)
abbrev sM : Ty := .pair (.int .i64) (.pair (.int .i64) (.pair (.int .i64) (.pair (.int .i64) (.pair (.int .i64) (.pair .str (.pair .str (.pair .bool (.pair .bool (.pair .bool (.pair (.slice Ym) (.pair (.slice kR) .unit)))))))))))
abbrev bI : Ty := .pair .str (.pair .str .unit)
abbrev oC : Ty := .pair Cq (.pair .bool (.pair (.slice .str) (.pair .bool .unit)))
abbrev tT : Ty := .pair (.slice kR) (.pair (.slice bI) (.pair (.int .i64) (.pair (.int .i64) .unit)))
def jF (n : Nat) (g0 : List UInt8 × List (List UInt8 × List UInt8 × Unit) × Int × Int × Unit -> Option (Bool)) (x1 : List UInt8 × List (List UInt8 × List UInt8 × Unit) × Int × Int × Unit) : Option (Bool) :=
 let zAl : List UInt8 := x1.1
 let zDb : List (List UInt8 × List UInt8 × Unit) := x1.2.1
 let zHv : Int := x1.2.2.1
 let Yn : Int := x1.2.2.2.1
 br (decide (Yn < zHv)) (
  chk (inB Yn zDb.length) (
   let v6 : List UInt8 × List UInt8 × Unit := dP (Ty.dflt bI) zDb Yn
   br (Op.bytesLess v6.1 zAl || v6.1 == zAl) (
    some false) (
    let v7 : Int := IntKind.wrap .i64 (Yn + 1)
    g0 (v6.1, zDb, zHv, v7, ())))) (
  some true)
def tV (n : Nat) (x : List (List UInt8 × List UInt8 × Unit)) : Option (Bool) :=
 let t_0 : List (List UInt8 × List UInt8 × Unit) := x
 fix (jF n) n ([], t_0, (t_0.length : Int), 0, ())
def gG (n : Nat) (g1 : List UInt8 × List (List UInt8 × List UInt8 × Unit) × List (List UInt8) × Int × Int × Unit -> Option (Bool)) (x11 : List UInt8 × List (List UInt8 × List UInt8 × Unit) × List (List UInt8) × Int × Int × Unit) : Option (Bool) :=
 let zHw : List UInt8 := x11.1
 let Eh : List (List UInt8 × List UInt8 × Unit) := x11.2.1
 let sD : List (List UInt8) := x11.2.2.1
 let zHx : Int := x11.2.2.2.1
 let Yo : Int := x11.2.2.2.2.1
 br (decide (Yo < (sD.length : Int))) (
  chk (inB Yo sD.length) (
   let v17 : List UInt8 := dP (Ty.dflt .str) sD Yo
   br (decide ((v17.length : Int) > 60)) (
    some false) (
    let v18 : Int := IntKind.wrap .i64 (Yo + 1)
    g1 (zHw, Eh, sD, zHx, v18, ())))) (
  br (decide ((zHw.length : Int) <= 80)) (
   br (decide (zHx <= 60)) (
    br (decide ((sD.length : Int) <= 3)) (
     br (decide ((Eh.length : Int) <= 6)) (
      ob (tV n Eh) fun y19 =>
      some y19) (
      some false)) (
     some false)) (
    some false)) (
   some false))
def gH (n : Nat) (g0 : List UInt8 × List (List UInt8 × List UInt8 × Unit) × List (List UInt8) × Int × Int × Unit -> Option (Bool)) (x1 : List UInt8 × List (List UInt8 × List UInt8 × Unit) × List (List UInt8) × Int × Int × Unit) : Option (Bool) :=
 let s_2 : List UInt8 := x1.1
 let t_3 : List (List UInt8 × List UInt8 × Unit) := x1.2.1
 let Uu : List (List UInt8) := x1.2.2.1
 let n_5 : Int := x1.2.2.2.1
 let i_6 : Int := x1.2.2.2.2.1
 br (decide (i_6 < (t_3.length : Int))) (
  chk (inB i_6 t_3.length) (
   let v7 : List UInt8 × List UInt8 × Unit := dP (Ty.dflt bI) t_3 i_6
   br (decide ((v7.1.length : Int) > 60)) (
    some false) (
    chk (inB i_6 t_3.length) (
     let v8 : List UInt8 × List UInt8 × Unit := dP (Ty.dflt bI) t_3 i_6
     let v9 : Int := IntKind.wrap .i64 (n_5 + (v8.2.1.length : Int))
     let v10 : Int := IntKind.wrap .i64 (i_6 + 1)
     g0 (s_2, t_3, Uu, v9, v10, ()))))) (
  fix (gG n) n (s_2, t_3, Uu, n_5, 0, ()))
def kS (n : Nat) (x : List UInt8 × List UInt8 × List (List UInt8 × List UInt8 × Unit) × List (List UInt8)) : Option (Bool) :=
 let s_0 : List UInt8 := x.1
 let Yp : List UInt8 := x.2.1
 let t_2 : List (List UInt8 × List UInt8 × Unit) := x.2.2.1
 let zFg : List (List UInt8) := x.2.2.2
 fix (gH n) n (s_0, t_2, zFg, (Yp.length : Int), 0, ())
def Bp (n : Nat) (g1 : Int × Int × Int × List (List UInt8 × Bool × Unit) × Unit -> Option (List (List UInt8 × Bool × Unit) × Int)) (x28 : Int × Int × Int × List (List UInt8 × Bool × Unit) × Unit) : Option (List (List UInt8 × Bool × Unit) × Int) :=
 let Ld : Int := x28.1
 let zAm : Int := x28.2.1
 let vS : Int := x28.2.2.1
 let yC : List (List UInt8 × Bool × Unit) := x28.2.2.2.1
 br (decide (vS < zAm)) (
  chk ((inB vS (yC.length) && decide (0 + (yC.length) <= yC.length))) (
   chk (decide (0 + vS.toNat < yC.length)) (
    let r33 : List (List UInt8 × Bool × Unit) := yC.set (0 + vS.toNat) ((yC.getD (0 + vS.toNat) (Ty.dflt kR)).1, (true, ()))
    let v34 : Int := IntKind.wrap .i64 (vS + 1)
    g1 (Ld, zAm, v34, r33, ())))) (
  some (yC, Ld))
def Bq (n : Nat) (g0 : List (List UInt8 × List UInt8 × Unit) × Int × List (List UInt8) × Int × Int × List (List UInt8 × Bool × Unit) × Unit -> Option (List (List UInt8 × Bool × Unit) × Int)) (x12 : List (List UInt8 × List UInt8 × Unit) × Int × List (List UInt8) × Int × Int × List (List UInt8 × Bool × Unit) × Unit) : Option (List (List UInt8 × Bool × Unit) × Int) :=
 let Eh : List (List UInt8 × List UInt8 × Unit) := x12.1
 let Lf : Int := x12.2.1
 let Ib : List (List UInt8) := x12.2.2.1
 let Rw : Int := x12.2.2.2.1
 let Ah : Int := x12.2.2.2.2.1
 let Bl : List (List UInt8 × Bool × Unit) := x12.2.2.2.2.2.1
 br (decide (Ah < Rw)) (
  chk (inB Ah Ib.length) (
   let v19 : List UInt8 := dP (Ty.dflt .str) Ib Ah
   ob (nK n (Eh, v19)) fun y20 =>
   br (!y20.2) (
    ob (iT n y20.1) fun y21 =>
    chk (Nat.ble ((Bl.length + y21.length) * 24) room) (
     let v22 : Int := IntKind.wrap .i64 (Ah + 1)
     g0 (Eh, 2, Ib, Rw, v22, Bl ++ y21, ()))) (
    ob (iT n y20.1) fun y23 =>
    chk (Nat.ble ((Bl.length + y23.length) * 24) room) (
     let v24 : Int := IntKind.wrap .i64 (Ah + 1)
     g0 (Eh, Lf, Ib, Rw, v24, Bl ++ y23, ()))))) (
  let v25 : Int := ((Bl.length : Nat) : Int)
  let v26 : Int := IntKind.wrap .i64 (v25 - 1)
  let v27 : Int := if v26 > 0 then v26 else 0
  fix (Bp n) n (Lf, v27, 0, Bl, ()))
def jA (n : Nat) (x : ((Bool × List (List (Int × List (Int) × Int × Int × Int × Int × Int × Unit) × Bool × Unit) × List (((Int × Int × Int × Unit) × (Int × Int × Int × Unit) × Bool × Unit) × Int × List UInt8 × List UInt8 × Int × Int × Int × List (List UInt8 × Int × Unit) × Bool × Bool × Unit) × Unit) × Bool × List (List UInt8) × Bool × Unit) × List UInt8 × List (List UInt8 × List UInt8 × Unit)) : Option (List (List UInt8 × Bool × Unit) × Int) :=
 let g_0 : (Bool × List (List (Int × List (Int) × Int × Int × Int × Int × Int × Unit) × Bool × Unit) × List (((Int × Int × Int × Unit) × (Int × Int × Int × Unit) × Bool × Unit) × Int × List UInt8 × List UInt8 × Int × Int × Int × List (List UInt8 × Int × Unit) × Bool × Bool × Unit) × Unit) × Bool × List (List UInt8) × Bool × Unit := x.1
 let Yp : List UInt8 := x.2.1
 let t_2 : List (List UInt8 × List UInt8 × Unit) := x.2.2
 br g_0.2.2.2.1 (
  some ([], 0)) (
  br ((g_0.2.2.1.length : Int) == 0) (
   none) (
   fix (Bq n) n (t_2, 0, g_0.2.2.1, (g_0.2.2.1.length : Int), 0, [], ())))
def tX (n : Nat) (x : ((Bool × List (List (Int × List (Int) × Int × Int × Int × Int × Int × Unit) × Bool × Unit) × List (((Int × Int × Int × Unit) × (Int × Int × Int × Unit) × Bool × Unit) × Int × List UInt8 × List UInt8 × Int × Int × Int × List (List UInt8 × Int × Unit) × Bool × Bool × Unit) × Unit) × Bool × List (List UInt8) × Bool × Unit) × List UInt8 × List (List UInt8 × List UInt8 × Unit) × Int) : Option ((List (List UInt8 × Bool × Unit) × List (List UInt8 × List UInt8 × Unit) × Int × Int × Unit) × Int) :=
 let g_0 : (Bool × List (List (Int × List (Int) × Int × Int × Int × Int × Int × Unit) × Bool × Unit) × List (((Int × Int × Int × Unit) × (Int × Int × Int × Unit) × Bool × Unit) × Int × List UInt8 × List UInt8 × Int × Int × Int × List (List UInt8 × Int × Unit) × Bool × Bool × Unit) × Unit) × Bool × List (List UInt8) × Bool × Unit := x.1
 let Yp : List UInt8 := x.2.1
 let t_2 : List (List UInt8 × List UInt8 × Unit) := x.2.2.1
 let Rx : Int := x.2.2.2
 br g_0.2.2.2.1 (
  some (([], (t_2, (1, (0, ())))), 0)) (
  ob (kZ n (g_0, t_2)) fun y1 =>
  ob (jA n (g_0, Yp, y1)) fun y2 =>
  ob (pK n g_0.1) fun y3 =>
  br (y3.1 == 4) (
   br (y3.2.2.2.1 == 0) (
    some (([], (y1, (y2.2, (0, ())))), 0)) (
    some (([], (y1, (y3.2.2.2.1, (0, ())))), 0))) (
   br (y3.1 != 1) (
    br ((y2.1.length : Int) == 0) (
     none) (
     none)) (
    br (decide ((0 : Int) ≥ Rx)) (
     some (([], ([], (0, (0, ())))), 4)) (
     none))))
def oD (n : Nat) (x : (Bool × List (List (Int × List (Int) × Int × Int × Int × Int × Int × Unit) × Bool × Unit) × List (((Int × Int × Int × Unit) × (Int × Int × Int × Unit) × Bool × Unit) × Int × List UInt8 × List UInt8 × Int × Int × Int × List (List UInt8 × Int × Unit) × Bool × Bool × Unit) × Unit) × Bool × List (List UInt8) × Bool × Unit) : Option (List (List UInt8) × List (List UInt8)) :=
 let g_0 : (Bool × List (List (Int × List (Int) × Int × Int × Int × Int × Int × Unit) × Bool × Unit) × List (((Int × Int × Int × Unit) × (Int × Int × Int × Unit) × Bool × Unit) × Int × List UInt8 × List UInt8 × Int × Int × Int × List (List UInt8 × Int × Unit) × Bool × Bool × Unit) × Unit) × Bool × List (List UInt8) × Bool × Unit := x
 br g_0.2.2.2.1 (
  some ([], [])) (
  none)
def gY (n : Nat) (g0 : List (List UInt8 × List UInt8 × Unit) × Int × List (List UInt8 × List UInt8 × Unit) × Unit -> Option (List (List UInt8 × List UInt8 × Unit))) (x1 : List (List UInt8 × List UInt8 × Unit) × Int × List (List UInt8 × List UInt8 × Unit) × Unit) : Option (List (List UInt8 × List UInt8 × Unit)) :=
 let t_2 : List (List UInt8 × List UInt8 × Unit) := x1.1
 let i_3 : Int := x1.2.1
 let zDc : List (List UInt8 × List UInt8 × Unit) := x1.2.2.1
 br (decide (i_3 < (t_2.length : Int))) (
  chk (inB i_3 t_2.length) (
   let v5 : List UInt8 × List UInt8 × Unit := dP (Ty.dflt bI) t_2 i_3
   chk (Nat.ble ((zDc.length + ([v5] : List (List UInt8 × List UInt8 × Unit)).length) * 32) room) (
    let v6 : Int := IntKind.wrap .i64 (i_3 + 1)
    g0 (t_2, v6, zDc ++ [v5], ())))) (
  some zDc)
def kI (n : Nat) (x : List (List UInt8 × List UInt8 × Unit)) : Option (List (List UInt8 × List UInt8 × Unit)) :=
 let t_0 : List (List UInt8 × List UInt8 × Unit) := x
 fix (gY n) n (t_0, 0, [], ())
def iU (n : Nat) (g0 : List (List UInt8 × List UInt8 × Unit) × List (List UInt8 × List UInt8 × Unit) × Int × Unit -> Option (Bool)) (x1 : List (List UInt8 × List UInt8 × Unit) × List (List UInt8 × List UInt8 × Unit) × Int × Unit) : Option (Bool) :=
 let a_2 : List (List UInt8 × List UInt8 × Unit) := x1.1
 let b_3 : List (List UInt8 × List UInt8 × Unit) := x1.2.1
 let i_4 : Int := x1.2.2.1
 br (decide (i_4 < (a_2.length : Int))) (
  chk (inB i_4 a_2.length) (
   let v5 : List UInt8 × List UInt8 × Unit := dP (Ty.dflt bI) a_2 i_4
   chk (inB i_4 b_3.length) (
    let v6 : List UInt8 × List UInt8 × Unit := dP (Ty.dflt bI) b_3 i_4
    br (!(Ty.beq bI v5 v6)) (
     some false) (
     let v7 : Int := IntKind.wrap .i64 (i_4 + 1)
     g0 (a_2, b_3, v7, ()))))) (
  some true)
def mI (n : Nat) (x : List (List UInt8 × List UInt8 × Unit) × List (List UInt8 × List UInt8 × Unit)) : Option (Bool) :=
 let a_0 : List (List UInt8 × List UInt8 × Unit) := x.1
 let b_1 : List (List UInt8 × List UInt8 × Unit) := x.2
 br ((a_0.length : Int) != (b_1.length : Int)) (
  some false) (
  fix (iU n) n (a_0, b_1, 0, ()))
def nL (n : Nat) (x : List UInt8 × List (List UInt8 × List UInt8 × Unit) × List (List UInt8) × Int) : Option (Bool) :=
 let zDd : List UInt8 := x.1
 let t_1 : List (List UInt8 × List UInt8 × Unit) := x.2.1
 let Bn : List (List UInt8) := x.2.2.1
 let Rx : Int := x.2.2.2
 br (decide ((zDd.length : Int) > 200)) (
  ob (shown16 n ()) fun y1 =>
  some y1) (
  ob (kS n ([], [], t_1, Bn)) fun y2 =>
  br (!y2) (
   ob (shown16 n ()) fun y3 =>
   some y3) (
   ob (shown16 n ()) fun y4 =>
   br (!y4) (
    ob (shown16 n ()) fun y5 =>
    some y5) (
    ob (tX n (((false, ([], ([], ()))), (false, (Bn, (true, ())))), zDd, t_1, Rx)) fun y6 =>
    ob (oD n ((false, ([], ([], ()))), (false, (Bn, (true, ()))))) fun y7 =>
    ob (jA n (((false, ([], ([], ()))), (false, (Bn, (true, ())))), zDd, t_1)) fun y8 =>
    br (y6.2 == 0) (
     br ((y6.1.1.length : Int) == 0) (
      ob (kI n y6.1.2.1) fun y9 =>
      ob (kI n t_1) fun y10 =>
      ob (mI n (y9, y10)) fun y11 =>
      br y11 (
       br (y6.1.2.2.1 == 1) (
        br (y6.1.2.2.2.1 == 0) (
         let v12 : Int := IntKind.wrap .i64 ((y7.1.length : Int) + (y7.2.length : Int))
         let v13 : Int := IntKind.wrap .i64 (v12 + (y8.1.length : Int))
         let v14 : Int := IntKind.wrap .i64 (v13 + y8.2)
         some (v14 == 0)) (
         some false)) (
        some false)) (
       some false)) (
      some false)) (
     some false))))
end Go.Dec
