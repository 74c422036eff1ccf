/- Part of a proof over this seat: a library of my own, and what it says of this seat. No statement is proved here. -/
import Derived.Test.YtmpoakdpdflfgaaGreatDoorPartAJ
import Derived.Test.YtmpoakdpdflfgaaGreatDoorPartBQ
import Derived.Test.YtmpoakdpdflfgaaGreatDoorPartBN
namespace Go.Dec
noncomputable section
set_option linter.unusedVariables false
abbrev xY:Ty:=.pair (.int .i64) (.pair (.arr 4 (.int .u64)) (.pair (.int .i64) (.pair (.int .i64) (.pair (.int .i64) (.pair (.int .i64) (.pair (.int .i64) .unit))))))
abbrev aR:Ty:=.pair (.slice xY) (.pair .bool .unit)
abbrev Bg:Ty:=.pair (.int .i64) (.pair (.int .i64) (.pair (.int .i64) .unit))
abbrev Bh:Ty:=.pair Bg (.pair Bg (.pair .bool .unit))
abbrev Sc:Ty:=.pair .str (.pair (.int .i64) .unit)
abbrev aG:Ty:=.pair Bh (.pair (.int .u8) (.pair .str (.pair .str (.pair (.int .i64) (.pair (.int .i64) (.pair (.int .i64) (.pair (.slice Sc) (.pair .bool (.pair .bool .unit)))))))))
abbrev oN:Ty:=.pair .bool (.pair (.slice aR) (.pair (.slice aG) .unit))
abbrev zV:Ty:=.pair oN (.pair .bool (.pair (.slice .str) (.pair .bool .unit)))
abbrev aS:Ty:=.pair .str (.pair .bool .unit)
abbrev dD:Ty:=.pair .str (.pair .str .unit)
abbrev zD:Ty:=.pair (.slice aS) (.pair (.slice dD) (.pair (.int .i64) (.pair (.int .i64) .unit)))
abbrev gP:Ty:=.pair .bool (.pair (.int .i64) .unit)
abbrev bD:Ty:=.pair (.int .i64) (.pair (.int .i64) (.pair (.int .i64) (.pair (.int .i64) (.pair (.int .i64) (.pair .str (.pair .str (.pair .bool (.pair .bool (.pair .bool (.pair (.slice gP) (.pair (.slice aS) .unit)))))))))))
abbrev zFi:Ty:=.pair bD (.pair oN (.pair .bool (.pair (.slice dD) (.pair (.slice aS) .unit))))
abbrev zUc:Ty:=.pair (.int .i64) (.pair .bool (.pair (.slice .bool) .unit))
abbrev NdT:Type:=Int × List (Int) × Int × Int × Int × Int × Int × Unit
def zW (n : Nat) (x : List UInt8 × List UInt8 × List UInt8 × Unit) : Option (Bool × List UInt8 × Unit) :=
 let f_1 : List UInt8 := x.1
 let f_2 : List UInt8 := x.2.1
 let b3 : List UInt8 := x.2.2.1
 some ((f_1 == b3), b3, ())
def lM (n : Nat) (g0 : List (List UInt8 × List UInt8 × Unit) × Int × Int × List UInt8 × Unit -> Option (Int × List UInt8 × Unit)) (x3 : List (List UInt8 × List UInt8 × Unit) × Int × Int × List UInt8 × Unit) : Option (Int × List UInt8 × Unit) :=
 let s_4 : List (List UInt8 × List UInt8 × Unit) := x3.1
 let zYn : Int := x3.2.1
 let zDk : Int := x3.2.2.1
 let b7 : List UInt8 := x3.2.2.2.1
 br (decide (zDk < zYn)) (
  chk (inB zDk s_4.length) (
   let v8 : List UInt8 × List UInt8 × Unit := bL (Ty.dflt dD) s_4 zDk
   ob (zW n (v8.1, v8.2.1, b7, ())) fun y9 =>
   br y9.1 (
    some (zDk, y9.2.1, ())) (
    let v10 : Int := IntKind.wrap .i64 (zDk + 1)
    g0 (s_4, zYn, v10, y9.2.1, ())))) (
  some ((-1), b7, ()))
def dY (n : Nat) (x : List (List UInt8 × List UInt8 × Unit) × List UInt8 × Unit) : Option (Int × List UInt8 × Unit) :=
 let s_1 : List (List UInt8 × List UInt8 × Unit) := x.1
 let b2 : List UInt8 := x.2.1
 fix (lM n) n (s_1, (s_1.length : Int), 0, b2, ())
def jY (n : Nat) (x : List (List UInt8 × List UInt8 × Unit) × List UInt8) : Option (List UInt8 × Bool) :=
 let t_0 : List (List UInt8 × List UInt8 × Unit) := x.1
 let zYo : List UInt8 := x.2
 ob (dY n (t_0, zYo, ())) fun y1 =>
 br (decide (y1.1 < 0)) (
  some ([], false)) (
  chk (inB y1.1 t_0.length) (
   let v2 : List UInt8 × List UInt8 × Unit := bL (Ty.dflt dD) t_0 y1.1
   some (v2.2.1, true)))
def Lh (n : Nat) (g1 : Int × Int × Int × List (List UInt8 × Bool × Unit) × Unit -> Option (List (List UInt8 × Bool × Unit) × Int)) (x18 : Int × Int × Int × List (List UInt8 × Bool × Unit) × Unit) : Option (List (List UInt8 × Bool × Unit) × Int) :=
 let Ye : Int := x18.1
 let zNb : Int := x18.2.1
 let Bj : Int := x18.2.2.1
 let Er : List (List UInt8 × Bool × Unit) := x18.2.2.2.1
 br (decide (Bj < zNb)) (
  chk ((inB Bj (Er.length) && decide (0 + (Er.length) <= Er.length))) (
   chk (decide (0 + Bj.toNat < Er.length)) (
    let r23 : List (List UInt8 × Bool × Unit) := Er.set (0 + Bj.toNat) ((Er.getD (0 + Bj.toNat) (Ty.dflt aS)).1, (true, ()))
    let v24 : Int := IntKind.wrap .i64 (Bj + 1)
    g1 (Ye, zNb, v24, r23, ())))) (
  some (Er, Ye))
def Li (n : Nat) (g0 : List (List UInt8 × List UInt8 × Unit) × Int × List (List UInt8) × Int × Int × List (List UInt8 × Bool × Unit) × Unit -> Option (List (List UInt8 × Bool × Unit) × Int)) (x2 : List (List UInt8 × List UInt8 × Unit) × Int × List (List UInt8) × Int × Int × List (List UInt8 × Bool × Unit) × Unit) : Option (List (List UInt8 × Bool × Unit) × Int) :=
 let t_3 : List (List UInt8 × List UInt8 × Unit) := x2.1
 let zDl : Int := x2.2.1
 let Zr : List (List UInt8) := x2.2.2.1
 let zKj : Int := x2.2.2.2.1
 let Sg : Int := x2.2.2.2.2.1
 let Vg : List (List UInt8 × Bool × Unit) := x2.2.2.2.2.2.1
 br (decide (Sg < zKj)) (
  chk (inB Sg Zr.length) (
   let v9 : List UInt8 := bL (Ty.dflt .str) Zr Sg
   ob (jY n (t_3, v9)) fun y10 =>
   br (!y10.2) (
    ob (fQ n (y10.1, ())) fun y11 =>
    chk (Nat.ble ((Vg.length + y11.1.length) * 24) room) (
     let v12 : Int := IntKind.wrap .i64 (Sg + 1)
     g0 (t_3, 2, Zr, zKj, v12, Vg ++ y11.1, ()))) (
    ob (fQ n (y10.1, ())) fun y13 =>
    chk (Nat.ble ((Vg.length + y13.1.length) * 24) room) (
     let v14 : Int := IntKind.wrap .i64 (Sg + 1)
     g0 (t_3, zDl, Zr, zKj, v14, Vg ++ y13.1, ()))))) (
  let v15 : Int := ((Vg.length : Nat) : Int)
  let v16 : Int := IntKind.wrap .i64 (v15 - 1)
  let v17 : Int := if v16 > 0 then v16 else 0
  fix (Lh n) n (zDl, v17, 0, Vg, ()))
def eZ (n : Nat) (g1 : Int × Int × Int × List (List UInt8 × Bool × Unit) × Unit -> Option (List (List UInt8 × Bool × Unit) × Int)) (x41 : Int × Int × Int × List (List UInt8 × Bool × Unit) × Unit) : Option (List (List UInt8 × Bool × Unit) × Int) :=
 let Yf : Int := x41.1
 let zNc : Int := x41.2.1
 let Bl : Int := x41.2.2.1
 let Es : List (List UInt8 × Bool × Unit) := x41.2.2.2.1
 br (decide (Bl < zNc)) (
  chk ((inB Bl (Es.length) && decide (0 + (Es.length) <= Es.length))) (
   chk (decide (0 + Bl.toNat < Es.length)) (
    let r46 : List (List UInt8 × Bool × Unit) := Es.set (0 + Bl.toNat) ((Es.getD (0 + Bl.toNat) (Ty.dflt aS)).1, (true, ()))
    let v47 : Int := IntKind.wrap .i64 (Bl + 1)
    g1 (Yf, zNc, v47, r46, ())))) (
  some (Es, Yf))
def cO (n : Nat) (g0 : List (List UInt8 × List UInt8 × Unit) × Int × List (List UInt8) × Int × Int × List (List UInt8 × Bool × Unit) × Unit -> Option (List (List UInt8 × Bool × Unit) × Int)) (x25 : List (List UInt8 × List UInt8 × Unit) × Int × List (List UInt8) × Int × Int × List (List UInt8 × Bool × Unit) × Unit) : Option (List (List UInt8 × Bool × Unit) × Int) :=
 let zQw : List (List UInt8 × List UInt8 × Unit) := x25.1
 let Yg : Int := x25.2.1
 let Si : List (List UInt8) := x25.2.2.1
 let zDm : Int := x25.2.2.2.1
 let Iy : Int := x25.2.2.2.2.1
 let nU : List (List UInt8 × Bool × Unit) := x25.2.2.2.2.2.1
 br (decide (Iy < zDm)) (
  chk (inB Iy Si.length) (
   let v32 : List UInt8 := bL (Ty.dflt .str) Si Iy
   ob (jY n (zQw, v32)) fun y33 =>
   br (!y33.2) (
    ob (fQ n (y33.1, ())) fun y34 =>
    chk (Nat.ble ((nU.length + y34.1.length) * 24) room) (
     let v35 : Int := IntKind.wrap .i64 (Iy + 1)
     g0 (zQw, 2, Si, zDm, v35, nU ++ y34.1, ()))) (
    ob (fQ n (y33.1, ())) fun y36 =>
    chk (Nat.ble ((nU.length + y36.1.length) * 24) room) (
     let v37 : Int := IntKind.wrap .i64 (Iy + 1)
     g0 (zQw, Yg, Si, zDm, v37, nU ++ y36.1, ()))))) (
  let v38 : Int := ((nU.length : Nat) : Int)
  let v39 : Int := IntKind.wrap .i64 (v38 - 1)
  let v40 : Int := if v39 > 0 then v39 else 0
  fix (eZ n) n (Yg, v40, 0, nU, ()))
def iU (n : Nat) (x : ((Bool × List (List (NdT) × Bool × Unit) × List (((Int × Int × Int × Unit) × (Int × Int × Int × Unit) × Bool × Unit) × Int × List UInt8 × List UInt8 × Int × Int × Int × List (List UInt8 × Int × Unit) × Bool × Bool × Unit) × Unit) × Bool × List (List UInt8) × Bool × Unit) × List UInt8 × List (List UInt8 × List UInt8 × Unit)) : Option (List (List UInt8 × Bool × Unit) × Int) :=
 let g_0 : (Bool × List (List (NdT) × Bool × Unit) × List (((Int × Int × Int × Unit) × (Int × Int × Int × Unit) × Bool × Unit) × Int × List UInt8 × List UInt8 × Int × Int × Int × List (List UInt8 × Int × Unit) × Bool × Bool × Unit) × Unit) × Bool × List (List UInt8) × Bool × Unit := x.1
 let zQx : List UInt8 := x.2.1
 let t_2 : List (List UInt8 × List UInt8 × Unit) := x.2.2
 br g_0.2.2.2.1 (
  some ([], 0)) (
  br ((g_0.2.2.1.length : Int) == 0) (
   ob (fQ n (zQx, ())) fun y1 =>
   fix (Li n) n (t_2, 0, g_0.2.2.1, (g_0.2.2.1.length : Int), 0, y1.1, ())) (
   fix (cO n) n (t_2, 0, g_0.2.2.1, (g_0.2.2.1.length : Int), 0, [], ())))
def Et (n : Nat) (x : Bool × List (List (NdT) × Bool × Unit) × List (((Int × Int × Int × Unit) × (Int × Int × Int × Unit) × Bool × Unit) × Int × List UInt8 × List UInt8 × Int × Int × Int × List (List UInt8 × Int × Unit) × Bool × Bool × Unit) × Unit) : Option (Int × Int × Int × Int × Int × List UInt8 × List UInt8 × Bool × Bool × Bool × List (Bool × Int × Unit) × List (List UInt8 × Bool × Unit) × Unit) :=
 let x_0 : Bool × List (List (NdT) × Bool × Unit) × List (((Int × Int × Int × Unit) × (Int × Int × Int × Unit) × Bool × Unit) × Int × List UInt8 × List UInt8 × Int × Int × Int × List (List UInt8 × Int × Unit) × Bool × Bool × Unit) × Unit := x
 chk ((decide (0 <= (x_0.2.2.1.length : Int)) && (decide ((x_0.2.2.1.length : Int) = (x_0.2.2.1.length : Int)) && Nat.ble ((x_0.2.2.1.length : Int).toNat * 16) room))) (
  let r1 : List (Bool × Int × Unit) := List.replicate (x_0.2.2.1.length : Int).toNat (false, (0, ()))
  some (0, (0, (0, (0, ((-1), ([], ([], (false, (false, (false, (r1, ([], ())))))))))))))
def jZ (n : Nat) (x : Int × Int × Int × Int × Int × List UInt8 × List UInt8 × Bool × Bool × Bool × List (Bool × Int × Unit) × List (List UInt8 × Bool × Unit) × Unit) : Option (Int × Int × Int × Int × Int × List UInt8 × List UInt8 × Bool × Bool × Bool × List (Bool × Int × Unit) × List (List UInt8 × Bool × Unit) × Unit) :=
 let b_0 : Int × Int × Int × Int × Int × List UInt8 × List UInt8 × Bool × Bool × Bool × List (Bool × Int × Unit) × List (List UInt8 × Bool × Unit) × Unit := x
 br (b_0.1 == 0) (
  some (4, b_0.2)) (
  some b_0)
def kX (n : Nat) (x : (Int × Int × Int × Int × Int × List UInt8 × List UInt8 × Bool × Bool × Bool × List (Bool × Int × Unit) × List (List UInt8 × Bool × Unit) × Unit) × (List UInt8 × Bool × Unit) × Bool) : Option (Int × Int × Int × Int × Int × List UInt8 × List UInt8 × Bool × Bool × Bool × List (Bool × Int × Unit) × List (List UInt8 × Bool × Unit) × Unit) :=
 let b_0 : Int × Int × Int × Int × Int × List UInt8 × List UInt8 × Bool × Bool × Bool × List (Bool × Int × Unit) × List (List UInt8 × Bool × Unit) × Unit := x.1
 let l_1 : List UInt8 × Bool × Unit := x.2.1
 let zDn : Bool := x.2.2
 br (b_0.1 == 0) (
  let v1 : Int := IntKind.wrap .i64 (b_0.2.2.1 + 1)
  some (1, (0, (v1, (b_0.2.2.2.1, (b_0.2.2.2.2.1, (l_1.1, (b_0.2.2.2.2.2.2.1, (l_1.2.1, (zDn, b_0.2.2.2.2.2.2.2.2.2)))))))))) (
  br (b_0.1 == 2) (
   let v2 : Int := IntKind.wrap .i64 (b_0.2.1 + 1)
   let v3 : Int := IntKind.wrap .i64 (b_0.2.2.1 + 1)
   some (1, (v2, (v3, (b_0.2.2.2.1, (b_0.2.2.2.2.1, (l_1.1, (b_0.2.2.2.2.2.2.1, (l_1.2.1, (zDn, b_0.2.2.2.2.2.2.2.2.2)))))))))) (
   br (b_0.1 == 3) (
    let v4 : Int := IntKind.wrap .i64 (b_0.2.1 + 1)
    chk (decide (b_0.2.2.2.2.2.1.length + ([10] : List UInt8).length <= dM)) (
     chk (decide ((b_0.2.2.2.2.2.1 ++ [10]).length + l_1.1.length <= dM)) (
      let v5 : List UInt8 := (b_0.2.2.2.2.2.1 ++ [10]) ++ l_1.1
      let v6 : Int := IntKind.wrap .i64 (b_0.2.2.1 + 1)
      some (1, (v4, (v6, (b_0.2.2.2.1, (b_0.2.2.2.2.1, (v5, (b_0.2.2.2.2.2.2.1, (l_1.2.1, (zDn, b_0.2.2.2.2.2.2.2.2.2)))))))))))) (
    some b_0)))
def jR (n : Nat) (x : List UInt8 × Bool × Int × Int × Int × Int × Int × List UInt8 × List UInt8 × Bool × Bool × Bool × List (Bool × Int × Unit) × List (List UInt8 × Bool × Unit) × Bool × List (List (NdT) × Bool × Unit) × List (((Int × Int × Int × Unit) × (Int × Int × Int × Unit) × Bool × Unit) × Int × List UInt8 × List UInt8 × Int × Int × Int × List (List UInt8 × Int × Unit) × Bool × Bool × Unit) × Bool × List (List UInt8 × List UInt8 × Unit) × List (List UInt8 × Bool × Unit) × Unit) : Option (Int × Int × Int × Int × Int × List UInt8 × List UInt8 × Bool × Bool × Bool × List (Bool × Int × Unit) × List (List UInt8 × Bool × Unit) × Bool × List (List (NdT) × Bool × Unit) × List (((Int × Int × Int × Unit) × (Int × Int × Int × Unit) × Bool × Unit) × Int × List UInt8 × List UInt8 × Int × Int × Int × List (List UInt8 × Int × Unit) × Bool × Bool × Unit) × Bool × List (List UInt8 × List UInt8 × Unit) × List (List UInt8 × Bool × Unit) × Unit) :=
 let s_1 : List UInt8 := x.1
 let zYp : Bool := x.2.1
 let zYq : Int := x.2.2.1
 let PC4 : Int := x.2.2.2.1
 let N5 : Int := x.2.2.2.2.1
 let zZv : Int := x.2.2.2.2.2.1
 let zZw : Int := x.2.2.2.2.2.2.1
 let zQy : List UInt8 := x.2.2.2.2.2.2.2.1
 let zZx : List UInt8 := x.2.2.2.2.2.2.2.2.1
 let zZy : Bool := x.2.2.2.2.2.2.2.2.2.1
 let zYr : Bool := x.2.2.2.2.2.2.2.2.2.2.1
 let zNd : Bool := x.2.2.2.2.2.2.2.2.2.2.2.1
 let zQz : List (Bool × Int × Unit) := x.2.2.2.2.2.2.2.2.2.2.2.2.1
 let zUd : List (List UInt8 × Bool × Unit) := x.2.2.2.2.2.2.2.2.2.2.2.2.2.1
 let zUe : Bool := x.2.2.2.2.2.2.2.2.2.2.2.2.2.2.1
 let zYs : List (List (NdT) × Bool × Unit) := x.2.2.2.2.2.2.2.2.2.2.2.2.2.2.2.1
 let zYt : List (((Int × Int × Int × Unit) × (Int × Int × Int × Unit) × Bool × Unit) × Int × List UInt8 × List UInt8 × Int × Int × Int × List (List UInt8 × Int × Unit) × Bool × Bool × Unit) := x.2.2.2.2.2.2.2.2.2.2.2.2.2.2.2.2.1
 let zUf : Bool := x.2.2.2.2.2.2.2.2.2.2.2.2.2.2.2.2.2.1
 let zUg : List (List UInt8 × List UInt8 × Unit) := x.2.2.2.2.2.2.2.2.2.2.2.2.2.2.2.2.2.2.1
 let zRx : List (List UInt8 × Bool × Unit) := x.2.2.2.2.2.2.2.2.2.2.2.2.2.2.2.2.2.2.2.1
 chk (Nat.ble ((zRx.length + ([(s_1, (zYp, ()))] : List (List UInt8 × Bool × Unit)).length) * 24) room) (
  let r21 : List (List UInt8 × Bool × Unit) := zRx ++ [(s_1, (zYp, ()))]
  some (zYq, PC4, N5, zZv, zZw, zQy, zZx, zZy, zYr, zNd, zQz, zUd, zUe, zYs, zYt, zUf, zUg, r21, ()))
def oF (n : Nat) (x : Int × Int × Int × Int × Int × List UInt8 × List UInt8 × Bool × Bool × Bool × List (Bool × Int × Unit) × List (List UInt8 × Bool × Unit) × Bool × List (List (NdT) × Bool × Unit) × List (((Int × Int × Int × Unit) × (Int × Int × Int × Unit) × Bool × Unit) × Int × List UInt8 × List UInt8 × Int × Int × Int × List (List UInt8 × Int × Unit) × Bool × Bool × Unit) × Bool × List (List UInt8 × List UInt8 × Unit) × List (List UInt8 × Bool × Unit) × Unit) : Option (Int × Int × Int × Int × Int × List UInt8 × List UInt8 × Bool × Bool × Bool × List (Bool × Int × Unit) × List (List UInt8 × Bool × Unit) × Bool × List (List (NdT) × Bool × Unit) × List (((Int × Int × Int × Unit) × (Int × Int × Int × Unit) × Bool × Unit) × Int × List UInt8 × List UInt8 × Int × Int × Int × List (List UInt8 × Int × Unit) × Bool × Bool × Unit) × Bool × List (List UInt8 × List UInt8 × Unit) × List (List UInt8 × Bool × Unit) × Unit) :=
 let rD : Int := x.1
 let PC2 : Int := x.2.1
 let N3 : Int := x.2.2.1
 let wK : Int := x.2.2.2.1
 let wL : Int := x.2.2.2.2.1
 let kI : List UInt8 := x.2.2.2.2.2.1
 let wM : List UInt8 := x.2.2.2.2.2.2.1
 let zX : Bool := x.2.2.2.2.2.2.2.1
 let wN : Bool := x.2.2.2.2.2.2.2.2.1
 let kC : Bool := x.2.2.2.2.2.2.2.2.2.1
 let lN : List (Bool × Int × Unit) := x.2.2.2.2.2.2.2.2.2.2.1
 let kT : List (List UInt8 × Bool × Unit) := x.2.2.2.2.2.2.2.2.2.2.2.1
 let gK : Bool := x.2.2.2.2.2.2.2.2.2.2.2.2.1
 let rE : List (List (NdT) × Bool × Unit) := x.2.2.2.2.2.2.2.2.2.2.2.2.2.1
 let rF : List (((Int × Int × Int × Unit) × (Int × Int × Int × Unit) × Bool × Unit) × Int × List UInt8 × List UInt8 × Int × Int × Int × List (List UInt8 × Int × Unit) × Bool × Bool × Unit) := x.2.2.2.2.2.2.2.2.2.2.2.2.2.2.1
 let lX : Bool := x.2.2.2.2.2.2.2.2.2.2.2.2.2.2.2.1
 let nV : List (List UInt8 × List UInt8 × Unit) := x.2.2.2.2.2.2.2.2.2.2.2.2.2.2.2.2.1
 let wO : List (List UInt8 × Bool × Unit) := x.2.2.2.2.2.2.2.2.2.2.2.2.2.2.2.2.2.1
 ob (jR n (kI, zX, rD, PC2, N3, wK, wL, kI, wM, zX, wN, kC, lN, kT, gK, rE, rF, lX, nV, wO, ())) fun y19 =>
 some (y19.1, y19.2.1, y19.2.2.1, y19.2.2.2.1, y19.2.2.2.2.1, y19.2.2.2.2.2.1, y19.2.2.2.2.2.2.1, y19.2.2.2.2.2.2.2.1, y19.2.2.2.2.2.2.2.2.1, y19.2.2.2.2.2.2.2.2.2.1, y19.2.2.2.2.2.2.2.2.2.2.1, y19.2.2.2.2.2.2.2.2.2.2.2.1, y19.2.2.2.2.2.2.2.2.2.2.2.2.1, y19.2.2.2.2.2.2.2.2.2.2.2.2.2.1, y19.2.2.2.2.2.2.2.2.2.2.2.2.2.2.1, y19.2.2.2.2.2.2.2.2.2.2.2.2.2.2.2.1, y19.2.2.2.2.2.2.2.2.2.2.2.2.2.2.2.2.1, y19.2.2.2.2.2.2.2.2.2.2.2.2.2.2.2.2.2.1, ())
def rG (n : Nat) (x : Int × Int × Int × Int × Int × List UInt8 × List UInt8 × Bool × Bool × Bool × List (Bool × Int × Unit) × List (List UInt8 × Bool × Unit) × Bool × List (List (NdT) × Bool × Unit) × List (((Int × Int × Int × Unit) × (Int × Int × Int × Unit) × Bool × Unit) × Int × List UInt8 × List UInt8 × Int × Int × Int × List (List UInt8 × Int × Unit) × Bool × Bool × Unit) × Bool × List (List UInt8 × List UInt8 × Unit) × List (List UInt8 × Bool × Unit) × Unit) : Option (Int × Int × Int × Int × Int × List UInt8 × List UInt8 × Bool × Bool × Bool × List (Bool × Int × Unit) × List (List UInt8 × Bool × Unit) × Bool × List (List (NdT) × Bool × Unit) × List (((Int × Int × Int × Unit) × (Int × Int × Int × Unit) × Bool × Unit) × Int × List UInt8 × List UInt8 × Int × Int × Int × List (List UInt8 × Int × Unit) × Bool × Bool × Unit) × Bool × List (List UInt8 × List UInt8 × Unit) × List (List UInt8 × Bool × Unit) × Unit) :=
 let rD : Int := x.1
 let PC2 : Int := x.2.1
 let N3 : Int := x.2.2.1
 let wK : Int := x.2.2.2.1
 let wL : Int := x.2.2.2.2.1
 let kI : List UInt8 := x.2.2.2.2.2.1
 let wM : List UInt8 := x.2.2.2.2.2.2.1
 let zX : Bool := x.2.2.2.2.2.2.2.1
 let wN : Bool := x.2.2.2.2.2.2.2.2.1
 let kC : Bool := x.2.2.2.2.2.2.2.2.2.1
 let lN : List (Bool × Int × Unit) := x.2.2.2.2.2.2.2.2.2.2.1
 let kT : List (List UInt8 × Bool × Unit) := x.2.2.2.2.2.2.2.2.2.2.2.1
 let gK : Bool := x.2.2.2.2.2.2.2.2.2.2.2.2.1
 let rE : List (List (NdT) × Bool × Unit) := x.2.2.2.2.2.2.2.2.2.2.2.2.2.1
 let rF : List (((Int × Int × Int × Unit) × (Int × Int × Int × Unit) × Bool × Unit) × Int × List UInt8 × List UInt8 × Int × Int × Int × List (List UInt8 × Int × Unit) × Bool × Bool × Unit) := x.2.2.2.2.2.2.2.2.2.2.2.2.2.2.1
 let lX : Bool := x.2.2.2.2.2.2.2.2.2.2.2.2.2.2.2.1
 let nV : List (List UInt8 × List UInt8 × Unit) := x.2.2.2.2.2.2.2.2.2.2.2.2.2.2.2.2.1
 let wO : List (List UInt8 × Bool × Unit) := x.2.2.2.2.2.2.2.2.2.2.2.2.2.2.2.2.2.1
 br (!lX) (
  br (!gK) (
   ob (oF n (rD, PC2, N3, wK, wL, kI, wM, zX, wN, kC, lN, kT, gK, rE, rF, lX, nV, wO, ())) fun y19 =>
   some (y19.1, y19.2.1, y19.2.2.1, y19.2.2.2.1, y19.2.2.2.2.1, y19.2.2.2.2.2.1, y19.2.2.2.2.2.2.1, y19.2.2.2.2.2.2.2.1, y19.2.2.2.2.2.2.2.2.1, y19.2.2.2.2.2.2.2.2.2.1, y19.2.2.2.2.2.2.2.2.2.2.1, y19.2.2.2.2.2.2.2.2.2.2.2.1, y19.2.2.2.2.2.2.2.2.2.2.2.2.1, y19.2.2.2.2.2.2.2.2.2.2.2.2.2.1, y19.2.2.2.2.2.2.2.2.2.2.2.2.2.2.1, y19.2.2.2.2.2.2.2.2.2.2.2.2.2.2.2.1, y19.2.2.2.2.2.2.2.2.2.2.2.2.2.2.2.2.1, y19.2.2.2.2.2.2.2.2.2.2.2.2.2.2.2.2.2.1, ())) (
   some (rD, PC2, N3, wK, wL, kI, wM, zX, wN, kC, lN, kT, gK, rE, rF, lX, nV, wO, ()))) (
  some (rD, PC2, N3, wK, wL, kI, wM, zX, wN, kC, lN, kT, gK, rE, rF, lX, nV, wO, ()))
def fU (n : Nat) (x : List UInt8 × List UInt8) : Option (Bool) :=
 let s_0 : List UInt8 := x.1
 let mW : List UInt8 := x.2
 br (decide ((s_0.length : Int) ≥ (mW.length : Int))) (
  let v1 : Int := IntKind.wrap .i64 ((s_0.length : Int) - (mW.length : Int))
  chk ((decide (0 <= v1) && decide (v1 <= (s_0.length : Int)))) (
   some ((s_0.drop v1.toNat) == mW))) (
  some false)
def fV (n : Nat) (x : List UInt8 × List UInt8) : Option (List UInt8 × Bool) :=
 let s_0 : List UInt8 := x.1
 let mW : List UInt8 := x.2
 ob (fU n (s_0, mW)) fun y1 =>
 br (!y1) (
  some (s_0, false)) (
  let v2 : Int := IntKind.wrap .i64 ((s_0.length : Int) - (mW.length : Int))
  chk ((decide (0 <= v2) && decide (v2 <= (s_0.length : Int)))) (
   some (s_0.take v2.toNat, true)))
def strings_CutSuffix (n : Nat) (x : List UInt8 × List UInt8) : Option (List UInt8 × Bool) :=
 let s_0 : List UInt8 := x.1
 let mW : List UInt8 := x.2
 ob (fV n (s_0, mW)) fun y1 =>
 some (y1.1, y1.2)
def Bn (n : Nat) (g0 : List (List UInt8 × Bool × Unit) × Int × Int × Int × Int × Int × Int × Int × List UInt8 × List UInt8 × Bool × Bool × Bool × List (Bool × Int × Unit) × List (List UInt8 × Bool × Unit) × Bool × List (List (NdT) × Bool × Unit) × List (((Int × Int × Int × Unit) × (Int × Int × Int × Unit) × Bool × Unit) × Int × List UInt8 × List UInt8 × Int × Int × Int × List (List UInt8 × Int × Unit) × Bool × Bool × Unit) × Bool × List (List UInt8 × List UInt8 × Unit) × List (List UInt8 × Bool × Unit) × Unit -> Option (Int × Int × Int × Int × Int × List UInt8 × List UInt8 × Bool × Bool × Bool × List (Bool × Int × Unit) × List (List UInt8 × Bool × Unit) × Bool × List (List (NdT) × Bool × Unit) × List (((Int × Int × Int × Unit) × (Int × Int × Int × Unit) × Bool × Unit) × Int × List UInt8 × List UInt8 × Int × Int × Int × List (List UInt8 × Int × Unit) × Bool × Bool × Unit) × Bool × List (List UInt8 × List UInt8 × Unit) × List (List UInt8 × Bool × Unit) × Unit)) (x19 : List (List UInt8 × Bool × Unit) × Int × Int × Int × Int × Int × Int × Int × List UInt8 × List UInt8 × Bool × Bool × Bool × List (Bool × Int × Unit) × List (List UInt8 × Bool × Unit) × Bool × List (List (NdT) × Bool × Unit) × List (((Int × Int × Int × Unit) × (Int × Int × Int × Unit) × Bool × Unit) × Int × List UInt8 × List UInt8 × Int × Int × Int × List (List UInt8 × Int × Unit) × Bool × Bool × Unit) × Bool × List (List UInt8 × List UInt8 × Unit) × List (List UInt8 × Bool × Unit) × Unit) : Option (Int × Int × Int × Int × Int × List UInt8 × List UInt8 × Bool × Bool × Bool × List (Bool × Int × Unit) × List (List UInt8 × Bool × Unit) × Bool × List (List (NdT) × Bool × Unit) × List (((Int × Int × Int × Unit) × (Int × Int × Int × Unit) × Bool × Unit) × Int × List UInt8 × List UInt8 × Int × Int × Int × List (List UInt8 × Int × Unit) × Bool × Bool × Unit) × Bool × List (List UInt8 × List UInt8 × Unit) × List (List UInt8 × Bool × Unit) × Unit) :=
 let Iz : List (List UInt8 × Bool × Unit) := x19.1
 let Sj : Int := x19.2.1
 let Bo : Int := x19.2.2.1
 let Kn : Int := x19.2.2.2.1
 let zKk : Int := x19.2.2.2.2.1
 let N25 : Int := x19.2.2.2.2.2.1
 let Sk : Int := x19.2.2.2.2.2.2.1
 let Sl : Int := x19.2.2.2.2.2.2.2.1
 let zF : List UInt8 := x19.2.2.2.2.2.2.2.2.1
 let Sm : List UInt8 := x19.2.2.2.2.2.2.2.2.2.1
 let Zt : Bool := x19.2.2.2.2.2.2.2.2.2.2.1
 let Sn : Bool := x19.2.2.2.2.2.2.2.2.2.2.2.1
 let zG : Bool := x19.2.2.2.2.2.2.2.2.2.2.2.2.1
 let Eu : List (Bool × Int × Unit) := x19.2.2.2.2.2.2.2.2.2.2.2.2.2.1
 let Vh : List (List UInt8 × Bool × Unit) := x19.2.2.2.2.2.2.2.2.2.2.2.2.2.2.1
 let Ko : Bool := x19.2.2.2.2.2.2.2.2.2.2.2.2.2.2.2.1
 let Sq : List (List (NdT) × Bool × Unit) := x19.2.2.2.2.2.2.2.2.2.2.2.2.2.2.2.2.1
 let Sr : List (((Int × Int × Int × Unit) × (Int × Int × Int × Unit) × Bool × Unit) × Int × List UInt8 × List UInt8 × Int × Int × Int × List (List UInt8 × Int × Unit) × Bool × Bool × Unit) := x19.2.2.2.2.2.2.2.2.2.2.2.2.2.2.2.2.2.1
 let Kq : Bool := x19.2.2.2.2.2.2.2.2.2.2.2.2.2.2.2.2.2.2.1
 let Bp : List (List UInt8 × List UInt8 × Unit) := x19.2.2.2.2.2.2.2.2.2.2.2.2.2.2.2.2.2.2.2.1
 let Zu : List (List UInt8 × Bool × Unit) := x19.2.2.2.2.2.2.2.2.2.2.2.2.2.2.2.2.2.2.2.2.1
 br (decide (Bo < Sj)) (
  chk (inB Bo Iz.length) (
   let v41 : List UInt8 × Bool × Unit := bL (Ty.dflt aS) Iz Bo
   br (!v41.2.1) (
    ob (jR n (v41.1, true, Kn, zKk, N25, Sk, Sl, zF, Sm, Zt, Sn, zG, Eu, Vh, Ko, Sq, Sr, Kq, Bp, Zu, ())) fun y42 =>
    let v43 : Int := IntKind.wrap .i64 (Bo + 1)
    g0 (Iz, Sj, v43, y42.1, y42.2.1, y42.2.2.1, y42.2.2.2.1, y42.2.2.2.2.1, y42.2.2.2.2.2.1, y42.2.2.2.2.2.2.1, y42.2.2.2.2.2.2.2.1, y42.2.2.2.2.2.2.2.2.1, y42.2.2.2.2.2.2.2.2.2.1, y42.2.2.2.2.2.2.2.2.2.2.1, y42.2.2.2.2.2.2.2.2.2.2.2.1, y42.2.2.2.2.2.2.2.2.2.2.2.2.1, y42.2.2.2.2.2.2.2.2.2.2.2.2.2.1, y42.2.2.2.2.2.2.2.2.2.2.2.2.2.2.1, y42.2.2.2.2.2.2.2.2.2.2.2.2.2.2.2.1, y42.2.2.2.2.2.2.2.2.2.2.2.2.2.2.2.2.1, y42.2.2.2.2.2.2.2.2.2.2.2.2.2.2.2.2.2.1, ())) (
    ob (jY n (Bp, v41.1)) fun y44 =>
    br (!(y44.1 == [])) (
     ob (strings_CutSuffix n (y44.1, [10])) fun y45 =>
     ob (jR n (y45.1, y45.2, Kn, zKk, N25, Sk, Sl, zF, Sm, Zt, Sn, zG, Eu, Vh, Ko, Sq, Sr, Kq, Bp, Zu, ())) fun y46 =>
     let v47 : Int := IntKind.wrap .i64 (Bo + 1)
     g0 (Iz, Sj, v47, y46.1, y46.2.1, y46.2.2.1, y46.2.2.2.1, y46.2.2.2.2.1, y46.2.2.2.2.2.1, y46.2.2.2.2.2.2.1, y46.2.2.2.2.2.2.2.1, y46.2.2.2.2.2.2.2.2.1, y46.2.2.2.2.2.2.2.2.2.1, y46.2.2.2.2.2.2.2.2.2.2.1, y46.2.2.2.2.2.2.2.2.2.2.2.1, y46.2.2.2.2.2.2.2.2.2.2.2.2.1, y46.2.2.2.2.2.2.2.2.2.2.2.2.2.1, y46.2.2.2.2.2.2.2.2.2.2.2.2.2.2.1, y46.2.2.2.2.2.2.2.2.2.2.2.2.2.2.2.1, y46.2.2.2.2.2.2.2.2.2.2.2.2.2.2.2.2.1, y46.2.2.2.2.2.2.2.2.2.2.2.2.2.2.2.2.2.1, ())) (
     let v48 : Int := IntKind.wrap .i64 (Bo + 1)
     g0 (Iz, Sj, v48, Kn, zKk, N25, Sk, Sl, zF, Sm, Zt, Sn, zG, Eu, Vh, Ko, Sq, Sr, Kq, Bp, Zu, ()))))) (
  some (Kn, zKk, N25, Sk, Sl, zF, Sm, Zt, Sn, zG, Eu, [], Ko, Sq, Sr, Kq, Bp, Zu, ()))
def rH (n : Nat) (x : Int × Int × Int × Int × Int × List UInt8 × List UInt8 × Bool × Bool × Bool × List (Bool × Int × Unit) × List (List UInt8 × Bool × Unit) × Bool × List (List (NdT) × Bool × Unit) × List (((Int × Int × Int × Unit) × (Int × Int × Int × Unit) × Bool × Unit) × Int × List UInt8 × List UInt8 × Int × Int × Int × List (List UInt8 × Int × Unit) × Bool × Bool × Unit) × Bool × List (List UInt8 × List UInt8 × Unit) × List (List UInt8 × Bool × Unit) × Unit) : Option (Int × Int × Int × Int × Int × List UInt8 × List UInt8 × Bool × Bool × Bool × List (Bool × Int × Unit) × List (List UInt8 × Bool × Unit) × Bool × List (List (NdT) × Bool × Unit) × List (((Int × Int × Int × Unit) × (Int × Int × Int × Unit) × Bool × Unit) × Int × List UInt8 × List UInt8 × Int × Int × Int × List (List UInt8 × Int × Unit) × Bool × Bool × Unit) × Bool × List (List UInt8 × List UInt8 × Unit) × List (List UInt8 × Bool × Unit) × Unit) :=
 let rD : Int := x.1
 let PC2 : Int := x.2.1
 let N3 : Int := x.2.2.1
 let wK : Int := x.2.2.2.1
 let wL : Int := x.2.2.2.2.1
 let kI : List UInt8 := x.2.2.2.2.2.1
 let wM : List UInt8 := x.2.2.2.2.2.2.1
 let zX : Bool := x.2.2.2.2.2.2.2.1
 let wN : Bool := x.2.2.2.2.2.2.2.2.1
 let kC : Bool := x.2.2.2.2.2.2.2.2.2.1
 let lN : List (Bool × Int × Unit) := x.2.2.2.2.2.2.2.2.2.2.1
 let kT : List (List UInt8 × Bool × Unit) := x.2.2.2.2.2.2.2.2.2.2.2.1
 let gK : Bool := x.2.2.2.2.2.2.2.2.2.2.2.2.1
 let rE : List (List (NdT) × Bool × Unit) := x.2.2.2.2.2.2.2.2.2.2.2.2.2.1
 let rF : List (((Int × Int × Int × Unit) × (Int × Int × Int × Unit) × Bool × Unit) × Int × List UInt8 × List UInt8 × Int × Int × Int × List (List UInt8 × Int × Unit) × Bool × Bool × Unit) := x.2.2.2.2.2.2.2.2.2.2.2.2.2.2.1
 let lX : Bool := x.2.2.2.2.2.2.2.2.2.2.2.2.2.2.2.1
 let nV : List (List UInt8 × List UInt8 × Unit) := x.2.2.2.2.2.2.2.2.2.2.2.2.2.2.2.2.1
 let wO : List (List UInt8 × Bool × Unit) := x.2.2.2.2.2.2.2.2.2.2.2.2.2.2.2.2.2.1
 fix (Bn n) n (kT, (kT.length : Int), 0, rD, PC2, N3, wK, wL, kI, wM, zX, wN, kC, lN, kT, gK, rE, rF, lX, nV, wO, ())
def vG (n : Nat) (x : Int × Int × Int × Int × Int × List UInt8 × List UInt8 × Bool × Bool × Bool × List (Bool × Int × Unit) × List (List UInt8 × Bool × Unit) × Bool × List (List (NdT) × Bool × Unit) × List (((Int × Int × Int × Unit) × (Int × Int × Int × Unit) × Bool × Unit) × Int × List UInt8 × List UInt8 × Int × Int × Int × List (List UInt8 × Int × Unit) × Bool × Bool × Unit) × Bool × List (List UInt8 × List UInt8 × Unit) × List (List UInt8 × Bool × Unit) × Unit) : Option (Int × Int × Int × Int × Int × List UInt8 × List UInt8 × Bool × Bool × Bool × List (Bool × Int × Unit) × List (List UInt8 × Bool × Unit) × Bool × List (List (NdT) × Bool × Unit) × List (((Int × Int × Int × Unit) × (Int × Int × Int × Unit) × Bool × Unit) × Int × List UInt8 × List UInt8 × Int × Int × Int × List (List UInt8 × Int × Unit) × Bool × Bool × Unit) × Bool × List (List UInt8 × List UInt8 × Unit) × List (List UInt8 × Bool × Unit) × Unit) :=
 let rD : Int := x.1
 let PC2 : Int := x.2.1
 let N3 : Int := x.2.2.1
 let wK : Int := x.2.2.2.1
 let wL : Int := x.2.2.2.2.1
 let kI : List UInt8 := x.2.2.2.2.2.1
 let wM : List UInt8 := x.2.2.2.2.2.2.1
 let zX : Bool := x.2.2.2.2.2.2.2.1
 let wN : Bool := x.2.2.2.2.2.2.2.2.1
 let kC : Bool := x.2.2.2.2.2.2.2.2.2.1
 let lN : List (Bool × Int × Unit) := x.2.2.2.2.2.2.2.2.2.2.1
 let kT : List (List UInt8 × Bool × Unit) := x.2.2.2.2.2.2.2.2.2.2.2.1
 let gK : Bool := x.2.2.2.2.2.2.2.2.2.2.2.2.1
 let rE : List (List (NdT) × Bool × Unit) := x.2.2.2.2.2.2.2.2.2.2.2.2.2.1
 let rF : List (((Int × Int × Int × Unit) × (Int × Int × Int × Unit) × Bool × Unit) × Int × List UInt8 × List UInt8 × Int × Int × Int × List (List UInt8 × Int × Unit) × Bool × Bool × Unit) := x.2.2.2.2.2.2.2.2.2.2.2.2.2.2.1
 let lX : Bool := x.2.2.2.2.2.2.2.2.2.2.2.2.2.2.2.1
 let nV : List (List UInt8 × List UInt8 × Unit) := x.2.2.2.2.2.2.2.2.2.2.2.2.2.2.2.2.1
 let wO : List (List UInt8 × Bool × Unit) := x.2.2.2.2.2.2.2.2.2.2.2.2.2.2.2.2.2.1
 ob (rH n (rD, PC2, N3, wK, wL, kI, wM, zX, wN, kC, lN, kT, gK, rE, rF, lX, nV, wO, ())) fun y19 =>
 some (0, y19.2.1, y19.2.2.1, y19.2.2.2.1, y19.2.2.2.2.1, y19.2.2.2.2.2.1, y19.2.2.2.2.2.2.1, y19.2.2.2.2.2.2.2.1, y19.2.2.2.2.2.2.2.2.1, y19.2.2.2.2.2.2.2.2.2.1, y19.2.2.2.2.2.2.2.2.2.2.1, y19.2.2.2.2.2.2.2.2.2.2.2.1, y19.2.2.2.2.2.2.2.2.2.2.2.2.1, y19.2.2.2.2.2.2.2.2.2.2.2.2.2.1, y19.2.2.2.2.2.2.2.2.2.2.2.2.2.2.1, y19.2.2.2.2.2.2.2.2.2.2.2.2.2.2.2.1, y19.2.2.2.2.2.2.2.2.2.2.2.2.2.2.2.2.1, y19.2.2.2.2.2.2.2.2.2.2.2.2.2.2.2.2.2.1, ())
def kJ (_n:Nat) (x:List (Bool × Int × Unit) × Unit):Option (List (Bool × Int × Unit) × Unit):=zLs 16 x
def Bq (n : Nat) (g0 : Int × Int × Int × Int × Int × Int × Int × List UInt8 × List UInt8 × Bool × Bool × Bool × List (Bool × Int × Unit) × List (List UInt8 × Bool × Unit) × Bool × List (List (NdT) × Bool × Unit) × List (((Int × Int × Int × Unit) × (Int × Int × Int × Unit) × Bool × Unit) × Int × List UInt8 × List UInt8 × Int × Int × Int × List (List UInt8 × Int × Unit) × Bool × Bool × Unit) × Bool × List (List UInt8 × List UInt8 × Unit) × List (List UInt8 × Bool × Unit) × Int × Int × Int × Int × Int × Int × Bool × Int × List UInt8 × List UInt8 × Int × Int × Int × List (List UInt8 × Int × Unit) × Bool × Bool × List (Bool) × List (Int × Int × Int × Unit) × Unit -> Option (Bool × Int × Int × Int × Int × Int × List UInt8 × List UInt8 × Bool × Bool × Bool × List (List UInt8 × Bool × Unit) × Bool × List (List (NdT) × Bool × Unit) × List (((Int × Int × Int × Unit) × (Int × Int × Int × Unit) × Bool × Unit) × Int × List UInt8 × List UInt8 × Int × Int × Int × List (List UInt8 × Int × Unit) × Bool × Bool × Unit) × Bool × List (List UInt8 × List UInt8 × Unit) × List (List UInt8 × Bool × Unit) × List (Bool × Int × Unit) × Unit)) (x37 : Int × Int × Int × Int × Int × Int × Int × List UInt8 × List UInt8 × Bool × Bool × Bool × List (Bool × Int × Unit) × List (List UInt8 × Bool × Unit) × Bool × List (List (NdT) × Bool × Unit) × List (((Int × Int × Int × Unit) × (Int × Int × Int × Unit) × Bool × Unit) × Int × List UInt8 × List UInt8 × Int × Int × Int × List (List UInt8 × Int × Unit) × Bool × Bool × Unit) × Bool × List (List UInt8 × List UInt8 × Unit) × List (List UInt8 × Bool × Unit) × Int × Int × Int × Int × Int × Int × Bool × Int × List UInt8 × List UInt8 × Int × Int × Int × List (List UInt8 × Int × Unit) × Bool × Bool × List (Bool) × List (Int × Int × Int × Unit) × Unit) : Option (Bool × Int × Int × Int × Int × Int × List UInt8 × List UInt8 × Bool × Bool × Bool × List (List UInt8 × Bool × Unit) × Bool × List (List (NdT) × Bool × Unit) × List (((Int × Int × Int × Unit) × (Int × Int × Int × Unit) × Bool × Unit) × Int × List UInt8 × List UInt8 × Int × Int × Int × List (List UInt8 × Int × Unit) × Bool × Bool × Unit) × Bool × List (List UInt8 × List UInt8 × Unit) × List (List UInt8 × Bool × Unit) × List (Bool × Int × Unit) × Unit) :=
 let zNe : Int := x37.1
 let Ja : Int := x37.2.1
 let zGm : Int := x37.2.2.1
 let Ou : Int := x37.2.2.2.1
 let N42 : Int := x37.2.2.2.2.1
 let zNf : Int := x37.2.2.2.2.2.1
 let zNg : Int := x37.2.2.2.2.2.2.1
 let Yh : List UInt8 := x37.2.2.2.2.2.2.2.1
 let zNh : List UInt8 := x37.2.2.2.2.2.2.2.2.1
 let zRy : Bool := x37.2.2.2.2.2.2.2.2.2.1
 let zDo : Bool := x37.2.2.2.2.2.2.2.2.2.2.1
 let Yi : Bool := x37.2.2.2.2.2.2.2.2.2.2.2.1
 let Ev : List (Bool × Int × Unit) := x37.2.2.2.2.2.2.2.2.2.2.2.2.1
 let zGn : List (List UInt8 × Bool × Unit) := x37.2.2.2.2.2.2.2.2.2.2.2.2.2.1
 let zGo : Bool := x37.2.2.2.2.2.2.2.2.2.2.2.2.2.2.1
 let zNi : List (List (NdT) × Bool × Unit) := x37.2.2.2.2.2.2.2.2.2.2.2.2.2.2.2.1
 let zNj : List (((Int × Int × Int × Unit) × (Int × Int × Int × Unit) × Bool × Unit) × Int × List UInt8 × List UInt8 × Int × Int × Int × List (List UInt8 × Int × Unit) × Bool × Bool × Unit) := x37.2.2.2.2.2.2.2.2.2.2.2.2.2.2.2.2.1
 let zGp : Bool := x37.2.2.2.2.2.2.2.2.2.2.2.2.2.2.2.2.2.1
 let zGq : List (List UInt8 × List UInt8 × Unit) := x37.2.2.2.2.2.2.2.2.2.2.2.2.2.2.2.2.2.2.1
 let zRz : List (List UInt8 × Bool × Unit) := x37.2.2.2.2.2.2.2.2.2.2.2.2.2.2.2.2.2.2.2.1
 let zNk : Int := x37.2.2.2.2.2.2.2.2.2.2.2.2.2.2.2.2.2.2.2.2.1
 let N59 : Int := x37.2.2.2.2.2.2.2.2.2.2.2.2.2.2.2.2.2.2.2.2.2.1
 let M60 : Int := x37.2.2.2.2.2.2.2.2.2.2.2.2.2.2.2.2.2.2.2.2.2.2.1
 let zNl : Int := x37.2.2.2.2.2.2.2.2.2.2.2.2.2.2.2.2.2.2.2.2.2.2.2.1
 let N62 : Int := x37.2.2.2.2.2.2.2.2.2.2.2.2.2.2.2.2.2.2.2.2.2.2.2.2.1
 let M63 : Int := x37.2.2.2.2.2.2.2.2.2.2.2.2.2.2.2.2.2.2.2.2.2.2.2.2.2.1
 let zSa : Bool := x37.2.2.2.2.2.2.2.2.2.2.2.2.2.2.2.2.2.2.2.2.2.2.2.2.2.2.1
 let yBo : Int := x37.2.2.2.2.2.2.2.2.2.2.2.2.2.2.2.2.2.2.2.2.2.2.2.2.2.2.2.1
 let zYu : List UInt8 := x37.2.2.2.2.2.2.2.2.2.2.2.2.2.2.2.2.2.2.2.2.2.2.2.2.2.2.2.2.1
 let zYv : List UInt8 := x37.2.2.2.2.2.2.2.2.2.2.2.2.2.2.2.2.2.2.2.2.2.2.2.2.2.2.2.2.2.1
 let N68 : Int := x37.2.2.2.2.2.2.2.2.2.2.2.2.2.2.2.2.2.2.2.2.2.2.2.2.2.2.2.2.2.2.1
 let yBp : Int := x37.2.2.2.2.2.2.2.2.2.2.2.2.2.2.2.2.2.2.2.2.2.2.2.2.2.2.2.2.2.2.2.1
 let zZz : Int := x37.2.2.2.2.2.2.2.2.2.2.2.2.2.2.2.2.2.2.2.2.2.2.2.2.2.2.2.2.2.2.2.2.1
 let zUh : List (List UInt8 × Int × Unit) := x37.2.2.2.2.2.2.2.2.2.2.2.2.2.2.2.2.2.2.2.2.2.2.2.2.2.2.2.2.2.2.2.2.2.1
 let yAa : Bool := x37.2.2.2.2.2.2.2.2.2.2.2.2.2.2.2.2.2.2.2.2.2.2.2.2.2.2.2.2.2.2.2.2.2.2.1
 let zUi : Bool := x37.2.2.2.2.2.2.2.2.2.2.2.2.2.2.2.2.2.2.2.2.2.2.2.2.2.2.2.2.2.2.2.2.2.2.2.1
 let zSb : List (Bool) := x37.2.2.2.2.2.2.2.2.2.2.2.2.2.2.2.2.2.2.2.2.2.2.2.2.2.2.2.2.2.2.2.2.2.2.2.2.1
 let Kr : List (Int × Int × Int × Unit) := x37.2.2.2.2.2.2.2.2.2.2.2.2.2.2.2.2.2.2.2.2.2.2.2.2.2.2.2.2.2.2.2.2.2.2.2.2.2.1
 br (decide (Ja < zNe)) (
  chk ((inB Ja (Kr.length) && decide (0 + (Kr.length) <= Kr.length))) (
   chk (decide (0 + Ja.toNat < Kr.length)) (
    let v76 : Int := (Kr.getD (0 + Ja.toNat) (Ty.dflt Bg)).1
    br (v76 == 4) (
     none) (
     let v79 : Int := IntKind.wrap .i64 (Ja + 1)
     g0 (zNe, v79, zGm, Ou, N42, zNf, zNg, Yh, zNh, zRy, zDo, Yi, Ev, zGn, zGo, zNi, zNj, zGp, zGq, zRz, zNk, N59, M60, zNl, N62, M63, zSa, yBo, zYu, zYv, N68, yBp, zZz, zUh, yAa, zUi, zSb, Kr, ()))))) (
  chk (inB Ou Ev.length) (
   let v80 : Bool × Int × Unit := bL (Ty.dflt gP) Ev Ou
   ob (vF n (((zNk, (N59, (M60, ()))), ((zNl, (N62, (M63, ()))), (zSa, ()))), v80, (N42, (zDo, (zSb, ()))))) fun y81 =>
   ob (kJ n (Ev, ())) fun y82 =>
   chk ((inB Ou (y82.1.length) && decide (0 + (y82.1.length) <= y82.1.length))) (
    chk (decide (0 + Ou.toNat < y82.1.length)) (
     let r83 : List (Bool × Int × Unit) := y82.1.set (0 + Ou.toNat) y81.2
     some (y81.1, zGm, Ou, N42, zNf, zNg, Yh, zNh, zRy, zDo, Yi, zGn, zGo, zNi, zNj, zGp, zGq, zRz, r83, ())))))
def rJ (n : Nat) (x : Int × Int × Int × Int × Int × Int × Bool × Int × List UInt8 × List UInt8 × Int × Int × Int × List (List UInt8 × Int × Unit) × Bool × Bool × Int × Int × Int × Int × Int × List UInt8 × List UInt8 × Bool × Bool × Bool × List (Bool × Int × Unit) × List (List UInt8 × Bool × Unit) × Bool × List (List (NdT) × Bool × Unit) × List (((Int × Int × Int × Unit) × (Int × Int × Int × Unit) × Bool × Unit) × Int × List UInt8 × List UInt8 × Int × Int × Int × List (List UInt8 × Int × Unit) × Bool × Bool × Unit) × Bool × List (List UInt8 × List UInt8 × Unit) × List (List UInt8 × Bool × Unit) × Unit) : Option (Bool × Int × Int × Int × Int × Int × List UInt8 × List UInt8 × Bool × Bool × Bool × List (List UInt8 × Bool × Unit) × Bool × List (List (NdT) × Bool × Unit) × List (((Int × Int × Int × Unit) × (Int × Int × Int × Unit) × Bool × Unit) × Int × List UInt8 × List UInt8 × Int × Int × Int × List (List UInt8 × Int × Unit) × Bool × Bool × Unit) × Bool × List (List UInt8 × List UInt8 × Unit) × List (List UInt8 × Bool × Unit) × List (Bool × Int × Unit) × Unit) :=
 let c_1 : Int := x.1
 let c_2 : Int := x.2.1
 let c_3 : Int := x.2.2.1
 let c_4 : Int := x.2.2.2.1
 let c_5 : Int := x.2.2.2.2.1
 let c_6 : Int := x.2.2.2.2.2.1
 let c_7 : Bool := x.2.2.2.2.2.2.1
 let c_8 : Int := x.2.2.2.2.2.2.2.1
 let c_9 : List UInt8 := x.2.2.2.2.2.2.2.2.1
 let yBq : List UInt8 := x.2.2.2.2.2.2.2.2.2.1
 let yBr : Int := x.2.2.2.2.2.2.2.2.2.2.1
 let yBs : Int := x.2.2.2.2.2.2.2.2.2.2.2.1
 let yBt : Int := x.2.2.2.2.2.2.2.2.2.2.2.2.1
 let yBu : List (List UInt8 × Int × Unit) := x.2.2.2.2.2.2.2.2.2.2.2.2.2.1
 let yBv : Bool := x.2.2.2.2.2.2.2.2.2.2.2.2.2.2.1
 let yBw : Bool := x.2.2.2.2.2.2.2.2.2.2.2.2.2.2.2.1
 let zUj : Int := x.2.2.2.2.2.2.2.2.2.2.2.2.2.2.2.2.1
 let yBx : Int := x.2.2.2.2.2.2.2.2.2.2.2.2.2.2.2.2.2.1
 let N19 : Int := x.2.2.2.2.2.2.2.2.2.2.2.2.2.2.2.2.2.2.1
 let zYw : Int := x.2.2.2.2.2.2.2.2.2.2.2.2.2.2.2.2.2.2.2.1
 let zYx : Int := x.2.2.2.2.2.2.2.2.2.2.2.2.2.2.2.2.2.2.2.2.1
 let zNm : List UInt8 := x.2.2.2.2.2.2.2.2.2.2.2.2.2.2.2.2.2.2.2.2.2.1
 let zYy : List UInt8 := x.2.2.2.2.2.2.2.2.2.2.2.2.2.2.2.2.2.2.2.2.2.2.1
 let yAb : Bool := x.2.2.2.2.2.2.2.2.2.2.2.2.2.2.2.2.2.2.2.2.2.2.2.1
 let zYz : Bool := x.2.2.2.2.2.2.2.2.2.2.2.2.2.2.2.2.2.2.2.2.2.2.2.2.1
 let zNn : Bool := x.2.2.2.2.2.2.2.2.2.2.2.2.2.2.2.2.2.2.2.2.2.2.2.2.2.1
 let zRa : List (Bool × Int × Unit) := x.2.2.2.2.2.2.2.2.2.2.2.2.2.2.2.2.2.2.2.2.2.2.2.2.2.2.1
 let zUk : List (List UInt8 × Bool × Unit) := x.2.2.2.2.2.2.2.2.2.2.2.2.2.2.2.2.2.2.2.2.2.2.2.2.2.2.2.1
 let zUl : Bool := x.2.2.2.2.2.2.2.2.2.2.2.2.2.2.2.2.2.2.2.2.2.2.2.2.2.2.2.2.1
 let Br : List (List (NdT) × Bool × Unit) := x.2.2.2.2.2.2.2.2.2.2.2.2.2.2.2.2.2.2.2.2.2.2.2.2.2.2.2.2.2.1
 let zZa : List (((Int × Int × Int × Unit) × (Int × Int × Int × Unit) × Bool × Unit) × Int × List UInt8 × List UInt8 × Int × Int × Int × List (List UInt8 × Int × Unit) × Bool × Bool × Unit) := x.2.2.2.2.2.2.2.2.2.2.2.2.2.2.2.2.2.2.2.2.2.2.2.2.2.2.2.2.2.2.1
 let zUm : Bool := x.2.2.2.2.2.2.2.2.2.2.2.2.2.2.2.2.2.2.2.2.2.2.2.2.2.2.2.2.2.2.2.1
 let zUn : List (List UInt8 × List UInt8 × Unit) := x.2.2.2.2.2.2.2.2.2.2.2.2.2.2.2.2.2.2.2.2.2.2.2.2.2.2.2.2.2.2.2.2.1
 let yAc : List (List UInt8 × Bool × Unit) := x.2.2.2.2.2.2.2.2.2.2.2.2.2.2.2.2.2.2.2.2.2.2.2.2.2.2.2.2.2.2.2.2.2.1
 chk ((decide (0 <= (Br.length : Int)) && (decide ((Br.length : Int) = (Br.length : Int)) && Nat.ble ((Br.length : Int).toNat * 1) room))) (
  let r35 : List (Bool) := List.replicate (Br.length : Int).toNat false
  let v36 : Int := (([(c_1, (c_2, (c_3, ()))), (c_4, (c_5, (c_6, ())))].length : Nat) : Int)
  fix (Bq n) n (v36, 0, zUj, yBx, N19, zYw, zYx, zNm, zYy, yAb, zYz, zNn, zRa, zUk, zUl, Br, zZa, zUm, zUn, yAc, c_1, c_2, c_3, c_4, c_5, c_6, c_7, c_8, c_9, yBq, yBr, yBs, yBt, yBu, yBv, yBw, r35, [(c_1, (c_2, (c_3, ()))), (c_4, (c_5, (c_6, ())))], ()))
def mX (n : Nat) (x : (Bool × List (List (NdT) × Bool × Unit) × List (((Int × Int × Int × Unit) × (Int × Int × Int × Unit) × Bool × Unit) × Int × List UInt8 × List UInt8 × Int × Int × Int × List (List UInt8 × Int × Unit) × Bool × Bool × Unit) × Unit) × Bool × (Int × Int × Int × Int × Int × List UInt8 × List UInt8 × Bool × Bool × Bool × List (Bool × Int × Unit) × List (List UInt8 × Bool × Unit) × Unit) × List (List UInt8 × List UInt8 × Unit)) : Option ((Int × Int × Int × Int × Int × List UInt8 × List UInt8 × Bool × Bool × Bool × List (Bool × Int × Unit) × List (List UInt8 × Bool × Unit) × Unit) × List (List UInt8 × List UInt8 × Unit) × List (List UInt8 × Bool × Unit)) :=
 let x_0 : Bool × List (List (NdT) × Bool × Unit) × List (((Int × Int × Int × Unit) × (Int × Int × Int × Unit) × Bool × Unit) × Int × List UInt8 × List UInt8 × Int × Int × Int × List (List UInt8 × Int × Unit) × Bool × Bool × Unit) × Unit := x.1
 let zGr : Bool := x.2.1
 let b_2 : Int × Int × Int × Int × Int × List UInt8 × List UInt8 × Bool × Bool × Bool × List (Bool × Int × Unit) × List (List UInt8 × Bool × Unit) × Unit := x.2.2.1
 let t_3 : List (List UInt8 × List UInt8 × Unit) := x.2.2.2
 br (b_2.1 != 1) (
  some (b_2, t_3, [])) (
  br (b_2.2.1 == (x_0.2.2.1.length : Int)) (
   ob (rG n (b_2.1, b_2.2.1, b_2.2.2.1, b_2.2.2.2.1, b_2.2.2.2.2.1, b_2.2.2.2.2.2.1, b_2.2.2.2.2.2.2.1, b_2.2.2.2.2.2.2.2.1, b_2.2.2.2.2.2.2.2.2.1, b_2.2.2.2.2.2.2.2.2.2.1, b_2.2.2.2.2.2.2.2.2.2.2.1, b_2.2.2.2.2.2.2.2.2.2.2.2.1, x_0.1, x_0.2.1, x_0.2.2.1, zGr, t_3, [], ())) fun y1 =>
   ob (vG n (y1.1, y1.2.1, y1.2.2.1, y1.2.2.2.1, y1.2.2.2.2.1, y1.2.2.2.2.2.1, y1.2.2.2.2.2.2.1, y1.2.2.2.2.2.2.2.1, y1.2.2.2.2.2.2.2.2.1, y1.2.2.2.2.2.2.2.2.2.1, y1.2.2.2.2.2.2.2.2.2.2.1, y1.2.2.2.2.2.2.2.2.2.2.2.1, y1.2.2.2.2.2.2.2.2.2.2.2.2.1, y1.2.2.2.2.2.2.2.2.2.2.2.2.2.1, y1.2.2.2.2.2.2.2.2.2.2.2.2.2.2.1, y1.2.2.2.2.2.2.2.2.2.2.2.2.2.2.2.1, y1.2.2.2.2.2.2.2.2.2.2.2.2.2.2.2.2.1, y1.2.2.2.2.2.2.2.2.2.2.2.2.2.2.2.2.2.1, ())) fun y2 =>
   let v3 : List (List UInt8 × List UInt8 × Unit) := y2.2.2.2.2.2.2.2.2.2.2.2.2.2.2.2.2.1
   some ((y2.1, (y2.2.1, (y2.2.2.1, (y2.2.2.2.1, (y2.2.2.2.2.1, (y2.2.2.2.2.2.1, (y2.2.2.2.2.2.2.1, (y2.2.2.2.2.2.2.2.1, (y2.2.2.2.2.2.2.2.2.1, (y2.2.2.2.2.2.2.2.2.2.1, (y2.2.2.2.2.2.2.2.2.2.2.1, (y2.2.2.2.2.2.2.2.2.2.2.2.1, ())))))))))))), v3, y2.2.2.2.2.2.2.2.2.2.2.2.2.2.2.2.2.2.1)) (
   chk (inB b_2.2.1 x_0.2.2.1.length) (
    let v4 : ((Int × Int × Int × Unit) × (Int × Int × Int × Unit) × Bool × Unit) × Int × List UInt8 × List UInt8 × Int × Int × Int × List (List UInt8 × Int × Unit) × Bool × Bool × Unit := bL (Ty.dflt aG) x_0.2.2.1 b_2.2.1
    ob (rJ n (v4.1.1.1, v4.1.1.2.1, v4.1.1.2.2.1, v4.1.2.1.1, v4.1.2.1.2.1, v4.1.2.1.2.2.1, v4.1.2.2.1, v4.2.1, v4.2.2.1, v4.2.2.2.1, v4.2.2.2.2.1, v4.2.2.2.2.2.1, v4.2.2.2.2.2.2.1, v4.2.2.2.2.2.2.2.1, v4.2.2.2.2.2.2.2.2.1, v4.2.2.2.2.2.2.2.2.2.1, b_2.1, b_2.2.1, b_2.2.2.1, b_2.2.2.2.1, b_2.2.2.2.2.1, b_2.2.2.2.2.2.1, b_2.2.2.2.2.2.2.1, b_2.2.2.2.2.2.2.2.1, b_2.2.2.2.2.2.2.2.2.1, b_2.2.2.2.2.2.2.2.2.2.1, b_2.2.2.2.2.2.2.2.2.2.2.1, b_2.2.2.2.2.2.2.2.2.2.2.2.1, x_0.1, x_0.2.1, x_0.2.2.1, zGr, t_3, [], ())) fun y5 =>
    let v6 : Int := IntKind.wrap .i64 (y5.2.2.1 + 1)
    br y5.1 (
     none) (
     br (v4.2.1 == 123) (
      let v7 : Int := IntKind.wrap .i64 (v4.2.2.2.2.2.1 + 1)
      let v8 : List (List UInt8 × List UInt8 × Unit) := y5.2.2.2.2.2.2.2.2.2.2.2.2.2.2.2.2.1
      some ((y5.2.1, (v7, (y5.2.2.2.1, (y5.2.2.2.2.1, (y5.2.2.2.2.2.1, (y5.2.2.2.2.2.2.1, (y5.2.2.2.2.2.2.2.1, (y5.2.2.2.2.2.2.2.2.1, (y5.2.2.2.2.2.2.2.2.2.1, (y5.2.2.2.2.2.2.2.2.2.2.1, (y5.2.2.2.2.2.2.2.2.2.2.2.2.2.2.2.2.2.2.1, (y5.2.2.2.2.2.2.2.2.2.2.2.1, ())))))))))))), v8, y5.2.2.2.2.2.2.2.2.2.2.2.2.2.2.2.2.2.1)) (
      let v9 : List (List UInt8 × List UInt8 × Unit) := y5.2.2.2.2.2.2.2.2.2.2.2.2.2.2.2.2.1
      some ((y5.2.1, (v6, (y5.2.2.2.1, (y5.2.2.2.2.1, (y5.2.2.2.2.2.1, (y5.2.2.2.2.2.2.1, (y5.2.2.2.2.2.2.2.1, (y5.2.2.2.2.2.2.2.2.1, (y5.2.2.2.2.2.2.2.2.2.1, (y5.2.2.2.2.2.2.2.2.2.2.1, (y5.2.2.2.2.2.2.2.2.2.2.2.2.2.2.2.2.2.2.1, (y5.2.2.2.2.2.2.2.2.2.2.2.1, ())))))))))))), v9, y5.2.2.2.2.2.2.2.2.2.2.2.2.2.2.2.2.2.1))))))
def zH (n : Nat) (g0 : List (List UInt8 × List UInt8 × Unit) × Int × List (List UInt8 × Bool × Unit) × Int × Bool × List (List (NdT) × Bool × Unit) × List (((Int × Int × Int × Unit) × (Int × Int × Int × Unit) × Bool × Unit) × Int × List UInt8 × List UInt8 × Int × Int × Int × List (List UInt8 × Int × Unit) × Bool × Bool × Unit) × Bool × List (List UInt8) × Bool × List (List UInt8 × List UInt8 × Unit) × Int × Int × Int × Int × Int × Int × Int × List UInt8 × List UInt8 × Bool × Bool × Bool × List (Bool × Int × Unit) × List (List UInt8 × Bool × Unit) × List (List UInt8 × Bool × Unit) × Unit -> Option ((List (List UInt8 × Bool × Unit) × List (List UInt8 × List UInt8 × Unit) × Int × Int × Unit) × Int)) (x5 : List (List UInt8 × List UInt8 × Unit) × Int × List (List UInt8 × Bool × Unit) × Int × Bool × List (List (NdT) × Bool × Unit) × List (((Int × Int × Int × Unit) × (Int × Int × Int × Unit) × Bool × Unit) × Int × List UInt8 × List UInt8 × Int × Int × Int × List (List UInt8 × Int × Unit) × Bool × Bool × Unit) × Bool × List (List UInt8) × Bool × List (List UInt8 × List UInt8 × Unit) × Int × Int × Int × Int × Int × Int × Int × List UInt8 × List UInt8 × Bool × Bool × Bool × List (Bool × Int × Unit) × List (List UInt8 × Bool × Unit) × List (List UInt8 × Bool × Unit) × Unit) : Option ((List (List UInt8 × Bool × Unit) × List (List UInt8 × List UInt8 × Unit) × Int × Int × Unit) × Int) :=
 let t_6 : List (List UInt8 × List UInt8 × Unit) := x5.1
 let Sv : Int := x5.2.1
 let qL : List (List UInt8 × Bool × Unit) := x5.2.2.1
 let Ew : Int := x5.2.2.2.1
 let Ku : Bool := x5.2.2.2.2.1
 let Sw : List (List (NdT) × Bool × Unit) := x5.2.2.2.2.2.1
 let Sy : List (((Int × Int × Int × Unit) × (Int × Int × Int × Unit) × Bool × Unit) × Int × List UInt8 × List UInt8 × Int × Int × Int × List (List UInt8 × Int × Unit) × Bool × Bool × Unit) := x5.2.2.2.2.2.2.1
 let gK : Bool := x5.2.2.2.2.2.2.2.1
 let Vi : List (List UInt8) := x5.2.2.2.2.2.2.2.2.1
 let zKl : Bool := x5.2.2.2.2.2.2.2.2.2.1
 let Vj : List (List UInt8 × List UInt8 × Unit) := x5.2.2.2.2.2.2.2.2.2.2.1
 let Ov : Int := x5.2.2.2.2.2.2.2.2.2.2.2.1
 let wW : Int := x5.2.2.2.2.2.2.2.2.2.2.2.2.1
 let Bu : Int := x5.2.2.2.2.2.2.2.2.2.2.2.2.2.1
 let zRb : Int := x5.2.2.2.2.2.2.2.2.2.2.2.2.2.2.1
 let N21 : Int := x5.2.2.2.2.2.2.2.2.2.2.2.2.2.2.2.1
 let Jb : Int := x5.2.2.2.2.2.2.2.2.2.2.2.2.2.2.2.2.1
 let zDp : Int := x5.2.2.2.2.2.2.2.2.2.2.2.2.2.2.2.2.2.1
 let Jc : List UInt8 := x5.2.2.2.2.2.2.2.2.2.2.2.2.2.2.2.2.2.2.1
 let zDq : List UInt8 := x5.2.2.2.2.2.2.2.2.2.2.2.2.2.2.2.2.2.2.2.1
 let zKm : Bool := x5.2.2.2.2.2.2.2.2.2.2.2.2.2.2.2.2.2.2.2.2.1
 let zDr : Bool := x5.2.2.2.2.2.2.2.2.2.2.2.2.2.2.2.2.2.2.2.2.2.1
 let Jd : Bool := x5.2.2.2.2.2.2.2.2.2.2.2.2.2.2.2.2.2.2.2.2.2.2.1
 let Ow : List (Bool × Int × Unit) := x5.2.2.2.2.2.2.2.2.2.2.2.2.2.2.2.2.2.2.2.2.2.2.2.1
 let Vk : List (List UInt8 × Bool × Unit) := x5.2.2.2.2.2.2.2.2.2.2.2.2.2.2.2.2.2.2.2.2.2.2.2.2.1
 let nU : List (List UInt8 × Bool × Unit) := x5.2.2.2.2.2.2.2.2.2.2.2.2.2.2.2.2.2.2.2.2.2.2.2.2.2.1
 br (Bu == 4) (
  br (Jb == 0) (
   some ((nU, (t_6, (Ew, (wW, ())))), 0)) (
   some ((nU, (t_6, (Jb, (wW, ())))), 0))) (
  br (Bu != 1) (
   br ((qL.length : Int) == 0) (
    ob (jZ n (Bu, (zRb, (N21, (Jb, (zDp, (Jc, (zDq, (zKm, (zDr, (Jd, (Ow, (Vk, ()))))))))))))) fun y32 =>
    g0 (t_6, Sv, qL, Ew, Ku, Sw, Sy, gK, Vi, zKl, Vj, Ov, wW, y32.1, y32.2.1, y32.2.2.1, y32.2.2.2.1, y32.2.2.2.2.1, y32.2.2.2.2.2.1, y32.2.2.2.2.2.2.1, y32.2.2.2.2.2.2.2.1, y32.2.2.2.2.2.2.2.2.1, y32.2.2.2.2.2.2.2.2.2.1, y32.2.2.2.2.2.2.2.2.2.2.1, y32.2.2.2.2.2.2.2.2.2.2.2.1, nU, ())) (
    chk (inB 0 qL.length) (
     let v33 : List UInt8 × Bool × Unit := bL (Ty.dflt aS) qL 0
     ob (kX n ((Bu, (zRb, (N21, (Jb, (zDp, (Jc, (zDq, (zKm, (zDr, (Jd, (Ow, (Vk, ())))))))))))), v33, ((qL.length : Int) == 1))) fun y34 =>
     chk ((decide (0 <= (1 : Int)) && decide ((1 : Int) <= (qL.length : Int)))) (
      let v35 : List (List UInt8 × Bool × Unit) := qL.drop (1 : Int).toNat
      g0 (t_6, Sv, v35, Ew, Ku, Sw, Sy, gK, Vi, zKl, Vj, Ov, wW, y34.1, y34.2.1, y34.2.2.1, y34.2.2.2.1, y34.2.2.2.2.1, y34.2.2.2.2.2.1, y34.2.2.2.2.2.2.1, y34.2.2.2.2.2.2.2.1, y34.2.2.2.2.2.2.2.2.1, y34.2.2.2.2.2.2.2.2.2.1, y34.2.2.2.2.2.2.2.2.2.2.1, y34.2.2.2.2.2.2.2.2.2.2.2.1, nU, ()))))) (
   br (decide (wW ≥ Sv)) (
    some (([], ([], (0, (0, ())))), 4)) (
    let v36 : Int := IntKind.wrap .i64 (wW + 1)
    ob (mX n ((Ku, (Sw, (Sy, ()))), gK, (Bu, (zRb, (N21, (Jb, (zDp, (Jc, (zDq, (zKm, (zDr, (Jd, (Ow, (Vk, ())))))))))))), t_6)) fun y37 =>
    chk (Nat.ble ((nU.length + y37.2.2.length) * 24) room) (
     g0 (y37.2.1, Sv, qL, Ew, Ku, Sw, Sy, gK, Vi, zKl, Vj, Ov, v36, y37.1.1, y37.1.2.1, y37.1.2.2.1, y37.1.2.2.2.1, y37.1.2.2.2.2.1, y37.1.2.2.2.2.2.1, y37.1.2.2.2.2.2.2.1, y37.1.2.2.2.2.2.2.2.1, y37.1.2.2.2.2.2.2.2.2.1, y37.1.2.2.2.2.2.2.2.2.2.1, y37.1.2.2.2.2.2.2.2.2.2.2.1, y37.1.2.2.2.2.2.2.2.2.2.2.2.1, nU ++ y37.2.2, ())))))
def eX (n : Nat) (g0 : List (List UInt8 × List UInt8 × Unit) × Int × List (List UInt8 × Bool × Unit) × Int × Bool × List (List (NdT) × Bool × Unit) × List (((Int × Int × Int × Unit) × (Int × Int × Int × Unit) × Bool × Unit) × Int × List UInt8 × List UInt8 × Int × Int × Int × List (List UInt8 × Int × Unit) × Bool × Bool × Unit) × Bool × List (List UInt8) × Bool × List (List UInt8 × List UInt8 × Unit) × Int × Int × Int × Int × Int × Int × Int × List UInt8 × List UInt8 × Bool × Bool × Bool × List (Bool × Int × Unit) × List (List UInt8 × Bool × Unit) × List (List UInt8 × Bool × Unit) × Unit -> Option ((List (List UInt8 × Bool × Unit) × List (List UInt8 × List UInt8 × Unit) × Int × Int × Unit) × Int)) (x41 : List (List UInt8 × List UInt8 × Unit) × Int × List (List UInt8 × Bool × Unit) × Int × Bool × List (List (NdT) × Bool × Unit) × List (((Int × Int × Int × Unit) × (Int × Int × Int × Unit) × Bool × Unit) × Int × List UInt8 × List UInt8 × Int × Int × Int × List (List UInt8 × Int × Unit) × Bool × Bool × Unit) × Bool × List (List UInt8) × Bool × List (List UInt8 × List UInt8 × Unit) × Int × Int × Int × Int × Int × Int × Int × List UInt8 × List UInt8 × Bool × Bool × Bool × List (Bool × Int × Unit) × List (List UInt8 × Bool × Unit) × List (List UInt8 × Bool × Unit) × Unit) : Option ((List (List UInt8 × Bool × Unit) × List (List UInt8 × List UInt8 × Unit) × Int × Int × Unit) × Int) :=
 let zDs : List (List UInt8 × List UInt8 × Unit) := x41.1
 let Kv : Int := x41.2.1
 let mY : List (List UInt8 × Bool × Unit) := x41.2.2.1
 let zI : Int := x41.2.2.2.1
 let Kw : Bool := x41.2.2.2.2.1
 let Sz : List (List (NdT) × Bool × Unit) := x41.2.2.2.2.2.1
 let Ta : List (((Int × Int × Int × Unit) × (Int × Int × Int × Unit) × Bool × Unit) × Int × List UInt8 × List UInt8 × Int × Int × Int × List (List UInt8 × Int × Unit) × Bool × Bool × Unit) := x41.2.2.2.2.2.2.1
 let Ky : Bool := x41.2.2.2.2.2.2.2.1
 let Vl : List (List UInt8) := x41.2.2.2.2.2.2.2.2.1
 let zKn : Bool := x41.2.2.2.2.2.2.2.2.2.1
 let Vm : List (List UInt8 × List UInt8 × Unit) := x41.2.2.2.2.2.2.2.2.2.2.1
 let Ox : Int := x41.2.2.2.2.2.2.2.2.2.2.2.1
 let wX : Int := x41.2.2.2.2.2.2.2.2.2.2.2.2.1
 let Bv : Int := x41.2.2.2.2.2.2.2.2.2.2.2.2.2.1
 let zRc : Int := x41.2.2.2.2.2.2.2.2.2.2.2.2.2.2.1
 let N57 : Int := x41.2.2.2.2.2.2.2.2.2.2.2.2.2.2.2.1
 let Je : Int := x41.2.2.2.2.2.2.2.2.2.2.2.2.2.2.2.2.1
 let zDt : Int := x41.2.2.2.2.2.2.2.2.2.2.2.2.2.2.2.2.2.1
 let Jf : List UInt8 := x41.2.2.2.2.2.2.2.2.2.2.2.2.2.2.2.2.2.2.1
 let zDu : List UInt8 := x41.2.2.2.2.2.2.2.2.2.2.2.2.2.2.2.2.2.2.2.1
 let zKo : Bool := x41.2.2.2.2.2.2.2.2.2.2.2.2.2.2.2.2.2.2.2.2.1
 let zDv : Bool := x41.2.2.2.2.2.2.2.2.2.2.2.2.2.2.2.2.2.2.2.2.2.1
 let Jg : Bool := x41.2.2.2.2.2.2.2.2.2.2.2.2.2.2.2.2.2.2.2.2.2.2.1
 let Oy : List (Bool × Int × Unit) := x41.2.2.2.2.2.2.2.2.2.2.2.2.2.2.2.2.2.2.2.2.2.2.2.1
 let Vn : List (List UInt8 × Bool × Unit) := x41.2.2.2.2.2.2.2.2.2.2.2.2.2.2.2.2.2.2.2.2.2.2.2.2.1
 let Kz : List (List UInt8 × Bool × Unit) := x41.2.2.2.2.2.2.2.2.2.2.2.2.2.2.2.2.2.2.2.2.2.2.2.2.2.1
 br (Bv == 4) (
  br (Je == 0) (
   some ((Kz, (zDs, (zI, (wX, ())))), 0)) (
   some ((Kz, (zDs, (Je, (wX, ())))), 0))) (
  br (Bv != 1) (
   br ((mY.length : Int) == 0) (
    ob (jZ n (Bv, (zRc, (N57, (Je, (zDt, (Jf, (zDu, (zKo, (zDv, (Jg, (Oy, (Vn, ()))))))))))))) fun y68 =>
    g0 (zDs, Kv, mY, zI, Kw, Sz, Ta, Ky, Vl, zKn, Vm, Ox, wX, y68.1, y68.2.1, y68.2.2.1, y68.2.2.2.1, y68.2.2.2.2.1, y68.2.2.2.2.2.1, y68.2.2.2.2.2.2.1, y68.2.2.2.2.2.2.2.1, y68.2.2.2.2.2.2.2.2.1, y68.2.2.2.2.2.2.2.2.2.1, y68.2.2.2.2.2.2.2.2.2.2.1, y68.2.2.2.2.2.2.2.2.2.2.2.1, Kz, ())) (
    chk (inB 0 mY.length) (
     let v69 : List UInt8 × Bool × Unit := bL (Ty.dflt aS) mY 0
     ob (kX n ((Bv, (zRc, (N57, (Je, (zDt, (Jf, (zDu, (zKo, (zDv, (Jg, (Oy, (Vn, ())))))))))))), v69, ((mY.length : Int) == 1))) fun y70 =>
     chk ((decide (0 <= (1 : Int)) && decide ((1 : Int) <= (mY.length : Int)))) (
      let v71 : List (List UInt8 × Bool × Unit) := mY.drop (1 : Int).toNat
      g0 (zDs, Kv, v71, zI, Kw, Sz, Ta, Ky, Vl, zKn, Vm, Ox, wX, y70.1, y70.2.1, y70.2.2.1, y70.2.2.2.1, y70.2.2.2.2.1, y70.2.2.2.2.2.1, y70.2.2.2.2.2.2.1, y70.2.2.2.2.2.2.2.1, y70.2.2.2.2.2.2.2.2.1, y70.2.2.2.2.2.2.2.2.2.1, y70.2.2.2.2.2.2.2.2.2.2.1, y70.2.2.2.2.2.2.2.2.2.2.2.1, Kz, ()))))) (
   br (decide (wX ≥ Kv)) (
    some (([], ([], (0, (0, ())))), 4)) (
    let v72 : Int := IntKind.wrap .i64 (wX + 1)
    ob (mX n ((Kw, (Sz, (Ta, ()))), Ky, (Bv, (zRc, (N57, (Je, (zDt, (Jf, (zDu, (zKo, (zDv, (Jg, (Oy, (Vn, ())))))))))))), zDs)) fun y73 =>
    chk (Nat.ble ((Kz.length + y73.2.2.length) * 24) room) (
     g0 (y73.2.1, Kv, mY, zI, Kw, Sz, Ta, Ky, Vl, zKn, Vm, Ox, v72, y73.1.1, y73.1.2.1, y73.1.2.2.1, y73.1.2.2.2.1, y73.1.2.2.2.2.1, y73.1.2.2.2.2.2.1, y73.1.2.2.2.2.2.2.1, y73.1.2.2.2.2.2.2.2.1, y73.1.2.2.2.2.2.2.2.2.1, y73.1.2.2.2.2.2.2.2.2.2.1, y73.1.2.2.2.2.2.2.2.2.2.2.1, y73.1.2.2.2.2.2.2.2.2.2.2.2.1, Kz ++ y73.2.2, ())))))
def Lj (n : Nat) (g0 : List (List UInt8 × List UInt8 × Unit) × Int × List (List UInt8 × Bool × Unit) × Int × Bool × List (List (NdT) × Bool × Unit) × List (((Int × Int × Int × Unit) × (Int × Int × Int × Unit) × Bool × Unit) × Int × List UInt8 × List UInt8 × Int × Int × Int × List (List UInt8 × Int × Unit) × Bool × Bool × Unit) × Bool × List (List UInt8) × Bool × List (List UInt8 × List UInt8 × Unit) × Int × Int × Int × Int × Int × Int × Int × List UInt8 × List UInt8 × Bool × Bool × Bool × List (Bool × Int × Unit) × List (List UInt8 × Bool × Unit) × List (List UInt8 × Bool × Unit) × Unit -> Option ((List (List UInt8 × Bool × Unit) × List (List UInt8 × List UInt8 × Unit) × Int × Int × Unit) × Int)) (x76 : List (List UInt8 × List UInt8 × Unit) × Int × List (List UInt8 × Bool × Unit) × Int × Bool × List (List (NdT) × Bool × Unit) × List (((Int × Int × Int × Unit) × (Int × Int × Int × Unit) × Bool × Unit) × Int × List UInt8 × List UInt8 × Int × Int × Int × List (List UInt8 × Int × Unit) × Bool × Bool × Unit) × Bool × List (List UInt8) × Bool × List (List UInt8 × List UInt8 × Unit) × Int × Int × Int × Int × Int × Int × Int × List UInt8 × List UInt8 × Bool × Bool × Bool × List (Bool × Int × Unit) × List (List UInt8 × Bool × Unit) × List (List UInt8 × Bool × Unit) × Unit) : Option ((List (List UInt8 × Bool × Unit) × List (List UInt8 × List UInt8 × Unit) × Int × Int × Unit) × Int) :=
 let zDw : List (List UInt8 × List UInt8 × Unit) := x76.1
 let La : Int := x76.2.1
 let mZ : List (List UInt8 × Bool × Unit) := x76.2.2.1
 let zJ : Int := x76.2.2.2.1
 let Lb : Bool := x76.2.2.2.2.1
 let Tc : List (List (NdT) × Bool × Unit) := x76.2.2.2.2.2.1
 let Td : List (((Int × Int × Int × Unit) × (Int × Int × Int × Unit) × Bool × Unit) × Int × List UInt8 × List UInt8 × Int × Int × Int × List (List UInt8 × Int × Unit) × Bool × Bool × Unit) := x76.2.2.2.2.2.2.1
 let Lc : Bool := x76.2.2.2.2.2.2.2.1
 let Vo : List (List UInt8) := x76.2.2.2.2.2.2.2.2.1
 let zKp : Bool := x76.2.2.2.2.2.2.2.2.2.1
 let Vp : List (List UInt8 × List UInt8 × Unit) := x76.2.2.2.2.2.2.2.2.2.2.1
 let Oz : Int := x76.2.2.2.2.2.2.2.2.2.2.2.1
 let wY : Int := x76.2.2.2.2.2.2.2.2.2.2.2.2.1
 let Bw : Int := x76.2.2.2.2.2.2.2.2.2.2.2.2.2.1
 let zRd : Int := x76.2.2.2.2.2.2.2.2.2.2.2.2.2.2.1
 let N92 : Int := x76.2.2.2.2.2.2.2.2.2.2.2.2.2.2.2.1
 let Jh : Int := x76.2.2.2.2.2.2.2.2.2.2.2.2.2.2.2.2.1
 let zDx : Int := x76.2.2.2.2.2.2.2.2.2.2.2.2.2.2.2.2.2.1
 let Ji : List UInt8 := x76.2.2.2.2.2.2.2.2.2.2.2.2.2.2.2.2.2.2.1
 let zDy : List UInt8 := x76.2.2.2.2.2.2.2.2.2.2.2.2.2.2.2.2.2.2.2.1
 let zKq : Bool := x76.2.2.2.2.2.2.2.2.2.2.2.2.2.2.2.2.2.2.2.2.1
 let zDz : Bool := x76.2.2.2.2.2.2.2.2.2.2.2.2.2.2.2.2.2.2.2.2.2.1
 let Jj : Bool := x76.2.2.2.2.2.2.2.2.2.2.2.2.2.2.2.2.2.2.2.2.2.2.1
 let Jk : List (Bool × Int × Unit) := x76.2.2.2.2.2.2.2.2.2.2.2.2.2.2.2.2.2.2.2.2.2.2.2.1
 let Pf : List (List UInt8 × Bool × Unit) := x76.2.2.2.2.2.2.2.2.2.2.2.2.2.2.2.2.2.2.2.2.2.2.2.2.1
 let Bz : List (List UInt8 × Bool × Unit) := x76.2.2.2.2.2.2.2.2.2.2.2.2.2.2.2.2.2.2.2.2.2.2.2.2.2.1
 br (Bw == 4) (
  br (Jh == 0) (
   some ((Bz, (zDw, (zJ, (wY, ())))), 0)) (
   some ((Bz, (zDw, (Jh, (wY, ())))), 0))) (
  br (Bw != 1) (
   br ((mZ.length : Int) == 0) (
    ob (jZ n (Bw, (zRd, (N92, (Jh, (zDx, (Ji, (zDy, (zKq, (zDz, (Jj, (Jk, (Pf, ()))))))))))))) fun vH =>
    g0 (zDw, La, mZ, zJ, Lb, Tc, Td, Lc, Vo, zKp, Vp, Oz, wY, vH.1, vH.2.1, vH.2.2.1, vH.2.2.2.1, vH.2.2.2.2.1, vH.2.2.2.2.2.1, vH.2.2.2.2.2.2.1, vH.2.2.2.2.2.2.2.1, vH.2.2.2.2.2.2.2.2.1, vH.2.2.2.2.2.2.2.2.2.1, vH.2.2.2.2.2.2.2.2.2.2.1, vH.2.2.2.2.2.2.2.2.2.2.2.1, Bz, ())) (
    chk (inB 0 mZ.length) (
     let yBy : List UInt8 × Bool × Unit := bL (Ty.dflt aS) mZ 0
     ob (kX n ((Bw, (zRd, (N92, (Jh, (zDx, (Ji, (zDy, (zKq, (zDz, (Jj, (Jk, (Pf, ())))))))))))), yBy, ((mZ.length : Int) == 1))) fun vI =>
     chk ((decide (0 <= (1 : Int)) && decide ((1 : Int) <= (mZ.length : Int)))) (
      let yBz : List (List UInt8 × Bool × Unit) := mZ.drop (1 : Int).toNat
      g0 (zDw, La, yBz, zJ, Lb, Tc, Td, Lc, Vo, zKp, Vp, Oz, wY, vI.1, vI.2.1, vI.2.2.1, vI.2.2.2.1, vI.2.2.2.2.1, vI.2.2.2.2.2.1, vI.2.2.2.2.2.2.1, vI.2.2.2.2.2.2.2.1, vI.2.2.2.2.2.2.2.2.1, vI.2.2.2.2.2.2.2.2.2.1, vI.2.2.2.2.2.2.2.2.2.2.1, vI.2.2.2.2.2.2.2.2.2.2.2.1, Bz, ()))))) (
   br (decide (wY ≥ La)) (
    some (([], ([], (0, (0, ())))), 4)) (
    let v107 : Int := IntKind.wrap .i64 (wY + 1)
    ob (mX n ((Lb, (Tc, (Td, ()))), Lc, (Bw, (zRd, (N92, (Jh, (zDx, (Ji, (zDy, (zKq, (zDz, (Jj, (Jk, (Pf, ())))))))))))), zDw)) fun pV =>
    chk (Nat.ble ((Bz.length + pV.2.2.length) * 24) room) (
     g0 (pV.2.1, La, mZ, zJ, Lb, Tc, Td, Lc, Vo, zKp, Vp, Oz, v107, pV.1.1, pV.1.2.1, pV.1.2.2.1, pV.1.2.2.2.1, pV.1.2.2.2.2.1, pV.1.2.2.2.2.2.1, pV.1.2.2.2.2.2.2.1, pV.1.2.2.2.2.2.2.2.1, pV.1.2.2.2.2.2.2.2.2.1, pV.1.2.2.2.2.2.2.2.2.2.1, pV.1.2.2.2.2.2.2.2.2.2.2.1, pV.1.2.2.2.2.2.2.2.2.2.2.2.1, Bz ++ pV.2.2, ())))))
def qM (n : Nat) (x : ((Bool × List (List (NdT) × Bool × Unit) × List (((Int × Int × Int × Unit) × (Int × Int × Int × Unit) × Bool × Unit) × Int × List UInt8 × List UInt8 × Int × Int × Int × List (List UInt8 × Int × Unit) × Bool × Bool × Unit) × Unit) × Bool × List (List UInt8) × Bool × Unit) × List UInt8 × List (List UInt8 × List UInt8 × Unit) × Int) : Option ((List (List UInt8 × Bool × Unit) × List (List UInt8 × List UInt8 × Unit) × Int × Int × Unit) × Int) :=
 let g_0 : (Bool × List (List (NdT) × Bool × Unit) × List (((Int × Int × Int × Unit) × (Int × Int × Int × Unit) × Bool × Unit) × Int × List UInt8 × List UInt8 × Int × Int × Int × List (List UInt8 × Int × Unit) × Bool × Bool × Unit) × Unit) × Bool × List (List UInt8) × Bool × Unit := x.1
 let zQx : List UInt8 := x.2.1
 let t_2 : List (List UInt8 × List UInt8 × Unit) := x.2.2.1
 let Te : Int := x.2.2.2
 br g_0.2.2.2.1 (
  some (([], (t_2, (1, (0, ())))), 0)) (
  ob (iT n (g_0, t_2)) fun y1 =>
  ob (iU n (g_0, zQx, y1)) fun y2 =>
  ob (Et n g_0.1) fun y3 =>
  br (y3.1 == 4) (
   br (y3.2.2.2.1 == 0) (
    some (([], (y1, (y2.2, (0, ())))), 0)) (
    some (([], (y1, (y3.2.2.2.1, (0, ())))), 0))) (
   br (y3.1 != 1) (
    br ((y2.1.length : Int) == 0) (
     ob (jZ n y3) fun y4 =>
     fix (zH n) n (y1, Te, y2.1, y2.2, g_0.1.1, g_0.1.2.1, g_0.1.2.2.1, g_0.2.1, g_0.2.2.1, g_0.2.2.2.1, [], 0, 0, y4.1, y4.2.1, y4.2.2.1, y4.2.2.2.1, y4.2.2.2.2.1, y4.2.2.2.2.2.1, y4.2.2.2.2.2.2.1, y4.2.2.2.2.2.2.2.1, y4.2.2.2.2.2.2.2.2.1, y4.2.2.2.2.2.2.2.2.2.1, y4.2.2.2.2.2.2.2.2.2.2.1, y4.2.2.2.2.2.2.2.2.2.2.2.1, [], ())) (
     chk (inB 0 y2.1.length) (
      let v38 : List UInt8 × Bool × Unit := bL (Ty.dflt aS) y2.1 0
      ob (kX n (y3, v38, ((y2.1.length : Int) == 1))) fun y39 =>
      chk ((decide (0 <= (1 : Int)) && decide ((1 : Int) <= (y2.1.length : Int)))) (
       let v40 : List (List UInt8 × Bool × Unit) := y2.1.drop (1 : Int).toNat
       fix (eX n) n (y1, Te, v40, y2.2, g_0.1.1, g_0.1.2.1, g_0.1.2.2.1, g_0.2.1, g_0.2.2.1, g_0.2.2.2.1, [], 0, 0, y39.1, y39.2.1, y39.2.2.1, y39.2.2.2.1, y39.2.2.2.2.1, y39.2.2.2.2.2.1, y39.2.2.2.2.2.2.1, y39.2.2.2.2.2.2.2.1, y39.2.2.2.2.2.2.2.2.1, y39.2.2.2.2.2.2.2.2.2.1, y39.2.2.2.2.2.2.2.2.2.2.1, y39.2.2.2.2.2.2.2.2.2.2.2.1, [], ()))))) (
    br (decide ((0 : Int) ≥ Te)) (
     some (([], ([], (0, (0, ())))), 4)) (
     let v74 : Int := IntKind.wrap .i64 (0 + 1)
     ob (mX n (g_0.1, g_0.2.1, y3, y1)) fun y75 =>
     chk (Nat.ble (y75.2.2.length * 24) room) (
      fix (Lj n) n (y75.2.1, Te, y2.1, y2.2, g_0.1.1, g_0.1.2.1, g_0.1.2.2.1, g_0.2.1, g_0.2.2.1, g_0.2.2.2.1, [], 0, v74, y75.1.1, y75.1.2.1, y75.1.2.2.1, y75.1.2.2.2.1, y75.1.2.2.2.2.1, y75.1.2.2.2.2.2.1, y75.1.2.2.2.2.2.2.1, y75.1.2.2.2.2.2.2.2.1, y75.1.2.2.2.2.2.2.2.2.1, y75.1.2.2.2.2.2.2.2.2.2.1, y75.1.2.2.2.2.2.2.2.2.2.2.1, y75.1.2.2.2.2.2.2.2.2.2.2.2.1, y75.2.2, ()))))))
def bQ (n : Nat) (x : List UInt8 × List (Int) × Unit) : Option (Int × Bool × List (Int) × Unit) :=
 let s_1 : List UInt8 := x.1
 let yCa : List (Int) := x.2.1
 ob (pE n (yCa, ())) fun y3 =>
 chk (Nat.ble ((y3.1.length + s_1.length) * 1) room) (
  some ((s_1.length : Int), false, y3.1 ++ aN s_1, ()))
def jG (n : Nat) (g0 : List UInt8 × List (List UInt8 × Bool × Unit) × Int × Int × List (Int) × Unit -> Option (List UInt8)) (x1 : List UInt8 × List (List UInt8 × Bool × Unit) × Int × Int × List (Int) × Unit) : Option (List UInt8) :=
 let zSc : List UInt8 := x1.1
 let zKr : List (List UInt8 × Bool × Unit) := x1.2.1
 let zRe : Int := x1.2.2.1
 let zEa : Int := x1.2.2.2.1
 let zZb : List (Int) := x1.2.2.2.2.1
 br (decide (zEa < zRe)) (
  chk (inB zEa zKr.length) (
   let v7 : List UInt8 × Bool × Unit := bL (Ty.dflt aS) zKr zEa
   chk (decide (zSc.length + v7.1.length <= dM)) (
    ob (bQ n (zSc ++ v7.1, zZb, ())) fun y8 =>
    br v7.2.1 (
     ob (bQ n ([10], y8.2.2.1, ())) fun y9 =>
     let v10 : Int := IntKind.wrap .i64 (zEa + 1)
     g0 ([], zKr, zRe, v10, y9.2.2.1, ())) (
     let v11 : Int := IntKind.wrap .i64 (zEa + 1)
     g0 ([10], zKr, zRe, v11, y8.2.2.1, ()))))) (
  ob (Builder_String n (zZb, ())) fun y12 =>
  some y12.1)
def bM (n : Nat) (x : List (List UInt8 × Bool × Unit)) : Option (List UInt8) :=
 let l_0 : List (List UInt8 × Bool × Unit) := x
 fix (jG n) n ([], l_0, (l_0.length : Int), 0, [], ())
def pW (n : Nat) (x : List UInt8 × List UInt8 × Bool) : Option (Bool) :=
 let a_0 : List UInt8 := x.1
 let b_1 : List UInt8 := x.2.1
 let gZ : Bool := x.2.2
 br (decide ((a_0.length : Int) > 100)) (
  ob (shown16 n ()) fun y1 =>
  some y1) (
  br (decide ((b_1.length : Int) > 100)) (
   ob (shown16 n ()) fun y2 =>
   some y2) (
   ob (shown16 n ()) fun y3 =>
   br (!y3) (
    ob (shown16 n ()) fun y4 =>
    some y4) (
    br gZ (
     ob (qM n (((false, ([], ([], ()))), (false, ([[102], [110, 111, 110, 101], [103]], (false, ())))), [105, 110], [([102], (a_0, ())), ([103], (b_1, ()))], 1000)) fun y5 =>
     br (!(a_0 == [])) (
      br (!(b_1 == [])) (
       let v6 : Int := IntKind.wrap .i64 ((a_0.length : Int) - 1)
       chk (inB v6 a_0.length) (
        let v7 : Int := ((bL 0 a_0 v6).toNat : Int)
        br (v7 != 10) (
         chk (decide (a_0.length + ([10] : List UInt8).length <= dM)) (
          br (y5.2 == 0) (
           ob (bM n y5.1.1) fun y8 =>
           chk (decide ((a_0 ++ [10]).length + b_1.length <= dM)) (
            br (y8 == ((a_0 ++ [10]) ++ b_1)) (
             br ((y5.1.2.2.1 == 2) == gZ) (
              br gZ (
               some true) (
               some (y5.1.2.2.1 == 0))) (
              some false)) (
             some false))) (
           some false))) (
         br (y5.2 == 0) (
          ob (bM n y5.1.1) fun y9 =>
          chk (decide (a_0.length + b_1.length <= dM)) (
           br (y9 == (a_0 ++ b_1)) (
            br ((y5.1.2.2.1 == 2) == gZ) (
             br gZ (
              some true) (
              some (y5.1.2.2.1 == 0))) (
             some false)) (
            some false))) (
          some false)))) (
       br (y5.2 == 0) (
        ob (bM n y5.1.1) fun y10 =>
        chk (decide (a_0.length + b_1.length <= dM)) (
         br (y10 == (a_0 ++ b_1)) (
          br ((y5.1.2.2.1 == 2) == gZ) (
           br gZ (
            some true) (
            some (y5.1.2.2.1 == 0))) (
           some false)) (
          some false))) (
        some false))) (
      br (y5.2 == 0) (
       ob (bM n y5.1.1) fun y11 =>
       chk (decide (a_0.length + b_1.length <= dM)) (
        br (y11 == (a_0 ++ b_1)) (
         br ((y5.1.2.2.1 == 2) == gZ) (
          br gZ (
           some true) (
           some (y5.1.2.2.1 == 0))) (
          some false)) (
         some false))) (
       some false))) (
     ob (qM n (((false, ([], ([], ()))), (false, ([[102], [103]], (false, ())))), [105, 110], [([102], (a_0, ())), ([103], (b_1, ()))], 1000)) fun y12 =>
     br (!(a_0 == [])) (
      br (!(b_1 == [])) (
       let v13 : Int := IntKind.wrap .i64 ((a_0.length : Int) - 1)
       chk (inB v13 a_0.length) (
        let v14 : Int := ((bL 0 a_0 v13).toNat : Int)
        br (v14 != 10) (
         chk (decide (a_0.length + ([10] : List UInt8).length <= dM)) (
          br (y12.2 == 0) (
           ob (bM n y12.1.1) fun y15 =>
           chk (decide ((a_0 ++ [10]).length + b_1.length <= dM)) (
            br (y15 == ((a_0 ++ [10]) ++ b_1)) (
             br ((y12.1.2.2.1 == 2) == gZ) (
              br gZ (
               some true) (
               some (y12.1.2.2.1 == 0))) (
              some false)) (
             some false))) (
           some false))) (
         br (y12.2 == 0) (
          ob (bM n y12.1.1) fun y16 =>
          chk (decide (a_0.length + b_1.length <= dM)) (
           br (y16 == (a_0 ++ b_1)) (
            br ((y12.1.2.2.1 == 2) == gZ) (
             br gZ (
              some true) (
              some (y12.1.2.2.1 == 0))) (
             some false)) (
            some false))) (
          some false)))) (
       br (y12.2 == 0) (
        ob (bM n y12.1.1) fun y17 =>
        chk (decide (a_0.length + b_1.length <= dM)) (
         br (y17 == (a_0 ++ b_1)) (
          br ((y12.1.2.2.1 == 2) == gZ) (
           br gZ (
            some true) (
            some (y12.1.2.2.1 == 0))) (
           some false)) (
          some false))) (
        some false))) (
      br (y12.2 == 0) (
       ob (bM n y12.1.1) fun y18 =>
       chk (decide (a_0.length + b_1.length <= dM)) (
        br (y18 == (a_0 ++ b_1)) (
         br ((y12.1.2.2.1 == 2) == gZ) (
          br gZ (
           some true) (
           some (y12.1.2.2.1 == 0))) (
          some false)) (
         some false))) (
       some false))))))
end
end Go.Dec
