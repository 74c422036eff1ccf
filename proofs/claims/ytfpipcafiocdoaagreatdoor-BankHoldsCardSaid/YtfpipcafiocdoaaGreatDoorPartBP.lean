/- Part of a proof over this seat: a library of my own, and what it says of this seat. No statement is proved here. -/
import Derived.Test.YtfpipcafiocdoaaGreatDoorPartAJ
import Derived.Test.YtfpipcafiocdoaaGreatDoorPartBJ
import Derived.Test.YtfpipcafiocdoaaGreatDoorPartBN
namespace Go.Dec
noncomputable section
set_option linter.unusedVariables false
abbrev oF:Ty:=.pair (.int .i64) (.pair (.arr 4 (.int .u64)) (.pair (.int .i64) (.pair (.int .i64) (.pair (.int .i64) (.pair (.int .i64) (.pair (.int .i64) .unit))))))
abbrev aM:Ty:=.pair (.slice oF) (.pair .bool .unit)
abbrev zM:Ty:=.pair (.int .i64) (.pair (.int .i64) (.pair (.int .i64) .unit))
abbrev vE:Ty:=.pair zM (.pair zM (.pair .bool .unit))
abbrev vX:Ty:=.pair .str (.pair (.int .i64) .unit)
abbrev aA:Ty:=.pair vE (.pair (.int .u8) (.pair .str (.pair .str (.pair (.int .i64) (.pair (.int .i64) (.pair (.int .i64) (.pair (.slice vX) (.pair .bool (.pair .bool .unit)))))))))
abbrev qV:Ty:=.pair .bool (.pair (.slice aM) (.pair (.slice aA) .unit))
abbrev bW:Ty:=.pair .bool (.pair (.int .i64) .unit)
abbrev aS:Ty:=.pair .str (.pair .bool .unit)
abbrev bT:Ty:=.pair (.int .i64) (.pair (.int .i64) (.pair (.int .i64) (.pair (.int .i64) (.pair (.int .i64) (.pair .str (.pair .str (.pair .bool (.pair .bool (.pair .bool (.pair (.slice bW) (.pair (.slice aS) .unit)))))))))))
abbrev bX:Ty:=.pair .str (.pair .str .unit)
abbrev zDm:Ty:=.pair bT (.pair qV (.pair .bool (.pair (.slice bX) (.pair (.slice aS) .unit))))
abbrev zSx:Ty:=.pair (.int .i64) (.pair .bool (.pair (.slice .bool) .unit))
abbrev NdT:Type:=Int × List (Int) × Int × Int × Int × Int × Int × Unit
def kC (n : Nat) (x : List UInt8 × Bool × Int × Int × Int × Int × Int × List UInt8 × List UInt8 × Bool × Bool × Bool × List (Bool × Int × Unit) × List (List UInt8 × Bool × Unit) × Bool × List (List (NdT) × Bool × Unit) × List (((Int × Int × Int × Unit) × (Int × Int × Int × Unit) × Bool × Unit) × Int × List UInt8 × List UInt8 × Int × Int × Int × List (List UInt8 × Int × Unit) × Bool × Bool × Unit) × Bool × List (List UInt8 × List UInt8 × Unit) × List (List UInt8 × Bool × Unit) × Unit) : Option (Int × Int × Int × Int × Int × List UInt8 × List UInt8 × Bool × Bool × Bool × List (Bool × Int × Unit) × List (List UInt8 × Bool × Unit) × Bool × List (List (NdT) × Bool × Unit) × List (((Int × Int × Int × Unit) × (Int × Int × Int × Unit) × Bool × Unit) × Int × List UInt8 × List UInt8 × Int × Int × Int × List (List UInt8 × Int × Unit) × Bool × Bool × Unit) × Bool × List (List UInt8 × List UInt8 × Unit) × List (List UInt8 × Bool × Unit) × Unit) :=
 let s_1 : List UInt8 := x.1
 let zBu : Bool := x.2.1
 let zBv : Int := x.2.2.1
 let PC4 : Int := x.2.2.2.1
 let N5 : Int := x.2.2.2.2.1
 let zIm : Int := x.2.2.2.2.2.1
 let zIn : Int := x.2.2.2.2.2.2.1
 let Ou : List UInt8 := x.2.2.2.2.2.2.2.1
 let zIo : List UInt8 := x.2.2.2.2.2.2.2.2.1
 let zIp : Bool := x.2.2.2.2.2.2.2.2.2.1
 let zBw : Bool := x.2.2.2.2.2.2.2.2.2.2.1
 let Ju : Bool := x.2.2.2.2.2.2.2.2.2.2.2.1
 let zOt : List (Bool × Int × Unit) := x.2.2.2.2.2.2.2.2.2.2.2.2.1
 let zSy : List (List UInt8 × Bool × Unit) := x.2.2.2.2.2.2.2.2.2.2.2.2.2.1
 let zSz : Bool := x.2.2.2.2.2.2.2.2.2.2.2.2.2.2.1
 let zZb : List (List (NdT) × Bool × Unit) := x.2.2.2.2.2.2.2.2.2.2.2.2.2.2.2.1
 let zZc : List (((Int × Int × Int × Unit) × (Int × Int × Int × Unit) × Bool × Unit) × Int × List UInt8 × List UInt8 × Int × Int × Int × List (List UInt8 × Int × Unit) × Bool × Bool × Unit) := x.2.2.2.2.2.2.2.2.2.2.2.2.2.2.2.2.1
 let zTa : Bool := x.2.2.2.2.2.2.2.2.2.2.2.2.2.2.2.2.2.1
 let zTb : List (List UInt8 × List UInt8 × Unit) := x.2.2.2.2.2.2.2.2.2.2.2.2.2.2.2.2.2.2.1
 let Rs : List (List UInt8 × Bool × Unit) := x.2.2.2.2.2.2.2.2.2.2.2.2.2.2.2.2.2.2.2.1
 chk (Nat.ble ((Rs.length + ([(s_1, (zBu, ()))] : List (List UInt8 × Bool × Unit)).length) * 24) room) (
  let r21 : List (List UInt8 × Bool × Unit) := Rs ++ [(s_1, (zBu, ()))]
  some (zBv, PC4, N5, zIm, zIn, Ou, zIo, zIp, zBw, Ju, zOt, zSy, zSz, zZb, zZc, zTa, zTb, r21, ()))
def qI (n : Nat) (x : Int × Int × Int × Int × Int × List UInt8 × List UInt8 × Bool × Bool × Bool × List (Bool × Int × Unit) × List (List UInt8 × Bool × Unit) × Bool × List (List (NdT) × Bool × Unit) × List (((Int × Int × Int × Unit) × (Int × Int × Int × Unit) × Bool × Unit) × Int × List UInt8 × List UInt8 × Int × Int × Int × List (List UInt8 × Int × Unit) × Bool × Bool × Unit) × Bool × List (List UInt8 × List UInt8 × Unit) × List (List UInt8 × Bool × Unit) × Unit) : Option (Int × Int × Int × Int × Int × List UInt8 × List UInt8 × Bool × Bool × Bool × List (Bool × Int × Unit) × List (List UInt8 × Bool × Unit) × Bool × List (List (NdT) × Bool × Unit) × List (((Int × Int × Int × Unit) × (Int × Int × Int × Unit) × Bool × Unit) × Int × List UInt8 × List UInt8 × Int × Int × Int × List (List UInt8 × Int × Unit) × Bool × Bool × Unit) × Bool × List (List UInt8 × List UInt8 × Unit) × List (List UInt8 × Bool × Unit) × Unit) :=
 let lN : Int := x.1
 let PC2 : Int := x.2.1
 let N3 : Int := x.2.2.1
 let pR : Int := x.2.2.2.1
 let pU : Int := x.2.2.2.2.1
 let gH : List UInt8 := x.2.2.2.2.2.1
 let pV : List UInt8 := x.2.2.2.2.2.2.1
 let tL : Bool := x.2.2.2.2.2.2.2.1
 let pW : Bool := x.2.2.2.2.2.2.2.2.1
 let fH : Bool := x.2.2.2.2.2.2.2.2.2.1
 let mK : List (Bool × Int × Unit) := x.2.2.2.2.2.2.2.2.2.2.1
 let lQ : List (List UInt8 × Bool × Unit) := x.2.2.2.2.2.2.2.2.2.2.2.1
 let nG : Bool := x.2.2.2.2.2.2.2.2.2.2.2.2.1
 let tN : List (List (NdT) × Bool × Unit) := x.2.2.2.2.2.2.2.2.2.2.2.2.2.1
 let tO : List (((Int × Int × Int × Unit) × (Int × Int × Int × Unit) × Bool × Unit) × Int × List UInt8 × List UInt8 × Int × Int × Int × List (List UInt8 × Int × Unit) × Bool × Bool × Unit) := x.2.2.2.2.2.2.2.2.2.2.2.2.2.2.1
 let nH : Bool := x.2.2.2.2.2.2.2.2.2.2.2.2.2.2.2.1
 let pX : List (List UInt8 × List UInt8 × Unit) := x.2.2.2.2.2.2.2.2.2.2.2.2.2.2.2.2.1
 let pY : List (List UInt8 × Bool × Unit) := x.2.2.2.2.2.2.2.2.2.2.2.2.2.2.2.2.2.1
 ob (kC n (gH, tL, lN, PC2, N3, pR, pU, gH, pV, tL, pW, fH, mK, lQ, nG, tN, tO, nH, pX, pY, ())) fun y19 =>
 some (y19.1, y19.2.1, y19.2.2.1, y19.2.2.2.1, y19.2.2.2.2.1, y19.2.2.2.2.2.1, y19.2.2.2.2.2.2.1, y19.2.2.2.2.2.2.2.1, y19.2.2.2.2.2.2.2.2.1, y19.2.2.2.2.2.2.2.2.2.1, y19.2.2.2.2.2.2.2.2.2.2.1, y19.2.2.2.2.2.2.2.2.2.2.2.1, y19.2.2.2.2.2.2.2.2.2.2.2.2.1, y19.2.2.2.2.2.2.2.2.2.2.2.2.2.1, y19.2.2.2.2.2.2.2.2.2.2.2.2.2.2.1, y19.2.2.2.2.2.2.2.2.2.2.2.2.2.2.2.1, y19.2.2.2.2.2.2.2.2.2.2.2.2.2.2.2.2.1, y19.2.2.2.2.2.2.2.2.2.2.2.2.2.2.2.2.2.1, ())
def gI (n : Nat) (x : Int × Int × Int × Int × Int × List UInt8 × List UInt8 × Bool × Bool × Bool × List (Bool × Int × Unit) × List (List UInt8 × Bool × Unit) × Bool × List (List (NdT) × Bool × Unit) × List (((Int × Int × Int × Unit) × (Int × Int × Int × Unit) × Bool × Unit) × Int × List UInt8 × List UInt8 × Int × Int × Int × List (List UInt8 × Int × Unit) × Bool × Bool × Unit) × Bool × List (List UInt8 × List UInt8 × Unit) × List (List UInt8 × Bool × Unit) × Unit) : Option (Int × Int × Int × Int × Int × List UInt8 × List UInt8 × Bool × Bool × Bool × List (Bool × Int × Unit) × List (List UInt8 × Bool × Unit) × Bool × List (List (NdT) × Bool × Unit) × List (((Int × Int × Int × Unit) × (Int × Int × Int × Unit) × Bool × Unit) × Int × List UInt8 × List UInt8 × Int × Int × Int × List (List UInt8 × Int × Unit) × Bool × Bool × Unit) × Bool × List (List UInt8 × List UInt8 × Unit) × List (List UInt8 × Bool × Unit) × Unit) :=
 let lN : Int := x.1
 let PC2 : Int := x.2.1
 let N3 : Int := x.2.2.1
 let pR : Int := x.2.2.2.1
 let pU : Int := x.2.2.2.2.1
 let gH : List UInt8 := x.2.2.2.2.2.1
 let pV : List UInt8 := x.2.2.2.2.2.2.1
 let tL : Bool := x.2.2.2.2.2.2.2.1
 let pW : Bool := x.2.2.2.2.2.2.2.2.1
 let fH : Bool := x.2.2.2.2.2.2.2.2.2.1
 let mK : List (Bool × Int × Unit) := x.2.2.2.2.2.2.2.2.2.2.1
 let lQ : List (List UInt8 × Bool × Unit) := x.2.2.2.2.2.2.2.2.2.2.2.1
 let nG : Bool := x.2.2.2.2.2.2.2.2.2.2.2.2.1
 let tN : List (List (NdT) × Bool × Unit) := x.2.2.2.2.2.2.2.2.2.2.2.2.2.1
 let tO : List (((Int × Int × Int × Unit) × (Int × Int × Int × Unit) × Bool × Unit) × Int × List UInt8 × List UInt8 × Int × Int × Int × List (List UInt8 × Int × Unit) × Bool × Bool × Unit) := x.2.2.2.2.2.2.2.2.2.2.2.2.2.2.1
 let nH : Bool := x.2.2.2.2.2.2.2.2.2.2.2.2.2.2.2.1
 let pX : List (List UInt8 × List UInt8 × Unit) := x.2.2.2.2.2.2.2.2.2.2.2.2.2.2.2.2.1
 let pY : List (List UInt8 × Bool × Unit) := x.2.2.2.2.2.2.2.2.2.2.2.2.2.2.2.2.2.1
 br (!nH) (
  br (!nG) (
   ob (qI n (lN, PC2, N3, pR, pU, gH, pV, tL, pW, fH, mK, lQ, nG, tN, tO, nH, pX, pY, ())) fun y19 =>
   some (y19.1, y19.2.1, y19.2.2.1, y19.2.2.2.1, y19.2.2.2.2.1, y19.2.2.2.2.2.1, y19.2.2.2.2.2.2.1, y19.2.2.2.2.2.2.2.1, y19.2.2.2.2.2.2.2.2.1, y19.2.2.2.2.2.2.2.2.2.1, y19.2.2.2.2.2.2.2.2.2.2.1, y19.2.2.2.2.2.2.2.2.2.2.2.1, y19.2.2.2.2.2.2.2.2.2.2.2.2.1, y19.2.2.2.2.2.2.2.2.2.2.2.2.2.1, y19.2.2.2.2.2.2.2.2.2.2.2.2.2.2.1, y19.2.2.2.2.2.2.2.2.2.2.2.2.2.2.2.1, y19.2.2.2.2.2.2.2.2.2.2.2.2.2.2.2.2.1, y19.2.2.2.2.2.2.2.2.2.2.2.2.2.2.2.2.2.1, ())) (
   some (lN, PC2, N3, pR, pU, gH, pV, tL, pW, fH, mK, lQ, nG, tN, tO, nH, pX, pY, ()))) (
  some (lN, PC2, N3, pR, pU, gH, pV, tL, pW, fH, mK, lQ, nG, tN, tO, nH, pX, pY, ()))
def Bn (n : Nat) (x : List UInt8 × List UInt8 × List UInt8 × Unit) : Option (Bool × List UInt8 × Unit) :=
 let f_1 : List UInt8 := x.1
 let f_2 : List UInt8 := x.2.1
 let b3 : List UInt8 := x.2.2.1
 some ((f_1 == b3), b3, ())
def mM (n : Nat) (g0 : List (List UInt8 × List UInt8 × Unit) × Int × Int × List UInt8 × Unit -> Option (Int × List UInt8 × Unit)) (x3 : List (List UInt8 × List UInt8 × Unit) × Int × Int × List UInt8 × Unit) : Option (Int × List UInt8 × Unit) :=
 let s_4 : List (List UInt8 × List UInt8 × Unit) := x3.1
 let zZd : Int := x3.2.1
 let zBx : Int := x3.2.2.1
 let b7 : List UInt8 := x3.2.2.2.1
 br (decide (zBx < zZd)) (
  chk (inB zBx s_4.length) (
   let v8 : List UInt8 × List UInt8 × Unit := bC (Ty.dflt bX) s_4 zBx
   ob (Bn n (v8.1, v8.2.1, b7, ())) fun y9 =>
   br y9.1 (
    some (zBx, y9.2.1, ())) (
    let v10 : Int := IntKind.wrap .i64 (zBx + 1)
    g0 (s_4, zZd, v10, y9.2.1, ())))) (
  some ((-1), b7, ()))
def eU (n : Nat) (x : List (List UInt8 × List UInt8 × Unit) × List UInt8 × Unit) : Option (Int × List UInt8 × Unit) :=
 let s_1 : List (List UInt8 × List UInt8 × Unit) := x.1
 let b2 : List UInt8 := x.2.1
 fix (mM n) n (s_1, (s_1.length : Int), 0, b2, ())
def wO (n : Nat) (x : List (List UInt8 × List UInt8 × Unit) × List UInt8) : Option (List UInt8 × Bool) :=
 let t_0 : List (List UInt8 × List UInt8 × Unit) := x.1
 let zZe : List UInt8 := x.2
 ob (eU n (t_0, zZe, ())) fun y1 =>
 br (decide (y1.1 < 0)) (
  some ([], false)) (
  chk (inB y1.1 t_0.length) (
   let v2 : List UInt8 × List UInt8 × Unit := bC (Ty.dflt bX) t_0 y1.1
   some (v2.2.1, true)))
def gJ (n : Nat) (x : List UInt8 × List UInt8) : Option (Bool) :=
 let s_0 : List UInt8 := x.1
 let oG : List UInt8 := x.2
 br (decide ((s_0.length : Int) ≥ (oG.length : Int))) (
  let v1 : Int := IntKind.wrap .i64 ((s_0.length : Int) - (oG.length : Int))
  chk ((decide (0 <= v1) && decide (v1 <= (s_0.length : Int)))) (
   some ((s_0.drop v1.toNat) == oG))) (
  some false)
def gK (n : Nat) (x : List UInt8 × List UInt8) : Option (List UInt8 × Bool) :=
 let s_0 : List UInt8 := x.1
 let oG : List UInt8 := x.2
 ob (gJ n (s_0, oG)) fun y1 =>
 br (!y1) (
  some (s_0, false)) (
  let v2 : Int := IntKind.wrap .i64 ((s_0.length : Int) - (oG.length : Int))
  chk ((decide (0 <= v2) && decide (v2 <= (s_0.length : Int)))) (
   some (s_0.take v2.toNat, true)))
def strings_CutSuffix (n : Nat) (x : List UInt8 × List UInt8) : Option (List UInt8 × Bool) :=
 let s_0 : List UInt8 := x.1
 let oG : List UInt8 := x.2
 ob (gK n (s_0, oG)) fun y1 =>
 some (y1.1, y1.2)
def Cz (n : Nat) (g0 : List (List UInt8 × Bool × Unit) × Int × Int × Int × Int × Int × Int × Int × List UInt8 × List UInt8 × Bool × Bool × Bool × List (Bool × Int × Unit) × List (List UInt8 × Bool × Unit) × Bool × List (List (NdT) × Bool × Unit) × List (((Int × Int × Int × Unit) × (Int × Int × Int × Unit) × Bool × Unit) × Int × List UInt8 × List UInt8 × Int × Int × Int × List (List UInt8 × Int × Unit) × Bool × Bool × Unit) × Bool × List (List UInt8 × List UInt8 × Unit) × List (List UInt8 × Bool × Unit) × Unit -> Option (Int × Int × Int × Int × Int × List UInt8 × List UInt8 × Bool × Bool × Bool × List (Bool × Int × Unit) × List (List UInt8 × Bool × Unit) × Bool × List (List (NdT) × Bool × Unit) × List (((Int × Int × Int × Unit) × (Int × Int × Int × Unit) × Bool × Unit) × Int × List UInt8 × List UInt8 × Int × Int × Int × List (List UInt8 × Int × Unit) × Bool × Bool × Unit) × Bool × List (List UInt8 × List UInt8 × Unit) × List (List UInt8 × Bool × Unit) × Unit)) (x19 : List (List UInt8 × Bool × Unit) × Int × Int × Int × Int × Int × Int × Int × List UInt8 × List UInt8 × Bool × Bool × Bool × List (Bool × Int × Unit) × List (List UInt8 × Bool × Unit) × Bool × List (List (NdT) × Bool × Unit) × List (((Int × Int × Int × Unit) × (Int × Int × Int × Unit) × Bool × Unit) × Int × List UInt8 × List UInt8 × Int × Int × Int × List (List UInt8 × Int × Unit) × Bool × Bool × Unit) × Bool × List (List UInt8 × List UInt8 × Unit) × List (List UInt8 × Bool × Unit) × Unit) : Option (Int × Int × Int × Int × Int × List UInt8 × List UInt8 × Bool × Bool × Bool × List (Bool × Int × Unit) × List (List UInt8 × Bool × Unit) × Bool × List (List (NdT) × Bool × Unit) × List (((Int × Int × Int × Unit) × (Int × Int × Int × Unit) × Bool × Unit) × Int × List UInt8 × List UInt8 × Int × Int × Int × List (List UInt8 × Int × Unit) × Bool × Bool × Unit) × Bool × List (List UInt8 × List UInt8 × Unit) × List (List UInt8 × Bool × Unit) × Unit) :=
 let oH : List (List UInt8 × Bool × Unit) := x19.1
 let tQ : Int := x19.2.1
 let lS : Int := x19.2.2.1
 let qA : Int := x19.2.2.2.1
 let Gi : Int := x19.2.2.2.2.1
 let N25 : Int := x19.2.2.2.2.2.1
 let tT : Int := x19.2.2.2.2.2.2.1
 let tV : Int := x19.2.2.2.2.2.2.2.1
 let kM : List UInt8 := x19.2.2.2.2.2.2.2.2.1
 let tX : List UInt8 := x19.2.2.2.2.2.2.2.2.2.1
 let yG : Bool := x19.2.2.2.2.2.2.2.2.2.2.1
 let tY : Bool := x19.2.2.2.2.2.2.2.2.2.2.2.1
 let kN : Bool := x19.2.2.2.2.2.2.2.2.2.2.2.2.1
 let Gj : List (Bool × Int × Unit) := x19.2.2.2.2.2.2.2.2.2.2.2.2.2.1
 let Ub : List (List UInt8 × Bool × Unit) := x19.2.2.2.2.2.2.2.2.2.2.2.2.2.2.1
 let vF : Bool := x19.2.2.2.2.2.2.2.2.2.2.2.2.2.2.2.1
 let zN : List (List (NdT) × Bool × Unit) := x19.2.2.2.2.2.2.2.2.2.2.2.2.2.2.2.2.1
 let zO : List (((Int × Int × Int × Unit) × (Int × Int × Int × Unit) × Bool × Unit) × Int × List UInt8 × List UInt8 × Int × Int × Int × List (List UInt8 × Int × Unit) × Bool × Bool × Unit) := x19.2.2.2.2.2.2.2.2.2.2.2.2.2.2.2.2.2.1
 let Lc : Bool := x19.2.2.2.2.2.2.2.2.2.2.2.2.2.2.2.2.2.2.1
 let Da : List (List UInt8 × List UInt8 × Unit) := x19.2.2.2.2.2.2.2.2.2.2.2.2.2.2.2.2.2.2.2.1
 let yH : List (List UInt8 × Bool × Unit) := x19.2.2.2.2.2.2.2.2.2.2.2.2.2.2.2.2.2.2.2.2.1
 br (decide (lS < tQ)) (
  chk (inB lS oH.length) (
   let v41 : List UInt8 × Bool × Unit := bC (Ty.dflt aS) oH lS
   br (!v41.2.1) (
    ob (kC n (v41.1, true, qA, Gi, N25, tT, tV, kM, tX, yG, tY, kN, Gj, Ub, vF, zN, zO, Lc, Da, yH, ())) fun y42 =>
    let v43 : Int := IntKind.wrap .i64 (lS + 1)
    g0 (oH, tQ, v43, y42.1, y42.2.1, y42.2.2.1, y42.2.2.2.1, y42.2.2.2.2.1, y42.2.2.2.2.2.1, y42.2.2.2.2.2.2.1, y42.2.2.2.2.2.2.2.1, y42.2.2.2.2.2.2.2.2.1, y42.2.2.2.2.2.2.2.2.2.1, y42.2.2.2.2.2.2.2.2.2.2.1, y42.2.2.2.2.2.2.2.2.2.2.2.1, y42.2.2.2.2.2.2.2.2.2.2.2.2.1, y42.2.2.2.2.2.2.2.2.2.2.2.2.2.1, y42.2.2.2.2.2.2.2.2.2.2.2.2.2.2.1, y42.2.2.2.2.2.2.2.2.2.2.2.2.2.2.2.1, y42.2.2.2.2.2.2.2.2.2.2.2.2.2.2.2.2.1, y42.2.2.2.2.2.2.2.2.2.2.2.2.2.2.2.2.2.1, ())) (
    ob (wO n (Da, v41.1)) fun y44 =>
    br (!(y44.1 == [])) (
     ob (strings_CutSuffix n (y44.1, [10])) fun y45 =>
     ob (kC n (y45.1, y45.2, qA, Gi, N25, tT, tV, kM, tX, yG, tY, kN, Gj, Ub, vF, zN, zO, Lc, Da, yH, ())) fun y46 =>
     let v47 : Int := IntKind.wrap .i64 (lS + 1)
     g0 (oH, tQ, v47, y46.1, y46.2.1, y46.2.2.1, y46.2.2.2.1, y46.2.2.2.2.1, y46.2.2.2.2.2.1, y46.2.2.2.2.2.2.1, y46.2.2.2.2.2.2.2.1, y46.2.2.2.2.2.2.2.2.1, y46.2.2.2.2.2.2.2.2.2.1, y46.2.2.2.2.2.2.2.2.2.2.1, y46.2.2.2.2.2.2.2.2.2.2.2.1, y46.2.2.2.2.2.2.2.2.2.2.2.2.1, y46.2.2.2.2.2.2.2.2.2.2.2.2.2.1, y46.2.2.2.2.2.2.2.2.2.2.2.2.2.2.1, y46.2.2.2.2.2.2.2.2.2.2.2.2.2.2.2.1, y46.2.2.2.2.2.2.2.2.2.2.2.2.2.2.2.2.1, y46.2.2.2.2.2.2.2.2.2.2.2.2.2.2.2.2.2.1, ())) (
     let v48 : Int := IntKind.wrap .i64 (lS + 1)
     g0 (oH, tQ, v48, qA, Gi, N25, tT, tV, kM, tX, yG, tY, kN, Gj, Ub, vF, zN, zO, Lc, Da, yH, ()))))) (
  some (qA, Gi, N25, tT, tV, kM, tX, yG, tY, kN, Gj, [], vF, zN, zO, Lc, Da, yH, ()))
def tZ (n : Nat) (x : Int × Int × Int × Int × Int × List UInt8 × List UInt8 × Bool × Bool × Bool × List (Bool × Int × Unit) × List (List UInt8 × Bool × Unit) × Bool × List (List (NdT) × Bool × Unit) × List (((Int × Int × Int × Unit) × (Int × Int × Int × Unit) × Bool × Unit) × Int × List UInt8 × List UInt8 × Int × Int × Int × List (List UInt8 × Int × Unit) × Bool × Bool × Unit) × Bool × List (List UInt8 × List UInt8 × Unit) × List (List UInt8 × Bool × Unit) × Unit) : Option (Int × Int × Int × Int × Int × List UInt8 × List UInt8 × Bool × Bool × Bool × List (Bool × Int × Unit) × List (List UInt8 × Bool × Unit) × Bool × List (List (NdT) × Bool × Unit) × List (((Int × Int × Int × Unit) × (Int × Int × Int × Unit) × Bool × Unit) × Int × List UInt8 × List UInt8 × Int × Int × Int × List (List UInt8 × Int × Unit) × Bool × Bool × Unit) × Bool × List (List UInt8 × List UInt8 × Unit) × List (List UInt8 × Bool × Unit) × Unit) :=
 let lN : Int := x.1
 let PC2 : Int := x.2.1
 let N3 : Int := x.2.2.1
 let pR : Int := x.2.2.2.1
 let pU : Int := x.2.2.2.2.1
 let gH : List UInt8 := x.2.2.2.2.2.1
 let pV : List UInt8 := x.2.2.2.2.2.2.1
 let tL : Bool := x.2.2.2.2.2.2.2.1
 let pW : Bool := x.2.2.2.2.2.2.2.2.1
 let fH : Bool := x.2.2.2.2.2.2.2.2.2.1
 let mK : List (Bool × Int × Unit) := x.2.2.2.2.2.2.2.2.2.2.1
 let lQ : List (List UInt8 × Bool × Unit) := x.2.2.2.2.2.2.2.2.2.2.2.1
 let nG : Bool := x.2.2.2.2.2.2.2.2.2.2.2.2.1
 let tN : List (List (NdT) × Bool × Unit) := x.2.2.2.2.2.2.2.2.2.2.2.2.2.1
 let tO : List (((Int × Int × Int × Unit) × (Int × Int × Int × Unit) × Bool × Unit) × Int × List UInt8 × List UInt8 × Int × Int × Int × List (List UInt8 × Int × Unit) × Bool × Bool × Unit) := x.2.2.2.2.2.2.2.2.2.2.2.2.2.2.1
 let nH : Bool := x.2.2.2.2.2.2.2.2.2.2.2.2.2.2.2.1
 let pX : List (List UInt8 × List UInt8 × Unit) := x.2.2.2.2.2.2.2.2.2.2.2.2.2.2.2.2.1
 let pY : List (List UInt8 × Bool × Unit) := x.2.2.2.2.2.2.2.2.2.2.2.2.2.2.2.2.2.1
 fix (Cz n) n (lQ, (lQ.length : Int), 0, lN, PC2, N3, pR, pU, gH, pV, tL, pW, fH, mK, lQ, nG, tN, tO, nH, pX, pY, ())
def iR (n : Nat) (x : Int × Int × Int × Int × Int × List UInt8 × List UInt8 × Bool × Bool × Bool × List (Bool × Int × Unit) × List (List UInt8 × Bool × Unit) × Bool × List (List (NdT) × Bool × Unit) × List (((Int × Int × Int × Unit) × (Int × Int × Int × Unit) × Bool × Unit) × Int × List UInt8 × List UInt8 × Int × Int × Int × List (List UInt8 × Int × Unit) × Bool × Bool × Unit) × Bool × List (List UInt8 × List UInt8 × Unit) × List (List UInt8 × Bool × Unit) × Unit) : Option (Int × Int × Int × Int × Int × List UInt8 × List UInt8 × Bool × Bool × Bool × List (Bool × Int × Unit) × List (List UInt8 × Bool × Unit) × Bool × List (List (NdT) × Bool × Unit) × List (((Int × Int × Int × Unit) × (Int × Int × Int × Unit) × Bool × Unit) × Int × List UInt8 × List UInt8 × Int × Int × Int × List (List UInt8 × Int × Unit) × Bool × Bool × Unit) × Bool × List (List UInt8 × List UInt8 × Unit) × List (List UInt8 × Bool × Unit) × Unit) :=
 let lN : Int := x.1
 let PC2 : Int := x.2.1
 let N3 : Int := x.2.2.1
 let pR : Int := x.2.2.2.1
 let pU : Int := x.2.2.2.2.1
 let gH : List UInt8 := x.2.2.2.2.2.1
 let pV : List UInt8 := x.2.2.2.2.2.2.1
 let tL : Bool := x.2.2.2.2.2.2.2.1
 let pW : Bool := x.2.2.2.2.2.2.2.2.1
 let fH : Bool := x.2.2.2.2.2.2.2.2.2.1
 let mK : List (Bool × Int × Unit) := x.2.2.2.2.2.2.2.2.2.2.1
 let lQ : List (List UInt8 × Bool × Unit) := x.2.2.2.2.2.2.2.2.2.2.2.1
 let nG : Bool := x.2.2.2.2.2.2.2.2.2.2.2.2.1
 let tN : List (List (NdT) × Bool × Unit) := x.2.2.2.2.2.2.2.2.2.2.2.2.2.1
 let tO : List (((Int × Int × Int × Unit) × (Int × Int × Int × Unit) × Bool × Unit) × Int × List UInt8 × List UInt8 × Int × Int × Int × List (List UInt8 × Int × Unit) × Bool × Bool × Unit) := x.2.2.2.2.2.2.2.2.2.2.2.2.2.2.1
 let nH : Bool := x.2.2.2.2.2.2.2.2.2.2.2.2.2.2.2.1
 let pX : List (List UInt8 × List UInt8 × Unit) := x.2.2.2.2.2.2.2.2.2.2.2.2.2.2.2.2.1
 let pY : List (List UInt8 × Bool × Unit) := x.2.2.2.2.2.2.2.2.2.2.2.2.2.2.2.2.2.1
 ob (tZ n (lN, PC2, N3, pR, pU, gH, pV, tL, pW, fH, mK, lQ, nG, tN, tO, nH, pX, pY, ())) fun y19 =>
 some (0, y19.2.1, y19.2.2.1, y19.2.2.2.1, y19.2.2.2.2.1, y19.2.2.2.2.2.1, y19.2.2.2.2.2.2.1, y19.2.2.2.2.2.2.2.1, y19.2.2.2.2.2.2.2.2.1, y19.2.2.2.2.2.2.2.2.2.1, y19.2.2.2.2.2.2.2.2.2.2.1, y19.2.2.2.2.2.2.2.2.2.2.2.1, y19.2.2.2.2.2.2.2.2.2.2.2.2.1, y19.2.2.2.2.2.2.2.2.2.2.2.2.2.1, y19.2.2.2.2.2.2.2.2.2.2.2.2.2.2.1, y19.2.2.2.2.2.2.2.2.2.2.2.2.2.2.2.1, y19.2.2.2.2.2.2.2.2.2.2.2.2.2.2.2.2.1, y19.2.2.2.2.2.2.2.2.2.2.2.2.2.2.2.2.2.1, ())
def kZ (_n:Nat) (x:List (Bool × Int × Unit) × Unit):Option (List (Bool × Int × Unit) × Unit):=zJs 16 x
def Db (n : Nat) (g0 : Int × Int × Int × Int × Int × Int × Int × List UInt8 × List UInt8 × Bool × Bool × Bool × List (Bool × Int × Unit) × List (List UInt8 × Bool × Unit) × Bool × List (List (NdT) × Bool × Unit) × List (((Int × Int × Int × Unit) × (Int × Int × Int × Unit) × Bool × Unit) × Int × List UInt8 × List UInt8 × Int × Int × Int × List (List UInt8 × Int × Unit) × Bool × Bool × Unit) × Bool × List (List UInt8 × List UInt8 × Unit) × List (List UInt8 × Bool × Unit) × Int × Int × Int × Int × Int × Int × Bool × Int × List UInt8 × List UInt8 × Int × Int × Int × List (List UInt8 × Int × Unit) × Bool × Bool × List (Bool) × List (Int × Int × Int × Unit) × Unit -> Option (Bool × Int × Int × Int × Int × Int × List UInt8 × List UInt8 × Bool × Bool × Bool × List (List UInt8 × Bool × Unit) × Bool × List (List (NdT) × Bool × Unit) × List (((Int × Int × Int × Unit) × (Int × Int × Int × Unit) × Bool × Unit) × Int × List UInt8 × List UInt8 × Int × Int × Int × List (List UInt8 × Int × Unit) × Bool × Bool × Unit) × Bool × List (List UInt8 × List UInt8 × Unit) × List (List UInt8 × Bool × Unit) × List (Bool × Int × Unit) × Unit)) (x37 : Int × Int × Int × Int × Int × Int × Int × List UInt8 × List UInt8 × Bool × Bool × Bool × List (Bool × Int × Unit) × List (List UInt8 × Bool × Unit) × Bool × List (List (NdT) × Bool × Unit) × List (((Int × Int × Int × Unit) × (Int × Int × Int × Unit) × Bool × Unit) × Int × List UInt8 × List UInt8 × Int × Int × Int × List (List UInt8 × Int × Unit) × Bool × Bool × Unit) × Bool × List (List UInt8 × List UInt8 × Unit) × List (List UInt8 × Bool × Unit) × Int × Int × Int × Int × Int × Int × Bool × Int × List UInt8 × List UInt8 × Int × Int × Int × List (List UInt8 × Int × Unit) × Bool × Bool × List (Bool) × List (Int × Int × Int × Unit) × Unit) : Option (Bool × Int × Int × Int × Int × Int × List UInt8 × List UInt8 × Bool × Bool × Bool × List (List UInt8 × Bool × Unit) × Bool × List (List (NdT) × Bool × Unit) × List (((Int × Int × Int × Unit) × (Int × Int × Int × Unit) × Bool × Unit) × Int × List UInt8 × List UInt8 × Int × Int × Int × List (List UInt8 × Int × Unit) × Bool × Bool × Unit) × Bool × List (List UInt8 × List UInt8 × Unit) × List (List UInt8 × Bool × Unit) × List (Bool × Int × Unit) × Unit) :=
 let zKv : Int := x37.1
 let Jv : Int := x37.2.1
 let zEr : Int := x37.2.2.1
 let Ov : Int := x37.2.2.2.1
 let N42 : Int := x37.2.2.2.2.1
 let zKw : Int := x37.2.2.2.2.2.1
 let zKx : Int := x37.2.2.2.2.2.2.1
 let Vu : List UInt8 := x37.2.2.2.2.2.2.2.1
 let zKy : List UInt8 := x37.2.2.2.2.2.2.2.2.1
 let zPt : Bool := x37.2.2.2.2.2.2.2.2.2.1
 let zBy : Bool := x37.2.2.2.2.2.2.2.2.2.2.1
 let Vv : Bool := x37.2.2.2.2.2.2.2.2.2.2.2.1
 let Gl : List (Bool × Int × Unit) := x37.2.2.2.2.2.2.2.2.2.2.2.2.1
 let zEs : List (List UInt8 × Bool × Unit) := x37.2.2.2.2.2.2.2.2.2.2.2.2.2.1
 let zEt : Bool := x37.2.2.2.2.2.2.2.2.2.2.2.2.2.2.1
 let zKz : List (List (NdT) × Bool × Unit) := x37.2.2.2.2.2.2.2.2.2.2.2.2.2.2.2.1
 let zLa : List (((Int × Int × Int × Unit) × (Int × Int × Int × Unit) × Bool × Unit) × Int × List UInt8 × List UInt8 × Int × Int × Int × List (List UInt8 × Int × Unit) × Bool × Bool × Unit) := x37.2.2.2.2.2.2.2.2.2.2.2.2.2.2.2.2.1
 let zEu : Bool := x37.2.2.2.2.2.2.2.2.2.2.2.2.2.2.2.2.2.1
 let zEv : List (List UInt8 × List UInt8 × Unit) := x37.2.2.2.2.2.2.2.2.2.2.2.2.2.2.2.2.2.2.1
 let zPu : List (List UInt8 × Bool × Unit) := x37.2.2.2.2.2.2.2.2.2.2.2.2.2.2.2.2.2.2.2.1
 let zLb : Int := x37.2.2.2.2.2.2.2.2.2.2.2.2.2.2.2.2.2.2.2.2.1
 let N59 : Int := x37.2.2.2.2.2.2.2.2.2.2.2.2.2.2.2.2.2.2.2.2.2.1
 let M60 : Int := x37.2.2.2.2.2.2.2.2.2.2.2.2.2.2.2.2.2.2.2.2.2.2.1
 let zLc : Int := x37.2.2.2.2.2.2.2.2.2.2.2.2.2.2.2.2.2.2.2.2.2.2.2.1
 let N62 : Int := x37.2.2.2.2.2.2.2.2.2.2.2.2.2.2.2.2.2.2.2.2.2.2.2.2.1
 let M63 : Int := x37.2.2.2.2.2.2.2.2.2.2.2.2.2.2.2.2.2.2.2.2.2.2.2.2.2.1
 let zPv : Bool := x37.2.2.2.2.2.2.2.2.2.2.2.2.2.2.2.2.2.2.2.2.2.2.2.2.2.2.1
 let yEh : Int := x37.2.2.2.2.2.2.2.2.2.2.2.2.2.2.2.2.2.2.2.2.2.2.2.2.2.2.2.1
 let zZf : List UInt8 := x37.2.2.2.2.2.2.2.2.2.2.2.2.2.2.2.2.2.2.2.2.2.2.2.2.2.2.2.2.1
 let zZg : List UInt8 := x37.2.2.2.2.2.2.2.2.2.2.2.2.2.2.2.2.2.2.2.2.2.2.2.2.2.2.2.2.2.1
 let N68 : Int := x37.2.2.2.2.2.2.2.2.2.2.2.2.2.2.2.2.2.2.2.2.2.2.2.2.2.2.2.2.2.2.1
 let yEi : Int := x37.2.2.2.2.2.2.2.2.2.2.2.2.2.2.2.2.2.2.2.2.2.2.2.2.2.2.2.2.2.2.2.1
 let yCh : Int := x37.2.2.2.2.2.2.2.2.2.2.2.2.2.2.2.2.2.2.2.2.2.2.2.2.2.2.2.2.2.2.2.2.1
 let zTc : List (List UInt8 × Int × Unit) := x37.2.2.2.2.2.2.2.2.2.2.2.2.2.2.2.2.2.2.2.2.2.2.2.2.2.2.2.2.2.2.2.2.2.1
 let yCi : Bool := x37.2.2.2.2.2.2.2.2.2.2.2.2.2.2.2.2.2.2.2.2.2.2.2.2.2.2.2.2.2.2.2.2.2.2.1
 let zTd : Bool := x37.2.2.2.2.2.2.2.2.2.2.2.2.2.2.2.2.2.2.2.2.2.2.2.2.2.2.2.2.2.2.2.2.2.2.2.1
 let zPw : List (Bool) := x37.2.2.2.2.2.2.2.2.2.2.2.2.2.2.2.2.2.2.2.2.2.2.2.2.2.2.2.2.2.2.2.2.2.2.2.2.1
 let Ld : List (Int × Int × Int × Unit) := x37.2.2.2.2.2.2.2.2.2.2.2.2.2.2.2.2.2.2.2.2.2.2.2.2.2.2.2.2.2.2.2.2.2.2.2.2.2.1
 br (decide (Jv < zKv)) (
  chk ((inB Jv (Ld.length) && decide (0 + (Ld.length) <= Ld.length))) (
   chk (decide (0 + Jv.toNat < Ld.length)) (
    let v76 : Int := (Ld.getD (0 + Jv.toNat) (Ty.dflt zM)).1
    br (v76 == 4) (
     none) (
     let v79 : Int := IntKind.wrap .i64 (Jv + 1)
     g0 (zKv, v79, zEr, Ov, N42, zKw, zKx, Vu, zKy, zPt, zBy, Vv, Gl, zEs, zEt, zKz, zLa, zEu, zEv, zPu, zLb, N59, M60, zLc, N62, M63, zPv, yEh, zZf, zZg, N68, yEi, yCh, zTc, yCi, zTd, zPw, Ld, ()))))) (
  chk (inB Ov Gl.length) (
   let v80 : Bool × Int × Unit := bC (Ty.dflt bW) Gl Ov
   ob (dO n (((zLb, (N59, (M60, ()))), ((zLc, (N62, (M63, ()))), (zPv, ()))), v80, (N42, (zBy, (zPw, ()))))) fun y81 =>
   ob (kZ n (Gl, ())) fun y82 =>
   chk ((inB Ov (y82.1.length) && decide (0 + (y82.1.length) <= y82.1.length))) (
    chk (decide (0 + Ov.toNat < y82.1.length)) (
     let r83 : List (Bool × Int × Unit) := y82.1.set (0 + Ov.toNat) y81.2
     some (y81.1, zEr, Ov, N42, zKw, zKx, Vu, zKy, zPt, zBy, Vv, zEs, zEt, zKz, zLa, zEu, zEv, zPu, r83, ())))))
def aO (n : Nat) (x : Int × Int × Int × Int × Int × Int × Bool × Int × List UInt8 × List UInt8 × Int × Int × Int × List (List UInt8 × Int × Unit) × Bool × Bool × Int × Int × Int × Int × Int × List UInt8 × List UInt8 × Bool × Bool × Bool × List (Bool × Int × Unit) × List (List UInt8 × Bool × Unit) × Bool × List (List (NdT) × Bool × Unit) × List (((Int × Int × Int × Unit) × (Int × Int × Int × Unit) × Bool × Unit) × Int × List UInt8 × List UInt8 × Int × Int × Int × List (List UInt8 × Int × Unit) × Bool × Bool × Unit) × Bool × List (List UInt8 × List UInt8 × Unit) × List (List UInt8 × Bool × Unit) × Unit) : Option (Bool × Int × Int × Int × Int × Int × List UInt8 × List UInt8 × Bool × Bool × Bool × List (List UInt8 × Bool × Unit) × Bool × List (List (NdT) × Bool × Unit) × List (((Int × Int × Int × Unit) × (Int × Int × Int × Unit) × Bool × Unit) × Int × List UInt8 × List UInt8 × Int × Int × Int × List (List UInt8 × Int × Unit) × Bool × Bool × Unit) × Bool × List (List UInt8 × List UInt8 × Unit) × List (List UInt8 × Bool × Unit) × List (Bool × Int × Unit) × Unit) :=
 let c_1 : Int := x.1
 let c_2 : Int := x.2.1
 let c_3 : Int := x.2.2.1
 let c_4 : Int := x.2.2.2.1
 let c_5 : Int := x.2.2.2.2.1
 let c_6 : Int := x.2.2.2.2.2.1
 let c_7 : Bool := x.2.2.2.2.2.2.1
 let c_8 : Int := x.2.2.2.2.2.2.2.1
 let c_9 : List UInt8 := x.2.2.2.2.2.2.2.2.1
 let Uc : List UInt8 := x.2.2.2.2.2.2.2.2.2.1
 let zOu : Int := x.2.2.2.2.2.2.2.2.2.2.1
 let zOv : Int := x.2.2.2.2.2.2.2.2.2.2.2.1
 let zOw : Int := x.2.2.2.2.2.2.2.2.2.2.2.2.1
 let zOx : List (List UInt8 × Int × Unit) := x.2.2.2.2.2.2.2.2.2.2.2.2.2.1
 let zOy : Bool := x.2.2.2.2.2.2.2.2.2.2.2.2.2.2.1
 let zOz : Bool := x.2.2.2.2.2.2.2.2.2.2.2.2.2.2.2.1
 let iM : Int := x.2.2.2.2.2.2.2.2.2.2.2.2.2.2.2.2.1
 let uD : Int := x.2.2.2.2.2.2.2.2.2.2.2.2.2.2.2.2.2.1
 let N19 : Int := x.2.2.2.2.2.2.2.2.2.2.2.2.2.2.2.2.2.2.1
 let kP : Int := x.2.2.2.2.2.2.2.2.2.2.2.2.2.2.2.2.2.2.2.1
 let kQ : Int := x.2.2.2.2.2.2.2.2.2.2.2.2.2.2.2.2.2.2.2.2.1
 let cZ : List UInt8 := x.2.2.2.2.2.2.2.2.2.2.2.2.2.2.2.2.2.2.2.2.2.1
 let gQ : List UInt8 := x.2.2.2.2.2.2.2.2.2.2.2.2.2.2.2.2.2.2.2.2.2.2.1
 let nP : Bool := x.2.2.2.2.2.2.2.2.2.2.2.2.2.2.2.2.2.2.2.2.2.2.2.1
 let kR : Bool := x.2.2.2.2.2.2.2.2.2.2.2.2.2.2.2.2.2.2.2.2.2.2.2.2.1
 let fA : Bool := x.2.2.2.2.2.2.2.2.2.2.2.2.2.2.2.2.2.2.2.2.2.2.2.2.2.1
 let zPa : List (Bool × Int × Unit) := x.2.2.2.2.2.2.2.2.2.2.2.2.2.2.2.2.2.2.2.2.2.2.2.2.2.2.1
 let zTe : List (List UInt8 × Bool × Unit) := x.2.2.2.2.2.2.2.2.2.2.2.2.2.2.2.2.2.2.2.2.2.2.2.2.2.2.2.1
 let zTf : Bool := x.2.2.2.2.2.2.2.2.2.2.2.2.2.2.2.2.2.2.2.2.2.2.2.2.2.2.2.2.1
 let Dc : List (List (NdT) × Bool × Unit) := x.2.2.2.2.2.2.2.2.2.2.2.2.2.2.2.2.2.2.2.2.2.2.2.2.2.2.2.2.2.1
 let zZh : List (((Int × Int × Int × Unit) × (Int × Int × Int × Unit) × Bool × Unit) × Int × List UInt8 × List UInt8 × Int × Int × Int × List (List UInt8 × Int × Unit) × Bool × Bool × Unit) := x.2.2.2.2.2.2.2.2.2.2.2.2.2.2.2.2.2.2.2.2.2.2.2.2.2.2.2.2.2.2.1
 let zTg : Bool := x.2.2.2.2.2.2.2.2.2.2.2.2.2.2.2.2.2.2.2.2.2.2.2.2.2.2.2.2.2.2.2.1
 let zTh : List (List UInt8 × List UInt8 × Unit) := x.2.2.2.2.2.2.2.2.2.2.2.2.2.2.2.2.2.2.2.2.2.2.2.2.2.2.2.2.2.2.2.2.1
 let nQ : List (List UInt8 × Bool × Unit) := x.2.2.2.2.2.2.2.2.2.2.2.2.2.2.2.2.2.2.2.2.2.2.2.2.2.2.2.2.2.2.2.2.2.1
 chk ((decide (0 <= (Dc.length : Int)) && (decide ((Dc.length : Int) = (Dc.length : Int)) && Nat.ble ((Dc.length : Int).toNat * 1) room))) (
  let r35 : List (Bool) := List.replicate (Dc.length : Int).toNat false
  let v36 : Int := (([(c_1, (c_2, (c_3, ()))), (c_4, (c_5, (c_6, ())))].length : Nat) : Int)
  fix (Db n) n (v36, 0, iM, uD, N19, kP, kQ, cZ, gQ, nP, kR, fA, zPa, zTe, zTf, Dc, zZh, zTg, zTh, nQ, c_1, c_2, c_3, c_4, c_5, c_6, c_7, c_8, c_9, Uc, zOu, zOv, zOw, zOx, zOy, zOz, r35, [(c_1, (c_2, (c_3, ()))), (c_4, (c_5, (c_6, ())))], ()))
def mO (n : Nat) (x : List UInt8 × Bool × Int × Int × Int × Int × Int × List UInt8 × List UInt8 × Bool × Bool × Bool × List (List UInt8 × Bool × Unit) × Bool × List (List (NdT) × Bool × Unit) × List (((Int × Int × Int × Unit) × (Int × Int × Int × Unit) × Bool × Unit) × Int × List UInt8 × List UInt8 × Int × Int × Int × List (List UInt8 × Int × Unit) × Bool × Bool × Unit) × Bool × List (List UInt8 × List UInt8 × Unit) × List (Bool × Int × Unit) × List (List UInt8 × Bool × Unit) × Unit) : Option (Int × Int × Int × Int × Int × List UInt8 × List UInt8 × Bool × Bool × Bool × List (List UInt8 × Bool × Unit) × Bool × List (List (NdT) × Bool × Unit) × List (((Int × Int × Int × Unit) × (Int × Int × Int × Unit) × Bool × Unit) × Int × List UInt8 × List UInt8 × Int × Int × Int × List (List UInt8 × Int × Unit) × Bool × Bool × Unit) × Bool × List (List UInt8 × List UInt8 × Unit) × List (Bool × Int × Unit) × List (List UInt8 × Bool × Unit) × Unit) :=
 let s_1 : List UInt8 := x.1
 let zBu : Bool := x.2.1
 let zBv : Int := x.2.2.1
 let PC4 : Int := x.2.2.2.1
 let N5 : Int := x.2.2.2.2.1
 let zIm : Int := x.2.2.2.2.2.1
 let zIn : Int := x.2.2.2.2.2.2.1
 let Ou : List UInt8 := x.2.2.2.2.2.2.2.1
 let zIo : List UInt8 := x.2.2.2.2.2.2.2.2.1
 let zIp : Bool := x.2.2.2.2.2.2.2.2.2.1
 let zBw : Bool := x.2.2.2.2.2.2.2.2.2.2.1
 let Ju : Bool := x.2.2.2.2.2.2.2.2.2.2.2.1
 let zTi : List (List UInt8 × Bool × Unit) := x.2.2.2.2.2.2.2.2.2.2.2.2.1
 let zTj : Bool := x.2.2.2.2.2.2.2.2.2.2.2.2.2.1
 let zZi : List (List (NdT) × Bool × Unit) := x.2.2.2.2.2.2.2.2.2.2.2.2.2.2.1
 let zZj : List (((Int × Int × Int × Unit) × (Int × Int × Int × Unit) × Bool × Unit) × Int × List UInt8 × List UInt8 × Int × Int × Int × List (List UInt8 × Int × Unit) × Bool × Bool × Unit) := x.2.2.2.2.2.2.2.2.2.2.2.2.2.2.2.1
 let zTk : Bool := x.2.2.2.2.2.2.2.2.2.2.2.2.2.2.2.2.1
 let zTl : List (List UInt8 × List UInt8 × Unit) := x.2.2.2.2.2.2.2.2.2.2.2.2.2.2.2.2.2.1
 let yCj : List (Bool × Int × Unit) := x.2.2.2.2.2.2.2.2.2.2.2.2.2.2.2.2.2.2.1
 let Rs : List (List UInt8 × Bool × Unit) := x.2.2.2.2.2.2.2.2.2.2.2.2.2.2.2.2.2.2.2.1
 chk (Nat.ble ((Rs.length + ([(s_1, (zBu, ()))] : List (List UInt8 × Bool × Unit)).length) * 24) room) (
  let r21 : List (List UInt8 × Bool × Unit) := Rs ++ [(s_1, (zBu, ()))]
  some (zBv, PC4, N5, zIm, zIn, Ou, zIo, zIp, zBw, Ju, zTi, zTj, zZi, zZj, zTk, zTl, yCj, r21, ()))
def zP (n : Nat) (g0 : List (List UInt8 × Bool × Unit) × Int × Int × Int × Int × Int × Int × Int × List UInt8 × List UInt8 × Bool × Bool × Bool × List (List UInt8 × Bool × Unit) × Bool × List (List (NdT) × Bool × Unit) × List (((Int × Int × Int × Unit) × (Int × Int × Int × Unit) × Bool × Unit) × Int × List UInt8 × List UInt8 × Int × Int × Int × List (List UInt8 × Int × Unit) × Bool × Bool × Unit) × Bool × List (List UInt8 × List UInt8 × Unit) × List (Bool × Int × Unit) × List (List UInt8 × Bool × Unit) × Unit -> Option (Int × Int × Int × Int × Int × List UInt8 × List UInt8 × Bool × Bool × Bool × List (List UInt8 × Bool × Unit) × Bool × List (List (NdT) × Bool × Unit) × List (((Int × Int × Int × Unit) × (Int × Int × Int × Unit) × Bool × Unit) × Int × List UInt8 × List UInt8 × Int × Int × Int × List (List UInt8 × Int × Unit) × Bool × Bool × Unit) × Bool × List (List UInt8 × List UInt8 × Unit) × List (Bool × Int × Unit) × List (List UInt8 × Bool × Unit) × Unit)) (x19 : List (List UInt8 × Bool × Unit) × Int × Int × Int × Int × Int × Int × Int × List UInt8 × List UInt8 × Bool × Bool × Bool × List (List UInt8 × Bool × Unit) × Bool × List (List (NdT) × Bool × Unit) × List (((Int × Int × Int × Unit) × (Int × Int × Int × Unit) × Bool × Unit) × Int × List UInt8 × List UInt8 × Int × Int × Int × List (List UInt8 × Int × Unit) × Bool × Bool × Unit) × Bool × List (List UInt8 × List UInt8 × Unit) × List (Bool × Int × Unit) × List (List UInt8 × Bool × Unit) × Unit) : Option (Int × Int × Int × Int × Int × List UInt8 × List UInt8 × Bool × Bool × Bool × List (List UInt8 × Bool × Unit) × Bool × List (List (NdT) × Bool × Unit) × List (((Int × Int × Int × Unit) × (Int × Int × Int × Unit) × Bool × Unit) × Int × List UInt8 × List UInt8 × Int × Int × Int × List (List UInt8 × Int × Unit) × Bool × Bool × Unit) × Bool × List (List UInt8 × List UInt8 × Unit) × List (Bool × Int × Unit) × List (List UInt8 × Bool × Unit) × Unit) :=
 let oH : List (List UInt8 × Bool × Unit) := x19.1
 let tQ : Int := x19.2.1
 let lS : Int := x19.2.2.1
 let qA : Int := x19.2.2.2.1
 let Gi : Int := x19.2.2.2.2.1
 let N25 : Int := x19.2.2.2.2.2.1
 let tT : Int := x19.2.2.2.2.2.2.1
 let tV : Int := x19.2.2.2.2.2.2.2.1
 let kM : List UInt8 := x19.2.2.2.2.2.2.2.2.1
 let tX : List UInt8 := x19.2.2.2.2.2.2.2.2.2.1
 let yG : Bool := x19.2.2.2.2.2.2.2.2.2.2.1
 let tY : Bool := x19.2.2.2.2.2.2.2.2.2.2.2.1
 let kN : Bool := x19.2.2.2.2.2.2.2.2.2.2.2.2.1
 let Ud : List (List UInt8 × Bool × Unit) := x19.2.2.2.2.2.2.2.2.2.2.2.2.2.1
 let Lf : Bool := x19.2.2.2.2.2.2.2.2.2.2.2.2.2.2.1
 let Rt : List (List (NdT) × Bool × Unit) := x19.2.2.2.2.2.2.2.2.2.2.2.2.2.2.2.1
 let Ru : List (((Int × Int × Int × Unit) × (Int × Int × Int × Unit) × Bool × Unit) × Int × List UInt8 × List UInt8 × Int × Int × Int × List (List UInt8 × Int × Unit) × Bool × Bool × Unit) := x19.2.2.2.2.2.2.2.2.2.2.2.2.2.2.2.2.1
 let Lg : Bool := x19.2.2.2.2.2.2.2.2.2.2.2.2.2.2.2.2.2.1
 let Df : List (List UInt8 × List UInt8 × Unit) := x19.2.2.2.2.2.2.2.2.2.2.2.2.2.2.2.2.2.2.1
 let Yc : List (Bool × Int × Unit) := x19.2.2.2.2.2.2.2.2.2.2.2.2.2.2.2.2.2.2.2.1
 let yH : List (List UInt8 × Bool × Unit) := x19.2.2.2.2.2.2.2.2.2.2.2.2.2.2.2.2.2.2.2.2.1
 br (decide (lS < tQ)) (
  chk (inB lS oH.length) (
   let v41 : List UInt8 × Bool × Unit := bC (Ty.dflt aS) oH lS
   br (!v41.2.1) (
    ob (mO n (v41.1, true, qA, Gi, N25, tT, tV, kM, tX, yG, tY, kN, Ud, Lf, Rt, Ru, Lg, Df, Yc, yH, ())) fun y42 =>
    let v43 : Int := IntKind.wrap .i64 (lS + 1)
    g0 (oH, tQ, v43, y42.1, y42.2.1, y42.2.2.1, y42.2.2.2.1, y42.2.2.2.2.1, y42.2.2.2.2.2.1, y42.2.2.2.2.2.2.1, y42.2.2.2.2.2.2.2.1, y42.2.2.2.2.2.2.2.2.1, y42.2.2.2.2.2.2.2.2.2.1, y42.2.2.2.2.2.2.2.2.2.2.1, y42.2.2.2.2.2.2.2.2.2.2.2.1, y42.2.2.2.2.2.2.2.2.2.2.2.2.1, y42.2.2.2.2.2.2.2.2.2.2.2.2.2.1, y42.2.2.2.2.2.2.2.2.2.2.2.2.2.2.1, y42.2.2.2.2.2.2.2.2.2.2.2.2.2.2.2.1, y42.2.2.2.2.2.2.2.2.2.2.2.2.2.2.2.2.1, y42.2.2.2.2.2.2.2.2.2.2.2.2.2.2.2.2.2.1, ())) (
    ob (wO n (Df, v41.1)) fun y44 =>
    br (!(y44.1 == [])) (
     ob (strings_CutSuffix n (y44.1, [10])) fun y45 =>
     ob (mO n (y45.1, y45.2, qA, Gi, N25, tT, tV, kM, tX, yG, tY, kN, Ud, Lf, Rt, Ru, Lg, Df, Yc, yH, ())) fun y46 =>
     let v47 : Int := IntKind.wrap .i64 (lS + 1)
     g0 (oH, tQ, v47, y46.1, y46.2.1, y46.2.2.1, y46.2.2.2.1, y46.2.2.2.2.1, y46.2.2.2.2.2.1, y46.2.2.2.2.2.2.1, y46.2.2.2.2.2.2.2.1, y46.2.2.2.2.2.2.2.2.1, y46.2.2.2.2.2.2.2.2.2.1, y46.2.2.2.2.2.2.2.2.2.2.1, y46.2.2.2.2.2.2.2.2.2.2.2.1, y46.2.2.2.2.2.2.2.2.2.2.2.2.1, y46.2.2.2.2.2.2.2.2.2.2.2.2.2.1, y46.2.2.2.2.2.2.2.2.2.2.2.2.2.2.1, y46.2.2.2.2.2.2.2.2.2.2.2.2.2.2.2.1, y46.2.2.2.2.2.2.2.2.2.2.2.2.2.2.2.2.1, y46.2.2.2.2.2.2.2.2.2.2.2.2.2.2.2.2.2.1, ())) (
     let v48 : Int := IntKind.wrap .i64 (lS + 1)
     g0 (oH, tQ, v48, qA, Gi, N25, tT, tV, kM, tX, yG, tY, kN, Ud, Lf, Rt, Ru, Lg, Df, Yc, yH, ()))))) (
  some (qA, Gi, N25, tT, tV, kM, tX, yG, tY, kN, [], Lf, Rt, Ru, Lg, Df, Yc, yH, ()))
def iI (n : Nat) (x : Int × Int × Int × Int × Int × List UInt8 × List UInt8 × Bool × Bool × Bool × List (List UInt8 × Bool × Unit) × Bool × List (List (NdT) × Bool × Unit) × List (((Int × Int × Int × Unit) × (Int × Int × Int × Unit) × Bool × Unit) × Int × List UInt8 × List UInt8 × Int × Int × Int × List (List UInt8 × Int × Unit) × Bool × Bool × Unit) × Bool × List (List UInt8 × List UInt8 × Unit) × List (Bool × Int × Unit) × List (List UInt8 × Bool × Unit) × Unit) : Option (Int × Int × Int × Int × Int × List UInt8 × List UInt8 × Bool × Bool × Bool × List (List UInt8 × Bool × Unit) × Bool × List (List (NdT) × Bool × Unit) × List (((Int × Int × Int × Unit) × (Int × Int × Int × Unit) × Bool × Unit) × Int × List UInt8 × List UInt8 × Int × Int × Int × List (List UInt8 × Int × Unit) × Bool × Bool × Unit) × Bool × List (List UInt8 × List UInt8 × Unit) × List (Bool × Int × Unit) × List (List UInt8 × Bool × Unit) × Unit) :=
 let lN : Int := x.1
 let PC2 : Int := x.2.1
 let N3 : Int := x.2.2.1
 let pR : Int := x.2.2.2.1
 let pU : Int := x.2.2.2.2.1
 let gH : List UInt8 := x.2.2.2.2.2.1
 let pV : List UInt8 := x.2.2.2.2.2.2.1
 let tL : Bool := x.2.2.2.2.2.2.2.1
 let pW : Bool := x.2.2.2.2.2.2.2.2.1
 let fH : Bool := x.2.2.2.2.2.2.2.2.2.1
 let Dh : List (List UInt8 × Bool × Unit) := x.2.2.2.2.2.2.2.2.2.2.1
 let sI : Bool := x.2.2.2.2.2.2.2.2.2.2.2.1
 let wP : List (List (NdT) × Bool × Unit) := x.2.2.2.2.2.2.2.2.2.2.2.2.1
 let wQ : List (((Int × Int × Int × Unit) × (Int × Int × Int × Unit) × Bool × Unit) × Int × List UInt8 × List UInt8 × Int × Int × Int × List (List UInt8 × Int × Unit) × Bool × Bool × Unit) := x.2.2.2.2.2.2.2.2.2.2.2.2.2.1
 let Ue : Bool := x.2.2.2.2.2.2.2.2.2.2.2.2.2.2.1
 let Uf : List (List UInt8 × List UInt8 × Unit) := x.2.2.2.2.2.2.2.2.2.2.2.2.2.2.2.1
 let zIq : List (Bool × Int × Unit) := x.2.2.2.2.2.2.2.2.2.2.2.2.2.2.2.2.1
 let pY : List (List UInt8 × Bool × Unit) := x.2.2.2.2.2.2.2.2.2.2.2.2.2.2.2.2.2.1
 fix (zP n) n (Dh, (Dh.length : Int), 0, lN, PC2, N3, pR, pU, gH, pV, tL, pW, fH, Dh, sI, wP, wQ, Ue, Uf, zIq, pY, ())
def mP (n : Nat) (x : Int × Int × Int × Int × Int × List UInt8 × List UInt8 × Bool × Bool × Bool × List (List UInt8 × Bool × Unit) × Bool × List (List (NdT) × Bool × Unit) × List (((Int × Int × Int × Unit) × (Int × Int × Int × Unit) × Bool × Unit) × Int × List UInt8 × List UInt8 × Int × Int × Int × List (List UInt8 × Int × Unit) × Bool × Bool × Unit) × Bool × List (List UInt8 × List UInt8 × Unit) × List (Bool × Int × Unit) × List (List UInt8 × Bool × Unit) × Unit) : Option (Int × Int × Int × Int × Int × List UInt8 × List UInt8 × Bool × Bool × Bool × List (List UInt8 × Bool × Unit) × Bool × List (List (NdT) × Bool × Unit) × List (((Int × Int × Int × Unit) × (Int × Int × Int × Unit) × Bool × Unit) × Int × List UInt8 × List UInt8 × Int × Int × Int × List (List UInt8 × Int × Unit) × Bool × Bool × Unit) × Bool × List (List UInt8 × List UInt8 × Unit) × List (Bool × Int × Unit) × List (List UInt8 × Bool × Unit) × Unit) :=
 let lN : Int := x.1
 let PC2 : Int := x.2.1
 let N3 : Int := x.2.2.1
 let pR : Int := x.2.2.2.1
 let pU : Int := x.2.2.2.2.1
 let gH : List UInt8 := x.2.2.2.2.2.1
 let pV : List UInt8 := x.2.2.2.2.2.2.1
 let tL : Bool := x.2.2.2.2.2.2.2.1
 let pW : Bool := x.2.2.2.2.2.2.2.2.1
 let fH : Bool := x.2.2.2.2.2.2.2.2.2.1
 let Dh : List (List UInt8 × Bool × Unit) := x.2.2.2.2.2.2.2.2.2.2.1
 let sI : Bool := x.2.2.2.2.2.2.2.2.2.2.2.1
 let wP : List (List (NdT) × Bool × Unit) := x.2.2.2.2.2.2.2.2.2.2.2.2.1
 let wQ : List (((Int × Int × Int × Unit) × (Int × Int × Int × Unit) × Bool × Unit) × Int × List UInt8 × List UInt8 × Int × Int × Int × List (List UInt8 × Int × Unit) × Bool × Bool × Unit) := x.2.2.2.2.2.2.2.2.2.2.2.2.2.1
 let Ue : Bool := x.2.2.2.2.2.2.2.2.2.2.2.2.2.2.1
 let Uf : List (List UInt8 × List UInt8 × Unit) := x.2.2.2.2.2.2.2.2.2.2.2.2.2.2.2.1
 let zIq : List (Bool × Int × Unit) := x.2.2.2.2.2.2.2.2.2.2.2.2.2.2.2.2.1
 let pY : List (List UInt8 × Bool × Unit) := x.2.2.2.2.2.2.2.2.2.2.2.2.2.2.2.2.2.1
 ob (iI n (lN, PC2, N3, pR, pU, gH, pV, tL, pW, fH, Dh, sI, wP, wQ, Ue, Uf, zIq, pY, ())) fun y19 =>
 some (0, y19.2.1, y19.2.2.1, y19.2.2.2.1, y19.2.2.2.2.1, y19.2.2.2.2.2.1, y19.2.2.2.2.2.2.1, y19.2.2.2.2.2.2.2.1, y19.2.2.2.2.2.2.2.2.1, y19.2.2.2.2.2.2.2.2.2.1, y19.2.2.2.2.2.2.2.2.2.2.1, y19.2.2.2.2.2.2.2.2.2.2.2.1, y19.2.2.2.2.2.2.2.2.2.2.2.2.1, y19.2.2.2.2.2.2.2.2.2.2.2.2.2.1, y19.2.2.2.2.2.2.2.2.2.2.2.2.2.2.1, y19.2.2.2.2.2.2.2.2.2.2.2.2.2.2.2.1, y19.2.2.2.2.2.2.2.2.2.2.2.2.2.2.2.2.1, y19.2.2.2.2.2.2.2.2.2.2.2.2.2.2.2.2.2.1, ())
def lF (n : Nat) (x : Int × Int × Int × Int × Int × Int × Bool × Int × List UInt8 × List UInt8 × Int × Int × Int × List (List UInt8 × Int × Unit) × Bool × Bool × Int × Int × Int × Int × Int × List UInt8 × List UInt8 × Bool × Bool × Bool × List (List UInt8 × Bool × Unit) × Bool × List (List (NdT) × Bool × Unit) × List (((Int × Int × Int × Unit) × (Int × Int × Int × Unit) × Bool × Unit) × Int × List UInt8 × List UInt8 × Int × Int × Int × List (List UInt8 × Int × Unit) × Bool × Bool × Unit) × Bool × List (List UInt8 × List UInt8 × Unit) × List (Bool × Int × Unit) × List (List UInt8 × Bool × Unit) × Unit) : Option (Int × Int × Int × Int × Int × List UInt8 × List UInt8 × Bool × Bool × Bool × List (List UInt8 × Bool × Unit) × Bool × List (List (NdT) × Bool × Unit) × List (((Int × Int × Int × Unit) × (Int × Int × Int × Unit) × Bool × Unit) × Int × List UInt8 × List UInt8 × Int × Int × Int × List (List UInt8 × Int × Unit) × Bool × Bool × Unit) × Bool × List (List UInt8 × List UInt8 × Unit) × List (Bool × Int × Unit) × List (List UInt8 × Bool × Unit) × Unit) :=
 let c_1 : Int := x.1
 let c_2 : Int := x.2.1
 let c_3 : Int := x.2.2.1
 let c_4 : Int := x.2.2.2.1
 let c_5 : Int := x.2.2.2.2.1
 let c_6 : Int := x.2.2.2.2.2.1
 let c_7 : Bool := x.2.2.2.2.2.2.1
 let c_8 : Int := x.2.2.2.2.2.2.2.1
 let c_9 : List UInt8 := x.2.2.2.2.2.2.2.2.1
 let Uc : List UInt8 := x.2.2.2.2.2.2.2.2.2.1
 let zOu : Int := x.2.2.2.2.2.2.2.2.2.2.1
 let zOv : Int := x.2.2.2.2.2.2.2.2.2.2.2.1
 let zOw : Int := x.2.2.2.2.2.2.2.2.2.2.2.2.1
 let zOx : List (List UInt8 × Int × Unit) := x.2.2.2.2.2.2.2.2.2.2.2.2.2.1
 let zOy : Bool := x.2.2.2.2.2.2.2.2.2.2.2.2.2.2.1
 let zOz : Bool := x.2.2.2.2.2.2.2.2.2.2.2.2.2.2.2.1
 let iM : Int := x.2.2.2.2.2.2.2.2.2.2.2.2.2.2.2.2.1
 let uD : Int := x.2.2.2.2.2.2.2.2.2.2.2.2.2.2.2.2.2.1
 let N19 : Int := x.2.2.2.2.2.2.2.2.2.2.2.2.2.2.2.2.2.2.1
 let kP : Int := x.2.2.2.2.2.2.2.2.2.2.2.2.2.2.2.2.2.2.2.1
 let kQ : Int := x.2.2.2.2.2.2.2.2.2.2.2.2.2.2.2.2.2.2.2.2.1
 let cZ : List UInt8 := x.2.2.2.2.2.2.2.2.2.2.2.2.2.2.2.2.2.2.2.2.2.1
 let gQ : List UInt8 := x.2.2.2.2.2.2.2.2.2.2.2.2.2.2.2.2.2.2.2.2.2.2.1
 let nP : Bool := x.2.2.2.2.2.2.2.2.2.2.2.2.2.2.2.2.2.2.2.2.2.2.2.1
 let kR : Bool := x.2.2.2.2.2.2.2.2.2.2.2.2.2.2.2.2.2.2.2.2.2.2.2.2.1
 let fA : Bool := x.2.2.2.2.2.2.2.2.2.2.2.2.2.2.2.2.2.2.2.2.2.2.2.2.2.1
 let kD : List (List UInt8 × Bool × Unit) := x.2.2.2.2.2.2.2.2.2.2.2.2.2.2.2.2.2.2.2.2.2.2.2.2.2.2.1
 let kE : Bool := x.2.2.2.2.2.2.2.2.2.2.2.2.2.2.2.2.2.2.2.2.2.2.2.2.2.2.2.1
 let mX : List (List (NdT) × Bool × Unit) := x.2.2.2.2.2.2.2.2.2.2.2.2.2.2.2.2.2.2.2.2.2.2.2.2.2.2.2.2.1
 let mY : List (((Int × Int × Int × Unit) × (Int × Int × Int × Unit) × Bool × Unit) × Int × List UInt8 × List UInt8 × Int × Int × Int × List (List UInt8 × Int × Unit) × Bool × Bool × Unit) := x.2.2.2.2.2.2.2.2.2.2.2.2.2.2.2.2.2.2.2.2.2.2.2.2.2.2.2.2.2.1
 let kF : Bool := x.2.2.2.2.2.2.2.2.2.2.2.2.2.2.2.2.2.2.2.2.2.2.2.2.2.2.2.2.2.2.1
 let kG : List (List UInt8 × List UInt8 × Unit) := x.2.2.2.2.2.2.2.2.2.2.2.2.2.2.2.2.2.2.2.2.2.2.2.2.2.2.2.2.2.2.2.1
 let rD : List (Bool × Int × Unit) := x.2.2.2.2.2.2.2.2.2.2.2.2.2.2.2.2.2.2.2.2.2.2.2.2.2.2.2.2.2.2.2.2.1
 let nQ : List (List UInt8 × Bool × Unit) := x.2.2.2.2.2.2.2.2.2.2.2.2.2.2.2.2.2.2.2.2.2.2.2.2.2.2.2.2.2.2.2.2.2.1
 ob (strings_Cut n (cZ, [10])) fun y35 =>
 br (c_8 == 100) (
  ob (mP n (iM, uD, N19, kP, kQ, cZ, gQ, nP, kR, fA, kD, kE, mX, mY, kF, kG, rD, nQ, ())) fun y36 =>
  some (y36.1, y36.2.1, y36.2.2.1, y36.2.2.2.1, y36.2.2.2.2.1, y36.2.2.2.2.2.1, y36.2.2.2.2.2.2.1, y36.2.2.2.2.2.2.2.1, y36.2.2.2.2.2.2.2.2.1, y36.2.2.2.2.2.2.2.2.2.1, y36.2.2.2.2.2.2.2.2.2.2.1, y36.2.2.2.2.2.2.2.2.2.2.2.1, y36.2.2.2.2.2.2.2.2.2.2.2.2.1, y36.2.2.2.2.2.2.2.2.2.2.2.2.2.1, y36.2.2.2.2.2.2.2.2.2.2.2.2.2.2.1, y36.2.2.2.2.2.2.2.2.2.2.2.2.2.2.2.1, y36.2.2.2.2.2.2.2.2.2.2.2.2.2.2.2.2.1, y36.2.2.2.2.2.2.2.2.2.2.2.2.2.2.2.2.2.1, ())) (
  br (!y35.2.2) (
   ob (mP n (iM, uD, N19, kP, kQ, cZ, gQ, nP, kR, fA, kD, kE, mX, mY, kF, kG, rD, nQ, ())) fun y37 =>
   some (y37.1, y37.2.1, y37.2.2.1, y37.2.2.2.1, y37.2.2.2.2.1, y37.2.2.2.2.2.1, y37.2.2.2.2.2.2.1, y37.2.2.2.2.2.2.2.1, y37.2.2.2.2.2.2.2.2.1, y37.2.2.2.2.2.2.2.2.2.1, y37.2.2.2.2.2.2.2.2.2.2.1, y37.2.2.2.2.2.2.2.2.2.2.2.1, y37.2.2.2.2.2.2.2.2.2.2.2.2.1, y37.2.2.2.2.2.2.2.2.2.2.2.2.2.1, y37.2.2.2.2.2.2.2.2.2.2.2.2.2.2.1, y37.2.2.2.2.2.2.2.2.2.2.2.2.2.2.2.1, y37.2.2.2.2.2.2.2.2.2.2.2.2.2.2.2.2.1, y37.2.2.2.2.2.2.2.2.2.2.2.2.2.2.2.2.2.1, ())) (
   ob (iI n (iM, uD, N19, kP, kQ, cZ, gQ, nP, kR, fA, kD, kE, mX, mY, kF, kG, rD, nQ, ())) fun y38 =>
   some (y38.1, 0, y38.2.2.1, y38.2.2.2.1, y38.2.2.2.2.1, y35.2.1, y38.2.2.2.2.2.2.1, y38.2.2.2.2.2.2.2.1, y38.2.2.2.2.2.2.2.2.1, y38.2.2.2.2.2.2.2.2.2.1, y38.2.2.2.2.2.2.2.2.2.2.1, y38.2.2.2.2.2.2.2.2.2.2.2.1, y38.2.2.2.2.2.2.2.2.2.2.2.2.1, y38.2.2.2.2.2.2.2.2.2.2.2.2.2.1, y38.2.2.2.2.2.2.2.2.2.2.2.2.2.2.1, y38.2.2.2.2.2.2.2.2.2.2.2.2.2.2.2.1, y38.2.2.2.2.2.2.2.2.2.2.2.2.2.2.2.2.1, y38.2.2.2.2.2.2.2.2.2.2.2.2.2.2.2.2.2.1, ())))
def bR (n : Nat) (x : (Bool × List (List (NdT) × Bool × Unit) × List (((Int × Int × Int × Unit) × (Int × Int × Int × Unit) × Bool × Unit) × Int × List UInt8 × List UInt8 × Int × Int × Int × List (List UInt8 × Int × Unit) × Bool × Bool × Unit) × Unit) × Bool × (Int × Int × Int × Int × Int × List UInt8 × List UInt8 × Bool × Bool × Bool × List (Bool × Int × Unit) × List (List UInt8 × Bool × Unit) × Unit) × List (List UInt8 × List UInt8 × Unit)) : Option ((Int × Int × Int × Int × Int × List UInt8 × List UInt8 × Bool × Bool × Bool × List (Bool × Int × Unit) × List (List UInt8 × Bool × Unit) × Unit) × List (List UInt8 × List UInt8 × Unit) × List (List UInt8 × Bool × Unit)) :=
 let x_0 : Bool × List (List (NdT) × Bool × Unit) × List (((Int × Int × Int × Unit) × (Int × Int × Int × Unit) × Bool × Unit) × Int × List UInt8 × List UInt8 × Int × Int × Int × List (List UInt8 × Int × Unit) × Bool × Bool × Unit) × Unit := x.1
 let sJ : Bool := x.2.1
 let b_2 : Int × Int × Int × Int × Int × List UInt8 × List UInt8 × Bool × Bool × Bool × List (Bool × Int × Unit) × List (List UInt8 × Bool × Unit) × Unit := x.2.2.1
 let t_3 : List (List UInt8 × List UInt8 × Unit) := x.2.2.2
 br (b_2.1 != 1) (
  some (b_2, t_3, [])) (
  br (b_2.2.1 == (x_0.2.2.1.length : Int)) (
   ob (gI n (b_2.1, b_2.2.1, b_2.2.2.1, b_2.2.2.2.1, b_2.2.2.2.2.1, b_2.2.2.2.2.2.1, b_2.2.2.2.2.2.2.1, b_2.2.2.2.2.2.2.2.1, b_2.2.2.2.2.2.2.2.2.1, b_2.2.2.2.2.2.2.2.2.2.1, b_2.2.2.2.2.2.2.2.2.2.2.1, b_2.2.2.2.2.2.2.2.2.2.2.2.1, x_0.1, x_0.2.1, x_0.2.2.1, sJ, t_3, [], ())) fun y1 =>
   ob (iR n (y1.1, y1.2.1, y1.2.2.1, y1.2.2.2.1, y1.2.2.2.2.1, y1.2.2.2.2.2.1, y1.2.2.2.2.2.2.1, y1.2.2.2.2.2.2.2.1, y1.2.2.2.2.2.2.2.2.1, y1.2.2.2.2.2.2.2.2.2.1, y1.2.2.2.2.2.2.2.2.2.2.1, y1.2.2.2.2.2.2.2.2.2.2.2.1, y1.2.2.2.2.2.2.2.2.2.2.2.2.1, y1.2.2.2.2.2.2.2.2.2.2.2.2.2.1, y1.2.2.2.2.2.2.2.2.2.2.2.2.2.2.1, y1.2.2.2.2.2.2.2.2.2.2.2.2.2.2.2.1, y1.2.2.2.2.2.2.2.2.2.2.2.2.2.2.2.2.1, y1.2.2.2.2.2.2.2.2.2.2.2.2.2.2.2.2.2.1, ())) fun y2 =>
   let v3 : List (List UInt8 × List UInt8 × Unit) := y2.2.2.2.2.2.2.2.2.2.2.2.2.2.2.2.2.1
   some ((y2.1, (y2.2.1, (y2.2.2.1, (y2.2.2.2.1, (y2.2.2.2.2.1, (y2.2.2.2.2.2.1, (y2.2.2.2.2.2.2.1, (y2.2.2.2.2.2.2.2.1, (y2.2.2.2.2.2.2.2.2.1, (y2.2.2.2.2.2.2.2.2.2.1, (y2.2.2.2.2.2.2.2.2.2.2.1, (y2.2.2.2.2.2.2.2.2.2.2.2.1, ())))))))))))), v3, y2.2.2.2.2.2.2.2.2.2.2.2.2.2.2.2.2.2.1)) (
   chk (inB b_2.2.1 x_0.2.2.1.length) (
    let v4 : ((Int × Int × Int × Unit) × (Int × Int × Int × Unit) × Bool × Unit) × Int × List UInt8 × List UInt8 × Int × Int × Int × List (List UInt8 × Int × Unit) × Bool × Bool × Unit := bC (Ty.dflt aA) x_0.2.2.1 b_2.2.1
    ob (aO n (v4.1.1.1, v4.1.1.2.1, v4.1.1.2.2.1, v4.1.2.1.1, v4.1.2.1.2.1, v4.1.2.1.2.2.1, v4.1.2.2.1, v4.2.1, v4.2.2.1, v4.2.2.2.1, v4.2.2.2.2.1, v4.2.2.2.2.2.1, v4.2.2.2.2.2.2.1, v4.2.2.2.2.2.2.2.1, v4.2.2.2.2.2.2.2.2.1, v4.2.2.2.2.2.2.2.2.2.1, b_2.1, b_2.2.1, b_2.2.2.1, b_2.2.2.2.1, b_2.2.2.2.2.1, b_2.2.2.2.2.2.1, b_2.2.2.2.2.2.2.1, b_2.2.2.2.2.2.2.2.1, b_2.2.2.2.2.2.2.2.2.1, b_2.2.2.2.2.2.2.2.2.2.1, b_2.2.2.2.2.2.2.2.2.2.2.1, b_2.2.2.2.2.2.2.2.2.2.2.2.1, x_0.1, x_0.2.1, x_0.2.2.1, sJ, t_3, [], ())) fun y5 =>
    let v6 : Int := IntKind.wrap .i64 (y5.2.2.1 + 1)
    br y5.1 (
     chk ((v4.2.1 == 100)) (
      ob (lF n (v4.1.1.1, v4.1.1.2.1, v4.1.1.2.2.1, v4.1.2.1.1, v4.1.2.1.2.1, v4.1.2.1.2.2.1, v4.1.2.2.1, v4.2.1, v4.2.2.1, v4.2.2.2.1, v4.2.2.2.2.1, v4.2.2.2.2.2.1, v4.2.2.2.2.2.2.1, v4.2.2.2.2.2.2.2.1, v4.2.2.2.2.2.2.2.2.1, v4.2.2.2.2.2.2.2.2.2.1, y5.2.1, v6, y5.2.2.2.1, y5.2.2.2.2.1, y5.2.2.2.2.2.1, y5.2.2.2.2.2.2.1, y5.2.2.2.2.2.2.2.1, y5.2.2.2.2.2.2.2.2.1, y5.2.2.2.2.2.2.2.2.2.1, y5.2.2.2.2.2.2.2.2.2.2.1, y5.2.2.2.2.2.2.2.2.2.2.2.1, y5.2.2.2.2.2.2.2.2.2.2.2.2.1, y5.2.2.2.2.2.2.2.2.2.2.2.2.2.1, y5.2.2.2.2.2.2.2.2.2.2.2.2.2.2.1, y5.2.2.2.2.2.2.2.2.2.2.2.2.2.2.2.1, y5.2.2.2.2.2.2.2.2.2.2.2.2.2.2.2.2.1, y5.2.2.2.2.2.2.2.2.2.2.2.2.2.2.2.2.2.2.1, y5.2.2.2.2.2.2.2.2.2.2.2.2.2.2.2.2.2.1, ())) fun y7 =>
      let v8 : List (List UInt8 × List UInt8 × Unit) := y7.2.2.2.2.2.2.2.2.2.2.2.2.2.2.2.1
      some ((y7.1, (y7.2.1, (y7.2.2.1, (y7.2.2.2.1, (y7.2.2.2.2.1, (y7.2.2.2.2.2.1, (y7.2.2.2.2.2.2.1, (y7.2.2.2.2.2.2.2.1, (y7.2.2.2.2.2.2.2.2.1, (y7.2.2.2.2.2.2.2.2.2.1, (y7.2.2.2.2.2.2.2.2.2.2.2.2.2.2.2.2.1, (y7.2.2.2.2.2.2.2.2.2.2.1, ())))))))))))), v8, y7.2.2.2.2.2.2.2.2.2.2.2.2.2.2.2.2.2.1))) (
     br (v4.2.1 == 123) (
      let v9 : Int := IntKind.wrap .i64 (v4.2.2.2.2.2.1 + 1)
      let v10 : List (List UInt8 × List UInt8 × Unit) := y5.2.2.2.2.2.2.2.2.2.2.2.2.2.2.2.2.1
      some ((y5.2.1, (v9, (y5.2.2.2.1, (y5.2.2.2.2.1, (y5.2.2.2.2.2.1, (y5.2.2.2.2.2.2.1, (y5.2.2.2.2.2.2.2.1, (y5.2.2.2.2.2.2.2.2.1, (y5.2.2.2.2.2.2.2.2.2.1, (y5.2.2.2.2.2.2.2.2.2.2.1, (y5.2.2.2.2.2.2.2.2.2.2.2.2.2.2.2.2.2.2.1, (y5.2.2.2.2.2.2.2.2.2.2.2.1, ())))))))))))), v10, y5.2.2.2.2.2.2.2.2.2.2.2.2.2.2.2.2.2.1)) (
      let v11 : List (List UInt8 × List UInt8 × Unit) := y5.2.2.2.2.2.2.2.2.2.2.2.2.2.2.2.2.1
      some ((y5.2.1, (v6, (y5.2.2.2.1, (y5.2.2.2.2.1, (y5.2.2.2.2.2.1, (y5.2.2.2.2.2.2.1, (y5.2.2.2.2.2.2.2.1, (y5.2.2.2.2.2.2.2.2.1, (y5.2.2.2.2.2.2.2.2.2.1, (y5.2.2.2.2.2.2.2.2.2.2.1, (y5.2.2.2.2.2.2.2.2.2.2.2.2.2.2.2.2.2.2.1, (y5.2.2.2.2.2.2.2.2.2.2.2.1, ())))))))))))), v11, y5.2.2.2.2.2.2.2.2.2.2.2.2.2.2.2.2.2.1))))))
def qJ (n : Nat) (x : Int × Int × Int × Int × Int × Int × Bool × Int × List UInt8 × List UInt8 × Int × Int × Int × List (List UInt8 × Int × Unit) × Bool × Bool × Int × Int × Int × Int × Int × List UInt8 × List UInt8 × Bool × Bool × Bool × List (List UInt8 × Bool × Unit) × Bool × List (List (NdT) × Bool × Unit) × List (((Int × Int × Int × Unit) × (Int × Int × Int × Unit) × Bool × Unit) × Int × List UInt8 × List UInt8 × Int × Int × Int × List (List UInt8 × Int × Unit) × Bool × Bool × Unit) × Bool × List (List UInt8 × List UInt8 × Unit) × List (Bool × Int × Unit) × List (List UInt8 × Bool × Unit) × Unit) : Option (Int × Int × Int × Int × Int × List UInt8 × List UInt8 × Bool × Bool × Bool × List (List UInt8 × Bool × Unit) × Bool × List (List (NdT) × Bool × Unit) × List (((Int × Int × Int × Unit) × (Int × Int × Int × Unit) × Bool × Unit) × Int × List UInt8 × List UInt8 × Int × Int × Int × List (List UInt8 × Int × Unit) × Bool × Bool × Unit) × Bool × List (List UInt8 × List UInt8 × Unit) × List (Bool × Int × Unit) × List (List UInt8 × Bool × Unit) × Unit) :=
 let yFt : Int := x.1
 let yFu : Int := x.2.1
 let yFv : Int := x.2.2.1
 let yFw : Int := x.2.2.2.1
 let yFx : Int := x.2.2.2.2.1
 let yFy : Int := x.2.2.2.2.2.1
 let yFz : Bool := x.2.2.2.2.2.2.1
 let yGa : Int := x.2.2.2.2.2.2.2.1
 let yGb : List UInt8 := x.2.2.2.2.2.2.2.2.1
 let yEt : List UInt8 := x.2.2.2.2.2.2.2.2.2.1
 let yEu : Int := x.2.2.2.2.2.2.2.2.2.2.1
 let yEv : Int := x.2.2.2.2.2.2.2.2.2.2.2.1
 let yEw : Int := x.2.2.2.2.2.2.2.2.2.2.2.2.1
 let yEx : List (List UInt8 × Int × Unit) := x.2.2.2.2.2.2.2.2.2.2.2.2.2.1
 let yEy : Bool := x.2.2.2.2.2.2.2.2.2.2.2.2.2.2.1
 let yEz : Bool := x.2.2.2.2.2.2.2.2.2.2.2.2.2.2.2.1
 let iM : Int := x.2.2.2.2.2.2.2.2.2.2.2.2.2.2.2.2.1
 let uD : Int := x.2.2.2.2.2.2.2.2.2.2.2.2.2.2.2.2.2.1
 let N19 : Int := x.2.2.2.2.2.2.2.2.2.2.2.2.2.2.2.2.2.2.1
 let kP : Int := x.2.2.2.2.2.2.2.2.2.2.2.2.2.2.2.2.2.2.2.1
 let kQ : Int := x.2.2.2.2.2.2.2.2.2.2.2.2.2.2.2.2.2.2.2.2.1
 let cZ : List UInt8 := x.2.2.2.2.2.2.2.2.2.2.2.2.2.2.2.2.2.2.2.2.2.1
 let gQ : List UInt8 := x.2.2.2.2.2.2.2.2.2.2.2.2.2.2.2.2.2.2.2.2.2.2.1
 let nP : Bool := x.2.2.2.2.2.2.2.2.2.2.2.2.2.2.2.2.2.2.2.2.2.2.2.1
 let kR : Bool := x.2.2.2.2.2.2.2.2.2.2.2.2.2.2.2.2.2.2.2.2.2.2.2.2.1
 let fA : Bool := x.2.2.2.2.2.2.2.2.2.2.2.2.2.2.2.2.2.2.2.2.2.2.2.2.2.1
 let kD : List (List UInt8 × Bool × Unit) := x.2.2.2.2.2.2.2.2.2.2.2.2.2.2.2.2.2.2.2.2.2.2.2.2.2.2.1
 let kE : Bool := x.2.2.2.2.2.2.2.2.2.2.2.2.2.2.2.2.2.2.2.2.2.2.2.2.2.2.2.1
 let mX : List (List (NdT) × Bool × Unit) := x.2.2.2.2.2.2.2.2.2.2.2.2.2.2.2.2.2.2.2.2.2.2.2.2.2.2.2.2.1
 let mY : List (((Int × Int × Int × Unit) × (Int × Int × Int × Unit) × Bool × Unit) × Int × List UInt8 × List UInt8 × Int × Int × Int × List (List UInt8 × Int × Unit) × Bool × Bool × Unit) := x.2.2.2.2.2.2.2.2.2.2.2.2.2.2.2.2.2.2.2.2.2.2.2.2.2.2.2.2.2.1
 let kF : Bool := x.2.2.2.2.2.2.2.2.2.2.2.2.2.2.2.2.2.2.2.2.2.2.2.2.2.2.2.2.2.2.1
 let kG : List (List UInt8 × List UInt8 × Unit) := x.2.2.2.2.2.2.2.2.2.2.2.2.2.2.2.2.2.2.2.2.2.2.2.2.2.2.2.2.2.2.2.1
 let rD : List (Bool × Int × Unit) := x.2.2.2.2.2.2.2.2.2.2.2.2.2.2.2.2.2.2.2.2.2.2.2.2.2.2.2.2.2.2.2.2.1
 let nQ : List (List UInt8 × Bool × Unit) := x.2.2.2.2.2.2.2.2.2.2.2.2.2.2.2.2.2.2.2.2.2.2.2.2.2.2.2.2.2.2.2.2.2.1
 some (iM, uD, N19, kP, kQ, cZ, gQ, nP, kR, fA, kD, kE, mX, mY, kF, kG, rD, nQ, ())
def bH (n : Nat) (x : (Bool × List (List (NdT) × Bool × Unit) × List (((Int × Int × Int × Unit) × (Int × Int × Int × Unit) × Bool × Unit) × Int × List UInt8 × List UInt8 × Int × Int × Int × List (List UInt8 × Int × Unit) × Bool × Bool × Unit) × Unit) × Bool × (Int × Int × Int × Int × Int × List UInt8 × List UInt8 × Bool × Bool × Bool × List (Bool × Int × Unit) × List (List UInt8 × Bool × Unit) × Unit) × List (List UInt8 × List UInt8 × Unit)) : Option ((Int × Int × Int × Int × Int × List UInt8 × List UInt8 × Bool × Bool × Bool × List (Bool × Int × Unit) × List (List UInt8 × Bool × Unit) × Unit) × List (List UInt8 × List UInt8 × Unit) × List (List UInt8 × Bool × Unit)) :=
 let x_0 : Bool × List (List (NdT) × Bool × Unit) × List (((Int × Int × Int × Unit) × (Int × Int × Int × Unit) × Bool × Unit) × Int × List UInt8 × List UInt8 × Int × Int × Int × List (List UInt8 × Int × Unit) × Bool × Bool × Unit) × Unit := x.1
 let sJ : Bool := x.2.1
 let b_2 : Int × Int × Int × Int × Int × List UInt8 × List UInt8 × Bool × Bool × Bool × List (Bool × Int × Unit) × List (List UInt8 × Bool × Unit) × Unit := x.2.2.1
 let t_3 : List (List UInt8 × List UInt8 × Unit) := x.2.2.2
 br (b_2.1 != 1) (
  some (b_2, t_3, [])) (
  br (b_2.2.1 == (x_0.2.2.1.length : Int)) (
   ob (gI n (b_2.1, b_2.2.1, b_2.2.2.1, b_2.2.2.2.1, b_2.2.2.2.2.1, b_2.2.2.2.2.2.1, b_2.2.2.2.2.2.2.1, b_2.2.2.2.2.2.2.2.1, b_2.2.2.2.2.2.2.2.2.1, b_2.2.2.2.2.2.2.2.2.2.1, b_2.2.2.2.2.2.2.2.2.2.2.1, b_2.2.2.2.2.2.2.2.2.2.2.2.1, x_0.1, x_0.2.1, x_0.2.2.1, sJ, t_3, [], ())) fun y1 =>
   ob (iR n (y1.1, y1.2.1, y1.2.2.1, y1.2.2.2.1, y1.2.2.2.2.1, y1.2.2.2.2.2.1, y1.2.2.2.2.2.2.1, y1.2.2.2.2.2.2.2.1, y1.2.2.2.2.2.2.2.2.1, y1.2.2.2.2.2.2.2.2.2.1, y1.2.2.2.2.2.2.2.2.2.2.1, y1.2.2.2.2.2.2.2.2.2.2.2.1, y1.2.2.2.2.2.2.2.2.2.2.2.2.1, y1.2.2.2.2.2.2.2.2.2.2.2.2.2.1, y1.2.2.2.2.2.2.2.2.2.2.2.2.2.2.1, y1.2.2.2.2.2.2.2.2.2.2.2.2.2.2.2.1, y1.2.2.2.2.2.2.2.2.2.2.2.2.2.2.2.2.1, y1.2.2.2.2.2.2.2.2.2.2.2.2.2.2.2.2.2.1, ())) fun y2 =>
   let v3 : List (List UInt8 × List UInt8 × Unit) := y2.2.2.2.2.2.2.2.2.2.2.2.2.2.2.2.2.1
   some ((y2.1, (y2.2.1, (y2.2.2.1, (y2.2.2.2.1, (y2.2.2.2.2.1, (y2.2.2.2.2.2.1, (y2.2.2.2.2.2.2.1, (y2.2.2.2.2.2.2.2.1, (y2.2.2.2.2.2.2.2.2.1, (y2.2.2.2.2.2.2.2.2.2.1, (y2.2.2.2.2.2.2.2.2.2.2.1, (y2.2.2.2.2.2.2.2.2.2.2.2.1, ())))))))))))), v3, y2.2.2.2.2.2.2.2.2.2.2.2.2.2.2.2.2.2.1)) (
   chk (inB b_2.2.1 x_0.2.2.1.length) (
    let v4 : ((Int × Int × Int × Unit) × (Int × Int × Int × Unit) × Bool × Unit) × Int × List UInt8 × List UInt8 × Int × Int × Int × List (List UInt8 × Int × Unit) × Bool × Bool × Unit := bC (Ty.dflt aA) x_0.2.2.1 b_2.2.1
    ob (aO n (v4.1.1.1, v4.1.1.2.1, v4.1.1.2.2.1, v4.1.2.1.1, v4.1.2.1.2.1, v4.1.2.1.2.2.1, v4.1.2.2.1, v4.2.1, v4.2.2.1, v4.2.2.2.1, v4.2.2.2.2.1, v4.2.2.2.2.2.1, v4.2.2.2.2.2.2.1, v4.2.2.2.2.2.2.2.1, v4.2.2.2.2.2.2.2.2.1, v4.2.2.2.2.2.2.2.2.2.1, b_2.1, b_2.2.1, b_2.2.2.1, b_2.2.2.2.1, b_2.2.2.2.2.1, b_2.2.2.2.2.2.1, b_2.2.2.2.2.2.2.1, b_2.2.2.2.2.2.2.2.1, b_2.2.2.2.2.2.2.2.2.1, b_2.2.2.2.2.2.2.2.2.2.1, b_2.2.2.2.2.2.2.2.2.2.2.1, b_2.2.2.2.2.2.2.2.2.2.2.2.1, x_0.1, x_0.2.1, x_0.2.2.1, sJ, t_3, [], ())) fun y5 =>
    let v6 : Int := IntKind.wrap .i64 (y5.2.2.1 + 1)
    br y5.1 (
     chk ((v4.2.1 == 123)) (
      ob (qJ n (v4.1.1.1, v4.1.1.2.1, v4.1.1.2.2.1, v4.1.2.1.1, v4.1.2.1.2.1, v4.1.2.1.2.2.1, v4.1.2.2.1, v4.2.1, v4.2.2.1, v4.2.2.2.1, v4.2.2.2.2.1, v4.2.2.2.2.2.1, v4.2.2.2.2.2.2.1, v4.2.2.2.2.2.2.2.1, v4.2.2.2.2.2.2.2.2.1, v4.2.2.2.2.2.2.2.2.2.1, y5.2.1, v6, y5.2.2.2.1, y5.2.2.2.2.1, y5.2.2.2.2.2.1, y5.2.2.2.2.2.2.1, y5.2.2.2.2.2.2.2.1, y5.2.2.2.2.2.2.2.2.1, y5.2.2.2.2.2.2.2.2.2.1, y5.2.2.2.2.2.2.2.2.2.2.1, y5.2.2.2.2.2.2.2.2.2.2.2.1, y5.2.2.2.2.2.2.2.2.2.2.2.2.1, y5.2.2.2.2.2.2.2.2.2.2.2.2.2.1, y5.2.2.2.2.2.2.2.2.2.2.2.2.2.2.1, y5.2.2.2.2.2.2.2.2.2.2.2.2.2.2.2.1, y5.2.2.2.2.2.2.2.2.2.2.2.2.2.2.2.2.1, y5.2.2.2.2.2.2.2.2.2.2.2.2.2.2.2.2.2.2.1, y5.2.2.2.2.2.2.2.2.2.2.2.2.2.2.2.2.2.1, ())) fun y7 =>
      let v8 : List (List UInt8 × List UInt8 × Unit) := y7.2.2.2.2.2.2.2.2.2.2.2.2.2.2.2.1
      some ((y7.1, (y7.2.1, (y7.2.2.1, (y7.2.2.2.1, (y7.2.2.2.2.1, (y7.2.2.2.2.2.1, (y7.2.2.2.2.2.2.1, (y7.2.2.2.2.2.2.2.1, (y7.2.2.2.2.2.2.2.2.1, (y7.2.2.2.2.2.2.2.2.2.1, (y7.2.2.2.2.2.2.2.2.2.2.2.2.2.2.2.2.1, (y7.2.2.2.2.2.2.2.2.2.2.1, ())))))))))))), v8, y7.2.2.2.2.2.2.2.2.2.2.2.2.2.2.2.2.2.1))) (
     br (v4.2.1 == 123) (
      let v9 : Int := IntKind.wrap .i64 (v4.2.2.2.2.2.1 + 1)
      let v10 : List (List UInt8 × List UInt8 × Unit) := y5.2.2.2.2.2.2.2.2.2.2.2.2.2.2.2.2.1
      some ((y5.2.1, (v9, (y5.2.2.2.1, (y5.2.2.2.2.1, (y5.2.2.2.2.2.1, (y5.2.2.2.2.2.2.1, (y5.2.2.2.2.2.2.2.1, (y5.2.2.2.2.2.2.2.2.1, (y5.2.2.2.2.2.2.2.2.2.1, (y5.2.2.2.2.2.2.2.2.2.2.1, (y5.2.2.2.2.2.2.2.2.2.2.2.2.2.2.2.2.2.2.1, (y5.2.2.2.2.2.2.2.2.2.2.2.1, ())))))))))))), v10, y5.2.2.2.2.2.2.2.2.2.2.2.2.2.2.2.2.2.1)) (
      let v11 : List (List UInt8 × List UInt8 × Unit) := y5.2.2.2.2.2.2.2.2.2.2.2.2.2.2.2.2.1
      some ((y5.2.1, (v6, (y5.2.2.2.1, (y5.2.2.2.2.1, (y5.2.2.2.2.2.1, (y5.2.2.2.2.2.2.1, (y5.2.2.2.2.2.2.2.1, (y5.2.2.2.2.2.2.2.2.1, (y5.2.2.2.2.2.2.2.2.2.1, (y5.2.2.2.2.2.2.2.2.2.2.1, (y5.2.2.2.2.2.2.2.2.2.2.2.2.2.2.2.2.2.2.1, (y5.2.2.2.2.2.2.2.2.2.2.2.1, ())))))))))))), v11, y5.2.2.2.2.2.2.2.2.2.2.2.2.2.2.2.2.2.1))))))
def kS (n : Nat) (x : Int × Int × Int × Int × Int × Int × Bool × Int × List UInt8 × List UInt8 × Int × Int × Int × List (List UInt8 × Int × Unit) × Bool × Bool × Int × Int × Int × Int × Int × List UInt8 × List UInt8 × Bool × Bool × Bool × List (List UInt8 × Bool × Unit) × Bool × List (List (NdT) × Bool × Unit) × List (((Int × Int × Int × Unit) × (Int × Int × Int × Unit) × Bool × Unit) × Int × List UInt8 × List UInt8 × Int × Int × Int × List (List UInt8 × Int × Unit) × Bool × Bool × Unit) × Bool × List (List UInt8 × List UInt8 × Unit) × List (Bool × Int × Unit) × List (List UInt8 × Bool × Unit) × Unit) : Option (Int × Int × Int × Int × Int × List UInt8 × List UInt8 × Bool × Bool × Bool × List (List UInt8 × Bool × Unit) × Bool × List (List (NdT) × Bool × Unit) × List (((Int × Int × Int × Unit) × (Int × Int × Int × Unit) × Bool × Unit) × Int × List UInt8 × List UInt8 × Int × Int × Int × List (List UInt8 × Int × Unit) × Bool × Bool × Unit) × Bool × List (List UInt8 × List UInt8 × Unit) × List (Bool × Int × Unit) × List (List UInt8 × Bool × Unit) × Unit) :=
 let c_1 : Int := x.1
 let c_2 : Int := x.2.1
 let c_3 : Int := x.2.2.1
 let c_4 : Int := x.2.2.2.1
 let c_5 : Int := x.2.2.2.2.1
 let c_6 : Int := x.2.2.2.2.2.1
 let c_7 : Bool := x.2.2.2.2.2.2.1
 let c_8 : Int := x.2.2.2.2.2.2.2.1
 let c_9 : List UInt8 := x.2.2.2.2.2.2.2.2.1
 let Uc : List UInt8 := x.2.2.2.2.2.2.2.2.2.1
 let zOu : Int := x.2.2.2.2.2.2.2.2.2.2.1
 let zOv : Int := x.2.2.2.2.2.2.2.2.2.2.2.1
 let zOw : Int := x.2.2.2.2.2.2.2.2.2.2.2.2.1
 let zOx : List (List UInt8 × Int × Unit) := x.2.2.2.2.2.2.2.2.2.2.2.2.2.1
 let zOy : Bool := x.2.2.2.2.2.2.2.2.2.2.2.2.2.2.1
 let zOz : Bool := x.2.2.2.2.2.2.2.2.2.2.2.2.2.2.2.1
 let iM : Int := x.2.2.2.2.2.2.2.2.2.2.2.2.2.2.2.2.1
 let uD : Int := x.2.2.2.2.2.2.2.2.2.2.2.2.2.2.2.2.2.1
 let N19 : Int := x.2.2.2.2.2.2.2.2.2.2.2.2.2.2.2.2.2.2.1
 let kP : Int := x.2.2.2.2.2.2.2.2.2.2.2.2.2.2.2.2.2.2.2.1
 let kQ : Int := x.2.2.2.2.2.2.2.2.2.2.2.2.2.2.2.2.2.2.2.2.1
 let cZ : List UInt8 := x.2.2.2.2.2.2.2.2.2.2.2.2.2.2.2.2.2.2.2.2.2.1
 let gQ : List UInt8 := x.2.2.2.2.2.2.2.2.2.2.2.2.2.2.2.2.2.2.2.2.2.2.1
 let nP : Bool := x.2.2.2.2.2.2.2.2.2.2.2.2.2.2.2.2.2.2.2.2.2.2.2.1
 let kR : Bool := x.2.2.2.2.2.2.2.2.2.2.2.2.2.2.2.2.2.2.2.2.2.2.2.2.1
 let fA : Bool := x.2.2.2.2.2.2.2.2.2.2.2.2.2.2.2.2.2.2.2.2.2.2.2.2.2.1
 let kD : List (List UInt8 × Bool × Unit) := x.2.2.2.2.2.2.2.2.2.2.2.2.2.2.2.2.2.2.2.2.2.2.2.2.2.2.1
 let kE : Bool := x.2.2.2.2.2.2.2.2.2.2.2.2.2.2.2.2.2.2.2.2.2.2.2.2.2.2.2.1
 let mX : List (List (NdT) × Bool × Unit) := x.2.2.2.2.2.2.2.2.2.2.2.2.2.2.2.2.2.2.2.2.2.2.2.2.2.2.2.2.1
 let mY : List (((Int × Int × Int × Unit) × (Int × Int × Int × Unit) × Bool × Unit) × Int × List UInt8 × List UInt8 × Int × Int × Int × List (List UInt8 × Int × Unit) × Bool × Bool × Unit) := x.2.2.2.2.2.2.2.2.2.2.2.2.2.2.2.2.2.2.2.2.2.2.2.2.2.2.2.2.2.1
 let kF : Bool := x.2.2.2.2.2.2.2.2.2.2.2.2.2.2.2.2.2.2.2.2.2.2.2.2.2.2.2.2.2.2.1
 let kG : List (List UInt8 × List UInt8 × Unit) := x.2.2.2.2.2.2.2.2.2.2.2.2.2.2.2.2.2.2.2.2.2.2.2.2.2.2.2.2.2.2.2.1
 let rD : List (Bool × Int × Unit) := x.2.2.2.2.2.2.2.2.2.2.2.2.2.2.2.2.2.2.2.2.2.2.2.2.2.2.2.2.2.2.2.2.1
 let nQ : List (List UInt8 × Bool × Unit) := x.2.2.2.2.2.2.2.2.2.2.2.2.2.2.2.2.2.2.2.2.2.2.2.2.2.2.2.2.2.2.2.2.2.1
 br (c_8 == 103) (
  some (iM, uD, N19, kP, kQ, gQ, gQ, nP, kR, fA, kD, kE, mX, mY, kF, kG, rD, nQ, ())) (
  br (c_8 == 71) (
   chk (decide ([10].length + gQ.length <= eH)) (
    chk (decide (cZ.length + ([10] ++ gQ : List UInt8).length <= eH)) (
     let v35 : List UInt8 := cZ ++ ([10] ++ gQ)
     some (iM, uD, N19, kP, kQ, v35, gQ, nP, kR, fA, kD, kE, mX, mY, kF, kG, rD, nQ, ())))) (
   br (c_8 == 104) (
    some (iM, uD, N19, kP, kQ, cZ, cZ, nP, kR, fA, kD, kE, mX, mY, kF, kG, rD, nQ, ())) (
    br (c_8 == 72) (
     chk (decide ([10].length + cZ.length <= eH)) (
      chk (decide (gQ.length + ([10] ++ cZ : List UInt8).length <= eH)) (
       let v36 : List UInt8 := gQ ++ ([10] ++ cZ)
       some (iM, uD, N19, kP, kQ, cZ, v36, nP, kR, fA, kD, kE, mX, mY, kF, kG, rD, nQ, ())))) (
     br (c_8 == 120) (
      some (iM, uD, N19, kP, kQ, gQ, cZ, nP, kR, fA, kD, kE, mX, mY, kF, kG, rD, nQ, ())) (
      some (iM, uD, N19, kP, kQ, cZ, gQ, nP, kR, fA, kD, kE, mX, mY, kF, kG, rD, nQ, ()))))))
def aN (b : Int) (n : Nat) (x : (Bool × List (List (NdT) × Bool × Unit) × List (((Int × Int × Int × Unit) × (Int × Int × Int × Unit) × Bool × Unit) × Int × List UInt8 × List UInt8 × Int × Int × Int × List (List UInt8 × Int × Unit) × Bool × Bool × Unit) × Unit) × Bool × (Int × Int × Int × Int × Int × List UInt8 × List UInt8 × Bool × Bool × Bool × List (Bool × Int × Unit) × List (List UInt8 × Bool × Unit) × Unit) × List (List UInt8 × List UInt8 × Unit)) : Option ((Int × Int × Int × Int × Int × List UInt8 × List UInt8 × Bool × Bool × Bool × List (Bool × Int × Unit) × List (List UInt8 × Bool × Unit) × Unit) × List (List UInt8 × List UInt8 × Unit) × List (List UInt8 × Bool × Unit)) :=
 let x_0 : Bool × List (List (NdT) × Bool × Unit) × List (((Int × Int × Int × Unit) × (Int × Int × Int × Unit) × Bool × Unit) × Int × List UInt8 × List UInt8 × Int × Int × Int × List (List UInt8 × Int × Unit) × Bool × Bool × Unit) × Unit := x.1
 let sJ : Bool := x.2.1
 let b_2 : Int × Int × Int × Int × Int × List UInt8 × List UInt8 × Bool × Bool × Bool × List (Bool × Int × Unit) × List (List UInt8 × Bool × Unit) × Unit := x.2.2.1
 let t_3 : List (List UInt8 × List UInt8 × Unit) := x.2.2.2
 br (b_2.1 != 1) (
  some (b_2, t_3, [])) (
  br (b_2.2.1 == (x_0.2.2.1.length : Int)) (
   ob (gI n (b_2.1, b_2.2.1, b_2.2.2.1, b_2.2.2.2.1, b_2.2.2.2.2.1, b_2.2.2.2.2.2.1, b_2.2.2.2.2.2.2.1, b_2.2.2.2.2.2.2.2.1, b_2.2.2.2.2.2.2.2.2.1, b_2.2.2.2.2.2.2.2.2.2.1, b_2.2.2.2.2.2.2.2.2.2.2.1, b_2.2.2.2.2.2.2.2.2.2.2.2.1, x_0.1, x_0.2.1, x_0.2.2.1, sJ, t_3, [], ())) fun y1 =>
   ob (iR n (y1.1, y1.2.1, y1.2.2.1, y1.2.2.2.1, y1.2.2.2.2.1, y1.2.2.2.2.2.1, y1.2.2.2.2.2.2.1, y1.2.2.2.2.2.2.2.1, y1.2.2.2.2.2.2.2.2.1, y1.2.2.2.2.2.2.2.2.2.1, y1.2.2.2.2.2.2.2.2.2.2.1, y1.2.2.2.2.2.2.2.2.2.2.2.1, y1.2.2.2.2.2.2.2.2.2.2.2.2.1, y1.2.2.2.2.2.2.2.2.2.2.2.2.2.1, y1.2.2.2.2.2.2.2.2.2.2.2.2.2.2.1, y1.2.2.2.2.2.2.2.2.2.2.2.2.2.2.2.1, y1.2.2.2.2.2.2.2.2.2.2.2.2.2.2.2.2.1, y1.2.2.2.2.2.2.2.2.2.2.2.2.2.2.2.2.2.1, ())) fun y2 =>
   let v3 : List (List UInt8 × List UInt8 × Unit) := y2.2.2.2.2.2.2.2.2.2.2.2.2.2.2.2.2.1
   some ((y2.1, (y2.2.1, (y2.2.2.1, (y2.2.2.2.1, (y2.2.2.2.2.1, (y2.2.2.2.2.2.1, (y2.2.2.2.2.2.2.1, (y2.2.2.2.2.2.2.2.1, (y2.2.2.2.2.2.2.2.2.1, (y2.2.2.2.2.2.2.2.2.2.1, (y2.2.2.2.2.2.2.2.2.2.2.1, (y2.2.2.2.2.2.2.2.2.2.2.2.1, ())))))))))))), v3, y2.2.2.2.2.2.2.2.2.2.2.2.2.2.2.2.2.2.1)) (
   chk (inB b_2.2.1 x_0.2.2.1.length) (
    let v4 : ((Int × Int × Int × Unit) × (Int × Int × Int × Unit) × Bool × Unit) × Int × List UInt8 × List UInt8 × Int × Int × Int × List (List UInt8 × Int × Unit) × Bool × Bool × Unit := bC (Ty.dflt aA) x_0.2.2.1 b_2.2.1
    ob (aO n (v4.1.1.1, v4.1.1.2.1, v4.1.1.2.2.1, v4.1.2.1.1, v4.1.2.1.2.1, v4.1.2.1.2.2.1, v4.1.2.2.1, v4.2.1, v4.2.2.1, v4.2.2.2.1, v4.2.2.2.2.1, v4.2.2.2.2.2.1, v4.2.2.2.2.2.2.1, v4.2.2.2.2.2.2.2.1, v4.2.2.2.2.2.2.2.2.1, v4.2.2.2.2.2.2.2.2.2.1, b_2.1, b_2.2.1, b_2.2.2.1, b_2.2.2.2.1, b_2.2.2.2.2.1, b_2.2.2.2.2.2.1, b_2.2.2.2.2.2.2.1, b_2.2.2.2.2.2.2.2.1, b_2.2.2.2.2.2.2.2.2.1, b_2.2.2.2.2.2.2.2.2.2.1, b_2.2.2.2.2.2.2.2.2.2.2.1, b_2.2.2.2.2.2.2.2.2.2.2.2.1, x_0.1, x_0.2.1, x_0.2.2.1, sJ, t_3, [], ())) fun y5 =>
    let v6 : Int := IntKind.wrap .i64 (y5.2.2.1 + 1)
    br y5.1 (
     chk ((v4.2.1 == b)) (
      ob (kS n (v4.1.1.1, v4.1.1.2.1, v4.1.1.2.2.1, v4.1.2.1.1, v4.1.2.1.2.1, v4.1.2.1.2.2.1, v4.1.2.2.1, v4.2.1, v4.2.2.1, v4.2.2.2.1, v4.2.2.2.2.1, v4.2.2.2.2.2.1, v4.2.2.2.2.2.2.1, v4.2.2.2.2.2.2.2.1, v4.2.2.2.2.2.2.2.2.1, v4.2.2.2.2.2.2.2.2.2.1, y5.2.1, v6, y5.2.2.2.1, y5.2.2.2.2.1, y5.2.2.2.2.2.1, y5.2.2.2.2.2.2.1, y5.2.2.2.2.2.2.2.1, y5.2.2.2.2.2.2.2.2.1, y5.2.2.2.2.2.2.2.2.2.1, y5.2.2.2.2.2.2.2.2.2.2.1, y5.2.2.2.2.2.2.2.2.2.2.2.1, y5.2.2.2.2.2.2.2.2.2.2.2.2.1, y5.2.2.2.2.2.2.2.2.2.2.2.2.2.1, y5.2.2.2.2.2.2.2.2.2.2.2.2.2.2.1, y5.2.2.2.2.2.2.2.2.2.2.2.2.2.2.2.1, y5.2.2.2.2.2.2.2.2.2.2.2.2.2.2.2.2.1, y5.2.2.2.2.2.2.2.2.2.2.2.2.2.2.2.2.2.2.1, y5.2.2.2.2.2.2.2.2.2.2.2.2.2.2.2.2.2.1, ())) fun y7 =>
      let v8 : List (List UInt8 × List UInt8 × Unit) := y7.2.2.2.2.2.2.2.2.2.2.2.2.2.2.2.1
      some ((y7.1, (y7.2.1, (y7.2.2.1, (y7.2.2.2.1, (y7.2.2.2.2.1, (y7.2.2.2.2.2.1, (y7.2.2.2.2.2.2.1, (y7.2.2.2.2.2.2.2.1, (y7.2.2.2.2.2.2.2.2.1, (y7.2.2.2.2.2.2.2.2.2.1, (y7.2.2.2.2.2.2.2.2.2.2.2.2.2.2.2.2.1, (y7.2.2.2.2.2.2.2.2.2.2.1, ())))))))))))), v8, y7.2.2.2.2.2.2.2.2.2.2.2.2.2.2.2.2.2.1))) (
     br (v4.2.1 == 123) (
      let v9 : Int := IntKind.wrap .i64 (v4.2.2.2.2.2.1 + 1)
      let v10 : List (List UInt8 × List UInt8 × Unit) := y5.2.2.2.2.2.2.2.2.2.2.2.2.2.2.2.2.1
      some ((y5.2.1, (v9, (y5.2.2.2.1, (y5.2.2.2.2.1, (y5.2.2.2.2.2.1, (y5.2.2.2.2.2.2.1, (y5.2.2.2.2.2.2.2.1, (y5.2.2.2.2.2.2.2.2.1, (y5.2.2.2.2.2.2.2.2.2.1, (y5.2.2.2.2.2.2.2.2.2.2.1, (y5.2.2.2.2.2.2.2.2.2.2.2.2.2.2.2.2.2.2.1, (y5.2.2.2.2.2.2.2.2.2.2.2.1, ())))))))))))), v10, y5.2.2.2.2.2.2.2.2.2.2.2.2.2.2.2.2.2.1)) (
      let v11 : List (List UInt8 × List UInt8 × Unit) := y5.2.2.2.2.2.2.2.2.2.2.2.2.2.2.2.2.1
      some ((y5.2.1, (v6, (y5.2.2.2.1, (y5.2.2.2.2.1, (y5.2.2.2.2.2.1, (y5.2.2.2.2.2.2.1, (y5.2.2.2.2.2.2.2.1, (y5.2.2.2.2.2.2.2.2.1, (y5.2.2.2.2.2.2.2.2.2.1, (y5.2.2.2.2.2.2.2.2.2.2.1, (y5.2.2.2.2.2.2.2.2.2.2.2.2.2.2.2.2.2.2.1, (y5.2.2.2.2.2.2.2.2.2.2.2.1, ())))))))))))), v11, y5.2.2.2.2.2.2.2.2.2.2.2.2.2.2.2.2.2.1))))))
def dX (n:Nat):=orF (bH n) (orF (bR n) (orF (aN 104 n) (orF (aN 120 n) (orF (aN 103 n) (orF (aN 72 n) (aN 71 n))))))
end
end Go.Dec
