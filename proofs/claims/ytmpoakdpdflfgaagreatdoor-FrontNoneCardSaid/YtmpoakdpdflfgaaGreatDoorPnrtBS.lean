/- Part of a proof over this seat: a library of my own, and what it says of this seat. No statement is proved here. -/
import Derived.Test.YtmpoakdpdflfgaaGreatDoorPnrtAJ
import Derived.Test.YtmpoakdpdflfgaaGreatDoorPnrtBR
import Derived.Test.YtmpoakdpdflfgaaGreatDoorPnrtBN
namespace Go.Dec
set_option linter.unusedVariables false
abbrev yO:Ty:=.pair (.int .i64) (.pair (.arr 4 (.int .u64)) (.pair (.int .i64) (.pair (.int .i64) (.pair (.int .i64) (.pair (.int .i64) (.pair (.int .i64) .unit))))))
abbrev bT:Ty:=.pair (.slice yO) (.pair .bool .unit)
abbrev Tc:Ty:=.pair (.int .i64) (.pair (.int .i64) (.pair (.int .i64) .unit))
abbrev Cn:Ty:=.pair Tc (.pair Tc (.pair .bool .unit))
abbrev zLn:Ty:=.pair .str (.pair (.int .i64) .unit)
abbrev aN:Ty:=.pair Cn (.pair (.int .u8) (.pair .str (.pair .str (.pair (.int .i64) (.pair (.int .i64) (.pair (.int .i64) (.pair (.slice zLn) (.pair .bool (.pair .bool .unit)))))))))
abbrev Au:Ty:=.pair .bool (.pair (.slice bT) (.pair (.slice aN) .unit))
abbrev aH:Ty:=.pair Au (.pair .bool (.pair (.slice .str) (.pair .bool .unit)))
abbrev bL:Ty:=.pair .str (.pair .bool .unit)
abbrev aU:Ty:=.pair .str (.pair .str .unit)
abbrev Td:Ty:=.pair (.slice bL) (.pair (.slice aU) (.pair (.int .i64) (.pair (.int .i64) .unit)))
abbrev kD:Ty:=.pair .str (.pair (.slice aU) (.pair (.slice (.int .i64)) (.pair (.int .i64) (.pair (.int .i64) .unit))))
abbrev zLo:Ty:=.pair .bool (.pair (.int .i64) .unit)
abbrev aF:Ty:=.pair (.int .i64) (.pair (.int .i64) (.pair (.int .i64) (.pair (.int .i64) (.pair (.int .i64) (.pair .str (.pair .str (.pair .bool (.pair .bool (.pair .bool (.pair (.slice zLo) (.pair (.slice bL) .unit)))))))))))
abbrev eD:Ty:=.pair .str (.pair .bool (.pair .bool .unit))
abbrev mJ:Ty:=.pair (.slice aH) (.pair (.slice .bool) (.pair .bool (.pair (.slice aF) (.pair (.slice .bool) (.pair (.slice (.slice bL)) (.pair (.slice eD) (.pair (.slice bL) (.pair (.slice aU) (.pair (.slice (.int .i64)) Tc)))))))))
abbrev NdT:Type:=Int × List (Int) × Int × Int × Int × Int × Int × Unit
def vS (n : Nat) (g0 : List (List UInt8 × List UInt8 × Unit) × List (List (List UInt8)) × Int × Int × List ((Bool × List (List (NdT) × Bool × Unit) × List (((Int × Int × Int × Unit) × (Int × Int × Int × Unit) × Bool × Unit) × Int × List UInt8 × List UInt8 × Int × Int × Int × List (List UInt8 × Int × Unit) × Bool × Bool × Unit) × Unit) × Bool × List (List UInt8) × Bool × Unit) × Unit -> Option (List ((Bool × List (List (NdT) × Bool × Unit) × List (((Int × Int × Int × Unit) × (Int × Int × Int × Unit) × Bool × Unit) × Int × List UInt8 × List UInt8 × Int × Int × Int × List (List UInt8 × Int × Unit) × Bool × Bool × Unit) × Unit) × Bool × List (List UInt8) × Bool × Unit) × Int × Int)) (x2 : List (List UInt8 × List UInt8 × Unit) × List (List (List UInt8)) × Int × Int × List ((Bool × List (List (NdT) × Bool × Unit) × List (((Int × Int × Int × Unit) × (Int × Int × Int × Unit) × Bool × Unit) × Int × List UInt8 × List UInt8 × Int × Int × Int × List (List UInt8 × Int × Unit) × Bool × Bool × Unit) × Unit) × Bool × List (List UInt8) × Bool × Unit) × Unit) : Option (List ((Bool × List (List (NdT) × Bool × Unit) × List (((Int × Int × Int × Unit) × (Int × Int × Int × Unit) × Bool × Unit) × Int × List UInt8 × List UInt8 × Int × Int × Int × List (List UInt8 × Int × Unit) × Bool × Bool × Unit) × Unit) × Bool × List (List UInt8) × Bool × Unit) × Int × Int) :=
 let t_3 : List (List UInt8 × List UInt8 × Unit) := x2.1
 let zLp : List (List (List UInt8)) := x2.2.1
 let zSr : Int := x2.2.2.1
 let zAd : Int := x2.2.2.2.1
 let pY : List ((Bool × List (List (NdT) × Bool × Unit) × List (((Int × Int × Int × Unit) × (Int × Int × Int × Unit) × Bool × Unit) × Int × List UInt8 × List UInt8 × Int × Int × Int × List (List UInt8 × Int × Unit) × Bool × Bool × Unit) × Unit) × Bool × List (List UInt8) × Bool × Unit) := x2.2.2.2.2.1
 br (decide (zAd < zSr)) (
  chk (inB zAd zLp.length) (
   let v8 : List (List UInt8) := bD (Ty.dflt (.slice .str)) zLp zAd
   ob (rH n (v8, t_3)) fun y9 =>
   chk (Nat.ble ((pY.length + ([y9] : List ((Bool × List (List (NdT) × Bool × Unit) × List (((Int × Int × Int × Unit) × (Int × Int × Int × Unit) × Bool × Unit) × Int × List UInt8 × List UInt8 × Int × Int × Int × List (List UInt8 × Int × Unit) × Bool × Bool × Unit) × Unit) × Bool × List (List UInt8) × Bool × Unit)).length) * 96) room) (
    let v10 : Int := IntKind.wrap .i64 (zAd + 1)
    g0 (t_3, zLp, zSr, v10, pY ++ [y9], ())))) (
  some (pY, 0, 0))
def kS (n : Nat) (x : List UInt8 × List (List UInt8 × List UInt8 × Unit)) : Option (List ((Bool × List (List (NdT) × Bool × Unit) × List (((Int × Int × Int × Unit) × (Int × Int × Int × Unit) × Bool × Unit) × Int × List UInt8 × List UInt8 × Int × Int × Int × List (List UInt8 × Int × Unit) × Bool × Bool × Unit) × Unit) × Bool × List (List UInt8) × Bool × Unit) × Int × Int) :=
 let s_0 : List UInt8 := x.1
 let t_1 : List (List UInt8 × List UInt8 × Unit) := x.2
 ob (rE n s_0) fun y1 =>
 br (y1.2.2 != 0) (
  some ([], y1.2.1, y1.2.2)) (
  fix (vS n) n (t_1, y1.1, (y1.1.length : Int), 0, [], ()))
def rM (n : Nat) (x : Bool × List (List (NdT) × Bool × Unit) × List (((Int × Int × Int × Unit) × (Int × Int × Int × Unit) × Bool × Unit) × Int × List UInt8 × List UInt8 × Int × Int × Int × List (List UInt8 × Int × Unit) × Bool × Bool × Unit) × Bool × List (List UInt8) × Bool × Bool × List (List (NdT) × Bool × Unit) × List (((Int × Int × Int × Unit) × (Int × Int × Int × Unit) × Bool × Unit) × Int × List UInt8 × List UInt8 × Int × Int × Int × List (List UInt8 × Int × Unit) × Bool × Bool × Unit) × Bool × List (List UInt8) × Bool × Unit) : Option (Bool × Bool × List (List (NdT) × Bool × Unit) × List (((Int × Int × Int × Unit) × (Int × Int × Int × Unit) × Bool × Unit) × Int × List UInt8 × List UInt8 × Int × Int × Int × List (List UInt8 × Int × Unit) × Bool × Bool × Unit) × Bool × List (List UInt8) × Bool × Unit) :=
 let a_1 : Bool := x.1
 let a_2 : List (List (NdT) × Bool × Unit) := x.2.1
 let a_3 : List (((Int × Int × Int × Unit) × (Int × Int × Int × Unit) × Bool × Unit) × Int × List UInt8 × List UInt8 × Int × Int × Int × List (List UInt8 × Int × Unit) × Bool × Bool × Unit) := x.2.2.1
 let a_4 : Bool := x.2.2.2.1
 let a_5 : List (List UInt8) := x.2.2.2.2.1
 let a_6 : Bool := x.2.2.2.2.2.1
 let zNz : Bool := x.2.2.2.2.2.2.1
 let zSs : List (List (NdT) × Bool × Unit) := x.2.2.2.2.2.2.2.1
 let zSt : List (((Int × Int × Int × Unit) × (Int × Int × Int × Unit) × Bool × Unit) × Int × List UInt8 × List UInt8 × Int × Int × Int × List (List UInt8 × Int × Unit) × Bool × Bool × Unit) := x.2.2.2.2.2.2.2.2.1
 let zHj : Bool := x.2.2.2.2.2.2.2.2.2.1
 let zHk : List (List UInt8) := x.2.2.2.2.2.2.2.2.2.2.1
 let zSu : Bool := x.2.2.2.2.2.2.2.2.2.2.2.1
 ob (rJ n (((a_1, (a_2, (a_3, ()))), (a_4, (a_5, (a_6, ())))), ((zNz, (zSs, (zSt, ()))), (zHj, (zHk, (zSu, ())))))) fun y13 =>
 some (y13, zNz, zSs, zSt, zHj, zHk, zSu, ())
def kJ (n : Nat) (g0 : List ((Bool × List (List (NdT) × Bool × Unit) × List (((Int × Int × Int × Unit) × (Int × Int × Int × Unit) × Bool × Unit) × Int × List UInt8 × List UInt8 × Int × Int × Int × List (List UInt8 × Int × Unit) × Bool × Bool × Unit) × Unit) × Bool × List (List UInt8) × Bool × Unit) × Int × Int × Bool × List (List (NdT) × Bool × Unit) × List (((Int × Int × Int × Unit) × (Int × Int × Int × Unit) × Bool × Unit) × Int × List UInt8 × List UInt8 × Int × Int × Int × List (List UInt8 × Int × Unit) × Bool × Bool × Unit) × Bool × List (List UInt8) × Bool × Unit -> Option (Int × Bool × List (List (NdT) × Bool × Unit) × List (((Int × Int × Int × Unit) × (Int × Int × Int × Unit) × Bool × Unit) × Int × List UInt8 × List UInt8 × Int × Int × Int × List (List UInt8 × Int × Unit) × Bool × Bool × Unit) × Bool × List (List UInt8) × Bool × Unit)) (x8 : List ((Bool × List (List (NdT) × Bool × Unit) × List (((Int × Int × Int × Unit) × (Int × Int × Int × Unit) × Bool × Unit) × Int × List UInt8 × List UInt8 × Int × Int × Int × List (List UInt8 × Int × Unit) × Bool × Bool × Unit) × Unit) × Bool × List (List UInt8) × Bool × Unit) × Int × Int × Bool × List (List (NdT) × Bool × Unit) × List (((Int × Int × Int × Unit) × (Int × Int × Int × Unit) × Bool × Unit) × Int × List UInt8 × List UInt8 × Int × Int × Int × List (List UInt8 × Int × Unit) × Bool × Bool × Unit) × Bool × List (List UInt8) × Bool × Unit) : Option (Int × Bool × List (List (NdT) × Bool × Unit) × List (((Int × Int × Int × Unit) × (Int × Int × Int × Unit) × Bool × Unit) × Int × List UInt8 × List UInt8 × Int × Int × Int × List (List UInt8 × Int × Unit) × Bool × Bool × Unit) × Bool × List (List UInt8) × Bool × Unit) :=
 let s_9 : List ((Bool × List (List (NdT) × Bool × Unit) × List (((Int × Int × Int × Unit) × (Int × Int × Int × Unit) × Bool × Unit) × Int × List UInt8 × List UInt8 × Int × Int × Int × List (List UInt8 × Int × Unit) × Bool × Bool × Unit) × Unit) × Bool × List (List UInt8) × Bool × Unit) := x8.1
 let zSv : Int := x8.2.1
 let Te : Int := x8.2.2.1
 let zHl : Bool := x8.2.2.2.1
 let zOa : List (List (NdT) × Bool × Unit) := x8.2.2.2.2.1
 let zOb : List (((Int × Int × Int × Unit) × (Int × Int × Int × Unit) × Bool × Unit) × Int × List UInt8 × List UInt8 × Int × Int × Int × List (List UInt8 × Int × Unit) × Bool × Bool × Unit) := x8.2.2.2.2.2.1
 let zHm : Bool := x8.2.2.2.2.2.2.1
 let zHn : List (List UInt8) := x8.2.2.2.2.2.2.2.1
 let zSw : Bool := x8.2.2.2.2.2.2.2.2.1
 br (decide (Te < zSv)) (
  chk (inB Te s_9.length) (
   let v18 : (Bool × List (List (NdT) × Bool × Unit) × List (((Int × Int × Int × Unit) × (Int × Int × Int × Unit) × Bool × Unit) × Int × List UInt8 × List UInt8 × Int × Int × Int × List (List UInt8 × Int × Unit) × Bool × Bool × Unit) × Unit) × Bool × List (List UInt8) × Bool × Unit := bD (Ty.dflt aH) s_9 Te
   ob (rM n (v18.1.1, v18.1.2.1, v18.1.2.2.1, v18.2.1, v18.2.2.1, v18.2.2.2.1, zHl, zOa, zOb, zHm, zHn, zSw, ())) fun y19 =>
   br y19.1 (
    some (Te, y19.2.1, y19.2.2.1, y19.2.2.2.1, y19.2.2.2.2.1, y19.2.2.2.2.2.1, y19.2.2.2.2.2.2.1, ())) (
    let v20 : Int := IntKind.wrap .i64 (Te + 1)
    g0 (s_9, zSv, v20, y19.2.1, y19.2.2.1, y19.2.2.2.1, y19.2.2.2.2.1, y19.2.2.2.2.2.1, y19.2.2.2.2.2.2.1, ())))) (
  some ((-1), zHl, zOa, zOb, zHm, zHn, zSw, ()))
def dM (n : Nat) (x : List ((Bool × List (List (NdT) × Bool × Unit) × List (((Int × Int × Int × Unit) × (Int × Int × Int × Unit) × Bool × Unit) × Int × List UInt8 × List UInt8 × Int × Int × Int × List (List UInt8 × Int × Unit) × Bool × Bool × Unit) × Unit) × Bool × List (List UInt8) × Bool × Unit) × Bool × List (List (NdT) × Bool × Unit) × List (((Int × Int × Int × Unit) × (Int × Int × Int × Unit) × Bool × Unit) × Int × List UInt8 × List UInt8 × Int × Int × Int × List (List UInt8 × Int × Unit) × Bool × Bool × Unit) × Bool × List (List UInt8) × Bool × Unit) : Option (Int × Bool × List (List (NdT) × Bool × Unit) × List (((Int × Int × Int × Unit) × (Int × Int × Int × Unit) × Bool × Unit) × Int × List UInt8 × List UInt8 × Int × Int × Int × List (List UInt8 × Int × Unit) × Bool × Bool × Unit) × Bool × List (List UInt8) × Bool × Unit) :=
 let s_1 : List ((Bool × List (List (NdT) × Bool × Unit) × List (((Int × Int × Int × Unit) × (Int × Int × Int × Unit) × Bool × Unit) × Int × List UInt8 × List UInt8 × Int × Int × Int × List (List UInt8 × Int × Unit) × Bool × Bool × Unit) × Unit) × Bool × List (List UInt8) × Bool × Unit) := x.1
 let zDp : Bool := x.2.1
 let zLq : List (List (NdT) × Bool × Unit) := x.2.2.1
 let zLr : List (((Int × Int × Int × Unit) × (Int × Int × Int × Unit) × Bool × Unit) × Int × List UInt8 × List UInt8 × Int × Int × Int × List (List UInt8 × Int × Unit) × Bool × Bool × Unit) := x.2.2.2.1
 let zDq : Bool := x.2.2.2.2.1
 let zDr : List (List UInt8) := x.2.2.2.2.2.1
 let zRo : Bool := x.2.2.2.2.2.2.1
 fix (kJ n) n (s_1, (s_1.length : Int), 0, zDp, zLq, zLr, zDq, zDr, zRo, ())
def dH (n : Nat) (x : List ((Bool × List (List (NdT) × Bool × Unit) × List (((Int × Int × Int × Unit) × (Int × Int × Int × Unit) × Bool × Unit) × Int × List UInt8 × List UInt8 × Int × Int × Int × List (List UInt8 × Int × Unit) × Bool × Bool × Unit) × Unit) × Bool × List (List UInt8) × Bool × Unit) × Bool × List (List (NdT) × Bool × Unit) × List (((Int × Int × Int × Unit) × (Int × Int × Int × Unit) × Bool × Unit) × Int × List UInt8 × List UInt8 × Int × Int × Int × List (List UInt8 × Int × Unit) × Bool × Bool × Unit) × Bool × List (List UInt8) × Bool × Unit) : Option (Bool × Bool × List (List (NdT) × Bool × Unit) × List (((Int × Int × Int × Unit) × (Int × Int × Int × Unit) × Bool × Unit) × Int × List UInt8 × List UInt8 × Int × Int × Int × List (List UInt8 × Int × Unit) × Bool × Bool × Unit) × Bool × List (List UInt8) × Bool × Unit) :=
 let s_1 : List ((Bool × List (List (NdT) × Bool × Unit) × List (((Int × Int × Int × Unit) × (Int × Int × Int × Unit) × Bool × Unit) × Int × List UInt8 × List UInt8 × Int × Int × Int × List (List UInt8 × Int × Unit) × Bool × Bool × Unit) × Unit) × Bool × List (List UInt8) × Bool × Unit) := x.1
 let zDp : Bool := x.2.1
 let zLq : List (List (NdT) × Bool × Unit) := x.2.2.1
 let zLr : List (((Int × Int × Int × Unit) × (Int × Int × Int × Unit) × Bool × Unit) × Int × List UInt8 × List UInt8 × Int × Int × Int × List (List UInt8 × Int × Unit) × Bool × Bool × Unit) := x.2.2.2.1
 let zDq : Bool := x.2.2.2.2.1
 let zDr : List (List UInt8) := x.2.2.2.2.2.1
 let zRo : Bool := x.2.2.2.2.2.2.1
 ob (dM n (s_1, zDp, zLq, zLr, zDq, zDr, zRo, ())) fun y8 =>
 some ((decide (y8.1 ≥ 0)), y8.2.1, y8.2.2.1, y8.2.2.2.1, y8.2.2.2.2.1, y8.2.2.2.2.2.1, y8.2.2.2.2.2.2.1, ())
def Ht (n : Nat) (g0 : List ((Bool × List (List (NdT) × Bool × Unit) × List (((Int × Int × Int × Unit) × (Int × Int × Int × Unit) × Bool × Unit) × Int × List UInt8 × List UInt8 × Int × Int × Int × List (List UInt8 × Int × Unit) × Bool × Bool × Unit) × Unit) × Bool × List (List UInt8) × Bool × Unit) × List ((Bool × List (List (NdT) × Bool × Unit) × List (((Int × Int × Int × Unit) × (Int × Int × Int × Unit) × Bool × Unit) × Int × List UInt8 × List UInt8 × Int × Int × Int × List (List UInt8 × Int × Unit) × Bool × Bool × Unit) × Unit) × Bool × List (List UInt8) × Bool × Unit) × Int × Int × List (Bool) × Unit -> Option (List (Bool))) (x2 : List ((Bool × List (List (NdT) × Bool × Unit) × List (((Int × Int × Int × Unit) × (Int × Int × Int × Unit) × Bool × Unit) × Int × List UInt8 × List UInt8 × Int × Int × Int × List (List UInt8 × Int × Unit) × Bool × Bool × Unit) × Unit) × Bool × List (List UInt8) × Bool × Unit) × List ((Bool × List (List (NdT) × Bool × Unit) × List (((Int × Int × Int × Unit) × (Int × Int × Int × Unit) × Bool × Unit) × Int × List UInt8 × List UInt8 × Int × Int × Int × List (List UInt8 × Int × Unit) × Bool × Bool × Unit) × Unit) × Bool × List (List UInt8) × Bool × Unit) × Int × Int × List (Bool) × Unit) : Option (List (Bool)) :=
 let l_3 : List ((Bool × List (List (NdT) × Bool × Unit) × List (((Int × Int × Int × Unit) × (Int × Int × Int × Unit) × Bool × Unit) × Int × List UInt8 × List UInt8 × Int × Int × Int × List (List UInt8 × Int × Unit) × Bool × Bool × Unit) × Unit) × Bool × List (List UInt8) × Bool × Unit) := x2.1
 let zRp : List ((Bool × List (List (NdT) × Bool × Unit) × List (((Int × Int × Int × Unit) × (Int × Int × Int × Unit) × Bool × Unit) × Int × List UInt8 × List UInt8 × Int × Int × Int × List (List UInt8 × Int × Unit) × Bool × Bool × Unit) × Unit) × Bool × List (List UInt8) × Bool × Unit) := x2.2.1
 let zSx : Int := x2.2.2.1
 let uK : Int := x2.2.2.2.1
 let pY : List (Bool) := x2.2.2.2.2.1
 br (decide (uK < zSx)) (
  chk (inB uK zRp.length) (
   let v8 : (Bool × List (List (NdT) × Bool × Unit) × List (((Int × Int × Int × Unit) × (Int × Int × Int × Unit) × Bool × Unit) × Int × List UInt8 × List UInt8 × Int × Int × Int × List (List UInt8 × Int × Unit) × Bool × Bool × Unit) × Unit) × Bool × List (List UInt8) × Bool × Unit := bD (Ty.dflt aH) zRp uK
   chk ((decide (0 <= uK) && decide (uK <= (l_3.length : Int)))) (
    ob (dH n (l_3.take uK.toNat, v8.1.1, v8.1.2.1, v8.1.2.2.1, v8.2.1, v8.2.2.1, v8.2.2.2.1, ())) fun y9 =>
    chk ((inB uK (pY.length) && decide (0 + (pY.length) <= pY.length))) (
     chk (decide (0 + uK.toNat < pY.length)) (
      let r10 : List (Bool) := pY.set (0 + uK.toNat) y9.1
      let v11 : Int := IntKind.wrap .i64 (uK + 1)
      g0 (l_3, zRp, zSx, v11, r10, ())))))) (
  some pY)
def vO (n : Nat) (x : List ((Bool × List (List (NdT) × Bool × Unit) × List (((Int × Int × Int × Unit) × (Int × Int × Int × Unit) × Bool × Unit) × Int × List UInt8 × List UInt8 × Int × Int × Int × List (List UInt8 × Int × Unit) × Bool × Bool × Unit) × Unit) × Bool × List (List UInt8) × Bool × Unit)) : Option (List (Bool)) :=
 let l_0 : List ((Bool × List (List (NdT) × Bool × Unit) × List (((Int × Int × Int × Unit) × (Int × Int × Int × Unit) × Bool × Unit) × Int × List UInt8 × List UInt8 × Int × Int × Int × List (List UInt8 × Int × Unit) × Bool × Bool × Unit) × Unit) × Bool × List (List UInt8) × Bool × Unit) := x
 chk ((decide (0 <= (l_0.length : Int)) && (decide ((l_0.length : Int) = (l_0.length : Int)) && Nat.ble ((l_0.length : Int).toNat * 1) room))) (
  let r1 : List (Bool) := List.replicate (l_0.length : Int).toNat false
  fix (Ht n) n (l_0, l_0, (l_0.length : Int), 0, r1, ()))
def Py (n : Nat) (x : Bool × List (List (NdT) × Bool × Unit) × List (((Int × Int × Int × Unit) × (Int × Int × Int × Unit) × Bool × Unit) × Int × List UInt8 × List UInt8 × Int × Int × Int × List (List UInt8 × Int × Unit) × Bool × Bool × Unit) × Unit) : Option (Int × Int × Int × Int × Int × List UInt8 × List UInt8 × Bool × Bool × Bool × List (Bool × Int × Unit) × List (List UInt8 × Bool × Unit) × Unit) :=
 let x_0 : Bool × List (List (NdT) × Bool × Unit) × List (((Int × Int × Int × Unit) × (Int × Int × Int × Unit) × Bool × Unit) × Int × List UInt8 × List UInt8 × Int × Int × Int × List (List UInt8 × Int × Unit) × Bool × Bool × Unit) × Unit := x
 chk ((decide (0 <= (x_0.2.2.1.length : Int)) && (decide ((x_0.2.2.1.length : Int) = (x_0.2.2.1.length : Int)) && Nat.ble ((x_0.2.2.1.length : Int).toNat * 16) room))) (
  let r1 : List (Bool × Int × Unit) := List.replicate (x_0.2.2.1.length : Int).toNat (false, (0, ()))
  some (0, (0, (0, (0, ((-1), ([], ([], (false, (false, (false, (r1, ([], ())))))))))))))
def lF (n : Nat) (g1 : List (List UInt8 × Bool × Unit) × Int × Int × List ((Bool × List (List (NdT) × Bool × Unit) × List (((Int × Int × Int × Unit) × (Int × Int × Int × Unit) × Bool × Unit) × Int × List UInt8 × List UInt8 × Int × Int × Int × List (List UInt8 × Int × Unit) × Bool × Bool × Unit) × Unit) × Bool × List (List UInt8) × Bool × Unit) × List (Bool) × Bool × List (Bool) × List (List (List UInt8 × Bool × Unit)) × List (List UInt8 × Bool × Bool × Unit) × List (List UInt8 × List UInt8 × Unit) × List (Int) × Int × Int × Int × List ((Bool × List (List (NdT) × Bool × Unit) × List (((Int × Int × Int × Unit) × (Int × Int × Int × Unit) × Bool × Unit) × Int × List UInt8 × List UInt8 × Int × Int × Int × List (List UInt8 × Int × Unit) × Bool × Bool × Unit) × Unit) × Bool × List (List UInt8) × Bool × Unit) × List (Bool) × Bool × List (Bool) × List (List (List UInt8 × Bool × Unit)) × List (List UInt8 × Bool × Bool × Unit) × List (List UInt8 × List UInt8 × Unit) × List (Int) × Int × Int × Int × List (Int × Int × Int × Int × Int × List UInt8 × List UInt8 × Bool × Bool × Bool × List (Bool × Int × Unit) × List (List UInt8 × Bool × Unit) × Unit) × List (List UInt8 × Bool × Unit) × List (Int × Int × Int × Int × Int × List UInt8 × List UInt8 × Bool × Bool × Bool × List (Bool × Int × Unit) × List (List UInt8 × Bool × Unit) × Unit) × List (List UInt8 × Bool × Unit) × Unit -> Option ((List ((Bool × List (List (NdT) × Bool × Unit) × List (((Int × Int × Int × Unit) × (Int × Int × Int × Unit) × Bool × Unit) × Int × List UInt8 × List UInt8 × Int × Int × Int × List (List UInt8 × Int × Unit) × Bool × Bool × Unit) × Unit) × Bool × List (List UInt8) × Bool × Unit) × List (Bool) × Bool × List (Int × Int × Int × Int × Int × List UInt8 × List UInt8 × Bool × Bool × Bool × List (Bool × Int × Unit) × List (List UInt8 × Bool × Unit) × Unit) × List (Bool) × List (List (List UInt8 × Bool × Unit)) × List (List UInt8 × Bool × Bool × Unit) × List (List UInt8 × Bool × Unit) × List (List UInt8 × List UInt8 × Unit) × List (Int) × Int × Int × Int × Unit) × Int)) (x43 : List (List UInt8 × Bool × Unit) × Int × Int × List ((Bool × List (List (NdT) × Bool × Unit) × List (((Int × Int × Int × Unit) × (Int × Int × Int × Unit) × Bool × Unit) × Int × List UInt8 × List UInt8 × Int × Int × Int × List (List UInt8 × Int × Unit) × Bool × Bool × Unit) × Unit) × Bool × List (List UInt8) × Bool × Unit) × List (Bool) × Bool × List (Bool) × List (List (List UInt8 × Bool × Unit)) × List (List UInt8 × Bool × Bool × Unit) × List (List UInt8 × List UInt8 × Unit) × List (Int) × Int × Int × Int × List ((Bool × List (List (NdT) × Bool × Unit) × List (((Int × Int × Int × Unit) × (Int × Int × Int × Unit) × Bool × Unit) × Int × List UInt8 × List UInt8 × Int × Int × Int × List (List UInt8 × Int × Unit) × Bool × Bool × Unit) × Unit) × Bool × List (List UInt8) × Bool × Unit) × List (Bool) × Bool × List (Bool) × List (List (List UInt8 × Bool × Unit)) × List (List UInt8 × Bool × Bool × Unit) × List (List UInt8 × List UInt8 × Unit) × List (Int) × Int × Int × Int × List (Int × Int × Int × Int × Int × List UInt8 × List UInt8 × Bool × Bool × Bool × List (Bool × Int × Unit) × List (List UInt8 × Bool × Unit) × Unit) × List (List UInt8 × Bool × Unit) × List (Int × Int × Int × Int × Int × List UInt8 × List UInt8 × Bool × Bool × Bool × List (Bool × Int × Unit) × List (List UInt8 × Bool × Unit) × Unit) × List (List UInt8 × Bool × Unit) × Unit) : Option ((List ((Bool × List (List (NdT) × Bool × Unit) × List (((Int × Int × Int × Unit) × (Int × Int × Int × Unit) × Bool × Unit) × Int × List UInt8 × List UInt8 × Int × Int × Int × List (List UInt8 × Int × Unit) × Bool × Bool × Unit) × Unit) × Bool × List (List UInt8) × Bool × Unit) × List (Bool) × Bool × List (Int × Int × Int × Int × Int × List UInt8 × List UInt8 × Bool × Bool × Bool × List (Bool × Int × Unit) × List (List UInt8 × Bool × Unit) × Unit) × List (Bool) × List (List (List UInt8 × Bool × Unit)) × List (List UInt8 × Bool × Bool × Unit) × List (List UInt8 × Bool × Unit) × List (List UInt8 × List UInt8 × Unit) × List (Int) × Int × Int × Int × Unit) × Int) :=
 let zDs : List (List UInt8 × Bool × Unit) := x43.1
 let zOc : Int := x43.2.1
 let Tf : Int := x43.2.2.1
 let zRq : List ((Bool × List (List (NdT) × Bool × Unit) × List (((Int × Int × Int × Unit) × (Int × Int × Int × Unit) × Bool × Unit) × Int × List UInt8 × List UInt8 × Int × Int × Int × List (List UInt8 × Int × Unit) × Bool × Bool × Unit) × Unit) × Bool × List (List UInt8) × Bool × Unit) := x43.2.2.2.1
 let zLs : List (Bool) := x43.2.2.2.2.1
 let zZg : Bool := x43.2.2.2.2.2.1
 let zVf : List (Bool) := x43.2.2.2.2.2.2.1
 let yAo : List (List (List UInt8 × Bool × Unit)) := x43.2.2.2.2.2.2.2.1
 let zVg : List (List UInt8 × Bool × Bool × Unit) := x43.2.2.2.2.2.2.2.2.1
 let zVh : List (List UInt8 × List UInt8 × Unit) := x43.2.2.2.2.2.2.2.2.2.1
 let zRr : List (Int) := x43.2.2.2.2.2.2.2.2.2.2.1
 let zVi : Int := x43.2.2.2.2.2.2.2.2.2.2.2.1
 let zZh : Int := x43.2.2.2.2.2.2.2.2.2.2.2.2.1
 let zZi : Int := x43.2.2.2.2.2.2.2.2.2.2.2.2.2.1
 let zDt : List ((Bool × List (List (NdT) × Bool × Unit) × List (((Int × Int × Int × Unit) × (Int × Int × Int × Unit) × Bool × Unit) × Int × List UInt8 × List UInt8 × Int × Int × Int × List (List UInt8 × Int × Unit) × Bool × Bool × Unit) × Unit) × Bool × List (List UInt8) × Bool × Unit) := x43.2.2.2.2.2.2.2.2.2.2.2.2.2.2.1
 let Tg : List (Bool) := x43.2.2.2.2.2.2.2.2.2.2.2.2.2.2.2.1
 let zOd : Bool := x43.2.2.2.2.2.2.2.2.2.2.2.2.2.2.2.2.1
 let zHo : List (Bool) := x43.2.2.2.2.2.2.2.2.2.2.2.2.2.2.2.2.2.1
 let zSy : List (List (List UInt8 × Bool × Unit)) := x43.2.2.2.2.2.2.2.2.2.2.2.2.2.2.2.2.2.2.1
 let zHp : List (List UInt8 × Bool × Bool × Unit) := x43.2.2.2.2.2.2.2.2.2.2.2.2.2.2.2.2.2.2.2.1
 let zHq : List (List UInt8 × List UInt8 × Unit) := x43.2.2.2.2.2.2.2.2.2.2.2.2.2.2.2.2.2.2.2.2.1
 let zDu : List (Int) := x43.2.2.2.2.2.2.2.2.2.2.2.2.2.2.2.2.2.2.2.2.2.1
 let zHr : Int := x43.2.2.2.2.2.2.2.2.2.2.2.2.2.2.2.2.2.2.2.2.2.2.1
 let zOe : Int := x43.2.2.2.2.2.2.2.2.2.2.2.2.2.2.2.2.2.2.2.2.2.2.2.1
 let zOf : Int := x43.2.2.2.2.2.2.2.2.2.2.2.2.2.2.2.2.2.2.2.2.2.2.2.2.1
 let zAb : List (Int × Int × Int × Int × Int × List UInt8 × List UInt8 × Bool × Bool × Bool × List (Bool × Int × Unit) × List (List UInt8 × Bool × Unit) × Unit) := x43.2.2.2.2.2.2.2.2.2.2.2.2.2.2.2.2.2.2.2.2.2.2.2.2.2.1
 let yAp : List (List UInt8 × Bool × Unit) := x43.2.2.2.2.2.2.2.2.2.2.2.2.2.2.2.2.2.2.2.2.2.2.2.2.2.2.1
 let zAc : List (Int × Int × Int × Int × Int × List UInt8 × List UInt8 × Bool × Bool × Bool × List (Bool × Int × Unit) × List (List UInt8 × Bool × Unit) × Unit) := x43.2.2.2.2.2.2.2.2.2.2.2.2.2.2.2.2.2.2.2.2.2.2.2.2.2.2.2.1
 let zLt : List (List UInt8 × Bool × Unit) := x43.2.2.2.2.2.2.2.2.2.2.2.2.2.2.2.2.2.2.2.2.2.2.2.2.2.2.2.2.1
 br (decide (Tf < zOc)) (
  chk (inB Tf zDs.length) (
   let v73 : List UInt8 × Bool × Unit := bD (Ty.dflt bL) zDs Tf
   chk (Nat.ble ((zLt.length + ([v73] : List (List UInt8 × Bool × Unit)).length) * 24) room) (
    let v74 : Int := IntKind.wrap .i64 (Tf + 1)
    g1 (zDs, zOc, v74, zRq, zLs, zZg, zVf, yAo, zVg, zVh, zRr, zVi, zZh, zZi, zDt, Tg, zOd, zHo, zSy, zHp, zHq, zDu, zHr, zOe, zOf, zAb, yAp, zAc, zLt ++ [v73], ())))) (
  some ((zDt, (Tg, (zOd, (zAc, (zHo, (zSy, (zHp, (zLt, (zHq, (zDu, (zHr, (zOe, (zOf, ()))))))))))))), 0))
def Vt (n : Nat) (g0 : List ((Bool × List (List (NdT) × Bool × Unit) × List (((Int × Int × Int × Unit) × (Int × Int × Int × Unit) × Bool × Unit) × Int × List UInt8 × List UInt8 × Int × Int × Int × List (List UInt8 × Int × Unit) × Bool × Bool × Unit) × Unit) × Bool × List (List UInt8) × Bool × Unit) × List UInt8 × List ((Bool × List (List (NdT) × Bool × Unit) × List (((Int × Int × Int × Unit) × (Int × Int × Int × Unit) × Bool × Unit) × Int × List UInt8 × List UInt8 × Int × Int × Int × List (List UInt8 × Int × Unit) × Bool × Bool × Unit) × Unit) × Bool × List (List UInt8) × Bool × Unit) × Int × Int × List ((Bool × List (List (NdT) × Bool × Unit) × List (((Int × Int × Int × Unit) × (Int × Int × Int × Unit) × Bool × Unit) × Int × List UInt8 × List UInt8 × Int × Int × Int × List (List UInt8 × Int × Unit) × Bool × Bool × Unit) × Unit) × Bool × List (List UInt8) × Bool × Unit) × List (Bool) × Bool × List (Bool) × List (List (List UInt8 × Bool × Unit)) × List (List UInt8 × Bool × Bool × Unit) × List (List UInt8 × List UInt8 × Unit) × List (Int) × Int × Int × Int × List ((Bool × List (List (NdT) × Bool × Unit) × List (((Int × Int × Int × Unit) × (Int × Int × Int × Unit) × Bool × Unit) × Int × List UInt8 × List UInt8 × Int × Int × Int × List (List UInt8 × Int × Unit) × Bool × Bool × Unit) × Unit) × Bool × List (List UInt8) × Bool × Unit) × List (Bool) × Bool × List (Bool) × List (List (List UInt8 × Bool × Unit)) × List (List UInt8 × Bool × Bool × Unit) × List (List UInt8 × List UInt8 × Unit) × List (Int) × Int × Int × Int × List (Int × Int × Int × Int × Int × List UInt8 × List UInt8 × Bool × Bool × Bool × List (Bool × Int × Unit) × List (List UInt8 × Bool × Unit) × Unit) × List (List UInt8 × Bool × Unit) × List (Int × Int × Int × Int × Int × List UInt8 × List UInt8 × Bool × Bool × Bool × List (Bool × Int × Unit) × List (List UInt8 × Bool × Unit) × Unit) × List (List UInt8 × Bool × Unit) × Unit -> Option ((List ((Bool × List (List (NdT) × Bool × Unit) × List (((Int × Int × Int × Unit) × (Int × Int × Int × Unit) × Bool × Unit) × Int × List UInt8 × List UInt8 × Int × Int × Int × List (List UInt8 × Int × Unit) × Bool × Bool × Unit) × Unit) × Bool × List (List UInt8) × Bool × Unit) × List (Bool) × Bool × List (Int × Int × Int × Int × Int × List UInt8 × List UInt8 × Bool × Bool × Bool × List (Bool × Int × Unit) × List (List UInt8 × Bool × Unit) × Unit) × List (Bool) × List (List (List UInt8 × Bool × Unit)) × List (List UInt8 × Bool × Bool × Unit) × List (List UInt8 × Bool × Unit) × List (List UInt8 × List UInt8 × Unit) × List (Int) × Int × Int × Int × Unit) × Int)) (x6 : List ((Bool × List (List (NdT) × Bool × Unit) × List (((Int × Int × Int × Unit) × (Int × Int × Int × Unit) × Bool × Unit) × Int × List UInt8 × List UInt8 × Int × Int × Int × List (List UInt8 × Int × Unit) × Bool × Bool × Unit) × Unit) × Bool × List (List UInt8) × Bool × Unit) × List UInt8 × List ((Bool × List (List (NdT) × Bool × Unit) × List (((Int × Int × Int × Unit) × (Int × Int × Int × Unit) × Bool × Unit) × Int × List UInt8 × List UInt8 × Int × Int × Int × List (List UInt8 × Int × Unit) × Bool × Bool × Unit) × Unit) × Bool × List (List UInt8) × Bool × Unit) × Int × Int × List ((Bool × List (List (NdT) × Bool × Unit) × List (((Int × Int × Int × Unit) × (Int × Int × Int × Unit) × Bool × Unit) × Int × List UInt8 × List UInt8 × Int × Int × Int × List (List UInt8 × Int × Unit) × Bool × Bool × Unit) × Unit) × Bool × List (List UInt8) × Bool × Unit) × List (Bool) × Bool × List (Bool) × List (List (List UInt8 × Bool × Unit)) × List (List UInt8 × Bool × Bool × Unit) × List (List UInt8 × List UInt8 × Unit) × List (Int) × Int × Int × Int × List ((Bool × List (List (NdT) × Bool × Unit) × List (((Int × Int × Int × Unit) × (Int × Int × Int × Unit) × Bool × Unit) × Int × List UInt8 × List UInt8 × Int × Int × Int × List (List UInt8 × Int × Unit) × Bool × Bool × Unit) × Unit) × Bool × List (List UInt8) × Bool × Unit) × List (Bool) × Bool × List (Bool) × List (List (List UInt8 × Bool × Unit)) × List (List UInt8 × Bool × Bool × Unit) × List (List UInt8 × List UInt8 × Unit) × List (Int) × Int × Int × Int × List (Int × Int × Int × Int × Int × List UInt8 × List UInt8 × Bool × Bool × Bool × List (Bool × Int × Unit) × List (List UInt8 × Bool × Unit) × Unit) × List (List UInt8 × Bool × Unit) × List (Int × Int × Int × Int × Int × List UInt8 × List UInt8 × Bool × Bool × Bool × List (Bool × Int × Unit) × List (List UInt8 × Bool × Unit) × Unit) × List (List UInt8 × Bool × Unit) × Unit) : Option ((List ((Bool × List (List (NdT) × Bool × Unit) × List (((Int × Int × Int × Unit) × (Int × Int × Int × Unit) × Bool × Unit) × Int × List UInt8 × List UInt8 × Int × Int × Int × List (List UInt8 × Int × Unit) × Bool × Bool × Unit) × Unit) × Bool × List (List UInt8) × Bool × Unit) × List (Bool) × Bool × List (Int × Int × Int × Int × Int × List UInt8 × List UInt8 × Bool × Bool × Bool × List (Bool × Int × Unit) × List (List UInt8 × Bool × Unit) × Unit) × List (Bool) × List (List (List UInt8 × Bool × Unit)) × List (List UInt8 × Bool × Bool × Unit) × List (List UInt8 × Bool × Unit) × List (List UInt8 × List UInt8 × Unit) × List (Int) × Int × Int × Int × Unit) × Int) :=
 let l_7 : List ((Bool × List (List (NdT) × Bool × Unit) × List (((Int × Int × Int × Unit) × (Int × Int × Int × Unit) × Bool × Unit) × Int × List UInt8 × List UInt8 × Int × Int × Int × List (List UInt8 × Int × Unit) × Bool × Bool × Unit) × Unit) × Bool × List (List UInt8) × Bool × Unit) := x6.1
 let zZj : List UInt8 := x6.2.1
 let zLu : List ((Bool × List (List (NdT) × Bool × Unit) × List (((Int × Int × Int × Unit) × (Int × Int × Int × Unit) × Bool × Unit) × Int × List UInt8 × List UInt8 × Int × Int × Int × List (List UInt8 × Int × Unit) × Bool × Bool × Unit) × Unit) × Bool × List (List UInt8) × Bool × Unit) := x6.2.2.1
 let zOg : Int := x6.2.2.2.1
 let Ti : Int := x6.2.2.2.2.1
 let zDv : List ((Bool × List (List (NdT) × Bool × Unit) × List (((Int × Int × Int × Unit) × (Int × Int × Int × Unit) × Bool × Unit) × Int × List UInt8 × List UInt8 × Int × Int × Int × List (List UInt8 × Int × Unit) × Bool × Bool × Unit) × Unit) × Bool × List (List UInt8) × Bool × Unit) := x6.2.2.2.2.2.1
 let Tj : List (Bool) := x6.2.2.2.2.2.2.1
 let zOh : Bool := x6.2.2.2.2.2.2.2.1
 let zHs : List (Bool) := x6.2.2.2.2.2.2.2.2.1
 let zSz : List (List (List UInt8 × Bool × Unit)) := x6.2.2.2.2.2.2.2.2.2.1
 let zHt : List (List UInt8 × Bool × Bool × Unit) := x6.2.2.2.2.2.2.2.2.2.2.1
 let zHu : List (List UInt8 × List UInt8 × Unit) := x6.2.2.2.2.2.2.2.2.2.2.2.1
 let zDw : List (Int) := x6.2.2.2.2.2.2.2.2.2.2.2.2.1
 let zHv : Int := x6.2.2.2.2.2.2.2.2.2.2.2.2.2.1
 let zOi : Int := x6.2.2.2.2.2.2.2.2.2.2.2.2.2.2.1
 let zOj : Int := x6.2.2.2.2.2.2.2.2.2.2.2.2.2.2.2.1
 let zDx : List ((Bool × List (List (NdT) × Bool × Unit) × List (((Int × Int × Int × Unit) × (Int × Int × Int × Unit) × Bool × Unit) × Int × List UInt8 × List UInt8 × Int × Int × Int × List (List UInt8 × Int × Unit) × Bool × Bool × Unit) × Unit) × Bool × List (List UInt8) × Bool × Unit) := x6.2.2.2.2.2.2.2.2.2.2.2.2.2.2.2.2.1
 let Tm : List (Bool) := x6.2.2.2.2.2.2.2.2.2.2.2.2.2.2.2.2.2.1
 let zOk : Bool := x6.2.2.2.2.2.2.2.2.2.2.2.2.2.2.2.2.2.2.1
 let zHw : List (Bool) := x6.2.2.2.2.2.2.2.2.2.2.2.2.2.2.2.2.2.2.2.1
 let zTa : List (List (List UInt8 × Bool × Unit)) := x6.2.2.2.2.2.2.2.2.2.2.2.2.2.2.2.2.2.2.2.2.1
 let Mf : List (List UInt8 × Bool × Bool × Unit) := x6.2.2.2.2.2.2.2.2.2.2.2.2.2.2.2.2.2.2.2.2.2.1
 let zHx : List (List UInt8 × List UInt8 × Unit) := x6.2.2.2.2.2.2.2.2.2.2.2.2.2.2.2.2.2.2.2.2.2.2.1
 let zDy : List (Int) := x6.2.2.2.2.2.2.2.2.2.2.2.2.2.2.2.2.2.2.2.2.2.2.2.1
 let zHy : Int := x6.2.2.2.2.2.2.2.2.2.2.2.2.2.2.2.2.2.2.2.2.2.2.2.2.1
 let zOl : Int := x6.2.2.2.2.2.2.2.2.2.2.2.2.2.2.2.2.2.2.2.2.2.2.2.2.2.1
 let zOm : Int := x6.2.2.2.2.2.2.2.2.2.2.2.2.2.2.2.2.2.2.2.2.2.2.2.2.2.2.1
 let uJ : List (Int × Int × Int × Int × Int × List UInt8 × List UInt8 × Bool × Bool × Bool × List (Bool × Int × Unit) × List (List UInt8 × Bool × Unit) × Unit) := x6.2.2.2.2.2.2.2.2.2.2.2.2.2.2.2.2.2.2.2.2.2.2.2.2.2.2.2.1
 let zTb : List (List UInt8 × Bool × Unit) := x6.2.2.2.2.2.2.2.2.2.2.2.2.2.2.2.2.2.2.2.2.2.2.2.2.2.2.2.2.1
 let zLv : List (Int × Int × Int × Int × Int × List UInt8 × List UInt8 × Bool × Bool × Bool × List (Bool × Int × Unit) × List (List UInt8 × Bool × Unit) × Unit) := x6.2.2.2.2.2.2.2.2.2.2.2.2.2.2.2.2.2.2.2.2.2.2.2.2.2.2.2.2.2.1
 let zTc : List (List UInt8 × Bool × Unit) := x6.2.2.2.2.2.2.2.2.2.2.2.2.2.2.2.2.2.2.2.2.2.2.2.2.2.2.2.2.2.2.1
 br (decide (Ti < zOg)) (
  chk (inB Ti zLu.length) (
   let v38 : (Bool × List (List (NdT) × Bool × Unit) × List (((Int × Int × Int × Unit) × (Int × Int × Int × Unit) × Bool × Unit) × Int × List UInt8 × List UInt8 × Int × Int × Int × List (List UInt8 × Int × Unit) × Bool × Bool × Unit) × Unit) × Bool × List (List UInt8) × Bool × Unit := bD (Ty.dflt aH) zLu Ti
   ob (Py n v38.1) fun y39 =>
   chk (Nat.ble ((zLv.length + ([y39] : List (Int × Int × Int × Int × Int × List UInt8 × List UInt8 × Bool × Bool × Bool × List (Bool × Int × Unit) × List (List UInt8 × Bool × Unit) × Unit)).length) * 128) room) (
    let v40 : Int := IntKind.wrap .i64 (Ti + 1)
    g0 (l_7, zZj, zLu, zOg, v40, zDv, Tj, zOh, zHs, zSz, zHt, zHu, zDw, zHv, zOi, zOj, zDx, Tm, zOk, zHw, zTa, Mf, zHx, zDy, zHy, zOl, zOm, uJ, zTb, zLv ++ [y39], zTc, ())))) (
  br (decide ((l_7.length : Int) > 0)) (
   chk (inB 0 Mf.length) (
    let v41 : List UInt8 × Bool × Bool × Unit := bD (Ty.dflt eD) Mf 0
    none)) (
   ob (jE n zZj) fun y42 =>
   fix (lF n) n (y42, (y42.length : Int), 0, zDv, Tj, zOh, zHs, zSz, zHt, zHu, zDw, zHv, zOi, zOj, zDx, Tm, zOk, zHw, zTa, Mf, zHx, zDy, zHy, zOl, zOm, uJ, zTb, zLv, zTc, ())))
def yP (n : Nat) (x : List ((Bool × List (List (NdT) × Bool × Unit) × List (((Int × Int × Int × Unit) × (Int × Int × Int × Unit) × Bool × Unit) × Int × List UInt8 × List UInt8 × Int × Int × Int × List (List UInt8 × Int × Unit) × Bool × Bool × Unit) × Unit) × Bool × List (List UInt8) × Bool × Unit) × List UInt8 × List (List UInt8 × List UInt8 × Unit) × Bool) : Option ((List ((Bool × List (List (NdT) × Bool × Unit) × List (((Int × Int × Int × Unit) × (Int × Int × Int × Unit) × Bool × Unit) × Int × List UInt8 × List UInt8 × Int × Int × Int × List (List UInt8 × Int × Unit) × Bool × Bool × Unit) × Unit) × Bool × List (List UInt8) × Bool × Unit) × List (Bool) × Bool × List (Int × Int × Int × Int × Int × List UInt8 × List UInt8 × Bool × Bool × Bool × List (Bool × Int × Unit) × List (List UInt8 × Bool × Unit) × Unit) × List (Bool) × List (List (List UInt8 × Bool × Unit)) × List (List UInt8 × Bool × Bool × Unit) × List (List UInt8 × Bool × Unit) × List (List UInt8 × List UInt8 × Unit) × List (Int) × Int × Int × Int × Unit) × Int) :=
 let l_0 : List ((Bool × List (List (NdT) × Bool × Unit) × List (((Int × Int × Int × Unit) × (Int × Int × Int × Unit) × Bool × Unit) × Int × List UInt8 × List UInt8 × Int × Int × Int × List (List UInt8 × Int × Unit) × Bool × Bool × Unit) × Unit) × Bool × List (List UInt8) × Bool × Unit) := x.1
 let Pz : List UInt8 := x.2.1
 let t_2 : List (List UInt8 × List UInt8 × Unit) := x.2.2.1
 let zDz : Bool := x.2.2.2
 br (decide ((l_0.length : Int) > 8)) (
  some (([], ([], (false, ([], ([], ([], ([], ([], ([], ([], (0, (0, (0, ()))))))))))))), 2)) (
  ob (vO n l_0) fun y1 =>
  chk ((decide (0 <= (l_0.length : Int)) && (decide ((l_0.length : Int) = (l_0.length : Int)) && Nat.ble ((l_0.length : Int).toNat * 1) room))) (
   let v2 : List (Bool) := List.replicate (l_0.length : Int).toNat false
   chk ((decide (0 <= (l_0.length : Int)) && (decide ((l_0.length : Int) = (l_0.length : Int)) && Nat.ble ((l_0.length : Int).toNat * 24) room))) (
    let v3 : List (List (List UInt8 × Bool × Unit)) := List.replicate (l_0.length : Int).toNat []
    chk ((decide (0 <= (l_0.length : Int)) && (decide ((l_0.length : Int) = (l_0.length : Int)) && Nat.ble ((l_0.length : Int).toNat * 24) room))) (
     let v4 : List (List UInt8 × Bool × Bool × Unit) := List.replicate (l_0.length : Int).toNat ([], (false, (false, ())))
     chk ((decide (0 <= (l_0.length : Int)) && (decide ((l_0.length : Int) = (l_0.length : Int)) && Nat.ble ((l_0.length : Int).toNat * 8) room))) (
      let v5 : List (Int) := List.replicate (l_0.length : Int).toNat 0
      fix (Vt n) n (l_0, Pz, l_0, (l_0.length : Int), 0, [], [], false, [], [], [], [], [], 0, 0, 0, l_0, y1, zDz, v2, v3, v4, t_2, v5, 0, 0, 0, [], [], [], [], ()))))))
def oI (n : Nat) (x : Int × List ((Bool × List (List (NdT) × Bool × Unit) × List (((Int × Int × Int × Unit) × (Int × Int × Int × Unit) × Bool × Unit) × Int × List UInt8 × List UInt8 × Int × Int × Int × List (List UInt8 × Int × Unit) × Bool × Bool × Unit) × Unit) × Bool × List (List UInt8) × Bool × Unit) × List (Bool) × Bool × List (Int × Int × Int × Int × Int × List UInt8 × List UInt8 × Bool × Bool × Bool × List (Bool × Int × Unit) × List (List UInt8 × Bool × Unit) × Unit) × List (Bool) × List (List (List UInt8 × Bool × Unit)) × List (List UInt8 × Bool × Bool × Unit) × List (List UInt8 × Bool × Unit) × List (List UInt8 × List UInt8 × Unit) × List (Int) × Int × Int × Int × Unit) : Option (Bool × List ((Bool × List (List (NdT) × Bool × Unit) × List (((Int × Int × Int × Unit) × (Int × Int × Int × Unit) × Bool × Unit) × Int × List UInt8 × List UInt8 × Int × Int × Int × List (List UInt8 × Int × Unit) × Bool × Bool × Unit) × Unit) × Bool × List (List UInt8) × Bool × Unit) × List (Bool) × Bool × List (Int × Int × Int × Int × Int × List UInt8 × List UInt8 × Bool × Bool × Bool × List (Bool × Int × Unit) × List (List UInt8 × Bool × Unit) × Unit) × List (Bool) × List (List (List UInt8 × Bool × Unit)) × List (List UInt8 × Bool × Bool × Unit) × List (List UInt8 × Bool × Unit) × List (List UInt8 × List UInt8 × Unit) × List (Int) × Int × Int × Int × Unit) :=
 let i_1 : Int := x.1
 let tH : List ((Bool × List (List (NdT) × Bool × Unit) × List (((Int × Int × Int × Unit) × (Int × Int × Int × Unit) × Bool × Unit) × Int × List UInt8 × List UInt8 × Int × Int × Int × List (List UInt8 × Int × Unit) × Bool × Bool × Unit) × Unit) × Bool × List (List UInt8) × Bool × Unit) := x.2.1
 let uZ : List (Bool) := x.2.2.1
 let Tn : Bool := x.2.2.2.1
 let rO : List (Int × Int × Int × Int × Int × List UInt8 × List UInt8 × Bool × Bool × Bool × List (Bool × Int × Unit) × List (List UInt8 × Bool × Unit) × Unit) := x.2.2.2.2.1
 let Jv : List (Bool) := x.2.2.2.2.2.1
 let zEa : List (List (List UInt8 × Bool × Unit)) := x.2.2.2.2.2.2.1
 let Jw : List (List UInt8 × Bool × Bool × Unit) := x.2.2.2.2.2.2.2.1
 let zEb : List (List UInt8 × Bool × Unit) := x.2.2.2.2.2.2.2.2.1
 let Cq : List (List UInt8 × List UInt8 × Unit) := x.2.2.2.2.2.2.2.2.2.1
 let yQ : List (Int) := x.2.2.2.2.2.2.2.2.2.2.1
 let Cr : Int := x.2.2.2.2.2.2.2.2.2.2.2.1
 let Jy : Int := x.2.2.2.2.2.2.2.2.2.2.2.2.1
 let Jz : Int := x.2.2.2.2.2.2.2.2.2.2.2.2.2.1
 chk (inB i_1 rO.length) (
  let v15 : Int × Int × Int × Int × Int × List UInt8 × List UInt8 × Bool × Bool × Bool × List (Bool × Int × Unit) × List (List UInt8 × Bool × Unit) × Unit := bD (Ty.dflt aF) rO i_1
  some ((v15.1 == 4), tH, uZ, Tn, rO, Jv, zEa, Jw, zEb, Cq, yQ, Cr, Jy, Jz, ()))
def lX (n : Nat) (x : Int × Int × Int × Int × Int × List UInt8 × List UInt8 × Bool × Bool × Bool × List (Bool × Int × Unit) × List (List UInt8 × Bool × Unit) × Unit) : Option (Bool) :=
 let b_0 : Int × Int × Int × Int × Int × List UInt8 × List UInt8 × Bool × Bool × Bool × List (Bool × Int × Unit) × List (List UInt8 × Bool × Unit) × Unit := x
 some (b_0.1 != 4)
def jI (n : Nat) (g0 : List (Int × Int × Int × Int × Int × List UInt8 × List UInt8 × Bool × Bool × Bool × List (Bool × Int × Unit) × List (List UInt8 × Bool × Unit) × Unit) × Int × Int × Unit -> Option (Int × Unit)) (x2 : List (Int × Int × Int × Int × Int × List UInt8 × List UInt8 × Bool × Bool × Bool × List (Bool × Int × Unit) × List (List UInt8 × Bool × Unit) × Unit) × Int × Int × Unit) : Option (Int × Unit) :=
 let s_3 : List (Int × Int × Int × Int × Int × List UInt8 × List UInt8 × Bool × Bool × Bool × List (Bool × Int × Unit) × List (List UInt8 × Bool × Unit) × Unit) := x2.1
 let zZk : Int := x2.2.1
 let zEc : Int := x2.2.2.1
 br (decide (zEc < zZk)) (
  chk (inB zEc s_3.length) (
   let v6 : Int × Int × Int × Int × Int × List UInt8 × List UInt8 × Bool × Bool × Bool × List (Bool × Int × Unit) × List (List UInt8 × Bool × Unit) × Unit := bD (Ty.dflt aF) s_3 zEc
   ob (lX n v6) fun y7 =>
   br y7 (
    some (zEc, ())) (
    let v8 : Int := IntKind.wrap .i64 (zEc + 1)
    g0 (s_3, zZk, v8, ())))) (
  some ((-1), ()))
def dA (n : Nat) (x : List (Int × Int × Int × Int × Int × List UInt8 × List UInt8 × Bool × Bool × Bool × List (Bool × Int × Unit) × List (List UInt8 × Bool × Unit) × Unit) × Unit) : Option (Int × Unit) :=
 let s_1 : List (Int × Int × Int × Int × Int × List UInt8 × List UInt8 × Bool × Bool × Bool × List (Bool × Int × Unit) × List (List UInt8 × Bool × Unit) × Unit) := x.1
 fix (jI n) n (s_1, (s_1.length : Int), 0, ())
def cK (n : Nat) (x : List (Int × Int × Int × Int × Int × List UInt8 × List UInt8 × Bool × Bool × Bool × List (Bool × Int × Unit) × List (List UInt8 × Bool × Unit) × Unit) × Unit) : Option (Bool × Unit) :=
 let s_1 : List (Int × Int × Int × Int × Int × List UInt8 × List UInt8 × Bool × Bool × Bool × List (Bool × Int × Unit) × List (List UInt8 × Bool × Unit) × Unit) := x.1
 ob (dA n (s_1, ())) fun y2 =>
 some ((decide (y2.1 ≥ 0)), ())
def nL (n : Nat) (x : Int × List ((Bool × List (List (NdT) × Bool × Unit) × List (((Int × Int × Int × Unit) × (Int × Int × Int × Unit) × Bool × Unit) × Int × List UInt8 × List UInt8 × Int × Int × Int × List (List UInt8 × Int × Unit) × Bool × Bool × Unit) × Unit) × Bool × List (List UInt8) × Bool × Unit) × List (Bool) × Bool × List (Int × Int × Int × Int × Int × List UInt8 × List UInt8 × Bool × Bool × Bool × List (Bool × Int × Unit) × List (List UInt8 × Bool × Unit) × Unit) × List (Bool) × List (List (List UInt8 × Bool × Unit)) × List (List UInt8 × Bool × Bool × Unit) × List (List UInt8 × Bool × Unit) × List (List UInt8 × List UInt8 × Unit) × List (Int) × Int × Int × Int × Unit) : Option (Bool × List ((Bool × List (List (NdT) × Bool × Unit) × List (((Int × Int × Int × Unit) × (Int × Int × Int × Unit) × Bool × Unit) × Int × List UInt8 × List UInt8 × Int × Int × Int × List (List UInt8 × Int × Unit) × Bool × Bool × Unit) × Unit) × Bool × List (List UInt8) × Bool × Unit) × List (Bool) × Bool × List (Int × Int × Int × Int × Int × List UInt8 × List UInt8 × Bool × Bool × Bool × List (Bool × Int × Unit) × List (List UInt8 × Bool × Unit) × Unit) × List (Bool) × List (List (List UInt8 × Bool × Unit)) × List (List UInt8 × Bool × Bool × Unit) × List (List UInt8 × Bool × Unit) × List (List UInt8 × List UInt8 × Unit) × List (Int) × Int × Int × Int × Unit) :=
 let i_1 : Int := x.1
 let tH : List ((Bool × List (List (NdT) × Bool × Unit) × List (((Int × Int × Int × Unit) × (Int × Int × Int × Unit) × Bool × Unit) × Int × List UInt8 × List UInt8 × Int × Int × Int × List (List UInt8 × Int × Unit) × Bool × Bool × Unit) × Unit) × Bool × List (List UInt8) × Bool × Unit) := x.2.1
 let uZ : List (Bool) := x.2.2.1
 let Tn : Bool := x.2.2.2.1
 let rO : List (Int × Int × Int × Int × Int × List UInt8 × List UInt8 × Bool × Bool × Bool × List (Bool × Int × Unit) × List (List UInt8 × Bool × Unit) × Unit) := x.2.2.2.2.1
 let Jv : List (Bool) := x.2.2.2.2.2.1
 let zEa : List (List (List UInt8 × Bool × Unit)) := x.2.2.2.2.2.2.1
 let Jw : List (List UInt8 × Bool × Bool × Unit) := x.2.2.2.2.2.2.2.1
 let zEb : List (List UInt8 × Bool × Unit) := x.2.2.2.2.2.2.2.2.1
 let Cq : List (List UInt8 × List UInt8 × Unit) := x.2.2.2.2.2.2.2.2.2.1
 let yQ : List (Int) := x.2.2.2.2.2.2.2.2.2.2.1
 let Cr : Int := x.2.2.2.2.2.2.2.2.2.2.2.1
 let Jy : Int := x.2.2.2.2.2.2.2.2.2.2.2.2.1
 let Jz : Int := x.2.2.2.2.2.2.2.2.2.2.2.2.2.1
 chk ((decide (0 <= i_1) && decide (i_1 <= (rO.length : Int)))) (
  ob (cK n (rO.take i_1.toNat, ())) fun y15 =>
  some ((!y15.1), tH, uZ, Tn, rO, Jv, zEa, Jw, zEb, Cq, yQ, Cr, Jy, Jz, ()))
def Ka (n : Nat) (x : List UInt8 × Bool × Bool × Unit) : Option ((List UInt8 × Bool × Bool × Unit) × (List UInt8 × Bool × Unit) × Bool × Bool) :=
 let k_0 : List UInt8 × Bool × Bool × Unit := x
 ob (strings_Cut n (k_0.1, [10])) fun y1 =>
 br (y1.2.1 == []) (
  br (!k_0.2.2.1) (
   some (k_0, ([], (false, ())), false, false)) (
   br (k_0.1 == []) (
    some (k_0, ([], (false, ())), false, false)) (
    some ((y1.2.1, k_0.2), (y1.1, (y1.2.2, ())), (y1.2.1 == []), true)))) (
  br (k_0.1 == []) (
   some (k_0, ([], (false, ())), false, false)) (
   some ((y1.2.1, k_0.2), (y1.1, (y1.2.2, ())), (y1.2.1 == []), true)))
def Gf (n : Nat) (x : List UInt8 × Bool × Bool × Unit) : Option ((List UInt8 × Bool × Unit) × Bool × Bool) :=
 let k_0 : List UInt8 × Bool × Bool × Unit := x
 ob (Ka n k_0) fun y1 =>
 some (y1.2.1, y1.2.2.1, y1.2.2.2)
def Gg (n : Nat) (x : List UInt8 × Bool × Bool × Unit) : Option (Bool) :=
 let k_0 : List UInt8 × Bool × Bool × Unit := x
 br k_0.2.2.1 (
  some (k_0.1 == [])) (
  some false)
def qA (n : Nat) (x : Int × List ((Bool × List (List (NdT) × Bool × Unit) × List (((Int × Int × Int × Unit) × (Int × Int × Int × Unit) × Bool × Unit) × Int × List UInt8 × List UInt8 × Int × Int × Int × List (List UInt8 × Int × Unit) × Bool × Bool × Unit) × Unit) × Bool × List (List UInt8) × Bool × Unit) × List (Bool) × Bool × List (Int × Int × Int × Int × Int × List UInt8 × List UInt8 × Bool × Bool × Bool × List (Bool × Int × Unit) × List (List UInt8 × Bool × Unit) × Unit) × List (Bool) × List (List (List UInt8 × Bool × Unit)) × List (List UInt8 × Bool × Bool × Unit) × List (List UInt8 × Bool × Unit) × List (List UInt8 × List UInt8 × Unit) × List (Int) × Int × Int × Int × Unit) : Option (Bool × List ((Bool × List (List (NdT) × Bool × Unit) × List (((Int × Int × Int × Unit) × (Int × Int × Int × Unit) × Bool × Unit) × Int × List UInt8 × List UInt8 × Int × Int × Int × List (List UInt8 × Int × Unit) × Bool × Bool × Unit) × Unit) × Bool × List (List UInt8) × Bool × Unit) × List (Bool) × Bool × List (Int × Int × Int × Int × Int × List UInt8 × List UInt8 × Bool × Bool × Bool × List (Bool × Int × Unit) × List (List UInt8 × Bool × Unit) × Unit) × List (Bool) × List (List (List UInt8 × Bool × Unit)) × List (List UInt8 × Bool × Bool × Unit) × List (List UInt8 × Bool × Unit) × List (List UInt8 × List UInt8 × Unit) × List (Int) × Int × Int × Int × Unit) :=
 let i_1 : Int := x.1
 let tH : List ((Bool × List (List (NdT) × Bool × Unit) × List (((Int × Int × Int × Unit) × (Int × Int × Int × Unit) × Bool × Unit) × Int × List UInt8 × List UInt8 × Int × Int × Int × List (List UInt8 × Int × Unit) × Bool × Bool × Unit) × Unit) × Bool × List (List UInt8) × Bool × Unit) := x.2.1
 let uZ : List (Bool) := x.2.2.1
 let Tn : Bool := x.2.2.2.1
 let rO : List (Int × Int × Int × Int × Int × List UInt8 × List UInt8 × Bool × Bool × Bool × List (Bool × Int × Unit) × List (List UInt8 × Bool × Unit) × Unit) := x.2.2.2.2.1
 let Jv : List (Bool) := x.2.2.2.2.2.1
 let zEa : List (List (List UInt8 × Bool × Unit)) := x.2.2.2.2.2.2.1
 let Jw : List (List UInt8 × Bool × Bool × Unit) := x.2.2.2.2.2.2.2.1
 let zEb : List (List UInt8 × Bool × Unit) := x.2.2.2.2.2.2.2.2.1
 let Cq : List (List UInt8 × List UInt8 × Unit) := x.2.2.2.2.2.2.2.2.2.1
 let yQ : List (Int) := x.2.2.2.2.2.2.2.2.2.2.1
 let Cr : Int := x.2.2.2.2.2.2.2.2.2.2.2.1
 let Jy : Int := x.2.2.2.2.2.2.2.2.2.2.2.2.1
 let Jz : Int := x.2.2.2.2.2.2.2.2.2.2.2.2.2.1
 chk (inB i_1 tH.length) (
  let v15 : (Bool × List (List (NdT) × Bool × Unit) × List (((Int × Int × Int × Unit) × (Int × Int × Int × Unit) × Bool × Unit) × Int × List UInt8 × List UInt8 × Int × Int × Int × List (List UInt8 × Int × Unit) × Bool × Bool × Unit) × Unit) × Bool × List (List UInt8) × Bool × Unit := bD (Ty.dflt aH) tH i_1
  ob (oI n (i_1, tH, uZ, Tn, rO, Jv, zEa, Jw, zEb, Cq, yQ, Cr, Jy, Jz, ())) fun y16 =>
  br y16.1 (
   some (false, y16.2.1, y16.2.2.1, y16.2.2.2.1, y16.2.2.2.2.1, y16.2.2.2.2.2.1, y16.2.2.2.2.2.2.1, y16.2.2.2.2.2.2.2.1, y16.2.2.2.2.2.2.2.2.1, y16.2.2.2.2.2.2.2.2.2.1, y16.2.2.2.2.2.2.2.2.2.2.1, y16.2.2.2.2.2.2.2.2.2.2.2.1, y16.2.2.2.2.2.2.2.2.2.2.2.2.1, y16.2.2.2.2.2.2.2.2.2.2.2.2.2.1, ())) (
   chk (inB i_1 y16.2.2.2.2.2.1.length) (
    let v17 : Bool := bD (Ty.dflt .bool) y16.2.2.2.2.2.1 i_1
    br (!v17) (
     br v15.2.2.2.1 (
      some (true, y16.2.1, y16.2.2.1, y16.2.2.2.1, y16.2.2.2.2.1, y16.2.2.2.2.2.1, y16.2.2.2.2.2.2.1, y16.2.2.2.2.2.2.2.1, y16.2.2.2.2.2.2.2.2.1, y16.2.2.2.2.2.2.2.2.2.1, y16.2.2.2.2.2.2.2.2.2.2.1, y16.2.2.2.2.2.2.2.2.2.2.2.1, y16.2.2.2.2.2.2.2.2.2.2.2.2.1, y16.2.2.2.2.2.2.2.2.2.2.2.2.2.1, ())) (
      chk (inB i_1 y16.2.2.1.length) (
       let v18 : Bool := bD (Ty.dflt .bool) y16.2.2.1 i_1
       br (!v18) (
        some (true, y16.2.1, y16.2.2.1, y16.2.2.2.1, y16.2.2.2.2.1, y16.2.2.2.2.2.1, y16.2.2.2.2.2.2.1, y16.2.2.2.2.2.2.2.1, y16.2.2.2.2.2.2.2.2.1, y16.2.2.2.2.2.2.2.2.2.1, y16.2.2.2.2.2.2.2.2.2.2.1, y16.2.2.2.2.2.2.2.2.2.2.2.1, y16.2.2.2.2.2.2.2.2.2.2.2.2.1, y16.2.2.2.2.2.2.2.2.2.2.2.2.2.1, ())) (
        ob (nL n (i_1, y16.2.1, y16.2.2.1, y16.2.2.2.1, y16.2.2.2.2.1, y16.2.2.2.2.2.1, y16.2.2.2.2.2.2.1, y16.2.2.2.2.2.2.2.1, y16.2.2.2.2.2.2.2.2.1, y16.2.2.2.2.2.2.2.2.2.1, y16.2.2.2.2.2.2.2.2.2.2.1, y16.2.2.2.2.2.2.2.2.2.2.2.1, y16.2.2.2.2.2.2.2.2.2.2.2.2.1, y16.2.2.2.2.2.2.2.2.2.2.2.2.2.1, ())) fun y19 =>
        some (y19.1, y19.2.1, y19.2.2.1, y19.2.2.2.1, y19.2.2.2.2.1, y19.2.2.2.2.2.1, y19.2.2.2.2.2.2.1, y19.2.2.2.2.2.2.2.1, y19.2.2.2.2.2.2.2.2.1, y19.2.2.2.2.2.2.2.2.2.1, y19.2.2.2.2.2.2.2.2.2.2.1, y19.2.2.2.2.2.2.2.2.2.2.2.1, y19.2.2.2.2.2.2.2.2.2.2.2.2.1, y19.2.2.2.2.2.2.2.2.2.2.2.2.2.1, ()))))) (
     chk (inB i_1 y16.2.2.2.2.1.length) (
      let v20 : Int × Int × Int × Int × Int × List UInt8 × List UInt8 × Bool × Bool × Bool × List (Bool × Int × Unit) × List (List UInt8 × Bool × Unit) × Unit := bD (Ty.dflt aF) y16.2.2.2.2.1 i_1
      br (v20.1 == 1) (
       some (true, y16.2.1, y16.2.2.1, y16.2.2.2.1, y16.2.2.2.2.1, y16.2.2.2.2.2.1, y16.2.2.2.2.2.2.1, y16.2.2.2.2.2.2.2.1, y16.2.2.2.2.2.2.2.2.1, y16.2.2.2.2.2.2.2.2.2.1, y16.2.2.2.2.2.2.2.2.2.2.1, y16.2.2.2.2.2.2.2.2.2.2.2.1, y16.2.2.2.2.2.2.2.2.2.2.2.2.1, y16.2.2.2.2.2.2.2.2.2.2.2.2.2.1, ())) (
       br (decide ((v15.2.2.1.length : Int) > 0)) (
        some (true, y16.2.1, y16.2.2.1, y16.2.2.2.1, y16.2.2.2.2.1, y16.2.2.2.2.2.1, y16.2.2.2.2.2.2.1, y16.2.2.2.2.2.2.2.1, y16.2.2.2.2.2.2.2.2.1, y16.2.2.2.2.2.2.2.2.2.1, y16.2.2.2.2.2.2.2.2.2.2.1, y16.2.2.2.2.2.2.2.2.2.2.2.1, y16.2.2.2.2.2.2.2.2.2.2.2.2.1, y16.2.2.2.2.2.2.2.2.2.2.2.2.2.1, ())) (
        chk (inB i_1 y16.2.2.2.2.2.2.2.1.length) (
         let v21 : List UInt8 × Bool × Bool × Unit := bD (Ty.dflt eD) y16.2.2.2.2.2.2.2.1 i_1
         ob (Gf n v21) fun y22 =>
         br y22.2.2 (
          some (true, y16.2.1, y16.2.2.1, y16.2.2.2.1, y16.2.2.2.2.1, y16.2.2.2.2.2.1, y16.2.2.2.2.2.2.1, y16.2.2.2.2.2.2.2.1, y16.2.2.2.2.2.2.2.2.1, y16.2.2.2.2.2.2.2.2.2.1, y16.2.2.2.2.2.2.2.2.2.2.1, y16.2.2.2.2.2.2.2.2.2.2.2.1, y16.2.2.2.2.2.2.2.2.2.2.2.2.1, y16.2.2.2.2.2.2.2.2.2.2.2.2.2.1, ())) (
          chk (inB i_1 y16.2.2.2.2.2.2.2.1.length) (
           let v23 : List UInt8 × Bool × Bool × Unit := bD (Ty.dflt eD) y16.2.2.2.2.2.2.2.1 i_1
           ob (Gg n v23) fun y24 =>
           some (y24, y16.2.1, y16.2.2.1, y16.2.2.2.1, y16.2.2.2.2.1, y16.2.2.2.2.2.1, y16.2.2.2.2.2.2.1, y16.2.2.2.2.2.2.2.1, y16.2.2.2.2.2.2.2.2.1, y16.2.2.2.2.2.2.2.2.2.1, y16.2.2.2.2.2.2.2.2.2.2.1, y16.2.2.2.2.2.2.2.2.2.2.2.1, y16.2.2.2.2.2.2.2.2.2.2.2.2.1, y16.2.2.2.2.2.2.2.2.2.2.2.2.2.1, ())))))))))))
def Tp (n : Nat) (g0 : Int × List ((Bool × List (List (NdT) × Bool × Unit) × List (((Int × Int × Int × Unit) × (Int × Int × Int × Unit) × Bool × Unit) × Int × List UInt8 × List UInt8 × Int × Int × Int × List (List UInt8 × Int × Unit) × Bool × Bool × Unit) × Unit) × Bool × List (List UInt8) × Bool × Unit) × List (Bool) × Bool × List (Int × Int × Int × Int × Int × List UInt8 × List UInt8 × Bool × Bool × Bool × List (Bool × Int × Unit) × List (List UInt8 × Bool × Unit) × Unit) × List (Bool) × List (List (List UInt8 × Bool × Unit)) × List (List UInt8 × Bool × Bool × Unit) × List (List UInt8 × Bool × Unit) × List (List UInt8 × List UInt8 × Unit) × List (Int) × Int × Int × Int × Unit -> Option (Int)) (x2 : Int × List ((Bool × List (List (NdT) × Bool × Unit) × List (((Int × Int × Int × Unit) × (Int × Int × Int × Unit) × Bool × Unit) × Int × List UInt8 × List UInt8 × Int × Int × Int × List (List UInt8 × Int × Unit) × Bool × Bool × Unit) × Unit) × Bool × List (List UInt8) × Bool × Unit) × List (Bool) × Bool × List (Int × Int × Int × Int × Int × List UInt8 × List UInt8 × Bool × Bool × Bool × List (Bool × Int × Unit) × List (List UInt8 × Bool × Unit) × Unit) × List (Bool) × List (List (List UInt8 × Bool × Unit)) × List (List UInt8 × Bool × Bool × Unit) × List (List UInt8 × Bool × Unit) × List (List UInt8 × List UInt8 × Unit) × List (Int) × Int × Int × Int × Unit) : Option (Int) :=
 let i_3 : Int := x2.1
 let Ct : List ((Bool × List (List (NdT) × Bool × Unit) × List (((Int × Int × Int × Unit) × (Int × Int × Int × Unit) × Bool × Unit) × Int × List UInt8 × List UInt8 × Int × Int × Int × List (List UInt8 × Int × Unit) × Bool × Bool × Unit) × Unit) × Bool × List (List UInt8) × Bool × Unit) := x2.2.1
 let vB : List (Bool) := x2.2.2.1
 let Tq : Bool := x2.2.2.2.1
 let Kc : List (Int × Int × Int × Int × Int × List UInt8 × List UInt8 × Bool × Bool × Bool × List (Bool × Int × Unit) × List (List UInt8 × Bool × Unit) × Unit) := x2.2.2.2.2.1
 let Ke : List (Bool) := x2.2.2.2.2.2.1
 let zEd : List (List (List UInt8 × Bool × Unit)) := x2.2.2.2.2.2.2.1
 let Cu : List (List UInt8 × Bool × Bool × Unit) := x2.2.2.2.2.2.2.2.1
 let Tt : List (List UInt8 × Bool × Unit) := x2.2.2.2.2.2.2.2.2.1
 let Cv : List (List UInt8 × List UInt8 × Unit) := x2.2.2.2.2.2.2.2.2.2.1
 let yR : List (Int) := x2.2.2.2.2.2.2.2.2.2.2.1
 let Cw : Int := x2.2.2.2.2.2.2.2.2.2.2.2.1
 let Kg : Int := x2.2.2.2.2.2.2.2.2.2.2.2.2.1
 let Kh : Int := x2.2.2.2.2.2.2.2.2.2.2.2.2.2.1
 br (decide (i_3 ≥ 0)) (
  ob (qA n (i_3, Ct, vB, Tq, Kc, Ke, zEd, Cu, Tt, Cv, yR, Cw, Kg, Kh, ())) fun y17 =>
  br y17.1 (
   some i_3) (
   let v18 : Int := IntKind.wrap .i64 (i_3 - 1)
   g0 (v18, y17.2.1, y17.2.2.1, y17.2.2.2.1, y17.2.2.2.2.1, y17.2.2.2.2.2.1, y17.2.2.2.2.2.2.1, y17.2.2.2.2.2.2.2.1, y17.2.2.2.2.2.2.2.2.1, y17.2.2.2.2.2.2.2.2.2.1, y17.2.2.2.2.2.2.2.2.2.2.1, y17.2.2.2.2.2.2.2.2.2.2.2.1, y17.2.2.2.2.2.2.2.2.2.2.2.2.1, y17.2.2.2.2.2.2.2.2.2.2.2.2.2.1, ()))) (
  some (-1))
def Ki (n : Nat) (x : List ((Bool × List (List (NdT) × Bool × Unit) × List (((Int × Int × Int × Unit) × (Int × Int × Int × Unit) × Bool × Unit) × Int × List UInt8 × List UInt8 × Int × Int × Int × List (List UInt8 × Int × Unit) × Bool × Bool × Unit) × Unit) × Bool × List (List UInt8) × Bool × Unit) × List (Bool) × Bool × List (Int × Int × Int × Int × Int × List UInt8 × List UInt8 × Bool × Bool × Bool × List (Bool × Int × Unit) × List (List UInt8 × Bool × Unit) × Unit) × List (Bool) × List (List (List UInt8 × Bool × Unit)) × List (List UInt8 × Bool × Bool × Unit) × List (List UInt8 × Bool × Unit) × List (List UInt8 × List UInt8 × Unit) × List (Int) × Int × Int × Int × Unit) : Option (Int) :=
 let m_0 : List ((Bool × List (List (NdT) × Bool × Unit) × List (((Int × Int × Int × Unit) × (Int × Int × Int × Unit) × Bool × Unit) × Int × List UInt8 × List UInt8 × Int × Int × Int × List (List UInt8 × Int × Unit) × Bool × Bool × Unit) × Unit) × Bool × List (List UInt8) × Bool × Unit) × List (Bool) × Bool × List (Int × Int × Int × Int × Int × List UInt8 × List UInt8 × Bool × Bool × Bool × List (Bool × Int × Unit) × List (List UInt8 × Bool × Unit) × Unit) × List (Bool) × List (List (List UInt8 × Bool × Unit)) × List (List UInt8 × Bool × Bool × Unit) × List (List UInt8 × Bool × Unit) × List (List UInt8 × List UInt8 × Unit) × List (Int) × Int × Int × Int × Unit := x
 let v1 : Int := IntKind.wrap .i64 ((m_0.1.length : Int) - 1)
 fix (Tp n) n (v1, m_0.1, m_0.2.1, m_0.2.2.1, m_0.2.2.2.1, m_0.2.2.2.2.1, m_0.2.2.2.2.2.1, m_0.2.2.2.2.2.2.1, m_0.2.2.2.2.2.2.2.1, m_0.2.2.2.2.2.2.2.2.1, m_0.2.2.2.2.2.2.2.2.2.1, m_0.2.2.2.2.2.2.2.2.2.2.1, m_0.2.2.2.2.2.2.2.2.2.2.2.1, m_0.2.2.2.2.2.2.2.2.2.2.2.2.1, ())
def Vu (n : Nat) (g0 : Int × Int × List ((Bool × List (List (NdT) × Bool × Unit) × List (((Int × Int × Int × Unit) × (Int × Int × Int × Unit) × Bool × Unit) × Int × List UInt8 × List UInt8 × Int × Int × Int × List (List UInt8 × Int × Unit) × Bool × Bool × Unit) × Unit) × Bool × List (List UInt8) × Bool × Unit) × List (Bool) × Bool × List (Int × Int × Int × Int × Int × List UInt8 × List UInt8 × Bool × Bool × Bool × List (Bool × Int × Unit) × List (List UInt8 × Bool × Unit) × Unit) × List (Bool) × List (List (List UInt8 × Bool × Unit)) × List (List UInt8 × Bool × Bool × Unit) × List (List UInt8 × Bool × Unit) × List (List UInt8 × List UInt8 × Unit) × List (Int) × Int × Int × Int × List ((Bool × List (List (NdT) × Bool × Unit) × List (((Int × Int × Int × Unit) × (Int × Int × Int × Unit) × Bool × Unit) × Int × List UInt8 × List UInt8 × Int × Int × Int × List (List UInt8 × Int × Unit) × Bool × Bool × Unit) × Unit) × Bool × List (List UInt8) × Bool × Unit) × List (Bool) × Bool × List (Bool) × List (List (List UInt8 × Bool × Unit)) × List (List UInt8 × Bool × Bool × Unit) × List (List UInt8 × List UInt8 × Unit) × List (Int) × Int × Int × Int × List (Int × Int × Int × Int × Int × List UInt8 × List UInt8 × Bool × Bool × Bool × List (Bool × Int × Unit) × List (List UInt8 × Bool × Unit) × Unit) × List (List UInt8 × Bool × Unit) × Unit -> Option ((List ((Bool × List (List (NdT) × Bool × Unit) × List (((Int × Int × Int × Unit) × (Int × Int × Int × Unit) × Bool × Unit) × Int × List UInt8 × List UInt8 × Int × Int × Int × List (List UInt8 × Int × Unit) × Bool × Bool × Unit) × Unit) × Bool × List (List UInt8) × Bool × Unit) × List (Bool) × Bool × List (Int × Int × Int × Int × Int × List UInt8 × List UInt8 × Bool × Bool × Bool × List (Bool × Int × Unit) × List (List UInt8 × Bool × Unit) × Unit) × List (Bool) × List (List (List UInt8 × Bool × Unit)) × List (List UInt8 × Bool × Bool × Unit) × List (List UInt8 × Bool × Unit) × List (List UInt8 × List UInt8 × Unit) × List (Int) × Int × Int × Int × Unit) × Int)) (x1 : Int × Int × List ((Bool × List (List (NdT) × Bool × Unit) × List (((Int × Int × Int × Unit) × (Int × Int × Int × Unit) × Bool × Unit) × Int × List UInt8 × List UInt8 × Int × Int × Int × List (List UInt8 × Int × Unit) × Bool × Bool × Unit) × Unit) × Bool × List (List UInt8) × Bool × Unit) × List (Bool) × Bool × List (Int × Int × Int × Int × Int × List UInt8 × List UInt8 × Bool × Bool × Bool × List (Bool × Int × Unit) × List (List UInt8 × Bool × Unit) × Unit) × List (Bool) × List (List (List UInt8 × Bool × Unit)) × List (List UInt8 × Bool × Bool × Unit) × List (List UInt8 × Bool × Unit) × List (List UInt8 × List UInt8 × Unit) × List (Int) × Int × Int × Int × List ((Bool × List (List (NdT) × Bool × Unit) × List (((Int × Int × Int × Unit) × (Int × Int × Int × Unit) × Bool × Unit) × Int × List UInt8 × List UInt8 × Int × Int × Int × List (List UInt8 × Int × Unit) × Bool × Bool × Unit) × Unit) × Bool × List (List UInt8) × Bool × Unit) × List (Bool) × Bool × List (Bool) × List (List (List UInt8 × Bool × Unit)) × List (List UInt8 × Bool × Bool × Unit) × List (List UInt8 × List UInt8 × Unit) × List (Int) × Int × Int × Int × List (Int × Int × Int × Int × Int × List UInt8 × List UInt8 × Bool × Bool × Bool × List (Bool × Int × Unit) × List (List UInt8 × Bool × Unit) × Unit) × List (List UInt8 × Bool × Unit) × Unit) : Option ((List ((Bool × List (List (NdT) × Bool × Unit) × List (((Int × Int × Int × Unit) × (Int × Int × Int × Unit) × Bool × Unit) × Int × List UInt8 × List UInt8 × Int × Int × Int × List (List UInt8 × Int × Unit) × Bool × Bool × Unit) × Unit) × Bool × List (List UInt8) × Bool × Unit) × List (Bool) × Bool × List (Int × Int × Int × Int × Int × List UInt8 × List UInt8 × Bool × Bool × Bool × List (Bool × Int × Unit) × List (List UInt8 × Bool × Unit) × Unit) × List (Bool) × List (List (List UInt8 × Bool × Unit)) × List (List UInt8 × Bool × Bool × Unit) × List (List UInt8 × Bool × Unit) × List (List UInt8 × List UInt8 × Unit) × List (Int) × Int × Int × Int × Unit) × Int) :=
 let yS : Int := x1.1
 let n_3 : Int := x1.2.1
 let Ct : List ((Bool × List (List (NdT) × Bool × Unit) × List (((Int × Int × Int × Unit) × (Int × Int × Int × Unit) × Bool × Unit) × Int × List UInt8 × List UInt8 × Int × Int × Int × List (List UInt8 × Int × Unit) × Bool × Bool × Unit) × Unit) × Bool × List (List UInt8) × Bool × Unit) := x1.2.2.1
 let vB : List (Bool) := x1.2.2.2.1
 let Tq : Bool := x1.2.2.2.2.1
 let Kc : List (Int × Int × Int × Int × Int × List UInt8 × List UInt8 × Bool × Bool × Bool × List (Bool × Int × Unit) × List (List UInt8 × Bool × Unit) × Unit) := x1.2.2.2.2.2.1
 let Ke : List (Bool) := x1.2.2.2.2.2.2.1
 let zEd : List (List (List UInt8 × Bool × Unit)) := x1.2.2.2.2.2.2.2.1
 let Cu : List (List UInt8 × Bool × Bool × Unit) := x1.2.2.2.2.2.2.2.2.1
 let Tt : List (List UInt8 × Bool × Unit) := x1.2.2.2.2.2.2.2.2.2.1
 let Cv : List (List UInt8 × List UInt8 × Unit) := x1.2.2.2.2.2.2.2.2.2.2.1
 let yR : List (Int) := x1.2.2.2.2.2.2.2.2.2.2.2.1
 let Cw : Int := x1.2.2.2.2.2.2.2.2.2.2.2.2.1
 let Kg : Int := x1.2.2.2.2.2.2.2.2.2.2.2.2.2.1
 let Kh : Int := x1.2.2.2.2.2.2.2.2.2.2.2.2.2.2.1
 let zRs : List ((Bool × List (List (NdT) × Bool × Unit) × List (((Int × Int × Int × Unit) × (Int × Int × Int × Unit) × Bool × Unit) × Int × List UInt8 × List UInt8 × Int × Int × Int × List (List UInt8 × Int × Unit) × Bool × Bool × Unit) × Unit) × Bool × List (List UInt8) × Bool × Unit) := x1.2.2.2.2.2.2.2.2.2.2.2.2.2.2.2.1
 let zLw : List (Bool) := x1.2.2.2.2.2.2.2.2.2.2.2.2.2.2.2.2.1
 let zZl : Bool := x1.2.2.2.2.2.2.2.2.2.2.2.2.2.2.2.2.2.1
 let zVj : List (Bool) := x1.2.2.2.2.2.2.2.2.2.2.2.2.2.2.2.2.2.2.1
 let yAq : List (List (List UInt8 × Bool × Unit)) := x1.2.2.2.2.2.2.2.2.2.2.2.2.2.2.2.2.2.2.2.1
 let zVk : List (List UInt8 × Bool × Bool × Unit) := x1.2.2.2.2.2.2.2.2.2.2.2.2.2.2.2.2.2.2.2.2.1
 let zVl : List (List UInt8 × List UInt8 × Unit) := x1.2.2.2.2.2.2.2.2.2.2.2.2.2.2.2.2.2.2.2.2.2.1
 let zRt : List (Int) := x1.2.2.2.2.2.2.2.2.2.2.2.2.2.2.2.2.2.2.2.2.2.2.1
 let zVm : Int := x1.2.2.2.2.2.2.2.2.2.2.2.2.2.2.2.2.2.2.2.2.2.2.2.1
 let zZm : Int := x1.2.2.2.2.2.2.2.2.2.2.2.2.2.2.2.2.2.2.2.2.2.2.2.2.1
 let zZn : Int := x1.2.2.2.2.2.2.2.2.2.2.2.2.2.2.2.2.2.2.2.2.2.2.2.2.2.1
 let yAr : List (Int × Int × Int × Int × Int × List UInt8 × List UInt8 × Bool × Bool × Bool × List (Bool × Int × Unit) × List (List UInt8 × Bool × Unit) × Unit) := x1.2.2.2.2.2.2.2.2.2.2.2.2.2.2.2.2.2.2.2.2.2.2.2.2.2.2.1
 let Lx : List (List UInt8 × Bool × Unit) := x1.2.2.2.2.2.2.2.2.2.2.2.2.2.2.2.2.2.2.2.2.2.2.2.2.2.2.2.1
 ob (Ki n (Ct, (vB, (Tq, (Kc, (Ke, (zEd, (Cu, (Tt, (Cv, (yR, (Cw, (Kg, (Kh, ())))))))))))))) fun y30 =>
 br (y30 != (-1)) (
  br (decide (n_3 ≥ yS)) (
   some (([], ([], (false, ([], ([], ([], ([], ([], ([], ([], (0, (0, (0, ()))))))))))))), 4)) (
   ob (tF n (Ct, (vB, (Tq, (Kc, (Ke, (zEd, (Cu, (Tt, (Cv, (yR, (Cw, (Kg, (Kh, ())))))))))))))) fun y31 =>
   let v32 : Int := IntKind.wrap .i64 (n_3 + 1)
   g0 (yS, v32, y31.1, y31.2.1, y31.2.2.1, y31.2.2.2.1, y31.2.2.2.2.1, y31.2.2.2.2.2.1, y31.2.2.2.2.2.2.1, y31.2.2.2.2.2.2.2.1, y31.2.2.2.2.2.2.2.2.1, y31.2.2.2.2.2.2.2.2.2.1, y31.2.2.2.2.2.2.2.2.2.2.1, y31.2.2.2.2.2.2.2.2.2.2.2.1, y31.2.2.2.2.2.2.2.2.2.2.2.2.1, zRs, zLw, zZl, zVj, yAq, zVk, zVl, zRt, zVm, zZm, zZn, yAr, Lx, ()))) (
  some ((Ct, (vB, (Tq, (Kc, (Ke, (zEd, (Cu, (Tt, (Cv, (yR, (Cw, (Kg, (Kh, ()))))))))))))), 0))
def Gh (n : Nat) (x : (List ((Bool × List (List (NdT) × Bool × Unit) × List (((Int × Int × Int × Unit) × (Int × Int × Int × Unit) × Bool × Unit) × Int × List UInt8 × List UInt8 × Int × Int × Int × List (List UInt8 × Int × Unit) × Bool × Bool × Unit) × Unit) × Bool × List (List UInt8) × Bool × Unit) × List (Bool) × Bool × List (Int × Int × Int × Int × Int × List UInt8 × List UInt8 × Bool × Bool × Bool × List (Bool × Int × Unit) × List (List UInt8 × Bool × Unit) × Unit) × List (Bool) × List (List (List UInt8 × Bool × Unit)) × List (List UInt8 × Bool × Bool × Unit) × List (List UInt8 × Bool × Unit) × List (List UInt8 × List UInt8 × Unit) × List (Int) × Int × Int × Int × Unit) × Int) : Option ((List ((Bool × List (List (NdT) × Bool × Unit) × List (((Int × Int × Int × Unit) × (Int × Int × Int × Unit) × Bool × Unit) × Int × List UInt8 × List UInt8 × Int × Int × Int × List (List UInt8 × Int × Unit) × Bool × Bool × Unit) × Unit) × Bool × List (List UInt8) × Bool × Unit) × List (Bool) × Bool × List (Int × Int × Int × Int × Int × List UInt8 × List UInt8 × Bool × Bool × Bool × List (Bool × Int × Unit) × List (List UInt8 × Bool × Unit) × Unit) × List (Bool) × List (List (List UInt8 × Bool × Unit)) × List (List UInt8 × Bool × Bool × Unit) × List (List UInt8 × Bool × Unit) × List (List UInt8 × List UInt8 × Unit) × List (Int) × Int × Int × Int × Unit) × Int) :=
 let m_0 : List ((Bool × List (List (NdT) × Bool × Unit) × List (((Int × Int × Int × Unit) × (Int × Int × Int × Unit) × Bool × Unit) × Int × List UInt8 × List UInt8 × Int × Int × Int × List (List UInt8 × Int × Unit) × Bool × Bool × Unit) × Unit) × Bool × List (List UInt8) × Bool × Unit) × List (Bool) × Bool × List (Int × Int × Int × Int × Int × List UInt8 × List UInt8 × Bool × Bool × Bool × List (Bool × Int × Unit) × List (List UInt8 × Bool × Unit) × Unit) × List (Bool) × List (List (List UInt8 × Bool × Unit)) × List (List UInt8 × Bool × Bool × Unit) × List (List UInt8 × Bool × Unit) × List (List UInt8 × List UInt8 × Unit) × List (Int) × Int × Int × Int × Unit := x.1
 let zZo : Int := x.2
 fix (Vu n) n (zZo, 0, m_0.1, m_0.2.1, m_0.2.2.1, m_0.2.2.2.1, m_0.2.2.2.2.1, m_0.2.2.2.2.2.1, m_0.2.2.2.2.2.2.1, m_0.2.2.2.2.2.2.2.1, m_0.2.2.2.2.2.2.2.2.1, m_0.2.2.2.2.2.2.2.2.2.1, m_0.2.2.2.2.2.2.2.2.2.2.1, m_0.2.2.2.2.2.2.2.2.2.2.2.1, m_0.2.2.2.2.2.2.2.2.2.2.2.2.1, [], [], false, [], [], [], [], [], 0, 0, 0, [], [], ())
def bW (n : Nat) (x : List UInt8 × List (Int) × Unit) : Option (Int × Bool × List (Int) × Unit) :=
 let s_1 : List UInt8 := x.1
 let zDj : List (Int) := x.2.1
 ob (pJ n (zDj, ())) fun y3 =>
 chk (Nat.ble ((y3.1.length + s_1.length) * 1) room) (
  some ((s_1.length : Int), false, y3.1 ++ aO s_1, ()))
def jS (n : Nat) (g0 : List UInt8 × List (List UInt8 × Bool × Unit) × Int × Int × List (Int) × Unit -> Option (List UInt8)) (x1 : List UInt8 × List (List UInt8 × Bool × Unit) × Int × Int × List (Int) × Unit) : Option (List UInt8) :=
 let zTd : List UInt8 := x1.1
 let zLx : List (List UInt8 × Bool × Unit) := x1.2.1
 let zRu : Int := x1.2.2.1
 let zEe : Int := x1.2.2.2.1
 let Vr : List (Int) := x1.2.2.2.2.1
 br (decide (zEe < zRu)) (
  chk (inB zEe zLx.length) (
   let v7 : List UInt8 × Bool × Unit := bD (Ty.dflt bL) zLx zEe
   chk (decide (zTd.length + v7.1.length <= uO)) (
    ob (bW n (zTd ++ v7.1, Vr, ())) fun y8 =>
    br v7.2.1 (
     ob (bW n ([10], y8.2.2.1, ())) fun y9 =>
     let v10 : Int := IntKind.wrap .i64 (zEe + 1)
     g0 ([], zLx, zRu, v10, y9.2.2.1, ())) (
     let v11 : Int := IntKind.wrap .i64 (zEe + 1)
     g0 ([10], zLx, zRu, v11, y8.2.2.1, ()))))) (
  ob (Builder_String n (Vr, ())) fun y12 =>
  some y12.1)
def kK (n : Nat) (x : List (List UInt8 × Bool × Unit)) : Option (List UInt8) :=
 let l_0 : List (List UInt8 × Bool × Unit) := x
 fix (jS n) n ([], l_0, (l_0.length : Int), 0, [], ())
def uL (n : Nat) (x : List ((Bool × List (List (NdT) × Bool × Unit) × List (((Int × Int × Int × Unit) × (Int × Int × Int × Unit) × Bool × Unit) × Int × List UInt8 × List UInt8 × Int × Int × Int × List (List UInt8 × Int × Unit) × Bool × Bool × Unit) × Unit) × Bool × List (List UInt8) × Bool × Unit) × List UInt8 × List (List UInt8 × List UInt8 × Unit) × Bool × Int × Unit) : Option (List UInt8 × List (List UInt8 × List UInt8 × Unit) × List (Int) × Int × Int × Int × List UInt8 × List (List UInt8 × List UInt8 × Unit) × Bool × Int × Unit) :=
 let l_1 : List ((Bool × List (List (NdT) × Bool × Unit) × List (((Int × Int × Int × Unit) × (Int × Int × Int × Unit) × Bool × Unit) × Int × List UInt8 × List UInt8 × Int × Int × Int × List (List UInt8 × Int × Unit) × Bool × Bool × Unit) × Unit) × Bool × List (List UInt8) × Bool × Unit) := x.1
 let b2 : List UInt8 := x.2.1
 let b3 : List (List UInt8 × List UInt8 × Unit) := x.2.2.1
 let b4 : Bool := x.2.2.2.1
 let b5 : Int := x.2.2.2.2.1
 ob (yP n (l_1, b2, b3, b4)) fun y6 =>
 br (y6.2 != 0) (
  some ([], [], [], 0, 0, y6.2, b2, b3, b4, b5, ())) (
  ob (Gh n (y6.1, b5)) fun y7 =>
  ob (kK n y7.1.2.2.2.2.2.2.2.1) fun y8 =>
  let v9 : Int := y7.1.2.2.2.2.2.2.2.2.2.2.1
  some (y8, y7.1.2.2.2.2.2.2.2.2.1, y7.1.2.2.2.2.2.2.2.2.2.1, v9, 0, y7.2, b2, b3, b4, b5, ()))
def vC (n : Nat) (x : List UInt8 × List (List UInt8 × List UInt8 × Unit) × List (Int) × Int × Int × Unit) : Option (Int) :=
 let x_0 : List UInt8 × List (List UInt8 × List UInt8 × Unit) × List (Int) × Int × Int × Unit := x
 br (decide ((x_0.2.2.1.length : Int) > 0)) (
  let v1 : Int := IntKind.wrap .i64 ((x_0.2.2.1.length : Int) - 1)
  chk (inB v1 x_0.2.2.1.length) (
   let v2 : Int := bD (Ty.dflt (.int .i64)) x_0.2.2.1 v1
   some v2)) (
  some 0)
def fT (n : Nat) (x : List UInt8 × List (List UInt8 × List UInt8 × Unit) × List UInt8 × List (List UInt8 × List UInt8 × Unit) × Bool × Int × Unit) : Option (List UInt8 × List (List UInt8 × List UInt8 × Unit) × List (Int) × Int × Int × Int × Int × List UInt8 × List (List UInt8 × List UInt8 × Unit) × Bool × Int × Unit) :=
 let zEf : List UInt8 := x.1
 let t_2 : List (List UInt8 × List UInt8 × Unit) := x.2.1
 let b3 : List UInt8 := x.2.2.1
 let b4 : List (List UInt8 × List UInt8 × Unit) := x.2.2.2.1
 let b5 : Bool := x.2.2.2.2.1
 let b6 : Int := x.2.2.2.2.2.1
 ob (kS n (zEf, t_2)) fun y7 =>
 br (y7.2.2 != 0) (
  some ([], [], [], 0, 0, y7.2.1, y7.2.2, b3, b4, b5, b6, ())) (
  ob (uL n (y7.1, b3, b4, b5, b6, ())) fun y8 =>
  br (y8.2.2.2.2.2.1 != 0) (
   some ([], [], [], 0, 0, 0, y8.2.2.2.2.2.1, y8.2.2.2.2.2.2.1, y8.2.2.2.2.2.2.2.1, y8.2.2.2.2.2.2.2.2.1, y8.2.2.2.2.2.2.2.2.2.1, ())) (
   ob (vC n (y8.1, (y8.2.1, (y8.2.2.1, (y8.2.2.2.1, (y8.2.2.2.2.1, ())))))) fun y9 =>
   some (y8.1, y8.2.1, y8.2.2.1, y9, y8.2.2.2.1, 0, 0, y8.2.2.2.2.2.2.1, y8.2.2.2.2.2.2.2.1, y8.2.2.2.2.2.2.2.2.1, y8.2.2.2.2.2.2.2.2.2.1, ())))
def vD (n : Nat) (x : List UInt8 × List UInt8 × List (List UInt8 × List UInt8 × Unit) × Bool × Int) : Option ((List UInt8 × List (List UInt8 × List UInt8 × Unit) × List (Int) × Int × Int × Unit) × Int × Int) :=
 let zEg : List UInt8 := x.1
 let Pz : List UInt8 := x.2.1
 let t_2 : List (List UInt8 × List UInt8 × Unit) := x.2.2.1
 let zDz : Bool := x.2.2.2.1
 let zZp : Int := x.2.2.2.2
 ob (fT n (zEg, t_2, Pz, t_2, zDz, zZp, ())) fun y1 =>
 some ((y1.1, (y1.2.1, (y1.2.2.1, (y1.2.2.2.1, (y1.2.2.2.2.1, ()))))), y1.2.2.2.2.2.1, y1.2.2.2.2.2.2.1)
def Vv (n : Nat) (g0 : Int × Int × List ((Bool × List (List (NdT) × Bool × Unit) × List (((Int × Int × Int × Unit) × (Int × Int × Int × Unit) × Bool × Unit) × Int × List UInt8 × List UInt8 × Int × Int × Int × List (List UInt8 × Int × Unit) × Bool × Bool × Unit) × Unit) × Bool × List (List UInt8) × Bool × Unit) × Int × Int × List UInt8 × List (List UInt8 × List UInt8 × Unit) × Int × Int × List (Int) × Unit -> Option ((List UInt8 × List (List UInt8 × List UInt8 × Unit) × List (Int) × Int × Int × Unit) × Int)) (x1 : Int × Int × List ((Bool × List (List (NdT) × Bool × Unit) × List (((Int × Int × Int × Unit) × (Int × Int × Int × Unit) × Bool × Unit) × Int × List UInt8 × List UInt8 × Int × Int × Int × List (List UInt8 × Int × Unit) × Bool × Bool × Unit) × Unit) × Bool × List (List UInt8) × Bool × Unit) × Int × Int × List UInt8 × List (List UInt8 × List UInt8 × Unit) × Int × Int × List (Int) × Unit) : Option ((List UInt8 × List (List UInt8 × List UInt8 × Unit) × List (Int) × Int × Int × Unit) × Int) :=
 let yS : Int := x1.1
 let e_3 : Int := x1.2.1
 let zAe : List ((Bool × List (List (NdT) × Bool × Unit) × List (((Int × Int × Int × Unit) × (Int × Int × Int × Unit) × Bool × Unit) × Int × List UInt8 × List UInt8 × Int × Int × Int × List (List UInt8 × Int × Unit) × Bool × Bool × Unit) × Unit) × Bool × List (List UInt8) × Bool × Unit) := x1.2.2.1
 let zLy : Int := x1.2.2.2.1
 let Mg : Int := x1.2.2.2.2.1
 let Vw : List UInt8 := x1.2.2.2.2.2.1
 let Kj : List (List UInt8 × List UInt8 × Unit) := x1.2.2.2.2.2.2.1
 let yT : Int := x1.2.2.2.2.2.2.2.1
 let Ag : Int := x1.2.2.2.2.2.2.2.2.1
 let Gi : List (Int) := x1.2.2.2.2.2.2.2.2.2.1
 br (decide (Mg < zLy)) (
  chk (inB Mg zAe.length) (
   let v12 : (Bool × List (List (NdT) × Bool × Unit) × List (((Int × Int × Int × Unit) × (Int × Int × Int × Unit) × Bool × Unit) × Int × List UInt8 × List UInt8 × Int × Int × Int × List (List UInt8 × Int × Unit) × Bool × Bool × Unit) × Unit) × Bool × List (List UInt8) × Bool × Unit := bD (Ty.dflt aH) zAe Mg
   br (decide (Mg > 0)) (
    ob (jE n Vw) fun y13 =>
    let v14 : Int := IntKind.wrap .i64 (Ag + (y13.length : Int))
    let v15 : Int := IntKind.wrap .i64 (yS - yT)
    ob (oD n (v12, Vw, Kj, v15)) fun y16 =>
    br (y16.2 != 0) (
     br (y16.2 != 0) (
      some (([], ([], ([], (0, (0, ()))))), y16.2)) (
      some ((Vw, (Kj, (Gi, (yT, (v14, ()))))), 0))) (
     ob (kK n y16.1.1) fun y17 =>
     chk (Nat.ble ((Gi.length + ([y16.1.2.2.1] : List (Int)).length) * 8) room) (
      let v18 : Int := IntKind.wrap .i64 (yT + y16.1.2.2.2.1)
      let v19 : Int := IntKind.wrap .i64 (Mg + 1)
      g0 (yS, y16.2, zAe, zLy, v19, y17, y16.1.2.1, v18, v14, Gi ++ [y16.1.2.2.1], ())))) (
    let v20 : Int := IntKind.wrap .i64 (yS - yT)
    ob (oD n (v12, Vw, Kj, v20)) fun y21 =>
    br (y21.2 != 0) (
     br (y21.2 != 0) (
      some (([], ([], ([], (0, (0, ()))))), y21.2)) (
      some ((Vw, (Kj, (Gi, (yT, (Ag, ()))))), 0))) (
     ob (kK n y21.1.1) fun y22 =>
     chk (Nat.ble ((Gi.length + ([y21.1.2.2.1] : List (Int)).length) * 8) room) (
      let v23 : Int := IntKind.wrap .i64 (yT + y21.1.2.2.2.1)
      let v24 : Int := IntKind.wrap .i64 (Mg + 1)
      g0 (yS, y21.2, zAe, zLy, v24, y22, y21.1.2.1, v23, Ag, Gi ++ [y21.1.2.2.1], ())))))) (
  br (e_3 != 0) (
   some (([], ([], ([], (0, (0, ()))))), e_3)) (
   some ((Vw, (Kj, (Gi, (yT, (Ag, ()))))), 0)))
def Gj (n : Nat) (x : List ((Bool × List (List (NdT) × Bool × Unit) × List (((Int × Int × Int × Unit) × (Int × Int × Int × Unit) × Bool × Unit) × Int × List UInt8 × List UInt8 × Int × Int × Int × List (List UInt8 × Int × Unit) × Bool × Bool × Unit) × Unit) × Bool × List (List UInt8) × Bool × Unit) × List UInt8 × List (List UInt8 × List UInt8 × Unit) × Int) : Option ((List UInt8 × List (List UInt8 × List UInt8 × Unit) × List (Int) × Int × Int × Unit) × Int) :=
 let l_0 : List ((Bool × List (List (NdT) × Bool × Unit) × List (((Int × Int × Int × Unit) × (Int × Int × Int × Unit) × Bool × Unit) × Int × List UInt8 × List UInt8 × Int × Int × Int × List (List UInt8 × Int × Unit) × Bool × Bool × Unit) × Unit) × Bool × List (List UInt8) × Bool × Unit) := x.1
 let Pz : List UInt8 := x.2.1
 let t_2 : List (List UInt8 × List UInt8 × Unit) := x.2.2.1
 let zEh : Int := x.2.2.2
 br (decide ((l_0.length : Int) > 8)) (
  some (([], ([], ([], (0, (0, ()))))), 2)) (
  fix (Vv n) n (zEh, 0, l_0, (l_0.length : Int), 0, Pz, t_2, 0, 0, [], ()))
def rP (n : Nat) (x : List ((Bool × List (List (NdT) × Bool × Unit) × List (((Int × Int × Int × Unit) × (Int × Int × Int × Unit) × Bool × Unit) × Int × List UInt8 × List UInt8 × Int × Int × Int × List (List UInt8 × Int × Unit) × Bool × Bool × Unit) × Unit) × Bool × List (List UInt8) × Bool × Unit) × List UInt8 × List (List UInt8 × List UInt8 × Unit) × Int × Unit) : Option (List UInt8 × List (List UInt8 × List UInt8 × Unit) × List (Int) × Int × Int × Int × List UInt8 × List (List UInt8 × List UInt8 × Unit) × Int × Unit) :=
 let l_1 : List ((Bool × List (List (NdT) × Bool × Unit) × List (((Int × Int × Int × Unit) × (Int × Int × Int × Unit) × Bool × Unit) × Int × List UInt8 × List UInt8 × Int × Int × Int × List (List UInt8 × Int × Unit) × Bool × Bool × Unit) × Unit) × Bool × List (List UInt8) × Bool × Unit) := x.1
 let b2 : List UInt8 := x.2.1
 let b3 : List (List UInt8 × List UInt8 × Unit) := x.2.2.1
 let b4 : Int := x.2.2.2.1
 ob (Gj n (l_1, b2, b3, b4)) fun y5 =>
 some (y5.1.1, y5.1.2.1, y5.1.2.2.1, y5.1.2.2.2.1, y5.1.2.2.2.2.1, y5.2, b2, b3, b4, ())
def fE (n : Nat) (x : List UInt8 × List (List UInt8 × List UInt8 × Unit) × List UInt8 × List (List UInt8 × List UInt8 × Unit) × Int × Unit) : Option (List UInt8 × List (List UInt8 × List UInt8 × Unit) × List (Int) × Int × Int × Int × Int × List UInt8 × List (List UInt8 × List UInt8 × Unit) × Int × Unit) :=
 let zEf : List UInt8 := x.1
 let t_2 : List (List UInt8 × List UInt8 × Unit) := x.2.1
 let b3 : List UInt8 := x.2.2.1
 let b4 : List (List UInt8 × List UInt8 × Unit) := x.2.2.2.1
 let b5 : Int := x.2.2.2.2.1
 ob (kS n (zEf, t_2)) fun y6 =>
 br (y6.2.2 != 0) (
  some ([], [], [], 0, 0, y6.2.1, y6.2.2, b3, b4, b5, ())) (
  ob (rP n (y6.1, b3, b4, b5, ())) fun y7 =>
  br (y7.2.2.2.2.2.1 != 0) (
   some ([], [], [], 0, 0, 0, y7.2.2.2.2.2.1, y7.2.2.2.2.2.2.1, y7.2.2.2.2.2.2.2.1, y7.2.2.2.2.2.2.2.2.1, ())) (
   ob (vC n (y7.1, (y7.2.1, (y7.2.2.1, (y7.2.2.2.1, (y7.2.2.2.2.1, ())))))) fun y8 =>
   some (y7.1, y7.2.1, y7.2.2.1, y8, y7.2.2.2.1, 0, 0, y7.2.2.2.2.2.2.1, y7.2.2.2.2.2.2.2.1, y7.2.2.2.2.2.2.2.2.1, ())))
def rQ (n : Nat) (x : List UInt8 × List UInt8 × List (List UInt8 × List UInt8 × Unit) × Int) : Option ((List UInt8 × List (List UInt8 × List UInt8 × Unit) × List (Int) × Int × Int × Unit) × Int × Int) :=
 let zEg : List UInt8 := x.1
 let Pz : List UInt8 := x.2.1
 let t_2 : List (List UInt8 × List UInt8 × Unit) := x.2.2.1
 let zEh : Int := x.2.2.2
 ob (fE n (zEg, t_2, Pz, t_2, zEh, ())) fun y1 =>
 some ((y1.1, (y1.2.1, (y1.2.2.1, (y1.2.2.2.1, (y1.2.2.2.2.1, ()))))), y1.2.2.2.2.2.1, y1.2.2.2.2.2.2.1)
def kW (n : Nat) (g0 : List (List UInt8 × List UInt8 × Unit) × Int × List (List UInt8 × List UInt8 × Unit) × Unit -> Option (List (List UInt8 × List UInt8 × Unit))) (x1 : List (List UInt8 × List UInt8 × Unit) × Int × List (List UInt8 × List UInt8 × Unit) × Unit) : Option (List (List UInt8 × List UInt8 × Unit)) :=
 let t_2 : List (List UInt8 × List UInt8 × Unit) := x1.1
 let i_3 : Int := x1.2.1
 let mK : List (List UInt8 × List UInt8 × Unit) := x1.2.2.1
 br (decide (i_3 < (t_2.length : Int))) (
  chk (inB i_3 t_2.length) (
   let v5 : List UInt8 × List UInt8 × Unit := bD (Ty.dflt aU) t_2 i_3
   chk (Nat.ble ((mK.length + ([v5] : List (List UInt8 × List UInt8 × Unit)).length) * 32) room) (
    let v6 : Int := IntKind.wrap .i64 (i_3 + 1)
    g0 (t_2, v6, mK ++ [v5], ())))) (
  some mK)
def oU (n : Nat) (x : List (List UInt8 × List UInt8 × Unit)) : Option (List (List UInt8 × List UInt8 × Unit)) :=
 let t_0 : List (List UInt8 × List UInt8 × Unit) := x
 fix (kW n) n (t_0, 0, [], ())
def lY (n : Nat) (g0 : List (List UInt8 × List UInt8 × Unit) × List (List UInt8 × List UInt8 × Unit) × Int × Unit -> Option (Bool)) (x1 : List (List UInt8 × List UInt8 × Unit) × List (List UInt8 × List UInt8 × Unit) × Int × Unit) : Option (Bool) :=
 let a_2 : List (List UInt8 × List UInt8 × Unit) := x1.1
 let b_3 : List (List UInt8 × List UInt8 × Unit) := x1.2.1
 let i_4 : Int := x1.2.2.1
 br (decide (i_4 < (a_2.length : Int))) (
  chk (inB i_4 a_2.length) (
   let v5 : List UInt8 × List UInt8 × Unit := bD (Ty.dflt aU) a_2 i_4
   chk (inB i_4 b_3.length) (
    let v6 : List UInt8 × List UInt8 × Unit := bD (Ty.dflt aU) b_3 i_4
    br (!(Ty.beq aU v5 v6)) (
     some false) (
     let v7 : Int := IntKind.wrap .i64 (i_4 + 1)
     g0 (a_2, b_3, v7, ()))))) (
  some true)
def rR (n : Nat) (x : List (List UInt8 × List UInt8 × Unit) × List (List UInt8 × List UInt8 × Unit)) : Option (Bool) :=
 let a_0 : List (List UInt8 × List UInt8 × Unit) := x.1
 let b_1 : List (List UInt8 × List UInt8 × Unit) := x.2
 br ((a_0.length : Int) != (b_1.length : Int)) (
  some false) (
  fix (lY n) n (a_0, b_1, 0, ()))
def fO (n : Nat) (g1 : List UInt8 × List (Bool) × List (List UInt8 × List UInt8 × Unit) × List UInt8 × Int × Unit -> Option (Bool)) (x16 : List UInt8 × List (Bool) × List (List UInt8 × List UInt8 × Unit) × List UInt8 × Int × Unit) : Option (Bool) :=
 let Mh : List UInt8 := x16.1
 let vE : List (Bool) := x16.2.1
 let zEi : List (List UInt8 × List UInt8 × Unit) := x16.2.2.1
 let xC : List UInt8 := x16.2.2.2.1
 let zEj : Int := x16.2.2.2.2.1
 br (decide (zEj < (vE.length : Int))) (
  chk (inB zEj vE.length) (
   let v22 : Bool := bD (Ty.dflt .bool) vE zEj
   br v22 (
    chk (decide (xC.length + ([32] : List UInt8).length <= uO)) (
     let v23 : Int := IntKind.wrap .i64 (zEj + 1)
     g1 (Mh, vE, zEi, xC ++ [32], v23, ()))) (
    chk (decide (xC.length + ([9] : List UInt8).length <= uO)) (
     let v24 : Int := IntKind.wrap .i64 (zEj + 1)
     g1 (Mh, vE, zEi, xC ++ [9], v24, ()))))) (
  ob (vD n (xC, Mh, zEi, false, 0)) fun y25 =>
  ob (rQ n (xC, Mh, zEi, 0)) fun y26 =>
  br (y25.2.2 == 0) (
   br (y26.2.2 == 0) (
    br (y25.2.1 == 0) (
     br (y26.2.1 == 0) (
      br (y25.1.1 == Mh) (
       br (y26.1.1 == Mh) (
        br (y25.1.2.2.2.1 == 0) (
         let v27 : Int := (y25.1.2.2.1.length : Int)
         let v28 : Int := (y26.1.2.2.1.length : Int)
         let v29 : Int := IntKind.wrap .i64 (v27 + v28)
         br (v29 == 0) (
          ob (oU n y25.1.2.1) fun y30 =>
          ob (oU n zEi) fun y31 =>
          ob (rR n (y30, y31)) fun y32 =>
          some y32) (
          some false)) (
         some false)) (
        some false)) (
       some false)) (
      some false)) (
     some false)) (
    some false)) (
   some false))
def iM (n : Nat) (g0 : List UInt8 × List (Bool) × List (List UInt8 × List UInt8 × Unit) × Int × Unit -> Option (Bool)) (x6 : List UInt8 × List (Bool) × List (List UInt8 × List UInt8 × Unit) × Int × Unit) : Option (Bool) :=
 let zZq : List UInt8 := x6.1
 let zEk : List (Bool) := x6.2.1
 let t_9 : List (List UInt8 × List UInt8 × Unit) := x6.2.2.1
 let Vx : Int := x6.2.2.2.1
 br (decide (Vx < (t_9.length : Int))) (
  chk (inB Vx t_9.length) (
   let v11 : List UInt8 × List UInt8 × Unit := bD (Ty.dflt aU) t_9 Vx
   br (decide ((v11.1.length : Int) > 100)) (
    ob (shown22 n ()) fun y12 =>
    some y12) (
    chk (inB Vx t_9.length) (
     let v13 : List UInt8 × List UInt8 × Unit := bD (Ty.dflt aU) t_9 Vx
     br (decide ((v13.2.1.length : Int) > 300)) (
      ob (shown22 n ()) fun y14 =>
      some y14) (
      let v15 : Int := IntKind.wrap .i64 (Vx + 1)
      g0 (zZq, zEk, t_9, v15, ())))))) (
  fix (fO n) n (zZq, zEk, t_9, [], 0, ()))
def rT (n : Nat) (x : List UInt8 × List (Bool) × List (List UInt8 × List UInt8 × Unit)) : Option (Bool) :=
 let zZr : List UInt8 := x.1
 let zEl : List (Bool) := x.2.1
 let t_2 : List (List UInt8 × List UInt8 × Unit) := x.2.2
 br (decide ((zZr.length : Int) > 300)) (
  ob (shown22 n ()) fun y1 =>
  some y1) (
  br (decide ((zEl.length : Int) > 40)) (
   ob (shown22 n ()) fun y2 =>
   some y2) (
   br (decide ((t_2.length : Int) > 20)) (
    ob (shown22 n ()) fun y3 =>
    some y3) (
    ob (shown22 n ()) fun y4 =>
    br (!y4) (
     ob (shown22 n ()) fun y5 =>
     some y5) (
     fix (iM n) n (zZr, zEl, t_2, 0, ())))))
end Go.Dec
