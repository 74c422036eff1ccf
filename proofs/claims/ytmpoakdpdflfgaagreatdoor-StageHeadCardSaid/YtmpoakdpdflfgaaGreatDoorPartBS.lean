/- Part of a proof over this seat: a library of my own, and what it says of this seat. No statement is proved here. -/
import Derived.Test.YtmpoakdpdflfgaaGreatDoorPartAJ
import Derived.Test.YtmpoakdpdflfgaaGreatDoorPartBJ
import Derived.Test.YtmpoakdpdflfgaaGreatDoorPartBO
namespace Go.Dec
noncomputable section
set_option linter.unusedVariables false
abbrev zU:Ty:=.pair (.int .i64) (.pair (.arr 4 (.int .u64)) (.pair (.int .i64) (.pair (.int .i64) (.pair (.int .i64) (.pair (.int .i64) (.pair (.int .i64) .unit))))))
abbrev aH:Ty:=.pair (.slice zU) (.pair .bool .unit)
abbrev Dz:Ty:=.pair (.int .i64) (.pair (.int .i64) (.pair (.int .i64) .unit))
abbrev Ea:Ty:=.pair Dz (.pair Dz (.pair .bool .unit))
abbrev Nw:Ty:=.pair .str (.pair (.int .i64) .unit)
abbrev aB:Ty:=.pair Ea (.pair (.int .u8) (.pair .str (.pair .str (.pair (.int .i64) (.pair (.int .i64) (.pair (.int .i64) (.pair (.slice Nw) (.pair .bool (.pair .bool .unit)))))))))
abbrev qQ:Ty:=.pair .bool (.pair (.slice aH) (.pair (.slice aB) .unit))
abbrev Cn:Ty:=.pair qQ (.pair .bool (.pair (.slice .str) (.pair .bool .unit)))
abbrev aI:Ty:=.pair .str (.pair .bool .unit)
abbrev bI:Ty:=.pair .str (.pair .str .unit)
abbrev Bo:Ty:=.pair (.slice aI) (.pair (.slice bI) (.pair (.int .i64) (.pair (.int .i64) .unit)))
abbrev bY:Ty:=.pair .bool (.pair (.int .i64) .unit)
abbrev bF:Ty:=.pair (.int .i64) (.pair (.int .i64) (.pair (.int .i64) (.pair (.int .i64) (.pair (.int .i64) (.pair .str (.pair .str (.pair .bool (.pair .bool (.pair .bool (.pair (.slice bY) (.pair (.slice aI) .unit)))))))))))
abbrev zIj:Ty:=.pair bF (.pair qQ (.pair .bool (.pair (.slice bI) (.pair (.slice aI) .unit))))
abbrev zZo:Ty:=.pair (.int .i64) (.pair .bool (.pair (.slice .bool) .unit))
abbrev NdT:Type:=Int × List (Int) × Int × Int × Int × Int × Int × Unit
def Cq (n : Nat) (x : List UInt8 × List UInt8 × List UInt8 × Unit) : Option (Bool × List UInt8 × Unit) :=
 let f_1 : List UInt8 := x.1
 let f_2 : List UInt8 := x.2.1
 let b3 : List UInt8 := x.2.2.1
 some ((f_1 == b3), b3, ())
def mK (n : Nat) (g0 : List (List UInt8 × List UInt8 × Unit) × Int × Int × List UInt8 × Unit -> Option (Int × List UInt8 × Unit)) (x3 : List (List UInt8 × List UInt8 × Unit) × Int × Int × List UInt8 × Unit) : Option (Int × List UInt8 × Unit) :=
 let s_4 : List (List UInt8 × List UInt8 × Unit) := x3.1
 let yEb : Int := x3.2.1
 let zGf : Int := x3.2.2.1
 let b7 : List UInt8 := x3.2.2.2.1
 br (decide (zGf < yEb)) (
  chk (inB zGf s_4.length) (
   let v8 : List UInt8 × List UInt8 × Unit := bZ (Ty.dflt bI) s_4 zGf
   ob (Cq n (v8.1, v8.2.1, b7, ())) fun y9 =>
   br y9.1 (
    some (zGf, y9.2.1, ())) (
    let v10 : Int := IntKind.wrap .i64 (zGf + 1)
    g0 (s_4, yEb, v10, y9.2.1, ())))) (
  some ((-1), b7, ()))
def eO (n : Nat) (x : List (List UInt8 × List UInt8 × Unit) × List UInt8 × Unit) : Option (Int × List UInt8 × Unit) :=
 let s_1 : List (List UInt8 × List UInt8 × Unit) := x.1
 let b2 : List UInt8 := x.2.1
 fix (mK n) n (s_1, (s_1.length : Int), 0, b2, ())
def lX (n : Nat) (x : List (List UInt8 × List UInt8 × Unit) × List UInt8) : Option (List UInt8 × Bool) :=
 let t_0 : List (List UInt8 × List UInt8 × Unit) := x.1
 let yEc : List UInt8 := x.2
 ob (eO n (t_0, yEc, ())) fun y1 =>
 br (decide (y1.1 < 0)) (
  some ([], false)) (
  chk (inB y1.1 t_0.length) (
   let v2 : List UInt8 × List UInt8 × Unit := bZ (Ty.dflt bI) t_0 y1.1
   some (v2.2.1, true)))
def gI (n : Nat) (g1 : Int × Int × Int × List (List UInt8 × Bool × Unit) × Unit -> Option (List (List UInt8 × Bool × Unit) × Int)) (x18 : Int × Int × Int × List (List UInt8 × Bool × Unit) × Unit) : Option (List (List UInt8 × Bool × Unit) × Int) :=
 let zAj : Int := x18.1
 let zQu : Int := x18.2.1
 let Eb : Int := x18.2.2.1
 let Ib : List (List UInt8 × Bool × Unit) := x18.2.2.2.1
 br (decide (Eb < zQu)) (
  chk ((inB Eb (Ib.length) && decide (0 + (Ib.length) <= Ib.length))) (
   chk (decide (0 + Eb.toNat < Ib.length)) (
    let r23 : List (List UInt8 × Bool × Unit) := Ib.set (0 + Eb.toNat) ((Ib.getD (0 + Eb.toNat) (Ty.dflt aI)).1, (true, ()))
    let v24 : Int := IntKind.wrap .i64 (Eb + 1)
    g1 (zAj, zQu, v24, r23, ())))) (
  some (Ib, zAj))
def xJ (n : Nat) (g0 : List (List UInt8 × List UInt8 × Unit) × Int × List (List UInt8) × Int × Int × List (List UInt8 × Bool × Unit) × Unit -> Option (List (List UInt8 × Bool × Unit) × Int)) (x2 : List (List UInt8 × List UInt8 × Unit) × Int × List (List UInt8) × Int × Int × List (List UInt8 × Bool × Unit) × Unit) : Option (List (List UInt8 × Bool × Unit) × Int) :=
 let t_3 : List (List UInt8 × List UInt8 × Unit) := x2.1
 let zGg : Int := x2.2.1
 let zCl : List (List UInt8) := x2.2.2.1
 let zNs : Int := x2.2.2.2.1
 let Vl : Int := x2.2.2.2.2.1
 let Yj : List (List UInt8 × Bool × Unit) := x2.2.2.2.2.2.1
 br (decide (Vl < zNs)) (
  chk (inB Vl zCl.length) (
   let v9 : List UInt8 := bZ (Ty.dflt .str) zCl Vl
   ob (lX n (t_3, v9)) fun y10 =>
   br (!y10.2) (
    ob (gD n (y10.1, ())) fun y11 =>
    chk (Nat.ble ((Yj.length + y11.1.length) * 24) room) (
     let v12 : Int := IntKind.wrap .i64 (Vl + 1)
     g0 (t_3, 2, zCl, zNs, v12, Yj ++ y11.1, ()))) (
    ob (gD n (y10.1, ())) fun y13 =>
    chk (Nat.ble ((Yj.length + y13.1.length) * 24) room) (
     let v14 : Int := IntKind.wrap .i64 (Vl + 1)
     g0 (t_3, zGg, zCl, zNs, v14, Yj ++ y13.1, ()))))) (
  let v15 : Int := ((Yj.length : Nat) : Int)
  let v16 : Int := IntKind.wrap .i64 (v15 - 1)
  let v17 : Int := if v16 > 0 then v16 else 0
  fix (gI n) n (zGg, v17, 0, Yj, ()))
def Lu (n : Nat) (g1 : Int × Int × Int × List (List UInt8 × Bool × Unit) × Unit -> Option (List (List UInt8 × Bool × Unit) × Int)) (x41 : Int × Int × Int × List (List UInt8 × Bool × Unit) × Unit) : Option (List (List UInt8 × Bool × Unit) × Int) :=
 let zAk : Int := x41.1
 let zQv : Int := x41.2.1
 let Ec : Int := x41.2.2.1
 let Ic : List (List UInt8 × Bool × Unit) := x41.2.2.2.1
 br (decide (Ec < zQv)) (
  chk ((inB Ec (Ic.length) && decide (0 + (Ic.length) <= Ic.length))) (
   chk (decide (0 + Ec.toNat < Ic.length)) (
    let r46 : List (List UInt8 × Bool × Unit) := Ic.set (0 + Ec.toNat) ((Ic.getD (0 + Ec.toNat) (Ty.dflt aI)).1, (true, ()))
    let v47 : Int := IntKind.wrap .i64 (Ec + 1)
    g1 (zAk, zQv, v47, r46, ())))) (
  some (Ic, zAk))
def Lv (n : Nat) (g0 : List (List UInt8 × List UInt8 × Unit) × Int × List (List UInt8) × Int × Int × List (List UInt8 × Bool × Unit) × Unit -> Option (List (List UInt8 × Bool × Unit) × Int)) (x25 : List (List UInt8 × List UInt8 × Unit) × Int × List (List UInt8) × Int × Int × List (List UInt8 × Bool × Unit) × Unit) : Option (List (List UInt8 × Bool × Unit) × Int) :=
 let zWj : List (List UInt8 × List UInt8 × Unit) := x25.1
 let zAl : Int := x25.2.1
 let Vm : List (List UInt8) := x25.2.2.1
 let zGh : Int := x25.2.2.2.1
 let Lx : Int := x25.2.2.2.2.1
 let pR : List (List UInt8 × Bool × Unit) := x25.2.2.2.2.2.1
 br (decide (Lx < zGh)) (
  chk (inB Lx Vm.length) (
   let v32 : List UInt8 := bZ (Ty.dflt .str) Vm Lx
   ob (lX n (zWj, v32)) fun y33 =>
   br (!y33.2) (
    ob (gD n (y33.1, ())) fun y34 =>
    chk (Nat.ble ((pR.length + y34.1.length) * 24) room) (
     let v35 : Int := IntKind.wrap .i64 (Lx + 1)
     g0 (zWj, 2, Vm, zGh, v35, pR ++ y34.1, ()))) (
    ob (gD n (y33.1, ())) fun y36 =>
    chk (Nat.ble ((pR.length + y36.1.length) * 24) room) (
     let v37 : Int := IntKind.wrap .i64 (Lx + 1)
     g0 (zWj, zAl, Vm, zGh, v37, pR ++ y36.1, ()))))) (
  let v38 : Int := ((pR.length : Nat) : Int)
  let v39 : Int := IntKind.wrap .i64 (v38 - 1)
  let v40 : Int := if v39 > 0 then v39 else 0
  fix (Lu n) n (zAl, v40, 0, pR, ()))
def qR (n : Nat) (x : ((Bool × List (List (NdT) × Bool × Unit) × List (((Int × Int × Int × Unit) × (Int × Int × Int × Unit) × Bool × Unit) × Int × List UInt8 × List UInt8 × Int × Int × Int × List (List UInt8 × Int × Unit) × Bool × Bool × Unit) × Unit) × Bool × List (List UInt8) × Bool × Unit) × List UInt8 × List (List UInt8 × List UInt8 × Unit)) : Option (List (List UInt8 × Bool × Unit) × Int) :=
 let g_0 : (Bool × List (List (NdT) × Bool × Unit) × List (((Int × Int × Int × Unit) × (Int × Int × Int × Unit) × Bool × Unit) × Int × List UInt8 × List UInt8 × Int × Int × Int × List (List UInt8 × Int × Unit) × Bool × Bool × Unit) × Unit) × Bool × List (List UInt8) × Bool × Unit := x.1
 let zWk : List UInt8 := x.2.1
 let t_2 : List (List UInt8 × List UInt8 × Unit) := x.2.2
 br g_0.2.2.2.1 (
  some ([], 0)) (
  br ((g_0.2.2.1.length : Int) == 0) (
   ob (gD n (zWk, ())) fun y1 =>
   fix (xJ n) n (t_2, 0, g_0.2.2.1, (g_0.2.2.1.length : Int), 0, y1.1, ())) (
   fix (Lv n) n (t_2, 0, g_0.2.2.1, (g_0.2.2.1.length : Int), 0, [], ())))
def Ie (n : Nat) (x : Bool × List (List (NdT) × Bool × Unit) × List (((Int × Int × Int × Unit) × (Int × Int × Int × Unit) × Bool × Unit) × Int × List UInt8 × List UInt8 × Int × Int × Int × List (List UInt8 × Int × Unit) × Bool × Bool × Unit) × Unit) : Option (Int × Int × Int × Int × Int × List UInt8 × List UInt8 × Bool × Bool × Bool × List (Bool × Int × Unit) × List (List UInt8 × Bool × Unit) × Unit) :=
 let x_0 : Bool × List (List (NdT) × Bool × Unit) × List (((Int × Int × Int × Unit) × (Int × Int × Int × Unit) × Bool × Unit) × Int × List UInt8 × List UInt8 × Int × Int × Int × List (List UInt8 × Int × Unit) × Bool × Bool × Unit) × Unit := x
 chk ((decide (0 <= (x_0.2.2.1.length : Int)) && (decide ((x_0.2.2.1.length : Int) = (x_0.2.2.1.length : Int)) && Nat.ble ((x_0.2.2.1.length : Int).toNat * 16) room))) (
  let r1 : List (Bool × Int × Unit) := List.replicate (x_0.2.2.1.length : Int).toNat (false, (0, ()))
  some (0, (0, (0, (0, ((-1), ([], ([], (false, (false, (false, (r1, ([], ())))))))))))))
def kM (n : Nat) (x : Int × Int × Int × Int × Int × List UInt8 × List UInt8 × Bool × Bool × Bool × List (Bool × Int × Unit) × List (List UInt8 × Bool × Unit) × Unit) : Option (Int × Int × Int × Int × Int × List UInt8 × List UInt8 × Bool × Bool × Bool × List (Bool × Int × Unit) × List (List UInt8 × Bool × Unit) × Unit) :=
 let b_0 : Int × Int × Int × Int × Int × List UInt8 × List UInt8 × Bool × Bool × Bool × List (Bool × Int × Unit) × List (List UInt8 × Bool × Unit) × Unit := x
 br (b_0.1 == 0) (
  some (4, b_0.2)) (
  some b_0)
def lY (n : Nat) (x : (Int × Int × Int × Int × Int × List UInt8 × List UInt8 × Bool × Bool × Bool × List (Bool × Int × Unit) × List (List UInt8 × Bool × Unit) × Unit) × (List UInt8 × Bool × Unit) × Bool) : Option (Int × Int × Int × Int × Int × List UInt8 × List UInt8 × Bool × Bool × Bool × List (Bool × Int × Unit) × List (List UInt8 × Bool × Unit) × Unit) :=
 let b_0 : Int × Int × Int × Int × Int × List UInt8 × List UInt8 × Bool × Bool × Bool × List (Bool × Int × Unit) × List (List UInt8 × Bool × Unit) × Unit := x.1
 let l_1 : List UInt8 × Bool × Unit := x.2.1
 let zGi : Bool := x.2.2
 br (b_0.1 == 0) (
  let v1 : Int := IntKind.wrap .i64 (b_0.2.2.1 + 1)
  some (1, (0, (v1, (b_0.2.2.2.1, (b_0.2.2.2.2.1, (l_1.1, (b_0.2.2.2.2.2.2.1, (l_1.2.1, (zGi, b_0.2.2.2.2.2.2.2.2.2)))))))))) (
  br (b_0.1 == 2) (
   let v2 : Int := IntKind.wrap .i64 (b_0.2.1 + 1)
   let v3 : Int := IntKind.wrap .i64 (b_0.2.2.1 + 1)
   some (1, (v2, (v3, (b_0.2.2.2.1, (b_0.2.2.2.2.1, (l_1.1, (b_0.2.2.2.2.2.2.1, (l_1.2.1, (zGi, b_0.2.2.2.2.2.2.2.2.2)))))))))) (
   br (b_0.1 == 3) (
    let v4 : Int := IntKind.wrap .i64 (b_0.2.1 + 1)
    chk (decide (b_0.2.2.2.2.2.1.length + ([10] : List UInt8).length <= Cz)) (
     chk (decide ((b_0.2.2.2.2.2.1 ++ [10]).length + l_1.1.length <= Cz)) (
      let v5 : List UInt8 := (b_0.2.2.2.2.2.1 ++ [10]) ++ l_1.1
      let v6 : Int := IntKind.wrap .i64 (b_0.2.2.1 + 1)
      some (1, (v4, (v6, (b_0.2.2.2.1, (b_0.2.2.2.2.1, (v5, (b_0.2.2.2.2.2.2.1, (l_1.2.1, (zGi, b_0.2.2.2.2.2.2.2.2.2)))))))))))) (
    some b_0)))
def kE (n : Nat) (x : List UInt8 × Bool × Int × Int × Int × Int × Int × List UInt8 × List UInt8 × Bool × Bool × Bool × List (Bool × Int × Unit) × List (List UInt8 × Bool × Unit) × Bool × List (List (NdT) × Bool × Unit) × List (((Int × Int × Int × Unit) × (Int × Int × Int × Unit) × Bool × Unit) × Int × List UInt8 × List UInt8 × Int × Int × Int × List (List UInt8 × Int × Unit) × Bool × Bool × Unit) × Bool × List (List UInt8 × List UInt8 × Unit) × List (List UInt8 × Bool × Unit) × Unit) : Option (Int × Int × Int × Int × Int × List UInt8 × List UInt8 × Bool × Bool × Bool × List (Bool × Int × Unit) × List (List UInt8 × Bool × Unit) × Bool × List (List (NdT) × Bool × Unit) × List (((Int × Int × Int × Unit) × (Int × Int × Int × Unit) × Bool × Unit) × Int × List UInt8 × List UInt8 × Int × Int × Int × List (List UInt8 × Int × Unit) × Bool × Bool × Unit) × Bool × List (List UInt8 × List UInt8 × Unit) × List (List UInt8 × Bool × Unit) × Unit) :=
 let s_1 : List UInt8 := x.1
 let zGj : Bool := x.2.1
 let zGk : Int := x.2.2.1
 let PC4 : Int := x.2.2.2.1
 let N5 : Int := x.2.2.2.2.1
 let zNt : Int := x.2.2.2.2.2.1
 let zNu : Int := x.2.2.2.2.2.2.1
 let Rx : List UInt8 := x.2.2.2.2.2.2.2.1
 let zNv : List UInt8 := x.2.2.2.2.2.2.2.2.1
 let zNw : Bool := x.2.2.2.2.2.2.2.2.2.1
 let zGl : Bool := x.2.2.2.2.2.2.2.2.2.2.1
 let Ma : Bool := x.2.2.2.2.2.2.2.2.2.2.2.1
 let zWl : List (Bool × Int × Unit) := x.2.2.2.2.2.2.2.2.2.2.2.2.1
 let zZp : List (List UInt8 × Bool × Unit) := x.2.2.2.2.2.2.2.2.2.2.2.2.2.1
 let zZq : Bool := x.2.2.2.2.2.2.2.2.2.2.2.2.2.2.1
 let yEd : List (List (NdT) × Bool × Unit) := x.2.2.2.2.2.2.2.2.2.2.2.2.2.2.2.1
 let yEe : List (((Int × Int × Int × Unit) × (Int × Int × Int × Unit) × Bool × Unit) × Int × List UInt8 × List UInt8 × Int × Int × Int × List (List UInt8 × Int × Unit) × Bool × Bool × Unit) := x.2.2.2.2.2.2.2.2.2.2.2.2.2.2.2.2.1
 let zZr : Bool := x.2.2.2.2.2.2.2.2.2.2.2.2.2.2.2.2.2.1
 let zZs : List (List UInt8 × List UInt8 × Unit) := x.2.2.2.2.2.2.2.2.2.2.2.2.2.2.2.2.2.2.1
 let Vn : List (List UInt8 × Bool × Unit) := x.2.2.2.2.2.2.2.2.2.2.2.2.2.2.2.2.2.2.2.1
 chk (Nat.ble ((Vn.length + ([(s_1, (zGj, ()))] : List (List UInt8 × Bool × Unit)).length) * 24) room) (
  let r21 : List (List UInt8 × Bool × Unit) := Vn ++ [(s_1, (zGj, ()))]
  some (zGk, PC4, N5, zNt, zNu, Rx, zNv, zNw, zGl, Ma, zWl, zZp, zZq, yEd, yEe, zZr, zZs, r21, ()))
def qF (n : Nat) (x : Int × Int × Int × Int × Int × List UInt8 × List UInt8 × Bool × Bool × Bool × List (Bool × Int × Unit) × List (List UInt8 × Bool × Unit) × Bool × List (List (NdT) × Bool × Unit) × List (((Int × Int × Int × Unit) × (Int × Int × Int × Unit) × Bool × Unit) × Int × List UInt8 × List UInt8 × Int × Int × Int × List (List UInt8 × Int × Unit) × Bool × Bool × Unit) × Bool × List (List UInt8 × List UInt8 × Unit) × List (List UInt8 × Bool × Unit) × Unit) : Option (Int × Int × Int × Int × Int × List UInt8 × List UInt8 × Bool × Bool × Bool × List (Bool × Int × Unit) × List (List UInt8 × Bool × Unit) × Bool × List (List (NdT) × Bool × Unit) × List (((Int × Int × Int × Unit) × (Int × Int × Int × Unit) × Bool × Unit) × Int × List UInt8 × List UInt8 × Int × Int × Int × List (List UInt8 × Int × Unit) × Bool × Bool × Unit) × Bool × List (List UInt8 × List UInt8 × Unit) × List (List UInt8 × Bool × Unit) × Unit) :=
 let iG : Int := x.1
 let PC2 : Int := x.2.1
 let N3 : Int := x.2.2.1
 let kN : Int := x.2.2.2.1
 let kP : Int := x.2.2.2.2.1
 let dG : List UInt8 := x.2.2.2.2.2.1
 let kQ : List UInt8 := x.2.2.2.2.2.2.1
 let mM : Bool := x.2.2.2.2.2.2.2.1
 let kR : Bool := x.2.2.2.2.2.2.2.2.1
 let dA : Bool := x.2.2.2.2.2.2.2.2.2.1
 let mO : List (Bool × Int × Unit) := x.2.2.2.2.2.2.2.2.2.2.1
 let jH : List (List UInt8 × Bool × Unit) := x.2.2.2.2.2.2.2.2.2.2.2.1
 let fF : Bool := x.2.2.2.2.2.2.2.2.2.2.2.2.1
 let nX : List (List (NdT) × Bool × Unit) := x.2.2.2.2.2.2.2.2.2.2.2.2.2.1
 let nY : List (((Int × Int × Int × Unit) × (Int × Int × Int × Unit) × Bool × Unit) × Int × List UInt8 × List UInt8 × Int × Int × Int × List (List UInt8 × Int × Unit) × Bool × Bool × Unit) := x.2.2.2.2.2.2.2.2.2.2.2.2.2.2.1
 let kF : Bool := x.2.2.2.2.2.2.2.2.2.2.2.2.2.2.2.1
 let lS : List (List UInt8 × List UInt8 × Unit) := x.2.2.2.2.2.2.2.2.2.2.2.2.2.2.2.2.1
 let jB : List (List UInt8 × Bool × Unit) := x.2.2.2.2.2.2.2.2.2.2.2.2.2.2.2.2.2.1
 ob (kE n (dG, mM, iG, PC2, N3, kN, kP, dG, kQ, mM, kR, dA, mO, jH, fF, nX, nY, kF, lS, jB, ())) fun y19 =>
 some (y19.1, y19.2.1, y19.2.2.1, y19.2.2.2.1, y19.2.2.2.2.1, y19.2.2.2.2.2.1, y19.2.2.2.2.2.2.1, y19.2.2.2.2.2.2.2.1, y19.2.2.2.2.2.2.2.2.1, y19.2.2.2.2.2.2.2.2.2.1, y19.2.2.2.2.2.2.2.2.2.2.1, y19.2.2.2.2.2.2.2.2.2.2.2.1, y19.2.2.2.2.2.2.2.2.2.2.2.2.1, y19.2.2.2.2.2.2.2.2.2.2.2.2.2.1, y19.2.2.2.2.2.2.2.2.2.2.2.2.2.2.1, y19.2.2.2.2.2.2.2.2.2.2.2.2.2.2.2.1, y19.2.2.2.2.2.2.2.2.2.2.2.2.2.2.2.2.1, y19.2.2.2.2.2.2.2.2.2.2.2.2.2.2.2.2.2.1, ())
def tQ (n : Nat) (x : Int × Int × Int × Int × Int × List UInt8 × List UInt8 × Bool × Bool × Bool × List (Bool × Int × Unit) × List (List UInt8 × Bool × Unit) × Bool × List (List (NdT) × Bool × Unit) × List (((Int × Int × Int × Unit) × (Int × Int × Int × Unit) × Bool × Unit) × Int × List UInt8 × List UInt8 × Int × Int × Int × List (List UInt8 × Int × Unit) × Bool × Bool × Unit) × Bool × List (List UInt8 × List UInt8 × Unit) × List (List UInt8 × Bool × Unit) × Unit) : Option (Int × Int × Int × Int × Int × List UInt8 × List UInt8 × Bool × Bool × Bool × List (Bool × Int × Unit) × List (List UInt8 × Bool × Unit) × Bool × List (List (NdT) × Bool × Unit) × List (((Int × Int × Int × Unit) × (Int × Int × Int × Unit) × Bool × Unit) × Int × List UInt8 × List UInt8 × Int × Int × Int × List (List UInt8 × Int × Unit) × Bool × Bool × Unit) × Bool × List (List UInt8 × List UInt8 × Unit) × List (List UInt8 × Bool × Unit) × Unit) :=
 let iG : Int := x.1
 let PC2 : Int := x.2.1
 let N3 : Int := x.2.2.1
 let kN : Int := x.2.2.2.1
 let kP : Int := x.2.2.2.2.1
 let dG : List UInt8 := x.2.2.2.2.2.1
 let kQ : List UInt8 := x.2.2.2.2.2.2.1
 let mM : Bool := x.2.2.2.2.2.2.2.1
 let kR : Bool := x.2.2.2.2.2.2.2.2.1
 let dA : Bool := x.2.2.2.2.2.2.2.2.2.1
 let mO : List (Bool × Int × Unit) := x.2.2.2.2.2.2.2.2.2.2.1
 let jH : List (List UInt8 × Bool × Unit) := x.2.2.2.2.2.2.2.2.2.2.2.1
 let fF : Bool := x.2.2.2.2.2.2.2.2.2.2.2.2.1
 let nX : List (List (NdT) × Bool × Unit) := x.2.2.2.2.2.2.2.2.2.2.2.2.2.1
 let nY : List (((Int × Int × Int × Unit) × (Int × Int × Int × Unit) × Bool × Unit) × Int × List UInt8 × List UInt8 × Int × Int × Int × List (List UInt8 × Int × Unit) × Bool × Bool × Unit) := x.2.2.2.2.2.2.2.2.2.2.2.2.2.2.1
 let kF : Bool := x.2.2.2.2.2.2.2.2.2.2.2.2.2.2.2.1
 let lS : List (List UInt8 × List UInt8 × Unit) := x.2.2.2.2.2.2.2.2.2.2.2.2.2.2.2.2.1
 let jB : List (List UInt8 × Bool × Unit) := x.2.2.2.2.2.2.2.2.2.2.2.2.2.2.2.2.2.1
 br (!kF) (
  br (!fF) (
   ob (qF n (iG, PC2, N3, kN, kP, dG, kQ, mM, kR, dA, mO, jH, fF, nX, nY, kF, lS, jB, ())) fun y19 =>
   some (y19.1, y19.2.1, y19.2.2.1, y19.2.2.2.1, y19.2.2.2.2.1, y19.2.2.2.2.2.1, y19.2.2.2.2.2.2.1, y19.2.2.2.2.2.2.2.1, y19.2.2.2.2.2.2.2.2.1, y19.2.2.2.2.2.2.2.2.2.1, y19.2.2.2.2.2.2.2.2.2.2.1, y19.2.2.2.2.2.2.2.2.2.2.2.1, y19.2.2.2.2.2.2.2.2.2.2.2.2.1, y19.2.2.2.2.2.2.2.2.2.2.2.2.2.1, y19.2.2.2.2.2.2.2.2.2.2.2.2.2.2.1, y19.2.2.2.2.2.2.2.2.2.2.2.2.2.2.2.1, y19.2.2.2.2.2.2.2.2.2.2.2.2.2.2.2.2.1, y19.2.2.2.2.2.2.2.2.2.2.2.2.2.2.2.2.2.1, ())) (
   some (iG, PC2, N3, kN, kP, dG, kQ, mM, kR, dA, mO, jH, fF, nX, nY, kF, lS, jB, ()))) (
  some (iG, PC2, N3, kN, kP, dG, kQ, mM, kR, dA, mO, jH, fF, nX, nY, kF, lS, jB, ()))
def gG (n : Nat) (x : List UInt8 × List UInt8) : Option (Bool) :=
 let s_0 : List UInt8 := x.1
 let nZ : List UInt8 := x.2
 br (decide ((s_0.length : Int) ≥ (nZ.length : Int))) (
  let v1 : Int := IntKind.wrap .i64 ((s_0.length : Int) - (nZ.length : Int))
  chk ((decide (0 <= v1) && decide (v1 <= (s_0.length : Int)))) (
   some ((s_0.drop v1.toNat) == nZ))) (
  some false)
def gH (n : Nat) (x : List UInt8 × List UInt8) : Option (List UInt8 × Bool) :=
 let s_0 : List UInt8 := x.1
 let nZ : List UInt8 := x.2
 ob (gG n (s_0, nZ)) fun y1 =>
 br (!y1) (
  some (s_0, false)) (
  let v2 : Int := IntKind.wrap .i64 ((s_0.length : Int) - (nZ.length : Int))
  chk ((decide (0 <= v2) && decide (v2 <= (s_0.length : Int)))) (
   some (s_0.take v2.toNat, true)))
def strings_CutSuffix (n : Nat) (x : List UInt8 × List UInt8) : Option (List UInt8 × Bool) :=
 let s_0 : List UInt8 := x.1
 let nZ : List UInt8 := x.2
 ob (gH n (s_0, nZ)) fun y1 =>
 some (y1.1, y1.2)
def Ed (n : Nat) (g0 : List (List UInt8 × Bool × Unit) × Int × Int × Int × Int × Int × Int × Int × List UInt8 × List UInt8 × Bool × Bool × Bool × List (Bool × Int × Unit) × List (List UInt8 × Bool × Unit) × Bool × List (List (NdT) × Bool × Unit) × List (((Int × Int × Int × Unit) × (Int × Int × Int × Unit) × Bool × Unit) × Int × List UInt8 × List UInt8 × Int × Int × Int × List (List UInt8 × Int × Unit) × Bool × Bool × Unit) × Bool × List (List UInt8 × List UInt8 × Unit) × List (List UInt8 × Bool × Unit) × Unit -> Option (Int × Int × Int × Int × Int × List UInt8 × List UInt8 × Bool × Bool × Bool × List (Bool × Int × Unit) × List (List UInt8 × Bool × Unit) × Bool × List (List (NdT) × Bool × Unit) × List (((Int × Int × Int × Unit) × (Int × Int × Int × Unit) × Bool × Unit) × Int × List UInt8 × List UInt8 × Int × Int × Int × List (List UInt8 × Int × Unit) × Bool × Bool × Unit) × Bool × List (List UInt8 × List UInt8 × Unit) × List (List UInt8 × Bool × Unit) × Unit)) (x19 : List (List UInt8 × Bool × Unit) × Int × Int × Int × Int × Int × Int × Int × List UInt8 × List UInt8 × Bool × Bool × Bool × List (Bool × Int × Unit) × List (List UInt8 × Bool × Unit) × Bool × List (List (NdT) × Bool × Unit) × List (((Int × Int × Int × Unit) × (Int × Int × Int × Unit) × Bool × Unit) × Int × List UInt8 × List UInt8 × Int × Int × Int × List (List UInt8 × Int × Unit) × Bool × Bool × Unit) × Bool × List (List UInt8 × List UInt8 × Unit) × List (List UInt8 × Bool × Unit) × Unit) : Option (Int × Int × Int × Int × Int × List UInt8 × List UInt8 × Bool × Bool × Bool × List (Bool × Int × Unit) × List (List UInt8 × Bool × Unit) × Bool × List (List (NdT) × Bool × Unit) × List (((Int × Int × Int × Unit) × (Int × Int × Int × Unit) × Bool × Unit) × Int × List UInt8 × List UInt8 × Int × Int × Int × List (List UInt8 × Int × Unit) × Bool × Bool × Unit) × Bool × List (List UInt8 × List UInt8 × Unit) × List (List UInt8 × Bool × Unit) × Unit) :=
 let oC : List (List UInt8 × Bool × Unit) := x19.1
 let tT : Int := x19.2.1
 let lT : Int := x19.2.2.1
 let pU : Int := x19.2.2.2.1
 let Ig : Int := x19.2.2.2.2.1
 let N25 : Int := x19.2.2.2.2.2.1
 let tV : Int := x19.2.2.2.2.2.2.1
 let tX : Int := x19.2.2.2.2.2.2.2.1
 let kS : List UInt8 := x19.2.2.2.2.2.2.2.2.1
 let tY : List UInt8 := x19.2.2.2.2.2.2.2.2.2.1
 let yM : Bool := x19.2.2.2.2.2.2.2.2.2.2.1
 let tZ : Bool := x19.2.2.2.2.2.2.2.2.2.2.2.1
 let kT : Bool := x19.2.2.2.2.2.2.2.2.2.2.2.2.1
 let Ih : List (Bool × Int × Unit) := x19.2.2.2.2.2.2.2.2.2.2.2.2.2.1
 let Yk : List (List UInt8 × Bool × Unit) := x19.2.2.2.2.2.2.2.2.2.2.2.2.2.2.1
 let Ny : Bool := x19.2.2.2.2.2.2.2.2.2.2.2.2.2.2.2.1
 let Vo : List (List (NdT) × Bool × Unit) := x19.2.2.2.2.2.2.2.2.2.2.2.2.2.2.2.2.1
 let Vp : List (((Int × Int × Int × Unit) × (Int × Int × Int × Unit) × Bool × Unit) × Int × List UInt8 × List UInt8 × Int × Int × Int × List (List UInt8 × Int × Unit) × Bool × Bool × Unit) := x19.2.2.2.2.2.2.2.2.2.2.2.2.2.2.2.2.2.1
 let Nz : Bool := x19.2.2.2.2.2.2.2.2.2.2.2.2.2.2.2.2.2.2.1
 let Ee : List (List UInt8 × List UInt8 × Unit) := x19.2.2.2.2.2.2.2.2.2.2.2.2.2.2.2.2.2.2.2.1
 let yN : List (List UInt8 × Bool × Unit) := x19.2.2.2.2.2.2.2.2.2.2.2.2.2.2.2.2.2.2.2.2.1
 br (decide (lT < tT)) (
  chk (inB lT oC.length) (
   let v41 : List UInt8 × Bool × Unit := bZ (Ty.dflt aI) oC lT
   br (!v41.2.1) (
    ob (kE n (v41.1, true, pU, Ig, N25, tV, tX, kS, tY, yM, tZ, kT, Ih, Yk, Ny, Vo, Vp, Nz, Ee, yN, ())) fun y42 =>
    let v43 : Int := IntKind.wrap .i64 (lT + 1)
    g0 (oC, tT, v43, y42.1, y42.2.1, y42.2.2.1, y42.2.2.2.1, y42.2.2.2.2.1, y42.2.2.2.2.2.1, y42.2.2.2.2.2.2.1, y42.2.2.2.2.2.2.2.1, y42.2.2.2.2.2.2.2.2.1, y42.2.2.2.2.2.2.2.2.2.1, y42.2.2.2.2.2.2.2.2.2.2.1, y42.2.2.2.2.2.2.2.2.2.2.2.1, y42.2.2.2.2.2.2.2.2.2.2.2.2.1, y42.2.2.2.2.2.2.2.2.2.2.2.2.2.1, y42.2.2.2.2.2.2.2.2.2.2.2.2.2.2.1, y42.2.2.2.2.2.2.2.2.2.2.2.2.2.2.2.1, y42.2.2.2.2.2.2.2.2.2.2.2.2.2.2.2.2.1, y42.2.2.2.2.2.2.2.2.2.2.2.2.2.2.2.2.2.1, ())) (
    ob (lX n (Ee, v41.1)) fun y44 =>
    br (!(y44.1 == [])) (
     ob (strings_CutSuffix n (y44.1, [10])) fun y45 =>
     ob (kE n (y45.1, y45.2, pU, Ig, N25, tV, tX, kS, tY, yM, tZ, kT, Ih, Yk, Ny, Vo, Vp, Nz, Ee, yN, ())) fun y46 =>
     let v47 : Int := IntKind.wrap .i64 (lT + 1)
     g0 (oC, tT, v47, y46.1, y46.2.1, y46.2.2.1, y46.2.2.2.1, y46.2.2.2.2.1, y46.2.2.2.2.2.1, y46.2.2.2.2.2.2.1, y46.2.2.2.2.2.2.2.1, y46.2.2.2.2.2.2.2.2.1, y46.2.2.2.2.2.2.2.2.2.1, y46.2.2.2.2.2.2.2.2.2.2.1, y46.2.2.2.2.2.2.2.2.2.2.2.1, y46.2.2.2.2.2.2.2.2.2.2.2.2.1, y46.2.2.2.2.2.2.2.2.2.2.2.2.2.1, y46.2.2.2.2.2.2.2.2.2.2.2.2.2.2.1, y46.2.2.2.2.2.2.2.2.2.2.2.2.2.2.2.1, y46.2.2.2.2.2.2.2.2.2.2.2.2.2.2.2.2.1, y46.2.2.2.2.2.2.2.2.2.2.2.2.2.2.2.2.2.1, ())) (
     let v48 : Int := IntKind.wrap .i64 (lT + 1)
     g0 (oC, tT, v48, pU, Ig, N25, tV, tX, kS, tY, yM, tZ, kT, Ih, Yk, Ny, Vo, Vp, Nz, Ee, yN, ()))))) (
  some (pU, Ig, N25, tV, tX, kS, tY, yM, tZ, kT, Ih, [], Ny, Vo, Vp, Nz, Ee, yN, ()))
def uD (n : Nat) (x : Int × Int × Int × Int × Int × List UInt8 × List UInt8 × Bool × Bool × Bool × List (Bool × Int × Unit) × List (List UInt8 × Bool × Unit) × Bool × List (List (NdT) × Bool × Unit) × List (((Int × Int × Int × Unit) × (Int × Int × Int × Unit) × Bool × Unit) × Int × List UInt8 × List UInt8 × Int × Int × Int × List (List UInt8 × Int × Unit) × Bool × Bool × Unit) × Bool × List (List UInt8 × List UInt8 × Unit) × List (List UInt8 × Bool × Unit) × Unit) : Option (Int × Int × Int × Int × Int × List UInt8 × List UInt8 × Bool × Bool × Bool × List (Bool × Int × Unit) × List (List UInt8 × Bool × Unit) × Bool × List (List (NdT) × Bool × Unit) × List (((Int × Int × Int × Unit) × (Int × Int × Int × Unit) × Bool × Unit) × Int × List UInt8 × List UInt8 × Int × Int × Int × List (List UInt8 × Int × Unit) × Bool × Bool × Unit) × Bool × List (List UInt8 × List UInt8 × Unit) × List (List UInt8 × Bool × Unit) × Unit) :=
 let iG : Int := x.1
 let PC2 : Int := x.2.1
 let N3 : Int := x.2.2.1
 let kN : Int := x.2.2.2.1
 let kP : Int := x.2.2.2.2.1
 let dG : List UInt8 := x.2.2.2.2.2.1
 let kQ : List UInt8 := x.2.2.2.2.2.2.1
 let mM : Bool := x.2.2.2.2.2.2.2.1
 let kR : Bool := x.2.2.2.2.2.2.2.2.1
 let dA : Bool := x.2.2.2.2.2.2.2.2.2.1
 let mO : List (Bool × Int × Unit) := x.2.2.2.2.2.2.2.2.2.2.1
 let jH : List (List UInt8 × Bool × Unit) := x.2.2.2.2.2.2.2.2.2.2.2.1
 let fF : Bool := x.2.2.2.2.2.2.2.2.2.2.2.2.1
 let nX : List (List (NdT) × Bool × Unit) := x.2.2.2.2.2.2.2.2.2.2.2.2.2.1
 let nY : List (((Int × Int × Int × Unit) × (Int × Int × Int × Unit) × Bool × Unit) × Int × List UInt8 × List UInt8 × Int × Int × Int × List (List UInt8 × Int × Unit) × Bool × Bool × Unit) := x.2.2.2.2.2.2.2.2.2.2.2.2.2.2.1
 let kF : Bool := x.2.2.2.2.2.2.2.2.2.2.2.2.2.2.2.1
 let lS : List (List UInt8 × List UInt8 × Unit) := x.2.2.2.2.2.2.2.2.2.2.2.2.2.2.2.2.1
 let jB : List (List UInt8 × Bool × Unit) := x.2.2.2.2.2.2.2.2.2.2.2.2.2.2.2.2.2.1
 fix (Ed n) n (jH, (jH.length : Int), 0, iG, PC2, N3, kN, kP, dG, kQ, mM, kR, dA, mO, jH, fF, nX, nY, kF, lS, jB, ())
def xE (n : Nat) (x : Int × Int × Int × Int × Int × List UInt8 × List UInt8 × Bool × Bool × Bool × List (Bool × Int × Unit) × List (List UInt8 × Bool × Unit) × Bool × List (List (NdT) × Bool × Unit) × List (((Int × Int × Int × Unit) × (Int × Int × Int × Unit) × Bool × Unit) × Int × List UInt8 × List UInt8 × Int × Int × Int × List (List UInt8 × Int × Unit) × Bool × Bool × Unit) × Bool × List (List UInt8 × List UInt8 × Unit) × List (List UInt8 × Bool × Unit) × Unit) : Option (Int × Int × Int × Int × Int × List UInt8 × List UInt8 × Bool × Bool × Bool × List (Bool × Int × Unit) × List (List UInt8 × Bool × Unit) × Bool × List (List (NdT) × Bool × Unit) × List (((Int × Int × Int × Unit) × (Int × Int × Int × Unit) × Bool × Unit) × Int × List UInt8 × List UInt8 × Int × Int × Int × List (List UInt8 × Int × Unit) × Bool × Bool × Unit) × Bool × List (List UInt8 × List UInt8 × Unit) × List (List UInt8 × Bool × Unit) × Unit) :=
 let iG : Int := x.1
 let PC2 : Int := x.2.1
 let N3 : Int := x.2.2.1
 let kN : Int := x.2.2.2.1
 let kP : Int := x.2.2.2.2.1
 let dG : List UInt8 := x.2.2.2.2.2.1
 let kQ : List UInt8 := x.2.2.2.2.2.2.1
 let mM : Bool := x.2.2.2.2.2.2.2.1
 let kR : Bool := x.2.2.2.2.2.2.2.2.1
 let dA : Bool := x.2.2.2.2.2.2.2.2.2.1
 let mO : List (Bool × Int × Unit) := x.2.2.2.2.2.2.2.2.2.2.1
 let jH : List (List UInt8 × Bool × Unit) := x.2.2.2.2.2.2.2.2.2.2.2.1
 let fF : Bool := x.2.2.2.2.2.2.2.2.2.2.2.2.1
 let nX : List (List (NdT) × Bool × Unit) := x.2.2.2.2.2.2.2.2.2.2.2.2.2.1
 let nY : List (((Int × Int × Int × Unit) × (Int × Int × Int × Unit) × Bool × Unit) × Int × List UInt8 × List UInt8 × Int × Int × Int × List (List UInt8 × Int × Unit) × Bool × Bool × Unit) := x.2.2.2.2.2.2.2.2.2.2.2.2.2.2.1
 let kF : Bool := x.2.2.2.2.2.2.2.2.2.2.2.2.2.2.2.1
 let lS : List (List UInt8 × List UInt8 × Unit) := x.2.2.2.2.2.2.2.2.2.2.2.2.2.2.2.2.1
 let jB : List (List UInt8 × Bool × Unit) := x.2.2.2.2.2.2.2.2.2.2.2.2.2.2.2.2.2.1
 ob (uD n (iG, PC2, N3, kN, kP, dG, kQ, mM, kR, dA, mO, jH, fF, nX, nY, kF, lS, jB, ())) fun y19 =>
 some (0, y19.2.1, y19.2.2.1, y19.2.2.2.1, y19.2.2.2.2.1, y19.2.2.2.2.2.1, y19.2.2.2.2.2.2.1, y19.2.2.2.2.2.2.2.1, y19.2.2.2.2.2.2.2.2.1, y19.2.2.2.2.2.2.2.2.2.1, y19.2.2.2.2.2.2.2.2.2.2.1, y19.2.2.2.2.2.2.2.2.2.2.2.1, y19.2.2.2.2.2.2.2.2.2.2.2.2.1, y19.2.2.2.2.2.2.2.2.2.2.2.2.2.1, y19.2.2.2.2.2.2.2.2.2.2.2.2.2.2.1, y19.2.2.2.2.2.2.2.2.2.2.2.2.2.2.2.1, y19.2.2.2.2.2.2.2.2.2.2.2.2.2.2.2.2.1, y19.2.2.2.2.2.2.2.2.2.2.2.2.2.2.2.2.2.1, ())
def lD (_n:Nat) (x:List (Bool × Int × Unit) × Unit):Option (List (Bool × Int × Unit) × Unit):=zPj 16 x
def Ef (n : Nat) (g0 : Int × Int × Int × Int × Int × Int × Int × List UInt8 × List UInt8 × Bool × Bool × Bool × List (Bool × Int × Unit) × List (List UInt8 × Bool × Unit) × Bool × List (List (NdT) × Bool × Unit) × List (((Int × Int × Int × Unit) × (Int × Int × Int × Unit) × Bool × Unit) × Int × List UInt8 × List UInt8 × Int × Int × Int × List (List UInt8 × Int × Unit) × Bool × Bool × Unit) × Bool × List (List UInt8 × List UInt8 × Unit) × List (List UInt8 × Bool × Unit) × Int × Int × Int × Int × Int × Int × Bool × Int × List UInt8 × List UInt8 × Int × Int × Int × List (List UInt8 × Int × Unit) × Bool × Bool × List (Bool) × List (Int × Int × Int × Unit) × Unit -> Option (Bool × Int × Int × Int × Int × Int × List UInt8 × List UInt8 × Bool × Bool × Bool × List (List UInt8 × Bool × Unit) × Bool × List (List (NdT) × Bool × Unit) × List (((Int × Int × Int × Unit) × (Int × Int × Int × Unit) × Bool × Unit) × Int × List UInt8 × List UInt8 × Int × Int × Int × List (List UInt8 × Int × Unit) × Bool × Bool × Unit) × Bool × List (List UInt8 × List UInt8 × Unit) × List (List UInt8 × Bool × Unit) × List (Bool × Int × Unit) × Unit)) (x37 : Int × Int × Int × Int × Int × Int × Int × List UInt8 × List UInt8 × Bool × Bool × Bool × List (Bool × Int × Unit) × List (List UInt8 × Bool × Unit) × Bool × List (List (NdT) × Bool × Unit) × List (((Int × Int × Int × Unit) × (Int × Int × Int × Unit) × Bool × Unit) × Int × List UInt8 × List UInt8 × Int × Int × Int × List (List UInt8 × Int × Unit) × Bool × Bool × Unit) × Bool × List (List UInt8 × List UInt8 × Unit) × List (List UInt8 × Bool × Unit) × Int × Int × Int × Int × Int × Int × Bool × Int × List UInt8 × List UInt8 × Int × Int × Int × List (List UInt8 × Int × Unit) × Bool × Bool × List (Bool) × List (Int × Int × Int × Unit) × Unit) : Option (Bool × Int × Int × Int × Int × Int × List UInt8 × List UInt8 × Bool × Bool × Bool × List (List UInt8 × Bool × Unit) × Bool × List (List (NdT) × Bool × Unit) × List (((Int × Int × Int × Unit) × (Int × Int × Int × Unit) × Bool × Unit) × Int × List UInt8 × List UInt8 × Int × Int × Int × List (List UInt8 × Int × Unit) × Bool × Bool × Unit) × Bool × List (List UInt8 × List UInt8 × Unit) × List (List UInt8 × Bool × Unit) × List (Bool × Int × Unit) × Unit) :=
 let zQw : Int := x37.1
 let Mc : Int := x37.2.1
 let zJo : Int := x37.2.2.1
 let Ry : Int := x37.2.2.2.1
 let N42 : Int := x37.2.2.2.2.1
 let zQx : Int := x37.2.2.2.2.2.1
 let zQy : Int := x37.2.2.2.2.2.2.1
 let zAm : List UInt8 := x37.2.2.2.2.2.2.2.1
 let zQz : List UInt8 := x37.2.2.2.2.2.2.2.2.1
 let zXk : Bool := x37.2.2.2.2.2.2.2.2.2.1
 let zGm : Bool := x37.2.2.2.2.2.2.2.2.2.2.1
 let zAn : Bool := x37.2.2.2.2.2.2.2.2.2.2.2.1
 let Ii : List (Bool × Int × Unit) := x37.2.2.2.2.2.2.2.2.2.2.2.2.1
 let zJp : List (List UInt8 × Bool × Unit) := x37.2.2.2.2.2.2.2.2.2.2.2.2.2.1
 let zJq : Bool := x37.2.2.2.2.2.2.2.2.2.2.2.2.2.2.1
 let zRa : List (List (NdT) × Bool × Unit) := x37.2.2.2.2.2.2.2.2.2.2.2.2.2.2.2.1
 let zRb : List (((Int × Int × Int × Unit) × (Int × Int × Int × Unit) × Bool × Unit) × Int × List UInt8 × List UInt8 × Int × Int × Int × List (List UInt8 × Int × Unit) × Bool × Bool × Unit) := x37.2.2.2.2.2.2.2.2.2.2.2.2.2.2.2.2.1
 let zJr : Bool := x37.2.2.2.2.2.2.2.2.2.2.2.2.2.2.2.2.2.1
 let zJs : List (List UInt8 × List UInt8 × Unit) := x37.2.2.2.2.2.2.2.2.2.2.2.2.2.2.2.2.2.2.1
 let zXl : List (List UInt8 × Bool × Unit) := x37.2.2.2.2.2.2.2.2.2.2.2.2.2.2.2.2.2.2.2.1
 let zRc : Int := x37.2.2.2.2.2.2.2.2.2.2.2.2.2.2.2.2.2.2.2.2.1
 let N59 : Int := x37.2.2.2.2.2.2.2.2.2.2.2.2.2.2.2.2.2.2.2.2.2.1
 let M60 : Int := x37.2.2.2.2.2.2.2.2.2.2.2.2.2.2.2.2.2.2.2.2.2.2.1
 let zRd : Int := x37.2.2.2.2.2.2.2.2.2.2.2.2.2.2.2.2.2.2.2.2.2.2.2.1
 let N62 : Int := x37.2.2.2.2.2.2.2.2.2.2.2.2.2.2.2.2.2.2.2.2.2.2.2.2.1
 let M63 : Int := x37.2.2.2.2.2.2.2.2.2.2.2.2.2.2.2.2.2.2.2.2.2.2.2.2.2.1
 let zXm : Bool := x37.2.2.2.2.2.2.2.2.2.2.2.2.2.2.2.2.2.2.2.2.2.2.2.2.2.2.1
 let yHh : Int := x37.2.2.2.2.2.2.2.2.2.2.2.2.2.2.2.2.2.2.2.2.2.2.2.2.2.2.2.1
 let yEf : List UInt8 := x37.2.2.2.2.2.2.2.2.2.2.2.2.2.2.2.2.2.2.2.2.2.2.2.2.2.2.2.2.1
 let yEg : List UInt8 := x37.2.2.2.2.2.2.2.2.2.2.2.2.2.2.2.2.2.2.2.2.2.2.2.2.2.2.2.2.2.1
 let N68 : Int := x37.2.2.2.2.2.2.2.2.2.2.2.2.2.2.2.2.2.2.2.2.2.2.2.2.2.2.2.2.2.2.1
 let yHi : Int := x37.2.2.2.2.2.2.2.2.2.2.2.2.2.2.2.2.2.2.2.2.2.2.2.2.2.2.2.2.2.2.2.1
 let yFp : Int := x37.2.2.2.2.2.2.2.2.2.2.2.2.2.2.2.2.2.2.2.2.2.2.2.2.2.2.2.2.2.2.2.2.1
 let zZt : List (List UInt8 × Int × Unit) := x37.2.2.2.2.2.2.2.2.2.2.2.2.2.2.2.2.2.2.2.2.2.2.2.2.2.2.2.2.2.2.2.2.2.1
 let yFq : Bool := x37.2.2.2.2.2.2.2.2.2.2.2.2.2.2.2.2.2.2.2.2.2.2.2.2.2.2.2.2.2.2.2.2.2.2.1
 let zZu : Bool := x37.2.2.2.2.2.2.2.2.2.2.2.2.2.2.2.2.2.2.2.2.2.2.2.2.2.2.2.2.2.2.2.2.2.2.2.1
 let zXn : List (Bool) := x37.2.2.2.2.2.2.2.2.2.2.2.2.2.2.2.2.2.2.2.2.2.2.2.2.2.2.2.2.2.2.2.2.2.2.2.2.1
 let Oa : List (Int × Int × Int × Unit) := x37.2.2.2.2.2.2.2.2.2.2.2.2.2.2.2.2.2.2.2.2.2.2.2.2.2.2.2.2.2.2.2.2.2.2.2.2.2.1
 br (decide (Mc < zQw)) (
  chk ((inB Mc (Oa.length) && decide (0 + (Oa.length) <= Oa.length))) (
   chk (decide (0 + Mc.toNat < Oa.length)) (
    let v76 : Int := (Oa.getD (0 + Mc.toNat) (Ty.dflt Dz)).1
    br (v76 == 4) (
     none) (
     let v79 : Int := IntKind.wrap .i64 (Mc + 1)
     g0 (zQw, v79, zJo, Ry, N42, zQx, zQy, zAm, zQz, zXk, zGm, zAn, Ii, zJp, zJq, zRa, zRb, zJr, zJs, zXl, zRc, N59, M60, zRd, N62, M63, zXm, yHh, yEf, yEg, N68, yHi, yFp, zZt, yFq, zZu, zXn, Oa, ()))))) (
  chk (inB Ry Ii.length) (
   let v80 : Bool × Int × Unit := bZ (Ty.dflt bY) Ii Ry
   ob (vI n (((zRc, (N59, (M60, ()))), ((zRd, (N62, (M63, ()))), (zXm, ()))), v80, (N42, (zGm, (zXn, ()))))) fun y81 =>
   ob (lD n (Ii, ())) fun y82 =>
   chk ((inB Ry (y82.1.length) && decide (0 + (y82.1.length) <= y82.1.length))) (
    chk (decide (0 + Ry.toNat < y82.1.length)) (
     let r83 : List (Bool × Int × Unit) := y82.1.set (0 + Ry.toNat) y81.2
     some (y81.1, zJo, Ry, N42, zQx, zQy, zAm, zQz, zXk, zGm, zAn, zJp, zJq, zRa, zRb, zJr, zJs, zXl, r83, ())))))
def kU (n : Nat) (x : Int × Int × Int × Int × Int × Int × Bool × Int × List UInt8 × List UInt8 × Int × Int × Int × List (List UInt8 × Int × Unit) × Bool × Bool × Int × Int × Int × Int × Int × List UInt8 × List UInt8 × Bool × Bool × Bool × List (Bool × Int × Unit) × List (List UInt8 × Bool × Unit) × Bool × List (List (NdT) × Bool × Unit) × List (((Int × Int × Int × Unit) × (Int × Int × Int × Unit) × Bool × Unit) × Int × List UInt8 × List UInt8 × Int × Int × Int × List (List UInt8 × Int × Unit) × Bool × Bool × Unit) × Bool × List (List UInt8 × List UInt8 × Unit) × List (List UInt8 × Bool × Unit) × Unit) : Option (Bool × Int × Int × Int × Int × Int × List UInt8 × List UInt8 × Bool × Bool × Bool × List (List UInt8 × Bool × Unit) × Bool × List (List (NdT) × Bool × Unit) × List (((Int × Int × Int × Unit) × (Int × Int × Int × Unit) × Bool × Unit) × Int × List UInt8 × List UInt8 × Int × Int × Int × List (List UInt8 × Int × Unit) × Bool × Bool × Unit) × Bool × List (List UInt8 × List UInt8 × Unit) × List (List UInt8 × Bool × Unit) × List (Bool × Int × Unit) × Unit) :=
 let c_1 : Int := x.1
 let c_2 : Int := x.2.1
 let c_3 : Int := x.2.2.1
 let c_4 : Int := x.2.2.2.1
 let c_5 : Int := x.2.2.2.2.1
 let c_6 : Int := x.2.2.2.2.2.1
 let c_7 : Bool := x.2.2.2.2.2.2.1
 let c_8 : Int := x.2.2.2.2.2.2.2.1
 let c_9 : List UInt8 := x.2.2.2.2.2.2.2.2.1
 let yEh : List UInt8 := x.2.2.2.2.2.2.2.2.2.1
 let zNx : Int := x.2.2.2.2.2.2.2.2.2.2.1
 let yEi : Int := x.2.2.2.2.2.2.2.2.2.2.2.1
 let yEj : Int := x.2.2.2.2.2.2.2.2.2.2.2.2.1
 let yEk : List (List UInt8 × Int × Unit) := x.2.2.2.2.2.2.2.2.2.2.2.2.2.1
 let yEl : Bool := x.2.2.2.2.2.2.2.2.2.2.2.2.2.2.1
 let yEm : Bool := x.2.2.2.2.2.2.2.2.2.2.2.2.2.2.2.1
 let Oc : Int := x.2.2.2.2.2.2.2.2.2.2.2.2.2.2.2.2.1
 let zNy : Int := x.2.2.2.2.2.2.2.2.2.2.2.2.2.2.2.2.2.1
 let N19 : Int := x.2.2.2.2.2.2.2.2.2.2.2.2.2.2.2.2.2.2.1
 let Vq : Int := x.2.2.2.2.2.2.2.2.2.2.2.2.2.2.2.2.2.2.2.1
 let Vr : Int := x.2.2.2.2.2.2.2.2.2.2.2.2.2.2.2.2.2.2.2.2.1
 let Bp : List UInt8 := x.2.2.2.2.2.2.2.2.2.2.2.2.2.2.2.2.2.2.2.2.2.1
 let Vs : List UInt8 := x.2.2.2.2.2.2.2.2.2.2.2.2.2.2.2.2.2.2.2.2.2.2.1
 let zCm : Bool := x.2.2.2.2.2.2.2.2.2.2.2.2.2.2.2.2.2.2.2.2.2.2.2.1
 let Vt : Bool := x.2.2.2.2.2.2.2.2.2.2.2.2.2.2.2.2.2.2.2.2.2.2.2.2.1
 let Bq : Bool := x.2.2.2.2.2.2.2.2.2.2.2.2.2.2.2.2.2.2.2.2.2.2.2.2.2.1
 let zWm : List (Bool × Int × Unit) := x.2.2.2.2.2.2.2.2.2.2.2.2.2.2.2.2.2.2.2.2.2.2.2.2.2.2.1
 let zZv : List (List UInt8 × Bool × Unit) := x.2.2.2.2.2.2.2.2.2.2.2.2.2.2.2.2.2.2.2.2.2.2.2.2.2.2.2.1
 let zZw : Bool := x.2.2.2.2.2.2.2.2.2.2.2.2.2.2.2.2.2.2.2.2.2.2.2.2.2.2.2.2.1
 let Eh : List (List (NdT) × Bool × Unit) := x.2.2.2.2.2.2.2.2.2.2.2.2.2.2.2.2.2.2.2.2.2.2.2.2.2.2.2.2.2.1
 let yEn : List (((Int × Int × Int × Unit) × (Int × Int × Int × Unit) × Bool × Unit) × Int × List UInt8 × List UInt8 × Int × Int × Int × List (List UInt8 × Int × Unit) × Bool × Bool × Unit) := x.2.2.2.2.2.2.2.2.2.2.2.2.2.2.2.2.2.2.2.2.2.2.2.2.2.2.2.2.2.2.1
 let zZx : Bool := x.2.2.2.2.2.2.2.2.2.2.2.2.2.2.2.2.2.2.2.2.2.2.2.2.2.2.2.2.2.2.2.1
 let zZy : List (List UInt8 × List UInt8 × Unit) := x.2.2.2.2.2.2.2.2.2.2.2.2.2.2.2.2.2.2.2.2.2.2.2.2.2.2.2.2.2.2.2.2.1
 let zCn : List (List UInt8 × Bool × Unit) := x.2.2.2.2.2.2.2.2.2.2.2.2.2.2.2.2.2.2.2.2.2.2.2.2.2.2.2.2.2.2.2.2.2.1
 chk ((decide (0 <= (Eh.length : Int)) && (decide ((Eh.length : Int) = (Eh.length : Int)) && Nat.ble ((Eh.length : Int).toNat * 1) room))) (
  let r35 : List (Bool) := List.replicate (Eh.length : Int).toNat false
  let v36 : Int := (([(c_1, (c_2, (c_3, ()))), (c_4, (c_5, (c_6, ())))].length : Nat) : Int)
  fix (Ef n) n (v36, 0, Oc, zNy, N19, Vq, Vr, Bp, Vs, zCm, Vt, Bq, zWm, zZv, zZw, Eh, yEn, zZx, zZy, zCn, c_1, c_2, c_3, c_4, c_5, c_6, c_7, c_8, c_9, yEh, zNx, yEi, yEj, yEk, yEl, yEm, r35, [(c_1, (c_2, (c_3, ()))), (c_4, (c_5, (c_6, ())))], ()))
def gU (n : Nat) (x : List UInt8 × Bool × Int × Int × Int × Int × Int × List UInt8 × List UInt8 × Bool × Bool × Bool × List (List UInt8 × Bool × Unit) × Bool × List (List (NdT) × Bool × Unit) × List (((Int × Int × Int × Unit) × (Int × Int × Int × Unit) × Bool × Unit) × Int × List UInt8 × List UInt8 × Int × Int × Int × List (List UInt8 × Int × Unit) × Bool × Bool × Unit) × Bool × List (List UInt8 × List UInt8 × Unit) × List (Bool × Int × Unit) × List (List UInt8 × Bool × Unit) × Unit) : Option (Int × Int × Int × Int × Int × List UInt8 × List UInt8 × Bool × Bool × Bool × List (List UInt8 × Bool × Unit) × Bool × List (List (NdT) × Bool × Unit) × List (((Int × Int × Int × Unit) × (Int × Int × Int × Unit) × Bool × Unit) × Int × List UInt8 × List UInt8 × Int × Int × Int × List (List UInt8 × Int × Unit) × Bool × Bool × Unit) × Bool × List (List UInt8 × List UInt8 × Unit) × List (Bool × Int × Unit) × List (List UInt8 × Bool × Unit) × Unit) :=
 let s_1 : List UInt8 := x.1
 let zGj : Bool := x.2.1
 let zGk : Int := x.2.2.1
 let PC4 : Int := x.2.2.2.1
 let N5 : Int := x.2.2.2.2.1
 let zNt : Int := x.2.2.2.2.2.1
 let zNu : Int := x.2.2.2.2.2.2.1
 let Rx : List UInt8 := x.2.2.2.2.2.2.2.1
 let zNv : List UInt8 := x.2.2.2.2.2.2.2.2.1
 let zNw : Bool := x.2.2.2.2.2.2.2.2.2.1
 let zGl : Bool := x.2.2.2.2.2.2.2.2.2.2.1
 let Ma : Bool := x.2.2.2.2.2.2.2.2.2.2.2.1
 let zZz : List (List UInt8 × Bool × Unit) := x.2.2.2.2.2.2.2.2.2.2.2.2.1
 let yAa : Bool := x.2.2.2.2.2.2.2.2.2.2.2.2.2.1
 let yEo : List (List (NdT) × Bool × Unit) := x.2.2.2.2.2.2.2.2.2.2.2.2.2.2.1
 let yEp : List (((Int × Int × Int × Unit) × (Int × Int × Int × Unit) × Bool × Unit) × Int × List UInt8 × List UInt8 × Int × Int × Int × List (List UInt8 × Int × Unit) × Bool × Bool × Unit) := x.2.2.2.2.2.2.2.2.2.2.2.2.2.2.2.1
 let yAb : Bool := x.2.2.2.2.2.2.2.2.2.2.2.2.2.2.2.2.1
 let yAc : List (List UInt8 × List UInt8 × Unit) := x.2.2.2.2.2.2.2.2.2.2.2.2.2.2.2.2.2.1
 let zNz : List (Bool × Int × Unit) := x.2.2.2.2.2.2.2.2.2.2.2.2.2.2.2.2.2.2.1
 let Vn : List (List UInt8 × Bool × Unit) := x.2.2.2.2.2.2.2.2.2.2.2.2.2.2.2.2.2.2.2.1
 chk (Nat.ble ((Vn.length + ([(s_1, (zGj, ()))] : List (List UInt8 × Bool × Unit)).length) * 24) room) (
  let r21 : List (List UInt8 × Bool × Unit) := Vn ++ [(s_1, (zGj, ()))]
  some (zGk, PC4, N5, zNt, zNu, Rx, zNv, zNw, zGl, Ma, zZz, yAa, yEo, yEp, yAb, yAc, zNz, r21, ()))
def mP (n : Nat) (x : Int × Int × Int × Int × Int × List UInt8 × List UInt8 × Bool × Bool × Bool × List (List UInt8 × Bool × Unit) × Bool × List (List (NdT) × Bool × Unit) × List (((Int × Int × Int × Unit) × (Int × Int × Int × Unit) × Bool × Unit) × Int × List UInt8 × List UInt8 × Int × Int × Int × List (List UInt8 × Int × Unit) × Bool × Bool × Unit) × Bool × List (List UInt8 × List UInt8 × Unit) × List (Bool × Int × Unit) × List (List UInt8 × Bool × Unit) × Unit) : Option (Int × Int × Int × Int × Int × List UInt8 × List UInt8 × Bool × Bool × Bool × List (List UInt8 × Bool × Unit) × Bool × List (List (NdT) × Bool × Unit) × List (((Int × Int × Int × Unit) × (Int × Int × Int × Unit) × Bool × Unit) × Int × List UInt8 × List UInt8 × Int × Int × Int × List (List UInt8 × Int × Unit) × Bool × Bool × Unit) × Bool × List (List UInt8 × List UInt8 × Unit) × List (Bool × Int × Unit) × List (List UInt8 × Bool × Unit) × Unit) :=
 let iG : Int := x.1
 let PC2 : Int := x.2.1
 let N3 : Int := x.2.2.1
 let kN : Int := x.2.2.2.1
 let kP : Int := x.2.2.2.2.1
 let dG : List UInt8 := x.2.2.2.2.2.1
 let kQ : List UInt8 := x.2.2.2.2.2.2.1
 let mM : Bool := x.2.2.2.2.2.2.2.1
 let kR : Bool := x.2.2.2.2.2.2.2.2.1
 let dA : Bool := x.2.2.2.2.2.2.2.2.2.1
 let pV : List (List UInt8 × Bool × Unit) := x.2.2.2.2.2.2.2.2.2.2.1
 let sJ : Bool := x.2.2.2.2.2.2.2.2.2.2.2.1
 let zV : List (List (NdT) × Bool × Unit) := x.2.2.2.2.2.2.2.2.2.2.2.2.1
 let zW : List (((Int × Int × Int × Unit) × (Int × Int × Int × Unit) × Bool × Unit) × Int × List UInt8 × List UInt8 × Int × Int × Int × List (List UInt8 × Int × Unit) × Bool × Bool × Unit) := x.2.2.2.2.2.2.2.2.2.2.2.2.2.1
 let sK : Bool := x.2.2.2.2.2.2.2.2.2.2.2.2.2.2.1
 let vJ : List (List UInt8 × List UInt8 × Unit) := x.2.2.2.2.2.2.2.2.2.2.2.2.2.2.2.1
 let Ij : List (Bool × Int × Unit) := x.2.2.2.2.2.2.2.2.2.2.2.2.2.2.2.2.1
 let jB : List (List UInt8 × Bool × Unit) := x.2.2.2.2.2.2.2.2.2.2.2.2.2.2.2.2.2.1
 ob (gU n (dG, mM, iG, PC2, N3, kN, kP, dG, kQ, mM, kR, dA, pV, sJ, zV, zW, sK, vJ, Ij, jB, ())) fun y19 =>
 some (y19.1, y19.2.1, y19.2.2.1, y19.2.2.2.1, y19.2.2.2.2.1, y19.2.2.2.2.2.1, y19.2.2.2.2.2.2.1, y19.2.2.2.2.2.2.2.1, y19.2.2.2.2.2.2.2.2.1, y19.2.2.2.2.2.2.2.2.2.1, y19.2.2.2.2.2.2.2.2.2.2.1, y19.2.2.2.2.2.2.2.2.2.2.2.1, y19.2.2.2.2.2.2.2.2.2.2.2.2.1, y19.2.2.2.2.2.2.2.2.2.2.2.2.2.1, y19.2.2.2.2.2.2.2.2.2.2.2.2.2.2.1, y19.2.2.2.2.2.2.2.2.2.2.2.2.2.2.2.1, y19.2.2.2.2.2.2.2.2.2.2.2.2.2.2.2.2.1, y19.2.2.2.2.2.2.2.2.2.2.2.2.2.2.2.2.2.1, ())
def oD (n : Nat) (x : Int × Int × Int × Int × Int × List UInt8 × List UInt8 × Bool × Bool × Bool × List (List UInt8 × Bool × Unit) × Bool × List (List (NdT) × Bool × Unit) × List (((Int × Int × Int × Unit) × (Int × Int × Int × Unit) × Bool × Unit) × Int × List UInt8 × List UInt8 × Int × Int × Int × List (List UInt8 × Int × Unit) × Bool × Bool × Unit) × Bool × List (List UInt8 × List UInt8 × Unit) × List (Bool × Int × Unit) × List (List UInt8 × Bool × Unit) × Unit) : Option (Int × Int × Int × Int × Int × List UInt8 × List UInt8 × Bool × Bool × Bool × List (List UInt8 × Bool × Unit) × Bool × List (List (NdT) × Bool × Unit) × List (((Int × Int × Int × Unit) × (Int × Int × Int × Unit) × Bool × Unit) × Int × List UInt8 × List UInt8 × Int × Int × Int × List (List UInt8 × Int × Unit) × Bool × Bool × Unit) × Bool × List (List UInt8 × List UInt8 × Unit) × List (Bool × Int × Unit) × List (List UInt8 × Bool × Unit) × Unit) :=
 let iG : Int := x.1
 let PC2 : Int := x.2.1
 let N3 : Int := x.2.2.1
 let kN : Int := x.2.2.2.1
 let kP : Int := x.2.2.2.2.1
 let dG : List UInt8 := x.2.2.2.2.2.1
 let kQ : List UInt8 := x.2.2.2.2.2.2.1
 let mM : Bool := x.2.2.2.2.2.2.2.1
 let kR : Bool := x.2.2.2.2.2.2.2.2.1
 let dA : Bool := x.2.2.2.2.2.2.2.2.2.1
 let pV : List (List UInt8 × Bool × Unit) := x.2.2.2.2.2.2.2.2.2.2.1
 let sJ : Bool := x.2.2.2.2.2.2.2.2.2.2.2.1
 let zV : List (List (NdT) × Bool × Unit) := x.2.2.2.2.2.2.2.2.2.2.2.2.1
 let zW : List (((Int × Int × Int × Unit) × (Int × Int × Int × Unit) × Bool × Unit) × Int × List UInt8 × List UInt8 × Int × Int × Int × List (List UInt8 × Int × Unit) × Bool × Bool × Unit) := x.2.2.2.2.2.2.2.2.2.2.2.2.2.1
 let sK : Bool := x.2.2.2.2.2.2.2.2.2.2.2.2.2.2.1
 let vJ : List (List UInt8 × List UInt8 × Unit) := x.2.2.2.2.2.2.2.2.2.2.2.2.2.2.2.1
 let Ij : List (Bool × Int × Unit) := x.2.2.2.2.2.2.2.2.2.2.2.2.2.2.2.2.1
 let jB : List (List UInt8 × Bool × Unit) := x.2.2.2.2.2.2.2.2.2.2.2.2.2.2.2.2.2.1
 br (!sK) (
  br (!sJ) (
   ob (mP n (iG, PC2, N3, kN, kP, dG, kQ, mM, kR, dA, pV, sJ, zV, zW, sK, vJ, Ij, jB, ())) fun y19 =>
   some (y19.1, y19.2.1, y19.2.2.1, y19.2.2.2.1, y19.2.2.2.2.1, y19.2.2.2.2.2.1, y19.2.2.2.2.2.2.1, y19.2.2.2.2.2.2.2.1, y19.2.2.2.2.2.2.2.2.1, y19.2.2.2.2.2.2.2.2.2.1, y19.2.2.2.2.2.2.2.2.2.2.1, y19.2.2.2.2.2.2.2.2.2.2.2.1, y19.2.2.2.2.2.2.2.2.2.2.2.2.1, y19.2.2.2.2.2.2.2.2.2.2.2.2.2.1, y19.2.2.2.2.2.2.2.2.2.2.2.2.2.2.1, y19.2.2.2.2.2.2.2.2.2.2.2.2.2.2.2.1, y19.2.2.2.2.2.2.2.2.2.2.2.2.2.2.2.2.1, y19.2.2.2.2.2.2.2.2.2.2.2.2.2.2.2.2.2.1, ())) (
   some (iG, PC2, N3, kN, kP, dG, kQ, mM, kR, dA, pV, sJ, zV, zW, sK, vJ, Ij, jB, ()))) (
  some (iG, PC2, N3, kN, kP, dG, kQ, mM, kR, dA, pV, sJ, zV, zW, sK, vJ, Ij, jB, ()))
def zX (n : Nat) (g0 : List (List UInt8 × Bool × Unit) × Int × Int × Int × Int × Int × Int × Int × List UInt8 × List UInt8 × Bool × Bool × Bool × List (List UInt8 × Bool × Unit) × Bool × List (List (NdT) × Bool × Unit) × List (((Int × Int × Int × Unit) × (Int × Int × Int × Unit) × Bool × Unit) × Int × List UInt8 × List UInt8 × Int × Int × Int × List (List UInt8 × Int × Unit) × Bool × Bool × Unit) × Bool × List (List UInt8 × List UInt8 × Unit) × List (Bool × Int × Unit) × List (List UInt8 × Bool × Unit) × Unit -> Option (Int × Int × Int × Int × Int × List UInt8 × List UInt8 × Bool × Bool × Bool × List (List UInt8 × Bool × Unit) × Bool × List (List (NdT) × Bool × Unit) × List (((Int × Int × Int × Unit) × (Int × Int × Int × Unit) × Bool × Unit) × Int × List UInt8 × List UInt8 × Int × Int × Int × List (List UInt8 × Int × Unit) × Bool × Bool × Unit) × Bool × List (List UInt8 × List UInt8 × Unit) × List (Bool × Int × Unit) × List (List UInt8 × Bool × Unit) × Unit)) (x19 : List (List UInt8 × Bool × Unit) × Int × Int × Int × Int × Int × Int × Int × List UInt8 × List UInt8 × Bool × Bool × Bool × List (List UInt8 × Bool × Unit) × Bool × List (List (NdT) × Bool × Unit) × List (((Int × Int × Int × Unit) × (Int × Int × Int × Unit) × Bool × Unit) × Int × List UInt8 × List UInt8 × Int × Int × Int × List (List UInt8 × Int × Unit) × Bool × Bool × Unit) × Bool × List (List UInt8 × List UInt8 × Unit) × List (Bool × Int × Unit) × List (List UInt8 × Bool × Unit) × Unit) : Option (Int × Int × Int × Int × Int × List UInt8 × List UInt8 × Bool × Bool × Bool × List (List UInt8 × Bool × Unit) × Bool × List (List (NdT) × Bool × Unit) × List (((Int × Int × Int × Unit) × (Int × Int × Int × Unit) × Bool × Unit) × Int × List UInt8 × List UInt8 × Int × Int × Int × List (List UInt8 × Int × Unit) × Bool × Bool × Unit) × Bool × List (List UInt8 × List UInt8 × Unit) × List (Bool × Int × Unit) × List (List UInt8 × Bool × Unit) × Unit) :=
 let oC : List (List UInt8 × Bool × Unit) := x19.1
 let tT : Int := x19.2.1
 let lT : Int := x19.2.2.1
 let pU : Int := x19.2.2.2.1
 let Ig : Int := x19.2.2.2.2.1
 let N25 : Int := x19.2.2.2.2.2.1
 let tV : Int := x19.2.2.2.2.2.2.1
 let tX : Int := x19.2.2.2.2.2.2.2.1
 let kS : List UInt8 := x19.2.2.2.2.2.2.2.2.1
 let tY : List UInt8 := x19.2.2.2.2.2.2.2.2.2.1
 let yM : Bool := x19.2.2.2.2.2.2.2.2.2.2.1
 let tZ : Bool := x19.2.2.2.2.2.2.2.2.2.2.2.1
 let kT : Bool := x19.2.2.2.2.2.2.2.2.2.2.2.2.1
 let Yl : List (List UInt8 × Bool × Unit) := x19.2.2.2.2.2.2.2.2.2.2.2.2.2.1
 let Od : Bool := x19.2.2.2.2.2.2.2.2.2.2.2.2.2.2.1
 let Vu : List (List (NdT) × Bool × Unit) := x19.2.2.2.2.2.2.2.2.2.2.2.2.2.2.2.1
 let Vv : List (((Int × Int × Int × Unit) × (Int × Int × Int × Unit) × Bool × Unit) × Int × List UInt8 × List UInt8 × Int × Int × Int × List (List UInt8 × Int × Unit) × Bool × Bool × Unit) := x19.2.2.2.2.2.2.2.2.2.2.2.2.2.2.2.2.1
 let Oe : Bool := x19.2.2.2.2.2.2.2.2.2.2.2.2.2.2.2.2.2.1
 let Ei : List (List UInt8 × List UInt8 × Unit) := x19.2.2.2.2.2.2.2.2.2.2.2.2.2.2.2.2.2.2.1
 let zCo : List (Bool × Int × Unit) := x19.2.2.2.2.2.2.2.2.2.2.2.2.2.2.2.2.2.2.2.1
 let yN : List (List UInt8 × Bool × Unit) := x19.2.2.2.2.2.2.2.2.2.2.2.2.2.2.2.2.2.2.2.2.1
 br (decide (lT < tT)) (
  chk (inB lT oC.length) (
   let v41 : List UInt8 × Bool × Unit := bZ (Ty.dflt aI) oC lT
   br (!v41.2.1) (
    ob (gU n (v41.1, true, pU, Ig, N25, tV, tX, kS, tY, yM, tZ, kT, Yl, Od, Vu, Vv, Oe, Ei, zCo, yN, ())) fun y42 =>
    let v43 : Int := IntKind.wrap .i64 (lT + 1)
    g0 (oC, tT, v43, y42.1, y42.2.1, y42.2.2.1, y42.2.2.2.1, y42.2.2.2.2.1, y42.2.2.2.2.2.1, y42.2.2.2.2.2.2.1, y42.2.2.2.2.2.2.2.1, y42.2.2.2.2.2.2.2.2.1, y42.2.2.2.2.2.2.2.2.2.1, y42.2.2.2.2.2.2.2.2.2.2.1, y42.2.2.2.2.2.2.2.2.2.2.2.1, y42.2.2.2.2.2.2.2.2.2.2.2.2.1, y42.2.2.2.2.2.2.2.2.2.2.2.2.2.1, y42.2.2.2.2.2.2.2.2.2.2.2.2.2.2.1, y42.2.2.2.2.2.2.2.2.2.2.2.2.2.2.2.1, y42.2.2.2.2.2.2.2.2.2.2.2.2.2.2.2.2.1, y42.2.2.2.2.2.2.2.2.2.2.2.2.2.2.2.2.2.1, ())) (
    ob (lX n (Ei, v41.1)) fun y44 =>
    br (!(y44.1 == [])) (
     ob (strings_CutSuffix n (y44.1, [10])) fun y45 =>
     ob (gU n (y45.1, y45.2, pU, Ig, N25, tV, tX, kS, tY, yM, tZ, kT, Yl, Od, Vu, Vv, Oe, Ei, zCo, yN, ())) fun y46 =>
     let v47 : Int := IntKind.wrap .i64 (lT + 1)
     g0 (oC, tT, v47, y46.1, y46.2.1, y46.2.2.1, y46.2.2.2.1, y46.2.2.2.2.1, y46.2.2.2.2.2.1, y46.2.2.2.2.2.2.1, y46.2.2.2.2.2.2.2.1, y46.2.2.2.2.2.2.2.2.1, y46.2.2.2.2.2.2.2.2.2.1, y46.2.2.2.2.2.2.2.2.2.2.1, y46.2.2.2.2.2.2.2.2.2.2.2.1, y46.2.2.2.2.2.2.2.2.2.2.2.2.1, y46.2.2.2.2.2.2.2.2.2.2.2.2.2.1, y46.2.2.2.2.2.2.2.2.2.2.2.2.2.2.1, y46.2.2.2.2.2.2.2.2.2.2.2.2.2.2.2.1, y46.2.2.2.2.2.2.2.2.2.2.2.2.2.2.2.2.1, y46.2.2.2.2.2.2.2.2.2.2.2.2.2.2.2.2.2.1, ())) (
     let v48 : Int := IntKind.wrap .i64 (lT + 1)
     g0 (oC, tT, v48, pU, Ig, N25, tV, tX, kS, tY, yM, tZ, kT, Yl, Od, Vu, Vv, Oe, Ei, zCo, yN, ()))))) (
  some (pU, Ig, N25, tV, tX, kS, tY, yM, tZ, kT, [], Od, Vu, Vv, Oe, Ei, zCo, yN, ()))
def oF (n : Nat) (x : Int × Int × Int × Int × Int × List UInt8 × List UInt8 × Bool × Bool × Bool × List (List UInt8 × Bool × Unit) × Bool × List (List (NdT) × Bool × Unit) × List (((Int × Int × Int × Unit) × (Int × Int × Int × Unit) × Bool × Unit) × Int × List UInt8 × List UInt8 × Int × Int × Int × List (List UInt8 × Int × Unit) × Bool × Bool × Unit) × Bool × List (List UInt8 × List UInt8 × Unit) × List (Bool × Int × Unit) × List (List UInt8 × Bool × Unit) × Unit) : Option (Int × Int × Int × Int × Int × List UInt8 × List UInt8 × Bool × Bool × Bool × List (List UInt8 × Bool × Unit) × Bool × List (List (NdT) × Bool × Unit) × List (((Int × Int × Int × Unit) × (Int × Int × Int × Unit) × Bool × Unit) × Int × List UInt8 × List UInt8 × Int × Int × Int × List (List UInt8 × Int × Unit) × Bool × Bool × Unit) × Bool × List (List UInt8 × List UInt8 × Unit) × List (Bool × Int × Unit) × List (List UInt8 × Bool × Unit) × Unit) :=
 let iG : Int := x.1
 let PC2 : Int := x.2.1
 let N3 : Int := x.2.2.1
 let kN : Int := x.2.2.2.1
 let kP : Int := x.2.2.2.2.1
 let dG : List UInt8 := x.2.2.2.2.2.1
 let kQ : List UInt8 := x.2.2.2.2.2.2.1
 let mM : Bool := x.2.2.2.2.2.2.2.1
 let kR : Bool := x.2.2.2.2.2.2.2.2.1
 let dA : Bool := x.2.2.2.2.2.2.2.2.2.1
 let pV : List (List UInt8 × Bool × Unit) := x.2.2.2.2.2.2.2.2.2.2.1
 let sJ : Bool := x.2.2.2.2.2.2.2.2.2.2.2.1
 let zV : List (List (NdT) × Bool × Unit) := x.2.2.2.2.2.2.2.2.2.2.2.2.1
 let zW : List (((Int × Int × Int × Unit) × (Int × Int × Int × Unit) × Bool × Unit) × Int × List UInt8 × List UInt8 × Int × Int × Int × List (List UInt8 × Int × Unit) × Bool × Bool × Unit) := x.2.2.2.2.2.2.2.2.2.2.2.2.2.1
 let sK : Bool := x.2.2.2.2.2.2.2.2.2.2.2.2.2.2.1
 let vJ : List (List UInt8 × List UInt8 × Unit) := x.2.2.2.2.2.2.2.2.2.2.2.2.2.2.2.1
 let Ij : List (Bool × Int × Unit) := x.2.2.2.2.2.2.2.2.2.2.2.2.2.2.2.2.1
 let jB : List (List UInt8 × Bool × Unit) := x.2.2.2.2.2.2.2.2.2.2.2.2.2.2.2.2.2.1
 fix (zX n) n (pV, (pV.length : Int), 0, iG, PC2, N3, kN, kP, dG, kQ, mM, kR, dA, pV, sJ, zV, zW, sK, vJ, Ij, jB, ())
def pW (n : Nat) (x : Int × Int × Int × Int × Int × Int × List UInt8 × List UInt8 × Bool × Bool × Bool × List (List UInt8 × Bool × Unit) × Bool × List (List (NdT) × Bool × Unit) × List (((Int × Int × Int × Unit) × (Int × Int × Int × Unit) × Bool × Unit) × Int × List UInt8 × List UInt8 × Int × Int × Int × List (List UInt8 × Int × Unit) × Bool × Bool × Unit) × Bool × List (List UInt8 × List UInt8 × Unit) × List (Bool × Int × Unit) × List (List UInt8 × Bool × Unit) × Unit) : Option (Int × Int × Int × Int × Int × List UInt8 × List UInt8 × Bool × Bool × Bool × List (List UInt8 × Bool × Unit) × Bool × List (List (NdT) × Bool × Unit) × List (((Int × Int × Int × Unit) × (Int × Int × Int × Unit) × Bool × Unit) × Int × List UInt8 × List UInt8 × Int × Int × Int × List (List UInt8 × Int × Unit) × Bool × Bool × Unit) × Bool × List (List UInt8 × List UInt8 × Unit) × List (Bool × Int × Unit) × List (List UInt8 × Bool × Unit) × Unit) :=
 let yEq : Int := x.1
 let yHm : Int := x.2.1
 let PC3 : Int := x.2.2.1
 let N4 : Int := x.2.2.2.1
 let yHv : Int := x.2.2.2.2.1
 let yFr : Int := x.2.2.2.2.2.1
 let zWn : List UInt8 := x.2.2.2.2.2.2.1
 let yFs : List UInt8 := x.2.2.2.2.2.2.2.1
 let yHj : Bool := x.2.2.2.2.2.2.2.2.1
 let yEr : Bool := x.2.2.2.2.2.2.2.2.2.1
 let zRe : Bool := x.2.2.2.2.2.2.2.2.2.2.1
 let jH : List (List UInt8 × Bool × Unit) := x.2.2.2.2.2.2.2.2.2.2.2.1
 let fF : Bool := x.2.2.2.2.2.2.2.2.2.2.2.2.1
 let nX : List (List (NdT) × Bool × Unit) := x.2.2.2.2.2.2.2.2.2.2.2.2.2.1
 let nY : List (((Int × Int × Int × Unit) × (Int × Int × Int × Unit) × Bool × Unit) × Int × List UInt8 × List UInt8 × Int × Int × Int × List (List UInt8 × Int × Unit) × Bool × Bool × Unit) := x.2.2.2.2.2.2.2.2.2.2.2.2.2.2.1
 let kF : Bool := x.2.2.2.2.2.2.2.2.2.2.2.2.2.2.2.1
 let lS : List (List UInt8 × List UInt8 × Unit) := x.2.2.2.2.2.2.2.2.2.2.2.2.2.2.2.2.1
 let jB : List (Bool × Int × Unit) := x.2.2.2.2.2.2.2.2.2.2.2.2.2.2.2.2.2.1
 let zNz : List (List UInt8 × Bool × Unit) := x.2.2.2.2.2.2.2.2.2.2.2.2.2.2.2.2.2.2.1
 some (4, PC3, N4, yEq, yFr, zWn, yFs, yHj, yEr, zRe, jH, fF, nX, nY, kF, lS, jB, zNz, ())
def uE (n : Nat) (x : Int × Int × Int × Int × Int × Int × Bool × Int × List UInt8 × List UInt8 × Int × Int × Int × List (List UInt8 × Int × Unit) × Bool × Bool × Int × Int × Int × Int × Int × List UInt8 × List UInt8 × Bool × Bool × Bool × List (List UInt8 × Bool × Unit) × Bool × List (List (NdT) × Bool × Unit) × List (((Int × Int × Int × Unit) × (Int × Int × Int × Unit) × Bool × Unit) × Int × List UInt8 × List UInt8 × Int × Int × Int × List (List UInt8 × Int × Unit) × Bool × Bool × Unit) × Bool × List (List UInt8 × List UInt8 × Unit) × List (Bool × Int × Unit) × List (List UInt8 × Bool × Unit) × Unit) : Option (Int × Int × Int × Int × Int × List UInt8 × List UInt8 × Bool × Bool × Bool × List (List UInt8 × Bool × Unit) × Bool × List (List (NdT) × Bool × Unit) × List (((Int × Int × Int × Unit) × (Int × Int × Int × Unit) × Bool × Unit) × Int × List UInt8 × List UInt8 × Int × Int × Int × List (List UInt8 × Int × Unit) × Bool × Bool × Unit) × Bool × List (List UInt8 × List UInt8 × Unit) × List (Bool × Int × Unit) × List (List UInt8 × Bool × Unit) × Unit) :=
 let c_1 : Int := x.1
 let c_2 : Int := x.2.1
 let c_3 : Int := x.2.2.1
 let c_4 : Int := x.2.2.2.1
 let c_5 : Int := x.2.2.2.2.1
 let c_6 : Int := x.2.2.2.2.2.1
 let c_7 : Bool := x.2.2.2.2.2.2.1
 let c_8 : Int := x.2.2.2.2.2.2.2.1
 let c_9 : List UInt8 := x.2.2.2.2.2.2.2.2.1
 let yEh : List UInt8 := x.2.2.2.2.2.2.2.2.2.1
 let zNx : Int := x.2.2.2.2.2.2.2.2.2.2.1
 let yEi : Int := x.2.2.2.2.2.2.2.2.2.2.2.1
 let yEj : Int := x.2.2.2.2.2.2.2.2.2.2.2.2.1
 let yEk : List (List UInt8 × Int × Unit) := x.2.2.2.2.2.2.2.2.2.2.2.2.2.1
 let yEl : Bool := x.2.2.2.2.2.2.2.2.2.2.2.2.2.2.1
 let yEm : Bool := x.2.2.2.2.2.2.2.2.2.2.2.2.2.2.2.1
 let Oc : Int := x.2.2.2.2.2.2.2.2.2.2.2.2.2.2.2.2.1
 let zNy : Int := x.2.2.2.2.2.2.2.2.2.2.2.2.2.2.2.2.2.1
 let N19 : Int := x.2.2.2.2.2.2.2.2.2.2.2.2.2.2.2.2.2.2.1
 let Vq : Int := x.2.2.2.2.2.2.2.2.2.2.2.2.2.2.2.2.2.2.2.1
 let Vr : Int := x.2.2.2.2.2.2.2.2.2.2.2.2.2.2.2.2.2.2.2.2.1
 let Bp : List UInt8 := x.2.2.2.2.2.2.2.2.2.2.2.2.2.2.2.2.2.2.2.2.2.1
 let Vs : List UInt8 := x.2.2.2.2.2.2.2.2.2.2.2.2.2.2.2.2.2.2.2.2.2.2.1
 let zCm : Bool := x.2.2.2.2.2.2.2.2.2.2.2.2.2.2.2.2.2.2.2.2.2.2.2.1
 let Vt : Bool := x.2.2.2.2.2.2.2.2.2.2.2.2.2.2.2.2.2.2.2.2.2.2.2.2.1
 let Bq : Bool := x.2.2.2.2.2.2.2.2.2.2.2.2.2.2.2.2.2.2.2.2.2.2.2.2.2.1
 let zJt : List (List UInt8 × Bool × Unit) := x.2.2.2.2.2.2.2.2.2.2.2.2.2.2.2.2.2.2.2.2.2.2.2.2.2.2.1
 let zJu : Bool := x.2.2.2.2.2.2.2.2.2.2.2.2.2.2.2.2.2.2.2.2.2.2.2.2.2.2.2.1
 let zRf : List (List (NdT) × Bool × Unit) := x.2.2.2.2.2.2.2.2.2.2.2.2.2.2.2.2.2.2.2.2.2.2.2.2.2.2.2.2.1
 let zRg : List (((Int × Int × Int × Unit) × (Int × Int × Int × Unit) × Bool × Unit) × Int × List UInt8 × List UInt8 × Int × Int × Int × List (List UInt8 × Int × Unit) × Bool × Bool × Unit) := x.2.2.2.2.2.2.2.2.2.2.2.2.2.2.2.2.2.2.2.2.2.2.2.2.2.2.2.2.2.1
 let zJv : Bool := x.2.2.2.2.2.2.2.2.2.2.2.2.2.2.2.2.2.2.2.2.2.2.2.2.2.2.2.2.2.2.1
 let zJw : List (List UInt8 × List UInt8 × Unit) := x.2.2.2.2.2.2.2.2.2.2.2.2.2.2.2.2.2.2.2.2.2.2.2.2.2.2.2.2.2.2.2.1
 let zXo : List (Bool × Int × Unit) := x.2.2.2.2.2.2.2.2.2.2.2.2.2.2.2.2.2.2.2.2.2.2.2.2.2.2.2.2.2.2.2.2.1
 let zCn : List (List UInt8 × Bool × Unit) := x.2.2.2.2.2.2.2.2.2.2.2.2.2.2.2.2.2.2.2.2.2.2.2.2.2.2.2.2.2.2.2.2.2.1
 br (c_8 == 113) (
  ob (oD n (Oc, zNy, N19, Vq, Vr, Bp, Vs, zCm, Vt, Bq, zJt, zJu, zRf, zRg, zJv, zJw, zXo, zCn, ())) fun y35 =>
  ob (oF n (y35.1, y35.2.1, y35.2.2.1, y35.2.2.2.1, y35.2.2.2.2.1, y35.2.2.2.2.2.1, y35.2.2.2.2.2.2.1, y35.2.2.2.2.2.2.2.1, y35.2.2.2.2.2.2.2.2.1, y35.2.2.2.2.2.2.2.2.2.1, y35.2.2.2.2.2.2.2.2.2.2.1, y35.2.2.2.2.2.2.2.2.2.2.2.1, y35.2.2.2.2.2.2.2.2.2.2.2.2.1, y35.2.2.2.2.2.2.2.2.2.2.2.2.2.1, y35.2.2.2.2.2.2.2.2.2.2.2.2.2.2.1, y35.2.2.2.2.2.2.2.2.2.2.2.2.2.2.2.1, y35.2.2.2.2.2.2.2.2.2.2.2.2.2.2.2.2.1, y35.2.2.2.2.2.2.2.2.2.2.2.2.2.2.2.2.2.1, ())) fun y36 =>
  ob (pW n (zNx, y36.1, y36.2.1, y36.2.2.1, y36.2.2.2.1, y36.2.2.2.2.1, y36.2.2.2.2.2.1, y36.2.2.2.2.2.2.1, y36.2.2.2.2.2.2.2.1, y36.2.2.2.2.2.2.2.2.1, y36.2.2.2.2.2.2.2.2.2.1, y36.2.2.2.2.2.2.2.2.2.2.1, y36.2.2.2.2.2.2.2.2.2.2.2.1, y36.2.2.2.2.2.2.2.2.2.2.2.2.1, y36.2.2.2.2.2.2.2.2.2.2.2.2.2.1, y36.2.2.2.2.2.2.2.2.2.2.2.2.2.2.1, y36.2.2.2.2.2.2.2.2.2.2.2.2.2.2.2.1, y36.2.2.2.2.2.2.2.2.2.2.2.2.2.2.2.2.1, y36.2.2.2.2.2.2.2.2.2.2.2.2.2.2.2.2.2.1, ())) fun y37 =>
  some (y37.1, y37.2.1, y37.2.2.1, y37.2.2.2.1, y37.2.2.2.2.1, y37.2.2.2.2.2.1, y37.2.2.2.2.2.2.1, y37.2.2.2.2.2.2.2.1, y37.2.2.2.2.2.2.2.2.1, y37.2.2.2.2.2.2.2.2.2.1, y37.2.2.2.2.2.2.2.2.2.2.1, y37.2.2.2.2.2.2.2.2.2.2.2.1, y37.2.2.2.2.2.2.2.2.2.2.2.2.1, y37.2.2.2.2.2.2.2.2.2.2.2.2.2.1, y37.2.2.2.2.2.2.2.2.2.2.2.2.2.2.1, y37.2.2.2.2.2.2.2.2.2.2.2.2.2.2.2.1, y37.2.2.2.2.2.2.2.2.2.2.2.2.2.2.2.2.1, y37.2.2.2.2.2.2.2.2.2.2.2.2.2.2.2.2.2.1, ())) (
  ob (pW n (zNx, Oc, zNy, N19, Vq, Vr, Bp, Vs, zCm, Vt, Bq, zJt, zJu, zRf, zRg, zJv, zJw, zXo, zCn, ())) fun y38 =>
  some (y38.1, y38.2.1, y38.2.2.1, y38.2.2.2.1, y38.2.2.2.2.1, y38.2.2.2.2.2.1, y38.2.2.2.2.2.2.1, y38.2.2.2.2.2.2.2.1, y38.2.2.2.2.2.2.2.2.1, y38.2.2.2.2.2.2.2.2.2.1, y38.2.2.2.2.2.2.2.2.2.2.1, y38.2.2.2.2.2.2.2.2.2.2.2.1, y38.2.2.2.2.2.2.2.2.2.2.2.2.1, y38.2.2.2.2.2.2.2.2.2.2.2.2.2.1, y38.2.2.2.2.2.2.2.2.2.2.2.2.2.2.1, y38.2.2.2.2.2.2.2.2.2.2.2.2.2.2.2.1, y38.2.2.2.2.2.2.2.2.2.2.2.2.2.2.2.2.1, y38.2.2.2.2.2.2.2.2.2.2.2.2.2.2.2.2.2.1, ()))
def iH (n : Nat) (x : (Bool × List (List (NdT) × Bool × Unit) × List (((Int × Int × Int × Unit) × (Int × Int × Int × Unit) × Bool × Unit) × Int × List UInt8 × List UInt8 × Int × Int × Int × List (List UInt8 × Int × Unit) × Bool × Bool × Unit) × Unit) × Bool × (Int × Int × Int × Int × Int × List UInt8 × List UInt8 × Bool × Bool × Bool × List (Bool × Int × Unit) × List (List UInt8 × Bool × Unit) × Unit) × List (List UInt8 × List UInt8 × Unit)) : Option ((Int × Int × Int × Int × Int × List UInt8 × List UInt8 × Bool × Bool × Bool × List (Bool × Int × Unit) × List (List UInt8 × Bool × Unit) × Unit) × List (List UInt8 × List UInt8 × Unit) × List (List UInt8 × Bool × Unit)) :=
 let x_0 : Bool × List (List (NdT) × Bool × Unit) × List (((Int × Int × Int × Unit) × (Int × Int × Int × Unit) × Bool × Unit) × Int × List UInt8 × List UInt8 × Int × Int × Int × List (List UInt8 × Int × Unit) × Bool × Bool × Unit) × Unit := x.1
 let zJx : Bool := x.2.1
 let b_2 : Int × Int × Int × Int × Int × List UInt8 × List UInt8 × Bool × Bool × Bool × List (Bool × Int × Unit) × List (List UInt8 × Bool × Unit) × Unit := x.2.2.1
 let t_3 : List (List UInt8 × List UInt8 × Unit) := x.2.2.2
 br (b_2.1 != 1) (
  some (b_2, t_3, [])) (
  br (b_2.2.1 == (x_0.2.2.1.length : Int)) (
   ob (tQ n (b_2.1, b_2.2.1, b_2.2.2.1, b_2.2.2.2.1, b_2.2.2.2.2.1, b_2.2.2.2.2.2.1, b_2.2.2.2.2.2.2.1, b_2.2.2.2.2.2.2.2.1, b_2.2.2.2.2.2.2.2.2.1, b_2.2.2.2.2.2.2.2.2.2.1, b_2.2.2.2.2.2.2.2.2.2.2.1, b_2.2.2.2.2.2.2.2.2.2.2.2.1, x_0.1, x_0.2.1, x_0.2.2.1, zJx, t_3, [], ())) fun y1 =>
   ob (xE n (y1.1, y1.2.1, y1.2.2.1, y1.2.2.2.1, y1.2.2.2.2.1, y1.2.2.2.2.2.1, y1.2.2.2.2.2.2.1, y1.2.2.2.2.2.2.2.1, y1.2.2.2.2.2.2.2.2.1, y1.2.2.2.2.2.2.2.2.2.1, y1.2.2.2.2.2.2.2.2.2.2.1, y1.2.2.2.2.2.2.2.2.2.2.2.1, y1.2.2.2.2.2.2.2.2.2.2.2.2.1, y1.2.2.2.2.2.2.2.2.2.2.2.2.2.1, y1.2.2.2.2.2.2.2.2.2.2.2.2.2.2.1, y1.2.2.2.2.2.2.2.2.2.2.2.2.2.2.2.1, y1.2.2.2.2.2.2.2.2.2.2.2.2.2.2.2.2.1, y1.2.2.2.2.2.2.2.2.2.2.2.2.2.2.2.2.2.1, ())) fun y2 =>
   let v3 : List (List UInt8 × List UInt8 × Unit) := y2.2.2.2.2.2.2.2.2.2.2.2.2.2.2.2.2.1
   some ((y2.1, (y2.2.1, (y2.2.2.1, (y2.2.2.2.1, (y2.2.2.2.2.1, (y2.2.2.2.2.2.1, (y2.2.2.2.2.2.2.1, (y2.2.2.2.2.2.2.2.1, (y2.2.2.2.2.2.2.2.2.1, (y2.2.2.2.2.2.2.2.2.2.1, (y2.2.2.2.2.2.2.2.2.2.2.1, (y2.2.2.2.2.2.2.2.2.2.2.2.1, ())))))))))))), v3, y2.2.2.2.2.2.2.2.2.2.2.2.2.2.2.2.2.2.1)) (
   chk (inB b_2.2.1 x_0.2.2.1.length) (
    let v4 : ((Int × Int × Int × Unit) × (Int × Int × Int × Unit) × Bool × Unit) × Int × List UInt8 × List UInt8 × Int × Int × Int × List (List UInt8 × Int × Unit) × Bool × Bool × Unit := bZ (Ty.dflt aB) x_0.2.2.1 b_2.2.1
    ob (kU n (v4.1.1.1, v4.1.1.2.1, v4.1.1.2.2.1, v4.1.2.1.1, v4.1.2.1.2.1, v4.1.2.1.2.2.1, v4.1.2.2.1, v4.2.1, v4.2.2.1, v4.2.2.2.1, v4.2.2.2.2.1, v4.2.2.2.2.2.1, v4.2.2.2.2.2.2.1, v4.2.2.2.2.2.2.2.1, v4.2.2.2.2.2.2.2.2.1, v4.2.2.2.2.2.2.2.2.2.1, b_2.1, b_2.2.1, b_2.2.2.1, b_2.2.2.2.1, b_2.2.2.2.2.1, b_2.2.2.2.2.2.1, b_2.2.2.2.2.2.2.1, b_2.2.2.2.2.2.2.2.1, b_2.2.2.2.2.2.2.2.2.1, b_2.2.2.2.2.2.2.2.2.2.1, b_2.2.2.2.2.2.2.2.2.2.2.1, b_2.2.2.2.2.2.2.2.2.2.2.2.1, x_0.1, x_0.2.1, x_0.2.2.1, zJx, t_3, [], ())) fun y5 =>
    let v6 : Int := IntKind.wrap .i64 (y5.2.2.1 + 1)
    br y5.1 (
     chk ((v4.2.1 == 113)) (
      ob (uE n (v4.1.1.1, v4.1.1.2.1, v4.1.1.2.2.1, v4.1.2.1.1, v4.1.2.1.2.1, v4.1.2.1.2.2.1, v4.1.2.2.1, v4.2.1, v4.2.2.1, v4.2.2.2.1, v4.2.2.2.2.1, v4.2.2.2.2.2.1, v4.2.2.2.2.2.2.1, v4.2.2.2.2.2.2.2.1, v4.2.2.2.2.2.2.2.2.1, v4.2.2.2.2.2.2.2.2.2.1, y5.2.1, v6, y5.2.2.2.1, y5.2.2.2.2.1, y5.2.2.2.2.2.1, y5.2.2.2.2.2.2.1, y5.2.2.2.2.2.2.2.1, y5.2.2.2.2.2.2.2.2.1, y5.2.2.2.2.2.2.2.2.2.1, y5.2.2.2.2.2.2.2.2.2.2.1, y5.2.2.2.2.2.2.2.2.2.2.2.1, y5.2.2.2.2.2.2.2.2.2.2.2.2.1, y5.2.2.2.2.2.2.2.2.2.2.2.2.2.1, y5.2.2.2.2.2.2.2.2.2.2.2.2.2.2.1, y5.2.2.2.2.2.2.2.2.2.2.2.2.2.2.2.1, y5.2.2.2.2.2.2.2.2.2.2.2.2.2.2.2.2.1, y5.2.2.2.2.2.2.2.2.2.2.2.2.2.2.2.2.2.2.1, y5.2.2.2.2.2.2.2.2.2.2.2.2.2.2.2.2.2.1, ())) fun y7 =>
      let v8 : List (List UInt8 × List UInt8 × Unit) := y7.2.2.2.2.2.2.2.2.2.2.2.2.2.2.2.1
      some ((y7.1, (y7.2.1, (y7.2.2.1, (y7.2.2.2.1, (y7.2.2.2.2.1, (y7.2.2.2.2.2.1, (y7.2.2.2.2.2.2.1, (y7.2.2.2.2.2.2.2.1, (y7.2.2.2.2.2.2.2.2.1, (y7.2.2.2.2.2.2.2.2.2.1, (y7.2.2.2.2.2.2.2.2.2.2.2.2.2.2.2.2.1, (y7.2.2.2.2.2.2.2.2.2.2.1, ())))))))))))), v8, y7.2.2.2.2.2.2.2.2.2.2.2.2.2.2.2.2.2.1))) (
     br (v4.2.1 == 123) (
      let v9 : Int := IntKind.wrap .i64 (v4.2.2.2.2.2.1 + 1)
      let v10 : List (List UInt8 × List UInt8 × Unit) := y5.2.2.2.2.2.2.2.2.2.2.2.2.2.2.2.2.1
      some ((y5.2.1, (v9, (y5.2.2.2.1, (y5.2.2.2.2.1, (y5.2.2.2.2.2.1, (y5.2.2.2.2.2.2.1, (y5.2.2.2.2.2.2.2.1, (y5.2.2.2.2.2.2.2.2.1, (y5.2.2.2.2.2.2.2.2.2.1, (y5.2.2.2.2.2.2.2.2.2.2.1, (y5.2.2.2.2.2.2.2.2.2.2.2.2.2.2.2.2.2.2.1, (y5.2.2.2.2.2.2.2.2.2.2.2.1, ())))))))))))), v10, y5.2.2.2.2.2.2.2.2.2.2.2.2.2.2.2.2.2.1)) (
      let v11 : List (List UInt8 × List UInt8 × Unit) := y5.2.2.2.2.2.2.2.2.2.2.2.2.2.2.2.2.1
      some ((y5.2.1, (v6, (y5.2.2.2.1, (y5.2.2.2.2.1, (y5.2.2.2.2.2.1, (y5.2.2.2.2.2.2.1, (y5.2.2.2.2.2.2.2.1, (y5.2.2.2.2.2.2.2.2.1, (y5.2.2.2.2.2.2.2.2.2.1, (y5.2.2.2.2.2.2.2.2.2.2.1, (y5.2.2.2.2.2.2.2.2.2.2.2.2.2.2.2.2.2.2.1, (y5.2.2.2.2.2.2.2.2.2.2.2.1, ())))))))))))), v11, y5.2.2.2.2.2.2.2.2.2.2.2.2.2.2.2.2.2.1))))))
def Br (n : Nat) (g0 : List (List UInt8 × List UInt8 × Unit) × Int × List (List UInt8 × Bool × Unit) × Int × Bool × List (List (NdT) × Bool × Unit) × List (((Int × Int × Int × Unit) × (Int × Int × Int × Unit) × Bool × Unit) × Int × List UInt8 × List UInt8 × Int × Int × Int × List (List UInt8 × Int × Unit) × Bool × Bool × Unit) × Bool × List (List UInt8) × Bool × List (List UInt8 × List UInt8 × Unit) × Int × Int × Int × Int × Int × Int × Int × List UInt8 × List UInt8 × Bool × Bool × Bool × List (Bool × Int × Unit) × List (List UInt8 × Bool × Unit) × List (List UInt8 × Bool × Unit) × Unit -> Option ((List (List UInt8 × Bool × Unit) × List (List UInt8 × List UInt8 × Unit) × Int × Int × Unit) × Int)) (x5 : List (List UInt8 × List UInt8 × Unit) × Int × List (List UInt8 × Bool × Unit) × Int × Bool × List (List (NdT) × Bool × Unit) × List (((Int × Int × Int × Unit) × (Int × Int × Int × Unit) × Bool × Unit) × Int × List UInt8 × List UInt8 × Int × Int × Int × List (List UInt8 × Int × Unit) × Bool × Bool × Unit) × Bool × List (List UInt8) × Bool × List (List UInt8 × List UInt8 × Unit) × Int × Int × Int × Int × Int × Int × Int × List UInt8 × List UInt8 × Bool × Bool × Bool × List (Bool × Int × Unit) × List (List UInt8 × Bool × Unit) × List (List UInt8 × Bool × Unit) × Unit) : Option ((List (List UInt8 × Bool × Unit) × List (List UInt8 × List UInt8 × Unit) × Int × Int × Unit) × Int) :=
 let t_6 : List (List UInt8 × List UInt8 × Unit) := x5.1
 let Vw : Int := x5.2.1
 let sM : List (List UInt8 × Bool × Unit) := x5.2.2.1
 let Ik : Int := x5.2.2.2.1
 let Og : Bool := x5.2.2.2.2.1
 let Vx : List (List (NdT) × Bool × Unit) := x5.2.2.2.2.2.1
 let Vy : List (((Int × Int × Int × Unit) × (Int × Int × Int × Unit) × Bool × Unit) × Int × List UInt8 × List UInt8 × Int × Int × Int × List (List UInt8 × Int × Unit) × Bool × Bool × Unit) := x5.2.2.2.2.2.2.1
 let fF : Bool := x5.2.2.2.2.2.2.2.1
 let Ym : List (List UInt8) := x5.2.2.2.2.2.2.2.2.1
 let zOa : Bool := x5.2.2.2.2.2.2.2.2.2.1
 let Yn : List (List UInt8 × List UInt8 × Unit) := x5.2.2.2.2.2.2.2.2.2.2.1
 let Rz : Int := x5.2.2.2.2.2.2.2.2.2.2.2.1
 let yX : Int := x5.2.2.2.2.2.2.2.2.2.2.2.2.1
 let Ej : Int := x5.2.2.2.2.2.2.2.2.2.2.2.2.2.1
 let zWo : Int := x5.2.2.2.2.2.2.2.2.2.2.2.2.2.2.1
 let N21 : Int := x5.2.2.2.2.2.2.2.2.2.2.2.2.2.2.2.1
 let Me : Int := x5.2.2.2.2.2.2.2.2.2.2.2.2.2.2.2.2.1
 let zGn : Int := x5.2.2.2.2.2.2.2.2.2.2.2.2.2.2.2.2.2.1
 let Mf : List UInt8 := x5.2.2.2.2.2.2.2.2.2.2.2.2.2.2.2.2.2.2.1
 let zGo : List UInt8 := x5.2.2.2.2.2.2.2.2.2.2.2.2.2.2.2.2.2.2.2.1
 let zOb : Bool := x5.2.2.2.2.2.2.2.2.2.2.2.2.2.2.2.2.2.2.2.2.1
 let zGp : Bool := x5.2.2.2.2.2.2.2.2.2.2.2.2.2.2.2.2.2.2.2.2.2.1
 let Mg : Bool := x5.2.2.2.2.2.2.2.2.2.2.2.2.2.2.2.2.2.2.2.2.2.2.1
 let Sb : List (Bool × Int × Unit) := x5.2.2.2.2.2.2.2.2.2.2.2.2.2.2.2.2.2.2.2.2.2.2.2.1
 let Yo : List (List UInt8 × Bool × Unit) := x5.2.2.2.2.2.2.2.2.2.2.2.2.2.2.2.2.2.2.2.2.2.2.2.2.1
 let pR : List (List UInt8 × Bool × Unit) := x5.2.2.2.2.2.2.2.2.2.2.2.2.2.2.2.2.2.2.2.2.2.2.2.2.2.1
 br (Ej == 4) (
  br (Me == 0) (
   some ((pR, (t_6, (Ik, (yX, ())))), 0)) (
   some ((pR, (t_6, (Me, (yX, ())))), 0))) (
  br (Ej != 1) (
   br ((sM.length : Int) == 0) (
    ob (kM n (Ej, (zWo, (N21, (Me, (zGn, (Mf, (zGo, (zOb, (zGp, (Mg, (Sb, (Yo, ()))))))))))))) fun y32 =>
    g0 (t_6, Vw, sM, Ik, Og, Vx, Vy, fF, Ym, zOa, Yn, Rz, yX, y32.1, y32.2.1, y32.2.2.1, y32.2.2.2.1, y32.2.2.2.2.1, y32.2.2.2.2.2.1, y32.2.2.2.2.2.2.1, y32.2.2.2.2.2.2.2.1, y32.2.2.2.2.2.2.2.2.1, y32.2.2.2.2.2.2.2.2.2.1, y32.2.2.2.2.2.2.2.2.2.2.1, y32.2.2.2.2.2.2.2.2.2.2.2.1, pR, ())) (
    chk (inB 0 sM.length) (
     let v33 : List UInt8 × Bool × Unit := bZ (Ty.dflt aI) sM 0
     ob (lY n ((Ej, (zWo, (N21, (Me, (zGn, (Mf, (zGo, (zOb, (zGp, (Mg, (Sb, (Yo, ())))))))))))), v33, ((sM.length : Int) == 1))) fun y34 =>
     chk ((decide (0 <= (1 : Int)) && decide ((1 : Int) <= (sM.length : Int)))) (
      let v35 : List (List UInt8 × Bool × Unit) := sM.drop (1 : Int).toNat
      g0 (t_6, Vw, v35, Ik, Og, Vx, Vy, fF, Ym, zOa, Yn, Rz, yX, y34.1, y34.2.1, y34.2.2.1, y34.2.2.2.1, y34.2.2.2.2.1, y34.2.2.2.2.2.1, y34.2.2.2.2.2.2.1, y34.2.2.2.2.2.2.2.1, y34.2.2.2.2.2.2.2.2.1, y34.2.2.2.2.2.2.2.2.2.1, y34.2.2.2.2.2.2.2.2.2.2.1, y34.2.2.2.2.2.2.2.2.2.2.2.1, pR, ()))))) (
   br (decide (yX ≥ Vw)) (
    some (([], ([], (0, (0, ())))), 4)) (
    let v36 : Int := IntKind.wrap .i64 (yX + 1)
    ob (iH n ((Og, (Vx, (Vy, ()))), fF, (Ej, (zWo, (N21, (Me, (zGn, (Mf, (zGo, (zOb, (zGp, (Mg, (Sb, (Yo, ())))))))))))), t_6)) fun y37 =>
    chk (Nat.ble ((pR.length + y37.2.2.length) * 24) room) (
     g0 (y37.2.1, Vw, sM, Ik, Og, Vx, Vy, fF, Ym, zOa, Yn, Rz, v36, y37.1.1, y37.1.2.1, y37.1.2.2.1, y37.1.2.2.2.1, y37.1.2.2.2.2.1, y37.1.2.2.2.2.2.1, y37.1.2.2.2.2.2.2.1, y37.1.2.2.2.2.2.2.2.1, y37.1.2.2.2.2.2.2.2.2.1, y37.1.2.2.2.2.2.2.2.2.2.1, y37.1.2.2.2.2.2.2.2.2.2.2.1, y37.1.2.2.2.2.2.2.2.2.2.2.2.1, pR ++ y37.2.2, ())))))
def dS (n : Nat) (g0 : List (List UInt8 × List UInt8 × Unit) × Int × List (List UInt8 × Bool × Unit) × Int × Bool × List (List (NdT) × Bool × Unit) × List (((Int × Int × Int × Unit) × (Int × Int × Int × Unit) × Bool × Unit) × Int × List UInt8 × List UInt8 × Int × Int × Int × List (List UInt8 × Int × Unit) × Bool × Bool × Unit) × Bool × List (List UInt8) × Bool × List (List UInt8 × List UInt8 × Unit) × Int × Int × Int × Int × Int × Int × Int × List UInt8 × List UInt8 × Bool × Bool × Bool × List (Bool × Int × Unit) × List (List UInt8 × Bool × Unit) × List (List UInt8 × Bool × Unit) × Unit -> Option ((List (List UInt8 × Bool × Unit) × List (List UInt8 × List UInt8 × Unit) × Int × Int × Unit) × Int)) (x41 : List (List UInt8 × List UInt8 × Unit) × Int × List (List UInt8 × Bool × Unit) × Int × Bool × List (List (NdT) × Bool × Unit) × List (((Int × Int × Int × Unit) × (Int × Int × Int × Unit) × Bool × Unit) × Int × List UInt8 × List UInt8 × Int × Int × Int × List (List UInt8 × Int × Unit) × Bool × Bool × Unit) × Bool × List (List UInt8) × Bool × List (List UInt8 × List UInt8 × Unit) × Int × Int × Int × Int × Int × Int × Int × List UInt8 × List UInt8 × Bool × Bool × Bool × List (Bool × Int × Unit) × List (List UInt8 × Bool × Unit) × List (List UInt8 × Bool × Unit) × Unit) : Option ((List (List UInt8 × Bool × Unit) × List (List UInt8 × List UInt8 × Unit) × Int × Int × Unit) × Int) :=
 let zGq : List (List UInt8 × List UInt8 × Unit) := x41.1
 let Oh : Int := x41.2.1
 let oG : List (List UInt8 × Bool × Unit) := x41.2.2.1
 let Bu : Int := x41.2.2.2.1
 let Oi : Bool := x41.2.2.2.2.1
 let Vz : List (List (NdT) × Bool × Unit) := x41.2.2.2.2.2.1
 let Wd : List (((Int × Int × Int × Unit) × (Int × Int × Int × Unit) × Bool × Unit) × Int × List UInt8 × List UInt8 × Int × Int × Int × List (List UInt8 × Int × Unit) × Bool × Bool × Unit) := x41.2.2.2.2.2.2.1
 let Oj : Bool := x41.2.2.2.2.2.2.2.1
 let Yp : List (List UInt8) := x41.2.2.2.2.2.2.2.2.1
 let zOc : Bool := x41.2.2.2.2.2.2.2.2.2.1
 let Yq : List (List UInt8 × List UInt8 × Unit) := x41.2.2.2.2.2.2.2.2.2.2.1
 let Sc : Int := x41.2.2.2.2.2.2.2.2.2.2.2.1
 let yY : Int := x41.2.2.2.2.2.2.2.2.2.2.2.2.1
 let El : Int := x41.2.2.2.2.2.2.2.2.2.2.2.2.2.1
 let zWp : Int := x41.2.2.2.2.2.2.2.2.2.2.2.2.2.2.1
 let N57 : Int := x41.2.2.2.2.2.2.2.2.2.2.2.2.2.2.2.1
 let Mh : Int := x41.2.2.2.2.2.2.2.2.2.2.2.2.2.2.2.2.1
 let zGr : Int := x41.2.2.2.2.2.2.2.2.2.2.2.2.2.2.2.2.2.1
 let Mi : List UInt8 := x41.2.2.2.2.2.2.2.2.2.2.2.2.2.2.2.2.2.2.1
 let zGs : List UInt8 := x41.2.2.2.2.2.2.2.2.2.2.2.2.2.2.2.2.2.2.2.1
 let zOd : Bool := x41.2.2.2.2.2.2.2.2.2.2.2.2.2.2.2.2.2.2.2.2.1
 let zGt : Bool := x41.2.2.2.2.2.2.2.2.2.2.2.2.2.2.2.2.2.2.2.2.2.1
 let Mj : Bool := x41.2.2.2.2.2.2.2.2.2.2.2.2.2.2.2.2.2.2.2.2.2.2.1
 let Sg : List (Bool × Int × Unit) := x41.2.2.2.2.2.2.2.2.2.2.2.2.2.2.2.2.2.2.2.2.2.2.2.1
 let Yr : List (List UInt8 × Bool × Unit) := x41.2.2.2.2.2.2.2.2.2.2.2.2.2.2.2.2.2.2.2.2.2.2.2.2.1
 let Ol : List (List UInt8 × Bool × Unit) := x41.2.2.2.2.2.2.2.2.2.2.2.2.2.2.2.2.2.2.2.2.2.2.2.2.2.1
 br (El == 4) (
  br (Mh == 0) (
   some ((Ol, (zGq, (Bu, (yY, ())))), 0)) (
   some ((Ol, (zGq, (Mh, (yY, ())))), 0))) (
  br (El != 1) (
   br ((oG.length : Int) == 0) (
    ob (kM n (El, (zWp, (N57, (Mh, (zGr, (Mi, (zGs, (zOd, (zGt, (Mj, (Sg, (Yr, ()))))))))))))) fun y68 =>
    g0 (zGq, Oh, oG, Bu, Oi, Vz, Wd, Oj, Yp, zOc, Yq, Sc, yY, y68.1, y68.2.1, y68.2.2.1, y68.2.2.2.1, y68.2.2.2.2.1, y68.2.2.2.2.2.1, y68.2.2.2.2.2.2.1, y68.2.2.2.2.2.2.2.1, y68.2.2.2.2.2.2.2.2.1, y68.2.2.2.2.2.2.2.2.2.1, y68.2.2.2.2.2.2.2.2.2.2.1, y68.2.2.2.2.2.2.2.2.2.2.2.1, Ol, ())) (
    chk (inB 0 oG.length) (
     let v69 : List UInt8 × Bool × Unit := bZ (Ty.dflt aI) oG 0
     ob (lY n ((El, (zWp, (N57, (Mh, (zGr, (Mi, (zGs, (zOd, (zGt, (Mj, (Sg, (Yr, ())))))))))))), v69, ((oG.length : Int) == 1))) fun y70 =>
     chk ((decide (0 <= (1 : Int)) && decide ((1 : Int) <= (oG.length : Int)))) (
      let v71 : List (List UInt8 × Bool × Unit) := oG.drop (1 : Int).toNat
      g0 (zGq, Oh, v71, Bu, Oi, Vz, Wd, Oj, Yp, zOc, Yq, Sc, yY, y70.1, y70.2.1, y70.2.2.1, y70.2.2.2.1, y70.2.2.2.2.1, y70.2.2.2.2.2.1, y70.2.2.2.2.2.2.1, y70.2.2.2.2.2.2.2.1, y70.2.2.2.2.2.2.2.2.1, y70.2.2.2.2.2.2.2.2.2.1, y70.2.2.2.2.2.2.2.2.2.2.1, y70.2.2.2.2.2.2.2.2.2.2.2.1, Ol, ()))))) (
   br (decide (yY ≥ Oh)) (
    some (([], ([], (0, (0, ())))), 4)) (
    let v72 : Int := IntKind.wrap .i64 (yY + 1)
    ob (iH n ((Oi, (Vz, (Wd, ()))), Oj, (El, (zWp, (N57, (Mh, (zGr, (Mi, (zGs, (zOd, (zGt, (Mj, (Sg, (Yr, ())))))))))))), zGq)) fun y73 =>
    chk (Nat.ble ((Ol.length + y73.2.2.length) * 24) room) (
     g0 (y73.2.1, Oh, oG, Bu, Oi, Vz, Wd, Oj, Yp, zOc, Yq, Sc, v72, y73.1.1, y73.1.2.1, y73.1.2.2.1, y73.1.2.2.2.1, y73.1.2.2.2.2.1, y73.1.2.2.2.2.2.1, y73.1.2.2.2.2.2.2.1, y73.1.2.2.2.2.2.2.2.1, y73.1.2.2.2.2.2.2.2.2.1, y73.1.2.2.2.2.2.2.2.2.2.1, y73.1.2.2.2.2.2.2.2.2.2.2.1, y73.1.2.2.2.2.2.2.2.2.2.2.2.1, Ol ++ y73.2.2, ())))))
def Ou (n : Nat) (g0 : List (List UInt8 × List UInt8 × Unit) × Int × List (List UInt8 × Bool × Unit) × Int × Bool × List (List (NdT) × Bool × Unit) × List (((Int × Int × Int × Unit) × (Int × Int × Int × Unit) × Bool × Unit) × Int × List UInt8 × List UInt8 × Int × Int × Int × List (List UInt8 × Int × Unit) × Bool × Bool × Unit) × Bool × List (List UInt8) × Bool × List (List UInt8 × List UInt8 × Unit) × Int × Int × Int × Int × Int × Int × Int × List UInt8 × List UInt8 × Bool × Bool × Bool × List (Bool × Int × Unit) × List (List UInt8 × Bool × Unit) × List (List UInt8 × Bool × Unit) × Unit -> Option ((List (List UInt8 × Bool × Unit) × List (List UInt8 × List UInt8 × Unit) × Int × Int × Unit) × Int)) (x76 : List (List UInt8 × List UInt8 × Unit) × Int × List (List UInt8 × Bool × Unit) × Int × Bool × List (List (NdT) × Bool × Unit) × List (((Int × Int × Int × Unit) × (Int × Int × Int × Unit) × Bool × Unit) × Int × List UInt8 × List UInt8 × Int × Int × Int × List (List UInt8 × Int × Unit) × Bool × Bool × Unit) × Bool × List (List UInt8) × Bool × List (List UInt8 × List UInt8 × Unit) × Int × Int × Int × Int × Int × Int × Int × List UInt8 × List UInt8 × Bool × Bool × Bool × List (Bool × Int × Unit) × List (List UInt8 × Bool × Unit) × List (List UInt8 × Bool × Unit) × Unit) : Option ((List (List UInt8 × Bool × Unit) × List (List UInt8 × List UInt8 × Unit) × Int × Int × Unit) × Int) :=
 let zGu : List (List UInt8 × List UInt8 × Unit) := x76.1
 let Om : Int := x76.2.1
 let oH : List (List UInt8 × Bool × Unit) := x76.2.2.1
 let Bv : Int := x76.2.2.2.1
 let Oo : Bool := x76.2.2.2.2.1
 let Wh : List (List (NdT) × Bool × Unit) := x76.2.2.2.2.2.1
 let Wi : List (((Int × Int × Int × Unit) × (Int × Int × Int × Unit) × Bool × Unit) × Int × List UInt8 × List UInt8 × Int × Int × Int × List (List UInt8 × Int × Unit) × Bool × Bool × Unit) := x76.2.2.2.2.2.2.1
 let Oq : Bool := x76.2.2.2.2.2.2.2.1
 let Yt : List (List UInt8) := x76.2.2.2.2.2.2.2.2.1
 let zOe : Bool := x76.2.2.2.2.2.2.2.2.2.1
 let Yu : List (List UInt8 × List UInt8 × Unit) := x76.2.2.2.2.2.2.2.2.2.2.1
 let Si : Int := x76.2.2.2.2.2.2.2.2.2.2.2.1
 let yZ : Int := x76.2.2.2.2.2.2.2.2.2.2.2.2.1
 let Em : Int := x76.2.2.2.2.2.2.2.2.2.2.2.2.2.1
 let zWq : Int := x76.2.2.2.2.2.2.2.2.2.2.2.2.2.2.1
 let N92 : Int := x76.2.2.2.2.2.2.2.2.2.2.2.2.2.2.2.1
 let Mk : Int := x76.2.2.2.2.2.2.2.2.2.2.2.2.2.2.2.2.1
 let zGv : Int := x76.2.2.2.2.2.2.2.2.2.2.2.2.2.2.2.2.2.1
 let Ml : List UInt8 := x76.2.2.2.2.2.2.2.2.2.2.2.2.2.2.2.2.2.2.1
 let zGw : List UInt8 := x76.2.2.2.2.2.2.2.2.2.2.2.2.2.2.2.2.2.2.2.1
 let zOf : Bool := x76.2.2.2.2.2.2.2.2.2.2.2.2.2.2.2.2.2.2.2.2.1
 let zGx : Bool := x76.2.2.2.2.2.2.2.2.2.2.2.2.2.2.2.2.2.2.2.2.2.1
 let Mq : Bool := x76.2.2.2.2.2.2.2.2.2.2.2.2.2.2.2.2.2.2.2.2.2.2.1
 let Mr : List (Bool × Int × Unit) := x76.2.2.2.2.2.2.2.2.2.2.2.2.2.2.2.2.2.2.2.2.2.2.2.1
 let Sj : List (List UInt8 × Bool × Unit) := x76.2.2.2.2.2.2.2.2.2.2.2.2.2.2.2.2.2.2.2.2.2.2.2.2.1
 let En : List (List UInt8 × Bool × Unit) := x76.2.2.2.2.2.2.2.2.2.2.2.2.2.2.2.2.2.2.2.2.2.2.2.2.2.1
 br (Em == 4) (
  br (Mk == 0) (
   some ((En, (zGu, (Bv, (yZ, ())))), 0)) (
   some ((En, (zGu, (Mk, (yZ, ())))), 0))) (
  br (Em != 1) (
   br ((oH.length : Int) == 0) (
    ob (kM n (Em, (zWq, (N92, (Mk, (zGv, (Ml, (zGw, (zOf, (zGx, (Mq, (Mr, (Sj, ()))))))))))))) fun xG =>
    g0 (zGu, Om, oH, Bv, Oo, Wh, Wi, Oq, Yt, zOe, Yu, Si, yZ, xG.1, xG.2.1, xG.2.2.1, xG.2.2.2.1, xG.2.2.2.2.1, xG.2.2.2.2.2.1, xG.2.2.2.2.2.2.1, xG.2.2.2.2.2.2.2.1, xG.2.2.2.2.2.2.2.2.1, xG.2.2.2.2.2.2.2.2.2.1, xG.2.2.2.2.2.2.2.2.2.2.1, xG.2.2.2.2.2.2.2.2.2.2.2.1, En, ())) (
    chk (inB 0 oH.length) (
     let yHk : List UInt8 × Bool × Unit := bZ (Ty.dflt aI) oH 0
     ob (lY n ((Em, (zWq, (N92, (Mk, (zGv, (Ml, (zGw, (zOf, (zGx, (Mq, (Mr, (Sj, ())))))))))))), yHk, ((oH.length : Int) == 1))) fun xH =>
     chk ((decide (0 <= (1 : Int)) && decide ((1 : Int) <= (oH.length : Int)))) (
      let yHl : List (List UInt8 × Bool × Unit) := oH.drop (1 : Int).toNat
      g0 (zGu, Om, yHl, Bv, Oo, Wh, Wi, Oq, Yt, zOe, Yu, Si, yZ, xH.1, xH.2.1, xH.2.2.1, xH.2.2.2.1, xH.2.2.2.2.1, xH.2.2.2.2.2.1, xH.2.2.2.2.2.2.1, xH.2.2.2.2.2.2.2.1, xH.2.2.2.2.2.2.2.2.1, xH.2.2.2.2.2.2.2.2.2.1, xH.2.2.2.2.2.2.2.2.2.2.1, xH.2.2.2.2.2.2.2.2.2.2.2.1, En, ()))))) (
   br (decide (yZ ≥ Om)) (
    some (([], ([], (0, (0, ())))), 4)) (
    let v107 : Int := IntKind.wrap .i64 (yZ + 1)
    ob (iH n ((Oo, (Wh, (Wi, ()))), Oq, (Em, (zWq, (N92, (Mk, (zGv, (Ml, (zGw, (zOf, (zGx, (Mq, (Mr, (Sj, ())))))))))))), zGu)) fun rP =>
    chk (Nat.ble ((En.length + rP.2.2.length) * 24) room) (
     g0 (rP.2.1, Om, oH, Bv, Oo, Wh, Wi, Oq, Yt, zOe, Yu, Si, v107, rP.1.1, rP.1.2.1, rP.1.2.2.1, rP.1.2.2.2.1, rP.1.2.2.2.2.1, rP.1.2.2.2.2.2.1, rP.1.2.2.2.2.2.2.1, rP.1.2.2.2.2.2.2.2.1, rP.1.2.2.2.2.2.2.2.2.1, rP.1.2.2.2.2.2.2.2.2.2.1, rP.1.2.2.2.2.2.2.2.2.2.2.1, rP.1.2.2.2.2.2.2.2.2.2.2.2.1, En ++ rP.2.2, ())))))
def wT (n : Nat) (x : ((Bool × List (List (NdT) × Bool × Unit) × List (((Int × Int × Int × Unit) × (Int × Int × Int × Unit) × Bool × Unit) × Int × List UInt8 × List UInt8 × Int × Int × Int × List (List UInt8 × Int × Unit) × Bool × Bool × Unit) × Unit) × Bool × List (List UInt8) × Bool × Unit) × List UInt8 × List (List UInt8 × List UInt8 × Unit) × Int) : Option ((List (List UInt8 × Bool × Unit) × List (List UInt8 × List UInt8 × Unit) × Int × Int × Unit) × Int) :=
 let g_0 : (Bool × List (List (NdT) × Bool × Unit) × List (((Int × Int × Int × Unit) × (Int × Int × Int × Unit) × Bool × Unit) × Int × List UInt8 × List UInt8 × Int × Int × Int × List (List UInt8 × Int × Unit) × Bool × Bool × Unit) × Unit) × Bool × List (List UInt8) × Bool × Unit := x.1
 let zWk : List UInt8 := x.2.1
 let t_2 : List (List UInt8 × List UInt8 × Unit) := x.2.2.1
 let Wj : Int := x.2.2.2
 br g_0.2.2.2.1 (
  some (([], (t_2, (1, (0, ())))), 0)) (
  ob (qP n (g_0, t_2)) fun y1 =>
  ob (qR n (g_0, zWk, y1)) fun y2 =>
  ob (Ie n g_0.1) fun y3 =>
  br (y3.1 == 4) (
   br (y3.2.2.2.1 == 0) (
    some (([], (y1, (y2.2, (0, ())))), 0)) (
    some (([], (y1, (y3.2.2.2.1, (0, ())))), 0))) (
   br (y3.1 != 1) (
    br ((y2.1.length : Int) == 0) (
     ob (kM n y3) fun y4 =>
     fix (Br n) n (y1, Wj, y2.1, y2.2, g_0.1.1, g_0.1.2.1, g_0.1.2.2.1, g_0.2.1, g_0.2.2.1, g_0.2.2.2.1, [], 0, 0, y4.1, y4.2.1, y4.2.2.1, y4.2.2.2.1, y4.2.2.2.2.1, y4.2.2.2.2.2.1, y4.2.2.2.2.2.2.1, y4.2.2.2.2.2.2.2.1, y4.2.2.2.2.2.2.2.2.1, y4.2.2.2.2.2.2.2.2.2.1, y4.2.2.2.2.2.2.2.2.2.2.1, y4.2.2.2.2.2.2.2.2.2.2.2.1, [], ())) (
     chk (inB 0 y2.1.length) (
      let v38 : List UInt8 × Bool × Unit := bZ (Ty.dflt aI) y2.1 0
      ob (lY n (y3, v38, ((y2.1.length : Int) == 1))) fun y39 =>
      chk ((decide (0 <= (1 : Int)) && decide ((1 : Int) <= (y2.1.length : Int)))) (
       let v40 : List (List UInt8 × Bool × Unit) := y2.1.drop (1 : Int).toNat
       fix (dS n) n (y1, Wj, v40, y2.2, g_0.1.1, g_0.1.2.1, g_0.1.2.2.1, g_0.2.1, g_0.2.2.1, g_0.2.2.2.1, [], 0, 0, y39.1, y39.2.1, y39.2.2.1, y39.2.2.2.1, y39.2.2.2.2.1, y39.2.2.2.2.2.1, y39.2.2.2.2.2.2.1, y39.2.2.2.2.2.2.2.1, y39.2.2.2.2.2.2.2.2.1, y39.2.2.2.2.2.2.2.2.2.1, y39.2.2.2.2.2.2.2.2.2.2.1, y39.2.2.2.2.2.2.2.2.2.2.2.1, [], ()))))) (
    br (decide ((0 : Int) ≥ Wj)) (
     some (([], ([], (0, (0, ())))), 4)) (
     let v74 : Int := IntKind.wrap .i64 (0 + 1)
     ob (iH n (g_0.1, g_0.2.1, y3, y1)) fun y75 =>
     chk (Nat.ble (y75.2.2.length * 24) room) (
      fix (Ou n) n (y75.2.1, Wj, y2.1, y2.2, g_0.1.1, g_0.1.2.1, g_0.1.2.2.1, g_0.2.1, g_0.2.2.1, g_0.2.2.2.1, [], 0, v74, y75.1.1, y75.1.2.1, y75.1.2.2.1, y75.1.2.2.2.1, y75.1.2.2.2.2.1, y75.1.2.2.2.2.2.1, y75.1.2.2.2.2.2.2.1, y75.1.2.2.2.2.2.2.2.1, y75.1.2.2.2.2.2.2.2.2.1, y75.1.2.2.2.2.2.2.2.2.2.1, y75.1.2.2.2.2.2.2.2.2.2.2.1, y75.1.2.2.2.2.2.2.2.2.2.2.2.1, y75.2.2, ()))))))
def bD (n : Nat) (x : List UInt8 × List (Int) × Unit) : Option (Int × Bool × List (Int) × Unit) :=
 let s_1 : List UInt8 := x.1
 let zWr : List (Int) := x.2.1
 ob (iQ n (zWr, ())) fun y3 =>
 chk (Nat.ble ((y3.1.length + s_1.length) * 1) room) (
  some ((s_1.length : Int), false, y3.1 ++ aM s_1, ()))
def dO (n : Nat) (x : Int × List (Int) × Unit) : Option (Bool × List (Int) × Unit) :=
 let c_1 : Int := x.1
 let zWr : List (Int) := x.2.1
 ob (iQ n (zWr, ())) fun y3 =>
 chk (Nat.ble ((y3.1.length + ([c_1] : List (Int)).length) * 1) room) (
  some (false, y3.1 ++ [c_1], ()))
def jS (n : Nat) (g0 : List (List UInt8 × Bool × Unit) × Int × Int × List (Int) × Unit -> Option (List UInt8)) (x1 : List (List UInt8 × Bool × Unit) × Int × Int × List (Int) × Unit) : Option (List UInt8) :=
 let zOg : List (List UInt8 × Bool × Unit) := x1.1
 let Ms : Int := x1.2.1
 let Il : Int := x1.2.2.1
 let yEs : List (Int) := x1.2.2.2.1
 br (decide (Il < Ms)) (
  chk (inB Il zOg.length) (
   let v6 : List UInt8 × Bool × Unit := bZ (Ty.dflt aI) zOg Il
   ob (bD n (v6.1, yEs, ())) fun y7 =>
   br v6.2.1 (
    ob (dO n (10, y7.2.2.1, ())) fun y8 =>
    let v9 : Int := IntKind.wrap .i64 (Il + 1)
    g0 (zOg, Ms, v9, y8.2.1, ())) (
    let v10 : Int := IntKind.wrap .i64 (Il + 1)
    g0 (zOg, Ms, v10, y7.2.2.1, ())))) (
  ob (Builder_String n (yEs, ())) fun y11 =>
  some y11.1)
def yO (n : Nat) (x : List (List UInt8 × Bool × Unit)) : Option (List UInt8) :=
 let l_0 : List (List UInt8 × Bool × Unit) := x
 fix (jS n) n (l_0, (l_0.length : Int), 0, [], ())
def jT (n : Nat) (g0 : List UInt8 × List (List UInt8 × Bool × Unit) × Int × Int × List (Int) × Unit -> Option (List UInt8)) (x1 : List UInt8 × List (List UInt8 × Bool × Unit) × Int × Int × List (Int) × Unit) : Option (List UInt8) :=
 let zXp : List UInt8 := x1.1
 let Ms : List (List UInt8 × Bool × Unit) := x1.2.1
 let Il : Int := x1.2.2.1
 let zGy : Int := x1.2.2.2.1
 let yEt : List (Int) := x1.2.2.2.2.1
 br (decide (zGy < Il)) (
  chk (inB zGy Ms.length) (
   let v7 : List UInt8 × Bool × Unit := bZ (Ty.dflt aI) Ms zGy
   chk (decide (zXp.length + v7.1.length <= Cz)) (
    ob (bD n (zXp ++ v7.1, yEt, ())) fun y8 =>
    br v7.2.1 (
     ob (bD n ([10], y8.2.2.1, ())) fun y9 =>
     let v10 : Int := IntKind.wrap .i64 (zGy + 1)
     g0 ([], Ms, Il, v10, y9.2.2.1, ())) (
     let v11 : Int := IntKind.wrap .i64 (zGy + 1)
     g0 ([10], Ms, Il, v11, y8.2.2.1, ()))))) (
  ob (Builder_String n (yEt, ())) fun y12 =>
  some y12.1)
def kV (n : Nat) (x : List (List UInt8 × Bool × Unit)) : Option (List UInt8) :=
 let l_0 : List (List UInt8 × Bool × Unit) := x
 fix (jT n) n ([], l_0, (l_0.length : Int), 0, [], ())
def nJ (n : Nat) (x : List UInt8 × Int × Int) : Option (Bool) :=
 let zOh : List UInt8 := x.1
 let n_1 : Int := x.2.1
 let zRh : Int := x.2.2
 br (decide ((zOh.length : Int) > 200)) (
  ob (shown16 n ()) fun y1 =>
  some y1) (
  ob (shown16 n ()) fun y2 =>
  br (!y2) (
   ob (shown16 n ()) fun y3 =>
   some y3) (
   chk ((!decide (9 = 0))) (
    let v4 : Int := Int.tmod (IntKind.wrap .i64 n_1) 9
    let v5 : Int := IntKind.wrap .i64 (1 + v4)
    ob (wT n (((false, ([], ([(((1, (v5, (0, ()))), ((0, (0, (0, ()))), (false, ()))), (113, ([], ([], (IntKind.wrap .i64 zRh, (0, ((-1), ([], (false, (false, ()))))))))))], ()))), (false, ([], (false, ())))), zOh, [], 1000)) fun y6 =>
    ob (qO n zOh) fun y7 =>
    br (decide ((y7.length : Int) ≥ v5)) (
     chk ((decide (0 <= v5) && decide (v5 <= (y7.length : Int)))) (
      ob (yO n (y7.take v5.toNat)) fun y8 =>
      br (y6.2 == 0) (
       ob (kV n y6.1.1) fun y9 =>
       br (y9 == y8) (
        some (y6.1.2.2.1 == (IntKind.wrap .i64 zRh))) (
        some false)) (
       some false))) (
     br (y6.2 == 0) (
      ob (kV n y6.1.1) fun y10 =>
      br (y10 == zOh) (
       some (y6.1.2.2.1 == 0)) (
       some false)) (
      some false)))))
end
end Go.Dec
