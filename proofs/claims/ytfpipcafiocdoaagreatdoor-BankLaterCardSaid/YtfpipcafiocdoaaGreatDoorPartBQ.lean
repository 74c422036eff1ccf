/- Part of a proof over this seat: a library of my own, and what it says of this seat. No statement is proved here. -/
import Derived.Test.YtfpipcafiocdoaaGreatDoorPartAJ
import Derived.Test.YtfpipcafiocdoaaGreatDoorPartBJ
import Derived.Test.YtfpipcafiocdoaaGreatDoorPartBO
namespace Go.Dec
noncomputable section
set_option linter.unusedVariables false
abbrev nN:Ty:=.pair (.int .i64) (.pair (.arr 4 (.int .u64)) (.pair (.int .i64) (.pair (.int .i64) (.pair (.int .i64) (.pair (.int .i64) (.pair (.int .i64) .unit))))))
abbrev aK:Ty:=.pair (.slice nN) (.pair .bool .unit)
abbrev yG:Ty:=.pair (.int .i64) (.pair (.int .i64) (.pair (.int .i64) .unit))
abbrev tY:Ty:=.pair yG (.pair yG (.pair .bool .unit))
abbrev wW:Ty:=.pair .str (.pair (.int .i64) .unit)
abbrev aB:Ty:=.pair tY (.pair (.int .u8) (.pair .str (.pair .str (.pair (.int .i64) (.pair (.int .i64) (.pair (.int .i64) (.pair (.slice wW) (.pair .bool (.pair .bool .unit)))))))))
abbrev pQ:Ty:=.pair .bool (.pair (.slice aK) (.pair (.slice aB) .unit))
abbrev dR:Ty:=.pair .bool (.pair (.int .i64) .unit)
abbrev aT:Ty:=.pair .str (.pair .bool .unit)
abbrev bJ:Ty:=.pair (.int .i64) (.pair (.int .i64) (.pair (.int .i64) (.pair (.int .i64) (.pair (.int .i64) (.pair .str (.pair .str (.pair .bool (.pair .bool (.pair .bool (.pair (.slice dR) (.pair (.slice aT) .unit)))))))))))
abbrev cO:Ty:=.pair .str (.pair .str .unit)
abbrev zDs:Ty:=.pair bJ (.pair pQ (.pair .bool (.pair (.slice cO) (.pair (.slice aT) .unit))))
abbrev zTq:Ty:=.pair (.int .i64) (.pair .bool (.pair (.slice .bool) .unit))
def kC (n : Nat) (x : List UInt8 × Bool × Int × Int × Int × Int × Int × List UInt8 × List UInt8 × Bool × Bool × Bool × List (Bool × Int × Unit) × List (List UInt8 × Bool × Unit) × Bool × List (List fE × Bool × Unit) × List dM × Bool × List eG × List (List UInt8 × Bool × Unit) × Unit) : Option (Int × Int × Int × Int × Int × List UInt8 × List UInt8 × Bool × Bool × Bool × List (Bool × Int × Unit) × List (List UInt8 × Bool × Unit) × Bool × List (List fE × Bool × Unit) × List dM × Bool × List eG × List (List UInt8 × Bool × Unit) × Unit) :=
 let s_1 := x.1
 let zZv := x.2.1
 let zBx := x.2.2.1
 let PC4 := x.2.2.2.1
 let N5 := x.2.2.2.2.1
 let zIz := x.2.2.2.2.2.1
 let zJa := x.2.2.2.2.2.2.1
 let Nv := x.2.2.2.2.2.2.2.1
 let zJb := x.2.2.2.2.2.2.2.2.1
 let zJc := x.2.2.2.2.2.2.2.2.2.1
 let zBy := x.2.2.2.2.2.2.2.2.2.2.1
 let Il := x.2.2.2.2.2.2.2.2.2.2.2.1
 let zPn := x.2.2.2.2.2.2.2.2.2.2.2.2.1
 let zTr := x.2.2.2.2.2.2.2.2.2.2.2.2.2.1
 let zTs := x.2.2.2.2.2.2.2.2.2.2.2.2.2.2.1
 let zZw := x.2.2.2.2.2.2.2.2.2.2.2.2.2.2.2.1
 let zZx := x.2.2.2.2.2.2.2.2.2.2.2.2.2.2.2.2.1
 let zTt := x.2.2.2.2.2.2.2.2.2.2.2.2.2.2.2.2.2.1
 let zTu := x.2.2.2.2.2.2.2.2.2.2.2.2.2.2.2.2.2.2.1
 let Ya := x.2.2.2.2.2.2.2.2.2.2.2.2.2.2.2.2.2.2.2.1
 chk (Nat.ble ((Ya.length + ([(s_1, (zZv, ()))] : List (List UInt8 × Bool × Unit)).length) * 24) room) (
  let r21 : List (List UInt8 × Bool × Unit) := Ya ++ [(s_1, (zZv, ()))]
  some (zBx, PC4, N5, zIz, zJa, Nv, zJb, zJc, zBy, Il, zPn, zTr, zTs, zZw, zZx, zTt, zTu, r21, ()))
def oZ (n : Nat) (x : Int × Int × Int × Int × Int × List UInt8 × List UInt8 × Bool × Bool × Bool × List (Bool × Int × Unit) × List (List UInt8 × Bool × Unit) × Bool × List (List fE × Bool × Unit) × List dM × Bool × List eG × List (List UInt8 × Bool × Unit) × Unit) : Option (Int × Int × Int × Int × Int × List UInt8 × List UInt8 × Bool × Bool × Bool × List (Bool × Int × Unit) × List (List UInt8 × Bool × Unit) × Bool × List (List fE × Bool × Unit) × List dM × Bool × List eG × List (List UInt8 × Bool × Unit) × Unit) :=
 let rZ := x.1
 let PC2 := x.2.1
 let N3 := x.2.2.1
 let wX := x.2.2.2.1
 let wY := x.2.2.2.2.1
 let kQ := x.2.2.2.2.2.1
 let wZ := x.2.2.2.2.2.2.1
 let zY := x.2.2.2.2.2.2.2.1
 let xA := x.2.2.2.2.2.2.2.2.1
 let kI := x.2.2.2.2.2.2.2.2.2.1
 let lY := x.2.2.2.2.2.2.2.2.2.2.1
 let lC := x.2.2.2.2.2.2.2.2.2.2.2.1
 let jF := x.2.2.2.2.2.2.2.2.2.2.2.2.1
 let mI := x.2.2.2.2.2.2.2.2.2.2.2.2.2.1
 let mJ := x.2.2.2.2.2.2.2.2.2.2.2.2.2.2.1
 let mQ := x.2.2.2.2.2.2.2.2.2.2.2.2.2.2.2.1
 let oK := x.2.2.2.2.2.2.2.2.2.2.2.2.2.2.2.2.1
 let xB := x.2.2.2.2.2.2.2.2.2.2.2.2.2.2.2.2.2.1
 ob (kC n (kQ, zY, rZ, PC2, N3, wX, wY, kQ, wZ, zY, xA, kI, lY, lC, jF, mI, mJ, mQ, oK, xB, ())) fun y19 =>
 some (y19.1, y19.2.1, y19.2.2.1, y19.2.2.2.1, y19.2.2.2.2.1, y19.2.2.2.2.2.1, y19.2.2.2.2.2.2.1, y19.2.2.2.2.2.2.2.1, y19.2.2.2.2.2.2.2.2.1, y19.2.2.2.2.2.2.2.2.2.1, y19.2.2.2.2.2.2.2.2.2.2.1, y19.2.2.2.2.2.2.2.2.2.2.2.1, y19.2.2.2.2.2.2.2.2.2.2.2.2.1, y19.2.2.2.2.2.2.2.2.2.2.2.2.2.1, y19.2.2.2.2.2.2.2.2.2.2.2.2.2.2.1, y19.2.2.2.2.2.2.2.2.2.2.2.2.2.2.2.1, y19.2.2.2.2.2.2.2.2.2.2.2.2.2.2.2.2.1, y19.2.2.2.2.2.2.2.2.2.2.2.2.2.2.2.2.2.1, ())
def iJ (n : Nat) (x : Int × Int × Int × Int × Int × List UInt8 × List UInt8 × Bool × Bool × Bool × List (Bool × Int × Unit) × List (List UInt8 × Bool × Unit) × Bool × List (List fE × Bool × Unit) × List dM × Bool × List eG × List (List UInt8 × Bool × Unit) × Unit) : Option (Int × Int × Int × Int × Int × List UInt8 × List UInt8 × Bool × Bool × Bool × List (Bool × Int × Unit) × List (List UInt8 × Bool × Unit) × Bool × List (List fE × Bool × Unit) × List dM × Bool × List eG × List (List UInt8 × Bool × Unit) × Unit) :=
 let rZ := x.1
 let PC2 := x.2.1
 let N3 := x.2.2.1
 let wX := x.2.2.2.1
 let wY := x.2.2.2.2.1
 let kQ := x.2.2.2.2.2.1
 let wZ := x.2.2.2.2.2.2.1
 let zY := x.2.2.2.2.2.2.2.1
 let xA := x.2.2.2.2.2.2.2.2.1
 let kI := x.2.2.2.2.2.2.2.2.2.1
 let lY := x.2.2.2.2.2.2.2.2.2.2.1
 let lC := x.2.2.2.2.2.2.2.2.2.2.2.1
 let jF := x.2.2.2.2.2.2.2.2.2.2.2.2.1
 let mI := x.2.2.2.2.2.2.2.2.2.2.2.2.2.1
 let mJ := x.2.2.2.2.2.2.2.2.2.2.2.2.2.2.1
 let mQ := x.2.2.2.2.2.2.2.2.2.2.2.2.2.2.2.1
 let oK := x.2.2.2.2.2.2.2.2.2.2.2.2.2.2.2.2.1
 let xB := x.2.2.2.2.2.2.2.2.2.2.2.2.2.2.2.2.2.1
 br (!mQ) (
  br (!jF) (
   ob (oZ n (rZ, PC2, N3, wX, wY, kQ, wZ, zY, xA, kI, lY, lC, jF, mI, mJ, mQ, oK, xB, ())) fun y19 =>
   some (y19.1, y19.2.1, y19.2.2.1, y19.2.2.2.1, y19.2.2.2.2.1, y19.2.2.2.2.2.1, y19.2.2.2.2.2.2.1, y19.2.2.2.2.2.2.2.1, y19.2.2.2.2.2.2.2.2.1, y19.2.2.2.2.2.2.2.2.2.1, y19.2.2.2.2.2.2.2.2.2.2.1, y19.2.2.2.2.2.2.2.2.2.2.2.1, y19.2.2.2.2.2.2.2.2.2.2.2.2.1, y19.2.2.2.2.2.2.2.2.2.2.2.2.2.1, y19.2.2.2.2.2.2.2.2.2.2.2.2.2.2.1, y19.2.2.2.2.2.2.2.2.2.2.2.2.2.2.2.1, y19.2.2.2.2.2.2.2.2.2.2.2.2.2.2.2.2.1, y19.2.2.2.2.2.2.2.2.2.2.2.2.2.2.2.2.2.1, ())) (
   some (rZ, PC2, N3, wX, wY, kQ, wZ, zY, xA, kI, lY, lC, jF, mI, mJ, mQ, oK, xB, ()))) (
  some (rZ, PC2, N3, wX, wY, kQ, wZ, zY, xA, kI, lY, lC, jF, mI, mJ, mQ, oK, xB, ()))
def zZ (n : Nat) (x : List UInt8 × List UInt8 × List UInt8 × Unit) : Option (Bool × List UInt8 × Unit) :=
 let f_1 := x.1
 let f_2 := x.2.1
 let b3 := x.2.2.1
 some ((f_1 == b3), b3, ())
def lZ (n : Nat) (g0 : List eG × Int × Int × List UInt8 × Unit -> Option (Int × List UInt8 × Unit)) (x3 : List eG × Int × Int × List UInt8 × Unit) : Option (Int × List UInt8 × Unit) :=
 let s_4 := x3.1
 let zZy := x3.2.1
 let zBz := x3.2.2.1
 let b7 := x3.2.2.2.1
 br (decide (zBz < zZy)) (
  chk (inB zBz s_4.length) (
   let v8 : List UInt8 × List UInt8 × Unit := dO (Ty.dflt cO) s_4 zBz
   ob (zZ n (v8.1, v8.2.1, b7, ())) fun y9 =>
   br y9.1 (
    some (zBz, y9.2.1, ())) (
    let v10 : Int := IntKind.wrap .i64 (zBz + 1)
    g0 (s_4, zZy, v10, y9.2.1, ())))) (
  some ((-1), b7, ()))
def eT (n : Nat) (x : List eG × List UInt8 × Unit) : Option (Int × List UInt8 × Unit) :=
 let s_1 := x.1
 let b2 := x.2.1
 fix (lZ n) n (s_1, (s_1.length : Int), 0, b2, ())
def Im (n : Nat) (x : List eG × List UInt8) : Option (List UInt8 × Bool) :=
 let t_0 := x.1
 let zZz := x.2
 ob (eT n (t_0, zZz, ())) fun y1 =>
 br (decide (y1.1 < 0)) (
  some ([], false)) (
  chk (inB y1.1 t_0.length) (
   let v2 : List UInt8 × List UInt8 × Unit := dO (Ty.dflt cO) t_0 y1.1
   some (v2.2.1, true)))
def aU (n : Nat) (x : List UInt8 × List UInt8) : Option (Bool) :=
 let s_0 := x.1
 let gU := x.2
 br (decide ((s_0.length : Int) ≥ (gU.length : Int))) (
  let v1 : Int := IntKind.wrap .i64 ((s_0.length : Int) - (gU.length : Int))
  chk ((decide (0 <= v1) && decide (v1 <= (s_0.length : Int)))) (
   some ((s_0.drop v1.toNat) == gU))) (
  some false)
def bT (n : Nat) (x : List UInt8 × List UInt8) : Option (List UInt8 × Bool) :=
 let s_0 := x.1
 let gU := x.2
 ob (aU n (s_0, gU)) fun y1 =>
 br (!y1) (
  some (s_0, false)) (
  let v2 : Int := IntKind.wrap .i64 ((s_0.length : Int) - (gU.length : Int))
  chk ((decide (0 <= v2) && decide (v2 <= (s_0.length : Int)))) (
   some (s_0.take v2.toNat, true)))
def strings_CutSuffix (n : Nat) (x : List UInt8 × List UInt8) : Option (List UInt8 × Bool) :=
 let s_0 := x.1
 let gU := x.2
 ob (bT n (s_0, gU)) fun y1 =>
 some (y1.1, y1.2)
def Bh (n : Nat) (g0 : List (List UInt8 × Bool × Unit) × Int × Int × Int × Int × Int × Int × Int × List UInt8 × List UInt8 × Bool × Bool × Bool × List (Bool × Int × Unit) × List (List UInt8 × Bool × Unit) × Bool × List (List fE × Bool × Unit) × List dM × Bool × List eG × List (List UInt8 × Bool × Unit) × Unit -> Option (Int × Int × Int × Int × Int × List UInt8 × List UInt8 × Bool × Bool × Bool × List (Bool × Int × Unit) × List (List UInt8 × Bool × Unit) × Bool × List (List fE × Bool × Unit) × List dM × Bool × List eG × List (List UInt8 × Bool × Unit) × Unit)) (x19 : List (List UInt8 × Bool × Unit) × Int × Int × Int × Int × Int × Int × Int × List UInt8 × List UInt8 × Bool × Bool × Bool × List (Bool × Int × Unit) × List (List UInt8 × Bool × Unit) × Bool × List (List fE × Bool × Unit) × List dM × Bool × List eG × List (List UInt8 × Bool × Unit) × Unit) : Option (Int × Int × Int × Int × Int × List UInt8 × List UInt8 × Bool × Bool × Bool × List (Bool × Int × Unit) × List (List UInt8 × Bool × Unit) × Bool × List (List fE × Bool × Unit) × List dM × Bool × List eG × List (List UInt8 × Bool × Unit) × Unit) :=
 let Io := x19.1
 let Ra := x19.2.1
 let Bj := x19.2.2.1
 let Kc := x19.2.2.2.1
 let zJd := x19.2.2.2.2.1
 let N25 := x19.2.2.2.2.2.1
 let Rb := x19.2.2.2.2.2.2.1
 let Rc := x19.2.2.2.2.2.2.2.1
 let zK := x19.2.2.2.2.2.2.2.2.1
 let Rf := x19.2.2.2.2.2.2.2.2.2.1
 let Yb := x19.2.2.2.2.2.2.2.2.2.2.1
 let Rh := x19.2.2.2.2.2.2.2.2.2.2.2.1
 let zL := x19.2.2.2.2.2.2.2.2.2.2.2.2.1
 let Em := x19.2.2.2.2.2.2.2.2.2.2.2.2.2.1
 let Ua := x19.2.2.2.2.2.2.2.2.2.2.2.2.2.2.1
 let Ke := x19.2.2.2.2.2.2.2.2.2.2.2.2.2.2.2.1
 let Ri := x19.2.2.2.2.2.2.2.2.2.2.2.2.2.2.2.2.1
 let Rj := x19.2.2.2.2.2.2.2.2.2.2.2.2.2.2.2.2.2.1
 let Kg := x19.2.2.2.2.2.2.2.2.2.2.2.2.2.2.2.2.2.2.1
 let Bl := x19.2.2.2.2.2.2.2.2.2.2.2.2.2.2.2.2.2.2.2.1
 let Yc := x19.2.2.2.2.2.2.2.2.2.2.2.2.2.2.2.2.2.2.2.2.1
 br (decide (Bj < Ra)) (
  chk (inB Bj Io.length) (
   let v41 : List UInt8 × Bool × Unit := dO (Ty.dflt aT) Io Bj
   br (!v41.2.1) (
    ob (kC n (v41.1, true, Kc, zJd, N25, Rb, Rc, zK, Rf, Yb, Rh, zL, Em, Ua, Ke, Ri, Rj, Kg, Bl, Yc, ())) fun y42 =>
    let v43 : Int := IntKind.wrap .i64 (Bj + 1)
    g0 (Io, Ra, v43, y42.1, y42.2.1, y42.2.2.1, y42.2.2.2.1, y42.2.2.2.2.1, y42.2.2.2.2.2.1, y42.2.2.2.2.2.2.1, y42.2.2.2.2.2.2.2.1, y42.2.2.2.2.2.2.2.2.1, y42.2.2.2.2.2.2.2.2.2.1, y42.2.2.2.2.2.2.2.2.2.2.1, y42.2.2.2.2.2.2.2.2.2.2.2.1, y42.2.2.2.2.2.2.2.2.2.2.2.2.1, y42.2.2.2.2.2.2.2.2.2.2.2.2.2.1, y42.2.2.2.2.2.2.2.2.2.2.2.2.2.2.1, y42.2.2.2.2.2.2.2.2.2.2.2.2.2.2.2.1, y42.2.2.2.2.2.2.2.2.2.2.2.2.2.2.2.2.1, y42.2.2.2.2.2.2.2.2.2.2.2.2.2.2.2.2.2.1, ())) (
    ob (Im n (Bl, v41.1)) fun y44 =>
    br (!(y44.1 == [])) (
     ob (strings_CutSuffix n (y44.1, [10])) fun y45 =>
     ob (kC n (y45.1, y45.2, Kc, zJd, N25, Rb, Rc, zK, Rf, Yb, Rh, zL, Em, Ua, Ke, Ri, Rj, Kg, Bl, Yc, ())) fun y46 =>
     let v47 : Int := IntKind.wrap .i64 (Bj + 1)
     g0 (Io, Ra, v47, y46.1, y46.2.1, y46.2.2.1, y46.2.2.2.1, y46.2.2.2.2.1, y46.2.2.2.2.2.1, y46.2.2.2.2.2.2.1, y46.2.2.2.2.2.2.2.1, y46.2.2.2.2.2.2.2.2.1, y46.2.2.2.2.2.2.2.2.2.1, y46.2.2.2.2.2.2.2.2.2.2.1, y46.2.2.2.2.2.2.2.2.2.2.2.1, y46.2.2.2.2.2.2.2.2.2.2.2.2.1, y46.2.2.2.2.2.2.2.2.2.2.2.2.2.1, y46.2.2.2.2.2.2.2.2.2.2.2.2.2.2.1, y46.2.2.2.2.2.2.2.2.2.2.2.2.2.2.2.1, y46.2.2.2.2.2.2.2.2.2.2.2.2.2.2.2.2.1, y46.2.2.2.2.2.2.2.2.2.2.2.2.2.2.2.2.2.1, ())) (
     let v48 : Int := IntKind.wrap .i64 (Bj + 1)
     g0 (Io, Ra, v48, Kc, zJd, N25, Rb, Rc, zK, Rf, Yb, Rh, zL, Em, Ua, Ke, Ri, Rj, Kg, Bl, Yc, ()))))) (
  some (Kc, zJd, N25, Rb, Rc, zK, Rf, Yb, Rh, zL, Em, [], Ke, Ri, Rj, Kg, Bl, Yc, ()))
def kJ (n : Nat) (x : Int × Int × Int × Int × Int × List UInt8 × List UInt8 × Bool × Bool × Bool × List (Bool × Int × Unit) × List (List UInt8 × Bool × Unit) × Bool × List (List fE × Bool × Unit) × List dM × Bool × List eG × List (List UInt8 × Bool × Unit) × Unit) : Option (Int × Int × Int × Int × Int × List UInt8 × List UInt8 × Bool × Bool × Bool × List (Bool × Int × Unit) × List (List UInt8 × Bool × Unit) × Bool × List (List fE × Bool × Unit) × List dM × Bool × List eG × List (List UInt8 × Bool × Unit) × Unit) :=
 let rZ := x.1
 let PC2 := x.2.1
 let N3 := x.2.2.1
 let wX := x.2.2.2.1
 let wY := x.2.2.2.2.1
 let kQ := x.2.2.2.2.2.1
 let wZ := x.2.2.2.2.2.2.1
 let zY := x.2.2.2.2.2.2.2.1
 let xA := x.2.2.2.2.2.2.2.2.1
 let kI := x.2.2.2.2.2.2.2.2.2.1
 let lY := x.2.2.2.2.2.2.2.2.2.2.1
 let lC := x.2.2.2.2.2.2.2.2.2.2.2.1
 let jF := x.2.2.2.2.2.2.2.2.2.2.2.2.1
 let mI := x.2.2.2.2.2.2.2.2.2.2.2.2.2.1
 let mJ := x.2.2.2.2.2.2.2.2.2.2.2.2.2.2.1
 let mQ := x.2.2.2.2.2.2.2.2.2.2.2.2.2.2.2.1
 let oK := x.2.2.2.2.2.2.2.2.2.2.2.2.2.2.2.2.1
 let xB := x.2.2.2.2.2.2.2.2.2.2.2.2.2.2.2.2.2.1
 fix (Bh n) n (lC, (lC.length : Int), 0, rZ, PC2, N3, wX, wY, kQ, wZ, zY, xA, kI, lY, lC, jF, mI, mJ, mQ, oK, xB, ())
def kD (n : Nat) (x : Int × Int × Int × Int × Int × List UInt8 × List UInt8 × Bool × Bool × Bool × List (Bool × Int × Unit) × List (List UInt8 × Bool × Unit) × Bool × List (List fE × Bool × Unit) × List dM × Bool × List eG × List (List UInt8 × Bool × Unit) × Unit) : Option (Int × Int × Int × Int × Int × List UInt8 × List UInt8 × Bool × Bool × Bool × List (Bool × Int × Unit) × List (List UInt8 × Bool × Unit) × Bool × List (List fE × Bool × Unit) × List dM × Bool × List eG × List (List UInt8 × Bool × Unit) × Unit) :=
 let rZ := x.1
 let PC2 := x.2.1
 let N3 := x.2.2.1
 let wX := x.2.2.2.1
 let wY := x.2.2.2.2.1
 let kQ := x.2.2.2.2.2.1
 let wZ := x.2.2.2.2.2.2.1
 let zY := x.2.2.2.2.2.2.2.1
 let xA := x.2.2.2.2.2.2.2.2.1
 let kI := x.2.2.2.2.2.2.2.2.2.1
 let lY := x.2.2.2.2.2.2.2.2.2.2.1
 let lC := x.2.2.2.2.2.2.2.2.2.2.2.1
 let jF := x.2.2.2.2.2.2.2.2.2.2.2.2.1
 let mI := x.2.2.2.2.2.2.2.2.2.2.2.2.2.1
 let mJ := x.2.2.2.2.2.2.2.2.2.2.2.2.2.2.1
 let mQ := x.2.2.2.2.2.2.2.2.2.2.2.2.2.2.2.1
 let oK := x.2.2.2.2.2.2.2.2.2.2.2.2.2.2.2.2.1
 let xB := x.2.2.2.2.2.2.2.2.2.2.2.2.2.2.2.2.2.1
 ob (kJ n (rZ, PC2, N3, wX, wY, kQ, wZ, zY, xA, kI, lY, lC, jF, mI, mJ, mQ, oK, xB, ())) fun y19 =>
 some (0, y19.2.1, y19.2.2.1, y19.2.2.2.1, y19.2.2.2.2.1, y19.2.2.2.2.2.1, y19.2.2.2.2.2.2.1, y19.2.2.2.2.2.2.2.1, y19.2.2.2.2.2.2.2.2.1, y19.2.2.2.2.2.2.2.2.2.1, y19.2.2.2.2.2.2.2.2.2.2.1, y19.2.2.2.2.2.2.2.2.2.2.2.1, y19.2.2.2.2.2.2.2.2.2.2.2.2.1, y19.2.2.2.2.2.2.2.2.2.2.2.2.2.1, y19.2.2.2.2.2.2.2.2.2.2.2.2.2.2.1, y19.2.2.2.2.2.2.2.2.2.2.2.2.2.2.2.1, y19.2.2.2.2.2.2.2.2.2.2.2.2.2.2.2.2.1, y19.2.2.2.2.2.2.2.2.2.2.2.2.2.2.2.2.2.1, ())
def kR (_n:Nat) (x:List (Bool × Int × Unit) × Unit):Option (List (Bool × Int × Unit) × Unit):=zKq 16 x
def Bn (n : Nat) (g0 : Int × Int × Int × Int × Int × Int × Int × List UInt8 × List UInt8 × Bool × Bool × Bool × List (Bool × Int × Unit) × List (List UInt8 × Bool × Unit) × Bool × List (List fE × Bool × Unit) × List dM × Bool × List eG × List (List UInt8 × Bool × Unit) × Int × Int × Int × Int × Int × Int × Bool × Int × List UInt8 × List UInt8 × Int × Int × Int × List (List UInt8 × Int × Unit) × Bool × Bool × List (Bool) × List (Int × Int × Int × Unit) × Unit -> Option (Bool × Int × Int × Int × Int × Int × List UInt8 × List UInt8 × Bool × Bool × Bool × List (List UInt8 × Bool × Unit) × Bool × List (List fE × Bool × Unit) × List dM × Bool × List eG × List (List UInt8 × Bool × Unit) × List (Bool × Int × Unit) × Unit)) (x37 : Int × Int × Int × Int × Int × Int × Int × List UInt8 × List UInt8 × Bool × Bool × Bool × List (Bool × Int × Unit) × List (List UInt8 × Bool × Unit) × Bool × List (List fE × Bool × Unit) × List dM × Bool × List eG × List (List UInt8 × Bool × Unit) × Int × Int × Int × Int × Int × Int × Bool × Int × List UInt8 × List UInt8 × Int × Int × Int × List (List UInt8 × Int × Unit) × Bool × Bool × List (Bool) × List (Int × Int × Int × Unit) × Unit) : Option (Bool × Int × Int × Int × Int × Int × List UInt8 × List UInt8 × Bool × Bool × Bool × List (List UInt8 × Bool × Unit) × Bool × List (List fE × Bool × Unit) × List dM × Bool × List eG × List (List UInt8 × Bool × Unit) × List (Bool × Int × Unit) × Unit) :=
 let zLv := x37.1
 let Ip := x37.2.1
 let zEw := x37.2.2.1
 let Nw := x37.2.2.2.1
 let N42 := x37.2.2.2.2.1
 let zLw := x37.2.2.2.2.2.1
 let zLx := x37.2.2.2.2.2.2.1
 let Vt := x37.2.2.2.2.2.2.2.1
 let zLy := x37.2.2.2.2.2.2.2.2.1
 let zQk := x37.2.2.2.2.2.2.2.2.2.1
 let zCa := x37.2.2.2.2.2.2.2.2.2.2.1
 let Vu := x37.2.2.2.2.2.2.2.2.2.2.2.1
 let En := x37.2.2.2.2.2.2.2.2.2.2.2.2.1
 let zEx := x37.2.2.2.2.2.2.2.2.2.2.2.2.2.1
 let zEy := x37.2.2.2.2.2.2.2.2.2.2.2.2.2.2.1
 let zLz := x37.2.2.2.2.2.2.2.2.2.2.2.2.2.2.2.1
 let zMa := x37.2.2.2.2.2.2.2.2.2.2.2.2.2.2.2.2.1
 let zEz := x37.2.2.2.2.2.2.2.2.2.2.2.2.2.2.2.2.2.1
 let zFa := x37.2.2.2.2.2.2.2.2.2.2.2.2.2.2.2.2.2.2.1
 let zQl := x37.2.2.2.2.2.2.2.2.2.2.2.2.2.2.2.2.2.2.2.1
 let zMb := x37.2.2.2.2.2.2.2.2.2.2.2.2.2.2.2.2.2.2.2.2.1
 let N59 := x37.2.2.2.2.2.2.2.2.2.2.2.2.2.2.2.2.2.2.2.2.2.1
 let M60 := x37.2.2.2.2.2.2.2.2.2.2.2.2.2.2.2.2.2.2.2.2.2.2.1
 let zMc := x37.2.2.2.2.2.2.2.2.2.2.2.2.2.2.2.2.2.2.2.2.2.2.2.1
 let N62 := x37.2.2.2.2.2.2.2.2.2.2.2.2.2.2.2.2.2.2.2.2.2.2.2.2.1
 let M63 := x37.2.2.2.2.2.2.2.2.2.2.2.2.2.2.2.2.2.2.2.2.2.2.2.2.2.1
 let zQm := x37.2.2.2.2.2.2.2.2.2.2.2.2.2.2.2.2.2.2.2.2.2.2.2.2.2.2.1
 let yDy := x37.2.2.2.2.2.2.2.2.2.2.2.2.2.2.2.2.2.2.2.2.2.2.2.2.2.2.2.1
 let yAa := x37.2.2.2.2.2.2.2.2.2.2.2.2.2.2.2.2.2.2.2.2.2.2.2.2.2.2.2.2.1
 let yAb := x37.2.2.2.2.2.2.2.2.2.2.2.2.2.2.2.2.2.2.2.2.2.2.2.2.2.2.2.2.2.1
 let N68 := x37.2.2.2.2.2.2.2.2.2.2.2.2.2.2.2.2.2.2.2.2.2.2.2.2.2.2.2.2.2.2.1
 let yDz := x37.2.2.2.2.2.2.2.2.2.2.2.2.2.2.2.2.2.2.2.2.2.2.2.2.2.2.2.2.2.2.2.1
 let yCm := x37.2.2.2.2.2.2.2.2.2.2.2.2.2.2.2.2.2.2.2.2.2.2.2.2.2.2.2.2.2.2.2.2.1
 let zTv := x37.2.2.2.2.2.2.2.2.2.2.2.2.2.2.2.2.2.2.2.2.2.2.2.2.2.2.2.2.2.2.2.2.2.1
 let yCn := x37.2.2.2.2.2.2.2.2.2.2.2.2.2.2.2.2.2.2.2.2.2.2.2.2.2.2.2.2.2.2.2.2.2.2.1
 let zTw := x37.2.2.2.2.2.2.2.2.2.2.2.2.2.2.2.2.2.2.2.2.2.2.2.2.2.2.2.2.2.2.2.2.2.2.2.1
 let zQn := x37.2.2.2.2.2.2.2.2.2.2.2.2.2.2.2.2.2.2.2.2.2.2.2.2.2.2.2.2.2.2.2.2.2.2.2.2.1
 let Kh := x37.2.2.2.2.2.2.2.2.2.2.2.2.2.2.2.2.2.2.2.2.2.2.2.2.2.2.2.2.2.2.2.2.2.2.2.2.2.1
 br (decide (Ip < zLv)) (
  chk ((inB Ip (Kh.length) && decide (0 + (Kh.length) <= Kh.length))) (
   chk (decide (0 + Ip.toNat < Kh.length)) (
    let v76 : Int := (Kh.getD (0 + Ip.toNat) (Ty.dflt yG)).1
    br (v76 == 4) (
     none) (
     let v79 : Int := IntKind.wrap .i64 (Ip + 1)
     g0 (zLv, v79, zEw, Nw, N42, zLw, zLx, Vt, zLy, zQk, zCa, Vu, En, zEx, zEy, zLz, zMa, zEz, zFa, zQl, zMb, N59, M60, zMc, N62, M63, zQm, yDy, yAa, yAb, N68, yDz, yCm, zTv, yCn, zTw, zQn, Kh, ()))))) (
  chk (inB Nw En.length) (
   let v80 : Bool × Int × Unit := dO (Ty.dflt dR) En Nw
   ob (nM n (((zMb, (N59, (M60, ()))), ((zMc, (N62, (M63, ()))), (zQm, ()))), v80, (N42, (zCa, (zQn, ()))))) fun y81 =>
   ob (kR n (En, ())) fun y82 =>
   chk ((inB Nw (y82.1.length) && decide (0 + (y82.1.length) <= y82.1.length))) (
    chk (decide (0 + Nw.toNat < y82.1.length)) (
     let r83 : List (Bool × Int × Unit) := y82.1.set (0 + Nw.toNat) y81.2
     some (y81.1, zEw, Nw, N42, zLw, zLx, Vt, zLy, zQk, zCa, Vu, zEx, zEy, zLz, zMa, zEz, zFa, zQl, r83, ())))))
def bU (n : Nat) (x : Int × Int × Int × Int × Int × Int × Bool × Int × List UInt8 × List UInt8 × Int × Int × Int × List (List UInt8 × Int × Unit) × Bool × Bool × Int × Int × Int × Int × Int × List UInt8 × List UInt8 × Bool × Bool × Bool × List (Bool × Int × Unit) × List (List UInt8 × Bool × Unit) × Bool × List (List fE × Bool × Unit) × List dM × Bool × List eG × List (List UInt8 × Bool × Unit) × Unit) : Option (Bool × Int × Int × Int × Int × Int × List UInt8 × List UInt8 × Bool × Bool × Bool × List (List UInt8 × Bool × Unit) × Bool × List (List fE × Bool × Unit) × List dM × Bool × List eG × List (List UInt8 × Bool × Unit) × List (Bool × Int × Unit) × Unit) :=
 let c_1 := x.1
 let c_2 := x.2.1
 let c_3 := x.2.2.1
 let c_4 := x.2.2.2.1
 let c_5 := x.2.2.2.2.1
 let c_6 := x.2.2.2.2.2.1
 let c_7 := x.2.2.2.2.2.2.1
 let c_8 := x.2.2.2.2.2.2.2.1
 let c_9 := x.2.2.2.2.2.2.2.2.1
 let zJe := x.2.2.2.2.2.2.2.2.2.1
 let zJf := x.2.2.2.2.2.2.2.2.2.2.1
 let zJg := x.2.2.2.2.2.2.2.2.2.2.2.1
 let zJh := x.2.2.2.2.2.2.2.2.2.2.2.2.1
 let zJi := x.2.2.2.2.2.2.2.2.2.2.2.2.2.1
 let zJj := x.2.2.2.2.2.2.2.2.2.2.2.2.2.2.1
 let zJk := x.2.2.2.2.2.2.2.2.2.2.2.2.2.2.2.1
 let Bo := x.2.2.2.2.2.2.2.2.2.2.2.2.2.2.2.2.1
 let zCb := x.2.2.2.2.2.2.2.2.2.2.2.2.2.2.2.2.2.1
 let N19 := x.2.2.2.2.2.2.2.2.2.2.2.2.2.2.2.2.2.2.1
 let Iq := x.2.2.2.2.2.2.2.2.2.2.2.2.2.2.2.2.2.2.2.1
 let Ir := x.2.2.2.2.2.2.2.2.2.2.2.2.2.2.2.2.2.2.2.2.1
 let vI := x.2.2.2.2.2.2.2.2.2.2.2.2.2.2.2.2.2.2.2.2.2.1
 let Iu := x.2.2.2.2.2.2.2.2.2.2.2.2.2.2.2.2.2.2.2.2.2.2.1
 let Rk := x.2.2.2.2.2.2.2.2.2.2.2.2.2.2.2.2.2.2.2.2.2.2.2.1
 let Iw := x.2.2.2.2.2.2.2.2.2.2.2.2.2.2.2.2.2.2.2.2.2.2.2.2.1
 let vJ := x.2.2.2.2.2.2.2.2.2.2.2.2.2.2.2.2.2.2.2.2.2.2.2.2.2.1
 let zPo := x.2.2.2.2.2.2.2.2.2.2.2.2.2.2.2.2.2.2.2.2.2.2.2.2.2.2.1
 let zTx := x.2.2.2.2.2.2.2.2.2.2.2.2.2.2.2.2.2.2.2.2.2.2.2.2.2.2.2.1
 let zTy := x.2.2.2.2.2.2.2.2.2.2.2.2.2.2.2.2.2.2.2.2.2.2.2.2.2.2.2.2.1
 let Bp := x.2.2.2.2.2.2.2.2.2.2.2.2.2.2.2.2.2.2.2.2.2.2.2.2.2.2.2.2.2.1
 let yAc := x.2.2.2.2.2.2.2.2.2.2.2.2.2.2.2.2.2.2.2.2.2.2.2.2.2.2.2.2.2.2.1
 let zTz := x.2.2.2.2.2.2.2.2.2.2.2.2.2.2.2.2.2.2.2.2.2.2.2.2.2.2.2.2.2.2.2.1
 let zUa := x.2.2.2.2.2.2.2.2.2.2.2.2.2.2.2.2.2.2.2.2.2.2.2.2.2.2.2.2.2.2.2.2.1
 let Rl := x.2.2.2.2.2.2.2.2.2.2.2.2.2.2.2.2.2.2.2.2.2.2.2.2.2.2.2.2.2.2.2.2.2.1
 chk ((decide (0 <= (Bp.length : Int)) && (decide ((Bp.length : Int) = (Bp.length : Int)) && Nat.ble ((Bp.length : Int).toNat * 1) room))) (
  let r35 : List (Bool) := List.replicate (Bp.length : Int).toNat false
  let v36 : Int := (([(c_1, (c_2, (c_3, ()))), (c_4, (c_5, (c_6, ())))].length : Nat) : Int)
  fix (Bn n) n (v36, 0, Bo, zCb, N19, Iq, Ir, vI, Iu, Rk, Iw, vJ, zPo, zTx, zTy, Bp, yAc, zTz, zUa, Rl, c_1, c_2, c_3, c_4, c_5, c_6, c_7, c_8, c_9, zJe, zJf, zJg, zJh, zJi, zJj, zJk, r35, [(c_1, (c_2, (c_3, ()))), (c_4, (c_5, (c_6, ())))], ()))
def dI (n : Nat) (x : List UInt8 × List UInt8) : Option (List UInt8) :=
 let s_0 := x.1
 let gU := x.2
 ob (aU n (s_0, gU)) fun y1 =>
 br y1 (
  let v2 : Int := IntKind.wrap .i64 ((s_0.length : Int) - (gU.length : Int))
  chk ((decide (0 <= v2) && decide (v2 <= (s_0.length : Int)))) (
   some (s_0.take v2.toNat))) (
  some s_0)
def strings_TrimSuffix (n : Nat) (x : List UInt8 × List UInt8) : Option (List UInt8) :=
 let s_0 := x.1
 let gU := x.2
 ob (dI n (s_0, gU)) fun y1 =>
 some y1
def vK (n : Nat) (x : ((Int × Int × Int × Unit) × (Int × Int × Int × Unit) × Bool × Unit) × Int × List UInt8 × List UInt8 × Int × Int × Int × List (List UInt8 × Int × Unit) × Bool × Bool × Unit) : Option (List UInt8) :=
 let c_0 := x
 ob (strings_TrimSuffix n (c_0.2.2.1, [10])) fun y1 =>
 some y1
def pE (n : Nat) (x : List (List UInt8 × Bool × Unit)) : Option (List (List UInt8 × Bool × Unit)) :=
 let s_0 := x
 chk ((decide ((s_0.length : Int) = (s_0.length : Int)) && decide ((s_0.length : Int) = (s_0.length : Int)))) (
  some s_0)
def kK (n : Nat) (x : List UInt8 × Bool × Int × Int × Int × Int × Int × List UInt8 × List UInt8 × Bool × Bool × Bool × List (List UInt8 × Bool × Unit) × Bool × List (List fE × Bool × Unit) × List dM × Bool × List eG × List (Bool × Int × Unit) × List (List UInt8 × Bool × Unit) × Unit) : Option (Int × Int × Int × Int × Int × List UInt8 × List UInt8 × Bool × Bool × Bool × List (List UInt8 × Bool × Unit) × Bool × List (List fE × Bool × Unit) × List dM × Bool × List eG × List (Bool × Int × Unit) × List (List UInt8 × Bool × Unit) × Unit) :=
 let q_1 := x.1
 let q_2 := x.2.1
 let zBx := x.2.2.1
 let PC4 := x.2.2.2.1
 let N5 := x.2.2.2.2.1
 let zIz := x.2.2.2.2.2.1
 let zJa := x.2.2.2.2.2.2.1
 let Nv := x.2.2.2.2.2.2.2.1
 let zJb := x.2.2.2.2.2.2.2.2.1
 let zJc := x.2.2.2.2.2.2.2.2.2.1
 let zBy := x.2.2.2.2.2.2.2.2.2.2.1
 let Il := x.2.2.2.2.2.2.2.2.2.2.2.1
 let zUb := x.2.2.2.2.2.2.2.2.2.2.2.2.1
 let zUc := x.2.2.2.2.2.2.2.2.2.2.2.2.2.1
 let yAd := x.2.2.2.2.2.2.2.2.2.2.2.2.2.2.1
 let yAe := x.2.2.2.2.2.2.2.2.2.2.2.2.2.2.2.1
 let zUd := x.2.2.2.2.2.2.2.2.2.2.2.2.2.2.2.2.1
 let zUe := x.2.2.2.2.2.2.2.2.2.2.2.2.2.2.2.2.2.1
 let yCo := x.2.2.2.2.2.2.2.2.2.2.2.2.2.2.2.2.2.2.1
 let Ya := x.2.2.2.2.2.2.2.2.2.2.2.2.2.2.2.2.2.2.2.1
 ob (pE n zUb) fun y21 =>
 chk (Nat.ble ((y21.length + ([(q_1, (q_2, ()))] : List (List UInt8 × Bool × Unit)).length) * 24) room) (
  let v22 : List (List UInt8 × Bool × Unit) := y21 ++ [(q_1, (q_2, ()))]
  some (zBx, PC4, N5, zIz, zJa, Nv, zJb, zJc, zBy, Il, v22, zUc, yAd, yAe, zUd, zUe, yCo, Ya, ()))
def lD (n : Nat) (x : Int × Int × Int × Int × Int × Int × Bool × Int × List UInt8 × List UInt8 × Int × Int × Int × List (List UInt8 × Int × Unit) × Bool × Bool × Int × Int × Int × Int × Int × List UInt8 × List UInt8 × Bool × Bool × Bool × List (List UInt8 × Bool × Unit) × Bool × List (List fE × Bool × Unit) × List dM × Bool × List eG × List (Bool × Int × Unit) × List (List UInt8 × Bool × Unit) × Unit) : Option (Int × Int × Int × Int × Int × List UInt8 × List UInt8 × Bool × Bool × Bool × List (List UInt8 × Bool × Unit) × Bool × List (List fE × Bool × Unit) × List dM × Bool × List eG × List (Bool × Int × Unit) × List (List UInt8 × Bool × Unit) × Unit) :=
 let c_1 := x.1
 let c_2 := x.2.1
 let c_3 := x.2.2.1
 let c_4 := x.2.2.2.1
 let c_5 := x.2.2.2.2.1
 let c_6 := x.2.2.2.2.2.1
 let c_7 := x.2.2.2.2.2.2.1
 let c_8 := x.2.2.2.2.2.2.2.1
 let c_9 := x.2.2.2.2.2.2.2.2.1
 let zJe := x.2.2.2.2.2.2.2.2.2.1
 let zJf := x.2.2.2.2.2.2.2.2.2.2.1
 let zJg := x.2.2.2.2.2.2.2.2.2.2.2.1
 let zJh := x.2.2.2.2.2.2.2.2.2.2.2.2.1
 let zJi := x.2.2.2.2.2.2.2.2.2.2.2.2.2.1
 let zJj := x.2.2.2.2.2.2.2.2.2.2.2.2.2.2.1
 let zJk := x.2.2.2.2.2.2.2.2.2.2.2.2.2.2.2.1
 let Bo := x.2.2.2.2.2.2.2.2.2.2.2.2.2.2.2.2.1
 let zCb := x.2.2.2.2.2.2.2.2.2.2.2.2.2.2.2.2.2.1
 let N19 := x.2.2.2.2.2.2.2.2.2.2.2.2.2.2.2.2.2.2.1
 let Iq := x.2.2.2.2.2.2.2.2.2.2.2.2.2.2.2.2.2.2.2.1
 let Ir := x.2.2.2.2.2.2.2.2.2.2.2.2.2.2.2.2.2.2.2.2.1
 let vI := x.2.2.2.2.2.2.2.2.2.2.2.2.2.2.2.2.2.2.2.2.2.1
 let Iu := x.2.2.2.2.2.2.2.2.2.2.2.2.2.2.2.2.2.2.2.2.2.2.1
 let Rk := x.2.2.2.2.2.2.2.2.2.2.2.2.2.2.2.2.2.2.2.2.2.2.2.1
 let Iw := x.2.2.2.2.2.2.2.2.2.2.2.2.2.2.2.2.2.2.2.2.2.2.2.2.1
 let vJ := x.2.2.2.2.2.2.2.2.2.2.2.2.2.2.2.2.2.2.2.2.2.2.2.2.2.1
 let rD := x.2.2.2.2.2.2.2.2.2.2.2.2.2.2.2.2.2.2.2.2.2.2.2.2.2.2.1
 let Ub := x.2.2.2.2.2.2.2.2.2.2.2.2.2.2.2.2.2.2.2.2.2.2.2.2.2.2.2.1
 let zCc := x.2.2.2.2.2.2.2.2.2.2.2.2.2.2.2.2.2.2.2.2.2.2.2.2.2.2.2.2.1
 let zCd := x.2.2.2.2.2.2.2.2.2.2.2.2.2.2.2.2.2.2.2.2.2.2.2.2.2.2.2.2.2.1
 let Uc := x.2.2.2.2.2.2.2.2.2.2.2.2.2.2.2.2.2.2.2.2.2.2.2.2.2.2.2.2.2.2.1
 let Ud := x.2.2.2.2.2.2.2.2.2.2.2.2.2.2.2.2.2.2.2.2.2.2.2.2.2.2.2.2.2.2.2.1
 let zJl := x.2.2.2.2.2.2.2.2.2.2.2.2.2.2.2.2.2.2.2.2.2.2.2.2.2.2.2.2.2.2.2.2.1
 let Rl := x.2.2.2.2.2.2.2.2.2.2.2.2.2.2.2.2.2.2.2.2.2.2.2.2.2.2.2.2.2.2.2.2.2.1
 ob (vK n (((c_1, (c_2, (c_3, ()))), ((c_4, (c_5, (c_6, ()))), (c_7, ()))), (c_8, (c_9, (zJe, (zJf, (zJg, (zJh, (zJi, (zJj, (zJk, ()))))))))))) fun y35 =>
 ob (kK n (y35, false, Bo, zCb, N19, Iq, Ir, vI, Iu, Rk, Iw, vJ, rD, Ub, zCc, zCd, Uc, Ud, zJl, Rl, ())) fun y36 =>
 some (y36.1, y36.2.1, y36.2.2.1, y36.2.2.2.1, y36.2.2.2.2.1, y36.2.2.2.2.2.1, y36.2.2.2.2.2.2.1, y36.2.2.2.2.2.2.2.1, y36.2.2.2.2.2.2.2.2.1, y36.2.2.2.2.2.2.2.2.2.1, y36.2.2.2.2.2.2.2.2.2.2.1, y36.2.2.2.2.2.2.2.2.2.2.2.1, y36.2.2.2.2.2.2.2.2.2.2.2.2.1, y36.2.2.2.2.2.2.2.2.2.2.2.2.2.1, y36.2.2.2.2.2.2.2.2.2.2.2.2.2.2.1, y36.2.2.2.2.2.2.2.2.2.2.2.2.2.2.2.1, y36.2.2.2.2.2.2.2.2.2.2.2.2.2.2.2.2.1, y36.2.2.2.2.2.2.2.2.2.2.2.2.2.2.2.2.2.1, ())
def fA (n : Nat) (x : (Bool × List (List fE × Bool × Unit) × List dM × Unit) × Bool × (Int × Int × Int × Int × Int × List UInt8 × List UInt8 × Bool × Bool × Bool × List (Bool × Int × Unit) × List (List UInt8 × Bool × Unit) × Unit) × List eG) : Option ((Int × Int × Int × Int × Int × List UInt8 × List UInt8 × Bool × Bool × Bool × List (Bool × Int × Unit) × List (List UInt8 × Bool × Unit) × Unit) × List eG × List (List UInt8 × Bool × Unit)) :=
 let x_0 := x.1
 let Bq := x.2.1
 let b_2 := x.2.2.1
 let t_3 := x.2.2.2
 br (b_2.1 != 1) (
  some (b_2, t_3, [])) (
  br (b_2.2.1 == (x_0.2.2.1.length : Int)) (
   ob (iJ n (b_2.1, b_2.2.1, b_2.2.2.1, b_2.2.2.2.1, b_2.2.2.2.2.1, b_2.2.2.2.2.2.1, b_2.2.2.2.2.2.2.1, b_2.2.2.2.2.2.2.2.1, b_2.2.2.2.2.2.2.2.2.1, b_2.2.2.2.2.2.2.2.2.2.1, b_2.2.2.2.2.2.2.2.2.2.2.1, b_2.2.2.2.2.2.2.2.2.2.2.2.1, x_0.1, x_0.2.1, x_0.2.2.1, Bq, t_3, [], ())) fun y1 =>
   ob (kD n (y1.1, y1.2.1, y1.2.2.1, y1.2.2.2.1, y1.2.2.2.2.1, y1.2.2.2.2.2.1, y1.2.2.2.2.2.2.1, y1.2.2.2.2.2.2.2.1, y1.2.2.2.2.2.2.2.2.1, y1.2.2.2.2.2.2.2.2.2.1, y1.2.2.2.2.2.2.2.2.2.2.1, y1.2.2.2.2.2.2.2.2.2.2.2.1, y1.2.2.2.2.2.2.2.2.2.2.2.2.1, y1.2.2.2.2.2.2.2.2.2.2.2.2.2.1, y1.2.2.2.2.2.2.2.2.2.2.2.2.2.2.1, y1.2.2.2.2.2.2.2.2.2.2.2.2.2.2.2.1, y1.2.2.2.2.2.2.2.2.2.2.2.2.2.2.2.2.1, y1.2.2.2.2.2.2.2.2.2.2.2.2.2.2.2.2.2.1, ())) fun y2 =>
   let v3 := y2.2.2.2.2.2.2.2.2.2.2.2.2.2.2.2.2.1
   some ((y2.1, (y2.2.1, (y2.2.2.1, (y2.2.2.2.1, (y2.2.2.2.2.1, (y2.2.2.2.2.2.1, (y2.2.2.2.2.2.2.1, (y2.2.2.2.2.2.2.2.1, (y2.2.2.2.2.2.2.2.2.1, (y2.2.2.2.2.2.2.2.2.2.1, (y2.2.2.2.2.2.2.2.2.2.2.1, (y2.2.2.2.2.2.2.2.2.2.2.2.1, ())))))))))))), v3, y2.2.2.2.2.2.2.2.2.2.2.2.2.2.2.2.2.2.1)) (
   chk (inB b_2.2.1 x_0.2.2.1.length) (
    let v4 : ((Int × Int × Int × Unit) × (Int × Int × Int × Unit) × Bool × Unit) × Int × List UInt8 × List UInt8 × Int × Int × Int × List (List UInt8 × Int × Unit) × Bool × Bool × Unit := dO (Ty.dflt aB) x_0.2.2.1 b_2.2.1
    ob (bU n (v4.1.1.1, v4.1.1.2.1, v4.1.1.2.2.1, v4.1.2.1.1, v4.1.2.1.2.1, v4.1.2.1.2.2.1, v4.1.2.2.1, v4.2.1, v4.2.2.1, v4.2.2.2.1, v4.2.2.2.2.1, v4.2.2.2.2.2.1, v4.2.2.2.2.2.2.1, v4.2.2.2.2.2.2.2.1, v4.2.2.2.2.2.2.2.2.1, v4.2.2.2.2.2.2.2.2.2.1, b_2.1, b_2.2.1, b_2.2.2.1, b_2.2.2.2.1, b_2.2.2.2.2.1, b_2.2.2.2.2.2.1, b_2.2.2.2.2.2.2.1, b_2.2.2.2.2.2.2.2.1, b_2.2.2.2.2.2.2.2.2.1, b_2.2.2.2.2.2.2.2.2.2.1, b_2.2.2.2.2.2.2.2.2.2.2.1, b_2.2.2.2.2.2.2.2.2.2.2.2.1, x_0.1, x_0.2.1, x_0.2.2.1, Bq, t_3, [], ())) fun y5 =>
    let v6 : Int := IntKind.wrap .i64 (y5.2.2.1 + 1)
    br y5.1 (
     chk ((v4.2.1 == 97)) (
      ob (lD n (v4.1.1.1, v4.1.1.2.1, v4.1.1.2.2.1, v4.1.2.1.1, v4.1.2.1.2.1, v4.1.2.1.2.2.1, v4.1.2.2.1, v4.2.1, v4.2.2.1, v4.2.2.2.1, v4.2.2.2.2.1, v4.2.2.2.2.2.1, v4.2.2.2.2.2.2.1, v4.2.2.2.2.2.2.2.1, v4.2.2.2.2.2.2.2.2.1, v4.2.2.2.2.2.2.2.2.2.1, y5.2.1, v6, y5.2.2.2.1, y5.2.2.2.2.1, y5.2.2.2.2.2.1, y5.2.2.2.2.2.2.1, y5.2.2.2.2.2.2.2.1, y5.2.2.2.2.2.2.2.2.1, y5.2.2.2.2.2.2.2.2.2.1, y5.2.2.2.2.2.2.2.2.2.2.1, y5.2.2.2.2.2.2.2.2.2.2.2.1, y5.2.2.2.2.2.2.2.2.2.2.2.2.1, y5.2.2.2.2.2.2.2.2.2.2.2.2.2.1, y5.2.2.2.2.2.2.2.2.2.2.2.2.2.2.1, y5.2.2.2.2.2.2.2.2.2.2.2.2.2.2.2.1, y5.2.2.2.2.2.2.2.2.2.2.2.2.2.2.2.2.1, y5.2.2.2.2.2.2.2.2.2.2.2.2.2.2.2.2.2.2.1, y5.2.2.2.2.2.2.2.2.2.2.2.2.2.2.2.2.2.1, ())) fun y7 =>
      let v8 := y7.2.2.2.2.2.2.2.2.2.2.2.2.2.2.2.1
      some ((y7.1, (y7.2.1, (y7.2.2.1, (y7.2.2.2.1, (y7.2.2.2.2.1, (y7.2.2.2.2.2.1, (y7.2.2.2.2.2.2.1, (y7.2.2.2.2.2.2.2.1, (y7.2.2.2.2.2.2.2.2.1, (y7.2.2.2.2.2.2.2.2.2.1, (y7.2.2.2.2.2.2.2.2.2.2.2.2.2.2.2.2.1, (y7.2.2.2.2.2.2.2.2.2.2.1, ())))))))))))), v8, y7.2.2.2.2.2.2.2.2.2.2.2.2.2.2.2.2.2.1))) (
     br (v4.2.1 == 123) (
      let v9 : Int := IntKind.wrap .i64 (v4.2.2.2.2.2.1 + 1)
      let v10 := y5.2.2.2.2.2.2.2.2.2.2.2.2.2.2.2.2.1
      some ((y5.2.1, (v9, (y5.2.2.2.1, (y5.2.2.2.2.1, (y5.2.2.2.2.2.1, (y5.2.2.2.2.2.2.1, (y5.2.2.2.2.2.2.2.1, (y5.2.2.2.2.2.2.2.2.1, (y5.2.2.2.2.2.2.2.2.2.1, (y5.2.2.2.2.2.2.2.2.2.2.1, (y5.2.2.2.2.2.2.2.2.2.2.2.2.2.2.2.2.2.2.1, (y5.2.2.2.2.2.2.2.2.2.2.2.1, ())))))))))))), v10, y5.2.2.2.2.2.2.2.2.2.2.2.2.2.2.2.2.2.1)) (
      let v11 := y5.2.2.2.2.2.2.2.2.2.2.2.2.2.2.2.2.1
      some ((y5.2.1, (v6, (y5.2.2.2.1, (y5.2.2.2.2.1, (y5.2.2.2.2.2.1, (y5.2.2.2.2.2.2.1, (y5.2.2.2.2.2.2.2.1, (y5.2.2.2.2.2.2.2.2.1, (y5.2.2.2.2.2.2.2.2.2.1, (y5.2.2.2.2.2.2.2.2.2.2.1, (y5.2.2.2.2.2.2.2.2.2.2.2.2.2.2.2.2.2.2.1, (y5.2.2.2.2.2.2.2.2.2.2.2.1, ())))))))))))), v11, y5.2.2.2.2.2.2.2.2.2.2.2.2.2.2.2.2.2.1))))))
def sD (n : Nat) (x : Int × Int × Int × Int × Int × Int × Bool × Int × List UInt8 × List UInt8 × Int × Int × Int × List (List UInt8 × Int × Unit) × Bool × Bool × Int × Int × Int × Int × Int × List UInt8 × List UInt8 × Bool × Bool × Bool × List (List UInt8 × Bool × Unit) × Bool × List (List fE × Bool × Unit) × List dM × Bool × List eG × List (Bool × Int × Unit) × List (List UInt8 × Bool × Unit) × Unit) : Option (Int × Int × Int × Int × Int × List UInt8 × List UInt8 × Bool × Bool × Bool × List (List UInt8 × Bool × Unit) × Bool × List (List fE × Bool × Unit) × List dM × Bool × List eG × List (Bool × Int × Unit) × List (List UInt8 × Bool × Unit) × Unit) :=
 let c_1 := x.1
 let c_2 := x.2.1
 let c_3 := x.2.2.1
 let c_4 := x.2.2.2.1
 let c_5 := x.2.2.2.2.1
 let c_6 := x.2.2.2.2.2.1
 let c_7 := x.2.2.2.2.2.2.1
 let c_8 := x.2.2.2.2.2.2.2.1
 let c_9 := x.2.2.2.2.2.2.2.2.1
 let zJe := x.2.2.2.2.2.2.2.2.2.1
 let zJf := x.2.2.2.2.2.2.2.2.2.2.1
 let zJg := x.2.2.2.2.2.2.2.2.2.2.2.1
 let zJh := x.2.2.2.2.2.2.2.2.2.2.2.2.1
 let zJi := x.2.2.2.2.2.2.2.2.2.2.2.2.2.1
 let zJj := x.2.2.2.2.2.2.2.2.2.2.2.2.2.2.1
 let zJk := x.2.2.2.2.2.2.2.2.2.2.2.2.2.2.2.1
 let Bo := x.2.2.2.2.2.2.2.2.2.2.2.2.2.2.2.2.1
 let zCb := x.2.2.2.2.2.2.2.2.2.2.2.2.2.2.2.2.2.1
 let N19 := x.2.2.2.2.2.2.2.2.2.2.2.2.2.2.2.2.2.2.1
 let Iq := x.2.2.2.2.2.2.2.2.2.2.2.2.2.2.2.2.2.2.2.1
 let Ir := x.2.2.2.2.2.2.2.2.2.2.2.2.2.2.2.2.2.2.2.2.1
 let vI := x.2.2.2.2.2.2.2.2.2.2.2.2.2.2.2.2.2.2.2.2.2.1
 let Iu := x.2.2.2.2.2.2.2.2.2.2.2.2.2.2.2.2.2.2.2.2.2.2.1
 let Rk := x.2.2.2.2.2.2.2.2.2.2.2.2.2.2.2.2.2.2.2.2.2.2.2.1
 let Iw := x.2.2.2.2.2.2.2.2.2.2.2.2.2.2.2.2.2.2.2.2.2.2.2.2.1
 let vJ := x.2.2.2.2.2.2.2.2.2.2.2.2.2.2.2.2.2.2.2.2.2.2.2.2.2.1
 let rD := x.2.2.2.2.2.2.2.2.2.2.2.2.2.2.2.2.2.2.2.2.2.2.2.2.2.2.1
 let Ub := x.2.2.2.2.2.2.2.2.2.2.2.2.2.2.2.2.2.2.2.2.2.2.2.2.2.2.2.1
 let zCc := x.2.2.2.2.2.2.2.2.2.2.2.2.2.2.2.2.2.2.2.2.2.2.2.2.2.2.2.2.1
 let zCd := x.2.2.2.2.2.2.2.2.2.2.2.2.2.2.2.2.2.2.2.2.2.2.2.2.2.2.2.2.2.1
 let Uc := x.2.2.2.2.2.2.2.2.2.2.2.2.2.2.2.2.2.2.2.2.2.2.2.2.2.2.2.2.2.2.1
 let Ud := x.2.2.2.2.2.2.2.2.2.2.2.2.2.2.2.2.2.2.2.2.2.2.2.2.2.2.2.2.2.2.2.1
 let zJl := x.2.2.2.2.2.2.2.2.2.2.2.2.2.2.2.2.2.2.2.2.2.2.2.2.2.2.2.2.2.2.2.2.1
 let Rl := x.2.2.2.2.2.2.2.2.2.2.2.2.2.2.2.2.2.2.2.2.2.2.2.2.2.2.2.2.2.2.2.2.2.1
 ob (kK n (c_9, true, Bo, zCb, N19, Iq, Ir, vI, Iu, Rk, Iw, vJ, rD, Ub, zCc, zCd, Uc, Ud, zJl, Rl, ())) fun y35 =>
 some (y35.1, y35.2.1, y35.2.2.1, y35.2.2.2.1, y35.2.2.2.2.1, y35.2.2.2.2.2.1, y35.2.2.2.2.2.2.1, y35.2.2.2.2.2.2.2.1, y35.2.2.2.2.2.2.2.2.1, y35.2.2.2.2.2.2.2.2.2.1, y35.2.2.2.2.2.2.2.2.2.2.1, y35.2.2.2.2.2.2.2.2.2.2.2.1, y35.2.2.2.2.2.2.2.2.2.2.2.2.1, y35.2.2.2.2.2.2.2.2.2.2.2.2.2.1, y35.2.2.2.2.2.2.2.2.2.2.2.2.2.2.1, y35.2.2.2.2.2.2.2.2.2.2.2.2.2.2.2.1, y35.2.2.2.2.2.2.2.2.2.2.2.2.2.2.2.2.1, y35.2.2.2.2.2.2.2.2.2.2.2.2.2.2.2.2.2.1, ())
def uT (n : Nat) (x : (Bool × List (List fE × Bool × Unit) × List dM × Unit) × Bool × (Int × Int × Int × Int × Int × List UInt8 × List UInt8 × Bool × Bool × Bool × List (Bool × Int × Unit) × List (List UInt8 × Bool × Unit) × Unit) × List eG) : Option ((Int × Int × Int × Int × Int × List UInt8 × List UInt8 × Bool × Bool × Bool × List (Bool × Int × Unit) × List (List UInt8 × Bool × Unit) × Unit) × List eG × List (List UInt8 × Bool × Unit)) :=
 let x_0 := x.1
 let Bq := x.2.1
 let b_2 := x.2.2.1
 let t_3 := x.2.2.2
 br (b_2.1 != 1) (
  some (b_2, t_3, [])) (
  br (b_2.2.1 == (x_0.2.2.1.length : Int)) (
   ob (iJ n (b_2.1, b_2.2.1, b_2.2.2.1, b_2.2.2.2.1, b_2.2.2.2.2.1, b_2.2.2.2.2.2.1, b_2.2.2.2.2.2.2.1, b_2.2.2.2.2.2.2.2.1, b_2.2.2.2.2.2.2.2.2.1, b_2.2.2.2.2.2.2.2.2.2.1, b_2.2.2.2.2.2.2.2.2.2.2.1, b_2.2.2.2.2.2.2.2.2.2.2.2.1, x_0.1, x_0.2.1, x_0.2.2.1, Bq, t_3, [], ())) fun y1 =>
   ob (kD n (y1.1, y1.2.1, y1.2.2.1, y1.2.2.2.1, y1.2.2.2.2.1, y1.2.2.2.2.2.1, y1.2.2.2.2.2.2.1, y1.2.2.2.2.2.2.2.1, y1.2.2.2.2.2.2.2.2.1, y1.2.2.2.2.2.2.2.2.2.1, y1.2.2.2.2.2.2.2.2.2.2.1, y1.2.2.2.2.2.2.2.2.2.2.2.1, y1.2.2.2.2.2.2.2.2.2.2.2.2.1, y1.2.2.2.2.2.2.2.2.2.2.2.2.2.1, y1.2.2.2.2.2.2.2.2.2.2.2.2.2.2.1, y1.2.2.2.2.2.2.2.2.2.2.2.2.2.2.2.1, y1.2.2.2.2.2.2.2.2.2.2.2.2.2.2.2.2.1, y1.2.2.2.2.2.2.2.2.2.2.2.2.2.2.2.2.2.1, ())) fun y2 =>
   let v3 := y2.2.2.2.2.2.2.2.2.2.2.2.2.2.2.2.2.1
   some ((y2.1, (y2.2.1, (y2.2.2.1, (y2.2.2.2.1, (y2.2.2.2.2.1, (y2.2.2.2.2.2.1, (y2.2.2.2.2.2.2.1, (y2.2.2.2.2.2.2.2.1, (y2.2.2.2.2.2.2.2.2.1, (y2.2.2.2.2.2.2.2.2.2.1, (y2.2.2.2.2.2.2.2.2.2.2.1, (y2.2.2.2.2.2.2.2.2.2.2.2.1, ())))))))))))), v3, y2.2.2.2.2.2.2.2.2.2.2.2.2.2.2.2.2.2.1)) (
   chk (inB b_2.2.1 x_0.2.2.1.length) (
    let v4 : ((Int × Int × Int × Unit) × (Int × Int × Int × Unit) × Bool × Unit) × Int × List UInt8 × List UInt8 × Int × Int × Int × List (List UInt8 × Int × Unit) × Bool × Bool × Unit := dO (Ty.dflt aB) x_0.2.2.1 b_2.2.1
    ob (bU n (v4.1.1.1, v4.1.1.2.1, v4.1.1.2.2.1, v4.1.2.1.1, v4.1.2.1.2.1, v4.1.2.1.2.2.1, v4.1.2.2.1, v4.2.1, v4.2.2.1, v4.2.2.2.1, v4.2.2.2.2.1, v4.2.2.2.2.2.1, v4.2.2.2.2.2.2.1, v4.2.2.2.2.2.2.2.1, v4.2.2.2.2.2.2.2.2.1, v4.2.2.2.2.2.2.2.2.2.1, b_2.1, b_2.2.1, b_2.2.2.1, b_2.2.2.2.1, b_2.2.2.2.2.1, b_2.2.2.2.2.2.1, b_2.2.2.2.2.2.2.1, b_2.2.2.2.2.2.2.2.1, b_2.2.2.2.2.2.2.2.2.1, b_2.2.2.2.2.2.2.2.2.2.1, b_2.2.2.2.2.2.2.2.2.2.2.1, b_2.2.2.2.2.2.2.2.2.2.2.2.1, x_0.1, x_0.2.1, x_0.2.2.1, Bq, t_3, [], ())) fun y5 =>
    let v6 : Int := IntKind.wrap .i64 (y5.2.2.1 + 1)
    br y5.1 (
     chk ((v4.2.1 == 114)) (
      ob (sD n (v4.1.1.1, v4.1.1.2.1, v4.1.1.2.2.1, v4.1.2.1.1, v4.1.2.1.2.1, v4.1.2.1.2.2.1, v4.1.2.2.1, v4.2.1, v4.2.2.1, v4.2.2.2.1, v4.2.2.2.2.1, v4.2.2.2.2.2.1, v4.2.2.2.2.2.2.1, v4.2.2.2.2.2.2.2.1, v4.2.2.2.2.2.2.2.2.1, v4.2.2.2.2.2.2.2.2.2.1, y5.2.1, v6, y5.2.2.2.1, y5.2.2.2.2.1, y5.2.2.2.2.2.1, y5.2.2.2.2.2.2.1, y5.2.2.2.2.2.2.2.1, y5.2.2.2.2.2.2.2.2.1, y5.2.2.2.2.2.2.2.2.2.1, y5.2.2.2.2.2.2.2.2.2.2.1, y5.2.2.2.2.2.2.2.2.2.2.2.1, y5.2.2.2.2.2.2.2.2.2.2.2.2.1, y5.2.2.2.2.2.2.2.2.2.2.2.2.2.1, y5.2.2.2.2.2.2.2.2.2.2.2.2.2.2.1, y5.2.2.2.2.2.2.2.2.2.2.2.2.2.2.2.1, y5.2.2.2.2.2.2.2.2.2.2.2.2.2.2.2.2.1, y5.2.2.2.2.2.2.2.2.2.2.2.2.2.2.2.2.2.2.1, y5.2.2.2.2.2.2.2.2.2.2.2.2.2.2.2.2.2.1, ())) fun y7 =>
      let v8 := y7.2.2.2.2.2.2.2.2.2.2.2.2.2.2.2.1
      some ((y7.1, (y7.2.1, (y7.2.2.1, (y7.2.2.2.1, (y7.2.2.2.2.1, (y7.2.2.2.2.2.1, (y7.2.2.2.2.2.2.1, (y7.2.2.2.2.2.2.2.1, (y7.2.2.2.2.2.2.2.2.1, (y7.2.2.2.2.2.2.2.2.2.1, (y7.2.2.2.2.2.2.2.2.2.2.2.2.2.2.2.2.1, (y7.2.2.2.2.2.2.2.2.2.2.1, ())))))))))))), v8, y7.2.2.2.2.2.2.2.2.2.2.2.2.2.2.2.2.2.1))) (
     br (v4.2.1 == 123) (
      let v9 : Int := IntKind.wrap .i64 (v4.2.2.2.2.2.1 + 1)
      let v10 := y5.2.2.2.2.2.2.2.2.2.2.2.2.2.2.2.2.1
      some ((y5.2.1, (v9, (y5.2.2.2.1, (y5.2.2.2.2.1, (y5.2.2.2.2.2.1, (y5.2.2.2.2.2.2.1, (y5.2.2.2.2.2.2.2.1, (y5.2.2.2.2.2.2.2.2.1, (y5.2.2.2.2.2.2.2.2.2.1, (y5.2.2.2.2.2.2.2.2.2.2.1, (y5.2.2.2.2.2.2.2.2.2.2.2.2.2.2.2.2.2.2.1, (y5.2.2.2.2.2.2.2.2.2.2.2.1, ())))))))))))), v10, y5.2.2.2.2.2.2.2.2.2.2.2.2.2.2.2.2.2.1)) (
      let v11 := y5.2.2.2.2.2.2.2.2.2.2.2.2.2.2.2.2.1
      some ((y5.2.1, (v6, (y5.2.2.2.1, (y5.2.2.2.2.1, (y5.2.2.2.2.2.1, (y5.2.2.2.2.2.2.1, (y5.2.2.2.2.2.2.2.1, (y5.2.2.2.2.2.2.2.2.1, (y5.2.2.2.2.2.2.2.2.2.1, (y5.2.2.2.2.2.2.2.2.2.2.1, (y5.2.2.2.2.2.2.2.2.2.2.2.2.2.2.2.2.2.2.1, (y5.2.2.2.2.2.2.2.2.2.2.2.1, ())))))))))))), v11, y5.2.2.2.2.2.2.2.2.2.2.2.2.2.2.2.2.2.1))))))
def vL (n:Nat):=orF (fA n) (uT n)
end
end Go.Dec
