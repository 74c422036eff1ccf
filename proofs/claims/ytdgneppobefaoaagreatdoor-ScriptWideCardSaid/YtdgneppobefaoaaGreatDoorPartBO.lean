/- Part of a proof over this seat: a library of my own, and what it says of this seat. No statement is proved here. -/
import Derived.Test.YtdgneppobefaoaaGreatDoorPartAK
import Derived.Test.YtdgneppobefaoaaGreatDoorPartBN
namespace Go.Dec
set_option linter.unusedVariables false
abbrev Af:Ty:=.pair (.int .i64) (.pair (.arr 4 (.int .u64)) (.pair (.int .i64) (.pair (.int .i64) (.pair (.int .i64) (.pair (.int .i64) (.pair (.int .i64) .unit))))))
abbrev aH:Ty:=.pair (.slice Af) (.pair .bool .unit)
abbrev Km:Ty:=.pair (.int .i64) (.pair (.int .i64) (.pair (.int .i64) .unit))
abbrev vJ:Ty:=.pair Km (.pair Km (.pair .bool .unit))
abbrev bW:Ty:=.pair .str (.pair (.int .i64) .unit)
abbrev aD:Ty:=.pair vJ (.pair (.int .u8) (.pair .str (.pair .str (.pair (.int .i64) (.pair (.int .i64) (.pair (.int .i64) (.pair (.slice bW) (.pair .bool (.pair .bool .unit)))))))))
abbrev Nq:Ty:=.pair .bool (.pair (.slice aH) (.pair (.slice aD) .unit))
abbrev aO:Ty:=.pair (.int .i64) (.pair (.int .i64) (.pair .str .unit))
abbrev NdT:Type:=Int × List (Int) × Int × Int × Int × Int × Int × Unit
abbrev Sw0:Type:=List UInt8 × Bool × Int × Int × Bool × Int × Int × Int × Int × Int × Int × Bool × Int × List UInt8 × List UInt8 × Int × Int × Int × List (List UInt8 × Int × Unit) × Bool × Bool × List (List (NdT) × Bool × Unit) × List (((Int × Int × Int × Unit) × (Int × Int × Int × Unit) × Bool × Unit) × Int × List UInt8 × List UInt8 × Int × Int × Int × List (List UInt8 × Int × Unit) × Bool × Bool × Unit) × List (Int × Int × List UInt8 × Unit) × List (Int × Int × List UInt8 × Unit) × List (List UInt8 × Int) × Unit
abbrev Sw1:Type:=((Int × Int × Int × Unit) × (Int × Int × Int × Unit) × Bool × Unit) × Int × List UInt8 × List UInt8 × Int × Int × Int × List (List UInt8 × Int × Unit) × Bool × Bool × Unit
abbrev Sw2:Type:=Int × Int × List UInt8 × Unit
def bU (n : Nat) (x : List UInt8 × Sw0) : Option (Bool × Sw0) :=
 let zTo : List UInt8 := x.1
 let s2 : List UInt8 := x.2.1
 let at4 : Int := x.2.2.2.1
 br (decide (at4 < (s2.length : Int))) (
  chk (inB at4 s2.length) (
   let v28 : Int := ((dF 0 s2 at4).toNat : Int)
   ob (strings_IndexByte n (zTo, v28)) fun y29 =>
   some ((decide (y29 ≥ 0)), x.2))) (
  some (false, x.2))
def rJ (n : Nat) (x : List UInt8 × Int) : Option (List UInt8 × Int) :=
 let s_0 : List UInt8 := x.1
 let oW : Int := x.2
 br (decide (oW < 0)) (
  chk ((decide (0 <= (s_0.length : Int)) && decide ((s_0.length : Int) <= (s_0.length : Int)))) (
   let v1 : List UInt8 := s_0.drop (s_0.length : Int).toNat
   some (v1, (s_0.length : Int)))) (
  br (decide (oW > (s_0.length : Int))) (
   chk ((decide (0 <= (s_0.length : Int)) && decide ((s_0.length : Int) <= (s_0.length : Int)))) (
    let v2 : List UInt8 := s_0.drop (s_0.length : Int).toNat
    some (v2, (s_0.length : Int)))) (
   chk ((decide (0 <= oW) && decide (oW <= (s_0.length : Int)))) (
    some (s_0.drop oW.toNat, oW))))
def xL (n : Nat) (g0 : List UInt8 × Int × Unit -> Option (List UInt8)) (x1 : List UInt8 × Int × Unit) : Option (List UInt8) :=
 let s_2 : List UInt8 := x1.1
 let c_3 : Int := x1.2.1
 br (decide ((s_2.length : Int) > 0)) (
  chk (inB 0 s_2.length) (
   let v4 : Int := ((dF 0 s_2 0).toNat : Int)
   br (v4 == c_3) (
    chk ((decide (0 <= (1 : Int)) && decide ((1 : Int) <= (s_2.length : Int)))) (
     g0 (s_2.drop (1 : Int).toNat, c_3, ()))) (
    some s_2))) (
  some s_2)
def strings_trimLeftByte (n : Nat) (x : List UInt8 × Int) : Option (List UInt8) :=
 let s_0 : List UInt8 := x.1
 let c_1 : Int := x.2
 fix (xL n) n (s_0, c_1, ())
def xM (n : Nat) (g0 : List UInt8 × Int × List (Bool) × Unit -> Option (List (Bool) × Bool)) (x1 : List UInt8 × Int × List (Bool) × Unit) : Option (List (Bool) × Bool) :=
 let Mc : List UInt8 := x1.1
 let i_3 : Int := x1.2.1
 let b4 : List (Bool) := x1.2.2.1
 br (decide (i_3 < (Mc.length : Int))) (
  chk (inB i_3 Mc.length) (
   let v5 : Int := ((dF 0 Mc i_3).toNat : Int)
   br (decide (v5 ≥ 128)) (
    some (b4, false)) (
    chk (inB v5 256) (
     chk (decide (v5.toNat < 256)) (
      let v6 : Int := IntKind.wrap .i64 (i_3 + 1)
      g0 (Mc, v6, b4.set (v5.toNat) true, ())))))) (
  some (b4, true))
def strings_makeASCIISet (n : Nat) (x : List UInt8) : Option (List (Bool) × Bool) :=
 let zTp : List UInt8 := x
 fix (xM n) n (zTp, 0, (List.replicate 256 false), ())
def dL (n : Nat) (x : Int × List (Bool) × Unit) : Option (Bool × List (Bool) × Unit) :=
 let c_1 : Int := x.1
 let b2 : List (Bool) := x.2.1
 chk (inB c_1 256) (
  chk (decide (c_1.toNat < 256)) (
   some (b2.getD (c_1.toNat) (Ty.dflt .bool), b2, ())))
def nJ (n : Nat) (g0 : List UInt8 × List (Bool) × Unit -> Option (List UInt8 × List (Bool) × Unit)) (x3 : List UInt8 × List (Bool) × Unit) : Option (List UInt8 × List (Bool) × Unit) :=
 let s_4 : List UInt8 := x3.1
 let b5 : List (Bool) := x3.2.1
 br (decide ((s_4.length : Int) > 0)) (
  chk (inB 0 s_4.length) (
   let v6 : Int := ((dF 0 s_4 0).toNat : Int)
   ob (dL n (v6, b5, ())) fun y7 =>
   br (!y7.1) (
    some (s_4, y7.2.1, ())) (
    chk ((decide (0 <= (1 : Int)) && decide ((1 : Int) <= (s_4.length : Int)))) (
     g0 (s_4.drop (1 : Int).toNat, y7.2.1, ()))))) (
  some (s_4, b5, ()))
def strings_trimLeftASCII (n : Nat) (x : List UInt8 × List (Bool) × Unit) : Option (List UInt8 × List (Bool) × Unit) :=
 let s_1 : List UInt8 := x.1
 let b2 : List (Bool) := x.2.1
 fix (nJ n) n (s_1, b2, ())
def gU (n : Nat) (x : List UInt8 × List UInt8) : Option (List UInt8) :=
 let s_0 : List UInt8 := x.1
 let fD : List UInt8 := x.2
 br (s_0 == []) (
  some s_0) (
  br (fD == []) (
   some s_0) (
   br ((fD.length : Int) == 1) (
    chk (inB 0 fD.length) (
     let v1 : Int := ((dF 0 fD 0).toNat : Int)
     br (decide (v1 < 128)) (
      chk (inB 0 fD.length) (
       let v2 : Int := ((dF 0 fD 0).toNat : Int)
       ob (strings_trimLeftByte n (s_0, v2)) fun y3 =>
       some y3)) (
      ob (strings_makeASCIISet n fD) fun y4 =>
      br y4.2 (
       ob (strings_trimLeftASCII n (s_0, y4.1, ())) fun y5 =>
       some y5.1) (
       none)))) (
    ob (strings_makeASCIISet n fD) fun y6 =>
    br y6.2 (
     ob (strings_trimLeftASCII n (s_0, y6.1, ())) fun y7 =>
     some y7.1) (
     none))))
def qJ (n : Nat) (x : List UInt8 × Int) : Option (Int) :=
 let s_0 : List UInt8 := x.1
 let oW : Int := x.2
 ob (rJ n (s_0, oW)) fun y1 =>
 ob (gU n (y1.1, [32, 9])) fun y2 =>
 let v3 : Int := IntKind.wrap .i64 ((s_0.length : Int) - (y2.length : Int))
 some v3
def bF (n : Nat) (x : Sw0) : Option (Sw0) :=
 let s1 : List UInt8 := x.1
 let Qe : Bool := x.2.1
 let at3 : Int := x.2.2.1
 ob (qJ n (s1, at3)) fun y27 =>
 some (s1, Qe, y27, x.2.2.2)
def wW (n : Nat) (g0 : List UInt8 × Int × Unit -> Option (List UInt8)) (x1 : List UInt8 × Int × Unit) : Option (List UInt8) :=
 let s_2 : List UInt8 := x1.1
 let c_3 : Int := x1.2.1
 br (decide ((s_2.length : Int) > 0)) (
  let v4 : Int := IntKind.wrap .i64 ((s_2.length : Int) - 1)
  chk (inB v4 s_2.length) (
   let v5 : Int := ((dF 0 s_2 v4).toNat : Int)
   br (v5 == c_3) (
    let v6 : Int := IntKind.wrap .i64 ((s_2.length : Int) - 1)
    chk ((decide (0 <= v6) && decide (v6 <= (s_2.length : Int)))) (
     g0 (s_2.take v6.toNat, c_3, ()))) (
    some s_2))) (
  some s_2)
def strings_trimRightByte (n : Nat) (x : List UInt8 × Int) : Option (List UInt8) :=
 let s_0 : List UInt8 := x.1
 let c_1 : Int := x.2
 fix (wW n) n (s_0, c_1, ())
def vK (n : Nat) (g0 : List UInt8 × List (Bool) × Unit -> Option (List UInt8 × List (Bool) × Unit)) (x3 : List UInt8 × List (Bool) × Unit) : Option (List UInt8 × List (Bool) × Unit) :=
 let s_4 : List UInt8 := x3.1
 let b5 : List (Bool) := x3.2.1
 br (decide ((s_4.length : Int) > 0)) (
  let v6 : Int := IntKind.wrap .i64 ((s_4.length : Int) - 1)
  chk (inB v6 s_4.length) (
   let v7 : Int := ((dF 0 s_4 v6).toNat : Int)
   ob (dL n (v7, b5, ())) fun y8 =>
   br (!y8.1) (
    some (s_4, y8.2.1, ())) (
    let v9 : Int := IntKind.wrap .i64 ((s_4.length : Int) - 1)
    chk ((decide (0 <= v9) && decide (v9 <= (s_4.length : Int)))) (
     g0 (s_4.take v9.toNat, y8.2.1, ()))))) (
  some (s_4, b5, ()))
def strings_trimRightASCII (n : Nat) (x : List UInt8 × List (Bool) × Unit) : Option (List UInt8 × List (Bool) × Unit) :=
 let s_1 : List UInt8 := x.1
 let b2 : List (Bool) := x.2.1
 fix (vK n) n (s_1, b2, ())
def jY (n : Nat) (x : List UInt8 × List UInt8) : Option (List UInt8) :=
 let s_0 : List UInt8 := x.1
 let fD : List UInt8 := x.2
 br (s_0 == []) (
  some s_0) (
  br (fD == []) (
   some s_0) (
   br ((fD.length : Int) == 1) (
    chk (inB 0 fD.length) (
     let v1 : Int := ((dF 0 fD 0).toNat : Int)
     br (decide (v1 < 128)) (
      chk (inB 0 fD.length) (
       let v2 : Int := ((dF 0 fD 0).toNat : Int)
       ob (strings_trimRightByte n (s_0, v2)) fun y3 =>
       some y3)) (
      ob (strings_makeASCIISet n fD) fun y4 =>
      br y4.2 (
       ob (strings_trimRightASCII n (s_0, y4.1, ())) fun y5 =>
       some y5.1) (
       none)))) (
    ob (strings_makeASCIISet n fD) fun y6 =>
    br y6.2 (
     ob (strings_trimRightASCII n (s_0, y6.1, ())) fun y7 =>
     some y7.1) (
     none))))
def Qf (n : Nat) (g0 : Int × List UInt8 × List UInt8 × Int × Unit -> Option (List UInt8 × Int)) (x2 : Int × List UInt8 × List UInt8 × Int × Unit) : Option (List UInt8 × Int) :=
 let zKi : Int := x2.1
 let zNc : List UInt8 := x2.2.1
 let oN : List UInt8 := x2.2.2.1
 let i_6 : Int := x2.2.2.2.1
 br (decide (i_6 < (oN.length : Int))) (
  chk (inB i_6 oN.length) (
   let v7 : Int := ((dF 0 oN i_6).toNat : Int)
   br (v7 != 10) (
    chk (inB i_6 oN.length) (
     let v8 : Int := ((dF 0 oN i_6).toNat : Int)
     ob (strings_IndexByte n (zNc, v8)) fun y9 =>
     br (decide (y9 < 0)) (
      let v10 : Int := IntKind.wrap .i64 (i_6 + 1)
      g0 (zKi, zNc, oN, v10, ())) (
      chk ((decide (0 <= i_6) && decide (i_6 <= (oN.length : Int)))) (
       ob (jY n (oN.take i_6.toNat, [32, 9])) fun y11 =>
       let v12 : Int := IntKind.wrap .i64 (zKi + i_6)
       some (y11, v12))))) (
    chk ((decide (0 <= i_6) && decide (i_6 <= (oN.length : Int)))) (
     ob (jY n (oN.take i_6.toNat, [32, 9])) fun y13 =>
     let v14 : Int := IntKind.wrap .i64 (zKi + i_6)
     some (y13, v14))))) (
  chk ((decide (0 <= i_6) && decide (i_6 <= (oN.length : Int)))) (
   ob (jY n (oN.take i_6.toNat, [32, 9])) fun y15 =>
   let v16 : Int := IntKind.wrap .i64 (zKi + i_6)
   some (y15, v16)))
def Gw (n : Nat) (x : List UInt8 × Int × List UInt8) : Option (List UInt8 × Int) :=
 let s_0 : List UInt8 := x.1
 let oW : Int := x.2.1
 let zWa : List UInt8 := x.2.2
 ob (rJ n (s_0, oW)) fun y1 =>
 fix (Qf n) n (y1.2, zWa, y1.1, 0, ())
def qK (n : Nat) (x : List UInt8 × Sw0) : Option (List UInt8 × Sw0) :=
 let zWb : List UInt8 := x.1
 ob (bF n (x.2)) fun y28 =>
 ob (Gw n (y28.1, y28.2.2.1, zWb)) fun y29 =>
 some (y29.1, y28.1, y28.2.1, y29.2, y28.2.2.2)
def bY (n : Nat) (x : List UInt8 × Sw0) : Option (Bool × Sw0) :=
 ob (bU n (x)) fun y28 =>
 br (!y28.1) (
  some (false, y28.2)) (
  let v29 : Int := IntKind.wrap .i64 (y28.2.2.2.1 + 1)
  some (true, y28.2.1, y28.2.2.1, v29, y28.2.2.2.2))
def dA (_n:Nat) (x:Int × Unit):Option (Sum (Unit) (Int × Unit)):=some (.inr x)
def eG (n : Nat) (x : Sw0) : Option (Sum (Int × Sw0) (Int × Sw0)) :=
 let s1 : List UInt8 := x.1
 let Qe : Bool := x.2.1
 let at3 : Int := x.2.2.1
 br (at3 == (s1.length : Int)) (
  ob2 (dA n (120, ())) (fun y27 =>
   none) (fun y27 =>
   some (.inr (y27.1, x)))) (
  let v28 : Int := IntKind.wrap .i64 (at3 + 1)
  let v29 : Int := IntKind.wrap .i64 (v28 - 1)
  chk (inB v29 s1.length) (
   let v30 : Int := ((dF 0 s1 v29).toNat : Int)
   some (.inl (v30, s1, Qe, v28, x.2.2.2))))
def nK (n : Nat) (x34 : Bool × Bool × List UInt8 × Bool × Int × Int × Bool × Int × Int × Int × Int × Int × Int × Bool × Int × List UInt8 × List UInt8 × Int × Int × Int × List (List UInt8 × Int × Unit) × Bool × Bool × List (List (NdT) × Bool × Unit) × List (Sw1) × List (Sw2) × List (Sw2) × List (List UInt8 × Int) × Int × Int × Int × Unit) : Option (Sum (Int × Int × Int × Bool × Sw0) (Int × Sw0)) :=
 let zNd : Bool := x34.1
 let zWc : Bool := x34.2.1
 let s37 : List UInt8 := x34.2.2.1
 let zRw : Bool := x34.2.2.2.1
 let zWd : Int := x34.2.2.2.2.1
 let zFw : Int := x34.2.2.2.2.2.1
 let zFx : Bool := x34.2.2.2.2.2.2.1
 let zNe : Int := x34.2.2.2.2.2.2.2.1
 let N43 : Int := x34.2.2.2.2.2.2.2.2.1
 let M44 : Int := x34.2.2.2.2.2.2.2.2.2.1
 let zNf : Int := x34.2.2.2.2.2.2.2.2.2.2.1
 let N46 : Int := x34.2.2.2.2.2.2.2.2.2.2.2.1
 let M47 : Int := x34.2.2.2.2.2.2.2.2.2.2.2.2.1
 let zRx : Bool := x34.2.2.2.2.2.2.2.2.2.2.2.2.2.1
 let zWe : Int := x34.2.2.2.2.2.2.2.2.2.2.2.2.2.2.1
 let zNg : List UInt8 := x34.2.2.2.2.2.2.2.2.2.2.2.2.2.2.2.1
 let zNh : List UInt8 := x34.2.2.2.2.2.2.2.2.2.2.2.2.2.2.2.2.1
 let N52 : Int := x34.2.2.2.2.2.2.2.2.2.2.2.2.2.2.2.2.2.1
 let zWf : Int := x34.2.2.2.2.2.2.2.2.2.2.2.2.2.2.2.2.2.2.1
 let zRy : Int := x34.2.2.2.2.2.2.2.2.2.2.2.2.2.2.2.2.2.2.2.1
 let zFy : List (List UInt8 × Int × Unit) := x34.2.2.2.2.2.2.2.2.2.2.2.2.2.2.2.2.2.2.2.2.1
 let zRz : Bool := x34.2.2.2.2.2.2.2.2.2.2.2.2.2.2.2.2.2.2.2.2.2.1
 let zFz : Bool := x34.2.2.2.2.2.2.2.2.2.2.2.2.2.2.2.2.2.2.2.2.2.2.1
 let zSa : List (List (NdT) × Bool × Unit) := x34.2.2.2.2.2.2.2.2.2.2.2.2.2.2.2.2.2.2.2.2.2.2.2.1
 let zSb : List (Sw1) := x34.2.2.2.2.2.2.2.2.2.2.2.2.2.2.2.2.2.2.2.2.2.2.2.2.1
 let zSc : List (Sw2) := x34.2.2.2.2.2.2.2.2.2.2.2.2.2.2.2.2.2.2.2.2.2.2.2.2.2.1
 let zSd : List (Sw2) := x34.2.2.2.2.2.2.2.2.2.2.2.2.2.2.2.2.2.2.2.2.2.2.2.2.2.2.1
 let zSe : List (List UInt8 × Int) := x34.2.2.2.2.2.2.2.2.2.2.2.2.2.2.2.2.2.2.2.2.2.2.2.2.2.2.2.1
 let zNi : Int := x34.2.2.2.2.2.2.2.2.2.2.2.2.2.2.2.2.2.2.2.2.2.2.2.2.2.2.2.2.1
 let N64 : Int := x34.2.2.2.2.2.2.2.2.2.2.2.2.2.2.2.2.2.2.2.2.2.2.2.2.2.2.2.2.2.1
 let M65 : Int := x34.2.2.2.2.2.2.2.2.2.2.2.2.2.2.2.2.2.2.2.2.2.2.2.2.2.2.2.2.2.2.1
 br zWc (
  none) (
  br zNd (
   ob (bY n ([126], s37, zRw, zWd, zFw, zFx, zNe, N43, M44, zNf, N46, M47, zRx, zWe, zNg, zNh, N52, zWf, zRy, zFy, zRz, zFz, zSa, zSb, zSc, zSd, zSe, ())) fun y66 =>
   br y66.1 (
    none) (
    some (.inl (zNi, N64, M65, false, y66.2)))) (
   some (.inl (zNi, N64, M65, false, s37, zRw, zWd, zFw, zFx, zNe, N43, M44, zNf, N46, M47, zRx, zWe, zNg, zNh, N52, zWf, zRy, zFy, zRz, zFz, zSa, zSb, zSc, zSd, zSe, ()))))
def eX (n : Nat) (x : Bool × Sw0) : Option (Sum (Int × Int × Int × Bool × Sw0) (Int × Sw0)) :=
 let Qg : Bool := x.1
 ob (bU n ([48, 49, 50, 51, 52, 53, 54, 55, 56, 57], x.2)) fun y28 =>
 br y28.1 (
  none) (
  ob (bY n ([36], y28.2)) fun y29 =>
  br y29.1 (
   some (.inl (2, 0, 0, true, y29.2))) (
   ob (bU n ([47, 92], y29.2)) fun y30 =>
   let Gx := y30.2.2.2.2.2.2
   let Gy := Gx.2.2.2.2.2.2
   let Gz := Gy.2.2.2.2.2.2
   let zKj := Gz.2.2.2.2.2.2
   br y30.1 (
    ob2 (eG n (y30.2)) (fun y31 =>
     br (y31.1 == 92) (
      ob2 (eG n (y31.2)) (fun y32 =>
       none) (fun y32 =>
       some (.inr (y32)))) (
      none)) (fun y31 =>
     some (.inr (y31)))) (
    br Qg (
     ob (bY n ([43], y30.2)) fun y33 =>
     let He := y33.2.2.2.2.2.2
     let Hf := He.2.2.2.2.2.2
     let Hg := Hf.2.2.2.2.2.2
     let zKk := Hg.2.2.2.2.2.2
     jn (nK n) (Qg, y33.1, y33.2.1, y33.2.2.1, y33.2.2.2.1, y33.2.2.2.2.1, y33.2.2.2.2.2.1, He.1, He.2.1, He.2.2.1, He.2.2.2.1, He.2.2.2.2.1, He.2.2.2.2.2.1, Hf.1, Hf.2.1, Hf.2.2.1, Hf.2.2.2.1, Hf.2.2.2.2.1, Hf.2.2.2.2.2.1, Hg.1, Hg.2.1, Hg.2.2.1, Hg.2.2.2.1, Hg.2.2.2.2.1, Hg.2.2.2.2.2.1, zKk.1, zKk.2.1, zKk.2.2.1, 0, 0, 0, ())) (
     jn (nK n) (Qg, false, y30.2.1, y30.2.2.1, y30.2.2.2.1, y30.2.2.2.2.1, y30.2.2.2.2.2.1, Gx.1, Gx.2.1, Gx.2.2.1, Gx.2.2.2.1, Gx.2.2.2.2.1, Gx.2.2.2.2.2.1, Gy.1, Gy.2.1, Gy.2.2.1, Gy.2.2.2.1, Gy.2.2.2.2.1, Gy.2.2.2.2.2.1, Gz.1, Gz.2.1, Gz.2.2.1, Gz.2.2.2.1, Gz.2.2.2.2.1, Gz.2.2.2.2.2.1, zKj.1, zKj.2.1, zKj.2.2.1, 0, 0, 0, ())))))
def sS (n : Nat) (x : Int × Int × Int × Unit) : Option (Bool) :=
 let a_0 : Int × Int × Int × Unit := x
 br (decide (a_0.1 < 0)) (
  some false) (
  br (decide (a_0.1 ≥ 7)) (
   some false) (
   chk (inB a_0.1 7) (
    chk (decide (a_0.1.toNat < 7)) (
     br (decide (a_0.2.1 ≥ 0)) (
      chk (inB 0 2) (
       chk (decide ((0 : Int).toNat < 2)) (
        let v1 : Int := ((((((((([[0, 0], [0, 0], [0, 0], [0, 0], [0, 0], [0, 0], [0, 0]] : List (List (Int))).set 0 ([0, 0])).set 1 ((([0, 0] : List (Int)).set 0 999999999).set 1 0)).set 2 ([0, 0])).set 3 ((([0, 0] : List (Int)).set 0 999999999).set 1 999999999)).set 4 ((([0, 0] : List (Int)).set 0 999).set 1 0)).set 5 ((([0, 0] : List (Int)).set 0 999999999).set 1 0)).set 6 ((([0, 0] : List (Int)).set 0 999999999).set 1 0)).getD (a_0.1.toNat) (Ty.dflt (.arr 2 (.int .i64)))).getD ((0 : Int).toNat) (Ty.dflt (.int .i64))
        br (decide (a_0.2.1 <= v1)) (
         br (decide (a_0.2.2.1 ≥ 0)) (
          chk (inB 1 2) (
           chk (decide ((1 : Int).toNat < 2)) (
            let v2 : Int := ((((((((([[0, 0], [0, 0], [0, 0], [0, 0], [0, 0], [0, 0], [0, 0]] : List (List (Int))).set 0 ([0, 0])).set 1 ((([0, 0] : List (Int)).set 0 999999999).set 1 0)).set 2 ([0, 0])).set 3 ((([0, 0] : List (Int)).set 0 999999999).set 1 999999999)).set 4 ((([0, 0] : List (Int)).set 0 999).set 1 0)).set 5 ((([0, 0] : List (Int)).set 0 999999999).set 1 0)).set 6 ((([0, 0] : List (Int)).set 0 999999999).set 1 0)).getD (a_0.1.toNat) (Ty.dflt (.arr 2 (.int .i64)))).getD ((1 : Int).toNat) (Ty.dflt (.int .i64))
            some (decide (a_0.2.2.1 <= v2))))) (
          some false)) (
         some false)))) (
      some false)))))
def Hl (n : Nat) (x : (Int × Int × Int × Unit) × (Int × Int × Int × Unit) × Bool × Unit) : Option (Bool) :=
 let r_0 : (Int × Int × Int × Unit) × (Int × Int × Int × Unit) × Bool × Unit := x
 ob (sS n r_0.1) fun y1 =>
 br (!y1) (
  some false) (
  ob (sS n r_0.2.1) fun y2 =>
  br (!y2) (
   some false) (
   br (decide (r_0.1.1 > 4)) (
    some false) (
    br (r_0.2.1.1 == 3) (
     some false) (
     br (r_0.1.1 == 0) (
      some (r_0.2.1.1 == 0)) (
      br (Ty.beq Km r_0.1 (1, (0, (0, ())))) (
       some (r_0.2.1.1 == 4)) (
       some true))))))
def fT (n : Nat) (x : Sw0) : Option (Sum (Int × Sw0) (Int × Sw0)) :=
 ob2 (eX n (false, x)) (fun y27 =>
  br (!y27.2.2.2.1) (
   some (.inl (0, y27.2.2.2.2))) (
   ob (bF n (y27.2.2.2.2.1, y27.2.2.2.2.2.1, y27.2.2.2.2.2.2.1, y27.2.2.2.2.2.2.2.1, y27.2.2.2.2.2.2.2.2.1, y27.1, y27.2.1, y27.2.2.1, y27.2.2.2.2.2.2.2.2.2.2.2.2)) fun y28 =>
   ob (bY n ([44], y28)) fun y29 =>
   let oC := y29.2.2.2.2.2.2
   let zKl := oC.2.2.2.2.2.2
   br y29.1 (
    ob (bF n (y29.2)) fun y30 =>
    ob2 (eX n (true, y30)) (fun y31 =>
     let iP := y31.2.2.2.2.2.2
     let Zq := iP.2.2.2.2.2.2
     br (!y31.2.2.2.1) (
      ob2 (dA n (121, ())) (fun y32 =>
       none) (fun y32 =>
       some (.inr (y32.1, y31.2.2.2.2.1, y31.2.2.2.2.2.1, iP.1, iP.2.1, iP.2.2.1, iP.2.2.2.1, iP.2.2.2.2.1, iP.2.2.2.2.2.1, y31.1, y31.2.1, y31.2.2.1, Zq.2.2.2)))) (
      ob (Hl n ((iP.2.2.2.1, (iP.2.2.2.2.1, (iP.2.2.2.2.2.1, ()))), ((y31.1, (y31.2.1, (y31.2.2.1, ()))), (Zq.2.2.2.1, ())))) fun y33 =>
      br (!y33) (
       ob2 (dA n (121, ())) (fun y34 =>
        none) (fun y34 =>
        some (.inr (y34.1, y31.2.2.2.2.1, y31.2.2.2.2.2.1, iP.1, iP.2.1, iP.2.2.1, iP.2.2.2.1, iP.2.2.2.2.1, iP.2.2.2.2.2.1, y31.1, y31.2.1, y31.2.2.1, Zq.2.2.2)))) (
       some (.inl (2, y31.2.2.2.2.1, y31.2.2.2.2.2.1, iP.1, iP.2.1, iP.2.2.1, iP.2.2.2.1, iP.2.2.2.2.1, iP.2.2.2.2.2.1, y31.1, y31.2.1, y31.2.2.1, Zq.2.2.2))))) (fun y31 =>
     some (.inr (y31)))) (
    ob (Hl n ((oC.1, (oC.2.1, (oC.2.2.1, ()))), ((oC.2.2.2.1, (oC.2.2.2.2.1, (oC.2.2.2.2.2.1, ()))), (zKl.1, ())))) fun y35 =>
    br (!y35) (
     ob2 (dA n (121, ())) (fun y36 =>
      none) (fun y36 =>
      some (.inr (y36.1, y29.2)))) (
     some (.inl (1, y29.2)))))) (fun y27 =>
  some (.inr (y27)))
def rU (n : Nat) (x : Sw0) : Option (Sw0) :=
 let s1 : List UInt8 := x.1
 let Qe : Bool := x.2.1
 let at3 : Int := x.2.2.1
 let zWg : Int := x.2.2.2.1
 let zDh : Bool := x.2.2.2.2.1
 let zKm : Int := x.2.2.2.2.2.1
 let N7 : Int := x.2.2.2.2.2.2.1
 let M8 : Int := x.2.2.2.2.2.2.2.1
 let zKn : Int := x.2.2.2.2.2.2.2.2.1
 let N10 : Int := x.2.2.2.2.2.2.2.2.2.1
 let M11 : Int := x.2.2.2.2.2.2.2.2.2.2.1
 let zKo : Bool := x.2.2.2.2.2.2.2.2.2.2.2.1
 let zQt : Int := x.2.2.2.2.2.2.2.2.2.2.2.2.1
 let zDi : List UInt8 := x.2.2.2.2.2.2.2.2.2.2.2.2.2.1
 let zDj : List UInt8 := x.2.2.2.2.2.2.2.2.2.2.2.2.2.2.1
 let N16 : Int := x.2.2.2.2.2.2.2.2.2.2.2.2.2.2.2.1
 let zQu : Int := x.2.2.2.2.2.2.2.2.2.2.2.2.2.2.2.2.1
 let zKp : Int := x.2.2.2.2.2.2.2.2.2.2.2.2.2.2.2.2.2.1
 let Vn : List (List UInt8 × Int × Unit) := x.2.2.2.2.2.2.2.2.2.2.2.2.2.2.2.2.2.2.1
 let zKq : Bool := x.2.2.2.2.2.2.2.2.2.2.2.2.2.2.2.2.2.2.2.1
 let Vo : Bool := x.2.2.2.2.2.2.2.2.2.2.2.2.2.2.2.2.2.2.2.2.1
 let zXw : List (List (NdT) × Bool × Unit) := x.2.2.2.2.2.2.2.2.2.2.2.2.2.2.2.2.2.2.2.2.2.1
 let zSf : List (Sw1) := x.2.2.2.2.2.2.2.2.2.2.2.2.2.2.2.2.2.2.2.2.2.2.1
 chk (Nat.ble ((zSf.length + ([(((zKm, (N7, (M8, ()))), ((zKn, (N10, (M11, ()))), (zKo, ()))), (zQt, (zDi, (zDj, (N16, (zQu, (zKp, (Vn, (zKq, (Vo, ()))))))))))] : List (Sw1)).length) * 152) room) (
  let r27 : List (Sw1) := zSf ++ [(((zKm, (N7, (M8, ()))), ((zKn, (N10, (M11, ()))), (zKo, ()))), (zQt, (zDi, (zDj, (N16, (zQu, (zKp, (Vn, (zKq, (Vo, ()))))))))))]
  some (s1, Qe, at3, zWg, zDh, zKm, N7, M8, zKn, N10, M11, zKo, zQt, zDi, zDj, N16, zQu, zKp, Vn, zKq, Vo, zXw, r27, x.2.2.2.2.2.2.2.2.2.2.2.2.2.2.2.2.2.2.2.2.2.2.2))
def oZ (n : Nat) (x : Sw0) : Option (Sum (Sw0) (Int × Sw0)) :=
 ob (bF n (x)) fun y27 =>
 br (decide (y27.2.2.1 < (y27.1.length : Int))) (
  ob (bU n ([10, 59, 35, 125], y27)) fun y28 =>
  br (!y28.1) (
   ob2 (dA n (120, ())) (fun y29 =>
    none) (fun y29 =>
    some (.inr (y29.1, y28.2)))) (
   some (.inl (y28.2)))) (
  some (.inl (y27)))
def bD (n : Nat) (x : Sw0) : Option (Sum (Sw0) (Int × Sw0)) :=
 ob (rU n (x)) fun y27 =>
 ob2 (oZ n (y27)) (fun y28 =>
  some (.inl (y28))) (fun y28 =>
  some (.inr (y28)))
def dY (n : Nat) (x65 : Sw0) : Option (Sum (Sw0) (Int × Sw0)) :=
 let bS : Int := x65.2.2.2.2.2.2.2.2.2.2.2.2.1
 br (!(bS == 123 || (bS == 125 || (bS == 58 || (bS == 115 || (bS == 121 || (bS == 61 || (bS == 100 || (bS == 68 || (bS == 103 || (bS == 71 || (bS == 104 || (bS == 72 || (bS == 110 || (bS == 78 || (bS == 112 || (bS == 80 || (bS == 120 || (bS == 97 || (bS == 105 || (bS == 99 || (bS == 98 || (bS == 116 || (bS == 84 || (bS == 108 || (bS == 113 || (bS == 81 || (bS == 114 || (bS == 119 || false))))))))))))))))))))))))))))) (
  ob2 (dA n (120, ())) (fun y92 =>
   none) (fun y92 =>
   some (.inr (y92.1, x65)))) (
  br (bS == 123) (
   none) (
   br (bS == 125) (
    none) (
    br (bS == 58) (
     none) (
     br (bS == 115) (
      none) (
      br (bS == 121) (
       none) (
       br (bS == 61) (
        ob2 (bD n (x65)) (fun y93 =>
         some (.inl (y93))) (fun y93 =>
         some (.inr (y93)))) (
        br (bS == 100) (
         ob2 (bD n (x65)) (fun y94 =>
          some (.inl (y94))) (fun y94 =>
          some (.inr (y94)))) (
         br (bS == 68) (
          ob2 (bD n (x65)) (fun y95 =>
           some (.inl (y95))) (fun y95 =>
           some (.inr (y95)))) (
          br (bS == 103) (
           ob2 (bD n (x65)) (fun y96 =>
            some (.inl (y96))) (fun y96 =>
            some (.inr (y96)))) (
           br (bS == 71) (
            ob2 (bD n (x65)) (fun y97 =>
             some (.inl (y97))) (fun y97 =>
             some (.inr (y97)))) (
            br (bS == 104) (
             ob2 (bD n (x65)) (fun y98 =>
              some (.inl (y98))) (fun y98 =>
              some (.inr (y98)))) (
             br (bS == 72) (
              ob2 (bD n (x65)) (fun y99 =>
               some (.inl (y99))) (fun y99 =>
               some (.inr (y99)))) (
              br (bS == 110) (
               ob2 (bD n (x65)) (fun zQv =>
                some (.inl (zQv))) (fun zQv =>
                some (.inr (zQv)))) (
               br (bS == 78) (
                ob2 (bD n (x65)) (fun y101 =>
                 some (.inl (y101))) (fun y101 =>
                 some (.inr (y101)))) (
                br (bS == 112) (
                 ob2 (bD n (x65)) (fun y102 =>
                  some (.inl (y102))) (fun y102 =>
                  some (.inr (y102)))) (
                 br (bS == 80) (
                  ob2 (bD n (x65)) (fun zQw =>
                   some (.inl (zQw))) (fun zQw =>
                   some (.inr (zQw)))) (
                  br (bS == 120) (
                   ob2 (bD n (x65)) (fun y104 =>
                    some (.inl (y104))) (fun y104 =>
                    some (.inr (y104)))) (
                   br (bS == 97) (
                    none) (
                    br (bS == 105) (
                     none) (
                     br (bS == 99) (
                      none) (
                      br (bS == 98) (
                       none) (
                       br (bS == 116) (
                        none) (
                        br (bS == 84) (
                         none) (
                         br (bS == 108) (
                          none) (
                          br (bS == 113) (
                           none) (
                           br (bS == 81) (
                            none) (
                            br (bS == 114) (
                             none) (
                             br (bS == 119) (
                              none) (
                              none)))))))))))))))))))))))))))))
def jL (n : Nat) (x31 : Int × Sw0) : Option (Sum (Sw0) (Int × Sw0)) :=
 let zQx : Int := x31.1
 ob2 (eG n (x31.2)) (fun y59 =>
  let bL := y59.2.2.2.2.2.2
  let lT := bL.2.2.2.2.2.2
  ob (strings_IndexByte n ([125, 58], y59.1)) fun y60 =>
  br (decide (y60 ≥ 0)) (
   br (decide (zQx > 0)) (
    ob2 (dA n (121, ())) (fun y61 =>
     none) (fun y61 =>
     some (.inr (y61.1, y59.2.1, y59.2.2.1, y59.2.2.2.1, y59.2.2.2.2.1, y59.2.2.2.2.2.1, bL.1, bL.2.1, bL.2.2.1, bL.2.2.2.1, bL.2.2.2.2.1, bL.2.2.2.2.2.1, lT.1, y59.1, lT.2.2)))) (
    br lT.1 (
     ob2 (dA n (121, ())) (fun y62 =>
      none) (fun y62 =>
      some (.inr (y62.1, y59.2.1, y59.2.2.1, y59.2.2.2.1, y59.2.2.2.2.1, y59.2.2.2.2.2.1, bL.1, bL.2.1, bL.2.2.1, bL.2.2.2.1, bL.2.2.2.2.1, bL.2.2.2.2.2.1, lT.1, y59.1, lT.2.2)))) (
     ob (strings_IndexByte n ([113, 81], y59.1)) fun y63 =>
     br (decide (y63 ≥ 0)) (
      br (decide (zQx > 1)) (
       ob2 (dA n (121, ())) (fun y64 =>
        none) (fun y64 =>
        some (.inr (y64.1, y59.2.1, y59.2.2.1, y59.2.2.2.1, y59.2.2.2.2.1, y59.2.2.2.2.2.1, bL.1, bL.2.1, bL.2.2.1, bL.2.2.2.1, bL.2.2.2.2.1, bL.2.2.2.2.2.1, lT.1, y59.1, lT.2.2)))) (
       jn (dY n) (y59.2.1, y59.2.2.1, y59.2.2.2.1, y59.2.2.2.2.1, y59.2.2.2.2.2.1, bL.1, bL.2.1, bL.2.2.1, bL.2.2.2.1, bL.2.2.2.2.1, bL.2.2.2.2.2.1, lT.1, y59.1, lT.2.2))) (
      jn (dY n) (y59.2.1, y59.2.2.1, y59.2.2.2.1, y59.2.2.2.2.1, y59.2.2.2.2.2.1, bL.1, bL.2.1, bL.2.2.1, bL.2.2.2.1, bL.2.2.2.2.1, bL.2.2.2.2.2.1, lT.1, y59.1, lT.2.2))))) (
   ob (strings_IndexByte n ([113, 81], y59.1)) fun zZd =>
   br (decide (zZd ≥ 0)) (
    br (decide (zQx > 1)) (
     ob2 (dA n (121, ())) (fun zWh =>
      none) (fun zWh =>
      some (.inr (zWh.1, y59.2.1, y59.2.2.1, y59.2.2.2.1, y59.2.2.2.2.1, y59.2.2.2.2.2.1, bL.1, bL.2.1, bL.2.2.1, bL.2.2.2.1, bL.2.2.2.2.1, bL.2.2.2.2.2.1, lT.1, y59.1, lT.2.2)))) (
     jn (dY n) (y59.2.1, y59.2.2.1, y59.2.2.2.1, y59.2.2.2.2.1, y59.2.2.2.2.2.1, bL.1, bL.2.1, bL.2.2.1, bL.2.2.2.1, bL.2.2.2.2.1, bL.2.2.2.2.2.1, lT.1, y59.1, lT.2.2))) (
    jn (dY n) (y59.2.1, y59.2.2.1, y59.2.2.2.1, y59.2.2.2.2.1, y59.2.2.2.2.2.1, bL.1, bL.2.1, bL.2.2.1, bL.2.2.2.1, bL.2.2.2.2.1, bL.2.2.2.2.2.1, lT.1, y59.1, lT.2.2)))) (fun y59 =>
  some (.inr (y59)))
def gX (n : Nat) (x : Sw0) : Option (Sum (Sw0) (Int × Sw0)) :=
 let s1 : List UInt8 := x.1
 let Qe : Bool := x.2.1
 let at3 : Int := x.2.2.1
 let zDh : Bool := x.2.2.2.2.1
 ob2 (fT n (s1, Qe, at3, at3, zDh, 0, 0, 0, 0, 0, 0, false, 0, [], [], 0, 0, (-1), [], false, false, x.2.2.2.2.2.2.2.2.2.2.2.2.2.2.2.2.2.2.2.2.2)) (fun y27 =>
  ob (bF n (y27.2)) fun y28 =>
  ob (bY n ([33], y28)) fun y29 =>
  let oC := y29.2.2.2.2.2.2
  let zKl := oC.2.2.2.2.2.2
  br y29.1 (
   ob (bF n (y29.2.1, y29.2.2.1, y29.2.2.2.1, y29.2.2.2.2.1, y29.2.2.2.2.2.1, oC.1, oC.2.1, oC.2.2.1, oC.2.2.2.1, oC.2.2.2.2.1, oC.2.2.2.2.2.1, true, zKl.2)) fun y30 =>
   jn (jL n) (y27.1, y30)) (
   jn (jL n) (y27.1, y29.2))) (fun y27 =>
  some (.inr (y27)))
def pJ (n : Nat) (g1 : Int × Int × List UInt8 × Bool × Int × Int × Bool × Int × Int × Int × Int × Int × Int × Bool × Int × List UInt8 × List UInt8 × Int × Int × Int × List (List UInt8 × Int × Unit) × Bool × Bool × List (List (NdT) × Bool × Unit) × List (Sw1) × List (Sw2) × List (Sw2) × List (List UInt8 × Int) × Unit -> Option (Sum (Sw0) (Int × Sw0))) (gV : Int × Bool × Int × Int × List UInt8 × Bool × Int × Int × Bool × Int × Int × Int × Int × Int × Int × Bool × Int × List UInt8 × List UInt8 × Int × Int × Int × List (List UInt8 × Int × Unit) × Bool × Bool × List (List (NdT) × Bool × Unit) × List (Sw1) × List (Sw2) × List (Sw2) × List (List UInt8 × Int) × Sw2) : Option (Sum (Sw0) (Int × Sw0)) :=
 let zWi : Int := gV.1
 let zWj : Bool := gV.2.1
 let zTq : Int := gV.2.2.1
 let zTr : Int := gV.2.2.2.1
 let zWk : List UInt8 := gV.2.2.2.2.1
 let zNj : Bool := gV.2.2.2.2.2.1
 let zSg : Int := gV.2.2.2.2.2.2.1
 let zDk : Bool := gV.2.2.2.2.2.2.2.2.1
 let zGa : Int := gV.2.2.2.2.2.2.2.2.2.1
 let zWl : Int := gV.2.2.2.2.2.2.2.2.2.2.1
 let zWm : Int := gV.2.2.2.2.2.2.2.2.2.2.2.1
 let zGb : Int := gV.2.2.2.2.2.2.2.2.2.2.2.2.1
 let zWn : Int := gV.2.2.2.2.2.2.2.2.2.2.2.2.2.1
 let zWo : Int := gV.2.2.2.2.2.2.2.2.2.2.2.2.2.2.1
 let zNk : Bool := gV.2.2.2.2.2.2.2.2.2.2.2.2.2.2.2.1
 let zSh : Int := gV.2.2.2.2.2.2.2.2.2.2.2.2.2.2.2.2.1
 let zGc : List UInt8 := gV.2.2.2.2.2.2.2.2.2.2.2.2.2.2.2.2.2.1
 let zGd : List UInt8 := gV.2.2.2.2.2.2.2.2.2.2.2.2.2.2.2.2.2.2.1
 let zWp : Int := gV.2.2.2.2.2.2.2.2.2.2.2.2.2.2.2.2.2.2.2.1
 let zSi : Int := gV.2.2.2.2.2.2.2.2.2.2.2.2.2.2.2.2.2.2.2.2.1
 let zNl : Int := gV.2.2.2.2.2.2.2.2.2.2.2.2.2.2.2.2.2.2.2.2.2.1
 let zDl : List (List UInt8 × Int × Unit) := gV.2.2.2.2.2.2.2.2.2.2.2.2.2.2.2.2.2.2.2.2.2.2.1
 let zNm : Bool := gV.2.2.2.2.2.2.2.2.2.2.2.2.2.2.2.2.2.2.2.2.2.2.2.1
 let zDm : Bool := gV.2.2.2.2.2.2.2.2.2.2.2.2.2.2.2.2.2.2.2.2.2.2.2.2.1
 let zNn : List (List (NdT) × Bool × Unit) := gV.2.2.2.2.2.2.2.2.2.2.2.2.2.2.2.2.2.2.2.2.2.2.2.2.2.1
 let gI : List (Sw1) := gV.2.2.2.2.2.2.2.2.2.2.2.2.2.2.2.2.2.2.2.2.2.2.2.2.2.2.1
 let zNo : List (Sw2) := gV.2.2.2.2.2.2.2.2.2.2.2.2.2.2.2.2.2.2.2.2.2.2.2.2.2.2.2.1
 let zNp : List (Sw2) := gV.2.2.2.2.2.2.2.2.2.2.2.2.2.2.2.2.2.2.2.2.2.2.2.2.2.2.2.2.1
 let zNq : List (List UInt8 × Int) := gV.2.2.2.2.2.2.2.2.2.2.2.2.2.2.2.2.2.2.2.2.2.2.2.2.2.2.2.2.2.1
 let iT : Int := gV.2.2.2.2.2.2.2.2.2.2.2.2.2.2.2.2.2.2.2.2.2.2.2.2.2.2.2.2.2.2.1
 let zSj : Int := gV.2.2.2.2.2.2.2.2.2.2.2.2.2.2.2.2.2.2.2.2.2.2.2.2.2.2.2.2.2.2.2.1
 br (!zWj) (
  ob2 (dA n (122, ())) (fun y158 =>
   none) (fun y158 =>
   some (.inr (y158.1, zWk, zNj, zSg, zSj, zDk, zGa, zWl, zWm, zGb, zWn, zWo, zNk, zSh, zGc, zGd, zWp, zSi, zNl, zDl, zNm, zDm, zNn, gI, zNo, zNp, zNq, ())))) (
  chk ((inB iT (gI.length) && decide (0 + (gI.length) <= gI.length))) (
   chk (decide (0 + iT.toNat < gI.length)) (
    let zZe : List (Sw1) := gI.set (0 + iT.toNat) ((((gI.getD (0 + iT.toNat) (Ty.dflt aD)).1.1.1, ((gI.getD (0 + iT.toNat) (Ty.dflt aD)).1.1.2.1, ((gI.getD (0 + iT.toNat) (Ty.dflt aD)).1.1.2.2.1, ()))), (((gI.getD (0 + iT.toNat) (Ty.dflt aD)).1.2.1.1, ((gI.getD (0 + iT.toNat) (Ty.dflt aD)).1.2.1.2.1, ((gI.getD (0 + iT.toNat) (Ty.dflt aD)).1.2.1.2.2.1, ()))), ((gI.getD (0 + iT.toNat) (Ty.dflt aD)).1.2.2.1, ()))), ((gI.getD (0 + iT.toNat) (Ty.dflt aD)).2.1, ((gI.getD (0 + iT.toNat) (Ty.dflt aD)).2.2.1, ((gI.getD (0 + iT.toNat) (Ty.dflt aD)).2.2.2.1, ((gI.getD (0 + iT.toNat) (Ty.dflt aD)).2.2.2.2.1, (zWi, ((gI.getD (0 + iT.toNat) (Ty.dflt aD)).2.2.2.2.2.2.1, ((gI.getD (0 + iT.toNat) (Ty.dflt aD)).2.2.2.2.2.2.2.1, ((gI.getD (0 + iT.toNat) (Ty.dflt aD)).2.2.2.2.2.2.2.2.1, ((gI.getD (0 + iT.toNat) (Ty.dflt aD)).2.2.2.2.2.2.2.2.2.1, ()))))))))))
    let v160 : Int := IntKind.wrap .i64 (zTr + 1)
    g1 (zTq, v160, zWk, zNj, zSg, zSj, zDk, zGa, zWl, zWm, zGb, zWn, zWo, zNk, zSh, zGc, zGd, zWp, zSi, zNl, zDl, zNm, zDm, zNn, zZe, zNo, zNp, zNq, ()))))
def yT (n : Nat) (g1 : Int × Int × List UInt8 × Bool × Int × Int × Bool × Int × Int × Int × Int × Int × Int × Bool × Int × List UInt8 × List UInt8 × Int × Int × Int × List (List UInt8 × Int × Unit) × Bool × Bool × List (List (NdT) × Bool × Unit) × List (Sw1) × List (Sw2) × List (Sw2) × List (List UInt8 × Int) × Unit -> Option (Sum (Sw0) (Int × Sw0))) (x92 : Int × Int × Sw0) : Option (Sum (Sw0) (Int × Sw0)) :=
 let zDn : Int := x92.1
 let nA : Int := x92.2.1
 let s95 : List UInt8 := x92.2.2.1
 let zSk : Bool := x92.2.2.2.1
 let zWq : Int := x92.2.2.2.2.1
 let zGe : Int := x92.2.2.2.2.2.1
 let zGf : Bool := x92.2.2.2.2.2.2.1
 let zGg : Int := x92.2.2.2.2.2.2.2.1
 let zWr : Int := x92.2.2.2.2.2.2.2.2.1
 let zWs : Int := x92.2.2.2.2.2.2.2.2.2.1
 let zGh : Int := x92.2.2.2.2.2.2.2.2.2.2.1
 let zWt : Int := x92.2.2.2.2.2.2.2.2.2.2.2.1
 let zWu : Int := x92.2.2.2.2.2.2.2.2.2.2.2.2.1
 let zNr : Bool := x92.2.2.2.2.2.2.2.2.2.2.2.2.2.1
 let zSl : Int := x92.2.2.2.2.2.2.2.2.2.2.2.2.2.2.1
 let zGi : List UInt8 := x92.2.2.2.2.2.2.2.2.2.2.2.2.2.2.2.1
 let zGj : List UInt8 := x92.2.2.2.2.2.2.2.2.2.2.2.2.2.2.2.2.1
 let zWv : Int := x92.2.2.2.2.2.2.2.2.2.2.2.2.2.2.2.2.2.1
 let zSm : Int := x92.2.2.2.2.2.2.2.2.2.2.2.2.2.2.2.2.2.2.1
 let zNs : Int := x92.2.2.2.2.2.2.2.2.2.2.2.2.2.2.2.2.2.2.2.1
 let zDo : List (List UInt8 × Int × Unit) := x92.2.2.2.2.2.2.2.2.2.2.2.2.2.2.2.2.2.2.2.2.1
 let zNt : Bool := x92.2.2.2.2.2.2.2.2.2.2.2.2.2.2.2.2.2.2.2.2.2.1
 let zDp : Bool := x92.2.2.2.2.2.2.2.2.2.2.2.2.2.2.2.2.2.2.2.2.2.2.1
 let zNu : List (List (NdT) × Bool × Unit) := x92.2.2.2.2.2.2.2.2.2.2.2.2.2.2.2.2.2.2.2.2.2.2.2.1
 let zDq : List (Sw1) := x92.2.2.2.2.2.2.2.2.2.2.2.2.2.2.2.2.2.2.2.2.2.2.2.2.1
 let zNv : List (Sw2) := x92.2.2.2.2.2.2.2.2.2.2.2.2.2.2.2.2.2.2.2.2.2.2.2.2.2.1
 let lU : List (Sw2) := x92.2.2.2.2.2.2.2.2.2.2.2.2.2.2.2.2.2.2.2.2.2.2.2.2.2.2.1
 let Tv : List (List UInt8 × Int) := x92.2.2.2.2.2.2.2.2.2.2.2.2.2.2.2.2.2.2.2.2.2.2.2.2.2.2.2.1
 br (decide (nA < zDn)) (
  chk ((inB nA (lU.length) && decide (0 + (lU.length) <= lU.length))) (
   chk (decide (0 + nA.toNat < lU.length)) (
    let zWw : List UInt8 := (lU.getD (0 + nA.toNat) (Ty.dflt aO)).2.2.1
    let zZf : List UInt8 := (lU.getD (0 + nA.toNat) (Ty.dflt aO)).2.2.1
    br (zZf == []) (
     let zZg : Int := ((zDq.length : Nat) : Int)
     jn (pJ n g1) (zZg, true, zDn, nA, s95, zSk, zWq, zGe, zGf, zGg, zWr, zWs, zGh, zWt, zWu, zNr, zSl, zGi, zGj, zWv, zSm, zNs, zDo, zNt, zDp, zNu, zDq, zNv, lU, Tv, (lU.getD (0 + nA.toNat) (Ty.dflt aO)).1, (lU.getD (0 + nA.toNat) (Ty.dflt aO)).2.1, (lU.getD (0 + nA.toNat) (Ty.dflt aO)).2.2.1, ())) (
     jn (pJ n g1) (tZ .str 0 Tv zWw, (zAd .str Tv zWw), zDn, nA, s95, zSk, zWq, zGe, zGf, zGg, zWr, zWs, zGh, zWt, zWu, zNr, zSl, zGi, zGj, zWv, zSm, zNs, zDo, zNt, zDp, zNu, zDq, zNv, lU, Tv, (lU.getD (0 + nA.toNat) (Ty.dflt aO)).1, (lU.getD (0 + nA.toNat) (Ty.dflt aO)).2.1, (lU.getD (0 + nA.toNat) (Ty.dflt aO)).2.2.1, ()))))) (
  some (.inl (x92.2.2)))
def yU (n : Nat) (x64 : Sw0) : Option (Sum (Sw0) (Int × Sw0)) :=
 let zXx : List (Sw2) := x64.2.2.2.2.2.2.2.2.2.2.2.2.2.2.2.2.2.2.2.2.2.2.2.2.1
 let v91 : Int := ((zXx.length : Nat) : Int)
 fix (yT n) n (v91, 0, x64)
def bH (n : Nat) (g0 : List UInt8 × Bool × Int × Int × Bool × Int × Int × Int × Int × Int × Int × Bool × Int × List UInt8 × List UInt8 × Int × Int × Int × List (List UInt8 × Int × Unit) × Bool × Bool × List (List (NdT) × Bool × Unit) × List (Sw1) × List (Sw2) × List (Sw2) × List (List UInt8 × Int) × Unit -> Option (Sum (Sw0) (Int × Sw0))) (x28 : Sw0) : Option (Sum (Sw0) (Int × Sw0)) :=
 let s29 : List UInt8 := x28.1
 let zXy : Bool := x28.2.1
 let zWx : Int := x28.2.2.1
 let Me : List (Sw2) := x28.2.2.2.2.2.2.2.2.2.2.2.2.2.2.2.2.2.2.2.2.2.2.2.1
 br (decide (zWx < (s29.length : Int))) (
  ob (bU n ([32, 9, 10, 59], x28)) fun y55 =>
  br y55.1 (
   let v56 : Int := IntKind.wrap .i64 (y55.2.2.2.1 + 1)
   g0 (y55.2.1, y55.2.2.1, v56, y55.2.2.2.2)) (
   ob (bU n ([35], y55.2)) fun y57 =>
   br y57.1 (
    ob (qK n ([], y57.2)) fun y58 =>
    g0 (y58.2)) (
    ob2 (gX n (y57.2)) (fun y59 =>
     g0 (y59)) (fun y59 =>
     some (.inr (y59)))))) (
  let v60 : Int := ((Me.length : Nat) : Int)
  let v61 : Int := IntKind.wrap .i64 (v60 - 1)
  br (decide (v61 ≥ 0)) (
   chk ((inB v61 (Me.length) && decide (0 + (Me.length) <= Me.length))) (
    chk (decide (0 + v61.toNat < Me.length)) (
     let v62 : Int := (Me.getD (0 + v61.toNat) (Ty.dflt aO)).2.1
     ob2 (dA n (123, ())) (fun y63 =>
      none) (fun y63 =>
      some (.inr (y63.1, s29, zXy, zWx, v62, x28.2.2.2.2)))))) (
   jn (yU n) (x28)))
def dO (n : Nat) (x : Sw0) : Option (Sum (Sw0) (Int × Sw0)) :=
 ob (sH n ()) fun y27 =>
 fix (bH n) n (x)
def aV (n:Nat) (x:Sw0):Option (Int × Sw0):=ob2 (dO n x) (fun y=>some (0,y)) (fun y=>some y)
def eT (n : Nat) (x : List UInt8 × List UInt8) : Option (Bool) :=
 let s_0 : List UInt8 := x.1
 let oW : List UInt8 := x.2
 br (decide ((s_0.length : Int) ≥ (oW.length : Int))) (
  chk ((decide (0 <= (oW.length : Int)) && decide ((oW.length : Int) <= (s_0.length : Int)))) (
   let v1 : List UInt8 := s_0.take (oW.length : Int).toNat
   some (v1 == oW))) (
  some false)
def strings_HasPrefix (n : Nat) (x : List UInt8 × List UInt8) : Option (Bool) :=
 let s_0 : List UInt8 := x.1
 let oW : List UInt8 := x.2
 ob (eT n (s_0, oW)) fun y1 =>
 some y1
def gJ (n : Nat) (x : List UInt8 × Bool) : Option ((Bool × List (List (NdT) × Bool × Unit) × List (Sw1) × Unit) × Int × Int) :=
 let s_0 : List UInt8 := x.1
 let zKr : Bool := x.2
 br (decide ((s_0.length : Int) > 4000)) (
  some ((false, ([], ([], ()))), 0, 2)) (
  br (s_0 == [35, 110]) (
   ob (aV n (s_0, zKr, 2, 0, true, 0, 0, 0, 0, 0, 0, false, 0, [], [], 0, 0, 0, [], false, false, [], [], [], [], [], ())) fun y1 =>
   br (y1.1 != 0) (
    some ((false, ([], ([], ()))), y1.2.2.2.2.1, y1.1)) (
    some ((y1.2.2.2.2.2.1, (y1.2.2.2.2.2.2.2.2.2.2.2.2.2.2.2.2.2.2.2.2.2.2.1, (y1.2.2.2.2.2.2.2.2.2.2.2.2.2.2.2.2.2.2.2.2.2.2.2.1, ()))), 0, 0))) (
   ob (strings_HasPrefix n (s_0, [35, 110, 10])) fun y2 =>
   br y2 (
    ob (aV n (s_0, zKr, 2, 0, true, 0, 0, 0, 0, 0, 0, false, 0, [], [], 0, 0, 0, [], false, false, [], [], [], [], [], ())) fun y3 =>
    br (y3.1 != 0) (
     some ((false, ([], ([], ()))), y3.2.2.2.2.1, y3.1)) (
     some ((y3.2.2.2.2.2.1, (y3.2.2.2.2.2.2.2.2.2.2.2.2.2.2.2.2.2.2.2.2.2.2.1, (y3.2.2.2.2.2.2.2.2.2.2.2.2.2.2.2.2.2.2.2.2.2.2.2.1, ()))), 0, 0))) (
    ob (aV n (s_0, zKr, 0, 0, false, 0, 0, 0, 0, 0, 0, false, 0, [], [], 0, 0, 0, [], false, false, [], [], [], [], [], ())) fun y4 =>
    br (y4.1 != 0) (
     some ((false, ([], ([], ()))), y4.2.2.2.2.1, y4.1)) (
     some ((y4.2.2.2.2.2.1, (y4.2.2.2.2.2.2.2.2.2.2.2.2.2.2.2.2.2.2.2.2.2.2.1, (y4.2.2.2.2.2.2.2.2.2.2.2.2.2.2.2.2.2.2.2.2.2.2.2.1, ()))), 0, 0)))))
def gK (n : Nat) (g0 : Bool × Bool × Int × Int × List (Int) × Unit -> Option (Bool)) (x4 : Bool × Bool × Int × Int × List (Int) × Unit) : Option (Bool) :=
 let Mf : Bool := x4.1
 let zKs : Bool := x4.2.1
 let k_7 : Int := x4.2.2.1
 let i_8 : Int := x4.2.2.2.1
 let vL : List (Int) := x4.2.2.2.2.1
 br (decide (i_8 < 4100)) (
  chk ((inB i_8 (vL.length) && decide (0 + (vL.length) <= vL.length))) (
   chk (decide (0 + i_8.toNat < vL.length)) (
    let r10 : List (Int) := vL.set (0 + i_8.toNat) 10
    let v11 : Int := IntKind.wrap .i64 (i_8 + 1)
    g0 (Mf, zKs, k_7, v11, r10, ())))) (
  br Mf (
   chk ((inB 7 (vL.length) && decide (0 + (vL.length) <= vL.length))) (
    chk (decide (0 + (7 : Int).toNat < vL.length)) (
     let r12 : List (Int) := vL.set (0 + (7 : Int).toNat) 63
     chk ((decide (0 <= k_7) && decide (k_7 <= (r12.length : Int)))) (
      chk (decide (0 + (k_7.toNat) <= r12.length)) (
       let v13 : List UInt8 := kR ((r12.drop 0).take (k_7.toNat))
       ob (gJ n (v13, zKs)) fun y14 =>
       br (decide (k_7 > 4000)) (
        br (y14.2.2 == 2) (
         br (y14.2.1 == 0) (
          let v15 : Int := (y14.1.2.2.1.length : Int)
          br (v15 == 0) (
           ob (shown13 n ()) fun y16 =>
           some y16) (
           some false)) (
          some false)) (
         some false)) (
        br Mf (
         br (y14.2.2 == 120) (
          br (y14.2.1 == 7) (
           let v17 : Int := (y14.1.2.2.1.length : Int)
           br (v17 == 0) (
            ob (shown13 n ()) fun y18 =>
            some y18) (
            some false)) (
           some false)) (
          some false)) (
         br (y14.2.2 == 0) (
          br (y14.2.1 == 0) (
           let v19 : Int := (y14.1.2.2.1.length : Int)
           br (v19 == 0) (
            ob (shown13 n ()) fun y20 =>
            some y20) (
            some false)) (
           some false)) (
          some false)))))))) (
   chk ((decide (0 <= k_7) && decide (k_7 <= (vL.length : Int)))) (
    chk (decide (0 + (k_7.toNat) <= vL.length)) (
     let v21 : List UInt8 := kR ((vL.drop 0).take (k_7.toNat))
     ob (gJ n (v21, zKs)) fun y22 =>
     br (decide (k_7 > 4000)) (
      br (y22.2.2 == 2) (
       br (y22.2.1 == 0) (
        let v23 : Int := (y22.1.2.2.1.length : Int)
        br (v23 == 0) (
         ob (shown13 n ()) fun y24 =>
         some y24) (
         some false)) (
        some false)) (
       some false)) (
      br Mf (
       br (y22.2.2 == 120) (
        br (y22.2.1 == 7) (
         let v25 : Int := (y22.1.2.2.1.length : Int)
         br (v25 == 0) (
          ob (shown13 n ()) fun y26 =>
          some y26) (
          some false)) (
         some false)) (
        some false)) (
       br (y22.2.2 == 0) (
        br (y22.2.1 == 0) (
         let v27 : Int := (y22.1.2.2.1.length : Int)
         br (v27 == 0) (
          ob (shown13 n ()) fun y28 =>
          some y28) (
          some false)) (
         some false)) (
        some false)))))))
def oD (n : Nat) (x : Int × Bool × Bool) : Option (Bool) :=
 let n_0 : Int := x.1
 let zTs : Bool := x.2.1
 let zXz : Bool := x.2.2
 chk ((!decide (200 = 0))) (
  let v1 : Int := Int.tmod (IntKind.wrap .i64 n_0) 200
  let v2 : Int := IntKind.wrap .i64 (3900 + v1)
  chk ((decide (0 <= 4100) && (decide (4100 = 4100) && Nat.ble ((4100 : Int).toNat * 1) room))) (
   let r3 : List (Int) := List.replicate (4100 : Int).toNat 0
   fix (gK n) n (zTs, zXz, v2, 0, r3, ())))
end Go.Dec
