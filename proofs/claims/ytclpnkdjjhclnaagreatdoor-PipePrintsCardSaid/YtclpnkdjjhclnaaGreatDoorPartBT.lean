/- Part of a proof over this seat: a library of my own, and what it says of this seat. No statement is proved here. -/
import Derived.Test.YtclpnkdjjhclnaaGreatDoorPartBI
import Derived.Test.YtclpnkdjjhclnaaGreatDoorPartBQ
import Derived.Test.YtclpnkdjjhclnaaGreatDoorPartAM
namespace Go.Dec
def shown21 (_n : Nat) (_x : Unit) : Option Bool := some true
end Go.Dec
namespace Go.Dec
set_option linter.unusedVariables false
abbrev vK : Ty := .pair .str (.pair .str .unit)
def fG (n : Nat) (g0 : List (List (List UInt8)) × List (List UInt8 × List UInt8 × Unit) × Int × Unit -> Option (Bool)) (g1 : List (List (List UInt8)) × List (List UInt8 × List UInt8 × Unit) × Int × Int × Unit -> Option (Bool)) (x5 : List (List (List UInt8)) × List (List UInt8 × List UInt8 × Unit) × Int × Int × Unit) : Option (Bool) :=
 let l_6 : List (List (List UInt8)) := x5.1
 let t_7 : List (List UInt8 × List UInt8 × Unit) := x5.2.1
 let i_8 : Int := x5.2.2.1
 let k_9 : Int := x5.2.2.2.1
 chk (inB i_8 l_6.length) (
  let v10 : List (List UInt8) := aY (Ty.dflt (.slice .str)) l_6 i_8
  br (decide (k_9 < (v10.length : Int))) (
   chk (inB i_8 l_6.length) (
    let v11 : List (List UInt8) := aY (Ty.dflt (.slice .str)) l_6 i_8
    chk (inB k_9 v11.length) (
     let v12 : List UInt8 := aY (Ty.dflt .str) v11 k_9
     br (decide ((v12.length : Int) > 100)) (
      some false) (
      let v13 : Int := IntKind.wrap .i64 (k_9 + 1)
      g1 (l_6, t_7, i_8, v13, ()))))) (
   chk (inB i_8 l_6.length) (
    let v14 : List (List UInt8) := aY (Ty.dflt (.slice .str)) l_6 i_8
    br (decide ((v14.length : Int) > 12)) (
     some false) (
     let v15 : Int := IntKind.wrap .i64 (i_8 + 1)
     g0 (l_6, t_7, v15, ())))))
def nZ (n : Nat) (g2 : List (List (List UInt8)) × List (List UInt8 × List UInt8 × Unit) × Int × Unit -> Option (Bool)) (x16 : List (List (List UInt8)) × List (List UInt8 × List UInt8 × Unit) × Int × Unit) : Option (Bool) :=
 let zIi : List (List (List UInt8)) := x16.1
 let Fh : List (List UInt8 × List UInt8 × Unit) := x16.2.1
 let Ll : Int := x16.2.2.1
 br (decide (Ll < (Fh.length : Int))) (
  chk (inB Ll Fh.length) (
   let v20 : List UInt8 × List UInt8 × Unit := aY (Ty.dflt vK) Fh Ll
   br (decide ((v20.1.length : Int) > 60)) (
    some false) (
    chk (inB Ll Fh.length) (
     let v21 : List UInt8 × List UInt8 × Unit := aY (Ty.dflt vK) Fh Ll
     br (decide ((v21.2.1.length : Int) > 100)) (
      some false) (
      let v22 : Int := IntKind.wrap .i64 (Ll + 1)
      g2 (zIi, Fh, v22, ())))))) (
  br (decide ((zIi.length : Int) <= 8)) (
   some (decide ((Fh.length : Int) <= 8))) (
   some false))
def dO (n : Nat) (g0 : List (List (List UInt8)) × List (List UInt8 × List UInt8 × Unit) × Int × Unit -> Option (Bool)) (x1 : List (List (List UInt8)) × List (List UInt8 × List UInt8 × Unit) × Int × Unit) : Option (Bool) :=
 let l_2 : List (List (List UInt8)) := x1.1
 let t_3 : List (List UInt8 × List UInt8 × Unit) := x1.2.1
 let i_4 : Int := x1.2.2.1
 br (decide (i_4 < (l_2.length : Int))) (
  fix (fG n g0) n (l_2, t_3, i_4, 0, ())) (
  fix (nZ n) n (l_2, t_3, 0, ()))
def mJ (n : Nat) (x : List (List (List UInt8)) × List (List UInt8 × List UInt8 × Unit)) : Option (Bool) :=
 let l_0 : List (List (List UInt8)) := x.1
 let t_1 : List (List UInt8 × List UInt8 × Unit) := x.2
 fix (dO n) n (l_0, t_1, 0, ())
def kU (n : Nat) (x : Int) : Option (Bool) :=
 let c_0 : Int := x
 br (decide (c_0 < 97)) (
  br (decide (c_0 < 65)) (
   br (decide (c_0 < 48)) (
    ob (strings_IndexByte n ([95, 45, 46, 47, 44, 58, 61, 43, 64, 37], c_0)) fun y1 =>
    some (decide (y1 < 0))) (
    br (decide (c_0 > 57)) (
     ob (strings_IndexByte n ([95, 45, 46, 47, 44, 58, 61, 43, 64, 37], c_0)) fun y2 =>
     some (decide (y2 < 0))) (
     some false))) (
   br (decide (c_0 > 90)) (
    br (decide (c_0 < 48)) (
     ob (strings_IndexByte n ([95, 45, 46, 47, 44, 58, 61, 43, 64, 37], c_0)) fun y3 =>
     some (decide (y3 < 0))) (
     br (decide (c_0 > 57)) (
      ob (strings_IndexByte n ([95, 45, 46, 47, 44, 58, 61, 43, 64, 37], c_0)) fun y4 =>
      some (decide (y4 < 0))) (
      some false))) (
    some false))) (
  br (decide (c_0 > 122)) (
   br (decide (c_0 < 65)) (
    br (decide (c_0 < 48)) (
     ob (strings_IndexByte n ([95, 45, 46, 47, 44, 58, 61, 43, 64, 37], c_0)) fun y5 =>
     some (decide (y5 < 0))) (
     br (decide (c_0 > 57)) (
      ob (strings_IndexByte n ([95, 45, 46, 47, 44, 58, 61, 43, 64, 37], c_0)) fun y6 =>
      some (decide (y6 < 0))) (
      some false))) (
    br (decide (c_0 > 90)) (
     br (decide (c_0 < 48)) (
      ob (strings_IndexByte n ([95, 45, 46, 47, 44, 58, 61, 43, 64, 37], c_0)) fun y7 =>
      some (decide (y7 < 0))) (
      br (decide (c_0 > 57)) (
       ob (strings_IndexByte n ([95, 45, 46, 47, 44, 58, 61, 43, 64, 37], c_0)) fun y8 =>
       some (decide (y8 < 0))) (
       some false))) (
     some false))) (
   some false))
def bD (n : Nat) (g0 : List (Int) × Int × Int × Unit -> Option (Int × Unit)) (x2 : List (Int) × Int × Int × Unit) : Option (Int × Unit) :=
 let s_3 : List (Int) := x2.1
 let zIj : Int := x2.2.1
 let Tg : Int := x2.2.2.1
 br (decide (Tg < zIj)) (
  chk (inB Tg s_3.length) (
   let v6 : Int := aY (Ty.dflt (.int .u8)) s_3 Tg
   ob (kU n v6) fun y7 =>
   br y7 (
    some (Tg, ())) (
    let v8 : Int := IntKind.wrap .i64 (Tg + 1)
    g0 (s_3, zIj, v8, ())))) (
  some ((-1), ()))
def bK (n : Nat) (x : List (Int) × Unit) : Option (Int × Unit) :=
 let s_1 : List (Int) := x.1
 fix (bD n) n (s_1, (s_1.length : Int), 0, ())
def aZ (n : Nat) (x : List (Int) × Unit) : Option (Bool × Unit) :=
 let s_1 : List (Int) := x.1
 ob (bK n (s_1, ())) fun y2 =>
 some ((decide (y2.1 ≥ 0)), ())
def jR (n : Nat) (x : List UInt8) : Option (List UInt8) :=
 let w_0 : List UInt8 := x
 br (!(w_0 == [])) (
  chk (Nat.ble w_0.length room) (
   ob (aZ n (aO w_0, ())) fun y1 =>
   br (!y1.1) (
    some w_0) (
    ob (strings_ReplaceAll n (w_0, [39], [39, 92, 39, 39])) fun y2 =>
    chk (decide ([39].length + y2.length <= bL)) (
     chk (decide (([39] ++ y2).length + ([39] : List UInt8).length <= bL)) (
      some (([39] ++ y2) ++ [39])))))) (
  ob (strings_ReplaceAll n (w_0, [39], [39, 92, 39, 39])) fun y3 =>
  chk (decide ([39].length + y3.length <= bL)) (
   chk (decide (([39] ++ y3).length + ([39] : List UInt8).length <= bL)) (
    some (([39] ++ y3) ++ [39]))))
def jS (n : Nat) (g0 : List (List (List UInt8)) × Int × Int × List (List UInt8) × Unit -> Option (List UInt8 × Int)) (g1 : List (List (List UInt8)) × Int × Int × List (List UInt8) × Int × Int × List (List UInt8) × List (List UInt8) × Unit -> Option (List UInt8 × Int)) (x8 : List (List (List UInt8)) × Int × Int × List (List UInt8) × Int × Int × List (List UInt8) × List (List UInt8) × Unit) : Option (List UInt8 × Int) :=
 let zFc : List (List (List UInt8)) := x8.1
 let zBl : Int := x8.2.1
 let zBm : Int := x8.2.2.1
 let Ti : List (List UInt8) := x8.2.2.2.1
 let zBn : Int := x8.2.2.2.2.1
 let Iu : Int := x8.2.2.2.2.2.1
 let Zk : List (List UInt8) := x8.2.2.2.2.2.2.1
 let Zl : List (List UInt8) := x8.2.2.2.2.2.2.2.1
 br (decide (Iu < zBn)) (
  chk (inB Iu Ti.length) (
   let v17 : List UInt8 := aY (Ty.dflt .str) Ti Iu
   ob (jR n v17) fun y18 =>
   chk (Nat.ble ((Zl.length + ([y18] : List (List UInt8)).length) * 16) room) (
    let v19 : Int := IntKind.wrap .i64 (Iu + 1)
    g1 (zFc, zBl, zBm, Ti, zBn, v19, Zk, Zl ++ [y18], ())))) (
  ob (strings_Join n (Zl, [32])) fun y20 =>
  chk (Nat.ble ((Zk.length + ([y20] : List (List UInt8)).length) * 16) room) (
   let v21 : Int := IntKind.wrap .i64 (zBm + 1)
   g0 (zFc, zBl, v21, Zk ++ [y20], ())))
def iF (n : Nat) (g0 : List (List (List UInt8)) × Int × Int × List (List UInt8) × Unit -> Option (List UInt8 × Int)) (x1 : List (List (List UInt8)) × Int × Int × List (List UInt8) × Unit) : Option (List UInt8 × Int) :=
 let Zm : List (List (List UInt8)) := x1.1
 let zFd : Int := x1.2.1
 let Pp : Int := x1.2.2.1
 let zIk : List (List UInt8) := x1.2.2.2.1
 br (decide (Pp < zFd)) (
  chk (inB Pp Zm.length) (
   let v6 : List (List UInt8) := aY (Ty.dflt (.slice .str)) Zm Pp
   br ((v6.length : Int) == 0) (
    some ([], 1)) (
    chk (inB 0 v6.length) (
     let v7 : List UInt8 := aY (Ty.dflt .str) v6 0
     br (!(v7 == [115, 101, 100])) (
      some ([], 1)) (
      fix (jS n g0) n (Zm, zFd, Pp, v6, (v6.length : Int), 0, zIk, [], ())))))) (
  ob (strings_Join n (zIk, [32, 124, 32])) fun y22 =>
  some (y22, 0))
def sK (n : Nat) (x : List (List (List UInt8))) : Option (List UInt8 × Int) :=
 let l_0 : List (List (List UInt8)) := x
 fix (iF n) n (l_0, (l_0.length : Int), 0, [], ())
def lK (n : Nat) (g0 : List UInt8 × Int × Int × Unit -> Option (Bool)) (x1 : List UInt8 × Int × Int × Unit) : Option (Bool) :=
 let s_2 : List UInt8 := x1.1
 let b_3 : Int := x1.2.1
 let i_4 : Int := x1.2.2.1
 br (decide (i_4 < (s_2.length : Int))) (
  chk (inB i_4 s_2.length) (
   let v5 : Int := ((aY 0 s_2 i_4).toNat : Int)
   br (v5 == b_3) (
    some true) (
    let v6 : Int := IntKind.wrap .i64 (i_4 + 1)
    g0 (s_2, b_3, v6, ())))) (
  some false)
def bM (n : Nat) (x : List UInt8 × Int) : Option (Bool) :=
 let s_0 : List UInt8 := x.1
 let b_1 : Int := x.2
 fix (lK n) n (s_0, b_1, 0, ())
def aG (n : Nat) (g0 : List UInt8 × Bool × List UInt8 × Int × Unit -> Option (List UInt8)) (x8 : List UInt8 × Bool × List UInt8 × Int × Int × Unit) : Option (List UInt8) :=
 let w_9 : List UInt8 := x8.1
 let Tj : Bool := x8.2.1
 let Iw : List UInt8 := x8.2.2.1
 let Lm : Int := x8.2.2.2.1
 let zKh : Int := x8.2.2.2.2.1
 br (zKh == 39) (
  chk (decide (Iw.length + ([39, 92, 39, 39] : List UInt8).length <= bL)) (
   let v14 : List UInt8 := Iw ++ [39, 92, 39, 39]
   let v15 : Int := IntKind.wrap .i64 (Lm + 1)
   g0 (w_9, Tj, v14, v15, ()))) (
  let v16 : Int := IntKind.wrap .i64 (Lm + 1)
  chk ((decide (0 <= v16) && decide (v16 <= (w_9.length : Int)) && (decide (0 <= Lm) && decide (Lm <= v16)))) (
   let v17 : List UInt8 := (w_9.take v16.toNat).drop Lm.toNat
   chk (decide (Iw.length + v17.length <= bL)) (
    let v18 : Int := IntKind.wrap .i64 (Lm + 1)
    g0 (w_9, Tj, Iw ++ v17, v18, ()))))
def dJ (n : Nat) (g0 : List UInt8 × Bool × List UInt8 × Int × Unit -> Option (List UInt8)) (x1 : List UInt8 × Bool × List UInt8 × Int × Unit) : Option (List UInt8) :=
 let w_2 : List UInt8 := x1.1
 let eU : Bool := x1.2.1
 let dU : List UInt8 := x1.2.2.1
 let i_5 : Int := x1.2.2.2.1
 br (decide (i_5 < (w_2.length : Int))) (
  chk (inB i_5 w_2.length) (
   let v6 : Int := ((aY 0 w_2 i_5).toNat : Int)
   br (decide (v6 < 97)) (
    br (decide (v6 < 65)) (
     br (decide (v6 < 48)) (
      ob (bM n ([95, 45, 46, 47, 44, 58, 61, 43, 64, 37], v6)) fun y7 =>
      br (!y7) (
       jn (aG n g0) (w_2, false, dU, i_5, v6, ())) (
       jn (aG n g0) (w_2, eU, dU, i_5, v6, ()))) (
      br (decide (v6 > 57)) (
       ob (bM n ([95, 45, 46, 47, 44, 58, 61, 43, 64, 37], v6)) fun y19 =>
       br (!y19) (
        jn (aG n g0) (w_2, false, dU, i_5, v6, ())) (
        jn (aG n g0) (w_2, eU, dU, i_5, v6, ()))) (
       jn (aG n g0) (w_2, eU, dU, i_5, v6, ())))) (
     br (decide (v6 > 90)) (
      br (decide (v6 < 48)) (
       ob (bM n ([95, 45, 46, 47, 44, 58, 61, 43, 64, 37], v6)) fun y20 =>
       br (!y20) (
        jn (aG n g0) (w_2, false, dU, i_5, v6, ())) (
        jn (aG n g0) (w_2, eU, dU, i_5, v6, ()))) (
       br (decide (v6 > 57)) (
        ob (bM n ([95, 45, 46, 47, 44, 58, 61, 43, 64, 37], v6)) fun y21 =>
        br (!y21) (
         jn (aG n g0) (w_2, false, dU, i_5, v6, ())) (
         jn (aG n g0) (w_2, eU, dU, i_5, v6, ()))) (
        jn (aG n g0) (w_2, eU, dU, i_5, v6, ())))) (
      jn (aG n g0) (w_2, eU, dU, i_5, v6, ())))) (
    br (decide (v6 > 122)) (
     br (decide (v6 < 65)) (
      br (decide (v6 < 48)) (
       ob (bM n ([95, 45, 46, 47, 44, 58, 61, 43, 64, 37], v6)) fun y22 =>
       br (!y22) (
        jn (aG n g0) (w_2, false, dU, i_5, v6, ())) (
        jn (aG n g0) (w_2, eU, dU, i_5, v6, ()))) (
       br (decide (v6 > 57)) (
        ob (bM n ([95, 45, 46, 47, 44, 58, 61, 43, 64, 37], v6)) fun y23 =>
        br (!y23) (
         jn (aG n g0) (w_2, false, dU, i_5, v6, ())) (
         jn (aG n g0) (w_2, eU, dU, i_5, v6, ()))) (
        jn (aG n g0) (w_2, eU, dU, i_5, v6, ())))) (
      br (decide (v6 > 90)) (
       br (decide (v6 < 48)) (
        ob (bM n ([95, 45, 46, 47, 44, 58, 61, 43, 64, 37], v6)) fun y24 =>
        br (!y24) (
         jn (aG n g0) (w_2, false, dU, i_5, v6, ())) (
         jn (aG n g0) (w_2, eU, dU, i_5, v6, ()))) (
        br (decide (v6 > 57)) (
         ob (bM n ([95, 45, 46, 47, 44, 58, 61, 43, 64, 37], v6)) fun y25 =>
         br (!y25) (
          jn (aG n g0) (w_2, false, dU, i_5, v6, ())) (
          jn (aG n g0) (w_2, eU, dU, i_5, v6, ()))) (
         jn (aG n g0) (w_2, eU, dU, i_5, v6, ())))) (
       jn (aG n g0) (w_2, eU, dU, i_5, v6, ())))) (
     jn (aG n g0) (w_2, eU, dU, i_5, v6, ()))))) (
  br eU (
   some w_2) (
   chk (decide (dU.length + ([39] : List UInt8).length <= bL)) (
    some (dU ++ [39]))))
def eH (n : Nat) (x : List UInt8) : Option (List UInt8) :=
 let w_0 : List UInt8 := x
 fix (dJ n) n (w_0, (!(w_0 == [])), [39], 0, ())
def gL (n : Nat) (g0 : List (List (List UInt8)) × List UInt8 × Int × Unit -> Option (List UInt8 × Int)) (g1 : List (List (List UInt8)) × List UInt8 × Int × Int × Unit -> Option (List UInt8 × Int)) (x8 : List (List (List UInt8)) × List UInt8 × Int × Int × Unit) : Option (List UInt8 × Int) :=
 let l_9 : List (List (List UInt8)) := x8.1
 let Lp : List UInt8 := x8.2.1
 let yV : Int := x8.2.2.1
 let Bl : Int := x8.2.2.2.1
 chk (inB yV l_9.length) (
  let v13 : List (List UInt8) := aY (Ty.dflt (.slice .str)) l_9 yV
  br (decide (Bl < (v13.length : Int))) (
   br (decide (Bl > 0)) (
    chk (decide (Lp.length + ([32] : List UInt8).length <= bL)) (
     chk (inB yV l_9.length) (
      let v14 : List (List UInt8) := aY (Ty.dflt (.slice .str)) l_9 yV
      chk (inB Bl v14.length) (
       let v15 : List UInt8 := aY (Ty.dflt .str) v14 Bl
       ob (eH n v15) fun y16 =>
       chk (decide ((Lp ++ [32]).length + y16.length <= bL)) (
        let v17 : Int := IntKind.wrap .i64 (Bl + 1)
        g1 (l_9, (Lp ++ [32]) ++ y16, yV, v17, ())))))) (
    chk (inB yV l_9.length) (
     let v18 : List (List UInt8) := aY (Ty.dflt (.slice .str)) l_9 yV
     chk (inB Bl v18.length) (
      let v19 : List UInt8 := aY (Ty.dflt .str) v18 Bl
      ob (eH n v19) fun y20 =>
      chk (decide (Lp.length + y20.length <= bL)) (
       let v21 : Int := IntKind.wrap .i64 (Bl + 1)
       g1 (l_9, Lp ++ y20, yV, v21, ())))))) (
   let v22 : Int := IntKind.wrap .i64 (yV + 1)
   g0 (l_9, Lp, v22, ())))
def qR (n : Nat) (g0 : List (List (List UInt8)) × List UInt8 × Int × Unit -> Option (List UInt8 × Int)) (g1 : List (List (List UInt8)) × List UInt8 × Int × Int × Unit -> Option (List UInt8 × Int)) (x23 : List (List (List UInt8)) × List UInt8 × Int × Int × Unit) : Option (List UInt8 × Int) :=
 let yX : List (List (List UInt8)) := x23.1
 let Lr : List UInt8 := x23.2.1
 let yY : Int := x23.2.2.1
 let Bn : Int := x23.2.2.2.1
 chk (inB yY yX.length) (
  let v28 : List (List UInt8) := aY (Ty.dflt (.slice .str)) yX yY
  br (decide (Bn < (v28.length : Int))) (
   br (decide (Bn > 0)) (
    chk (decide (Lr.length + ([32] : List UInt8).length <= bL)) (
     chk (inB yY yX.length) (
      let v29 : List (List UInt8) := aY (Ty.dflt (.slice .str)) yX yY
      chk (inB Bn v29.length) (
       let v30 : List UInt8 := aY (Ty.dflt .str) v29 Bn
       ob (eH n v30) fun y31 =>
       chk (decide ((Lr ++ [32]).length + y31.length <= bL)) (
        let v32 : Int := IntKind.wrap .i64 (Bn + 1)
        g1 (yX, (Lr ++ [32]) ++ y31, yY, v32, ())))))) (
    chk (inB yY yX.length) (
     let v33 : List (List UInt8) := aY (Ty.dflt (.slice .str)) yX yY
     chk (inB Bn v33.length) (
      let v34 : List UInt8 := aY (Ty.dflt .str) v33 Bn
      ob (eH n v34) fun y35 =>
      chk (decide (Lr.length + y35.length <= bL)) (
       let v36 : Int := IntKind.wrap .i64 (Bn + 1)
       g1 (yX, Lr ++ y35, yY, v36, ())))))) (
   let v37 : Int := IntKind.wrap .i64 (yY + 1)
   g0 (yX, Lr, v37, ())))
def eX (n : Nat) (g0 : List (List (List UInt8)) × List UInt8 × Int × Unit -> Option (List UInt8 × Int)) (x1 : List (List (List UInt8)) × List UInt8 × Int × Unit) : Option (List UInt8 × Int) :=
 let l_2 : List (List (List UInt8)) := x1.1
 let s_3 : List UInt8 := x1.2.1
 let i_4 : Int := x1.2.2.1
 br (decide (i_4 < (l_2.length : Int))) (
  chk (inB i_4 l_2.length) (
   let v5 : List (List UInt8) := aY (Ty.dflt (.slice .str)) l_2 i_4
   br ((v5.length : Int) == 0) (
    some ([], 1)) (
    chk (inB i_4 l_2.length) (
     let v6 : List (List UInt8) := aY (Ty.dflt (.slice .str)) l_2 i_4
     chk (inB 0 v6.length) (
      let v7 : List UInt8 := aY (Ty.dflt .str) v6 0
      br (!(v7 == [115, 101, 100])) (
       some ([], 1)) (
       br (decide (i_4 > 0)) (
        chk (decide (s_3.length + ([32, 124, 32] : List UInt8).length <= bL)) (
         fix (gL n g0) n (l_2, s_3 ++ [32, 124, 32], i_4, 0, ()))) (
        fix (qR n g0) n (l_2, s_3, i_4, 0, ())))))))) (
  some (s_3, 0))
def qD (n : Nat) (x : List (List (List UInt8))) : Option (List UInt8 × Int) :=
 let l_0 : List (List (List UInt8)) := x
 fix (eX n) n (l_0, [], 0, ())
def mW (n : Nat) (x : List (List (List UInt8)) × List UInt8) : Option (Bool) :=
 let l_0 : List (List (List UInt8)) := x.1
 let w_1 : List UInt8 := x.2
 ob (mJ n (l_0, [])) fun y1 =>
 br (!y1) (
  ob (shown21 n ()) fun y2 =>
  some y2) (
  br (decide ((w_1.length : Int) > 100)) (
   ob (shown21 n ()) fun y3 =>
   some y3) (
   ob (shown21 n ()) fun y4 =>
   br (!y4) (
    ob (shown21 n ()) fun y5 =>
    some y5) (
    ob (sK n l_0) fun y6 =>
    ob (qD n l_0) fun y7 =>
    br (y6.1 == y7.1) (
     br (y6.2 == y7.2) (
      ob (jR n w_1) fun y8 =>
      ob (eH n w_1) fun y9 =>
      some (y8 == y9)) (
      some false)) (
     some false))))
end Go.Dec
