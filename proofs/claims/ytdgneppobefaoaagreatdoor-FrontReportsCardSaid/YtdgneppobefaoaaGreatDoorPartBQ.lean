/- Part of a proof over this seat: a library of my own, and what it says of this seat. No statement is proved here. -/
import Derived.Test.YtdgneppobefaoaaGreatDoorPartAK
import Derived.Test.YtdgneppobefaoaaGreatDoorPartBK
import Derived.Test.YtdgneppobefaoaaGreatDoorPartBP
import Derived.Test.YtdgneppobefaoaaGreatDoorPartBB
namespace Go.Dec
set_option linter.unusedVariables false
abbrev gY:Ty:=.pair .str (.pair .str .unit)
abbrev iU:Ty:=.pair .str (.pair (.slice gY) (.pair (.slice (.int .i64)) (.pair (.int .i64) (.pair (.int .i64) .unit))))
def aO (n : Nat) (x : List UInt8 × List (Int) × Unit) : Option (Int × Bool × List (Int) × Unit) :=
 let s_1 : List UInt8 := x.1
 let zNh : List (Int) := x.2.1
 ob (oW n (zNh, ())) fun y3 =>
 chk (Nat.ble ((y3.1.length + s_1.length) * 1) room) (
  some ((s_1.length : Int), false, y3.1 ++ aN s_1, ()))
def jH (n : Nat) (x : Int) : Option (List UInt8) :=
 let b_0 : Int := x
 br (b_0 == 92) (
  some [92, 92]) (
  br (decide (b_0 ≥ 7)) (
   br (decide (b_0 <= 13)) (
    let v1 : Int := IntKind.wrap .u8 (b_0 - 7)
    chk (inB v1 [97, 98, 116, 110, 118, 102, 114].length) (
     let v2 : Int := ((cO (0 : UInt8) [97, 98, 116, 110, 118, 102, 114] v1).toNat : Int)
     chk (decide ([92].length + (bE [v2]).length <= bB)) (
      some ([92] ++ (bE [v2]))))) (
    br (decide (b_0 < 32)) (
     ob (fM n (IntKind.wrap .u64 b_0, 8)) fun y3 =>
     let v4 : Int := IntKind.wrap .i64 (3 - (y3.length : Int))
     ob (strings_Repeat n ([48], v4)) fun y5 =>
     chk (decide ([92].length + y5.length <= bB)) (
      chk (decide (([92] ++ y5).length + y3.length <= bB)) (
       some (([92] ++ y5) ++ y3)))) (
     br (decide (b_0 > 126)) (
      ob (fM n (IntKind.wrap .u64 b_0, 8)) fun y6 =>
      let v7 : Int := IntKind.wrap .i64 (3 - (y6.length : Int))
      ob (strings_Repeat n ([48], v7)) fun y8 =>
      chk (decide ([92].length + y8.length <= bB)) (
       chk (decide (([92] ++ y8).length + y6.length <= bB)) (
        some (([92] ++ y8) ++ y6)))) (
      some (bE [b_0]))))) (
   br (decide (b_0 < 32)) (
    ob (fM n (IntKind.wrap .u64 b_0, 8)) fun y9 =>
    let v10 : Int := IntKind.wrap .i64 (3 - (y9.length : Int))
    ob (strings_Repeat n ([48], v10)) fun y11 =>
    chk (decide ([92].length + y11.length <= bB)) (
     chk (decide (([92] ++ y11).length + y9.length <= bB)) (
      some (([92] ++ y11) ++ y9)))) (
    br (decide (b_0 > 126)) (
     ob (fM n (IntKind.wrap .u64 b_0, 8)) fun y12 =>
     let v13 : Int := IntKind.wrap .i64 (3 - (y12.length : Int))
     ob (strings_Repeat n ([48], v13)) fun y14 =>
     chk (decide ([92].length + y14.length <= bB)) (
      chk (decide (([92] ++ y14).length + y12.length <= bB)) (
       some (([92] ++ y14) ++ y12)))) (
     some (bE [b_0])))))
def qN (n : Nat) (x : List UInt8 × Int × Int × List (Int) × Unit) : Option (Int × Int × List (Int) × Unit) :=
 let p_1 : List UInt8 := x.1
 let b2 : Int := x.2.1
 let b3 : Int := x.2.2.1
 let Fb : List (Int) := x.2.2.2.1
 br (decide (b2 > 1)) (
  br (decide (b3 > 0)) (
   let v5 : Int := IntKind.wrap .i64 (b3 + (p_1.length : Int))
   br (decide (v5 ≥ b2)) (
    ob (aO n ([92, 10], Fb, ())) fun y6 =>
    ob (aO n (p_1, y6.2.2.1, ())) fun y7 =>
    let v8 : Int := IntKind.wrap .i64 (0 + (p_1.length : Int))
    some (b2, v8, y7.2.2.1, ())) (
    ob (aO n (p_1, Fb, ())) fun y9 =>
    let v10 : Int := IntKind.wrap .i64 (b3 + (p_1.length : Int))
    some (b2, v10, y9.2.2.1, ()))) (
   ob (aO n (p_1, Fb, ())) fun y11 =>
   let v12 : Int := IntKind.wrap .i64 (b3 + (p_1.length : Int))
   some (b2, v12, y11.2.2.1, ()))) (
  ob (aO n (p_1, Fb, ())) fun y13 =>
  let v14 : Int := IntKind.wrap .i64 (b3 + (p_1.length : Int))
  some (b2, v14, y13.2.2.1, ()))
def lY (n : Nat) (g0 : List UInt8 × Int × Int × Int × Int × List (Int) × Unit -> Option (List UInt8)) (x1 : List UInt8 × Int × Int × Int × Int × List (Int) × Unit) : Option (List UInt8) :=
 let s_2 : List UInt8 := x1.1
 let zOl : Int := x1.2.1
 let xX : Int := x1.2.2.1
 let b5 : Int := x1.2.2.2.1
 let b6 : Int := x1.2.2.2.2.1
 let Bv : List (Int) := x1.2.2.2.2.2.1
 br (decide (xX < zOl)) (
  chk (inB xX s_2.length) (
   let v8 : Int := ((cO 0 s_2 xX).toNat : Int)
   ob (jH n v8) fun y9 =>
   ob (qN n (y9, b5, b6, Bv, ())) fun y10 =>
   let v11 : Int := IntKind.wrap .i64 (xX + 1)
   g0 (s_2, zOl, v11, y10.1, y10.2.1, y10.2.2.1, ()))) (
  ob (aO n ([36, 10], Bv, ())) fun y12 =>
  ob (Builder_String n (y12.2.2.1, ())) fun y13 =>
  some y13.1)
def qO (n : Nat) (x : List UInt8 × Int) : Option (List UInt8) :=
 let s_0 : List UInt8 := x.1
 let Ta : Int := x.2
 fix (lY n) n (s_0, (s_0.length : Int), 0, Ta, 0, [], ())
def dL (n : Nat) (g0 : List (Value) × Int × Int × List (Int) × Unit -> Option (List (Int) × Unit)) (x3 : List (Value) × Int × Int × List (Int) × Unit) : Option (List (Int) × Unit) :=
 let Lg : List (Value) := x3.1
 let Hf : Int := x3.2.1
 let xY : Int := x3.2.2.1
 let Bv : List (Int) := x3.2.2.2.1
 br (decide (xY < Hf)) (
  chk (inB xY Lg.length) (
   let v8 : Value := cO (Ty.dflt .opq) Lg xY
   chk ((Ns 9 v8)) (
    br (isIf 9 v8) (
     ob (aO n ((xH 9 v8), Bv, ())) fun y9 =>
     let v10 : Int := IntKind.wrap .i64 (xY + 1)
     g0 (Lg, Hf, v10, y9.2.2.1, ())) (
     chk ((Ns 80 v8)) (
      br (isIf 80 v8) (
       ob (qO n ((xH 80 v8), 0)) fun y11 =>
       ob (aO n (y11, Bv, ())) fun y12 =>
       let v13 : Int := IntKind.wrap .i64 (xY + 1)
       g0 (Lg, Hf, v13, y12.2.2.1, ())) (
       chk ((Nt .i64 3 v8)) (
        br (isIf 3 v8) (
         br ((zU 3 v8) == (-1)) (
          ob (aO n ([99, 117, 116], Bv, ())) fun y14 =>
          let v15 : Int := IntKind.wrap .i64 (xY + 1)
          g0 (Lg, Hf, v15, y14.2.2.1, ())) (
          ob (strconv_Itoa n (zU 3 v8)) fun y16 =>
          ob (aO n (y16, Bv, ())) fun y17 =>
          let v18 : Int := IntKind.wrap .i64 (xY + 1)
          g0 (Lg, Hf, v18, y17.2.2.1, ()))) (
         let v19 : Int := IntKind.wrap .i64 (xY + 1)
         g0 (Lg, Hf, v19, Bv, ()))))))))) (
  some (Bv, ()))
def dD (n : Nat) (x : List (Value) × List (Int) × Unit) : Option (List (Int) × Unit) :=
 let l_1 : List (Value) := x.1
 let zNh : List (Int) := x.2.1
 fix (dL n) n (l_1, (l_1.length : Int), 0, zNh, ())
def iJ (n : Nat) (g1 : List (List UInt8 × List UInt8 × Unit) × Int × Int × List UInt8 × List (List UInt8 × List UInt8 × Unit) × List (Int) × Int × Int × List (Int) × Unit -> Option (List UInt8)) (x20 : List (List UInt8 × List UInt8 × Unit) × Int × Int × List UInt8 × List (List UInt8 × List UInt8 × Unit) × List (Int) × Int × Int × List (Int) × Unit) : Option (List UInt8) :=
 let zAq : List (List UInt8 × List UInt8 × Unit) := x20.1
 let zJx : Int := x20.2.1
 let Qo : Int := x20.2.2.1
 let zOm : List UInt8 := x20.2.2.2.1
 let zPs : List (List UInt8 × List UInt8 × Unit) := x20.2.2.2.2.1
 let zNi : List (Int) := x20.2.2.2.2.2.1
 let zSb : Int := x20.2.2.2.2.2.2.1
 let zPt : Int := x20.2.2.2.2.2.2.2.1
 let zOn : List (Int) := x20.2.2.2.2.2.2.2.2.1
 br (decide (Qo < zJx)) (
  chk (inB Qo zAq.length) (
   let v30 : List UInt8 × List UInt8 × Unit := cO (Ty.dflt gY) zAq Qo
   let v31 : Value := (Value.iface 9 (.string ⟨([102, 105, 108, 101, 32] : List UInt8).toArray⟩))
   let v32 : Value := (Value.iface 80 (.string ⟨(v30.1 : List UInt8).toArray⟩))
   let v33 : Value := (Value.iface 80 (.string ⟨(v30.2.1 : List UInt8).toArray⟩))
   ob (dD n ([v31, v32, v33], zOn, ())) fun y34 =>
   let v35 : Int := IntKind.wrap .i64 (Qo + 1)
   g1 (zAq, zJx, v35, zOm, zPs, zNi, zSb, zPt, y34.1, ()))) (
  let v36 : Value := (Value.iface 9 (.string ⟨([111, 117, 116, 32] : List UInt8).toArray⟩))
  let v37 : Value := (Value.iface 80 (.string ⟨(zOm : List UInt8).toArray⟩))
  ob (dD n ([v36, v37], zOn, ())) fun y38 =>
  ob (Builder_String n (y38.1, ())) fun y39 =>
  some y39.1)
def kF (n : Nat) (g0 : List (Int) × Int × Int × List UInt8 × List (List UInt8 × List UInt8 × Unit) × List (Int) × Int × Int × List (Int) × Unit -> Option (List UInt8)) (x3 : List (Int) × Int × Int × List UInt8 × List (List UInt8 × List UInt8 × Unit) × List (Int) × Int × Int × List (Int) × Unit) : Option (List UInt8) :=
 let xX : List (Int) := x3.1
 let zOo : Int := x3.2.1
 let Wp : Int := x3.2.2.1
 let zSc : List UInt8 := x3.2.2.2.1
 let Qp : List (List UInt8 × List UInt8 × Unit) := x3.2.2.2.2.1
 let zDj : List (Int) := x3.2.2.2.2.2.1
 let zJy : Int := x3.2.2.2.2.2.2.1
 let zDk : Int := x3.2.2.2.2.2.2.2.1
 let zOp : List (Int) := x3.2.2.2.2.2.2.2.2.1
 br (decide (Wp < zOo)) (
  chk (inB Wp xX.length) (
   let v13 : Int := cO (Ty.dflt (.int .i64)) xX Wp
   let v14 : Value := (Value.iface 9 (.string ⟨([32] : List UInt8).toArray⟩))
   let v15 : Value := (Value.iface 3 (.int .i64 v13))
   ob (dD n ([v14, v15], zOp, ())) fun y16 =>
   let v17 : Int := IntKind.wrap .i64 (Wp + 1)
   g0 (xX, zOo, v17, zSc, Qp, zDj, zJy, zDk, y16.1, ()))) (
  let v18 : Value := (Value.iface 9 (.string ⟨([10] : List UInt8).toArray⟩))
  ob (dD n ([v18], zOp, ())) fun y19 =>
  fix (iJ n) n (Qp, (Qp.length : Int), 0, zSc, Qp, zDj, zJy, zDk, y19.1, ()))
def nJ (n : Nat) (x : List UInt8 × List (List UInt8 × List UInt8 × Unit) × List (Int) × Int × Int × Unit) : Option (List UInt8) :=
 let x_0 : List UInt8 × List (List UInt8 × List UInt8 × Unit) × List (Int) × Int × Int × Unit := x
 let v1 : Value := (Value.iface 9 (.string ⟨([115, 116, 97, 116, 117, 115] : List UInt8).toArray⟩))
 ob (dD n ([v1], [], ())) fun y2 =>
 fix (kF n) n (x_0.2.2.1, (x_0.2.2.1.length : Int), 0, x_0.1, x_0.2.1, x_0.2.2.1, x_0.2.2.2.1, x_0.2.2.2.2.1, y2.1, ())
def iX (n : Nat) (g0 : List (List UInt8 × List UInt8 × Unit) × Int × List (List UInt8 × List UInt8 × Unit) × Unit -> Option (List (List UInt8 × List UInt8 × Unit))) (x1 : List (List UInt8 × List UInt8 × Unit) × Int × List (List UInt8 × List UInt8 × Unit) × Unit) : Option (List (List UInt8 × List UInt8 × Unit)) :=
 let t_2 : List (List UInt8 × List UInt8 × Unit) := x1.1
 let i_3 : Int := x1.2.1
 let Fb : List (List UInt8 × List UInt8 × Unit) := x1.2.2.1
 br (decide (i_3 < (t_2.length : Int))) (
  chk (inB i_3 t_2.length) (
   let v5 : List UInt8 × List UInt8 × Unit := cO (Ty.dflt gY) t_2 i_3
   chk (Nat.ble ((Fb.length + ([v5] : List (List UInt8 × List UInt8 × Unit)).length) * 32) room) (
    let v6 : Int := IntKind.wrap .i64 (i_3 + 1)
    g0 (t_2, v6, Fb ++ [v5], ())))) (
  some Fb)
def sS (n : Nat) (x : List (List UInt8 × List UInt8 × Unit)) : Option (List (List UInt8 × List UInt8 × Unit)) :=
 let t_0 : List (List UInt8 × List UInt8 × Unit) := x
 fix (iX n) n (t_0, 0, [], ())
def uD (n : Nat) (x : List UInt8 × List (List UInt8 × List UInt8 × Unit) × List (Int) × Int × Int × Unit) : Option (List UInt8 × List (List UInt8 × List UInt8 × Unit) × List (Int) × Int × Int × Unit) :=
 let x_0 : List UInt8 × List (List UInt8 × List UInt8 × Unit) × List (Int) × Int × Int × Unit := x
 ob (sS n x_0.2.1) fun y1 =>
 some (x_0.1, (y1, x_0.2.2))
def kG (n : Nat) (kH : Int -> Option (List UInt8)) (x : Int) : Option (List UInt8) :=
 let n_0 : Int := x
 br (decide (n_0 < 10)) (
  let v1 : Int := IntKind.wrap .u64 (n_0 + 1)
  chk ((decide (0 <= v1) && decide (v1 <= ([48, 49, 50, 51, 52, 53, 54, 55, 56, 57].length : Int)) && (decide (0 <= n_0) && decide (n_0 <= v1)))) (
   let v2 : List UInt8 := ([48, 49, 50, 51, 52, 53, 54, 55, 56, 57].take v1.toNat).drop n_0.toNat
   some v2)) (
  chk ((!decide (10 = 0))) (
   let v3 : Int := IntKind.wrap .u64 (Int.tdiv n_0 10)
   ob (kH v3) fun y4 =>
   chk ((!decide (10 = 0))) (
    chk ((!decide (10 = 0))) (
     let v5 : Int := IntKind.wrap .u64 ((Int.tmod n_0 10) + 1)
     chk ((decide (0 <= v5) && decide (v5 <= ([48, 49, 50, 51, 52, 53, 54, 55, 56, 57].length : Int)) && (decide (0 <= (Int.tmod n_0 10)) && decide ((Int.tmod n_0 10) <= v5)))) (
      let v6 : List UInt8 := ([48, 49, 50, 51, 52, 53, 54, 55, 56, 57].take v5.toNat).drop (Int.tmod n_0 10).toNat
      chk (decide (y4.length + v6.length <= bB)) (
       some (y4 ++ v6)))))))
def iV (n : Nat) : Int -> Option (List UInt8) :=
 zLw (fun n r x => kG n r x) n
def nK (n : Nat) (x : Int) : Option (List UInt8) :=
 let n_0 : Int := x
 br (decide (n_0 < 0)) (
  let v1 : Int := IntKind.wrap .i64 (n_0 + 1)
  let v2 : Int := IntKind.wrap .i64 (0 - v1)
  let v3 : Int := IntKind.wrap .u64 ((IntKind.wrap .u64 v2) + 1)
  ob (iV n v3) fun y4 =>
  chk (decide ([45].length + y4.length <= bB)) (
   some ([45] ++ y4))) (
  ob (iV n (IntKind.wrap .u64 n_0)) fun y5 =>
  some y5)
def oP (n : Nat) (x : Int) : Option (List UInt8) :=
 let b_0 : Int := x
 br (b_0 == 92) (
  some [92, 92]) (
  br (decide (b_0 ≥ 7)) (
   br (decide (b_0 <= 13)) (
    let v1 : Int := IntKind.wrap .u8 (b_0 - 7)
    let v2 : Int := IntKind.wrap .u8 (b_0 - 6)
    chk ((decide (0 <= v2) && decide (v2 <= ([97, 98, 116, 110, 118, 102, 114].length : Int)) && (decide (0 <= v1) && decide (v1 <= v2)))) (
     let v3 : List UInt8 := ([97, 98, 116, 110, 118, 102, 114].take v2.toNat).drop v1.toNat
     chk (decide ([92].length + v3.length <= bB)) (
      some ([92] ++ v3)))) (
    br (decide (b_0 < 32)) (
     chk ((!decide (64 = 0))) (
      let v4 : Int := IntKind.wrap .u8 (Int.tdiv b_0 64)
      let v5 : Int := IntKind.wrap .u8 (48 + v4)
      chk ((!decide (8 = 0))) (
       let v6 : Int := IntKind.wrap .u8 (Int.tdiv b_0 8)
       chk ((!decide (8 = 0))) (
        let v7 : Int := IntKind.wrap .u8 (48 + (Int.tmod v6 8))
        chk ((!decide (8 = 0))) (
         let v8 : Int := IntKind.wrap .u8 (48 + (Int.tmod b_0 8))
         chk (decide ([92].length + (bE [v5, v7, v8]).length <= bB)) (
          some ([92] ++ (bE [v5, v7, v8])))))))) (
     br (decide (b_0 > 126)) (
      chk ((!decide (64 = 0))) (
       let v9 : Int := IntKind.wrap .u8 (Int.tdiv b_0 64)
       let v10 : Int := IntKind.wrap .u8 (48 + v9)
       chk ((!decide (8 = 0))) (
        let v11 : Int := IntKind.wrap .u8 (Int.tdiv b_0 8)
        chk ((!decide (8 = 0))) (
         let v12 : Int := IntKind.wrap .u8 (48 + (Int.tmod v11 8))
         chk ((!decide (8 = 0))) (
          let v13 : Int := IntKind.wrap .u8 (48 + (Int.tmod b_0 8))
          chk (decide ([92].length + (bE [v10, v12, v13]).length <= bB)) (
           some ([92] ++ (bE [v10, v12, v13])))))))) (
      some (bE [b_0]))))) (
   br (decide (b_0 < 32)) (
    chk ((!decide (64 = 0))) (
     let v14 : Int := IntKind.wrap .u8 (Int.tdiv b_0 64)
     let v15 : Int := IntKind.wrap .u8 (48 + v14)
     chk ((!decide (8 = 0))) (
      let v16 : Int := IntKind.wrap .u8 (Int.tdiv b_0 8)
      chk ((!decide (8 = 0))) (
       let v17 : Int := IntKind.wrap .u8 (48 + (Int.tmod v16 8))
       chk ((!decide (8 = 0))) (
        let v18 : Int := IntKind.wrap .u8 (48 + (Int.tmod b_0 8))
        chk (decide ([92].length + (bE [v15, v17, v18]).length <= bB)) (
         some ([92] ++ (bE [v15, v17, v18])))))))) (
    br (decide (b_0 > 126)) (
     chk ((!decide (64 = 0))) (
      let v19 : Int := IntKind.wrap .u8 (Int.tdiv b_0 64)
      let v20 : Int := IntKind.wrap .u8 (48 + v19)
      chk ((!decide (8 = 0))) (
       let v21 : Int := IntKind.wrap .u8 (Int.tdiv b_0 8)
       chk ((!decide (8 = 0))) (
        let v22 : Int := IntKind.wrap .u8 (48 + (Int.tmod v21 8))
        chk ((!decide (8 = 0))) (
         let v23 : Int := IntKind.wrap .u8 (48 + (Int.tmod b_0 8))
         chk (decide ([92].length + (bE [v20, v22, v23]).length <= bB)) (
          some ([92] ++ (bE [v20, v22, v23])))))))) (
     some (bE [b_0])))))
def lZ (n : Nat) (g0 : List UInt8 × Int × List UInt8 × Int × Int × Unit -> Option (List UInt8)) (x1 : List UInt8 × Int × List UInt8 × Int × Int × Unit) : Option (List UInt8) :=
 let s_2 : List UInt8 := x1.1
 let vV : Int := x1.2.1
 let qP : List UInt8 := x1.2.2.1
 let Fe : Int := x1.2.2.2.1
 let i_6 : Int := x1.2.2.2.2.1
 br (decide (i_6 < (s_2.length : Int))) (
  chk (inB i_6 s_2.length) (
   let v7 : Int := ((cO 0 s_2 i_6).toNat : Int)
   ob (oP n v7) fun y8 =>
   br (decide (vV ≥ 2)) (
    br (decide (Fe > 0)) (
     let v9 : Int := IntKind.wrap .i64 (Fe + (y8.length : Int))
     let v10 : Int := IntKind.wrap .i64 (vV - 1)
     br (decide (v9 > v10)) (
      chk (decide (qP.length + ([92, 10] : List UInt8).length <= bB)) (
       chk (decide ((qP ++ [92, 10]).length + y8.length <= bB)) (
        let v11 : List UInt8 := (qP ++ [92, 10]) ++ y8
        let v12 : Int := IntKind.wrap .i64 (0 + (y8.length : Int))
        let v13 : Int := IntKind.wrap .i64 (i_6 + 1)
        g0 (s_2, vV, v11, v12, v13, ())))) (
      chk (decide (qP.length + y8.length <= bB)) (
       let v14 : Int := IntKind.wrap .i64 (Fe + (y8.length : Int))
       let v15 : Int := IntKind.wrap .i64 (i_6 + 1)
       g0 (s_2, vV, qP ++ y8, v14, v15, ())))) (
     chk (decide (qP.length + y8.length <= bB)) (
      let v16 : Int := IntKind.wrap .i64 (Fe + (y8.length : Int))
      let v17 : Int := IntKind.wrap .i64 (i_6 + 1)
      g0 (s_2, vV, qP ++ y8, v16, v17, ())))) (
    chk (decide (qP.length + y8.length <= bB)) (
     let v18 : Int := IntKind.wrap .i64 (Fe + (y8.length : Int))
     let v19 : Int := IntKind.wrap .i64 (i_6 + 1)
     g0 (s_2, vV, qP ++ y8, v18, v19, ()))))) (
  chk (decide (qP.length + ([36, 10] : List UInt8).length <= bB)) (
   some (qP ++ [36, 10])))
def mD (n : Nat) (x : List UInt8 × Int) : Option (List UInt8) :=
 let s_0 : List UInt8 := x.1
 let Ta : Int := x.2
 fix (lZ n) n (s_0, Ta, [], 0, 0, ())
def iK (n : Nat) (g1 : List UInt8 × Int × List UInt8 × List (List UInt8 × List UInt8 × Unit) × List (Int) × Int × Int × Unit -> Option (List UInt8)) (x15 : List UInt8 × Int × List UInt8 × List (List UInt8 × List UInt8 × Unit) × List (Int) × Int × Int × Unit) : Option (List UInt8) :=
 let zHp : List UInt8 := x15.1
 let Tc : Int := x15.2.1
 let zOq : List UInt8 := x15.2.2.1
 let vW : List (List UInt8 × List UInt8 × Unit) := x15.2.2.2.1
 let zNj : List (Int) := x15.2.2.2.2.1
 let zSd : Int := x15.2.2.2.2.2.1
 let zPu : Int := x15.2.2.2.2.2.2.1
 br (decide (Tc < (vW.length : Int))) (
  chk (decide (zHp.length + ([102, 105, 108, 101, 32] : List UInt8).length <= bB)) (
   let v23 : List UInt8 := zHp ++ [102, 105, 108, 101, 32]
   chk (inB Tc vW.length) (
    let v24 : List UInt8 × List UInt8 × Unit := cO (Ty.dflt gY) vW Tc
    ob (mD n (v24.1, 0)) fun y25 =>
    chk (decide (v23.length + y25.length <= bB)) (
     chk (inB Tc vW.length) (
      let v26 : List UInt8 × List UInt8 × Unit := cO (Ty.dflt gY) vW Tc
      ob (mD n (v26.2.1, 0)) fun y27 =>
      chk (decide ((v23 ++ y25).length + y27.length <= bB)) (
       let v28 : Int := IntKind.wrap .i64 (Tc + 1)
       g1 ((v23 ++ y25) ++ y27, v28, zOq, vW, zNj, zSd, zPu, ()))))))) (
  chk (decide (zHp.length + ([111, 117, 116, 32] : List UInt8).length <= bB)) (
   let v29 : List UInt8 := zHp ++ [111, 117, 116, 32]
   ob (mD n (zOq, 0)) fun y30 =>
   chk (decide (v29.length + y30.length <= bB)) (
    some (v29 ++ y30))))
def kI (n : Nat) (g0 : List UInt8 × Int × List UInt8 × List (List UInt8 × List UInt8 × Unit) × List (Int) × Int × Int × Unit -> Option (List UInt8)) (x1 : List UInt8 × Int × List UInt8 × List (List UInt8 × List UInt8 × Unit) × List (Int) × Int × Int × Unit) : Option (List UInt8) :=
 let s_2 : List UInt8 := x1.1
 let i_3 : Int := x1.2.1
 let zNk : List UInt8 := x1.2.2.1
 let zAr : List (List UInt8 × List UInt8 × Unit) := x1.2.2.2.1
 let pX : List (Int) := x1.2.2.2.2.1
 let zHq : Int := x1.2.2.2.2.2.1
 let zAs : Int := x1.2.2.2.2.2.2.1
 br (decide (i_3 < (pX.length : Int))) (
  chk (inB i_3 pX.length) (
   let v9 : Int := cO (Ty.dflt (.int .i64)) pX i_3
   br (v9 == (-1)) (
    chk (decide (s_2.length + ([32, 99, 117, 116] : List UInt8).length <= bB)) (
     let v10 : List UInt8 := s_2 ++ [32, 99, 117, 116]
     let v11 : Int := IntKind.wrap .i64 (i_3 + 1)
     g0 (v10, v11, zNk, zAr, pX, zHq, zAs, ()))) (
    chk (decide (s_2.length + ([32] : List UInt8).length <= bB)) (
     chk (inB i_3 pX.length) (
      let v12 : Int := cO (Ty.dflt (.int .i64)) pX i_3
      ob (nK n v12) fun y13 =>
      chk (decide ((s_2 ++ [32]).length + y13.length <= bB)) (
       let v14 : Int := IntKind.wrap .i64 (i_3 + 1)
       g0 ((s_2 ++ [32]) ++ y13, v14, zNk, zAr, pX, zHq, zAs, ()))))))) (
  chk (decide (s_2.length + ([10] : List UInt8).length <= bB)) (
   fix (iK n) n (s_2 ++ [10], 0, zNk, zAr, pX, zHq, zAs, ())))
def nL (n : Nat) (x : List UInt8 × List (List UInt8 × List UInt8 × Unit) × List (Int) × Int × Int × Unit) : Option (List UInt8) :=
 let x_0 : List UInt8 × List (List UInt8 × List UInt8 × Unit) × List (Int) × Int × Int × Unit := x
 fix (kI n) n ([115, 116, 97, 116, 117, 115], 0, x_0.1, x_0.2.1, x_0.2.2.1, x_0.2.2.2.1, x_0.2.2.2.2.1, ())
def gF (n : Nat) (g0 : Int × List UInt8 × List (List UInt8 × List UInt8 × Unit) × List (Int) × Int × Int × Unit -> Option (Bool)) (x6 : Int × List UInt8 × List (List UInt8 × List UInt8 × Unit) × List (Int) × Int × Int × Unit) : Option (Bool) :=
 let i_7 : Int := x6.1
 let zNl : List UInt8 := x6.2.1
 let uE : List (List UInt8 × List UInt8 × Unit) := x6.2.2.1
 let Lh : List (Int) := x6.2.2.2.1
 let zAt : Int := x6.2.2.2.2.1
 let Td : Int := x6.2.2.2.2.2.1
 br (decide (i_7 < (uE.length : Int))) (
  chk (inB i_7 uE.length) (
   let v13 : List UInt8 × List UInt8 × Unit := cO (Ty.dflt gY) uE i_7
   br (decide ((v13.1.length : Int) > 100)) (
    ob (shown22 n ()) fun y14 =>
    some y14) (
    chk (inB i_7 uE.length) (
     let v15 : List UInt8 × List UInt8 × Unit := cO (Ty.dflt gY) uE i_7
     br (decide ((v15.2.1.length : Int) > 200)) (
      ob (shown22 n ()) fun y16 =>
      some y16) (
      let v17 : Int := IntKind.wrap .i64 (i_7 + 1)
      g0 (v17, zNl, uE, Lh, zAt, Td, ())))))) (
  ob (nJ n (zNl, (uE, (Lh, (zAt, (Td, ())))))) fun y18 =>
  ob (uD n (zNl, (uE, (Lh, (zAt, (Td, ())))))) fun y19 =>
  ob (nL n y19) fun y20 =>
  some (y18 == y20))
def kJ (n : Nat) (x : List UInt8 × List (List UInt8 × List UInt8 × Unit) × List (Int) × Int × Int × Unit) : Option (Bool) :=
 let x_0 : List UInt8 × List (List UInt8 × List UInt8 × Unit) × List (Int) × Int × Int × Unit := x
 br (decide ((x_0.1.length : Int) > 200)) (
  ob (shown22 n ()) fun y1 =>
  some y1) (
  br (decide ((x_0.2.1.length : Int) > 20)) (
   ob (shown22 n ()) fun y2 =>
   some y2) (
   br (decide ((x_0.2.2.1.length : Int) > 20)) (
    ob (shown22 n ()) fun y3 =>
    some y3) (
    ob (shown22 n ()) fun y4 =>
    br (!y4) (
     ob (shown22 n ()) fun y5 =>
     some y5) (
     fix (gF n) n (0, x_0.1, x_0.2.1, x_0.2.2.1, x_0.2.2.2.1, x_0.2.2.2.2.1, ())))))
end Go.Dec
namespace Go.Dec
theorem Hg {n:Nat} {s:List UInt8} {a:List UInt8} (h:a.length+s.length <= 1000000):aO n (s,aN a,())=some ((s.length:Int),false,aN (a++s),()):=by
 unfold aO oW
 simp only [gJ]
 rw [bJ (by simp only [zAe]; simp [room]; omega),Ql]
def jQ (b:UInt8):List UInt8:=(jH 0 (b.toNat:Int)).getD []
def zSe (v : Nat) : Bool :=
  let b := UInt8.ofNat v
  let p := jQ b
  (jH 0 ((b.toNat : Nat) : Int) == some p) && !p.contains 10 && Nat.ble p.length 4 &&
   (if v == 92 then p == [92, 92] else if Nat.ble 7 v && Nat.ble v 13 then p == [92, [97, 98, 116, 110, 118, 102, 114].getD (v - 7) 0] else if Nat.ble 32 v && Nat.ble v 126 then p == [b] else p == [92, UInt8.ofNat (48 + v / 64), UInt8.ofNat (48 + v / 8 % 8), UInt8.ofNat (48 + v % 8)])
set_option maxRecDepth 100000 in
theorem zPv:∀ v,v < 256->zSe v=true:=by decide +kernel
theorem Fg (b:UInt8):jH 0 (b.toNat:Int)=some (jQ b)∧(10:UInt8) ∉ jQ b∧(jQ b).length <= 4 ∧
  ((b=92∧jQ b=[92,92])∨(b ≠ 92∧7 <= b.toNat∧b.toNat <= 13∧jQ b=[92,[97,98,116,110,118,102,114].getD (b.toNat - 7) 0])∨(b ≠ 92∧jQ b=[b]) ∨
   (b ≠ 92∧jQ b=[92,UInt8.ofNat (48+b.toNat / 64),UInt8.ofNat (48+b.toNat / 8 % 8),UInt8.ofNat (48+b.toNat % 8)])):=by
 have h:=zPv b.toNat b.toNat_lt
 have e:UInt8.ofNat b.toNat=b:=by simp
 unfold zSe at h
 simp only [e,aD,beq_iff_eq,Bool.not_eq_true',Nat.ble_eq] at h
 obtain ⟨⟨⟨h1,h2⟩,h3⟩,h4⟩:=h
 refine ⟨h1,by simpa using h2,h3,?_⟩
 by_cases c1:b.toNat=92
 ·rw [if_pos c1] at h4
  exact .inl ⟨by rw [<- e,c1]; rfl,by simpa using h4⟩
 have cb:b ≠ 92:=fun hb=>c1 (by rw [hb]; rfl)
 rw [if_neg c1] at h4
 by_cases c2:7 <= b.toNat∧b.toNat <= 13
 ·rw [if_pos c2] at h4
  exact .inr (.inl ⟨cb,c2.1,c2.2,by simpa using h4⟩)
 rw [if_neg c2] at h4
 by_cases c3:32 <= b.toNat∧b.toNat <= 126
 ·rw [if_pos c3] at h4
  exact .inr (.inr (.inl ⟨cb,by simpa using h4⟩))
 rw [if_neg c3] at h4
 exact .inr (.inr (.inr ⟨cb,by simpa using h4⟩))
theorem zNm (n:Nat) (b:UInt8):jH n (b.toNat:Int)=some (jQ b):=(Fg b).1
def bZ:List UInt8->List UInt8
 | []=>[]
 | b :: r=>jQ b++bZ r
theorem Fh:∀ a b:List UInt8,bZ (a++b)=bZ a++bZ b
 | [],_=>rfl
 | x :: a,b=>by simp [bZ,Fh a b]
theorem gI:∀ s:List UInt8,(bZ s).length <= 4 * s.length
 | []=>aG _
 | b :: r=>by
  have:=(Fg b).2.2.1
  have:=gI r
  simp only [bZ,List.length_append,List.length_cons]
  omega
theorem zDl {n:Nat} {s:List UInt8} (hs:s.length <= 1000):∀ (r pre:List UInt8) (m:Nat) (k:Int),s=pre++r->r.length < m ->
  fix (lY n) m (s,(s.length:Int),(pre.length:Int),0,k,aN (bZ pre),())=some (bZ s++[36,10])
 | [],pre,m,k,hp,hm=>by
  have hp:pre=s:=by simpa using hp.symm
  subst hp
  have:=gI pre
  rw [bT (by omega),lY]
  simp only
  rw [dU (by simp),Hg (by simp; omega),gJ]
  simp only
  rw [Iu]
  rfl
 | e :: r,pre,m,k,hp,hm=>by
  have hm':r.length+1 < m:=hm
  have hlen:s.length=pre.length+r.length+1:=by rw [hp]; simp; omega
  have hj:bZ (pre++[e])=bZ pre++jQ e:=by simp [Fh,bZ]
  have hi:=zDl (n:=n) hs r (pre++[e]) (m - 1) (IntKind.wrap .i64 (k+((jQ e).length:Int))) (by rw [hp]; simp) (by omega)
  rw [show ((pre++[e]).length:Int)=(pre.length:Int)+1 by simp,hj] at hi
  have hl:=gI pre
  have hl2:=(Fg e).2.2.1
  rw [bT (by omega),lY]
  simp only
  rw [gD (decide_eq_true (by omega)),bJ (qH (by omega)),lC hp,zNm,gJ]
  unfold qN
  simp only
  rw [dU (by rfl),Hg (by omega)]
  simp only [gJ]
  rw [lQ (by omega) (by omega)]
  exact hi
theorem zPw {s:List UInt8} (hs:s.length <= 1000):qO 2000 (s,0)=some (bZ s++[36,10]):=by
 unfold qO
 exact zDl (n:=2000) hs s [] 2000 0 rfl (by omega)
set_option maxRecDepth 100000 in
theorem zHr:∀ v:Nat,v < 256->oP 0 (v:Int)=jH 0 (v:Int):=by decide +kernel
theorem zJz (n:Nat) (b:UInt8):oP n (b.toNat:Int)=some (jQ b):=(zHr b.toNat b.toNat_lt).trans (Fg b).1
theorem zAu {n:Nat} {s:List UInt8} (hs:s.length <= 1000):∀ (r pre:List UInt8) (m:Nat) (k:Int),s=pre++r->r.length < m ->
  fix (lZ n) m (s,0,bZ pre,k,(pre.length:Int),())=some (bZ s++[36,10])
 | [],pre,m,k,hp,hm=>by
  have hp:pre=s:=by simpa using hp.symm
  subst hp
  have:=gI pre
  rw [bT (by omega),lZ]
  simp only
  rw [dU (by simp),bJ (decide_eq_true (by simp [bB]; omega))]
 | e :: r,pre,m,k,hp,hm=>by
  have hm':r.length+1 < m:=hm
  have hlen:s.length=pre.length+r.length+1:=by rw [hp]; simp; omega
  have hj:bZ (pre++[e])=bZ pre++jQ e:=by simp [Fh,bZ]
  have hi:=zAu (n:=n) hs r (pre++[e]) (m - 1) (IntKind.wrap .i64 (k+((jQ e).length:Int))) (by rw [hp]; simp) (by omega)
  rw [show ((pre++[e]).length:Int)=(pre.length:Int)+1 by simp,hj] at hi
  have hl:=gI pre
  have hl2:=(Fg e).2.2.1
  rw [bT (by omega),lZ]
  simp only
  rw [gD (decide_eq_true (by omega)),bJ (qH (by omega)),lC hp,zJz,gJ,dU (by rfl),bJ (decide_eq_true (by simp only [bB]; omega)),lQ (x:=(pre.length:Int)+1) (by omega) (by omega)]
  exact hi
theorem Li {s:List UInt8} (hs:s.length <= 1000):mD 2000 (s,0)=some (bZ s++[36,10]):=by
 unfold mD
 exact zAu (n:=2000) hs s [] 2000 0 rfl (by omega)
theorem zPx:∀ d,d < 10->(([48,49,50,51,52,53,54,55,56,57]:List UInt8).take (d+1)).drop d=[UInt8.ofNat (48+d)]:=by decide +kernel
theorem Bw:∀ k u,(yI k u).length <= k:=by
 intro k
 induction k with
 | zero=>intro u; simp [yI]
 | succ k ih=>intro u; unfold yI; split; simp; have:=ih (u / 10); simp; omega
theorem Qq:∀ (k m x:Nat),x < 10 ^ k->x < 2 ^ 64->k <= m->1 <= k->k < 100->iV m (x:Int)=some (yI k x):=by
 intro k
 induction k with
 | zero=>intro m x _ _ _ h; omega
 | succ k ih =>
  intro m x hx hx2 hm _ hkb
  obtain ⟨m,rfl⟩:∃ j,m=j+1:=⟨m - 1,by omega⟩
  have zUj:iV (m+1) (x:Int)=kG m (iV m) (x:Int):=rfl
  rw [zUj]
  unfold kG yI
  simp only
  have zKa:∀ d:Nat,d < 10->(chk ((decide (0 <= IntKind.wrap .u64 ((d:Int)+1)) && decide (IntKind.wrap .u64 ((d:Int)+1) <= ([48,49,50,51,52,53,54,55,56,57].length:Int)) && (decide (0 <= (d:Int)) && decide ((d:Int) <= IntKind.wrap .u64 ((d:Int)+1)))):Bool) (some (([48,49,50,51,52,53,54,55,56,57]:List UInt8).take (IntKind.wrap .u64 ((d:Int)+1)).toNat |>.drop (d:Int).toNat)):Option (List UInt8))=some [UInt8.ofNat (48+d)]:=by
   intro d hd
   have hw:IntKind.wrap .u64 ((d:Int)+1)=((d+1:Nat):Int):=by rw [IntWalk.u64_in _ (by omega)]; rfl
   rw [hw,bJ (by simp; omega),Int.toNat_natCast,Int.toNat_natCast,zPx d hd]
  by_cases h10:x < 10
  ·rw [gD (by simp; omega),if_pos h10]
   exact zKa x h10
  ·rw [dU (by simp; omega),if_neg h10,bJ (by decide)]
   have hdiv:IntKind.wrap .u64 (Int.tdiv (x:Int) 10)=((x / 10:Nat):Int):=by
    rw [show Int.tdiv (x:Int) 10=((x / 10:Nat):Int) from (Int.ofNat_tdiv x 10).symm,IntWalk.u64_in _ (by omega)]
   have hmod:Int.tmod (x:Int) 10=((x % 10:Nat):Int):=(Int.ofNat_tmod x 10).symm
   rw [hdiv,hmod]
   have hk:1 <= k:=by
    rcases Nat.eq_zero_or_pos k with h | h
    ·subst h; omega
    ·exact h
   rw [ih m (x / 10) (by rw [Nat.pow_succ] at hx; omega) (by omega) (by omega) hk (by omega)]
   simp only [gJ]
   rw [bJ (by decide),bJ (by decide)]
   have hs:=zKa (x % 10) (by omega)
   have hw:IntKind.wrap .u64 (((x % 10:Nat):Int)+1)=((x % 10+1:Nat):Int):=by rw [IntWalk.u64_in _ (by omega)]; rfl
   rw [hw] at hs ⊢
   rw [bJ (by simp; omega)] at hs ⊢
   simp only [aA] at hs
   rw [hs]
   have:=Bw k (x / 10)
   rw [bJ (by simp [bB]; omega)]
theorem zKb {n:Nat} {x:Int} (hn:20 <= n) (h1:-9223372036854775808 <= x) (h2:x <= 9223372036854775807):nK n x=some (vO x):=by
 unfold nK vO
 simp only
 by_cases h:x < 0
 ·obtain ⟨k,hk⟩:∃ k:Nat,x=-((k:Int)+1):=⟨(-x - 1).toNat,by omega⟩
  subst hk
  rw [gD (decide_eq_true h),if_pos h]
  have e:IntKind.wrap .u64 (IntKind.wrap .u64 (IntKind.wrap .i64 (0 - IntKind.wrap .i64 (-((k:Int)+1)+1)))+1)=((k+1:Nat):Int):=by
   rw [lQ (x:=-((k:Int)+1)+1) (by omega) (by omega),lQ (by omega) (by omega),IntWalk.u64_in (0 - (-((k:Int)+1)+1)) (by omega),IntWalk.u64_in _ (by omega)]
   omega
  have hk10:k+1 < 10 ^ 20:=by omega
  have:=Bw 20 (k+1)
  rw [e,Qq 20 n (k+1) hk10 (by omega) hn (by omega) (by omega),gJ,bJ (by simp [bB]; omega),show (-((k:Int)+1)).natAbs=k+1 by omega]
  rfl
 ·obtain ⟨k,rfl⟩:∃ k:Nat,x=(k:Int):=⟨x.toNat,by omega⟩
  have hk:k < 10 ^ 20:=by omega
  rw [dU (by simp),if_neg h,IntWalk.u64_in _ (by omega),Qq 20 n k hk (by omega) hn (by omega) (by omega)]
  rfl
theorem zPy {n:Nat} {x:Int} (h1:-9223372036854775808 <= x) (h2:x <= 9223372036854775807):strconv_Itoa n x=some (vO x):=by
 unfold strconv_Itoa
 rw [bJ (by simp; omega)]
theorem zNn {x:Int}:(vO x).length <= 21:=by
 unfold vO
 have:=Bw 20 x.natAbs
 have:=Bw 20 x.toNat
 split <;> simp <;> omega
end Go.Dec
namespace Go.Dec
abbrev mE (s:List UInt8):Value:=.iface 9 (.string ⟨s.toArray⟩)
abbrev nM (s:List UInt8):Value:=.iface 80 (.string ⟨s.toArray⟩)
abbrev Lj (k:Int):Value:=.iface 3 (.int .i64 k)
def wT (k:Int):List UInt8:=if k=-1 then [99,117,116] else vO k
theorem Te {k:Int}:(wT k).length <= 21:=by
 unfold wT
 split
 ·simp
 ·exact zNn
section
variable (n:Nat) (g:List (Value) × Int × Int × List (Int) × Unit->Option (List (Int) × Unit)) (l:List Value) (i:Nat) (a:List UInt8) (hl:l.length <= 10)
include hl
theorem Bz {s:List UInt8} (hi:i < l.length) (hv:l.getD i (Ty.dflt .opq)=mE s) (h:a.length+s.length <= 1000000) :
  dL n g (l,(l.length:Int),(i:Int),aN a,())=g (l,(l.length:Int),(i:Int)+1,aN (a++s),()):=by
 unfold dL
 simp only
 have hv':cO (Ty.dflt .opq) l (i:Int)=mE s:=by unfold cO; rw [Int.toNat_natCast]; exact hv
 rw [gD (decide_eq_true (by omega)),bJ (qH hi),hv',bJ (by rfl),gD (by rfl)]
 rw [show xH 9 (mE s)=s from rfl,Hg h,gJ,lQ (by omega) (by omega)]
theorem Ll {s:List UInt8} (hn:n=2000) (hi:i < l.length) (hv:l.getD i (Ty.dflt .opq)=nM s) (hs:s.length <= 1000) (h:a.length <= 900000) :
  dL n g (l,(l.length:Int),(i:Int),aN a,())=g (l,(l.length:Int),(i:Int)+1,aN (a++(bZ s++[36,10])),()):=by
 subst hn
 have hll:=gI s
 unfold dL
 simp only
 have hv':cO (Ty.dflt .opq) l (i:Int)=nM s:=by unfold cO; rw [Int.toNat_natCast]; exact hv
 rw [gD (decide_eq_true (by omega)),bJ (qH hi),hv',bJ (by rfl),dU (by rfl),bJ (by rfl),gD (by rfl)]
 rw [show xH 80 (nM s)=s from rfl,zPw hs,gJ,Hg (by simp; omega),gJ,lQ (by omega) (by omega)]
theorem zNo {k:Int} (hi:i < l.length) (hv:l.getD i (Ty.dflt .opq)=Lj k) (h1:-9223372036854775808 <= k) (h2:k <= 9223372036854775807) (h:a.length <= 900000) :
  dL n g (l,(l.length:Int),(i:Int),aN a,())=g (l,(l.length:Int),(i:Int)+1,aN (a++wT k),()):=by
 unfold dL
 simp only
 have hv':cO (Ty.dflt .opq) l (i:Int)=Lj k:=by unfold cO; rw [Int.toNat_natCast]; exact hv
 have hnl:=Te (k:=k)
 rw [gD (decide_eq_true (by omega)),bJ (qH hi),hv',bJ (by rfl),dU (by rfl),bJ (by rfl),dU (by rfl),bJ (by rfl),gD (by rfl)]
 rw [show zU 3 (Lj k)=k from rfl]
 unfold wT at hnl ⊢
 by_cases hk:k=-1
 ·rw [if_pos hk] at hnl ⊢
  rw [gD (by simp [hk]),Hg (by omega),gJ,lQ (by omega) (by omega)]
 ·rw [if_neg hk] at hnl ⊢
  rw [dU (by simpa using hk),zPy h1 h2,gJ,Hg (by omega),gJ,lQ (by omega) (by omega)]
omit hl in
theorem Ca (hi:l.length <= i):dL n g (l,(l.length:Int),(i:Int),aN a,())=some (aN a,()):=by
 unfold dL
 simp only
 rw [dU (decide_eq_false (by omega))]
end
theorem zOr {s a:List UInt8} (h:a.length+s.length <= 1000000):dD 2000 ([mE s],aN a,())=some (aN (a++s),()):=by
 unfold dD
 simp only
 rw [bT (by omega)]
 refine (Bz 2000 _ [mE s] 0 a (by simp) (by simp) rfl h).trans ?_
 rw [bT (by omega)]
 exact Ca 2000 _ [mE s] 1 (a++s) (aG _)
theorem zNp {k:Int} {s a:List UInt8} (h1:-9223372036854775808 <= k) (h2:k <= 9223372036854775807) (h:a.length+s.length <= 900000):dD 2000 ([mE s,Lj k],aN a,())=some (aN (a++s++wT k),()):=by
 unfold dD
 simp only
 rw [bT (by omega)]
 refine (Bz 2000 _ [mE s,Lj k] 0 a (by simp) (by simp) rfl (by omega)).trans ?_
 rw [bT (by omega)]
 refine (zNo 2000 _ [mE s,Lj k] 1 (a++s) (by simp) (by simp) rfl h1 h2 (by simp; omega)).trans ?_
 rw [bT (by omega)]
 exact Ca 2000 _ [mE s,Lj k] 2 _ (aG _)
theorem zNq {t s a:List UInt8} (ht:t.length <= 1000) (h:a.length+s.length <= 900000):dD 2000 ([mE s,nM t],aN a,())=some (aN (a++s++(bZ t++[36,10])),()):=by
 unfold dD
 simp only
 rw [bT (by omega)]
 refine (Bz 2000 _ [mE s,nM t] 0 a (by simp) (by simp) rfl (by omega)).trans ?_
 rw [bT (by omega)]
 refine (Ll 2000 _ [mE s,nM t] 1 (a++s) (by simp) rfl (by simp) rfl ht (by simp; omega)).trans ?_
 rw [bT (by omega)]
 exact Ca 2000 _ [mE s,nM t] 2 _ (aG _)
theorem zKc {t u s a:List UInt8} (ht:t.length <= 1000) (hu:u.length <= 1000) (h:a.length+s.length <= 800000) :
  dD 2000 ([mE s,nM t,nM u],aN a,())=some (aN (a++s++(bZ t++[36,10])++(bZ u++[36,10])),()):=by
 have hlt:=gI t
 unfold dD
 simp only
 rw [bT (by omega)]
 refine (Bz 2000 _ [mE s,nM t,nM u] 0 a (by simp) (by simp) rfl (by omega)).trans ?_
 rw [bT (by omega)]
 refine (Ll 2000 _ [mE s,nM t,nM u] 1 (a++s) (by simp) rfl (by simp) rfl ht (by simp; omega)).trans ?_
 rw [bT (by omega)]
 refine (Ll 2000 _ [mE s,nM t,nM u] 2 (a++s++(bZ t++[36,10])) (by simp) rfl (by simp) rfl hu (by simp; omega)).trans ?_
 rw [bT (by omega)]
 exact Ca 2000 _ [mE s,nM t,nM u] 3 _ (aG _)
abbrev wU:Type:=List UInt8 × List UInt8 × Unit
def nums:List Int->List UInt8
 | []=>[]
 | k :: r=>[32]++wT k++nums r
def yJ:List wU->List UInt8
 | []=>[]
 | f :: r=>[102,105,108,101,32]++(bZ f.1++[36,10])++(bZ f.2.1++[36,10])++yJ r
def zSf (x:List UInt8 × List wU × List Int × Int × Int × Unit):List UInt8:=[115,116,97,116,117,115]++nums x.2.2.1++[10]++yJ x.2.1++([111,117,116,32]++(bZ x.1++[36,10]))
def okF (f:wU):Prop:=f.1.length <= 100∧f.2.1.length <= 200
def okI (k:Int):Prop:=-9223372036854775808 <= k∧k <= 9223372036854775807
section
variable (Out:List UInt8) (T:List wU) (S:List Int) (La St:Int) (hO:Out.length <= 200) (hT:T.length <= 20) (hTf:∀ f ∈ T,okF f) (hS:S.length <= 20) (hSi:∀ k ∈ S,okI k)
include hO hT hTf
theorem zAv:∀ (r pre:List wU) (a:List UInt8) (m:Nat),T=pre++r->r.length < m->a.length <= 10000+3000 * pre.length ->
  fix (iJ 2000) m (T,(T.length:Int),(pre.length:Int),Out,T,S,La,St,aN a,())=some (a++yJ r++([111,117,116,32]++(bZ Out++[36,10])))
 | [],pre,a,m,hp,hm,ha=>by
  have hp:pre=T:=by simpa using hp.symm
  subst hp
  rw [bT (by omega),iJ]
  simp only
  rw [dU (by simp),zNq (by omega) (by simp; omega),gJ]
  simp only
  rw [Iu,gJ]
  simp [yJ]
 | f :: r,pre,a,m,hp,hm,ha=>by
  have hm':r.length+1 < m:=hm
  have hlen:T.length=pre.length+r.length+1:=by rw [hp]; simp; omega
  obtain ⟨h1,h2⟩:=hTf f (by rw [hp]; simp)
  have g1:=gI f.1
  have g2:=gI f.2.1
  have hi:=zAv r (pre++[f]) (a++[102,105,108,101,32]++(bZ f.1++[36,10])++(bZ f.2.1++[36,10])) (m - 1) (by rw [hp]; simp) (by omega) (by simp only [List.length_append,List.length_cons,List.length_nil]; omega)
  rw [show ((pre++[f]).length:Int)=(pre.length:Int)+1 by simp] at hi
  rw [bT (by omega),iJ]
  simp only
  rw [gD (decide_eq_true (by omega)),bJ (qH (by omega)),lC hp,zKc (by omega) (by omega) (by simp; omega),gJ]
  simp only
  rw [lQ (by omega) (by omega),hi]
  simp [yJ]
include hS hSi
theorem zAw:∀ (r pre:List Int) (a:List UInt8) (m:Nat),S=pre++r->r.length < m->a.length <= 100+100 * pre.length ->
  fix (kF 2000) m (S,(S.length:Int),(pre.length:Int),Out,T,S,La,St,aN a,())=some (a++nums r++[10]++yJ T++([111,117,116,32]++(bZ Out++[36,10])))
 | [],pre,a,m,hp,hm,ha=>by
  have hp:pre=S:=by simpa using hp.symm
  subst hp
  rw [bT (by omega),kF]
  simp only
  rw [dU (by simp),zOr (by simp; omega),gJ]
  simp only
  rw [show fix (iJ 2000) 2000 (T,(T.length:Int),0,Out,T,pre,La,St,aN (a++[10]),())=_ from zAv Out T pre La St hO hT hTf T [] (a++[10]) 2000 rfl (by omega) (by simp; omega)]
  simp [nums]
 | k :: r,pre,a,m,hp,hm,ha=>by
  have hm':r.length+1 < m:=hm
  have hlen:S.length=pre.length+r.length+1:=by rw [hp]; simp; omega
  obtain ⟨h1,h2⟩:=hSi k (by rw [hp]; simp)
  have g1:=Te (k:=k)
  have hi:=zAw r (pre++[k]) (a++[32]++wT k) (m - 1) (by rw [hp]; simp) (by omega) (by simp only [List.length_append,List.length_cons,List.length_nil]; omega)
  rw [show ((pre++[k]).length:Int)=(pre.length:Int)+1 by simp] at hi
  rw [bT (by omega),kF]
  simp only
  rw [gD (decide_eq_true (by omega)),bJ (qH (by omega)),lC hp,zNp h1 h2 (by simp; omega),gJ]
  simp only
  rw [lQ (by omega) (by omega),hi]
  simp [nums]
theorem zKd:nJ 2000 (Out,(T,(S,(La,(St,())))))=some (zSf (Out,(T,(S,(La,(St,())))))):=by
 unfold nJ
 simp only
 rw [show dD 2000 ([Value.iface 9 (.string ⟨([115,116,97,116,117,115]:List UInt8).toArray⟩)],[],())=_ from zOr (s:=[115,116,97,116,117,115]) (a:=[]) (by simp),gJ]
 simp only
 exact zAw Out T S La St hO hT hTf hS hSi S [] [115,116,97,116,117,115] 2000 rfl (by omega) (by simp)
omit hS hSi in
theorem zAx:∀ (r pre:List wU) (a:List UInt8) (m:Nat),T=pre++r->r.length < m->a.length <= 10000+3000 * pre.length ->
  fix (iK 2000) m (a,(pre.length:Int),Out,T,S,La,St,())=some (a++yJ r++([111,117,116,32]++(bZ Out++[36,10])))
 | [],pre,a,m,hp,hm,ha=>by
  have hp:pre=T:=by simpa using hp.symm
  subst hp
  have g:=gI Out
  rw [bT (by omega),iK]
  simp only
  rw [dU (by simp),bJ (decide_eq_true (by simp [bB]; omega)),Li (by omega),gJ,bJ (decide_eq_true (by simp [bB]; omega))]
  simp [yJ]
 | f :: r,pre,a,m,hp,hm,ha=>by
  have hm':r.length+1 < m:=hm
  have hlen:T.length=pre.length+r.length+1:=by rw [hp]; simp; omega
  obtain ⟨h1,h2⟩:=hTf f (by rw [hp]; simp)
  have g1:=gI f.1
  have g2:=gI f.2.1
  have hi:=zAx r (pre++[f]) (a++[102,105,108,101,32]++(bZ f.1++[36,10])++(bZ f.2.1++[36,10])) (m - 1) (by rw [hp]; simp) (by omega) (by simp only [List.length_append,List.length_cons,List.length_nil]; omega)
  rw [show ((pre++[f]).length:Int)=(pre.length:Int)+1 by simp] at hi
  rw [bT (by omega),iK]
  simp only
  rw [gD (decide_eq_true (by omega)),bJ (decide_eq_true (by simp [bB]; omega)),bJ (qH (by omega)),lC hp,Li (by omega),gJ,bJ (decide_eq_true (by simp [bB]; omega)),bJ (qH (by omega)),
   Li (by omega),gJ,bJ (decide_eq_true (by simp [bB]; omega)),lQ (by omega) (by omega),hi]
  simp [yJ]
theorem zAy:∀ (r pre:List Int) (a:List UInt8) (m:Nat),S=pre++r->r.length < m->a.length <= 100+100 * pre.length ->
  fix (kI 2000) m (a,(pre.length:Int),Out,T,S,La,St,())=some (a++nums r++[10]++yJ T++([111,117,116,32]++(bZ Out++[36,10])))
 | [],pre,a,m,hp,hm,ha=>by
  have hp:pre=S:=by simpa using hp.symm
  subst hp
  rw [bT (by omega),kI]
  simp only
  rw [dU (by simp),bJ (decide_eq_true (by simp [bB]; omega))]
  rw [show fix (iK 2000) 2000 (a++[10],0,Out,T,pre,La,St,())=_ from zAx Out T pre La St hO hT hTf T [] (a++[10]) 2000 rfl (by omega) (by simp; omega)]
  simp [nums]
 | k :: r,pre,a,m,hp,hm,ha=>by
  have hm':r.length+1 < m:=hm
  have hlen:S.length=pre.length+r.length+1:=by rw [hp]; simp; omega
  obtain ⟨h1,h2⟩:=hSi k (by rw [hp]; simp)
  have g1:=Te (k:=k)
  have hi:=zAy r (pre++[k]) (a++[32]++wT k) (m - 1) (by rw [hp]; simp) (by omega) (by simp only [List.length_append,List.length_cons,List.length_nil]; omega)
  rw [show ((pre++[k]).length:Int)=(pre.length:Int)+1 by simp] at hi
  rw [bT (by omega),kI]
  simp only
  rw [gD (decide_eq_true (by omega)),bJ (qH (by omega)),lC hp]
  unfold wT at hi g1
  by_cases hk:k=-1
  ·rw [if_pos hk] at hi
   rw [gD (by simp [hk]),bJ (decide_eq_true (by simp [bB]; omega)),lQ (by omega) (by omega)]
   rw [show a++[32,99,117,116]=a++[32]++[99,117,116] by simp,hi]
   simp [nums,wT,hk]
  ·rw [if_neg hk] at hi g1
   rw [dU (by simpa using hk),bJ (decide_eq_true (by simp [bB]; omega)),bJ (qH (by omega)),zKb (by omega) h1 h2,gJ,bJ (decide_eq_true (by simp [bB]; omega)),lQ (by omega) (by omega),hi]
   simp [nums,wT,hk]
theorem zSg:nL 2000 (Out,(T,(S,(La,(St,())))))=some (zSf (Out,(T,(S,(La,(St,())))))):=by
 unfold nL
 simp only
 exact zAy Out T S La St hO hT hTf hS hSi S [] [115,116,97,116,117,115] 2000 rfl (by omega) (by simp)
end
theorem zAz {T:List wU} (hT:T.length <= 20):∀ (r pre:List wU) (m:Nat),T=pre++r->r.length < m->fix (iX 2000) m (T,(pre.length:Int),pre,())=some T
 | [],pre,m,hp,hm=>by
  have hp:pre=T:=by simpa using hp.symm
  subst hp
  rw [bT (by omega),iX]
  simp only
  rw [dU (by simp)]
 | f :: r,pre,m,hp,hm=>by
  have hm':r.length+1 < m:=hm
  have hlen:T.length=pre.length+r.length+1:=by rw [hp]; simp; omega
  have hi:=zAz hT r (pre++[f]) (m - 1) (by rw [hp]; simp) (by omega)
  rw [show ((pre++[f]).length:Int)=(pre.length:Int)+1 by simp] at hi
  rw [bT (by omega),iX]
  simp only
  rw [gD (decide_eq_true (by omega)),bJ (qH (by omega)),lC hp,bJ (Nat.ble_eq_true_of_le (by simp [room]; omega)),lQ (by omega) (by omega)]
  exact hi
theorem zBa {Out:List UInt8} {T:List wU} {S:List Int} {La St:Int} (hO:Out.length <= 200) (hT:T.length <= 20) (hS:S.length <= 20) (hSi:∀ k ∈ S,okI k):∀ (r pre:List wU) (m:Nat),T=pre++r->r.length < m->(∀ f ∈ pre,okF f) ->
  fix (gF 2000) m ((pre.length:Int),Out,T,S,La,St,())=some true
 | [],pre,m,hp,hm,hf=>by
  have hp:pre=T:=by simpa using hp.symm
  subst hp
  rw [bT (by omega),gF]
  simp only
  rw [dU (by simp),zKd Out pre S La St hO hT hf hS hSi,gJ]
  have:uD 2000 (Out,(pre,(S,(La,(St,())))))=some (Out,(pre,(S,(La,(St,()))))):=by
   unfold uD sS
   simp only
   rw [show fix (iX 2000) 2000 (pre,0,[],())=_ from zAz hT pre [] 2000 rfl (by omega),gJ]
  rw [this,gJ,zSg Out pre S La St hO hT hf hS hSi,gJ]
  simp
 | f :: r,pre,m,hp,hm,hf=>by
  have hm':r.length+1 < m:=hm
  have hlen:T.length=pre.length+r.length+1:=by rw [hp]; simp; omega
  rw [bT (by omega),gF]
  simp only
  rw [gD (decide_eq_true (by omega)),bJ (qH (by omega)),lC hp]
  by_cases h1:f.1.length > 100
  ·rw [gD (decide_eq_true (by omega))]; rfl
  rw [dU (decide_eq_false (by omega)),bJ (qH (by omega))]
  by_cases h2:f.2.1.length > 200
  ·rw [gD (decide_eq_true (by omega))]; rfl
  rw [dU (decide_eq_false (by omega)),lQ (by omega) (by omega)]
  have hi:=zBa (La:=La) (St:=St) hO hT hS hSi r (pre++[f]) (m - 1) (by rw [hp]; simp) (by omega) (fun g hg=>by
   simp only [List.mem_append,List.mem_singleton] at hg
   rcases hg with hg | rfl
   ·exact hf g hg
   ·exact ⟨by omega,by omega⟩)
  rw [show ((pre++[f]).length:Int)=(pre.length:Int)+1 by simp] at hi
  exact hi
theorem Fj (x:List UInt8 × List wU × List Int × Int × Int × Unit) (hw:∀ k ∈ x.2.2.1,okI k):kJ 2000 x=some true:=by
 obtain ⟨Out,T,S,La,St,_⟩:=x
 unfold kJ
 simp only at hw ⊢
 by_cases h1:Out.length > 200
 ·rw [gD (decide_eq_true (by omega))]; rfl
 rw [dU (decide_eq_false (by omega))]
 by_cases h2:T.length > 20
 ·rw [gD (decide_eq_true (by omega))]; rfl
 rw [dU (decide_eq_false (by omega))]
 by_cases h3:S.length > 20
 ·rw [gD (decide_eq_true (by omega))]; rfl
 rw [dU (decide_eq_false (by omega)),show shown22 2000 ()=some true from rfl,gJ,dU (by rfl)]
 exact zBa (by omega) (by omega) (by omega) hw T [] 2000 rfl (by omega) (fun _ h=>by cases h)
end Go.Dec
