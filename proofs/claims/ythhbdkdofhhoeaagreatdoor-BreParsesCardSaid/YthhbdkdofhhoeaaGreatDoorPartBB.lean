/- Part of a proof over this seat: a library of my own, and what it says of this seat. No statement is proved here. -/
import Derived.Test.YthhbdkdofhhoeaaGreatDoorPartAR
import Derived.Test.YthhbdkdofhhoeaaGreatDoorPartAU
namespace Go.Dec
set_option linter.unusedVariables false
abbrev TSiA4wiiiiiE : Ty := .pair (.int .i64) (.pair (.arr 4 (.int .u64)) (.pair (.int .i64) (.pair (.int .i64) (.pair (.int .i64) (.pair (.int .i64) (.pair (.int .i64) .unit))))))
abbrev TSsiE : Ty := .pair .str (.pair (.int .i64) .unit)
abbrev TSiiE : Ty := .pair (.int .i64) (.pair (.int .i64) .unit)
abbrev TSsiLSiA4wiiiiiEiA10bE : Ty := .pair .str (.pair (.int .i64) (.pair (.slice TSiA4wiiiiiE) (.pair (.int .i64) (.pair (.arr 10 .bool) .unit))))
abbrev TSLSiA4wiiiiiEiA10biiE : Ty := .pair (.slice TSiA4wiiiiiE) (.pair (.int .i64) (.pair (.arr 10 .bool) TSiiE))
abbrev TSbiA10bbE : Ty := .pair .bool (.pair (.int .i64) (.pair (.arr 10 .bool) (.pair .bool .unit)))
abbrev NdT : Type := Int × List (Int) × Int × Int × Int × Int × Int × Unit
abbrev RdrT : Type := List UInt8 × Int × Int × List (Bool) × List (NdT) × Unit
abbrev RdrO : Type := Sum (Int × RdrT) (Int × Int × RdrT)
def internal_stringslite_HasPrefix (n : Nat) (x : List UInt8 × List UInt8) : Option (Bool) :=
 let s_0 : List UInt8 := x.1
 let t1_1 : List UInt8 := x.2
 br (decide ((s_0.length : Int) ≥ (t1_1.length : Int))) (
  chk ((decide (0 ≤ (t1_1.length : Int)) && decide ((t1_1.length : Int) ≤ (s_0.length : Int)))) (
   let v1 : List UInt8 := s_0.take (t1_1.length : Int).toNat
   some (v1 == t1_1))) (
  some false)
def strings_HasPrefix (n : Nat) (x : List UInt8 × List UInt8) : Option (Bool) :=
 let s_0 : List UInt8 := x.1
 let t1_1 : List UInt8 := x.2
 ob (internal_stringslite_HasPrefix n (s_0, t1_1)) fun y1 =>
 some y1
def bre_reader_ahead (n : Nat) (x : List UInt8 × RdrT) : Option (Bool × RdrT) :=
 let t_1 : List UInt8 := x.1
 let s2 : List UInt8 := x.2.1
 let at3 : Int := x.2.2.1
 let begun4 : Int := x.2.2.2.1
 let ended5 : List (Bool) := x.2.2.2.2.1
 let row6 : List (NdT) := x.2.2.2.2.2.1
 chk ((decide (0 ≤ at3) && decide (at3 ≤ (s2.length : Int)))) (
  ob (strings_HasPrefix n (s2.drop at3.toNat, t_1)) fun y7 =>
  some (y7, s2, at3, begun4, ended5, row6, ()))
def bre_reader_took (n : Nat) (x : List UInt8 × RdrT) : Option (Bool × RdrT) :=
 let t_1 : List UInt8 := x.1
 let s2 : List UInt8 := x.2.1
 let at3 : Int := x.2.2.1
 let begun4 : Int := x.2.2.2.1
 let ended5 : List (Bool) := x.2.2.2.2.1
 let row6 : List (NdT) := x.2.2.2.2.2.1
 ob (bre_reader_ahead n (t_1, s2, at3, begun4, ended5, row6, ())) fun y7 =>
 br (!y7.1) (
  some (false, y7.2.1, y7.2.2.1, y7.2.2.2.1, y7.2.2.2.2.1, y7.2.2.2.2.2.1, ())) (
  let v8 : Int := IntKind.wrap .i64 (y7.2.2.1 + (t_1.length : Int))
  some (true, y7.2.1, v8, y7.2.2.2.1, y7.2.2.2.2.1, y7.2.2.2.2.2.1, ()))
def bre_reader_put (n : Nat) (x : Int × List (Int) × Int × Int × Int × Int × Int × RdrT) : Option (Int × RdrT) :=
 let n_1 : Int := x.1
 let n_2 : List (Int) := x.2.1
 let n_3 : Int := x.2.2.1
 let n_4 : Int := x.2.2.2.1
 let n_5 : Int := x.2.2.2.2.1
 let n_6 : Int := x.2.2.2.2.2.1
 let n_7 : Int := x.2.2.2.2.2.2.1
 let s8 : List UInt8 := x.2.2.2.2.2.2.2.1
 let at9 : Int := x.2.2.2.2.2.2.2.2.1
 let begun10 : Int := x.2.2.2.2.2.2.2.2.2.1
 let ended11 : List (Bool) := x.2.2.2.2.2.2.2.2.2.2.1
 let row12 : List (NdT) := x.2.2.2.2.2.2.2.2.2.2.2.1
 chk (Nat.ble ((row12.length + ([(n_1, (n_2, (n_3, (n_4, (n_5, (n_6, (n_7, ())))))))] : List (NdT)).length) * 80) room) (
  let r13 : List (NdT) := row12 ++ [(n_1, (n_2, (n_3, (n_4, (n_5, (n_6, (n_7, ())))))))]
  let v14 : Int := ((r13.length : Nat) : Int)
  let v15 : Int := IntKind.wrap .i64 (v14 - 1)
  some (v15, s8, at9, begun10, ended11, r13, ()))
def bre_reader_closes (n : Nat) (x : RdrT) : Option (Bool × RdrT) :=
 let s1 : List UInt8 := x.1
 let at2 : Int := x.2.1
 let begun3 : Int := x.2.2.1
 let ended4 : List (Bool) := x.2.2.2.1
 let row5 : List (NdT) := x.2.2.2.2.1
 br (at2 == (s1.length : Int)) (
  some (true, s1, at2, begun3, ended4, row5, ())) (
  ob (bre_reader_ahead n ([92, 41], s1, at2, begun3, ended4, row5, ())) fun y6 =>
  some (y6.1, y6.2.1, y6.2.2.1, y6.2.2.2.1, y6.2.2.2.2.1, y6.2.2.2.2.2.1, ()))
def set_Not_loop0 (n : Nat) (g0 : Int × List (Int) × List (Int) × Unit → Option (List (Int))) (x1 : Int × List (Int) × List (Int) × Unit) : Option (List (Int)) :=
 let t4_2 : Int := x1.1
 let b3 : List (Int) := x1.2.1
 let b4 : List (Int) := x1.2.2.1
 br (decide (t4_2 < 4)) (
  chk (inB t4_2 4) (
   chk (decide (t4_2.toNat < 4)) (
    let v5 : Int := b3.getD (t4_2.toNat) (Ty.dflt (.int .u64))
    let v6 : Int := ibits .u64 .xor 18446744073709551615 v5
    chk (inB t4_2 4) (
     chk (decide (t4_2.toNat < 4)) (
      let v7 : Int := IntKind.wrap .i64 (t4_2 + 1)
      g0 (v7, b3.set (t4_2.toNat) v6, b4, ())))))) (
  some b3)
def set_Not (n : Nat) (x : List (Int)) : Option (List (Int)) :=
 let s_0 : List (Int) := x
 fix (set_Not_loop0 n) n (0, s_0, [0, 0, 0, 0], ())
def bre_reader_bytes (n : Nat) (x : List (Int) × RdrT) : Option (Int × RdrT) :=
 let s_1 : List (Int) := x.1
 let s2 : List UInt8 := x.2.1
 let at3 : Int := x.2.2.1
 let begun4 : Int := x.2.2.2.1
 let ended5 : List (Bool) := x.2.2.2.2.1
 let row6 : List (NdT) := x.2.2.2.2.2.1
 ob (bre_reader_put n (1, s_1, 0, 0, 0, 0, 0, s2, at3, begun4, ended5, row6, ())) fun y7 =>
 some (y7.1, y7.2.1, y7.2.2.1, y7.2.2.2.1, y7.2.2.2.2.1, y7.2.2.2.2.2.1, ())
def bre_list_ahead (n : Nat) (x : List UInt8 × List UInt8 × Int × Unit) : Option (Bool × List UInt8 × Int × Unit) :=
 let t_1 : List UInt8 := x.1
 let s2 : List UInt8 := x.2.1
 let at3 : Int := x.2.2.1
 chk ((decide (0 ≤ at3) && decide (at3 ≤ (s2.length : Int)))) (
  ob (strings_HasPrefix n (s2.drop at3.toNat, t_1)) fun y4 =>
  some (y4, s2, at3, ()))
def bre_list_took (n : Nat) (x : List UInt8 × List UInt8 × Int × Unit) : Option (Bool × List UInt8 × Int × Unit) :=
 let t_1 : List UInt8 := x.1
 let s2 : List UInt8 := x.2.1
 let at3 : Int := x.2.2.1
 ob (bre_list_ahead n (t_1, s2, at3, ())) fun y4 =>
 br (!y4.1) (
  some (false, y4.2.1, y4.2.2.1, ())) (
  let v5 : Int := IntKind.wrap .i64 (y4.2.2.1 + (t_1.length : Int))
  some (true, y4.2.1, v5, ()))
def bre_list_give (_n : Nat) (x : List UInt8 × Int × Unit) : Option (Sum (List UInt8 × Int × Unit) (Int × Int × List UInt8 × Int × Unit)) := some (.inr (42, 0, x))
def set_Range_loop0 (n : Nat) (g0 : Int × Int × List (Int) × Unit → Option (List (Int))) (x1 : Int × Int × List (Int) × Unit) : Option (List (Int)) :=
 let b_2 : Int := x1.1
 let i_3 : Int := x1.2.1
 let b4 : List (Int) := x1.2.2.1
 br (decide (i_3 ≤ (IntKind.wrap .i64 b_2))) (
  chk (decide (0 ≤ 6)) (
   chk (inB (ishr .i64 i_3 6) 4) (
    chk (decide ((ishr .i64 i_3 6).toNat < 4)) (
     let v5 : Int := b4.getD ((ishr .i64 i_3 6).toNat) (Ty.dflt (.int .u64))
     chk (decide (0 ≤ ibits .i64 .and i_3 63)) (
      let v6 : Int := ishl .u64 1 (ibits .i64 .and i_3 63)
      chk (inB (ishr .i64 i_3 6) 4) (
       chk (decide ((ishr .i64 i_3 6).toNat < 4)) (
        let v7 : Int := IntKind.wrap .i64 (i_3 + 1)
        g0 (b_2, v7, b4.set ((ishr .i64 i_3 6).toNat) (ibits .u64 .or v5 v6), ())))))))) (
  some b4)
def set_Range (n : Nat) (x : Int × Int) : Option (List (Int)) :=
 let a_0 : Int := x.1
 let b_1 : Int := x.2
 fix (set_Range_loop0 n) n (b_1, IntKind.wrap .i64 a_0, [0, 0, 0, 0], ())
def set_Or_loop1 (n : Nat) (g0 : List (List (Int)) × Int × Int × List (Int) × Unit → Option (List (Int))) (g1 : List (List (Int)) × Int × Int × Int × List (Int) × List (Int) × Unit → Option (List (Int))) (x7 : List (List (Int)) × Int × Int × Int × List (Int) × List (Int) × Unit) : Option (List (Int)) :=
 let t6_8 : List (List (Int)) := x7.1
 let t7_9 : Int := x7.2.1
 let t8_10 : Int := x7.2.2.1
 let t12_11 : Int := x7.2.2.2.1
 let b12 : List (Int) := x7.2.2.2.2.1
 let b13 : List (Int) := x7.2.2.2.2.2.1
 br (decide (t12_11 < 4)) (
  chk (inB t12_11 4) (
   chk (decide (t12_11.toNat < 4)) (
    let v14 : Int := b12.getD (t12_11.toNat) (Ty.dflt (.int .u64))
    chk (inB t12_11 4) (
     chk (decide (t12_11.toNat < 4)) (
      let v15 : Int := b13.getD (t12_11.toNat) (Ty.dflt (.int .u64))
      chk (inB t12_11 4) (
       chk (decide (t12_11.toNat < 4)) (
        let v16 : Int := IntKind.wrap .i64 (t12_11 + 1)
        g1 (t6_8, t7_9, t8_10, v16, b12.set (t12_11.toNat) (ibits .u64 .or v14 v15), b13, ())))))))) (
  let v17 : Int := IntKind.wrap .i64 (t8_10 + 1)
  g0 (t6_8, t7_9, v17, b12, ()))
def set_Or_loop0 (n : Nat) (g0 : List (List (Int)) × Int × Int × List (Int) × Unit → Option (List (Int))) (x1 : List (List (Int)) × Int × Int × List (Int) × Unit) : Option (List (Int)) :=
 let t6_2 : List (List (Int)) := x1.1
 let t7_3 : Int := x1.2.1
 let t8_4 : Int := x1.2.2.1
 let b5 : List (Int) := x1.2.2.2.1
 br (decide (t8_4 < t7_3)) (
  chk (inB t8_4 t6_2.length) (
   let v6 : List (Int) := getAt (Ty.dflt (.arr 4 (.int .u64))) t6_2 t8_4
   fix (set_Or_loop1 n g0) n (t6_2, t7_3, t8_4, 0, b5, v6, ()))) (
  some b5)
def set_Or (n : Nat) (x : List (List (Int))) : Option (List (Int)) :=
 let l_0 : List (List (Int)) := x
 fix (set_Or_loop0 n) n (l_0, (l_0.length : Int), 0, [0, 0, 0, 0], ())
def set_Of_loop0 (n : Nat) (g0 : List UInt8 × Int × Int × List (Int) × Unit → Option (List (Int))) (x1 : List UInt8 × Int × Int × List (Int) × Unit) : Option (List (Int)) :=
 let s_2 : List UInt8 := x1.1
 let t5_3 : Int := x1.2.1
 let t6_4 : Int := x1.2.2.1
 let b5 : List (Int) := x1.2.2.2.1
 br (decide (t6_4 < t5_3)) (
  chk (inB t6_4 s_2.length) (
   let v6 : Int := ((getAt 0 s_2 t6_4).toNat : Int)
   chk (decide (0 ≤ 6)) (
    chk (inB (ishr .u8 v6 6) 4) (
     chk (decide ((ishr .u8 v6 6).toNat < 4)) (
      let v7 : Int := b5.getD ((ishr .u8 v6 6).toNat) (Ty.dflt (.int .u64))
      chk (inB t6_4 s_2.length) (
       let v8 : Int := ((getAt 0 s_2 t6_4).toNat : Int)
       chk (decide (0 ≤ ibits .u8 .and v8 63)) (
        let v9 : Int := ishl .u64 1 (ibits .u8 .and v8 63)
        chk (inB (ishr .u8 v6 6) 4) (
         chk (decide ((ishr .u8 v6 6).toNat < 4)) (
          let v10 : Int := IntKind.wrap .i64 (t6_4 + 1)
          g0 (s_2, t5_3, v10, b5.set ((ishr .u8 v6 6).toNat) (ibits .u64 .or v7 v9), ())))))))))) (
  some b5)
def set_Of (n : Nat) (x : List UInt8) : Option (List (Int)) :=
 let s_0 : List UInt8 := x
 fix (set_Of_loop0 n) n (s_0, (s_0.length : Int), 0, [0, 0, 0, 0], ())
def set_Class (n : Nat) (x : List UInt8) : Option (List (Int) × Bool) :=
 let name_0 : List UInt8 := x
 ob (set_Range n (65, 90)) fun y1 =>
 ob (set_Range n (97, 122)) fun y2 =>
 ob (set_Range n (48, 57)) fun y3 =>
 br (name_0 == [117, 112, 112, 101, 114]) (
  some (y1, true)) (
  br (name_0 == [108, 111, 119, 101, 114]) (
   some (y2, true)) (
   br (name_0 == [97, 108, 112, 104, 97]) (
    ob (set_Or n [y1, y2]) fun y4 =>
    some (y4, true)) (
    br (name_0 == [100, 105, 103, 105, 116]) (
     some (y3, true)) (
     br (name_0 == [97, 108, 110, 117, 109]) (
      ob (set_Or n [y1, y2, y3]) fun y5 =>
      some (y5, true)) (
      br (name_0 == [120, 100, 105, 103, 105, 116]) (
       ob (set_Range n (65, 70)) fun y6 =>
       ob (set_Range n (97, 102)) fun y7 =>
       ob (set_Or n [y3, y6, y7]) fun y8 =>
       some (y8, true)) (
       br (name_0 == [98, 108, 97, 110, 107]) (
        ob (set_Of n [32, 9]) fun y9 =>
        some (y9, true)) (
        br (name_0 == [115, 112, 97, 99, 101]) (
         ob (set_Of n [32, 9, 10, 11, 12, 13]) fun y10 =>
         some (y10, true)) (
         br (name_0 == [99, 110, 116, 114, 108]) (
          ob (set_Range n (0, 31)) fun y11 =>
          ob (set_Of n [127]) fun y12 =>
          ob (set_Or n [y11, y12]) fun y13 =>
          some (y13, true)) (
          br (name_0 == [103, 114, 97, 112, 104]) (
           ob (set_Range n (33, 126)) fun y14 =>
           some (y14, true)) (
           br (name_0 == [112, 114, 105, 110, 116]) (
            ob (set_Range n (32, 126)) fun y15 =>
            some (y15, true)) (
            br (name_0 == [112, 117, 110, 99, 116]) (
             ob (set_Range n (33, 47)) fun y16 =>
             ob (set_Range n (58, 64)) fun y17 =>
             ob (set_Range n (91, 96)) fun y18 =>
             ob (set_Range n (123, 126)) fun y19 =>
             ob (set_Or n [y16, y17, y18, y19]) fun y20 =>
             some (y20, true)) (
             some ([0, 0, 0, 0], false)))))))))))))
def bre_list_element_join0 (n : Nat) (x21 : List UInt8 × List UInt8 × Int × Unit) : Option (Sum (Int × Bool × List UInt8 × Int × Unit) (Int × Int × List UInt8 × Int × Unit)) :=
 let mark_22 : List UInt8 := x21.1
 let s23 : List UInt8 := x21.2.1
 let at24 : Int := x21.2.2.1
 chk (inB at24 s23.length) (
  let v25 : Int := ((getAt 0 s23 at24).toNat : Int)
  let v26 : Int := IntKind.wrap .i64 (at24 + 3)
  some (.inl (v25, (mark_22 == [46]), s23, v26, ())))
def bre_list_element_join2 (n : Nat) (x41 : List UInt8 × Int × Unit) : Option (Sum (Int × Bool × List UInt8 × Int × Unit) (Int × Int × List UInt8 × Int × Unit)) :=
 let s42 : List UInt8 := x41.1
 let at43 : Int := x41.2.1
 let v44 : Int := IntKind.wrap .i64 (at43 + 1)
 let v45 : Int := IntKind.wrap .i64 (v44 - 1)
 chk (inB v45 s42.length) (
  let v46 : Int := ((getAt 0 s42 v45).toNat : Int)
  some (.inl (v46, true, s42, v44, ())))
def bre_list_element_join1 (n : Nat) (x30 : Bool × Bool × List UInt8 × Int × Unit) : Option (Sum (Int × Bool × List UInt8 × Int × Unit) (Int × Int × List UInt8 × Int × Unit)) :=
 let first_31 : Bool := x30.1
 let bare_32 : Bool := x30.2.1
 let s33 : List UInt8 := x30.2.2.1
 let at34 : Int := x30.2.2.2.1
 br (at34 == (s33.length : Int)) (
  ob2 (bre_list_give n (s33, at34, ())) (fun y35 =>
   none) (fun y35 =>
   some (.inr (y35.1, y35.2.1, y35.2.2.1, y35.2.2.2.1, ())))) (
  ob (bre_list_ahead n ([91, 58], s33, at34, ())) fun y36 =>
  br y36.1 (
   ob2 (bre_list_give n (y36.2.1, y36.2.2.1, ())) (fun y37 =>
    none) (fun y37 =>
    some (.inr (y37.1, y37.2.1, y37.2.2.1, y37.2.2.2.1, ())))) (
   ob (bre_list_ahead n ([93], y36.2.1, y36.2.2.1, ())) fun y38 =>
   br y38.1 (
    br (!first_31) (
     ob2 (bre_list_give n (y38.2.1, y38.2.2.1, ())) (fun y39 =>
      none) (fun y39 =>
      some (.inr (y39.1, y39.2.1, y39.2.2.1, y39.2.2.2.1, ())))) (
     br bare_32 (
      ob2 (bre_list_give n (y38.2.1, y38.2.2.1, ())) (fun y40 =>
       none) (fun y40 =>
       some (.inr (y40.1, y40.2.1, y40.2.2.1, y40.2.2.2.1, ())))) (
      jn (bre_list_element_join2 n) (y38.2.1, y38.2.2.1, ())))) (
    br bare_32 (
     ob2 (bre_list_give n (y38.2.1, y38.2.2.1, ())) (fun y47 =>
      none) (fun y47 =>
      some (.inr (y47.1, y47.2.1, y47.2.2.1, y47.2.2.2.1, ())))) (
     jn (bre_list_element_join2 n) (y38.2.1, y38.2.2.1, ())))))
def bre_list_element_loop0 (n : Nat) (g0 : Bool × Bool × Int × Int × List UInt8 × Int × List (List UInt8) × Unit → Option (Sum (Int × Bool × List UInt8 × Int × Unit) (Int × Int × List UInt8 × Int × Unit))) (x6 : Bool × Bool × Int × Int × List UInt8 × Int × List (List UInt8) × Unit) : Option (Sum (Int × Bool × List UInt8 × Int × Unit) (Int × Int × List UInt8 × Int × Unit)) :=
 let first_7 : Bool := x6.1
 let ends_8 : Bool := x6.2.1
 let t13_9 : Int := x6.2.2.1
 let t14_10 : Int := x6.2.2.2.1
 let s11 : List UInt8 := x6.2.2.2.2.1
 let at12 : Int := x6.2.2.2.2.2.1
 let row13 : List (List UInt8) := x6.2.2.2.2.2.2.1
 br (decide (t14_10 < t13_9)) (
  chk ((inB t14_10 (row13.length) && decide (0 + (row13.length) ≤ row13.length))) (
   chk (decide (0 + t14_10.toNat < row13.length)) (
    let v14 : List UInt8 := row13.getD (0 + t14_10.toNat) (Ty.dflt .str)
    chk (decide ([91].length + v14.length ≤ maxStr)) (
     ob (bre_list_took n ([91] ++ v14, s11, at12, ())) fun y15 =>
     br (!y15.1) (
      let v16 : Int := IntKind.wrap .i64 (t14_10 + 1)
      g0 (first_7, ends_8, t13_9, v16, y15.2.1, y15.2.2.1, row13, ())) (
      br ((y15.2.1.length : Int) == y15.2.2.1) (
       ob2 (bre_list_give n (y15.2.1, y15.2.2.1, ())) (fun y17 =>
        none) (fun y17 =>
        some (.inr (y17.1, y17.2.1, y17.2.2.1, y17.2.2.2.1, ())))) (
       let v18 : Int := IntKind.wrap .i64 (y15.2.2.1 + 1)
       chk ((decide (0 ≤ v18) && decide (v18 ≤ (y15.2.1.length : Int)))) (
        chk (decide (v14.length + ([93] : List UInt8).length ≤ maxStr)) (
         ob (strings_HasPrefix n (y15.2.1.drop v18.toNat, v14 ++ [93])) fun y19 =>
         br (!y19) (
          ob2 (bre_list_give n (y15.2.1, y15.2.2.1, ())) (fun y20 =>
           none) (fun y20 =>
           some (.inr (y20.1, y20.2.1, y20.2.2.1, y20.2.2.2.1, ())))) (
          jn (bre_list_element_join0 n) (v14, y15.2.1, y15.2.2.1, ())))))))))) (
  ob (bre_list_took n ([92, 110], s11, at12, ())) fun y27 =>
  br y27.1 (
   some (.inl (10, true, y27.2.1, y27.2.2.1, ()))) (
   ob (bre_list_ahead n ([45], y27.2.1, y27.2.2.1, ())) fun y28 =>
   br y28.1 (
    br (!first_7) (
     br (!ends_8) (
      ob (bre_list_ahead n ([45, 93], y28.2.1, y28.2.2.1, ())) fun y29 =>
      jn (bre_list_element_join1 n) (first_7, (!y29.1), y29.2.1, y29.2.2.1, ())) (
      jn (bre_list_element_join1 n) (first_7, false, y28.2.1, y28.2.2.1, ()))) (
     jn (bre_list_element_join1 n) (first_7, false, y28.2.1, y28.2.2.1, ()))) (
    jn (bre_list_element_join1 n) (first_7, false, y28.2.1, y28.2.2.1, ()))))
def bre_list_element (n : Nat) (x : Bool × Bool × List UInt8 × Int × Unit) : Option (Sum (Int × Bool × List UInt8 × Int × Unit) (Int × Int × List UInt8 × Int × Unit)) :=
 let first_1 : Bool := x.1
 let ends_2 : Bool := x.2.1
 let s3 : List UInt8 := x.2.2.1
 let at4 : Int := x.2.2.2.1
 let v5 : Int := (([[46], [61]].length : Nat) : Int)
 fix (bre_list_element_loop0 n) n (first_1, ends_2, v5, 0, s3, at4, [[46], [61]], ())
def bre_list_part (n : Nat) (x : Bool × List UInt8 × Int × Unit) : Option (Sum (List (Int) × List UInt8 × Int × Unit) (Int × Int × List UInt8 × Int × Unit)) :=
 let first_1 : Bool := x.1
 let s2 : List UInt8 := x.2.1
 let at3 : Int := x.2.2.1
 ob (bre_list_took n ([91, 58], s2, at3, ())) fun y4 =>
 br y4.1 (
  chk ((decide (0 ≤ y4.2.2.1) && decide (y4.2.2.1 ≤ (y4.2.1.length : Int)))) (
   let v5 : List UInt8 := y4.2.1.drop y4.2.2.1.toNat
   ob (strings_Cut n (v5, [58, 93])) fun y6 =>
   let v7 : Int := IntKind.wrap .i64 (y4.2.2.1 + (y6.1.length : Int))
   ob (set_Class n y6.1) fun y8 =>
   br (!y8.2) (
    ob2 (bre_list_give n (y4.2.1, v7, ())) (fun y9 =>
     none) (fun y9 =>
     some (.inr (y9.1, y9.2.1, y9.2.2.1, y9.2.2.2.1, ())))) (
    ob (bre_list_took n ([58, 93], y4.2.1, v7, ())) fun y10 =>
    br (!y10.1) (
     ob2 (bre_list_give n (y10.2.1, y10.2.2.1, ())) (fun y11 =>
      none) (fun y11 =>
      some (.inr (y11.1, y11.2.1, y11.2.2.1, y11.2.2.2.1, ())))) (
     some (.inl (y8.1, y10.2.1, y10.2.2.1, ())))))) (
  ob2 (bre_list_element n (first_1, false, y4.2.1, y4.2.2.1, ())) (fun y12 =>
   ob (bre_list_ahead n ([45], y12.2.2.1, y12.2.2.2.1, ())) fun y13 =>
   br (!y13.1) (
    ob (set_Range n (y12.1, y12.1)) fun y14 =>
    some (.inl (y14, y13.2.1, y13.2.2.1, ()))) (
    ob (bre_list_ahead n ([45, 93], y13.2.1, y13.2.2.1, ())) fun y15 =>
    br y15.1 (
     ob (set_Range n (y12.1, y12.1)) fun y16 =>
     some (.inl (y16, y15.2.1, y15.2.2.1, ()))) (
     let v17 : Int := IntKind.wrap .i64 (y15.2.2.1 + 1)
     br (v17 == (y15.2.1.length : Int)) (
      ob (set_Range n (y12.1, y12.1)) fun y18 =>
      some (.inl (y18, y15.2.1, y15.2.2.1, ()))) (
      let v19 : Int := IntKind.wrap .i64 (y15.2.2.1 + 1)
      ob2 (bre_list_element n (false, true, y15.2.1, v19, ())) (fun y20 =>
       br (!y12.2.1) (
        ob2 (bre_list_give n (y20.2.2.1, y20.2.2.2.1, ())) (fun y21 =>
         none) (fun y21 =>
         some (.inr (y21.1, y21.2.1, y21.2.2.1, y21.2.2.2.1, ())))) (
        br (!y20.2.1) (
         ob2 (bre_list_give n (y20.2.2.1, y20.2.2.2.1, ())) (fun y22 =>
          none) (fun y22 =>
          some (.inr (y22.1, y22.2.1, y22.2.2.1, y22.2.2.2.1, ())))) (
         br (decide (y20.1 < y12.1)) (
          ob2 (bre_list_give n (y20.2.2.1, y20.2.2.2.1, ())) (fun y23 =>
           none) (fun y23 =>
           some (.inr (y23.1, y23.2.1, y23.2.2.1, y23.2.2.2.1, ())))) (
          ob (set_Range n (y12.1, y20.1)) fun y24 =>
          some (.inl (y24, y20.2.2.1, y20.2.2.2.1, ())))))) (fun y20 =>
       some (.inr (y20.1, y20.2.1, y20.2.2.1, y20.2.2.2.1, ()))))))) (fun y12 =>
   some (.inr (y12.1, y12.2.1, y12.2.2.1, y12.2.2.2.1, ()))))
def bre_Bracket_1_loop0 (n : Nat) (g0 : Bool × Bool × List (Int) × List UInt8 × Int × Unit → Option (Sum (List (Int) × List UInt8 × Int × Unit) (Int × Int × List (Int) × List UInt8 × Int × Unit))) (x7 : Bool × Bool × List (Int) × List UInt8 × Int × Unit) : Option (Sum (List (Int) × List UInt8 × Int × Unit) (Int × Int × List (Int) × List UInt8 × Int × Unit)) :=
 let not_8 : Bool := x7.1
 let first_9 : Bool := x7.2.1
 let b10 : List (Int) := x7.2.2.1
 let s11 : List UInt8 := x7.2.2.2.1
 let at12 : Int := x7.2.2.2.2.1
 br first_9 (
  ob2 (bre_list_part n (first_9, s11, at12, ())) (fun y13 =>
   ob (set_Or n [b10, y13.1]) fun y14 =>
   g0 (not_8, false, y14, y13.2.1, y13.2.2.1, ())) (fun y13 =>
   some (.inr (y13.1, y13.2.1, b10, y13.2.2.1, y13.2.2.2.1, ())))) (
  ob (bre_list_took n ([93], s11, at12, ())) fun y15 =>
  br (!y15.1) (
   ob2 (bre_list_part n (first_9, y15.2.1, y15.2.2.1, ())) (fun y16 =>
    ob (set_Or n [b10, y16.1]) fun y17 =>
    g0 (not_8, false, y17, y16.2.1, y16.2.2.1, ())) (fun y16 =>
    some (.inr (y16.1, y16.2.1, b10, y16.2.2.1, y16.2.2.2.1, ())))) (
   br not_8 (
    ob (set_Not n b10) fun y18 =>
    br (Ty.beq (.arr 4 (.int .u64)) y18 ([0, 0, 0, 0])) (
     ob2 (bre_list_give n (y15.2.1, y15.2.2.1, ())) (fun y19 =>
      none) (fun y19 =>
      some (.inr (y19.1, y19.2.1, y18, y19.2.2.1, y19.2.2.2.1, ())))) (
     some (.inl (y18, y15.2.1, y15.2.2.1, ())))) (
    br (Ty.beq (.arr 4 (.int .u64)) b10 ([0, 0, 0, 0])) (
     ob2 (bre_list_give n (y15.2.1, y15.2.2.1, ())) (fun y20 =>
      none) (fun y20 =>
      some (.inr (y20.1, y20.2.1, b10, y20.2.2.1, y20.2.2.2.1, ())))) (
     some (.inl (b10, y15.2.1, y15.2.2.1, ()))))))
def bre_Bracket_1 (n : Nat) (x : List (Int) × List UInt8 × Int × Unit) : Option (Sum (List (Int) × List UInt8 × Int × Unit) (Int × Int × List (Int) × List UInt8 × Int × Unit)) :=
 let b1 : List (Int) := x.1
 let s2 : List UInt8 := x.2.1
 let at3 : Int := x.2.2.1
 ob (bre_list_took n ([91], s2, at3, ())) fun y4 =>
 br (!y4.1) (
  ob2 (bre_list_give n (y4.2.1, y4.2.2.1, ())) (fun y5 =>
   none) (fun y5 =>
   some (.inr (y5.1, y5.2.1, b1, y5.2.2.1, y5.2.2.2.1, ())))) (
  ob (bre_list_took n ([94], y4.2.1, y4.2.2.1, ())) fun y6 =>
  fix (bre_Bracket_1_loop0 n) n (y6.1, true, b1, y6.2.1, y6.2.2.1, ()))
def bre_tried__bre_Bracket_1 (n : Nat) (x : List (Int) × List UInt8 × Int × Unit) : Option (Int × Int × List (Int) × List UInt8 × Int × Unit) := ob2 (bre_Bracket_1 n x) (fun y => some (0, 0, y)) (fun y => some y)
def bre_Bracket (n : Nat) (x : List UInt8) : Option (List (Int) × Int × Int) :=
 let s_0 : List UInt8 := x
 ob (bre_tried__bre_Bracket_1 n ([0, 0, 0, 0], s_0, 0, ())) fun y1 =>
 br (y1.1 != 0) (
  some ([0, 0, 0, 0], 0, y1.1)) (
  some (y1.2.2.1, y1.2.2.2.2.1, 0))
def bre_reader_give (_n : Nat) (x : Int × Int × RdrT) : Option (Sum (RdrT) (Int × Int × RdrT)) := some (.inr x)
def bre_reader_number_loop0 (n : Nat) (g0 : Int × RdrT → Option (Int × RdrT)) (x6 : Int × RdrT) : Option (Int × RdrT) :=
 let i_7 : Int := x6.1
 let s8 : List UInt8 := x6.2.1
 let at9 : Int := x6.2.2.1
 let begun10 : Int := x6.2.2.2.1
 let ended11 : List (Bool) := x6.2.2.2.2.1
 let row12 : List (NdT) := x6.2.2.2.2.2.1
 br (decide (i_7 < (s8.length : Int))) (
  let v13 : Int := IntKind.wrap .i64 (at9 + 3)
  br (decide (i_7 < v13)) (
   chk (inB i_7 s8.length) (
    let v14 : Int := ((getAt 0 s8 i_7).toNat : Int)
    br (decide (v14 ≥ 48)) (
     chk (inB i_7 s8.length) (
      let v15 : Int := ((getAt 0 s8 i_7).toNat : Int)
      br (decide (v15 ≤ 57)) (
       let v16 : Int := IntKind.wrap .i64 (i_7 + 1)
       g0 (v16, s8, at9, begun10, ended11, row12, ())) (
       chk ((decide (0 ≤ i_7) && decide (i_7 ≤ (s8.length : Int)) && (decide (0 ≤ at9) && decide (at9 ≤ i_7)))) (
        let v17 : List UInt8 := (s8.take i_7.toNat).drop at9.toNat
        ob (strconv_Atoi n v17) fun y18 =>
        br (!(!y18.2)) (
         some ((-1), s8, i_7, begun10, ended11, row12, ())) (
         some (y18.1, s8, i_7, begun10, ended11, row12, ())))))) (
     chk ((decide (0 ≤ i_7) && decide (i_7 ≤ (s8.length : Int)) && (decide (0 ≤ at9) && decide (at9 ≤ i_7)))) (
      let v19 : List UInt8 := (s8.take i_7.toNat).drop at9.toNat
      ob (strconv_Atoi n v19) fun y20 =>
      br (!(!y20.2)) (
       some ((-1), s8, i_7, begun10, ended11, row12, ())) (
       some (y20.1, s8, i_7, begun10, ended11, row12, ())))))) (
   chk ((decide (0 ≤ i_7) && decide (i_7 ≤ (s8.length : Int)) && (decide (0 ≤ at9) && decide (at9 ≤ i_7)))) (
    let v21 : List UInt8 := (s8.take i_7.toNat).drop at9.toNat
    ob (strconv_Atoi n v21) fun y22 =>
    br (!(!y22.2)) (
     some ((-1), s8, i_7, begun10, ended11, row12, ())) (
     some (y22.1, s8, i_7, begun10, ended11, row12, ()))))) (
  chk ((decide (0 ≤ i_7) && decide (i_7 ≤ (s8.length : Int)) && (decide (0 ≤ at9) && decide (at9 ≤ i_7)))) (
   let v23 : List UInt8 := (s8.take i_7.toNat).drop at9.toNat
   ob (strconv_Atoi n v23) fun y24 =>
   br (!(!y24.2)) (
    some ((-1), s8, i_7, begun10, ended11, row12, ())) (
    some (y24.1, s8, i_7, begun10, ended11, row12, ()))))
def bre_reader_number (n : Nat) (x : RdrT) : Option (Int × RdrT) :=
 let s1 : List UInt8 := x.1
 let at2 : Int := x.2.1
 let begun3 : Int := x.2.2.1
 let ended4 : List (Bool) := x.2.2.2.1
 let row5 : List (NdT) := x.2.2.2.2.1
 fix (bre_reader_number_loop0 n) n (at2, s1, at2, begun3, ended4, row5, ())
def bre_reader_times (n : Nat) (x : Int × RdrT) : Option RdrO :=
 let top_1 : Int := x.1
 let s2 : List UInt8 := x.2.1
 let at3 : Int := x.2.2.1
 let begun4 : Int := x.2.2.2.1
 let ended5 : List (Bool) := x.2.2.2.2.1
 let row6 : List (NdT) := x.2.2.2.2.2.1
 ob (bre_reader_took n ([42], s2, at3, begun4, ended5, row6, ())) fun y7 =>
 br y7.1 (
  ob (bre_reader_put n (6, [0, 0, 0, 0], top_1, 0, 0, (-1), 0, y7.2.1, y7.2.2.1, y7.2.2.2.1, y7.2.2.2.2.1, y7.2.2.2.2.2.1, ())) fun y8 =>
  ob (bre_reader_ahead n ([42], y8.2.1, y8.2.2.1, y8.2.2.2.1, y8.2.2.2.2.1, y8.2.2.2.2.2.1, ())) fun y9 =>
  br y9.1 (
   ob2 (bre_reader_give n (43, y9.2.2.1, y9.2.1, y9.2.2.1, y9.2.2.2.1, y9.2.2.2.2.1, y9.2.2.2.2.2.1, ())) (fun y10 =>
    none) (fun y10 =>
    some (.inr (y10.1, y10.2.1, y10.2.2.1, y10.2.2.2.1, y10.2.2.2.2.1, y10.2.2.2.2.2.1, y10.2.2.2.2.2.2.1, ())))) (
   ob (bre_reader_ahead n ([92, 123], y9.2.1, y9.2.2.1, y9.2.2.2.1, y9.2.2.2.2.1, y9.2.2.2.2.2.1, ())) fun y11 =>
   br y11.1 (
    ob2 (bre_reader_give n (43, y11.2.2.1, y11.2.1, y11.2.2.1, y11.2.2.2.1, y11.2.2.2.2.1, y11.2.2.2.2.2.1, ())) (fun y12 =>
     none) (fun y12 =>
     some (.inr (y12.1, y12.2.1, y12.2.2.1, y12.2.2.2.1, y12.2.2.2.2.1, y12.2.2.2.2.2.1, y12.2.2.2.2.2.2.1, ())))) (
    some (.inl (y8.1, y11.2.1, y11.2.2.1, y11.2.2.2.1, y11.2.2.2.2.1, y11.2.2.2.2.2.1, ()))))) (
  ob (bre_reader_took n ([92, 123], y7.2.1, y7.2.2.1, y7.2.2.2.1, y7.2.2.2.2.1, y7.2.2.2.2.2.1, ())) fun y13 =>
  br (!y13.1) (
   some (.inl (top_1, y13.2.1, y13.2.2.1, y13.2.2.2.1, y13.2.2.2.2.1, y13.2.2.2.2.2.1, ()))) (
   ob (bre_reader_number n (y13.2.1, y13.2.2.1, y13.2.2.2.1, y13.2.2.2.2.1, y13.2.2.2.2.2.1, ())) fun y14 =>
   ob (bre_reader_took n ([44], y14.2.1, y14.2.2.1, y14.2.2.2.1, y14.2.2.2.2.1, y14.2.2.2.2.2.1, ())) fun y15 =>
   br y15.1 (
    ob (bre_reader_number n (y15.2.1, y15.2.2.1, y15.2.2.2.1, y15.2.2.2.2.1, y15.2.2.2.2.2.1, ())) fun y16 =>
    br (y14.1 == (-1)) (
     ob2 (bre_reader_give n (43, at3, y16.2.1, y16.2.2.1, y16.2.2.2.1, y16.2.2.2.2.1, y16.2.2.2.2.2.1, ())) (fun y17 =>
      none) (fun y17 =>
      some (.inr (y17.1, y17.2.1, y17.2.2.1, y17.2.2.2.1, y17.2.2.2.2.1, y17.2.2.2.2.2.1, y17.2.2.2.2.2.2.1, ())))) (
     ob (bre_reader_took n ([92, 125], y16.2.1, y16.2.2.1, y16.2.2.2.1, y16.2.2.2.2.1, y16.2.2.2.2.2.1, ())) fun y18 =>
     br (!y18.1) (
      ob2 (bre_reader_give n (43, at3, y18.2.1, y18.2.2.1, y18.2.2.2.1, y18.2.2.2.2.1, y18.2.2.2.2.2.1, ())) (fun y19 =>
       none) (fun y19 =>
       some (.inr (y19.1, y19.2.1, y19.2.2.1, y19.2.2.2.1, y19.2.2.2.2.1, y19.2.2.2.2.2.1, y19.2.2.2.2.2.2.1, ())))) (
      br (decide (y14.1 > 255)) (
       ob2 (bre_reader_give n (43, at3, y18.2.1, y18.2.2.1, y18.2.2.2.1, y18.2.2.2.2.1, y18.2.2.2.2.2.1, ())) (fun y20 =>
        none) (fun y20 =>
        some (.inr (y20.1, y20.2.1, y20.2.2.1, y20.2.2.2.1, y20.2.2.2.2.1, y20.2.2.2.2.2.1, y20.2.2.2.2.2.2.1, ())))) (
       br (decide (y16.1 > 255)) (
        ob2 (bre_reader_give n (43, at3, y18.2.1, y18.2.2.1, y18.2.2.2.1, y18.2.2.2.2.1, y18.2.2.2.2.2.1, ())) (fun y21 =>
         none) (fun y21 =>
         some (.inr (y21.1, y21.2.1, y21.2.2.1, y21.2.2.2.1, y21.2.2.2.2.1, y21.2.2.2.2.2.1, y21.2.2.2.2.2.2.1, ())))) (
        br (y16.1 != (-1)) (
         let v22 : Int := if 1 > y14.1 then 1 else y14.1
         br (decide (y16.1 < v22)) (
          ob2 (bre_reader_give n (43, at3, y18.2.1, y18.2.2.1, y18.2.2.2.1, y18.2.2.2.2.1, y18.2.2.2.2.2.1, ())) (fun y23 =>
           none) (fun y23 =>
           some (.inr (y23.1, y23.2.1, y23.2.2.1, y23.2.2.2.1, y23.2.2.2.2.1, y23.2.2.2.2.2.1, y23.2.2.2.2.2.2.1, ())))) (
          ob (bre_reader_put n (6, [0, 0, 0, 0], top_1, 0, y14.1, y16.1, 0, y18.2.1, y18.2.2.1, y18.2.2.2.1, y18.2.2.2.2.1, y18.2.2.2.2.2.1, ())) fun y24 =>
          ob (bre_reader_ahead n ([42], y24.2.1, y24.2.2.1, y24.2.2.2.1, y24.2.2.2.2.1, y24.2.2.2.2.2.1, ())) fun y25 =>
          br y25.1 (
           ob2 (bre_reader_give n (43, y25.2.2.1, y25.2.1, y25.2.2.1, y25.2.2.2.1, y25.2.2.2.2.1, y25.2.2.2.2.2.1, ())) (fun y26 =>
            none) (fun y26 =>
            some (.inr (y26.1, y26.2.1, y26.2.2.1, y26.2.2.2.1, y26.2.2.2.2.1, y26.2.2.2.2.2.1, y26.2.2.2.2.2.2.1, ())))) (
           ob (bre_reader_ahead n ([92, 123], y25.2.1, y25.2.2.1, y25.2.2.2.1, y25.2.2.2.2.1, y25.2.2.2.2.2.1, ())) fun y27 =>
           br y27.1 (
            ob2 (bre_reader_give n (43, y27.2.2.1, y27.2.1, y27.2.2.1, y27.2.2.2.1, y27.2.2.2.2.1, y27.2.2.2.2.2.1, ())) (fun y28 =>
             none) (fun y28 =>
             some (.inr (y28.1, y28.2.1, y28.2.2.1, y28.2.2.2.1, y28.2.2.2.2.1, y28.2.2.2.2.2.1, y28.2.2.2.2.2.2.1, ())))) (
            some (.inl (y24.1, y27.2.1, y27.2.2.1, y27.2.2.2.1, y27.2.2.2.2.1, y27.2.2.2.2.2.1, ())))))) (
         ob (bre_reader_put n (6, [0, 0, 0, 0], top_1, 0, y14.1, y16.1, 0, y18.2.1, y18.2.2.1, y18.2.2.2.1, y18.2.2.2.2.1, y18.2.2.2.2.2.1, ())) fun y29 =>
         ob (bre_reader_ahead n ([42], y29.2.1, y29.2.2.1, y29.2.2.2.1, y29.2.2.2.2.1, y29.2.2.2.2.2.1, ())) fun y30 =>
         br y30.1 (
          ob2 (bre_reader_give n (43, y30.2.2.1, y30.2.1, y30.2.2.1, y30.2.2.2.1, y30.2.2.2.2.1, y30.2.2.2.2.2.1, ())) (fun y31 =>
           none) (fun y31 =>
           some (.inr (y31.1, y31.2.1, y31.2.2.1, y31.2.2.2.1, y31.2.2.2.2.1, y31.2.2.2.2.2.1, y31.2.2.2.2.2.2.1, ())))) (
          ob (bre_reader_ahead n ([92, 123], y30.2.1, y30.2.2.1, y30.2.2.2.1, y30.2.2.2.2.1, y30.2.2.2.2.2.1, ())) fun y32 =>
          br y32.1 (
           ob2 (bre_reader_give n (43, y32.2.2.1, y32.2.1, y32.2.2.1, y32.2.2.2.1, y32.2.2.2.2.1, y32.2.2.2.2.2.1, ())) (fun y33 =>
            none) (fun y33 =>
            some (.inr (y33.1, y33.2.1, y33.2.2.1, y33.2.2.2.1, y33.2.2.2.2.1, y33.2.2.2.2.2.1, y33.2.2.2.2.2.2.1, ())))) (
           some (.inl (y29.1, y32.2.1, y32.2.2.1, y32.2.2.2.1, y32.2.2.2.2.1, y32.2.2.2.2.2.1, ())))))))))) (
    br (y14.1 == (-1)) (
     ob2 (bre_reader_give n (43, at3, y15.2.1, y15.2.2.1, y15.2.2.2.1, y15.2.2.2.2.1, y15.2.2.2.2.2.1, ())) (fun y34 =>
      none) (fun y34 =>
      some (.inr (y34.1, y34.2.1, y34.2.2.1, y34.2.2.2.1, y34.2.2.2.2.1, y34.2.2.2.2.2.1, y34.2.2.2.2.2.2.1, ())))) (
     ob (bre_reader_took n ([92, 125], y15.2.1, y15.2.2.1, y15.2.2.2.1, y15.2.2.2.2.1, y15.2.2.2.2.2.1, ())) fun y35 =>
     br (!y35.1) (
      ob2 (bre_reader_give n (43, at3, y35.2.1, y35.2.2.1, y35.2.2.2.1, y35.2.2.2.2.1, y35.2.2.2.2.2.1, ())) (fun y36 =>
       none) (fun y36 =>
       some (.inr (y36.1, y36.2.1, y36.2.2.1, y36.2.2.2.1, y36.2.2.2.2.1, y36.2.2.2.2.2.1, y36.2.2.2.2.2.2.1, ())))) (
      br (decide (y14.1 > 255)) (
       ob2 (bre_reader_give n (43, at3, y35.2.1, y35.2.2.1, y35.2.2.2.1, y35.2.2.2.2.1, y35.2.2.2.2.2.1, ())) (fun y37 =>
        none) (fun y37 =>
        some (.inr (y37.1, y37.2.1, y37.2.2.1, y37.2.2.2.1, y37.2.2.2.2.1, y37.2.2.2.2.2.1, y37.2.2.2.2.2.2.1, ())))) (
       br (decide (y14.1 > 255)) (
        ob2 (bre_reader_give n (43, at3, y35.2.1, y35.2.2.1, y35.2.2.2.1, y35.2.2.2.2.1, y35.2.2.2.2.2.1, ())) (fun y38 =>
         none) (fun y38 =>
         some (.inr (y38.1, y38.2.1, y38.2.2.1, y38.2.2.2.1, y38.2.2.2.2.1, y38.2.2.2.2.2.1, y38.2.2.2.2.2.2.1, ())))) (
        br (y14.1 != (-1)) (
         let v39 : Int := if 1 > y14.1 then 1 else y14.1
         br (decide (y14.1 < v39)) (
          ob2 (bre_reader_give n (43, at3, y35.2.1, y35.2.2.1, y35.2.2.2.1, y35.2.2.2.2.1, y35.2.2.2.2.2.1, ())) (fun y40 =>
           none) (fun y40 =>
           some (.inr (y40.1, y40.2.1, y40.2.2.1, y40.2.2.2.1, y40.2.2.2.2.1, y40.2.2.2.2.2.1, y40.2.2.2.2.2.2.1, ())))) (
          ob (bre_reader_put n (6, [0, 0, 0, 0], top_1, 0, y14.1, y14.1, 0, y35.2.1, y35.2.2.1, y35.2.2.2.1, y35.2.2.2.2.1, y35.2.2.2.2.2.1, ())) fun y41 =>
          ob (bre_reader_ahead n ([42], y41.2.1, y41.2.2.1, y41.2.2.2.1, y41.2.2.2.2.1, y41.2.2.2.2.2.1, ())) fun y42 =>
          br y42.1 (
           ob2 (bre_reader_give n (43, y42.2.2.1, y42.2.1, y42.2.2.1, y42.2.2.2.1, y42.2.2.2.2.1, y42.2.2.2.2.2.1, ())) (fun y43 =>
            none) (fun y43 =>
            some (.inr (y43.1, y43.2.1, y43.2.2.1, y43.2.2.2.1, y43.2.2.2.2.1, y43.2.2.2.2.2.1, y43.2.2.2.2.2.2.1, ())))) (
           ob (bre_reader_ahead n ([92, 123], y42.2.1, y42.2.2.1, y42.2.2.2.1, y42.2.2.2.2.1, y42.2.2.2.2.2.1, ())) fun y44 =>
           br y44.1 (
            ob2 (bre_reader_give n (43, y44.2.2.1, y44.2.1, y44.2.2.1, y44.2.2.2.1, y44.2.2.2.2.1, y44.2.2.2.2.2.1, ())) (fun y45 =>
             none) (fun y45 =>
             some (.inr (y45.1, y45.2.1, y45.2.2.1, y45.2.2.2.1, y45.2.2.2.2.1, y45.2.2.2.2.2.1, y45.2.2.2.2.2.2.1, ())))) (
            some (.inl (y41.1, y44.2.1, y44.2.2.1, y44.2.2.2.1, y44.2.2.2.2.1, y44.2.2.2.2.2.1, ())))))) (
         ob (bre_reader_put n (6, [0, 0, 0, 0], top_1, 0, y14.1, y14.1, 0, y35.2.1, y35.2.2.1, y35.2.2.2.1, y35.2.2.2.2.1, y35.2.2.2.2.2.1, ())) fun y46 =>
         ob (bre_reader_ahead n ([42], y46.2.1, y46.2.2.1, y46.2.2.2.1, y46.2.2.2.2.1, y46.2.2.2.2.2.1, ())) fun y47 =>
         br y47.1 (
          ob2 (bre_reader_give n (43, y47.2.2.1, y47.2.1, y47.2.2.1, y47.2.2.2.1, y47.2.2.2.2.1, y47.2.2.2.2.2.1, ())) (fun y48 =>
           none) (fun y48 =>
           some (.inr (y48.1, y48.2.1, y48.2.2.1, y48.2.2.2.1, y48.2.2.2.2.1, y48.2.2.2.2.2.1, y48.2.2.2.2.2.2.1, ())))) (
          ob (bre_reader_ahead n ([92, 123], y47.2.1, y47.2.2.1, y47.2.2.2.1, y47.2.2.2.2.1, y47.2.2.2.2.2.1, ())) fun y49 =>
          br y49.1 (
           ob2 (bre_reader_give n (43, y49.2.2.1, y49.2.1, y49.2.2.1, y49.2.2.2.1, y49.2.2.2.2.1, y49.2.2.2.2.2.1, ())) (fun y50 =>
            none) (fun y50 =>
            some (.inr (y50.1, y50.2.1, y50.2.2.1, y50.2.2.2.1, y50.2.2.2.2.1, y50.2.2.2.2.2.1, y50.2.2.2.2.2.2.1, ())))) (
           some (.inl (y46.1, y49.2.1, y49.2.2.1, y49.2.2.2.1, y49.2.2.2.2.1, y49.2.2.2.2.2.1, ()))))))))))))
def bre_reader_group (n : Nat) (r_bre_reader_row : (RdrT) → Option RdrO) (x : Int × RdrT) : Option RdrO :=
 let begin_1 : Int := x.1
 let s2 : List UInt8 := x.2.1
 let at3 : Int := x.2.2.1
 let begun4 : Int := x.2.2.2.1
 let ended5 : List (Bool) := x.2.2.2.2.1
 let row6 : List (NdT) := x.2.2.2.2.2.1
 br (begun4 == 9) (
  ob2 (bre_reader_give n (41, begin_1, s2, at3, begun4, ended5, row6, ())) (fun y7 =>
   none) (fun y7 =>
   some (.inr (y7.1, y7.2.1, y7.2.2.1, y7.2.2.2.1, y7.2.2.2.2.1, y7.2.2.2.2.2.1, y7.2.2.2.2.2.2.1, ())))) (
  let v8 : Int := IntKind.wrap .i64 (begun4 + 1)
  ob2 (r_bre_reader_row (s2, at3, v8, ended5, row6, ())) (fun y9 =>
   br (y9.1 == (-1)) (
    ob2 (bre_reader_give n (41, begin_1, y9.2.1, y9.2.2.1, y9.2.2.2.1, y9.2.2.2.2.1, y9.2.2.2.2.2.1, ())) (fun y10 =>
     none) (fun y10 =>
     some (.inr (y10.1, y10.2.1, y10.2.2.1, y10.2.2.2.1, y10.2.2.2.2.1, y10.2.2.2.2.2.1, y10.2.2.2.2.2.2.1, ())))) (
    ob (bre_reader_took n ([92, 41], y9.2.1, y9.2.2.1, y9.2.2.2.1, y9.2.2.2.2.1, y9.2.2.2.2.2.1, ())) fun y11 =>
    br (!y11.1) (
     ob2 (bre_reader_give n (41, begin_1, y11.2.1, y11.2.2.1, y11.2.2.2.1, y11.2.2.2.2.1, y11.2.2.2.2.2.1, ())) (fun y12 =>
      none) (fun y12 =>
      some (.inr (y12.1, y12.2.1, y12.2.2.1, y12.2.2.2.1, y12.2.2.2.2.1, y12.2.2.2.2.2.1, y12.2.2.2.2.2.2.1, ())))) (
     chk (inB v8 10) (
      chk (decide (v8.toNat < 10)) (
       ob (bre_reader_put n (7, [0, 0, 0, 0], y9.1, 0, 0, 0, v8, y11.2.1, y11.2.2.1, y11.2.2.2.1, y11.2.2.2.2.1.set (v8.toNat) true, y11.2.2.2.2.2.1, ())) fun y13 =>
       some (.inl (y13.1, y13.2.1, y13.2.2.1, y13.2.2.2.1, y13.2.2.2.2.1, y13.2.2.2.2.2.1, ()))))))) (fun y9 =>
   some (.inr (y9.1, y9.2.1, y9.2.2.1, y9.2.2.2.1, y9.2.2.2.2.1, y9.2.2.2.2.2.1, y9.2.2.2.2.2.2.1, ()))))
def bre_reader_escaped (n : Nat) (r_bre_reader_row : (RdrT) → Option RdrO) (x : Bool × RdrT) : Option RdrO :=
 let first_1 : Bool := x.1
 let s2 : List UInt8 := x.2.1
 let at3 : Int := x.2.2.1
 let begun4 : Int := x.2.2.2.1
 let ended5 : List (Bool) := x.2.2.2.2.1
 let row6 : List (NdT) := x.2.2.2.2.2.1
 let v7 : Int := IntKind.wrap .i64 (at3 + 1)
 br (v7 == (s2.length : Int)) (
  ob2 (bre_reader_give n (40, at3, s2, v7, begun4, ended5, row6, ())) (fun y8 =>
   none) (fun y8 =>
   some (.inr (y8.1, y8.2.1, y8.2.2.1, y8.2.2.2.1, y8.2.2.2.2.1, y8.2.2.2.2.2.1, y8.2.2.2.2.2.2.1, ())))) (
  chk (inB v7 s2.length) (
   let v9 : Int := ((getAt 0 s2 v7).toNat : Int)
   let v10 : Int := IntKind.wrap .i64 (v7 + 1)
   br (v9 == 40) (
    ob2 (bre_reader_group n r_bre_reader_row (at3, s2, v10, begun4, ended5, row6, ())) (fun y11 =>
     some (.inl (y11.1, y11.2.1, y11.2.2.1, y11.2.2.2.1, y11.2.2.2.2.1, y11.2.2.2.2.2.1, ()))) (fun y11 =>
     some (.inr (y11.1, y11.2.1, y11.2.2.1, y11.2.2.2.1, y11.2.2.2.2.1, y11.2.2.2.2.2.1, y11.2.2.2.2.2.2.1, ())))) (
    br (decide (v9 ≥ 49)) (
     br (decide (v9 ≤ 57)) (
      let v12 : Int := IntKind.wrap .u8 (v9 - 48)
      chk (inB (IntKind.wrap .i64 v12) 10) (
       chk (decide ((IntKind.wrap .i64 v12).toNat < 10)) (
        br (!(ended5.getD ((IntKind.wrap .i64 v12).toNat) (Ty.dflt .bool))) (
         ob2 (bre_reader_give n (44, at3, s2, v10, begun4, ended5, row6, ())) (fun y13 =>
          none) (fun y13 =>
          some (.inr (y13.1, y13.2.1, y13.2.2.1, y13.2.2.2.1, y13.2.2.2.2.1, y13.2.2.2.2.2.1, y13.2.2.2.2.2.2.1, ())))) (
         ob (bre_reader_put n (8, [0, 0, 0, 0], 0, 0, 0, 0, IntKind.wrap .i64 v12, s2, v10, begun4, ended5, row6, ())) fun y14 =>
         some (.inl (y14.1, y14.2.1, y14.2.2.1, y14.2.2.2.1, y14.2.2.2.2.1, y14.2.2.2.2.2.1, ())))))) (
      br (v9 == 110) (
       ob (set_Of n [10]) fun y15 =>
       ob (bre_reader_bytes n (y15, s2, v10, begun4, ended5, row6, ())) fun y16 =>
       some (.inl (y16.1, y16.2.1, y16.2.2.1, y16.2.2.2.1, y16.2.2.2.2.1, y16.2.2.2.2.2.1, ()))) (
       ob (strings_IndexByte n ([46, 91, 92, 42, 94, 36, 47], v9)) fun y17 =>
       br (decide (y17 ≥ 0)) (
        ob (set_Range n (v9, v9)) fun y18 =>
        ob (bre_reader_bytes n (y18, s2, v10, begun4, ended5, row6, ())) fun y19 =>
        some (.inl (y19.1, y19.2.1, y19.2.2.1, y19.2.2.2.1, y19.2.2.2.2.1, y19.2.2.2.2.2.1, ()))) (
        br (v9 == 123) (
         br first_1 (
          ob2 (bre_reader_give n (43, at3, s2, v10, begun4, ended5, row6, ())) (fun y20 =>
           none) (fun y20 =>
           some (.inr (y20.1, y20.2.1, y20.2.2.1, y20.2.2.2.1, y20.2.2.2.2.1, y20.2.2.2.2.2.1, y20.2.2.2.2.2.2.1, ())))) (
          ob2 (bre_reader_give n (40, at3, s2, v10, begun4, ended5, row6, ())) (fun y21 =>
           none) (fun y21 =>
           some (.inr (y21.1, y21.2.1, y21.2.2.1, y21.2.2.2.1, y21.2.2.2.2.1, y21.2.2.2.2.2.1, y21.2.2.2.2.2.2.1, ()))))) (
         ob2 (bre_reader_give n (40, at3, s2, v10, begun4, ended5, row6, ())) (fun y22 =>
          none) (fun y22 =>
          some (.inr (y22.1, y22.2.1, y22.2.2.1, y22.2.2.2.1, y22.2.2.2.2.1, y22.2.2.2.2.2.1, y22.2.2.2.2.2.2.1, ())))))))) (
     br (v9 == 110) (
      ob (set_Of n [10]) fun y23 =>
      ob (bre_reader_bytes n (y23, s2, v10, begun4, ended5, row6, ())) fun y24 =>
      some (.inl (y24.1, y24.2.1, y24.2.2.1, y24.2.2.2.1, y24.2.2.2.2.1, y24.2.2.2.2.2.1, ()))) (
      ob (strings_IndexByte n ([46, 91, 92, 42, 94, 36, 47], v9)) fun y25 =>
      br (decide (y25 ≥ 0)) (
       ob (set_Range n (v9, v9)) fun y26 =>
       ob (bre_reader_bytes n (y26, s2, v10, begun4, ended5, row6, ())) fun y27 =>
       some (.inl (y27.1, y27.2.1, y27.2.2.1, y27.2.2.2.1, y27.2.2.2.2.1, y27.2.2.2.2.2.1, ()))) (
       br (v9 == 123) (
        br first_1 (
         ob2 (bre_reader_give n (43, at3, s2, v10, begun4, ended5, row6, ())) (fun y28 =>
          none) (fun y28 =>
          some (.inr (y28.1, y28.2.1, y28.2.2.1, y28.2.2.2.1, y28.2.2.2.2.1, y28.2.2.2.2.2.1, y28.2.2.2.2.2.2.1, ())))) (
         ob2 (bre_reader_give n (40, at3, s2, v10, begun4, ended5, row6, ())) (fun y29 =>
          none) (fun y29 =>
          some (.inr (y29.1, y29.2.1, y29.2.2.1, y29.2.2.2.1, y29.2.2.2.2.1, y29.2.2.2.2.2.1, y29.2.2.2.2.2.2.1, ()))))) (
        ob2 (bre_reader_give n (40, at3, s2, v10, begun4, ended5, row6, ())) (fun y30 =>
         none) (fun y30 =>
         some (.inr (y30.1, y30.2.1, y30.2.2.1, y30.2.2.2.1, y30.2.2.2.2.1, y30.2.2.2.2.2.1, y30.2.2.2.2.2.2.1, ()))))))))))
def bre_reader_atom (n : Nat) (r_bre_reader_row : (RdrT) → Option RdrO) (x : Bool × RdrT) : Option RdrO :=
 let first_1 : Bool := x.1
 let s2 : List UInt8 := x.2.1
 let at3 : Int := x.2.2.1
 let begun4 : Int := x.2.2.2.1
 let ended5 : List (Bool) := x.2.2.2.2.1
 let row6 : List (NdT) := x.2.2.2.2.2.1
 ob (bre_reader_took n ([46], s2, at3, begun4, ended5, row6, ())) fun y7 =>
 br y7.1 (
  ob (set_Not n ([0, 0, 0, 0])) fun y8 =>
  ob (bre_reader_bytes n (y8, y7.2.1, y7.2.2.1, y7.2.2.2.1, y7.2.2.2.2.1, y7.2.2.2.2.2.1, ())) fun y9 =>
  some (.inl (y9.1, y9.2.1, y9.2.2.1, y9.2.2.2.1, y9.2.2.2.2.1, y9.2.2.2.2.2.1, ()))) (
  ob (bre_reader_ahead n ([91], y7.2.1, y7.2.2.1, y7.2.2.2.1, y7.2.2.2.2.1, y7.2.2.2.2.2.1, ())) fun y10 =>
  br y10.1 (
   chk ((decide (0 ≤ y10.2.2.1) && decide (y10.2.2.1 ≤ (y10.2.1.length : Int)))) (
    let v11 : List UInt8 := y10.2.1.drop y10.2.2.1.toNat
    ob (bre_Bracket n v11) fun y12 =>
    br (y12.2.2 != 0) (
     ob2 (bre_reader_give n (y12.2.2, y10.2.2.1, y10.2.1, y10.2.2.1, y10.2.2.2.1, y10.2.2.2.2.1, y10.2.2.2.2.2.1, ())) (fun y13 =>
      none) (fun y13 =>
      some (.inr (y13.1, y13.2.1, y13.2.2.1, y13.2.2.2.1, y13.2.2.2.2.1, y13.2.2.2.2.2.1, y13.2.2.2.2.2.2.1, ())))) (
     let v14 : Int := IntKind.wrap .i64 (y10.2.2.1 + y12.2.1)
     ob (bre_reader_bytes n (y12.1, y10.2.1, v14, y10.2.2.2.1, y10.2.2.2.2.1, y10.2.2.2.2.2.1, ())) fun y15 =>
     some (.inl (y15.1, y15.2.1, y15.2.2.1, y15.2.2.2.1, y15.2.2.2.2.1, y15.2.2.2.2.2.1, ()))))) (
   ob (bre_reader_ahead n ([92], y10.2.1, y10.2.2.1, y10.2.2.2.1, y10.2.2.2.2.1, y10.2.2.2.2.2.1, ())) fun y16 =>
   br y16.1 (
    ob2 (bre_reader_escaped n r_bre_reader_row (first_1, y16.2.1, y16.2.2.1, y16.2.2.2.1, y16.2.2.2.2.1, y16.2.2.2.2.2.1, ())) (fun y17 =>
     some (.inl (y17.1, y17.2.1, y17.2.2.1, y17.2.2.2.1, y17.2.2.2.2.1, y17.2.2.2.2.2.1, ()))) (fun y17 =>
     some (.inr (y17.1, y17.2.1, y17.2.2.1, y17.2.2.2.1, y17.2.2.2.2.1, y17.2.2.2.2.2.1, y17.2.2.2.2.2.2.1, ())))) (
    let v18 : Int := IntKind.wrap .i64 (y16.2.2.1 + 1)
    let v19 : Int := IntKind.wrap .i64 (v18 - 1)
    chk ((decide (0 ≤ v18) && decide (v18 ≤ (y16.2.1.length : Int)) && (decide (0 ≤ v19) && decide (v19 ≤ v18)))) (
     let v20 : List UInt8 := (y16.2.1.take v18.toNat).drop v19.toNat
     ob (set_Of n v20) fun y21 =>
     ob (bre_reader_bytes n (y21, y16.2.1, v18, y16.2.2.2.1, y16.2.2.2.2.1, y16.2.2.2.2.2.1, ())) fun y22 =>
     some (.inl (y22.1, y22.2.1, y22.2.2.1, y22.2.2.2.1, y22.2.2.2.2.1, y22.2.2.2.2.2.1, ()))))))
def bre_reader_row_loop1 (n : Nat) (g1 : Int × Int × List UInt8 × Int × Int × List (Bool) × List (NdT) × List (Int) × Unit → Option RdrO) (x50 : Int × Int × List UInt8 × Int × Int × List (Bool) × List (NdT) × List (Int) × Unit) : Option RdrO :=
 let top_51 : Int := x50.1
 let k_52 : Int := x50.2.1
 let s53 : List UInt8 := x50.2.2.1
 let at54 : Int := x50.2.2.2.1
 let begun55 : Int := x50.2.2.2.2.1
 let ended56 : List (Bool) := x50.2.2.2.2.2.1
 let row57 : List (NdT) := x50.2.2.2.2.2.2.1
 let row58 : List (Int) := x50.2.2.2.2.2.2.2.1
 br (decide (k_52 ≥ 0)) (
  chk ((inB k_52 (row58.length) && decide (0 + (row58.length) ≤ row58.length))) (
   chk (decide (0 + k_52.toNat < row58.length)) (
    let v59 : Int := row58.getD (0 + k_52.toNat) (Ty.dflt (.int .i64))
    ob (bre_reader_put n (4, [0, 0, 0, 0], v59, top_51, 0, 0, 0, s53, at54, begun55, ended56, row57, ())) fun y60 =>
    let v61 : Int := IntKind.wrap .i64 (k_52 - 1)
    g1 (y60.1, v61, y60.2.1, y60.2.2.1, y60.2.2.2.1, y60.2.2.2.2.1, y60.2.2.2.2.2.1, row58, ())))) (
  some (.inl (top_51, s53, at54, begun55, ended56, row57, ())))
def bre_reader_row_join2 (n : Nat) (x37 : List UInt8 × Int × Int × List (Bool) × List (NdT) × List (Int) × Unit) : Option RdrO :=
 let s38 : List UInt8 := x37.1
 let at39 : Int := x37.2.1
 let begun40 : Int := x37.2.2.1
 let ended41 : List (Bool) := x37.2.2.2.1
 let row42 : List (NdT) := x37.2.2.2.2.1
 let row43 : List (Int) := x37.2.2.2.2.2.1
 let v44 : Int := ((row43.length : Nat) : Int)
 br (v44 == 0) (
  some (.inl ((-1), s38, at39, begun40, ended41, row42, ()))) (
  let v45 : Int := ((row43.length : Nat) : Int)
  let v46 : Int := IntKind.wrap .i64 (v45 - 1)
  chk ((inB v46 (row43.length) && decide (0 + (row43.length) ≤ row43.length))) (
   chk (decide (0 + v46.toNat < row43.length)) (
    let v47 : Int := row43.getD (0 + v46.toNat) (Ty.dflt (.int .i64))
    let v48 : Int := ((row43.length : Nat) : Int)
    let v49 : Int := IntKind.wrap .i64 (v48 - 2)
    fix (bre_reader_row_loop1 n) n (v47, v49, s38, at39, begun40, ended41, row42, row43, ()))))
def bre_reader_row_join1 (n : Nat) (r_bre_reader_row : (RdrT) → Option RdrO) (g0 : Bool × List UInt8 × Int × Int × List (Bool) × List (NdT) × List (Int) × Unit → Option RdrO) (x26 : Bool × Bool × List UInt8 × Int × Int × List (Bool) × List (NdT) × List (Int) × Unit) : Option RdrO :=
 let first_27 : Bool := x26.1
 let t36_28 : Bool := x26.2.1
 let s29 : List UInt8 := x26.2.2.1
 let at30 : Int := x26.2.2.2.1
 let begun31 : Int := x26.2.2.2.2.1
 let ended32 : List (Bool) := x26.2.2.2.2.2.1
 let row33 : List (NdT) := x26.2.2.2.2.2.2.1
 let row34 : List (Int) := x26.2.2.2.2.2.2.2.1
 br t36_28 (
  let v35 : Int := IntKind.wrap .i64 (at30 + 1)
  ob (bre_reader_put n (3, [0, 0, 0, 0], 0, 0, 0, 0, 0, s29, v35, begun31, ended32, row33, ())) fun y36 =>
  chk (Nat.ble ((row34.length + ([y36.1] : List (Int)).length) * 8) room) (
   jn (bre_reader_row_join2 n) (y36.2.1, y36.2.2.1, y36.2.2.2.1, y36.2.2.2.2.1, y36.2.2.2.2.2.1, row34 ++ [y36.1], ()))) (
  ob2 (bre_reader_atom n r_bre_reader_row (first_27, s29, at30, begun31, ended32, row33, ())) (fun y62 =>
   ob2 (bre_reader_times n (y62.1, y62.2.1, y62.2.2.1, y62.2.2.2.1, y62.2.2.2.2.1, y62.2.2.2.2.2.1, ())) (fun y63 =>
    chk (Nat.ble ((row34.length + ([y63.1] : List (Int)).length) * 8) room) (
     g0 (false, y63.2.1, y63.2.2.1, y63.2.2.2.1, y63.2.2.2.2.1, y63.2.2.2.2.2.1, row34 ++ [y63.1], ()))) (fun y63 =>
    some (.inr (y63.1, y63.2.1, y63.2.2.1, y63.2.2.2.1, y63.2.2.2.2.1, y63.2.2.2.2.2.1, y63.2.2.2.2.2.2.1, ())))) (fun y62 =>
   some (.inr (y62.1, y62.2.1, y62.2.2.1, y62.2.2.2.1, y62.2.2.2.2.1, y62.2.2.2.2.2.1, y62.2.2.2.2.2.2.1, ()))))
def bre_reader_row_loop0 (n : Nat) (r_bre_reader_row : (RdrT) → Option RdrO) (g0 : Bool × List UInt8 × Int × Int × List (Bool) × List (NdT) × List (Int) × Unit → Option RdrO) (x15 : Bool × List UInt8 × Int × Int × List (Bool) × List (NdT) × List (Int) × Unit) : Option RdrO :=
 let first_16 : Bool := x15.1
 let s17 : List UInt8 := x15.2.1
 let at18 : Int := x15.2.2.1
 let begun19 : Int := x15.2.2.2.1
 let ended20 : List (Bool) := x15.2.2.2.2.1
 let row21 : List (NdT) := x15.2.2.2.2.2.1
 let row22 : List (Int) := x15.2.2.2.2.2.2.1
 ob (bre_reader_closes n (s17, at18, begun19, ended20, row21, ())) fun y23 =>
 br (!y23.1) (
  ob (bre_reader_ahead n ([36], y23.2.1, y23.2.2.1, y23.2.2.2.1, y23.2.2.2.2.1, y23.2.2.2.2.2.1, ())) fun y24 =>
  br y24.1 (
   let v25 : Int := IntKind.wrap .i64 (y24.2.2.1 + 1)
   br (v25 == (y24.2.1.length : Int)) (
    jn (bre_reader_row_join1 n r_bre_reader_row g0) (first_16, true, y24.2.1, y24.2.2.1, y24.2.2.2.1, y24.2.2.2.2.1, y24.2.2.2.2.2.1, row22, ())) (
    ob (bre_reader_ahead n ([36, 92, 41], y24.2.1, y24.2.2.1, y24.2.2.2.1, y24.2.2.2.2.1, y24.2.2.2.2.2.1, ())) fun y64 =>
    jn (bre_reader_row_join1 n r_bre_reader_row g0) (first_16, y64.1, y64.2.1, y64.2.2.1, y64.2.2.2.1, y64.2.2.2.2.1, y64.2.2.2.2.2.1, row22, ()))) (
   jn (bre_reader_row_join1 n r_bre_reader_row g0) (first_16, false, y24.2.1, y24.2.2.1, y24.2.2.2.1, y24.2.2.2.2.1, y24.2.2.2.2.2.1, row22, ()))) (
  jn (bre_reader_row_join2 n) (y23.2.1, y23.2.2.1, y23.2.2.2.1, y23.2.2.2.2.1, y23.2.2.2.2.2.1, row22, ()))
def bre_reader_row_join0 (n : Nat) (r_bre_reader_row : (RdrT) → Option RdrO) (x8 : List UInt8 × Int × Int × List (Bool) × List (NdT) × List (Int) × Unit) : Option RdrO :=
 let s9 : List UInt8 := x8.1
 let at10 : Int := x8.2.1
 let begun11 : Int := x8.2.2.1
 let ended12 : List (Bool) := x8.2.2.2.1
 let row13 : List (NdT) := x8.2.2.2.2.1
 let row14 : List (Int) := x8.2.2.2.2.2.1
 fix (bre_reader_row_loop0 n r_bre_reader_row) n (true, s9, at10, begun11, ended12, row13, row14, ())
def bre_reader_row_body (n : Nat) (r_bre_reader_row : (RdrT) → Option RdrO) (x : RdrT) : Option RdrO :=
 let s1 : List UInt8 := x.1
 let at2 : Int := x.2.1
 let begun3 : Int := x.2.2.1
 let ended4 : List (Bool) := x.2.2.2.1
 let row5 : List (NdT) := x.2.2.2.2.1
 ob (bre_reader_took n ([94], s1, at2, begun3, ended4, row5, ())) fun y6 =>
 br y6.1 (
  ob (bre_reader_put n (2, [0, 0, 0, 0], 0, 0, 0, 0, 0, y6.2.1, y6.2.2.1, y6.2.2.2.1, y6.2.2.2.2.1, y6.2.2.2.2.2.1, ())) fun y7 =>
  chk (Nat.ble (([y7.1] : List (Int)).length * 8) room) (
   jn (bre_reader_row_join0 n r_bre_reader_row) (y7.2.1, y7.2.2.1, y7.2.2.2.1, y7.2.2.2.2.1, y7.2.2.2.2.2.1, [y7.1], ()))) (
  jn (bre_reader_row_join0 n r_bre_reader_row) (y6.2.1, y6.2.2.1, y6.2.2.2.1, y6.2.2.2.2.1, y6.2.2.2.2.2.1, [], ()))
def bre_reader_row (n : Nat) : (RdrT) → Option RdrO :=
 recN (fun n r x => bre_reader_row_body n r x) n
def bre_Parse_1 (n : Nat) (x : List UInt8 × RdrT) : Option (Sum (List UInt8 × RdrT) (Int × Int × List UInt8 × RdrT)) :=
 let b1 : List UInt8 := x.1
 let s2 : List UInt8 := x.2.1
 let at3 : Int := x.2.2.1
 let begun4 : Int := x.2.2.2.1
 let ended5 : List (Bool) := x.2.2.2.2.1
 let row6 : List (NdT) := x.2.2.2.2.2.1
 ob2 (bre_reader_row n (s2, at3, begun4, ended5, row6, ())) (fun y7 =>
  br (decide (y7.2.2.1 < (b1.length : Int))) (
   ob2 (bre_reader_give n (41, y7.2.2.1, y7.2.1, y7.2.2.1, y7.2.2.2.1, y7.2.2.2.2.1, y7.2.2.2.2.2.1, ())) (fun y8 =>
    none) (fun y8 =>
    some (.inr (y8.1, y8.2.1, b1, y8.2.2.1, y8.2.2.2.1, y8.2.2.2.2.1, y8.2.2.2.2.2.1, y8.2.2.2.2.2.2.1, ())))) (
   let v9 : Int := ((y7.2.2.2.2.2.1.length : Nat) : Int)
   br (decide (v9 > 120)) (
    ob2 (bre_reader_give n (2, 0, y7.2.1, y7.2.2.1, y7.2.2.2.1, y7.2.2.2.2.1, y7.2.2.2.2.2.1, ())) (fun y10 =>
     none) (fun y10 =>
     some (.inr (y10.1, y10.2.1, b1, y10.2.2.1, y10.2.2.2.1, y10.2.2.2.2.1, y10.2.2.2.2.2.1, y10.2.2.2.2.2.2.1, ())))) (
    some (.inl (b1, y7.2.1, y7.2.2.1, y7.2.2.2.1, y7.2.2.2.2.1, y7.2.2.2.2.2.1, ()))))) (fun y7 =>
  some (.inr (y7.1, y7.2.1, b1, y7.2.2.1, y7.2.2.2.1, y7.2.2.2.2.1, y7.2.2.2.2.2.1, y7.2.2.2.2.2.2.1, ())))
def bre_tried__bre_Parse_1 (n : Nat) (x : List UInt8 × RdrT) : Option (Int × Int × List UInt8 × RdrT) := ob2 (bre_Parse_1 n x) (fun y => some (0, 0, y)) (fun y => some y)
def bre_Parse (n : Nat) (x : List UInt8) : Option (List (NdT) × Int × Int) :=
 let s_0 : List UInt8 := x
 br (s_0 == []) (
  some ([(0, ([0, 0, 0, 0], (0, (0, (0, (0, (0, ())))))))], 0, 0)) (
  ob (bre_tried__bre_Parse_1 n (s_0, s_0, 0, 0, [false, false, false, false, false, false, false, false, false, false], [], ())) fun y1 =>
  br (y1.1 != 0) (
   some ([], y1.2.1, y1.1)) (
   some (y1.2.2.2.2.2.2.2.1, 0, 0)))
def rx_Node_parts (n : Nat) (x : Int × List (Int) × Int × Int × Int × Int × Int × Unit) : Option (Int) :=
 let n_0 : Int × List (Int) × Int × Int × Int × Int × Int × Unit := x
 br (n_0.1 == 4) (
  br (n_0.1 == 4) (
   some 2) (
   br (n_0.1 == 6) (
    br (n_0.1 == 6) (
     some 1) (
     some 0)) (
    br (n_0.1 == 7) (
     some 1) (
     some 0)))) (
  br (n_0.1 == 5) (
   some 2) (
   br (n_0.1 == 6) (
    br (n_0.1 == 6) (
     some 1) (
     some 0)) (
    br (n_0.1 == 7) (
     some 1) (
     some 0))))
def rx_Node_plain (n : Nat) (x : Int × List (Int) × Int × Int × Int × Int × Int × Unit) : Option (NdT) :=
 let n_0 : Int × List (Int) × Int × Int × Int × Int × Int × Unit := x
 br (n_0.1 == 1) (
  some (n_0.1, (n_0.2.1, (0, (0, (0, (0, (0, ())))))))) (
  br (n_0.1 == 4) (
   br (n_0.1 == 4) (
    some (n_0.1, ([0, 0, 0, 0], (n_0.2.2.1, (n_0.2.2.2.1, (0, (0, (0, ())))))))) (
    br (n_0.1 == 6) (
     some (n_0.1, ([0, 0, 0, 0], (n_0.2.2.1, (0, (n_0.2.2.2.2.1, (n_0.2.2.2.2.2.1, (0, ())))))))) (
     br (n_0.1 == 7) (
      some (n_0.1, ([0, 0, 0, 0], (n_0.2.2.1, (0, (0, (0, n_0.2.2.2.2.2.2))))))) (
      br (n_0.1 == 8) (
       some (n_0.1, ([0, 0, 0, 0], (0, (0, (0, (0, n_0.2.2.2.2.2.2))))))) (
       some (n_0.1, ([0, 0, 0, 0], (0, (0, (0, (0, (0, ())))))))))))) (
   br (n_0.1 == 5) (
    some (n_0.1, ([0, 0, 0, 0], (n_0.2.2.1, (n_0.2.2.2.1, (0, (0, (0, ())))))))) (
    br (n_0.1 == 6) (
     some (n_0.1, ([0, 0, 0, 0], (n_0.2.2.1, (0, (n_0.2.2.2.2.1, (n_0.2.2.2.2.2.1, (0, ())))))))) (
     br (n_0.1 == 7) (
      some (n_0.1, ([0, 0, 0, 0], (n_0.2.2.1, (0, (0, (0, n_0.2.2.2.2.2.2))))))) (
      br (n_0.1 == 8) (
       some (n_0.1, ([0, 0, 0, 0], (0, (0, (0, (0, n_0.2.2.2.2.2.2))))))) (
       some (n_0.1, ([0, 0, 0, 0], (0, (0, (0, (0, (0, ())))))))))))))
def rx_Node_one (n : Nat) (x : Int × List (Int) × Int × Int × Int × Int × Int × Unit) : Option (Bool) :=
 let n_0 : Int × List (Int) × Int × Int × Int × Int × Int × Unit := x
 br (decide (n_0.1 < 0)) (
  some false) (
  br (decide (n_0.1 > 8)) (
   some false) (
   ob (rx_Node_plain n n_0) fun y1 =>
   br (!(Ty.beq TSiA4wiiiiiE n_0 y1)) (
    some false) (
    br (n_0.1 == 1) (
     some (!(Ty.beq (.arr 4 (.int .u64)) n_0.2.1 ([0, 0, 0, 0])))) (
     br (n_0.1 == 6) (
      br (decide (n_0.2.2.2.2.1 ≥ 0)) (
       br (decide (n_0.2.2.2.2.1 ≤ 255)) (
        br (n_0.2.2.2.2.2.1 == (-1)) (
         some true) (
         let v2 : Int := if 1 > n_0.2.2.2.2.1 then 1 else n_0.2.2.2.2.1
         br (decide (n_0.2.2.2.2.2.1 ≥ v2)) (
          some (decide (n_0.2.2.2.2.2.1 ≤ 255))) (
          some false))) (
        some false)) (
       some false)) (
      br (n_0.1 == 7) (
       br (n_0.1 == 7) (
        br (decide (n_0.2.2.2.2.2.2.1 ≥ 1)) (
         some (decide (n_0.2.2.2.2.2.2.1 ≤ 9))) (
         some false)) (
        some true)) (
       br (n_0.1 == 8) (
        br (decide (n_0.2.2.2.2.2.2.1 ≥ 1)) (
         some (decide (n_0.2.2.2.2.2.2.1 ≤ 9))) (
         some false)) (
        some true)))))))
def slices_Index_Int_loop0 (n : Nat) (g0 : List (Int) × Int × Int × Int × Unit → Option (Int)) (x1 : List (Int) × Int × Int × Int × Unit) : Option (Int) :=
 let s_2 : List (Int) := x1.1
 let v_3 : Int := x1.2.1
 let t7_4 : Int := x1.2.2.1
 let t8_5 : Int := x1.2.2.2.1
 br (decide (t8_5 < t7_4)) (
  chk (inB t8_5 s_2.length) (
   let v6 : Int := getAt (Ty.dflt (.int .i64)) s_2 t8_5
   br (v_3 == v6) (
    some t8_5) (
    let v7 : Int := IntKind.wrap .i64 (t8_5 + 1)
    g0 (s_2, v_3, t7_4, v7, ())))) (
  some (-1))
def slices_Index_Int (n : Nat) (x : List (Int) × Int) : Option (Int) :=
 let s_0 : List (Int) := x.1
 let v_1 : Int := x.2
 fix (slices_Index_Int_loop0 n) n (s_0, v_1, (s_0.length : Int), 0, ())
def slices_Contains_Int (n : Nat) (x : List (Int) × Int) : Option (Bool) :=
 let s_0 : List (Int) := x.1
 let v_1 : Int := x.2
 ob (slices_Index_Int n (s_0, v_1)) fun y1 =>
 some (decide (y1 ≥ 0))
def rx_fits (n : Nat) (x : List (NdT) × Int × List (Int) × Int × Int × Int × Int × Int × Unit) : Option (Bool) :=
 let l_0 : List (NdT) := x.1
 let n_1 : Int × List (Int) × Int × Int × Int × Int × Int × Unit := x.2
 br (n_1.1 == 4) (
  chk (inB n_1.2.2.1 l_0.length) (
   let v1 : Int × List (Int) × Int × Int × Int × Int × Int × Unit := getAt (Ty.dflt TSiA4wiiiiiE) l_0 n_1.2.2.1
   br (v1.1 != 4) (
    chk (inB n_1.2.2.1 l_0.length) (
     let v2 : Int × List (Int) × Int × Int × Int × Int × Int × Unit := getAt (Ty.dflt TSiA4wiiiiiE) l_0 n_1.2.2.1
     br (v2.1 != 5) (
      chk (inB n_1.2.2.2.1 l_0.length) (
       let v3 : Int × List (Int) × Int × Int × Int × Int × Int × Unit := getAt (Ty.dflt TSiA4wiiiiiE) l_0 n_1.2.2.2.1
       some (v3.1 != 5))) (
      some false))) (
    some false))) (
  br (n_1.1 == 5) (
   chk (inB n_1.2.2.1 l_0.length) (
    let v4 : Int × List (Int) × Int × Int × Int × Int × Int × Unit := getAt (Ty.dflt TSiA4wiiiiiE) l_0 n_1.2.2.1
    some (v4.1 != 5))) (
   br (n_1.1 == 6) (
    chk (inB n_1.2.2.1 l_0.length) (
     let v5 : Int × List (Int) × Int × Int × Int × Int × Int × Unit := getAt (Ty.dflt TSiA4wiiiiiE) l_0 n_1.2.2.1
     ob (slices_Contains_Int n ([1, 7, 8], v5.1)) fun y6 =>
     some y6)) (
    some true)))
def rx_ordered_loop0 (n : Nat) (g0 : List (NdT) × List (NdT) × Int × Int × List (Int) × Unit → Option (Bool)) (x1 : List (NdT) × List (NdT) × Int × Int × List (Int) × Unit) : Option (Bool) :=
 let l_2 : List (NdT) := x1.1
 let t8_3 : List (NdT) := x1.2.1
 let t9_4 : Int := x1.2.2.1
 let t10_5 : Int := x1.2.2.2.1
 let row6 : List (Int) := x1.2.2.2.2.1
 br (decide (t10_5 < t9_4)) (
  chk (inB t10_5 t8_3.length) (
   let v7 : Int × List (Int) × Int × Int × Int × Int × Int × Unit := getAt (Ty.dflt TSiA4wiiiiiE) t8_3 t10_5
   let v8 : Int := ((row6.length : Nat) : Int)
   ob (rx_Node_parts n v7) fun y9 =>
   let v10 : Int := IntKind.wrap .i64 (v8 - y9)
   ob (rx_Node_one n v7) fun y11 =>
   br (!y11) (
    some false) (
    br (decide (v10 < 0)) (
     some false) (
     br (v7.1 == 0) (
      br (decide ((l_2.length : Int) > 1)) (
       some false) (
       chk ((decide (0 ≤ v10) && decide (v10 ≤ (row6.length : Int)))) (
        let v12 : Int := (((row6.length) - (v10.toNat) : Nat) : Int)
        br (decide (v12 > 0)) (
         chk ((inB 0 ((row6.length) - (v10.toNat)) && decide ((0 + (v10.toNat)) + ((row6.length) - (v10.toNat)) ≤ row6.length))) (
          chk (decide ((0 + (v10.toNat)) + (0 : Int).toNat < row6.length)) (
           let v13 : Int := row6.getD ((0 + (v10.toNat)) + (0 : Int).toNat) (Ty.dflt (.int .i64))
           br (v13 != v7.2.2.1) (
            some false) (
            let v14 : Int := (((row6.length) - (v10.toNat) : Nat) : Int)
            br (decide (v14 > 1)) (
             chk ((inB 1 ((row6.length) - (v10.toNat)) && decide ((0 + (v10.toNat)) + ((row6.length) - (v10.toNat)) ≤ row6.length))) (
              chk (decide ((0 + (v10.toNat)) + (1 : Int).toNat < row6.length)) (
               let v15 : Int := row6.getD ((0 + (v10.toNat)) + (1 : Int).toNat) (Ty.dflt (.int .i64))
               br (v15 != v7.2.2.2.1) (
                some false) (
                ob (rx_fits n (l_2, v7)) fun y16 =>
                br (!y16) (
                 some false) (
                 chk ((decide (0 ≤ v10) && decide (v10 ≤ (row6.length : Int)))) (
                  chk ((Nat.ble (v10.toNat) row6.length && Nat.ble (((v10.toNat) + ([t10_5] : List (Int)).length) * 8) room)) (
                   let r17 : List (Int) := row6.take (v10.toNat) ++ [t10_5]
                   let v18 : Int := IntKind.wrap .i64 (t10_5 + 1)
                   g0 (l_2, t8_3, t9_4, v18, r17, ())))))))) (
             ob (rx_fits n (l_2, v7)) fun y19 =>
             br (!y19) (
              some false) (
              chk ((decide (0 ≤ v10) && decide (v10 ≤ (row6.length : Int)))) (
               chk ((Nat.ble (v10.toNat) row6.length && Nat.ble (((v10.toNat) + ([t10_5] : List (Int)).length) * 8) room)) (
                let r20 : List (Int) := row6.take (v10.toNat) ++ [t10_5]
                let v21 : Int := IntKind.wrap .i64 (t10_5 + 1)
                g0 (l_2, t8_3, t9_4, v21, r20, ()))))))))) (
         ob (rx_fits n (l_2, v7)) fun y22 =>
         br (!y22) (
          some false) (
          chk ((decide (0 ≤ v10) && decide (v10 ≤ (row6.length : Int)))) (
           chk ((Nat.ble (v10.toNat) row6.length && Nat.ble (((v10.toNat) + ([t10_5] : List (Int)).length) * 8) room)) (
            let r23 : List (Int) := row6.take (v10.toNat) ++ [t10_5]
            let v24 : Int := IntKind.wrap .i64 (t10_5 + 1)
            g0 (l_2, t8_3, t9_4, v24, r23, ())))))))) (
      chk ((decide (0 ≤ v10) && decide (v10 ≤ (row6.length : Int)))) (
       let v25 : Int := (((row6.length) - (v10.toNat) : Nat) : Int)
       br (decide (v25 > 0)) (
        chk ((inB 0 ((row6.length) - (v10.toNat)) && decide ((0 + (v10.toNat)) + ((row6.length) - (v10.toNat)) ≤ row6.length))) (
         chk (decide ((0 + (v10.toNat)) + (0 : Int).toNat < row6.length)) (
          let v26 : Int := row6.getD ((0 + (v10.toNat)) + (0 : Int).toNat) (Ty.dflt (.int .i64))
          br (v26 != v7.2.2.1) (
           some false) (
           let v27 : Int := (((row6.length) - (v10.toNat) : Nat) : Int)
           br (decide (v27 > 1)) (
            chk ((inB 1 ((row6.length) - (v10.toNat)) && decide ((0 + (v10.toNat)) + ((row6.length) - (v10.toNat)) ≤ row6.length))) (
             chk (decide ((0 + (v10.toNat)) + (1 : Int).toNat < row6.length)) (
              let v28 : Int := row6.getD ((0 + (v10.toNat)) + (1 : Int).toNat) (Ty.dflt (.int .i64))
              br (v28 != v7.2.2.2.1) (
               some false) (
               ob (rx_fits n (l_2, v7)) fun y29 =>
               br (!y29) (
                some false) (
                chk ((decide (0 ≤ v10) && decide (v10 ≤ (row6.length : Int)))) (
                 chk ((Nat.ble (v10.toNat) row6.length && Nat.ble (((v10.toNat) + ([t10_5] : List (Int)).length) * 8) room)) (
                  let r30 : List (Int) := row6.take (v10.toNat) ++ [t10_5]
                  let v31 : Int := IntKind.wrap .i64 (t10_5 + 1)
                  g0 (l_2, t8_3, t9_4, v31, r30, ())))))))) (
            ob (rx_fits n (l_2, v7)) fun y32 =>
            br (!y32) (
             some false) (
             chk ((decide (0 ≤ v10) && decide (v10 ≤ (row6.length : Int)))) (
              chk ((Nat.ble (v10.toNat) row6.length && Nat.ble (((v10.toNat) + ([t10_5] : List (Int)).length) * 8) room)) (
               let r33 : List (Int) := row6.take (v10.toNat) ++ [t10_5]
               let v34 : Int := IntKind.wrap .i64 (t10_5 + 1)
               g0 (l_2, t8_3, t9_4, v34, r33, ()))))))))) (
        ob (rx_fits n (l_2, v7)) fun y35 =>
        br (!y35) (
         some false) (
         chk ((decide (0 ≤ v10) && decide (v10 ≤ (row6.length : Int)))) (
          chk ((Nat.ble (v10.toNat) row6.length && Nat.ble (((v10.toNat) + ([t10_5] : List (Int)).length) * 8) room)) (
           let r36 : List (Int) := row6.take (v10.toNat) ++ [t10_5]
           let v37 : Int := IntKind.wrap .i64 (t10_5 + 1)
           g0 (l_2, t8_3, t9_4, v37, r36, ()))))))))))) (
  let v38 : Int := ((row6.length : Nat) : Int)
  some (v38 == 1))
def rx_ordered (n : Nat) (x : List (NdT)) : Option (Bool) :=
 let l_0 : List (NdT) := x
 fix (rx_ordered_loop0 n) n (l_0, l_0, (l_0.length : Int), 0, [], ())
def rx_numbered_1_body (n : Nat) (r_rx_numbered_1 : (Int × List (NdT) × Int × Bool × List (Bool) × Bool × Unit) → Option (List (NdT) × Int × Bool × List (Bool) × Bool × Unit)) (x : Int × List (NdT) × Int × Bool × List (Bool) × Bool × Unit) : Option (List (NdT) × Int × Bool × List (Bool) × Bool × Unit) :=
 let i_1 : Int := x.1
 let b2 : List (NdT) := x.2.1
 let b3 : Int := x.2.2.1
 let b4 : Bool := x.2.2.2.1
 let b5 : List (Bool) := x.2.2.2.2.1
 let b6 : Bool := x.2.2.2.2.2.1
 chk (inB i_1 b2.length) (
  let v7 : Int × List (Int) × Int × Int × Int × Int × Int × Unit := getAt (Ty.dflt TSiA4wiiiiiE) b2 i_1
  br (v7.1 == 4) (
   br (v7.1 == 4) (
    ob (r_rx_numbered_1 (v7.2.2.1, b2, b3, b4, b5, b6, ())) fun y8 =>
    ob (r_rx_numbered_1 (v7.2.2.2.1, y8.1, y8.2.1, y8.2.2.1, y8.2.2.2.1, y8.2.2.2.2.1, ())) fun y9 =>
    some (y9.1, y9.2.1, y9.2.2.1, y9.2.2.2.1, y9.2.2.2.2.1, ())) (
    br (v7.1 == 6) (
     ob (r_rx_numbered_1 (v7.2.2.1, b2, b3, b4, b5, b6, ())) fun y10 =>
     some (y10.1, y10.2.1, y10.2.2.1, y10.2.2.2.1, y10.2.2.2.2.1, ())) (
     br (v7.1 == 7) (
      let v11 : Int := IntKind.wrap .i64 (b3 + 1)
      br b4 (
       ob (r_rx_numbered_1 (v7.2.2.1, b2, v11, (v7.2.2.2.2.2.2.1 == v11), b5, b6, ())) fun y12 =>
       chk (inB v7.2.2.2.2.2.2.1 10) (
        chk (decide (v7.2.2.2.2.2.2.1.toNat < 10)) (
         some (y12.1, y12.2.1, y12.2.2.1, y12.2.2.2.1.set (v7.2.2.2.2.2.2.1.toNat) true, y12.2.2.2.2.1, ())))) (
       ob (r_rx_numbered_1 (v7.2.2.1, b2, v11, false, b5, b6, ())) fun y13 =>
       chk (inB v7.2.2.2.2.2.2.1 10) (
        chk (decide (v7.2.2.2.2.2.2.1.toNat < 10)) (
         some (y13.1, y13.2.1, y13.2.2.1, y13.2.2.2.1.set (v7.2.2.2.2.2.2.1.toNat) true, y13.2.2.2.2.1, ()))))) (
      br (v7.1 == 8) (
       br b4 (
        chk (inB v7.2.2.2.2.2.2.1 10) (
         chk (decide (v7.2.2.2.2.2.2.1.toNat < 10)) (
          some (b2, b3, b5.getD (v7.2.2.2.2.2.2.1.toNat) (Ty.dflt .bool), b5, true, ())))) (
        some (b2, b3, false, b5, true, ()))) (
       some (b2, b3, b4, b5, b6, ())))))) (
   br (v7.1 == 5) (
    ob (r_rx_numbered_1 (v7.2.2.1, b2, b3, b4, b5, b6, ())) fun y14 =>
    ob (r_rx_numbered_1 (v7.2.2.2.1, y14.1, y14.2.1, y14.2.2.1, y14.2.2.2.1, y14.2.2.2.2.1, ())) fun y15 =>
    some (y15.1, y15.2.1, y15.2.2.1, y15.2.2.2.1, y15.2.2.2.2.1, ())) (
    br (v7.1 == 6) (
     ob (r_rx_numbered_1 (v7.2.2.1, b2, b3, b4, b5, b6, ())) fun y16 =>
     some (y16.1, y16.2.1, y16.2.2.1, y16.2.2.2.1, y16.2.2.2.2.1, ())) (
     br (v7.1 == 7) (
      let v17 : Int := IntKind.wrap .i64 (b3 + 1)
      br b4 (
       ob (r_rx_numbered_1 (v7.2.2.1, b2, v17, (v7.2.2.2.2.2.2.1 == v17), b5, b6, ())) fun y18 =>
       chk (inB v7.2.2.2.2.2.2.1 10) (
        chk (decide (v7.2.2.2.2.2.2.1.toNat < 10)) (
         some (y18.1, y18.2.1, y18.2.2.1, y18.2.2.2.1.set (v7.2.2.2.2.2.2.1.toNat) true, y18.2.2.2.2.1, ())))) (
       ob (r_rx_numbered_1 (v7.2.2.1, b2, v17, false, b5, b6, ())) fun y19 =>
       chk (inB v7.2.2.2.2.2.2.1 10) (
        chk (decide (v7.2.2.2.2.2.2.1.toNat < 10)) (
         some (y19.1, y19.2.1, y19.2.2.1, y19.2.2.2.1.set (v7.2.2.2.2.2.2.1.toNat) true, y19.2.2.2.2.1, ()))))) (
      br (v7.1 == 8) (
       br b4 (
        chk (inB v7.2.2.2.2.2.2.1 10) (
         chk (decide (v7.2.2.2.2.2.2.1.toNat < 10)) (
          some (b2, b3, b5.getD (v7.2.2.2.2.2.2.1.toNat) (Ty.dflt .bool), b5, true, ())))) (
        some (b2, b3, false, b5, true, ()))) (
       some (b2, b3, b4, b5, b6, ())))))))
def rx_numbered_1 (n : Nat) : (Int × List (NdT) × Int × Bool × List (Bool) × Bool × Unit) → Option (List (NdT) × Int × Bool × List (Bool) × Bool × Unit) :=
 recN (fun n r x => rx_numbered_1_body n r x) n
def rx_numbered (n : Nat) (x : List (NdT)) : Option (Int × Bool × Bool) :=
 let l_0 : List (NdT) := x
 let v1 : Int := IntKind.wrap .i64 ((l_0.length : Int) - 1)
 ob (rx_numbered_1 n (v1, l_0, 0, true, [false, false, false, false, false, false, false, false, false, false], false, ())) fun y2 =>
 some (y2.2.1, y2.2.2.2.2.1, y2.2.2.1)
def rx_look (n : Nat) (x : List (NdT)) : Option (Int × Bool × Bool) :=
 let l_0 : List (NdT) := x
 br ((l_0.length : Int) == 0) (
  some (0, false, false)) (
  br (decide ((l_0.length : Int) > 120)) (
   some (0, false, false)) (
   ob (rx_ordered n l_0) fun y1 =>
   br (!y1) (
    some (0, false, false)) (
    ob (rx_numbered n l_0) fun y2 =>
    br (!y2.2.2) (
     some (0, false, false)) (
     some (y2.1, y2.2.1, true)))))
def rx_May (n : Nat) (x : List (NdT)) : Option (Bool) :=
 let l_0 : List (NdT) := x
 ob (rx_look n l_0) fun y1 =>
 some y1.2.2
def bre_lone (n : Nat) (x : Int) : Option (List UInt8) :=
 let b_0 : Int := x
 br (b_0 == 10) (
  some [92, 110]) (
  ob (strings_IndexByte n ([46, 91, 92, 42, 94, 36], b_0)) fun y1 =>
  br (decide (y1 ≥ 0)) (
   chk (decide ([92].length + (bytesToS [b_0]).length ≤ maxStr)) (
    some ([92] ++ (bytesToS [b_0])))) (
   some (bytesToS [b_0])))
def set_Has (n : Nat) (x : List (Int) × Int) : Option (Bool) :=
 let s_0 : List (Int) := x.1
 let b_1 : Int := x.2
 chk (decide (0 ≤ 6)) (
  chk (inB (ishr .u8 b_1 6) 4) (
   chk (decide ((ishr .u8 b_1 6).toNat < 4)) (
    let v1 : Int := s_0.getD ((ishr .u8 b_1 6).toNat) (Ty.dflt (.int .u64))
    chk (decide (0 ≤ ibits .u8 .and b_1 63)) (
     let v2 : Int := ishr .u64 v1 (ibits .u8 .and b_1 63)
     some ((ibits .u64 .and v2 1) == 1)))))
def bre_runs_loop0 (n : Nat) (g0 : List UInt8 × Int × Int × List (List UInt8) × Unit → Option (List (List UInt8))) (x1 : List UInt8 × Int × Int × List (List UInt8) × Unit) : Option (List (List UInt8)) :=
 let s_2 : List UInt8 := x1.1
 let t6_3 : Int := x1.2.1
 let t7_4 : Int := x1.2.2.1
 let row5 : List (List UInt8) := x1.2.2.2.1
 br (decide (t7_4 < t6_3)) (
  let v6 : Int := ((row5.length : Nat) : Int)
  let v7 : Int := IntKind.wrap .i64 (v6 - 1)
  br (decide (v7 ≥ 0)) (
   chk (inB t7_4 s_2.length) (
    let v8 : Int := ((getAt 0 s_2 t7_4).toNat : Int)
    let v9 : Int := IntKind.wrap .i64 (t7_4 - 1)
    chk (inB v9 s_2.length) (
     let v10 : Int := ((getAt 0 s_2 v9).toNat : Int)
     let v11 : Int := IntKind.wrap .u8 (v10 + 1)
     br (v8 == v11) (
      chk ((inB v7 (row5.length) && decide (0 + (row5.length) ≤ row5.length))) (
       chk (decide (0 + v7.toNat < row5.length)) (
        let v12 : List UInt8 := row5.getD (0 + v7.toNat) (Ty.dflt .str)
        let v13 : Int := IntKind.wrap .i64 (t7_4 + 1)
        chk ((decide (0 ≤ v13) && decide (v13 ≤ (s_2.length : Int)) && (decide (0 ≤ t7_4) && decide (t7_4 ≤ v13)))) (
         let v14 : List UInt8 := (s_2.take v13.toNat).drop t7_4.toNat
         chk (decide (v12.length + v14.length ≤ maxStr)) (
          chk ((inB v7 (row5.length) && decide (0 + (row5.length) ≤ row5.length))) (
           chk (decide (0 + v7.toNat < row5.length)) (
            let r15 : List (List UInt8) := row5.set (0 + v7.toNat) (v12 ++ v14)
            let v16 : Int := IntKind.wrap .i64 (t7_4 + 1)
            g0 (s_2, t6_3, v16, r15, ())))))))) (
      let v17 : Int := IntKind.wrap .i64 (t7_4 + 1)
      chk ((decide (0 ≤ v17) && decide (v17 ≤ (s_2.length : Int)) && (decide (0 ≤ t7_4) && decide (t7_4 ≤ v17)))) (
       let v18 : List UInt8 := (s_2.take v17.toNat).drop t7_4.toNat
       chk (Nat.ble ((row5.length + ([v18] : List (List UInt8)).length) * 16) room) (
        let v19 : Int := IntKind.wrap .i64 (t7_4 + 1)
        g0 (s_2, t6_3, v19, row5 ++ [v18], ()))))))) (
   let v20 : Int := IntKind.wrap .i64 (t7_4 + 1)
   chk ((decide (0 ≤ v20) && decide (v20 ≤ (s_2.length : Int)) && (decide (0 ≤ t7_4) && decide (t7_4 ≤ v20)))) (
    let v21 : List UInt8 := (s_2.take v20.toNat).drop t7_4.toNat
    chk (Nat.ble ((row5.length + ([v21] : List (List UInt8)).length) * 16) room) (
     let v22 : Int := IntKind.wrap .i64 (t7_4 + 1)
     g0 (s_2, t6_3, v22, row5 ++ [v21], ()))))) (
  some row5)
def bre_runs (n : Nat) (x : List UInt8) : Option (List (List UInt8)) :=
 let s_0 : List UInt8 := x
 fix (bre_runs_loop0 n) n (s_0, (s_0.length : Int), 0, [], ())
def bre_Show_loop2 (n : Nat) (g2 : List UInt8 × Int × Int × List (Int) × List (List UInt8) × Unit → Option (List UInt8)) (x35 : List UInt8 × Int × Int × List (Int) × List (List UInt8) × Unit) : Option (List UInt8) :=
 let b_36 : List UInt8 := x35.1
 let t72_37 : Int := x35.2.1
 let t73_38 : Int := x35.2.2.1
 let b39 : List (Int) := x35.2.2.2.1
 let row40 : List (List UInt8) := x35.2.2.2.2.1
 br (decide (t73_38 < t72_37)) (
  chk ((inB t73_38 (row40.length) && decide (0 + (row40.length) ≤ row40.length))) (
   chk (decide (0 + t73_38.toNat < row40.length)) (
    let v41 : List UInt8 := row40.getD (0 + t73_38.toNat) (Ty.dflt .str)
    chk (inB 0 v41.length) (
     let v42 : Int := ((getAt 0 v41 0).toNat : Int)
     ob (set_Has n (b39, v42)) fun y43 =>
     br y43 (
      br (v41 == [10]) (
       chk (decide (b_36.length + ([92, 110] : List UInt8).length ≤ maxStr)) (
        let v44 : Int := IntKind.wrap .i64 (t73_38 + 1)
        g2 (b_36 ++ [92, 110], t72_37, v44, b39, row40, ()))) (
       chk (inB 0 v41.length) (
        let v45 : Int := ((getAt 0 v41 0).toNat : Int)
        ob (set_Has n (b39, v45)) fun y46 =>
        br y46 (
         chk (decide (b_36.length + v41.length ≤ maxStr)) (
          let v47 : Int := IntKind.wrap .i64 (t73_38 + 1)
          g2 (b_36 ++ v41, t72_37, v47, b39, row40, ()))) (
         let v48 : Int := IntKind.wrap .i64 (t73_38 + 1)
         g2 (b_36, t72_37, v48, b39, row40, ()))))) (
      chk (inB 0 v41.length) (
       let v49 : Int := ((getAt 0 v41 0).toNat : Int)
       ob (set_Has n (b39, v49)) fun y50 =>
       br y50 (
        chk (decide (b_36.length + v41.length ≤ maxStr)) (
         let v51 : Int := IntKind.wrap .i64 (t73_38 + 1)
         g2 (b_36 ++ v41, t72_37, v51, b39, row40, ()))) (
        let v52 : Int := IntKind.wrap .i64 (t73_38 + 1)
        g2 (b_36, t72_37, v52, b39, row40, ())))))))) (
  chk (decide (b_36.length + ([93] : List UInt8).length ≤ maxStr)) (
   some (b_36 ++ [93])))
def bre_Show_loop1 (n : Nat) (g1 : List UInt8 × List (List UInt8) × Int × Int × List (Int) × Unit → Option (List UInt8)) (x22 : List UInt8 × List (List UInt8) × Int × Int × List (Int) × Unit) : Option (List UInt8) :=
 let b_23 : List UInt8 := x22.1
 let t49_24 : List (List UInt8) := x22.2.1
 let t50_25 : Int := x22.2.2.1
 let t51_26 : Int := x22.2.2.2.1
 let b27 : List (Int) := x22.2.2.2.2.1
 br (decide (t51_26 < t50_25)) (
  chk (inB t51_26 t49_24.length) (
   let v28 : List UInt8 := getAt (Ty.dflt .str) t49_24 t51_26
   br (decide ((v28.length : Int) > 2)) (
    chk ((decide (0 ≤ (1 : Int)) && decide ((1 : Int) ≤ (v28.length : Int)))) (
     chk (decide ((v28.take (1 : Int).toNat).length + ([45] : List UInt8).length ≤ maxStr)) (
      let v29 : List UInt8 := (v28.take (1 : Int).toNat) ++ [45]
      let v30 : Int := IntKind.wrap .i64 ((v28.length : Int) - 1)
      chk ((decide (0 ≤ v30) && decide (v30 ≤ (v28.length : Int)))) (
       chk (decide (v29.length + (v28.drop v30.toNat).length ≤ maxStr)) (
        let v31 : List UInt8 := v29 ++ (v28.drop v30.toNat)
        chk (decide (b_23.length + v31.length ≤ maxStr)) (
         let v32 : Int := IntKind.wrap .i64 (t51_26 + 1)
         g1 (b_23 ++ v31, t49_24, t50_25, v32, b27, ()))))))) (
    chk (decide (b_23.length + v28.length ≤ maxStr)) (
     let v33 : Int := IntKind.wrap .i64 (t51_26 + 1)
     g1 (b_23 ++ v28, t49_24, t50_25, v33, b27, ()))))) (
  let v34 : Int := (([[10], [91], [92], [94], [45]].length : Nat) : Int)
  fix (bre_Show_loop2 n) n (b_23, v34, 0, b27, [[10], [91], [92], [94], [45]], ()))
def bre_Show_loop0 (n : Nat) (g0 : List UInt8 × List (Int) × Int × Int × List (Int) × List (Int) × Unit → Option (List UInt8)) (x10 : List UInt8 × List (Int) × Int × Int × List (Int) × List (Int) × Unit) : Option (List UInt8) :=
 let b_11 : List UInt8 := x10.1
 let t33_12 : List (Int) := x10.2.1
 let t34_13 : Int := x10.2.2.1
 let t35_14 : Int := x10.2.2.2.1
 let b15 : List (Int) := x10.2.2.2.2.1
 let row16 : List (Int) := x10.2.2.2.2.2.1
 br (decide (t35_14 < t34_13)) (
  chk (inB t35_14 t33_12.length) (
   let v17 : Int := getAt (Ty.dflt (.int .u8)) t33_12 t35_14
   ob (strings_IndexByte n ([93, 91, 92, 94, 45, 10], v17)) fun y18 =>
   br (decide (y18 < 0)) (
    chk (Nat.ble ((row16.length + ([v17] : List (Int)).length) * 1) room) (
     let v19 : Int := IntKind.wrap .i64 (t35_14 + 1)
     g0 (b_11, t33_12, t34_13, v19, b15, row16 ++ [v17], ()))) (
    let v20 : Int := IntKind.wrap .i64 (t35_14 + 1)
    g0 (b_11, t33_12, t34_13, v20, b15, row16, ())))) (
  ob (bre_runs n (bytesToS row16)) fun y21 =>
  fix (bre_Show_loop1 n) n (b_11, y21, (y21.length : Int), 0, b15, ()))
def bre_Show_join0 (n : Nat) (x5 : List UInt8 × List UInt8 × List (Int) × Unit) : Option (List UInt8) :=
 let l_6 : List UInt8 := x5.1
 let b_7 : List UInt8 := x5.2.1
 let b8 : List (Int) := x5.2.2.1
 chk (Nat.ble l_6.length room) (
  let v9 : Int := ((sToBytes l_6).length : Int)
  fix (bre_Show_loop0 n) n (b_7, sToBytes l_6, v9, 0, b8, [], ()))
def bre_Show (n : Nat) (x : List (Int)) : Option (List UInt8) :=
 let s_0 : List (Int) := x
 ob (set_Bytes n s_0) fun y1 =>
 br ((y1.length : Int) == 0) (
  some []) (
  br ((y1.length : Int) == 1) (
   chk (inB 0 y1.length) (
    let v2 : Int := ((getAt 0 y1 0).toNat : Int)
    ob (bre_lone n v2) fun y3 =>
    some y3)) (
   br ((y1.length : Int) == 256) (
    some [46]) (
    br (y1 == [45, 94]) (
     some [91, 45, 94, 93]) (
     ob (set_Has n (s_0, 93)) fun y4 =>
     br y4 (
      chk (decide ([91].length + ([93] : List UInt8).length ≤ maxStr)) (
       jn (bre_Show_join0 n) (y1, [91] ++ [93], s_0, ()))) (
      jn (bre_Show_join0 n) (y1, [91], s_0, ()))))))
def bre_count (n : Nat) (x : Int × List (Int) × Int × Int × Int × Int × Int × Unit) : Option (List UInt8) :=
 let n_0 : Int × List (Int) × Int × Int × Int × Int × Int × Unit := x
 ob (strconv_Itoa n n_0.2.2.2.2.1) fun y1 =>
 ob (strconv_Itoa n n_0.2.2.2.2.2.1) fun y2 =>
 br (n_0.2.2.2.2.2.1 == (-1)) (
  br (n_0.2.2.2.2.1 == 0) (
   some [42]) (
   br (n_0.2.2.2.2.2.1 == (-1)) (
    chk (decide ([92, 123].length + y1.length ≤ maxStr)) (
     chk (decide (([92, 123] ++ y1).length + ([44, 92, 125] : List UInt8).length ≤ maxStr)) (
      let v3 : List UInt8 := ([92, 123] ++ y1) ++ [44, 92, 125]
      some v3))) (
    br (n_0.2.2.2.2.2.1 == n_0.2.2.2.2.1) (
     chk (decide ([92, 123].length + y1.length ≤ maxStr)) (
      chk (decide (([92, 123] ++ y1).length + ([92, 125] : List UInt8).length ≤ maxStr)) (
       let v4 : List UInt8 := ([92, 123] ++ y1) ++ [92, 125]
       some v4))) (
     chk (decide ([92, 123].length + y1.length ≤ maxStr)) (
      chk (decide (([92, 123] ++ y1).length + ([44] : List UInt8).length ≤ maxStr)) (
       let v5 : List UInt8 := ([92, 123] ++ y1) ++ [44]
       chk (decide (v5.length + y2.length ≤ maxStr)) (
        chk (decide ((v5 ++ y2).length + ([92, 125] : List UInt8).length ≤ maxStr)) (
         some ((v5 ++ y2) ++ [92, 125]))))))))) (
  br (n_0.2.2.2.2.2.1 == (-1)) (
   chk (decide ([92, 123].length + y1.length ≤ maxStr)) (
    chk (decide (([92, 123] ++ y1).length + ([44, 92, 125] : List UInt8).length ≤ maxStr)) (
     let v6 : List UInt8 := ([92, 123] ++ y1) ++ [44, 92, 125]
     some v6))) (
   br (n_0.2.2.2.2.2.1 == n_0.2.2.2.2.1) (
    chk (decide ([92, 123].length + y1.length ≤ maxStr)) (
     chk (decide (([92, 123] ++ y1).length + ([92, 125] : List UInt8).length ≤ maxStr)) (
      let v7 : List UInt8 := ([92, 123] ++ y1) ++ [92, 125]
      some v7))) (
    chk (decide ([92, 123].length + y1.length ≤ maxStr)) (
     chk (decide (([92, 123] ++ y1).length + ([44] : List UInt8).length ≤ maxStr)) (
      let v8 : List UInt8 := ([92, 123] ++ y1) ++ [44]
      chk (decide (v8.length + y2.length ≤ maxStr)) (
       chk (decide ((v8 ++ y2).length + ([92, 125] : List UInt8).length ≤ maxStr)) (
        some ((v8 ++ y2) ++ [92, 125]))))))))
def rx_Text_loop1 (n : Nat) (g0 : List (NdT) × Int × Int × List (List UInt8) × Unit → Option (List UInt8)) (g1 : Int × List UInt8 × List (NdT) × Int × Int × List (Int) × Int × Int × List (List UInt8) × Unit → Option (List UInt8)) (x16 : Int × List UInt8 × List (NdT) × Int × Int × List (Int) × Int × Int × List (List UInt8) × Unit) : Option (List UInt8) :=
 let k_17 : Int := x16.1
 let s_18 : List UInt8 := x16.2.1
 let t14_19 : List (NdT) := x16.2.2.1
 let t15_20 : Int := x16.2.2.2.1
 let t16_21 : Int := x16.2.2.2.2.1
 let t38_22 : List (Int) := x16.2.2.2.2.2.1
 let t39_23 : Int := x16.2.2.2.2.2.2.1
 let t40_24 : Int := x16.2.2.2.2.2.2.2.1
 let row25 : List (List UInt8) := x16.2.2.2.2.2.2.2.2.1
 br (decide (t40_24 < t39_23)) (
  chk (inB t40_24 t38_22.length) (
   let v26 : Int := getAt (Ty.dflt (.int .u8)) t38_22 t40_24
   chk ((!decide (16 = 0))) (
    let v27 : Int := IntKind.wrap .u64 (Int.tdiv (IntKind.wrap .u64 v26) 16)
    ob (strconv_FormatUint n (v27, 16)) fun y28 =>
    chk ((!decide (16 = 0))) (
     let v29 : Int := Int.tmod (IntKind.wrap .u64 v26) 16
     ob (strconv_FormatUint n (v29, 16)) fun y30 =>
     chk (decide (y28.length + y30.length ≤ maxStr)) (
      chk (decide (s_18.length + (y28 ++ y30).length ≤ maxStr)) (
       let v31 : Int := IntKind.wrap .i64 (t40_24 + 1)
       g1 (k_17, s_18 ++ (y28 ++ y30), t14_19, t15_20, t16_21, t38_22, t39_23, v31, row25, ()))))))) (
  chk (decide (s_18.length + ([93] : List UInt8).length ≤ maxStr)) (
   chk ((decide (0 ≤ k_17) && decide (k_17 ≤ (row25.length : Int)))) (
    chk ((Nat.ble (k_17.toNat) row25.length && Nat.ble (((k_17.toNat) + ([s_18 ++ [93]] : List (List UInt8)).length) * 16) room)) (
     let r32 : List (List UInt8) := row25.take (k_17.toNat) ++ [s_18 ++ [93]]
     let v33 : Int := IntKind.wrap .i64 (t16_21 + 1)
     g0 (t14_19, t15_20, v33, r32, ())))))
def rx_Text_loop0 (n : Nat) (g0 : List (NdT) × Int × Int × List (List UInt8) × Unit → Option (List UInt8)) (x2 : List (NdT) × Int × Int × List (List UInt8) × Unit) : Option (List UInt8) :=
 let t14_3 : List (NdT) := x2.1
 let t15_4 : Int := x2.2.1
 let t16_5 : Int := x2.2.2.1
 let row6 : List (List UInt8) := x2.2.2.2.1
 br (decide (t16_5 < t15_4)) (
  chk (inB t16_5 t14_3.length) (
   let v7 : Int × List (Int) × Int × Int × Int × Int × Int × Unit := getAt (Ty.dflt TSiA4wiiiiiE) t14_3 t16_5
   let v8 : Int := ((row6.length : Nat) : Int)
   ob (rx_Node_parts n v7) fun y9 =>
   let v10 : Int := IntKind.wrap .i64 (v8 - y9)
   chk ((decide (0 ≤ v10) && decide (v10 ≤ (row6.length : Int)))) (
    chk ((Nat.ble ((0 + (v10.toNat)) + ((row6.length) - (v10.toNat))) row6.length && true)) (
     ob (strings_Join n ((row6.drop (0 + (v10.toNat))).take ((row6.length) - (v10.toNat)), [])) fun y11 =>
     br (v7.1 == 0) (
      chk ((decide (0 ≤ v10) && decide (v10 ≤ (row6.length : Int)))) (
       chk ((Nat.ble (v10.toNat) row6.length && Nat.ble (((v10.toNat) + ([[101]] : List (List UInt8)).length) * 16) room)) (
        let r12 : List (List UInt8) := row6.take (v10.toNat) ++ [[101]]
        let v13 : Int := IntKind.wrap .i64 (t16_5 + 1)
        g0 (t14_3, t15_4, v13, r12, ())))) (
      br (v7.1 == 1) (
       ob (set_Bytes n v7.2.1) fun y14 =>
       chk (Nat.ble y14.length room) (
        let v15 : Int := ((sToBytes y14).length : Int)
        fix (rx_Text_loop1 n g0) n (v10, [91], t14_3, t15_4, t16_5, sToBytes y14, v15, 0, row6, ()))) (
       br (v7.1 == 2) (
        chk ((decide (0 ≤ v10) && decide (v10 ≤ (row6.length : Int)))) (
         chk ((Nat.ble (v10.toNat) row6.length && Nat.ble (((v10.toNat) + ([[94]] : List (List UInt8)).length) * 16) room)) (
          let r34 : List (List UInt8) := row6.take (v10.toNat) ++ [[94]]
          let v35 : Int := IntKind.wrap .i64 (t16_5 + 1)
          g0 (t14_3, t15_4, v35, r34, ())))) (
        br (v7.1 == 3) (
         chk ((decide (0 ≤ v10) && decide (v10 ≤ (row6.length : Int)))) (
          chk ((Nat.ble (v10.toNat) row6.length && Nat.ble (((v10.toNat) + ([[36]] : List (List UInt8)).length) * 16) room)) (
           let r36 : List (List UInt8) := row6.take (v10.toNat) ++ [[36]]
           let v37 : Int := IntKind.wrap .i64 (t16_5 + 1)
           g0 (t14_3, t15_4, v37, r36, ())))) (
         br (v7.1 == 4) (
          chk (decide ([38].length + y11.length ≤ maxStr)) (
           chk ((decide (0 ≤ v10) && decide (v10 ≤ (row6.length : Int)))) (
            chk ((Nat.ble (v10.toNat) row6.length && Nat.ble (((v10.toNat) + ([[38] ++ y11] : List (List UInt8)).length) * 16) room)) (
             let r38 : List (List UInt8) := row6.take (v10.toNat) ++ [[38] ++ y11]
             let v39 : Int := IntKind.wrap .i64 (t16_5 + 1)
             g0 (t14_3, t15_4, v39, r38, ()))))) (
          br (v7.1 == 5) (
           chk (decide ([124].length + y11.length ≤ maxStr)) (
            chk ((decide (0 ≤ v10) && decide (v10 ≤ (row6.length : Int)))) (
             chk ((Nat.ble (v10.toNat) row6.length && Nat.ble (((v10.toNat) + ([[124] ++ y11] : List (List UInt8)).length) * 16) room)) (
              let r40 : List (List UInt8) := row6.take (v10.toNat) ++ [[124] ++ y11]
              let v41 : Int := IntKind.wrap .i64 (t16_5 + 1)
              g0 (t14_3, t15_4, v41, r40, ()))))) (
           br (v7.1 == 6) (
            ob (strconv_Itoa n v7.2.2.2.2.1) fun y42 =>
            chk (decide ([42].length + y42.length ≤ maxStr)) (
             chk (decide (([42] ++ y42).length + ([44] : List UInt8).length ≤ maxStr)) (
              ob (strconv_Itoa n v7.2.2.2.2.2.1) fun y43 =>
              chk (decide ((([42] ++ y42) ++ [44]).length + y43.length ≤ maxStr)) (
               let v44 : List UInt8 := (([42] ++ y42) ++ [44]) ++ y43
               chk (decide (v44.length + ([59] : List UInt8).length ≤ maxStr)) (
                chk (decide ((v44 ++ [59]).length + y11.length ≤ maxStr)) (
                 chk ((decide (0 ≤ v10) && decide (v10 ≤ (row6.length : Int)))) (
                  chk ((Nat.ble (v10.toNat) row6.length && Nat.ble (((v10.toNat) + ([(v44 ++ [59]) ++ y11] : List (List UInt8)).length) * 16) room)) (
                   let r45 : List (List UInt8) := row6.take (v10.toNat) ++ [(v44 ++ [59]) ++ y11]
                   let v46 : Int := IntKind.wrap .i64 (t16_5 + 1)
                   g0 (t14_3, t15_4, v46, r45, ()))))))))) (
            br (v7.1 == 7) (
             chk (decide ([40].length + y11.length ≤ maxStr)) (
              chk (decide (([40] ++ y11).length + ([41] : List UInt8).length ≤ maxStr)) (
               chk ((decide (0 ≤ v10) && decide (v10 ≤ (row6.length : Int)))) (
                chk ((Nat.ble (v10.toNat) row6.length && Nat.ble (((v10.toNat) + ([([40] ++ y11) ++ [41]] : List (List UInt8)).length) * 16) room)) (
                 let r47 : List (List UInt8) := row6.take (v10.toNat) ++ [([40] ++ y11) ++ [41]]
                 let v48 : Int := IntKind.wrap .i64 (t16_5 + 1)
                 g0 (t14_3, t15_4, v48, r47, ())))))) (
             br (v7.1 == 8) (
              ob (strconv_Itoa n v7.2.2.2.2.2.2.1) fun y49 =>
              chk (decide ([92].length + y49.length ≤ maxStr)) (
               chk ((decide (0 ≤ v10) && decide (v10 ≤ (row6.length : Int)))) (
                chk ((Nat.ble (v10.toNat) row6.length && Nat.ble (((v10.toNat) + ([[92] ++ y49] : List (List UInt8)).length) * 16) room)) (
                 let r50 : List (List UInt8) := row6.take (v10.toNat) ++ [[92] ++ y49]
                 let v51 : Int := IntKind.wrap .i64 (t16_5 + 1)
                 g0 (t14_3, t15_4, v51, r50, ()))))) (
              chk ((decide (0 ≤ v10) && decide (v10 ≤ (row6.length : Int)))) (
               chk ((Nat.ble (v10.toNat) row6.length && Nat.ble (((v10.toNat) + ([[]] : List (List UInt8)).length) * 16) room)) (
                let r52 : List (List UInt8) := row6.take (v10.toNat) ++ [[]]
                let v53 : Int := IntKind.wrap .i64 (t16_5 + 1)
                g0 (t14_3, t15_4, v53, r52, ())))))))))))))))) (
  chk ((inB 0 (row6.length) && decide (0 + (row6.length) ≤ row6.length))) (
   chk (decide (0 + (0 : Int).toNat < row6.length)) (
    let v54 : List UInt8 := row6.getD (0 + (0 : Int).toNat) (Ty.dflt .str)
    some v54)))
def rx_Text (n : Nat) (x : List (NdT)) : Option (List UInt8) :=
 let l_0 : List (NdT) := x
 ob (rx_May n l_0) fun y1 =>
 br (!y1) (
  some []) (
  fix (rx_Text_loop0 n) n (l_0, (l_0.length : Int), 0, [], ()))
def bre_Print_loop0 (n : Nat) (g0 : List (NdT) × List (NdT) × Int × Int × List (List UInt8) × Unit → Option (List UInt8 × Int)) (x3 : List (NdT) × List (NdT) × Int × Int × List (List UInt8) × Unit) : Option (List UInt8 × Int) :=
 let l_4 : List (NdT) := x3.1
 let t17_5 : List (NdT) := x3.2.1
 let t18_6 : Int := x3.2.2.1
 let t19_7 : Int := x3.2.2.2.1
 let row8 : List (List UInt8) := x3.2.2.2.2.1
 br (decide (t19_7 < t18_6)) (
  chk (inB t19_7 t17_5.length) (
   let v9 : Int × List (Int) × Int × Int × Int × Int × Int × Unit := getAt (Ty.dflt TSiA4wiiiiiE) t17_5 t19_7
   br (v9.1 == 1) (
    ob (bre_Show n v9.2.1) fun y10 =>
    chk ((inB t19_7 (row8.length) && decide (0 + (row8.length) ≤ row8.length))) (
     chk (decide (0 + t19_7.toNat < row8.length)) (
      let r11 : List (List UInt8) := row8.set (0 + t19_7.toNat) y10
      let v12 : Int := IntKind.wrap .i64 (t19_7 + 1)
      g0 (l_4, t17_5, t18_6, v12, r11, ())))) (
    br (v9.1 == 2) (
     chk ((inB t19_7 (row8.length) && decide (0 + (row8.length) ≤ row8.length))) (
      chk (decide (0 + t19_7.toNat < row8.length)) (
       let r13 : List (List UInt8) := row8.set (0 + t19_7.toNat) [94]
       let v14 : Int := IntKind.wrap .i64 (t19_7 + 1)
       g0 (l_4, t17_5, t18_6, v14, r13, ())))) (
     br (v9.1 == 3) (
      chk ((inB t19_7 (row8.length) && decide (0 + (row8.length) ≤ row8.length))) (
       chk (decide (0 + t19_7.toNat < row8.length)) (
        let r15 : List (List UInt8) := row8.set (0 + t19_7.toNat) [36]
        let v16 : Int := IntKind.wrap .i64 (t19_7 + 1)
        g0 (l_4, t17_5, t18_6, v16, r15, ())))) (
      br (v9.1 == 4) (
       chk ((inB v9.2.2.1 (row8.length) && decide (0 + (row8.length) ≤ row8.length))) (
        chk (decide (0 + v9.2.2.1.toNat < row8.length)) (
         let v17 : List UInt8 := row8.getD (0 + v9.2.2.1.toNat) (Ty.dflt .str)
         chk ((inB v9.2.2.2.1 (row8.length) && decide (0 + (row8.length) ≤ row8.length))) (
          chk (decide (0 + v9.2.2.2.1.toNat < row8.length)) (
           let v18 : List UInt8 := row8.getD (0 + v9.2.2.2.1.toNat) (Ty.dflt .str)
           chk (decide (v17.length + v18.length ≤ maxStr)) (
            chk ((inB t19_7 (row8.length) && decide (0 + (row8.length) ≤ row8.length))) (
             chk (decide (0 + t19_7.toNat < row8.length)) (
              let r19 : List (List UInt8) := row8.set (0 + t19_7.toNat) (v17 ++ v18)
              let v20 : Int := IntKind.wrap .i64 (t19_7 + 1)
              g0 (l_4, t17_5, t18_6, v20, r19, ()))))))))) (
       br (v9.1 == 5) (
        chk ((inB t19_7 (row8.length) && decide (0 + (row8.length) ≤ row8.length))) (
         chk (decide (0 + t19_7.toNat < row8.length)) (
          let r21 : List (List UInt8) := row8.set (0 + t19_7.toNat) [124]
          let v22 : Int := IntKind.wrap .i64 (t19_7 + 1)
          g0 (l_4, t17_5, t18_6, v22, r21, ())))) (
        br (v9.1 == 6) (
         chk ((inB v9.2.2.1 (row8.length) && decide (0 + (row8.length) ≤ row8.length))) (
          chk (decide (0 + v9.2.2.1.toNat < row8.length)) (
           let v23 : List UInt8 := row8.getD (0 + v9.2.2.1.toNat) (Ty.dflt .str)
           ob (bre_count n v9) fun y24 =>
           chk (decide (v23.length + y24.length ≤ maxStr)) (
            chk ((inB t19_7 (row8.length) && decide (0 + (row8.length) ≤ row8.length))) (
             chk (decide (0 + t19_7.toNat < row8.length)) (
              let r25 : List (List UInt8) := row8.set (0 + t19_7.toNat) (v23 ++ y24)
              let v26 : Int := IntKind.wrap .i64 (t19_7 + 1)
              g0 (l_4, t17_5, t18_6, v26, r25, ()))))))) (
         br (v9.1 == 7) (
          chk ((inB v9.2.2.1 (row8.length) && decide (0 + (row8.length) ≤ row8.length))) (
           chk (decide (0 + v9.2.2.1.toNat < row8.length)) (
            let v27 : List UInt8 := row8.getD (0 + v9.2.2.1.toNat) (Ty.dflt .str)
            chk (decide ([92, 40].length + v27.length ≤ maxStr)) (
             chk (decide (([92, 40] ++ v27).length + ([92, 41] : List UInt8).length ≤ maxStr)) (
              let v28 : List UInt8 := ([92, 40] ++ v27) ++ [92, 41]
              chk ((inB t19_7 (row8.length) && decide (0 + (row8.length) ≤ row8.length))) (
               chk (decide (0 + t19_7.toNat < row8.length)) (
                let r29 : List (List UInt8) := row8.set (0 + t19_7.toNat) v28
                let v30 : Int := IntKind.wrap .i64 (t19_7 + 1)
                g0 (l_4, t17_5, t18_6, v30, r29, ())))))))) (
          br (v9.1 == 8) (
           ob (strconv_Itoa n v9.2.2.2.2.2.2.1) fun y31 =>
           chk (decide ([92].length + y31.length ≤ maxStr)) (
            chk ((inB t19_7 (row8.length) && decide (0 + (row8.length) ≤ row8.length))) (
             chk (decide (0 + t19_7.toNat < row8.length)) (
              let r32 : List (List UInt8) := row8.set (0 + t19_7.toNat) ([92] ++ y31)
              let v33 : Int := IntKind.wrap .i64 (t19_7 + 1)
              g0 (l_4, t17_5, t18_6, v33, r32, ()))))) (
           let v34 : Int := IntKind.wrap .i64 (t19_7 + 1)
           g0 (l_4, t17_5, t18_6, v34, row8, ()))))))))))) (
  let v35 : Int := IntKind.wrap .i64 ((l_4.length : Int) - 1)
  chk ((inB v35 (row8.length) && decide (0 + (row8.length) ≤ row8.length))) (
   chk (decide (0 + v35.toNat < row8.length)) (
    let v36 : List UInt8 := row8.getD (0 + v35.toNat) (Ty.dflt .str)
    ob (bre_Parse n v36) fun y37 =>
    br (y37.2.2 != 0) (
     some ([], 1)) (
     ob (rx_Text n y37.1) fun y38 =>
     ob (rx_Text n l_4) fun y39 =>
     br (!(y38 == y39)) (
      some ([], 1)) (
      some (v36, 0))))))
def bre_Print (n : Nat) (x : List (NdT)) : Option (List UInt8 × Int) :=
 let l_0 : List (NdT) := x
 ob (rx_May n l_0) fun y1 =>
 br (!y1) (
  some ([], 1)) (
  chk ((decide (0 ≤ (l_0.length : Int)) && (decide ((l_0.length : Int) = (l_0.length : Int)) && Nat.ble ((l_0.length : Int).toNat * 16) room))) (
   let r2 : List (List UInt8) := List.replicate (l_0.length : Int).toNat []
   fix (bre_Print_loop0 n) n (l_0, l_0, (l_0.length : Int), 0, r2, ())))
def rx_Groups (n : Nat) (x : List (NdT)) : Option (Int) :=
 let l_0 : List (NdT) := x
 ob (rx_look n l_0) fun y1 =>
 some y1.1
def rx_Refs (n : Nat) (x : List (NdT)) : Option (Bool) :=
 let l_0 : List (NdT) := x
 ob (rx_look n l_0) fun y1 =>
 some y1.2.1
def law04_shown (n : Nat) (x : Unit) : Option (Bool) :=
 ob (bre_Parse n [94, 97, 42, 92, 40, 98, 92, 41, 92, 49, 91, 120, 45, 122, 93, 36]) fun y1 =>
 ob (bre_Print n y1.1) fun y2 =>
 ob (bre_Parse n [97, 92, 40, 98]) fun y3 =>
 br (y1.2.2 == 0) (
  br (y2.2 == 0) (
   br (y1.2.1 == 0) (
    br (y2.1 == [94, 97, 42, 92, 40, 98, 92, 41, 92, 49, 91, 120, 45, 122, 93, 36]) (
     ob (rx_Groups n y1.1) fun y4 =>
     br (y4 == 1) (
      ob (rx_Refs n y1.1) fun y5 =>
      br y5 (
       br (y3.2.1 == 1) (
        some (y3.2.2 == 41)) (
        some false)) (
       some false)) (
      some false)) (
     some false)) (
    some false)) (
   some false)) (
  some false)
def ref02_Not_loop0 (n : Nat) (g0 : Int × List (Bool) × List (Bool) × Unit → Option (List (Bool))) (x1 : Int × List (Bool) × List (Bool) × Unit) : Option (List (Bool)) :=
 let i_2 : Int := x1.1
 let b3 : List (Bool) := x1.2.1
 let b4 : List (Bool) := x1.2.2.1
 br (decide (i_2 < 256)) (
  chk (inB i_2 256) (
   chk (decide (i_2.toNat < 256)) (
    chk (inB i_2 256) (
     chk (decide (i_2.toNat < 256)) (
      let v5 : Int := IntKind.wrap .i64 (i_2 + 1)
      g0 (v5, b3.set (i_2.toNat) (!(b3.getD (i_2.toNat) (Ty.dflt .bool))), b4, ())))))) (
  some b3)
def ref02_Not (n : Nat) (x : List (Bool)) : Option (List (Bool)) :=
 let a_0 : List (Bool) := x
 fix (ref02_Not_loop0 n) n (0, a_0, (List.replicate 256 false), ())
def ref02_Bytes_loop0 (n : Nat) (g0 : Int × List (Bool) × List (Int) × Unit → Option (List UInt8)) (x1 : Int × List (Bool) × List (Int) × Unit) : Option (List UInt8) :=
 let i_2 : Int := x1.1
 let b3 : List (Bool) := x1.2.1
 let row4 : List (Int) := x1.2.2.1
 br (decide (i_2 < 256)) (
  chk (inB i_2 256) (
   chk (decide (i_2.toNat < 256)) (
    br (b3.getD (i_2.toNat) (Ty.dflt .bool)) (
     chk (Nat.ble ((row4.length + ([IntKind.wrap .u8 i_2] : List (Int)).length) * 1) room) (
      let r5 : List (Int) := row4 ++ [IntKind.wrap .u8 i_2]
      let v6 : Int := IntKind.wrap .i64 (i_2 + 1)
      g0 (v6, b3, r5, ()))) (
     let v7 : Int := IntKind.wrap .i64 (i_2 + 1)
     g0 (v7, b3, row4, ()))))) (
  some (bytesToS row4))
def ref02_Bytes (n : Nat) (x : List (Bool)) : Option (List UInt8) :=
 let a_0 : List (Bool) := x
 fix (ref02_Bytes_loop0 n) n (0, a_0, [], ())
def ref02_Size (n : Nat) (x : List (Bool)) : Option (Int) :=
 let a_0 : List (Bool) := x
 ob (ref02_Bytes n a_0) fun y1 =>
 some (y1.length : Int)
def ref02_Range_loop0 (n : Nat) (g0 : Int × Int × List (Bool) × List (Bool) × Unit → Option (List (Bool))) (x1 : Int × Int × List (Bool) × List (Bool) × Unit) : Option (List (Bool)) :=
 let b_2 : Int := x1.1
 let i_3 : Int := x1.2.1
 let b4 : List (Bool) := x1.2.2.1
 let b5 : List (Bool) := x1.2.2.2.1
 br (decide (i_3 ≤ (IntKind.wrap .i64 b_2))) (
  chk (inB i_3 256) (
   chk (decide (i_3.toNat < 256)) (
    let v6 : Int := IntKind.wrap .i64 (i_3 + 1)
    g0 (b_2, v6, b4, b5.set (i_3.toNat) true, ())))) (
  some b5)
def ref02_Range (n : Nat) (x : Int × Int) : Option (List (Bool)) :=
 let a_0 : Int := x.1
 let b_1 : Int := x.2
 fix (ref02_Range_loop0 n) n (b_1, IntKind.wrap .i64 a_0, (List.replicate 256 false), (List.replicate 256 false), ())
def ref02_Or_loop0 (n : Nat) (g0 : Int × List (Bool) × List (Bool) × List (Bool) × Unit → Option (List (Bool))) (x1 : Int × List (Bool) × List (Bool) × List (Bool) × Unit) : Option (List (Bool)) :=
 let i_2 : Int := x1.1
 let b3 : List (Bool) := x1.2.1
 let b4 : List (Bool) := x1.2.2.1
 let b5 : List (Bool) := x1.2.2.2.1
 br (decide (i_2 < 256)) (
  chk (inB i_2 256) (
   chk (decide (i_2.toNat < 256)) (
    br (b3.getD (i_2.toNat) (Ty.dflt .bool)) (
     chk (inB i_2 256) (
      chk (decide (i_2.toNat < 256)) (
       let v6 : Int := IntKind.wrap .i64 (i_2 + 1)
       g0 (v6, b3.set (i_2.toNat) true, b4, b5, ())))) (
     chk (inB i_2 256) (
      chk (decide (i_2.toNat < 256)) (
       chk (inB i_2 256) (
        chk (decide (i_2.toNat < 256)) (
         let v7 : Int := IntKind.wrap .i64 (i_2 + 1)
         g0 (v7, b3.set (i_2.toNat) (b4.getD (i_2.toNat) (Ty.dflt .bool)), b4, b5, ()))))))))) (
  some b3)
def ref02_Or (n : Nat) (x : List (Bool) × List (Bool)) : Option (List (Bool)) :=
 let a_0 : List (Bool) := x.1
 let b_1 : List (Bool) := x.2
 fix (ref02_Or_loop0 n) n (0, a_0, b_1, (List.replicate 256 false), ())
def ref02_Of_loop0 (n : Nat) (g0 : List UInt8 × Int × List (Bool) × List (Bool) × Unit → Option (List (Bool))) (x1 : List UInt8 × Int × List (Bool) × List (Bool) × Unit) : Option (List (Bool)) :=
 let s_2 : List UInt8 := x1.1
 let i_3 : Int := x1.2.1
 let b4 : List (Bool) := x1.2.2.1
 let b5 : List (Bool) := x1.2.2.2.1
 br (decide (i_3 < (s_2.length : Int))) (
  chk (inB i_3 s_2.length) (
   let v6 : Int := ((getAt 0 s_2 i_3).toNat : Int)
   chk (inB v6 256) (
    chk (decide (v6.toNat < 256)) (
     let v7 : Int := IntKind.wrap .i64 (i_3 + 1)
     g0 (s_2, v7, b4, b5.set (v6.toNat) true, ()))))) (
  some b5)
def ref02_Of (n : Nat) (x : List UInt8) : Option (List (Bool)) :=
 let s_0 : List UInt8 := x
 fix (ref02_Of_loop0 n) n (s_0, 0, (List.replicate 256 false), (List.replicate 256 false), ())
def ref02_Class_loop0 (n : Nat) (g0 : Int × List (Bool) × List (Bool) × List (Bool) × Unit → Option (List (Bool) × Bool)) (x21 : Int × List (Bool) × List (Bool) × List (Bool) × Unit) : Option (List (Bool) × Bool) :=
 let i_22 : Int := x21.1
 let b23 : List (Bool) := x21.2.1
 let b24 : List (Bool) := x21.2.2.1
 let b25 : List (Bool) := x21.2.2.2.1
 br (decide (i_22 < 256)) (
  chk (inB i_22 256) (
   chk (decide (i_22.toNat < 256)) (
    br (b25.getD (i_22.toNat) (Ty.dflt .bool)) (
     chk (inB i_22 256) (
      chk (decide (i_22.toNat < 256)) (
       chk (inB i_22 256) (
        chk (decide (i_22.toNat < 256)) (
         let v26 : Int := IntKind.wrap .i64 (i_22 + 1)
         g0 (v26, b23, b24, b25.set (i_22.toNat) (!(b24.getD (i_22.toNat) (Ty.dflt .bool))), ())))))) (
     chk (inB i_22 256) (
      chk (decide (i_22.toNat < 256)) (
       let v27 : Int := IntKind.wrap .i64 (i_22 + 1)
       g0 (v27, b23, b24, b25.set (i_22.toNat) false, ()))))))) (
  some (b25, true))
def ref02_Class (n : Nat) (x : List UInt8) : Option (List (Bool) × Bool) :=
 let name_0 : List UInt8 := x
 ob (ref02_Range n (65, 90)) fun y1 =>
 ob (ref02_Range n (97, 122)) fun y2 =>
 ob (ref02_Range n (48, 57)) fun y3 =>
 ob (ref02_Or n (y1, y2)) fun y4 =>
 ob (ref02_Or n (y4, y3)) fun y5 =>
 br (name_0 == [117, 112, 112, 101, 114]) (
  some (y1, true)) (
  br (name_0 == [108, 111, 119, 101, 114]) (
   some (y2, true)) (
   br (name_0 == [97, 108, 112, 104, 97]) (
    ob (ref02_Or n (y1, y2)) fun y6 =>
    some (y6, true)) (
    br (name_0 == [100, 105, 103, 105, 116]) (
     some (y3, true)) (
     br (name_0 == [97, 108, 110, 117, 109]) (
      some (y5, true)) (
      br (name_0 == [120, 100, 105, 103, 105, 116]) (
       ob (ref02_Range n (65, 70)) fun y7 =>
       ob (ref02_Range n (97, 102)) fun y8 =>
       ob (ref02_Or n (y7, y8)) fun y9 =>
       ob (ref02_Or n (y3, y9)) fun y10 =>
       some (y10, true)) (
       br (name_0 == [98, 108, 97, 110, 107]) (
        ob (ref02_Of n [9, 32]) fun y11 =>
        some (y11, true)) (
        br (name_0 == [115, 112, 97, 99, 101]) (
         ob (ref02_Range n (9, 13)) fun y12 =>
         ob (ref02_Of n [32]) fun y13 =>
         ob (ref02_Or n (y12, y13)) fun y14 =>
         some (y14, true)) (
         br (name_0 == [99, 110, 116, 114, 108]) (
          ob (ref02_Range n (0, 31)) fun y15 =>
          ob (ref02_Range n (127, 127)) fun y16 =>
          ob (ref02_Or n (y15, y16)) fun y17 =>
          some (y17, true)) (
          br (name_0 == [103, 114, 97, 112, 104]) (
           ob (ref02_Range n (33, 126)) fun y18 =>
           some (y18, true)) (
           br (name_0 == [112, 114, 105, 110, 116]) (
            ob (ref02_Range n (32, 126)) fun y19 =>
            some (y19, true)) (
            br (name_0 == [112, 117, 110, 99, 116]) (
             ob (ref02_Range n (33, 126)) fun y20 =>
             fix (ref02_Class_loop0 n) n (0, (List.replicate 256 false), y5, y20, ())) (
             some ((List.replicate 256 false), false)))))))))))))
def ref04_byteAt_join4 (n : Nat) (x41 : Bool × Bool × Int × Int × Unit) : Option (Int × Int × Bool) :=
 let first_42 : Bool := x41.1
 let ends_43 : Bool := x41.2.1
 let c_44 : Int := x41.2.2.1
 let next_45 : Int := x41.2.2.2.1
 br (c_44 == 45) (
  br (!first_42) (
   br (!ends_43) (
    br (next_45 != 93) (
     some (0, 0, false)) (
     some (c_44, 1, true))) (
    some (c_44, 1, true))) (
   some (c_44, 1, true))) (
  some (c_44, 1, true))
def ref04_byteAt_join3 (n : Nat) (x36 : Bool × Bool × Int × Int × Unit) : Option (Int × Int × Bool) :=
 let first_37 : Bool := x36.1
 let ends_38 : Bool := x36.2.1
 let c_39 : Int := x36.2.2.1
 let next_40 : Int := x36.2.2.2.1
 br (c_39 == 93) (
  br (!first_37) (
   some (0, 0, false)) (
   jn (ref04_byteAt_join4 n) (first_37, ends_38, c_39, next_40, ()))) (
  jn (ref04_byteAt_join4 n) (first_37, ends_38, c_39, next_40, ()))
def ref04_byteAt_join2 (n : Nat) (x28 : List UInt8 × Int × Bool × Bool × Int × Int × Unit) : Option (Int × Int × Bool) :=
 let s_29 : List UInt8 := x28.1
 let i_30 : Int := x28.2.1
 let first_31 : Bool := x28.2.2.1
 let ends_32 : Bool := x28.2.2.2.1
 let c_33 : Int := x28.2.2.2.2.1
 let next_34 : Int := x28.2.2.2.2.2.1
 br (c_33 == 92) (
  br (next_34 == 110) (
   let v35 : Int := IntKind.wrap .i64 (i_30 + 1)
   br (decide (v35 < (s_29.length : Int))) (
    some (10, 2, true)) (
    jn (ref04_byteAt_join3 n) (first_31, ends_32, c_33, next_34, ()))) (
   jn (ref04_byteAt_join3 n) (first_31, ends_32, c_33, next_34, ()))) (
  jn (ref04_byteAt_join3 n) (first_31, ends_32, c_33, next_34, ()))
def ref04_byteAt_join1 (n : Nat) (x13 : List UInt8 × Int × Bool × Bool × Int × Int × Bool × Unit) : Option (Int × Int × Bool) :=
 let s_14 : List UInt8 := x13.1
 let i_15 : Int := x13.2.1
 let first_16 : Bool := x13.2.2.1
 let ends_17 : Bool := x13.2.2.2.1
 let c_18 : Int := x13.2.2.2.2.1
 let next_19 : Int := x13.2.2.2.2.2.1
 let t49_20 : Bool := x13.2.2.2.2.2.2.1
 br t49_20 (
  br (next_19 != 58) (
   let v21 : Int := IntKind.wrap .i64 (i_15 + 4)
   br (decide (v21 < (s_14.length : Int))) (
    let v22 : Int := IntKind.wrap .i64 (i_15 + 3)
    chk (inB v22 s_14.length) (
     let v23 : Int := ((getAt 0 s_14 v22).toNat : Int)
     br (v23 == next_19) (
      let v24 : Int := IntKind.wrap .i64 (i_15 + 4)
      chk (inB v24 s_14.length) (
       let v25 : Int := ((getAt 0 s_14 v24).toNat : Int)
       br (v25 == 93) (
        let v26 : Int := IntKind.wrap .i64 (i_15 + 2)
        chk (inB v26 s_14.length) (
         let v27 : Int := ((getAt 0 s_14 v26).toNat : Int)
         some (v27, 5, (next_19 == 46)))) (
        some (0, 0, false)))) (
      some (0, 0, false)))) (
    some (0, 0, false))) (
   some (0, 0, false))) (
  jn (ref04_byteAt_join2 n) (s_14, i_15, first_16, ends_17, c_18, next_19, ()))
def ref04_byteAt_join0 (n : Nat) (x5 : List UInt8 × Int × Bool × Bool × Int × Int × Unit) : Option (Int × Int × Bool) :=
 let s_6 : List UInt8 := x5.1
 let i_7 : Int := x5.2.1
 let first_8 : Bool := x5.2.2.1
 let ends_9 : Bool := x5.2.2.2.1
 let c_10 : Int := x5.2.2.2.2.1
 let next_11 : Int := x5.2.2.2.2.2.1
 br (c_10 == 91) (
  br (next_11 == 46) (
   let v12 : Int := IntKind.wrap .i64 (i_7 + 1)
   jn (ref04_byteAt_join1 n) (s_6, i_7, first_8, ends_9, c_10, next_11, (decide (v12 < (s_6.length : Int))), ())) (
   br (next_11 == 61) (
    let v46 : Int := IntKind.wrap .i64 (i_7 + 1)
    jn (ref04_byteAt_join1 n) (s_6, i_7, first_8, ends_9, c_10, next_11, (decide (v46 < (s_6.length : Int))), ())) (
    br (next_11 == 58) (
     let v47 : Int := IntKind.wrap .i64 (i_7 + 1)
     jn (ref04_byteAt_join1 n) (s_6, i_7, first_8, ends_9, c_10, next_11, (decide (v47 < (s_6.length : Int))), ())) (
     jn (ref04_byteAt_join1 n) (s_6, i_7, first_8, ends_9, c_10, next_11, false, ()))))) (
  jn (ref04_byteAt_join1 n) (s_6, i_7, first_8, ends_9, c_10, next_11, false, ()))
def ref04_byteAt (n : Nat) (x : List UInt8 × Int × Bool × Bool) : Option (Int × Int × Bool) :=
 let s_0 : List UInt8 := x.1
 let i_1 : Int := x.2.1
 let first_2 : Bool := x.2.2.1
 let ends_3 : Bool := x.2.2.2
 br (decide (i_1 ≥ (s_0.length : Int))) (
  some (0, 0, false)) (
  chk (inB i_1 s_0.length) (
   let v1 : Int := ((getAt 0 s_0 i_1).toNat : Int)
   let v2 : Int := IntKind.wrap .i64 (i_1 + 1)
   br (decide (v2 < (s_0.length : Int))) (
    let v3 : Int := IntKind.wrap .i64 (i_1 + 1)
    chk (inB v3 s_0.length) (
     let v4 : Int := ((getAt 0 s_0 v3).toNat : Int)
     jn (ref04_byteAt_join0 n) (s_0, i_1, first_2, ends_3, v1, v4, ()))) (
    jn (ref04_byteAt_join0 n) (s_0, i_1, first_2, ends_3, v1, 0, ()))))
def ref04_Bracket_join3 (n : Nat) (x31 : Int × List (Bool) × List (Bool) × List (Bool) × Unit) : Option (List (Bool) × Int × Int) :=
 let i_32 : Int := x31.1
 let b33 : List (Bool) := x31.2.1
 let b34 : List (Bool) := x31.2.2.1
 let b35 : List (Bool) := x31.2.2.2.1
 ob (ref02_Size n b35) fun y36 =>
 br (y36 == 0) (
  some (b34, 0, 42)) (
  some (b35, i_32, 0))
def ref04_Bracket_join2 (n : Nat) (x24 : Int × Bool × List (Bool) × List (Bool) × List (Bool) × Unit) : Option (List (Bool) × Int × Int) :=
 let i_25 : Int := x24.1
 let not_26 : Bool := x24.2.1
 let b27 : List (Bool) := x24.2.2.1
 let b28 : List (Bool) := x24.2.2.2.1
 let b29 : List (Bool) := x24.2.2.2.2.1
 br not_26 (
  ob (ref02_Not n b29) fun y30 =>
  jn (ref04_Bracket_join3 n) (i_25, b27, b28, y30, ())) (
  jn (ref04_Bracket_join3 n) (i_25, b27, b28, b29, ()))
def ref04_Bracket_join6 (n : Nat) (g0 : List UInt8 × Int × Bool × Bool × List (Bool) × List (Bool) × List (Bool) × Unit → Option (List (Bool) × Int × Int)) (x70 : List UInt8 × Int × Bool × Int × List (Bool) × List (Bool) × List (Bool) × Unit) : Option (List (Bool) × Int × Int) :=
 let s_71 : List UInt8 := x70.1
 let i_72 : Int := x70.2.1
 let not_73 : Bool := x70.2.2.1
 let k_74 : Int := x70.2.2.2.1
 let b75 : List (Bool) := x70.2.2.2.2.1
 let b76 : List (Bool) := x70.2.2.2.2.2.1
 let b77 : List (Bool) := x70.2.2.2.2.2.2.1
 let v78 : Int := IntKind.wrap .i64 (k_74 + 1)
 br (decide (v78 ≥ (s_71.length : Int))) (
  some (b76, 0, 42)) (
  let v79 : Int := IntKind.wrap .i64 (i_72 + 2)
  chk ((decide (0 ≤ k_74) && decide (k_74 ≤ (s_71.length : Int)) && (decide (0 ≤ v79) && decide (v79 ≤ k_74)))) (
   let v80 : List UInt8 := (s_71.take k_74.toNat).drop v79.toNat
   ob (ref02_Class n v80) fun y81 =>
   br (!y81.2) (
    some (b76, 0, 42)) (
    ob (ref02_Or n (b77, y81.1)) fun y82 =>
    let v83 : Int := IntKind.wrap .i64 (k_74 + 2)
    g0 (s_71, v83, not_73, false, b75, b76, y82, ()))))
def ref04_Bracket_loop1 (n : Nat) (g0 : List UInt8 × Int × Bool × Bool × List (Bool) × List (Bool) × List (Bool) × Unit → Option (List (Bool) × Int × Int)) (g1 : List UInt8 × Int × Bool × Int × List (Bool) × List (Bool) × List (Bool) × Unit → Option (List (Bool) × Int × Int)) (x58 : List UInt8 × Int × Bool × Int × List (Bool) × List (Bool) × List (Bool) × Unit) : Option (List (Bool) × Int × Int) :=
 let s_59 : List UInt8 := x58.1
 let i_60 : Int := x58.2.1
 let not_61 : Bool := x58.2.2.1
 let k_62 : Int := x58.2.2.2.1
 let b63 : List (Bool) := x58.2.2.2.2.1
 let b64 : List (Bool) := x58.2.2.2.2.2.1
 let b65 : List (Bool) := x58.2.2.2.2.2.2.1
 let v66 : Int := IntKind.wrap .i64 (k_62 + 1)
 br (decide (v66 < (s_59.length : Int))) (
  let v67 : Int := IntKind.wrap .i64 (k_62 + 2)
  chk ((decide (0 ≤ v67) && decide (v67 ≤ (s_59.length : Int)) && (decide (0 ≤ k_62) && decide (k_62 ≤ v67)))) (
   let v68 : List UInt8 := (s_59.take v67.toNat).drop k_62.toNat
   br (!(v68 == [58, 93])) (
    let v69 : Int := IntKind.wrap .i64 (k_62 + 1)
    g1 (s_59, i_60, not_61, v69, b63, b64, b65, ())) (
    jn (ref04_Bracket_join6 n g0) (s_59, i_60, not_61, k_62, b63, b64, b65, ())))) (
  jn (ref04_Bracket_join6 n g0) (s_59, i_60, not_61, k_62, b63, b64, b65, ()))
def ref04_Bracket_join8 (n : Nat) (g0 : List UInt8 × Int × Bool × Bool × List (Bool) × List (Bool) × List (Bool) × Unit → Option (List (Bool) × Int × Int)) (x98 : List UInt8 × Int × Bool × Int × Bool × Int × Bool × List (Bool) × List (Bool) × List (Bool) × Unit) : Option (List (Bool) × Int × Int) :=
 let s_99 : List UInt8 := x98.1
 let i_100 : Int := x98.2.1
 let not_101 : Bool := x98.2.2.1
 let a_102 : Int := x98.2.2.2.1
 let may_103 : Bool := x98.2.2.2.2.1
 let b_104 : Int := x98.2.2.2.2.2.1
 let t144_105 : Bool := x98.2.2.2.2.2.2.1
 let b106 : List (Bool) := x98.2.2.2.2.2.2.2.1
 let b107 : List (Bool) := x98.2.2.2.2.2.2.2.2.1
 let b108 : List (Bool) := x98.2.2.2.2.2.2.2.2.2.1
 br t144_105 (
  let v109 : Int := IntKind.wrap .i64 (i_100 + 1)
  ob (ref04_byteAt n (s_99, v109, false, true)) fun y110 =>
  br (y110.2.1 == 0) (
   some (b107, 0, 42)) (
   br (!y110.2.2) (
    some (b107, 0, 42)) (
    br (!may_103) (
     some (b107, 0, 42)) (
     br (decide (y110.1 < a_102)) (
      some (b107, 0, 42)) (
      let v111 : Int := IntKind.wrap .i64 (1 + y110.2.1)
      let v112 : Int := IntKind.wrap .i64 (i_100 + v111)
      ob (ref02_Range n (a_102, y110.1)) fun y113 =>
      ob (ref02_Or n (b108, y113)) fun y114 =>
      g0 (s_99, v112, not_101, false, b106, b107, y114, ())))))) (
  ob (ref02_Range n (a_102, b_104)) fun y115 =>
  ob (ref02_Or n (b108, y115)) fun y116 =>
  g0 (s_99, i_100, not_101, false, b106, b107, y116, ()))
def ref04_Bracket_join7 (n : Nat) (g0 : List UInt8 × Int × Bool × Bool × List (Bool) × List (Bool) × List (Bool) × Unit → Option (List (Bool) × Int × Int)) (x84 : List UInt8 × Int × Bool × Bool × List (Bool) × List (Bool) × List (Bool) × Unit) : Option (List (Bool) × Int × Int) :=
 let s_85 : List UInt8 := x84.1
 let i_86 : Int := x84.2.1
 let not_87 : Bool := x84.2.2.1
 let first_88 : Bool := x84.2.2.2.1
 let b89 : List (Bool) := x84.2.2.2.2.1
 let b90 : List (Bool) := x84.2.2.2.2.2.1
 let b91 : List (Bool) := x84.2.2.2.2.2.2.1
 ob (ref04_byteAt n (s_85, i_86, first_88, false)) fun y92 =>
 br (y92.2.1 == 0) (
  some (b90, 0, 42)) (
  let v93 : Int := IntKind.wrap .i64 (i_86 + y92.2.1)
  let v94 : Int := IntKind.wrap .i64 (v93 + 1)
  br (decide (v94 < (s_85.length : Int))) (
   chk (inB v93 s_85.length) (
    let v95 : Int := ((getAt 0 s_85 v93).toNat : Int)
    br (v95 == 45) (
     let v96 : Int := IntKind.wrap .i64 (v93 + 1)
     chk (inB v96 s_85.length) (
      let v97 : Int := ((getAt 0 s_85 v96).toNat : Int)
      jn (ref04_Bracket_join8 n g0) (s_85, v93, not_87, y92.1, y92.2.2, y92.1, (v97 != 93), b89, b90, b91, ()))) (
     jn (ref04_Bracket_join8 n g0) (s_85, v93, not_87, y92.1, y92.2.2, y92.1, false, b89, b90, b91, ())))) (
   jn (ref04_Bracket_join8 n g0) (s_85, v93, not_87, y92.1, y92.2.2, y92.1, false, b89, b90, b91, ())))
def ref04_Bracket_join5 (n : Nat) (g0 : List UInt8 × Int × Bool × Bool × List (Bool) × List (Bool) × List (Bool) × Unit → Option (List (Bool) × Int × Int)) (x48 : List UInt8 × Int × Bool × Bool × Bool × List (Bool) × List (Bool) × List (Bool) × Unit) : Option (List (Bool) × Int × Int) :=
 let s_49 : List UInt8 := x48.1
 let i_50 : Int := x48.2.1
 let not_51 : Bool := x48.2.2.1
 let first_52 : Bool := x48.2.2.2.1
 let t71_53 : Bool := x48.2.2.2.2.1
 let b54 : List (Bool) := x48.2.2.2.2.2.1
 let b55 : List (Bool) := x48.2.2.2.2.2.2.1
 let b56 : List (Bool) := x48.2.2.2.2.2.2.2.1
 br t71_53 (
  let v57 : Int := IntKind.wrap .i64 (i_50 + 2)
  fix (ref04_Bracket_loop1 n g0) n (s_49, i_50, not_51, v57, b54, b55, b56, ())) (
  jn (ref04_Bracket_join7 n g0) (s_49, i_50, not_51, first_52, b54, b55, b56, ()))
def ref04_Bracket_join4 (n : Nat) (g0 : List UInt8 × Int × Bool × Bool × List (Bool) × List (Bool) × List (Bool) × Unit → Option (List (Bool) × Int × Int)) (x37 : List UInt8 × Int × Bool × Bool × List (Bool) × List (Bool) × List (Bool) × Unit) : Option (List (Bool) × Int × Int) :=
 let s_38 : List UInt8 := x37.1
 let i_39 : Int := x37.2.1
 let not_40 : Bool := x37.2.2.1
 let first_41 : Bool := x37.2.2.2.1
 let b42 : List (Bool) := x37.2.2.2.2.1
 let b43 : List (Bool) := x37.2.2.2.2.2.1
 let b44 : List (Bool) := x37.2.2.2.2.2.2.1
 let v45 : Int := IntKind.wrap .i64 (i_39 + 1)
 br (decide (v45 < (s_38.length : Int))) (
  let v46 : Int := IntKind.wrap .i64 (i_39 + 2)
  chk ((decide (0 ≤ v46) && decide (v46 ≤ (s_38.length : Int)) && (decide (0 ≤ i_39) && decide (i_39 ≤ v46)))) (
   let v47 : List UInt8 := (s_38.take v46.toNat).drop i_39.toNat
   jn (ref04_Bracket_join5 n g0) (s_38, i_39, not_40, first_41, (v47 == [91, 58]), b42, b43, b44, ()))) (
  jn (ref04_Bracket_join5 n g0) (s_38, i_39, not_40, first_41, false, b42, b43, b44, ()))
def ref04_Bracket_loop0 (n : Nat) (g0 : List UInt8 × Int × Bool × Bool × List (Bool) × List (Bool) × List (Bool) × Unit → Option (List (Bool) × Int × Int)) (x14 : List UInt8 × Int × Bool × Bool × List (Bool) × List (Bool) × List (Bool) × Unit) : Option (List (Bool) × Int × Int) :=
 let s_15 : List UInt8 := x14.1
 let i_16 : Int := x14.2.1
 let not_17 : Bool := x14.2.2.1
 let first_18 : Bool := x14.2.2.2.1
 let b19 : List (Bool) := x14.2.2.2.2.1
 let b20 : List (Bool) := x14.2.2.2.2.2.1
 let b21 : List (Bool) := x14.2.2.2.2.2.2.1
 br (decide (i_16 < (s_15.length : Int))) (
  chk (inB i_16 s_15.length) (
   let v22 : Int := ((getAt 0 s_15 i_16).toNat : Int)
   br (v22 == 93) (
    br (!first_18) (
     let v23 : Int := IntKind.wrap .i64 (i_16 + 1)
     jn (ref04_Bracket_join2 n) (v23, not_17, b19, b20, b21, ())) (
     jn (ref04_Bracket_join4 n g0) (s_15, i_16, not_17, first_18, b19, b20, b21, ()))) (
    jn (ref04_Bracket_join4 n g0) (s_15, i_16, not_17, first_18, b19, b20, b21, ())))) (
  jn (ref04_Bracket_join4 n g0) (s_15, i_16, not_17, first_18, b19, b20, b21, ()))
def ref04_Bracket_join1 (n : Nat) (x8 : List UInt8 × Int × Bool × List (Bool) × List (Bool) × Unit) : Option (List (Bool) × Int × Int) :=
 let s_9 : List UInt8 := x8.1
 let i_10 : Int := x8.2.1
 let not_11 : Bool := x8.2.2.1
 let b12 : List (Bool) := x8.2.2.2.1
 let b13 : List (Bool) := x8.2.2.2.2.1
 fix (ref04_Bracket_loop0 n) n (s_9, i_10, not_11, true, b12, b13, (List.replicate 256 false), ())
def ref04_Bracket_join0 (n : Nat) (x2 : List UInt8 × List (Bool) × List (Bool) × Unit) : Option (List (Bool) × Int × Int) :=
 let s_3 : List UInt8 := x2.1
 let b4 : List (Bool) := x2.2.1
 let b5 : List (Bool) := x2.2.2.1
 br (decide ((1 : Int) < (s_3.length : Int))) (
  chk (inB 1 s_3.length) (
   let v6 : Int := ((getAt 0 s_3 1).toNat : Int)
   br (v6 == 94) (
    let v7 : Int := IntKind.wrap .i64 (1 + 1)
    jn (ref04_Bracket_join1 n) (s_3, v7, true, b4, b5, ())) (
    jn (ref04_Bracket_join1 n) (s_3, 1, false, b4, b5, ())))) (
  jn (ref04_Bracket_join1 n) (s_3, 1, false, b4, b5, ()))
def ref04_Bracket (n : Nat) (x : List UInt8) : Option (List (Bool) × Int × Int) :=
 let s_0 : List UInt8 := x
 br ((s_0.length : Int) == 0) (
  some ((List.replicate 256 false), 0, 42)) (
  chk (inB 0 s_0.length) (
   let v1 : Int := ((getAt 0 s_0 0).toNat : Int)
   br (v1 != 91) (
    some ((List.replicate 256 false), 0, 42)) (
    jn (ref04_Bracket_join0 n) (s_0, (List.replicate 256 false), (List.replicate 256 false), ()))))
def ref02_Words_loop0 (n : Nat) (g0 : Int × List (Bool) × List (Int) × List (Int) × Unit → Option (List (Int))) (x1 : Int × List (Bool) × List (Int) × List (Int) × Unit) : Option (List (Int)) :=
 let i_2 : Int := x1.1
 let b3 : List (Bool) := x1.2.1
 let b4 : List (Int) := x1.2.2.1
 let b5 : List (Int) := x1.2.2.2.1
 br (decide (i_2 ≥ 0)) (
  chk ((!decide (64 = 0))) (
   let v6 : Int := IntKind.wrap .i64 (Int.tdiv i_2 64)
   chk ((!decide (64 = 0))) (
    let v7 : Int := IntKind.wrap .i64 (Int.tdiv i_2 64)
    chk (inB v7 4) (
     chk (decide (v7.toNat < 4)) (
      let v8 : Int := b5.getD (v7.toNat) (Ty.dflt (.int .u64))
      let v9 : Int := IntKind.wrap .u64 (v8 * 2)
      chk (inB v6 4) (
       chk (decide (v6.toNat < 4)) (
        chk (inB i_2 256) (
         chk (decide (i_2.toNat < 256)) (
          br (b3.getD (i_2.toNat) (Ty.dflt .bool)) (
           chk ((!decide (64 = 0))) (
            let v10 : Int := IntKind.wrap .i64 (Int.tdiv i_2 64)
            chk (inB v10 4) (
             chk (decide (v10.toNat < 4)) (
              let v11 : Int := (b5.set (v6.toNat) v9).getD (v10.toNat) (Ty.dflt (.int .u64))
              let v12 : Int := IntKind.wrap .u64 (v11 + 1)
              chk (inB v10 4) (
               chk (decide (v10.toNat < 4)) (
                let v13 : Int := IntKind.wrap .i64 (i_2 - 1)
                g0 (v13, b3, b4, (b5.set (v6.toNat) v9).set (v10.toNat) v12, ()))))))) (
           let v14 : Int := IntKind.wrap .i64 (i_2 - 1)
           g0 (v14, b3, b4, b5.set (v6.toNat) v9, ()))))))))))) (
  some b5)
def ref02_Words (n : Nat) (x : List (Bool)) : Option (List (Int)) :=
 let a_0 : List (Bool) := x
 fix (ref02_Words_loop0 n) n (255, a_0, [0, 0, 0, 0], [0, 0, 0, 0], ())
def ref04_in_loop0 (n : Nat) (g0 : List UInt8 × Int × Int × Unit → Option (Bool)) (x1 : List UInt8 × Int × Int × Unit) : Option (Bool) :=
 let s_2 : List UInt8 := x1.1
 let b_3 : Int := x1.2.1
 let i_4 : Int := x1.2.2.1
 br (decide (i_4 < (s_2.length : Int))) (
  chk (inB i_4 s_2.length) (
   let v5 : Int := ((getAt 0 s_2 i_4).toNat : Int)
   br (v5 == b_3) (
    some true) (
    let v6 : Int := IntKind.wrap .i64 (i_4 + 1)
    g0 (s_2, b_3, v6, ())))) (
  some false)
def ref04_in (n : Nat) (x : List UInt8 × Int) : Option (Bool) :=
 let s_0 : List UInt8 := x.1
 let b_1 : Int := x.2
 fix (ref04_in_loop0 n) n (s_0, b_1, 0, ())
def ref04_leaf (n : Nat) (x : (List (NdT) × Int × List (Bool) × Int × Int × Unit) × Int × List (Int) × Int × Int × Int × Int × Int × Unit) : Option (List (NdT) × Int × List (Bool) × Int × Int × Unit) :=
 let t_0 : List (NdT) × Int × List (Bool) × Int × Int × Unit := x.1
 let n_1 : Int × List (Int) × Int × Int × Int × Int × Int × Unit := x.2
 chk (Nat.ble ((([] : List (NdT)).length + t_0.1.length) * 80) room) (
  chk (Nat.ble ((([] ++ t_0.1 : List (NdT)).length + ([n_1] : List (NdT)).length) * 80) room) (
   some (([] ++ t_0.1) ++ [n_1], t_0.2)))
def ref04_closes (n : Nat) (x : List UInt8 × Int) : Option (Bool) :=
 let s_0 : List UInt8 := x.1
 let i_1 : Int := x.2
 br (i_1 == (s_0.length : Int)) (
  some true) (
  let v1 : Int := IntKind.wrap .i64 (i_1 + 1)
  br (decide (v1 < (s_0.length : Int))) (
   let v2 : Int := IntKind.wrap .i64 (i_1 + 2)
   chk ((decide (0 ≤ v2) && decide (v2 ≤ (s_0.length : Int)) && (decide (0 ≤ i_1) && decide (i_1 ≤ v2)))) (
    let v3 : List UInt8 := (s_0.take v2.toNat).drop i_1.toNat
    some (v3 == [92, 41]))) (
   some false))
def ref04_bytes (n : Nat) (x : (List (NdT) × Int × List (Bool) × Int × Int × Unit) × List (Bool)) : Option (List (NdT) × Int × List (Bool) × Int × Int × Unit) :=
 let t_0 : List (NdT) × Int × List (Bool) × Int × Int × Unit := x.1
 let a_1 : List (Bool) := x.2
 ob (ref02_Words n a_1) fun y1 =>
 ob (ref04_leaf n (t_0, (1, (y1, (0, (0, (0, (0, (0, ()))))))))) fun y2 =>
 some y2
def ref04_wrong (n : Nat) (x : (List (NdT) × Int × List (Bool) × Int × Int × Unit) × Int × Int) : Option (List (NdT) × Int × List (Bool) × Int × Int × Unit) :=
 let t_0 : List (NdT) × Int × List (Bool) × Int × Int × Unit := x.1
 let t1_1 : Int := x.2.1
 let e_2 : Int := x.2.2
 some (t_0.1, (t_0.2.1, (t_0.2.2.1, (t1_1, (e_2, ())))))
def ref04_atom (n : Nat) (r_ref04_row : (List UInt8 × Int × List (NdT) × Int × List (Bool) × Int × Int × Unit) → Option ((List (NdT) × Int × List (Bool) × Int × Int × Unit) × Int)) (x : List UInt8 × Int × Bool × List (NdT) × Int × List (Bool) × Int × Int × Unit) : Option ((List (NdT) × Int × List (Bool) × Int × Int × Unit) × Int) :=
 let s_0 : List UInt8 := x.1
 let i_1 : Int := x.2.1
 let first_2 : Bool := x.2.2.1
 let t_3 : List (NdT) × Int × List (Bool) × Int × Int × Unit := x.2.2.2
 chk (inB i_1 s_0.length) (
  let v1 : Int := ((getAt 0 s_0 i_1).toNat : Int)
  br (v1 == 46) (
   ob (ref02_Range n (0, 255)) fun y2 =>
   ob (ref04_bytes n (t_3, y2)) fun y3 =>
   let v4 : Int := IntKind.wrap .i64 (i_1 + 1)
   some (y3, v4)) (
   br (v1 == 91) (
    chk ((decide (0 ≤ i_1) && decide (i_1 ≤ (s_0.length : Int)))) (
     ob (ref04_Bracket n (s_0.drop i_1.toNat)) fun y5 =>
     br (y5.2.2 != 0) (
      ob (ref04_wrong n (t_3, i_1, y5.2.2)) fun y6 =>
      some (y6, i_1)) (
      ob (ref04_bytes n (t_3, y5.1)) fun y7 =>
      let v8 : Int := IntKind.wrap .i64 (i_1 + y5.2.1)
      some (y7, v8)))) (
    br (v1 != 92) (
     let v9 : Int := IntKind.wrap .i64 (i_1 + 1)
     chk ((decide (0 ≤ v9) && decide (v9 ≤ (s_0.length : Int)) && (decide (0 ≤ i_1) && decide (i_1 ≤ v9)))) (
      let v10 : List UInt8 := (s_0.take v9.toNat).drop i_1.toNat
      ob (ref02_Of n v10) fun y11 =>
      ob (ref04_bytes n (t_3, y11)) fun y12 =>
      let v13 : Int := IntKind.wrap .i64 (i_1 + 1)
      some (y12, v13))) (
     let v14 : Int := IntKind.wrap .i64 (i_1 + 1)
     br (v14 == (s_0.length : Int)) (
      ob (ref04_wrong n (t_3, i_1, 40)) fun y15 =>
      some (y15, i_1)) (
      let v16 : Int := IntKind.wrap .i64 (i_1 + 1)
      chk (inB v16 s_0.length) (
       let v17 : Int := ((getAt 0 s_0 v16).toNat : Int)
       br (v17 == 40) (
        br (t_3.2.1 == 9) (
         ob (ref04_wrong n (t_3, i_1, 41)) fun y18 =>
         some (y18, i_1)) (
         let v19 : Int := IntKind.wrap .i64 (t_3.2.1 + 1)
         let v20 : Int := IntKind.wrap .i64 (i_1 + 2)
         ob (r_ref04_row (s_0, v20, (t_3.1, (v19, t_3.2.2)))) fun y21 =>
         br (y21.1.2.2.2.2.1 != 0) (
          some (y21.1, y21.2)) (
          br (y21.2 == (s_0.length : Int)) (
           ob (ref04_wrong n ((t_3.1, (v19, t_3.2.2)), i_1, 41)) fun y22 =>
           some (y22, i_1)) (
           br ((y21.1.1.length : Int) == (t_3.1.length : Int)) (
            ob (ref04_wrong n ((t_3.1, (v19, t_3.2.2)), i_1, 41)) fun y23 =>
            some (y23, i_1)) (
            chk (inB v19 10) (
             chk (decide (v19.toNat < 10)) (
              let v24 : Int := IntKind.wrap .i64 ((y21.1.1.length : Int) - 1)
              ob (ref04_leaf n ((y21.1.1, (y21.1.2.1, (y21.1.2.2.1.set (v19.toNat) true, y21.1.2.2.2))), (7, ([0, 0, 0, 0], (v24, (0, (0, (0, (v19, ()))))))))) fun y25 =>
              let v26 : Int := IntKind.wrap .i64 (y21.2 + 2)
              some (y25, v26)))))))) (
        br (decide (v17 ≥ 49)) (
         br (decide (v17 ≤ 57)) (
          let v27 : Int := IntKind.wrap .u8 (v17 - 48)
          chk (inB (IntKind.wrap .i64 v27) 10) (
           chk (decide ((IntKind.wrap .i64 v27).toNat < 10)) (
            br (!(t_3.2.2.1.getD ((IntKind.wrap .i64 v27).toNat) (Ty.dflt .bool))) (
             ob (ref04_wrong n (t_3, i_1, 44)) fun y28 =>
             some (y28, i_1)) (
             let v29 : Int := IntKind.wrap .u8 (v17 - 48)
             ob (ref04_leaf n (t_3, (8, ([0, 0, 0, 0], (0, (0, (0, (0, (IntKind.wrap .i64 v29, ()))))))))) fun y30 =>
             let v31 : Int := IntKind.wrap .i64 (i_1 + 2)
             some (y30, v31))))) (
          br (v17 == 110) (
           ob (ref02_Of n [10]) fun y32 =>
           ob (ref04_bytes n (t_3, y32)) fun y33 =>
           let v34 : Int := IntKind.wrap .i64 (i_1 + 2)
           some (y33, v34)) (
           ob (ref04_in n ([46, 91, 92, 42, 94, 36, 47], v17)) fun y35 =>
           br y35 (
            let v36 : Int := IntKind.wrap .i64 (i_1 + 1)
            let v37 : Int := IntKind.wrap .i64 (i_1 + 2)
            chk ((decide (0 ≤ v37) && decide (v37 ≤ (s_0.length : Int)) && (decide (0 ≤ v36) && decide (v36 ≤ v37)))) (
             let v38 : List UInt8 := (s_0.take v37.toNat).drop v36.toNat
             ob (ref02_Of n v38) fun y39 =>
             ob (ref04_bytes n (t_3, y39)) fun y40 =>
             let v41 : Int := IntKind.wrap .i64 (i_1 + 2)
             some (y40, v41))) (
            br (v17 == 123) (
             br first_2 (
              ob (ref04_wrong n (t_3, i_1, 43)) fun y42 =>
              some (y42, i_1)) (
              ob (ref04_wrong n (t_3, i_1, 40)) fun y43 =>
              some (y43, i_1))) (
             ob (ref04_wrong n (t_3, i_1, 40)) fun y44 =>
             some (y44, i_1)))))) (
         br (v17 == 110) (
          ob (ref02_Of n [10]) fun y45 =>
          ob (ref04_bytes n (t_3, y45)) fun y46 =>
          let v47 : Int := IntKind.wrap .i64 (i_1 + 2)
          some (y46, v47)) (
          ob (ref04_in n ([46, 91, 92, 42, 94, 36, 47], v17)) fun y48 =>
          br y48 (
           let v49 : Int := IntKind.wrap .i64 (i_1 + 1)
           let v50 : Int := IntKind.wrap .i64 (i_1 + 2)
           chk ((decide (0 ≤ v50) && decide (v50 ≤ (s_0.length : Int)) && (decide (0 ≤ v49) && decide (v49 ≤ v50)))) (
            let v51 : List UInt8 := (s_0.take v50.toNat).drop v49.toNat
            ob (ref02_Of n v51) fun y52 =>
            ob (ref04_bytes n (t_3, y52)) fun y53 =>
            let v54 : Int := IntKind.wrap .i64 (i_1 + 2)
            some (y53, v54))) (
           br (v17 == 123) (
            br first_2 (
             ob (ref04_wrong n (t_3, i_1, 43)) fun y55 =>
             some (y55, i_1)) (
             ob (ref04_wrong n (t_3, i_1, 40)) fun y56 =>
             some (y56, i_1))) (
            ob (ref04_wrong n (t_3, i_1, 40)) fun y57 =>
            some (y57, i_1))))))))))))
def ref04_Digits_loop0 (n : Nat) (g0 : List UInt8 × Int × Int × Int × Unit → Option (Int × Int)) (x1 : List UInt8 × Int × Int × Int × Unit) : Option (Int × Int) :=
 let s_2 : List UInt8 := x1.1
 let i_3 : Int := x1.2.1
 let n_4 : Int := x1.2.2.1
 let k_5 : Int := x1.2.2.2.1
 br (decide (k_5 < (s_2.length : Int))) (
  let v6 : Int := IntKind.wrap .i64 (i_3 + 3)
  br (decide (k_5 < v6)) (
   chk (inB k_5 s_2.length) (
    let v7 : Int := ((getAt 0 s_2 k_5).toNat : Int)
    br (decide (v7 ≥ 48)) (
     chk (inB k_5 s_2.length) (
      let v8 : Int := ((getAt 0 s_2 k_5).toNat : Int)
      br (decide (v8 ≤ 57)) (
       let v9 : Int := IntKind.wrap .i64 (n_4 * 10)
       chk (inB k_5 s_2.length) (
        let v10 : Int := ((getAt 0 s_2 k_5).toNat : Int)
        let v11 : Int := IntKind.wrap .u8 (v10 - 48)
        let v12 : Int := IntKind.wrap .i64 (v9 + (IntKind.wrap .i64 v11))
        let v13 : Int := IntKind.wrap .i64 (k_5 + 1)
        g0 (s_2, i_3, v12, v13, ()))) (
       br (k_5 == i_3) (
        some (0, (-1))) (
        some (n_4, k_5))))) (
     br (k_5 == i_3) (
      some (0, (-1))) (
      some (n_4, k_5))))) (
   br (k_5 == i_3) (
    some (0, (-1))) (
    some (n_4, k_5)))) (
  br (k_5 == i_3) (
   some (0, (-1))) (
   some (n_4, k_5)))
def ref04_Digits (n : Nat) (x : List UInt8 × Int) : Option (Int × Int) :=
 let s_0 : List UInt8 := x.1
 let i_1 : Int := x.2
 fix (ref04_Digits_loop0 n) n (s_0, i_1, 0, i_1, ())
def ref04_Times (n : Nat) (x : List UInt8 × Int × List UInt8) : Option (Int × Int × Int) :=
 let s_0 : List UInt8 := x.1
 let i_1 : Int := x.2.1
 let t2_2 : List UInt8 := x.2.2
 ob (ref04_Digits n (s_0, i_1)) fun y1 =>
 br (decide (y1.2 < 0)) (
  some (0, 0, (-1))) (
  br (decide (y1.2 < (s_0.length : Int))) (
   chk (inB y1.2 s_0.length) (
    let v2 : Int := ((getAt 0 s_0 y1.2).toNat : Int)
    br (v2 == 44) (
     let v3 : Int := IntKind.wrap .i64 (y1.2 + 1)
     ob (ref04_Digits n (s_0, v3)) fun y4 =>
     br (decide (y4.2 ≥ 0)) (
      let v5 : Int := IntKind.wrap .i64 (y4.2 + (t2_2.length : Int))
      br (decide (v5 > (s_0.length : Int))) (
       some (0, 0, (-1))) (
       let v6 : Int := IntKind.wrap .i64 (y4.2 + (t2_2.length : Int))
       chk ((decide (0 ≤ v6) && decide (v6 ≤ (s_0.length : Int)) && (decide (0 ≤ y4.2) && decide (y4.2 ≤ v6)))) (
        let v7 : List UInt8 := (s_0.take v6.toNat).drop y4.2.toNat
        br (!(v7 == t2_2)) (
         some (0, 0, (-1))) (
         br (decide (y1.1 > 255)) (
          some (0, 0, (-1))) (
          br (decide (y4.1 > 255)) (
           some (0, 0, (-1))) (
           br (decide (y4.1 ≥ 0)) (
            br (decide (y4.1 < y1.1)) (
             some (0, 0, (-1))) (
             br (y4.1 == 0) (
              some (0, 0, (-1))) (
              let v8 : Int := IntKind.wrap .i64 (y4.2 + (t2_2.length : Int))
              some (y1.1, y4.1, v8)))) (
            br (y4.1 == 0) (
             some (0, 0, (-1))) (
             let v9 : Int := IntKind.wrap .i64 (y4.2 + (t2_2.length : Int))
             some (y1.1, y4.1, v9))))))))) (
      let v10 : Int := IntKind.wrap .i64 (v3 + (t2_2.length : Int))
      br (decide (v10 > (s_0.length : Int))) (
       some (0, 0, (-1))) (
       let v11 : Int := IntKind.wrap .i64 (v3 + (t2_2.length : Int))
       chk ((decide (0 ≤ v11) && decide (v11 ≤ (s_0.length : Int)) && (decide (0 ≤ v3) && decide (v3 ≤ v11)))) (
        let v12 : List UInt8 := (s_0.take v11.toNat).drop v3.toNat
        br (!(v12 == t2_2)) (
         some (0, 0, (-1))) (
         br (decide (y1.1 > 255)) (
          some (0, 0, (-1))) (
          br (decide (((-1) : Int) > 255)) (
           some (0, 0, (-1))) (
           br (decide (((-1) : Int) ≥ 0)) (
            br (decide (((-1) : Int) < y1.1)) (
             some (0, 0, (-1))) (
             br (((-1) : Int) == 0) (
              some (0, 0, (-1))) (
              let v13 : Int := IntKind.wrap .i64 (v3 + (t2_2.length : Int))
              some (y1.1, (-1), v13)))) (
            br (((-1) : Int) == 0) (
             some (0, 0, (-1))) (
             let v14 : Int := IntKind.wrap .i64 (v3 + (t2_2.length : Int))
             some (y1.1, (-1), v14)))))))))) (
     let v15 : Int := IntKind.wrap .i64 (y1.2 + (t2_2.length : Int))
     br (decide (v15 > (s_0.length : Int))) (
      some (0, 0, (-1))) (
      let v16 : Int := IntKind.wrap .i64 (y1.2 + (t2_2.length : Int))
      chk ((decide (0 ≤ v16) && decide (v16 ≤ (s_0.length : Int)) && (decide (0 ≤ y1.2) && decide (y1.2 ≤ v16)))) (
       let v17 : List UInt8 := (s_0.take v16.toNat).drop y1.2.toNat
       br (!(v17 == t2_2)) (
        some (0, 0, (-1))) (
        br (decide (y1.1 > 255)) (
         some (0, 0, (-1))) (
         br (decide (y1.1 > 255)) (
          some (0, 0, (-1))) (
          br (decide (y1.1 ≥ 0)) (
           br (decide (y1.1 < y1.1)) (
            some (0, 0, (-1))) (
            br (y1.1 == 0) (
             some (0, 0, (-1))) (
             let v18 : Int := IntKind.wrap .i64 (y1.2 + (t2_2.length : Int))
             some (y1.1, y1.1, v18)))) (
           br (y1.1 == 0) (
            some (0, 0, (-1))) (
            let v19 : Int := IntKind.wrap .i64 (y1.2 + (t2_2.length : Int))
            some (y1.1, y1.1, v19))))))))))) (
   let v20 : Int := IntKind.wrap .i64 (y1.2 + (t2_2.length : Int))
   br (decide (v20 > (s_0.length : Int))) (
    some (0, 0, (-1))) (
    let v21 : Int := IntKind.wrap .i64 (y1.2 + (t2_2.length : Int))
    chk ((decide (0 ≤ v21) && decide (v21 ≤ (s_0.length : Int)) && (decide (0 ≤ y1.2) && decide (y1.2 ≤ v21)))) (
     let v22 : List UInt8 := (s_0.take v21.toNat).drop y1.2.toNat
     br (!(v22 == t2_2)) (
      some (0, 0, (-1))) (
      br (decide (y1.1 > 255)) (
       some (0, 0, (-1))) (
       br (decide (y1.1 > 255)) (
        some (0, 0, (-1))) (
        br (decide (y1.1 ≥ 0)) (
         br (decide (y1.1 < y1.1)) (
          some (0, 0, (-1))) (
          br (y1.1 == 0) (
           some (0, 0, (-1))) (
           let v23 : Int := IntKind.wrap .i64 (y1.2 + (t2_2.length : Int))
           some (y1.1, y1.1, v23)))) (
         br (y1.1 == 0) (
          some (0, 0, (-1))) (
          let v24 : Int := IntKind.wrap .i64 (y1.2 + (t2_2.length : Int))
          some (y1.1, y1.1, v24))))))))))
def ref04_times (n : Nat) (x : List UInt8 × Int × List (NdT) × Int × List (Bool) × Int × Int × Unit) : Option ((List (NdT) × Int × List (Bool) × Int × Int × Unit) × Int) :=
 let s_0 : List UInt8 := x.1
 let i_1 : Int := x.2.1
 let t_2 : List (NdT) × Int × List (Bool) × Int × Int × Unit := x.2.2
 br (decide (i_1 < (s_0.length : Int))) (
  chk (inB i_1 s_0.length) (
   let v1 : Int := ((getAt 0 s_0 i_1).toNat : Int)
   br (v1 == 42) (
    let v2 : Int := IntKind.wrap .i64 (i_1 + 1)
    let v3 : Int := IntKind.wrap .i64 ((t_2.1.length : Int) - 1)
    ob (ref04_leaf n (t_2, (6, ([0, 0, 0, 0], (v3, (0, (0, ((-1), (0, ()))))))))) fun y4 =>
    br (decide (v2 < (s_0.length : Int))) (
     chk (inB v2 s_0.length) (
      let v5 : Int := ((getAt 0 s_0 v2).toNat : Int)
      br (v5 == 42) (
       ob (ref04_wrong n (y4, v2, 43)) fun y6 =>
       some (y6, v2)) (
       let v7 : Int := IntKind.wrap .i64 (v2 + 1)
       br (decide (v7 < (s_0.length : Int))) (
        let v8 : Int := IntKind.wrap .i64 (v2 + 2)
        chk ((decide (0 ≤ v8) && decide (v8 ≤ (s_0.length : Int)) && (decide (0 ≤ v2) && decide (v2 ≤ v8)))) (
         let v9 : List UInt8 := (s_0.take v8.toNat).drop v2.toNat
         br (v9 == [92, 123]) (
          ob (ref04_wrong n (y4, v2, 43)) fun y10 =>
          some (y10, v2)) (
          some (y4, v2)))) (
        some (y4, v2))))) (
     let v11 : Int := IntKind.wrap .i64 (v2 + 1)
     br (decide (v11 < (s_0.length : Int))) (
      let v12 : Int := IntKind.wrap .i64 (v2 + 2)
      chk ((decide (0 ≤ v12) && decide (v12 ≤ (s_0.length : Int)) && (decide (0 ≤ v2) && decide (v2 ≤ v12)))) (
       let v13 : List UInt8 := (s_0.take v12.toNat).drop v2.toNat
       br (v13 == [92, 123]) (
        ob (ref04_wrong n (y4, v2, 43)) fun y14 =>
        some (y14, v2)) (
        some (y4, v2)))) (
      some (y4, v2)))) (
    let v15 : Int := IntKind.wrap .i64 (i_1 + 1)
    br (decide (v15 < (s_0.length : Int))) (
     let v16 : Int := IntKind.wrap .i64 (i_1 + 2)
     chk ((decide (0 ≤ v16) && decide (v16 ≤ (s_0.length : Int)) && (decide (0 ≤ i_1) && decide (i_1 ≤ v16)))) (
      let v17 : List UInt8 := (s_0.take v16.toNat).drop i_1.toNat
      br (v17 == [92, 123]) (
       let v18 : Int := IntKind.wrap .i64 (i_1 + 2)
       ob (ref04_Times n (s_0, v18, [92, 125])) fun y19 =>
       br (decide (y19.2.2 < 0)) (
        ob (ref04_wrong n (t_2, i_1, 43)) fun y20 =>
        some (y20, i_1)) (
        let v21 : Int := IntKind.wrap .i64 ((t_2.1.length : Int) - 1)
        ob (ref04_leaf n (t_2, (6, ([0, 0, 0, 0], (v21, (0, (y19.1, (y19.2.1, (0, ()))))))))) fun y22 =>
        br (decide (y19.2.2 < (s_0.length : Int))) (
         chk (inB y19.2.2 s_0.length) (
          let v23 : Int := ((getAt 0 s_0 y19.2.2).toNat : Int)
          br (v23 == 42) (
           ob (ref04_wrong n (y22, y19.2.2, 43)) fun y24 =>
           some (y24, y19.2.2)) (
           let v25 : Int := IntKind.wrap .i64 (y19.2.2 + 1)
           br (decide (v25 < (s_0.length : Int))) (
            let v26 : Int := IntKind.wrap .i64 (y19.2.2 + 2)
            chk ((decide (0 ≤ v26) && decide (v26 ≤ (s_0.length : Int)) && (decide (0 ≤ y19.2.2) && decide (y19.2.2 ≤ v26)))) (
             let v27 : List UInt8 := (s_0.take v26.toNat).drop y19.2.2.toNat
             br (v27 == [92, 123]) (
              ob (ref04_wrong n (y22, y19.2.2, 43)) fun y28 =>
              some (y28, y19.2.2)) (
              some (y22, y19.2.2)))) (
            some (y22, y19.2.2))))) (
         let v29 : Int := IntKind.wrap .i64 (y19.2.2 + 1)
         br (decide (v29 < (s_0.length : Int))) (
          let v30 : Int := IntKind.wrap .i64 (y19.2.2 + 2)
          chk ((decide (0 ≤ v30) && decide (v30 ≤ (s_0.length : Int)) && (decide (0 ≤ y19.2.2) && decide (y19.2.2 ≤ v30)))) (
           let v31 : List UInt8 := (s_0.take v30.toNat).drop y19.2.2.toNat
           br (v31 == [92, 123]) (
            ob (ref04_wrong n (y22, y19.2.2, 43)) fun y32 =>
            some (y32, y19.2.2)) (
            some (y22, y19.2.2)))) (
          some (y22, y19.2.2))))) (
       some (t_2, i_1)))) (
     some (t_2, i_1))))) (
  let v33 : Int := IntKind.wrap .i64 (i_1 + 1)
  br (decide (v33 < (s_0.length : Int))) (
   let v34 : Int := IntKind.wrap .i64 (i_1 + 2)
   chk ((decide (0 ≤ v34) && decide (v34 ≤ (s_0.length : Int)) && (decide (0 ≤ i_1) && decide (i_1 ≤ v34)))) (
    let v35 : List UInt8 := (s_0.take v34.toNat).drop i_1.toNat
    br (v35 == [92, 123]) (
     let v36 : Int := IntKind.wrap .i64 (i_1 + 2)
     ob (ref04_Times n (s_0, v36, [92, 125])) fun y37 =>
     br (decide (y37.2.2 < 0)) (
      ob (ref04_wrong n (t_2, i_1, 43)) fun y38 =>
      some (y38, i_1)) (
      let v39 : Int := IntKind.wrap .i64 ((t_2.1.length : Int) - 1)
      ob (ref04_leaf n (t_2, (6, ([0, 0, 0, 0], (v39, (0, (y37.1, (y37.2.1, (0, ()))))))))) fun y40 =>
      br (decide (y37.2.2 < (s_0.length : Int))) (
       chk (inB y37.2.2 s_0.length) (
        let v41 : Int := ((getAt 0 s_0 y37.2.2).toNat : Int)
        br (v41 == 42) (
         ob (ref04_wrong n (y40, y37.2.2, 43)) fun y42 =>
         some (y42, y37.2.2)) (
         let v43 : Int := IntKind.wrap .i64 (y37.2.2 + 1)
         br (decide (v43 < (s_0.length : Int))) (
          let v44 : Int := IntKind.wrap .i64 (y37.2.2 + 2)
          chk ((decide (0 ≤ v44) && decide (v44 ≤ (s_0.length : Int)) && (decide (0 ≤ y37.2.2) && decide (y37.2.2 ≤ v44)))) (
           let v45 : List UInt8 := (s_0.take v44.toNat).drop y37.2.2.toNat
           br (v45 == [92, 123]) (
            ob (ref04_wrong n (y40, y37.2.2, 43)) fun y46 =>
            some (y46, y37.2.2)) (
            some (y40, y37.2.2)))) (
          some (y40, y37.2.2))))) (
       let v47 : Int := IntKind.wrap .i64 (y37.2.2 + 1)
       br (decide (v47 < (s_0.length : Int))) (
        let v48 : Int := IntKind.wrap .i64 (y37.2.2 + 2)
        chk ((decide (0 ≤ v48) && decide (v48 ≤ (s_0.length : Int)) && (decide (0 ≤ y37.2.2) && decide (y37.2.2 ≤ v48)))) (
         let v49 : List UInt8 := (s_0.take v48.toNat).drop y37.2.2.toNat
         br (v49 == [92, 123]) (
          ob (ref04_wrong n (y40, y37.2.2, 43)) fun y50 =>
          some (y50, y37.2.2)) (
          some (y40, y37.2.2)))) (
        some (y40, y37.2.2))))) (
     some (t_2, i_1)))) (
   some (t_2, i_1)))
def ref04_row_loop1 (n : Nat) (g1 : Int × Int × List (NdT) × Int × List (Bool) × Int × Int × List (NdT) × Int × List (Bool) × Int × Int × List (Int) × Unit → Option ((List (NdT) × Int × List (Bool) × Int × Int × Unit) × Int)) (x87 : Int × Int × List (NdT) × Int × List (Bool) × Int × Int × List (NdT) × Int × List (Bool) × Int × Int × List (Int) × Unit) : Option ((List (NdT) × Int × List (Bool) × Int × Int × Unit) × Int) :=
 let i_88 : Int := x87.1
 let k_89 : Int := x87.2.1
 let l90 : List (NdT) := x87.2.2.1
 let begun91 : Int := x87.2.2.2.1
 let ended92 : List (Bool) := x87.2.2.2.2.1
 let at93 : Int := x87.2.2.2.2.2.1
 let e94 : Int := x87.2.2.2.2.2.2.1
 let l95 : List (NdT) := x87.2.2.2.2.2.2.2.1
 let begun96 : Int := x87.2.2.2.2.2.2.2.2.1
 let ended97 : List (Bool) := x87.2.2.2.2.2.2.2.2.2.1
 let at98 : Int := x87.2.2.2.2.2.2.2.2.2.2.1
 let e99 : Int := x87.2.2.2.2.2.2.2.2.2.2.2.1
 let row100 : List (Int) := x87.2.2.2.2.2.2.2.2.2.2.2.2.1
 br (decide (k_89 ≥ 0)) (
  chk ((inB k_89 (row100.length) && decide (0 + (row100.length) ≤ row100.length))) (
   chk (decide (0 + k_89.toNat < row100.length)) (
    let v101 : Int := row100.getD (0 + k_89.toNat) (Ty.dflt (.int .i64))
    let v102 : Int := IntKind.wrap .i64 ((l90.length : Int) - 1)
    ob (ref04_leaf n ((l90, (begun91, (ended92, (at93, (e94, ()))))), (4, ([0, 0, 0, 0], (v101, (v102, (0, (0, (0, ()))))))))) fun y103 =>
    let v104 : Int := IntKind.wrap .i64 (k_89 - 1)
    g1 (i_88, v104, y103.1, y103.2.1, y103.2.2.1, y103.2.2.2.1, y103.2.2.2.2.1, l95, begun96, ended97, at98, e99, row100, ())))) (
  some ((l90, (begun91, (ended92, (at93, (e94, ()))))), i_88))
def ref04_row_join3 (n : Nat) (x72 : Int × List (NdT) × Int × List (Bool) × Int × Int × List (NdT) × Int × List (Bool) × Int × Int × List (Int) × Unit) : Option ((List (NdT) × Int × List (Bool) × Int × Int × Unit) × Int) :=
 let i_73 : Int := x72.1
 let l74 : List (NdT) := x72.2.1
 let begun75 : Int := x72.2.2.1
 let ended76 : List (Bool) := x72.2.2.2.1
 let at77 : Int := x72.2.2.2.2.1
 let e78 : Int := x72.2.2.2.2.2.1
 let l79 : List (NdT) := x72.2.2.2.2.2.2.1
 let begun80 : Int := x72.2.2.2.2.2.2.2.1
 let ended81 : List (Bool) := x72.2.2.2.2.2.2.2.2.1
 let at82 : Int := x72.2.2.2.2.2.2.2.2.2.1
 let e83 : Int := x72.2.2.2.2.2.2.2.2.2.2.1
 let row84 : List (Int) := x72.2.2.2.2.2.2.2.2.2.2.2.1
 let v85 : Int := ((row84.length : Nat) : Int)
 let v86 : Int := IntKind.wrap .i64 (v85 - 2)
 fix (ref04_row_loop1 n) n (i_73, v86, l74, begun75, ended76, at77, e78, l79, begun80, ended81, at82, e83, row84, ())
def ref04_row_join5 (n : Nat) (g0 : List UInt8 × Int × Bool × List (NdT) × Int × List (Bool) × Int × Int × List (NdT) × Int × List (Bool) × Int × Int × List (Int) × Unit → Option ((List (NdT) × Int × List (Bool) × Int × Int × Unit) × Int)) (x122 : List UInt8 × Int × List (NdT) × Int × List (Bool) × Int × Int × List (NdT) × Int × List (Bool) × Int × Int × List (Int) × Unit) : Option ((List (NdT) × Int × List (Bool) × Int × Int × Unit) × Int) :=
 let s_123 : List UInt8 := x122.1
 let i_124 : Int := x122.2.1
 let l125 : List (NdT) := x122.2.2.1
 let begun126 : Int := x122.2.2.2.1
 let ended127 : List (Bool) := x122.2.2.2.2.1
 let at128 : Int := x122.2.2.2.2.2.1
 let e129 : Int := x122.2.2.2.2.2.2.1
 let l130 : List (NdT) := x122.2.2.2.2.2.2.2.1
 let begun131 : Int := x122.2.2.2.2.2.2.2.2.1
 let ended132 : List (Bool) := x122.2.2.2.2.2.2.2.2.2.1
 let at133 : Int := x122.2.2.2.2.2.2.2.2.2.2.1
 let e134 : Int := x122.2.2.2.2.2.2.2.2.2.2.2.1
 let row135 : List (Int) := x122.2.2.2.2.2.2.2.2.2.2.2.2.1
 br (e129 != 0) (
  some ((l125, (begun126, (ended127, (at128, (e129, ()))))), i_124)) (
  let v136 : Int := IntKind.wrap .i64 ((l125.length : Int) - 1)
  chk (Nat.ble ((row135.length + ([v136] : List (Int)).length) * 8) room) (
   g0 (s_123, i_124, false, l125, begun126, ended127, at128, e129, l130, begun131, ended132, at133, e134, row135 ++ [v136], ())))
def ref04_row_join4 (n : Nat) (r_ref04_row : (List UInt8 × Int × List (NdT) × Int × List (Bool) × Int × Int × Unit) → Option ((List (NdT) × Int × List (Bool) × Int × Int × Unit) × Int)) (g0 : List UInt8 × Int × Bool × List (NdT) × Int × List (Bool) × Int × Int × List (NdT) × Int × List (Bool) × Int × Int × List (Int) × Unit → Option ((List (NdT) × Int × List (Bool) × Int × Int × Unit) × Int)) (x105 : List UInt8 × Int × Bool × List (NdT) × Int × List (Bool) × Int × Int × List (NdT) × Int × List (Bool) × Int × Int × List (Int) × Unit) : Option ((List (NdT) × Int × List (Bool) × Int × Int × Unit) × Int) :=
 let s_106 : List UInt8 := x105.1
 let i_107 : Int := x105.2.1
 let first_108 : Bool := x105.2.2.1
 let l109 : List (NdT) := x105.2.2.2.1
 let begun110 : Int := x105.2.2.2.2.1
 let ended111 : List (Bool) := x105.2.2.2.2.2.1
 let at112 : Int := x105.2.2.2.2.2.2.1
 let e113 : Int := x105.2.2.2.2.2.2.2.1
 let l114 : List (NdT) := x105.2.2.2.2.2.2.2.2.1
 let begun115 : Int := x105.2.2.2.2.2.2.2.2.2.1
 let ended116 : List (Bool) := x105.2.2.2.2.2.2.2.2.2.2.1
 let at117 : Int := x105.2.2.2.2.2.2.2.2.2.2.2.1
 let e118 : Int := x105.2.2.2.2.2.2.2.2.2.2.2.2.1
 let row119 : List (Int) := x105.2.2.2.2.2.2.2.2.2.2.2.2.2.1
 ob (ref04_atom n r_ref04_row (s_106, i_107, first_108, (l109, (begun110, (ended111, (at112, (e113, ()))))))) fun y120 =>
 br (y120.1.2.2.2.2.1 == 0) (
  ob (ref04_times n (s_106, y120.2, y120.1)) fun y121 =>
  jn (ref04_row_join5 n g0) (s_106, y121.2, y121.1.1, y121.1.2.1, y121.1.2.2.1, y121.1.2.2.2.1, y121.1.2.2.2.2.1, l114, begun115, ended116, at117, e118, row119, ())) (
  jn (ref04_row_join5 n g0) (s_106, y120.2, y120.1.1, y120.1.2.1, y120.1.2.2.1, y120.1.2.2.2.1, y120.1.2.2.2.2.1, l114, begun115, ended116, at117, e118, row119, ()))
def ref04_row_join2 (n : Nat) (r_ref04_row : (List UInt8 × Int × List (NdT) × Int × List (Bool) × Int × Int × Unit) → Option ((List (NdT) × Int × List (Bool) × Int × Int × Unit) × Int)) (g0 : List UInt8 × Int × Bool × List (NdT) × Int × List (Bool) × Int × Int × List (NdT) × Int × List (Bool) × Int × Int × List (Int) × Unit → Option ((List (NdT) × Int × List (Bool) × Int × Int × Unit) × Int)) (x53 : List UInt8 × Int × Bool × Bool × List (NdT) × Int × List (Bool) × Int × Int × List (NdT) × Int × List (Bool) × Int × Int × List (Int) × Unit) : Option ((List (NdT) × Int × List (Bool) × Int × Int × Unit) × Int) :=
 let s_54 : List UInt8 := x53.1
 let i_55 : Int := x53.2.1
 let first_56 : Bool := x53.2.2.1
 let t47_57 : Bool := x53.2.2.2.1
 let l58 : List (NdT) := x53.2.2.2.2.1
 let begun59 : Int := x53.2.2.2.2.2.1
 let ended60 : List (Bool) := x53.2.2.2.2.2.2.1
 let at61 : Int := x53.2.2.2.2.2.2.2.1
 let e62 : Int := x53.2.2.2.2.2.2.2.2.1
 let l63 : List (NdT) := x53.2.2.2.2.2.2.2.2.2.1
 let begun64 : Int := x53.2.2.2.2.2.2.2.2.2.2.1
 let ended65 : List (Bool) := x53.2.2.2.2.2.2.2.2.2.2.2.1
 let at66 : Int := x53.2.2.2.2.2.2.2.2.2.2.2.2.1
 let e67 : Int := x53.2.2.2.2.2.2.2.2.2.2.2.2.2.1
 let row68 : List (Int) := x53.2.2.2.2.2.2.2.2.2.2.2.2.2.2.1
 br t47_57 (
  ob (ref04_leaf n ((l58, (begun59, (ended60, (at61, (e62, ()))))), (3, ([0, 0, 0, 0], (0, (0, (0, (0, (0, ()))))))))) fun y69 =>
  let v70 : Int := IntKind.wrap .i64 ((y69.1.length : Int) - 1)
  chk (Nat.ble ((row68.length + ([v70] : List (Int)).length) * 8) room) (
   let v71 : Int := IntKind.wrap .i64 (i_55 + 1)
   jn (ref04_row_join3 n) (v71, y69.1, y69.2.1, y69.2.2.1, y69.2.2.2.1, y69.2.2.2.2.1, l63, begun64, ended65, at66, e67, row68 ++ [v70], ()))) (
  jn (ref04_row_join4 n r_ref04_row g0) (s_54, i_55, first_56, l58, begun59, ended60, at61, e62, l63, begun64, ended65, at66, e67, row68, ()))
def ref04_row_loop0 (n : Nat) (r_ref04_row : (List UInt8 × Int × List (NdT) × Int × List (Bool) × Int × Int × Unit) → Option ((List (NdT) × Int × List (Bool) × Int × Int × Unit) × Int)) (g0 : List UInt8 × Int × Bool × List (NdT) × Int × List (Bool) × Int × Int × List (NdT) × Int × List (Bool) × Int × Int × List (Int) × Unit → Option ((List (NdT) × Int × List (Bool) × Int × Int × Unit) × Int)) (x34 : List UInt8 × Int × Bool × List (NdT) × Int × List (Bool) × Int × Int × List (NdT) × Int × List (Bool) × Int × Int × List (Int) × Unit) : Option ((List (NdT) × Int × List (Bool) × Int × Int × Unit) × Int) :=
 let s_35 : List UInt8 := x34.1
 let i_36 : Int := x34.2.1
 let first_37 : Bool := x34.2.2.1
 let l38 : List (NdT) := x34.2.2.2.1
 let begun39 : Int := x34.2.2.2.2.1
 let ended40 : List (Bool) := x34.2.2.2.2.2.1
 let at41 : Int := x34.2.2.2.2.2.2.1
 let e42 : Int := x34.2.2.2.2.2.2.2.1
 let l43 : List (NdT) := x34.2.2.2.2.2.2.2.2.1
 let begun44 : Int := x34.2.2.2.2.2.2.2.2.2.1
 let ended45 : List (Bool) := x34.2.2.2.2.2.2.2.2.2.2.1
 let at46 : Int := x34.2.2.2.2.2.2.2.2.2.2.2.1
 let e47 : Int := x34.2.2.2.2.2.2.2.2.2.2.2.2.1
 let row48 : List (Int) := x34.2.2.2.2.2.2.2.2.2.2.2.2.2.1
 ob (ref04_closes n (s_35, i_36)) fun y49 =>
 br (!y49) (
  chk (inB i_36 s_35.length) (
   let v50 : Int := ((getAt 0 s_35 i_36).toNat : Int)
   br (v50 == 36) (
    let v51 : Int := IntKind.wrap .i64 (i_36 + 1)
    ob (ref04_closes n (s_35, v51)) fun y52 =>
    jn (ref04_row_join2 n r_ref04_row g0) (s_35, i_36, first_37, y52, l38, begun39, ended40, at41, e42, l43, begun44, ended45, at46, e47, row48, ())) (
    jn (ref04_row_join2 n r_ref04_row g0) (s_35, i_36, first_37, false, l38, begun39, ended40, at41, e42, l43, begun44, ended45, at46, e47, row48, ())))) (
  jn (ref04_row_join3 n) (i_36, l38, begun39, ended40, at41, e42, l43, begun44, ended45, at46, e47, row48, ()))
def ref04_row_join1 (n : Nat) (r_ref04_row : (List UInt8 × Int × List (NdT) × Int × List (Bool) × Int × Int × Unit) → Option ((List (NdT) × Int × List (Bool) × Int × Int × Unit) × Int)) (x20 : List UInt8 × Int × List (NdT) × Int × List (Bool) × Int × Int × List (NdT) × Int × List (Bool) × Int × Int × List (Int) × Unit) : Option ((List (NdT) × Int × List (Bool) × Int × Int × Unit) × Int) :=
 let s_21 : List UInt8 := x20.1
 let i_22 : Int := x20.2.1
 let l23 : List (NdT) := x20.2.2.1
 let begun24 : Int := x20.2.2.2.1
 let ended25 : List (Bool) := x20.2.2.2.2.1
 let at26 : Int := x20.2.2.2.2.2.1
 let e27 : Int := x20.2.2.2.2.2.2.1
 let l28 : List (NdT) := x20.2.2.2.2.2.2.2.1
 let begun29 : Int := x20.2.2.2.2.2.2.2.2.1
 let ended30 : List (Bool) := x20.2.2.2.2.2.2.2.2.2.1
 let at31 : Int := x20.2.2.2.2.2.2.2.2.2.2.1
 let e32 : Int := x20.2.2.2.2.2.2.2.2.2.2.2.1
 let row33 : List (Int) := x20.2.2.2.2.2.2.2.2.2.2.2.2.1
 fix (ref04_row_loop0 n r_ref04_row) n (s_21, i_22, true, l23, begun24, ended25, at26, e27, l28, begun29, ended30, at31, e32, row33, ())
def ref04_row_join0 (n : Nat) (r_ref04_row : (List UInt8 × Int × List (NdT) × Int × List (Bool) × Int × Int × Unit) → Option ((List (NdT) × Int × List (Bool) × Int × Int × Unit) × Int)) (x2 : List UInt8 × Int × Bool × List (NdT) × Int × List (Bool) × Int × Int × List (NdT) × Int × List (Bool) × Int × Int × List (Int) × Unit) : Option ((List (NdT) × Int × List (Bool) × Int × Int × Unit) × Int) :=
 let s_3 : List UInt8 := x2.1
 let i_4 : Int := x2.2.1
 let t21_5 : Bool := x2.2.2.1
 let l6 : List (NdT) := x2.2.2.2.1
 let begun7 : Int := x2.2.2.2.2.1
 let ended8 : List (Bool) := x2.2.2.2.2.2.1
 let at9 : Int := x2.2.2.2.2.2.2.1
 let e10 : Int := x2.2.2.2.2.2.2.2.1
 let l11 : List (NdT) := x2.2.2.2.2.2.2.2.2.1
 let begun12 : Int := x2.2.2.2.2.2.2.2.2.2.1
 let ended13 : List (Bool) := x2.2.2.2.2.2.2.2.2.2.2.1
 let at14 : Int := x2.2.2.2.2.2.2.2.2.2.2.2.1
 let e15 : Int := x2.2.2.2.2.2.2.2.2.2.2.2.2.1
 let row16 : List (Int) := x2.2.2.2.2.2.2.2.2.2.2.2.2.2.1
 br t21_5 (
  ob (ref04_leaf n ((l6, (begun7, (ended8, (at9, (e10, ()))))), (2, ([0, 0, 0, 0], (0, (0, (0, (0, (0, ()))))))))) fun y17 =>
  let v18 : Int := IntKind.wrap .i64 ((y17.1.length : Int) - 1)
  chk (Nat.ble ((row16.length + ([v18] : List (Int)).length) * 8) room) (
   let v19 : Int := IntKind.wrap .i64 (i_4 + 1)
   jn (ref04_row_join1 n r_ref04_row) (s_3, v19, y17.1, y17.2.1, y17.2.2.1, y17.2.2.2.1, y17.2.2.2.2.1, l11, begun12, ended13, at14, e15, row16 ++ [v18], ()))) (
  jn (ref04_row_join1 n r_ref04_row) (s_3, i_4, l6, begun7, ended8, at9, e10, l11, begun12, ended13, at14, e15, row16, ()))
def ref04_row_body (n : Nat) (r_ref04_row : (List UInt8 × Int × List (NdT) × Int × List (Bool) × Int × Int × Unit) → Option ((List (NdT) × Int × List (Bool) × Int × Int × Unit) × Int)) (x : List UInt8 × Int × List (NdT) × Int × List (Bool) × Int × Int × Unit) : Option ((List (NdT) × Int × List (Bool) × Int × Int × Unit) × Int) :=
 let s_0 : List UInt8 := x.1
 let i_1 : Int := x.2.1
 let t_2 : List (NdT) × Int × List (Bool) × Int × Int × Unit := x.2.2
 br (decide (i_1 < (s_0.length : Int))) (
  chk (inB i_1 s_0.length) (
   let v1 : Int := ((getAt 0 s_0 i_1).toNat : Int)
   jn (ref04_row_join0 n r_ref04_row) (s_0, i_1, (v1 == 94), t_2.1, t_2.2.1, t_2.2.2.1, t_2.2.2.2.1, t_2.2.2.2.2.1, [], 0, [false, false, false, false, false, false, false, false, false, false], 0, 0, [], ()))) (
  jn (ref04_row_join0 n r_ref04_row) (s_0, i_1, false, t_2.1, t_2.2.1, t_2.2.2.1, t_2.2.2.2.1, t_2.2.2.2.2.1, [], 0, [false, false, false, false, false, false, false, false, false, false], 0, 0, [], ()))
def ref04_row (n : Nat) : (List UInt8 × Int × List (NdT) × Int × List (Bool) × Int × Int × Unit) → Option ((List (NdT) × Int × List (Bool) × Int × Int × Unit) × Int) :=
 recN (fun n r x => ref04_row_body n r x) n
def ref04_Parse (n : Nat) (x : List UInt8) : Option (List (NdT) × Int × Int) :=
 let s_0 : List UInt8 := x
 br (s_0 == []) (
  some ([(0, ([0, 0, 0, 0], (0, (0, (0, (0, (0, ())))))))], 0, 0)) (
  ob (ref04_row n (s_0, 0, ([], (0, ([false, false, false, false, false, false, false, false, false, false], (0, (0, ()))))))) fun y1 =>
  br (y1.1.2.2.2.2.1 != 0) (
   some ([], y1.1.2.2.2.1, y1.1.2.2.2.2.1)) (
   br (decide (y1.2 < (s_0.length : Int))) (
    some ([], y1.2, 41)) (
    br (decide ((y1.1.1.length : Int) > 120)) (
     some ([], 0, 2)) (
     some (y1.1.1, 0, 0)))))
def law04_its_loop0 (n : Nat) (g0 : List (NdT) × Int × List (NdT) × Unit → Option (List (NdT))) (x1 : List (NdT) × Int × List (NdT) × Unit) : Option (List (NdT)) :=
 let l_2 : List (NdT) := x1.1
 let i_3 : Int := x1.2.1
 let row4 : List (NdT) := x1.2.2.1
 br (decide (i_3 < (l_2.length : Int))) (
  chk (inB i_3 l_2.length) (
   let v5 : Int × List (Int) × Int × Int × Int × Int × Int × Unit := getAt (Ty.dflt TSiA4wiiiiiE) l_2 i_3
   chk (Nat.ble ((row4.length + ([v5] : List (NdT)).length) * 80) room) (
    let v6 : Int := IntKind.wrap .i64 (i_3 + 1)
    g0 (l_2, v6, row4 ++ [v5], ())))) (
  some row4)
def law04_its (n : Nat) (x : List (NdT)) : Option (List (NdT)) :=
 let l_0 : List (NdT) := x
 fix (law04_its_loop0 n) n (l_0, 0, [], ())
def ref03_Same_loop0 (n : Nat) (g0 : List (NdT) × List (NdT) × Int × Unit → Option (Bool)) (x1 : List (NdT) × List (NdT) × Int × Unit) : Option (Bool) :=
 let a_2 : List (NdT) := x1.1
 let b_3 : List (NdT) := x1.2.1
 let i_4 : Int := x1.2.2.1
 br (decide (i_4 < (a_2.length : Int))) (
  chk (inB i_4 a_2.length) (
   let v5 : Int × List (Int) × Int × Int × Int × Int × Int × Unit := getAt (Ty.dflt TSiA4wiiiiiE) a_2 i_4
   chk (inB i_4 b_3.length) (
    let v6 : Int × List (Int) × Int × Int × Int × Int × Int × Unit := getAt (Ty.dflt TSiA4wiiiiiE) b_3 i_4
    br (!(Ty.beq TSiA4wiiiiiE v5 v6)) (
     some false) (
     let v7 : Int := IntKind.wrap .i64 (i_4 + 1)
     g0 (a_2, b_3, v7, ()))))) (
  some true)
def ref03_Same (n : Nat) (x : List (NdT) × List (NdT)) : Option (Bool) :=
 let a_0 : List (NdT) := x.1
 let b_1 : List (NdT) := x.2
 br ((a_0.length : Int) != (b_1.length : Int)) (
  some false) (
  fix (ref03_Same_loop0 n) n (a_0, b_1, 0, ()))
def law04_BreParses (n : Nat) (x : List UInt8) : Option (Bool) :=
 let s_0 : List UInt8 := x
 br (decide ((s_0.length : Int) > 300)) (
  ob (law04_shown n ()) fun y1 =>
  some y1) (
  ob (law04_shown n ()) fun y2 =>
  br (!y2) (
   ob (law04_shown n ()) fun y3 =>
   some y3) (
   ob (bre_Parse n s_0) fun y4 =>
   ob (ref04_Parse n s_0) fun y5 =>
   ob (law04_its n y4.1) fun y6 =>
   ob (ref03_Same n (y6, y5.1)) fun y7 =>
   br y7 (
    br (y4.2.1 == y5.2.1) (
     br (y4.2.2 == y5.2.2) (
      ob (rx_May n y4.1) fun y8 =>
      some ((y4.2.2 == 0) == y8)) (
      some false)) (
     some false)) (
    some false)))
end Go.Dec
