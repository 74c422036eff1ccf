/- Part of a proof over this seat: a library of my own, and what it says of this seat. No statement is proved here. -/
import Derived.Test.YtpehkjgbhnegmaaPartAF
import Derived.Test.YtpehkjgbhnegmaaPartAG
import Derived.Test.YtpehkjgbhnegmaaPartAH
namespace Go.Dec
set_option linter.unusedVariables false

abbrev TSiibcE : Ty := .pair (.int .i64) (.pair (.int .i64) (.pair .bool (.pair (.int .u8) .unit)))
abbrev TSswE : Ty := .pair .str (.pair (.int .u64) .unit)
abbrev TSsbbE : Ty := .pair .str (.pair .bool (.pair .bool .unit))
abbrev TSsbE : Ty := .pair .str (.pair .bool .unit)
abbrev TSssE : Ty := .pair .str (.pair .str .unit)

/-- calender/link.Push -/
def link_Push (n : Nat) (x : (List UInt8 × Bool × Bool × Unit) × List UInt8 × Bool × Unit) : Option (List UInt8 × Bool × Bool × Unit) :=
  let k_0 : List UInt8 × Bool × Bool × Unit := x.1
  let e_1 : List UInt8 × Bool × Unit := x.2
  br k_0.2.2.1 (
    some k_0) (
    br k_0.2.1 (
      chk (decide (k_0.1.length + ([10] : List UInt8).length ≤ maxStr)) (
        chk (decide ((k_0.1 ++ [10]).length + e_1.1.length ≤ maxStr)) (
          br e_1.2.1 (
            chk (decide (((k_0.1 ++ [10]) ++ e_1.1).length + ([10] : List UInt8).length ≤ maxStr)) (
              let v1 : List UInt8 := ((k_0.1 ++ [10]) ++ e_1.1) ++ [10]
              some (v1, ((!e_1.2.1), k_0.2.2)))) (
            some ((k_0.1 ++ [10]) ++ e_1.1, ((!e_1.2.1), k_0.2.2)))))) (
      chk (decide (k_0.1.length + e_1.1.length ≤ maxStr)) (
        br e_1.2.1 (
          chk (decide ((k_0.1 ++ e_1.1).length + ([10] : List UInt8).length ≤ maxStr)) (
            some ((k_0.1 ++ e_1.1) ++ [10], ((!e_1.2.1), k_0.2.2)))) (
          some (k_0.1 ++ e_1.1, ((!e_1.2.1), k_0.2.2))))))

/-- calender/link.Take -/
def link_Take (n : Nat) (x : List UInt8 × Bool × Bool × Unit) : Option ((List UInt8 × Bool × Bool × Unit) × (List UInt8 × Bool × Unit) × Bool × Bool) :=
  let k_0 : List UInt8 × Bool × Bool × Unit := x
  ob (strings_Cut n (k_0.1, [10])) fun y1 =>
  br (y1.2.1 == []) (
    br (!k_0.2.2.1) (
      some (k_0, ([], (false, ())), false, false)) (
      br (k_0.1 == []) (
        some (k_0, ([], (false, ())), false, false)) (
        some ((y1.2.1, k_0.2), (y1.1, (y1.2.2, ())), (y1.2.1 == []), true)))) (
    br (k_0.1 == []) (
      some (k_0, ([], (false, ())), false, false)) (
      some ((y1.2.1, k_0.2), (y1.1, (y1.2.2, ())), (y1.2.1 == []), true)))

/-- calender/link.Known -/
def link_Known (n : Nat) (x : List UInt8 × Bool × Bool × Unit) : Option ((List UInt8 × Bool × Unit) × Bool × Bool) :=
  let k_0 : List UInt8 × Bool × Bool × Unit := x
  ob (link_Take n k_0) fun y1 =>
  some (y1.2.1, y1.2.2.1, y1.2.2.2)

/-- calender/link.Close -/
def link_Close (n : Nat) (x : List UInt8 × Bool × Bool × Unit) : Option (List UInt8 × Bool × Bool × Unit) :=
  let k_0 : List UInt8 × Bool × Bool × Unit := x
  some (k_0.1, (k_0.2.1, (true, ())))

/-- calender/link.Ended -/
def link_Ended (n : Nat) (x : List UInt8 × Bool × Bool × Unit) : Option (Bool) :=
  let k_0 : List UInt8 × Bool × Bool × Unit := x
  br k_0.2.2.1 (
    some (k_0.1 == [])) (
    some false)

/-- calender/calenderlaw18.shown -/
def law18_shown (n : Nat) (x : Unit) : Option (Bool) :=
  ob (link_Push n (([], (false, (false, ()))), ([97], (true, ())))) fun y1 =>
  ob (link_Known n y1) fun y2 =>
  ob (link_Push n (y1, ([98], (false, ())))) fun y3 =>
  ob (link_Take n y3) fun y4 =>
  ob (link_Close n y4.1) fun y5 =>
  ob (link_Known n y5) fun y6 =>
  br (!y2.2.2) (
    br y4.2.2.2 (
      br (!y4.2.2.1) (
        br (y4.2.1.1 == [97]) (
          br y6.2.2 (
            br y6.2.1 (
              br (y6.1.1 == [98]) (
                br (!y6.1.2.1) (
                  ob (link_Ended n y4.1) fun y7 =>
                  some (!y7)) (
                  some false)) (
                some false)) (
              some false)) (
            some false)) (
          some false)) (
        some false)) (
      some false)) (
    some false)

/-- calender/calenderlaw18.its -/
def law18_its (n : Nat) (x : List UInt8 × Bool × Bool × Unit) : Option (List UInt8 × Bool × Bool × Unit) :=
  let k_0 : List UInt8 × Bool × Bool × Unit := x
  some k_0

/-- calender/calenderref08.Split -/
def ref08_Split_loop0 (n : Nat) (g0 : List UInt8 × List UInt8 × Int × List (List UInt8 × Bool × Unit) × Unit → Option (List (List UInt8 × Bool × Unit))) (x1 : List UInt8 × List UInt8 × Int × List (List UInt8 × Bool × Unit) × Unit) : Option (List (List UInt8 × Bool × Unit)) :=
  let s_2 : List UInt8 := x1.1
  let w_3 : List UInt8 := x1.2.1
  let i_4 : Int := x1.2.2.1
  let row5 : List (List UInt8 × Bool × Unit) := x1.2.2.2.1
  br (decide (i_4 < (s_2.length : Int))) (
    chk (inB i_4 s_2.length) (
      let v6 : Int := ((getAt 0 s_2 i_4).toNat : Int)
      br (v6 == 10) (
        chk (Nat.ble ((row5.length + ([(w_3, (true, ()))] : List (List UInt8 × Bool × Unit)).length) * 24) room) (
          let r7 : List (List UInt8 × Bool × Unit) := row5 ++ [(w_3, (true, ()))]
          let v8 : Int := IntKind.wrap .i64 (i_4 + 1)
          g0 (s_2, [], v8, r7, ()))) (
        let v9 : Int := IntKind.wrap .i64 (i_4 + 1)
        chk ((decide (0 ≤ v9) && decide (v9 ≤ (s_2.length : Int)) && (decide (0 ≤ i_4) && decide (i_4 ≤ v9)))) (
          let v10 : List UInt8 := (s_2.take v9.toNat).drop i_4.toNat
          chk (decide (w_3.length + v10.length ≤ maxStr)) (
            let v11 : Int := IntKind.wrap .i64 (i_4 + 1)
            g0 (s_2, w_3 ++ v10, v11, row5, ())))))) (
    br (!(w_3 == [])) (
      chk (Nat.ble ((row5.length + ([(w_3, (false, ()))] : List (List UInt8 × Bool × Unit)).length) * 24) room) (
        let r12 : List (List UInt8 × Bool × Unit) := row5 ++ [(w_3, (false, ()))]
        some r12)) (
      some row5))

def ref08_Split (n : Nat) (x : List UInt8) : Option (List (List UInt8 × Bool × Unit)) :=
  let s_0 : List UInt8 := x
  fix (ref08_Split_loop0 n) n (s_0, [], 0, [], ())

/-- calender/calenderref08.Join -/
def ref08_Join_loop0 (n : Nat) (g0 : List (List UInt8 × Bool × Unit) × List UInt8 × Int × Unit → Option (List UInt8)) (x1 : List (List UInt8 × Bool × Unit) × List UInt8 × Int × Unit) : Option (List UInt8) :=
  let l_2 : List (List UInt8 × Bool × Unit) := x1.1
  let s_3 : List UInt8 := x1.2.1
  let i_4 : Int := x1.2.2.1
  br (decide (i_4 < (l_2.length : Int))) (
    chk (inB i_4 l_2.length) (
      let v5 : List UInt8 × Bool × Unit := getAt (Ty.dflt TSsbE) l_2 i_4
      chk (decide (s_3.length + v5.1.length ≤ maxStr)) (
        chk (inB i_4 l_2.length) (
          let v6 : List UInt8 × Bool × Unit := getAt (Ty.dflt TSsbE) l_2 i_4
          br v6.2.1 (
            chk (decide ((s_3 ++ v5.1).length + ([10] : List UInt8).length ≤ maxStr)) (
              let v7 : Int := IntKind.wrap .i64 (i_4 + 1)
              g0 (l_2, (s_3 ++ v5.1) ++ [10], v7, ()))) (
            let v8 : Int := IntKind.wrap .i64 (i_4 + 1)
            g0 (l_2, s_3 ++ v5.1, v8, ())))))) (
    some s_3)

def ref08_Join (n : Nat) (x : List (List UInt8 × Bool × Unit)) : Option (List UInt8) :=
  let l_0 : List (List UInt8 × Bool × Unit) := x
  fix (ref08_Join_loop0 n) n (l_0, [], 0, ())

/-- calender/calenderref18.Take -/
def ref18_Take (n : Nat) (x : List UInt8 × Bool × Bool × Unit) : Option ((List UInt8 × Bool × Bool × Unit) × (List UInt8 × Bool × Unit) × Bool × Bool) :=
  let k_0 : List UInt8 × Bool × Bool × Unit := x
  ob (ref08_Split n k_0.1) fun y1 =>
  br ((y1.length : Int) == 0) (
    some (k_0, ([], (false, ())), false, false)) (
    br ((y1.length : Int) == 1) (
      br (!k_0.2.2.1) (
        some (k_0, ([], (false, ())), false, false)) (
        chk ((decide (0 ≤ (1 : Int)) && decide ((1 : Int) ≤ (y1.length : Int)))) (
          ob (ref08_Join n (y1.drop (1 : Int).toNat)) fun y2 =>
          chk (inB 0 y1.length) (
            let v3 : List UInt8 × Bool × Unit := getAt (Ty.dflt TSsbE) y1 0
            some ((y2, k_0.2), v3, ((y1.length : Int) == 1), true))))) (
      chk ((decide (0 ≤ (1 : Int)) && decide ((1 : Int) ≤ (y1.length : Int)))) (
        ob (ref08_Join n (y1.drop (1 : Int).toNat)) fun y4 =>
        chk (inB 0 y1.length) (
          let v5 : List UInt8 × Bool × Unit := getAt (Ty.dflt TSsbE) y1 0
          some ((y4, k_0.2), v5, ((y1.length : Int) == 1), true)))))

/-- calender/calenderref18.Push -/
def ref18_Push (n : Nat) (x : (List UInt8 × Bool × Bool × Unit) × List UInt8 × Bool × Unit) : Option (List UInt8 × Bool × Bool × Unit) :=
  let k_0 : List UInt8 × Bool × Bool × Unit := x.1
  let e_1 : List UInt8 × Bool × Unit := x.2
  br k_0.2.2.1 (
    some k_0) (
    br k_0.2.1 (
      chk (decide (k_0.1.length + ([10] : List UInt8).length ≤ maxStr)) (
        chk (decide ((k_0.1 ++ [10]).length + e_1.1.length ≤ maxStr)) (
          br e_1.2.1 (
            chk (decide (((k_0.1 ++ [10]) ++ e_1.1).length + ([10] : List UInt8).length ≤ maxStr)) (
              let v1 : List UInt8 := ((k_0.1 ++ [10]) ++ e_1.1) ++ [10]
              some (v1, ((!e_1.2.1), k_0.2.2)))) (
            some ((k_0.1 ++ [10]) ++ e_1.1, ((!e_1.2.1), k_0.2.2)))))) (
      chk (decide (k_0.1.length + e_1.1.length ≤ maxStr)) (
        br e_1.2.1 (
          chk (decide ((k_0.1 ++ e_1.1).length + ([10] : List UInt8).length ≤ maxStr)) (
            some ((k_0.1 ++ e_1.1) ++ [10], ((!e_1.2.1), k_0.2.2)))) (
          some (k_0.1 ++ e_1.1, ((!e_1.2.1), k_0.2.2))))))

/-- calender/calenderref18.Close -/
def ref18_Close (n : Nat) (x : List UInt8 × Bool × Bool × Unit) : Option (List UInt8 × Bool × Bool × Unit) :=
  let k_0 : List UInt8 × Bool × Bool × Unit := x
  some (k_0.1, (k_0.2.1, (true, ())))

/-- calender/calenderref18.Ended -/
def ref18_Ended (n : Nat) (x : List UInt8 × Bool × Bool × Unit) : Option (Bool) :=
  let k_0 : List UInt8 × Bool × Bool × Unit := x
  br k_0.2.2.1 (
    some (k_0.1 == [])) (
    some false)

/-- calender/calenderlaw18.LinkTells -/
def law18_LinkTells (n : Nat) (x : (List UInt8 × Bool × Bool × Unit) × List UInt8 × Bool × Unit) : Option (Bool) :=
  let k_0 : List UInt8 × Bool × Bool × Unit := x.1
  let e_1 : List UInt8 × Bool × Unit := x.2
  br (decide ((k_0.1.length : Int) > 300)) (
    ob (law18_shown n ()) fun y1 =>
    some y1) (
    br (decide ((e_1.1.length : Int) > 300)) (
      ob (law18_shown n ()) fun y2 =>
      some y2) (
      ob (law18_shown n ()) fun y3 =>
      br (!y3) (
        ob (law18_shown n ()) fun y4 =>
        some y4) (
        ob (link_Take n k_0) fun y5 =>
        ob (law18_its n k_0) fun y6 =>
        ob (ref18_Take n y6) fun y7 =>
        ob (link_Known n k_0) fun y8 =>
        ob (law18_its n y5.1) fun y9 =>
        br (Ty.beq TSsbbE y9 y7.1) (
          br (Ty.beq TSsbE y5.2.1 y7.2.1) (
            br (y5.2.2.1 == y7.2.2.1) (
              br (y5.2.2.2 == y7.2.2.2) (
                br (Ty.beq TSsbE y8.1 y5.2.1) (
                  br (y8.2.1 == y5.2.2.1) (
                    br (y8.2.2 == y5.2.2.2) (
                      ob (link_Push n (k_0, e_1)) fun y10 =>
                      ob (law18_its n y10) fun y11 =>
                      ob (law18_its n k_0) fun y12 =>
                      ob (ref18_Push n (y12, e_1)) fun y13 =>
                      br (Ty.beq TSsbbE y11 y13) (
                        ob (link_Close n k_0) fun y14 =>
                        ob (law18_its n y14) fun y15 =>
                        ob (law18_its n k_0) fun y16 =>
                        ob (ref18_Close n y16) fun y17 =>
                        br (Ty.beq TSsbbE y15 y17) (
                          ob (link_Ended n k_0) fun y18 =>
                          ob (law18_its n k_0) fun y19 =>
                          ob (ref18_Ended n y19) fun y20 =>
                          some (y18 == y20)) (
                          some false)) (
                        some false)) (
                      some false)) (
                    some false)) (
                  some false)) (
                some false)) (
              some false)) (
            some false)) (
          some false))))

/-- calender/calenderlaw18.LinkTakes -/
def law18_LinkTakes (n : Nat) (x : List UInt8 × Bool × Bool × Unit) : Option (Bool) :=
  let k_0 : List UInt8 × Bool × Bool × Unit := x
  br (decide ((k_0.1.length : Int) > 300)) (
    ob (law18_shown n ()) fun y1 =>
    some y1) (
    ob (law18_shown n ()) fun y2 =>
    br (!y2) (
      ob (law18_shown n ()) fun y3 =>
      some y3) (
      ob (link_Take n k_0) fun y4 =>
      br (!y4.2.2.2) (
        br (Ty.beq TSsbbE y4.1 k_0) (
          br (Ty.beq TSsbE y4.2.1 ([], (false, ()))) (
            some (!y4.2.2.1)) (
            some false)) (
          some false)) (
        br y4.2.1.2.1 (
          chk (decide (y4.2.1.1.length + ([10] : List UInt8).length ≤ maxStr)) (
            chk (decide ((y4.2.1.1 ++ [10]).length + y4.1.1.length ≤ maxStr)) (
              let v5 : List UInt8 := (y4.2.1.1 ++ [10]) ++ y4.1.1
              br (v5 == k_0.1) (
                br (y4.1.2.1 == k_0.2.1) (
                  br (y4.1.2.2.1 == k_0.2.2.1) (
                    br (y4.2.2.1 == (y4.1.1 == [])) (
                      br y4.2.1.2.1 (
                        some true) (
                        some y4.2.2.1)) (
                      some false)) (
                    some false)) (
                  some false)) (
                some false)))) (
          chk (decide (y4.2.1.1.length + y4.1.1.length ≤ maxStr)) (
            br ((y4.2.1.1 ++ y4.1.1) == k_0.1) (
              br (y4.1.2.1 == k_0.2.1) (
                br (y4.1.2.2.1 == k_0.2.2.1) (
                  br (y4.2.2.1 == (y4.1.1 == [])) (
                    br y4.2.1.2.1 (
                      some true) (
                      some y4.2.2.1)) (
                    some false)) (
                  some false)) (
                some false)) (
              some false))))))

/-- calender/calenderlaw18.LinkHolds -/
def law18_LinkHolds (n : Nat) (x : List UInt8 × Bool × Bool × Unit) : Option (Bool) :=
  let k_0 : List UInt8 × Bool × Bool × Unit := x
  br (decide ((k_0.1.length : Int) > 300)) (
    ob (law18_shown n ()) fun y1 =>
    some y1) (
    ob (law18_shown n ()) fun y2 =>
    br (!y2) (
      ob (law18_shown n ()) fun y3 =>
      some y3) (
      ob (link_Known n k_0) fun y4 =>
      br y4.2.2 (
        some true) (
        ob (table_Split n k_0.1) fun y5 =>
        br (decide ((y5.length : Int) ≤ 1)) (
          br (!k_0.2.2.1) (
            some true) (
            some (k_0.1 == []))) (
          some false))))

/-- calender/calenderlaw18.LinkClosed -/
def law18_LinkClosed_loop0 (n : Nat) (g0 : Int × List UInt8 × Bool × Bool × List UInt8 × Bool × Bool × Unit → Option (Bool)) (x8 : Int × List UInt8 × Bool × Bool × List UInt8 × Bool × Bool × Unit) : Option (Bool) :=
  let n_9 : Int := x8.1
  let Data10 : List UInt8 := x8.2.1
  let Gap11 : Bool := x8.2.2.1
  let Closed12 : Bool := x8.2.2.2.1
  let Data13 : List UInt8 := x8.2.2.2.2.1
  let Gap14 : Bool := x8.2.2.2.2.2.1
  let Closed15 : Bool := x8.2.2.2.2.2.2.1
  ob (link_Ended n (Data13, (Gap14, (Closed15, ())))) fun y16 =>
  br (!y16) (
    ob (link_Take n (Data13, (Gap14, (Closed15, ())))) fun y17 =>
    br (!y17.2.2.2) (
      some false) (
      ob (link_Ended n y17.1) fun y18 =>
      br (y17.2.2.1 != y18) (
        some false) (
        let v19 : Int := IntKind.wrap .i64 (n_9 + 1)
        g0 (v19, Data10, Gap11, Closed12, y17.1.1, y17.1.2.1, y17.1.2.2.1, ())))) (
    ob (table_Split n Data10) fun y20 =>
    some (n_9 == (y20.length : Int)))

def law18_LinkClosed (n : Nat) (x : (List UInt8 × Bool × Bool × Unit) × List UInt8 × Bool × Unit) : Option (Bool) :=
  let k_0 : List UInt8 × Bool × Bool × Unit := x.1
  let e_1 : List UInt8 × Bool × Unit := x.2
  br (decide ((k_0.1.length : Int) > 300)) (
    ob (law18_shown n ()) fun y1 =>
    some y1) (
    br (decide ((e_1.1.length : Int) > 300)) (
      ob (law18_shown n ()) fun y2 =>
      some y2) (
      ob (law18_shown n ()) fun y3 =>
      br (!y3) (
        ob (law18_shown n ()) fun y4 =>
        some y4) (
        ob (link_Close n k_0) fun y5 =>
        ob (link_Push n (y5, e_1)) fun y6 =>
        br (!(Ty.beq TSsbbE y6 y5)) (
          some false) (
          ob (link_Close n y5) fun y7 =>
          br (!(Ty.beq TSsbbE y7 y5)) (
            some false) (
            fix (law18_LinkClosed_loop0 n) n (0, k_0.1, k_0.2.1, k_0.2.2.1, y5.1, y5.2.1, y5.2.2.1, ()))))))

/-- (*strings.Builder).WriteString -/
def strings_Builder_WriteString (n : Nat) (x : List UInt8 × List (Int) × Unit) : Option (Int × Bool × List (Int) × Unit) :=
  let s_1 : List UInt8 := x.1
  let row2 : List (Int) := x.2.1
  ob (Builder_check n (row2, ())) fun y3 =>
  chk (Nat.ble ((y3.1.length + s_1.length) * 1) room) (
    some ((s_1.length : Int), false, y3.1 ++ sToBytes s_1, ()))

/-- calender/bank.Bytes -/
def bank_Bytes_loop0 (n : Nat) (g0 : List UInt8 × List (List UInt8 × Bool × Unit) × Int × Int × List (Int) × Unit → Option (List UInt8)) (x1 : List UInt8 × List (List UInt8 × Bool × Unit) × Int × Int × List (Int) × Unit) : Option (List UInt8) :=
  let gap_2 : List UInt8 := x1.1
  let t7_3 : List (List UInt8 × Bool × Unit) := x1.2.1
  let t8_4 : Int := x1.2.2.1
  let t9_5 : Int := x1.2.2.2.1
  let row6 : List (Int) := x1.2.2.2.2.1
  br (decide (t9_5 < t8_4)) (
    chk (inB t9_5 t7_3.length) (
      let v7 : List UInt8 × Bool × Unit := getAt (Ty.dflt TSsbE) t7_3 t9_5
      chk (decide (gap_2.length + v7.1.length ≤ maxStr)) (
        ob (strings_Builder_WriteString n (gap_2 ++ v7.1, row6, ())) fun y8 =>
        br v7.2.1 (
          ob (strings_Builder_WriteString n ([10], y8.2.2.1, ())) fun y9 =>
          let v10 : Int := IntKind.wrap .i64 (t9_5 + 1)
          g0 ([], t7_3, t8_4, v10, y9.2.2.1, ())) (
          let v11 : Int := IntKind.wrap .i64 (t9_5 + 1)
          g0 ([10], t7_3, t8_4, v11, y8.2.2.1, ()))))) (
    ob (Builder_String n (row6, ())) fun y12 =>
    some y12.1)

def bank_Bytes (n : Nat) (x : List (List UInt8 × Bool × Unit)) : Option (List UInt8) :=
  let l_0 : List (List UInt8 × Bool × Unit) := x
  fix (bank_Bytes_loop0 n) n ([], l_0, (l_0.length : Int), 0, [], ())

/-- calender/calenderlaw18.LinkLines -/
def law18_LinkLines_loop1 (n : Nat) (g0 : List (List UInt8 × Bool × Unit) × List (Bool) × Int × Int × List UInt8 × Bool × Bool × List (List UInt8 × Bool × Unit) × Unit → Option (Bool)) (g1 : List (List UInt8 × Bool × Unit) × List (Bool) × Int × Int × List UInt8 × Bool × Bool × List (List UInt8 × Bool × Unit) × Unit → Option (Bool)) (x17 : List (List UInt8 × Bool × Unit) × List (Bool) × Int × Int × List UInt8 × Bool × Bool × List (List UInt8 × Bool × Unit) × Unit) : Option (Bool) :=
  let l_18 : List (List UInt8 × Bool × Unit) := x17.1
  let takes_19 : List (Bool) := x17.2.1
  let lasts_20 : Int := x17.2.2.1
  let i_21 : Int := x17.2.2.2.1
  let Data22 : List UInt8 := x17.2.2.2.2.1
  let Gap23 : Bool := x17.2.2.2.2.2.1
  let Closed24 : Bool := x17.2.2.2.2.2.2.1
  let row25 : List (List UInt8 × Bool × Unit) := x17.2.2.2.2.2.2.2.1
  br (i_21 == (l_18.length : Int)) (
    ob (link_Take n (Data22, (Gap23, (Closed24, ())))) fun y26 =>
    br (!y26.2.2.2) (
      let v27 : Int := IntKind.wrap .i64 (i_21 + 1)
      g0 (l_18, takes_19, lasts_20, v27, Data22, Gap23, Closed24, row25, ())) (
      br (decide (lasts_20 > 0)) (
        some false) (
        br y26.2.2.1 (
          let v28 : Int := IntKind.wrap .i64 (lasts_20 + 1)
          chk (Nat.ble ((row25.length + ([y26.2.1] : List (List UInt8 × Bool × Unit)).length) * 24) room) (
            g1 (l_18, takes_19, v28, i_21, y26.1.1, y26.1.2.1, y26.1.2.2.1, row25 ++ [y26.2.1], ()))) (
          chk (Nat.ble ((row25.length + ([y26.2.1] : List (List UInt8 × Bool × Unit)).length) * 24) room) (
            g1 (l_18, takes_19, lasts_20, i_21, y26.1.1, y26.1.2.1, y26.1.2.2.1, row25 ++ [y26.2.1], ())))))) (
    br (decide (i_21 < (takes_19.length : Int))) (
      chk (inB i_21 takes_19.length) (
        let v29 : Bool := getAt (Ty.dflt .bool) takes_19 i_21
        br v29 (
          ob (link_Take n (Data22, (Gap23, (Closed24, ())))) fun y30 =>
          br (!y30.2.2.2) (
            let v31 : Int := IntKind.wrap .i64 (i_21 + 1)
            g0 (l_18, takes_19, lasts_20, v31, Data22, Gap23, Closed24, row25, ())) (
            br (decide (lasts_20 > 0)) (
              some false) (
              br y30.2.2.1 (
                let v32 : Int := IntKind.wrap .i64 (lasts_20 + 1)
                chk (Nat.ble ((row25.length + ([y30.2.1] : List (List UInt8 × Bool × Unit)).length) * 24) room) (
                  g1 (l_18, takes_19, v32, i_21, y30.1.1, y30.1.2.1, y30.1.2.2.1, row25 ++ [y30.2.1], ()))) (
                chk (Nat.ble ((row25.length + ([y30.2.1] : List (List UInt8 × Bool × Unit)).length) * 24) room) (
                  g1 (l_18, takes_19, lasts_20, i_21, y30.1.1, y30.1.2.1, y30.1.2.2.1, row25 ++ [y30.2.1], ())))))) (
          let v33 : Int := IntKind.wrap .i64 (i_21 + 1)
          g0 (l_18, takes_19, lasts_20, v33, Data22, Gap23, Closed24, row25, ())))) (
      let v34 : Int := IntKind.wrap .i64 (i_21 + 1)
      g0 (l_18, takes_19, lasts_20, v34, Data22, Gap23, Closed24, row25, ())))

def law18_LinkLines_loop1b (n : Nat) (g0 : List (List UInt8 × Bool × Unit) × List (Bool) × Int × Int × List UInt8 × Bool × Bool × List (List UInt8 × Bool × Unit) × Unit → Option (Bool)) (g1 : List (List UInt8 × Bool × Unit) × List (Bool) × Int × Int × List UInt8 × Bool × Bool × List (List UInt8 × Bool × Unit) × Unit → Option (Bool)) (x36 : List (List UInt8 × Bool × Unit) × List (Bool) × Int × Int × List UInt8 × Bool × Bool × List (List UInt8 × Bool × Unit) × Unit) : Option (Bool) :=
  let l_37 : List (List UInt8 × Bool × Unit) := x36.1
  let takes_38 : List (Bool) := x36.2.1
  let lasts_39 : Int := x36.2.2.1
  let i_40 : Int := x36.2.2.2.1
  let Data41 : List UInt8 := x36.2.2.2.2.1
  let Gap42 : Bool := x36.2.2.2.2.2.1
  let Closed43 : Bool := x36.2.2.2.2.2.2.1
  let row44 : List (List UInt8 × Bool × Unit) := x36.2.2.2.2.2.2.2.1
  br (i_40 == (l_37.length : Int)) (
    ob (link_Take n (Data41, (Gap42, (Closed43, ())))) fun y45 =>
    br (!y45.2.2.2) (
      let v46 : Int := IntKind.wrap .i64 (i_40 + 1)
      g0 (l_37, takes_38, lasts_39, v46, Data41, Gap42, Closed43, row44, ())) (
      br (decide (lasts_39 > 0)) (
        some false) (
        br y45.2.2.1 (
          let v47 : Int := IntKind.wrap .i64 (lasts_39 + 1)
          chk (Nat.ble ((row44.length + ([y45.2.1] : List (List UInt8 × Bool × Unit)).length) * 24) room) (
            g1 (l_37, takes_38, v47, i_40, y45.1.1, y45.1.2.1, y45.1.2.2.1, row44 ++ [y45.2.1], ()))) (
          chk (Nat.ble ((row44.length + ([y45.2.1] : List (List UInt8 × Bool × Unit)).length) * 24) room) (
            g1 (l_37, takes_38, lasts_39, i_40, y45.1.1, y45.1.2.1, y45.1.2.2.1, row44 ++ [y45.2.1], ())))))) (
    br (decide (i_40 < (takes_38.length : Int))) (
      chk (inB i_40 takes_38.length) (
        let v48 : Bool := getAt (Ty.dflt .bool) takes_38 i_40
        br v48 (
          ob (link_Take n (Data41, (Gap42, (Closed43, ())))) fun y49 =>
          br (!y49.2.2.2) (
            let v50 : Int := IntKind.wrap .i64 (i_40 + 1)
            g0 (l_37, takes_38, lasts_39, v50, Data41, Gap42, Closed43, row44, ())) (
            br (decide (lasts_39 > 0)) (
              some false) (
              br y49.2.2.1 (
                let v51 : Int := IntKind.wrap .i64 (lasts_39 + 1)
                chk (Nat.ble ((row44.length + ([y49.2.1] : List (List UInt8 × Bool × Unit)).length) * 24) room) (
                  g1 (l_37, takes_38, v51, i_40, y49.1.1, y49.1.2.1, y49.1.2.2.1, row44 ++ [y49.2.1], ()))) (
                chk (Nat.ble ((row44.length + ([y49.2.1] : List (List UInt8 × Bool × Unit)).length) * 24) room) (
                  g1 (l_37, takes_38, lasts_39, i_40, y49.1.1, y49.1.2.1, y49.1.2.2.1, row44 ++ [y49.2.1], ())))))) (
          let v52 : Int := IntKind.wrap .i64 (i_40 + 1)
          g0 (l_37, takes_38, lasts_39, v52, Data41, Gap42, Closed43, row44, ())))) (
      let v53 : Int := IntKind.wrap .i64 (i_40 + 1)
      g0 (l_37, takes_38, lasts_39, v53, Data41, Gap42, Closed43, row44, ())))

def law18_LinkLines_loop2 (n : Nat) (g2 : List (List UInt8 × Bool × Unit) × Int × List (List UInt8 × Bool × Unit) × Unit → Option (Bool)) (x58 : List (List UInt8 × Bool × Unit) × Int × List (List UInt8 × Bool × Unit) × Unit) : Option (Bool) :=
  let want_59 : List (List UInt8 × Bool × Unit) := x58.1
  let i_60 : Int := x58.2.1
  let row61 : List (List UInt8 × Bool × Unit) := x58.2.2.1
  let v62 : Int := ((row61.length : Nat) : Int)
  br (decide (i_60 < v62)) (
    chk ((inB i_60 (row61.length) && decide (0 + (row61.length) ≤ row61.length))) (
      chk (decide (0 + i_60.toNat < row61.length)) (
        chk (inB i_60 want_59.length) (
          let v63 : List UInt8 × Bool × Unit := getAt (Ty.dflt TSsbE) want_59 i_60
          br (!(Ty.beq TSsbE ((row61.getD (0 + i_60.toNat) (Ty.dflt TSsbE)).1, ((row61.getD (0 + i_60.toNat) (Ty.dflt TSsbE)).2.1, ())) v63)) (
            some false) (
            let v64 : Int := IntKind.wrap .i64 (i_60 + 1)
            g2 (want_59, v64, row61, ())))))) (
    some true)

def law18_LinkLines_loop0 (n : Nat) (g0 : List (List UInt8 × Bool × Unit) × List (Bool) × Int × Int × List UInt8 × Bool × Bool × List (List UInt8 × Bool × Unit) × Unit → Option (Bool)) (x4 : List (List UInt8 × Bool × Unit) × List (Bool) × Int × Int × List UInt8 × Bool × Bool × List (List UInt8 × Bool × Unit) × Unit) : Option (Bool) :=
  let l_5 : List (List UInt8 × Bool × Unit) := x4.1
  let takes_6 : List (Bool) := x4.2.1
  let lasts_7 : Int := x4.2.2.1
  let i_8 : Int := x4.2.2.2.1
  let Data9 : List UInt8 := x4.2.2.2.2.1
  let Gap10 : Bool := x4.2.2.2.2.2.1
  let Closed11 : Bool := x4.2.2.2.2.2.2.1
  let row12 : List (List UInt8 × Bool × Unit) := x4.2.2.2.2.2.2.2.1
  br (decide (i_8 ≤ (l_5.length : Int))) (
    br (decide (i_8 < (l_5.length : Int))) (
      chk (inB i_8 l_5.length) (
        let v13 : List UInt8 × Bool × Unit := getAt (Ty.dflt TSsbE) l_5 i_8
        br (decide ((v13.1.length : Int) > 60)) (
          ob (law18_shown n ()) fun y14 =>
          some y14) (
          chk (inB i_8 l_5.length) (
            let v15 : List UInt8 × Bool × Unit := getAt (Ty.dflt TSsbE) l_5 i_8
            ob (link_Push n ((Data9, (Gap10, (Closed11, ()))), v15)) fun y16 =>
            fix (law18_LinkLines_loop1 n g0) n (l_5, takes_6, lasts_7, i_8, y16.1, y16.2.1, y16.2.2.1, row12, ()))))) (
      ob (link_Close n (Data9, (Gap10, (Closed11, ())))) fun y35 =>
      fix (law18_LinkLines_loop1b n g0) n (l_5, takes_6, lasts_7, i_8, y35.1, y35.2.1, y35.2.2.1, row12, ()))) (
    ob (bank_Bytes n l_5) fun y54 =>
    ob (table_Split n y54) fun y55 =>
    let v56 : Int := ((row12.length : Nat) : Int)
    br (v56 != (y55.length : Int)) (
      some false) (
      br ((lasts_7 == 1) != (decide ((y55.length : Int) > 0))) (
        some false) (
        ob (link_Ended n (Data9, (Gap10, (Closed11, ())))) fun y57 =>
        br (!y57) (
          some false) (
          fix (law18_LinkLines_loop2 n) n (y55, 0, row12, ())))))

def law18_LinkLines (n : Nat) (x : List (List UInt8 × Bool × Unit) × List (Bool)) : Option (Bool) :=
  let l_0 : List (List UInt8 × Bool × Unit) := x.1
  let takes_1 : List (Bool) := x.2
  br (decide ((l_0.length : Int) > 40)) (
    ob (law18_shown n ()) fun y1 =>
    some y1) (
    ob (law18_shown n ()) fun y2 =>
    br (!y2) (
      ob (law18_shown n ()) fun y3 =>
      some y3) (
      fix (law18_LinkLines_loop0 n) n (l_0, takes_1, 0, 0, [], false, false, [], ())))

/-- calender/calenderlaw08.bounded -/
def law08_bounded_loop0 (n : Nat) (g0 : List (List UInt8 × List UInt8 × Unit) × Int × Unit → Option (Bool)) (x1 : List (List UInt8 × List UInt8 × Unit) × Int × Unit) : Option (Bool) :=
  let t_2 : List (List UInt8 × List UInt8 × Unit) := x1.1
  let i_3 : Int := x1.2.1
  br (decide (i_3 < (t_2.length : Int))) (
    chk (inB i_3 t_2.length) (
      let v4 : List UInt8 × List UInt8 × Unit := getAt (Ty.dflt TSssE) t_2 i_3
      br (decide ((v4.1.length : Int) > 100)) (
        some false) (
        chk (inB i_3 t_2.length) (
          let v5 : List UInt8 × List UInt8 × Unit := getAt (Ty.dflt TSssE) t_2 i_3
          br (decide ((v5.2.1.length : Int) > 300)) (
            some false) (
            let v6 : Int := IntKind.wrap .i64 (i_3 + 1)
            g0 (t_2, v6, ())))))) (
    some (decide ((t_2.length : Int) ≤ 40)))

def law08_bounded (n : Nat) (x : List (List UInt8 × List UInt8 × Unit)) : Option (Bool) :=
  let t_0 : List (List UInt8 × List UInt8 × Unit) := x
  fix (law08_bounded_loop0 n) n (t_0, 0, ())

/-- slices.Clone[[]calender/table.File,calender/table.File] -/
def slices_Clone_tableFile (_n : Nat) (x : List (List UInt8 × List UInt8 × Unit) × Unit) : Option (List (List UInt8 × List UInt8 × Unit) × Unit) := cloneG 32 x

/-- calender/table.Put -/
def table_Put (n : Nat) (x : List (List UInt8 × List UInt8 × Unit) × List UInt8 × List UInt8) : Option (List (List UInt8 × List UInt8 × Unit)) :=
  let t_0 : List (List UInt8 × List UInt8 × Unit) := x.1
  let file_1 : List UInt8 := x.2.1
  let data_2 : List UInt8 := x.2.2
  br (file_1 == []) (
    some t_0) (
    ob (slices_Clone_tableFile n (t_0, ())) fun y1 =>
    ob (table_place n (y1.1, file_1, (.func (.func 52) #[] #[]))) fun y2 =>
    br y2.2 (
      chk ((inB y2.1 (y1.1.length) && decide (0 + (y1.1.length) ≤ y1.1.length))) (
        chk (decide (0 + y2.1.toNat < y1.1.length)) (
          let r3 : List (List UInt8 × List UInt8 × Unit) := y1.1.set (0 + y2.1.toNat) ((y1.1.getD (0 + y2.1.toNat) (Ty.dflt TSssE)).1, (data_2, ()))
          some r3))) (
      ob (slices_Insert n (y2.1, y1.1, [(file_1, (data_2, ()))], ())) fun y4 =>
      some y4.1))

/-- calender/table.Get$1 -/
def table_Get_1 (n : Nat) (x : List UInt8 × List UInt8 × List UInt8 × Unit) : Option (Bool × List UInt8 × Unit) :=
  let f_1 : List UInt8 := x.1
  let f_2 : List UInt8 := x.2.1
  let b3 : List UInt8 := x.2.2.1
  some ((f_1 == b3), b3, ())

/-- slices.IndexFunc[[]calender/table.File,calender/table.File] -/
def slices_IndexFunc_File__table_Get_1_loop0 (n : Nat) (g0 : List (List UInt8 × List UInt8 × Unit) × Int × Int × List UInt8 × Unit → Option (Int × List UInt8 × Unit)) (x3 : List (List UInt8 × List UInt8 × Unit) × Int × Int × List UInt8 × Unit) : Option (Int × List UInt8 × Unit) :=
  let s_4 : List (List UInt8 × List UInt8 × Unit) := x3.1
  let t7_5 : Int := x3.2.1
  let t8_6 : Int := x3.2.2.1
  let b7 : List UInt8 := x3.2.2.2.1
  br (decide (t8_6 < t7_5)) (
    chk (inB t8_6 s_4.length) (
      let v8 : List UInt8 × List UInt8 × Unit := getAt (Ty.dflt TSssE) s_4 t8_6
      ob (table_Get_1 n (v8.1, v8.2.1, b7, ())) fun y9 =>
      br y9.1 (
        some (t8_6, y9.2.1, ())) (
        let v10 : Int := IntKind.wrap .i64 (t8_6 + 1)
        g0 (s_4, t7_5, v10, y9.2.1, ())))) (
    some ((-1), b7, ()))

def slices_IndexFunc_File__table_Get_1 (n : Nat) (x : List (List UInt8 × List UInt8 × Unit) × List UInt8 × Unit) : Option (Int × List UInt8 × Unit) :=
  let s_1 : List (List UInt8 × List UInt8 × Unit) := x.1
  let b2 : List UInt8 := x.2.1
  fix (slices_IndexFunc_File__table_Get_1_loop0 n) n (s_1, (s_1.length : Int), 0, b2, ())

/-- calender/table.Get -/
def table_Get (n : Nat) (x : List (List UInt8 × List UInt8 × Unit) × List UInt8) : Option (List UInt8 × Bool) :=
  let t_0 : List (List UInt8 × List UInt8 × Unit) := x.1
  let file_1 : List UInt8 := x.2
  ob (slices_IndexFunc_File__table_Get_1 n (t_0, file_1, ())) fun y1 =>
  br (decide (y1.1 < 0)) (
    some ([], false)) (
    chk (inB y1.1 t_0.length) (
      let v2 : List UInt8 × List UInt8 × Unit := getAt (Ty.dflt TSssE) t_0 y1.1
      some (v2.2.1, true)))

/-- calender/table.Add -/
def table_Add (n : Nat) (x : List (List UInt8 × List UInt8 × Unit) × List UInt8 × List UInt8) : Option (List (List UInt8 × List UInt8 × Unit)) :=
  let t_0 : List (List UInt8 × List UInt8 × Unit) := x.1
  let file_1 : List UInt8 := x.2.1
  let data_2 : List UInt8 := x.2.2
  ob (table_Get n (t_0, file_1)) fun y1 =>
  chk (decide (y1.1.length + data_2.length ≤ maxStr)) (
    ob (table_Put n (t_0, file_1, y1.1 ++ data_2)) fun y2 =>
    some y2)

/-- calender/calenderlaw08.shown -/
def law08_shown (n : Nat) (x : Unit) : Option (Bool) :=
  ob (table_Put n ([], [98], [50])) fun y1 =>
  ob (table_Put n (y1, [97], [49])) fun y2 =>
  ob (table_Add n (y2, [98], [51])) fun y3 =>
  ob (table_Get n (y3, [98])) fun y4 =>
  ob (table_Split n [97, 10, 98]) fun y5 =>
  br ((y2.length : Int) == 2) (
    chk (inB 0 y2.length) (
      let v6 : List UInt8 × List UInt8 × Unit := getAt (Ty.dflt TSssE) y2 0
      br (v6.1 == [97]) (
        br (y4.1 == [50, 51]) (
          br y4.2 (
            br ((y5.length : Int) == 2) (
              chk (inB 0 y5.length) (
                let v7 : List UInt8 × Bool × Unit := getAt (Ty.dflt TSsbE) y5 0
                br v7.2.1 (
                  chk (inB 1 y5.length) (
                    let v8 : List UInt8 × Bool × Unit := getAt (Ty.dflt TSsbE) y5 1
                    some (!v8.2.1))) (
                  some false))) (
              some false)) (
            some false)) (
          some false)) (
        some false))) (
    some false)

/-- calender/calenderlaw08.its -/
def law08_its_loop0 (n : Nat) (g0 : List (List UInt8 × List UInt8 × Unit) × Int × List (List UInt8 × List UInt8 × Unit) × Unit → Option (List (List UInt8 × List UInt8 × Unit))) (x1 : List (List UInt8 × List UInt8 × Unit) × Int × List (List UInt8 × List UInt8 × Unit) × Unit) : Option (List (List UInt8 × List UInt8 × Unit)) :=
  let t_2 : List (List UInt8 × List UInt8 × Unit) := x1.1
  let i_3 : Int := x1.2.1
  let row4 : List (List UInt8 × List UInt8 × Unit) := x1.2.2.1
  br (decide (i_3 < (t_2.length : Int))) (
    chk (inB i_3 t_2.length) (
      let v5 : List UInt8 × List UInt8 × Unit := getAt (Ty.dflt TSssE) t_2 i_3
      chk (Nat.ble ((row4.length + ([v5] : List (List UInt8 × List UInt8 × Unit)).length) * 32) room) (
        let v6 : Int := IntKind.wrap .i64 (i_3 + 1)
        g0 (t_2, v6, row4 ++ [v5], ())))) (
    some row4)

def law08_its (n : Nat) (x : List (List UInt8 × List UInt8 × Unit)) : Option (List (List UInt8 × List UInt8 × Unit)) :=
  let t_0 : List (List UInt8 × List UInt8 × Unit) := x
  fix (law08_its_loop0 n) n (t_0, 0, [], ())

/-- calender/calenderref08.Get -/
def ref08_Get_loop0 (n : Nat) (g0 : List (List UInt8 × List UInt8 × Unit) × List UInt8 × Int × Unit → Option (List UInt8 × Bool)) (x1 : List (List UInt8 × List UInt8 × Unit) × List UInt8 × Int × Unit) : Option (List UInt8 × Bool) :=
  let t_2 : List (List UInt8 × List UInt8 × Unit) := x1.1
  let name_3 : List UInt8 := x1.2.1
  let i_4 : Int := x1.2.2.1
  br (decide (i_4 < (t_2.length : Int))) (
    chk (inB i_4 t_2.length) (
      let v5 : List UInt8 × List UInt8 × Unit := getAt (Ty.dflt TSssE) t_2 i_4
      br (v5.1 == name_3) (
        chk (inB i_4 t_2.length) (
          let v6 : List UInt8 × List UInt8 × Unit := getAt (Ty.dflt TSssE) t_2 i_4
          some (v6.2.1, true))) (
        let v7 : Int := IntKind.wrap .i64 (i_4 + 1)
        g0 (t_2, name_3, v7, ())))) (
    some ([], false))

def ref08_Get (n : Nat) (x : List (List UInt8 × List UInt8 × Unit) × List UInt8) : Option (List UInt8 × Bool) :=
  let t_0 : List (List UInt8 × List UInt8 × Unit) := x.1
  let name_1 : List UInt8 := x.2
  fix (ref08_Get_loop0 n) n (t_0, name_1, 0, ())

/-- calender/table.May -/
def table_May_loop0 (n : Nat) (g0 : List UInt8 × List (List UInt8 × List UInt8 × Unit) × Int × Int × Unit → Option (Bool)) (x1 : List UInt8 × List (List UInt8 × List UInt8 × Unit) × Int × Int × Unit) : Option (Bool) :=
  let last_2 : List UInt8 := x1.1
  let t6_3 : List (List UInt8 × List UInt8 × Unit) := x1.2.1
  let t7_4 : Int := x1.2.2.1
  let t8_5 : Int := x1.2.2.2.1
  br (decide (t8_5 < t7_4)) (
    chk (inB t8_5 t6_3.length) (
      let v6 : List UInt8 × List UInt8 × Unit := getAt (Ty.dflt TSssE) t6_3 t8_5
      br (Op.bytesLess v6.1 last_2 || v6.1 == last_2) (
        some false) (
        let v7 : Int := IntKind.wrap .i64 (t8_5 + 1)
        g0 (v6.1, t6_3, t7_4, v7, ())))) (
    some true)

def table_May (n : Nat) (x : List (List UInt8 × List UInt8 × Unit)) : Option (Bool) :=
  let t_0 : List (List UInt8 × List UInt8 × Unit) := x
  fix (table_May_loop0 n) n ([], t_0, (t_0.length : Int), 0, ())

/-- calender/calenderref08.May -/
def ref08_May_loop0 (n : Nat) (g0 : List (List UInt8 × List UInt8 × Unit) × Int × Unit → Option (Bool)) (x1 : List (List UInt8 × List UInt8 × Unit) × Int × Unit) : Option (Bool) :=
  let t_2 : List (List UInt8 × List UInt8 × Unit) := x1.1
  let i_3 : Int := x1.2.1
  br (decide (i_3 < (t_2.length : Int))) (
    chk (inB i_3 t_2.length) (
      let v4 : List UInt8 × List UInt8 × Unit := getAt (Ty.dflt TSssE) t_2 i_3
      br (v4.1 == []) (
        some false) (
        br (decide (i_3 > 0)) (
          let v5 : Int := IntKind.wrap .i64 (i_3 - 1)
          chk (inB v5 t_2.length) (
            let v6 : List UInt8 × List UInt8 × Unit := getAt (Ty.dflt TSssE) t_2 v5
            chk (inB i_3 t_2.length) (
              let v7 : List UInt8 × List UInt8 × Unit := getAt (Ty.dflt TSssE) t_2 i_3
              br (!Op.bytesLess v6.1 v7.1) (
                some false) (
                let v8 : Int := IntKind.wrap .i64 (i_3 + 1)
                g0 (t_2, v8, ()))))) (
          let v9 : Int := IntKind.wrap .i64 (i_3 + 1)
          g0 (t_2, v9, ()))))) (
    some true)

def ref08_May (n : Nat) (x : List (List UInt8 × List UInt8 × Unit)) : Option (Bool) :=
  let t_0 : List (List UInt8 × List UInt8 × Unit) := x
  fix (ref08_May_loop0 n) n (t_0, 0, ())

/-- calender/calenderlaw08.TableTells -/
def law08_TableTells (n : Nat) (x : List (List UInt8 × List UInt8 × Unit) × List UInt8) : Option (Bool) :=
  let t_0 : List (List UInt8 × List UInt8 × Unit) := x.1
  let name_1 : List UInt8 := x.2
  ob (law08_bounded n t_0) fun y1 =>
  br (!y1) (
    ob (law08_shown n ()) fun y2 =>
    some y2) (
    br (decide ((name_1.length : Int) > 100)) (
      ob (law08_shown n ()) fun y3 =>
      some y3) (
      ob (law08_shown n ()) fun y4 =>
      br (!y4) (
        ob (law08_shown n ()) fun y5 =>
        some y5) (
        ob (table_Get n (t_0, name_1)) fun y6 =>
        ob (law08_its n t_0) fun y7 =>
        ob (ref08_Get n (y7, name_1)) fun y8 =>
        ob (table_May n t_0) fun y9 =>
        ob (law08_its n t_0) fun y10 =>
        ob (ref08_May n y10) fun y11 =>
        br (y9 == y11) (
          br (y6.1 == y8.1) (
            some (y6.2 == y8.2)) (
            some false)) (
          some false))))

/-- calender/calenderlaw08.TableOthers -/
def law08_TableOthers (n : Nat) (x : List (List UInt8 × List UInt8 × Unit) × List UInt8 × List UInt8 × List UInt8) : Option (Bool) :=
  let l_0 : List (List UInt8 × List UInt8 × Unit) := x.1
  let name_1 : List UInt8 := x.2.1
  let data_2 : List UInt8 := x.2.2.1
  let other_3 : List UInt8 := x.2.2.2
  ob (law08_bounded n l_0) fun y1 =>
  br (!y1) (
    ob (law08_shown n ()) fun y2 =>
    some y2) (
    br (decide ((name_1.length : Int) > 100)) (
      ob (law08_shown n ()) fun y3 =>
      some y3) (
      br (decide ((data_2.length : Int) > 300)) (
        ob (law08_shown n ()) fun y4 =>
        some y4) (
        br (decide ((other_3.length : Int) > 100)) (
          ob (law08_shown n ()) fun y5 =>
          some y5) (
          br (name_1 == []) (
            ob (law08_shown n ()) fun y6 =>
            some y6) (
            br (other_3 == name_1) (
              ob (law08_shown n ()) fun y7 =>
              some y7) (
              ob (table_May n l_0) fun y8 =>
              br (!y8) (
                ob (law08_shown n ()) fun y9 =>
                some y9) (
                ob (law08_shown n ()) fun y10 =>
                br (!y10) (
                  ob (law08_shown n ()) fun y11 =>
                  some y11) (
                  ob (table_Put n (l_0, name_1, data_2)) fun y12 =>
                  ob (table_Get n (y12, other_3)) fun y13 =>
                  ob (table_Get n (l_0, other_3)) fun y14 =>
                  ob (table_Get n (y12, name_1)) fun y15 =>
                  br (y13.1 == y14.1) (
                    br (y13.2 == y14.2) (
                      br (y15.1 == data_2) (
                        br y15.2 (
                          ob (table_May n y12) fun y16 =>
                          some y16) (
                          some false)) (
                        some false)) (
                      some false)) (
                    some false)))))))))

/-- calender/calenderref08.Same -/
def ref08_Same_loop0 (n : Nat) (g0 : List (List UInt8 × List UInt8 × Unit) × List (List UInt8 × List UInt8 × Unit) × Int × Unit → Option (Bool)) (x1 : List (List UInt8 × List UInt8 × Unit) × List (List UInt8 × List UInt8 × Unit) × Int × Unit) : Option (Bool) :=
  let a_2 : List (List UInt8 × List UInt8 × Unit) := x1.1
  let b_3 : List (List UInt8 × List UInt8 × Unit) := x1.2.1
  let i_4 : Int := x1.2.2.1
  br (decide (i_4 < (a_2.length : Int))) (
    chk (inB i_4 a_2.length) (
      let v5 : List UInt8 × List UInt8 × Unit := getAt (Ty.dflt TSssE) a_2 i_4
      chk (inB i_4 b_3.length) (
        let v6 : List UInt8 × List UInt8 × Unit := getAt (Ty.dflt TSssE) b_3 i_4
        br (!(Ty.beq TSssE v5 v6)) (
          some false) (
          let v7 : Int := IntKind.wrap .i64 (i_4 + 1)
          g0 (a_2, b_3, v7, ()))))) (
    some true)

def ref08_Same (n : Nat) (x : List (List UInt8 × List UInt8 × Unit) × List (List UInt8 × List UInt8 × Unit)) : Option (Bool) :=
  let a_0 : List (List UInt8 × List UInt8 × Unit) := x.1
  let b_1 : List (List UInt8 × List UInt8 × Unit) := x.2
  br ((a_0.length : Int) != (b_1.length : Int)) (
    some false) (
    fix (ref08_Same_loop0 n) n (a_0, b_1, 0, ()))

/-- calender/calenderlaw08.TableAgain -/
def law08_TableAgain (n : Nat) (x : List (List UInt8 × List UInt8 × Unit) × List UInt8 × List UInt8 × List UInt8) : Option (Bool) :=
  let l_0 : List (List UInt8 × List UInt8 × Unit) := x.1
  let name_1 : List UInt8 := x.2.1
  let a_2 : List UInt8 := x.2.2.1
  let b_3 : List UInt8 := x.2.2.2
  ob (law08_bounded n l_0) fun y1 =>
  br (!y1) (
    ob (law08_shown n ()) fun y2 =>
    some y2) (
    br (decide ((name_1.length : Int) > 100)) (
      ob (law08_shown n ()) fun y3 =>
      some y3) (
      br (decide ((a_2.length : Int) > 300)) (
        ob (law08_shown n ()) fun y4 =>
        some y4) (
        br (decide ((b_3.length : Int) > 300)) (
          ob (law08_shown n ()) fun y5 =>
          some y5) (
          ob (table_May n l_0) fun y6 =>
          br (!y6) (
            ob (law08_shown n ()) fun y7 =>
            some y7) (
            ob (law08_shown n ()) fun y8 =>
            br (!y8) (
              ob (law08_shown n ()) fun y9 =>
              some y9) (
              ob (table_Put n (l_0, name_1, a_2)) fun y10 =>
              ob (table_Put n (y10, name_1, b_3)) fun y11 =>
              ob (table_Put n (l_0, name_1, b_3)) fun y12 =>
              ob (table_Put n (l_0, name_1, a_2)) fun y13 =>
              ob (table_Add n (y13, name_1, b_3)) fun y14 =>
              chk (decide (a_2.length + b_3.length ≤ maxStr)) (
                ob (table_Put n (l_0, name_1, a_2 ++ b_3)) fun y15 =>
                ob (law08_its n y11) fun y16 =>
                ob (law08_its n y12) fun y17 =>
                ob (ref08_Same n (y16, y17)) fun y18 =>
                br y18 (
                  ob (law08_its n y14) fun y19 =>
                  ob (law08_its n y15) fun y20 =>
                  ob (ref08_Same n (y19, y20)) fun y21 =>
                  some y21) (
                  some false))))))))

/-- calender/calenderlaw08.lines -/
def law08_lines_loop0 (n : Nat) (g0 : List (List UInt8 × Bool × Unit) × Int × List (List UInt8 × Bool × Unit) × Unit → Option (List (List UInt8 × Bool × Unit))) (x1 : List (List UInt8 × Bool × Unit) × Int × List (List UInt8 × Bool × Unit) × Unit) : Option (List (List UInt8 × Bool × Unit)) :=
  let l_2 : List (List UInt8 × Bool × Unit) := x1.1
  let i_3 : Int := x1.2.1
  let row4 : List (List UInt8 × Bool × Unit) := x1.2.2.1
  br (decide (i_3 < (l_2.length : Int))) (
    chk (inB i_3 l_2.length) (
      let v5 : List UInt8 × Bool × Unit := getAt (Ty.dflt TSsbE) l_2 i_3
      chk (Nat.ble ((row4.length + ([v5] : List (List UInt8 × Bool × Unit)).length) * 24) room) (
        let v6 : Int := IntKind.wrap .i64 (i_3 + 1)
        g0 (l_2, v6, row4 ++ [v5], ())))) (
    some row4)

def law08_lines (n : Nat) (x : List (List UInt8 × Bool × Unit)) : Option (List (List UInt8 × Bool × Unit)) :=
  let l_0 : List (List UInt8 × Bool × Unit) := x
  fix (law08_lines_loop0 n) n (l_0, 0, [], ())

/-- calender/calenderref08.SameLines -/
def ref08_SameLines_loop0 (n : Nat) (g0 : List (List UInt8 × Bool × Unit) × List (List UInt8 × Bool × Unit) × Int × Unit → Option (Bool)) (x1 : List (List UInt8 × Bool × Unit) × List (List UInt8 × Bool × Unit) × Int × Unit) : Option (Bool) :=
  let a_2 : List (List UInt8 × Bool × Unit) := x1.1
  let b_3 : List (List UInt8 × Bool × Unit) := x1.2.1
  let i_4 : Int := x1.2.2.1
  br (decide (i_4 < (a_2.length : Int))) (
    chk (inB i_4 a_2.length) (
      let v5 : List UInt8 × Bool × Unit := getAt (Ty.dflt TSsbE) a_2 i_4
      chk (inB i_4 b_3.length) (
        let v6 : List UInt8 × Bool × Unit := getAt (Ty.dflt TSsbE) b_3 i_4
        br (!(Ty.beq TSsbE v5 v6)) (
          some false) (
          let v7 : Int := IntKind.wrap .i64 (i_4 + 1)
          g0 (a_2, b_3, v7, ()))))) (
    some true)

def ref08_SameLines (n : Nat) (x : List (List UInt8 × Bool × Unit) × List (List UInt8 × Bool × Unit)) : Option (Bool) :=
  let a_0 : List (List UInt8 × Bool × Unit) := x.1
  let b_1 : List (List UInt8 × Bool × Unit) := x.2
  br ((a_0.length : Int) != (b_1.length : Int)) (
    some false) (
    fix (ref08_SameLines_loop0 n) n (a_0, b_1, 0, ()))

/-- (*strings.Builder).WriteByte -/
def strings_Builder_WriteByte (n : Nat) (x : Int × List (Int) × Unit) : Option (Bool × List (Int) × Unit) :=
  let c_1 : Int := x.1
  let row2 : List (Int) := x.2.1
  ob (Builder_check n (row2, ())) fun y3 =>
  chk (Nat.ble ((y3.1.length + ([c_1] : List (Int)).length) * 1) room) (
    some (false, y3.1 ++ [c_1], ()))

/-- calender/table.Join -/
def table_Join_loop0 (n : Nat) (g0 : List (List UInt8 × Bool × Unit) × Int × Int × List (Int) × Unit → Option (List UInt8)) (x1 : List (List UInt8 × Bool × Unit) × Int × Int × List (Int) × Unit) : Option (List UInt8) :=
  let t6_2 : List (List UInt8 × Bool × Unit) := x1.1
  let t7_3 : Int := x1.2.1
  let t8_4 : Int := x1.2.2.1
  let row5 : List (Int) := x1.2.2.2.1
  br (decide (t8_4 < t7_3)) (
    chk (inB t8_4 t6_2.length) (
      let v6 : List UInt8 × Bool × Unit := getAt (Ty.dflt TSsbE) t6_2 t8_4
      ob (strings_Builder_WriteString n (v6.1, row5, ())) fun y7 =>
      br v6.2.1 (
        ob (strings_Builder_WriteByte n (10, y7.2.2.1, ())) fun y8 =>
        let v9 : Int := IntKind.wrap .i64 (t8_4 + 1)
        g0 (t6_2, t7_3, v9, y8.2.1, ())) (
        let v10 : Int := IntKind.wrap .i64 (t8_4 + 1)
        g0 (t6_2, t7_3, v10, y7.2.2.1, ())))) (
    ob (Builder_String n (row5, ())) fun y11 =>
    some y11.1)

def table_Join (n : Nat) (x : List (List UInt8 × Bool × Unit)) : Option (List UInt8) :=
  let l_0 : List (List UInt8 × Bool × Unit) := x
  fix (table_Join_loop0 n) n (l_0, (l_0.length : Int), 0, [], ())

/-- calender/calenderlaw08.TableSplits -/
def law08_TableSplits_loop0 (n : Nat) (g0 : List UInt8 × List (List UInt8 × Bool × Unit) × Int × Unit → Option (Bool)) (x5 : List UInt8 × List (List UInt8 × Bool × Unit) × Int × Unit) : Option (Bool) :=
  let s_6 : List UInt8 := x5.1
  let l_7 : List (List UInt8 × Bool × Unit) := x5.2.1
  let i_8 : Int := x5.2.2.1
  br (decide (i_8 < (l_7.length : Int))) (
    chk (inB i_8 l_7.length) (
      let v9 : List UInt8 × Bool × Unit := getAt (Ty.dflt TSsbE) l_7 i_8
      br (decide ((v9.1.length : Int) > 100)) (
        ob (law08_shown n ()) fun y10 =>
        some y10) (
        let v11 : Int := IntKind.wrap .i64 (i_8 + 1)
        g0 (s_6, l_7, v11, ())))) (
    ob (table_Split n s_6) fun y12 =>
    ob (law08_lines n y12) fun y13 =>
    ob (ref08_Split n s_6) fun y14 =>
    ob (ref08_SameLines n (y13, y14)) fun y15 =>
    br y15 (
      ob (table_Join n l_7) fun y16 =>
      ob (law08_lines n l_7) fun y17 =>
      ob (ref08_Join n y17) fun y18 =>
      some (y16 == y18)) (
      some false))

def law08_TableSplits (n : Nat) (x : List UInt8 × List (List UInt8 × Bool × Unit)) : Option (Bool) :=
  let s_0 : List UInt8 := x.1
  let l_1 : List (List UInt8 × Bool × Unit) := x.2
  br (decide ((s_0.length : Int) > 500)) (
    ob (law08_shown n ()) fun y1 =>
    some y1) (
    br (decide ((l_1.length : Int) > 60)) (
      ob (law08_shown n ()) fun y2 =>
      some y2) (
      ob (law08_shown n ()) fun y3 =>
      br (!y3) (
        ob (law08_shown n ()) fun y4 =>
        some y4) (
        fix (law08_TableSplits_loop0 n) n (s_0, l_1, 0, ()))))

/-- calender/calenderlaw08.TableBack -/
def law08_TableBack_loop1 (n : Nat) (g0 : List UInt8 × List (List UInt8 × Bool × Unit) × Int × Unit → Option (Bool)) (g1 : List UInt8 × List (List UInt8 × Bool × Unit) × Int × Int × Unit → Option (Bool)) (x9 : List UInt8 × List (List UInt8 × Bool × Unit) × Int × Int × Unit) : Option (Bool) :=
  let s_10 : List UInt8 := x9.1
  let l_11 : List (List UInt8 × Bool × Unit) := x9.2.1
  let i_12 : Int := x9.2.2.1
  let k_13 : Int := x9.2.2.2.1
  chk (inB i_12 l_11.length) (
    let v14 : List UInt8 × Bool × Unit := getAt (Ty.dflt TSsbE) l_11 i_12
    br (decide (k_13 < (v14.1.length : Int))) (
      chk (inB i_12 l_11.length) (
        let v15 : List UInt8 × Bool × Unit := getAt (Ty.dflt TSsbE) l_11 i_12
        chk (inB k_13 v15.1.length) (
          let v16 : Int := ((getAt 0 v15.1 k_13).toNat : Int)
          br (v16 == 10) (
            some false) (
            let v17 : Int := IntKind.wrap .i64 (k_13 + 1)
            g1 (s_10, l_11, i_12, v17, ()))))) (
      chk (inB i_12 l_11.length) (
        let v18 : List UInt8 × Bool × Unit := getAt (Ty.dflt TSsbE) l_11 i_12
        br (!v18.2.1) (
          let v19 : Int := IntKind.wrap .i64 ((l_11.length : Int) - 1)
          br (decide (i_12 < v19)) (
            some false) (
            chk (inB i_12 l_11.length) (
              let v20 : List UInt8 × Bool × Unit := getAt (Ty.dflt TSsbE) l_11 i_12
              br (v20.1 == []) (
                some false) (
                let v21 : Int := IntKind.wrap .i64 (i_12 + 1)
                g0 (s_10, l_11, v21, ()))))) (
          let v22 : Int := IntKind.wrap .i64 (i_12 + 1)
          g0 (s_10, l_11, v22, ())))))

def law08_TableBack_loop0 (n : Nat) (g0 : List UInt8 × List (List UInt8 × Bool × Unit) × Int × Unit → Option (Bool)) (x5 : List UInt8 × List (List UInt8 × Bool × Unit) × Int × Unit) : Option (Bool) :=
  let s_6 : List UInt8 := x5.1
  let l_7 : List (List UInt8 × Bool × Unit) := x5.2.1
  let i_8 : Int := x5.2.2.1
  br (decide (i_8 < (l_7.length : Int))) (
    fix (law08_TableBack_loop1 n g0) n (s_6, l_7, i_8, 0, ())) (
    ob (table_Join n l_7) fun y23 =>
    some (y23 == s_6))

def law08_TableBack (n : Nat) (x : List UInt8) : Option (Bool) :=
  let s_0 : List UInt8 := x
  br (decide ((s_0.length : Int) > 500)) (
    ob (law08_shown n ()) fun y1 =>
    some y1) (
    ob (law08_shown n ()) fun y2 =>
    br (!y2) (
      ob (law08_shown n ()) fun y3 =>
      some y3) (
      ob (table_Split n s_0) fun y4 =>
      fix (law08_TableBack_loop0 n) n (s_0, y4, 0, ())))

/-- calender/calenderref08.Put -/
def ref08_Put_loop0 (n : Nat) (g0 : List (List UInt8 × List UInt8 × Unit) × List UInt8 × List UInt8 × Bool × Int × List (List UInt8 × List UInt8 × Unit) × Unit → Option (List (List UInt8 × List UInt8 × Unit))) (x1 : List (List UInt8 × List UInt8 × Unit) × List UInt8 × List UInt8 × Bool × Int × List (List UInt8 × List UInt8 × Unit) × Unit) : Option (List (List UInt8 × List UInt8 × Unit)) :=
  let t_2 : List (List UInt8 × List UInt8 × Unit) := x1.1
  let name_3 : List UInt8 := x1.2.1
  let data_4 : List UInt8 := x1.2.2.1
  let t8_5 : Bool := x1.2.2.2.1
  let i_6 : Int := x1.2.2.2.2.1
  let row7 : List (List UInt8 × List UInt8 × Unit) := x1.2.2.2.2.2.1
  br (decide (i_6 < (t_2.length : Int))) (
    br (!t8_5) (
      chk (inB i_6 t_2.length) (
        let v8 : List UInt8 × List UInt8 × Unit := getAt (Ty.dflt TSssE) t_2 i_6
        br (!Op.bytesLess v8.1 name_3) (
          chk (Nat.ble ((row7.length + ([(name_3, (data_4, ()))] : List (List UInt8 × List UInt8 × Unit)).length) * 32) room) (
            let r9 : List (List UInt8 × List UInt8 × Unit) := row7 ++ [(name_3, (data_4, ()))]
            chk (inB i_6 t_2.length) (
              let v10 : List UInt8 × List UInt8 × Unit := getAt (Ty.dflt TSssE) t_2 i_6
              br (!(v10.1 == name_3)) (
                chk (inB i_6 t_2.length) (
                  let v11 : List UInt8 × List UInt8 × Unit := getAt (Ty.dflt TSssE) t_2 i_6
                  chk (Nat.ble ((r9.length + ([v11] : List (List UInt8 × List UInt8 × Unit)).length) * 32) room) (
                    let v12 : Int := IntKind.wrap .i64 (i_6 + 1)
                    g0 (t_2, name_3, data_4, true, v12, r9 ++ [v11], ())))) (
                let v13 : Int := IntKind.wrap .i64 (i_6 + 1)
                g0 (t_2, name_3, data_4, true, v13, r9, ()))))) (
          chk (inB i_6 t_2.length) (
            let v14 : List UInt8 × List UInt8 × Unit := getAt (Ty.dflt TSssE) t_2 i_6
            br (!(v14.1 == name_3)) (
              chk (inB i_6 t_2.length) (
                let v15 : List UInt8 × List UInt8 × Unit := getAt (Ty.dflt TSssE) t_2 i_6
                chk (Nat.ble ((row7.length + ([v15] : List (List UInt8 × List UInt8 × Unit)).length) * 32) room) (
                  let v16 : Int := IntKind.wrap .i64 (i_6 + 1)
                  g0 (t_2, name_3, data_4, t8_5, v16, row7 ++ [v15], ())))) (
              let v17 : Int := IntKind.wrap .i64 (i_6 + 1)
              g0 (t_2, name_3, data_4, t8_5, v17, row7, ())))))) (
      chk (inB i_6 t_2.length) (
        let v18 : List UInt8 × List UInt8 × Unit := getAt (Ty.dflt TSssE) t_2 i_6
        br (!(v18.1 == name_3)) (
          chk (inB i_6 t_2.length) (
            let v19 : List UInt8 × List UInt8 × Unit := getAt (Ty.dflt TSssE) t_2 i_6
            chk (Nat.ble ((row7.length + ([v19] : List (List UInt8 × List UInt8 × Unit)).length) * 32) room) (
              let v20 : Int := IntKind.wrap .i64 (i_6 + 1)
              g0 (t_2, name_3, data_4, t8_5, v20, row7 ++ [v19], ())))) (
          let v21 : Int := IntKind.wrap .i64 (i_6 + 1)
          g0 (t_2, name_3, data_4, t8_5, v21, row7, ()))))) (
    br (!t8_5) (
      chk (Nat.ble ((row7.length + ([(name_3, (data_4, ()))] : List (List UInt8 × List UInt8 × Unit)).length) * 32) room) (
        let r22 : List (List UInt8 × List UInt8 × Unit) := row7 ++ [(name_3, (data_4, ()))]
        some r22)) (
      some row7))

def ref08_Put (n : Nat) (x : List (List UInt8 × List UInt8 × Unit) × List UInt8 × List UInt8) : Option (List (List UInt8 × List UInt8 × Unit)) :=
  let t_0 : List (List UInt8 × List UInt8 × Unit) := x.1
  let name_1 : List UInt8 := x.2.1
  let data_2 : List UInt8 := x.2.2
  br (name_1 == []) (
    some t_0) (
    fix (ref08_Put_loop0 n) n (t_0, name_1, data_2, false, 0, [], ()))

/-- calender/calenderref08.Add -/
def ref08_Add (n : Nat) (x : List (List UInt8 × List UInt8 × Unit) × List UInt8 × List UInt8) : Option (List (List UInt8 × List UInt8 × Unit)) :=
  let t_0 : List (List UInt8 × List UInt8 × Unit) := x.1
  let name_1 : List UInt8 := x.2.1
  let data_2 : List UInt8 := x.2.2
  ob (ref08_Get n (t_0, name_1)) fun y1 =>
  chk (decide (y1.1.length + data_2.length ≤ maxStr)) (
    ob (ref08_Put n (t_0, name_1, y1.1 ++ data_2)) fun y2 =>
    some y2)

/-- calender/calenderlaw08.TablePuts -/
def law08_TablePuts_loop0 (n : Nat) (g0 : List (List UInt8 × List UInt8 × Unit) × List (Bool) × List (List UInt8 × List UInt8 × Unit) × List (List UInt8 × List UInt8 × Unit) × Int × Unit → Option (Bool)) (x5 : List (List UInt8 × List UInt8 × Unit) × List (Bool) × List (List UInt8 × List UInt8 × Unit) × List (List UInt8 × List UInt8 × Unit) × Int × Unit) : Option (Bool) :=
  let l_6 : List (List UInt8 × List UInt8 × Unit) := x5.1
  let add_7 : List (Bool) := x5.2.1
  let t_8 : List (List UInt8 × List UInt8 × Unit) := x5.2.2.1
  let r_9 : List (List UInt8 × List UInt8 × Unit) := x5.2.2.2.1
  let i_10 : Int := x5.2.2.2.2.1
  br (decide (i_10 < (l_6.length : Int))) (
    br (decide (i_10 < (add_7.length : Int))) (
      chk (inB i_10 add_7.length) (
        let v11 : Bool := getAt (Ty.dflt .bool) add_7 i_10
        br v11 (
          chk (inB i_10 l_6.length) (
            let v12 : List UInt8 × List UInt8 × Unit := getAt (Ty.dflt TSssE) l_6 i_10
            chk (inB i_10 l_6.length) (
              let v13 : List UInt8 × List UInt8 × Unit := getAt (Ty.dflt TSssE) l_6 i_10
              ob (table_Add n (t_8, v12.1, v13.2.1)) fun y14 =>
              chk (inB i_10 l_6.length) (
                let v15 : List UInt8 × List UInt8 × Unit := getAt (Ty.dflt TSssE) l_6 i_10
                chk (inB i_10 l_6.length) (
                  let v16 : List UInt8 × List UInt8 × Unit := getAt (Ty.dflt TSssE) l_6 i_10
                  ob (ref08_Add n (r_9, v15.1, v16.2.1)) fun y17 =>
                  ob (law08_its n y14) fun y18 =>
                  ob (ref08_Same n (y18, y17)) fun y19 =>
                  br (!y19) (
                    some false) (
                    ob (table_May n y14) fun y20 =>
                    br (!y20) (
                      some false) (
                      let v21 : Int := IntKind.wrap .i64 (i_10 + 1)
                      g0 (l_6, add_7, y14, y17, v21, ())))))))) (
          chk (inB i_10 l_6.length) (
            let v22 : List UInt8 × List UInt8 × Unit := getAt (Ty.dflt TSssE) l_6 i_10
            chk (inB i_10 l_6.length) (
              let v23 : List UInt8 × List UInt8 × Unit := getAt (Ty.dflt TSssE) l_6 i_10
              ob (table_Put n (t_8, v22.1, v23.2.1)) fun y24 =>
              chk (inB i_10 l_6.length) (
                let v25 : List UInt8 × List UInt8 × Unit := getAt (Ty.dflt TSssE) l_6 i_10
                chk (inB i_10 l_6.length) (
                  let v26 : List UInt8 × List UInt8 × Unit := getAt (Ty.dflt TSssE) l_6 i_10
                  ob (ref08_Put n (r_9, v25.1, v26.2.1)) fun y27 =>
                  ob (law08_its n y24) fun y28 =>
                  ob (ref08_Same n (y28, y27)) fun y29 =>
                  br (!y29) (
                    some false) (
                    ob (table_May n y24) fun y30 =>
                    br (!y30) (
                      some false) (
                      let v31 : Int := IntKind.wrap .i64 (i_10 + 1)
                      g0 (l_6, add_7, y24, y27, v31, ())))))))))) (
      chk (inB i_10 l_6.length) (
        let v32 : List UInt8 × List UInt8 × Unit := getAt (Ty.dflt TSssE) l_6 i_10
        chk (inB i_10 l_6.length) (
          let v33 : List UInt8 × List UInt8 × Unit := getAt (Ty.dflt TSssE) l_6 i_10
          ob (table_Put n (t_8, v32.1, v33.2.1)) fun y34 =>
          chk (inB i_10 l_6.length) (
            let v35 : List UInt8 × List UInt8 × Unit := getAt (Ty.dflt TSssE) l_6 i_10
            chk (inB i_10 l_6.length) (
              let v36 : List UInt8 × List UInt8 × Unit := getAt (Ty.dflt TSssE) l_6 i_10
              ob (ref08_Put n (r_9, v35.1, v36.2.1)) fun y37 =>
              ob (law08_its n y34) fun y38 =>
              ob (ref08_Same n (y38, y37)) fun y39 =>
              br (!y39) (
                some false) (
                ob (table_May n y34) fun y40 =>
                br (!y40) (
                  some false) (
                  let v41 : Int := IntKind.wrap .i64 (i_10 + 1)
                  g0 (l_6, add_7, y34, y37, v41, ()))))))))) (
    some true)

def law08_TablePuts (n : Nat) (x : List (List UInt8 × List UInt8 × Unit) × List (Bool)) : Option (Bool) :=
  let l_0 : List (List UInt8 × List UInt8 × Unit) := x.1
  let add_1 : List (Bool) := x.2
  ob (law08_bounded n l_0) fun y1 =>
  br (!y1) (
    ob (law08_shown n ()) fun y2 =>
    some y2) (
    ob (law08_shown n ()) fun y3 =>
    br (!y3) (
      ob (law08_shown n ()) fun y4 =>
      some y4) (
      fix (law08_TablePuts_loop0 n) n (l_0, add_1, [], [], 0, ())))

end Go.Dec
