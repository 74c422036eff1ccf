/- What the functions come to, as plain functions: printed by my decompiler. No statement is proved here. -/
import Derived.Test.YtpehkjgbhnegmaaDecZ
import Derived.Test.YtpehkjgbhnegmaaLibFuns
namespace Go.Dec
set_option linter.unusedVariables false

abbrev TSiibcE : Ty := .pair (.int .i64) (.pair (.int .i64) (.pair .bool (.pair (.int .u8) .unit)))
abbrev TSswE : Ty := .pair .str (.pair (.int .u64) .unit)
abbrev TSsbbE : Ty := .pair .str (.pair .bool (.pair .bool .unit))
abbrev TSsbE : Ty := .pair .str (.pair .bool .unit)
abbrev TSssE : Ty := .pair .str (.pair .str .unit)

/-- calender/link.Push -/
def link_Push (n : Nat) (x : (List UInt8 × Bool × Bool × Unit) × List UInt8 × Bool × Unit) : Option (List UInt8 × Bool × Bool × Unit) :=
  let k_0 : List UInt8 × Bool × Bool × Unit := x.1
  let e_1 : List UInt8 × Bool × Unit := x.2
  br k_0.2.2.1 (
    some k_0) (
    br k_0.2.1 (
      chk (decide (k_0.1.length + ([10] : List UInt8).length ≤ maxStr)) (
        chk (decide ((k_0.1 ++ [10]).length + e_1.1.length ≤ maxStr)) (
          br e_1.2.1 (
            chk (decide (((k_0.1 ++ [10]) ++ e_1.1).length + ([10] : List UInt8).length ≤ maxStr)) (
              let v1 : List UInt8 := ((k_0.1 ++ [10]) ++ e_1.1) ++ [10]
              some (v1, ((!e_1.2.1), k_0.2.2)))) (
            some ((k_0.1 ++ [10]) ++ e_1.1, ((!e_1.2.1), k_0.2.2)))))) (
      chk (decide (k_0.1.length + e_1.1.length ≤ maxStr)) (
        br e_1.2.1 (
          chk (decide ((k_0.1 ++ e_1.1).length + ([10] : List UInt8).length ≤ maxStr)) (
            some ((k_0.1 ++ e_1.1) ++ [10], ((!e_1.2.1), k_0.2.2)))) (
          some (k_0.1 ++ e_1.1, ((!e_1.2.1), k_0.2.2))))))

/-- calender/link.Take -/
def link_Take (n : Nat) (x : List UInt8 × Bool × Bool × Unit) : Option ((List UInt8 × Bool × Bool × Unit) × (List UInt8 × Bool × Unit) × Bool × Bool) :=
  let k_0 : List UInt8 × Bool × Bool × Unit := x
  ob (strings_Cut n (k_0.1, [10])) fun y1 =>
  br (y1.2.1 == []) (
    br (!k_0.2.2.1) (
      some (k_0, ([], (false, ())), false, false)) (
      br (k_0.1 == []) (
        some (k_0, ([], (false, ())), false, false)) (
        some ((y1.2.1, k_0.2), (y1.1, (y1.2.2, ())), (y1.2.1 == []), true)))) (
    br (k_0.1 == []) (
      some (k_0, ([], (false, ())), false, false)) (
      some ((y1.2.1, k_0.2), (y1.1, (y1.2.2, ())), (y1.2.1 == []), true)))

/-- calender/link.Known -/
def link_Known (n : Nat) (x : List UInt8 × Bool × Bool × Unit) : Option ((List UInt8 × Bool × Unit) × Bool × Bool) :=
  let k_0 : List UInt8 × Bool × Bool × Unit := x
  ob (link_Take n k_0) fun y1 =>
  some (y1.2.1, y1.2.2.1, y1.2.2.2)

/-- calender/link.Close -/
def link_Close (n : Nat) (x : List UInt8 × Bool × Bool × Unit) : Option (List UInt8 × Bool × Bool × Unit) :=
  let k_0 : List UInt8 × Bool × Bool × Unit := x
  some (k_0.1, (k_0.2.1, (true, ())))

/-- calender/link.Ended -/
def link_Ended (n : Nat) (x : List UInt8 × Bool × Bool × Unit) : Option (Bool) :=
  let k_0 : List UInt8 × Bool × Bool × Unit := x
  br k_0.2.2.1 (
    some (k_0.1 == [])) (
    some false)

/-- calender/calenderlaw18.shown -/
def law18_shown (n : Nat) (x : Unit) : Option (Bool) :=
  ob (link_Push n (([], (false, (false, ()))), ([97], (true, ())))) fun y1 =>
  ob (link_Known n y1) fun y2 =>
  ob (link_Push n (y1, ([98], (false, ())))) fun y3 =>
  ob (link_Take n y3) fun y4 =>
  ob (link_Close n y4.1) fun y5 =>
  ob (link_Known n y5) fun y6 =>
  br (!y2.2.2) (
    br y4.2.2.2 (
      br (!y4.2.2.1) (
        br (y4.2.1.1 == [97]) (
          br y6.2.2 (
            br y6.2.1 (
              br (y6.1.1 == [98]) (
                br (!y6.1.2.1) (
                  ob (link_Ended n y4.1) fun y7 =>
                  some (!y7)) (
                  some false)) (
                some false)) (
              some false)) (
            some false)) (
          some false)) (
        some false)) (
      some false)) (
    some false)

/-- calender/calenderlaw18.its -/
def law18_its (n : Nat) (x : List UInt8 × Bool × Bool × Unit) : Option (List UInt8 × Bool × Bool × Unit) :=
  let k_0 : List UInt8 × Bool × Bool × Unit := x
  some k_0

/-- calender/calenderref08.Split -/
def ref08_Split_loop0 (n : Nat) (g0 : List UInt8 × List UInt8 × Int × List (List UInt8 × Bool × Unit) × Unit → Option (List (List UInt8 × Bool × Unit))) (x1 : List UInt8 × List UInt8 × Int × List (List UInt8 × Bool × Unit) × Unit) : Option (List (List UInt8 × Bool × Unit)) :=
  let s_2 : List UInt8 := x1.1
  let w_3 : List UInt8 := x1.2.1
  let i_4 : Int := x1.2.2.1
  let row5 : List (List UInt8 × Bool × Unit) := x1.2.2.2.1
  br (decide (i_4 < (s_2.length : Int))) (
    chk (inB i_4 s_2.length) (
      let v6 : Int := ((getAt 0 s_2 i_4).toNat : Int)
      br (v6 == 10) (
        chk (Nat.ble ((row5.length + ([(w_3, (true, ()))] : List (List UInt8 × Bool × Unit)).length) * 24) room) (
          let r7 : List (List UInt8 × Bool × Unit) := row5 ++ [(w_3, (true, ()))]
          let v8 : Int := IntKind.wrap .i64 (i_4 + 1)
          g0 (s_2, [], v8, r7, ()))) (
        let v9 : Int := IntKind.wrap .i64 (i_4 + 1)
        chk ((decide (0 ≤ v9) && decide (v9 ≤ (s_2.length : Int)) && (decide (0 ≤ i_4) && decide (i_4 ≤ v9)))) (
          let v10 : List UInt8 := (s_2.take v9.toNat).drop i_4.toNat
          chk (decide (w_3.length + v10.length ≤ maxStr)) (
            let v11 : Int := IntKind.wrap .i64 (i_4 + 1)
            g0 (s_2, w_3 ++ v10, v11, row5, ())))))) (
    br (!(w_3 == [])) (
      chk (Nat.ble ((row5.length + ([(w_3, (false, ()))] : List (List UInt8 × Bool × Unit)).length) * 24) room) (
        let r12 : List (List UInt8 × Bool × Unit) := row5 ++ [(w_3, (false, ()))]
        some r12)) (
      some row5))

def ref08_Split (n : Nat) (x : List UInt8) : Option (List (List UInt8 × Bool × Unit)) :=
  let s_0 : List UInt8 := x
  fix (ref08_Split_loop0 n) n (s_0, [], 0, [], ())

/-- calender/calenderref08.Join -/
def ref08_Join_loop0 (n : Nat) (g0 : List (List UInt8 × Bool × Unit) × List UInt8 × Int × Unit → Option (List UInt8)) (x1 : List (List UInt8 × Bool × Unit) × List UInt8 × Int × Unit) : Option (List UInt8) :=
  let l_2 : List (List UInt8 × Bool × Unit) := x1.1
  let s_3 : List UInt8 := x1.2.1
  let i_4 : Int := x1.2.2.1
  br (decide (i_4 < (l_2.length : Int))) (
    chk (inB i_4 l_2.length) (
      let v5 : List UInt8 × Bool × Unit := getAt (Ty.dflt TSsbE) l_2 i_4
      chk (decide (s_3.length + v5.1.length ≤ maxStr)) (
        chk (inB i_4 l_2.length) (
          let v6 : List UInt8 × Bool × Unit := getAt (Ty.dflt TSsbE) l_2 i_4
          br v6.2.1 (
            chk (decide ((s_3 ++ v5.1).length + ([10] : List UInt8).length ≤ maxStr)) (
              let v7 : Int := IntKind.wrap .i64 (i_4 + 1)
              g0 (l_2, (s_3 ++ v5.1) ++ [10], v7, ()))) (
            let v8 : Int := IntKind.wrap .i64 (i_4 + 1)
            g0 (l_2, s_3 ++ v5.1, v8, ())))))) (
    some s_3)

def ref08_Join (n : Nat) (x : List (List UInt8 × Bool × Unit)) : Option (List UInt8) :=
  let l_0 : List (List UInt8 × Bool × Unit) := x
  fix (ref08_Join_loop0 n) n (l_0, [], 0, ())

/-- calender/calenderref18.Take -/
def ref18_Take (n : Nat) (x : List UInt8 × Bool × Bool × Unit) : Option ((List UInt8 × Bool × Bool × Unit) × (List UInt8 × Bool × Unit) × Bool × Bool) :=
  let k_0 : List UInt8 × Bool × Bool × Unit := x
  ob (ref08_Split n k_0.1) fun y1 =>
  br ((y1.length : Int) == 0) (
    some (k_0, ([], (false, ())), false, false)) (
    br ((y1.length : Int) == 1) (
      br (!k_0.2.2.1) (
        some (k_0, ([], (false, ())), false, false)) (
        chk ((decide (0 ≤ (1 : Int)) && decide ((1 : Int) ≤ (y1.length : Int)))) (
          ob (ref08_Join n (y1.drop (1 : Int).toNat)) fun y2 =>
          chk (inB 0 y1.length) (
            let v3 : List UInt8 × Bool × Unit := getAt (Ty.dflt TSsbE) y1 0
            some ((y2, k_0.2), v3, ((y1.length : Int) == 1), true))))) (
      chk ((decide (0 ≤ (1 : Int)) && decide ((1 : Int) ≤ (y1.length : Int)))) (
        ob (ref08_Join n (y1.drop (1 : Int).toNat)) fun y4 =>
        chk (inB 0 y1.length) (
          let v5 : List UInt8 × Bool × Unit := getAt (Ty.dflt TSsbE) y1 0
          some ((y4, k_0.2), v5, ((y1.length : Int) == 1), true)))))

/-- calender/calenderref18.Push -/
def ref18_Push (n : Nat) (x : (List UInt8 × Bool × Bool × Unit) × List UInt8 × Bool × Unit) : Option (List UInt8 × Bool × Bool × Unit) :=
  let k_0 : List UInt8 × Bool × Bool × Unit := x.1
  let e_1 : List UInt8 × Bool × Unit := x.2
  br k_0.2.2.1 (
    some k_0) (
    br k_0.2.1 (
      chk (decide (k_0.1.length + ([10] : List UInt8).length ≤ maxStr)) (
        chk (decide ((k_0.1 ++ [10]).length + e_1.1.length ≤ maxStr)) (
          br e_1.2.1 (
            chk (decide (((k_0.1 ++ [10]) ++ e_1.1).length + ([10] : List UInt8).length ≤ maxStr)) (
              let v1 : List UInt8 := ((k_0.1 ++ [10]) ++ e_1.1) ++ [10]
              some (v1, ((!e_1.2.1), k_0.2.2)))) (
            some ((k_0.1 ++ [10]) ++ e_1.1, ((!e_1.2.1), k_0.2.2)))))) (
      chk (decide (k_0.1.length + e_1.1.length ≤ maxStr)) (
        br e_1.2.1 (
          chk (decide ((k_0.1 ++ e_1.1).length + ([10] : List UInt8).length ≤ maxStr)) (
            some ((k_0.1 ++ e_1.1) ++ [10], ((!e_1.2.1), k_0.2.2)))) (
          some (k_0.1 ++ e_1.1, ((!e_1.2.1), k_0.2.2))))))

/-- calender/calenderref18.Close -/
def ref18_Close (n : Nat) (x : List UInt8 × Bool × Bool × Unit) : Option (List UInt8 × Bool × Bool × Unit) :=
  let k_0 : List UInt8 × Bool × Bool × Unit := x
  some (k_0.1, (k_0.2.1, (true, ())))

/-- calender/calenderref18.Ended -/
def ref18_Ended (n : Nat) (x : List UInt8 × Bool × Bool × Unit) : Option (Bool) :=
  let k_0 : List UInt8 × Bool × Bool × Unit := x
  br k_0.2.2.1 (
    some (k_0.1 == [])) (
    some false)

/-- calender/calenderlaw18.LinkTells -/
def law18_LinkTells (n : Nat) (x : (List UInt8 × Bool × Bool × Unit) × List UInt8 × Bool × Unit) : Option (Bool) :=
  let k_0 : List UInt8 × Bool × Bool × Unit := x.1
  let e_1 : List UInt8 × Bool × Unit := x.2
  br (decide ((k_0.1.length : Int) > 300)) (
    ob (law18_shown n ()) fun y1 =>
    some y1) (
    br (decide ((e_1.1.length : Int) > 300)) (
      ob (law18_shown n ()) fun y2 =>
      some y2) (
      ob (law18_shown n ()) fun y3 =>
      br (!y3) (
        ob (law18_shown n ()) fun y4 =>
        some y4) (
        ob (link_Take n k_0) fun y5 =>
        ob (law18_its n k_0) fun y6 =>
        ob (ref18_Take n y6) fun y7 =>
        ob (link_Known n k_0) fun y8 =>
        ob (law18_its n y5.1) fun y9 =>
        br (Ty.beq TSsbbE y9 y7.1) (
          br (Ty.beq TSsbE y5.2.1 y7.2.1) (
            br (y5.2.2.1 == y7.2.2.1) (
              br (y5.2.2.2 == y7.2.2.2) (
                br (Ty.beq TSsbE y8.1 y5.2.1) (
                  br (y8.2.1 == y5.2.2.1) (
                    br (y8.2.2 == y5.2.2.2) (
                      ob (link_Push n (k_0, e_1)) fun y10 =>
                      ob (law18_its n y10) fun y11 =>
                      ob (law18_its n k_0) fun y12 =>
                      ob (ref18_Push n (y12, e_1)) fun y13 =>
                      br (Ty.beq TSsbbE y11 y13) (
                        ob (link_Close n k_0) fun y14 =>
                        ob (law18_its n y14) fun y15 =>
                        ob (law18_its n k_0) fun y16 =>
                        ob (ref18_Close n y16) fun y17 =>
                        br (Ty.beq TSsbbE y15 y17) (
                          ob (link_Ended n k_0) fun y18 =>
                          ob (law18_its n k_0) fun y19 =>
                          ob (ref18_Ended n y19) fun y20 =>
                          some (y18 == y20)) (
                          some false)) (
                        some false)) (
                      some false)) (
                    some false)) (
                  some false)) (
                some false)) (
              some false)) (
            some false)) (
          some false))))

/-- calender/calenderlaw18.LinkTakes -/
def law18_LinkTakes (n : Nat) (x : List UInt8 × Bool × Bool × Unit) : Option (Bool) :=
  let k_0 : List UInt8 × Bool × Bool × Unit := x
  br (decide ((k_0.1.length : Int) > 300)) (
    ob (law18_shown n ()) fun y1 =>
    some y1) (
    ob (law18_shown n ()) fun y2 =>
    br (!y2) (
      ob (law18_shown n ()) fun y3 =>
      some y3) (
      ob (link_Take n k_0) fun y4 =>
      br (!y4.2.2.2) (
        br (Ty.beq TSsbbE y4.1 k_0) (
          br (Ty.beq TSsbE y4.2.1 ([], (false, ()))) (
            some (!y4.2.2.1)) (
            some false)) (
          some false)) (
        br y4.2.1.2.1 (
          chk (decide (y4.2.1.1.length + ([10] : List UInt8).length ≤ maxStr)) (
            chk (decide ((y4.2.1.1 ++ [10]).length + y4.1.1.length ≤ maxStr)) (
              let v5 : List UInt8 := (y4.2.1.1 ++ [10]) ++ y4.1.1
              br (v5 == k_0.1) (
                br (y4.1.2.1 == k_0.2.1) (
                  br (y4.1.2.2.1 == k_0.2.2.1) (
                    br (y4.2.2.1 == (y4.1.1 == [])) (
                      br y4.2.1.2.1 (
                        some true) (
                        some y4.2.2.1)) (
                      some false)) (
                    some false)) (
                  some false)) (
                some false)))) (
          chk (decide (y4.2.1.1.length + y4.1.1.length ≤ maxStr)) (
            br ((y4.2.1.1 ++ y4.1.1) == k_0.1) (
              br (y4.1.2.1 == k_0.2.1) (
                br (y4.1.2.2.1 == k_0.2.2.1) (
                  br (y4.2.2.1 == (y4.1.1 == [])) (
                    br y4.2.1.2.1 (
                      some true) (
                      some y4.2.2.1)) (
                    some false)) (
                  some false)) (
                some false)) (
              some false))))))

/-- calender/calenderlaw18.LinkHolds -/
def law18_LinkHolds (n : Nat) (x : List UInt8 × Bool × Bool × Unit) : Option (Bool) :=
  let k_0 : List UInt8 × Bool × Bool × Unit := x
  br (decide ((k_0.1.length : Int) > 300)) (
    ob (law18_shown n ()) fun y1 =>
    some y1) (
    ob (law18_shown n ()) fun y2 =>
    br (!y2) (
      ob (law18_shown n ()) fun y3 =>
      some y3) (
      ob (link_Known n k_0) fun y4 =>
      br y4.2.2 (
        some true) (
        ob (table_Split n k_0.1) fun y5 =>
        br (decide ((y5.length : Int) ≤ 1)) (
          br (!k_0.2.2.1) (
            some true) (
            some (k_0.1 == []))) (
          some false))))

/-- calender/calenderlaw18.LinkClosed -/
def law18_LinkClosed_loop0 (n : Nat) (g0 : Int × List UInt8 × Bool × Bool × List UInt8 × Bool × Bool × Unit → Option (Bool)) (x8 : Int × List UInt8 × Bool × Bool × List UInt8 × Bool × Bool × Unit) : Option (Bool) :=
  let n_9 : Int := x8.1
  let Data10 : List UInt8 := x8.2.1
  let Gap11 : Bool := x8.2.2.1
  let Closed12 : Bool := x8.2.2.2.1
  let Data13 : List UInt8 := x8.2.2.2.2.1
  let Gap14 : Bool := x8.2.2.2.2.2.1
  let Closed15 : Bool := x8.2.2.2.2.2.2.1
  ob (link_Ended n (Data13, (Gap14, (Closed15, ())))) fun y16 =>
  br (!y16) (
    ob (link_Take n (Data13, (Gap14, (Closed15, ())))) fun y17 =>
    br (!y17.2.2.2) (
      some false) (
      ob (link_Ended n y17.1) fun y18 =>
      br (y17.2.2.1 != y18) (
        some false) (
        let v19 : Int := IntKind.wrap .i64 (n_9 + 1)
        g0 (v19, Data10, Gap11, Closed12, y17.1.1, y17.1.2.1, y17.1.2.2.1, ())))) (
    ob (table_Split n Data10) fun y20 =>
    some (n_9 == (y20.length : Int)))

def law18_LinkClosed (n : Nat) (x : (List UInt8 × Bool × Bool × Unit) × List UInt8 × Bool × Unit) : Option (Bool) :=
  let k_0 : List UInt8 × Bool × Bool × Unit := x.1
  let e_1 : List UInt8 × Bool × Unit := x.2
  br (decide ((k_0.1.length : Int) > 300)) (
    ob (law18_shown n ()) fun y1 =>
    some y1) (
    br (decide ((e_1.1.length : Int) > 300)) (
      ob (law18_shown n ()) fun y2 =>
      some y2) (
      ob (law18_shown n ()) fun y3 =>
      br (!y3) (
        ob (law18_shown n ()) fun y4 =>
        some y4) (
        ob (link_Close n k_0) fun y5 =>
        ob (link_Push n (y5, e_1)) fun y6 =>
        br (!(Ty.beq TSsbbE y6 y5)) (
          some false) (
          ob (link_Close n y5) fun y7 =>
          br (!(Ty.beq TSsbbE y7 y5)) (
            some false) (
            fix (law18_LinkClosed_loop0 n) n (0, k_0.1, k_0.2.1, k_0.2.2.1, y5.1, y5.2.1, y5.2.2.1, ()))))))

end Go.Dec
