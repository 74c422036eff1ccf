/- What the functions come to, as plain functions: printed by my decompiler. No statement is proved here. -/
import Derived.Test.YtpehkjgbhnegmaaDecZ
import Derived.Test.YtpehkjgbhnegmaaLibFuns
namespace Go.Dec
set_option linter.unusedVariables false

abbrev pl_TSiibcE : Ty := .pair (.int .i64) (.pair (.int .i64) (.pair .bool (.pair (.int .u8) .unit)))
abbrev pl_TSswE : Ty := .pair .str (.pair (.int .u64) .unit)
abbrev pl_TSsbbE : Ty := .pair .str (.pair .bool (.pair .bool .unit))
abbrev pl_TSsbE : Ty := .pair .str (.pair .bool .unit)
abbrev pl_TSssE : Ty := .pair .str (.pair .str .unit)

/-- calender/table.name -/
def pl_table_name (n : Nat) (x : List UInt8 × List UInt8 × Unit) : Option (List UInt8) :=
  let f_0 : List UInt8 × List UInt8 × Unit := x
  some f_0.1

/-- calender/table.place[calender/table.File]$1 -/
def pl_table_place_File_1 (n : Nat) (x : List UInt8 × List UInt8 × List UInt8 × Unit) : Option (Bool × List UInt8 × Unit) :=
  let x_1 : List UInt8 := x.1
  let x_2 : List UInt8 := x.2.1
  let b3 : List UInt8 := x.2.2.1
  ob (pl_table_name n (x_1, (x_2, ()))) fun y4 =>
  some ((!Op.bytesLess y4 b3), b3, ())

/-- slices.IndexFunc[[]calender/table.File,calender/table.File] -/
def pl_slices_IndexFunc_File__table_place_File_1_loop0 (n : Nat) (g0 : List (List UInt8 × List UInt8 × Unit) × Int × Int × List UInt8 × Unit → Option (Int × List UInt8 × Unit)) (x3 : List (List UInt8 × List UInt8 × Unit) × Int × Int × List UInt8 × Unit) : Option (Int × List UInt8 × Unit) :=
  let s_4 : List (List UInt8 × List UInt8 × Unit) := x3.1
  let t7_5 : Int := x3.2.1
  let t8_6 : Int := x3.2.2.1
  let b7 : List UInt8 := x3.2.2.2.1
  br (decide (t8_6 < t7_5)) (
    chk (inB t8_6 s_4.length) (
      let v8 : List UInt8 × List UInt8 × Unit := getAt (Ty.dflt pl_TSssE) s_4 t8_6
      ob (pl_table_place_File_1 n (v8.1, v8.2.1, b7, ())) fun y9 =>
      br y9.1 (
        some (t8_6, y9.2.1, ())) (
        let v10 : Int := IntKind.wrap .i64 (t8_6 + 1)
        g0 (s_4, t7_5, v10, y9.2.1, ())))) (
    some ((-1), b7, ()))

def pl_slices_IndexFunc_File__table_place_File_1 (n : Nat) (x : List (List UInt8 × List UInt8 × Unit) × List UInt8 × Unit) : Option (Int × List UInt8 × Unit) :=
  let s_1 : List (List UInt8 × List UInt8 × Unit) := x.1
  let b2 : List UInt8 := x.2.1
  fix (pl_slices_IndexFunc_File__table_place_File_1_loop0 n) n (s_1, (s_1.length : Int), 0, b2, ())

/-- calender/table.place[calender/table.File] -/
def pl_table_place_File__table_name (n : Nat) (x : List (List UInt8 × List UInt8 × Unit) × List UInt8 × Unit) : Option (Int × Bool × Unit) :=
  let l_1 : List (List UInt8 × List UInt8 × Unit) := x.1
  let name_2 : List UInt8 := x.2.1
  ob (pl_slices_IndexFunc_File__table_place_File_1 n (l_1, name_2, ())) fun y3 =>
  br (decide (y3.1 < 0)) (
    some ((l_1.length : Int), false, ())) (
    chk (inB y3.1 l_1.length) (
      let v4 : List UInt8 × List UInt8 × Unit := getAt (Ty.dflt pl_TSssE) l_1 y3.1
      ob (pl_table_name n v4) fun y5 =>
      some (y3.1, (y5 == y3.2.1), ())))

end Go.Dec
