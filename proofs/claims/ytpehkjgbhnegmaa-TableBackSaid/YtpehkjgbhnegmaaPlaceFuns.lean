/- table.place, told as a function of data. No statement is proved here. -/
import Derived.Test.YtpehkjgbhnegmaaPlFuns
namespace Go.Dec
/-- The one function that is handed to place in this program. -/
def placeConv (x : List (List UInt8 × List UInt8 × Unit) × List UInt8 × Value) : Option (List (List UInt8 × List UInt8 × Unit) × List UInt8 × Unit) :=
  match x.2.2 with
  | .func (.func f) a b => if f = 52 ∧ a.size = 0 ∧ b.size = 0 then some (x.1, x.2.1, ()) else none
  | _ => none
def table_place (n : Nat) (x : List (List UInt8 × List UInt8 × Unit) × List UInt8 × Value) : Option (Int × Bool) :=
  match placeConv x with
  | some z => match pl_table_place_File__table_name n z with
    | some y => some (y.1, y.2.1)
    | none => none
  | none => none
end Go.Dec
