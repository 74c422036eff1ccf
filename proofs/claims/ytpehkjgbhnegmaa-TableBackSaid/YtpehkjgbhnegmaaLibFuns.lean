/- What functions of the library come to. No statement is proved here. -/
import Derived.Test.YtpehkjgbhnegmaaDecZ
import Derived.Lib.IndexMore
import Derived.Test.YtpehkjgbhnegmaaPlainC
namespace Go.Dec
/-- strings.Cut -/
def strings_Cut (_n : Nat) (x : List UInt8 × List UInt8) : Option (List UInt8 × List UInt8 × Bool) := chk (decide (x.1.length < 4294967281)) (some (Go.Lib.cut x.1 x.2))
/-- table.Split: the lines of a text. Proved against its code in TSplit -/
def table_Split (_n : Nat) (x : List UInt8) : Option (List (List UInt8 × Bool × Unit)) := chk (decide (x.length < 4294967281)) (some (splitL x))
/-- (*strings.Builder).copyCheck, at a builder that holds bytes. Proved against its code in BuildTies -/
def Builder_check (_n : Nat) (x : List Int × Unit) : Option (List Int × Unit) := some x
/-- (*strings.Builder).String: the text, and what is left: the row is given up. Proved against its code in Str -/
def Builder_String (_n : Nat) (x : List Int × Unit) : Option (List UInt8 × List Int × Unit) := chk (x.1.all fun n => decide (0 ≤ n) && decide (n < 256)) (some (bytesToS x.1, [], ()))
abbrev FileD : Type := List UInt8 × List UInt8 × Unit
/-- slices.Insert of one file. Proved against its code in InsM -/
def slices_Insert (_n : Nat) (x : Int × List FileD × List FileD × Unit) : Option (List FileD × List FileD × Unit) :=
  chk (decide (0 ≤ x.1) && (decide (x.1 ≤ (x.2.1.length : Int)) && (Nat.beq x.2.2.1.length 1 && Nat.ble ((x.2.1.length + 1) * 32) room))) (some (x.2.1.take x.1.toNat ++ x.2.2.1 ++ x.2.1.drop x.1.toNat, x.2.2.1, ()))
end Go.Dec
