/- What functions of the library come to. No statement is proved here. -/
import Derived.Test.YtpehkjgbhnegmaaDecZ
import Derived.Lib.IndexMore
namespace Go.Dec
/-- strings.Cut -/
def strings_Cut (_n : Nat) (x : List UInt8 × List UInt8) : Option (List UInt8 × List UInt8 × Bool) := chk (decide (x.1.length < 4294967281)) (some (Go.Lib.cut x.1 x.2))
end Go.Dec
