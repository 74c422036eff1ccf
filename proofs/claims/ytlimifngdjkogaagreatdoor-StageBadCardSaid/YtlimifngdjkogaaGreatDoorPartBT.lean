/- Part of a proof over this seat: a library of my own, and what it says of this seat. No statement is proved here. -/
import Derived.Test.YtlimifngdjkogaaGreatDoorPartBJ
namespace Go.Dec
def shown16 (_n : Nat) (_x : Unit) : Option Bool := some true
end Go.Dec
