/- Part of a proof over this seat: a library of my own, and what it says of this seat. No statement is proved here. -/
import Derived.Test.YtlimifngdjkogaaGreatDoorPartBT
import Derived.Test.YtlimifngdjkogaaGreatDoorPartBS
namespace Go.Dec
open Go.Proofs
abbrev Rs : List Ty := []
abbrev Rt : List Ty := [.bool]
theorem Ru (n : Nat) : Pure Tryz.prog 18 Rs Rt (shown16 n) := Tryz.shown16
end Go.Dec
