/- Part of a proof over this seat: a library of my own, and what it says of this seat. No statement is proved here. -/
import Derived.Test.YtlimifngdjkogaaGreatDoorPartBT
import Derived.Test.YtlimifngdjkogaaGreatDoorPartBS
import Derived.Test.YtlimifngdjkogaaGreatDoorPartBR
namespace Go.Dec
open Go.Proofs
abbrev Rz : List Ty := []
abbrev Sb : List Ty := [.bool]
theorem Sc (n : Nat) : Pure Tryz.prog 9 Rz Sb (shown15 n) := Tryz.shown15
end Go.Dec
