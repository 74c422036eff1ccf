/- Part of a proof over this seat: a library of my own, and what it says of this seat. No statement is proved here. -/
import Derived.Test.YtlimifngdjkogaaGreatDoorPartBT
import Derived.Test.YtlimifngdjkogaaGreatDoorPartBS
import Derived.Test.YtlimifngdjkogaaGreatDoorPartBR
namespace Go.Dec
open Go.Proofs
abbrev Sb : List Ty := []
abbrev Sc : List Ty := [.bool]
theorem Sg (n : Nat) : Pure aA.prog 9 Sb Sc (shown15 n) := aA.shown15
end Go.Dec
