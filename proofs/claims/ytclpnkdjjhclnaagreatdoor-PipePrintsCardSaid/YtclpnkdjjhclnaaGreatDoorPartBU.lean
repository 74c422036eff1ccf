/- Part of a proof over this seat: a library of my own, and what it says of this seat. No statement is proved here. -/
import Derived.Test.YtclpnkdjjhclnaaGreatDoorPartBT
import Derived.Test.YtclpnkdjjhclnaaGreatDoorPartBS
import Derived.Test.YtclpnkdjjhclnaaGreatDoorPartBP
namespace Go.Dec
open Go.Proofs
abbrev Tm : List Ty := []
abbrev Tn : List Ty := [.bool]
theorem Tp (n : Nat) : Pure Tryz.prog 12 Tm Tn (shown21 n) := Tryz.shown21
end Go.Dec
