/- Part of a proof over this seat: a library of my own, and what it says of this seat. No statement is proved here. -/
import Derived.Test.YtfpipcafiocdoaaGreatDoorPartBP
import Derived.Test.YtfpipcafiocdoaaGreatDoorPartBO
namespace Go.Dec
open Go.Proofs
theorem yC : Pure Tryz.prog 3 wM pJ pI :=
 ⟨(pR 0).1,fun (x : List (List (List UInt8))) y h => (pR (30000 + pG x)).2 x y h⟩
end Go.Dec
