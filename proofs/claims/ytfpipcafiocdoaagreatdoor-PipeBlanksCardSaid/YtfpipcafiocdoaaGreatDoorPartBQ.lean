/- Part of a proof over this seat: a library of my own, and what it says of this seat. No statement is proved here. -/
import Derived.Test.YtfpipcafiocdoaaGreatDoorPartBP
import Derived.Test.YtfpipcafiocdoaaGreatDoorPartBO
namespace Go.Dec
open Go.Proofs
theorem wU : Pure Tryz.prog 4 sZ nC nA :=
 ⟨(oM 0).1,fun (x : List (List (List UInt8)) × List Int) y h => (oM (30000 + pW x.1)).2 x y h⟩
end Go.Dec
