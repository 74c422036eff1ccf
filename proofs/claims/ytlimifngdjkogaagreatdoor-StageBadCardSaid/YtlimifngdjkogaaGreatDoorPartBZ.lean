/- Part of a proof over this seat: a library of my own, and what it says of this seat. No statement is proved here. -/
import Derived.Test.YtlimifngdjkogaaGreatDoorPartBX
import Derived.Test.YtlimifngdjkogaaGreatDoorPartBY
namespace Go.Dec
open Go.Proofs
theorem vY : Pure Tryz.prog 6 uH mK mM :=
 ⟨(mO 0).1, fun (x : List UInt8 × List jG × List (List UInt8) × Int) y h => (mO (2000 + x.2.1.length + x.2.2.1.length)).2 x y h⟩
end Go.Dec
