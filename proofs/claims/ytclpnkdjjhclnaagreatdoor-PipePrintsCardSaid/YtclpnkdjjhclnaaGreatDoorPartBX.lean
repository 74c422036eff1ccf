/- Part of a proof over this seat: a library of my own, and what it says of this seat. No statement is proved here. -/
import Derived.Test.YtclpnkdjjhclnaaGreatDoorPartBV
import Derived.Test.YtclpnkdjjhclnaaGreatDoorPartBW
namespace Go.Dec
open Go.Proofs
theorem vN : Pure Tryz.prog 4 rE lN lQ :=
 ⟨(nG 0).1, fun (x : List (List (List UInt8)) × List UInt8) y h => (nG (2000 + qF x.1)).2 x y h⟩
end Go.Dec
