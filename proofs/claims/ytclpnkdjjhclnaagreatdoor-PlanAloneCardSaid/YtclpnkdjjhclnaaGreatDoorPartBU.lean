/- Part of a proof over this seat: a library of my own, and what it says of this seat. No statement is proved here. -/
import Derived.Test.YtclpnkdjjhclnaaGreatDoorPartBS
namespace Go.Proofs
open Go.Ce
theorem Tryz.pa6 : gL (aP Tryz.Ep (run Tryz.Ep 4000) 0 8 [.md .u8 9 6] ⟨.nil, 0⟩) = some true := by kernel_rfl
end Go.Proofs
