/- Part of a proof over this seat: a library of my own, and what it says of this seat. No statement is proved here. -/
import Derived.Test.YtclpnkdjjhclnaaGreatDoorPartBS
namespace Go.Proofs
open Go.Ce
theorem Tryz.pa0 : gL (aP Tryz.Ep (run Tryz.Ep 4000) 0 8 [.md .u8 9 0] ⟨.nil, 0⟩) = some true := by kernel_rfl
theorem Tryz.pa1 : gL (aP Tryz.Ep (run Tryz.Ep 4000) 0 8 [.md .u8 9 1] ⟨.nil, 0⟩) = some true := by kernel_rfl
theorem Tryz.pa2 : gL (aP Tryz.Ep (run Tryz.Ep 4000) 0 8 [.md .u8 9 2] ⟨.nil, 0⟩) = some true := by kernel_rfl
theorem Tryz.pa3 : gL (aP Tryz.Ep (run Tryz.Ep 4000) 0 8 [.md .u8 9 3] ⟨.nil, 0⟩) = some true := by kernel_rfl
theorem Tryz.pa4 : gL (aP Tryz.Ep (run Tryz.Ep 4000) 0 8 [.md .u8 9 4] ⟨.nil, 0⟩) = some true := by kernel_rfl
theorem Tryz.pa5 : gL (aP Tryz.Ep (run Tryz.Ep 4000) 0 8 [.md .u8 9 5] ⟨.nil, 0⟩) = some true := by kernel_rfl
end Go.Proofs
