/- Part of a proof over this seat: a library of my own, and what it says of this seat. No statement is proved here. -/
import Derived.Test.YtclpnkdjjhclnaaGreatDoorPartBW
namespace Go.Proofs
open Go.Ce
theorem Tryz.pa8a : mG Tryz.Ep Tryz.f8.ntmps 0 5 4000 (codeOf Tryz.f8) (eU 0 [.md .u8 9 8] .nil) ⟨.nil, 0⟩ = some (Tryz.tm8, Tryz.hp8) := by kernel_rfl
end Go.Proofs
