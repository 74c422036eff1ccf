/- Part of a proof over this seat: a library of my own, and what it says of this seat. No statement is proved here. -/
import Derived.Test.YtclpnkdjjhclnaaGreatDoorPartBW
namespace Go.Proofs
open Go.Ce
theorem Tryz.pa8b : gL (Gb Tryz.Ep Tryz.f8 (run Tryz.Ep (4000 - 5) Tryz.f8.ntmps 0 .pl (vF 5 (codeOf Tryz.f8)) Tryz.tm8 Tryz.hp8)) = some true := by kernel_rfl
end Go.Proofs
