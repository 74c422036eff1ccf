/- Part of a proof over this seat: a library of my own, and what it says of this seat. No statement is proved here. -/
import Derived.Test.YtclpnkdjjhclnaaGreatDoorPartBR
namespace Go.Proofs
open Go.Ce
theorem Tryz.shm : bX (aP Tryz.E (run Tryz.E 4000) 0 21 [] ⟨.nil, 0⟩) = some (0, .bo true, []) := by kernel_rfl
noncomputable def Tryz.Ep1 : Env := Tryz.E.more 9 Tryz.parseG
theorem Tryz.Ep1_ok : aV Tryz.Ep1 := Tryz.E_ok.more Tryz.parseG_ok
noncomputable def Tryz.Ep : Env := Tryz.Ep1.more 21 (bW [] 0 (.bo true) [])
theorem Tryz.Ep_ok : aV Tryz.Ep := Tryz.Ep1_ok.more (dY Tryz.E_ok rfl Tryz.shm)
end Go.Proofs
