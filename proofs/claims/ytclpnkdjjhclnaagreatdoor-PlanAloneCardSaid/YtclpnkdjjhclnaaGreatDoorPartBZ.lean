/- Part of a proof over this seat: a library of my own, and what it says of this seat. No statement is proved here. -/
import Derived.Test.YtclpnkdjjhclnaaGreatDoorPartBT
import Derived.Test.YtclpnkdjjhclnaaGreatDoorPartBU
import Derived.Test.YtclpnkdjjhclnaaGreatDoorPartBV
import Derived.Test.YtclpnkdjjhclnaaGreatDoorPartBX
import Derived.Test.YtclpnkdjjhclnaaGreatDoorPartBY
namespace Go.Proofs
open Go.Ce
theorem Tryz.pa8 : gL (aP Tryz.Ep (run Tryz.Ep 4000) 0 8 [.md .u8 9 8] ⟨.nil, 0⟩) = some true :=
 Jw (fn := Tryz.f8) (d := 5) (by kernel_rfl) (by kernel_rfl) (by kernel_rfl) (by decide) Tryz.pa8a Tryz.pa8b
theorem Tryz.planAlone : Go.Dec.Pure Tryz.prog 8 [.int .u8] [.bool] (fun (x : Int) => if 0 <= x ∧ x < 65536 then some true else none) := by
 refine Ga (m := 9) Tryz.Ep_ok (by decide) (by kernel_rfl) fun r hr => ⟨4000, ?_⟩
 have h : r = 0 ∨ r = 1 ∨ r = 2 ∨ r = 3 ∨ r = 4 ∨ r = 5 ∨ r = 6 ∨ r = 7 ∨ r = 8 := by omega
 rcases h with rfl | rfl | rfl | rfl | rfl | rfl | rfl | rfl | rfl
 ·exact Tryz.pa0
 ·exact Tryz.pa1
 ·exact Tryz.pa2
 ·exact Tryz.pa3
 ·exact Tryz.pa4
 ·exact Tryz.pa5
 ·exact Tryz.pa6
 ·exact Tryz.pa7
 ·exact Tryz.pa8
theorem Tryz.planAlone_claim (x : Int) (h : IntKind.u8.min <= x ∧ x <= IntKind.u8.max) : (fun (x : Int) => if 0 <= x ∧ x < 65536 then some true else none) x = some true := by
 have h1 : IntKind.u8.min = 0 := rfl
 have h2 : IntKind.u8.max = 255 := rfl
 rw [h1, h2] at h
 show (if 0 <= x ∧ x < 65536 then some true else none) = some true
 rw [if_pos ⟨h.1, by omega⟩]
end Go.Proofs
