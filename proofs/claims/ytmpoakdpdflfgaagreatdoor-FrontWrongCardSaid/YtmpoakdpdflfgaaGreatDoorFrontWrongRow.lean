/- FrontWrong returns true for every input; the package-level variables that it reads start as the program's text lays them. -/
import Derived.Test.YtmpoakdpdflfgaaGreatDoorPartBO
import Derived.Test.YtmpoakdpdflfgaaGreatDoorPartBP
import Derived.Test.YtmpoakdpdflfgaaGreatDoorPartBQ
import Derived.Test.YtmpoakdpdflfgaaGreatDoorPartBS
import Derived.Test.YtmpoakdpdflfgaaGreatDoorCards
import Derived.Test.YtmpoakdpdflfgaaGreatDoorTie
namespace Go.Proofs.YtmpoakdpdflfgaaGreatDoor
open Go.ChangeShapes Go.WideShapes Go.ChangeAt Go.RowKit Go.Dec
set_option maxRecDepth 100000 in
theorem Ga (os : Os) (started : os.Started) (H : Type) (enc : TypeId × Value -> H) :
  ReturnsInHanded {} Tryz.checked os 7 .any (fun w args => (Rows.frontWrongSpec.pre enc Tryz.prog Tryz.f7 [] false w args ∧ laidMetH Tryz.prog sU w) ∧ sizedMet enc Tryz.prog Tryz.f7 (OpenSpec.ofChange Rows.frontWrongSpec) false w args)
   (Rows.frontWrongSpec.post enc Tryz.prog Tryz.f7 false true false false) := by
 refine lH (C := Tryz.checked) (X := fun w _ => laidMetH Tryz.prog sU w) (fun _ _ _ hh h => h.of_heap hh) Tryz.own started (by kernel_rfl) Tryz.func7
  (ChangeSpec.witness_shaped (enc := enc) (C := Tryz.checked) (os := os) (X := fun w _ => laidMetH Tryz.prog sU w) false (World.laidAll Tryz.prog os sU) #[.string ⟨#[]⟩, .string ⟨#[]⟩, .bool false] 8 (World.laidAll_os _ _ _) (World.shaped_of_ZipB (by kernel_rfl) (by kernel_rfl)) (by kernel_rfl) (by kernel_rfl) (by kernel_rfl) (zFo os _)) ?_
 intro W base args ds gs before hval hW hsh hL
 exact Ti (P := Tryz.prog) (fn := Tryz.f7) rfl Tryz.underlying4 (by kernel_rfl) (by kernel_rfl) (by kernel_rfl) Tryz.laidOut rfl
  (fun ds hds => by
   match ds, hds with
   | [d0, d1, d2], _ => exact ⟨rfl, rfl, rfl⟩)
  (xK 2000) (fun x hx => wU x) (zJj hsh hL) hval hW
theorem Nb : Rows.FrontWrongSaid :=
 OpenClaim.holds_of_wide 7 Tryz.f7 rfl rfl rfl rfl rfl rfl rfl ⟨rfl, rfl, rfl, rfl, rfl⟩ rfl rfl rfl rfl rfl Bf Tryz.func7 Gb
  Jl Jm (fun os started H enc _ => Ga os started H enc)
theorem Rm : Rows.frontWrongRow.wfByText (OpenSpec.ofChange Rows.frontWrongSpec) = true := by kernel_rfl
theorem Jo : false = Rows.frontWrongRow.goesBy Tryz.prog := zDq zDr _
theorem frontWrong_holds : Rows.FrontWrongCardSaid :=
 Claim7.holds_tied_plain_at .later [] [.data, .data, .data, .data, .sentinel, .sentinel, .pinned] true (true, "837043a0ddbbe5fe10dfa30f4f6ed5645f03ed4b8c9f3f1d6823e5b0b65f947a") true
  Nb (fun _ h => by cases h) Rm (fun _ h => by cases h) frontWrong_row_tie rfl ⟨rfl, rfl⟩ zDs rfl
  (fun f fn hf hfn => by
   obtain rfl : f = 7 := Option.some.inj (Bf.symm.trans hf) |>.symm
   obtain rfl : fn = Tryz.f7 := (Option.some.inj (Tryz.func7.symm.trans hfn)).symm
   exact ⟨zAa, fun j t ht => by
    rw [Tryz.params7] at ht
    have hm : t ∈ [9, 9, 4] := by simpa using Array.mem_of_getElem? ht
    have hall : ([9, 9, 4].all fun u => !Tryz.prog.wantsStandIn u) = true := by kernel_rfl
    exact (show Tryz.prog.wantsStandIn t = false by simpa using List.all_eq_true.1 hall t hm)⟩)
  Jo
end Go.Proofs.YtmpoakdpdflfgaaGreatDoor
