/- PipeQuoted returns true for every input; the package-level variables that it reads start as the program's text lays them. -/
import Derived.Test.YtfpipcafiocdoaaGreatDoorPartBP
import Derived.Test.YtfpipcafiocdoaaGreatDoorPartBO
import Derived.Test.YtfpipcafiocdoaaGreatDoorPartBR
import Derived.Test.YtfpipcafiocdoaaGreatDoorPartBT
import Derived.Test.YtfpipcafiocdoaaGreatDoorCards
import Derived.Test.YtfpipcafiocdoaaGreatDoorTie
namespace Go.Proofs.YtfpipcafiocdoaaGreatDoor
open Go.ChangeShapes Go.WideShapes Go.ChangeAt Go.RowKit Go.Dec
set_option maxRecDepth 100000 in
theorem Dl (os : Os) (started : os.Started) (H : Type) (enc : TypeId × Value -> H) :
  ReturnsInHanded {} Tryz.checked os 5 .any (fun w args => (Rows.pipeQuotedSpec.pre enc Tryz.prog Tryz.f5 [] false w args ∧ laidMetH Tryz.prog rF w) ∧ sizedMet enc Tryz.prog Tryz.f5 (OpenSpec.ofChange Rows.pipeQuotedSpec) false w args)
   (Rows.pipeQuotedSpec.post enc Tryz.prog Tryz.f5 false true false false) := by
 refine lC (C := Tryz.checked) (X := fun w _ => laidMetH Tryz.prog rF w) (fun _ _ _ hh h => h.of_heap hh) Tryz.own started (by kernel_rfl) Tryz.func5
  (ChangeSpec.witness_shaped (enc := enc) (C := Tryz.checked) (os := os) (X := fun w _ => laidMetH Tryz.prog rF w) false (World.laidAll Tryz.prog os rF) #[.string ⟨#[]⟩, .string ⟨#[]⟩] 8 (World.laidAll_os _ _ _) (World.shaped_of_ZipB (by kernel_rfl) (by kernel_rfl)) (by kernel_rfl) (by kernel_rfl) (by kernel_rfl) (zDl os _)) ?_
 intro W base args ds gs before hval hW hsh hL
 exact Qw (P := Tryz.prog) (fn := Tryz.f5) rfl Tryz.underlying4 (by kernel_rfl) (by kernel_rfl) (by kernel_rfl) Tryz.laidOut rfl
  (fun ds hds => by
   match ds, hds with
   | [d0, d1], _ => exact ⟨rfl, rfl, rfl⟩)
  (vW 2000) (fun x hx => vJ x) (zHf hsh hL) hval hW
theorem Km : Rows.PipeQuotedSaid :=
 OpenClaim.holds_of_wide 5 Tryz.f5 rfl rfl rfl rfl rfl rfl rfl ⟨rfl, rfl, rfl, rfl, rfl⟩ rfl rfl rfl rfl rfl zF Tryz.func5 Dm
  Gw Gx (fun os started H enc _ => Dl os started H enc)
theorem Pn : Rows.pipeQuotedRow.wfByText (OpenSpec.ofChange Rows.pipeQuotedSpec) = true := by kernel_rfl
theorem Gy : false = Rows.pipeQuotedRow.goesBy Tryz.prog := zBj zBk _
theorem pipeQuoted_holds : Rows.PipeQuotedCardSaid :=
 Claim7.holds_tied_plain_at .later [] [.data, .data, .data, .data, .sentinel, .sentinel, .pinned] true (true, "b6718b1d7f83dc98d55f6238e8b758fde93d3956ddfe19c1fc1c1b3cce4cbd11") true
  Km (fun _ h => by cases h) Pn (fun _ h => by cases h) pipeQuoted_row_tie rfl ⟨rfl, rfl⟩ zBl rfl
  (fun f fn hf hfn => by
   obtain rfl : f = 5 := Option.some.inj (zF.symm.trans hf) |>.symm
   obtain rfl : fn = Tryz.f5 := (Option.some.inj (Tryz.func5.symm.trans hfn)).symm
   exact ⟨Xw, fun j t ht => by
    rw [Tryz.params5] at ht
    have hm : t ∈ [9, 9] := by simpa using Array.mem_of_getElem? ht
    have hall : ([9, 9].all fun u => !Tryz.prog.wantsStandIn u) = true := by kernel_rfl
    exact (show Tryz.prog.wantsStandIn t = false by simpa using List.all_eq_true.1 hall t hm)⟩)
  Gy
end Go.Proofs.YtfpipcafiocdoaaGreatDoor
