/- PlanAlone returns true for every input; the package-level variables that it reads start as the program's text lays them. -/
import Derived.Test.YtclpnkdjjhclnaaGreatDoorPartBZ
import Derived.Test.YtclpnkdjjhclnaaGreatDoorPartCA
import Derived.Test.YtclpnkdjjhclnaaGreatDoorCards
import Derived.Test.YtclpnkdjjhclnaaGreatDoorTie
namespace Go.Proofs.YtclpnkdjjhclnaaGreatDoor
open Go.ChangeShapes Go.WideShapes Go.ChangeAt Go.RowKit Go.Dec
set_option maxRecDepth 100000 in
theorem rH (os : Os) (started : os.Started) (H : Type) (enc : TypeId × Value -> H) :
  ReturnsInHanded {} Tryz.checked os 8 .any (fun w args => (Rows.planAloneSpec.pre enc Tryz.prog Tryz.f8 [] false w args ∧ laidMetH Tryz.prog jD w) ∧ sizedMet enc Tryz.prog Tryz.f8 (OpenSpec.ofChange Rows.planAloneSpec) false w args)
   (Rows.planAloneSpec.post enc Tryz.prog Tryz.f8 false true false false) := by
 refine fA (C := Tryz.checked) (X := fun w _ => laidMetH Tryz.prog jD w) (fun _ _ _ hh h => h.of_heap hh) Tryz.own started (by kernel_rfl) Tryz.func8
  (ChangeSpec.witness_shaped (enc := enc) (C := Tryz.checked) (os := os) (X := fun w _ => laidMetH Tryz.prog jD w) false (World.laidAll Tryz.prog os jD) #[.int .u8 0] 8 (World.laidAll_os _ _ _) (World.shaped_of_ZipB (by kernel_rfl) (by kernel_rfl)) (by kernel_rfl) (by kernel_rfl) (by kernel_rfl) (Hw os _)) ?_
 intro W base args ds gs before hval hW hsh hL
 exact yI (P := Tryz.prog) (fn := Tryz.f8) rfl Tryz.underlying4 (by kernel_rfl) (by kernel_rfl) (by kernel_rfl) Tryz.laidOut rfl
  (fun ds hds => by
   match ds, hds with
   | [d0], _ => exact ⟨rfl, rfl, rfl⟩)
  (Tryz.planAlone) (fun x hx => Tryz.planAlone_claim x hx) (Kv hsh hL) hval hW
theorem yJ : (Rows.planAloneRow.wf (OpenSpec.ofChange Rows.planAloneSpec)) = true := by kernel_rfl
theorem yK : (Tryz.f8.params.all (Tryz.prog.readableRec ·)) = true := by kernel_rfl
theorem yL : (namedTie Tryz.prog Rows.planAloneRow.named Rows.planAloneSpec.vars) = true := by kernel_rfl
theorem yM : ((Rows.planAloneRow.stops == [])) = true := by kernel_rfl
theorem yN : ((Rows.planAloneRow.knobs == [])) = true := by kernel_rfl
theorem wR : ((Rows.planAloneRow.inPlace == Tryz.prog.inPlace 8)) = true := by kernel_rfl
theorem wS : ((Rows.planAloneRow.unfollowed == Tryz.prog.unfollowed 8)) = true := by kernel_rfl
theorem wT : ((Rows.planAloneRow.recurses == Tryz.prog.recurses 8)) = true := by kernel_rfl
theorem wU : ((Rows.planAloneRow.named == Tryz.prog.varsNamed 8)) = true := by kernel_rfl
theorem wV : ((Rows.planAloneRow.maps == (Tryz.f8.params.toList ++ Rows.planAloneSpec.plain.varTypes Tryz.prog).any (Tryz.prog.mapsRec ·))) = true := by kernel_rfl
theorem wW : ((Rows.planAloneRow.ifaces == (Tryz.f8.params.toList ++ Rows.planAloneSpec.plain.varTypes Tryz.prog).any (Tryz.prog.ifacesRec ·))) = true := by kernel_rfl
theorem wX : ((Rows.planAloneRow.mapsOut == Tryz.prog.mapsAmong Tryz.f8.resultTypes.toList)) = true := by kernel_rfl
theorem wY : ((Rows.planAloneRow.loops == (Tryz.f8.params.toList ++ Rows.planAloneSpec.plain.varTypes Tryz.prog).any (Tryz.prog.loopsFrom ·))) = true := by kernel_rfl
theorem wZ : ((Rows.planAloneRow.wideKeys == (Tryz.f8.params.toList ++ Rows.planAloneSpec.plain.varTypes Tryz.prog ++ Tryz.f8.resultTypes.toList).any (Tryz.prog.wideKeysFrom ·))) = true := by kernel_rfl
theorem xA : (Rows.planAloneSpec.vars.all (Tryz.prog.varReadable ·)) = true := by kernel_rfl
theorem xB : (Tryz.f8.resultTypes.all (fun t => Tryz.prog.readableRec t && decide (t < Tryz.prog.types.size))) = true := by kernel_rfl
theorem xC : ((Rows.planAloneRow.ifacesOut == Tryz.f8.resultTypes.toList.any (Tryz.prog.ifacesRec ·))) = true := by kernel_rfl
theorem xD : ((Rows.planAloneRow.loopsOut == Tryz.f8.resultTypes.toList.any (Tryz.prog.loopsFrom ·))) = true := by kernel_rfl
theorem xE : ((Rows.planAloneRow.plainKeys == Tryz.prog.plainKeys)) = true := by kernel_rfl
theorem xG : (Rows.planAloneRow.shortTexts.isNone) = true := by kernel_rfl
theorem xH : ((Rows.planAloneRow.lifted == Tryz.prog.liftsFinal)) = true := by kernel_rfl
theorem xI : ((Tryz.prog.make == some Rows.planAloneRow.make)) = true := by kernel_rfl
theorem xJ : ((Rows.planAloneRow.pinned == Rows.planAloneRow.pinnedBy)) = true := by kernel_rfl
theorem xK : ((Rows.planAloneRow.veiled == (Tryz.f8.params.toList ++ Rows.planAloneSpec.plain.varTypes Tryz.prog ++ Tryz.f8.resultTypes.toList).any (Tryz.prog.veiledRec ·))) = true := by kernel_rfl
theorem xL : (Rows.planAloneRow.veiledFits Tryz.prog Tryz.f8.params.toList (Tryz.f8.params.toList ++ Rows.planAloneSpec.plain.varTypes Tryz.prog ++ Tryz.f8.resultTypes.toList)) = true := by kernel_rfl
theorem rJ : joinedFacts Tryz.prog 8 Tryz.f8 Rows.planAloneSpec Rows.planAloneRow = true := by
 unfold joinedFacts
 simp only [yJ, yK, yL, yM, yN, wR, wS, wT, wU, wV, wW, wX, wY, wZ, xA, xB, xC, xD, xE, xG, xH, xI, xJ, xK, xL, Kw, Ky, Kz, La, Hy, Hz, Bool.and_self, Bool.and_true, Bool.true_and]
 kernel_rfl
theorem oN : Tryz.prog.funcNamed "calender/calenderlaw19.PlanAlone" = some 8 := by kernel_rfl
theorem vG : Tryz.f8.isInstance Tryz.prog Rows.planAloneRow.origin Rows.planAloneRow.targs := of_decide_eq_true (by kernel_rfl)
theorem vH : Tryz.f8.isWrapper Tryz.prog Rows.planAloneRow.wrapper Rows.planAloneRow.mainSum := by
 unfold Func.isWrapper; first | (rw [if_pos (by decide +kernel)]; kernel_rfl) | (rw [if_neg (by decide +kernel)]; exact ⟨rfl, rfl⟩)
theorem xM : Rows.PlanAloneSaid :=
 OpenClaim.holds_of_wide 8 Tryz.f8 rfl rfl rfl rfl rfl rfl rfl ⟨rfl, rfl, rfl, rfl, rfl⟩ rfl rfl rfl rfl rfl oN Tryz.func8 rJ
  vG vH (fun os started H enc _ => rH os started H enc)
theorem yO : Rows.planAloneRow.wfByText (OpenSpec.ofChange Rows.planAloneSpec) = true := by kernel_rfl
theorem vI : false = Rows.planAloneRow.goesBy Tryz.prog := by kernel_rfl
theorem planAlone_holds : Rows.PlanAloneCardSaid :=
 Claim7.holds_tied_plain_at .later [] [.data, .data, .data, .data, .sentinel, .sentinel, .pinned] true (true, "93c6da8999a7b20ccdd91eaa22fbbc0e2554d0e65493f8c3855140f66eb5dec5") true
  xM (fun _ h => by cases h) yO (fun _ h => by cases h) planAlone_row_tie rfl ⟨rfl, rfl⟩ Gc rfl
  (fun f fn hf hfn => by
   obtain rfl : f = 8 := Option.some.inj (oN.symm.trans hf) |>.symm
   obtain rfl : fn = Tryz.f8 := (Option.some.inj (Tryz.func8.symm.trans hfn)).symm
   exact ⟨Cr, fun j t ht => by
    rw [Tryz.params8] at ht
    have hm : t ∈ [5] := by simpa using Array.mem_of_getElem? ht
    have hall : ([5].all fun u => !Tryz.prog.wantsStandIn u) = true := by kernel_rfl
    exact (show Tryz.prog.wantsStandIn t = false by simpa using List.all_eq_true.1 hall t hm)⟩)
  vI
end Go.Proofs.YtclpnkdjjhclnaaGreatDoor
