/- PipePrints returns true for every input; the package-level variables that it reads start as the program's text lays them. -/
import Derived.Test.YtclpnkdjjhclnaaGreatDoorPartBX
import Derived.Test.YtclpnkdjjhclnaaGreatDoorPartBY
import Derived.Test.YtclpnkdjjhclnaaGreatDoorCards
import Derived.Test.YtclpnkdjjhclnaaGreatDoorTie
namespace Go.Proofs.YtclpnkdjjhclnaaGreatDoor
open Go.ChangeShapes Go.WideShapes Go.ChangeAt Go.RowKit Go.Dec
set_option maxRecDepth 100000 in
theorem Cu (os : Os) (started : os.Started) (H : Type) (enc : TypeId × Value -> H) :
  ReturnsInHanded {} Tryz.checked os 4 .any (fun w args => (Rows.pipePrintsSpec.pre enc Tryz.prog Tryz.f4 [] false w args ∧ laidMetH Tryz.prog rF w) ∧ sizedMet enc Tryz.prog Tryz.f4 (OpenSpec.ofChange Rows.pipePrintsSpec) false w args)
   (Rows.pipePrintsSpec.post enc Tryz.prog Tryz.f4 false true false false) := by
 refine kV (C := Tryz.checked) (X := fun w _ => laidMetH Tryz.prog rF w) (fun _ _ _ hh h => h.of_heap hh) Tryz.own started (by kernel_rfl) Tryz.func4
  (ChangeSpec.witness_shaped (enc := enc) (C := Tryz.checked) (os := os) (X := fun w _ => laidMetH Tryz.prog rF w) false (World.laidAll Tryz.prog os rF) #[.slice none 0 0, .string ⟨#[]⟩] 8 (World.laidAll_os _ _ _) (World.shaped_of_ZipB (by kernel_rfl) (by kernel_rfl)) (by kernel_rfl) (by kernel_rfl) (by kernel_rfl) (zBt os _)) ?_
 intro W base args ds gs before hval hW hsh hL
 exact Pq (P := Tryz.prog) (fn := Tryz.f4) rfl Tryz.underlying4 (by kernel_rfl) (by kernel_rfl) (by kernel_rfl) Tryz.laidOut rfl
  (fun ds hds => by
   match ds, hds with
   | [d0, d1], _ => exact ⟨rfl, rfl, rfl⟩)
  (vN) (fun x hx => vO x hx) (zFe hsh hL) hval hW
theorem Nw : (Rows.pipePrintsRow.wf (OpenSpec.ofChange Rows.pipePrintsSpec)) = true := by kernel_rfl
theorem Ny : (Tryz.f4.params.all (Tryz.prog.readableRec ·)) = true := by kernel_rfl
theorem Nz : (namedTie Tryz.prog Rows.pipePrintsRow.named Rows.pipePrintsSpec.vars) = true := by kernel_rfl
theorem Oa : ((Rows.pipePrintsRow.stops == [])) = true := by kernel_rfl
theorem Oc : ((Rows.pipePrintsRow.knobs == [])) = true := by kernel_rfl
theorem Jb : ((Rows.pipePrintsRow.inPlace == Tryz.prog.inPlace 4)) = true := by kernel_rfl
theorem Jc : ((Rows.pipePrintsRow.unfollowed == Tryz.prog.unfollowed 4)) = true := by kernel_rfl
theorem Jd : ((Rows.pipePrintsRow.recurses == Tryz.prog.recurses 4)) = true := by kernel_rfl
theorem Je : ((Rows.pipePrintsRow.named == Tryz.prog.varsNamed 4)) = true := by kernel_rfl
theorem Jf : ((Rows.pipePrintsRow.maps == (Tryz.f4.params.toList ++ Rows.pipePrintsSpec.plain.varTypes Tryz.prog).any (Tryz.prog.mapsRec ·))) = true := by kernel_rfl
theorem Jg : ((Rows.pipePrintsRow.ifaces == (Tryz.f4.params.toList ++ Rows.pipePrintsSpec.plain.varTypes Tryz.prog).any (Tryz.prog.ifacesRec ·))) = true := by kernel_rfl
theorem Jh : ((Rows.pipePrintsRow.mapsOut == Tryz.prog.mapsAmong Tryz.f4.resultTypes.toList)) = true := by kernel_rfl
theorem Ji : ((Rows.pipePrintsRow.loops == (Tryz.f4.params.toList ++ Rows.pipePrintsSpec.plain.varTypes Tryz.prog).any (Tryz.prog.loopsFrom ·))) = true := by kernel_rfl
theorem Jj : ((Rows.pipePrintsRow.wideKeys == (Tryz.f4.params.toList ++ Rows.pipePrintsSpec.plain.varTypes Tryz.prog ++ Tryz.f4.resultTypes.toList).any (Tryz.prog.wideKeysFrom ·))) = true := by kernel_rfl
theorem Jk : (Rows.pipePrintsSpec.vars.all (Tryz.prog.varReadable ·)) = true := by kernel_rfl
theorem Jl : (Tryz.f4.resultTypes.all (fun t => Tryz.prog.readableRec t && decide (t < Tryz.prog.types.size))) = true := by kernel_rfl
theorem Jm : ((Rows.pipePrintsRow.ifacesOut == Tryz.f4.resultTypes.toList.any (Tryz.prog.ifacesRec ·))) = true := by kernel_rfl
theorem Jo : ((Rows.pipePrintsRow.loopsOut == Tryz.f4.resultTypes.toList.any (Tryz.prog.loopsFrom ·))) = true := by kernel_rfl
theorem Jp : ((Rows.pipePrintsRow.plainKeys == Tryz.prog.plainKeys)) = true := by kernel_rfl
theorem Jq : (Rows.pipePrintsRow.shortTexts.isNone) = true := by kernel_rfl
theorem Jr : ((Rows.pipePrintsRow.lifted == Tryz.prog.liftsFinal)) = true := by kernel_rfl
theorem Js : ((Tryz.prog.make == some Rows.pipePrintsRow.make)) = true := by kernel_rfl
theorem Jt : ((Rows.pipePrintsRow.pinned == Rows.pipePrintsRow.pinnedBy)) = true := by kernel_rfl
theorem Ju : ((Rows.pipePrintsRow.veiled == (Tryz.f4.params.toList ++ Rows.pipePrintsSpec.plain.varTypes Tryz.prog ++ Tryz.f4.resultTypes.toList).any (Tryz.prog.veiledRec ·))) = true := by kernel_rfl
theorem Jv : (Rows.pipePrintsRow.veiledFits Tryz.prog Tryz.f4.params.toList (Tryz.f4.params.toList ++ Rows.pipePrintsSpec.plain.varTypes Tryz.prog ++ Tryz.f4.resultTypes.toList)) = true := by kernel_rfl
theorem Cv : joinedFacts Tryz.prog 4 Tryz.f4 Rows.pipePrintsSpec Rows.pipePrintsRow = true := by
 unfold joinedFacts
 simp only [Nw, Ny, Nz, Oa, Oc, Jb, Jc, Jd, Je, Jf, Jg, Jh, Ji, Jj, Jk, Jl, Jm, Jo, Jp, Jq, Jr, Js, Jt, Ju, Jv, zFf, zFg, zFh, zFi, zBu, zBv, Bool.and_self, Bool.and_true, Bool.true_and]
 kernel_rfl
theorem zB : Tryz.prog.funcNamed "calender/calenderlaw21.PipePrints" = some 4 := by kernel_rfl
theorem Fq : Tryz.f4.isInstance Tryz.prog Rows.pipePrintsRow.origin Rows.pipePrintsRow.targs := of_decide_eq_true (by kernel_rfl)
theorem Fv : Tryz.f4.isWrapper Tryz.prog Rows.pipePrintsRow.wrapper Rows.pipePrintsRow.mainSum := by
 unfold Func.isWrapper; first | (rw [if_pos (by decide +kernel)]; kernel_rfl) | (rw [if_neg (by decide +kernel)]; exact ⟨rfl, rfl⟩)
theorem Jw : Rows.PipePrintsSaid :=
 OpenClaim.holds_of_wide 4 Tryz.f4 rfl rfl rfl rfl rfl rfl rfl ⟨rfl, rfl, rfl, rfl, rfl⟩ rfl rfl rfl rfl rfl zB Tryz.func4 Cv
  Fq Fv (fun os started H enc _ => Cu os started H enc)
theorem Od : Rows.pipePrintsRow.wfByText (OpenSpec.ofChange Rows.pipePrintsSpec) = true := by kernel_rfl
theorem Fz : false = Rows.pipePrintsRow.goesBy Tryz.prog := by kernel_rfl
theorem pipePrints_holds : Rows.PipePrintsCardSaid :=
 Claim7.holds_tied_plain_at .later [] [.data, .data, .data, .data, .sentinel, .sentinel, .pinned] true (true, "93c6da8999a7b20ccdd91eaa22fbbc0e2554d0e65493f8c3855140f66eb5dec5") true
  Jw (fun _ h => by cases h) Od (fun _ h => by cases h) pipePrints_row_tie rfl ⟨rfl, rfl⟩ Zr rfl
  (fun f fn hf hfn => by
   obtain rfl : f = 4 := Option.some.inj (zB.symm.trans hf) |>.symm
   obtain rfl : fn = Tryz.f4 := (Option.some.inj (Tryz.func4.symm.trans hfn)).symm
   exact ⟨Vx, fun j t ht => by
    rw [Tryz.params4] at ht
    have hm : t ∈ [33, 9] := by simpa using Array.mem_of_getElem? ht
    have hall : ([33, 9].all fun u => !Tryz.prog.wantsStandIn u) = true := by kernel_rfl
    exact (show Tryz.prog.wantsStandIn t = false by simpa using List.all_eq_true.1 hall t hm)⟩)
  Fz
end Go.Proofs.YtclpnkdjjhclnaaGreatDoor
