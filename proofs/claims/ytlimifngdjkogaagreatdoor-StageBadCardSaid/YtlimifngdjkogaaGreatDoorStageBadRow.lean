/- StageBad returns true for every input; the package-level variables that it reads start as the program's text lays them. -/
import Derived.Test.YtlimifngdjkogaaGreatDoorPartBZ
import Derived.Test.YtlimifngdjkogaaGreatDoorPartCA
import Derived.Test.YtlimifngdjkogaaGreatDoorCards
import Derived.Test.YtlimifngdjkogaaGreatDoorTie
namespace Go.Proofs.YtlimifngdjkogaaGreatDoor
open Go.ChangeShapes Go.WideShapes Go.ChangeAt Go.RowKit Go.Dec
set_option maxRecDepth 100000 in
theorem Em (os : Os) (started : os.Started) (H : Type) (enc : TypeId × Value -> H) :
  ReturnsInHanded {} Tryz.checked os 6 .any (fun w args => (Rows.stageBadSpec.pre enc Tryz.prog Tryz.f6 [] false w args ∧ laidMetH Tryz.prog pW w) ∧ sizedMet enc Tryz.prog Tryz.f6 (OpenSpec.ofChange Rows.stageBadSpec) false w args)
   (Rows.stageBadSpec.post enc Tryz.prog Tryz.f6 false true false false) := by
 refine jO (C := Tryz.checked) (X := fun w _ => laidMetH Tryz.prog pW w) (fun _ _ _ hh h => h.of_heap hh) Tryz.own started (by kernel_rfl) Tryz.func6
  (ChangeSpec.witness_shaped (enc := enc) (C := Tryz.checked) (os := os) (X := fun w _ => laidMetH Tryz.prog pW w) false (World.laidAll Tryz.prog os pW) #[.string ⟨#[]⟩, .slice none 0 0, .slice none 0 0, .int .i64 0] 8 (World.laidAll_os _ _ _) (World.shaped_of_ZipB (by kernel_rfl) (by kernel_rfl)) (by kernel_rfl) (by kernel_rfl) (by kernel_rfl) (zAn os _)) ?_
 intro W base args ds gs before hval hW hsh hL
 exact Nb (P := Tryz.prog) (fn := Tryz.f6) rfl Tryz.underlying4 (by kernel_rfl) (by kernel_rfl) (by kernel_rfl) Tryz.laidOut rfl
  (fun ds hds => by
   match ds, hds with
   | [d0, d1, d2, d3], _ => exact ⟨rfl, rfl, rfl⟩)
  (vY) (fun x hx => vZ x hx) (zDr hsh hL) hval hW
theorem Rz : (Rows.stageBadRow.wf (OpenSpec.ofChange Rows.stageBadSpec)) = true := by kernel_rfl
theorem Sb : (Tryz.f6.params.all (Tryz.prog.readableRec ·)) = true := by kernel_rfl
theorem Sc : (namedTie Tryz.prog Rows.stageBadRow.named Rows.stageBadSpec.vars) = true := by kernel_rfl
theorem Sg : ((Rows.stageBadRow.stops == [])) = true := by kernel_rfl
theorem Si : ((Rows.stageBadRow.knobs == [])) = true := by kernel_rfl
theorem Nc : ((Rows.stageBadRow.inPlace == Tryz.prog.inPlace 6)) = true := by kernel_rfl
theorem Nf : ((Rows.stageBadRow.unfollowed == Tryz.prog.unfollowed 6)) = true := by kernel_rfl
theorem Ng : ((Rows.stageBadRow.recurses == Tryz.prog.recurses 6)) = true := by kernel_rfl
theorem Nh : ((Rows.stageBadRow.named == Tryz.prog.varsNamed 6)) = true := by kernel_rfl
theorem Ni : ((Rows.stageBadRow.maps == (Tryz.f6.params.toList ++ Rows.stageBadSpec.plain.varTypes Tryz.prog).any (Tryz.prog.mapsRec ·))) = true := by kernel_rfl
theorem Nj : ((Rows.stageBadRow.ifaces == (Tryz.f6.params.toList ++ Rows.stageBadSpec.plain.varTypes Tryz.prog).any (Tryz.prog.ifacesRec ·))) = true := by kernel_rfl
theorem Nk : ((Rows.stageBadRow.mapsOut == Tryz.prog.mapsAmong Tryz.f6.resultTypes.toList)) = true := by kernel_rfl
theorem Nl : ((Rows.stageBadRow.loops == (Tryz.f6.params.toList ++ Rows.stageBadSpec.plain.varTypes Tryz.prog).any (Tryz.prog.loopsFrom ·))) = true := by kernel_rfl
theorem Nn : ((Rows.stageBadRow.wideKeys == (Tryz.f6.params.toList ++ Rows.stageBadSpec.plain.varTypes Tryz.prog ++ Tryz.f6.resultTypes.toList).any (Tryz.prog.wideKeysFrom ·))) = true := by kernel_rfl
theorem Np : (Rows.stageBadSpec.vars.all (Tryz.prog.varReadable ·)) = true := by kernel_rfl
theorem Nq : (Tryz.f6.resultTypes.all (fun t => Tryz.prog.readableRec t && decide (t < Tryz.prog.types.size))) = true := by kernel_rfl
theorem Nr : ((Rows.stageBadRow.ifacesOut == Tryz.f6.resultTypes.toList.any (Tryz.prog.ifacesRec ·))) = true := by kernel_rfl
theorem Ns : ((Rows.stageBadRow.loopsOut == Tryz.f6.resultTypes.toList.any (Tryz.prog.loopsFrom ·))) = true := by kernel_rfl
theorem Nt : ((Rows.stageBadRow.plainKeys == Tryz.prog.plainKeys)) = true := by kernel_rfl
theorem Nu : (Rows.stageBadRow.shortTexts.isNone) = true := by kernel_rfl
theorem Nv : ((Rows.stageBadRow.lifted == Tryz.prog.liftsFinal)) = true := by kernel_rfl
theorem Nw : ((Tryz.prog.make == some Rows.stageBadRow.make)) = true := by kernel_rfl
theorem Ny : ((Rows.stageBadRow.pinned == Rows.stageBadRow.pinnedBy)) = true := by kernel_rfl
theorem Nz : ((Rows.stageBadRow.veiled == (Tryz.f6.params.toList ++ Rows.stageBadSpec.plain.varTypes Tryz.prog ++ Tryz.f6.resultTypes.toList).any (Tryz.prog.veiledRec ·))) = true := by kernel_rfl
theorem Oa : (Rows.stageBadRow.veiledFits Tryz.prog Tryz.f6.params.toList (Tryz.f6.params.toList ++ Rows.stageBadSpec.plain.varTypes Tryz.prog ++ Tryz.f6.resultTypes.toList)) = true := by kernel_rfl
theorem En : joinedFacts Tryz.prog 6 Tryz.f6 Rows.stageBadSpec Rows.stageBadRow = true := by
 unfold joinedFacts
 simp only [Rz, Sb, Sc, Sg, Si, Nc, Nf, Ng, Nh, Ni, Nj, Nk, Nl, Nn, Np, Nq, Nr, Ns, Nt, Nu, Nv, Nw, Ny, Nz, Oa, zDs, zDt, zDu, zDv, zAo, zAp, Bool.and_self, Bool.and_true, Bool.true_and]
 kernel_rfl
theorem Br : Tryz.prog.funcNamed "calender/calenderlaw16.StageBad" = some 6 := by kernel_rfl
theorem Lg : Tryz.f6.isInstance Tryz.prog Rows.stageBadRow.origin Rows.stageBadRow.targs := of_decide_eq_true (by kernel_rfl)
theorem Lh : Tryz.f6.isWrapper Tryz.prog Rows.stageBadRow.wrapper Rows.stageBadRow.mainSum := by
 unfold Func.isWrapper; first | (rw [if_pos (by decide +kernel)]; kernel_rfl) | (rw [if_neg (by decide +kernel)]; exact ⟨rfl, rfl⟩)
theorem Oc : Rows.StageBadSaid :=
 OpenClaim.holds_of_wide 6 Tryz.f6 rfl rfl rfl rfl rfl rfl rfl ⟨rfl, rfl, rfl, rfl, rfl⟩ rfl rfl rfl rfl rfl Br Tryz.func6 En
  Lg Lh (fun os started H enc _ => Em os started H enc)
theorem Sj : Rows.stageBadRow.wfByText (OpenSpec.ofChange Rows.stageBadSpec) = true := by kernel_rfl
theorem Li : false = Rows.stageBadRow.goesBy Tryz.prog := by kernel_rfl
theorem stageBad_holds : Rows.StageBadCardSaid :=
 Claim7.holds_tied_plain_at .later [] [.data, .data, .data, .data, .sentinel, .sentinel, .pinned] true (true, "2b9ba0ec6f1f31d13e78345df58a303cf8950f8b4eed92e14442ffad7fe115d6") true
  Oc (fun _ h => by cases h) Sj (fun _ h => by cases h) stageBad_row_tie rfl ⟨rfl, rfl⟩ Yq rfl
  (fun f fn hf hfn => by
   obtain rfl : f = 6 := Option.some.inj (Br.symm.trans hf) |>.symm
   obtain rfl : fn = Tryz.f6 := (Option.some.inj (Tryz.func6.symm.trans hfn)).symm
   exact ⟨Uv, fun j t ht => by
    rw [Tryz.params6] at ht
    have hm : t ∈ [9, 44, 47, 3] := by simpa using Array.mem_of_getElem? ht
    have hall : ([9, 44, 47, 3].all fun u => !Tryz.prog.wantsStandIn u) = true := by kernel_rfl
    exact (show Tryz.prog.wantsStandIn t = false by simpa using List.all_eq_true.1 hall t hm)⟩)
  Li
end Go.Proofs.YtlimifngdjkogaaGreatDoor
