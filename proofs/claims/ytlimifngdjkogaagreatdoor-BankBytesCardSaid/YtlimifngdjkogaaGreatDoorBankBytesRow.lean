/- BankBytes returns true for every input; the package-level variables that it reads start as the program's text lays them. -/
import Derived.Test.YtlimifngdjkogaaGreatDoorPartBV
import Derived.Test.YtlimifngdjkogaaGreatDoorPartBW
import Derived.Test.YtlimifngdjkogaaGreatDoorPartBX
import Derived.Test.YtlimifngdjkogaaGreatDoorCards
import Derived.Test.YtlimifngdjkogaaGreatDoorTie
namespace Go.Proofs.YtlimifngdjkogaaGreatDoor
open Go.ChangeShapes Go.WideShapes Go.ChangeAt Go.RowKit Go.Dec
set_option maxRecDepth 100000 in
theorem Bv (os : Os) (started : os.Started) (H : Type) (enc : TypeId × Value -> H) :
  ReturnsInHanded {} Tryz.checked os 3 .any (fun w args => (Rows.bankBytesSpec.pre enc Tryz.prog Tryz.f3 [] false w args ∧ laidMetH Tryz.prog qH w) ∧ sizedMet enc Tryz.prog Tryz.f3 (OpenSpec.ofChange Rows.bankBytesSpec) false w args)
   (Rows.bankBytesSpec.post enc Tryz.prog Tryz.f3 false true false false) := by
 refine kJ (C := Tryz.checked) (X := fun w _ => laidMetH Tryz.prog qH w) (fun _ _ _ hh h => h.of_heap hh) Tryz.own started (by kernel_rfl) Tryz.func3
  (ChangeSpec.witness_shaped (enc := enc) (C := Tryz.checked) (os := os) (X := fun w _ => laidMetH Tryz.prog qH w) false (World.laidAll Tryz.prog os qH) #[.slice none 0 0] 8 (World.laidAll_os _ _ _) (World.shaped_of_ZipB (by kernel_rfl) (by kernel_rfl)) (by kernel_rfl) (by kernel_rfl) (by kernel_rfl) (zAp os _)) ?_
 intro W base args ds gs before hval hW hsh hL
 exact Nn (P := Tryz.prog) (fn := Tryz.f3) rfl Tryz.underlying4 (by kernel_rfl) (by kernel_rfl) (by kernel_rfl) Tryz.laidOut rfl
  (fun ds hds => by
   match ds, hds with
   | [d0], _ => exact ⟨rfl, rfl, rfl⟩)
  (vT 2000) (fun x hx => uV x) (zEj hsh hL) hval hW
theorem Np : (Rows.bankBytesRow.wf (OpenSpec.ofChange Rows.bankBytesSpec)) = true := by kernel_rfl
theorem Nq : (Tryz.f3.params.all (Tryz.prog.readableRec ·)) = true := by kernel_rfl
theorem Nr : (namedTie Tryz.prog Rows.bankBytesRow.named Rows.bankBytesSpec.vars) = true := by kernel_rfl
theorem Ns : ((Rows.bankBytesRow.stops == [])) = true := by kernel_rfl
theorem Nt : ((Rows.bankBytesRow.knobs == [])) = true := by kernel_rfl
theorem Kz : ((Rows.bankBytesRow.inPlace == Tryz.prog.inPlace 3)) = true := by kernel_rfl
theorem La : ((Rows.bankBytesRow.unfollowed == Tryz.prog.unfollowed 3)) = true := by kernel_rfl
theorem Lb : ((Rows.bankBytesRow.recurses == Tryz.prog.recurses 3)) = true := by kernel_rfl
theorem Lc : ((Rows.bankBytesRow.named == Tryz.prog.varsNamed 3)) = true := by kernel_rfl
theorem Ld : ((Rows.bankBytesRow.maps == (Tryz.f3.params.toList ++ Rows.bankBytesSpec.plain.varTypes Tryz.prog).any (Tryz.prog.mapsRec ·))) = true := by kernel_rfl
theorem Lf : ((Rows.bankBytesRow.ifaces == (Tryz.f3.params.toList ++ Rows.bankBytesSpec.plain.varTypes Tryz.prog).any (Tryz.prog.ifacesRec ·))) = true := by kernel_rfl
theorem Lg : ((Rows.bankBytesRow.mapsOut == Tryz.prog.mapsAmong Tryz.f3.resultTypes.toList)) = true := by kernel_rfl
theorem Lh : ((Rows.bankBytesRow.loops == (Tryz.f3.params.toList ++ Rows.bankBytesSpec.plain.varTypes Tryz.prog).any (Tryz.prog.loopsFrom ·))) = true := by kernel_rfl
theorem Li : ((Rows.bankBytesRow.wideKeys == (Tryz.f3.params.toList ++ Rows.bankBytesSpec.plain.varTypes Tryz.prog ++ Tryz.f3.resultTypes.toList).any (Tryz.prog.wideKeysFrom ·))) = true := by kernel_rfl
theorem Lj : (Rows.bankBytesSpec.vars.all (Tryz.prog.varReadable ·)) = true := by kernel_rfl
theorem Ll : (Tryz.f3.resultTypes.all (fun t => Tryz.prog.readableRec t && decide (t < Tryz.prog.types.size))) = true := by kernel_rfl
theorem Lm : ((Rows.bankBytesRow.ifacesOut == Tryz.f3.resultTypes.toList.any (Tryz.prog.ifacesRec ·))) = true := by kernel_rfl
theorem Lp : ((Rows.bankBytesRow.loopsOut == Tryz.f3.resultTypes.toList.any (Tryz.prog.loopsFrom ·))) = true := by kernel_rfl
theorem Lr : ((Rows.bankBytesRow.plainKeys == Tryz.prog.plainKeys)) = true := by kernel_rfl
theorem Ls : (Rows.bankBytesRow.shortTexts.isNone) = true := by kernel_rfl
theorem Lu : ((Rows.bankBytesRow.lifted == Tryz.prog.liftsFinal)) = true := by kernel_rfl
theorem Lv : ((Tryz.prog.make == some Rows.bankBytesRow.make)) = true := by kernel_rfl
theorem Lx : ((Rows.bankBytesRow.pinned == Rows.bankBytesRow.pinnedBy)) = true := by kernel_rfl
theorem Ma : ((Rows.bankBytesRow.veiled == (Tryz.f3.params.toList ++ Rows.bankBytesSpec.plain.varTypes Tryz.prog ++ Tryz.f3.resultTypes.toList).any (Tryz.prog.veiledRec ·))) = true := by kernel_rfl
theorem Mc : (Rows.bankBytesRow.veiledFits Tryz.prog Tryz.f3.params.toList (Tryz.f3.params.toList ++ Rows.bankBytesSpec.plain.varTypes Tryz.prog ++ Tryz.f3.resultTypes.toList)) = true := by kernel_rfl
theorem Bw : joinedFacts Tryz.prog 3 Tryz.f3 Rows.bankBytesSpec Rows.bankBytesRow = true := by
 unfold joinedFacts
 simp only [Np, Nq, Nr, Ns, Nt, Kz, La, Lb, Lc, Ld, Lf, Lg, Lh, Li, Lj, Ll, Lm, Lp, Lr, Ls, Lu, Lv, Lx, Ma, Mc, zEk, zEl, zEm, zEn, zAq, zAr, Bool.and_self, Bool.and_true, Bool.true_and]
 kernel_rfl
theorem yH : Tryz.prog.funcNamed "calender/calenderlaw15.BankBytes" = some 3 := by kernel_rfl
theorem Ho : Tryz.f3.isInstance Tryz.prog Rows.bankBytesRow.origin Rows.bankBytesRow.targs := of_decide_eq_true (by kernel_rfl)
theorem Hq : Tryz.f3.isWrapper Tryz.prog Rows.bankBytesRow.wrapper Rows.bankBytesRow.mainSum := by
 unfold Func.isWrapper; first | (rw [if_pos (by decide +kernel)]; kernel_rfl) | (rw [if_neg (by decide +kernel)]; exact ⟨rfl, rfl⟩)
theorem Me : Rows.BankBytesSaid :=
 OpenClaim.holds_of_wide 3 Tryz.f3 rfl rfl rfl rfl rfl rfl rfl ⟨rfl, rfl, rfl, rfl, rfl⟩ rfl rfl rfl rfl rfl yH Tryz.func3 Bw
  Ho Hq (fun os started H enc _ => Bv os started H enc)
theorem Nu : Rows.bankBytesRow.wfByText (OpenSpec.ofChange Rows.bankBytesSpec) = true := by kernel_rfl
theorem Hr : false = Rows.bankBytesRow.goesBy Tryz.prog := by kernel_rfl
theorem bankBytes_holds : Rows.BankBytesCardSaid :=
 Claim7.holds_tied_plain_at .later [] [.data, .data, .data, .data, .sentinel, .sentinel, .pinned] true (true, "2b9ba0ec6f1f31d13e78345df58a303cf8950f8b4eed92e14442ffad7fe115d6") true
  Me (fun _ h => by cases h) Nu (fun _ h => by cases h) bankBytes_row_tie rfl ⟨rfl, rfl⟩ Yt rfl
  (fun f fn hf hfn => by
   obtain rfl : f = 3 := Option.some.inj (yH.symm.trans hf) |>.symm
   obtain rfl : fn = Tryz.f3 := (Option.some.inj (Tryz.func3.symm.trans hfn)).symm
   exact ⟨Uy, fun j t ht => by
    rw [Tryz.params3] at ht
    have hm : t ∈ [22] := by simpa using Array.mem_of_getElem? ht
    have hall : ([22].all fun u => !Tryz.prog.wantsStandIn u) = true := by kernel_rfl
    exact (show Tryz.prog.wantsStandIn t = false by simpa using List.all_eq_true.1 hall t hm)⟩)
  Hr
end Go.Proofs.YtlimifngdjkogaaGreatDoor
