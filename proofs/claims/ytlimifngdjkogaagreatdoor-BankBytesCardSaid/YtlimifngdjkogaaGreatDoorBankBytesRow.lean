/- BankBytes returns true for every input; the package-level variables that it reads start as the program's text lays them. -/
import Derived.Test.YtlimifngdjkogaaGreatDoorPartBV
import Derived.Test.YtlimifngdjkogaaGreatDoorPartBW
import Derived.Test.YtlimifngdjkogaaGreatDoorPartBX
import Derived.Test.YtlimifngdjkogaaGreatDoorCards
import Derived.Test.YtlimifngdjkogaaGreatDoorTie
namespace Go.Proofs.YtlimifngdjkogaaGreatDoor
open Go.ChangeShapes Go.WideShapes Go.ChangeAt Go.RowKit Go.Dec
set_option maxRecDepth 100000 in
theorem Bw (os : Os) (started : os.Started) (H : Type) (enc : TypeId × Value -> H) :
  ReturnsInHanded {} aA.checked os 3 .any (fun w args => (Rows.bI.pre enc aA.prog aA.f3 [] false w args ∧ laidMetH aA.prog qI w) ∧ sizedMet enc aA.prog aA.f3 (OpenSpec.ofChange Rows.bI) false w args)
   (Rows.bI.post enc aA.prog aA.f3 false true false false) := by
 refine kK (C := aA.checked) (X := fun w _ => laidMetH aA.prog qI w) (fun _ _ _ hh h => h.of_heap hh) aA.own started (by kernel_rfl) aA.func3
  (ChangeSpec.witness_shaped (enc := enc) (C := aA.checked) (os := os) (X := fun w _ => laidMetH aA.prog qI w) false (World.laidAll aA.prog os qI) #[.slice none 0 0] 8 (World.laidAll_os _ _ _) (World.shaped_of_ZipB (by kernel_rfl) (by kernel_rfl)) (by kernel_rfl) (by kernel_rfl) (by kernel_rfl) (zAq os _)) ?_
 intro W base args ds gs before hval hW hsh hL
 exact Np (P := aA.prog) (fn := aA.f3) rfl aA.underlying4 (by kernel_rfl) (by kernel_rfl) (by kernel_rfl) aA.laidOut rfl
  (fun ds hds => by
   match ds, hds with
   | [d0], _ => exact ⟨rfl, rfl, rfl⟩)
  (vU 2000) (fun x hx => uW x) (zEk hsh hL) hval hW
theorem Nq : (Rows.aK.wf (OpenSpec.ofChange Rows.bI)) = true := by kernel_rfl
theorem Nr : (aA.f3.params.all (aA.prog.readableRec ·)) = true := by kernel_rfl
theorem Ns : (namedTie aA.prog Rows.aK.named Rows.bI.vars) = true := by kernel_rfl
theorem Nt : ((Rows.aK.stops == [])) = true := by kernel_rfl
theorem Nu : ((Rows.aK.knobs == [])) = true := by kernel_rfl
theorem La : ((Rows.aK.inPlace == aA.prog.inPlace 3)) = true := by kernel_rfl
theorem Lb : ((Rows.aK.unfollowed == aA.prog.unfollowed 3)) = true := by kernel_rfl
theorem Lc : ((Rows.aK.recurses == aA.prog.recurses 3)) = true := by kernel_rfl
theorem Ld : ((Rows.aK.named == aA.prog.varsNamed 3)) = true := by kernel_rfl
theorem Lf : ((Rows.aK.maps == (aA.f3.params.toList ++ Rows.bI.plain.varTypes aA.prog).any (aA.prog.mapsRec ·))) = true := by kernel_rfl
theorem Lg : ((Rows.aK.ifaces == (aA.f3.params.toList ++ Rows.bI.plain.varTypes aA.prog).any (aA.prog.ifacesRec ·))) = true := by kernel_rfl
theorem Lh : ((Rows.aK.mapsOut == aA.prog.mapsAmong aA.f3.resultTypes.toList)) = true := by kernel_rfl
theorem Li : ((Rows.aK.loops == (aA.f3.params.toList ++ Rows.bI.plain.varTypes aA.prog).any (aA.prog.loopsFrom ·))) = true := by kernel_rfl
theorem Lj : ((Rows.aK.wideKeys == (aA.f3.params.toList ++ Rows.bI.plain.varTypes aA.prog ++ aA.f3.resultTypes.toList).any (aA.prog.wideKeysFrom ·))) = true := by kernel_rfl
theorem Ll : (Rows.bI.vars.all (aA.prog.varReadable ·)) = true := by kernel_rfl
theorem Lm : (aA.f3.resultTypes.all (fun t => aA.prog.readableRec t && decide (t < aA.prog.types.size))) = true := by kernel_rfl
theorem Lp : ((Rows.aK.ifacesOut == aA.f3.resultTypes.toList.any (aA.prog.ifacesRec ·))) = true := by kernel_rfl
theorem Lr : ((Rows.aK.loopsOut == aA.f3.resultTypes.toList.any (aA.prog.loopsFrom ·))) = true := by kernel_rfl
theorem Ls : ((Rows.aK.plainKeys == aA.prog.plainKeys)) = true := by kernel_rfl
theorem Lu : (Rows.aK.shortTexts.isNone) = true := by kernel_rfl
theorem Lv : ((Rows.aK.lifted == aA.prog.liftsFinal)) = true := by kernel_rfl
theorem Lx : ((aA.prog.make == some Rows.aK.make)) = true := by kernel_rfl
theorem Ma : ((Rows.aK.pinned == Rows.aK.pinnedBy)) = true := by kernel_rfl
theorem Mc : ((Rows.aK.veiled == (aA.f3.params.toList ++ Rows.bI.plain.varTypes aA.prog ++ aA.f3.resultTypes.toList).any (aA.prog.veiledRec ·))) = true := by kernel_rfl
theorem Me : (Rows.aK.veiledFits aA.prog aA.f3.params.toList (aA.f3.params.toList ++ Rows.bI.plain.varTypes aA.prog ++ aA.f3.resultTypes.toList)) = true := by kernel_rfl
theorem Bz : joinedFacts aA.prog 3 aA.f3 Rows.bI Rows.aK = true := by
 unfold joinedFacts
 simp only [Nq, Nr, Ns, Nt, Nu, La, Lb, Lc, Ld, Lf, Lg, Lh, Li, Lj, Ll, Lm, Lp, Lr, Ls, Lu, Lv, Lx, Ma, Mc, Me, zEl, zEm, zEn, zEo, zAr, zAs, Bool.and_self, Bool.and_true, Bool.true_and]
 kernel_rfl
theorem yI : aA.prog.funcNamed "calender/calenderlaw15.BankBytes" = some 3 := by kernel_rfl
theorem Hq : aA.f3.isInstance aA.prog Rows.aK.origin Rows.aK.targs := of_decide_eq_true (by kernel_rfl)
theorem Hr : aA.f3.isWrapper aA.prog Rows.aK.wrapper Rows.aK.mainSum := by
 unfold Func.isWrapper; first | (rw [if_pos (by decide +kernel)]; kernel_rfl) | (rw [if_neg (by decide +kernel)]; exact ⟨rfl, rfl⟩)
theorem Mf : Rows.zFz :=
 OpenClaim.holds_of_wide 3 aA.f3 rfl rfl rfl rfl rfl rfl rfl ⟨rfl, rfl, rfl, rfl, rfl⟩ rfl rfl rfl rfl rfl yI aA.func3 Bz
  Hq Hr (fun os started H enc _ => Bw os started H enc)
theorem Nv : Rows.aK.wfByText (OpenSpec.ofChange Rows.bI) = true := by kernel_rfl
theorem Ht : false = Rows.aK.goesBy aA.prog := by kernel_rfl
theorem bankBytes_holds : Rows.zAo :=
 Claim7.holds_tied_plain_at .later [] [.data, .data, .data, .data, .sentinel, .sentinel, .pinned] true (true, "2b9ba0ec6f1f31d13e78345df58a303cf8950f8b4eed92e14442ffad7fe115d6") true
  Mf (fun _ h => by cases h) Nv (fun _ h => by cases h) zAp rfl ⟨rfl, rfl⟩ Yu rfl
  (fun f fn hf hfn => by
   obtain rfl : f = 3 := Option.some.inj (yI.symm.trans hf) |>.symm
   obtain rfl : fn = aA.f3 := (Option.some.inj (aA.func3.symm.trans hfn)).symm
   exact ⟨Uz, fun j t ht => by
    rw [aA.params3] at ht
    have hm : t ∈ [22] := by simpa using Array.mem_of_getElem? ht
    have hall : ([22].all fun u => !aA.prog.wantsStandIn u) = true := by kernel_rfl
    exact (show aA.prog.wantsStandIn t = false by simpa using List.all_eq_true.1 hall t hm)⟩)
  Ht
end Go.Proofs.YtlimifngdjkogaaGreatDoor
