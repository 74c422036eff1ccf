/- StageCopies returns true for every input; the package-level variables that it reads start as the program's text lays them. -/
import Derived.Test.YtmpoakdpdflfgaaGreatDoorPartBS
import Derived.Test.YtmpoakdpdflfgaaGreatDoorPartBT
import Derived.Test.YtmpoakdpdflfgaaGreatDoorPartBV
import Derived.Test.YtmpoakdpdflfgaaGreatDoorPartBX
import Derived.Test.YtmpoakdpdflfgaaGreatDoorCards
import Derived.Test.YtmpoakdpdflfgaaGreatDoorTie
namespace Go.Proofs.YtmpoakdpdflfgaaGreatDoor
open Go.ChangeShapes Go.WideShapes Go.ChangeAt Go.RowKit Go.Dec
set_option maxRecDepth 100000 in
theorem Gg (os : Os) (started : os.Started) (H : Type) (enc : TypeId × Value -> H) :
  ReturnsInHanded {} Tryz.checked os 3 .any (fun w args => (Rows.stageCopiesSpec.pre enc Tryz.prog Tryz.f3 [] false w args ∧ laidMetH Tryz.prog vJ w) ∧ sizedMet enc Tryz.prog Tryz.f3 (OpenSpec.ofChange Rows.stageCopiesSpec) false w args)
   (Rows.stageCopiesSpec.post enc Tryz.prog Tryz.f3 false true false false):=by
 refine nH (C:=Tryz.checked) (X:=fun w _ => laidMetH Tryz.prog vJ w) (fun _ _ _ hh h => h.of_heap hh) Tryz.own started (by kernel_rfl) Tryz.func3
  (ChangeSpec.witness_shaped (enc:=enc) (C:=Tryz.checked) (os:=os) (X:=fun w _ => laidMetH Tryz.prog vJ w) false (World.laidAll Tryz.prog os vJ) #[.string ⟨#[]⟩,.bool false] 8 (World.laidAll_os _ _ _) (World.shaped_of_ZipB (by kernel_rfl) (by kernel_rfl)) (by kernel_rfl) (by kernel_rfl) (by kernel_rfl) (zNs os _)) ?_
 intro W base args ds gs before hval hW hsh hL
 exact Zy (P:=Tryz.prog) (fn:=Tryz.f3) rfl Tryz.underlying4 (by kernel_rfl) (by kernel_rfl) (by kernel_rfl) Tryz.laidOut rfl
  (fun ds hds => by
   match ds,hds with
   | [d0,d1],_ => exact ⟨rfl,rfl,rfl⟩)
  (zJ 2000) (fun x hx => yF x) (zSd hsh hL) hval hW
theorem Pm : Rows.StageCopiesSaid :=
 OpenClaim.holds_of_wide 3 Tryz.f3 rfl rfl rfl rfl rfl rfl rfl ⟨rfl,rfl,rfl,rfl,rfl⟩ rfl rfl rfl rfl rfl Ab Tryz.func3 Gh
  Ml Mq (fun os started H enc _ => Gg os started H enc)
theorem Ur : Rows.stageCopiesRow.wfByText (OpenSpec.ofChange Rows.stageCopiesSpec) = true:=by kernel_rfl
theorem Mr : false = Rows.stageCopiesRow.goesBy Tryz.prog:=zKu zKv _
theorem stageCopies_holds : Rows.StageCopiesCardSaid :=
 Claim7.holds_tied_plain_at .later [] [.data,.data,.data,.data,.sentinel,.sentinel,.pinned] true (true, "837043a0ddbbe5fe10dfa30f4f6ed5645f03ed4b8c9f3f1d6823e5b0b65f947a") true
  Pm (fun _ h => by cases h) Ur (fun _ h => by cases h) stageCopies_row_tie rfl ⟨rfl,rfl⟩ zKw rfl
  (fun f fn hf hfn => by
   obtain rfl : f = 3:=Option.some.inj (Ab.symm.trans hf) |>.symm
   obtain rfl : fn = Tryz.f3:=(Option.some.inj (Tryz.func3.symm.trans hfn)).symm
   exact ⟨zGu,fun j t ht => by
    rw [Tryz.params3] at ht
    have hm : t ∈ [9,4]:=by simpa using Array.mem_of_getElem? ht
    have hall : ([9,4].all fun u => !Tryz.prog.wantsStandIn u) = true:=by kernel_rfl
    exact (show Tryz.prog.wantsStandIn t = false by simpa using List.all_eq_true.1 hall t hm)⟩)
  Mr
end Go.Proofs.YtmpoakdpdflfgaaGreatDoor
