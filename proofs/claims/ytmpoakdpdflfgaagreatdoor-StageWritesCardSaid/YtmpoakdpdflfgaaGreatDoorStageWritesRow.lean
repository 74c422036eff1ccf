/- StageWrites returns true for every input; the package-level variables that it reads start as the program's text lays them. -/
import Derived.Test.YtmpoakdpdflfgaaGreatDoorSwBT
import Derived.Test.YtmpoakdpdflfgaaGreatDoorSwBU
import Derived.Test.YtmpoakdpdflfgaaGreatDoorSwBW
import Derived.Test.YtmpoakdpdflfgaaGreatDoorSwBY
import Derived.Test.YtmpoakdpdflfgaaGreatDoorCards
import Derived.Test.YtmpoakdpdflfgaaGreatDoorTie
namespace Go.Proofs.YtmpoakdpdflfgaaGreatDoor
open Go.ChangeShapes Go.WideShapes Go.ChangeAt Go.RowKit Go.Dec
set_option maxRecDepth 100000 in
theorem aA (os:Os) (started:os.Started) (H:Type) (enc:TypeId × Value->H) :
  ReturnsInHanded {} Tryz.checked os 5 .any (fun w args=>(Rows.stageWritesSpec.pre enc Tryz.prog Tryz.f5 [] false w args∧laidMetH Tryz.prog laidR w)∧sizedMet enc Tryz.prog Tryz.f5 (OpenSpec.ofChange Rows.stageWritesSpec) false w args)
   (Rows.stageWritesSpec.post enc Tryz.prog Tryz.f5 false true false false):=by
 refine returnsInHanded_of_change_shapedAnd (C:=Tryz.checked) (X:=fun w _=>laidMetH Tryz.prog laidR w) (fun _ _ _ hh h=>h.of_heap hh) Tryz.own started (by kernel_rfl) Tryz.func5
  (ChangeSpec.witness_shaped (enc:=enc) (C:=Tryz.checked) (os:=os) (X:=fun w _=>laidMetH Tryz.prog laidR w) false (World.laidAll Tryz.prog os laidR) #[.string ⟨#[]⟩,.string ⟨#[]⟩] 8 (World.laidAll_os _ _ _) (World.shaped_of_ZipB (by kernel_rfl) (by kernel_rfl)) (by kernel_rfl) (by kernel_rfl) (by kernel_rfl) (laid_met os _)) ?_
 intro W base args ds gs before hval hW hsh hL
 exact law_contract (P:=Tryz.prog) (fn:=Tryz.f5) rfl Tryz.underlying4 (by kernel_rfl) (by kernel_rfl) (by kernel_rfl) Tryz.laidOut rfl
  (fun ds hds=>by
   match ds,hds with
   | [d0,d1],_=>exact ⟨rfl,rfl,rfl⟩)
  (law16_StageWrites_pure 2000) (fun x hx=>law16_StageWrites_claim x) (glob_of hsh hL) hval hW
theorem aC:Rows.StageWritesSaid :=
 OpenClaim.holds_of_wide 5 Tryz.f5 rfl rfl rfl rfl rfl rfl rfl ⟨rfl,rfl,rfl,rfl,rfl⟩ rfl rfl rfl rfl rfl stageWrites_nr Tryz.func5 stageWrites_closed
  stageWrites_inst stageWrites_wrap (fun os started H enc _=>aA os started H enc)
theorem aD:Rows.stageWritesRow.wfByText (OpenSpec.ofChange Rows.stageWritesSpec)=true:=by kernel_rfl
theorem aB:false=Rows.stageWritesRow.goesBy Tryz.prog:=goesBy_no seat_nogo _
theorem stageWrites_holds:Rows.StageWritesCardSaid :=
 Claim7.holds_tied_plain_at .later [] [.data,.data,.data,.data,.sentinel,.sentinel,.pinned] true (true, "837043a0ddbbe5fe10dfa30f4f6ed5645f03ed4b8c9f3f1d6823e5b0b65f947a") true
  aC (fun _ h=>by cases h) aD (fun _ h=>by cases h) stageWrites_row_tie rfl ⟨rfl,rfl⟩ seat_main rfl
  (fun f fn hf hfn=>by
   obtain rfl:f=5:=Option.some.inj (stageWrites_nr.symm.trans hf) |>.symm
   obtain rfl:fn=Tryz.f5:=(Option.some.inj (Tryz.func5.symm.trans hfn)).symm
   exact ⟨seat_looks,fun j t ht=>by
    rw [Tryz.params5] at ht
    have hm:t ∈ [9,9]:=by simpa using Array.mem_of_getElem? ht
    have hall:([9,9].all fun u=>!Tryz.prog.wantsStandIn u)=true:=by kernel_rfl
    exact (show Tryz.prog.wantsStandIn t=false by simpa using List.all_eq_true.1 hall t hm)⟩)
  aB
end Go.Proofs.YtmpoakdpdflfgaaGreatDoor
