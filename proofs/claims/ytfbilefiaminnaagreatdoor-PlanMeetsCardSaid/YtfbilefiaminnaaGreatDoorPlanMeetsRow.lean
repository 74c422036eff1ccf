/- PlanMeets returns true for every input; the package-level variables that it reads start as the program's text lays them. -/
import Derived.Test.YtfbilefiaminnaaGreatDoorPartBI
import Derived.Test.YtfbilefiaminnaaGreatDoorPartBQ
import Derived.Test.YtfbilefiaminnaaGreatDoorPartBR
import Derived.Test.YtfbilefiaminnaaGreatDoorCards
import Derived.Test.YtfbilefiaminnaaGreatDoorTie
namespace Go.Proofs.YtfbilefiaminnaaGreatDoor
open Go.ChangeShapes Go.WideShapes Go.ChangeAt Go.RowKit Go.Dec
set_option maxRecDepth 100000 in
theorem zMk(os:Os)(started:os.Started)(H:Type)(enc:TypeId × Value->H):ReturnsInHanded {} Tryz.checked os 4 .any (λw args=>(Rows.planMeetsSpec.pre enc Tryz.prog Tryz.f4 [] false w args/\laidMetH Tryz.prog Tp w)/\sizedMet enc Tryz.prog Tryz.f4 (OpenSpec.ofChange Rows.planMeetsSpec) false w args)
  (Rows.planMeetsSpec.post enc Tryz.prog Tryz.f4 false true false false):=by
 refine Ez (C:=Tryz.checked) (X:=λw _=>laidMetH Tryz.prog Tp w) (λ_ _ _ hh h=>h.of_heap hh) Tryz.own started (by kernel_rfl) Tryz.func4
  (ChangeSpec.witness_shaped (enc:=enc) (C:=Tryz.checked) (os:=os) (X:=λw _=>laidMetH Tryz.prog Tp w) false (World.laidAll Tryz.prog os Tp) #[.agg #[.string ⟨#[]⟩,.slice none 0 0,.bool false],.agg #[.string ⟨#[]⟩,.slice none 0 0,.bool false]] 8 (World.laidAll_os _ _ _) (World.shaped_of_ZipB (by kernel_rfl) (by kernel_rfl)) (by kernel_rfl) (by kernel_rfl) (by kernel_rfl) (yPg os _)) ?_
 intro W base args ds gs before hval hW hsh hL;exact zYm (P:=Tryz.prog) (fn:=Tryz.f4) rfl Tryz.underlying4 (by kernel_rfl) (by kernel_rfl) (by kernel_rfl) Tryz.laidOut rfl
  (λds hds=>by
   match ds,hds with
   |[d0,d1],_=>exact⟨rfl,rfl,rfl⟩)
  (zCy 20000) (λx hx=>zYn x) (yVj hsh hL) hval hW
theorem zYo:(Rows.planMeetsRow.wf (OpenSpec.ofChange Rows.planMeetsSpec))=true:=by kernel_rfl
theorem zYp:(Tryz.f4.params.all (Tryz.prog.readableRec ·))=true:=by kernel_rfl
theorem zYq:(namedTie Tryz.prog Rows.planMeetsRow.named Rows.planMeetsSpec.vars)=true:=by kernel_rfl
theorem zYr:((Rows.planMeetsRow.stops==[]))=true:=by kernel_rfl
theorem zYs:((Rows.planMeetsRow.knobs==[]))=true:=by kernel_rfl
theorem zWg:((Rows.planMeetsRow.inPlace==Tryz.prog.inPlace 4))=true:=by kernel_rfl
theorem zWh:((Rows.planMeetsRow.unfollowed==Tryz.prog.unfollowed 4))=true:=by kernel_rfl
theorem zWi:((Rows.planMeetsRow.recurses==Tryz.prog.recurses 4))=true:=by kernel_rfl
theorem zWj:((Rows.planMeetsRow.named==Tryz.prog.varsNamed 4))=true:=by kernel_rfl
theorem zWk:((Rows.planMeetsRow.maps==(Tryz.f4.params.toList++Rows.planMeetsSpec.plain.varTypes Tryz.prog).any (Tryz.prog.mapsRec ·)))=true:=by kernel_rfl
theorem zWl:((Rows.planMeetsRow.ifaces==(Tryz.f4.params.toList++Rows.planMeetsSpec.plain.varTypes Tryz.prog).any (Tryz.prog.ifacesRec ·)))=true:=by kernel_rfl
theorem zWm:((Rows.planMeetsRow.mapsOut==Tryz.prog.mapsAmong Tryz.f4.resultTypes.toList))=true:=by kernel_rfl
theorem zWn:((Rows.planMeetsRow.loops==(Tryz.f4.params.toList++Rows.planMeetsSpec.plain.varTypes Tryz.prog).any (Tryz.prog.loopsFrom ·)))=true:=by kernel_rfl
theorem zWo:((Rows.planMeetsRow.wideKeys==(Tryz.f4.params.toList++Rows.planMeetsSpec.plain.varTypes Tryz.prog++Tryz.f4.resultTypes.toList).any (Tryz.prog.wideKeysFrom ·)))=true:=by kernel_rfl
theorem zWp:(Rows.planMeetsSpec.vars.all (Tryz.prog.varReadable ·))=true:=by kernel_rfl
theorem zWq:(Tryz.f4.resultTypes.all (λt=>Tryz.prog.readableRec t&&decide (t<Tryz.prog.types.size)))=true:=by kernel_rfl
theorem zWr:((Rows.planMeetsRow.ifacesOut==Tryz.f4.resultTypes.toList.any (Tryz.prog.ifacesRec ·)))=true:=by kernel_rfl
theorem zWs:((Rows.planMeetsRow.loopsOut==Tryz.f4.resultTypes.toList.any (Tryz.prog.loopsFrom ·)))=true:=by kernel_rfl
theorem zWt:((Rows.planMeetsRow.plainKeys==Tryz.prog.plainKeys))=true:=by kernel_rfl
theorem zWu:(Rows.planMeetsRow.shortTexts.isNone)=true:=by kernel_rfl
theorem zWv:((Rows.planMeetsRow.lifted==Tryz.prog.liftsFinal))=true:=by kernel_rfl
theorem zWw:((Tryz.prog.make==some Rows.planMeetsRow.make))=true:=by kernel_rfl
theorem zWx:((Rows.planMeetsRow.pinned==Rows.planMeetsRow.pinnedBy))=true:=by kernel_rfl
theorem zWy:((Rows.planMeetsRow.veiled==(Tryz.f4.params.toList++Rows.planMeetsSpec.plain.varTypes Tryz.prog++Tryz.f4.resultTypes.toList).any (Tryz.prog.veiledRec ·)))=true:=by kernel_rfl
theorem zWz:(Rows.planMeetsRow.veiledFits Tryz.prog Tryz.f4.params.toList (Tryz.f4.params.toList++Rows.planMeetsSpec.plain.varTypes Tryz.prog++Tryz.f4.resultTypes.toList))=true:=by kernel_rfl
theorem zMl:joinedFacts Tryz.prog 4 Tryz.f4 Rows.planMeetsSpec Rows.planMeetsRow=true:=by
 unfold joinedFacts;simp only[zYo,zYp,zYq,zYr,zYs,zWg,zWh,zWi,zWj,zWk,zWl,zWm,zWn,zWo,zWp,zWq,zWr,zWs,zWt,zWu,zWv,zWw,zWx,zWy,zWz,yVk,yVl,yVm,yVn,yPh,yPi,Bool.and_self,Bool.and_true,Bool.true_and]
 kernel_rfl
theorem zGl:Tryz.prog.funcNamed "calender/calenderlaw19.PlanMeets" = some 4:=by kernel_rfl
theorem zSc:Tryz.f4.isInstance Tryz.prog Rows.planMeetsRow.origin Rows.planMeetsRow.targs:=of_decide_eq_true (by kernel_rfl)
theorem zSd:Tryz.f4.isWrapper Tryz.prog Rows.planMeetsRow.wrapper Rows.planMeetsRow.mainSum:=by
 unfold Func.isWrapper;first|(rw[if_pos (by decide +kernel)];kernel_rfl)|(rw[if_neg (by decide +kernel)];exact⟨rfl,rfl⟩)
theorem zXa:Rows.PlanMeetsSaid :=
 OpenClaim.holds_of_wide 4 Tryz.f4 rfl rfl rfl rfl rfl rfl rfl ⟨rfl,rfl,rfl,rfl,rfl⟩ rfl rfl rfl rfl rfl zGl Tryz.func4 zMl
  zSc zSd (λos started H enc _=>zMk os started H enc)
theorem zYt:Rows.planMeetsRow.wfByText (OpenSpec.ofChange Rows.planMeetsSpec)=true:=by kernel_rfl
theorem zSe:false=Rows.planMeetsRow.goesBy Tryz.prog:=yLy yLz _
theorem planMeets_holds:Rows.PlanMeetsCardSaid :=
 Claim7.holds_tied_plain_at .later [] [.data,.data,.data,.data,.sentinel,.sentinel,.pinned] true (true, "dfe17f9c19d21ccf4217b6a689cc7271847184ff5de463e33e01ed8087e7bd78") true
  zXa (λ_ h=>by cases h) zYt (λ_ h=>by cases h) planMeets_row_tie rfl ⟨rfl,rfl⟩ yMa rfl
  (λf fn hf hfn=>by
   obtain rfl:f=4:=Option.some.inj (zGl.symm.trans hf) |>.symm
   obtain rfl:fn=Tryz.f4:=(Option.some.inj (Tryz.func4.symm.trans hfn)).symm;exact⟨yHi,λj t ht=>by
    rw[Tryz.params4]at ht;have hm:t∈[52,52]:=by simpa using Array.mem_of_getElem? ht
    have hall:([52,52].all λu=>!Tryz.prog.wantsStandIn u)=true:=by kernel_rfl
    exact(show Tryz.prog.wantsStandIn t=false by simpa using List.all_eq_true.1 hall t hm)⟩)
  zSe
end Go.Proofs.YtfbilefiaminnaaGreatDoor
