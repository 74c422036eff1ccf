/- StageFiles returns true for every input; the package-level variables that it reads start as the program's text lays them. -/
import Derived.Test.YtmpoakdpdflfgaaGreatDoorPartBS
import Derived.Test.YtmpoakdpdflfgaaGreatDoorPartBT
import Derived.Test.YtmpoakdpdflfgaaGreatDoorPartBV
import Derived.Test.YtmpoakdpdflfgaaGreatDoorPartBX
import Derived.Test.YtmpoakdpdflfgaaGreatDoorCards
import Derived.Test.YtmpoakdpdflfgaaGreatDoorTie
namespace Go.Proofs.YtmpoakdpdflfgaaGreatDoor
open Go.ChangeShapes Go.WideShapes Go.ChangeAt Go.RowKit Go.Dec
set_option maxRecDepth 100000 in
theorem Ld (os:Os) (started:os.Started) (H:Type) (enc:TypeId × Value -> H) :
  ReturnsInHanded {} Tryz.checked os 4 .any (fun w args=>(Rows.stageFilesSpec.pre enc Tryz.prog Tryz.f4 [] false w args ∧ laidMetH Tryz.prog vK w) ∧ sizedMet enc Tryz.prog Tryz.f4 (OpenSpec.ofChange Rows.stageFilesSpec) false w args)
   (Rows.stageFilesSpec.post enc Tryz.prog Tryz.f4 false true false false):=by
 refine nE (C:=Tryz.checked) (X:=fun w _=>laidMetH Tryz.prog vK w) (fun _ _ _ hh h=>h.of_heap hh) Tryz.own started (by kernel_rfl) Tryz.func4
  (ChangeSpec.witness_shaped (enc:=enc) (C:=Tryz.checked) (os:=os) (X:=fun w _=>laidMetH Tryz.prog vK w) false (World.laidAll Tryz.prog os vK) #[.string ⟨#[]⟩,.string ⟨#[]⟩,.bool false] 8 (World.laidAll_os _ _ _) (World.shaped_of_ZipB (by kernel_rfl) (by kernel_rfl)) (by kernel_rfl) (by kernel_rfl) (by kernel_rfl) (zNs os _)) ?_
 intro W base args ds gs before hval hW hsh hL
 exact Zv (P:=Tryz.prog) (fn:=Tryz.f4) rfl Tryz.underlying4 (by kernel_rfl) (by kernel_rfl) (by kernel_rfl) Tryz.laidOut rfl
  (fun ds hds=>by
   match ds,hds with
   | [d0,d1,d2],_=>exact ⟨rfl,rfl,rfl⟩)
  (Ac 2000) (fun x hx=>zK x) (zSe hsh hL) hval hW
theorem Tq:Rows.StageFilesSaid :=
 OpenClaim.holds_of_wide 4 Tryz.f4 rfl rfl rfl rfl rfl rfl rfl ⟨rfl,rfl,rfl,rfl,rfl⟩ rfl rfl rfl rfl rfl Fg Tryz.func4 Lf
  Pj Pk (fun os started H enc _=>Ld os started H enc)
theorem Ym:Rows.stageFilesRow.wfByText (OpenSpec.ofChange Rows.stageFilesSpec) = true:=by kernel_rfl
theorem Pm:false = Rows.stageFilesRow.goesBy Tryz.prog:=zKt zKu _
theorem stageFiles_holds:Rows.StageFilesCardSaid :=
 Claim7.holds_tied_plain_at .later [] [.data,.data,.data,.data,.sentinel,.sentinel,.pinned] true (true, "837043a0ddbbe5fe10dfa30f4f6ed5645f03ed4b8c9f3f1d6823e5b0b65f947a") true
  Tq (fun _ h=>by cases h) Ym (fun _ h=>by cases h) stageFiles_row_tie rfl ⟨rfl,rfl⟩ zKv rfl
  (fun f fn hf hfn=>by
   obtain rfl:f = 4:=Option.some.inj (Fg.symm.trans hf) |>.symm
   obtain rfl:fn = Tryz.f4:=(Option.some.inj (Tryz.func4.symm.trans hfn)).symm
   exact ⟨zGw,fun j t ht=>by
    rw [Tryz.params4] at ht
    have hm:t ∈ [9,9,4]:=by simpa using Array.mem_of_getElem? ht
    have hall:([9,9,4].all fun u=>!Tryz.prog.wantsStandIn u) = true:=by kernel_rfl
    exact (show Tryz.prog.wantsStandIn t = false by simpa using List.all_eq_true.1 hall t hm)⟩)
  Pm
end Go.Proofs.YtmpoakdpdflfgaaGreatDoor
