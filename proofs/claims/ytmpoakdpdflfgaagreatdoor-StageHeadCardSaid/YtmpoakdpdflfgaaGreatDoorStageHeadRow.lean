/- StageHead returns true for every input; the package-level variables that it reads start as the program's text lays them. -/
import Derived.Test.YtmpoakdpdflfgaaGreatDoorPartBT
import Derived.Test.YtmpoakdpdflfgaaGreatDoorPartBU
import Derived.Test.YtmpoakdpdflfgaaGreatDoorPartBW
import Derived.Test.YtmpoakdpdflfgaaGreatDoorPartBY
import Derived.Test.YtmpoakdpdflfgaaGreatDoorCards
import Derived.Test.YtmpoakdpdflfgaaGreatDoorTie
namespace Go.Proofs.YtmpoakdpdflfgaaGreatDoor
open Go.ChangeShapes Go.WideShapes Go.ChangeAt Go.RowKit Go.Dec
set_option maxRecDepth 100000 in
theorem Qe (os:Os) (started:os.Started) (H:Type) (enc:TypeId × Value->H) :
  ReturnsInHanded {} Tryz.checked os 6 .any (fun w args=>(Rows.stageHeadSpec.pre enc Tryz.prog Tryz.f6 [] false w args∧laidMetH Tryz.prog xK w)∧sizedMet enc Tryz.prog Tryz.f6 (OpenSpec.ofChange Rows.stageHeadSpec) false w args)
   (Rows.stageHeadSpec.post enc Tryz.prog Tryz.f6 false true false false):=by
 refine oM (C:=Tryz.checked) (X:=fun w _=>laidMetH Tryz.prog xK w) (fun _ _ _ hh h=>h.of_heap hh) Tryz.own started (by kernel_rfl) Tryz.func6
  (ChangeSpec.witness_shaped (enc:=enc) (C:=Tryz.checked) (os:=os) (X:=fun w _=>laidMetH Tryz.prog xK w) false (World.laidAll Tryz.prog os xK) #[.string ⟨#[]⟩,.int .u8 0,.int .u8 0] 8 (World.laidAll_os _ _ _) (World.shaped_of_ZipB (by kernel_rfl) (by kernel_rfl)) (by kernel_rfl) (by kernel_rfl) (by kernel_rfl) (zRl os _)) ?_
 intro W base args ds gs before hval hW hsh hL
 exact zCp (P:=Tryz.prog) (fn:=Tryz.f6) rfl Tryz.underlying4 (by kernel_rfl) (by kernel_rfl) (by kernel_rfl) Tryz.laidOut rfl
  (fun ds hds=>by
   match ds,hds with
   | [d0,d1,d2],_=>exact ⟨rfl,rfl,rfl⟩)
  (Ev 2000) (fun x hx=>Jj x hx) (zXq hsh hL) hval hW
theorem zAr:Rows.StageHeadSaid :=
 OpenClaim.holds_of_wide 6 Tryz.f6 rfl rfl rfl rfl rfl rfl rfl ⟨rfl,rfl,rfl,rfl,rfl⟩ rfl rfl rfl rfl rfl Jk Tryz.func6 Qf
  Wv Ww (fun os started H enc _=>Qe os started H enc)
theorem zCq:Rows.stageHeadRow.wfByText (OpenSpec.ofChange Rows.stageHeadSpec)=true:=by kernel_rfl
theorem Wx:false=Rows.stageHeadRow.goesBy Tryz.prog:=zOk zOl _
theorem stageHead_holds:Rows.StageHeadCardSaid :=
 Claim7.holds_tied_plain_at .later [] [.data,.data,.data,.data,.sentinel,.sentinel,.pinned] true (true, "837043a0ddbbe5fe10dfa30f4f6ed5645f03ed4b8c9f3f1d6823e5b0b65f947a") true
  zAr (fun _ h=>by cases h) zCq (fun _ h=>by cases h) stageHead_row_tie rfl ⟨rfl,rfl⟩ zOm rfl
  (fun f fn hf hfn=>by
   obtain rfl:f=6:=Option.some.inj (Jk.symm.trans hf) |>.symm
   obtain rfl:fn=Tryz.f6:=(Option.some.inj (Tryz.func6.symm.trans hfn)).symm
   exact ⟨zKa,fun j t ht=>by
    rw [Tryz.params6] at ht
    have hm:t ∈ [9,5,5]:=by simpa using Array.mem_of_getElem? ht
    have hall:([9,5,5].all fun u=>!Tryz.prog.wantsStandIn u)=true:=by kernel_rfl
    exact (show Tryz.prog.wantsStandIn t=false by simpa using List.all_eq_true.1 hall t hm)⟩)
  Wx
end Go.Proofs.YtmpoakdpdflfgaaGreatDoor
