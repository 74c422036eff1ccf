/- FrontNone returns true for every input; the package-level variables that it reads start as the program's text lays them. -/
import Derived.Test.YtmpoakdpdflfgaaGreatDoorPnrtBT
import Derived.Test.YtmpoakdpdflfgaaGreatDoorPnrtBU
import Derived.Test.YtmpoakdpdflfgaaGreatDoorPnrtBW
import Derived.Test.YtmpoakdpdflfgaaGreatDoorPnrtBY
import Derived.Test.YtmpoakdpdflfgaaGreatDoorCards
import Derived.Test.YtmpoakdpdflfgaaGreatDoorTie
namespace Go.Proofs.YtmpoakdpdflfgaaGreatDoor
open Go.ChangeShapes Go.WideShapes Go.ChangeAt Go.RowKit Go.Dec
set_option maxRecDepth 100000 in
theorem Np (os:Os) (started:os.Started) (H:Type) (enc:TypeId × Value->H) :
  ReturnsInHanded {} Tryz.checked os 8 .any (fun w args=>(Rows.frontNoneSpec.pre enc Tryz.prog Tryz.f8 [] false w args∧laidMetH Tryz.prog vU w)∧sizedMet enc Tryz.prog Tryz.f8 (OpenSpec.ofChange Rows.frontNoneSpec) false w args)
   (Rows.frontNoneSpec.post enc Tryz.prog Tryz.f8 false true false false):=by
 refine nO (C:=Tryz.checked) (X:=fun w _=>laidMetH Tryz.prog vU w) (fun _ _ _ hh h=>h.of_heap hh) Tryz.own started (by kernel_rfl) Tryz.func8
  (ChangeSpec.witness_shaped (enc:=enc) (C:=Tryz.checked) (os:=os) (X:=fun w _=>laidMetH Tryz.prog vU w) false (World.laidAll Tryz.prog os vU) #[.string ⟨#[]⟩,.slice none 0 0,.slice none 0 0] 8 (World.laidAll_os _ _ _) (World.shaped_of_ZipB (by kernel_rfl) (by kernel_rfl)) (by kernel_rfl) (by kernel_rfl) (by kernel_rfl) (zOo os _)) ?_
 intro W base args ds gs before hval hW hsh hL
 exact zAg (P:=Tryz.prog) (fn:=Tryz.f8) rfl Tryz.underlying4 (by kernel_rfl) (by kernel_rfl) (by kernel_rfl) Tryz.laidOut rfl
  (fun ds hds=>by
   match ds,hds with
   | [d0,d1,d2],_=>exact ⟨rfl,rfl,rfl⟩)
  (Db 2000) (fun x hx=>Bh x) (zTf hsh hL) hval hW
theorem Xz:Rows.FrontNoneSaid :=
 OpenClaim.holds_of_wide 8 Tryz.f8 rfl rfl rfl rfl rfl rfl rfl ⟨rfl,rfl,rfl,rfl,rfl⟩ rfl rfl rfl rfl rfl Hw Tryz.func8 Nq
  Uf Ug (fun os started H enc _=>Np os started H enc)
theorem zAh:Rows.frontNoneRow.wfByText (OpenSpec.ofChange Rows.frontNoneSpec)=true:=by kernel_rfl
theorem Uh:false=Rows.frontNoneRow.goesBy Tryz.prog:=zMd zMe _
theorem frontNone_holds:Rows.FrontNoneCardSaid :=
 Claim7.holds_tied_plain_at .later [] [.data,.data,.data,.data,.sentinel,.sentinel,.pinned] true (true, "837043a0ddbbe5fe10dfa30f4f6ed5645f03ed4b8c9f3f1d6823e5b0b65f947a") true
  Xz (fun _ h=>by cases h) zAh (fun _ h=>by cases h) frontNone_row_tie rfl ⟨rfl,rfl⟩ zMf rfl
  (fun f fn hf hfn=>by
   obtain rfl:f=8:=Option.some.inj (Hw.symm.trans hf) |>.symm
   obtain rfl:fn=Tryz.f8:=(Option.some.inj (Tryz.func8.symm.trans hfn)).symm
   exact ⟨zIc,fun j t ht=>by
    rw [Tryz.params8] at ht
    have hm:t ∈ [9,65,31]:=by simpa using Array.mem_of_getElem? ht
    have hall:([9,65,31].all fun u=>!Tryz.prog.wantsStandIn u)=true:=by kernel_rfl
    exact (show Tryz.prog.wantsStandIn t=false by simpa using List.all_eq_true.1 hall t hm)⟩)
  Uh
end Go.Proofs.YtmpoakdpdflfgaaGreatDoor
