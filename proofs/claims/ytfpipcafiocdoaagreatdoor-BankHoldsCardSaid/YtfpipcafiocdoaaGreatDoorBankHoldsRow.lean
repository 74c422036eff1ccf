/- BankHolds returns true for every input; the package-level variables that it reads start as the program's text lays them. -/
import Derived.Test.YtfpipcafiocdoaaGreatDoorPartBT
import Derived.Test.YtfpipcafiocdoaaGreatDoorPartBU
import Derived.Test.YtfpipcafiocdoaaGreatDoorPartBW
import Derived.Test.YtfpipcafiocdoaaGreatDoorPartBY
import Derived.Test.YtfpipcafiocdoaaGreatDoorCards
import Derived.Test.YtfpipcafiocdoaaGreatDoorTie
namespace Go.Proofs.YtfpipcafiocdoaaGreatDoor
open Go.ChangeShapes Go.WideShapes Go.ChangeAt Go.RowKit Go.Dec
set_option maxRecDepth 100000 in
theorem Ms (os:Os) (started:os.Started) (H:Type) (enc:TypeId × Value->H) :
  ReturnsInHanded {} Tryz.checked os 6 .any (fun w args=>(Rows.bankHoldsSpec.pre enc Tryz.prog Tryz.f6 [] false w args∧laidMetH Tryz.prog xD w)∧sizedMet enc Tryz.prog Tryz.f6 (OpenSpec.ofChange Rows.bankHoldsSpec) false w args)
   (Rows.bankHoldsSpec.post enc Tryz.prog Tryz.f6 false true false false):=by
 refine oP (C:=Tryz.checked) (X:=fun w _=>laidMetH Tryz.prog xD w) (fun _ _ _ hh h=>h.of_heap hh) Tryz.own started (by kernel_rfl) Tryz.func6
  (ChangeSpec.witness_shaped (enc:=enc) (C:=Tryz.checked) (os:=os) (X:=fun w _=>laidMetH Tryz.prog xD w) false (World.laidAll Tryz.prog os xD) #[.string ⟨#[]⟩,.string ⟨#[]⟩] 8 (World.laidAll_os _ _ _) (World.shaped_of_ZipB (by kernel_rfl) (by kernel_rfl)) (by kernel_rfl) (by kernel_rfl) (by kernel_rfl) (zLv os _)) ?_
 intro W base args ds gs before hval hW hsh hL
 exact Yd (P:=Tryz.prog) (fn:=Tryz.f6) rfl Tryz.underlying4 (by kernel_rfl) (by kernel_rfl) (by kernel_rfl) Tryz.laidOut rfl
  (fun ds hds=>by
   match ds,hds with
   | [d0,d1],_=>exact ⟨rfl,rfl,rfl⟩)
  (Dm 2000) (fun x hx=>Br x) (zPz hsh hL) hval hW
theorem Vz:Rows.BankHoldsSaid :=
 OpenClaim.holds_of_wide 6 Tryz.f6 rfl rfl rfl rfl rfl rfl rfl ⟨rfl,rfl,rfl,rfl,rfl⟩ rfl rfl rfl rfl rfl Hq Tryz.func6 Mt
  Ry Rz (fun os started H enc _=>Ms os started H enc)
theorem Ye:Rows.bankHoldsRow.wfByText (OpenSpec.ofChange Rows.bankHoldsSpec)=true:=by kernel_rfl
theorem Sb:false=Rows.bankHoldsRow.goesBy Tryz.prog:=zIt zIu _
theorem bankHolds_holds:Rows.BankHoldsCardSaid :=
 Claim7.holds_tied_plain_at .later [] [.data,.data,.data,.data,.sentinel,.sentinel,.pinned] true (true, "b6718b1d7f83dc98d55f6238e8b758fde93d3956ddfe19c1fc1c1b3cce4cbd11") true
  Vz (fun _ h=>by cases h) Ye (fun _ h=>by cases h) bankHolds_row_tie rfl ⟨rfl,rfl⟩ zIv rfl
  (fun f fn hf hfn=>by
   obtain rfl:f=6:=Option.some.inj (Hq.symm.trans hf) |>.symm
   obtain rfl:fn=Tryz.f6:=(Option.some.inj (Tryz.func6.symm.trans hfn)).symm
   exact ⟨zFb,fun j t ht=>by
    rw [Tryz.params6] at ht
    have hm:t ∈ [9,9]:=by simpa using Array.mem_of_getElem? ht
    have hall:([9,9].all fun u=>!Tryz.prog.wantsStandIn u)=true:=by kernel_rfl
    exact (show Tryz.prog.wantsStandIn t=false by simpa using List.all_eq_true.1 hall t hm)⟩)
  Sb
end Go.Proofs.YtfpipcafiocdoaaGreatDoor
