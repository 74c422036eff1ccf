/- BankLater returns true for every input; the package-level variables that it reads start as the program's text lays them. -/
import Derived.Test.YtfpipcafiocdoaaGreatDoorPartBT
import Derived.Test.YtfpipcafiocdoaaGreatDoorPartBW
import Derived.Test.YtfpipcafiocdoaaGreatDoorPartBY
import Derived.Test.YtfpipcafiocdoaaGreatDoorPartCA
import Derived.Test.YtfpipcafiocdoaaGreatDoorCards
import Derived.Test.YtfpipcafiocdoaaGreatDoorTie
namespace Go.Proofs.YtfpipcafiocdoaaGreatDoor
open Go.ChangeShapes Go.WideShapes Go.ChangeAt Go.RowKit Go.Dec
set_option maxRecDepth 100000 in
theorem Lm (os:Os) (started:os.Started) (H:Type) (enc:TypeId × Value->H) :
  ReturnsInHanded {} Tryz.checked os 7 .any (fun w args=>(Rows.bankLaterSpec.pre enc Tryz.prog Tryz.f7 [] false w args∧laidMetH Tryz.prog vW w)∧sizedMet enc Tryz.prog Tryz.f7 (OpenSpec.ofChange Rows.bankLaterSpec) false w args)
   (Rows.bankLaterSpec.post enc Tryz.prog Tryz.f7 false true false false):=by
 refine nU (C:=Tryz.checked) (X:=fun w _=>laidMetH Tryz.prog vW w) (fun _ _ _ hh h=>h.of_heap hh) Tryz.own started (by kernel_rfl) Tryz.func7
  (ChangeSpec.witness_shaped (enc:=enc) (C:=Tryz.checked) (os:=os) (X:=fun w _=>laidMetH Tryz.prog vW w) false (World.laidAll Tryz.prog os vW) #[.string ⟨#[]⟩,.string ⟨#[]⟩,.string ⟨#[]⟩] 8 (World.laidAll_os _ _ _) (World.shaped_of_ZipB (by kernel_rfl) (by kernel_rfl)) (by kernel_rfl) (by kernel_rfl) (by kernel_rfl) (zMg os _)) ?_
 intro W base args ds gs before hval hW hsh hL
 exact Yd (P:=Tryz.prog) (fn:=Tryz.f7) rfl Tryz.underlying4 (by kernel_rfl) (by kernel_rfl) (by kernel_rfl) Tryz.laidOut rfl
  (fun ds hds=>by
   match ds,hds with
   | [d0,d1,d2],_=>exact ⟨rfl,rfl,rfl⟩)
  (Bw 2000) (fun x hx=>Ae x) (zQq hsh hL) hval hW
theorem Vx:Rows.BankLaterSaid :=
 OpenClaim.holds_of_wide 7 Tryz.f7 rfl rfl rfl rfl rfl rfl rfl ⟨rfl,rfl,rfl,rfl,rfl⟩ rfl rfl rfl rfl rfl Fz Tryz.func7 Lp
  Rv Rw (fun os started H enc _=>Lm os started H enc)
theorem Ye:Rows.bankLaterRow.wfByText (OpenSpec.ofChange Rows.bankLaterSpec)=true:=by kernel_rfl
theorem Rx:false=Rows.bankLaterRow.goesBy Tryz.prog:=zJp zJq _
theorem bankLater_holds:Rows.BankLaterCardSaid :=
 Claim7.holds_tied_plain_at .later [] [.data,.data,.data,.data,.sentinel,.sentinel,.pinned] true (true, "b6718b1d7f83dc98d55f6238e8b758fde93d3956ddfe19c1fc1c1b3cce4cbd11") true
  Vx (fun _ h=>by cases h) Ye (fun _ h=>by cases h) bankLater_row_tie rfl ⟨rfl,rfl⟩ zJr rfl
  (fun f fn hf hfn=>by
   obtain rfl:f=7:=Option.some.inj (Fz.symm.trans hf) |>.symm
   obtain rfl:fn=Tryz.f7:=(Option.some.inj (Tryz.func7.symm.trans hfn)).symm
   exact ⟨zFe,fun j t ht=>by
    rw [Tryz.params7] at ht
    have hm:t ∈ [9,9,9]:=by simpa using Array.mem_of_getElem? ht
    have hall:([9,9,9].all fun u=>!Tryz.prog.wantsStandIn u)=true:=by kernel_rfl
    exact (show Tryz.prog.wantsStandIn t=false by simpa using List.all_eq_true.1 hall t hm)⟩)
  Rx
end Go.Proofs.YtfpipcafiocdoaaGreatDoor
