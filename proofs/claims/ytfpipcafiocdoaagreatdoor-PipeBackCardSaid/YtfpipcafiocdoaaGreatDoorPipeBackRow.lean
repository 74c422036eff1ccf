/- PipeBack returns true for every input; the package-level variables that it reads start as the program's text lays them. -/
import Derived.Test.YtfpipcafiocdoaaGreatDoorPartBQ
import Derived.Test.YtfpipcafiocdoaaGreatDoorPartBS
import Derived.Test.YtfpipcafiocdoaaGreatDoorPartBU
import Derived.Test.YtfpipcafiocdoaaGreatDoorCards
import Derived.Test.YtfpipcafiocdoaaGreatDoorTie
namespace Go.Proofs.YtfpipcafiocdoaaGreatDoor
open Go.ChangeShapes Go.WideShapes Go.ChangeAt Go.RowKit Go.Dec
set_option maxRecDepth 100000 in
theorem Iy (os : Os) (started : os.Started) (H : Type) (enc : TypeId × Value -> H) :
  ReturnsInHanded {} Tryz.checked os 3 .any (fun w args => (Rows.pipeBackSpec.pre enc Tryz.prog Tryz.f3 [] false w args ∧ laidMetH Tryz.prog sO w) ∧ sizedMet enc Tryz.prog Tryz.f3 (OpenSpec.ofChange Rows.pipeBackSpec) false w args)
   (Rows.pipeBackSpec.post enc Tryz.prog Tryz.f3 false true false false):=by
 refine lY (C:=Tryz.checked) (X:=fun w _ => laidMetH Tryz.prog sO w) (fun _ _ _ hh h => h.of_heap hh) Tryz.own started (by kernel_rfl) Tryz.func3
  (ChangeSpec.witness_shaped (enc:=enc) (C:=Tryz.checked) (os:=os) (X:=fun w _ => laidMetH Tryz.prog sO w) false (World.laidAll Tryz.prog os sO) #[.slice none 0 0] 8 (World.laidAll_os _ _ _) (World.shaped_of_ZipB (by kernel_rfl) (by kernel_rfl)) (by kernel_rfl) (by kernel_rfl) (by kernel_rfl) (zFx os _)) ?_
 intro W base args ds gs before hval hW hsh hL
 exact Ru (P:=Tryz.prog) (fn:=Tryz.f3) rfl Tryz.underlying4 (by kernel_rfl) (by kernel_rfl) (by kernel_rfl) Tryz.laidOut rfl
  (fun ds hds => by
   match ds,hds with
   | [d0],_ => exact ⟨rfl,rfl,rfl⟩)
  (yC) (fun x hx => yD x hx) (zJy hsh hL) hval hW
theorem Rv : Rows.PipeBackSaid :=
 OpenClaim.holds_of_wide 3 Tryz.f3 rfl rfl rfl rfl rfl rfl rfl ⟨rfl,rfl,rfl,rfl,rfl⟩ rfl rfl rfl rfl rfl Ey Tryz.func3 Iz
  Qn Qo (fun os started H enc _ => Iy os started H enc)
theorem Xk : Rows.pipeBackRow.wfByText (OpenSpec.ofChange Rows.pipeBackSpec) = true:=by kernel_rfl
theorem Qp : false = Rows.pipeBackRow.goesBy Tryz.prog:=zDr zDs _
theorem pipeBack_holds : Rows.PipeBackCardSaid :=
 Claim7.holds_tied_plain_at .later [] [.data,.data,.data,.data,.sentinel,.sentinel,.pinned] true (true, "b6718b1d7f83dc98d55f6238e8b758fde93d3956ddfe19c1fc1c1b3cce4cbd11") true
  Rv (fun _ h => by cases h) Xk (fun _ h => by cases h) pipeBack_row_tie rfl ⟨rfl,rfl⟩ zDt rfl
  (fun f fn hf hfn => by
   obtain rfl : f = 3:=Option.some.inj (Ey.symm.trans hf) |>.symm
   obtain rfl : fn = Tryz.f3:=(Option.some.inj (Tryz.func3.symm.trans hfn)).symm
   exact ⟨zAc,fun j t ht => by
    rw [Tryz.params3] at ht
    have hm : t ∈ [22]:=by simpa using Array.mem_of_getElem? ht
    have hall : ([22].all fun u => !Tryz.prog.wantsStandIn u) = true:=by kernel_rfl
    exact (show Tryz.prog.wantsStandIn t = false by simpa using List.all_eq_true.1 hall t hm)⟩)
  Qp
end Go.Proofs.YtfpipcafiocdoaaGreatDoor
