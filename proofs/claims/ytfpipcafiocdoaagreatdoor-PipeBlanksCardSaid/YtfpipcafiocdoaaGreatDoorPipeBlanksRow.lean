/- PipeBlanks returns true for every input; the package-level variables that it reads start as the program's text lays them. -/
import Derived.Test.YtfpipcafiocdoaaGreatDoorPartBQ
import Derived.Test.YtfpipcafiocdoaaGreatDoorPartBS
import Derived.Test.YtfpipcafiocdoaaGreatDoorPartBU
import Derived.Test.YtfpipcafiocdoaaGreatDoorCards
import Derived.Test.YtfpipcafiocdoaaGreatDoorTie
namespace Go.Proofs.YtfpipcafiocdoaaGreatDoor
open Go.ChangeShapes Go.WideShapes Go.ChangeAt Go.RowKit Go.Dec
set_option maxRecDepth 100000 in
theorem Gf (os : Os) (started : os.Started) (H : Type) (enc : TypeId × Value -> H) :
  ReturnsInHanded {} Tryz.checked os 4 .any (fun w args => (Rows.pipeBlanksSpec.pre enc Tryz.prog Tryz.f4 [] false w args ∧ laidMetH Tryz.prog tC w) ∧ sizedMet enc Tryz.prog Tryz.f4 (OpenSpec.ofChange Rows.pipeBlanksSpec) false w args)
   (Rows.pipeBlanksSpec.post enc Tryz.prog Tryz.f4 false true false false):=by
 refine mH (C:=Tryz.checked) (X:=fun w _ => laidMetH Tryz.prog tC w) (fun _ _ _ hh h => h.of_heap hh) Tryz.own started (by kernel_rfl) Tryz.func4
  (ChangeSpec.witness_shaped (enc:=enc) (C:=Tryz.checked) (os:=os) (X:=fun w _ => laidMetH Tryz.prog tC w) false (World.laidAll Tryz.prog os tC) #[.slice none 0 0,.slice none 0 0] 8 (World.laidAll_os _ _ _) (World.shaped_of_ZipB (by kernel_rfl) (by kernel_rfl)) (by kernel_rfl) (by kernel_rfl) (by kernel_rfl) (zHa os _)) ?_
 intro W base args ds gs before hval hW hsh hL
 exact Uo (P:=Tryz.prog) (fn:=Tryz.f4) rfl Tryz.underlying4 (by kernel_rfl) (by kernel_rfl) (by kernel_rfl) Tryz.laidOut rfl
  (fun ds hds => by
   match ds,hds with
   | [d0,d1],_ => exact ⟨rfl,rfl,rfl⟩)
  (wU) (fun x hx => wV x hx) (zLc hsh hL) hval hW
theorem Ns : Rows.PipeBlanksSaid :=
 OpenClaim.holds_of_wide 4 Tryz.f4 rfl rfl rfl rfl rfl rfl rfl ⟨rfl,rfl,rfl,rfl,rfl⟩ rfl rfl rfl rfl rfl Az Tryz.func4 Gg
  Jv Jw (fun os started H enc _ => Gf os started H enc)
theorem Sz : Rows.pipeBlanksRow.wfByText (OpenSpec.ofChange Rows.pipeBlanksSpec) = true:=by kernel_rfl
theorem Jy : false = Rows.pipeBlanksRow.goesBy Tryz.prog:=zEu zEv _
theorem pipeBlanks_holds : Rows.PipeBlanksCardSaid :=
 Claim7.holds_tied_plain_at .later [] [.data,.data,.data,.data,.sentinel,.sentinel,.pinned] true (true, "b6718b1d7f83dc98d55f6238e8b758fde93d3956ddfe19c1fc1c1b3cce4cbd11") true
  Ns (fun _ h => by cases h) Sz (fun _ h => by cases h) pipeBlanks_row_tie rfl ⟨rfl,rfl⟩ zEw rfl
  (fun f fn hf hfn => by
   obtain rfl : f = 4:=Option.some.inj (Az.symm.trans hf) |>.symm
   obtain rfl : fn = Tryz.f4:=(Option.some.inj (Tryz.func4.symm.trans hfn)).symm
   exact ⟨zBc,fun j t ht => by
    rw [Tryz.params4] at ht
    have hm : t ∈ [22,32]:=by simpa using Array.mem_of_getElem? ht
    have hall : ([22,32].all fun u => !Tryz.prog.wantsStandIn u) = true:=by kernel_rfl
    exact (show Tryz.prog.wantsStandIn t = false by simpa using List.all_eq_true.1 hall t hm)⟩)
  Jy
end Go.Proofs.YtfpipcafiocdoaaGreatDoor
