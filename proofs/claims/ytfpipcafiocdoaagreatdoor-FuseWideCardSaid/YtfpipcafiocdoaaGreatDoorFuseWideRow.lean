/- FuseWide returns true for every input; the package-level variables that it reads start as the program's text lays them. -/
import Derived.Test.YtfpipcafiocdoaaGreatDoorPfrtBS
import Derived.Test.YtfpipcafiocdoaaGreatDoorPfrtBU
import Derived.Test.YtfpipcafiocdoaaGreatDoorPfrtBW
import Derived.Test.YtfpipcafiocdoaaGreatDoorPfrtBY
import Derived.Test.YtfpipcafiocdoaaGreatDoorCards
import Derived.Test.YtfpipcafiocdoaaGreatDoorTie
namespace Go.Proofs.YtfpipcafiocdoaaGreatDoor
open Go.ChangeShapes Go.WideShapes Go.ChangeAt Go.RowKit Go.Dec
set_option maxRecDepth 100000 in
theorem Qj (os:Os) (started:os.Started) (H:Type) (enc:TypeId × Value->H) :
  ReturnsInHanded {} Tryz.checked os 8 .any (fun w args=>(Rows.fuseWideSpec.pre enc Tryz.prog Tryz.f8 [] false w args∧laidMetH Tryz.prog wO w)∧sizedMet enc Tryz.prog Tryz.f8 (OpenSpec.ofChange Rows.fuseWideSpec) false w args)
   (Rows.fuseWideSpec.post enc Tryz.prog Tryz.f8 false true false false):=by
 refine nY (C:=Tryz.checked) (X:=fun w _=>laidMetH Tryz.prog wO w) (fun _ _ _ hh h=>h.of_heap hh) Tryz.own started (by kernel_rfl) Tryz.func8
  (ChangeSpec.witness_shaped (enc:=enc) (C:=Tryz.checked) (os:=os) (X:=fun w _=>laidMetH Tryz.prog wO w) false (World.laidAll Tryz.prog os wO) #[.string ⟨#[]⟩,.int .u8 0,.bool false] 8 (World.laidAll_os _ _ _) (World.shaped_of_ZipB (by kernel_rfl) (by kernel_rfl)) (by kernel_rfl) (by kernel_rfl) (by kernel_rfl) (zPc os _)) ?_
 intro W base args ds gs before hval hW hsh hL
 exact Zj (P:=Tryz.prog) (fn:=Tryz.f8) rfl Tryz.underlying4 (by kernel_rfl) (by kernel_rfl) (by kernel_rfl) Tryz.laidOut rfl
  (fun ds hds=>by
   match ds,hds with
   | [d0,d1,d2],_=>exact ⟨rfl,rfl,rfl⟩)
  (He 2000) (fun x hx=>Mk x hx) (zUg hsh hL) hval hW
theorem Zk:Rows.FuseWideSaid :=
 OpenClaim.holds_of_wide 8 Tryz.f8 rfl rfl rfl rfl rfl rfl rfl ⟨rfl,rfl,rfl,rfl,rfl⟩ rfl rfl rfl rfl rfl Mr Tryz.func8 Qk
  Yd Ye (fun os started H enc _=>Qj os started H enc)
theorem zEs:Rows.fuseWideRow.wfByText (OpenSpec.ofChange Rows.fuseWideSpec)=true:=by kernel_rfl
theorem Yf:false=Rows.fuseWideRow.goesBy Tryz.prog:=zMe zMf _
theorem fuseWide_holds:Rows.FuseWideCardSaid :=
 Claim7.holds_tied_plain_at .later [] [.data,.data,.data,.data,.sentinel,.sentinel,.pinned] true (true, "b6718b1d7f83dc98d55f6238e8b758fde93d3956ddfe19c1fc1c1b3cce4cbd11") true
  Zk (fun _ h=>by cases h) zEs (fun _ h=>by cases h) fuseWide_row_tie rfl ⟨rfl,rfl⟩ zMg rfl
  (fun f fn hf hfn=>by
   obtain rfl:f=8:=Option.some.inj (Mr.symm.trans hf) |>.symm
   obtain rfl:fn=Tryz.f8:=(Option.some.inj (Tryz.func8.symm.trans hfn)).symm
   exact ⟨zHw,fun j t ht=>by
    rw [Tryz.params8] at ht
    have hm:t ∈ [9,5,4]:=by simpa using Array.mem_of_getElem? ht
    have hall:([9,5,4].all fun u=>!Tryz.prog.wantsStandIn u)=true:=by kernel_rfl
    exact (show Tryz.prog.wantsStandIn t=false by simpa using List.all_eq_true.1 hall t hm)⟩)
  Yf
end Go.Proofs.YtfpipcafiocdoaaGreatDoor
