/- EreBack returns true for every input; the package-level variables that it reads start as the program's text lays them. -/
import Derived.Test.YthhbdkdofhhoeaaGreatDoorPartBF
import Derived.Test.YthhbdkdofhhoeaaGreatDoorPartBT
import Derived.Test.YthhbdkdofhhoeaaGreatDoorPartBU
import Derived.Test.YthhbdkdofhhoeaaGreatDoorCards
import Derived.Test.YthhbdkdofhhoeaaGreatDoorTie
namespace Go.Proofs.YthhbdkdofhhoeaaGreatDoor
open Go.ChangeShapes Go.WideShapes Go.ChangeAt Go.RowKit Go.Dec
set_option maxRecDepth 100000 in
theorem zCq (os:Os) (started:os.Started) (H:Type) (enc:TypeId × Value->H) :
  ReturnsInHanded {} Tryz.checked os 12 .any (fun w args=>(Rows.ereBackSpec.pre enc Tryz.prog Tryz.f12 [] false w args∧laidMetH Tryz.prog Ep w)∧sizedMet enc Tryz.prog Tryz.f12 (OpenSpec.ofChange Rows.ereBackSpec) false w args)
   (Rows.ereBackSpec.post enc Tryz.prog Tryz.f12 false true false false):=by
 refine vG (C:=Tryz.checked) (X:=fun w _=>laidMetH Tryz.prog Ep w) (fun _ _ _ hh h=>h.of_heap hh) Tryz.own started (by kernel_rfl) Tryz.func12
  (ChangeSpec.witness_shaped (enc:=enc) (C:=Tryz.checked) (os:=os) (X:=fun w _=>laidMetH Tryz.prog Ep w) false (World.laidAll Tryz.prog os Ep) #[.string ⟨#[]⟩] 8 (World.laidAll_os _ _ _) (World.shaped_of_ZipB (by kernel_rfl) (by kernel_rfl)) (by kernel_rfl) (by kernel_rfl) (by kernel_rfl) (zWx os _)) ?_
 intro W base args ds gs before hval hW hsh hL;exact zIj (P:=Tryz.prog) (fn:=Tryz.f12) rfl Tryz.underlying4 (by kernel_rfl) (by kernel_rfl) (by kernel_rfl) Tryz.laidOut rfl
  (fun ds hds=>by
   match ds,hds with
   | [d0],_=>exact ⟨rfl,rfl,rfl⟩)
  (Qk 200000) (fun x hx=>Qc x hx) (yBp hsh hL) hval hW
theorem zNe:Rows.EreBackSaid :=
 OpenClaim.holds_of_wide 12 Tryz.f12 rfl rfl rfl rfl rfl rfl rfl ⟨rfl,rfl,rfl,rfl,rfl⟩ rfl rfl rfl rfl rfl (by kernel_rfl) Tryz.func12 (by kernel_rfl)
  (of_decide_eq_true (by kernel_rfl)) (by unfold Func.isWrapper;first|(rw [if_pos (by decide +kernel)];kernel_rfl)|(rw [if_neg (by decide +kernel)];exact ⟨rfl,rfl⟩))
  (fun os started H enc _=>zCq os started H enc)
theorem ereBack_holds:Rows.EreBackCardSaid :=
 Claim7.holds_tied_plain_at .later [] [.data,.data,.data,.sentinel,.sentinel] true (true, "2058fe28bd3587e78d5d8a510f3afb2d82e63769ba928e9f0e41bc3d9d680675") true
  zNe (fun _ h=>by cases h) (by kernel_rfl) (fun _ h=>by cases h) ereBack_row_tie rfl ⟨rfl,rfl⟩ (by kernel_rfl) rfl
  (fun f fn hf hfn=>by
   obtain rfl:f=12:=Option.some.inj ((show Tryz.prog.funcNamed "calender/calenderlaw05.EreBack" = some 12 by kernel_rfl).symm.trans hf) |>.symm
   obtain rfl:fn=Tryz.f12:=(Option.some.inj (Tryz.func12.symm.trans hfn)).symm;exact ⟨by kernel_rfl,fun j t ht=>by
    rw [Tryz.params12] at ht;have hm:t∈[9]:=by simpa using Array.mem_of_getElem? ht
    have hall:([9].all fun u=>!Tryz.prog.wantsStandIn u)=true:=by kernel_rfl
    exact (show Tryz.prog.wantsStandIn t=false by simpa using List.all_eq_true.1 hall t hm)⟩)
  (by kernel_rfl)
end Go.Proofs.YthhbdkdofhhoeaaGreatDoor
