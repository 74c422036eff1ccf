/- ErePrints returns true for every input; the package-level variables that it reads start as the program's text lays them. -/
import Derived.Test.YthhbdkdofhhoeaaGreatDoorPartBF
import Derived.Test.YthhbdkdofhhoeaaGreatDoorPartBS
import Derived.Test.YthhbdkdofhhoeaaGreatDoorPartBT
import Derived.Test.YthhbdkdofhhoeaaGreatDoorCards
import Derived.Test.YthhbdkdofhhoeaaGreatDoorTie
namespace Go.Proofs.YthhbdkdofhhoeaaGreatDoor
open Go.ChangeShapes Go.WideShapes Go.ChangeAt Go.RowKit Go.Dec
set_option maxRecDepth 100000 in
theorem zGd(os:Os)(started:os.Started)(H:Type)(enc:TypeId × Value->H):ReturnsInHanded {} Tryz.checked os 11 .any (λw args=>(Rows.erePrintsSpec.pre enc Tryz.prog Tryz.f11 [] false w args/\laidMetH Tryz.prog Lu w)/\sizedMet enc Tryz.prog Tryz.f11 (OpenSpec.ofChange Rows.erePrintsSpec) false w args)
  (Rows.erePrintsSpec.post enc Tryz.prog Tryz.f11 false true false false):=by
 refine yX (C:=Tryz.checked) (X:=λw _=>laidMetH Tryz.prog Lu w) (λ_ _ _ hh h=>h.of_heap hh) Tryz.own started (by kernel_rfl) Tryz.func11
  (ChangeSpec.witness_shaped (enc:=enc) (C:=Tryz.checked) (os:=os) (X:=λw _=>laidMetH Tryz.prog Lu w) false (World.laidAll Tryz.prog os Lu) #[.slice none 0 0] 8 (World.laidAll_os _ _ _) (World.shaped_of_ZipB (by kernel_rfl) (by kernel_rfl)) (by kernel_rfl) (by kernel_rfl) (by kernel_rfl) (yKl os _)) ?_
 intro W base args ds gs before hval hW hsh hL;exact zTv (P:=Tryz.prog) (fn:=Tryz.f11) rfl Tryz.underlying4 (by kernel_rfl) (by kernel_rfl) (by kernel_rfl) Tryz.laidOut rfl
  (λds hds=>by
   match ds,hds with
   |[d0],_=>exact⟨rfl,rfl,rfl⟩)
  (Vl 200000) (λx hx=>Tp x hx) (yPm hsh hL) hval hW
theorem zRo:Rows.ErePrintsSaid :=
 OpenClaim.holds_of_wide 11 Tryz.f11 rfl rfl rfl rfl rfl rfl rfl ⟨rfl,rfl,rfl,rfl,rfl⟩ rfl rfl rfl rfl rfl (by kernel_rfl) Tryz.func11 (by kernel_rfl)
  (of_decide_eq_true (by kernel_rfl)) (by unfold Func.isWrapper;first|(rw[if_pos (by decide +kernel)];kernel_rfl)|(rw[if_neg (by decide +kernel)];exact⟨rfl,rfl⟩))
  (λos started H enc _=>zGd os started H enc)
theorem erePrints_holds:Rows.ErePrintsCardSaid :=
 Claim7.holds_tied_plain_at .later [] [.data,.data,.data,.sentinel,.sentinel] true (true, "2058fe28bd3587e78d5d8a510f3afb2d82e63769ba928e9f0e41bc3d9d680675") true
  zRo (λ_ h=>by cases h) (by kernel_rfl) (λ_ h=>by cases h) erePrints_row_tie rfl ⟨rfl,rfl⟩ (by kernel_rfl) rfl
  (λf fn hf hfn=>by
   obtain rfl:f=11:=Option.some.inj ((show Tryz.prog.funcNamed "calender/calenderlaw05.ErePrints" = some 11 by kernel_rfl).symm.trans hf) |>.symm
   obtain rfl:fn=Tryz.f11:=(Option.some.inj (Tryz.func11.symm.trans hfn)).symm;exact⟨by kernel_rfl,λj t ht=>by
    rw[Tryz.params11]at ht;have hm:t∈[35]:=by simpa using Array.mem_of_getElem? ht
    have hall:([35].all λu=>!Tryz.prog.wantsStandIn u)=true:=by kernel_rfl
    exact(show Tryz.prog.wantsStandIn t=false by simpa using List.all_eq_true.1 hall t hm)⟩)
  (by kernel_rfl)
end Go.Proofs.YthhbdkdofhhoeaaGreatDoor
