/- EreShows returns true for every input; the package-level variables that it reads start as the program's text lays them. -/
import Derived.Test.YthhbdkdofhhoeaaGreatDoorPartBF
import Derived.Test.YthhbdkdofhhoeaaGreatDoorPartBU
import Derived.Test.YthhbdkdofhhoeaaGreatDoorPartBV
import Derived.Test.YthhbdkdofhhoeaaGreatDoorCards
import Derived.Test.YthhbdkdofhhoeaaGreatDoorTie
namespace Go.Proofs.YthhbdkdofhhoeaaGreatDoor
open Go.ChangeShapes Go.WideShapes Go.ChangeAt Go.RowKit Go.Dec
set_option maxRecDepth 100000 in
theorem Zf(os:Os)(started:os.Started)(H:Type)(enc:TypeId × Value->H):ReturnsInHanded {} Tryz.checked os 15 .any (λw args=>(Rows.ereShowsSpec.pre enc Tryz.prog Tryz.f15 [] false w args/\laidMetH Tryz.prog Dp w)/\sizedMet enc Tryz.prog Tryz.f15 (OpenSpec.ofChange Rows.ereShowsSpec) false w args)
  (Rows.ereShowsSpec.post enc Tryz.prog Tryz.f15 false true false false):=by
 refine uG (C:=Tryz.checked) (X:=λw _=>laidMetH Tryz.prog Dp w) (λ_ _ _ hh h=>h.of_heap hh) Tryz.own started (by kernel_rfl) Tryz.func15
  (ChangeSpec.witness_shaped (enc:=enc) (C:=Tryz.checked) (os:=os) (X:=λw _=>laidMetH Tryz.prog Dp w) false (World.laidAll Tryz.prog os Dp) #[.agg #[.int .u64 0,.int .u64 0,.int .u64 0,.int .u64 0]] 8 (World.laidAll_os _ _ _) (World.shaped_of_ZipB (by kernel_rfl) (by kernel_rfl)) (by kernel_rfl) (by kernel_rfl) (by kernel_rfl) (zVx os _)) ?_
 intro W base args ds gs before hval hW hsh hL;exact zHy (P:=Tryz.prog) (fn:=Tryz.f15) rfl Tryz.underlying4 (by kernel_rfl) (by kernel_rfl) (by kernel_rfl) Tryz.laidOut rfl
  (λds hds=>by
   match ds,hds with
   |[d0],_=>exact⟨rfl,rfl,rfl⟩)
  (Oz 200000) (λx hx=>Lv x hx) (yAf hsh hL) hval hW
theorem zHz:Rows.EreShowsSaid :=
 OpenClaim.holds_of_wide 15 Tryz.f15 rfl rfl rfl rfl rfl rfl rfl ⟨rfl,rfl,rfl,rfl,rfl⟩ rfl rfl rfl rfl rfl (by kernel_rfl) Tryz.func15 (by kernel_rfl)
  (of_decide_eq_true (by kernel_rfl)) (by unfold Func.isWrapper;first|(rw[if_pos (by decide +kernel)];kernel_rfl)|(rw[if_neg (by decide +kernel)];exact⟨rfl,rfl⟩))
  (λos started H enc _=>Zf os started H enc)
theorem ereShows_holds:Rows.EreShowsCardSaid :=
 Claim7.holds_tied_plain_at .later [] [.data,.data,.data,.sentinel,.sentinel] true (true, "2058fe28bd3587e78d5d8a510f3afb2d82e63769ba928e9f0e41bc3d9d680675") true
  zHz (λ_ h=>by cases h) (by kernel_rfl) (λ_ h=>by cases h) ereShows_row_tie rfl ⟨rfl,rfl⟩ (by kernel_rfl) rfl
  (λf fn hf hfn=>by
   obtain rfl:f=15:=Option.some.inj ((show Tryz.prog.funcNamed "calender/calenderlaw05.EreShows" = some 15 by kernel_rfl).symm.trans hf) |>.symm
   obtain rfl:fn=Tryz.f15:=(Option.some.inj (Tryz.func15.symm.trans hfn)).symm;exact⟨by kernel_rfl,λj t ht=>by
    rw[Tryz.params15]at ht;have hm:t∈[25]:=by simpa using Array.mem_of_getElem? ht
    have hall:([25].all λu=>!Tryz.prog.wantsStandIn u)=true:=by kernel_rfl
    exact(show Tryz.prog.wantsStandIn t=false by simpa using List.all_eq_true.1 hall t hm)⟩)
  (by kernel_rfl)
end Go.Proofs.YthhbdkdofhhoeaaGreatDoor
