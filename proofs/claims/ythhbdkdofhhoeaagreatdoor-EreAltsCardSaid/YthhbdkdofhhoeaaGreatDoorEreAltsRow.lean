/- EreAlts returns true for every input; the package-level variables that it reads start as the program's text lays them. -/
import Derived.Test.YthhbdkdofhhoeaaGreatDoorPartBF
import Derived.Test.YthhbdkdofhhoeaaGreatDoorPartBU
import Derived.Test.YthhbdkdofhhoeaaGreatDoorPartBV
import Derived.Test.YthhbdkdofhhoeaaGreatDoorCards
import Derived.Test.YthhbdkdofhhoeaaGreatDoorTie
namespace Go.Proofs.YthhbdkdofhhoeaaGreatDoor
open Go.ChangeShapes Go.WideShapes Go.ChangeAt Go.RowKit Go.Dec
set_option maxRecDepth 100000 in
theorem zAa(os:Os)(started:os.Started)(H:Type)(enc:TypeId × Value->H):ReturnsInHanded {} Tryz.checked os 13 .any (λw args=>(Rows.ereAltsSpec.pre enc Tryz.prog Tryz.f13 [] false w args/\laidMetH Tryz.prog Cm w)/\sizedMet enc Tryz.prog Tryz.f13 (OpenSpec.ofChange Rows.ereAltsSpec) false w args)
  (Rows.ereAltsSpec.post enc Tryz.prog Tryz.f13 false true false false):=by
 refine uH (C:=Tryz.checked) (X:=λw _=>laidMetH Tryz.prog Cm w) (λ_ _ _ hh h=>h.of_heap hh) Tryz.own started (by kernel_rfl) Tryz.func13
  (ChangeSpec.witness_shaped (enc:=enc) (C:=Tryz.checked) (os:=os) (X:=λw _=>laidMetH Tryz.prog Cm w) false (World.laidAll Tryz.prog os Cm) #[.string ⟨#[]⟩,.string ⟨#[]⟩] 8 (World.laidAll_os _ _ _) (World.shaped_of_ZipB (by kernel_rfl) (by kernel_rfl)) (by kernel_rfl) (by kernel_rfl) (by kernel_rfl) (zSn os _)) ?_
 intro W base args ds gs before hval hW hsh hL;exact zFn (P:=Tryz.prog) (fn:=Tryz.f13) rfl Tryz.underlying4 (by kernel_rfl) (by kernel_rfl) (by kernel_rfl) Tryz.laidOut rfl
  (λds hds=>by
   match ds,hds with
   |[d0,d1],_=>exact⟨rfl,rfl,rfl⟩)
  (Nh 200000) (λx hx=>Mv x hx) (zXa hsh hL) hval hW
theorem zJt:Rows.EreAltsSaid :=
 OpenClaim.holds_of_wide 13 Tryz.f13 rfl rfl rfl rfl rfl rfl rfl ⟨rfl,rfl,rfl,rfl,rfl⟩ rfl rfl rfl rfl rfl (by kernel_rfl) Tryz.func13 (by kernel_rfl)
  (of_decide_eq_true (by kernel_rfl)) (by unfold Func.isWrapper;first|(rw[if_pos (by decide +kernel)];kernel_rfl)|(rw[if_neg (by decide +kernel)];exact⟨rfl,rfl⟩))
  (λos started H enc _=>zAa os started H enc)
theorem ereAlts_holds:Rows.EreAltsCardSaid :=
 Claim7.holds_tied_plain_at .later [] [.data,.data,.data,.sentinel,.sentinel] true (true, "2058fe28bd3587e78d5d8a510f3afb2d82e63769ba928e9f0e41bc3d9d680675") true
  zJt (λ_ h=>by cases h) (by kernel_rfl) (λ_ h=>by cases h) ereAlts_row_tie rfl ⟨rfl,rfl⟩ (by kernel_rfl) rfl
  (λf fn hf hfn=>by
   obtain rfl:f=13:=Option.some.inj ((show Tryz.prog.funcNamed "calender/calenderlaw05.EreAlts" = some 13 by kernel_rfl).symm.trans hf) |>.symm
   obtain rfl:fn=Tryz.f13:=(Option.some.inj (Tryz.func13.symm.trans hfn)).symm;exact⟨by kernel_rfl,λj t ht=>by
    rw[Tryz.params13]at ht;have hm:t∈[9,9]:=by simpa using Array.mem_of_getElem? ht
    have hall:([9,9].all λu=>!Tryz.prog.wantsStandIn u)=true:=by kernel_rfl
    exact(show Tryz.prog.wantsStandIn t=false by simpa using List.all_eq_true.1 hall t hm)⟩)
  (by kernel_rfl)
end Go.Proofs.YthhbdkdofhhoeaaGreatDoor
