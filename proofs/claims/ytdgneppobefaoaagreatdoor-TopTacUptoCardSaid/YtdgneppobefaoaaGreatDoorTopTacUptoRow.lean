/- TopTac returns true for every input of bulk at most 1048576; the package-level variables that it reads start as the program's text lays them. -/
import Derived.Test.YtdgneppobefaoaaGreatDoorPartBT
import Derived.Test.YtdgneppobefaoaaGreatDoorPartBU
import Derived.Test.YtdgneppobefaoaaGreatDoorPartBW
import Derived.Test.YtdgneppobefaoaaGreatDoorPartBY
import Derived.Test.YtdgneppobefaoaaGreatDoorCards
import Derived.Test.YtdgneppobefaoaaGreatDoorTie
import Derived.Deep.DeepHandedRow
namespace Go.Proofs.YtdgneppobefaoaaGreatDoor
open Go.ChangeShapes Go.WideShapes Go.ChangeAt Go.RowKit Go.Dec
set_option maxRecDepth 100000 in
theorem Vz (os:Os) (started:os.Started) (H:Type) (enc:TypeId × Value->H) (Fi:Stop.Interp) :
  ReturnsInHanded {} Tryz.checked os 3 .any (iT.preRow enc Tryz.prog Tryz.f3 [] false zA) ((iT.at Fi).post enc Tryz.prog Tryz.f3 false true false false):=by
 refine returnsInHanded_of_row (C:=Tryz.checked) Tryz.own started (by kernel_rfl) Tryz.func3 ?_ ?_
 ·have hok:Input.okWideB Tryz.prog ((World.laidAll Tryz.prog os zA).forCall (fun _ _=>0) ⟨#[],#[.string ⟨#[]⟩],[]⟩) 3 ⟨#[],#[.string ⟨#[]⟩],[]⟩=true:=by kernel_rfl
  have hw:DataW.whole enc Tryz.prog ((World.laidAll Tryz.prog os zA).forCall (fun _ _=>0) ⟨#[],#[.string ⟨#[]⟩],[]⟩).memory Tryz.f3.params.toList iT.vars false #[.string ⟨#[]⟩].toList 8=some ([.lit (.string [])],[],[]):=by kernel_rfl
  have hsz:Rows.topTacSpec.sizedB enc Tryz.prog Tryz.f3 false ((World.laidAll Tryz.prog os zA).forCall (fun _ _=>0) ⟨#[],#[.string ⟨#[]⟩],[]⟩).memory #[.string ⟨#[]⟩] 8=true:=by kernel_rfl
  exact ⟨World.laidAll Tryz.prog os zA,fun _ _=>0,⟨#[],#[.string ⟨#[]⟩],[]⟩,World.laidAll_os _ _ _,World.shaped_of_ZipB (by kernel_rfl) (by kernel_rfl),(Input.okWide_of_okWideB (base:=0) hok).1,(Input.okWide_of_okWideB hok).2,
   ⟨⟨(OpenSpec.pre_some rfl [] false _ _).2 ⟨_,_,_,DataW.Whole_of_whole hw,rfl,by kernel_rfl⟩,zZi os _⟩,sizedMet_of_sizedB hsz⟩,by
    simp only [Assume.holds]
    exact ⟨by simp,by simp,fun _=>Modest.zero,by simp,by simp⟩⟩
 ·intro W base args ds gs before hval hW _ hk _ hL hsh _
  have hsm:=of_decide_eq_true (hk Rows.uptoSmall rfl)
  refine Zm (φ:=fun x:List UInt8=>x.length < 1048576) (P:=Tryz.prog) (fn:=Tryz.f3) (s:=iT.at Fi) rfl Tryz.underlying4 (by kernel_rfl) (by kernel_rfl) (by kernel_rfl) Tryz.laidOut rfl
   (fun ds hds=>by
    match ds,hds with
    | [d0],_=>exact ⟨rfl,rfl,rfl⟩)
   (Zn 2000) (fun x _ h=>Xl x h) (yEu hsh hL) hval hW (fun x hx=>?_)
  obtain ⟨u,hu,hv⟩:=hx
  simp only [Ty.gZ,Ty.isAgg,Bool.false_eq_true,if_false,Ty.Rel,List.cons.injEq,and_true] at hv
  subst hv
  obtain ⟨p,q,hA,_⟩:=hW
  rw [hu,show Tryz.f3.params.toList=_ from rfl] at hA
  obtain ⟨r,rfl⟩:=zZj (by kernel_rfl) hA
  simp only [List.cons_append,Rows.uptoBulkAll,Rows.uptoBulk] at hsm
  omega
theorem zDd:Rows.TopTacUptoSaid :=
 OpenClaim.holds_of_cond 3 Tryz.f3 rfl rfl rfl rfl rfl rfl rfl ⟨rfl,rfl,rfl,rfl,rfl⟩ rfl rfl rfl rfl rfl Ql Tryz.func3 Wd
  Zo Zp (fun os started H enc _ Fi=>by rw [OpenClaim.pre_eq_preRow]; exact Vz os started H enc Fi)
theorem zHt:Rows.topTacUptoRow.wfByText iT=true:=by kernel_rfl
theorem Zq:false=Rows.topTacUptoRow.goesBy Tryz.prog:=zWj zWk _
theorem topTacUpto_holds:Rows.TopTacUptoCardSaid :=
 Claim7.holds_tied_plain_at .later [] [.data,.data,.data,.data,.sentinel,.sentinel,.pinned] true (true, "e6aad9f3a8325d1ef16cfdd012d602806642ca6149caa395510a66e5fa28b4af") true
  zDd (fun _ h=>by cases h) zHt (fun _ h=>by cases h) topTacUpto_row_tie rfl ⟨rfl,rfl⟩ zWl rfl
  (fun f fn hf hfn=>by
   obtain rfl:f=3:=Option.some.inj (Ql.symm.trans hf) |>.symm
   obtain rfl:fn=Tryz.f3:=(Option.some.inj (Tryz.func3.symm.trans hfn)).symm
   exact ⟨zRs,fun j t ht=>by
    rw [Tryz.params3] at ht
    have hm:t ∈ [9]:=by simpa using Array.mem_of_getElem? ht
    have hall:([9].all fun u=>!Tryz.prog.wantsStandIn u)=true:=by kernel_rfl
    exact (show Tryz.prog.wantsStandIn t=false by simpa using List.all_eq_true.1 hall t hm)⟩)
  Zq
end Go.Proofs.YtdgneppobefaoaaGreatDoor
