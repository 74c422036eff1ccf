/- TopList returns true for every input of bulk at most 1048576; the package-level variables that it reads start as the program's text lays them. -/
import Derived.Test.YtdgneppobefaoaaGreatDoorPartBU
import Derived.Test.YtdgneppobefaoaaGreatDoorPartBV
import Derived.Test.YtdgneppobefaoaaGreatDoorPartBX
import Derived.Test.YtdgneppobefaoaaGreatDoorPartBZ
import Derived.Test.YtdgneppobefaoaaGreatDoorCards
import Derived.Test.YtdgneppobefaoaaGreatDoorTie
import Derived.Deep.DeepHandedRow
namespace Go.Proofs.YtdgneppobefaoaaGreatDoor
open Go.ChangeShapes Go.WideShapes Go.ChangeAt Go.RowKit Go.Dec
set_option maxRecDepth 100000 in
theorem Tj (os:Os) (started:os.Started) (H:Type) (enc:TypeId × Value->H) (Fi:Stop.Interp) :
  ReturnsInHanded {} Tryz.checked os 8 .any (iG.preRow enc Tryz.prog Tryz.f8 [] false zT) ((iG.at Fi).post enc Tryz.prog Tryz.f8 false true false false):=by
 refine returnsInHanded_of_row (C:=Tryz.checked) Tryz.own started (by kernel_rfl) Tryz.func8 ?_ ?_
 ·have hok:Input.okWideB Tryz.prog ((World.laidAll Tryz.prog os zT).forCall (fun _ _=>0) ⟨#[],#[.string ⟨#[]⟩],[]⟩) 8 ⟨#[],#[.string ⟨#[]⟩],[]⟩=true:=by kernel_rfl
  have hw:DataW.whole enc Tryz.prog ((World.laidAll Tryz.prog os zT).forCall (fun _ _=>0) ⟨#[],#[.string ⟨#[]⟩],[]⟩).memory Tryz.f8.params.toList iG.vars false #[.string ⟨#[]⟩].toList 8=some ([.lit (.string [])],[],[]):=by kernel_rfl
  have hsz:Rows.topListSpec.sizedB enc Tryz.prog Tryz.f8 false ((World.laidAll Tryz.prog os zT).forCall (fun _ _=>0) ⟨#[],#[.string ⟨#[]⟩],[]⟩).memory #[.string ⟨#[]⟩] 8=true:=by kernel_rfl
  exact ⟨World.laidAll Tryz.prog os zT,fun _ _=>0,⟨#[],#[.string ⟨#[]⟩],[]⟩,World.laidAll_os _ _ _,World.shaped_of_ZipB (by kernel_rfl) (by kernel_rfl),(Input.okWide_of_okWideB (base:=0) hok).1,(Input.okWide_of_okWideB hok).2,
   ⟨⟨(OpenSpec.pre_some rfl [] false _ _).2 ⟨_,_,_,DataW.Whole_of_whole hw,rfl,by kernel_rfl⟩,yDl os _⟩,sizedMet_of_sizedB hsz⟩,by
    simp only [Assume.holds]
    exact ⟨by simp,by simp,fun _=>Modest.zero,by simp,by simp⟩⟩
 ·intro W base args ds gs before hval hW _ hk _ hL hsh _
  have hsm:=of_decide_eq_true (hk Rows.uptoSmall rfl)
  refine zBu (φ:=fun x:List UInt8=>x.length < 1048576) (P:=Tryz.prog) (fn:=Tryz.f8) (s:=iG.at Fi) rfl Tryz.underlying4 (by kernel_rfl) (by kernel_rfl) (by kernel_rfl) Tryz.laidOut rfl
   (fun ds hds=>by
    match ds,hds with
    | [d0],_=>exact ⟨rfl,rfl,rfl⟩)
   (Zo 2000) (fun x _ h=>Yh x h) (yJa hsh hL) hval hW (fun x hx=>?_)
  obtain ⟨u,hu,hv⟩:=hx
  simp only [Ty.gG,Ty.isAgg,Bool.false_eq_true,if_false,Ty.Rel,aL,and_true] at hv
  subst hv
  obtain ⟨p,q,hA,_⟩:=hW
  rw [hu,show Tryz.f8.params.toList=_ from rfl] at hA
  obtain ⟨r,rfl⟩:=yDm (by kernel_rfl) hA
  simp only [List.cons_append,Rows.uptoBulkAll,Rows.uptoBulk] at hsm
  omega
theorem zBv:Rows.TopListUptoSaid :=
 OpenClaim.holds_of_cond 8 Tryz.f8 rfl rfl rfl rfl rfl rfl rfl ⟨rfl,rfl,rfl,rfl,rfl⟩ rfl rfl rfl rfl rfl Ma Tryz.func8 Tm
  Zp Zq (fun os started H enc _ Fi=>by rw [OpenClaim.pre_eq_preRow]; exact Tj os started H enc Fi)
theorem zGg:Rows.topListUptoRow.wfByText iG=true:=by kernel_rfl
theorem Zr:false=Rows.topListUptoRow.goesBy Tryz.prog:=yAf yAg _
theorem topListUpto_holds:Rows.TopListUptoCardSaid :=
 Claim7.holds_tied_plain_at .later [] [.data,.data,.data,.data,.sentinel,.sentinel,.pinned] true (true, "e6aad9f3a8325d1ef16cfdd012d602806642ca6149caa395510a66e5fa28b4af") true
  zBv (fun _ h=>by cases h) zGg (fun _ h=>by cases h) topListUpto_row_tie rfl ⟨rfl,rfl⟩ yAh rfl
  (fun f fn hf hfn=>by
   obtain rfl:f=8:=Option.some.inj (Ma.symm.trans hf) |>.symm
   obtain rfl:fn=Tryz.f8:=(Option.some.inj (Tryz.func8.symm.trans hfn)).symm
   exact ⟨zVh,fun j t ht=>by
    rw [Tryz.params8] at ht
    have hm:t ∈ [9]:=by simpa using Array.mem_of_getElem? ht
    have hall:([9].all fun u=>!Tryz.prog.wantsStandIn u)=true:=by kernel_rfl
    exact (show Tryz.prog.wantsStandIn t=false by simpa using List.all_eq_true.1 hall t hm)⟩)
  Zr
end Go.Proofs.YtdgneppobefaoaaGreatDoor
