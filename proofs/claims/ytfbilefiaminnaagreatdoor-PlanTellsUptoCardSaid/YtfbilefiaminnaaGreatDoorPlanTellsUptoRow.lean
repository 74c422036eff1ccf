import Derived.Test.YtfbilefiaminnaaGreatDoorPtrtAV
import Derived.Deep.DeepHandedRow
open Go.Proofs.Tryz renaming prog->qEr
namespace Go.Proofs.YtfbilefiaminnaaGreatDoor
open Go.ChangeShapes Go.WideShapes Go.ChangeAt Go.RowKit Go.Dec
set_option maxRecDepth 100000 in
theorem zGe(os:Os)(started:os.Started)(H:Type)(enc:TypeId × Value->H)(Fi:Stop.Interp):ReturnsInHanded {} Tryz.checked os 3 .any (jL.preRow enc qEr Tryz.f3 [] false Rw) ((jL.at Fi).post enc qEr Tryz.f3 false true false false):=by
 refine returnsInHanded_of_row (C:=Tryz.checked) Tryz.own started (by kernel_rfl) Tryz.func3 ?_ ?_
 ·have hok:Input.okWideB qEr ((World.laidAll qEr os Rw).forCall (λ_ _=>0) ⟨#[],#[.slice none 0 0,.int .i64 0],[]⟩) 3 ⟨#[],#[.slice none 0 0,.int .i64 0],[]⟩=true:=by kernel_rfl
  have hw:DataW.whole enc qEr ((World.laidAll qEr os Rw).forCall (λ_ _=>0) ⟨#[],#[.slice none 0 0,.int .i64 0],[]⟩).memory Tryz.f3.params.toList jL.vars false #[.slice none 0 0,.int .i64 0].toList 8=some ([.nil,.lit (.int .i64 0)],[],[]):=by kernel_rfl
  have hsz:Rows.planTellsSpec.sizedB enc qEr Tryz.f3 false ((World.laidAll qEr os Rw).forCall (λ_ _=>0) ⟨#[],#[.slice none 0 0,.int .i64 0],[]⟩).memory #[.slice none 0 0,.int .i64 0] 8=true:=by kernel_rfl
  exact⟨World.laidAll qEr os Rw,λ_ _=>0,⟨#[],#[.slice none 0 0,.int .i64 0],[]⟩,World.laidAll_os _ _ _,World.shaped_of_ZipB (by kernel_rfl) (by kernel_rfl),(Input.okWide_of_okWideB (base:=0) hok).1,(Input.okWide_of_okWideB hok).2,
   ⟨⟨(OpenSpec.pre_some rfl [] false _ _).2 ⟨_,_,_,DataW.Whole_of_whole hw,rfl,by kernel_rfl⟩,yVn os _⟩,sizedMet_of_sizedB hsz⟩,by
    simp only[Assume.holds];exact⟨by simp,by simp,λ_=>Modest.zero,by simp,by simp⟩⟩
 ·intro W base args ds gs before hval hW _ hk _ hL hsh _;have hsm:=of_decide_eq_true (hk Rows.uptoSmall rfl);refine zTy (φ:=λx:List pm2 × Int=>x.1.length<=1048576) (P:=qEr) (fn:=Tryz.f3) (s:=jL.at Fi) rfl Tryz.underlying4 (by kernel_rfl) (by kernel_rfl) (by kernel_rfl) Tryz.laidOut rfl
   (λds hds=>by
    match ds,hds with
    |[d0,d1],_=>exact⟨rfl,rfl,rfl⟩)
   (zGf 2000000) (λx _ h=>yDr x h) (xBt hsh hL) hval hW (λx hx=>?_)
  obtain⟨u,us,hu,hv,_⟩:=hx;simp only[Ty.bW,Ty.isAgg,Bool.false_eq_true,if_false]at hv;obtain⟨p,q,hA,_⟩:=hW;rw[hu,show Tryz.f3.params.toList=_ from rfl]at hA;rcases yVo (e:=52) (by kernel_rfl) hv hA with h0|⟨el,sp,r,rfl,hl⟩
  ·rw[h0];exact Nat.zero_le _
  ·have hb:=yDs el;simp only[List.cons_append,Rows.uptoBulkAll,Rows.uptoBulk]at hsm;omega
theorem zOs:Rows.PlanTellsUptoSaid :=
 OpenClaim.holds_of_cond 3 Tryz.f3 rfl rfl rfl rfl rfl rfl rfl ⟨rfl,rfl,rfl,rfl,rfl⟩ rfl rfl rfl rfl rfl Ya Tryz.func3 zGg
  zKc zKd (λos started H enc _ Fi=>by rw[OpenClaim.pre_eq_preRow];exact zGe os started H enc Fi)
theorem zRe:Rows.planTellsUptoRow.wfByText jL=true:=by kernel_rfl
theorem zKe:false=Rows.planTellsUptoRow.goesBy qEr:=yRz ySa _
theorem planTellsUpto_holds:Rows.PlanTellsUptoCardSaid :=
 Claim7.holds_tied_plain_at .later [] [.data,.data,.data,.data,.sentinel,.sentinel,.pinned] true (true, "dfe17f9c19d21ccf4217b6a689cc7271847184ff5de463e33e01ed8087e7bd78") true
  zOs (λ_ h=>by cases h) zRe (λ_ h=>by cases h) planTellsUpto_row_tie rfl ⟨rfl,rfl⟩ ySb rfl
  (λf fn hf hfn=>by
   obtain rfl:f=3:=Option.some.inj (Ya.symm.trans hf) |>.symm
   obtain rfl:fn=Tryz.f3:=(Option.some.inj (Tryz.func3.symm.trans hfn)).symm;exact⟨yMy,λj t ht=>by
    rw[Tryz.params3]at ht;have hm:t∈[22,3]:=by simpa using Array.mem_of_getElem? ht
    have hall:([22,3].all λu=>!qEr.wantsStandIn u)=true:=by kernel_rfl
    exact(show qEr.wantsStandIn t=false by simpa using List.all_eq_true.1 hall t hm)⟩)
  zKe
end Go.Proofs.YtfbilefiaminnaaGreatDoor
