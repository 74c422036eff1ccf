/- ScriptWide returns true for every input; the package-level variables that it reads start as the program's text lays them. -/
import Derived.Test.YtdgneppobefaoaaGreatDoorPartBQ
import Derived.Test.YtdgneppobefaoaaGreatDoorPartBS
import Derived.Test.YtdgneppobefaoaaGreatDoorPartBU
import Derived.Test.YtdgneppobefaoaaGreatDoorCards
import Derived.Test.YtdgneppobefaoaaGreatDoorTie
namespace Go.Proofs.YtdgneppobefaoaaGreatDoor
open Go.ChangeShapes Go.WideShapes Go.ChangeAt Go.RowKit Go.Dec
set_option maxRecDepth 100000 in
theorem Mh (os:Os) (started:os.Started) (H:Type) (enc:TypeId × Value->H) :
  ReturnsInHanded {} Tryz.checked os 4 .any (fun w args=>(Rows.scriptWideSpec.pre enc Tryz.prog Tryz.f4 [] false w args∧laidMetH Tryz.prog xU w)∧sizedMet enc Tryz.prog Tryz.f4 (OpenSpec.ofChange Rows.scriptWideSpec) false w args)
   (Rows.scriptWideSpec.post enc Tryz.prog Tryz.f4 false true false false):=by
 refine qQ (C:=Tryz.checked) (X:=fun w _=>laidMetH Tryz.prog xU w) (fun _ _ _ hh h=>h.of_heap hh) Tryz.own started (by kernel_rfl) Tryz.func4
  (ChangeSpec.witness_shaped (enc:=enc) (C:=Tryz.checked) (os:=os) (X:=fun w _=>laidMetH Tryz.prog xU w) false (World.laidAll Tryz.prog os xU) #[.int .u16 0,.bool false,.bool false] 8 (World.laidAll_os _ _ _) (World.shaped_of_ZipB (by kernel_rfl) (by kernel_rfl)) (by kernel_rfl) (by kernel_rfl) (by kernel_rfl) (zOc os _)) ?_
 intro W base args ds gs before hval hW hsh hL
 exact Zt (P:=Tryz.prog) (fn:=Tryz.f4) rfl Tryz.underlying4 (by kernel_rfl) (by kernel_rfl) (by kernel_rfl) Tryz.laidOut rfl
  (fun ds hds=>by
   match ds,hds with
   | [d0,d1,d2],_=>exact ⟨rfl,rfl,rfl⟩)
  (Cu 5000) (fun x hx=>Yf x hx) (zSo hsh hL) hval hW
theorem Ua:Rows.ScriptWideSaid :=
 OpenClaim.holds_of_wide 4 Tryz.f4 rfl rfl rfl rfl rfl rfl rfl ⟨rfl,rfl,rfl,rfl,rfl⟩ rfl rfl rfl rfl rfl Hr Tryz.func4 Mi
  Qi Qj (fun os started H enc _=>Mh os started H enc)
theorem Yg:Rows.scriptWideRow.wfByText (OpenSpec.ofChange Rows.scriptWideSpec)=true:=by kernel_rfl
theorem Qk:false=Rows.scriptWideRow.goesBy Tryz.prog:=zKx zKy _
theorem scriptWide_holds:Rows.ScriptWideCardSaid :=
 Claim7.holds_tied_plain_at .later [] [.data,.data,.data,.data,.sentinel,.sentinel,.pinned] true (true, "e6aad9f3a8325d1ef16cfdd012d602806642ca6149caa395510a66e5fa28b4af") true
  Ua (fun _ h=>by cases h) Yg (fun _ h=>by cases h) scriptWide_row_tie rfl ⟨rfl,rfl⟩ zKz rfl
  (fun f fn hf hfn=>by
   obtain rfl:f=4:=Option.some.inj (Hr.symm.trans hf) |>.symm
   obtain rfl:fn=Tryz.f4:=(Option.some.inj (Tryz.func4.symm.trans hfn)).symm
   exact ⟨zGn,fun j t ht=>by
    rw [Tryz.params4] at ht
    have hm:t ∈ [30,4,4]:=by simpa using Array.mem_of_getElem? ht
    have hall:([30,4,4].all fun u=>!Tryz.prog.wantsStandIn u)=true:=by kernel_rfl
    exact (show Tryz.prog.wantsStandIn t=false by simpa using List.all_eq_true.1 hall t hm)⟩)
  Qk
end Go.Proofs.YtdgneppobefaoaaGreatDoor
