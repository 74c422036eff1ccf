/- FrontReports returns true for every input; the package-level variables that it reads start as the program's text lays them. -/
import Derived.Test.YtdgneppobefaoaaGreatDoorPartBR
import Derived.Test.YtdgneppobefaoaaGreatDoorPartBT
import Derived.Test.YtdgneppobefaoaaGreatDoorPartBV
import Derived.Test.YtdgneppobefaoaaGreatDoorCards
import Derived.Test.YtdgneppobefaoaaGreatDoorTie
namespace Go.Proofs.YtdgneppobefaoaaGreatDoor
open Go.ChangeShapes Go.WideShapes Go.ChangeAt Go.RowKit Go.Dec
set_option maxRecDepth 100000 in
theorem Cy (os:Os) (started:os.Started) (H:Type) (enc:TypeId × Value->H) :
  ReturnsInHanded {} Tryz.checked os 5 .any (fun w args=>(Rows.frontReportsSpec.pre enc Tryz.prog Tryz.f5 [] false w args∧laidMetH Tryz.prog uO w)∧sizedMet enc Tryz.prog Tryz.f5 (OpenSpec.ofChange Rows.frontReportsSpec) false w args)
   (Rows.frontReportsSpec.post enc Tryz.prog Tryz.f5 false true false false):=by
 refine nN (C:=Tryz.checked) (X:=fun w _=>laidMetH Tryz.prog uO w) (fun _ _ _ hh h=>h.of_heap hh) Tryz.own started (by kernel_rfl) Tryz.func5
  (ChangeSpec.witness_shaped (enc:=enc) (C:=Tryz.checked) (os:=os) (X:=fun w _=>laidMetH Tryz.prog uO w) false (World.laidAll Tryz.prog os uO) #[.agg #[.string ⟨#[]⟩,.slice none 0 0,.slice none 0 0,.int .i64 0,.int .i64 0]] 8 (World.laidAll_os _ _ _) (World.shaped_of_ZipB (by kernel_rfl) (by kernel_rfl)) (by kernel_rfl) (by kernel_rfl) (by kernel_rfl) (zKe os _)) ?_
 intro W base args ds gs before hval hW hsh hL
 exact Wq (P:=Tryz.prog) (fn:=Tryz.f5) rfl Tryz.underlying4 (by kernel_rfl) (by kernel_rfl) (by kernel_rfl) Tryz.laidOut rfl
  (fun ds hds=>by
   match ds,hds with
   | [d0],_=>exact ⟨rfl,rfl,rfl⟩)
  (wY 2000) (fun x hx=>Na x hx) (zOs hsh hL) hval hW
theorem Ja:Rows.FrontReportsSaid :=
 OpenClaim.holds_of_wide 5 Tryz.f5 rfl rfl rfl rfl rfl rfl rfl ⟨rfl,rfl,rfl,rfl,rfl⟩ rfl rfl rfl rfl rfl xB Tryz.func5 Cz
  Hl Ho (fun os started H enc _=>Cy os started H enc)
theorem Nb:Rows.frontReportsRow.wfByText (OpenSpec.ofChange Rows.frontReportsSpec)=true:=by kernel_rfl
theorem Hq:false=Rows.frontReportsRow.goesBy Tryz.prog:=zHs zHt _
theorem frontReports_holds:Rows.FrontReportsCardSaid :=
 Claim7.holds_tied_plain_at .later [] [.data,.data,.data,.data,.sentinel,.sentinel,.pinned] true (true, "e6aad9f3a8325d1ef16cfdd012d602806642ca6149caa395510a66e5fa28b4af") true
  Ja (fun _ h=>by cases h) Nb (fun _ h=>by cases h) frontReports_row_tie rfl ⟨rfl,rfl⟩ zHu rfl
  (fun f fn hf hfn=>by
   obtain rfl:f=5:=Option.some.inj (xB.symm.trans hf) |>.symm
   obtain rfl:fn=Tryz.f5:=(Option.some.inj (Tryz.func5.symm.trans hfn)).symm
   exact ⟨zDn,fun j t ht=>by
    rw [Tryz.params5] at ht
    have hm:t ∈ [43]:=by simpa using Array.mem_of_getElem? ht
    have hall:([43].all fun u=>!Tryz.prog.wantsStandIn u)=true:=by kernel_rfl
    exact (show Tryz.prog.wantsStandIn t=false by simpa using List.all_eq_true.1 hall t hm)⟩)
  Hq
end Go.Proofs.YtdgneppobefaoaaGreatDoor
