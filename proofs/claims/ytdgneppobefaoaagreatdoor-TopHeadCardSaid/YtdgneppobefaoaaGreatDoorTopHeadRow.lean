/- TopHead returns true for every input; the package-level variables that it reads start as the program's text lays them. -/
import Derived.Test.YtdgneppobefaoaaGreatDoorPartBV
import Derived.Test.YtdgneppobefaoaaGreatDoorPartBW
import Derived.Test.YtdgneppobefaoaaGreatDoorPartBY
import Derived.Test.YtdgneppobefaoaaGreatDoorPartCA
import Derived.Test.YtdgneppobefaoaaGreatDoorCards
import Derived.Test.YtdgneppobefaoaaGreatDoorTie
namespace Go.Proofs.YtdgneppobefaoaaGreatDoor
open Go.ChangeShapes Go.WideShapes Go.ChangeAt Go.RowKit Go.Dec
set_option maxRecDepth 100000 in
theorem zGc (os:Os) (started:os.Started) (H:Type) (enc:TypeId × Value->H) :
  ReturnsInHanded {} Tryz.checked os 7 .any (fun w args=>(Rows.topHeadSpec.pre enc Tryz.prog Tryz.f7 [] false w args∧laidMetH Tryz.prog Gc w)∧sizedMet enc Tryz.prog Tryz.f7 (OpenSpec.ofChange Rows.topHeadSpec) false w args)
   (Rows.topHeadSpec.post enc Tryz.prog Tryz.f7 false true false false):=by
 refine vE (C:=Tryz.checked) (X:=fun w _=>laidMetH Tryz.prog Gc w) (fun _ _ _ hh h=>h.of_heap hh) Tryz.own started (by kernel_rfl) Tryz.func7
  (ChangeSpec.witness_shaped (enc:=enc) (C:=Tryz.checked) (os:=os) (X:=fun w _=>laidMetH Tryz.prog Gc w) false (World.laidAll Tryz.prog os Gc) #[.string ⟨#[]⟩,.int .u8 0] 8 (World.laidAll_os _ _ _) (World.shaped_of_ZipB (by kernel_rfl) (by kernel_rfl)) (by kernel_rfl) (by kernel_rfl) (by kernel_rfl) (yDf os _)) ?_
 intro W base args ds gs before hval hW hsh hL
 exact zLj (P:=Tryz.prog) (fn:=Tryz.f7) rfl Tryz.underlying4 (by kernel_rfl) (by kernel_rfl) (by kernel_rfl) Tryz.laidOut rfl
  (fun ds hds=>by
   match ds,hds with
   | [d0,d1],_=>exact ⟨rfl,rfl,rfl⟩)
  (zAj 2000) (fun x hx=>zGd x hx) (yJy hsh hL) hval hW
theorem zQs:Rows.TopHeadSaid :=
 OpenClaim.holds_of_wide 7 Tryz.f7 rfl rfl rfl rfl rfl rfl rfl ⟨rfl,rfl,rfl,rfl,rfl⟩ rfl rfl rfl rfl rfl zCv Tryz.func7 zGe
  zLk zLl (fun os started H enc _=>zGc os started H enc)
theorem zVb:Rows.topHeadRow.wfByText (OpenSpec.ofChange Rows.topHeadSpec)=true:=by kernel_rfl
theorem zLm:false=Rows.topHeadRow.goesBy Tryz.prog:=zZz yAa _
theorem topHead_holds:Rows.TopHeadCardSaid :=
 Claim7.holds_tied_plain_at .later [] [.data,.data,.data,.data,.sentinel,.sentinel,.pinned] true (true, "e6aad9f3a8325d1ef16cfdd012d602806642ca6149caa395510a66e5fa28b4af") true
  zQs (fun _ h=>by cases h) zVb (fun _ h=>by cases h) topHead_row_tie rfl ⟨rfl,rfl⟩ yAb rfl
  (fun f fn hf hfn=>by
   obtain rfl:f=7:=Option.some.inj (zCv.symm.trans hf) |>.symm
   obtain rfl:fn=Tryz.f7:=(Option.some.inj (Tryz.func7.symm.trans hfn)).symm
   exact ⟨zVc,fun j t ht=>by
    rw [Tryz.params7] at ht
    have hm:t ∈ [9,5]:=by simpa using Array.mem_of_getElem? ht
    have hall:([9,5].all fun u=>!Tryz.prog.wantsStandIn u)=true:=by kernel_rfl
    exact (show Tryz.prog.wantsStandIn t=false by simpa using List.all_eq_true.1 hall t hm)⟩)
  zLm
end Go.Proofs.YtdgneppobefaoaaGreatDoor
