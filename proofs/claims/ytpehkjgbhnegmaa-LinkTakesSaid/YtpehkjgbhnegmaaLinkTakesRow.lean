/- Part of a proof over this seat. No statement is proved here. -/
import Derived.Test.YtpehkjgbhnegmaaLinkTakesLaw
import Derived.Test.YtpehkjgbhnegmaaRows
import Derived.Test.YtpehkjgbhnegmaaChecked
import Derived.ProofKit
namespace Go.Proofs.Ytpehkjgbhnegmaa
open Go.ChangeShapes Go.WideShapes Go.ChangeAt Go.RowKit Go.Dec

theorem Try.own : ownKnob Try.prog.godebug = none := by kernel_rfl
theorem Try.laidOut : laidOutB Try.prog = true := by kernel_rfl

theorem glob_of {W : World} (h : W.ShapedOpen Try.prog) : Glob Try.prog W := by
  intro g x hg hn
  have h0 : g = 0 := by
    have hlt : g < Try.prog.globals.size := (Array.getElem?_eq_some_iff.1 hg).1
    have hs : Try.prog.globals.size = 1 := by kernel_rfl
    omega
  subst h0
  exact cell_of_shapedOpen_int h (t := 3) (zero := #[.int .i64 0]) (of_decide_eq_true (by kernel_rfl)) (by kernel_rfl) rfl (by kernel_rfl) (by kernel_rfl) Try.underlying3

set_option maxRecDepth 100000 in
theorem linkTakes_lifted (os : Os) (started : os.Started) (H : Type) (enc : TypeId × Value → H) :
    ReturnsInHanded {} Try.checked os 4 .any (Rows.linkTakesSpec.pre6 enc Try.prog Try.f4 Rows.linkTakesRow.domain false) (Rows.linkTakesSpec.post enc Try.prog Try.f4 false true false false) := by
  refine returnsInHanded_of_change_shaped (C := Try.checked) Try.own started (by kernel_rfl) Try.func4
    (ChangeSpec.witness6 (enc := enc) (C := Try.checked) false ⟨#[], #[.agg #[.string ⟨#[]⟩, .bool false, .bool false]], []⟩ 8 (by kernel_rfl) (by kernel_rfl) (by kernel_rfl) (by kernel_rfl)) ?_
  intro W base args ds gs before hval hW _ _ hsh _
  exact law_contract (P := Try.prog) (fn := Try.f4) rfl Try.underlying4 (by kernel_rfl) (by kernel_rfl) (by kernel_rfl) Try.laidOut rfl
    (fun ds hds => by
      match ds, hds with
      | [d], _ => exact ⟨rfl, rfl, rfl⟩)
    (f4_pure 0) (fun x _ => f4_true 0 x) (glob_of hsh) hval hW

theorem linkTakes_holds : Rows.LinkTakesSaid :=
  OpenClaim.holds_of_wide 4 Try.f4 rfl rfl rfl rfl rfl rfl rfl ⟨rfl, rfl, rfl, rfl, rfl⟩ rfl rfl rfl rfl rfl (by kernel_rfl) Try.func4 (by kernel_rfl)
    (of_decide_eq_true (by kernel_rfl)) (by unfold Func.isWrapper; first | (rw [if_pos (by decide +kernel)]; kernel_rfl) | (rw [if_neg (by decide +kernel)]; exact ⟨rfl, rfl⟩))
    (fun os started H enc _ => linkTakes_lifted os started H enc)
end Go.Proofs.Ytpehkjgbhnegmaa
