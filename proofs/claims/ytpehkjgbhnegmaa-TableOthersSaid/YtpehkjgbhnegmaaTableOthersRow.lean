/- TableOthers returns true for every input. -/
import Derived.Test.YtpehkjgbhnegmaaPartAJ
import Derived.Test.YtpehkjgbhnegmaaPartAK
import Derived.Test.YtpehkjgbhnegmaaPartAG
import Derived.Test.YtpehkjgbhnegmaaRows
import Derived.Test.YtpehkjgbhnegmaaChecked
import Derived.ProofKit
namespace Go.Proofs.Ytpehkjgbhnegmaa
open Go.ChangeShapes Go.WideShapes Go.ChangeAt Go.RowKit Go.Dec

theorem Try.own : ownKnob Try.prog.godebug = none := by kernel_rfl
theorem Try.laidOut : laidOutB Try.prog = true := by kernel_rfl

theorem glob_of {W : World} (h : W.ShapedOpen Try.prog) : Glob Try.prog W := by
  intro g x hg hn
  have h0 : g = 0 := by
    have hlt : g < Try.prog.globals.size := (Array.getElem?_eq_some_iff.1 hg).1
    have hs : Try.prog.globals.size = 1 := by kernel_rfl
    omega
  subst h0
  exact cell_of_shapedOpen_int h (t := 3) (zero := #[.int .i64 0]) (of_decide_eq_true (by kernel_rfl)) (by kernel_rfl) rfl (by kernel_rfl) (by kernel_rfl) Try.underlying3


theorem law08_TableOthersN_pure (_ : Nat) : Pure Try.prog 10 law08_TableOthersA law08_TableOthersR (law08_TableOthersN 0) := @pure_dep Try.prog 10 law08_TableOthersA law08_TableOthersR law08_TableOthers (fun x : List FileD × List UInt8 × List UInt8 × List UInt8 => x.1.length + 201) law08_TableOthers_pure

set_option maxRecDepth 100000 in
theorem tableOthers_lifted (os : Os) (started : os.Started) (H : Type) (enc : TypeId × Value → H) :
    ReturnsInHanded {} Try.checked os 10 .any (Rows.tableOthersSpec.pre6 enc Try.prog Try.f10 Rows.tableOthersRow.domain false) (Rows.tableOthersSpec.post enc Try.prog Try.f10 false true false false) := by
  refine returnsInHanded_of_change_shaped (C := Try.checked) Try.own started (by kernel_rfl) Try.func10
    (ChangeSpec.witness6 (enc := enc) (C := Try.checked) false ⟨#[], #[.slice none 0 0, .string ⟨#[]⟩, .string ⟨#[]⟩, .string ⟨#[]⟩], []⟩ 8 (by kernel_rfl) (by kernel_rfl) (by kernel_rfl) (by kernel_rfl)) ?_
  intro W base args ds gs before hval hW _ _ hsh _
  exact law_contract (P := Try.prog) (fn := Try.f10) rfl Try.underlying4 (by kernel_rfl) (by kernel_rfl) (by kernel_rfl) Try.laidOut rfl
    (fun ds hds => by
      match ds, hds with
      | [d0, d1, d2, d3], _ => exact ⟨rfl, rfl, rfl⟩)
    (law08_TableOthersN_pure 0) (fun x hx => law08_TableOthersN_claim x hx) (glob_of hsh) hval hW

theorem tableOthers_holds : Rows.TableOthersSaid :=
  OpenClaim.holds_of_wide 10 Try.f10 rfl rfl rfl rfl rfl rfl rfl ⟨rfl, rfl, rfl, rfl, rfl⟩ rfl rfl rfl rfl rfl (by kernel_rfl) Try.func10 (by kernel_rfl)
    (of_decide_eq_true (by kernel_rfl)) (by unfold Func.isWrapper; first | (rw [if_pos (by decide +kernel)]; kernel_rfl) | (rw [if_neg (by decide +kernel)]; exact ⟨rfl, rfl⟩))
    (fun os started H enc _ => tableOthers_lifted os started H enc)
end Go.Proofs.Ytpehkjgbhnegmaa
