/- TableAgain returns true for every input. -/
import Derived.Test.YtpehkjgbhnegmaaPartAJ
import Derived.Test.YtpehkjgbhnegmaaPartAK
import Derived.Test.YtpehkjgbhnegmaaPartAG
import Derived.Test.YtpehkjgbhnegmaaRows
import Derived.Test.YtpehkjgbhnegmaaChecked
import Derived.ProofKit
namespace Go.Proofs.Ytpehkjgbhnegmaa
open Go.ChangeShapes Go.WideShapes Go.ChangeAt Go.RowKit Go.Dec

theorem Try.own : ownKnob Try.prog.godebug = none := by kernel_rfl
theorem Try.laidOut : laidOutB Try.prog = true := by kernel_rfl

theorem glob_of {W : World} (h : W.ShapedOpen Try.prog) : Glob Try.prog W := by
  intro g x hg hn
  have h0 : g = 0 := by
    have hlt : g < Try.prog.globals.size := (Array.getElem?_eq_some_iff.1 hg).1
    have hs : Try.prog.globals.size = 1 := by kernel_rfl
    omega
  subst h0
  exact cell_of_shapedOpen_int h (t := 3) (zero := #[.int .i64 0]) (of_decide_eq_true (by kernel_rfl)) (by kernel_rfl) rfl (by kernel_rfl) (by kernel_rfl) Try.underlying3


theorem law08_TableAgainN_pure (_ : Nat) : Pure Try.prog 11 law08_TableAgainA law08_TableAgainR (law08_TableAgainN 0) := @pure_dep Try.prog 11 law08_TableAgainA law08_TableAgainR law08_TableAgain (fun x : List FileD × List UInt8 × List UInt8 × List UInt8 => x.1.length + 201) law08_TableAgain_pure

set_option maxRecDepth 100000 in
theorem tableAgain_lifted (os : Os) (started : os.Started) (H : Type) (enc : TypeId × Value → H) :
    ReturnsInHanded {} Try.checked os 11 .any (Rows.tableAgainSpec.pre6 enc Try.prog Try.f11 Rows.tableAgainRow.domain false) (Rows.tableAgainSpec.post enc Try.prog Try.f11 false true false false) := by
  refine returnsInHanded_of_change_shaped (C := Try.checked) Try.own started (by kernel_rfl) Try.func11
    (ChangeSpec.witness6 (enc := enc) (C := Try.checked) false ⟨#[], #[.slice none 0 0, .string ⟨#[]⟩, .string ⟨#[]⟩, .string ⟨#[]⟩], []⟩ 8 (by kernel_rfl) (by kernel_rfl) (by kernel_rfl) (by kernel_rfl)) ?_
  intro W base args ds gs before hval hW _ _ hsh _
  exact law_contract (P := Try.prog) (fn := Try.f11) rfl Try.underlying4 (by kernel_rfl) (by kernel_rfl) (by kernel_rfl) Try.laidOut rfl
    (fun ds hds => by
      match ds, hds with
      | [d0, d1, d2, d3], _ => exact ⟨rfl, rfl, rfl⟩)
    (law08_TableAgainN_pure 0) (fun x hx => law08_TableAgainN_claim x hx) (glob_of hsh) hval hW

theorem tableAgain_holds : Rows.TableAgainSaid :=
  OpenClaim.holds_of_wide 11 Try.f11 rfl rfl rfl rfl rfl rfl rfl ⟨rfl, rfl, rfl, rfl, rfl⟩ rfl rfl rfl rfl rfl (by kernel_rfl) Try.func11 (by kernel_rfl)
    (of_decide_eq_true (by kernel_rfl)) (by unfold Func.isWrapper; first | (rw [if_pos (by decide +kernel)]; kernel_rfl) | (rw [if_neg (by decide +kernel)]; exact ⟨rfl, rfl⟩))
    (fun os started H enc _ => tableAgain_lifted os started H enc)
end Go.Proofs.Ytpehkjgbhnegmaa
