/- Part of a proof over this seat: a library of my own, and what it says of this seat. No statement is proved here. -/
import Derived.Test.YtmpoakdpdflfgaaGreatDoorPartBP
import Derived.Test.YtmpoakdpdflfgaaGreatDoorCards
import Derived.Test.YtmpoakdpdflfgaaGreatDoorTie
import Derived.Test.YtmpoakdpdflfgaaGreatDoorPartBQ
namespace Go.Proofs.YtmpoakdpdflfgaaGreatDoor
open Go.ChangeShapes Go.WideShapes Go.ChangeAt Go.RowKit Go.Dec
theorem Ov : ((Rows.frontWrongRow.wideKeys == (Tryz.f7.params.toList ++ Rows.frontWrongSpec.plain.varTypes Tryz.prog ++ Tryz.f7.resultTypes.toList).any (Tryz.prog.wideKeysFrom ·))) = true := by kernel_rfl
theorem Ow : (Rows.frontWrongSpec.vars.all (Tryz.prog.varReadable ·)) = true := by kernel_rfl
theorem Ox : (Tryz.f7.resultTypes.all (fun t => Tryz.prog.readableRec t && decide (t < Tryz.prog.types.size))) = true := by kernel_rfl
theorem Oy : ((Rows.frontWrongRow.ifacesOut == Tryz.f7.resultTypes.toList.any (Tryz.prog.ifacesRec ·))) = true := by kernel_rfl
theorem Oz : ((Rows.frontWrongRow.loopsOut == Tryz.f7.resultTypes.toList.any (Tryz.prog.loopsFrom ·))) = true := by kernel_rfl
theorem Pf : ((Rows.frontWrongRow.plainKeys == Tryz.prog.plainKeys)) = true := by kernel_rfl
theorem Pg : (Rows.frontWrongRow.shortTexts.isNone) = true := by kernel_rfl
theorem Ph : ((Rows.frontWrongRow.lifted == Tryz.prog.liftsFinal)) = true := by kernel_rfl
theorem Pj : ((Tryz.prog.make == some Rows.frontWrongRow.make)) = true := by kernel_rfl
theorem Pk : ((Rows.frontWrongRow.pinned == Rows.frontWrongRow.pinnedBy)) = true := by kernel_rfl
theorem Pm : ((Rows.frontWrongRow.veiled == (Tryz.f7.params.toList ++ Rows.frontWrongSpec.plain.varTypes Tryz.prog ++ Tryz.f7.resultTypes.toList).any (Tryz.prog.veiledRec ·))) = true := by kernel_rfl
theorem Pn : (Rows.frontWrongRow.veiledFits Tryz.prog Tryz.f7.params.toList (Tryz.f7.params.toList ++ Rows.frontWrongSpec.plain.varTypes Tryz.prog ++ Tryz.f7.resultTypes.toList)) = true := by kernel_rfl
end Go.Proofs.YtmpoakdpdflfgaaGreatDoor
namespace Go.Proofs.YtmpoakdpdflfgaaGreatDoor
open Go.ChangeShapes Go.WideShapes Go.ChangeAt Go.RowKit Go.Dec
theorem Fj : joinedFacts Tryz.prog 7 Tryz.f7 Rows.frontWrongSpec Rows.frontWrongRow = true := by
 unfold joinedFacts
 simp only [Rk, Rl, Rm, Rn, Ro, Oi, Oj, Ol, Om, Oo, Oq, Ot, Ou, Ov, Ow, Ox, Oy, Oz, Pf, Pg, Ph, Pj, Pk, Pm, Pn, zKz, zLa, zLb, zLc, zIb, zIc, Bool.and_self, Bool.and_true, Bool.true_and]
 kernel_rfl
theorem Av : Tryz.prog.funcNamed "calender/calenderlaw22.FrontWrong" = some 7 := by kernel_rfl
theorem Je : Tryz.f7.isInstance Tryz.prog Rows.frontWrongRow.origin Rows.frontWrongRow.targs := of_decide_eq_true (by kernel_rfl)
theorem Jf : Tryz.f7.isWrapper Tryz.prog Rows.frontWrongRow.wrapper Rows.frontWrongRow.mainSum := by
 unfold Func.isWrapper; first | (rw [if_pos (by decide +kernel)]; kernel_rfl) | (rw [if_neg (by decide +kernel)]; exact ⟨rfl, rfl⟩)
end Go.Proofs.YtmpoakdpdflfgaaGreatDoor
