/- Part of a proof over this seat: a library of my own, and what it says of this seat. No statement is proved here. -/
import Derived.Test.YtmpoakdpdflfgaaGreatDoorPartBQ
import Derived.Test.YtmpoakdpdflfgaaGreatDoorCards
import Derived.Test.YtmpoakdpdflfgaaGreatDoorTie
import Derived.Test.YtmpoakdpdflfgaaGreatDoorPartBR
namespace Go.Proofs.YtmpoakdpdflfgaaGreatDoor
open Go.ChangeShapes Go.WideShapes Go.ChangeAt Go.RowKit Go.Dec
theorem Pm : ((Rows.frontWrongRow.wideKeys == (Tryz.f7.params.toList ++ Rows.frontWrongSpec.plain.varTypes Tryz.prog ++ Tryz.f7.resultTypes.toList).any (Tryz.prog.wideKeysFrom ·))) = true := by kernel_rfl
theorem Pn : (Rows.frontWrongSpec.vars.all (Tryz.prog.varReadable ·)) = true := by kernel_rfl
theorem Po : (Tryz.f7.resultTypes.all (fun t => Tryz.prog.readableRec t && decide (t < Tryz.prog.types.size))) = true := by kernel_rfl
theorem Pp : ((Rows.frontWrongRow.ifacesOut == Tryz.f7.resultTypes.toList.any (Tryz.prog.ifacesRec ·))) = true := by kernel_rfl
theorem Pq : ((Rows.frontWrongRow.loopsOut == Tryz.f7.resultTypes.toList.any (Tryz.prog.loopsFrom ·))) = true := by kernel_rfl
theorem Pv : ((Rows.frontWrongRow.plainKeys == Tryz.prog.plainKeys)) = true := by kernel_rfl
theorem Pw : (Rows.frontWrongRow.shortTexts.isNone) = true := by kernel_rfl
theorem Px : ((Rows.frontWrongRow.lifted == Tryz.prog.liftsFinal)) = true := by kernel_rfl
theorem Py : ((Tryz.prog.make == some Rows.frontWrongRow.make)) = true := by kernel_rfl
theorem Pz : ((Rows.frontWrongRow.pinned == Rows.frontWrongRow.pinnedBy)) = true := by kernel_rfl
theorem Qa : ((Rows.frontWrongRow.veiled == (Tryz.f7.params.toList ++ Rows.frontWrongSpec.plain.varTypes Tryz.prog ++ Tryz.f7.resultTypes.toList).any (Tryz.prog.veiledRec ·))) = true := by kernel_rfl
theorem Qb : (Rows.frontWrongRow.veiledFits Tryz.prog Tryz.f7.params.toList (Tryz.f7.params.toList ++ Rows.frontWrongSpec.plain.varTypes Tryz.prog ++ Tryz.f7.resultTypes.toList)) = true := by kernel_rfl
end Go.Proofs.YtmpoakdpdflfgaaGreatDoor
namespace Go.Proofs.YtmpoakdpdflfgaaGreatDoor
open Go.ChangeShapes Go.WideShapes Go.ChangeAt Go.RowKit Go.Dec
theorem Gb : joinedFacts Tryz.prog 7 Tryz.f7 Rows.frontWrongSpec Rows.frontWrongRow = true := by
 unfold joinedFacts
 simp only [Rv, Rw, Rx, Ry, Rz, Ox, Oy, Oz, Pf, Pg, Ph, Pj, Pk, Pm, Pn, Po, Pp, Pq, Pv, Pw, Px, Py, Pz, Qa, Qb, zLh, zLi, zLj, zLk, zIn, zIo, Bool.and_self, Bool.and_true, Bool.true_and]
 kernel_rfl
theorem Bf : Tryz.prog.funcNamed "calender/calenderlaw22.FrontWrong" = some 7 := by kernel_rfl
theorem Jl : Tryz.f7.isInstance Tryz.prog Rows.frontWrongRow.origin Rows.frontWrongRow.targs := of_decide_eq_true (by kernel_rfl)
theorem Jm : Tryz.f7.isWrapper Tryz.prog Rows.frontWrongRow.wrapper Rows.frontWrongRow.mainSum := by
 unfold Func.isWrapper; first | (rw [if_pos (by decide +kernel)]; kernel_rfl) | (rw [if_neg (by decide +kernel)]; exact ⟨rfl, rfl⟩)
end Go.Proofs.YtmpoakdpdflfgaaGreatDoor
