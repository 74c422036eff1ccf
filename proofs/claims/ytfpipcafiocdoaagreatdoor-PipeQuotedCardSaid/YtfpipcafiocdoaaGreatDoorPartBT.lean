/- Part of a proof over this seat: a library of my own, and what it says of this seat. No statement is proved here. -/
import Derived.Test.YtfpipcafiocdoaaGreatDoorPartBR
import Derived.Test.YtfpipcafiocdoaaGreatDoorCards
import Derived.Test.YtfpipcafiocdoaaGreatDoorTie
import Derived.Test.YtfpipcafiocdoaaGreatDoorPartBS
namespace Go.Proofs.YtfpipcafiocdoaaGreatDoor
open Go.ChangeShapes Go.WideShapes Go.ChangeAt Go.RowKit Go.Dec
theorem Mx : ((Rows.pipeQuotedRow.wideKeys == (Tryz.f5.params.toList ++ Rows.pipeQuotedSpec.plain.varTypes Tryz.prog ++ Tryz.f5.resultTypes.toList).any (Tryz.prog.wideKeysFrom ·))) = true := by kernel_rfl
theorem Na : (Rows.pipeQuotedSpec.vars.all (Tryz.prog.varReadable ·)) = true := by kernel_rfl
theorem Nb : (Tryz.f5.resultTypes.all (fun t => Tryz.prog.readableRec t && decide (t < Tryz.prog.types.size))) = true := by kernel_rfl
theorem Nc : ((Rows.pipeQuotedRow.ifacesOut == Tryz.f5.resultTypes.toList.any (Tryz.prog.ifacesRec ·))) = true := by kernel_rfl
theorem Nf : ((Rows.pipeQuotedRow.loopsOut == Tryz.f5.resultTypes.toList.any (Tryz.prog.loopsFrom ·))) = true := by kernel_rfl
theorem Ng : ((Rows.pipeQuotedRow.plainKeys == Tryz.prog.plainKeys)) = true := by kernel_rfl
theorem Nh : (Rows.pipeQuotedRow.shortTexts.isNone) = true := by kernel_rfl
theorem Ni : ((Rows.pipeQuotedRow.lifted == Tryz.prog.liftsFinal)) = true := by kernel_rfl
theorem Nj : ((Tryz.prog.make == some Rows.pipeQuotedRow.make)) = true := by kernel_rfl
theorem Nk : ((Rows.pipeQuotedRow.pinned == Rows.pipeQuotedRow.pinnedBy)) = true := by kernel_rfl
theorem Nl : ((Rows.pipeQuotedRow.veiled == (Tryz.f5.params.toList ++ Rows.pipeQuotedSpec.plain.varTypes Tryz.prog ++ Tryz.f5.resultTypes.toList).any (Tryz.prog.veiledRec ·))) = true := by kernel_rfl
theorem Nn : (Rows.pipeQuotedRow.veiledFits Tryz.prog Tryz.f5.params.toList (Tryz.f5.params.toList ++ Rows.pipeQuotedSpec.plain.varTypes Tryz.prog ++ Tryz.f5.resultTypes.toList)) = true := by kernel_rfl
end Go.Proofs.YtfpipcafiocdoaaGreatDoor
namespace Go.Proofs.YtfpipcafiocdoaaGreatDoor
open Go.ChangeShapes Go.WideShapes Go.ChangeAt Go.RowKit Go.Dec
theorem Dm : joinedFacts Tryz.prog 5 Tryz.f5 Rows.pipeQuotedSpec Rows.pipeQuotedRow = true := by
 unfold joinedFacts
 simp only [Px, Py, Pz, Qa, Qb, Mk, Ml, Mq, Mr, Ms, Mt, Mv, Mw, Mx, Na, Nb, Nc, Nf, Ng, Nh, Ni, Nj, Nk, Nl, Nn, zKf, zKg, zKh, zKi, zGk, zGl, Bool.and_self, Bool.and_true, Bool.true_and]
 kernel_rfl
theorem zF : Tryz.prog.funcNamed "calender/calenderlaw21.PipeQuoted" = some 5 := by kernel_rfl
theorem Gw : Tryz.f5.isInstance Tryz.prog Rows.pipeQuotedRow.origin Rows.pipeQuotedRow.targs := of_decide_eq_true (by kernel_rfl)
theorem Gx : Tryz.f5.isWrapper Tryz.prog Rows.pipeQuotedRow.wrapper Rows.pipeQuotedRow.mainSum := by
 unfold Func.isWrapper; first | (rw [if_pos (by decide +kernel)]; kernel_rfl) | (rw [if_neg (by decide +kernel)]; exact ⟨rfl, rfl⟩)
end Go.Proofs.YtfpipcafiocdoaaGreatDoor
