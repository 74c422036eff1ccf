/- Part of a proof over this seat: a library of my own, and what it says of this seat. No statement is proved here. -/
import Derived.Test.YtmpoakdpdflfgaaGreatDoorPartBV
import Derived.Test.YtmpoakdpdflfgaaGreatDoorCards
import Derived.Test.YtmpoakdpdflfgaaGreatDoorTie
import Derived.Test.YtmpoakdpdflfgaaGreatDoorPartBW
namespace Go.Proofs.YtmpoakdpdflfgaaGreatDoor
open Go.ChangeShapes Go.WideShapes Go.ChangeAt Go.RowKit Go.Dec
theorem Ue : ((Rows.stageCopiesRow.wideKeys == (Tryz.f3.params.toList ++ Rows.stageCopiesSpec.plain.varTypes Tryz.prog ++ Tryz.f3.resultTypes.toList).any (Tryz.prog.wideKeysFrom ·))) = true:=by kernel_rfl
theorem Uf : (Rows.stageCopiesSpec.vars.all (Tryz.prog.varReadable ·)) = true:=by kernel_rfl
theorem Ug : (Tryz.f3.resultTypes.all (fun t => Tryz.prog.readableRec t && decide (t < Tryz.prog.types.size))) = true:=by kernel_rfl
theorem Uh : ((Rows.stageCopiesRow.ifacesOut == Tryz.f3.resultTypes.toList.any (Tryz.prog.ifacesRec ·))) = true:=by kernel_rfl
theorem Ui : ((Rows.stageCopiesRow.loopsOut == Tryz.f3.resultTypes.toList.any (Tryz.prog.loopsFrom ·))) = true:=by kernel_rfl
theorem Uj : ((Rows.stageCopiesRow.plainKeys == Tryz.prog.plainKeys)) = true:=by kernel_rfl
theorem Uk : (Rows.stageCopiesRow.shortTexts.isNone) = true:=by kernel_rfl
theorem Ul : ((Rows.stageCopiesRow.lifted == Tryz.prog.liftsFinal)) = true:=by kernel_rfl
theorem Um : ((Tryz.prog.make == some Rows.stageCopiesRow.make)) = true:=by kernel_rfl
theorem Un : ((Rows.stageCopiesRow.pinned == Rows.stageCopiesRow.pinnedBy)) = true:=by kernel_rfl
theorem Uo : ((Rows.stageCopiesRow.veiled == (Tryz.f3.params.toList ++ Rows.stageCopiesSpec.plain.varTypes Tryz.prog ++ Tryz.f3.resultTypes.toList).any (Tryz.prog.veiledRec ·))) = true:=by kernel_rfl
theorem Uq : (Rows.stageCopiesRow.veiledFits Tryz.prog Tryz.f3.params.toList (Tryz.f3.params.toList ++ Rows.stageCopiesSpec.plain.varTypes Tryz.prog ++ Tryz.f3.resultTypes.toList)) = true:=by kernel_rfl
end Go.Proofs.YtmpoakdpdflfgaaGreatDoor
namespace Go.Proofs.YtmpoakdpdflfgaaGreatDoor
open Go.ChangeShapes Go.WideShapes Go.ChangeAt Go.RowKit Go.Dec
theorem Gh : joinedFacts Tryz.prog 3 Tryz.f3 Rows.stageCopiesSpec Rows.stageCopiesRow = true:=by
 unfold joinedFacts
 simp only [Wz,Xa,Xb,Xc,Xd,Tv,Tw,Tx,Tz,Ua,Ub,Uc,Ud,Ue,Uf,Ug,Uh,Ui,Uj,Uk,Ul,Um,Un,Uo,Uq,zUq,zUr,zUs,zUt,zRg,zRh,Bool.and_self,Bool.and_true,Bool.true_and]
 kernel_rfl
theorem Ab : Tryz.prog.funcNamed "calender/calenderlaw16.StageCopies" = some 3:=by kernel_rfl
theorem Ml : Tryz.f3.isInstance Tryz.prog Rows.stageCopiesRow.origin Rows.stageCopiesRow.targs:=of_decide_eq_true (by kernel_rfl)
theorem Mq : Tryz.f3.isWrapper Tryz.prog Rows.stageCopiesRow.wrapper Rows.stageCopiesRow.mainSum:=by
 unfold Func.isWrapper; first | (rw [if_pos (by decide +kernel)]; kernel_rfl) | (rw [if_neg (by decide +kernel)]; exact ⟨rfl,rfl⟩)
end Go.Proofs.YtmpoakdpdflfgaaGreatDoor
