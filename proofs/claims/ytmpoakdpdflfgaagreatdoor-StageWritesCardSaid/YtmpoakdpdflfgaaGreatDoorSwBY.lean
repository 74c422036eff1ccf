/- Part of a proof over this seat: a library of my own, and what it says of this seat. No statement is proved here. -/
import Derived.Test.YtmpoakdpdflfgaaGreatDoorSwBW
import Derived.Test.YtmpoakdpdflfgaaGreatDoorCards
import Derived.Test.YtmpoakdpdflfgaaGreatDoorTie
import Derived.Test.YtmpoakdpdflfgaaGreatDoorSwBX
namespace Go.Proofs.YtmpoakdpdflfgaaGreatDoor
open Go.ChangeShapes Go.WideShapes Go.ChangeAt Go.RowKit Go.Dec
theorem stageWrites_j18:((Rows.stageWritesRow.wideKeys == (Tryz.f5.params.toList++Rows.stageWritesSpec.plain.varTypes Tryz.prog++Tryz.f5.resultTypes.toList).any (Tryz.prog.wideKeysFrom ·)))=true:=by kernel_rfl
theorem stageWrites_j19:(Rows.stageWritesSpec.vars.all (Tryz.prog.varReadable ·))=true:=by kernel_rfl
theorem stageWrites_j20:(Tryz.f5.resultTypes.all (fun t=>Tryz.prog.readableRec t && decide (t < Tryz.prog.types.size)))=true:=by kernel_rfl
theorem stageWrites_j21:((Rows.stageWritesRow.ifacesOut == Tryz.f5.resultTypes.toList.any (Tryz.prog.ifacesRec ·)))=true:=by kernel_rfl
theorem stageWrites_j22:((Rows.stageWritesRow.loopsOut == Tryz.f5.resultTypes.toList.any (Tryz.prog.loopsFrom ·)))=true:=by kernel_rfl
theorem stageWrites_j23:((Rows.stageWritesRow.plainKeys == Tryz.prog.plainKeys))=true:=by kernel_rfl
theorem stageWrites_j24:(Rows.stageWritesRow.shortTexts.isNone)=true:=by kernel_rfl
theorem stageWrites_j27:((Rows.stageWritesRow.lifted == Tryz.prog.liftsFinal))=true:=by kernel_rfl
theorem stageWrites_j28:((Tryz.prog.make == some Rows.stageWritesRow.make))=true:=by kernel_rfl
theorem stageWrites_j30:((Rows.stageWritesRow.pinned == Rows.stageWritesRow.pinnedBy))=true:=by kernel_rfl
theorem stageWrites_j31:((Rows.stageWritesRow.veiled == (Tryz.f5.params.toList++Rows.stageWritesSpec.plain.varTypes Tryz.prog++Tryz.f5.resultTypes.toList).any (Tryz.prog.veiledRec ·)))=true:=by kernel_rfl
theorem stageWrites_j32:(Rows.stageWritesRow.veiledFits Tryz.prog Tryz.f5.params.toList (Tryz.f5.params.toList++Rows.stageWritesSpec.plain.varTypes Tryz.prog++Tryz.f5.resultTypes.toList))=true:=by kernel_rfl
end Go.Proofs.YtmpoakdpdflfgaaGreatDoor
namespace Go.Proofs.YtmpoakdpdflfgaaGreatDoor
open Go.ChangeShapes Go.WideShapes Go.ChangeAt Go.RowKit Go.Dec
theorem stageWrites_closed:joinedFacts Tryz.prog 5 Tryz.f5 Rows.stageWritesSpec Rows.stageWritesRow=true:=by
 unfold joinedFacts
 simp only [stageWrites_j1,stageWrites_j4,stageWrites_j5,stageWrites_j6,stageWrites_j8,stageWrites_j10,stageWrites_j11,stageWrites_j12,stageWrites_j13,stageWrites_j14,stageWrites_j15,stageWrites_j16,stageWrites_j17,stageWrites_j18,stageWrites_j19,stageWrites_j20,stageWrites_j21,stageWrites_j22,stageWrites_j23,stageWrites_j24,stageWrites_j27,stageWrites_j28,stageWrites_j30,stageWrites_j31,stageWrites_j32,seat_j2,seat_j3,seat_j7,seat_j9,seat_j25,seat_j26,Bool.and_self,Bool.and_true,Bool.true_and]
 kernel_rfl
theorem stageWrites_nr:Tryz.prog.funcNamed "calender/calenderlaw16.StageWrites" = some 5:=by kernel_rfl
theorem stageWrites_inst:Tryz.f5.isInstance Tryz.prog Rows.stageWritesRow.origin Rows.stageWritesRow.targs:=of_decide_eq_true (by kernel_rfl)
theorem stageWrites_wrap:Tryz.f5.isWrapper Tryz.prog Rows.stageWritesRow.wrapper Rows.stageWritesRow.mainSum:=by
 unfold Func.isWrapper; first | (rw [if_pos (by decide +kernel)]; kernel_rfl) | (rw [if_neg (by decide +kernel)]; exact ⟨rfl,rfl⟩)
end Go.Proofs.YtmpoakdpdflfgaaGreatDoor
