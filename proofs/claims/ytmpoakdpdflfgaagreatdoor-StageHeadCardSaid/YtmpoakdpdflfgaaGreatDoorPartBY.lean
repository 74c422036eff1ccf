/- Part of a proof over this seat: a library of my own, and what it says of this seat. No statement is proved here. -/
import Derived.Test.YtmpoakdpdflfgaaGreatDoorPartBW
import Derived.Test.YtmpoakdpdflfgaaGreatDoorCards
import Derived.Test.YtmpoakdpdflfgaaGreatDoorTie
import Derived.Test.YtmpoakdpdflfgaaGreatDoorPartBX
namespace Go.Proofs.YtmpoakdpdflfgaaGreatDoor
open Go.ChangeShapes Go.WideShapes Go.ChangeAt Go.RowKit Go.Dec
theorem zBj:((Rows.stageHeadRow.wideKeys == (Tryz.f6.params.toList++Rows.stageHeadSpec.plain.varTypes Tryz.prog++Tryz.f6.resultTypes.toList).any (Tryz.prog.wideKeysFrom ·)))=true:=by kernel_rfl
theorem zBk:(Rows.stageHeadSpec.vars.all (Tryz.prog.varReadable ·))=true:=by kernel_rfl
theorem zBl:(Tryz.f6.resultTypes.all (fun t=>Tryz.prog.readableRec t && decide (t < Tryz.prog.types.size)))=true:=by kernel_rfl
theorem zBm:((Rows.stageHeadRow.ifacesOut == Tryz.f6.resultTypes.toList.any (Tryz.prog.ifacesRec ·)))=true:=by kernel_rfl
theorem zBn:((Rows.stageHeadRow.loopsOut == Tryz.f6.resultTypes.toList.any (Tryz.prog.loopsFrom ·)))=true:=by kernel_rfl
theorem zBo:((Rows.stageHeadRow.plainKeys == Tryz.prog.plainKeys))=true:=by kernel_rfl
theorem zBp:(Rows.stageHeadRow.shortTexts.isNone)=true:=by kernel_rfl
theorem zBq:((Rows.stageHeadRow.lifted == Tryz.prog.liftsFinal))=true:=by kernel_rfl
theorem zBr:((Tryz.prog.make == some Rows.stageHeadRow.make))=true:=by kernel_rfl
theorem zBs:((Rows.stageHeadRow.pinned == Rows.stageHeadRow.pinnedBy))=true:=by kernel_rfl
theorem zBt:((Rows.stageHeadRow.veiled == (Tryz.f6.params.toList++Rows.stageHeadSpec.plain.varTypes Tryz.prog++Tryz.f6.resultTypes.toList).any (Tryz.prog.veiledRec ·)))=true:=by kernel_rfl
theorem zBu:(Rows.stageHeadRow.veiledFits Tryz.prog Tryz.f6.params.toList (Tryz.f6.params.toList++Rows.stageHeadSpec.plain.varTypes Tryz.prog++Tryz.f6.resultTypes.toList))=true:=by kernel_rfl
end Go.Proofs.YtmpoakdpdflfgaaGreatDoor
namespace Go.Proofs.YtmpoakdpdflfgaaGreatDoor
open Go.ChangeShapes Go.WideShapes Go.ChangeAt Go.RowKit Go.Dec
theorem Qf:joinedFacts Tryz.prog 6 Tryz.f6 Rows.stageHeadSpec Rows.stageHeadRow=true:=by
 unfold joinedFacts
 simp only [zHd,zHe,zHf,zHg,zHh,zBb,zBc,zBd,zBe,zBf,zBg,zBh,zBi,zBj,zBk,zBl,zBm,zBn,zBo,zBp,zBq,zBr,zBs,zBt,zBu,yAf,yAg,yAh,yAi,zWu,zWv,Bool.and_self,Bool.and_true,Bool.true_and]
 kernel_rfl
theorem Jk:Tryz.prog.funcNamed "calender/calenderlaw16.StageHead" = some 6:=by kernel_rfl
theorem Wv:Tryz.f6.isInstance Tryz.prog Rows.stageHeadRow.origin Rows.stageHeadRow.targs:=of_decide_eq_true (by kernel_rfl)
theorem Ww:Tryz.f6.isWrapper Tryz.prog Rows.stageHeadRow.wrapper Rows.stageHeadRow.mainSum:=by
 unfold Func.isWrapper; first | (rw [if_pos (by decide +kernel)]; kernel_rfl) | (rw [if_neg (by decide +kernel)]; exact ⟨rfl,rfl⟩)
end Go.Proofs.YtmpoakdpdflfgaaGreatDoor
