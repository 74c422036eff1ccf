/- Part of a proof over this seat: a library of my own, and what it says of this seat. No statement is proved here. -/
import Derived.Test.YtmpoakdpdflfgaaGreatDoorPartBV
import Derived.Test.YtmpoakdpdflfgaaGreatDoorCards
import Derived.Test.YtmpoakdpdflfgaaGreatDoorTie
import Derived.Test.YtmpoakdpdflfgaaGreatDoorPartBW
namespace Go.Proofs.YtmpoakdpdflfgaaGreatDoor
open Go.ChangeShapes Go.WideShapes Go.ChangeAt Go.RowKit Go.Dec
theorem Wh:((Rows.stageFilesRow.wideKeys == (Tryz.f4.params.toList ++ Rows.stageFilesSpec.plain.varTypes Tryz.prog ++ Tryz.f4.resultTypes.toList).any (Tryz.prog.wideKeysFrom ·))) = true:=by kernel_rfl
theorem Wi:(Rows.stageFilesSpec.vars.all (Tryz.prog.varReadable ·)) = true:=by kernel_rfl
theorem Wj:(Tryz.f4.resultTypes.all (fun t=>Tryz.prog.readableRec t && decide (t < Tryz.prog.types.size))) = true:=by kernel_rfl
theorem Wm:((Rows.stageFilesRow.ifacesOut == Tryz.f4.resultTypes.toList.any (Tryz.prog.ifacesRec ·))) = true:=by kernel_rfl
theorem Wn:((Rows.stageFilesRow.loopsOut == Tryz.f4.resultTypes.toList.any (Tryz.prog.loopsFrom ·))) = true:=by kernel_rfl
theorem Wo:((Rows.stageFilesRow.plainKeys == Tryz.prog.plainKeys)) = true:=by kernel_rfl
theorem Wp:(Rows.stageFilesRow.shortTexts.isNone) = true:=by kernel_rfl
theorem Wq:((Rows.stageFilesRow.lifted == Tryz.prog.liftsFinal)) = true:=by kernel_rfl
theorem Ws:((Tryz.prog.make == some Rows.stageFilesRow.make)) = true:=by kernel_rfl
theorem Wt:((Rows.stageFilesRow.pinned == Rows.stageFilesRow.pinnedBy)) = true:=by kernel_rfl
theorem Wu:((Rows.stageFilesRow.veiled == (Tryz.f4.params.toList ++ Rows.stageFilesSpec.plain.varTypes Tryz.prog ++ Tryz.f4.resultTypes.toList).any (Tryz.prog.veiledRec ·))) = true:=by kernel_rfl
theorem Wv:(Rows.stageFilesRow.veiledFits Tryz.prog Tryz.f4.params.toList (Tryz.f4.params.toList ++ Rows.stageFilesSpec.plain.varTypes Tryz.prog ++ Tryz.f4.resultTypes.toList)) = true:=by kernel_rfl
end Go.Proofs.YtmpoakdpdflfgaaGreatDoor
namespace Go.Proofs.YtmpoakdpdflfgaaGreatDoor
open Go.ChangeShapes Go.WideShapes Go.ChangeAt Go.RowKit Go.Dec
theorem Lf:joinedFacts Tryz.prog 4 Tryz.f4 Rows.stageFilesSpec Rows.stageFilesRow = true:=by
 unfold joinedFacts
 simp only [Yw,Yx,Yy,Yz,Za,Vt,Vu,Vv,Vw,Vx,Vy,Vz,Wd,Wh,Wi,Wj,Wm,Wn,Wo,Wp,Wq,Ws,Wt,Wu,Wv,zUs,zUt,zUu,zUv,zRh,zRi,Bool.and_self,Bool.and_true,Bool.true_and]
 kernel_rfl
theorem Fg:Tryz.prog.funcNamed "calender/calenderlaw16.StageFiles" = some 4:=by kernel_rfl
theorem Pj:Tryz.f4.isInstance Tryz.prog Rows.stageFilesRow.origin Rows.stageFilesRow.targs:=of_decide_eq_true (by kernel_rfl)
theorem Pk:Tryz.f4.isWrapper Tryz.prog Rows.stageFilesRow.wrapper Rows.stageFilesRow.mainSum:=by
 unfold Func.isWrapper; first | (rw [if_pos (by decide +kernel)]; kernel_rfl) | (rw [if_neg (by decide +kernel)]; exact ⟨rfl,rfl⟩)
end Go.Proofs.YtmpoakdpdflfgaaGreatDoor
