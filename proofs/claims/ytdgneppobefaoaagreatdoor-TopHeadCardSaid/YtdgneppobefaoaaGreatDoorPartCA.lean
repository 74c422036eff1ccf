/- Part of a proof over this seat: a library of my own, and what it says of this seat. No statement is proved here. -/
import Derived.Test.YtdgneppobefaoaaGreatDoorPartBY
import Derived.Test.YtdgneppobefaoaaGreatDoorCards
import Derived.Test.YtdgneppobefaoaaGreatDoorTie
import Derived.Test.YtdgneppobefaoaaGreatDoorPartBZ
namespace Go.Proofs.YtdgneppobefaoaaGreatDoor
open Go.ChangeShapes Go.WideShapes Go.ChangeAt Go.RowKit Go.Dec
theorem zSo:((Rows.topHeadRow.wideKeys == (Tryz.f7.params.toList++Rows.topHeadSpec.plain.varTypes Tryz.prog++Tryz.f7.resultTypes.toList).any (Tryz.prog.wideKeysFrom ·)))=true:=by kernel_rfl
theorem zSp:(Rows.topHeadSpec.vars.all (Tryz.prog.varReadable ·))=true:=by kernel_rfl
theorem zSq:(Tryz.f7.resultTypes.all (fun t=>Tryz.prog.readableRec t && decide (t < Tryz.prog.types.size)))=true:=by kernel_rfl
theorem zSr:((Rows.topHeadRow.ifacesOut == Tryz.f7.resultTypes.toList.any (Tryz.prog.ifacesRec ·)))=true:=by kernel_rfl
theorem zSs:((Rows.topHeadRow.loopsOut == Tryz.f7.resultTypes.toList.any (Tryz.prog.loopsFrom ·)))=true:=by kernel_rfl
theorem zSt:((Rows.topHeadRow.plainKeys == Tryz.prog.plainKeys))=true:=by kernel_rfl
theorem zSu:(Rows.topHeadRow.shortTexts.isNone)=true:=by kernel_rfl
theorem zSv:((Rows.topHeadRow.lifted == Tryz.prog.liftsFinal))=true:=by kernel_rfl
theorem zSw:((Tryz.prog.make == some Rows.topHeadRow.make))=true:=by kernel_rfl
theorem zSx:((Rows.topHeadRow.pinned == Rows.topHeadRow.pinnedBy))=true:=by kernel_rfl
theorem zSy:((Rows.topHeadRow.veiled == (Tryz.f7.params.toList++Rows.topHeadSpec.plain.varTypes Tryz.prog++Tryz.f7.resultTypes.toList).any (Tryz.prog.veiledRec ·)))=true:=by kernel_rfl
theorem zSz:(Rows.topHeadRow.veiledFits Tryz.prog Tryz.f7.params.toList (Tryz.f7.params.toList++Rows.topHeadSpec.plain.varTypes Tryz.prog++Tryz.f7.resultTypes.toList))=true:=by kernel_rfl
end Go.Proofs.YtdgneppobefaoaaGreatDoor
namespace Go.Proofs.YtdgneppobefaoaaGreatDoor
open Go.ChangeShapes Go.WideShapes Go.ChangeAt Go.RowKit Go.Dec
theorem zGe:joinedFacts Tryz.prog 7 Tryz.f7 Rows.topHeadSpec Rows.topHeadRow=true:=by
 unfold joinedFacts
 simp only [zZu,zZv,zZw,zZx,zZy,zSg,zSh,zSi,zSj,zSk,zSl,zSm,zSn,zSo,zSp,zSq,zSr,zSs,zSt,zSu,zSv,zSw,zSx,zSy,zSz,yMr,yMs,yMt,yMu,yIj,yIk,Bool.and_self,Bool.and_true,Bool.true_and]
 kernel_rfl
theorem zCv:Tryz.prog.funcNamed "calender/calendertop.TopHead" = some 7:=by kernel_rfl
theorem zLk:Tryz.f7.isInstance Tryz.prog Rows.topHeadRow.origin Rows.topHeadRow.targs:=of_decide_eq_true (by kernel_rfl)
theorem zLl:Tryz.f7.isWrapper Tryz.prog Rows.topHeadRow.wrapper Rows.topHeadRow.mainSum:=by
 unfold Func.isWrapper; first | (rw [if_pos (by decide +kernel)]; kernel_rfl) | (rw [if_neg (by decide +kernel)]; exact ⟨rfl,rfl⟩)
end Go.Proofs.YtdgneppobefaoaaGreatDoor
