/- Part of a proof over this seat: a library of my own, and what it says of this seat. No statement is proved here. -/
import Derived.Test.YtdgneppobefaoaaGreatDoorPartBX
import Derived.Test.YtdgneppobefaoaaGreatDoorCards
import Derived.Test.YtdgneppobefaoaaGreatDoorTie
import Derived.Test.YtdgneppobefaoaaGreatDoorPartBY
namespace Go.Proofs.YtdgneppobefaoaaGreatDoor
open Go.ChangeShapes Go.WideShapes Go.ChangeAt Go.RowKit Go.Dec
theorem zFu:((Rows.topListUptoRow.wideKeys == (Tryz.f8.params.toList++(iG.bare).plain.varTypes Tryz.prog++Tryz.f8.resultTypes.toList).any (Tryz.prog.wideKeysFrom ·)))=true:=by kernel_rfl
theorem zFv:((iG.bare).vars.all (Tryz.prog.varReadable ·))=true:=by kernel_rfl
theorem zFw:(Tryz.f8.resultTypes.all (fun t=>Tryz.prog.readableRec t && decide (t < Tryz.prog.types.size)))=true:=by kernel_rfl
theorem zFx:((Rows.topListUptoRow.ifacesOut == Tryz.f8.resultTypes.toList.any (Tryz.prog.ifacesRec ·)))=true:=by kernel_rfl
theorem zFy:((Rows.topListUptoRow.loopsOut == Tryz.f8.resultTypes.toList.any (Tryz.prog.loopsFrom ·)))=true:=by kernel_rfl
theorem zFz:((Rows.topListUptoRow.plainKeys == Tryz.prog.plainKeys))=true:=by kernel_rfl
theorem zGa:(Rows.topListUptoRow.shortTexts.isNone)=true:=by kernel_rfl
theorem zGb:((Rows.topListUptoRow.lifted == Tryz.prog.liftsFinal))=true:=by kernel_rfl
theorem zGc:((Tryz.prog.make == some Rows.topListUptoRow.make))=true:=by kernel_rfl
theorem zGd:((Rows.topListUptoRow.pinned == Rows.topListUptoRow.pinnedBy))=true:=by kernel_rfl
theorem zGe:((Rows.topListUptoRow.veiled == (Tryz.f8.params.toList++(iG.bare).plain.varTypes Tryz.prog++Tryz.f8.resultTypes.toList).any (Tryz.prog.veiledRec ·)))=true:=by kernel_rfl
theorem zGf:(Rows.topListUptoRow.veiledFits Tryz.prog Tryz.f8.params.toList (Tryz.f8.params.toList++(iG.bare).plain.varTypes Tryz.prog++Tryz.f8.resultTypes.toList))=true:=by kernel_rfl
end Go.Proofs.YtdgneppobefaoaaGreatDoor
namespace Go.Proofs.YtdgneppobefaoaaGreatDoor
open Go.ChangeShapes Go.WideShapes Go.ChangeAt Go.RowKit Go.Dec
theorem Tm:joinedFacts Tryz.prog 8 Tryz.f8 (iG.bare) Rows.topListUptoRow=true:=by
 unfold joinedFacts
 simp only [zIr,zIs,zIt,zIu,zIv,zFm,zFn,zFo,zFp,zFq,zFr,zFs,zFt,zFu,zFv,zFw,zFx,zFy,zFz,zGa,zGb,zGc,zGd,zGe,zGf,yLm,yLn,yLo,yLp,yHk,yHl,Bool.and_self,Bool.and_true,Bool.true_and]
 kernel_rfl
theorem Ma:Tryz.prog.funcNamed "calender/calendertop.TopList" = some 8:=by kernel_rfl
theorem Zp:Tryz.f8.isInstance Tryz.prog Rows.topListUptoRow.origin Rows.topListUptoRow.targs:=of_decide_eq_true (by kernel_rfl)
theorem Zq:Tryz.f8.isWrapper Tryz.prog Rows.topListUptoRow.wrapper Rows.topListUptoRow.mainSum:=by
 unfold Func.isWrapper; first | (rw [if_pos (by decide +kernel)]; kernel_rfl) | (rw [if_neg (by decide +kernel)]; exact ⟨rfl,rfl⟩)
end Go.Proofs.YtdgneppobefaoaaGreatDoor
