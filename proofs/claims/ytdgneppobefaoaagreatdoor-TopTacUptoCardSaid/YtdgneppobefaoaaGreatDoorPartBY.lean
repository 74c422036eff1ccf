/- Part of a proof over this seat: a library of my own, and what it says of this seat. No statement is proved here. -/
import Derived.Test.YtdgneppobefaoaaGreatDoorPartBW
import Derived.Test.YtdgneppobefaoaaGreatDoorCards
import Derived.Test.YtdgneppobefaoaaGreatDoorTie
import Derived.Test.YtdgneppobefaoaaGreatDoorPartBX
namespace Go.Proofs.YtdgneppobefaoaaGreatDoor
open Go.ChangeShapes Go.WideShapes Go.ChangeAt Go.RowKit Go.Dec
theorem zFn:((Rows.topTacUptoRow.wideKeys == (Tryz.f3.params.toList++(iT.bare).plain.varTypes Tryz.prog++Tryz.f3.resultTypes.toList).any (Tryz.prog.wideKeysFrom ·)))=true:=by kernel_rfl
theorem zFo:((iT.bare).vars.all (Tryz.prog.varReadable ·))=true:=by kernel_rfl
theorem zFp:(Tryz.f3.resultTypes.all (fun t=>Tryz.prog.readableRec t && decide (t < Tryz.prog.types.size)))=true:=by kernel_rfl
theorem zFq:((Rows.topTacUptoRow.ifacesOut == Tryz.f3.resultTypes.toList.any (Tryz.prog.ifacesRec ·)))=true:=by kernel_rfl
theorem zFr:((Rows.topTacUptoRow.loopsOut == Tryz.f3.resultTypes.toList.any (Tryz.prog.loopsFrom ·)))=true:=by kernel_rfl
theorem zFs:((Rows.topTacUptoRow.plainKeys == Tryz.prog.plainKeys))=true:=by kernel_rfl
theorem zFt:(Rows.topTacUptoRow.shortTexts.isNone)=true:=by kernel_rfl
theorem zFu:((Rows.topTacUptoRow.lifted == Tryz.prog.liftsFinal))=true:=by kernel_rfl
theorem zFv:((Tryz.prog.make == some Rows.topTacUptoRow.make))=true:=by kernel_rfl
theorem zFw:((Rows.topTacUptoRow.pinned == Rows.topTacUptoRow.pinnedBy))=true:=by kernel_rfl
theorem zFx:((Rows.topTacUptoRow.veiled == (Tryz.f3.params.toList++(iT.bare).plain.varTypes Tryz.prog++Tryz.f3.resultTypes.toList).any (Tryz.prog.veiledRec ·)))=true:=by kernel_rfl
theorem zFy:(Rows.topTacUptoRow.veiledFits Tryz.prog Tryz.f3.params.toList (Tryz.f3.params.toList++(iT.bare).plain.varTypes Tryz.prog++Tryz.f3.resultTypes.toList))=true:=by kernel_rfl
end Go.Proofs.YtdgneppobefaoaaGreatDoor
namespace Go.Proofs.YtdgneppobefaoaaGreatDoor
open Go.ChangeShapes Go.WideShapes Go.ChangeAt Go.RowKit Go.Dec
theorem Wd:joinedFacts Tryz.prog 3 Tryz.f3 (iT.bare) Rows.topTacUptoRow=true:=by
 unfold joinedFacts
 simp only [zIh,zIi,zIj,zIk,zIl,zFf,zFg,zFh,zFi,zFj,zFk,zFl,zFm,zFn,zFo,zFp,zFq,zFr,zFs,zFt,zFu,zFv,zFw,zFx,zFy,yHc,yHd,yHe,yHf,yDf,yDg,Bool.and_self,Bool.and_true,Bool.true_and]
 kernel_rfl
theorem Ql:Tryz.prog.funcNamed "calender/calendertop.TopTac" = some 3:=by kernel_rfl
theorem Zo:Tryz.f3.isInstance Tryz.prog Rows.topTacUptoRow.origin Rows.topTacUptoRow.targs:=of_decide_eq_true (by kernel_rfl)
theorem Zp:Tryz.f3.isWrapper Tryz.prog Rows.topTacUptoRow.wrapper Rows.topTacUptoRow.mainSum:=by
 unfold Func.isWrapper; first | (rw [if_pos (by decide +kernel)]; kernel_rfl) | (rw [if_neg (by decide +kernel)]; exact ⟨rfl,rfl⟩)
end Go.Proofs.YtdgneppobefaoaaGreatDoor
