/- Part of a proof over this seat: a library of my own, and what it says of this seat. No statement is proved here. -/
import Derived.Test.YtdgneppobefaoaaGreatDoorPartBT
import Derived.Test.YtdgneppobefaoaaGreatDoorCards
import Derived.Test.YtdgneppobefaoaaGreatDoorTie
import Derived.Test.YtdgneppobefaoaaGreatDoorPartBU
namespace Go.Proofs.YtdgneppobefaoaaGreatDoor
open Go.ChangeShapes Go.WideShapes Go.ChangeAt Go.RowKit Go.Dec
theorem Mh:((Rows.frontReportsRow.wideKeys == (Tryz.f5.params.toList++Rows.frontReportsSpec.plain.varTypes Tryz.prog++Tryz.f5.resultTypes.toList).any (Tryz.prog.wideKeysFrom ·)))=true:=by kernel_rfl
theorem Mi:(Rows.frontReportsSpec.vars.all (Tryz.prog.varReadable ·))=true:=by kernel_rfl
theorem Mj:(Tryz.f5.resultTypes.all (fun t=>Tryz.prog.readableRec t && decide (t < Tryz.prog.types.size)))=true:=by kernel_rfl
theorem Mk:((Rows.frontReportsRow.ifacesOut == Tryz.f5.resultTypes.toList.any (Tryz.prog.ifacesRec ·)))=true:=by kernel_rfl
theorem Ml:((Rows.frontReportsRow.loopsOut == Tryz.f5.resultTypes.toList.any (Tryz.prog.loopsFrom ·)))=true:=by kernel_rfl
theorem Mq:((Rows.frontReportsRow.plainKeys == Tryz.prog.plainKeys))=true:=by kernel_rfl
theorem Mr:(Rows.frontReportsRow.shortTexts.isNone)=true:=by kernel_rfl
theorem Ms:((Rows.frontReportsRow.lifted == Tryz.prog.liftsFinal))=true:=by kernel_rfl
theorem Mt:((Tryz.prog.make == some Rows.frontReportsRow.make))=true:=by kernel_rfl
theorem Mv:((Rows.frontReportsRow.pinned == Rows.frontReportsRow.pinnedBy))=true:=by kernel_rfl
theorem Mw:((Rows.frontReportsRow.veiled == (Tryz.f5.params.toList++Rows.frontReportsSpec.plain.varTypes Tryz.prog++Tryz.f5.resultTypes.toList).any (Tryz.prog.veiledRec ·)))=true:=by kernel_rfl
theorem Mx:(Rows.frontReportsRow.veiledFits Tryz.prog Tryz.f5.params.toList (Tryz.f5.params.toList++Rows.frontReportsSpec.plain.varTypes Tryz.prog++Tryz.f5.resultTypes.toList))=true:=by kernel_rfl
end Go.Proofs.YtdgneppobefaoaaGreatDoor
namespace Go.Proofs.YtdgneppobefaoaaGreatDoor
open Go.ChangeShapes Go.WideShapes Go.ChangeAt Go.RowKit Go.Dec
theorem Cz:joinedFacts Tryz.prog 5 Tryz.f5 Rows.frontReportsSpec Rows.frontReportsRow=true:=by
 unfold joinedFacts
 simp only [Qw,Qx,Qy,Qz,Ra,Lu,Lv,Lx,Ma,Mc,Me,Mf,Mg,Mh,Mi,Mj,Mk,Ml,Mq,Mr,Ms,Mt,Mv,Mw,Mx,zPz,zQa,zQb,zQc,zNr,zNs,Bool.and_self,Bool.and_true,Bool.true_and]
 kernel_rfl
theorem xB:Tryz.prog.funcNamed "calender/calenderlaw22.FrontReports" = some 5:=by kernel_rfl
theorem Hl:Tryz.f5.isInstance Tryz.prog Rows.frontReportsRow.origin Rows.frontReportsRow.targs:=of_decide_eq_true (by kernel_rfl)
theorem Ho:Tryz.f5.isWrapper Tryz.prog Rows.frontReportsRow.wrapper Rows.frontReportsRow.mainSum:=by
 unfold Func.isWrapper; first | (rw [if_pos (by decide +kernel)]; kernel_rfl) | (rw [if_neg (by decide +kernel)]; exact ⟨rfl,rfl⟩)
end Go.Proofs.YtdgneppobefaoaaGreatDoor
