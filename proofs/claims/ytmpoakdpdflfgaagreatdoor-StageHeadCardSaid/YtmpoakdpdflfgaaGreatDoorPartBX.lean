/- Part of a proof over this seat: a library of my own, and what it says of this seat. No statement is proved here. -/
import Derived.Test.YtmpoakdpdflfgaaGreatDoorPartBW
import Derived.Test.YtmpoakdpdflfgaaGreatDoorCards
import Derived.Test.YtmpoakdpdflfgaaGreatDoorTie
namespace Go.Proofs.YtmpoakdpdflfgaaGreatDoor
open Go.ChangeShapes Go.WideShapes Go.ChangeAt Go.RowKit Go.Dec
theorem zHd:(Rows.stageHeadRow.wf (OpenSpec.ofChange Rows.stageHeadSpec))=true:=by kernel_rfl
theorem zHe:(Tryz.f6.params.all (Tryz.prog.readableRec ·))=true:=by kernel_rfl
theorem zHf:(namedTie Tryz.prog Rows.stageHeadRow.named Rows.stageHeadSpec.vars)=true:=by kernel_rfl
theorem zHg:((Rows.stageHeadRow.stops == []))=true:=by kernel_rfl
theorem zHh:((Rows.stageHeadRow.knobs == []))=true:=by kernel_rfl
theorem zBb:((Rows.stageHeadRow.inPlace == Tryz.prog.inPlace 6))=true:=by kernel_rfl
theorem zBc:((Rows.stageHeadRow.unfollowed == Tryz.prog.unfollowed 6))=true:=by kernel_rfl
theorem zBd:((Rows.stageHeadRow.recurses == Tryz.prog.recurses 6))=true:=by kernel_rfl
theorem zBe:((Rows.stageHeadRow.named == Tryz.prog.varsNamed 6))=true:=by kernel_rfl
theorem zBf:((Rows.stageHeadRow.maps == (Tryz.f6.params.toList++Rows.stageHeadSpec.plain.varTypes Tryz.prog).any (Tryz.prog.mapsRec ·)))=true:=by kernel_rfl
theorem zBg:((Rows.stageHeadRow.ifaces == (Tryz.f6.params.toList++Rows.stageHeadSpec.plain.varTypes Tryz.prog).any (Tryz.prog.ifacesRec ·)))=true:=by kernel_rfl
theorem zBh:((Rows.stageHeadRow.mapsOut == Tryz.prog.mapsAmong Tryz.f6.resultTypes.toList))=true:=by kernel_rfl
theorem zBi:((Rows.stageHeadRow.loops == (Tryz.f6.params.toList++Rows.stageHeadSpec.plain.varTypes Tryz.prog).any (Tryz.prog.loopsFrom ·)))=true:=by kernel_rfl
end Go.Proofs.YtmpoakdpdflfgaaGreatDoor
