/- Part of a proof over this seat: a library of my own, and what it says of this seat. No statement is proved here. -/
import Derived.Test.YtmpoakdpdflfgaaGreatDoorSwBW
import Derived.Test.YtmpoakdpdflfgaaGreatDoorCards
import Derived.Test.YtmpoakdpdflfgaaGreatDoorTie
namespace Go.Proofs.YtmpoakdpdflfgaaGreatDoor
open Go.ChangeShapes Go.WideShapes Go.ChangeAt Go.RowKit Go.Dec
theorem stageWrites_j1:(Rows.stageWritesRow.wf (OpenSpec.ofChange Rows.stageWritesSpec))=true:=by kernel_rfl
theorem stageWrites_j4:(Tryz.f5.params.all (Tryz.prog.readableRec ·))=true:=by kernel_rfl
theorem stageWrites_j5:(namedTie Tryz.prog Rows.stageWritesRow.named Rows.stageWritesSpec.vars)=true:=by kernel_rfl
theorem stageWrites_j6:((Rows.stageWritesRow.stops == []))=true:=by kernel_rfl
theorem stageWrites_j8:((Rows.stageWritesRow.knobs == []))=true:=by kernel_rfl
theorem stageWrites_j10:((Rows.stageWritesRow.inPlace == Tryz.prog.inPlace 5))=true:=by kernel_rfl
theorem stageWrites_j11:((Rows.stageWritesRow.unfollowed == Tryz.prog.unfollowed 5))=true:=by kernel_rfl
theorem stageWrites_j12:((Rows.stageWritesRow.recurses == Tryz.prog.recurses 5))=true:=by kernel_rfl
theorem stageWrites_j13:((Rows.stageWritesRow.named == Tryz.prog.varsNamed 5))=true:=by kernel_rfl
theorem stageWrites_j14:((Rows.stageWritesRow.maps == (Tryz.f5.params.toList++Rows.stageWritesSpec.plain.varTypes Tryz.prog).any (Tryz.prog.mapsRec ·)))=true:=by kernel_rfl
theorem stageWrites_j15:((Rows.stageWritesRow.ifaces == (Tryz.f5.params.toList++Rows.stageWritesSpec.plain.varTypes Tryz.prog).any (Tryz.prog.ifacesRec ·)))=true:=by kernel_rfl
theorem stageWrites_j16:((Rows.stageWritesRow.mapsOut == Tryz.prog.mapsAmong Tryz.f5.resultTypes.toList))=true:=by kernel_rfl
theorem stageWrites_j17:((Rows.stageWritesRow.loops == (Tryz.f5.params.toList++Rows.stageWritesSpec.plain.varTypes Tryz.prog).any (Tryz.prog.loopsFrom ·)))=true:=by kernel_rfl
end Go.Proofs.YtmpoakdpdflfgaaGreatDoor
