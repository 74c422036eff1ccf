/- Part of a proof over this seat: a library of my own, and what it says of this seat. No statement is proved here. -/
import Derived.Test.YtmpoakdpdflfgaaGreatDoorPartBV
import Derived.Test.YtmpoakdpdflfgaaGreatDoorCards
import Derived.Test.YtmpoakdpdflfgaaGreatDoorTie
namespace Go.Proofs.YtmpoakdpdflfgaaGreatDoor
open Go.ChangeShapes Go.WideShapes Go.ChangeAt Go.RowKit Go.Dec
theorem Yw:(Rows.stageFilesRow.wf (OpenSpec.ofChange Rows.stageFilesSpec)) = true:=by kernel_rfl
theorem Yx:(Tryz.f4.params.all (Tryz.prog.readableRec ·)) = true:=by kernel_rfl
theorem Yy:(namedTie Tryz.prog Rows.stageFilesRow.named Rows.stageFilesSpec.vars) = true:=by kernel_rfl
theorem Yz:((Rows.stageFilesRow.stops == [])) = true:=by kernel_rfl
theorem Za:((Rows.stageFilesRow.knobs == [])) = true:=by kernel_rfl
theorem Vt:((Rows.stageFilesRow.inPlace == Tryz.prog.inPlace 4)) = true:=by kernel_rfl
theorem Vu:((Rows.stageFilesRow.unfollowed == Tryz.prog.unfollowed 4)) = true:=by kernel_rfl
theorem Vv:((Rows.stageFilesRow.recurses == Tryz.prog.recurses 4)) = true:=by kernel_rfl
theorem Vw:((Rows.stageFilesRow.named == Tryz.prog.varsNamed 4)) = true:=by kernel_rfl
theorem Vx:((Rows.stageFilesRow.maps == (Tryz.f4.params.toList ++ Rows.stageFilesSpec.plain.varTypes Tryz.prog).any (Tryz.prog.mapsRec ·))) = true:=by kernel_rfl
theorem Vy:((Rows.stageFilesRow.ifaces == (Tryz.f4.params.toList ++ Rows.stageFilesSpec.plain.varTypes Tryz.prog).any (Tryz.prog.ifacesRec ·))) = true:=by kernel_rfl
theorem Vz:((Rows.stageFilesRow.mapsOut == Tryz.prog.mapsAmong Tryz.f4.resultTypes.toList)) = true:=by kernel_rfl
theorem Wd:((Rows.stageFilesRow.loops == (Tryz.f4.params.toList ++ Rows.stageFilesSpec.plain.varTypes Tryz.prog).any (Tryz.prog.loopsFrom ·))) = true:=by kernel_rfl
end Go.Proofs.YtmpoakdpdflfgaaGreatDoor
