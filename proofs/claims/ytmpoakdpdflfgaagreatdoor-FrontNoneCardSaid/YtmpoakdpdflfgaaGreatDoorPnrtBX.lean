/- Part of a proof over this seat: a library of my own, and what it says of this seat. No statement is proved here. -/
import Derived.Test.YtmpoakdpdflfgaaGreatDoorPnrtBW
import Derived.Test.YtmpoakdpdflfgaaGreatDoorCards
import Derived.Test.YtmpoakdpdflfgaaGreatDoorTie
namespace Go.Proofs.YtmpoakdpdflfgaaGreatDoor
open Go.ChangeShapes Go.WideShapes Go.ChangeAt Go.RowKit Go.Dec
theorem zEv:(Rows.frontNoneRow.wf (OpenSpec.ofChange Rows.frontNoneSpec))=true:=by kernel_rfl
theorem zEw:(Tryz.f8.params.all (Tryz.prog.readableRec ·))=true:=by kernel_rfl
theorem zEx:(namedTie Tryz.prog Rows.frontNoneRow.named Rows.frontNoneSpec.vars)=true:=by kernel_rfl
theorem zEy:((Rows.frontNoneRow.stops == []))=true:=by kernel_rfl
theorem zEz:((Rows.frontNoneRow.knobs == []))=true:=by kernel_rfl
theorem Ym:((Rows.frontNoneRow.inPlace == Tryz.prog.inPlace 8))=true:=by kernel_rfl
theorem Yn:((Rows.frontNoneRow.unfollowed == Tryz.prog.unfollowed 8))=true:=by kernel_rfl
theorem Yo:((Rows.frontNoneRow.recurses == Tryz.prog.recurses 8))=true:=by kernel_rfl
theorem Yp:((Rows.frontNoneRow.named == Tryz.prog.varsNamed 8))=true:=by kernel_rfl
theorem Yq:((Rows.frontNoneRow.maps == (Tryz.f8.params.toList++Rows.frontNoneSpec.plain.varTypes Tryz.prog).any (Tryz.prog.mapsRec ·)))=true:=by kernel_rfl
theorem Yr:((Rows.frontNoneRow.ifaces == (Tryz.f8.params.toList++Rows.frontNoneSpec.plain.varTypes Tryz.prog).any (Tryz.prog.ifacesRec ·)))=true:=by kernel_rfl
theorem Yt:((Rows.frontNoneRow.mapsOut == Tryz.prog.mapsAmong Tryz.f8.resultTypes.toList))=true:=by kernel_rfl
theorem Yu:((Rows.frontNoneRow.loops == (Tryz.f8.params.toList++Rows.frontNoneSpec.plain.varTypes Tryz.prog).any (Tryz.prog.loopsFrom ·)))=true:=by kernel_rfl
end Go.Proofs.YtmpoakdpdflfgaaGreatDoor
