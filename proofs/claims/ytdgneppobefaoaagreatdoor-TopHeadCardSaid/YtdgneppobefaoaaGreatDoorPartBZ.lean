/- Part of a proof over this seat: a library of my own, and what it says of this seat. No statement is proved here. -/
import Derived.Test.YtdgneppobefaoaaGreatDoorPartBY
import Derived.Test.YtdgneppobefaoaaGreatDoorCards
import Derived.Test.YtdgneppobefaoaaGreatDoorTie
namespace Go.Proofs.YtdgneppobefaoaaGreatDoor
open Go.ChangeShapes Go.WideShapes Go.ChangeAt Go.RowKit Go.Dec
theorem zZu:(Rows.topHeadRow.wf (OpenSpec.ofChange Rows.topHeadSpec))=true:=by kernel_rfl
theorem zZv:(Tryz.f7.params.all (Tryz.prog.readableRec ·))=true:=by kernel_rfl
theorem zZw:(namedTie Tryz.prog Rows.topHeadRow.named Rows.topHeadSpec.vars)=true:=by kernel_rfl
theorem zZx:((Rows.topHeadRow.stops == []))=true:=by kernel_rfl
theorem zZy:((Rows.topHeadRow.knobs == []))=true:=by kernel_rfl
theorem zSg:((Rows.topHeadRow.inPlace == Tryz.prog.inPlace 7))=true:=by kernel_rfl
theorem zSh:((Rows.topHeadRow.unfollowed == Tryz.prog.unfollowed 7))=true:=by kernel_rfl
theorem zSi:((Rows.topHeadRow.recurses == Tryz.prog.recurses 7))=true:=by kernel_rfl
theorem zSj:((Rows.topHeadRow.named == Tryz.prog.varsNamed 7))=true:=by kernel_rfl
theorem zSk:((Rows.topHeadRow.maps == (Tryz.f7.params.toList++Rows.topHeadSpec.plain.varTypes Tryz.prog).any (Tryz.prog.mapsRec ·)))=true:=by kernel_rfl
theorem zSl:((Rows.topHeadRow.ifaces == (Tryz.f7.params.toList++Rows.topHeadSpec.plain.varTypes Tryz.prog).any (Tryz.prog.ifacesRec ·)))=true:=by kernel_rfl
theorem zSm:((Rows.topHeadRow.mapsOut == Tryz.prog.mapsAmong Tryz.f7.resultTypes.toList))=true:=by kernel_rfl
theorem zSn:((Rows.topHeadRow.loops == (Tryz.f7.params.toList++Rows.topHeadSpec.plain.varTypes Tryz.prog).any (Tryz.prog.loopsFrom ·)))=true:=by kernel_rfl
end Go.Proofs.YtdgneppobefaoaaGreatDoor
