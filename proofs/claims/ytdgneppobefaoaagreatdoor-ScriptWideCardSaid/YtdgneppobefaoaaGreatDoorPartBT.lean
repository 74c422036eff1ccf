/- Part of a proof over this seat: a library of my own, and what it says of this seat. No statement is proved here. -/
import Derived.Test.YtdgneppobefaoaaGreatDoorPartBS
import Derived.Test.YtdgneppobefaoaaGreatDoorCards
import Derived.Test.YtdgneppobefaoaaGreatDoorTie
namespace Go.Proofs.YtdgneppobefaoaaGreatDoor
open Go.ChangeShapes Go.WideShapes Go.ChangeAt Go.RowKit Go.Dec
theorem Yn:(Rows.scriptWideRow.wf (OpenSpec.ofChange Rows.scriptWideSpec))=true:=by kernel_rfl
theorem Yo:(Tryz.f4.params.all (Tryz.prog.readableRec ·))=true:=by kernel_rfl
theorem Yp:(namedTie Tryz.prog Rows.scriptWideRow.named Rows.scriptWideSpec.vars)=true:=by kernel_rfl
theorem Yq:((Rows.scriptWideRow.stops == []))=true:=by kernel_rfl
theorem Yr:((Rows.scriptWideRow.knobs == []))=true:=by kernel_rfl
theorem Vr:((Rows.scriptWideRow.inPlace == Tryz.prog.inPlace 4))=true:=by kernel_rfl
theorem Vs:((Rows.scriptWideRow.unfollowed == Tryz.prog.unfollowed 4))=true:=by kernel_rfl
theorem Vt:((Rows.scriptWideRow.recurses == Tryz.prog.recurses 4))=true:=by kernel_rfl
theorem Vu:((Rows.scriptWideRow.named == Tryz.prog.varsNamed 4))=true:=by kernel_rfl
theorem Vv:((Rows.scriptWideRow.maps == (Tryz.f4.params.toList++Rows.scriptWideSpec.plain.varTypes Tryz.prog).any (Tryz.prog.mapsRec ·)))=true:=by kernel_rfl
theorem Vw:((Rows.scriptWideRow.ifaces == (Tryz.f4.params.toList++Rows.scriptWideSpec.plain.varTypes Tryz.prog).any (Tryz.prog.ifacesRec ·)))=true:=by kernel_rfl
theorem Vx:((Rows.scriptWideRow.mapsOut == Tryz.prog.mapsAmong Tryz.f4.resultTypes.toList))=true:=by kernel_rfl
theorem Vy:((Rows.scriptWideRow.loops == (Tryz.f4.params.toList++Rows.scriptWideSpec.plain.varTypes Tryz.prog).any (Tryz.prog.loopsFrom ·)))=true:=by kernel_rfl
end Go.Proofs.YtdgneppobefaoaaGreatDoor
