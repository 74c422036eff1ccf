/- Part of a proof over this seat: a library of my own, and what it says of this seat. No statement is proved here. -/
import Derived.Test.YtdgneppobefaoaaGreatDoorPartBT
import Derived.Test.YtdgneppobefaoaaGreatDoorCards
import Derived.Test.YtdgneppobefaoaaGreatDoorTie
namespace Go.Proofs.YtdgneppobefaoaaGreatDoor
open Go.ChangeShapes Go.WideShapes Go.ChangeAt Go.RowKit Go.Dec
theorem Qw:(Rows.frontReportsRow.wf (OpenSpec.ofChange Rows.frontReportsSpec))=true:=by kernel_rfl
theorem Qx:(Tryz.f5.params.all (Tryz.prog.readableRec ·))=true:=by kernel_rfl
theorem Qy:(namedTie Tryz.prog Rows.frontReportsRow.named Rows.frontReportsSpec.vars)=true:=by kernel_rfl
theorem Qz:((Rows.frontReportsRow.stops == []))=true:=by kernel_rfl
theorem Ra:((Rows.frontReportsRow.knobs == []))=true:=by kernel_rfl
theorem Lu:((Rows.frontReportsRow.inPlace == Tryz.prog.inPlace 5))=true:=by kernel_rfl
theorem Lv:((Rows.frontReportsRow.unfollowed == Tryz.prog.unfollowed 5))=true:=by kernel_rfl
theorem Lx:((Rows.frontReportsRow.recurses == Tryz.prog.recurses 5))=true:=by kernel_rfl
theorem Ma:((Rows.frontReportsRow.named == Tryz.prog.varsNamed 5))=true:=by kernel_rfl
theorem Mc:((Rows.frontReportsRow.maps == (Tryz.f5.params.toList++Rows.frontReportsSpec.plain.varTypes Tryz.prog).any (Tryz.prog.mapsRec ·)))=true:=by kernel_rfl
theorem Me:((Rows.frontReportsRow.ifaces == (Tryz.f5.params.toList++Rows.frontReportsSpec.plain.varTypes Tryz.prog).any (Tryz.prog.ifacesRec ·)))=true:=by kernel_rfl
theorem Mf:((Rows.frontReportsRow.mapsOut == Tryz.prog.mapsAmong Tryz.f5.resultTypes.toList))=true:=by kernel_rfl
theorem Mg:((Rows.frontReportsRow.loops == (Tryz.f5.params.toList++Rows.frontReportsSpec.plain.varTypes Tryz.prog).any (Tryz.prog.loopsFrom ·)))=true:=by kernel_rfl
end Go.Proofs.YtdgneppobefaoaaGreatDoor
