/- Part of a proof over this seat: a library of my own, and what it says of this seat. No statement is proved here. -/
import Derived.Test.YtdgneppobefaoaaGreatDoorPartBW
import Derived.Test.YtdgneppobefaoaaGreatDoorCards
import Derived.Test.YtdgneppobefaoaaGreatDoorTie
namespace Go.Proofs.YtdgneppobefaoaaGreatDoor
open Go.ChangeShapes Go.WideShapes Go.ChangeAt Go.RowKit Go.Dec
abbrev iT:OpenSpec:=Rows.OpenSpec.upto Rows.topTacSpec
theorem zIh:(Rows.topTacUptoRow.wf (OpenSpec.ofChange (iT.bare)))=true:=by kernel_rfl
theorem zIi:(Tryz.f3.params.all (Tryz.prog.readableRec ·))=true:=by kernel_rfl
theorem zIj:(namedTie Tryz.prog Rows.topTacUptoRow.named (iT.bare).vars)=true:=by kernel_rfl
theorem zIk:((Rows.topTacUptoRow.stops == []))=true:=by kernel_rfl
theorem zIl:((Rows.topTacUptoRow.knobs == []))=true:=by kernel_rfl
theorem zFf:((Rows.topTacUptoRow.inPlace == Tryz.prog.inPlace 3))=true:=by kernel_rfl
theorem zFg:((Rows.topTacUptoRow.unfollowed == Tryz.prog.unfollowed 3))=true:=by kernel_rfl
theorem zFh:((Rows.topTacUptoRow.recurses == Tryz.prog.recurses 3))=true:=by kernel_rfl
theorem zFi:((Rows.topTacUptoRow.named == Tryz.prog.varsNamed 3))=true:=by kernel_rfl
theorem zFj:((Rows.topTacUptoRow.maps == (Tryz.f3.params.toList++(iT.bare).plain.varTypes Tryz.prog).any (Tryz.prog.mapsRec ·)))=true:=by kernel_rfl
theorem zFk:((Rows.topTacUptoRow.ifaces == (Tryz.f3.params.toList++(iT.bare).plain.varTypes Tryz.prog).any (Tryz.prog.ifacesRec ·)))=true:=by kernel_rfl
theorem zFl:((Rows.topTacUptoRow.mapsOut == Tryz.prog.mapsAmong Tryz.f3.resultTypes.toList))=true:=by kernel_rfl
theorem zFm:((Rows.topTacUptoRow.loops == (Tryz.f3.params.toList++(iT.bare).plain.varTypes Tryz.prog).any (Tryz.prog.loopsFrom ·)))=true:=by kernel_rfl
end Go.Proofs.YtdgneppobefaoaaGreatDoor
