/- Part of a proof over this seat: a library of my own, and what it says of this seat. No statement is proved here. -/
import Derived.Test.YtdgneppobefaoaaGreatDoorPartBX
import Derived.Test.YtdgneppobefaoaaGreatDoorCards
import Derived.Test.YtdgneppobefaoaaGreatDoorTie
namespace Go.Proofs.YtdgneppobefaoaaGreatDoor
open Go.ChangeShapes Go.WideShapes Go.ChangeAt Go.RowKit Go.Dec
abbrev iG:OpenSpec:=Rows.OpenSpec.upto Rows.topListSpec
theorem zIr:(Rows.topListUptoRow.wf (OpenSpec.ofChange (iG.bare)))=true:=by kernel_rfl
theorem zIs:(Tryz.f8.params.all (Tryz.prog.readableRec ·))=true:=by kernel_rfl
theorem zIt:(namedTie Tryz.prog Rows.topListUptoRow.named (iG.bare).vars)=true:=by kernel_rfl
theorem zIu:((Rows.topListUptoRow.stops == []))=true:=by kernel_rfl
theorem zIv:((Rows.topListUptoRow.knobs == []))=true:=by kernel_rfl
theorem zFm:((Rows.topListUptoRow.inPlace == Tryz.prog.inPlace 8))=true:=by kernel_rfl
theorem zFn:((Rows.topListUptoRow.unfollowed == Tryz.prog.unfollowed 8))=true:=by kernel_rfl
theorem zFo:((Rows.topListUptoRow.recurses == Tryz.prog.recurses 8))=true:=by kernel_rfl
theorem zFp:((Rows.topListUptoRow.named == Tryz.prog.varsNamed 8))=true:=by kernel_rfl
theorem zFq:((Rows.topListUptoRow.maps == (Tryz.f8.params.toList++(iG.bare).plain.varTypes Tryz.prog).any (Tryz.prog.mapsRec ·)))=true:=by kernel_rfl
theorem zFr:((Rows.topListUptoRow.ifaces == (Tryz.f8.params.toList++(iG.bare).plain.varTypes Tryz.prog).any (Tryz.prog.ifacesRec ·)))=true:=by kernel_rfl
theorem zFs:((Rows.topListUptoRow.mapsOut == Tryz.prog.mapsAmong Tryz.f8.resultTypes.toList))=true:=by kernel_rfl
theorem zFt:((Rows.topListUptoRow.loops == (Tryz.f8.params.toList++(iG.bare).plain.varTypes Tryz.prog).any (Tryz.prog.loopsFrom ·)))=true:=by kernel_rfl
end Go.Proofs.YtdgneppobefaoaaGreatDoor
