/- Part of a proof over this seat: a library of my own, and what it says of this seat. No statement is proved here. -/
import Derived.Test.YtdgneppobefaoaaGreatDoorPartBX
import Derived.Test.YtdgneppobefaoaaGreatDoorCards
import Derived.Test.YtdgneppobefaoaaGreatDoorTie
namespace Go.Proofs.YtdgneppobefaoaaGreatDoor
open Go.ChangeShapes Go.WideShapes Go.ChangeAt Go.RowKit Go.Dec
abbrev eZ:OpenSpec:=Rows.OpenSpec.upto Rows.topTwiceSpec
theorem zDc:(Rows.topTwiceUptoRow.wf (OpenSpec.ofChange (eZ.bare)))=true:=by kernel_rfl
theorem zDd:(Tryz.f6.params.all (Tryz.prog.readableRec ·))=true:=by kernel_rfl
theorem zDe:(namedTie Tryz.prog Rows.topTwiceUptoRow.named (eZ.bare).vars)=true:=by kernel_rfl
theorem zDf:((Rows.topTwiceUptoRow.stops == []))=true:=by kernel_rfl
theorem zDg:((Rows.topTwiceUptoRow.knobs == []))=true:=by kernel_rfl
theorem Yr:((Rows.topTwiceUptoRow.inPlace == Tryz.prog.inPlace 6))=true:=by kernel_rfl
theorem Yt:((Rows.topTwiceUptoRow.unfollowed == Tryz.prog.unfollowed 6))=true:=by kernel_rfl
theorem Yu:((Rows.topTwiceUptoRow.recurses == Tryz.prog.recurses 6))=true:=by kernel_rfl
theorem Yv:((Rows.topTwiceUptoRow.named == Tryz.prog.varsNamed 6))=true:=by kernel_rfl
theorem Yw:((Rows.topTwiceUptoRow.maps == (Tryz.f6.params.toList++(eZ.bare).plain.varTypes Tryz.prog).any (Tryz.prog.mapsRec ·)))=true:=by kernel_rfl
theorem Yx:((Rows.topTwiceUptoRow.ifaces == (Tryz.f6.params.toList++(eZ.bare).plain.varTypes Tryz.prog).any (Tryz.prog.ifacesRec ·)))=true:=by kernel_rfl
theorem Yy:((Rows.topTwiceUptoRow.mapsOut == Tryz.prog.mapsAmong Tryz.f6.resultTypes.toList))=true:=by kernel_rfl
theorem Yz:((Rows.topTwiceUptoRow.loops == (Tryz.f6.params.toList++(eZ.bare).plain.varTypes Tryz.prog).any (Tryz.prog.loopsFrom ·)))=true:=by kernel_rfl
end Go.Proofs.YtdgneppobefaoaaGreatDoor
