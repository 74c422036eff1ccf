/- Part of a proof over this seat: a library of my own, and what it says of this seat. No statement is proved here. -/
import Derived.Test.YtmpoakdpdflfgaaGreatDoorPartBV
import Derived.Test.YtmpoakdpdflfgaaGreatDoorCards
import Derived.Test.YtmpoakdpdflfgaaGreatDoorTie
namespace Go.Proofs.YtmpoakdpdflfgaaGreatDoor
open Go.ChangeShapes Go.WideShapes Go.ChangeAt Go.RowKit Go.Dec
theorem Wz : (Rows.stageCopiesRow.wf (OpenSpec.ofChange Rows.stageCopiesSpec)) = true:=by kernel_rfl
theorem Xa : (Tryz.f3.params.all (Tryz.prog.readableRec ·)) = true:=by kernel_rfl
theorem Xb : (namedTie Tryz.prog Rows.stageCopiesRow.named Rows.stageCopiesSpec.vars) = true:=by kernel_rfl
theorem Xc : ((Rows.stageCopiesRow.stops == [])) = true:=by kernel_rfl
theorem Xd : ((Rows.stageCopiesRow.knobs == [])) = true:=by kernel_rfl
theorem Tv : ((Rows.stageCopiesRow.inPlace == Tryz.prog.inPlace 3)) = true:=by kernel_rfl
theorem Tw : ((Rows.stageCopiesRow.unfollowed == Tryz.prog.unfollowed 3)) = true:=by kernel_rfl
theorem Tx : ((Rows.stageCopiesRow.recurses == Tryz.prog.recurses 3)) = true:=by kernel_rfl
theorem Tz : ((Rows.stageCopiesRow.named == Tryz.prog.varsNamed 3)) = true:=by kernel_rfl
theorem Ua : ((Rows.stageCopiesRow.maps == (Tryz.f3.params.toList ++ Rows.stageCopiesSpec.plain.varTypes Tryz.prog).any (Tryz.prog.mapsRec ·))) = true:=by kernel_rfl
theorem Ub : ((Rows.stageCopiesRow.ifaces == (Tryz.f3.params.toList ++ Rows.stageCopiesSpec.plain.varTypes Tryz.prog).any (Tryz.prog.ifacesRec ·))) = true:=by kernel_rfl
theorem Uc : ((Rows.stageCopiesRow.mapsOut == Tryz.prog.mapsAmong Tryz.f3.resultTypes.toList)) = true:=by kernel_rfl
theorem Ud : ((Rows.stageCopiesRow.loops == (Tryz.f3.params.toList ++ Rows.stageCopiesSpec.plain.varTypes Tryz.prog).any (Tryz.prog.loopsFrom ·))) = true:=by kernel_rfl
end Go.Proofs.YtmpoakdpdflfgaaGreatDoor
