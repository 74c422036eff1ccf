/- Part of a proof over this seat: a library of my own, and what it says of this seat. No statement is proved here. -/
import Derived.Test.YtmpoakdpdflfgaaGreatDoorPartBQ
import Derived.Test.YtmpoakdpdflfgaaGreatDoorCards
import Derived.Test.YtmpoakdpdflfgaaGreatDoorTie
namespace Go.Proofs.YtmpoakdpdflfgaaGreatDoor
open Go.ChangeShapes Go.WideShapes Go.ChangeAt Go.RowKit Go.Dec
theorem Rv : (Rows.frontWrongRow.wf (OpenSpec.ofChange Rows.frontWrongSpec)) = true := by kernel_rfl
theorem Rw : (Tryz.f7.params.all (Tryz.prog.readableRec ·)) = true := by kernel_rfl
theorem Rx : (namedTie Tryz.prog Rows.frontWrongRow.named Rows.frontWrongSpec.vars) = true := by kernel_rfl
theorem Ry : ((Rows.frontWrongRow.stops == [])) = true := by kernel_rfl
theorem Rz : ((Rows.frontWrongRow.knobs == [])) = true := by kernel_rfl
theorem Ox : ((Rows.frontWrongRow.inPlace == Tryz.prog.inPlace 7)) = true := by kernel_rfl
theorem Oy : ((Rows.frontWrongRow.unfollowed == Tryz.prog.unfollowed 7)) = true := by kernel_rfl
theorem Oz : ((Rows.frontWrongRow.recurses == Tryz.prog.recurses 7)) = true := by kernel_rfl
theorem Pf : ((Rows.frontWrongRow.named == Tryz.prog.varsNamed 7)) = true := by kernel_rfl
theorem Pg : ((Rows.frontWrongRow.maps == (Tryz.f7.params.toList ++ Rows.frontWrongSpec.plain.varTypes Tryz.prog).any (Tryz.prog.mapsRec ·))) = true := by kernel_rfl
theorem Ph : ((Rows.frontWrongRow.ifaces == (Tryz.f7.params.toList ++ Rows.frontWrongSpec.plain.varTypes Tryz.prog).any (Tryz.prog.ifacesRec ·))) = true := by kernel_rfl
theorem Pj : ((Rows.frontWrongRow.mapsOut == Tryz.prog.mapsAmong Tryz.f7.resultTypes.toList)) = true := by kernel_rfl
theorem Pk : ((Rows.frontWrongRow.loops == (Tryz.f7.params.toList ++ Rows.frontWrongSpec.plain.varTypes Tryz.prog).any (Tryz.prog.loopsFrom ·))) = true := by kernel_rfl
end Go.Proofs.YtmpoakdpdflfgaaGreatDoor
