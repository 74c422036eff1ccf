/- Part of a proof over this seat: a library of my own, and what it says of this seat. No statement is proved here. -/
import Derived.Test.YtmpoakdpdflfgaaGreatDoorPartBP
import Derived.Test.YtmpoakdpdflfgaaGreatDoorCards
import Derived.Test.YtmpoakdpdflfgaaGreatDoorTie
namespace Go.Proofs.YtmpoakdpdflfgaaGreatDoor
open Go.ChangeShapes Go.WideShapes Go.ChangeAt Go.RowKit Go.Dec
theorem Rk : (Rows.frontWrongRow.wf (OpenSpec.ofChange Rows.frontWrongSpec)) = true := by kernel_rfl
theorem Rl : (Tryz.f7.params.all (Tryz.prog.readableRec ·)) = true := by kernel_rfl
theorem Rm : (namedTie Tryz.prog Rows.frontWrongRow.named Rows.frontWrongSpec.vars) = true := by kernel_rfl
theorem Rn : ((Rows.frontWrongRow.stops == [])) = true := by kernel_rfl
theorem Ro : ((Rows.frontWrongRow.knobs == [])) = true := by kernel_rfl
theorem Oi : ((Rows.frontWrongRow.inPlace == Tryz.prog.inPlace 7)) = true := by kernel_rfl
theorem Oj : ((Rows.frontWrongRow.unfollowed == Tryz.prog.unfollowed 7)) = true := by kernel_rfl
theorem Ol : ((Rows.frontWrongRow.recurses == Tryz.prog.recurses 7)) = true := by kernel_rfl
theorem Om : ((Rows.frontWrongRow.named == Tryz.prog.varsNamed 7)) = true := by kernel_rfl
theorem Oo : ((Rows.frontWrongRow.maps == (Tryz.f7.params.toList ++ Rows.frontWrongSpec.plain.varTypes Tryz.prog).any (Tryz.prog.mapsRec ·))) = true := by kernel_rfl
theorem Oq : ((Rows.frontWrongRow.ifaces == (Tryz.f7.params.toList ++ Rows.frontWrongSpec.plain.varTypes Tryz.prog).any (Tryz.prog.ifacesRec ·))) = true := by kernel_rfl
theorem Ot : ((Rows.frontWrongRow.mapsOut == Tryz.prog.mapsAmong Tryz.f7.resultTypes.toList)) = true := by kernel_rfl
theorem Ou : ((Rows.frontWrongRow.loops == (Tryz.f7.params.toList ++ Rows.frontWrongSpec.plain.varTypes Tryz.prog).any (Tryz.prog.loopsFrom ·))) = true := by kernel_rfl
end Go.Proofs.YtmpoakdpdflfgaaGreatDoor
