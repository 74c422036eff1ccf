/- Part of a proof over this seat: a library of my own, and what it says of this seat. No statement is proved here. -/
import Derived.Test.YtfpipcafiocdoaaGreatDoorPartBR
import Derived.Test.YtfpipcafiocdoaaGreatDoorCards
import Derived.Test.YtfpipcafiocdoaaGreatDoorTie
namespace Go.Proofs.YtfpipcafiocdoaaGreatDoor
open Go.ChangeShapes Go.WideShapes Go.ChangeAt Go.RowKit Go.Dec
theorem Px : (Rows.pipeQuotedRow.wf (OpenSpec.ofChange Rows.pipeQuotedSpec)) = true := by kernel_rfl
theorem Py : (Tryz.f5.params.all (Tryz.prog.readableRec ·)) = true := by kernel_rfl
theorem Pz : (namedTie Tryz.prog Rows.pipeQuotedRow.named Rows.pipeQuotedSpec.vars) = true := by kernel_rfl
theorem Qa : ((Rows.pipeQuotedRow.stops == [])) = true := by kernel_rfl
theorem Qb : ((Rows.pipeQuotedRow.knobs == [])) = true := by kernel_rfl
theorem Mk : ((Rows.pipeQuotedRow.inPlace == Tryz.prog.inPlace 5)) = true := by kernel_rfl
theorem Ml : ((Rows.pipeQuotedRow.unfollowed == Tryz.prog.unfollowed 5)) = true := by kernel_rfl
theorem Mq : ((Rows.pipeQuotedRow.recurses == Tryz.prog.recurses 5)) = true := by kernel_rfl
theorem Mr : ((Rows.pipeQuotedRow.named == Tryz.prog.varsNamed 5)) = true := by kernel_rfl
theorem Ms : ((Rows.pipeQuotedRow.maps == (Tryz.f5.params.toList ++ Rows.pipeQuotedSpec.plain.varTypes Tryz.prog).any (Tryz.prog.mapsRec ·))) = true := by kernel_rfl
theorem Mt : ((Rows.pipeQuotedRow.ifaces == (Tryz.f5.params.toList ++ Rows.pipeQuotedSpec.plain.varTypes Tryz.prog).any (Tryz.prog.ifacesRec ·))) = true := by kernel_rfl
theorem Mv : ((Rows.pipeQuotedRow.mapsOut == Tryz.prog.mapsAmong Tryz.f5.resultTypes.toList)) = true := by kernel_rfl
theorem Mw : ((Rows.pipeQuotedRow.loops == (Tryz.f5.params.toList ++ Rows.pipeQuotedSpec.plain.varTypes Tryz.prog).any (Tryz.prog.loopsFrom ·))) = true := by kernel_rfl
end Go.Proofs.YtfpipcafiocdoaaGreatDoor
