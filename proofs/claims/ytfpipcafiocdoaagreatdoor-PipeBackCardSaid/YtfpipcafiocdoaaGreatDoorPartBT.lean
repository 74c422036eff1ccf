/- Part of a proof over this seat: a library of my own, and what it says of this seat. No statement is proved here. -/
import Derived.Test.YtfpipcafiocdoaaGreatDoorPartBS
import Derived.Test.YtfpipcafiocdoaaGreatDoorCards
import Derived.Test.YtfpipcafiocdoaaGreatDoorTie
namespace Go.Proofs.YtfpipcafiocdoaaGreatDoor
open Go.ChangeShapes Go.WideShapes Go.ChangeAt Go.RowKit Go.Dec
theorem Yn : (Rows.pipeBackRow.wf (OpenSpec.ofChange Rows.pipeBackSpec)) = true:=by kernel_rfl
theorem Yo : (Tryz.f3.params.all (Tryz.prog.readableRec ·)) = true:=by kernel_rfl
theorem Yp : (namedTie Tryz.prog Rows.pipeBackRow.named Rows.pipeBackSpec.vars) = true:=by kernel_rfl
theorem Yq : ((Rows.pipeBackRow.stops == [])) = true:=by kernel_rfl
theorem Yr : ((Rows.pipeBackRow.knobs == [])) = true:=by kernel_rfl
theorem Wp : ((Rows.pipeBackRow.inPlace == Tryz.prog.inPlace 3)) = true:=by kernel_rfl
theorem Wq : ((Rows.pipeBackRow.unfollowed == Tryz.prog.unfollowed 3)) = true:=by kernel_rfl
theorem Ws : ((Rows.pipeBackRow.recurses == Tryz.prog.recurses 3)) = true:=by kernel_rfl
theorem Wt : ((Rows.pipeBackRow.named == Tryz.prog.varsNamed 3)) = true:=by kernel_rfl
theorem Wu : ((Rows.pipeBackRow.maps == (Tryz.f3.params.toList ++ Rows.pipeBackSpec.plain.varTypes Tryz.prog).any (Tryz.prog.mapsRec ·))) = true:=by kernel_rfl
theorem Wv : ((Rows.pipeBackRow.ifaces == (Tryz.f3.params.toList ++ Rows.pipeBackSpec.plain.varTypes Tryz.prog).any (Tryz.prog.ifacesRec ·))) = true:=by kernel_rfl
theorem Ww : ((Rows.pipeBackRow.mapsOut == Tryz.prog.mapsAmong Tryz.f3.resultTypes.toList)) = true:=by kernel_rfl
theorem Wx : ((Rows.pipeBackRow.loops == (Tryz.f3.params.toList ++ Rows.pipeBackSpec.plain.varTypes Tryz.prog).any (Tryz.prog.loopsFrom ·))) = true:=by kernel_rfl
end Go.Proofs.YtfpipcafiocdoaaGreatDoor
