/- Part of a proof over this seat: a library of my own, and what it says of this seat. No statement is proved here. -/
import Derived.Test.YtfpipcafiocdoaaGreatDoorPartBS
import Derived.Test.YtfpipcafiocdoaaGreatDoorCards
import Derived.Test.YtfpipcafiocdoaaGreatDoorTie
namespace Go.Proofs.YtfpipcafiocdoaaGreatDoor
open Go.ChangeShapes Go.WideShapes Go.ChangeAt Go.RowKit Go.Dec
theorem Tg : (Rows.pipeBlanksRow.wf (OpenSpec.ofChange Rows.pipeBlanksSpec)) = true:=by kernel_rfl
theorem Ti : (Tryz.f4.params.all (Tryz.prog.readableRec ·)) = true:=by kernel_rfl
theorem Tj : (namedTie Tryz.prog Rows.pipeBlanksRow.named Rows.pipeBlanksSpec.vars) = true:=by kernel_rfl
theorem Tm : ((Rows.pipeBlanksRow.stops == [])) = true:=by kernel_rfl
theorem Tn : ((Rows.pipeBlanksRow.knobs == [])) = true:=by kernel_rfl
theorem Qb : ((Rows.pipeBlanksRow.inPlace == Tryz.prog.inPlace 4)) = true:=by kernel_rfl
theorem Qc : ((Rows.pipeBlanksRow.unfollowed == Tryz.prog.unfollowed 4)) = true:=by kernel_rfl
theorem Qd : ((Rows.pipeBlanksRow.recurses == Tryz.prog.recurses 4)) = true:=by kernel_rfl
theorem Qe : ((Rows.pipeBlanksRow.named == Tryz.prog.varsNamed 4)) = true:=by kernel_rfl
theorem Qf : ((Rows.pipeBlanksRow.maps == (Tryz.f4.params.toList ++ Rows.pipeBlanksSpec.plain.varTypes Tryz.prog).any (Tryz.prog.mapsRec ·))) = true:=by kernel_rfl
theorem Qg : ((Rows.pipeBlanksRow.ifaces == (Tryz.f4.params.toList ++ Rows.pipeBlanksSpec.plain.varTypes Tryz.prog).any (Tryz.prog.ifacesRec ·))) = true:=by kernel_rfl
theorem Qh : ((Rows.pipeBlanksRow.mapsOut == Tryz.prog.mapsAmong Tryz.f4.resultTypes.toList)) = true:=by kernel_rfl
theorem Qi : ((Rows.pipeBlanksRow.loops == (Tryz.f4.params.toList ++ Rows.pipeBlanksSpec.plain.varTypes Tryz.prog).any (Tryz.prog.loopsFrom ·))) = true:=by kernel_rfl
end Go.Proofs.YtfpipcafiocdoaaGreatDoor
