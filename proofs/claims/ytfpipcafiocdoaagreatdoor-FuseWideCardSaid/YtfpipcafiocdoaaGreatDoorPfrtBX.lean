/- Part of a proof over this seat: a library of my own, and what it says of this seat. No statement is proved here. -/
import Derived.Test.YtfpipcafiocdoaaGreatDoorPfrtBW
import Derived.Test.YtfpipcafiocdoaaGreatDoorCards
import Derived.Test.YtfpipcafiocdoaaGreatDoorTie
namespace Go.Proofs.YtfpipcafiocdoaaGreatDoor
open Go.ChangeShapes Go.WideShapes Go.ChangeAt Go.RowKit Go.Dec
theorem zGc:(Rows.fuseWideRow.wf (OpenSpec.ofChange Rows.fuseWideSpec))=true:=by kernel_rfl
theorem zGd:(Tryz.f8.params.all (Tryz.prog.readableRec ·))=true:=by kernel_rfl
theorem zGe:(namedTie Tryz.prog Rows.fuseWideRow.named Rows.fuseWideSpec.vars)=true:=by kernel_rfl
theorem zGf:((Rows.fuseWideRow.stops == []))=true:=by kernel_rfl
theorem zGg:((Rows.fuseWideRow.knobs == []))=true:=by kernel_rfl
theorem zDy:((Rows.fuseWideRow.inPlace == Tryz.prog.inPlace 8))=true:=by kernel_rfl
theorem zDz:((Rows.fuseWideRow.unfollowed == Tryz.prog.unfollowed 8))=true:=by kernel_rfl
theorem zEa:((Rows.fuseWideRow.recurses == Tryz.prog.recurses 8))=true:=by kernel_rfl
theorem zEb:((Rows.fuseWideRow.named == Tryz.prog.varsNamed 8))=true:=by kernel_rfl
theorem zEc:((Rows.fuseWideRow.maps == (Tryz.f8.params.toList++Rows.fuseWideSpec.plain.varTypes Tryz.prog).any (Tryz.prog.mapsRec ·)))=true:=by kernel_rfl
theorem zEd:((Rows.fuseWideRow.ifaces == (Tryz.f8.params.toList++Rows.fuseWideSpec.plain.varTypes Tryz.prog).any (Tryz.prog.ifacesRec ·)))=true:=by kernel_rfl
theorem zEe:((Rows.fuseWideRow.mapsOut == Tryz.prog.mapsAmong Tryz.f8.resultTypes.toList))=true:=by kernel_rfl
theorem zEf:((Rows.fuseWideRow.loops == (Tryz.f8.params.toList++Rows.fuseWideSpec.plain.varTypes Tryz.prog).any (Tryz.prog.loopsFrom ·)))=true:=by kernel_rfl
end Go.Proofs.YtfpipcafiocdoaaGreatDoor
