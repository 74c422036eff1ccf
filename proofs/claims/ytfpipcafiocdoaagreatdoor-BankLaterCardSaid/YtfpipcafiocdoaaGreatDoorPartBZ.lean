/- Part of a proof over this seat: a library of my own, and what it says of this seat. No statement is proved here. -/
import Derived.Test.YtfpipcafiocdoaaGreatDoorPartBY
import Derived.Test.YtfpipcafiocdoaaGreatDoorCards
import Derived.Test.YtfpipcafiocdoaaGreatDoorTie
namespace Go.Proofs.YtfpipcafiocdoaaGreatDoor
open Go.ChangeShapes Go.WideShapes Go.ChangeAt Go.RowKit Go.Dec
theorem zCk:(Rows.bankLaterRow.wf (OpenSpec.ofChange Rows.bankLaterSpec))=true:=by kernel_rfl
theorem zCl:(Tryz.f7.params.all (Tryz.prog.readableRec ·))=true:=by kernel_rfl
theorem zCm:(namedTie Tryz.prog Rows.bankLaterRow.named Rows.bankLaterSpec.vars)=true:=by kernel_rfl
theorem zCn:((Rows.bankLaterRow.stops == []))=true:=by kernel_rfl
theorem zCo:((Rows.bankLaterRow.knobs == []))=true:=by kernel_rfl
theorem Wo:((Rows.bankLaterRow.inPlace == Tryz.prog.inPlace 7))=true:=by kernel_rfl
theorem Wp:((Rows.bankLaterRow.unfollowed == Tryz.prog.unfollowed 7))=true:=by kernel_rfl
theorem Wq:((Rows.bankLaterRow.recurses == Tryz.prog.recurses 7))=true:=by kernel_rfl
theorem Ws:((Rows.bankLaterRow.named == Tryz.prog.varsNamed 7))=true:=by kernel_rfl
theorem Wt:((Rows.bankLaterRow.maps == (Tryz.f7.params.toList++Rows.bankLaterSpec.plain.varTypes Tryz.prog).any (Tryz.prog.mapsRec ·)))=true:=by kernel_rfl
theorem Wu:((Rows.bankLaterRow.ifaces == (Tryz.f7.params.toList++Rows.bankLaterSpec.plain.varTypes Tryz.prog).any (Tryz.prog.ifacesRec ·)))=true:=by kernel_rfl
theorem Wv:((Rows.bankLaterRow.mapsOut == Tryz.prog.mapsAmong Tryz.f7.resultTypes.toList))=true:=by kernel_rfl
theorem Ww:((Rows.bankLaterRow.loops == (Tryz.f7.params.toList++Rows.bankLaterSpec.plain.varTypes Tryz.prog).any (Tryz.prog.loopsFrom ·)))=true:=by kernel_rfl
end Go.Proofs.YtfpipcafiocdoaaGreatDoor
