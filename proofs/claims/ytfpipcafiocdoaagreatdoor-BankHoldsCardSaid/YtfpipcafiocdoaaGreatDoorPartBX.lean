/- Part of a proof over this seat: a library of my own, and what it says of this seat. No statement is proved here. -/
import Derived.Test.YtfpipcafiocdoaaGreatDoorPartBW
import Derived.Test.YtfpipcafiocdoaaGreatDoorCards
import Derived.Test.YtfpipcafiocdoaaGreatDoorTie
namespace Go.Proofs.YtfpipcafiocdoaaGreatDoor
open Go.ChangeShapes Go.WideShapes Go.ChangeAt Go.RowKit Go.Dec
theorem zCg:(Rows.bankHoldsRow.wf (OpenSpec.ofChange Rows.bankHoldsSpec))=true:=by kernel_rfl
theorem zCh:(Tryz.f6.params.all (Tryz.prog.readableRec ·))=true:=by kernel_rfl
theorem zCi:(namedTie Tryz.prog Rows.bankHoldsRow.named Rows.bankHoldsSpec.vars)=true:=by kernel_rfl
theorem zCj:((Rows.bankHoldsRow.stops == []))=true:=by kernel_rfl
theorem zCk:((Rows.bankHoldsRow.knobs == []))=true:=by kernel_rfl
theorem Wq:((Rows.bankHoldsRow.inPlace == Tryz.prog.inPlace 6))=true:=by kernel_rfl
theorem Ws:((Rows.bankHoldsRow.unfollowed == Tryz.prog.unfollowed 6))=true:=by kernel_rfl
theorem Wt:((Rows.bankHoldsRow.recurses == Tryz.prog.recurses 6))=true:=by kernel_rfl
theorem Wu:((Rows.bankHoldsRow.named == Tryz.prog.varsNamed 6))=true:=by kernel_rfl
theorem Wv:((Rows.bankHoldsRow.maps == (Tryz.f6.params.toList++Rows.bankHoldsSpec.plain.varTypes Tryz.prog).any (Tryz.prog.mapsRec ·)))=true:=by kernel_rfl
theorem Ww:((Rows.bankHoldsRow.ifaces == (Tryz.f6.params.toList++Rows.bankHoldsSpec.plain.varTypes Tryz.prog).any (Tryz.prog.ifacesRec ·)))=true:=by kernel_rfl
theorem Wx:((Rows.bankHoldsRow.mapsOut == Tryz.prog.mapsAmong Tryz.f6.resultTypes.toList))=true:=by kernel_rfl
theorem Wy:((Rows.bankHoldsRow.loops == (Tryz.f6.params.toList++Rows.bankHoldsSpec.plain.varTypes Tryz.prog).any (Tryz.prog.loopsFrom ·)))=true:=by kernel_rfl
end Go.Proofs.YtfpipcafiocdoaaGreatDoor
