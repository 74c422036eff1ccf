/- Part of a proof over this seat: a library of my own, and what it says of this seat. No statement is proved here. -/
import Derived.Test.YtfpipcafiocdoaaGreatDoorPartBW
import Derived.Test.YtfpipcafiocdoaaGreatDoorCards
import Derived.Test.YtfpipcafiocdoaaGreatDoorTie
import Derived.Test.YtfpipcafiocdoaaGreatDoorPartBX
namespace Go.Proofs.YtfpipcafiocdoaaGreatDoor
open Go.ChangeShapes Go.WideShapes Go.ChangeAt Go.RowKit Go.Dec
theorem Wz:((Rows.bankHoldsRow.wideKeys == (Tryz.f6.params.toList++Rows.bankHoldsSpec.plain.varTypes Tryz.prog++Tryz.f6.resultTypes.toList).any (Tryz.prog.wideKeysFrom ·)))=true:=by kernel_rfl
theorem Xa:(Rows.bankHoldsSpec.vars.all (Tryz.prog.varReadable ·))=true:=by kernel_rfl
theorem Xb:(Tryz.f6.resultTypes.all (fun t=>Tryz.prog.readableRec t && decide (t < Tryz.prog.types.size)))=true:=by kernel_rfl
theorem Xc:((Rows.bankHoldsRow.ifacesOut == Tryz.f6.resultTypes.toList.any (Tryz.prog.ifacesRec ·)))=true:=by kernel_rfl
theorem Xd:((Rows.bankHoldsRow.loopsOut == Tryz.f6.resultTypes.toList.any (Tryz.prog.loopsFrom ·)))=true:=by kernel_rfl
theorem Xe:((Rows.bankHoldsRow.plainKeys == Tryz.prog.plainKeys))=true:=by kernel_rfl
theorem Xf:(Rows.bankHoldsRow.shortTexts.isNone)=true:=by kernel_rfl
theorem Xg:((Rows.bankHoldsRow.lifted == Tryz.prog.liftsFinal))=true:=by kernel_rfl
theorem Xh:((Tryz.prog.make == some Rows.bankHoldsRow.make))=true:=by kernel_rfl
theorem Xi:((Rows.bankHoldsRow.pinned == Rows.bankHoldsRow.pinnedBy))=true:=by kernel_rfl
theorem Xj:((Rows.bankHoldsRow.veiled == (Tryz.f6.params.toList++Rows.bankHoldsSpec.plain.varTypes Tryz.prog++Tryz.f6.resultTypes.toList).any (Tryz.prog.veiledRec ·)))=true:=by kernel_rfl
theorem Xk:(Rows.bankHoldsRow.veiledFits Tryz.prog Tryz.f6.params.toList (Tryz.f6.params.toList++Rows.bankHoldsSpec.plain.varTypes Tryz.prog++Tryz.f6.resultTypes.toList))=true:=by kernel_rfl
end Go.Proofs.YtfpipcafiocdoaaGreatDoor
namespace Go.Proofs.YtfpipcafiocdoaaGreatDoor
open Go.ChangeShapes Go.WideShapes Go.ChangeAt Go.RowKit Go.Dec
theorem Mt:joinedFacts Tryz.prog 6 Tryz.f6 Rows.bankHoldsSpec Rows.bankHoldsRow=true:=by
 unfold joinedFacts
 simp only [zCg,zCh,zCi,zCj,zCk,Wq,Ws,Wt,Wu,Wv,Ww,Wx,Wy,Wz,Xa,Xb,Xc,Xd,Xe,Xf,Xg,Xh,Xi,Xj,Xk,zTn,zTo,zTp,zTq,zPd,zPe,Bool.and_self,Bool.and_true,Bool.true_and]
 kernel_rfl
theorem Hq:Tryz.prog.funcNamed "calender/calenderlaw15.BankHolds" = some 6:=by kernel_rfl
theorem Ry:Tryz.f6.isInstance Tryz.prog Rows.bankHoldsRow.origin Rows.bankHoldsRow.targs:=of_decide_eq_true (by kernel_rfl)
theorem Rz:Tryz.f6.isWrapper Tryz.prog Rows.bankHoldsRow.wrapper Rows.bankHoldsRow.mainSum:=by
 unfold Func.isWrapper; first | (rw [if_pos (by decide +kernel)]; kernel_rfl) | (rw [if_neg (by decide +kernel)]; exact ⟨rfl,rfl⟩)
end Go.Proofs.YtfpipcafiocdoaaGreatDoor
