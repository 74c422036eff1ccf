/- Part of a proof over this seat: a library of my own, and what it says of this seat. No statement is proved here. -/
import Derived.Test.YtfpipcafiocdoaaGreatDoorPartBY
import Derived.Test.YtfpipcafiocdoaaGreatDoorCards
import Derived.Test.YtfpipcafiocdoaaGreatDoorTie
import Derived.Test.YtfpipcafiocdoaaGreatDoorPartBZ
namespace Go.Proofs.YtfpipcafiocdoaaGreatDoor
open Go.ChangeShapes Go.WideShapes Go.ChangeAt Go.RowKit Go.Dec
theorem Wx:((Rows.bankLaterRow.wideKeys == (Tryz.f7.params.toList++Rows.bankLaterSpec.plain.varTypes Tryz.prog++Tryz.f7.resultTypes.toList).any (Tryz.prog.wideKeysFrom ·)))=true:=by kernel_rfl
theorem Wy:(Rows.bankLaterSpec.vars.all (Tryz.prog.varReadable ·))=true:=by kernel_rfl
theorem Wz:(Tryz.f7.resultTypes.all (fun t=>Tryz.prog.readableRec t && decide (t < Tryz.prog.types.size)))=true:=by kernel_rfl
theorem Xa:((Rows.bankLaterRow.ifacesOut == Tryz.f7.resultTypes.toList.any (Tryz.prog.ifacesRec ·)))=true:=by kernel_rfl
theorem Xb:((Rows.bankLaterRow.loopsOut == Tryz.f7.resultTypes.toList.any (Tryz.prog.loopsFrom ·)))=true:=by kernel_rfl
theorem Xc:((Rows.bankLaterRow.plainKeys == Tryz.prog.plainKeys))=true:=by kernel_rfl
theorem Xd:(Rows.bankLaterRow.shortTexts.isNone)=true:=by kernel_rfl
theorem Xe:((Rows.bankLaterRow.lifted == Tryz.prog.liftsFinal))=true:=by kernel_rfl
theorem Xf:((Tryz.prog.make == some Rows.bankLaterRow.make))=true:=by kernel_rfl
theorem Xg:((Rows.bankLaterRow.pinned == Rows.bankLaterRow.pinnedBy))=true:=by kernel_rfl
theorem Xh:((Rows.bankLaterRow.veiled == (Tryz.f7.params.toList++Rows.bankLaterSpec.plain.varTypes Tryz.prog++Tryz.f7.resultTypes.toList).any (Tryz.prog.veiledRec ·)))=true:=by kernel_rfl
theorem Xi:(Rows.bankLaterRow.veiledFits Tryz.prog Tryz.f7.params.toList (Tryz.f7.params.toList++Rows.bankLaterSpec.plain.varTypes Tryz.prog++Tryz.f7.resultTypes.toList))=true:=by kernel_rfl
end Go.Proofs.YtfpipcafiocdoaaGreatDoor
namespace Go.Proofs.YtfpipcafiocdoaaGreatDoor
open Go.ChangeShapes Go.WideShapes Go.ChangeAt Go.RowKit Go.Dec
theorem Lp:joinedFacts Tryz.prog 7 Tryz.f7 Rows.bankLaterSpec Rows.bankLaterRow=true:=by
 unfold joinedFacts
 simp only [zCk,zCl,zCm,zCn,zCo,Wo,Wp,Wq,Ws,Wt,Wu,Wv,Ww,Wx,Wy,Wz,Xa,Xb,Xc,Xd,Xe,Xf,Xg,Xh,Xi,zUm,zUn,zUo,zUp,zPt,zPu,Bool.and_self,Bool.and_true,Bool.true_and]
 kernel_rfl
theorem Fz:Tryz.prog.funcNamed "calender/calenderlaw15.BankLater" = some 7:=by kernel_rfl
theorem Rv:Tryz.f7.isInstance Tryz.prog Rows.bankLaterRow.origin Rows.bankLaterRow.targs:=of_decide_eq_true (by kernel_rfl)
theorem Rw:Tryz.f7.isWrapper Tryz.prog Rows.bankLaterRow.wrapper Rows.bankLaterRow.mainSum:=by
 unfold Func.isWrapper; first | (rw [if_pos (by decide +kernel)]; kernel_rfl) | (rw [if_neg (by decide +kernel)]; exact ⟨rfl,rfl⟩)
end Go.Proofs.YtfpipcafiocdoaaGreatDoor
