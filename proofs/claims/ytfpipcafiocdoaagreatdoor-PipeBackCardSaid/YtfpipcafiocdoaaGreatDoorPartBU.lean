/- Part of a proof over this seat: a library of my own, and what it says of this seat. No statement is proved here. -/
import Derived.Test.YtfpipcafiocdoaaGreatDoorPartBS
import Derived.Test.YtfpipcafiocdoaaGreatDoorCards
import Derived.Test.YtfpipcafiocdoaaGreatDoorTie
import Derived.Test.YtfpipcafiocdoaaGreatDoorPartBT
namespace Go.Proofs.YtfpipcafiocdoaaGreatDoor
open Go.ChangeShapes Go.WideShapes Go.ChangeAt Go.RowKit Go.Dec
theorem Wy : ((Rows.pipeBackRow.wideKeys == (Tryz.f3.params.toList ++ Rows.pipeBackSpec.plain.varTypes Tryz.prog ++ Tryz.f3.resultTypes.toList).any (Tryz.prog.wideKeysFrom ·))) = true:=by kernel_rfl
theorem Wz : (Rows.pipeBackSpec.vars.all (Tryz.prog.varReadable ·)) = true:=by kernel_rfl
theorem Xa : (Tryz.f3.resultTypes.all (fun t => Tryz.prog.readableRec t && decide (t < Tryz.prog.types.size))) = true:=by kernel_rfl
theorem Xb : ((Rows.pipeBackRow.ifacesOut == Tryz.f3.resultTypes.toList.any (Tryz.prog.ifacesRec ·))) = true:=by kernel_rfl
theorem Xc : ((Rows.pipeBackRow.loopsOut == Tryz.f3.resultTypes.toList.any (Tryz.prog.loopsFrom ·))) = true:=by kernel_rfl
theorem Xd : ((Rows.pipeBackRow.plainKeys == Tryz.prog.plainKeys)) = true:=by kernel_rfl
theorem Xe : (Rows.pipeBackRow.shortTexts.isNone) = true:=by kernel_rfl
theorem Xf : ((Rows.pipeBackRow.lifted == Tryz.prog.liftsFinal)) = true:=by kernel_rfl
theorem Xg : ((Tryz.prog.make == some Rows.pipeBackRow.make)) = true:=by kernel_rfl
theorem Xh : ((Rows.pipeBackRow.pinned == Rows.pipeBackRow.pinnedBy)) = true:=by kernel_rfl
theorem Xi : ((Rows.pipeBackRow.veiled == (Tryz.f3.params.toList ++ Rows.pipeBackSpec.plain.varTypes Tryz.prog ++ Tryz.f3.resultTypes.toList).any (Tryz.prog.veiledRec ·))) = true:=by kernel_rfl
theorem Xj : (Rows.pipeBackRow.veiledFits Tryz.prog Tryz.f3.params.toList (Tryz.f3.params.toList ++ Rows.pipeBackSpec.plain.varTypes Tryz.prog ++ Tryz.f3.resultTypes.toList)) = true:=by kernel_rfl
end Go.Proofs.YtfpipcafiocdoaaGreatDoor
namespace Go.Proofs.YtfpipcafiocdoaaGreatDoor
open Go.ChangeShapes Go.WideShapes Go.ChangeAt Go.RowKit Go.Dec
theorem Iz : joinedFacts Tryz.prog 3 Tryz.f3 Rows.pipeBackSpec Rows.pipeBackRow = true:=by
 unfold joinedFacts
 simp only [Yn,Yo,Yp,Yq,Yr,Wp,Wq,Ws,Wt,Wu,Wv,Ww,Wx,Wy,Wz,Xa,Xb,Xc,Xd,Xe,Xf,Xg,Xh,Xi,Xj,zMx,zMy,zMz,zNa,zJd,zJe,Bool.and_self,Bool.and_true,Bool.true_and]
 kernel_rfl
theorem Ey : Tryz.prog.funcNamed "calender/calenderlaw21.PipeBack" = some 3:=by kernel_rfl
theorem Qn : Tryz.f3.isInstance Tryz.prog Rows.pipeBackRow.origin Rows.pipeBackRow.targs:=of_decide_eq_true (by kernel_rfl)
theorem Qo : Tryz.f3.isWrapper Tryz.prog Rows.pipeBackRow.wrapper Rows.pipeBackRow.mainSum:=by
 unfold Func.isWrapper; first | (rw [if_pos (by decide +kernel)]; kernel_rfl) | (rw [if_neg (by decide +kernel)]; exact ⟨rfl,rfl⟩)
end Go.Proofs.YtfpipcafiocdoaaGreatDoor
