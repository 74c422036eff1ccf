/- Part of a proof over this seat: a library of my own, and what it says of this seat. No statement is proved here. -/
import Derived.Test.YtfpipcafiocdoaaGreatDoorPartBS
import Derived.Test.YtfpipcafiocdoaaGreatDoorCards
import Derived.Test.YtfpipcafiocdoaaGreatDoorTie
import Derived.Test.YtfpipcafiocdoaaGreatDoorPartBT
namespace Go.Proofs.YtfpipcafiocdoaaGreatDoor
open Go.ChangeShapes Go.WideShapes Go.ChangeAt Go.RowKit Go.Dec
theorem Qj : ((Rows.pipeBlanksRow.wideKeys == (Tryz.f4.params.toList ++ Rows.pipeBlanksSpec.plain.varTypes Tryz.prog ++ Tryz.f4.resultTypes.toList).any (Tryz.prog.wideKeysFrom ·))) = true:=by kernel_rfl
theorem Qk : (Rows.pipeBlanksSpec.vars.all (Tryz.prog.varReadable ·)) = true:=by kernel_rfl
theorem Ql : (Tryz.f4.resultTypes.all (fun t => Tryz.prog.readableRec t && decide (t < Tryz.prog.types.size))) = true:=by kernel_rfl
theorem Qm : ((Rows.pipeBlanksRow.ifacesOut == Tryz.f4.resultTypes.toList.any (Tryz.prog.ifacesRec ·))) = true:=by kernel_rfl
theorem Qn : ((Rows.pipeBlanksRow.loopsOut == Tryz.f4.resultTypes.toList.any (Tryz.prog.loopsFrom ·))) = true:=by kernel_rfl
theorem Qo : ((Rows.pipeBlanksRow.plainKeys == Tryz.prog.plainKeys)) = true:=by kernel_rfl
theorem Qp : (Rows.pipeBlanksRow.shortTexts.isNone) = true:=by kernel_rfl
theorem Qq : ((Rows.pipeBlanksRow.lifted == Tryz.prog.liftsFinal)) = true:=by kernel_rfl
theorem Qr : ((Tryz.prog.make == some Rows.pipeBlanksRow.make)) = true:=by kernel_rfl
theorem Qs : ((Rows.pipeBlanksRow.pinned == Rows.pipeBlanksRow.pinnedBy)) = true:=by kernel_rfl
theorem Qt : ((Rows.pipeBlanksRow.veiled == (Tryz.f4.params.toList ++ Rows.pipeBlanksSpec.plain.varTypes Tryz.prog ++ Tryz.f4.resultTypes.toList).any (Tryz.prog.veiledRec ·))) = true:=by kernel_rfl
theorem Qu : (Rows.pipeBlanksRow.veiledFits Tryz.prog Tryz.f4.params.toList (Tryz.f4.params.toList ++ Rows.pipeBlanksSpec.plain.varTypes Tryz.prog ++ Tryz.f4.resultTypes.toList)) = true:=by kernel_rfl
end Go.Proofs.YtfpipcafiocdoaaGreatDoor
namespace Go.Proofs.YtfpipcafiocdoaaGreatDoor
open Go.ChangeShapes Go.WideShapes Go.ChangeAt Go.RowKit Go.Dec
theorem Gg : joinedFacts Tryz.prog 4 Tryz.f4 Rows.pipeBlanksSpec Rows.pipeBlanksRow = true:=by
 unfold joinedFacts
 simp only [Tg,Ti,Tj,Tm,Tn,Qb,Qc,Qd,Qe,Qf,Qg,Qh,Qi,Qj,Qk,Ql,Qm,Qn,Qo,Qp,Qq,Qr,Qs,Qt,Qu,zOb,zOc,zOd,zOe,zKf,zKg,Bool.and_self,Bool.and_true,Bool.true_and]
 kernel_rfl
theorem Az : Tryz.prog.funcNamed "calender/calenderlaw21.PipeBlanks" = some 4:=by kernel_rfl
theorem Jv : Tryz.f4.isInstance Tryz.prog Rows.pipeBlanksRow.origin Rows.pipeBlanksRow.targs:=of_decide_eq_true (by kernel_rfl)
theorem Jw : Tryz.f4.isWrapper Tryz.prog Rows.pipeBlanksRow.wrapper Rows.pipeBlanksRow.mainSum:=by
 unfold Func.isWrapper; first | (rw [if_pos (by decide +kernel)]; kernel_rfl) | (rw [if_neg (by decide +kernel)]; exact ⟨rfl,rfl⟩)
end Go.Proofs.YtfpipcafiocdoaaGreatDoor
