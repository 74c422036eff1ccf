/- Part of a proof over this seat: a library of my own, and what it says of this seat. No statement is proved here. -/
import Derived.Test.YtdgneppobefaoaaGreatDoorPartBS
import Derived.Test.YtdgneppobefaoaaGreatDoorCards
import Derived.Test.YtdgneppobefaoaaGreatDoorTie
import Derived.Test.YtdgneppobefaoaaGreatDoorPartBT
namespace Go.Proofs.YtdgneppobefaoaaGreatDoor
open Go.ChangeShapes Go.WideShapes Go.ChangeAt Go.RowKit Go.Dec
theorem Vz:((Rows.scriptWideRow.wideKeys == (Tryz.f4.params.toList++Rows.scriptWideSpec.plain.varTypes Tryz.prog++Tryz.f4.resultTypes.toList).any (Tryz.prog.wideKeysFrom ·)))=true:=by kernel_rfl
theorem Wd:(Rows.scriptWideSpec.vars.all (Tryz.prog.varReadable ·))=true:=by kernel_rfl
theorem Wh:(Tryz.f4.resultTypes.all (fun t=>Tryz.prog.readableRec t && decide (t < Tryz.prog.types.size)))=true:=by kernel_rfl
theorem Wi:((Rows.scriptWideRow.ifacesOut == Tryz.f4.resultTypes.toList.any (Tryz.prog.ifacesRec ·)))=true:=by kernel_rfl
theorem Wj:((Rows.scriptWideRow.loopsOut == Tryz.f4.resultTypes.toList.any (Tryz.prog.loopsFrom ·)))=true:=by kernel_rfl
theorem Wm:((Rows.scriptWideRow.plainKeys == Tryz.prog.plainKeys))=true:=by kernel_rfl
theorem Wn:(Rows.scriptWideRow.shortTexts.isNone)=true:=by kernel_rfl
theorem Wo:((Rows.scriptWideRow.lifted == Tryz.prog.liftsFinal))=true:=by kernel_rfl
theorem Wp:((Tryz.prog.make == some Rows.scriptWideRow.make))=true:=by kernel_rfl
theorem Wq:((Rows.scriptWideRow.pinned == Rows.scriptWideRow.pinnedBy))=true:=by kernel_rfl
theorem Ws:((Rows.scriptWideRow.veiled == (Tryz.f4.params.toList++Rows.scriptWideSpec.plain.varTypes Tryz.prog++Tryz.f4.resultTypes.toList).any (Tryz.prog.veiledRec ·)))=true:=by kernel_rfl
theorem Wt:(Rows.scriptWideRow.veiledFits Tryz.prog Tryz.f4.params.toList (Tryz.f4.params.toList++Rows.scriptWideSpec.plain.varTypes Tryz.prog++Tryz.f4.resultTypes.toList))=true:=by kernel_rfl
end Go.Proofs.YtdgneppobefaoaaGreatDoor
namespace Go.Proofs.YtdgneppobefaoaaGreatDoor
open Go.ChangeShapes Go.WideShapes Go.ChangeAt Go.RowKit Go.Dec
theorem Mi:joinedFacts Tryz.prog 4 Tryz.f4 Rows.scriptWideSpec Rows.scriptWideRow=true:=by
 unfold joinedFacts
 simp only [Yn,Yo,Yp,Yq,Yr,Vr,Vs,Vt,Vu,Vv,Vw,Vx,Vy,Vz,Wd,Wh,Wi,Wj,Wm,Wn,Wo,Wp,Wq,Ws,Wt,zTv,zTw,zTx,zTy,zRb,zRc,Bool.and_self,Bool.and_true,Bool.true_and]
 kernel_rfl
theorem Hr:Tryz.prog.funcNamed "calender/calenderlaw13.ScriptWide" = some 4:=by kernel_rfl
theorem Qi:Tryz.f4.isInstance Tryz.prog Rows.scriptWideRow.origin Rows.scriptWideRow.targs:=of_decide_eq_true (by kernel_rfl)
theorem Qj:Tryz.f4.isWrapper Tryz.prog Rows.scriptWideRow.wrapper Rows.scriptWideRow.mainSum:=by
 unfold Func.isWrapper; first | (rw [if_pos (by decide +kernel)]; kernel_rfl) | (rw [if_neg (by decide +kernel)]; exact ⟨rfl,rfl⟩)
end Go.Proofs.YtdgneppobefaoaaGreatDoor
