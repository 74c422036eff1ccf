/- Part of a proof over this seat: a library of my own, and what it says of this seat. No statement is proved here. -/
import Derived.Test.YtfpipcafiocdoaaGreatDoorPfrtBW
import Derived.Test.YtfpipcafiocdoaaGreatDoorCards
import Derived.Test.YtfpipcafiocdoaaGreatDoorTie
import Derived.Test.YtfpipcafiocdoaaGreatDoorPfrtBX
namespace Go.Proofs.YtfpipcafiocdoaaGreatDoor
open Go.ChangeShapes Go.WideShapes Go.ChangeAt Go.RowKit Go.Dec
theorem zEg:((Rows.fuseWideRow.wideKeys == (Tryz.f8.params.toList++Rows.fuseWideSpec.plain.varTypes Tryz.prog++Tryz.f8.resultTypes.toList).any (Tryz.prog.wideKeysFrom ·)))=true:=by kernel_rfl
theorem zEh:(Rows.fuseWideSpec.vars.all (Tryz.prog.varReadable ·))=true:=by kernel_rfl
theorem zEi:(Tryz.f8.resultTypes.all (fun t=>Tryz.prog.readableRec t && decide (t < Tryz.prog.types.size)))=true:=by kernel_rfl
theorem zEj:((Rows.fuseWideRow.ifacesOut == Tryz.f8.resultTypes.toList.any (Tryz.prog.ifacesRec ·)))=true:=by kernel_rfl
theorem zEk:((Rows.fuseWideRow.loopsOut == Tryz.f8.resultTypes.toList.any (Tryz.prog.loopsFrom ·)))=true:=by kernel_rfl
theorem zEl:((Rows.fuseWideRow.plainKeys == Tryz.prog.plainKeys))=true:=by kernel_rfl
theorem zEm:(Rows.fuseWideRow.shortTexts.isNone)=true:=by kernel_rfl
theorem zEn:((Rows.fuseWideRow.lifted == Tryz.prog.liftsFinal))=true:=by kernel_rfl
theorem zEo:((Tryz.prog.make == some Rows.fuseWideRow.make))=true:=by kernel_rfl
theorem zEp:((Rows.fuseWideRow.pinned == Rows.fuseWideRow.pinnedBy))=true:=by kernel_rfl
theorem zEq:((Rows.fuseWideRow.veiled == (Tryz.f8.params.toList++Rows.fuseWideSpec.plain.varTypes Tryz.prog++Tryz.f8.resultTypes.toList).any (Tryz.prog.veiledRec ·)))=true:=by kernel_rfl
theorem zEr:(Rows.fuseWideRow.veiledFits Tryz.prog Tryz.f8.params.toList (Tryz.f8.params.toList++Rows.fuseWideSpec.plain.varTypes Tryz.prog++Tryz.f8.resultTypes.toList))=true:=by kernel_rfl
end Go.Proofs.YtfpipcafiocdoaaGreatDoor
namespace Go.Proofs.YtfpipcafiocdoaaGreatDoor
open Go.ChangeShapes Go.WideShapes Go.ChangeAt Go.RowKit Go.Dec
theorem Qk:joinedFacts Tryz.prog 8 Tryz.f8 Rows.fuseWideSpec Rows.fuseWideRow=true:=by
 unfold joinedFacts
 simp only [zGc,zGd,zGe,zGf,zGg,zDy,zDz,zEa,zEb,zEc,zEd,zEe,zEf,zEg,zEh,zEi,zEj,zEk,zEl,zEm,zEn,zEo,zEp,zEq,zEr,zXr,zXs,zXt,zXu,zSo,zSp,Bool.and_self,Bool.and_true,Bool.true_and]
 kernel_rfl
theorem Mr:Tryz.prog.funcNamed "calender/calenderlaw20.FuseWide" = some 8:=by kernel_rfl
theorem Yd:Tryz.f8.isInstance Tryz.prog Rows.fuseWideRow.origin Rows.fuseWideRow.targs:=of_decide_eq_true (by kernel_rfl)
theorem Ye:Tryz.f8.isWrapper Tryz.prog Rows.fuseWideRow.wrapper Rows.fuseWideRow.mainSum:=by
 unfold Func.isWrapper; first | (rw [if_pos (by decide +kernel)]; kernel_rfl) | (rw [if_neg (by decide +kernel)]; exact ⟨rfl,rfl⟩)
end Go.Proofs.YtfpipcafiocdoaaGreatDoor
