/- Part of a proof over this seat: a library of my own, and what it says of this seat. No statement is proved here. -/
import Derived.Test.YtmpoakdpdflfgaaGreatDoorPnrtBW
import Derived.Test.YtmpoakdpdflfgaaGreatDoorCards
import Derived.Test.YtmpoakdpdflfgaaGreatDoorTie
import Derived.Test.YtmpoakdpdflfgaaGreatDoorPnrtBX
namespace Go.Proofs.YtmpoakdpdflfgaaGreatDoor
open Go.ChangeShapes Go.WideShapes Go.ChangeAt Go.RowKit Go.Dec
theorem Yv:((Rows.frontNoneRow.wideKeys == (Tryz.f8.params.toList++Rows.frontNoneSpec.plain.varTypes Tryz.prog++Tryz.f8.resultTypes.toList).any (Tryz.prog.wideKeysFrom ·)))=true:=by kernel_rfl
theorem Yw:(Rows.frontNoneSpec.vars.all (Tryz.prog.varReadable ·))=true:=by kernel_rfl
theorem Yx:(Tryz.f8.resultTypes.all (fun t=>Tryz.prog.readableRec t && decide (t < Tryz.prog.types.size)))=true:=by kernel_rfl
theorem Yy:((Rows.frontNoneRow.ifacesOut == Tryz.f8.resultTypes.toList.any (Tryz.prog.ifacesRec ·)))=true:=by kernel_rfl
theorem Yz:((Rows.frontNoneRow.loopsOut == Tryz.f8.resultTypes.toList.any (Tryz.prog.loopsFrom ·)))=true:=by kernel_rfl
theorem Za:((Rows.frontNoneRow.plainKeys == Tryz.prog.plainKeys))=true:=by kernel_rfl
theorem Zb:(Rows.frontNoneRow.shortTexts.isNone)=true:=by kernel_rfl
theorem Zc:((Rows.frontNoneRow.lifted == Tryz.prog.liftsFinal))=true:=by kernel_rfl
theorem Zd:((Tryz.prog.make == some Rows.frontNoneRow.make))=true:=by kernel_rfl
theorem Ze:((Rows.frontNoneRow.pinned == Rows.frontNoneRow.pinnedBy))=true:=by kernel_rfl
theorem Zf:((Rows.frontNoneRow.veiled == (Tryz.f8.params.toList++Rows.frontNoneSpec.plain.varTypes Tryz.prog++Tryz.f8.resultTypes.toList).any (Tryz.prog.veiledRec ·)))=true:=by kernel_rfl
theorem Zg:(Rows.frontNoneRow.veiledFits Tryz.prog Tryz.f8.params.toList (Tryz.f8.params.toList++Rows.frontNoneSpec.plain.varTypes Tryz.prog++Tryz.f8.resultTypes.toList))=true:=by kernel_rfl
end Go.Proofs.YtmpoakdpdflfgaaGreatDoor
namespace Go.Proofs.YtmpoakdpdflfgaaGreatDoor
open Go.ChangeShapes Go.WideShapes Go.ChangeAt Go.RowKit Go.Dec
theorem Nq:joinedFacts Tryz.prog 8 Tryz.f8 Rows.frontNoneSpec Rows.frontNoneRow=true:=by
 unfold joinedFacts
 simp only [zEv,zEw,zEx,zEy,zEz,Ym,Yn,Yo,Yp,Yq,Yr,Yt,Yu,Yv,Yw,Yx,Yy,Yz,Za,Zb,Zc,Zd,Ze,Zf,Zg,zVo,zVp,zVq,zVr,zRz,zSa,Bool.and_self,Bool.and_true,Bool.true_and]
 kernel_rfl
theorem Hw:Tryz.prog.funcNamed "calender/calenderlaw22.FrontNone" = some 8:=by kernel_rfl
theorem Uf:Tryz.f8.isInstance Tryz.prog Rows.frontNoneRow.origin Rows.frontNoneRow.targs:=of_decide_eq_true (by kernel_rfl)
theorem Ug:Tryz.f8.isWrapper Tryz.prog Rows.frontNoneRow.wrapper Rows.frontNoneRow.mainSum:=by
 unfold Func.isWrapper; first | (rw [if_pos (by decide +kernel)]; kernel_rfl) | (rw [if_neg (by decide +kernel)]; exact ⟨rfl,rfl⟩)
end Go.Proofs.YtmpoakdpdflfgaaGreatDoor
