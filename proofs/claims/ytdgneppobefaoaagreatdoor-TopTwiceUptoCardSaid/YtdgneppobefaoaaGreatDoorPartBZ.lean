/- Part of a proof over this seat: a library of my own, and what it says of this seat. No statement is proved here. -/
import Derived.Test.YtdgneppobefaoaaGreatDoorPartBX
import Derived.Test.YtdgneppobefaoaaGreatDoorCards
import Derived.Test.YtdgneppobefaoaaGreatDoorTie
import Derived.Test.YtdgneppobefaoaaGreatDoorPartBY
namespace Go.Proofs.YtdgneppobefaoaaGreatDoor
open Go.ChangeShapes Go.WideShapes Go.ChangeAt Go.RowKit Go.Dec
theorem Za:((Rows.topTwiceUptoRow.wideKeys == (Tryz.f6.params.toList++(eZ.bare).plain.varTypes Tryz.prog++Tryz.f6.resultTypes.toList).any (Tryz.prog.wideKeysFrom ·)))=true:=by kernel_rfl
theorem Zb:((eZ.bare).vars.all (Tryz.prog.varReadable ·))=true:=by kernel_rfl
theorem Zc:(Tryz.f6.resultTypes.all (fun t=>Tryz.prog.readableRec t && decide (t < Tryz.prog.types.size)))=true:=by kernel_rfl
theorem Zd:((Rows.topTwiceUptoRow.ifacesOut == Tryz.f6.resultTypes.toList.any (Tryz.prog.ifacesRec ·)))=true:=by kernel_rfl
theorem Ze:((Rows.topTwiceUptoRow.loopsOut == Tryz.f6.resultTypes.toList.any (Tryz.prog.loopsFrom ·)))=true:=by kernel_rfl
theorem Zf:((Rows.topTwiceUptoRow.plainKeys == Tryz.prog.plainKeys))=true:=by kernel_rfl
theorem Zg:(Rows.topTwiceUptoRow.shortTexts.isNone)=true:=by kernel_rfl
theorem Zh:((Rows.topTwiceUptoRow.lifted == Tryz.prog.liftsFinal))=true:=by kernel_rfl
theorem Zi:((Tryz.prog.make == some Rows.topTwiceUptoRow.make))=true:=by kernel_rfl
theorem Zj:((Rows.topTwiceUptoRow.pinned == Rows.topTwiceUptoRow.pinnedBy))=true:=by kernel_rfl
theorem Zk:((Rows.topTwiceUptoRow.veiled == (Tryz.f6.params.toList++(eZ.bare).plain.varTypes Tryz.prog++Tryz.f6.resultTypes.toList).any (Tryz.prog.veiledRec ·)))=true:=by kernel_rfl
theorem Zl:(Rows.topTwiceUptoRow.veiledFits Tryz.prog Tryz.f6.params.toList (Tryz.f6.params.toList++(eZ.bare).plain.varTypes Tryz.prog++Tryz.f6.resultTypes.toList))=true:=by kernel_rfl
end Go.Proofs.YtdgneppobefaoaaGreatDoor
namespace Go.Proofs.YtdgneppobefaoaaGreatDoor
open Go.ChangeShapes Go.WideShapes Go.ChangeAt Go.RowKit Go.Dec
theorem Po:joinedFacts Tryz.prog 6 Tryz.f6 (eZ.bare) Rows.topTwiceUptoRow=true:=by
 unfold joinedFacts
 simp only [zDc,zDd,zDe,zDf,zDg,Yr,Yt,Yu,Yv,Yw,Yx,Yy,Yz,Za,Zb,Zc,Zd,Ze,Zf,Zg,Zh,Zi,Zj,Zk,Zl,yGr,yGs,yGt,yGu,yCs,yCt,Bool.and_self,Bool.and_true,Bool.true_and]
 kernel_rfl
theorem Ga:Tryz.prog.funcNamed "calender/calendertop.TopTwice" = some 6:=by kernel_rfl
theorem Vi:Tryz.f6.isInstance Tryz.prog Rows.topTwiceUptoRow.origin Rows.topTwiceUptoRow.targs:=of_decide_eq_true (by kernel_rfl)
theorem Vj:Tryz.f6.isWrapper Tryz.prog Rows.topTwiceUptoRow.wrapper Rows.topTwiceUptoRow.mainSum:=by
 unfold Func.isWrapper; first | (rw [if_pos (by decide +kernel)]; kernel_rfl) | (rw [if_neg (by decide +kernel)]; exact ⟨rfl,rfl⟩)
end Go.Proofs.YtdgneppobefaoaaGreatDoor
