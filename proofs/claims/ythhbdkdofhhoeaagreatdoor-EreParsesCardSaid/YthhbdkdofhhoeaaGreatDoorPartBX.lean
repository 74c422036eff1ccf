/- Part of a proof over this seat: a library of my own, and what it says of this seat. No statement is proved here. -/
import Derived.Test.YthhbdkdofhhoeaaGreatDoorPartBW
namespace Go.Dec
theorem Nf (s:List UInt8) (_:zDy [.str] s):Aw 2000 s=some true:=by
 have hsh:=zSe
 unfold Aw
 simp only
 rw [hsh]
 by_cases h:s.length > 300
 ·rw [aK (by simp; omega)]; rfl
 ·rw [aF (by simp; omega)]
  simp only [aQ,Bool.not_true,bC]
  rw [zQv (by omega) (by omega),zIk (by omega) (by omega)]
  simp only [aQ]
  rcases zSc s with ⟨t,hp,hg,_⟩ | ⟨e,k,hp,he,hk⟩
  ·rw [hp]
   have hsz:=hg.1
   simp only [Wq]
   rw [zTo (by rw [Pt.dS]; omega) (by rw [Pt.dS]; omega)]
   simp only [aQ]
   rw [zJx (by rw [Pt.dS]; omega) (by rw [Pt.dS]; omega),yGt (by omega) hg]
   rfl
  ·rw [hp]
   simp only [Wq]
   rw [zTo (by simp) (by simp)]
   simp only [aQ]
   rw [zJx (by simp) (by simp),yGu]
   simp only [aQ,bV]
   rw [aK (by simp),aK (by simp)]
   have:((e:Int) == 0)=false:=by
    rw [Bool.eq_false_iff,ne_eq,beq_iff_eq]
    rcases he with he | he
    ·have:=he.1; omega
    ·omega
   rw [this]; rfl
end Go.Dec
