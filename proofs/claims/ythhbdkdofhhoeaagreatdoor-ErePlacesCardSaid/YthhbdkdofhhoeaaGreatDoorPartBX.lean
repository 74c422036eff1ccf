/- Part of a proof over this seat: a library of my own, and what it says of this seat. No statement is proved here. -/
import Derived.Test.YthhbdkdofhhoeaaGreatDoorPartBW
namespace Go.Dec
theorem Gq (s:List UInt8) (_:Wu [.str] s):xM 2000 s=some true:=by
 have hsh:=zJb
 unfold xM
 simp only
 rw [hsh]
 by_cases h:s.length > 300
 ·rw [aO (by simp; omega)]; rfl
 ·rw [aJ (by simp; omega)]
  simp only [aW,Bool.not_true,bX]
  rw [zHx (by omega) (by omega)]
  simp only [aW]
  rcases zIz s with ⟨t,hp,hg,hr⟩ | ⟨e,k,hp,he,hk⟩
  ·rw [hp,show Yc (.inl t)=(t.enc 0,0,0) from rfl]
   simp only
   have:=t.uY
   rw [aO (by rfl),aO (by rfl),aO (decide_eq_true (by rw [Pt.eT]; omega)),zTp (by omega) hg,hr]
   rfl
  ·rw [hp,show Yc (.inr (e,k))=([],(k:Int),(e:Int)) from rfl]
   simp only
   have h0:((e:Int) == 0)=false:=by
    rw [Bool.eq_false_iff,ne_eq,beq_iff_eq]
    rcases he with he | he
    ·have:=he.1; omega
    ·omega
   rw [aJ h0,aO (decide_eq_true (by omega)),aO (decide_eq_true (by omega)),aO (by rfl)]
   rcases he with he | he
   ·have h1:=he.1
    have h2:=he.2
    rw [aO (decide_eq_true (by omega)),aO (decide_eq_true (by omega))]
   ·subst he; rfl
end Go.Dec
