/- Part of a proof over this seat: a library of my own, and what it says of this seat. No statement is proved here. -/
import Derived.Test.YthhbdkdofhhoeaaGreatDoorPartBR
namespace Go.Dec
theorem yGv:wU 200000 ()=some true:=by decide +kernel
theorem Tp(l:List Nd)(hl:zKc [.slice aD] l):Fp 200000 l=some true:=by
 unfold Fp;simp only;rw[yGv];by_cases h:l.length>130
 ·rw[aI (by simp;omega)];rfl
 ·rw[aC (by simp;omega)];simp only[aK,Bool.not_true,aZ];have hw:∀ nd∈l,Qf nd:=by
   intro nd hnd;have:=hl.2 nd hnd;have h2:=this.2.1;exact yWb nd.2.1 h2.1 (λx hx=>h2.2 x hx)
  rw[yRp (by omega) (by omega)];have hm:=zRc (n:=200000) (l:=l) (by omega) hw;have hr:=zDc (n:=200000) (l:=l) (by omega) hw;rcases hm with ⟨t,h1,h2,_⟩|⟨h1,h2⟩
  ·subst h2;rw[zZn (by omega) h1,aK,aK,zPs (by omega) h1,aK,aI (by simp)];simp
  ·have hno:vB 200000 l=some false:=by
    rcases hr with ⟨t,h3,h4,_⟩|⟨_,h4⟩
    ·exact absurd h4 (h1 t h3)
    ·exact h4
   unfold vD wW;simp only;rw[h2];simp only[aK];rw[hno];rfl
end Go.Dec
