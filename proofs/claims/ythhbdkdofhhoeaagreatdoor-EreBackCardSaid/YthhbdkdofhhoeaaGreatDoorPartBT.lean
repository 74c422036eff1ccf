/- Part of a proof over this seat: a library of my own, and what it says of this seat. No statement is proved here. -/
import Derived.Test.YthhbdkdofhhoeaaGreatDoorPartBS
namespace Go.Dec
theorem yAp:tJ 200000 ()=some true:=by decide +kernel
theorem yAq {n:Nat}{s:List UInt8}{t:Pt}(h:lF s=.inl t) (hn:200000<=n):kS n (bE t)=some (t.enc 0,0,0):=by
 obtain ⟨u,u1,u2⟩:=Xh h;have hg:=vF h;have hl:=gV t;have hs:=hg.1;rw [Ip (by omega) (by omega),u1];simp only [Ij];rw [(zMv t u 0 0 Ol Ol false false u2 hg.2.2 (vF u1).2.2).1]
theorem Qc (s:List UInt8) (_:zAv [.str] s):Ee 200000 s=some true:=by
 unfold Ee;simp only;rw [yAp];by_cases h:s.length>300
 ·rw [aN (by simp;omega)];rfl
 ·rw [aF (by simp;omega)];simp only [aP,Bool.not_true,bU];rw [Ip (by omega) (by omega)];simp only [aP];cases hp:lF s with
  | inr x =>
   obtain ⟨e,k⟩:=x;have he:=zCl hp;simp only [Ij];rw [aN (by simp;omega)];rfl
  | inl t =>
   have hgp:=vF hp;simp only [Ij];rw [aF (by rfl)];rw [Uj (by omega) hgp];simp only [aP];have hpT:Vr t=(bE t,0):=by
    obtain ⟨u,u1,u2⟩:=Xh hp;have hgu:=vF u1;unfold Vr;rw [u1];simp only;rw [show (dH u==dH t)=true by rw [beq_iff_eq];exact (yAk hgu hgp).2 (zMv t u 0 0 Ol Ol false false u2 hgp.2.2 hgu.2.2).1.symm];rfl
   rw [hpT];simp only;rw [yAq hp (by omega)];simp only [aP];rw [Uj (by omega) hgp,hpT];simp only [aP];rw [aN (by rfl),aN (by rfl),aN (by rfl),Ai (by omega) hgp];simp only [aP];rw [aN (by simp)];simp
end Go.Dec
