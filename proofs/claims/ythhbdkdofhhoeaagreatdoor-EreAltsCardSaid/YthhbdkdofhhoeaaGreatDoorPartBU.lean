/- Part of a proof over this seat: a library of my own, and what it says of this seat. No statement is proved here. -/
import Derived.Test.YthhbdkdofhhoeaaGreatDoorPartBT
namespace Go.Dec
theorem zWc:kY 200000 ()=some true:=by decide +kernel
theorem Mv(x:List UInt8 × List UInt8)(_:Yh [.str,.str] x):Cb 200000 x=some true:=by
 obtain⟨s,t⟩:=x;unfold Cb;simp only;rw[zWc];by_cases hs:s.length>60
 ·rw[aO (by simp;omega)];rfl
 rw[aG (by simp;omega)];by_cases ht:t.length>60
 ·rw[aO (by simp;omega)];rfl
 rw[aG (by simp;omega)];by_cases h0:s=[]
 ·subst h0;rfl
 rw[aG (by simpa using h0)];by_cases h1:t=[]
 ·subst h1;rfl
 rw[aG (by simpa using h1)];simp only[aS,Bool.not_true,bV];rw[Fz (by omega) (by omega),Fz (by omega) (by omega)];simp only[aS];have e:(s++[124])++t=s++124::t:=by simp
 rw[aF (by simp[aL];omega),aF (by simp[aL];omega),e,Fz (by simp;omega) (by simp;omega)];simp only[aS];cases ha:nP s with
 |inr z =>
  obtain⟨e,k⟩:=z;have:=Zz ha;rw[show Fp (.inr (e,k))=([],(k:Int),(e:Int))from rfl];simp only;rw[aO (by simp;omega)]
 |inl a =>
  have hga:=Ga ha;rw[show Fp (.inl a)=(a.enc 0,0,0)from rfl];simp only;rw[aG (by rfl)];cases hb:nP t with
  |inr z =>
   obtain⟨e,k⟩:=z;have:=Zz hb;rw[show Fp (.inr (e,k))=([],(k:Int),(e:Int))from rfl];simp only;rw[aO (by simp;omega)]
  |inl b =>
   have hgb:=Ga hb;rw[show Fp (.inl b)=(b.enc 0,0,0)from rfl];simp only;rw[aG (by rfl),Zx (by omega) hga,Zx (by omega) hgb];simp only[aS];obtain⟨_,ba,_,_,_,_,ea,la⟩:=Au h0 ha;obtain⟨_,bb,_,_,_,_,eb,lb⟩:=Au h1 hb;have hza:=hga.1;have hzb:=hgb.1;have hpa:=a.nN;rw[Pt.dP,Pt.dP,dI (by omega) (by omega),dI (by omega) (by omega)];by_cases hg9:(dQ a w0).1+(dQ b w0).1>9
   ·rw[aO (decide_eq_true (by omega))]
   rw[aG (decide_eq_false (by omega))];by_cases hz:a.sz+b.sz>100
   ·rw[aO (decide_eq_true (by omega))]
   rw[aG (decide_eq_false (by omega))];obtain⟨c,hc,hcz,hct⟩:=zPo h0 h1 ha hb (by omega) (by omega);have hgc:=Ga hc;rw[hc,show Fp (.inl c)=(c.enc 0,0,0)from rfl];simp only;rw[aO (by rfl),Pt.dP,dI (by omega) (by omega),aO (by rw[beq_iff_eq];omega),dI (by omega) (by omega)];obtain⟨t1,t2⟩:=(At.self a).top;have htop:(a.sz:Int)-1=a.top 0:=by unfold Pt.top;omega
   rw[Pt.dP]at t1;rw[htop,aF t1,t2];have hkn:(a.nv 0).node.1=a.kind:=Pt.Jw 0 a;rw[hkn];by_cases hk:a.kind=5
   ·rw[hk];rfl
   ·rw[aG (by rw[beq_eq_false_iff_ne];exact hk)];rw[Mj (by omega) hgc,Mj (by omega) hga,Mj (by omega) hgb];simp only[aS];have l1:=iT a;have l2:=iT b;rw[aF (decide_eq_true (by simp only[List.length_cons,List.length_nil];unfold aL;omega)),aF (decide_eq_true (by simp only[List.length_append,List.length_cons,List.length_nil];unfold aL;omega)),hct hk];simp
end Go.Dec
