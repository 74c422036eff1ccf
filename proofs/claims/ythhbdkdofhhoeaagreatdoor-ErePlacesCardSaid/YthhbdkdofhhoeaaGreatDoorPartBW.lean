/- Part of a proof over this seat: a library of my own, and what it says of this seat. No statement is proved here. -/
import Derived.Test.YthhbdkdofhhoeaaGreatDoorPartBU
import Derived.Test.YthhbdkdofhhoeaaGreatDoorPartBH
import Derived.Test.YthhbdkdofhhoeaaGreatDoorPartBV
namespace Go.Dec
section
variable {n:Nat} {s r:List UInt8} {b:Nat} {l:List Nd}
end
end Go.Dec
namespace Go.Dec
section
variable {n:Nat} {s r:List UInt8} {b:Nat} {l:List Nd} {rows:List UInt8->Nat->jL (List (List Pt))}
end
end Go.Dec
namespace Go.Dec
section
variable {n:Nat} {s:List UInt8} {l:List Nd}
end
end Go.Dec
namespace Go.Dec
theorem zTo {n:Nat} {t:Pt} (hn:200 <= n) (h:Ye t):oZ n (t.enc 0)=some (((dS t w0).1:Int),(dS t w0).2.2.2,true):=by
 rcases zNm (n:=n) (l:=t.enc 0) hn (zYt t 0) with ⟨u,h1,h2,h3⟩ | ⟨h1,_⟩
 ·rw [h3]
  have hsz:t.sz=u.sz:=by have:=congrArg List.length h2; rwa [Pt.eT,Pt.eT] at this
  have zAg:=h.1
  have hlen:(t.enc 0).length=t.sz:=Pt.eT t 0
  have hB:At (t.enc 0) 0 u:=by have:=At.self u; rw [<- h2] at this; exact this
  have hN:=vK (l:=t.enc 0) (by omega) t 0 n w0 (At.self t) h.2.1.1 (by omega) (by simp only [w0]; omega) rfl
  have hM:=vK (l:=t.enc 0) (by omega) u 0 n w0 hB h1.2.1.1 (by omega) (by simp only [w0]; omega) rfl
  have htop:t.top 0=u.top 0:=by unfold Pt.top; omega
  rw [htop,hM] at hN
  simp only [W4.out,aA,aB,true_and,and_true] at hN
  rw [hN.1,hN.2.2.2]
 ·exact absurd rfl (h1 t h)
theorem zTp {n:Nat} {t:Pt} (hn:200 <= n) (h:Ye t):Hq n (t.enc 0)=some (dS t w0).2.2.2:=by unfold Hq; simp only; rw [zTo hn h]; rfl
theorem zJb:qU 2000 ()=some true:=by decide +kernel
end Go.Dec
