/- Part of a proof over this seat: a library of my own, and what it says of this seat. No statement is proved here. -/
import Derived.Test.YthhbdkdofhhoeaaGreatDoorPartBL
import Derived.Test.YthhbdkdofhhoeaaGreatDoorPartBC
import Derived.Test.YthhbdkdofhhoeaaGreatDoorPartBM
namespace Go.Dec
section
variable {n:Nat}{s r:List UInt8}{b:Nat}{l:List Nd}
end
end Go.Dec
namespace Go.Dec
section
variable {n:Nat}{s r:List UInt8}{b:Nat}{l:List Nd}{rows:List UInt8->Nat->dZ (List (List Pt))}
end
end Go.Dec
namespace Go.Dec
section
variable {n:Nat}{s:List UInt8}{l:List Nd}
end
end Go.Dec
namespace Go.Dec
theorem zVu{n:Nat}{t:Pt}(hn:200<=n)(h:Ao t):uN n (t.enc 0)=some (((dQ t w0).1:Int),(dQ t w0).2.2.2,true):=by
 rcases Zt (n:=n) (l:=t.enc 0) hn (zRw t 0)with ⟨u,h1,h2,h3⟩|⟨h1,_⟩
 ·rw[h3];have hsz:t.sz=u.sz:=by have:=congrArg List.length h2;rwa [Pt.dP,Pt.dP]at this
  have Rb:=h.1;have hlen:(t.enc 0).length=t.sz:=Pt.dP t 0;have hB:At (t.enc 0) 0 u:=by have:=At.self u;rw[<- h2]at this;exact this
  have hN:=wM (l:=t.enc 0) (by omega) t 0 n w0 (At.self t) h.2.1.1 (by omega) (by simp only[w0];omega) rfl;have hM:=wM (l:=t.enc 0) (by omega) u 0 n w0 hB h1.2.1.1 (by omega) (by simp only[w0];omega) rfl;have htop:t.top 0=u.top 0:=by unfold Pt.top;omega
  rw[htop,hM]at hN;simp only[W4.out,aA,aB,true_and,and_true]at hN;rw[hN.1,hN.2.2.2]
 ·exact absurd rfl (h1 t h)
theorem Zx{n:Nat}{t:Pt}(hn:200<=n)(h:Ao t):qK n (t.enc 0)=some ((dQ t w0).1:Int):=by unfold qK;simp only;rw[zVu hn h];rfl
end Go.Dec
