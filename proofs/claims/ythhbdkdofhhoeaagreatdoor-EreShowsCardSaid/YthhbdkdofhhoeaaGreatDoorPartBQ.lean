/- Part of a proof over this seat: a library of my own, and what it says of this seat. No statement is proved here. -/
import Derived.Test.YthhbdkdofhhoeaaGreatDoorPartBP
namespace Go.Dec
theorem yEy(w:List Int)(h1:w.length=4)(h2:∀ x∈w,0<=x/\x<=18446744073709551615):∃ p,w=wd p:=by
 match w,h1 with
 |[a,b,c,d],_ =>
  have ha:=h2 a (by simp);have hb:=h2 b (by simp);have hc:=h2 c (by simp);have hd:=h2 d (by simp)
  let p:Nat->Bool:=λi=>(([a,b,c,d]:List Int).getD (i / 64) 0).toNat.testBit (i % 64)
  refine⟨p,?_⟩;have hw:∀ (k:Nat) (x:Int),([a,b,c,d]:List Int).getD k 0=x->0<=x->x<=18446744073709551615->word p k=x:=by
   intro k x hx h0 h1;unfold word;rw[<- Nq (x:=x.toNat) (k:=k) (p:=p) (by omega) (λj hj=>by
    show x.toNat.testBit j=(([a,b,c,d]:List Int).getD ((64*k+j) / 64) 0).toNat.testBit ((64*k+j) % 64);rw[show(64*k+j) / 64=k by omega,show(64*k+j) % 64=j by omega,hx])]
   omega
  simp only[wd,hw 0 a rfl ha.1 ha.2,hw 1 b rfl hb.1 hb.2,hw 2 c rfl hc.1 hc.2,hw 3 d rfl hd.1 hd.2]
end Go.Dec
