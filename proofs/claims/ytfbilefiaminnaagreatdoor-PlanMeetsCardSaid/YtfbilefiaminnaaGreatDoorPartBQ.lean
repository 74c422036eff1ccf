/- Part of a proof over this seat: a library of my own, and what it says of this seat. No statement is proved here. -/
import Derived.Test.YtfbilefiaminnaaGreatDoorPartBP
import Derived.Test.YtfbilefiaminnaaGreatDoorPartAQ
import GoSem.ClaimGoes
namespace Go.Dec
variable {n:Nat}
variable {S:List UInt8}
variable {c k:Nat}
variable {x y z T:Sc0}
variable {q:Yb}
theorem Js{α:Type}{l:List α}{i:Nat}(h:i<l.length)(d:α):l.getD i d∈l:=by
 rw[List.getD_eq_getElem?_getD,List.getElem?_eq_getElem h];exact List.getElem_mem h
theorem yTu(h:Rd S c 0 x)(hc:c<=5000):Ans (qN n x) (Ok λy=>Nx S (c+1) 0 x y):=by
 have hon:x.2.2.2.2.2.2.2.2.2.2.2.2.2.2.2.2.2.2.2.2.2.2.2.1.length<=c+0:=h.on;have hop:∀ p∈x.2.2.2.2.2.2.2.2.2.2.2.2.2.2.2.2.2.2.2.2.2.2.2.1,0<=p.1/\p.1<(x.2.2.2.2.2.2.2.2.2.2.2.2.2.2.2.2.2.2.2.2.2.2.1.length:Int)+(0:Nat):=h.op;have hwa:∀ p∈x.2.2.2.2.2.2.2.2.2.2.2.2.2.2.2.2.2.2.2.2.2.2.2.2.1,0<=p.1/\p.1<(x.2.2.2.2.2.2.2.2.2.2.2.2.2.2.2.2.2.2.2.2.2.2.1.length:Int)+(0:Nat):=h.wa;unfold qN;have hw:IntKind.wrap .i64 ((x.2.2.2.2.2.2.2.2.2.2.2.2.2.2.2.2.2.2.2.2.2.2.2.1.length:Int)-1)=(x.2.2.2.2.2.2.2.2.2.2.2.2.2.2.2.2.2.2.2.2.2.2.2.1.length:Int)-1:=bI (by omega) (by omega);simp only[hw];refine Ans.br (λ_=>iW (okr (by decide))) (λhneg=>?_);have hneg:=zJf hneg;have hi:((x.2.2.2.2.2.2.2.2.2.2.2.2.2.2.2.2.2.2.2.2.2.2.2.1.length:Int)-1).toNat<x.2.2.2.2.2.2.2.2.2.2.2.2.2.2.2.2.2.2.2.2.2.2.2.1.length:=by omega
 have hm:=hop _ (Js (i:=0+((x.2.2.2.2.2.2.2.2.2.2.2.2.2.2.2.2.2.2.2.2.2.2.2.1.length:Int)-1).toNat) (by omega) (Ty.dflt gP));refine Ans.chk (Gl (dM (by omega) (by omega)) (decide_eq_true (by omega))) (Ans.chk (decide_eq_true (by omega)) ?_);generalize (x.2.2.2.2.2.2.2.2.2.2.2.2.2.2.2.2.2.2.2.2.2.2.2.1.getD (0+((x.2.2.2.2.2.2.2.2.2.2.2.2.2.2.2.2.2.2.2.2.2.2.2.1.length:Int)-1).toNat) (Ty.dflt gP)).1=v at hm ⊢;refine Ans.chk (Gl (dM hm.1 (by omega)) (decide_eq_true (by omega))) (Ans.chk (decide_eq_true (by omega)) (Ans.chk (Ta (by omega) (by omega)) (Ans.chk (Nat.ble_eq_true_of_le (by omega)) ?_)));have hvn:0+v.toNat<x.2.2.2.2.2.2.2.2.2.2.2.2.2.2.2.2.2.2.2.2.2.2.1.length:=by have h1:=hm.1;have h2:=hm.2;omega
 refine Ans.ob _ (zYl (c:=c) (q:=(x.1,x.2.1,x.2.2.1,x.2.2.2.2.2.2.2.2.2.2.2.2.2.2.2.2.2.2.2.2.2.1,x.2.2.2.2.2.2.2.2.2.2.2.2.2.2.2.2.2.2.2.2.2.2.1.set (0+v.toNat) _,x.2.2.2.2.2.2.2.2.2.2.2.2.2.2.2.2.2.2.2.2.2.2.2.1.take ((x.2.2.2.2.2.2.2.2.2.2.2.2.2.2.2.2.2.2.2.2.2.2.2.1.length:Int)-1).toNat,x.2.2.2.2.2.2.2.2.2.2.2.2.2.2.2.2.2.2.2.2.2.2.2.2.1,x.2.2.2.2.2.2.2.2.2.2.2.2.2.1)) rfl ⟨h.s,h.e,h.lo,h.hi,h.pats,h.pn,?_,?_,?_,?_,?_,h.tx,?_⟩ (Pw h) hc) (λy hy=>okl hy)
 ·simp only[List.length_set];exact h.cn
 ·intro p hp;have:=hop p (List.mem_of_mem_take hp);simp only[List.length_set];exact⟨this.1,by omega⟩
 ·intro p hp;have:=hwa p hp;simp only[List.length_set];exact⟨this.1,by omega⟩
 ·simp only[List.length_take];omega
 ·exact Nat.le_trans h.wn (by omega)
 ·intro p hp;rcases List.mem_or_eq_of_mem_set hp with hp|rfl
  ·exact h.ct p hp
  ·have hq:=h.ct _ (Js hvn (Ty.dflt aC));exact hq
theorem yEa(h:Rd S c 0 x)(hc:c<=5000)(hf:Fu S n):Ans (qP n x) (Ok λy=>Nx S (c+1) 0 x y):=by
 obtain⟨f1,f2,f3⟩:=hf;have hf:Fu S n:=⟨f1,f2,f3⟩;unfold qP;refine ok2 (any_ok h hf) ?_ (λz=>⟨_,rfl⟩);rintro⟨d,w⟩ ⟨hw,g1⟩;simp only at hw;subst hw;have k1:RdK S c 0 (kat (bK x) (x.2.2.1+1)):=xQ h (by show x.2.2.1<=_;omega) g1;have e1:Fx x (kat (bK x) (x.2.2.1+1)):=Ey (Pw h) (by show x.2.2.1<=_;omega);refine ok2 (zRx (x:=pW x (x.2.2.1+1)) d k1 hf) ?_ (λz=>⟨_,rfl⟩);rintro⟨v,w⟩ ⟨⟨k2,e2⟩,hv,hp⟩;simp only at k2 e2 hv hp;have e2:Fx x (bK w):=⟨Int.le_trans e1.1 e2.1,Nat.le_trans e1.2 e2.2⟩;have tk:∀ W:Sc0,bK W=bK w->W.2.2.2.2.2.2.2.2.2.2.2.2.2.2.2.2.2.1=v->Ans (fA n (d,W)) (Ok λy=>∃ a,y.2=pW W a/\(bK w).2.2.1<=a/\a<=S.length/\y.1.length<=S.length):=by
  intro W hW _;have hR:RdK S c 0 (bK W):=by rw[hW];exact k2
  refine(zFg (x:=W) d hR hf).mono λs hs=>⟨λy e=>?_,hs.2⟩
  obtain⟨a,q1,q2,q3⟩:=hs.1 y e;exact⟨a,q1,by rw[<- hW];exact q2,q3⟩
 refine ok2 (tk ((w.1,w.2.1,w.2.2.1,w.2.2.2.1,w.2.2.2.2.1,w.2.2.2.2.2.1,w.2.2.2.2.2.2.1,w.2.2.2.2.2.2.2.1,w.2.2.2.2.2.2.2.2.1,w.2.2.2.2.2.2.2.2.2.1,w.2.2.2.2.2.2.2.2.2.2.1,w.2.2.2.2.2.2.2.2.2.2.2.1,w.2.2.2.2.2.2.2.2.2.2.2.2.1,w.2.2.2.2.2.2.2.2.2.2.2.2.2.1,w.2.2.2.2.2.2.2.2.2.2.2.2.2.2.1,w.2.2.2.2.2.2.2.2.2.2.2.2.2.2.2.1,w.2.2.2.2.2.2.2.2.2.2.2.2.2.2.2.2.1,v,w.2.2.2.2.2.2.2.2.2.2.2.2.2.2.2.2.2.2.1,w.2.2.2.2.2.2.2.2.2.2.2.2.2.2.2.2.2.2.2.1,w.2.2.2.2.2.2.2.2.2.2.2.2.2.2.2.2.2.2.2.2.1,w.2.2.2.2.2.2.2.2.2.2.2.2.2.2.2.2.2.2.2.2.2.1,w.2.2.2.2.2.2.2.2.2.2.2.2.2.2.2.2.2.2.2.2.2.2.1,w.2.2.2.2.2.2.2.2.2.2.2.2.2.2.2.2.2.2.2.2.2.2.2.1,w.2.2.2.2.2.2.2.2.2.2.2.2.2.2.2.2.2.2.2.2.2.2.2.2.1,w.2.2.2.2.2.2.2.2.2.2.2.2.2.2.2.2.2.2.2.2.2.2.2.2.2.1,())) rfl rfl) ?_ (λz=>⟨_,rfl⟩);rintro⟨t,w2⟩ ⟨a,hw2,g3,g4,g5⟩;simp only at hw2 g5;subst hw2;have k3:RdK S c 0 (kat (bK w) a):=xQ k2 g3 g4;have e3:Fx x (kat (bK w) a):=Ey e2 g3;refine Ans.ob _ (ySz (n:=n) (s:=t) (by omega) (by omega)) ?_;rintro⟨l,i1,i2⟩ hl;simp only at hl;refine ok2 Pv (λ_ _=>?_) (λz=>⟨_,rfl⟩);have hpn:rpn w<=999:=k2.pn;have hv0:0<=v/\v<(rpn w:Int):=by rw[hv,hp];omega
 have hvn:0+v.toNat<rpn w:=by omega
 refine Ans.chk (show(inB v (rpn w)&&decide (0+rpn w<=rpn w))=true from Gl (dM hv0.1 hv0.2) (decide_eq_true (by omega))) (Ans.chk (show decide (0+v.toNat<rpn w)=true from decide_eq_true hvn) ?_);have hpat:zRw ((bK w).2.2.2.1.getD (0+v.toNat) (Ty.dflt bQ)).1:=k2.pats _ (Js hvn _);refine Ans.chk (show inB 0 ((bK w).2.2.2.1.getD (0+v.toNat) (Ty.dflt bQ)).1.length=true from dM (Int.le_refl _) (by have:=hpat.1;omega)) ?_;have fl:∀ U:Sc0,bK U=kat (bK w) a->Ans (ob2 (iJ n U) (λy41 =>
  ob (bZ n (y41.2)) λy42 =>
  br (!y41.1) (
   ob2 (eH n (y42)) (λy43 =>
    some (.inl (y43))) (λy43 =>
    some (.inr (y43)))) (
   some (.inl (y42)))) (λy41 =>
  some (.inr (y41))):Option (Sum Sc0 (Int × Sc0))) (Ok λy=>Nx S (c+1) 0 x y):=by
  intro U hU;refine ok2 (xFg (x:=x) hU k3 e3 (by show 1<=rpn w;omega) hf) ?_ (λz=>⟨_,rfl⟩);rintro⟨b,y⟩ hy;refine Ans.ob _ (zYl (x:=x) (q:=bK y) rfl (RdK.sl hy.1) hy.2 hc) ?_;intro y2 hy2;exact Ans.br (λ_=>ok2 (zOn hy2.1 hf) (λz hz=>okl (hy2.cat hz)) (λz=>⟨_,rfl⟩)) (λ_=>okl hy2)
 refine Ans.br (λ_=>?_) (λ_=>fl _ rfl);refine Ans.ob _ (yXd (n:=n) (l:=l) (by omega) (by omega)) (λ_ _=>Ans.ob _ (yPb (n:=n) (by omega) hpat) (λ_ _=>Ans.br (λ_=>iW (okr (by decide))) (λ_=>fl _ rfl)))
end Go.Dec
namespace Go.Dec
variable {n:Nat}
variable {S:List UInt8}
variable {c k:Nat}
variable {x y z T:Sc0}
variable {q:Yb}
theorem yLv{X:Sc2}(hs:X.1=S)(h0:0<=X.2.2.1)(h1:X.2.2.1<=S.length)(hf:Fu S n):Ans (iP n X) (Ok λy=>∃ a,y.2=(X.1,X.2.1,a,X.2.2.2)/\X.2.2.1<=a/\a<=S.length):=by
 obtain⟨f1,f2,f3⟩:=hf;have hb:Ans (gV n X) λy=>∃ a,y=(X.1,X.2.1,a,X.2.2.2)/\X.2.2.1<=a/\a<=S.length:=by
  unfold gV;simp only[hs];refine Ans.ob _ (zVo (n:=n) (s:=S) (a:=X.2.2.1) (by omega) f3 h0 h1) ?_;rintro a ⟨g1,g2⟩;exact Ans.some ⟨a,rfl,g1,g2⟩
 have hwd:Ans (iO n ([59,125],X)) λy=>∃ a,y.2=(X.1,X.2.1,a,X.2.2.2)/\X.2.2.1<=a/\a<=S.length/\y.1.length<=S.length:=by
  unfold iO;refine Ans.ob _ hb ?_;rintro _ ⟨a,rfl,g1,g2⟩;simp only[hs];refine Ans.ob _ (yGu (n:=n) (s:=S) (a:=a) (by omega) f3 (by omega) g2 _) ?_;rintro w ⟨k1,k2,k3⟩;exact Ans.some ⟨w.2,rfl,by omega,k2,k3⟩
 unfold iP;refine Ans.ob _ hwd ?_;rintro⟨t,w⟩ ⟨a,hw,g1,g2,g3⟩;simp only at hw g3;subst hw;obtain⟨b,hb⟩:=yVi (n:=n) t (by omega);simp only;rw[hb,aN];exact Ans.br (λ_=>iW (okr (by decide))) (λ_=>okl ⟨a,rfl,g1,g2⟩)
theorem yPe{X:Sc4}(hs:X.1=S)(h0:0<=X.2.2.1)(h1:X.2.2.1<=S.length)(hf:Fu S n):Ans (gW n X) (Ok λy=>∃ a,y.2=(X.1,X.2.1,a,X.2.2.2)/\X.2.2.1<=a/\a<=S.length):=by
 unfold gW;obtain⟨r,hr,hP⟩:=yLv (n:=n) (S:=S) (X:=(X.1,X.2.1,X.2.2.1,undef,X.2.2.2.1,undef,X.2.2.2.2.1,X.2.2.2.2.2.1,X.2.2.2.2.2.2.1,X.2.2.2.2.2.2.2.1,X.2.2.2.2.2.2.2.2.1,X.2.2.2.2.2.2.2.2.2.1,X.2.2.2.2.2.2.2.2.2.2.1,X.2.2.2.2.2.2.2.2.2.2.2.1,X.2.2.2.2.2.2.2.2.2.2.2.2.1,X.2.2.2.2.2.2.2.2.2.2.2.2.2.1,X.2.2.2.2.2.2.2.2.2.2.2.2.2.2.1,X.2.2.2.2.2.2.2.2.2.2.2.2.2.2.2.1,X.2.2.2.2.2.2.2.2.2.2.2.2.2.2.2.2.1,X.2.2.2.2.2.2.2.2.2.2.2.2.2.2.2.2.2.1,X.2.2.2.2.2.2.2.2.2.2.2.2.2.2.2.2.2.2.1,X.2.2.2.2.2.2.2.2.2.2.2.2.2.2.2.2.2.2.2.1,undef,X.2.2.2.2.2.2.2.2.2.2.2.2.2.2.2.2.2.2.2.2)) hs h0 h1 hf;rw[hr];cases r with
 |inr z=>exact okr (hP.2 _ rfl)
 |inl y =>
  obtain⟨t,w⟩:=y;obtain⟨a,hw,g1,g2⟩:=hP.1 _ rfl;simp only at hw;subst hw;exact okl ⟨a,rfl,g1,g2⟩
theorem zJq(h:Rd S c 0 x)(hc:c<=5000)(hf:Fu S n):Ans (jQ n x) (Ok λy=>Nx S (c+1) 0 x y):=by
 have hwn:x.2.2.2.2.2.2.2.2.2.2.2.2.2.2.2.2.2.2.2.2.2.2.2.2.1.length<=c+0:=h.wn;have hop:∀ p∈x.2.2.2.2.2.2.2.2.2.2.2.2.2.2.2.2.2.2.2.2.2.2.2.1,0<=p.1/\p.1<(x.2.2.2.2.2.2.2.2.2.2.2.2.2.2.2.2.2.2.2.2.2.2.1.length:Int)+(0:Nat):=h.op;have hwa:∀ p∈x.2.2.2.2.2.2.2.2.2.2.2.2.2.2.2.2.2.2.2.2.2.2.2.2.1,0<=p.1/\p.1<(x.2.2.2.2.2.2.2.2.2.2.2.2.2.2.2.2.2.2.2.2.2.2.1.length:Int)+(0:Nat):=h.wa;unfold jQ;refine ok2 (yPe (S:=S) h.s h.lo h.hi hf) ?_ (λz=>⟨_,rfl⟩);rintro⟨t,w⟩ ⟨a,hw,g1,g2⟩;simp only at hw g1;subst hw;refine Ans.chk (Ru (m:=x.2.2.2.2.2.2.2.2.2.2.2.2.2.2.2.2.2.2.2.2.2.2.2.2.1.length+1) (by omega)) ?_;have kk:RdK S c 1 (x.1,x.2.1,a,x.2.2.2.2.2.2.2.2.2.2.2.2.2.2.2.2.2.2.2.2.2.1,x.2.2.2.2.2.2.2.2.2.2.2.2.2.2.2.2.2.2.2.2.2.2.1,x.2.2.2.2.2.2.2.2.2.2.2.2.2.2.2.2.2.2.2.2.2.2.2.1,x.2.2.2.2.2.2.2.2.2.2.2.2.2.2.2.2.2.2.2.2.2.2.2.2.1++[(((x.2.2.2.2.2.2.2.2.2.2.2.2.2.2.2.2.2.2.2.2.2.2.1.length:Nat):Int),(x.2.2.2.1,(t,())))],x.2.2.2.2.2.2.2.2.2.2.2.2.2.1):=by
  refine⟨h.s,h.e,Int.le_trans h.lo g1,g2,h.pats,h.pn,h.cn,λp hp=>?_,λp hp=>?_,Nat.le_trans h.on (by omega),by simp only[List.length_append,List.length_singleton];omega,h.tx,h.ct⟩
  ·have:=hop p hp;exact⟨this.1,by have:=this.2;simp only;omega⟩
  ·rcases List.mem_append.1 hp with hp|hp
   ·have:=hwa p hp;exact⟨this.1,by have:=this.2;simp only;omega⟩
   ·obtain rfl:=List.mem_singleton.1 hp;exact⟨by simp only;omega,by simp only;omega⟩
 exact ok2 (yLu rfl kk ⟨g1,aP _⟩ hc hf) (λy hy=>okl hy) (λz=>⟨_,rfl⟩)
theorem xBl(h:Rd S c 0 x)(hc:c<=5000)(hf:Fu S n):Ans (eT n x) (Ok λy=>Nx S (c+1) 0 x y):=by
 unfold eT;simp only;refine Ans.br (λ_=>iW (okr (by decide))) (λh0=>?_);refine Ans.br (λ_=>Ans.ob _ (yPd h hc) (λy hy=>okl hy)) (λxFh=>?_);refine Ans.br (λ_=>ok2 (yTu h hc) (λy hy=>okl hy) (λz=>⟨_,rfl⟩)) (λxFi=>?_);refine Ans.br (λ_=>ok2 (yTt h hf) (λy hy=>okl hy) (λz=>⟨_,rfl⟩)) (λh58=>?_);refine Ans.br (λ_=>ok2 (yEa h hc hf) (λy hy=>okl hy) (λz=>⟨_,rfl⟩)) (λxFj=>?_);refine Ans.br (λ_=>ok2 (yDz h hc hf) (λy hy=>okl hy) (λz=>⟨_,rfl⟩)) (λxFk=>?_);refine Ans.br (λ_=>ok2 (oD (Rd.Je h) hc hf) (λy hy=>okl hy) (λz=>⟨_,rfl⟩)) (λh61=>?_);refine Ans.br (λ_=>ok2 (oD (Rd.Je h) hc hf) (λy hy=>okl hy) (λz=>⟨_,rfl⟩)) (λxFl=>?_);refine Ans.br (λ_=>ok2 (oD (Rd.Je h) hc hf) (λy hy=>okl hy) (λz=>⟨_,rfl⟩)) (λh68=>?_);refine Ans.br (λ_=>ok2 (oD (Rd.Je h) hc hf) (λy hy=>okl hy) (λz=>⟨_,rfl⟩)) (λxFm=>?_);refine Ans.br (λ_=>ok2 (oD (Rd.Je h) hc hf) (λy hy=>okl hy) (λz=>⟨_,rfl⟩)) (λh71=>?_);refine Ans.br (λ_=>ok2 (oD (Rd.Je h) hc hf) (λy hy=>okl hy) (λz=>⟨_,rfl⟩)) (λxFn=>?_);refine Ans.br (λ_=>ok2 (oD (Rd.Je h) hc hf) (λy hy=>okl hy) (λz=>⟨_,rfl⟩)) (λh72=>?_);refine Ans.br (λ_=>ok2 (oD (Rd.Je h) hc hf) (λy hy=>okl hy) (λz=>⟨_,rfl⟩)) (λxAw=>?_);refine Ans.br (λ_=>ok2 (oD (Rd.Je h) hc hf) (λy hy=>okl hy) (λz=>⟨_,rfl⟩)) (λh78=>?_);refine Ans.br (λ_=>ok2 (oD (Rd.Je h) hc hf) (λy hy=>okl hy) (λz=>⟨_,rfl⟩)) (λh112=>?_);refine Ans.br (λ_=>ok2 (oD (Rd.Je h) hc hf) (λy hy=>okl hy) (λz=>⟨_,rfl⟩)) (λh80=>?_);refine Ans.br (λ_=>ok2 (oD (Rd.Je h) hc hf) (λy hy=>okl hy) (λz=>⟨_,rfl⟩)) (λyDm=>?_);refine Ans.br (λ_=>ok2 (zAy h hc hf) (λy hy=>okl hy) (λz=>⟨_,rfl⟩)) (λh97=>?_);refine Ans.br (λ_=>ok2 (zAy h hc hf) (λy hy=>okl hy) (λz=>⟨_,rfl⟩)) (λxFo=>?_);refine Ans.br (λ_=>ok2 (zAy h hc hf) (λy hy=>okl hy) (λz=>⟨_,rfl⟩)) (λh99=>?_);refine Ans.br (λ_=>ok2 (zJq h hc hf) (λy hy=>okl hy) (λz=>⟨_,rfl⟩)) (λh98=>?_);refine Ans.br (λ_=>ok2 (zJq h hc hf) (λy hy=>okl hy) (λz=>⟨_,rfl⟩)) (λh116=>?_);refine Ans.br (λ_=>ok2 (zJq h hc hf) (λy hy=>okl hy) (λz=>⟨_,rfl⟩)) (λh84=>?_);refine Ans.br (λ_=>ok2 (zFh h hc hf) (λy hy=>okl hy) (λz=>⟨_,rfl⟩)) (λxFp=>?_);refine Ans.br (λ_=>ok2 (zFh h hc hf) (λy hy=>okl hy) (λz=>⟨_,rfl⟩)) (λxFq=>?_);refine Ans.br (λ_=>ok2 (zFh h hc hf) (λy hy=>okl hy) (λz=>⟨_,rfl⟩)) (λh81=>?_);refine Ans.br (λ_=>ok2 (yHf h hc hf) (λy hy=>okl hy) (λz=>⟨_,rfl⟩)) (λxFr=>?_);refine Ans.br (λ_=>ok2 (yHf h hc hf) (λy hy=>okl hy) (λz=>⟨_,rfl⟩)) (λh119=>?_);rw[xFh,xFi,h58,xFj,xFk,h61,xFl,h68,xFm,h71,xFn,h72,xAw,h78,h112,h80,yDm,h97,xFo,h99,h98,h116,h84,xFp,xFq,h81,xFr,h119]at h0;cases h0
theorem xBm(v:Int)(h:Rd S c 0 x)(hc:c<=5000)(hf:Fu S n):Ans (jn (gI n) (v,x)) (Ok λy=>Nx S (c+1) 0 x y/\x.2.2.1<y.2.2.1):=by
 show Ans (gI n (v,x)) _;unfold gI;refine ok2 (any_ok h hf) ?_ (λz=>⟨_,rfl⟩);rintro⟨d,w⟩ ⟨hw,g1⟩;simp only at hw;subst hw;have k1:RdK S c 0 (kat (bK x) (x.2.2.1+1)):=xQ h (by show x.2.2.1<=_;omega) g1;have go:∀ U:Sc0,bK U=kat (bK x) (x.2.2.1+1)->Ans (jn (eT n) U) (Ok λy=>Nx S (c+1) 0 x y/\x.2.2.1<y.2.2.1):=by
  intro U hU;have hR:RdK S c 0 (bK U):=by rw[hU];exact k1
  show Ans (eT n U) _;refine(xBl (x:=U) hR hc hf).mono λs hs=>⟨λy e=>?_,hs.2⟩
  have:=hs.1 y e;have h1:(bK U).2.2.1<=(bK y).2.2.1:=this.2.1;have h2:(bK U).2.2.2.1.length<=(bK y).2.2.2.1.length:=this.2.2;rw[hU]at h1 h2;have h1:x.2.2.1+1<=y.2.2.1:=h1;exact⟨⟨this.1,by show x.2.2.1<=y.2.2.1;omega,h2⟩,by omega⟩
 obtain⟨i1,q1⟩:=zCt (n:=n) [125,58] d;obtain⟨i2,q2⟩:=zCt (n:=n) [113,81] d;have tail:∀ (o:Option (Sum Sc0 (Int × Sc0))),True->True:=λ_ _=>trivial
 refine Ans.ob (λy=>y=i1) ⟨i1,q1,rfl⟩ ?_;rintro _ rfl;refine Ans.br (λ_=>Ans.br (λ_=>iW (okr (by decide))) (λ_=>Ans.br (λ_=>iW (okr (by decide))) (λ_=>?_))) (λ_=>?_)
 ·refine Ans.ob (λy=>y=i2) ⟨i2,q2,rfl⟩ ?_;rintro _ rfl;exact Ans.br (λ_=>Ans.br (λ_=>iW (okr (by decide))) (λ_=>go _ rfl)) (λ_=>go _ rfl)
 ·refine Ans.ob (λy=>y=i2) ⟨i2,q2,rfl⟩ ?_;rintro _ rfl;exact Ans.br (λ_=>Ans.br (λ_=>iW (okr (by decide))) (λ_=>go _ rfl)) (λ_=>go _ rfl)
theorem yLw(h:Rd S c 0 x)(hc:c<=5000)(hf:Fu S n):Ans (nU n x) (Ok λy=>Nx S (c+1) 0 x y/\x.2.2.1<y.2.2.1):=by
 have up:∀ (w:Sc0) (v:Int),Nx S c 0 x w->Ans (jn (gI n) (v,w)) (Ok λy=>Nx S (c+1) 0 x y/\x.2.2.1<y.2.2.1):=by
  intro w v hw;refine(xBm v hw.1 hc hf).mono λs hs=>⟨λy e=>?_,hs.2⟩
  have:=hs.1 y e;have h1:x.2.2.1<=w.2.2.1:=hw.2.1;exact⟨hw.cat this.1,by have:=this.2;omega⟩
 unfold nU;have k0:RdK S c 0 (ktx (bK x) []):=zRz h (Nat.zero_le _);refine ok2 (show Ans _ (Ok λy=>Nx S c 0 x y.2)from (yDv (n:=n) (S:=S) (c:=c) (k:=0) (x:=(x.1,x.2.1,x.2.2.1,x.2.2.1,x.2.2.2.2.1,0,0,0,0,0,0,false,0,[],[],0,0,(-1),[],false,false,x.2.2.2.2.2.2.2.2.2.2.2.2.2.2.2.2.2.2.2.2.2)) k0 hf).mono λs hs=>⟨λy e=>hs.1 y e,hs.2⟩) ?_ (λz=>⟨_,rfl⟩);rintro⟨v,w⟩ hw;simp only at hw;refine Ans.ob _ (xP hw.1 hf) ?_;rintro _ ⟨a,rfl,g1,g2⟩;have hn:=hw.trans (Rd.at hw.1 g1 g2);refine Ans.ob _ (Pq [33] hn.1 hf) ?_;rintro⟨b,w2⟩ ⟨a2,hw2,g3,g4⟩;simp only at hw2;subst hw2;have hn2:=hn.trans (Rd.at hn.1 g3 g4);refine Ans.br (λ_=>?_) (λ_=>up _ v hn2);have k2:RdK S c 0 (kat (bK (pW w a)) a2):=hn2.1;have e2:Fx x (kat (bK (pW w a)) a2):=hn2.2;have bl:∀ U:Sc0,bK U=kat (bK (pW w a)) a2->Ans (bL n U) λy=>Nx S c 0 x y:=by
  intro U hU;have hR:RdK S c 0 (bK U):=by rw[hU];exact k2
  refine(xP (x:=U) hR hf).mono ?_;rintro _ ⟨a3,rfl,g5,g6⟩;have h7:=Rd.at (x:=U) hR g5 g6;exact⟨h7.1,by have:=h7.2.1;rw[hU]at this;exact Int.le_trans e2.1 this,by have:=h7.2.2;rw[hU]at this;exact Nat.le_trans e2.2 this⟩
 exact Ans.ob _ (bl _ rfl) (λy hy=>up y v hy)
end Go.Dec
namespace Go.Dec
variable {n:Nat}
variable {S:List UInt8}
variable {c k:Nat}
variable {x y z T:Sc0}
variable {q:Yb}
theorem RdK.mono{c2:Nat}(h:RdK S c k q)(hc:c<=c2):RdK S c2 k q:=⟨h.s,h.e,h.lo,h.hi,h.pats,h.pn,Nat.le_trans h.cn hc,h.op,h.wa,Nat.le_trans h.on (by omega),Nat.le_trans h.wn (by omega),h.tx,h.ct⟩
def WaI (S:List UInt8) (c:Nat) (X:Int×Int×Sc0):Prop:=RdK S c 0 (bK X.2.2) ∧ X.1 = ((bK X.2.2).2.2.2.2.2.2.1.length:Int) ∧ 0<=X.2.1 ∧ X.2.1<=X.1
abbrev WhP(S:List UInt8)(c:Nat):Sum Sc0 (Int × Sc0)->Prop:=Ok λy=>RdK S c 0 (bK y)
theorem yPf(v:Int)(b:Bool){t i:Int}{w:Sc0}{p:PlT}{r:Int × Int × Sc0->Option (Sum Sc0 (Int × Sc0))}(h:WaI S c (t,i,w))(hi:i<t)(hp:p∈w.2.2.2.2.2.2.2.2.2.2.2.2.2.2.2.2.2.2.2.2.2.2.2.2.1)(hc:c<=5000)(hr:∀ Y,WaI S c Y->Y.2.1=i+1->Y.1=t->Ans (r Y) (WhP S c)):Ans (jn (kI n r) (v,b,t,i,w.1,w.2.1,w.2.2.1,w.2.2.2.1,w.2.2.2.2.1,w.2.2.2.2.2.1,w.2.2.2.2.2.2.1,w.2.2.2.2.2.2.2.1,w.2.2.2.2.2.2.2.2.1,w.2.2.2.2.2.2.2.2.2.1,w.2.2.2.2.2.2.2.2.2.2.1,w.2.2.2.2.2.2.2.2.2.2.2.1,w.2.2.2.2.2.2.2.2.2.2.2.2.1,w.2.2.2.2.2.2.2.2.2.2.2.2.2.1,w.2.2.2.2.2.2.2.2.2.2.2.2.2.2.1,w.2.2.2.2.2.2.2.2.2.2.2.2.2.2.2.1,w.2.2.2.2.2.2.2.2.2.2.2.2.2.2.2.2.1,w.2.2.2.2.2.2.2.2.2.2.2.2.2.2.2.2.2.1,w.2.2.2.2.2.2.2.2.2.2.2.2.2.2.2.2.2.2.1,w.2.2.2.2.2.2.2.2.2.2.2.2.2.2.2.2.2.2.2.1,w.2.2.2.2.2.2.2.2.2.2.2.2.2.2.2.2.2.2.2.2.1,w.2.2.2.2.2.2.2.2.2.2.2.2.2.2.2.2.2.2.2.2.2.1,w.2.2.2.2.2.2.2.2.2.2.2.2.2.2.2.2.2.2.2.2.2.2.1,w.2.2.2.2.2.2.2.2.2.2.2.2.2.2.2.2.2.2.2.2.2.2.2.1,w.2.2.2.2.2.2.2.2.2.2.2.2.2.2.2.2.2.2.2.2.2.2.2.2.1,w.2.2.2.2.2.2.2.2.2.2.2.2.2.2.2.2.2.2.2.2.2.2.2.2.2.1,p.1,p.2.1,p.2.2.1,())) (WhP S c):=by
 obtain⟨hR,ht,h0,h1⟩:=h;have hwn:(bK w).2.2.2.2.2.2.1.length<=c+0:=hR.wn;have hwa:0<=p.1/\p.1<(w.2.2.2.2.2.2.2.2.2.2.2.2.2.2.2.2.2.2.2.2.2.2.1.length:Int)+(0:Nat):=hR.wa p hp;have hop:∀ p∈w.2.2.2.2.2.2.2.2.2.2.2.2.2.2.2.2.2.2.2.2.2.2.2.1,0<=p.1/\p.1<(w.2.2.2.2.2.2.2.2.2.2.2.2.2.2.2.2.2.2.2.2.2.2.1.length:Int)+(0:Nat):=hR.op;have hwb:∀ p∈w.2.2.2.2.2.2.2.2.2.2.2.2.2.2.2.2.2.2.2.2.2.2.2.2.1,0<=p.1/\p.1<(w.2.2.2.2.2.2.2.2.2.2.2.2.2.2.2.2.2.2.2.2.2.2.1.length:Int)+(0:Nat):=hR.wa;simp only at ht h0 h1;show Ans (kI n r _) _;unfold kI;refine Ans.br (λ_=>iW (okr (by decide))) (λ_=>?_);refine Ans.chk (show(inB p.1 w.2.2.2.2.2.2.2.2.2.2.2.2.2.2.2.2.2.2.2.2.2.2.1.length&&decide (0+w.2.2.2.2.2.2.2.2.2.2.2.2.2.2.2.2.2.2.2.2.2.2.1.length<=w.2.2.2.2.2.2.2.2.2.2.2.2.2.2.2.2.2.2.2.2.2.2.1.length))=true from Gl (dM hwa.1 (by omega)) (decide_eq_true (by omega))) (Ans.chk (show decide (0+p.1.toNat<w.2.2.2.2.2.2.2.2.2.2.2.2.2.2.2.2.2.2.2.2.2.2.1.length)=true from decide_eq_true (by omega)) ?_);have hvn:0+p.1.toNat<w.2.2.2.2.2.2.2.2.2.2.2.2.2.2.2.2.2.2.2.2.2.2.1.length:=by have h1:=hwa.1;have h2:=hwa.2;omega
 have hw:IntKind.wrap .i64 (i+1)=i+1:=bI (by omega) (by omega);refine hr _ ⟨⟨hR.s,hR.e,hR.lo,hR.hi,hR.pats,hR.pn,?_,?_,?_,hR.on,hR.wn,hR.tx,?_⟩,ht,?_,?_⟩ hw rfl
 ·simp only[bK,List.length_set];exact hR.cn
 ·intro u hu;have:=hop u hu;simp only[bK,List.length_set];exact this
 ·intro u hu;have:=hwb u hu;simp only[bK,List.length_set];exact this
 ·intro u hu;rcases List.mem_or_eq_of_mem_set hu with hu|rfl
  ·exact hR.ct u hu
  ·have hq:=hR.ct _ (Js hvn (Ty.dflt aC));exact hq
 ·show 0<=IntKind.wrap .i64 (i+1);omega
 ·show IntKind.wrap .i64 (i+1)<=t;omega
theorem xBn(h:RdK S c 0 (bK x))(hc:c<=5000)(hf:Fu S n):Ans (jn (oI n) x) (WhP S c):=by
 show Ans (oI n x) _;unfold oI;have hwn:x.2.2.2.2.2.2.2.2.2.2.2.2.2.2.2.2.2.2.2.2.2.2.2.2.1.length<=c+0:=h.wn;refine Ans.loop (WaI S c) (λX=>(X.1-X.2.1).toNat) ?_ n _ ⟨h,rfl,Int.le_refl _,by simp only;omega⟩ (by have:=hf.2.1;simp only;omega);rintro r ⟨t,i,w⟩ hX hr;obtain⟨hR,ht,h0,h1⟩:=hX;simp only at hR ht h0 h1 hr;have hwn2:w.2.2.2.2.2.2.2.2.2.2.2.2.2.2.2.2.2.2.2.2.2.2.2.2.1.length<=c+0:=hR.wn;have ht2:t=(w.2.2.2.2.2.2.2.2.2.2.2.2.2.2.2.2.2.2.2.2.2.2.2.2.1.length:Int):=ht;unfold Db;refine Ans.br (λhlt=>?_) (λ_=>okl hR);have hlt:i<t:=yP hlt;have hil:0+i.toNat<w.2.2.2.2.2.2.2.2.2.2.2.2.2.2.2.2.2.2.2.2.2.2.2.2.1.length:=by omega
 refine Ans.chk (show(inB i w.2.2.2.2.2.2.2.2.2.2.2.2.2.2.2.2.2.2.2.2.2.2.2.2.1.length&&decide (0+w.2.2.2.2.2.2.2.2.2.2.2.2.2.2.2.2.2.2.2.2.2.2.2.2.1.length<=w.2.2.2.2.2.2.2.2.2.2.2.2.2.2.2.2.2.2.2.2.2.2.2.2.1.length))=true from Gl (dM h0 (by omega)) (decide_eq_true (by omega))) (Ans.chk (show decide (0+i.toNat<w.2.2.2.2.2.2.2.2.2.2.2.2.2.2.2.2.2.2.2.2.2.2.2.2.1.length)=true from decide_eq_true hil) ?_);have nx:∀ Y,WaI S c Y->Y.2.1=i+1->Y.1=t->Ans (r Y) (WhP S c):=λY hY h2 h3=>hr Y hY (by rw[h2,h3];omega)
 exact Ans.br (λ_=>yPf _ _ ⟨hR,ht,h0,h1⟩ hlt (Js hil _) hc nx) (λ_=>yPf _ _ ⟨hR,ht,h0,h1⟩ hlt (Js hil _) hc nx)
theorem yLx(h:Rd S c k x)(hd:S[x.2.2.1.toNat]?=some 35)(hf:Fu S n):Ans (eB n ([],x)) λy=>∃ a,y.2=pW x a/\x.2.2.1<a/\a<=S.length:=by
 have hs:x.1=S:=h.s;have hlo:0<=x.2.2.1:=h.lo;obtain⟨f1,f2,f3⟩:=hf;unfold eB;refine Ans.ob (λy=>y=x) ?_ ?_
 ·unfold bL;simp only[hs];rw[yFe (n:=n) (by omega) f3 hlo hd,aN];exact Ans.some (by rw[<- hs])
 ·rintro _ rfl;simp only[hs];refine Ans.ob _ (yOm (n:=n) (s:=S) (by omega) f3 hlo hd) ?_;rintro⟨t,a⟩ ⟨k1,k2,k3⟩;exact Ans.some ⟨a,by unfold pW;rw[hs],k1,k2⟩
theorem yTv(h:RdK S (bK x).2.2.1.toNat 0 (bK x))(hf:Fu S n):Ans (mR n x) (WhP S 4000):=by
 unfold mR;refine Ans.ob (λ_=>True) ⟨(),rfl,trivial⟩ ?_;intro _ _;have hhi:x.2.2.1<=S.length:=h.hi;have hlo:0<=x.2.2.1:=h.lo;obtain⟨f1,f2,f3⟩:=hf;have hf:Fu S n:=⟨f1,f2,f3⟩;refine Ans.loop (λX:Sc0=>RdK S (bK X).2.2.1.toNat 0 (bK X)) (λX:Sc0=>((S.length:Int)-X.2.2.1).toNat) ?_ n _ h (by omega);intro r X hX hr;have hR:Rd S (bK X).2.2.1.toNat 0 X:=hX;have hlo:0<=X.2.2.1:=hX.lo;have hhi:X.2.2.1<=S.length:=hX.hi;have hs:X.1=S:=hX.s;have hc:(bK X).2.2.1.toNat<=4000:=by show X.2.2.1.toNat<=4000;omega
 have nx:∀ (Y:Sc0) (cc:Nat),RdK S cc 0 (bK Y)->cc<=X.2.2.1.toNat+1->X.2.2.1<Y.2.2.1->Ans (r Y) (WhP S 4000):=by
  intro Y cc k1 k2 k3;refine hr Y (k1.mono ?_) ?_
  ·show cc<=Y.2.2.1.toNat;omega
  ·have:Y.2.2.1<=S.length:=k1.hi;omega
 unfold Dc;refine Ans.br (λhlt=>?_) (λ_=>?_)
 ·have hlt:X.2.2.1<(X.1.length:Int):=yP hlt;rw[hs]at hlt;refine Ans.ob _ (Uz _ hR) ?_;rintro⟨b,w⟩ ⟨hw,_⟩;simp only at hw;have hw:=hw.symm;subst hw;refine Ans.br (λ_=>?_) (λ_=>?_)
  ·have hw:IntKind.wrap .i64 (X.2.2.1+1)=X.2.2.1+1:=bI (by omega) (by omega);refine nx _ (bK X).2.2.1.toNat (show RdK S _ 0 (kat (bK X) (IntKind.wrap .i64 (X.2.2.1+1)))from xQ hX (by rw[hw];show X.2.2.1<=_;omega) (by rw[hw];omega)) (Nat.le_succ _) (by show X.2.2.1<IntKind.wrap .i64 (X.2.2.1+1);omega)
  ·refine Ans.ob _ (Uz _ hR) ?_;rintro⟨b,w⟩ ⟨hw,g⟩;simp only at hw g;have hw:=hw.symm;subst hw;refine Ans.br (λhb=>?_) (λ_=>?_)
   ·obtain⟨_,d,hd,h35⟩:=g hb;have xFs:d=35:=by
     unfold Go.Lib.indexByte at h35;by_cases e:(35:UInt8)=d
     ·exact e.symm
     ·exfalso;revert h35;simp[Go.Lib.indexByte,e]
    subst xFs;refine Ans.ob _ (yLx hR hd hf) ?_;rintro⟨t,w⟩ ⟨a,hw,g1,g2⟩;simp only at hw;subst hw;exact nx _ (bK X).2.2.1.toNat (xQ hX (Int.le_of_lt g1) g2) (Nat.le_succ _) g1
   ·refine ok2 (yLw hR (by omega) hf) ?_ (λz=>⟨_,rfl⟩);rintro Y ⟨k1,k2⟩;exact nx Y _ k1.1 (aP _) k2
 ·have hon:X.2.2.2.2.2.2.2.2.2.2.2.2.2.2.2.2.2.2.2.2.2.2.2.1.length<=(bK X).2.2.1.toNat+0:=hX.on;have hw:IntKind.wrap .i64 ((X.2.2.2.2.2.2.2.2.2.2.2.2.2.2.2.2.2.2.2.2.2.2.2.1.length:Int)-1)=(X.2.2.2.2.2.2.2.2.2.2.2.2.2.2.2.2.2.2.2.2.2.2.2.1.length:Int)-1:=bI (by omega) (by omega);refine Ans.br (λhk=>?_) (λ_=>xBn (hX.mono hc) (by omega) hf);have hk:IntKind.wrap .i64 ((X.2.2.2.2.2.2.2.2.2.2.2.2.2.2.2.2.2.2.2.2.2.2.2.1.length:Int)-1)≥0:=yP hk;rw[hw]at hk;refine Ans.chk (show(inB (IntKind.wrap .i64 ((X.2.2.2.2.2.2.2.2.2.2.2.2.2.2.2.2.2.2.2.2.2.2.2.1.length:Int)-1)) X.2.2.2.2.2.2.2.2.2.2.2.2.2.2.2.2.2.2.2.2.2.2.2.1.length&&decide (0+X.2.2.2.2.2.2.2.2.2.2.2.2.2.2.2.2.2.2.2.2.2.2.2.1.length<=X.2.2.2.2.2.2.2.2.2.2.2.2.2.2.2.2.2.2.2.2.2.2.2.1.length))=true from Gl (by rw[hw];exact dM (by omega) (by omega)) (decide_eq_true (by omega))) (Ans.chk (show decide (0+(IntKind.wrap .i64 ((X.2.2.2.2.2.2.2.2.2.2.2.2.2.2.2.2.2.2.2.2.2.2.2.1.length:Int)-1)).toNat<X.2.2.2.2.2.2.2.2.2.2.2.2.2.2.2.2.2.2.2.2.2.2.2.1.length)=true by rw[hw];exact decide_eq_true (by omega)) (iW (okr (by decide))))
def zKv (x:Bool×List (List NdT×Bool×Unit)×List Sc1×Unit):Prop:=(∀ p ∈ x.2.1,zRw p.1) ∧ x.2.1.length<=999 ∧ x.2.2.1.length<=4000 ∧ ∀ c ∈ x.2.2.1,c.2.2.1.length<=4001
theorem yHg(b:Bool):zKv (b,[],[],()):=⟨λp hp=>(nomatch hp),Nat.zero_le _,Nat.zero_le _,λp hp=>(nomatch hp)⟩
theorem yTw{s:List UInt8}(h2:20000<=n):Ans (sK n (s,false)) λy=>zKv y.1:=by
 have tr:∀ T:Sc0,s.length<=4000->RdK s (bK T).2.2.1.toNat 0 (bK T)->Ans (ob (bV n T) λy=>br (y.1 != 0) (some ((false,([],([],()))),y.2.2.2.2.1,y.1)) (some ((y.2.2.2.2.2.1,(y.2.2.2.2.2.2.2.2.2.2.2.2.2.2.2.2.2.2.2.2.2.2.1,(y.2.2.2.2.2.2.2.2.2.2.2.2.2.2.2.2.2.2.2.2.2.2.2.1,()))),0,0))) λy:(Bool × List (List NdT × Bool × Unit) × List Sc1 × Unit) × Int × Int=>zKv y.1:=by
  intro T hs hT;obtain⟨r,hr,hP⟩:=yTv (x:=T) hT ⟨hs,h2,by omega⟩;unfold bV;rw[hr];cases r with
  |inr z =>
   obtain⟨e,z⟩:=z;have he:e≠0:=hP.2 _ rfl;show Ans (br (e != 0) _ _) _;refine Ans.br (λ_=>Ans.some (yHg _)) (λhz=>absurd (by simpa using hz) he)
  |inl y =>
   have:=hP.1 y rfl;exact Ans.some ⟨this.pats,this.pn,this.cn,this.ct⟩
 have k0:∀ a:Int,0<=a->a<=s.length->RdK s a.toNat 0 (s,false,a,[],[],[],[],[]):=λa h0 h1=>⟨rfl,rfl,h0,h1,λp hp=>(nomatch hp),Nat.zero_le _,Nat.zero_le _,λp hp=>(nomatch hp),λp hp=>(nomatch hp),Nat.zero_le _,Nat.zero_le _,Nat.zero_le _,λp hp=>(nomatch hp)⟩
 unfold sK;simp only;refine Ans.br (λ_=>Ans.some (yHg _)) (λhs=>?_);have hs:=zJf hs;refine Ans.br (λh=>tr _ (by omega) (k0 2 (by decide) ?_)) (λ_=>?_)
 ·have h:s=[35,110]:=by simpa using h
  rw[h];decide
 ·obtain⟨b,hb,hb2⟩:=zKs (n:=n) s [35,110,10];rw[hb,aN];refine Ans.br (λh=>tr _ (by omega) (k0 2 (by decide) ?_)) (λ_=>tr _ (by omega) (k0 0 (by decide) (by omega)));have:=hb2 h;simp only[List.length_cons,List.length_nil]at this;omega
end Go.Dec
namespace Go.Dec
variable {n:Nat}
theorem zWc:∀ {l:List (List UInt8)},l.Nodup->Wq l=true
 |[],_=>rfl
 |a::r,h=>by
  have h:=List.nodup_cons.1 h;unfold Wq;rw[zWc h.2];simpa using h.1
theorem yEb(a:List UInt8):∀ l,(zAa a l).length=l.length+1
 |[]=>rfl
 |b::r=>by
  unfold zAa;cases decide (a<=b)with
  |true=>rfl
  |false=>show(zAa a r).length+1=_;rw[yEb a r];rfl
theorem Zo:∀ l,(vY l).length=l.length
 |[]=>rfl
 |a::r=>by unfold vY;rw[yEb,Zo r];rfl
def vU (k:Nat) (m:List (List UInt8×Int)):Prop:=(m.map Prod.fst).Nodup ∧ m.length<=k ∧ ∀ e ∈ m,e.1.length<=4001
theorem vU.nil{k:Nat}:vU k []:=⟨List.nodup_nil,Nat.zero_le _,λ_ h=>(nomatch h)⟩
theorem vU.mono{k k2:Nat}{m:List (List UInt8 × Int)}(h:vU k m)(hk:k<=k2):vU k2 m:=⟨h.1,Nat.le_trans h.2.1 hk,h.2.2⟩
theorem zSa(q:List UInt8)(v:Int):∀ m:List (List UInt8 × Int),(∀ u,gH .str m q=some u->(m.set (mIdx .str m q) (q,v)).map Prod.fst=m.map Prod.fst)/\(gH .str m q=none->q∉m.map Prod.fst)
 |[]=>⟨λu hu=>(by cases hu),λ_=>by simp⟩
 |e::r=>by
  have ih:=zSa q v r;cases hb:Ty.beq .str q e.1 with
  |true=>exact⟨λu _=>by
   have he:q=e.1:=by
    have hb:(q==e.1)=true:=hb;exact eq_of_beq hb
   simp only[mIdx,hb,List.set_cons_zero,List.map_cons];rw[he],λhn=>by simp[gH,hb]at hn⟩
  |false =>
   refine⟨λu hu=>?_,λhn=>?_⟩
   ·simp only[gH,hb]at hu;simp only[mIdx,hb,List.set_cons_succ,List.map_cons,ih.1 u hu]
   ·simp only[gH,hb]at hn;rw[List.map_cons,List.mem_cons];rintro(h|h)
    ·have:=yCu (t:=.str) rfl q;rw[h]at hb;rw[<- h,this]at hb;cases hb
    ·exact ih.2 hn h
theorem vU.set{k:Nat}{m:List (List UInt8 × Int)}{q:List UInt8}(h:vU k m)(v:Int)(hq:q.length<=4001):vU (k+1) (wK .str m q v):=by
 have hk:=zSa q v m;unfold wK;cases hf:gH .str m q with
 |none =>
  refine⟨?_,?_,?_⟩
  ·show((m++[(q,v)]).map Prod.fst).Nodup;rw[List.map_append,List.nodup_append];refine⟨h.1,by simp,?_⟩;rintro a ha b hb rfl;have:a=q:=by simpa using hb
   exact hk.2 hf (this ▸ ha)
  ·show(m++[(q,v)]).length<=_;rw[List.length_append];have:=h.2.1;simpa using this
  ·intro e he;rcases List.mem_append.1 he with he|he
   ·exact h.2.2 e he
   ·obtain rfl:=List.mem_singleton.1 he;exact hq
 |some u =>
  refine⟨?_,?_,?_⟩
  ·show((m.set (mIdx .str m q) (q,v)).map Prod.fst).Nodup;rw[hk.1 u hf];exact h.1
  ·show(m.set (mIdx .str m q) (q,v)).length<=_;rw[List.length_set];exact Nat.le_succ_of_le h.2.1
  ·intro e he;rcases List.mem_or_eq_of_mem_set he with he|rfl
   ·exact h.2.2 e he
   ·exact hq
theorem zWd{k:Nat}{m:List (List UInt8 × Int)}(h:vU k m)(hk:k<=4000):kW n (m,())=some (vY (m.map Prod.fst),m,()):=by
 unfold kW;rw[show(Wq (m.map Prod.fst)&&(Nat.ble m.length 1000000&&m.all λe=>Nat.ble e.1.length 1000000))=true from Gl (zWc h.1) (Gl (Nat.ble_eq_true_of_le (by have:=h.2.1;omega)) (List.all_eq_true.2 λe he=>Nat.ble_eq_true_of_le (by have:=h.2.2 e he;omega)))];rfl
abbrev FiX:Type:=List Fi0 × Int × Int × List (List UInt8 × Int) × List (List UInt8 × Int) × Unit
def FiI (L:List Fi0) (X:FiX):Prop:=X.1 = L ∧ X.2.1 = (L.length:Int) ∧ 0<=X.2.2.1 ∧ X.2.2.1<=(L.length:Int) ∧ vU X.2.2.1.toNat X.2.2.2.1 ∧ vU X.2.2.1.toNat X.2.2.2.2.1
theorem yTx{x:Bool × List (List NdT × Bool × Unit) × List Sc1 × Unit}(h:zKv x)(hn:5000<=n):Ans (Lv n x) λy=>y.1.length<=4000/\y.2.length<=4000:=by
 obtain⟨_,_,h3,h4⟩:=h;unfold Lv;simp only;generalize x.2.2.1=L at h3 h4;refine Ans.loop (FiI L) (λX=>(X.2.1-X.2.2.1).toNat) ?_ n _ ⟨rfl,rfl,Int.le_refl _,by simp only;omega,vU.nil,vU.nil⟩ (by simp only;omega);rintro r ⟨l,t,i,m1,m2,⟨⟩⟩ ⟨e1,e2,hi0,hi1,k1,k2⟩ hr;simp only at e1 e2 hi0 hi1 k1 k2 hr;subst e1;unfold Qv;simp only;refine Ans.br (λhlt=>?_) (λ_=>?_)
 ·have hlt:=yP hlt;have hil:i.toNat<l.length:=by omega
  refine Ans.chk (dM hi0 (by omega)) ?_;have hc:(aV (Ty.dflt aC) l i).2.2.1.length<=4001:=h4 _ (Js hil _);generalize aV (Ty.dflt aC) l i=v at hc ⊢;have hw:IntKind.wrap .i64 (i+1)=i+1:=bI (by omega) (by omega);have hj:(i+1).toNat=i.toNat+1:=by omega
  have step:∀ a b,vU (i.toNat+1) a->vU (i.toNat+1) b->Ans (r (l,t,IntKind.wrap .i64 (i+1),a,b,())) _:=λa b ha hb =>
   hr _ ⟨rfl,e2,by rw[hw];simp only;omega,by rw[hw];simp only;omega,by rw[hw];simp only;rw[hj];exact ha,by rw[hw];simp only;rw[hj];exact hb⟩ (by rw[hw];simp only;omega)
  have w1:=k1.mono (Nat.le_succ _);have w2:=k2.mono (Nat.le_succ _);exact Ans.br (λ_=>step _ _ w1 w2) λ_=>Ans.br (λ_=>step _ _ (k1.set _ hc) w2) λ_=>Ans.br (λ_=>step _ _ w1 (k2.set _ hc)) λ_=>Ans.br (λ_=>step _ _ w1 (k2.set _ hc)) λ_=>step _ _ w1 w2
 ·have hk:i.toNat<=4000:=by omega
  have l1:=k1.2.1;have l2:=k2.2.1;unfold Bf;simp only[aN];rw[zWd k1 hk,aN,zWd k2 hk,aN];exact Ans.some ⟨by rw[Zo,List.length_map];omega,by rw[Zo,List.length_map];omega⟩
theorem yFi(zs:List (List UInt8)):(Go.Lib.compact zs).length<=zs.length:=by
 unfold Go.Lib.compact Go.Lib.compactUpTo;rw[List.length_map];exact Nat.le_trans (List.length_filter_le _ _) (by rw[List.length_range];exact aP _)
def yTy (x:Ws.den) (y:List (List UInt8)×List (List UInt8)):Prop:=y.1.length<=5000 ∧ y.2.length<=4000 ∧ (x.2.2.2.1 = true->y = ([],[]))
theorem yEc{x:Ws.den}(h:zKv x.1)(hf:x.2.2.1.length<=900)(hn:5000<=n):Ans (gK n x) (yTy x):=by
 unfold gK;refine Ans.br (λ_=>Ans.some ⟨Nat.zero_le _,Nat.zero_le _,λ_=>rfl⟩) λhb=>?_
 refine Ans.ob _ (yTx h hn) ?_;rintro⟨a,b⟩ ⟨h1,h2⟩;simp only at h1 h2;refine Ans.chk (Nat.ble_eq_true_of_le (by simp only;omega)) (Ans.some ⟨?_,h2,λe=>?_⟩)
 ·refine Nat.le_trans (yFi _) ?_;rw[Zo,List.length_append];simp only;omega
 ·rw[hb]at e;cases e
end Go.Dec
namespace Go.Dec
variable {n:Nat}
theorem zJr{α:Type}{d:α}{s:List α}{i:Int}(h:i.toNat<s.length):aV d s i=s[i.toNat]:=by
 simp[aV,List.getD_eq_getElem?_getD,h]
abbrev IxX:Type:=List (List UInt8) × List UInt8 × Int × Int × Unit
theorem yTz(s:List (List UInt8))(v:List UInt8)(hn:s.length<n)(hm:s.length<1000000):Ans (qR n (s,v)) λy=>decide (y≥0)=s.contains v:=by
 unfold qR;simp only;refine Ans.loop (λX:IxX=>X.1=s/\X.2.1=v/\X.2.2.1=(s.length:Int)/\0<=X.2.2.2.1/\X.2.2.2.1<=(s.length:Int)/\v∉s.take X.2.2.2.1.toNat) (λX=>(X.2.2.1-X.2.2.2.1).toNat) ?_ n _ ⟨rfl,rfl,rfl,Int.le_refl _,by simp only;omega,by simp⟩ (by simp only;omega);rintro r ⟨l,w,t,i,⟨⟩⟩ ⟨e1,e2,e3,h0,h1,hv⟩ hr;simp only at e1 e2 e3 h0 h1 hv hr;subst e1 e2 e3;unfold Df;simp only;refine Ans.br (λhlt=>?_) (λhge=>?_)
 ·have hlt:=yP hlt;have hil:i.toNat<l.length:=by omega
  refine Ans.chk (dM h0 (by omega)) ?_;rw[zJr hil];refine Ans.br (λhe=>Ans.some ?_) (λhne=>?_)
  ·have he:w=l[i.toNat]:=eq_of_beq he;rw[decide_eq_true (by omega),he];simp
  ·have hw:IntKind.wrap .i64 (i+1)=i+1:=bI (by omega) (by omega);have hj:(i+1).toNat=i.toNat+1:=by omega
   refine hr _ ⟨rfl,rfl,rfl,by rw[hw];simp only;omega,by rw[hw];simp only;omega,?_⟩ (by rw[hw];simp only;omega);rw[hw];simp only;rw[hj,List.take_succ_eq_append_getElem hil,List.mem_append];rintro(h|h)
   ·exact hv h
   ·have h:=List.mem_singleton.1 h;rw[h]at hne;simp at hne
 ·have hge:=zJf hge;refine Ans.some ?_;rw[List.take_of_length_le (by omega)]at hv;rw[show l.contains w=false by simpa using hv];rfl
def comm (a b:List (List UInt8)):Bool:=a.any b.contains
theorem zOo{a b:List (List UInt8)}:comm a b=true<->∃ x,x∈a/\x∈b:=by simp[comm]
theorem Px(a b:List (List UInt8)):comm a b=comm b a:=by
 apply Bool.eq_iff_iff.2;rw[zOo,zOo];exact⟨λ⟨x,h⟩=>⟨x,h.2,h.1⟩,λ⟨x,h⟩=>⟨x,h.2,h.1⟩⟩
theorem zOp(a b c:List (List UInt8)):comm (a++b) c=(comm a c||comm b c):=by simp[comm]
theorem xDa(v:List UInt8)(b:List (List UInt8))(hn:b.length<n)(hm:b.length<1000000):pF n (v,b,())=some (b.contains v,b,()):=by
 obtain⟨y,hy,h⟩:=yTz b v hn hm;unfold pF rT;simp only;rw[hy,aN,aN,h]
abbrev CmX:Type:=List (List UInt8) × Int × Int × List (List UInt8) × Unit
theorem zWe(a b:List (List UInt8))(ha:a.length<n)(hb:b.length<n)(hm:b.length<1000000)(hm2:a.length<1000000):nV n (a,b)=some (comm a b):=by
 have key:Ans (dR n (a,b,())) λy=>decide (y.1≥0)=comm a b:=by
  unfold dR;simp only;refine Ans.loop (λX:CmX=>X.1=a/\X.2.1=(a.length:Int)/\0<=X.2.2.1/\X.2.2.1<=(a.length:Int)/\X.2.2.2.1=b/\comm (a.take X.2.2.1.toNat) b=false) (λX=>(X.2.1-X.2.2.1).toNat) ?_ n _ ⟨rfl,rfl,Int.le_refl _,by simp only;omega,rfl,by simp[comm]⟩ (by simp only;omega);rintro r ⟨l,t,i,c,⟨⟩⟩ ⟨e1,e2,h0,h1,e3,hv⟩ hr;simp only at e1 e2 e3 h0 h1 hv hr;subst e1 e2 e3;unfold kE;simp only;refine Ans.br (λhlt=>?_) (λhge=>?_)
  ·have hlt:=yP hlt;have hil:i.toNat<l.length:=by omega
   refine Ans.chk (dM h0 (by omega)) ?_;rw[zJr hil,xDa _ _ hb hm,aN];simp only;refine Ans.br (λhe=>Ans.some ?_) (λhne=>?_)
   ·rw[decide_eq_true (by simp only;omega)];exact(zOo.2 ⟨l[i.toNat],List.getElem_mem hil,by simpa using he⟩).symm
   ·have hw:IntKind.wrap .i64 (i+1)=i+1:=bI (by omega) (by omega);have hj:(i+1).toNat=i.toNat+1:=by omega
    refine hr _ ⟨rfl,rfl,by rw[hw];simp only;omega,by rw[hw];simp only;omega,rfl,?_⟩ (by rw[hw];simp only;omega);rw[hw];simp only;rw[hj,List.take_succ_eq_append_getElem hil,zOp,hv];simpa [comm]using hne
  ·have hge:=zJf hge;refine Ans.some ?_;rw[List.take_of_length_le (by omega)]at hv;rw[hv];rfl
 obtain⟨y,hy,h⟩:=key;unfold nV eX;simp only;rw[hy,aN,aN,h]
def Va (p q:List (List UInt8)×List (List UInt8)):Bool:=comm (p.1++p.2) q.2||comm p.2 q.1
theorem zWf(p q:List (List UInt8) × List (List UInt8)):Va p q=Va q p:=by
 unfold Va;rw[zOp,zOp,Px p.1,Px p.2 q.2,Px p.2 q.1];cases comm q.2 p.1<;>cases comm q.2 p.2<;>cases comm q.1 p.2<;>rfl
theorem yEd{x y:Ws.den}{p q:List (List UInt8) × List (List UInt8)}(hx:gK n x=some p)(hy:gK n y=some q)(hp:yTy x p)(hq:yTy y q)(hn:20000<=n):rU n (x,y)=some (Va p q):=by
 obtain⟨p1,p2,_⟩:=hp;obtain⟨q1,q2,_⟩:=hq;unfold rU kD;simp only;rw[hx,aN,hy,aN,show Nat.ble (p.1.length+p.2.length) 1000000=true from Nat.ble_eq_true_of_le (by omega),Dl,aN,zWe _ _ (by rw[List.length_append];omega) (by omega) (by omega) (by rw[List.length_append];omega),aN,zWe _ _ (by omega) (by omega) (by omega) (by omega),aN];unfold Va;cases comm (p.1++p.2) q.2<;>rfl
def zSb (t:pm2) (s:pm0):Prop:=zKv s.1 ∧ s.2 = (false,t.2.1,t.2.2) ∧ t.2.1.length<=5
theorem row_step{Q:List pm0 × Bool->Prop}{l:List pm2}{i:Int}{row:List pm0}{g:List pm2 × Int × List pm0 × Unit->Option (List pm0 × Bool)}(hn:20000<=n)(h0:0<=i)(hi:i<(l.length:Int))(hl:l.length<=1000000)(hr:row.length<=1000000)(hQ:Q ([],false))(hg:∀ s,zSb l[i.toNat]! s->Ans (g (l,i+1,row++[s],())) Q):Ans (Lx n g (l,i,row,())) Q:=by
 have hil:i.toNat<l.length:=by omega
 have hi2:inB i l.length=true:=dM h0 (by omega);have hat:aV (Ty.dflt rD) l i=l[i.toNat]! := by rw[zJr hil];simp[hil]
 unfold Lx;simp only;rw[hat];generalize hT:l[i.toNat]! = T at hat hg;refine Ans.br (λ_=>Ans.chk hi2 (Ans.br (λ_=>Ans.some hQ) λ_=>Ans.chk hi2 (Ans.br (λ_=>Ans.some hQ) λh5=>?_))) (λh=>absurd (decide_eq_true hi) (by rw[h];exact Bool.false_ne_true));have h5:T.2.1.length<=5:=by have:=zJf h5;omega
 refine Ans.loop (λX:List pm2 × Int × Int × List pm0 × Unit=>X.1=l/\X.2.1=i/\0<=X.2.2.1/\X.2.2.1<=5/\X.2.2.2.1=row) (λX=>(5-X.2.2.1).toNat) ?_ n _ ⟨rfl,rfl,Int.le_refl _,by simp only;omega,rfl⟩ (by simp only;omega);rintro r ⟨l2,i2,k,Lh,⟨⟩⟩ ⟨e1,e2,k0,k1,e3⟩ hr2;simp only at e1 e2 k0 k1 e3 hr2;subst e1 e2 e3;unfold Ze;simp only;rw[hat];refine Ans.chk hi2 (Ans.br (λhk=>?_) λ_=>?_)
 ·have hk:=yP hk;have hw:IntKind.wrap .i64 (k+1)=k+1:=bI (by omega) (by omega);refine Ans.chk hi2 (Ans.chk (dM k0 (by omega)) (Ans.br (λ_=>Ans.some hQ) λ_=>?_));exact hr2 _ ⟨rfl,rfl,by rw[hw];simp only;omega,by rw[hw];simp only;omega,rfl⟩ (by rw[hw];simp only;omega)
 ·refine Ans.chk hi2 (Ans.ob _ (yTw hn) λy hy=>?_);have hw:IntKind.wrap .i64 (i2+1)=i2+1:=bI (by omega) (by omega);refine Ans.chk hi2 (Ans.chk hi2 (Ans.chk (Nat.ble_eq_true_of_le (by simp only[List.length_singleton,room];omega)) ?_));rw[hw];exact hg _ ⟨hy,rfl,h5⟩
theorem yXo(a b:pm2)(hn:20000<=n):Ans (Qw n [a,b]) λy=>y.2=true->∃ s t,y.1=[s,t]/\zSb a s/\zSb b t:=by
 obtain⟨m,rfl⟩:∃ m,n=m+3:=⟨n-3,by omega⟩;have hQ:(([],false):List pm0 × Bool).2=true->∃ s t,(([],false):List pm0 × Bool).1=[s,t]/\zSb a s/\zSb b t:=λh=>by cases h
 unfold Qw;rw[En];refine row_step hn (Int.le_refl _) (by simp) (by simp) (by simp) hQ λs hs=>?_
 rw[En];refine row_step hn (by simp) (by simp) (by simp) (by simp) hQ λt ht=>?_
 rw[En];exact Ans.some λ_=>⟨s,t,rfl,hs,ht⟩
theorem yUa:Bv 20000 ()=some true:=by kernel_rfl
theorem zYn(x:pm2 × pm2):Mc 20000 x=some true:=by
 obtain⟨a,b⟩:=x;obtain⟨⟨row,ok⟩,hy,h⟩:=yXo a b (aP 20000);unfold Mc;simp only at h ⊢;rw[hy,aN,yUa,aN,aN];cases ok with
 |false=>rfl
 |true =>
  obtain⟨s,t,rfl,⟨s1,s2,s3⟩,⟨t1,t2,t3⟩⟩:=h rfl;have sf:s.2.2.1.length<=900:=by rw[s2];simp only;omega
  have tf:t.2.2.1.length<=900:=by rw[t2];simp only;omega
  obtain⟨p,hp,p1⟩:=yEc (n:=20000) (x:=s) s1 sf (by omega);obtain⟨q,hq,q1⟩:=yEc (n:=20000) (x:=t) t1 tf (by omega);rw[show(!true)=false from rfl,bO,bO];show chk _ (chk _ (ob (rU 20000 (s,t)) λy7=>chk _ (ob (gK 20000 s) λy9=>chk _ (ob (gK 20000 t) λy11=>chk _ (chk _ (ob (rU 20000 (t,s)) λy14=>br (y7==y14) (br (!y7) (br (!y7) (some true) (br (!a.2.2.1) (some (!b.2.2.1)) (some false))) (br (decide (IntKind.wrap .i64 ((y9.2.length:Int)+(y11.2.length:Int))>0)) (br (!y7) (some true) (br (!a.2.2.1) (some (!b.2.2.1)) (some false))) (some false))) (some false)))))))=_;rw[yEd hp hq p1 q1 (aP _),yEd hq hp q1 p1 (aP _),hp,hq,zWf q p];have c0:inB 0 [s,t].length=true:=rfl;have c1:inB 1 [s,t].length=true:=rfl;simp only[aN,c0,c1,Dl];rw[show(Va p q==Va p q)=true by simp,dO];cases hm:Va p q with
  |false=>rfl
  |true =>
   have hw:IntKind.wrap .i64 ((p.2.length:Int)+(q.2.length:Int))=(p.2.length:Int)+(q.2.length:Int):=bI (by omega) (by have:=p1.2.1;have:=q1.2.1;omega);have hpos:0<p.2.length+q.2.length:=by
    refine Nat.pos_of_ne_zero λh=>?_
    have e1:p.2=[]:=List.eq_nil_of_length_eq_zero (by omega);have e2:q.2=[]:=List.eq_nil_of_length_eq_zero (by omega);unfold Va at hm;rw[e1,e2,Px _ [],Px _ q.1]at hm;rw[Px q.1]at hm;cases hm
   have ha:a.2.2.1=false:=by
    cases hb:a.2.2.1 with
    |false=>rfl
    |true =>
     have:=p1.2.2 (by rw[s2];exact hb);rw[this]at hm;cases hm
   have hb:b.2.2.1=false:=by
    cases hb:b.2.2.1 with
    |false=>rfl
    |true =>
     have:=q1.2.2 (by rw[t2];exact hb);rw[zWf,this]at hm;cases hm
   rw[hw,decide_eq_true (by omega),ha,hb];rfl
end Go.Dec
namespace Go.Dec
theorem yHh{P:Program}(h:P.funcs.any Func.goes=false)(f:FuncId):P.goes f=false:=by
 have hg:∀ g:Nat,(P.funcs[g]?).any Func.goes=false:=by
  intro g;cases hx:P.funcs[g]? with
  |none=>rfl
  |some fn =>
   rw[Array.any_eq_false]at h;obtain⟨hl,he⟩:=Array.getElem?_eq_some_iff.1 hx;have:=h g hl;rw[he]at this;simpa using this
 unfold Program.goes;rw[h,Bool.and_false,Bool.or_false];simp[hg]
theorem yLy{P:Program}(h:P.funcs.any Func.goes=false)(c:OpenClaim):false=c.goesBy P:=by
 unfold OpenClaim.goesBy Program.goesAt Program.goesFrom;have h1:∀ o:Option FuncId,o.any P.goes=false:=λo=>by cases o<;>simp[yHh h]
 rw[h1];cases c.start<;>simp[yHh h]
end Go.Dec
