/- Part of a proof over this seat: a library of my own, and what it says of this seat. No statement is proved here. -/
import Derived.Test.YthhbdkdofhhoeaaGreatDoorPartBP
namespace Go.Dec
def yV:Pt->Pt->Prop
 |.empty,.empty=>True
 |.bol,.bol=>True
 |.eol,.eol=>True
 |.bytes p,.bytes q=>bG p=bG q
 |.cat a b,.cat c d=>yV a c/\yV b d
 |.alt a b,.alt c d=>yV a c/\yV b d
 |.times a lo hi,.times c lo' hi'=>yV a c/\lo=lo'/\hi=hi'
 |.group a _,.group c _=>yV a c
 |.ref m,.ref m'=>m=m'
 |_,_=>False
theorem zPq{c:UInt8}:∀ {a b x y:List UInt8},c∉a->c∉b->a++c::x=b++c::y->a=b/\x=y
 |[],[],x,y,_,_,h=>by simpa using h
 |[],d::b,x,y,_,hb,h=>by simp at h;exact absurd h.1 (λe=>hb (by simp[e]))
 |d::a,[],x,y,ha,_,h=>by simp at h;exact absurd h.1.symm (λe=>ha (by simp[e]))
 |d::a,e::b,x,y,ha,hb,h=>by
  simp only[List.cons_append,aQ]at h;obtain⟨h1,h2⟩:=zPq (λhm=>ha (by simp[hm])) (λhm=>hb (by simp[hm])) h.2;exact⟨by rw[h.1,h1],h2⟩
theorem zZd:((List.range 16).all λi=>!(hexDigit i==93)&&(List.range 16).all λj=>!(hexDigit i==hexDigit j)||i==j)=true:=by decide +kernel
theorem yCk{i:Nat}(h:i<16):hexDigit i≠93:=by
 have:=sZ zZd h;simp only[aH]at this;simpa using this.1
theorem zZe{i j:Nat}(h:i<16)(h2:j<16)(e:hexDigit i=hexDigit j):i=j:=by
 have:=sZ zZd h;simp only[aH]at this;have:=sZ this.2 h2;rw[e]at this;simpa using this
theorem Rv(c:UInt8)(l:List UInt8):yU (c::l)=hexDigit (c.toNat / 16)::hexDigit (c.toNat % 16)::yU l:=rfl
theorem zZf:∀ {a b x y:List UInt8},yU a++93::x=yU b++93::y->a=b/\x=y
 |[],[],x,y,h=>by simpa [yU]using h
 |[],d::b,x,y,h=>by
  rw[Rv]at h;simp only[yU,List.flatMap_nil,List.nil_append,List.cons_append,aQ]at h;exact absurd h.1.symm (yCk (by have:=d.toNat_lt;omega))
 |d::a,[],x,y,h=>by
  rw[Rv]at h;simp only[yU,List.flatMap_nil,List.nil_append,List.cons_append,aQ]at h;exact absurd h.1 (yCk (by have:=d.toNat_lt;omega))
 |d::a,e::b,x,y,h=>by
  rw[Rv,Rv]at h;simp only[List.cons_append,aQ]at h;have hd:=d.toNat_lt;have he:=e.toNat_lt;have h1:=zZe (by omega) (by omega) h.1;have h2:=zZe (by omega) (by omega) h.2.1;obtain⟨h3,h4⟩:=zZf h.2.2;exact⟨by rw[h3,show d=e from by rw[<- UInt8.toNat_inj];omega],h4⟩
theorem zMv{u:Nat}(h:u<10):isDigit (UInt8.ofNat (48+u))=true/\(UInt8.ofNat (48+u)).toNat=48+u:=by
 have:(UInt8.ofNat (48+u)).toNat=48+u:=by rw[UInt8.toNat_ofNat'];omega
 refine⟨?_,this⟩;unfold isDigit;rw[this];simp;omega
theorem zZg:∀ (k u:Nat),(Cg k u).all isDigit=true
 |0,_=>rfl
 |k+1,u=>by
  unfold Cg;split
  ·rename_i h;simp only[List.all_cons,List.all_nil,(zMv h).1];rfl
  ·have:=zZg k (u / 10);simp only[List.all_append,this,Bool.true_and,List.all_cons,List.all_nil,Bool.and_true];exact(zMv (Nat.mod_lt _ (by omega))).1
theorem zZh:∀ (k u:Nat),u<10 ^ k->1<=k->dZ (Cg k u)=u
 |0,_,_,h=>by omega
 |k+1,u,h,_=>by
  unfold Cg;split
  ·rename_i h10;have:=(zMv h10).2;simp only[dZ,List.foldl_cons,List.foldl_nil];omega
  ·rename_i h10;have hk:1<=k:=by
    rcases Nat.eq_zero_or_pos k with h0|h0
    ·subst h0;omega
    ·exact h0
   rw[Nat.pow_succ]at h;have hm:=(zMv (show u % 10<10 by omega)).2;rw[zCr,zZh k (u / 10) (by omega) hk,hm];omega
theorem Qi{k:Nat}(h:k<1000000):dZ (bM (k:Int))=k/\(bM (k:Int)).all isDigit=true:=by
 have hk:k<10 ^ 20:=Nat.lt_of_lt_of_le (show k<10 ^ 6 by omega) (Nat.pow_le_pow_right (by omega) (by omega));unfold bM;rw[if_neg (by omega),Int.toNat_natCast];exact⟨zZh 20 k hk (by omega),zZg 20 k⟩
theorem zPr:bM (-1)=[45,49]:=by decide +kernel
theorem zEl{x:Int}(h1:-1<=x)(h2:x<1000000):(44:UInt8)∉bM x/\(59:UInt8)∉bM x:=by
 by_cases h:x=-1
 ·rw[h,zPr];decide
 ·obtain⟨k,rfl⟩:∃ k:Nat,x=(k:Int):=⟨x.toNat,by omega⟩;have:=(Qi (k:=k) (by omega)).2;rw[List.all_eq_true]at this;exact⟨λhm=>absurd (this _ hm) (by decide),λhm=>absurd (this _ hm) (by decide)⟩
theorem zZi{x y:Int}(h1:-1<=x)(h2:x<1000000)(h3:-1<=y)(h4:y<1000000)(e:bM x=bM y):x=y:=by
 by_cases hx:x=-1
 ·by_cases hy:y=-1
  ·omega
  ·obtain⟨k,rfl⟩:∃ k:Nat,y=(k:Int):=⟨y.toNat,by omega⟩;have:=(Qi (k:=k) (by omega)).2;rw[<- e,hx,zPr]at this;exact absurd this (by decide)
 ·by_cases hy:y=-1
  ·obtain⟨k,rfl⟩:∃ k:Nat,x=(k:Int):=⟨x.toNat,by omega⟩;have:=(Qi (k:=k) (by omega)).2;rw[e,hy,zPr]at this;exact absurd this (by decide)
  ·obtain⟨k,rfl⟩:∃ k:Nat,x=(k:Int):=⟨x.toNat,by omega⟩;obtain⟨j,rfl⟩:∃ k:Nat,y=(k:Int):=⟨y.toNat,by omega⟩;have a:=(Qi (k:=k) (by omega)).1;have b:=(Qi (k:=j) (by omega)).1;rw[e,b]at a;omega
theorem zZj{m:Nat}(h:m<10):bM (m:Int)=[UInt8.ofNat (48+m)]:=by
 unfold bM;rw[if_neg (by omega),Int.toNat_natCast];unfold Cg;rw[if_pos h]
theorem yOm:∀ (t u:Pt) (x y:List UInt8),bY t=true->bY u=true->dP t++x=dP u++y->yV t u/\x=y:=by
 intro t;induction t with
 |empty=>intro u x y _ _ h;cases u<;>simp[dP]at h;exact⟨trivial,h⟩
 |bol=>intro u x y _ _ h;cases u<;>simp[dP]at h;exact⟨trivial,h⟩
 |eol=>intro u x y _ _ h;cases u<;>simp[dP]at h;exact⟨trivial,h⟩
 |bytes p =>
  intro u x y _ _ h;cases u<;>simp[dP]at h
  exact zZf h
 |ref m =>
  intro u x y ht hu h;cases u<;>simp[dP]at h
  rename_i m';simp only[bY,aH,decide_eq_true_eq]at ht hu;rw[zZj (by omega),zZj (by omega)]at h;simp only[List.cons_append,List.nil_append,aQ]at h;have:=congrArg UInt8.toNat h.1;rw[UInt8.toNat_ofNat',UInt8.toNat_ofNat']at this;exact⟨show m=m' by omega,h.2⟩
 |cat a b iha ihb =>
  intro u x y ht hu h;cases u<;>simp[dP]at h
  simp only[bY,aH]at ht hu;obtain⟨h1,h2⟩:=iha _ _ _ ht.1 hu.1 h;obtain⟨h3,h4⟩:=ihb _ _ _ ht.2 hu.2 h2;exact⟨⟨h1,h3⟩,h4⟩
 |alt a b iha ihb =>
  intro u x y ht hu h;cases u<;>simp[dP]at h
  simp only[bY,aH]at ht hu;obtain⟨h1,h2⟩:=iha _ _ _ ht.1 hu.1 h;obtain⟨h3,h4⟩:=ihb _ _ _ ht.2 hu.2 h2;exact⟨⟨h1,h3⟩,h4⟩
 |times a lo hi iha =>
  intro u x y ht hu h;cases u<;>simp[dP]at h
  rename_i c lo' hi';simp only[bY,iA,aH,Bool.or_eq_true,decide_eq_true_eq]at ht hu;have n1:=zEl (x:=lo) (by omega) (by omega);have n2:=zEl (x:=lo') (by omega) (by omega);have n3:=zEl (x:=hi) (by omega) (by omega);have n4:=zEl (x:=hi') (by omega) (by omega);obtain⟨h1,h2⟩:=zPq n1.1 n2.1 h;obtain⟨h3,h4⟩:=zPq n3.2 n4.2 h2;obtain⟨h5,h6⟩:=iha _ _ _ ht.1 hu.1 h4;exact⟨⟨h5,zZi (by omega) (by omega) (by omega) (by omega) h1,zZi (by omega) (by omega) (by omega) (by omega) h3⟩,h6⟩
 |group a m iha =>
  intro u x y ht hu h;cases u<;>simp[dP]at h
  simp only[bY,aH]at ht hu;obtain⟨h1,h2⟩:=iha _ _ _ ht.1 hu.1 h;simp only[aQ,true_and]at h2;exact⟨h1,h2⟩
theorem Dt{t:Pt}{g:Nat}{i:Bool}{e:List Bool}{r:Bool}(h:(aP t (g,i,e,r)).2.1=true):i=true/\(aP t (g,true,e,r)).2.1=true:=by
 have:=oV t g true i e r;rw[Bool.true_and]at this;rw[this]at h;simp only[aH]at h;exact⟨h.2,h.1⟩
theorem yOn{p q:Nat->Bool}(h:bG p=bG q):wd p=wd q:=yQ λi hi=>by
 have h1:=Yb (p:=p) hi;have h2:=Yb (p:=q) hi;rw[h]at h1;rw[Bool.eq_iff_iff,h1,h2]
theorem yWa:∀ (t u:Pt) (o g:Nat) (e e':List Bool) (r r':Bool),yV t u->(aP t (g,true,e,r)).2.1=true->(aP u (g,true,e',r')).2.1=true->t.enc o=u.enc o/\(aP t (g,true,e,r)).1=(aP u (g,true,e',r')).1:=by
 intro t;induction t with
 |empty=>intro u o g e e' r r' h _ _;cases u<;>simp only[yV]at h;exact⟨rfl,rfl⟩
 |bol=>intro u o g e e' r r' h _ _;cases u<;>simp only[yV]at h;exact⟨rfl,rfl⟩
 |eol=>intro u o g e e' r r' h _ _;cases u<;>simp only[yV]at h;exact⟨rfl,rfl⟩
 |bytes p=>intro u o g e e' r r' h _ _;cases u<;>simp only[yV]at h;exact⟨by simp only[Pt.enc,yOn h],rfl⟩
 |ref m=>intro u o g e e' r r' h _ _;cases u<;>simp only[yV]at h;subst h;exact⟨rfl,rfl⟩
 |cat a b iha ihb =>
  intro u o g e e' r r' h h1 h2;cases u<;>simp only[yV]at h
  rename_i c d;simp only[aP]at h1 h2 ⊢;have m1:=Dt (t:=b) (g:=(aP a (g,true,e,r)).1) (i:=(aP a (g,true,e,r)).2.1) (e:=(aP a (g,true,e,r)).2.2.1) (r:=(aP a (g,true,e,r)).2.2.2) h1;have m2:=Dt (t:=d) (g:=(aP c (g,true,e',r')).1) (i:=(aP c (g,true,e',r')).2.1) (e:=(aP c (g,true,e',r')).2.2.1) (r:=(aP c (g,true,e',r')).2.2.2) h2;obtain⟨k1,k2⟩:=iha c o g e e' r r' h.1 m1.1 m2.1;have hs:a.sz=c.sz:=by have:=congrArg List.length k1;rwa [Pt.bX,Pt.bX]at this
  have m1':=m1.2;rw[k2]at m1';obtain⟨k3,k4⟩:=ihb d (o+a.sz) _ _ (aP c (g,true,e',r')).2.2.1 _ (aP c (g,true,e',r')).2.2.2 h.2 m1' m2.2;have hs2:b.sz=d.sz:=by have:=congrArg List.length k3;rwa [Pt.bX,Pt.bX]at this
  have e1:aP a (g,true,e,r)=((aP c (g,true,e',r')).1,true,(aP a (g,true,e,r)).2.2.1,(aP a (g,true,e,r)).2.2.2):=Prod.ext k2 (Prod.ext m1.1 (Prod.ext rfl rfl));have e2:aP c (g,true,e',r')=((aP c (g,true,e',r')).1,true,(aP c (g,true,e',r')).2.2.1,(aP c (g,true,e',r')).2.2.2):=Prod.ext rfl (Prod.ext m2.1 (Prod.ext rfl rfl));refine⟨?_,?_⟩
  ·simp only[Pt.enc,Pt.top,k1,hs,hs2];rw[hs]at k3;rw[k3]
  ·rw[e1,k4,<- e2]
 |alt a b iha ihb =>
  intro u o g e e' r r' h h1 h2;cases u<;>simp only[yV]at h
  rename_i c d;simp only[aP]at h1 h2 ⊢;have m1:=Dt (t:=b) (g:=(aP a (g,true,e,r)).1) (i:=(aP a (g,true,e,r)).2.1) (e:=(aP a (g,true,e,r)).2.2.1) (r:=(aP a (g,true,e,r)).2.2.2) h1;have m2:=Dt (t:=d) (g:=(aP c (g,true,e',r')).1) (i:=(aP c (g,true,e',r')).2.1) (e:=(aP c (g,true,e',r')).2.2.1) (r:=(aP c (g,true,e',r')).2.2.2) h2;obtain⟨k1,k2⟩:=iha c o g e e' r r' h.1 m1.1 m2.1;have hs:a.sz=c.sz:=by have:=congrArg List.length k1;rwa [Pt.bX,Pt.bX]at this
  have m1':=m1.2;rw[k2]at m1';obtain⟨k3,k4⟩:=ihb d (o+a.sz) _ _ (aP c (g,true,e',r')).2.2.1 _ (aP c (g,true,e',r')).2.2.2 h.2 m1' m2.2;have hs2:b.sz=d.sz:=by have:=congrArg List.length k3;rwa [Pt.bX,Pt.bX]at this
  have e1:aP a (g,true,e,r)=((aP c (g,true,e',r')).1,true,(aP a (g,true,e,r)).2.2.1,(aP a (g,true,e,r)).2.2.2):=Prod.ext k2 (Prod.ext m1.1 (Prod.ext rfl rfl));have e2:aP c (g,true,e',r')=((aP c (g,true,e',r')).1,true,(aP c (g,true,e',r')).2.2.1,(aP c (g,true,e',r')).2.2.2):=Prod.ext rfl (Prod.ext m2.1 (Prod.ext rfl rfl));refine⟨?_,?_⟩
  ·simp only[Pt.enc,Pt.top,k1,hs,hs2];rw[hs]at k3;rw[k3]
  ·rw[e1,k4,<- e2]
 |times a lo hi iha =>
  intro u o g e e' r r' h h1 h2;cases u<;>simp only[yV]at h
  rename_i c lo' hi';obtain⟨h,rfl,rfl⟩:=h;simp only[aP]at h1 h2 ⊢;obtain⟨k1,k2⟩:=iha c o g e e' r r' h h1 h2;have hs:a.sz=c.sz:=by have:=congrArg List.length k1;rwa [Pt.bX,Pt.bX]at this
  exact⟨by simp only[Pt.enc,Pt.top,k1,hs],k2⟩
 |group a m iha =>
  intro u o g e e' r r' h h1 h2;cases u<;>simp only[yV]at h
  rename_i c m';simp only[aP,Bool.true_and]at h1 h2 ⊢;have m1:=Dt h1;have m2:=Dt h2;have e1:=of_decide_eq_true m1.1;have e2:=of_decide_eq_true m2.1;subst e1;subst e2;obtain⟨k1,k2⟩:=iha c o (g+1) e e' r r' h m1.2 m2.2;have hs:a.sz=c.sz:=by have:=congrArg List.length k1;rwa [Pt.bX,Pt.bX]at this
  refine⟨by simp only[Pt.enc,Pt.top,k1,hs],?_⟩;simp only[decide_true];exact k2
theorem zZk{t u:Pt}(ht:tF t)(hu:tF u):dP t=dP u<->t.enc 0=u.enc 0:=by
 constructor
 ·intro h;obtain⟨h1,_⟩:=yOm t u [] [] ht.2.1.1 hu.2.1.1 (by rw[h]);exact(yWa t u 0 0 Ii Ii false false h1 ht.2.2 hu.2.2).1
 ·intro h;have a:=Ng (n:=1000) (by omega) ht;have b:=Ng (n:=1000) (by omega) hu;rw[h,b]at a;exact(Option.some.inj a).symm
theorem yRw{n:Nat}{a b:List Nd}(hl:a.length<n)(hl2:a.length<1000000):(a=b/\sN n (a,b)=some true)\/(a≠b/\sN n (a,b)=some false):=by
 by_cases hab:a=b
 ·subst hab;exact Or.inl ⟨rfl,yJl hl hl2⟩
 ·refine Or.inr ⟨hab,?_⟩;unfold sN;simp only;by_cases hle:a.length=b.length
  ·rw[aC (by simp[hle])];have hex:∃ j,j<a.length/\a.getD j (Ty.dflt aD)≠b.getD j (Ty.dflt aD):=by
    apply Classical.byContradiction;intro hno;apply hab;apply List.ext_getElem hle;intro i h1 h2;apply Classical.byContradiction;intro hd;apply hno;refine⟨i,h1,?_⟩;rw[List.getD_eq_getElem?_getD,List.getD_eq_getElem?_getD,List.getElem?_eq_getElem h1,List.getElem?_eq_getElem h2];exact hd
   have key:∀ k i m,(∃ j,i<=j/\j<=i+k/\j<a.length/\a.getD j (Ty.dflt aD)≠b.getD j (Ty.dflt aD))->k<m->fix (nG n) m (a,b,(i:Int),())=some false:=by
    intro k;induction k with
    |zero =>
     intro i m ⟨j,h1,h2,h3,h4⟩ hm;have:j=i:=by omega
     subst this;rw[bI hm,nG];simp only;rw[aI (by simp;omega),aB (fQ h3),aB (fQ (by omega))];unfold aR;rw[Int.toNat_natCast,yGe h4];rfl
    |succ k ih =>
     intro i m ⟨j,h1,h2,h3,h4⟩ hm;rw[bI (by omega),nG];simp only;rw[aI (by simp;omega),aB (fQ (by omega)),aB (fQ (by omega)),aW (by omega) (by omega)];by_cases hij:aR (Ty.dflt aD) a (i:Int)=aR (Ty.dflt aD) b (i:Int)
     ·rw[yGd hij];have hne:j≠i:=by
       intro e;subst e;unfold aR at hij;rw[Int.toNat_natCast]at hij;exact h4 hij
      exact ih (i+1) (m-1) ⟨j,by omega,by omega,h3,h4⟩ (by omega)
     ·rw[yGe hij];rfl
   obtain⟨j,hj1,hj2⟩:=hex;exact key a.length 0 n ⟨j,by omega,by omega,hj1,hj2⟩ (by omega)
  ·rw[aI (by simp;omega)]
theorem yWb(w:List Int)(h1:w.length=4)(h2:∀ x∈w,0<=x/\x<=18446744073709551615):∃ p,w=wd p:=by
 match w,h1 with
 |[a,b,c,d],_ =>
  have ha:=h2 a (by simp);have hb:=h2 b (by simp);have hc:=h2 c (by simp);have hd:=h2 d (by simp)
  let p:Nat->Bool:=λi=>(([a,b,c,d]:List Int).getD (i / 64) 0).toNat.testBit (i % 64)
  refine⟨p,?_⟩;have hw:∀ (k:Nat) (x:Int),([a,b,c,d]:List Int).getD k 0=x->0<=x->x<=18446744073709551615->word p k=x:=by
   intro k x hx h0 h1;unfold word;rw[<- Xh (x:=x.toNat) (k:=k) (p:=p) (by omega) (λj hj=>by
    show x.toNat.testBit j=(([a,b,c,d]:List Int).getD ((64*k+j) / 64) 0).toNat.testBit ((64*k+j) % 64);rw[show(64*k+j) / 64=k by omega,show(64*k+j) % 64=j by omega,hx])]
   omega
  simp only[wd,hw 0 a rfl ha.1 ha.2,hw 1 b rfl hb.1 hb.2,hw 2 c rfl hc.1 hc.2,hw 3 d rfl hd.1 hd.2]
end Go.Dec
