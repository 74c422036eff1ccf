/- Part of a proof over this seat: a library of my own, and what it says of this seat. No statement is proved here. -/
import Derived.Test.YthhbdkdofhhoeaaGreatDoorPartBP
namespace Go.Dec
def gU:Pt->Pt->Prop
 | .empty,.empty=>True
 | .bol,.bol=>True
 | .eol,.eol=>True
 | .bytes p,.bytes q=>bB p=bB q
 | .cat a b,.cat c d=>gU a c∧gU b d
 | .alt a b,.alt c d=>gU a c∧gU b d
 | .times a lo hi,.times c lo' hi'=>gU a c∧lo=lo'∧hi=hi'
 | .group a _,.group c _=>gU a c
 | .ref m,.ref m'=>m=m'
 | _,_=>False
theorem zEp {c:UInt8}:∀ {a b x y:List UInt8},c∉a->c∉b->a++c::x=b++c::y->a=b∧x=y
 | [],[],x,y,_,_,h=>by simpa using h
 | [],d::b,x,y,_,hb,h=>by simp at h;exact absurd h.1 (fun e=>hb (by simp [e]))
 | d::a,[],x,y,ha,_,h=>by simp at h;exact absurd h.1.symm (fun e=>ha (by simp [e]))
 | d::a,e::b,x,y,ha,hb,h=>by
  simp only [List.cons_append,aL] at h;obtain ⟨h1,h2⟩:=zEp (fun hm=>ha (by simp [hm])) (fun hm=>hb (by simp [hm])) h.2;exact ⟨by rw [h.1,h1],h2⟩
theorem zMo:((List.range 16).all fun i=>!(hexDigit i==93)&&(List.range 16).all fun j=>!(hexDigit i==hexDigit j)||i==j)=true:=by decide +kernel
theorem zPr {i:Nat}(h:i<16):hexDigit i≠93:=by
 have:=nK zMo h;simp only [aD] at this;simpa using this.1
theorem zMp {i j:Nat}(h:i<16) (h2:j<16) (e:hexDigit i=hexDigit j):i=j:=by
 have:=nK zMo h;simp only [aD] at this;have:=nK this.2 h2;rw [e] at this;simpa using this
theorem Jq (c:UInt8) (l:List UInt8):vE (c::l)=hexDigit (c.toNat / 16)::hexDigit (c.toNat % 16)::vE l:=rfl
theorem zMq:∀ {a b x y:List UInt8},vE a++93::x=vE b++93::y->a=b∧x=y
 | [],[],x,y,h=>by simpa [vE] using h
 | [],d::b,x,y,h=>by
  rw [Jq] at h;simp only [vE,List.flatMap_nil,List.nil_append,List.cons_append,aL] at h;exact absurd h.1.symm (zPr (by have:=d.toNat_lt;omega))
 | d::a,[],x,y,h=>by
  rw [Jq] at h;simp only [vE,List.flatMap_nil,List.nil_append,List.cons_append,aL] at h;exact absurd h.1 (zPr (by have:=d.toNat_lt;omega))
 | d::a,e::b,x,y,h=>by
  rw [Jq,Jq] at h;simp only [List.cons_append,aL] at h;have hd:=d.toNat_lt;have he:=e.toNat_lt;have h1:=zMp (by omega) (by omega) h.1;have h2:=zMp (by omega) (by omega) h.2.1;obtain ⟨h3,h4⟩:=zMq h.2.2;exact ⟨by rw [h3,show d=e from by rw [<- UInt8.toNat_inj];omega],h4⟩
theorem zCj {u:Nat}(h:u<10):isDigit (UInt8.ofNat (48+u))=true∧(UInt8.ofNat (48+u)).toNat=48+u:=by
 have:(UInt8.ofNat (48+u)).toNat=48+u:=by rw [UInt8.toNat_ofNat'];omega
 refine ⟨?_,this⟩;unfold isDigit;rw [this];simp;omega
theorem zMr:∀ (k u:Nat),(Bj k u).all isDigit=true
 | 0,_=>rfl
 | k+1,u=>by
  unfold Bj;split
  ·rename_i h;simp only [List.all_cons,List.all_nil,(zCj h).1];rfl
  ·have:=zMr k (u / 10);simp only [List.all_append,this,Bool.true_and,List.all_cons,List.all_nil,Bool.and_true];exact (zCj (Nat.mod_lt _ (by omega))).1
theorem zMs:∀ (k u:Nat),u<10 ^ k->1<=k->eO (Bj k u)=u
 | 0,_,_,h=>by omega
 | k+1,u,h,_=>by
  unfold Bj;split
  ·rename_i h10;have:=(zCj h10).2;simp only [eO,List.foldl_cons,List.foldl_nil];omega
  ·rename_i h10;have hk:1<=k:=by
    rcases Nat.eq_zero_or_pos k with h0|h0
    ·subst h0;omega
    ·exact h0
   rw [Nat.pow_succ] at h;have hm:=(zCj (show u % 10<10 by omega)).2;rw [zGb,zMs k (u / 10) (by omega) hk,hm];omega
theorem Ch {k:Nat}(h:k<1000000):eO (bX (k:Int))=k∧(bX (k:Int)).all isDigit=true:=by
 have hk:k<10 ^ 20:=Nat.lt_of_lt_of_le (show k<10 ^ 6 by omega) (Nat.pow_le_pow_right (by omega) (by omega));unfold bX;rw [if_neg (by omega),Int.toNat_natCast];exact ⟨zMs 20 k hk (by omega),zMr 20 k⟩
theorem zEq:bX (-1)=[45,49]:=by decide +kernel
theorem Vq {x:Int}(h1:-1<=x) (h2:x<1000000):(44:UInt8)∉bX x∧(59:UInt8)∉bX x:=by
 by_cases h:x=-1
 ·rw [h,zEq];decide
 ·obtain ⟨k,rfl⟩:∃ k:Nat,x=(k:Int):=⟨x.toNat,by omega⟩;have:=(Ch (k:=k) (by omega)).2;rw [List.all_eq_true] at this;exact ⟨fun hm=>absurd (this _ hm) (by decide),fun hm=>absurd (this _ hm) (by decide)⟩
theorem zMt {x y:Int}(h1:-1<=x) (h2:x<1000000) (h3:-1<=y) (h4:y<1000000) (e:bX x=bX y):x=y:=by
 by_cases hx:x=-1
 ·by_cases hy:y=-1
  ·omega
  ·obtain ⟨k,rfl⟩:∃ k:Nat,y=(k:Int):=⟨y.toNat,by omega⟩;have:=(Ch (k:=k) (by omega)).2;rw [<- e,hx,zEq] at this;exact absurd this (by decide)
 ·by_cases hy:y=-1
  ·obtain ⟨k,rfl⟩:∃ k:Nat,x=(k:Int):=⟨x.toNat,by omega⟩;have:=(Ch (k:=k) (by omega)).2;rw [e,hy,zEq] at this;exact absurd this (by decide)
  ·obtain ⟨k,rfl⟩:∃ k:Nat,x=(k:Int):=⟨x.toNat,by omega⟩;obtain ⟨j,rfl⟩:∃ k:Nat,y=(k:Int):=⟨y.toNat,by omega⟩;have a:=(Ch (k:=k) (by omega)).1;have b:=(Ch (k:=j) (by omega)).1;rw [e,b] at a;omega
theorem zMu {m:Nat}(h:m<10):bX (m:Int)=[UInt8.ofNat (48+m)]:=by
 unfold bX;rw [if_neg (by omega),Int.toNat_natCast];unfold Bj;rw [if_pos h]
theorem yAi:∀ (t u:Pt) (x y:List UInt8),bY t=true->bY u=true->dH t++x=dH u++y->gU t u∧x=y:=by
 intro t;induction t with
 | empty=>intro u x y _ _ h;cases u<;>simp [dH] at h;exact ⟨trivial,h⟩
 | bol=>intro u x y _ _ h;cases u<;>simp [dH] at h;exact ⟨trivial,h⟩
 | eol=>intro u x y _ _ h;cases u<;>simp [dH] at h;exact ⟨trivial,h⟩
 | bytes p =>
  intro u x y _ _ h;cases u<;>simp [dH] at h
  exact zMq h
 | ref m =>
  intro u x y ht hu h;cases u<;>simp [dH] at h
  rename_i m';simp only [bY,aD,decide_eq_true_eq] at ht hu;rw [zMu (by omega),zMu (by omega)] at h;simp only [List.cons_append,List.nil_append,aL] at h;have:=congrArg UInt8.toNat h.1;rw [UInt8.toNat_ofNat',UInt8.toNat_ofNat'] at this;exact ⟨show m=m' by omega,h.2⟩
 | cat a b iha ihb =>
  intro u x y ht hu h;cases u<;>simp [dH] at h
  simp only [bY,aD] at ht hu;obtain ⟨h1,h2⟩:=iha _ _ _ ht.1 hu.1 h;obtain ⟨h3,h4⟩:=ihb _ _ _ ht.2 hu.2 h2;exact ⟨⟨h1,h3⟩,h4⟩
 | alt a b iha ihb =>
  intro u x y ht hu h;cases u<;>simp [dH] at h
  simp only [bY,aD] at ht hu;obtain ⟨h1,h2⟩:=iha _ _ _ ht.1 hu.1 h;obtain ⟨h3,h4⟩:=ihb _ _ _ ht.2 hu.2 h2;exact ⟨⟨h1,h3⟩,h4⟩
 | times a lo hi iha =>
  intro u x y ht hu h;cases u<;>simp [dH] at h
  rename_i c lo' hi';simp only [bY,kQ,aD,Bool.or_eq_true,decide_eq_true_eq] at ht hu;have n1:=Vq (x:=lo) (by omega) (by omega);have n2:=Vq (x:=lo') (by omega) (by omega);have n3:=Vq (x:=hi) (by omega) (by omega);have n4:=Vq (x:=hi') (by omega) (by omega);obtain ⟨h1,h2⟩:=zEp n1.1 n2.1 h;obtain ⟨h3,h4⟩:=zEp n3.2 n4.2 h2;obtain ⟨h5,h6⟩:=iha _ _ _ ht.1 hu.1 h4;exact ⟨⟨h5,zMt (by omega) (by omega) (by omega) (by omega) h1,zMt (by omega) (by omega) (by omega) (by omega) h3⟩,h6⟩
 | group a m iha =>
  intro u x y ht hu h;cases u<;>simp [dH] at h
  simp only [bY,aD] at ht hu;obtain ⟨h1,h2⟩:=iha _ _ _ ht.1 hu.1 h;simp only [aL,true_and] at h2;exact ⟨h1,h2⟩
theorem qK {t:Pt}{g:Nat}{i:Bool}{e:List Bool}{r:Bool}(h:(aT t (g,i,e,r)).2.1=true):i=true∧(aT t (g,true,e,r)).2.1=true:=by
 have:=yC t g true i e r;rw [Bool.true_and] at this;rw [this] at h;simp only [aD] at h;exact ⟨h.2,h.1⟩
theorem yAj {p q:Nat->Bool}(h:bB p=bB q):wd p=wd q:=uY fun i hi=>by
 have h1:=qJ (p:=p) hi;have h2:=qJ (p:=q) hi;rw [h] at h1;rw [Bool.eq_iff_iff,h1,h2]
theorem zMv:∀ (t u:Pt) (o g:Nat) (e e':List Bool) (r r':Bool),gU t u->(aT t (g,true,e,r)).2.1=true->(aT u (g,true,e',r')).2.1=true->t.enc o=u.enc o∧(aT t (g,true,e,r)).1=(aT u (g,true,e',r')).1:=by
 intro t;induction t with
 | empty=>intro u o g e e' r r' h _ _;cases u<;>simp only [gU] at h;exact ⟨rfl,rfl⟩
 | bol=>intro u o g e e' r r' h _ _;cases u<;>simp only [gU] at h;exact ⟨rfl,rfl⟩
 | eol=>intro u o g e e' r r' h _ _;cases u<;>simp only [gU] at h;exact ⟨rfl,rfl⟩
 | bytes p=>intro u o g e e' r r' h _ _;cases u<;>simp only [gU] at h;exact ⟨by simp only [Pt.enc,yAj h],rfl⟩
 | ref m=>intro u o g e e' r r' h _ _;cases u<;>simp only [gU] at h;subst h;exact ⟨rfl,rfl⟩
 | cat a b iha ihb =>
  intro u o g e e' r r' h h1 h2;cases u<;>simp only [gU] at h
  rename_i c d;simp only [aT] at h1 h2 ⊢;have m1:=qK (t:=b) (g:=(aT a (g,true,e,r)).1) (i:=(aT a (g,true,e,r)).2.1) (e:=(aT a (g,true,e,r)).2.2.1) (r:=(aT a (g,true,e,r)).2.2.2) h1;have m2:=qK (t:=d) (g:=(aT c (g,true,e',r')).1) (i:=(aT c (g,true,e',r')).2.1) (e:=(aT c (g,true,e',r')).2.2.1) (r:=(aT c (g,true,e',r')).2.2.2) h2;obtain ⟨k1,k2⟩:=iha c o g e e' r r' h.1 m1.1 m2.1;have hs:a.sz=c.sz:=by have:=congrArg List.length k1;rwa [Pt.dA,Pt.dA] at this
  have m1':=m1.2;rw [k2] at m1';obtain ⟨k3,k4⟩:=ihb d (o+a.sz) _ _ (aT c (g,true,e',r')).2.2.1 _ (aT c (g,true,e',r')).2.2.2 h.2 m1' m2.2;have hs2:b.sz=d.sz:=by have:=congrArg List.length k3;rwa [Pt.dA,Pt.dA] at this
  have e1:aT a (g,true,e,r)=((aT c (g,true,e',r')).1,true,(aT a (g,true,e,r)).2.2.1,(aT a (g,true,e,r)).2.2.2):=Prod.ext k2 (Prod.ext m1.1 (Prod.ext rfl rfl));have e2:aT c (g,true,e',r')=((aT c (g,true,e',r')).1,true,(aT c (g,true,e',r')).2.2.1,(aT c (g,true,e',r')).2.2.2):=Prod.ext rfl (Prod.ext m2.1 (Prod.ext rfl rfl));refine ⟨?_,?_⟩
  ·simp only [Pt.enc,Pt.top,k1,hs,hs2];rw [hs] at k3;rw [k3]
  ·rw [e1,k4,<- e2]
 | alt a b iha ihb =>
  intro u o g e e' r r' h h1 h2;cases u<;>simp only [gU] at h
  rename_i c d;simp only [aT] at h1 h2 ⊢;have m1:=qK (t:=b) (g:=(aT a (g,true,e,r)).1) (i:=(aT a (g,true,e,r)).2.1) (e:=(aT a (g,true,e,r)).2.2.1) (r:=(aT a (g,true,e,r)).2.2.2) h1;have m2:=qK (t:=d) (g:=(aT c (g,true,e',r')).1) (i:=(aT c (g,true,e',r')).2.1) (e:=(aT c (g,true,e',r')).2.2.1) (r:=(aT c (g,true,e',r')).2.2.2) h2;obtain ⟨k1,k2⟩:=iha c o g e e' r r' h.1 m1.1 m2.1;have hs:a.sz=c.sz:=by have:=congrArg List.length k1;rwa [Pt.dA,Pt.dA] at this
  have m1':=m1.2;rw [k2] at m1';obtain ⟨k3,k4⟩:=ihb d (o+a.sz) _ _ (aT c (g,true,e',r')).2.2.1 _ (aT c (g,true,e',r')).2.2.2 h.2 m1' m2.2;have hs2:b.sz=d.sz:=by have:=congrArg List.length k3;rwa [Pt.dA,Pt.dA] at this
  have e1:aT a (g,true,e,r)=((aT c (g,true,e',r')).1,true,(aT a (g,true,e,r)).2.2.1,(aT a (g,true,e,r)).2.2.2):=Prod.ext k2 (Prod.ext m1.1 (Prod.ext rfl rfl));have e2:aT c (g,true,e',r')=((aT c (g,true,e',r')).1,true,(aT c (g,true,e',r')).2.2.1,(aT c (g,true,e',r')).2.2.2):=Prod.ext rfl (Prod.ext m2.1 (Prod.ext rfl rfl));refine ⟨?_,?_⟩
  ·simp only [Pt.enc,Pt.top,k1,hs,hs2];rw [hs] at k3;rw [k3]
  ·rw [e1,k4,<- e2]
 | times a lo hi iha =>
  intro u o g e e' r r' h h1 h2;cases u<;>simp only [gU] at h
  rename_i c lo' hi';obtain ⟨h,rfl,rfl⟩:=h;simp only [aT] at h1 h2 ⊢;obtain ⟨k1,k2⟩:=iha c o g e e' r r' h h1 h2;have hs:a.sz=c.sz:=by have:=congrArg List.length k1;rwa [Pt.dA,Pt.dA] at this
  exact ⟨by simp only [Pt.enc,Pt.top,k1,hs],k2⟩
 | group a m iha =>
  intro u o g e e' r r' h h1 h2;cases u<;>simp only [gU] at h
  rename_i c m';simp only [aT,Bool.true_and] at h1 h2 ⊢;have m1:=qK h1;have m2:=qK h2;have e1:=of_decide_eq_true m1.1;have e2:=of_decide_eq_true m2.1;subst e1;subst e2;obtain ⟨k1,k2⟩:=iha c o (g+1) e e' r r' h m1.2 m2.2;have hs:a.sz=c.sz:=by have:=congrArg List.length k1;rwa [Pt.dA,Pt.dA] at this
  refine ⟨by simp only [Pt.enc,Pt.top,k1,hs],?_⟩;simp only [decide_true];exact k2
theorem yAk {t u:Pt}(ht:xR t) (hu:xR u):dH t=dH u<->t.enc 0=u.enc 0:=by
 constructor
 ·intro h;obtain ⟨h1,_⟩:=yAi t u [] [] ht.2.1.1 hu.2.1.1 (by rw [h]);exact (zMv t u 0 0 Ol Ol false false h1 ht.2.2 hu.2.2).1
 ·intro h;have a:=Ai (n:=1000) (by omega) ht;have b:=Ai (n:=1000) (by omega) hu;rw [h,b] at a;exact (Option.some.inj a).symm
end Go.Dec
