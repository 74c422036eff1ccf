/- Part of a proof over this seat: a library of my own, and what it says of this seat. No statement is proved here. -/
import Derived.Test.YthhbdkdofhhoeaaGreatDoorPartBS
namespace Go.Dec
theorem pW{a b:UInt8}{r:List UInt8}(h:2<=r.length)(y:List UInt8):[a,b].isPrefixOf (r++y)=[a,b].isPrefixOf r:=by
 match r,h with
 |c::d::r,_=>simp[List.isPrefixOf]
theorem mD{a:UInt8}{r:List UInt8}(h:r≠[])(y:List UInt8):[a].isPrefixOf (r++y)=[a].isPrefixOf r:=by
 match r,h with
 |c::r,_=>simp[List.isPrefixOf]
theorem mE{r y:List UInt8}{k:Nat}(h:k<=r.length):(r++y).drop k=r.drop k++y:=by
 rw[List.drop_append,show k-r.length=0 by omega,List.drop_zero]
theorem zDx{x:UInt8}{b:Bool}{z:UInt8 × Nat × Bool}{y:List UInt8}:∀ {r:List UInt8},mR x b r=some z->mR x b (r++y)=some z
 |[],h=>by simp[mR]at h
 |[_],h=>by simp[mR]at h
 |[_,_],h=>by simp[mR]at h
 |p::q::c::t,h=>by
  have e:mR x b (p::q::c::t)=bif [x,93].isPrefixOf t then some (c,5,b)else none:=rfl
  have e2:mR x b ((p::q::c::t)++y)=bif [x,93].isPrefixOf (t++y)then some (c,5,b)else none:=rfl
  rw[e]at h;rw[e2];cases hp:[x,93].isPrefixOf t
  ·rw[hp]at h;cases h
  ·rw[hp]at h;have:=kS hp;rw[pW (by simpa using this),hp];exact h
theorem zDy{first ends:Bool}{z:UInt8 × Nat × Bool}{r y:List UInt8}(hl:2<=r.length)(h:rH first ends r=some z):rH first ends (r++y)=some z:=by
 have hne:r≠[]:=by intro h;rw[h]at hl;simp at hl
 unfold rH at h ⊢;rw[pW hl,pW hl,pW hl,pW hl,pW hl,mD hne,mD hne];cases h1:[91,46].isPrefixOf r
 ·rw[h1]at h;simp only[cond_false]at h ⊢;cases h2:[91,61].isPrefixOf r
  ·rw[h2]at h;simp only[cond_false]at h ⊢;match r,hne with
   |c::r,_=>exact h
  ·rw[h2]at h;exact zDx h
 ·rw[h1]at h;exact zDx h
theorem zJo{y:List UInt8}:∀ {r:List UInt8}{k:Nat},oF r=some k->oF (r++y)=some k
 |[],k,h=>by simp[oF]at h
 |c::r,k,h=>by
  have hk:=Bp h;have hl:2<=(c::r).length:=by omega
  have e:oF (c::r)=bif [58,93].isPrefixOf (c::r)then some 0 else(oF r).map (· + 1):=rfl
  have e2:oF ((c::r)++y)=bif [58,93].isPrefixOf ((c::r)++y)then some 0 else(oF (r++y)).map (· + 1):=rfl
  rw[e]at h;rw[e2,pW hl];cases hp:[58,93].isPrefixOf (c::r)
  ·rw[hp]at h;simp only[cond_false]at h ⊢;cases hq:oF r with
   |none=>rw[hq]at h;cases h
   |some j=>rw[hq]at h;rw[zJo hq];exact h
  ·rw[hp]at h;exact h
theorem zSk{first:Bool}{p:Nat->Bool}{k:Nat}{r y:List UInt8}(h:sW first r=some (p,k))(hne:r.drop k≠[])(h45:[45].isPrefixOf (r.drop k)=true->2<=(r.drop k).length):sW first (r++y)=some (p,k):=by
 have hk:=Bq h;have hdl:=List.length_drop (i:=k) (l:=r);have hpos:1<=(r.drop k).length:=by
  cases hd:r.drop k with
  |nil=>exact absurd hd hne
  |cons _ _=>simp
 have hl:2<=r.length:=by omega
 unfold sW at h ⊢;rw[pW hl];cases h0:[91,58].isPrefixOf r<;>simp only[h0,cond_true,cond_false]at h ⊢
 ·cases h1:rH first false r with
  |none=>rw[h1]at h;cases h
  |some x =>
   obtain⟨a,j,may⟩:=x;have hj:=Bo h1;rw[h1]at h;rw[zDy hl h1];simp only at h ⊢;rw[mE hj.2];have hjl:=List.length_drop (i:=j) (l:=r);cases h2:[45].isPrefixOf (r.drop j)&&!([45,93].isPrefixOf (r.drop j))&&decide (1<(r.drop j).length)
   ·rw[h2]at h;simp only[cond_false,aA,aB]at h;obtain⟨rfl,rfl⟩:=h;have e:([45].isPrefixOf (r.drop j++y)&&!([45,93].isPrefixOf (r.drop j++y))&&decide (1<(r.drop j++y).length))=false:=by
     rw[mD hne];cases h4:[45].isPrefixOf (r.drop j)
     ·rfl
     ·have h5:=h45 h4;rw[h4,decide_eq_true (show 1<(r.drop j).length by omega)]at h2;rw[pW h5,decide_eq_true (show 1<(r.drop j++y).length by rw[List.length_append];omega)];exact h2
    rw[e];rfl
   ·rw[h2]at h;have h2':=h2;simp only[aD,decide_eq_true_eq]at h2';have hnj:r.drop j≠[]:=by intro hh;rw[hh]at h2';simp at h2'
    rw[mD hnj,pW (by omega),decide_eq_true (show 1<(r.drop j++y).length by rw[List.length_append];omega)];rw[decide_eq_true h2'.2]at h2;rw[h2];simp only[cond_true]at h ⊢;rw[mE (by omega)];cases h3:rH false true (r.drop (j+1))with
    |none=>rw[h3]at h;cases h
    |some w =>
     obtain⟨b,m,is⟩:=w;rw[h3]at h;have hm:=Bo h3;have hml:=List.length_drop (i:=j+1) (l:=r);simp only at h;cases h4:may&&is&&!(decide (b.toNat<a.toNat))<;>rw[h4]at h<;>simp only[cond_true,cond_false,aA,aB,reduceCtorEq]at h
     obtain⟨h5,h6⟩:=h;rw[zDy (by omega) h3];simp only[h4,cond_true,h5,h6]
 ·rw[mE (by omega)];cases h1:oF (r.drop 2)with
  |none=>rw[h1]at h;cases h
  |some j =>
   rw[h1]at h;rw[zJo h1];have hj:=(Bp h1).2;simp only at h ⊢;rw[List.take_append_of_le_length (by omega)];exact h
theorem zJp{y:List UInt8}:∀ {f f2:Nat}{first:Bool}{q:Nat->Bool}{r:List UInt8}{p:Nat->Bool}{k:Nat},nM f first q r=some (p,k)->f<=f2->nM f2 first q (r++y)=some (p,k)
 |0,_,_,_,_,_,_,h,_=>by simp[nM]at h
 |f+1,f2,first,q,r,p,k,h,hf=>by
  obtain⟨f2,rfl⟩:∃ g,f2=g+1:=⟨f2-1,by omega⟩;have hk:=Fg h;have hne:r≠[]:=by intro hh;rw[hh]at hk;simp at hk;omega
  unfold nM at h ⊢;rw[mD hne];cases h0:[93].isPrefixOf r&&!first
  ·rw[h0]at h;simp only[cond_false]at h ⊢;cases h1:sW first r with
   |none=>rw[h1]at h;cases h
   |some x =>
    obtain⟨p1,k1⟩:=x;rw[h1]at h;simp only at h;have hk1:=Bq h1;cases h2:nM f false (λj=>q j||p1 j) (r.drop k1)with
    |none=>rw[h2]at h;cases h
    |some z =>
     obtain⟨p2,k2⟩:=z;have hk2:=Fg h2;have hn1:r.drop k1≠[]:=by intro hh;rw[hh]at hk2;simp at hk2;omega
     have h45:[45].isPrefixOf (r.drop k1)=true->2<=(r.drop k1).length:=by
      intro hp;obtain⟨t,ht⟩:=zVa hp;cases t with
      |nil =>
       rw[ht]at h2;cases f with
       |zero=>simp[nM]at h2
       |succ f =>
        have:sW false [45]=none:=by decide
        unfold nM at h2;rw[this]at h2;simp[List.isPrefixOf]at h2
      |cons d t=>rw[ht];simp
     rw[zSk h1 hn1 h45];simp only;rw[mE hk1.2,zJp h2 (by omega)];rw[h2]at h;exact h
  ·rw[h0]at h;exact h
theorem zVz{r y:List UInt8}{p:Nat->Bool}{k:Nat}(h:zY r=some (p,k)):zY (r++y)=some (p,k):=by
 have hk:=Lv h;have hne:r≠[]:=by intro hh;rw[hh]at hk;simp at hk;omega
 unfold zY at h ⊢;rw[mD hne];cases h0:[91].isPrefixOf r
 ·rw[h0]at h;cases h
 ·rw[h0]at h;simp only[cond_true]at h ⊢;cases h1:nM (r.length+1) true (λ_=>false) (r.drop (bif [94].isPrefixOf (r.drop 1)then 2 else 1))with
  |none=>rw[h1]at h;cases h
  |some x =>
   obtain⟨q,m⟩:=x;rw[h1]at h;have hm:=Fg h1;have hl1:2<=r.length:=by
    rw[List.length_drop]at hm;cases hb:[94].isPrefixOf (r.drop 1)<;>rw[hb]at hm<;>simp only[cond_true,cond_false]at hm<;>omega
   have hn1:r.drop 1≠[]:=by intro hh;have:=congrArg List.length hh;rw[List.length_drop]at this;simp at this;omega
   rw[mE (k:=1) (by omega),mD hn1];have hi:(bif [94].isPrefixOf (r.drop 1)then 2 else 1)<=r.length:=by cases [94].isPrefixOf (r.drop 1)<;>simp<;>omega
   rw[mE hi,zJp h1 (by rw[List.length_append];omega)];exact h
theorem zJq{y:List UInt8}:∀ (m:Nat) {r:List UInt8},r.drop (iW m r)≠[]\/(∀ c t,y=c::t->isDigit c=false)->iW m (r++y)=iW m r
 |0,_,_=>rfl
 |m+1,[],h=>by
  rw[List.nil_append];rcases h with h|h
  ·exact absurd rfl h
  ·cases y with
   |nil=>rfl
   |cons c t=>have:=h c t rfl;simp[iW,this]
 |m+1,c::r,h=>by
  have e:iW (m+1) (c::r)=bif isDigit c then iW m r+1 else 0:=rfl
  have e2:iW (m+1) ((c::r)++y)=bif isDigit c then iW m (r++y)+1 else 0:=rfl
  rw[e,e2];cases hd:isDigit c
  ·rfl
  ·rw[e,hd]at h;simp only[cond_true,List.drop_succ_cons]at h ⊢;rw[zJq m h]
theorem zJr{r y:List UInt8}(h:(qH r).2≠[]):qH (r++y)=((qH r).1,(qH r).2++y):=by
 have hd:iW 3 (r++y)=iW 3 r:=zJq 3 (Or.inl h);have hl:=(zBq 3 r).2;unfold qH;simp only;rw[hd,mE hl,List.take_append_of_le_length hl]
theorem zWa{r y:List UInt8}{lo hi:Int}{r2:List UInt8}(h:mV r=some (lo,hi,r2)):mV (r++y)=some (lo,hi,r2++y):=by
 unfold mV at h ⊢;cases hlo:qH r with
 |mk l1 r1 =>
  rw[hlo]at h;cases l1 with
  |none=>simp at h
  |some l1 =>
   simp only at h;have hne:r1≠[]:=by
    rintro rfl;simp[List.isPrefixOf]at h
   rw[zJr (by rw[hlo];exact hne),hlo];simp only;have hpos:1<=r1.length:=by cases r1 with|nil=>exact absurd rfl hne|cons _ _=>simp
   rw[mD hne,mD hne];cases hc:[44].isPrefixOf r1<;>rw[hc]at h<;>simp only[cond_true,cond_false]at h ⊢
   ·cases hb:[125].isPrefixOf r1&&decide (l1<=255)&&decide (1<=l1)<;>rw[hb]at h<;>simp only[cond_true,cond_false,aA,aB,reduceCtorEq]at h ⊢
    obtain⟨h1,h2,h3⟩:=h;exact⟨h1,h2,by rw[mE hpos,h3]⟩
   ·rw[mE hpos];cases hhi:qH (r1.drop 1)with
    |mk h1 r3 =>
     rw[hhi]at h;have hn3:r3≠[]:=by
      rintro rfl;cases h1<;>simp[List.isPrefixOf]at h
     have hp3:1<=r3.length:=by cases r3 with|nil=>exact absurd rfl hn3|cons _ _=>simp
     rw[zJr (by rw[hhi];exact hn3),hhi];cases h1 with
     |none =>
      simp only at h ⊢;rw[mD hn3];cases hb:[125].isPrefixOf r3&&decide (l1<=255)<;>rw[hb]at h<;>simp only[cond_true,cond_false,aA,aB,reduceCtorEq]at h ⊢
      obtain⟨h1,h2,h3⟩:=h;exact⟨h1,h2,by rw[mE hp3,h3]⟩
     |some h1 =>
      simp only at h ⊢;rw[mD hn3];cases hb:[125].isPrefixOf r3&&decide (l1<=255)&&decide (h1<=255)&&decide (l1<=h1)&&decide (1<=h1)<;>rw[hb]at h<;>simp only[cond_true,cond_false,aA,aB,reduceCtorEq]at h ⊢
      obtain⟨h1,h2,h3⟩:=h;exact⟨h1,h2,by rw[mE hp3,h3]⟩
end Go.Dec
namespace Go.Dec
theorem zYs:∀ (t u:Pt),gM t u->dM t=dM u:=by
 intro t;induction t with
 |empty=>intro u h;cases u<;>simp only[gM]at h;rfl
 |bol=>intro u h;cases u<;>simp only[gM]at h;rfl
 |eol=>intro u h;cases u<;>simp only[gM]at h;rfl
 |bytes p=>intro u h;cases u<;>simp only[gM]at h;simp only[dM,h]
 |ref m=>intro u h;cases u<;>simp only[gM]at h;simp only[dM,h]
 |cat a b iha ihb=>intro u h;cases u<;>simp only[gM]at h;simp only[dM];rw[iha _ h.1,ihb _ h.2]
 |alt a b iha ihb=>intro u h;cases u<;>simp only[gM]at h;simp only[dM];rw[iha _ h.1,ihb _ h.2]
 |times a lo hi iha=>intro u h;cases u<;>simp only[gM]at h;simp only[dM];rw[iha _ h.1,h.2.1,h.2.2]
 |group a n iha=>intro u h;cases u<;>simp only[gM]at h;simp only[dM];rw[iha _ h]
def Il (y:List UInt8):Prop:=y = [] ∨ ∃ z,y = 124 :: z
theorem Il.again{r y:List UInt8}(hy:Il y)(h:dG r=false):dG (r++y)=false:=by
 cases r with
 |nil=>rcases hy with rfl|⟨z,rfl⟩<;>rfl
 |cons c r=>exact h
theorem zDz{r y:List UInt8}(hy:Il y):dG (r++y)=dG r:=by
 cases r with
 |nil=>rcases hy with rfl|⟨z,rfl⟩<;>rfl
 |cons c r=>rfl
theorem zWb{t t':Pt}{lo hi:Int}{r r' y:List UInt8}{b b':Nat}(hy:Il y)(h:yX t lo hi r b=.ok t' r' b')(u:Pt)(d:Nat):t'=.times t lo hi/\r'=r/\b'=b/\yX u lo hi (r++y) (b+d)=.ok (.times u lo hi) (r++y) (b+d):=by
 unfold yX at h ⊢;rw[zDz hy];cases ha:dG r
 ·rw[ha]at h;simp only[cond_false,dZ.ok.injEq]at h ⊢;obtain⟨rfl,rfl,rfl⟩:=h;exact⟨rfl,rfl,rfl,trivial⟩
 ·rw[ha]at h;cases h
theorem zPm{t t':Pt}{r r' y:List UInt8}{b b':Nat}(hy:Il y)(h:lM t r b=.ok t' r' b'){u:Pt}(hu:gM t u)(d:Nat):∃ u',lM u (r++y) (b+d)=.ok u' (r'++y) (b'+d)/\gM t' u':=by
 by_cases ha:dG r=false
 ·rw[Dr ha]at h;simp only[dZ.ok.injEq]at h;obtain⟨rfl,rfl,rfl⟩:=h;exact⟨u,Dr (hy.again ha),hu⟩
 ·cases r with
  |nil=>exact absurd rfl ha
  |cons c r1 =>
   have hfin:∀ lo hi (r2:List UInt8),yX t lo hi r2 b=.ok t' r' b'->∃ u',yX u lo hi (r2++y) (b+d)=.ok u' (r'++y) (b'+d)/\gM t' u':=by
    intro lo hi r2 h;obtain⟨rfl,rfl,rfl,h4⟩:=zWb hy h u d;exact⟨_,h4,hu,rfl,rfl⟩
   simp only[dG,Bool.not_eq_false,Bool.or_eq_true,beq_iff_eq]at ha;rcases ha with ((rfl|rfl)|rfl)|rfl
   ·exact hfin _ _ _ h
   ·exact hfin _ _ _ h
   ·exact hfin _ _ _ h
   ·have e:∀ (t:Pt) (r1:List UInt8) (b:Nat),lM t (123::r1) b=match mV r1 with
     |none=>.er 43 (r1.length+1)
     |some (lo,hi,r2)=>yX t lo hi r2 b:=λ_ _ _=>rfl
    rw[e]at h;rw[List.cons_append,e];cases ht:mV r1 with
    |none=>rw[ht]at h;cases h
    |some x =>
     obtain⟨lo,hi,r2⟩:=x;rw[ht]at h;rw[zWa ht];exact hfin _ _ _ h
def Ke (rows:List UInt8->Nat->dZ (List (List Pt))) (d F0:Nat):Prop :=∀ (r:List UInt8) (b:Nat) (rs:List (List Pt)) (c:UInt8) (r2:List UInt8) (b2:Nat) (y:List UInt8),Il y->b+1<=9->F0<=b+1->b2+d<=9->rows r (b+1) = .ok rs (c :: r2) b2 -> ∃ us,rows (r++y) (b+1+d) = .ok us (c :: r2++y) (b2+d) ∧ Rh rs us
theorem zSl{rows:List UInt8->Nat->dZ (List (List Pt))}{d:Nat}{F0:Nat}(hrow:Ke rows d F0)(hgood:∀ r b,b+1<=9->F0<=b+1->qI r (b+1) (rows r (b+1))){t:Pt}{r r' y:List UInt8}{b b':Nat}(hy:Il y)(hb:b<=9)(h0:F0<=b+1)(hd:b'+d<=9)(h:rO rows r b=.ok t r' b'):∃ u,rO rows (r++y) (b+d)=.ok u (r'++y) (b'+d)/\gM t u:=by
 cases r with
 |nil=>cases h
 |cons c r1 =>
  have hone:∀ {p:Nat->Bool}{x:List UInt8},dZ.ok (.bytes p) x b=dZ.ok t r' b'->∃ u,dZ.ok (.bytes p) (x++y) (b+d)=dZ.ok u (r'++y) (b'+d)/\gM t u:=by
   intro p x h;simp only[dZ.ok.injEq]at h;obtain⟨rfl,rfl,rfl⟩:=h;exact⟨_,rfl,rfl⟩
  rw[List.cons_append];unfold rO at h ⊢;simp only at h ⊢;rw[zDz hy,show dG (c::(r1++y))=dG (c::r1)from rfl];cases h1:c==94<;>rw[h1]at h<;>simp only[cond_true,cond_false]at h ⊢
  case true =>
   cases ha:dG r1<;>rw[ha]at h<;>simp only[cond_true,cond_false,dZ.ok.injEq,reduceCtorEq]at h
   obtain⟨rfl,rfl,rfl⟩:=h;exact⟨_,rfl,trivial⟩
  cases h2:c==36<;>rw[h2]at h<;>simp only[cond_true,cond_false]at h ⊢
  case true =>
   cases ha:dG r1<;>rw[ha]at h<;>simp only[cond_true,cond_false,dZ.ok.injEq,reduceCtorEq]at h
   obtain⟨rfl,rfl,rfl⟩:=h;exact⟨_,rfl,trivial⟩
  cases h3:dG (c::r1)<;>rw[h3]at h<;>simp only[cond_true,cond_false]at h ⊢
  case true=>cases h
  cases h4:c==46<;>rw[h4]at h<;>simp only[cond_true,cond_false]at h ⊢
  case true=>exact hone h
  cases h5:c==91<;>rw[h5]at h<;>simp only[cond_true,cond_false]at h ⊢
  case true =>
   cases hk:zY (c::r1)with
   |none=>rw[hk]at h;cases h
   |some x =>
    obtain⟨p,k⟩:=x;have hl:=(Lv hk).2;rw[hk]at h;have:=zVz (y:=y) hk;rw[List.cons_append]at this;rw[this];simp only at h ⊢;rw[<- List.cons_append,mE hl];exact hone h
  cases h6:c==40<;>rw[h6]at h<;>simp only[cond_true,cond_false]at h ⊢
  case true =>
   cases h9:b==9<;>rw[h9]at h<;>simp only[cond_true,cond_false]at h
   case true=>cases h
   have hb9:b≠9:=by simpa using h9
   cases ho:rows r1 (b+1)with
   |er e k=>rw[ho]at h;cases h
   |ok rs r2 b2 =>
    rw[ho]at h;cases r2 with
    |nil=>cases h
    |cons c2 r3 =>
     simp only[dZ.ok.injEq]at h;obtain⟨rfl,rfl,rfl⟩:=h;have hg:=hgood r1 b (by omega) h0;rw[ho]at hg;have hb2:=hg.2.2.1;obtain⟨us,g1,g2⟩:=hrow r1 b rs c2 r3 b2 y hy (by omega) h0 hd ho;rw[show(b+d==9)=false by rw[beq_eq_false_iff_ne];omega];simp only[cond_false];rw[show b+d+1=b+1+d by omega,g1];refine⟨.group (bM us) (b+1+d),rfl,Wx g2⟩
  cases h7:c==92<;>rw[h7]at h<;>simp only[cond_true,cond_false]at h ⊢
  case true =>
   cases r1 with
   |nil=>cases h
   |cons d1 r2 =>
    simp only[List.cons_append]at h ⊢;cases k1:d1==110<;>rw[k1]at h<;>simp only[cond_true,cond_false]at h ⊢
    case true=>exact hone h
    cases k2:uF.contains d1<;>rw[k2]at h<;>simp only[cond_true,cond_false]at h ⊢
    case true=>exact hone h
    cases k3:decide (49<=d1.toNat)&&decide (d1.toNat<=57)<;>rw[k3]at h<;>simp only[cond_true,cond_false]at h<;>cases h
  exact hone h
theorem zSm{rows:List UInt8->Nat->dZ (List (List Pt))}{d:Nat}{F0:Nat}(hrow:Ke rows d F0)(hgood:∀ r b,b+1<=9->F0<=b+1->qI r (b+1) (rows r (b+1))){t:Pt}{r r' y:List UInt8}{b b':Nat}(hy:Il y)(hb:b<=9)(h0:F0<=b+1)(hd:b'+d<=9)(h:jH rows r b=.ok t r' b'):∃ u,jH rows (r++y) (b+d)=.ok u (r'++y) (b'+d)/\gM t u:=by
 unfold jH at h ⊢;cases ho:rO rows r b with
 |er e k=>rw[ho]at h;cases h
 |ok t1 r1 b1 =>
  rw[ho]at h;simp only at h;have hb1:b'=b1:=by
   have:=Ij t1 r1 b1;rw[h]at this;exact this.2.1
  subst hb1;obtain⟨u,g1,g2⟩:=zSl hrow hgood hy hb h0 hd ho;rw[g1];exact zPm hy h g2 d
theorem zPn{rows:List UInt8->Nat->dZ (List (List Pt))}{d:Nat}{F0:Nat}(hrow:Ke rows d F0)(hgood:∀ r b,b+1<=9->F0<=b+1->qI r (b+1) (rows r (b+1))){y:List UInt8}(hy:Il y):∀ (f f2:Nat) (r:List UInt8) (b:Nat) (acc Gb ts:List Pt) (r':List UInt8) (b':Nat),b<=9->F0<=b+1->b'+d<=9->r.length<f->(r++y).length<f2->pF rows f r b acc=.ok ts r' b' ->
  ∃ new us,ts=acc++new/\pF rows f2 (r++y) (b+d) Gb=.ok (Gb++us) (r'++y) (b'+d)/\shL new us:=by
 intro f;induction f with
 |zero=>intro f2 r b acc Gb ts r' b' _ _ _ h;omega
 |succ f ih =>
  intro f2 r b acc Gb ts r' b' hb h0 hd hf hf2 h;obtain⟨f2,rfl⟩:∃ k,f2=k+1:=⟨f2-1,by omega⟩;unfold pF at h ⊢;cases hc:rT r
  ·have hce:rT (r++y)=false:=by
    cases r with
    |nil=>cases hc
    |cons c r=>exact hc
   rw[hc]at h;rw[hce];simp only[cond_false]at h ⊢;have hig:=Dt (rows:=rows) hb (show r≠[]by intro hh;rw[hh]at hc;cases hc) (λr h=>hgood r b h h0);cases ho:jH rows r b with
   |er e k=>rw[ho]at h;cases h
   |ok t r1 b1 =>
    rw[ho]at h hig;obtain⟨g1,g2,g3,g4,g5,g6⟩:=hig;simp only at h;have hgi:=Ap F0 hgood f r1 b1 (acc++[t]) g4 (by omega) (by omega);rw[h]at hgi;obtain⟨_,_,_,_,hb1,_⟩:=hgi;obtain⟨u,k1,k2⟩:=zSm hrow hgood hy hb h0 (by omega) ho;rw[k1];simp only;have htp:=t.nN;rw[List.length_append]at hf2;obtain⟨new,us,j1,j2,j3⟩:=ih f2 r1 b1 (acc++[t]) (Gb++[u]) ts r' b' g4 (by omega) hd (by omega) (by rw[List.length_append];omega) h;exact⟨t::new,u::us,by rw[j1];simp,by rw[j2];simp,k2,j3⟩
  ·rw[hc]at h;simp only[cond_true,dZ.ok.injEq]at h;obtain⟨rfl,rfl,rfl⟩:=h;have hce:rT (r++y)=true:=by
    cases r with
    |nil=>rcases hy with rfl|⟨z,rfl⟩<;>rfl
    |cons c r=>exact hc
   rw[hce];exact⟨[],[],by simp,by simp,trivial⟩
def yCt(rows:List UInt8->Nat->dZ (List (List Pt)))(top:Bool)(f:Nat)(r2 y:List UInt8)(b:Nat)(acc:List (List Pt)):dZ (List (List Pt)):=
 match r2,y with
 |[],124::z=>nX rows top f z b acc
 |r2,y=>.ok acc (r2++y) b
theorem Ri{rows:List UInt8->Nat->dZ (List (List Pt))}{d:Nat}{top:Bool}{F0:Nat}(hrow:Ke rows d F0)(hgood:∀ r b,b+1<=9->F0<=b+1->qI r (b+1) (rows r (b+1))){y:List UInt8}(hy:Il y):∀ (f f2:Nat) (r:List UInt8) (b:Nat) (acc Gb rs:List (List Pt)) (r':List UInt8) (b':Nat),b<=9->F0<=b+1->b'+d<=9->r.length<f->(r++y).length<f2->nX rows top f r b acc=.ok rs r' b' ->
  ∃ new us f3,rs=acc++new/\y.length<=f3/\nX rows top f2 (r++y) (b+d) Gb=yCt rows top f3 r' y (b'+d) (Gb++us)/\Rh new us:=by
 intro f;induction f with
 |zero=>intro f2 r b acc Gb rs r' b' _ _ _ h;omega
 |succ f ih =>
  intro f2 r b acc Gb rs r' b' hb h0 hd hf hf2 h;obtain⟨f2,rfl⟩:∃ k,f2=k+1:=⟨f2-1,by omega⟩;have hbg:=Md (top:=top) F0 hgood (f+1) r b acc hb h0 hf;unfold nX at h ⊢;have hg:=Ap (rows:=rows) F0 hgood (r.length+1) r b [] hb h0 (by omega);cases ho:pF rows (r.length+1) r b []with
  |er e k=>rw[ho]at h;cases h
  |ok ts r2 b2 =>
   rw[ho]at h hg;obtain⟨new,k1,k2,k3,k4,k5,k6,k7,k8⟩:=hg;rw[List.nil_append]at k1;subst k1;have k2l:=k2.length_le;cases ts with
   |nil=>cases h
   |cons t ts =>
    simp only at h;have hb2:b2+d<=9:=by
     cases hp:[124].isPrefixOf r2
     ·rw[hp]at h;simp only[cond_false,dZ.ok.injEq]at h;omega
     ·rw[hp]at h;simp only[cond_true]at h;have hpl:=kS hp;simp only[List.length_cons,List.length_nil]at hpl;have:=Md (top:=top) F0 hgood f (r2.drop 1) b2 (acc++[t::ts]) k5 (by omega) (by rw[List.length_drop];omega);rw[h]at this;obtain⟨_,_,_,_,hh,_⟩:=this;omega
    obtain⟨new1,us,j1,j2,j3⟩:=zPn hrow hgood hy (r.length+1) ((r++y).length+1) r b [] [] (t::ts) r2 b2 hb h0 hb2 (by omega) (by omega) ho;rw[List.nil_append]at j1 j2;subst j1;rw[j2];cases us with
    |nil=>exact j3.elim
    |cons u us =>
     simp only;cases r2 with
     |nil =>
      simp only[List.isPrefixOf,cond_false,dZ.ok.injEq]at h;obtain⟨rfl,rfl,rfl⟩:=h;rw[List.nil_append];rw[List.length_append]at hf2;rcases hy with rfl|⟨z,rfl⟩
      ·exact⟨[t::ts],[u::us],0,rfl,by simp,rfl,j3,trivial⟩
      ·refine⟨[t::ts],[u::us],f2,rfl,by omega,?_,j3,trivial⟩;simp only[show ∀ z:List UInt8,[124].isPrefixOf ((124:UInt8)::z)=true from λ_=>rfl,cond_true,List.drop_succ_cons,List.drop_zero];rfl
     |cons c r3 =>
      rw[mD (by simp)];cases hp:[124].isPrefixOf (c::r3)
      ·rw[hp]at h;simp only[cond_false,dZ.ok.injEq]at h ⊢;obtain⟨rfl,rfl,rfl⟩:=h;exact⟨[t::ts],[u::us],y.length,rfl,by omega,rfl,j3,trivial⟩
      ·rw[hp]at h;simp only[cond_true,List.drop_succ_cons,List.drop_zero,List.cons_append]at h ⊢;simp only[List.length_cons,List.length_append]at k2l hf2;obtain⟨new,us2,f3,q1,q2,q3,q4⟩:=ih f2 r3 b2 (acc++[t::ts]) (Gb++[u::us]) rs r' b' k5 (by omega) hd (by omega) (by rw[List.length_append];omega) h;exact⟨(t::ts)::new,(u::us)::us2,f3,by rw[q1];simp,q2,by rw[q3];simp,j3,q4⟩
theorem zEa(d:Nat):∀ f:Nat,Ke (gI f false) d (11-f):=by
 intro f;induction f with
 |zero =>
  intro r b rs c r2 b2 y _ h9 h0 _ h;omega
 |succ f ih =>
  intro r b rs c r2 b2 y hy h9 h0 hd h;unfold gI at h ⊢;obtain⟨new,us,f3,q1,q2,q3,q4⟩:=Ri (rows:=gI f false) (top:=false) (d:=d) ih (λr b h1 h2=>rP f false r (b+1) (by omega) h1) hy (r.length+1) ((r++y).length+1) r (b+1) [] [] rs (c::r2) b2 h9 (by omega) hd (by omega) (by omega) h;rw[List.nil_append]at q1;subst q1;refine⟨us,?_,q4⟩;rw[q3];rfl
theorem Au{s:List UInt8}{t:Pt}(hne:s≠[])(h:nP s=.inl t):∃ rs b,gI 11 true s 0=.ok rs [] b/\t=bM rs/\rs≠[]/\(∀ ts∈rs,Qx ts)/\(dQ t w0).1=b/\b<=9:=by
 cases s with
 |nil=>exact absurd rfl hne
 |cons c s0 =>
  have hg:=rP 11 true (c::s0) 0 (by omega) (by omega);have he:nP (c::s0)=match gI 11 true (c::s0) 0 with
   |.er e k=>.inr (e,(c::s0).length-k)
   |.ok rs r _ =>
    match r with
    |[]=>bif decide ((bM rs).sz>120)then .inr (2,0)else .inl (bM rs)
    |_=>.inr (41,(c::s0).length-r.length):=rfl
  rw[he]at h;cases ho:gI 11 true (c::s0) 0 with
  |er e k=>rw[ho]at h;cases h
  |ok rs r b' =>
   rw[ho]at h hg;obtain⟨g1,g2,g3,g4,g5,g6,g7,g8⟩:=hg;simp only at h;cases r with
   |cons d r2=>cases h
   |nil =>
    simp only at h;cases Rb:decide ((bM rs).sz>120)<;>rw[Rb]at h<;>simp only[cond_true,cond_false,Sum.inl.injEq,reduceCtorEq]at h
    subst h;refine⟨rs,b',rfl,rfl,g6,g7,?_,g4⟩;obtain⟨en',hh⟩:=g5 true zPb false;rw[Qz g6 (λts h=>(g7 ts h).1)];show(Zu rs (0,true,zPb,false)).1=b';rw[hh]
theorem zEb:∀ (a b:List (List Pt)),a≠[]->b≠[]->(bM (a++b)).sz=(bM a).sz+(bM b).sz+1
 |[],_,h,_=>absurd rfl h
 |[x],y::b,_,_=>by simp[bM,kE,Pt.sz]
 |x::x2::a,b,_,h2=>by
  have ih:=zEb (x2::a) b (by simp) h2;simp only[bM,List.cons_append,List.map_cons,List.map_append,kE,Pt.sz]at ih ⊢;omega
 |[_],[],_,h=>absurd rfl h
theorem zJs:∀ (a b c d:List (List Pt)),Rh a c->Rh b d->Rh (a++b) (c++d)
 |[],b,[],d,_,h=>h
 |x::a,b,y::c,d,h1,h=>⟨h1.1,zJs a b c d h1.2 h⟩
 |[],_,_::_,_,h,_=>h.elim
 |_::_,_,[],_,h,_=>h.elim
theorem zPo{s t:List UInt8}{a b:Pt}(hs:s≠[])(ht:t≠[])(ha:nP s=.inl a)(hb:nP t=.inl b)(hg:(dQ a w0).1+(dQ b w0).1<=9)(hz:a.sz+b.sz<=100):∃ c,nP (s++124::t)=.inl c/\c.sz=a.sz+b.sz+1/\(a.kind≠5->dM c=[124]++dM a++dM b):=by
 obtain⟨rs1,b1,h1,rfl,n1,k1,e1,l1⟩:=Au hs ha;obtain⟨rs2,b2,h2,rfl,n2,k2,e2,l2⟩:=Au ht hb;rw[e1,e2]at hg;have hgood:∀ r b,b+1<=9->11-10<=b+1->qI r (b+1) (gI 10 false r (b+1)):=λr b h1 h2=>rP 10 false r (b+1) (by omega) h1
 obtain⟨nw1,us1,f3,q1,q2,q3,q4⟩:=Ri (rows:=gI 10 false) (top:=true) (d:=0) (zEa 0 10) hgood (y:=124::t) (Or.inr ⟨t,rfl⟩) (s.length+1) ((s++124::t).length+1) s 0 [] [] rs1 [] b1 (by omega) (by omega) (by omega) (by omega) (by omega) h1;rw[List.nil_append]at q1;subst q1;simp only[List.length_cons]at q2;have q3':nX (gI 10 false) true ((s++124::t).length+1) (s++124::t) 0 []=nX (gI 10 false) true f3 t b1 us1:=by
  have:=q3;simp only[Nat.add_zero,List.nil_append]at this;exact this
 obtain⟨nw2,us2,f4,p1,p2,p3,p4⟩:=Ri (rows:=gI 10 false) (top:=true) (d:=b1) (zEa b1 10) hgood (y:=[]) (Or.inl rfl) (t.length+1) f3 t 0 [] us1 rs2 [] b2 (by omega) (by omega) (by omega) (by omega) (by rw[List.append_nil];omega) h2;rw[List.nil_append]at p1;subst p1;have p3':nX (gI 10 false) true f3 t b1 us1=.ok (us1++us2) [] (b2+b1):=by
  have:=p3;rw[List.append_nil,Nat.zero_add]at this;exact this
 have hrow:gI 11 true (s++124::t) 0=.ok (us1++us2) [] (b2+b1):=by
  show nX (gI 10 false) true ((s++124::t).length+1) (s++124::t) 0 []=_;rw[q3',p3']
 have hsh:=zJs _ _ _ _ q4 p4;have hsz:(bM (us1++us2)).sz=(bM rs1).sz+(bM rs2).sz+1:=by
  rw[<- yBs _ _ (Wx hsh),zEb _ _ n1 n2]
 refine⟨bM (us1++us2),?_,hsz,?_⟩
 ·cases hv:s++124::t with
  |nil=>simp at hv
  |cons c w =>
   rw[hv]at hrow;have he:nP (c::w)=match gI 11 true (c::w) 0 with
    |.er e k=>.inr (e,(c::w).length-k)
    |.ok rs r _ =>
     match r with
     |[]=>bif decide ((bM rs).sz>120)then .inr (2,0)else .inl (bM rs)
     |_=>.inr (41,(c::w).length-r.length):=rfl
   rw[he,hrow];simp only;rw[show decide ((bM (us1++us2)).sz>120)=false by simp;omega];rfl
 ·intro hk;have htx:=zYs _ _ (Wx hsh);rw[<- htx];cases rs1 with
  |nil=>exact absurd rfl n1
  |cons x xs =>
   cases xs with
   |cons x2 xs=>exact absurd rfl hk
   |nil =>
    cases rs2 with
    |nil=>exact absurd rfl n2
    |cons z zs =>
     simp only[bM,List.cons_append,List.nil_append,List.map_cons,List.map_nil,kE,dM,List.append_assoc]
end Go.Dec
