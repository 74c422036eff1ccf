/- Part of a proof over this seat: a library of my own, and what it says of this seat. No statement is proved here. -/
import Derived.Test.YthhbdkdofhhoeaaGreatDoorPartBG
namespace Go.Dec
theorem zCi{n:Nat}{r t:List UInt8}:strings_HasPrefix n (r,t)=some (t.isPrefixOf r):=by
 unfold strings_HasPrefix jJ;simp only;by_cases h:t.length<=r.length
 ·rw[aI (by simp;omega),aB (by simp;omega)];simp only[aK,Int.toNat_natCast];congr 1;rw[Bool.eq_iff_iff,List.isPrefixOf_iff_prefix,List.prefix_iff_eq_take,beq_iff_eq];exact eq_comm
 ·rw[aC (by simp;omega)];simp only[aK];congr 1
  symm
  rw[Bool.eq_false_iff,ne_eq,List.isPrefixOf_iff_prefix];intro hp;have:=hp.length_le;omega
theorem mJ{n:Nat}{s t:List UInt8}{i:Nat}(hi:i<=s.length):gK n (t,s,(i:Int),())=some (t.isPrefixOf (s.drop i),s,(i:Int),()):=by
 unfold gK;simp only;rw[aB (by simp;omega),zCi];rfl
theorem jX{r t:List UInt8}(h:t.isPrefixOf r=true):t.length<=r.length:=by
 rw[List.isPrefixOf_iff_prefix]at h;exact h.length_le
theorem pY{n:Nat}{s t:List UInt8}{i:Nat}(hi:i<=s.length)(hs:s.length<1000000)(h:t.isPrefixOf (s.drop i)=true):fD n (t,s,(i:Int),())=some (true,s,((i+t.length:Nat):Int),()):=by
 have hl:=jX h;rw[List.length_drop]at hl;unfold fD;simp only;rw[mJ hi];simp only[aK,h,Bool.not_true,aZ];rw[aW (by omega) (by omega)];rfl
theorem qA{n:Nat}{s t:List UInt8}{i:Nat}(hi:i<=s.length)(h:t.isPrefixOf (s.drop i)=false):fD n (t,s,(i:Int),())=some (false,s,(i:Int),()):=by
 unfold fD;simp only;rw[mJ hi];simp only[aK,h,Bool.not_false,bQ]
theorem eqI{c:UInt8}(k:UInt8):((c.toNat:Int)==(k.toNat:Int))=(k==c):=by
 rw[Bool.eq_iff_iff,beq_iff_eq,beq_iff_eq,Int.ofNat_inj,UInt8.toNat_inj];exact eq_comm
theorem wD{s:List UInt8}{i j:Nat}{d c:UInt8}(h:(s.drop i)[j]?=some c):aR d s ((i+j:Nat):Int)=c:=by
 rw[List.getElem?_drop]at h;unfold aR;rw[Int.toNat_natCast,List.getD_eq_getElem?_getD,h];rfl
theorem yR{s t:List UInt8}{i:Nat}{a:UInt8}(h:s.drop i=a::t):s.drop (i+1)=t/\i<s.length:=by
 refine⟨?_,?_⟩
 ·rw[<- List.drop_drop,h];rfl
 ·have:=congrArg List.length h;rw[List.length_drop,List.length_cons]at this;omega
theorem Sc{r:List UInt8}{a b:UInt8}(h:[a,b].isPrefixOf r=true):∃ t,r=a::b::t:=by
 rw[List.isPrefixOf_iff_prefix]at h;obtain⟨t,rfl⟩:=h;exact⟨t,rfl⟩
theorem yVa{r:List UInt8}{a:UInt8}(h:[a].isPrefixOf r=true):∃ t,r=a::t:=by
 rw[List.isPrefixOf_iff_prefix]at h;obtain⟨t,rfl⟩:=h;exact⟨t,rfl⟩
def wE (x:UInt8) (b:Bool):List UInt8->Option (UInt8×Nat×Bool) | _ :: _ :: c :: t=>bif [x,93].isPrefixOf t then some (c,5,b) else none | _=>none
def tC(first ends:Bool)(r:List UInt8):Option (UInt8 × Nat × Bool):=
 bif [91,46].isPrefixOf r then wE 46 true r
 else bif [91,61].isPrefixOf r then wE 61 false r
 else bif [92,110].isPrefixOf r then some (10,2,true)
 else bif [91,58].isPrefixOf r then none
 else bif [93].isPrefixOf r&&!first then none
 else bif [45].isPrefixOf r&&!first&&!ends&&!([45,93].isPrefixOf r)then none
 else match r with|[]=>none|c::_=>some (c,1,true)
theorem yJh{x:UInt8}{b:Bool}{c:UInt8}{k:Nat}{m:Bool}:∀ {r:List UInt8},wE x b r=some (c,k,m)->1<=k/\k<=r.length
 |[],h=>absurd h (by simp[wE])
 |[_],h=>absurd h (by simp[wE])
 |[_,_],h=>absurd h (by simp[wE])
 |_::_::d::t,h=>by
  unfold wE at h;cases hp:[x,93].isPrefixOf t<;>simp only[hp,cond_true,cond_false]at h
  ·exact absurd h (by simp)
  ·have:=jX hp;simp only[List.length_cons,List.length_nil,aA,aF]at this h ⊢;omega
theorem Kl{first ends:Bool}{r:List UInt8}{c:UInt8}{k:Nat}{m:Bool}(h:tC first ends r=some (c,k,m)):1<=k/\k<=r.length:=by
 have mk:∀ {x:UInt8}{b:Bool},wE x b r=some (c,k,m)->1<=k/\k<=r.length:=λh=>yJh h
 unfold tC at h;cases h1:[91,46].isPrefixOf r<;>simp only[h1,cond_true,cond_false]at h
 ·cases h2:[91,61].isPrefixOf r<;>simp only[h2,cond_true,cond_false]at h
  ·cases h3:[92,110].isPrefixOf r<;>simp only[h3,cond_true,cond_false]at h
   ·cases h4:[91,58].isPrefixOf r<;>simp only[h4,cond_true,cond_false]at h
    ·cases h5:[93].isPrefixOf r&&!first<;>simp only[h5,cond_true,cond_false]at h
     ·cases h6:[45].isPrefixOf r&&!first&&!ends&&!([45,93].isPrefixOf r)<;>simp only[h6,cond_true,cond_false]at h
      ·split at h
       ·exact absurd h (by simp)
       ·simp only[aA,aF,List.length_cons]at h ⊢;omega
      ·exact absurd h (by simp)
     ·exact absurd h (by simp)
    ·exact absurd h (by simp)
   ·have:=jX h3;simp only[List.length_cons,List.length_nil,aA,aF]at this h;omega
  ·exact mk h
 ·exact mk h
def Bd(s:List UInt8)(i:Nat)(o:Option (UInt8 × Nat × Bool))(e:Option (Sum (Int × Bool × List UInt8 × Int × Unit) (Int × Int × List UInt8 × Int × Unit))):Prop:=match o with
 |some (c,k,m)=>e=some (.inl ((c.toNat:Int),m,s,((i+k:Nat):Int),()))
 |none=>∃ a,e=some (.inr (42,0,s,a,()))
theorem wX{n:Nat}{x:List UInt8 × Int × Unit}:bV n x=some (.inr (42,0,x)):=rfl
theorem zFz{n:Nat}{s:List UInt8}{i:Nat}{mk:UInt8}{t:List UInt8}(hi:i<=s.length)(hs:s.length<1000000)(hr:s.drop i=91::mk::t):Bd s i (wE mk ([mk]==[46]) (s.drop i))
  (br ((s.length:Int)==((i+2:Nat):Int)) (ob2 (bV n (s,((i+2:Nat):Int),())) (λy17=>none) (λy17=>some (.inr (y17.1,y17.2.1,y17.2.2.1,y17.2.2.2.1,()))))
   (chk ((decide (0<=IntKind.wrap .i64 (((i+2:Nat):Int)+1))&&decide (IntKind.wrap .i64 (((i+2:Nat):Int)+1)<=(s.length:Int)))) (
    chk (decide (([mk]:List UInt8).length+([93]:List UInt8).length<=aG)) (
     ob (strings_HasPrefix n (s.drop (IntKind.wrap .i64 (((i+2:Nat):Int)+1)).toNat,[mk]++[93])) λy19 =>
     br (!y19) (
      ob2 (bV n (s,((i+2:Nat):Int),())) (λy20 =>
       none) (λy20 =>
       some (.inr (y20.1,y20.2.1,y20.2.2.1,y20.2.2.2.1,())))) (
      jn (tN n) ([mk],s,((i+2:Nat):Int),())))))):=by
 obtain⟨h1,h1'⟩:=yR hr;obtain⟨h2,h2'⟩:=yR h1;have hlen:s.length=i+2+t.length:=by
  have:=congrArg List.length hr;simp only[List.length_drop,List.length_cons]at this;omega
 rw[hr];cases t with
 |nil =>
  simp only[List.length_nil]at hlen;rw[aI (by simp;omega),wX];simp only[Bu,Bd,wE];exact⟨_,rfl⟩
 |cons c t =>
  simp only[List.length_cons]at hlen;obtain⟨h3,h3'⟩:=yR h2;rw[aC (by simp;omega)];have hw:IntKind.wrap .i64 (((i+2:Nat):Int)+1)=((i+1+1+1:Nat):Int):=by rw[aW (by omega) (by omega)];omega
  rw[hw,aB (by simp;omega),aB (by simp[aG]),Int.toNat_natCast,h3,zCi];simp only[aK,List.cons_append,List.nil_append];cases hp:[mk,93].isPrefixOf t
  ·simp only[Bool.not_false,bQ,wX,Bu,cond_false,Bd,wE,hp];exact⟨_,rfl⟩
  ·simp only[Bool.not_true,aZ,cond_true,Bd,fC,tN,wE,hp];have:=jX hp;simp only[List.length_cons,List.length_nil]at this;rw[aB (fQ (by omega)),aW (by omega) (by omega),show((i+2:Nat):Int)=((i+2:Nat):Int)from rfl,wD (c:=c) (by rw[hr];rfl)];rfl
theorem zMg{n:Nat}{s:List UInt8}{i:Nat}{first ends:Bool}(hn:3<=n)(hi:i<=s.length)(hs:s.length<1000000):Bd s i (tC first ends (s.drop i)) (nD n (first,ends,s,(i:Int),())):=by
 obtain⟨m,rfl⟩:∃ m,n=m+3:=⟨n-3,by omega⟩;have hlen:(s.drop i).length=s.length-i:=List.length_drop;have hin:∀ {t:List UInt8},t.isPrefixOf (s.drop i)=true->i+t.length<=s.length:=λh=>by have:=jX h;omega
 unfold nD tC;simp only;rw[zHe,nM];simp only;rw[aI (by rfl),aB (by rfl),aB (by rfl),aB (by rfl)];rw[show [91]++List.getD [[46],[61]] (0+Int.toNat 0) (Ty.dflt .str)=([91,46]:List UInt8)from rfl,show List.getD [[46],[61]] (0+Int.toNat 0) (Ty.dflt .str)=([46]:List UInt8)from rfl];cases h1:[91,46].isPrefixOf (s.drop i)
 case true =>
  obtain⟨t,ht⟩:=Sc h1;rw[pY hi hs h1];simp only[aK,Bool.not_true,aZ,cond_true];exact zFz hi hs ht
 rw[qA hi h1];simp only[aK,Bool.not_false,bQ,cond_false];rw[show IntKind.wrap .i64 (0+1)=1 from rfl,zHe,nM];simp only;rw[aI (by rfl),aB (by rfl),aB (by rfl),aB (by rfl)];rw[show [91]++List.getD [[46],[61]] (0+Int.toNat 1) (Ty.dflt .str)=([91,61]:List UInt8)from rfl,show List.getD [[46],[61]] (0+Int.toNat 1) (Ty.dflt .str)=([61]:List UInt8)from rfl];cases h2:[91,61].isPrefixOf (s.drop i)
 case true =>
  obtain⟨t,ht⟩:=Sc h2;rw[pY hi hs h2];simp only[aK,Bool.not_true,aZ,cond_true];exact zFz hi hs ht
 rw[qA hi h2];simp only[aK,Bool.not_false,bQ,cond_false];rw[show IntKind.wrap .i64 (1+1)=2 from rfl,zHe,nM];simp only;rw[aC (by rfl)];cases h3:[92,110].isPrefixOf (s.drop i)
 case true =>
  rw[pY hi hs h3];simp only[aK,bQ,cond_true,Bd];rfl
 rw[qA hi h3];have yXo:∀ {c:UInt8}{t:List UInt8},s.drop i=c::t->kP (m+3) (s,(i:Int),())=some (.inl ((c.toNat:Int),true,s,((i+1:Nat):Int),())):=by
  intro c t hr;obtain⟨_,h⟩:=yR hr;unfold kP;simp only;have e:IntKind.wrap .i64 (IntKind.wrap .i64 ((i:Int)+1)-1)=((i+0:Nat):Int):=by
   rw[aW (x:=(i:Int)+1) (by omega) (by omega),aW (by omega) (by omega)];omega
  rw[e,aB (fQ (by omega)),wD (c:=c) (by rw[hr];rfl),aW (by omega) (by omega)];rfl
 have zTo:∀ bare:Bool,Bd s i (bif [91,58].isPrefixOf (s.drop i)then none
  else bif [93].isPrefixOf (s.drop i)&&!first then none
  else bif bare then none
  else match s.drop i with|[]=>none|c::_=>some (c,1,true)) (jE (m+3) (first,bare,s,(i:Int),())):=by
  intro bare;unfold jE;simp only;cases hr:s.drop i with
  |nil =>
   rw[hr]at hlen;simp only[List.length_nil]at hlen;rw[aI (by simp;omega),wX];simp only[Bu];cases first<;>cases bare<;>exact⟨_,rfl⟩
  |cons c t =>
   obtain⟨_,hlt⟩:=yR hr;rw[aC (by simp;omega),mJ hi];simp only[aK];rw[<- hr];cases h4:[91,58].isPrefixOf (s.drop i)
   case true =>
    simp only[bQ,wX,Bu,cond_true];exact⟨_,rfl⟩
   simp only[aZ,cond_false];rw[mJ hi];simp only[aK];have hb:Bd s i (bif bare then none else some (c,1,true)) (br bare (
    ob2 (bV (m+3) (s,(i:Int),())) (λy40=>none) (λy40=>some (.inr (y40.1,y40.2.1,y40.2.2.1,y40.2.2.2.1,())))) (
    jn (kP (m+3)) (s,(i:Int),()))):=by
    cases bare
    ·simp only[aZ,cond_false,fC];rw[yXo hr];rfl
    ·simp only[bQ,cond_true,wX,Bu];exact⟨_,rfl⟩
   cases h5:[93].isPrefixOf (s.drop i)
   ·simp only[aZ,Bool.false_and,cond_false];exact hb
   ·cases first
    ·simp only[bQ,Bool.not_false,Bool.true_and,cond_true,wX,Bu];exact⟨_,rfl⟩
    ·simp only[bQ,aZ,Bool.not_true,Bool.and_false,cond_false];exact hb
 simp only[aK,aZ,cond_false];rw[mJ hi];simp only[aK];cases h6:[45].isPrefixOf (s.drop i)
 ·simp only[aZ,Bool.false_and];exact zTo false
 simp only[bQ,Bool.true_and];cases first
 ·simp only[Bool.not_false,bQ,Bool.true_and];cases ends
  ·simp only[Bool.not_false,bQ,Bool.true_and];rw[mJ hi];simp only[aK];exact zTo _
  ·simp only[Bool.not_true,aZ,Bool.false_and];exact zTo false
 ·simp only[Bool.not_true,aZ,Bool.false_and];exact zTo false
def Rn:Option (UInt8×Nat×Bool)->Int×Int×Bool | some (c,k,m)=>((c.toNat:Int),((k:Nat):Int),m) | none=>(0,0,false)
theorem cI(c:UInt8):((c.toNat:Int)==91)=(91==c)/\((c.toNat:Int)==46)=(46==c)/\((c.toNat:Int)==61)=(61==c)/\((c.toNat:Int)==58)=(58==c)/\((c.toNat:Int)==92)=(92==c)/\((c.toNat:Int)==110)=(110==c)/\((c.toNat:Int)==93)=(93==c)/\((c.toNat:Int)==45)=(45==c)/\((c.toNat:Int)==94)=(94==c):=
 ⟨eqI 91,eqI 46,eqI 61,eqI 58,eqI 92,eqI 110,eqI 93,eqI 45,eqI 94⟩
theorem zCj(a b:UInt8):(a==b)=(b==a):=by rw[Bool.eq_iff_iff,beq_iff_eq,beq_iff_eq];exact eq_comm
theorem zCk{n:Nat}{s:List UInt8}{i:Nat}{first ends:Bool}(hi:i<=s.length)(hs:s.length<1000000):qP n (s,(i:Int),first,ends)=some (Rn (tC first ends (s.drop i))):=by
 have hlen:(s.drop i).length=s.length-i:=List.length_drop;have hg:∀ (j:Nat) (c:UInt8),(s.drop i)[j]?=some c->aR 0 s ((i:Int)+(j:Nat))=c:=λ_ _ h=>wD h
 unfold qP;simp only;cases hr:s.drop i with
 |nil =>
  rw[hr]at hlen;simp only[List.length_nil]at hlen;rw[aI (by simp;omega)];cases first<;>rfl
 |cons c t =>
  rw[hr]at hlen hg;simp only[List.length_cons]at hlen;rw[aC (by simp;omega),aB (fQ (by omega)),aW (by omega) (by omega)];have e0:aR 0 s (i:Int)=c:=by have:=hg 0 c rfl;simpa using this
  rw[e0];obtain⟨q1,q2,q3,q4,q5,q6,q7,q8,q9⟩:=cI c;have J4:∀ (x:Int),sH n (first,ends,(c.toNat:Int),x,())=some (Rn (bif [45].isPrefixOf (c::t)&&!first&&!ends&&(x != 93)then none else some (c,1,true))):=by
   intro x;unfold sH;simp only[q8,List.isPrefixOf,Bool.and_true];cases(45==c)<;>cases first<;>cases ends<;>cases(x != 93)<;>rfl
  have J3:∀ (x:Int),oC n (first,ends,(c.toNat:Int),x,())=some (Rn (bif [93].isPrefixOf (c::t)&&!first then none else bif [45].isPrefixOf (c::t)&&!first&&!ends&&(x != 93)then none else some (c,1,true))):=by
   intro x;unfold oC;simp only[q7,fC,J4];have:[93].isPrefixOf (c::t)=(93==c):=by simp[List.isPrefixOf]
   rw[this];cases(93==c)<;>cases first<;>rfl
  cases t with
  |nil =>
   simp only[List.length_nil]at hlen;rw[aC (by simp;omega),fC,sI];simp only[q1];have J2:oD n (s,(i:Int),first,ends,(c.toNat:Int),0,())=some (Rn (tC first ends [c])):=by
    unfold oD tC;simp only[fC,J3];cases(((c.toNat:Nat):Int)==92)<;>simp[List.isPrefixOf]
   cases(91==c)
   ·simp only[aZ,fC,fI];exact J2
   ·simp only[bQ,fC,fI];rw[aC (by rfl),aC (by rfl),aC (by rfl)];exact J2
  |cons d t =>
   simp only[List.length_cons]at hlen;have e1:aR 0 s ((i:Int)+1)=d:=hg 1 d rfl;rw[aI (by simp;omega),aB (eT (by omega) (by omega)),e1,fC,sI];obtain⟨d1,d2,d3,d4,d5,d6,d7,d8,d9⟩:=cI d;have J2:[91,46].isPrefixOf (c::d::t)=false->[91,61].isPrefixOf (c::d::t)=false->[91,58].isPrefixOf (c::d::t)=false->oD n (s,(i:Int),first,ends,(c.toNat:Int),(d.toNat:Int),())=some (Rn (tC first ends (c::d::t))):=by
    intro a1 a2 a3;unfold oD tC;simp only[fC,J3,a1,a2,a3,q5,d6,cond_false];rw[aW (by omega) (by omega),show decide ((i:Int)+1<(s.length:Int))=true by simp;omega];have x1:[92,110].isPrefixOf (c::d::t)=(92==c&&110==d):=by simp[List.isPrefixOf]
    have x2:([45].isPrefixOf (c::d::t)&&!first&&!ends&&!([45,93].isPrefixOf (c::d::t)))=([45].isPrefixOf (c::d::t)&&!first&&!ends&&((d.toNat:Int) != 93)):=by
     simp only[bne,d7,List.isPrefixOf,Bool.and_true];cases(45==c)<;>simp
    rw[x1,x2];cases(92==c)<;>cases(110==d)<;>rfl
   have M:∀ mk:UInt8,c=91->d=mk->mk≠58->fI n (s,(i:Int),first,ends,(c.toNat:Int),(d.toNat:Int),true,())=some (Rn (wE mk (mk==46) (c::d::t))):=by
    intro mk hc hd hm;subst hc hd;unfold fI;have hne:(d != 58)=true:=by simp[hm]
    have hne2:((d.toNat:Int) != 58)=true:=by rw[bne,d4];rw[show(58==d)=(d==58)from zCj _ _];exact hne
    simp only[bQ,hne2];rw[aW (x:=(i:Int)+4) (by omega) (by omega),aW (x:=(i:Int)+3) (by omega) (by omega),aW (x:=(i:Int)+2) (by omega) (by omega)];match t,hlen,hg with
    |[],hlen,hg=>simp only[List.length_nil]at hlen;rw[aC (by simp;omega)];rfl
    |[e],hlen,hg=>simp only[List.length_nil,List.length_cons]at hlen;rw[aC (by simp;omega)];rfl
    |[e,f],hlen,hg =>
     simp only[List.length_nil,List.length_cons]at hlen;rw[aC (by simp;omega)];simp[wE,List.isPrefixOf,Rn]
    |e::f::g::u,hlen,hg =>
     simp only[List.length_cons]at hlen;have e2:aR 0 s ((i:Int)+2)=e:=hg 2 e rfl;have e3:aR 0 s ((i:Int)+3)=f:=hg 3 f rfl;have e4:aR 0 s ((i:Int)+4)=g:=hg 4 g rfl;rw[aI (by simp;omega),aB (eT (by omega) (by omega)),aB (eT (by omega) (by omega)),aB (eT (by omega) (by omega)),e2,e3,e4];have g1:((f.toNat:Int)==(d.toNat:Int))=(d==f):=eqI d;obtain⟨_,_,_,_,_,_,g7,_,_⟩:=cI g;simp only[g1,g7,wE,List.isPrefixOf,Bool.and_true];rw[d2,show(46==d)=(d==46)from zCj _ _];cases(d==f)<;>cases(93==g)<;>rfl
   simp only[q1,d2,d3,d4,fC];rw[aW (by omega) (by omega),show decide ((i:Int)+1<(s.length:Int))=true by simp;omega];cases hc:(91==c)
   ·simp only[aZ,fI,fC];exact J2 (by simp[List.isPrefixOf,hc]) (by simp[List.isPrefixOf,hc]) (by simp[List.isPrefixOf,hc])
   ·simp only[bQ];cases h46:(46==d)
    case true =>
     have hc':c=91:=(eq_of_beq hc).symm;have hd':d=46:=(eq_of_beq h46).symm;simp only[bQ];rw[M 46 hc' hd' (by decide)];subst hc' hd';rfl
    cases h61:(61==d)
    case true =>
     have hc':c=91:=(eq_of_beq hc).symm;have hd':d=61:=(eq_of_beq h61).symm;simp only[bQ,aZ];rw[M 61 hc' hd' (by decide)];subst hc' hd';rfl
    cases h58:(58==d)
    case true =>
     have hc':c=91:=(eq_of_beq hc).symm;have hd':d=58:=(eq_of_beq h58).symm;simp only[bQ,aZ];subst hc' hd';rfl
    simp only[aZ,fI,fC];exact J2 (by simp[List.isPrefixOf,h46]) (by simp[List.isPrefixOf,h61]) (by simp[List.isPrefixOf,h58])
def xG:List UInt8->Option Nat | []=>none | c :: r=>bif [58,93].isPrefixOf (c :: r) then some 0 else (xG r).map (·+1)
theorem Ro:∀ {r:List UInt8}{k:Nat},xG r=some k->[58,93].isPrefixOf (r.drop k)=true/\k+2<=r.length
 |[],k,h=>absurd h (by simp[xG])
 |c::r,k,h=>by
  unfold xG at h;cases hp:[58,93].isPrefixOf (c::r)<;>simp only[hp,cond_true,cond_false]at h
  ·cases hk:xG r with
   |none=>rw[hk]at h;exact absurd h (by simp)
   |some j =>
    rw[hk]at h;simp only[Option.map_some,aA]at h;subst h;obtain⟨h1,h2⟩:=Ro hk;exact⟨h1,by simp only[List.length_cons];omega⟩
  ·simp only[aA]at h;subst h;exact⟨hp,by have:=jX hp;simpa using this⟩
theorem zQz:∀ r:List UInt8,Go.Lib.index r [58,93]=match xG r with|some k=>((k:Nat):Int)|none=>-1
 |[]=>by rfl
 |c::r=>by
  have ih:=zQz r;rw[Go.Lib.index,xG];cases hp:[58,93].isPrefixOf (c::r)
  ·simp only[Bool.false_eq_true,if_false,cond_false];rw[ih];cases xG r with
   |none=>rfl
   |some k =>
    simp only[Option.map_some];rw[if_neg (by simp)];rfl
  ·rfl
theorem yRa(r:List UInt8):Go.Lib.cut r [58,93]=match xG r with|some k=>(r.take k,r.drop (k+2),true)|none=>(r,[],false):=by
 unfold Go.Lib.cut;rw[zQz];cases xG r with
 |none=>rfl
 |some k=>simp
def Bv(first:Bool)(r:List UInt8):Option ((Nat->Bool) × Nat):=
 bif [91,58].isPrefixOf r then
  match xG (r.drop 2)with
  |none=>none
  |some k=>match Qc ((r.drop 2).take k)with
   |some p=>some (p,k+4)
   |none=>none
 else match tC first false r with
  |none=>none
  |some (a,k,may)=>
   bif [45].isPrefixOf (r.drop k)&&!([45,93].isPrefixOf (r.drop k))&&decide (1<(r.drop k).length)then
    match tC false true (r.drop (k+1))with
    |none=>none
    |some (b,m,is)=>bif may&&is&&!(decide (b.toNat<a.toNat))then some (dA a.toNat b.toNat,k+1+m)else none
   else some (dA a.toNat a.toNat,k)
theorem zCl{first:Bool}{r:List UInt8}{p:Nat->Bool}{k:Nat}(h:Bv first r=some (p,k)):1<=k/\k<=r.length:=by
 unfold Bv at h;cases h0:[91,58].isPrefixOf r<;>simp only[h0,cond_true,cond_false]at h
 ·cases h1:tC first false r with
  |none=>rw[h1]at h;exact absurd h (by simp)
  |some x =>
   obtain⟨a,j,may⟩:=x;have hl:=Kl h1;rw[h1]at h;simp only at h;cases h2:[45].isPrefixOf (r.drop j)&&!([45,93].isPrefixOf (r.drop j))&&decide (1<(r.drop j).length)<;>simp only[h2,cond_true,cond_false]at h
   ·simp only[aA,aF]at h;omega
   ·cases h3:tC false true (r.drop (j+1))with
    |none=>rw[h3]at h;exact absurd h (by simp)
    |some y =>
     obtain⟨b,m,is⟩:=y;have hl3:=Kl h3;rw[h3]at h;simp only at h;rw[List.length_drop]at hl3;cases h4:may&&is&&!(decide (b.toNat<a.toNat))<;>simp only[h4,cond_true,cond_false]at h
     ·exact absurd h (by simp)
     ·simp only[aA,aF]at h;omega
 ·cases h1:xG (r.drop 2)with
  |none=>rw[h1]at h;exact absurd h (by simp)
  |some j =>
   rw[h1]at h;simp only at h;have:=(Ro h1).2;rw[List.length_drop]at this;cases h2:Qc ((r.drop 2).take j)with
   |none=>rw[h2]at h;exact absurd h (by simp)
   |some q =>
    rw[h2]at h;simp only[aA,aF]at h;omega
def zMh(s:List UInt8)(i:Nat)(o:Option ((Nat->Bool) × Nat))(e:Option (Sum (List Int × List UInt8 × Int × Unit) (Int × Int × List UInt8 × Int × Unit))):Prop:=match o with
 |some (p,k)=>e=some (.inl (wd p,s,((i+k:Nat):Int),()))
 |none=>∃ a,e=some (.inr (42,0,s,a,()))
theorem yRb{n:Nat}{s:List UInt8}{i:Nat}{first:Bool}(hn:300<=n)(hi:i<=s.length)(hs:s.length<1000000):zMh s i (Bv first (s.drop i)) (oO n (first,s,(i:Int),())):=by
 unfold oO Bv;simp only;cases h0:[91,58].isPrefixOf (s.drop i)
 case true =>
  have hl:=jX h0;simp only[List.length_drop,List.length_cons,List.length_nil]at hl;rw[pY hi hs h0];simp only[aK,bQ,cond_true];rw[aB (by simp;omega),Int.toNat_natCast,strings_Cut,aB (by simp;omega),show([91,58]:List UInt8).length=2 from rfl];simp only[aK];rw[yRa,List.drop_drop];have hC:=zMf (n:=n) hn;cases h1:xG (s.drop (i+2))with
  |none =>
   simp only;have h2:=hC (s.drop (i+2));have yPf:∀ (w:Bool),∀ (x:List Int),∃ a,(ob (ρ:=Sum (List Int × List UInt8 × Int × Unit) (Int × Int × List UInt8 × Int × Unit)) (some (x,w)) λy8 =>
    br (!y8.2) (
    ob2 (bV n (s,IntKind.wrap .i64 (((i+2:Nat):Int)+((s.drop (i+2)).length:Int)),())) (λy9 =>
     none) (λy9 =>
     some (.inr (y9.1,y9.2.1,y9.2.2.1,y9.2.2.2.1,())))) (
    ob (fD n ([58,93],s,IntKind.wrap .i64 (((i+2:Nat):Int)+((s.drop (i+2)).length:Int)),())) λy10 =>
    br (!y10.1) (
     ob2 (bV n (y10.2.1,y10.2.2.1,())) (λy11 =>
      none) (λy11 =>
      some (.inr (y11.1,y11.2.1,y11.2.2.1,y11.2.2.2.1,())))) (
     some (.inl (y8.1,y10.2.1,y10.2.2.1,())))))=some (.inr (42,0,s,a,())):=by
    intro w x;simp only[aK];cases w
    ·simp only[Bool.not_false,bQ,wX,Bu];exact⟨_,rfl⟩
    ·simp only[Bool.not_true,aZ];have e:IntKind.wrap .i64 (((i+2:Nat):Int)+((s.drop (i+2)).length:Int))=((s.length:Nat):Int):=by
      rw[List.length_drop,aW (by omega) (by omega)];omega
     rw[e,qA (bA _) (by simp)];simp only[aK,Bool.not_false,bQ,wX,Bu];exact⟨_,rfl⟩
   cases hc:Qc (s.drop (i+2))with
   |none=>rw[hc]at h2;rw[h2.1];exact yPf _ _
   |some p=>rw[hc]at h2;rw[h2.1];exact yPf _ _
  |some k =>
   simp only;obtain⟨k1,k2⟩:=Ro h1;rw[List.length_drop]at k2;rw[List.drop_drop]at k1;have h2:=hC ((s.drop (i+2)).take k);have e:IntKind.wrap .i64 (((i+2:Nat):Int)+(((s.drop (i+2)).take k).length:Int))=((i+2+k:Nat):Int):=by
    rw[List.length_take,List.length_drop,aW (by omega) (by omega)];omega
   rw[e];cases hc:Qc ((s.drop (i+2)).take k)with
   |none =>
    rw[hc]at h2;rw[h2.1];simp only[aK,Bool.not_false,bQ,wX,Bu];exact⟨_,rfl⟩
   |some p =>
    rw[hc]at h2;rw[h2.1];simp only[aK,Bool.not_true,aZ];rw[pY (by omega) hs k1];simp only[aK,Bool.not_true,aZ,zMh];rw[show i+2+k+([58,93]:List UInt8).length=i+(k+4)by simp;omega]
 rw[qA hi h0];simp only[aK,aZ,cond_false];have hE:=zMg (n:=n) (first:=first) (ends:=false) (by omega) hi hs;cases h1:tC first false (s.drop i)with
 |none =>
  rw[h1]at hE;obtain⟨a,hE⟩:=hE;rw[hE];simp only[Bu];exact⟨_,rfl⟩
 |some x =>
  obtain⟨a,k,may⟩:=x;rw[h1]at hE;simp only[Bd]at hE;rw[hE];have hk:=Kl h1;rw[List.length_drop]at hk;simp only[yFz];have hik:i+k<=s.length:=by omega
  have hR:eB n ((a.toNat:Int),(a.toNat:Int))=some (wd (dA a.toNat a.toNat)):=Gh hn a.toNat_lt a.toNat_lt;rw[mJ hik,hR,List.drop_drop];simp only[aK];cases h2:[45].isPrefixOf (s.drop (i+k))
  ·simp only[Bool.not_false,bQ,Bool.false_and,cond_false];rfl
  simp only[Bool.not_true,aZ,Bool.true_and];rw[mJ hik];simp only[aK];cases h3:[45,93].isPrefixOf (s.drop (i+k))
  case true=>simp only[bQ,Bool.not_true,Bool.false_and,cond_false];rfl
  simp only[aZ,Bool.not_false,Bool.true_and];have hp:=jX h2;rw[List.length_drop]at hp ⊢;simp only[List.length_cons,List.length_nil]at hp;rw[aW (by omega) (by omega)];by_cases h4:1<s.length-(i+k)
  ·rw[aC (by simp;omega),decide_eq_true h4];simp only[cond_true];have hE2:=zMg (n:=n) (first:=false) (ends:=true) (s:=s) (i:=i+k+1) (by omega) (by omega) hs;rw[show((i+k:Nat):Int)+1=((i+k+1:Nat):Int)from rfl];rw[List.drop_drop,show i+(k+1)=i+k+1 by omega];cases h5:tC false true (s.drop (i+k+1))with
   |none =>
    rw[h5]at hE2;obtain⟨a,hE2⟩:=hE2;rw[hE2];simp only[Bu];exact⟨_,rfl⟩
   |some y =>
    obtain⟨b,m,is⟩:=y;rw[h5]at hE2;simp only[Bd]at hE2;rw[hE2];simp only[yFz,wX,Bu];cases may
    ·simp only[Bool.not_false,bQ,Bool.false_and,cond_false];exact⟨_,rfl⟩
    cases is
    ·simp only[Bool.not_false,bQ,Bool.not_true,aZ,Bool.and_false,Bool.false_and,cond_false];exact⟨_,rfl⟩
    have hR2:eB n ((a.toNat:Int),(b.toNat:Int))=some (wd (dA a.toNat b.toNat)):=Gh hn a.toNat_lt b.toNat_lt;rw[hR2,show decide ((b.toNat:Int)<(a.toNat:Int))=decide (b.toNat<a.toNat)by simp];cases decide (b.toNat<a.toNat)
    ·simp only[Bool.not_false,Bool.not_true,aZ,Bool.and_true,cond_true,aK,zMh];rw[show i+(k+1+m)=i+k+1+m by omega]
    ·simp only[Bool.not_true,aZ,bQ,Bool.and_false,cond_false];exact⟨_,rfl⟩
  ·rw[aI (by simp;omega),decide_eq_false h4];rfl
theorem yRc{n:Nat}{g0:List UInt8 × Int × Bool × Bool × List Bool × List Bool × List Bool × Unit->Option (List Bool × Int × Int)}{s:List UInt8}{i:Nat}{no:Bool}{b1 b2 b3:List Bool}(hs:s.length<1000000):∀ (r:List UInt8) (k m:Nat),s.drop k=r->k<=s.length->i+2<=k->r.length<m->fix (rD n g0) m (s,(i:Int),no,(k:Int),b1,b2,b3,())=match xG r with
  |some j=>kM n g0 (s,(i:Int),no,((k+j:Nat):Int),b1,b2,b3,())
  |none=>some (b2,0,42):=by
 intro r;induction r with
 |nil =>
  intro k m hr hk hik hm;have hl:s.length=k:=by have:=congrArg List.length hr;simp only[List.length_drop,List.length_nil]at this;omega
  rw[bI (by omega),rD];simp only;rw[aW (by omega) (by omega),aC (by simp;omega),fC,kM];simp only;rw[aW (by omega) (by omega),aI (by simp;omega)];rfl
 |cons c r ih =>
  intro k m hr hk hik hm;obtain⟨hr2,hk2⟩:=yR hr;have hl:s.length=k+(r.length+1):=by have:=congrArg List.length hr;simp only[List.length_drop,List.length_cons]at this;omega
  simp only[List.length_cons]at hm;rw[bI (by omega),rD];simp only;rw[aW (by omega) (by omega)];rw[xG];cases r with
  |nil =>
   simp only[List.length_nil]at hl;rw[aC (by simp;omega),fC,kM];simp only;rw[aW (by omega) (by omega),aI (by simp;omega)];simp[List.isPrefixOf,xG]
  |cons d r =>
   simp only[List.length_cons]at hl;rw[aI (by simp;omega),aW (by omega) (by omega),aB (by simp;omega)];have e:(s.take ((k:Int)+2).toNat).drop (k:Int).toNat=[c,d]:=by
    rw[Int.toNat_natCast,show((k:Int)+2).toNat=k+2 by omega,List.drop_take,hr,show k+2-k=2 by omega];rfl
   rw[e];have e2:([c,d]==([58,93]:List UInt8))=[58,93].isPrefixOf (c::d::r):=by
    rw[Bool.eq_iff_iff,beq_iff_eq,List.isPrefixOf_iff_prefix,List.prefix_iff_eq_take];exact eq_comm
   rw[e2];cases hp:[58,93].isPrefixOf (c::d::r)
   ·simp only[Bool.not_false,bQ,cond_false];rw[show(k:Int)+1=((k+1:Nat):Int)from rfl,ih (k+1) (m-1) hr2 (by omega) (by omega) (by omega)];cases xG (d::r)with
    |none=>rfl
    |some j=>simp only[Option.map_some];rw[show k+1+j=k+(j+1)by omega]
   ·simp only[Bool.not_true,aZ,cond_true,fC];rfl
theorem yNk{n:Nat}{g0:List UInt8 × Int × Bool × Bool × List Bool × List Bool × List Bool × Unit->Option (List Bool × Int × Int)}{s:List UInt8}{i:Nat}{no first:Bool}{b1 b2:List Bool}{q:Nat->Bool}(hn:300<=n)(hsn:s.length<n)(hi:i<=s.length)(hs:s.length<1000000):jH n g0 (s,(i:Int),no,first,b1,b2,bx q,())=match Bv first (s.drop i)with
  |some (p,k)=>g0 (s,((i+k:Nat):Int),no,false,b1,b2,bx (λj=>q j||p j),())
  |none=>some (b2,0,42):=by
 have hlen:(s.drop i).length=s.length-i:=List.length_drop;have J5:jH n g0 (s,(i:Int),no,first,b1,b2,bx q,())=rE n g0 (s,(i:Int),no,first,[91,58].isPrefixOf (s.drop i),b1,b2,bx q,()):=by
  unfold jH;simp only[fC];rw[aW (by omega) (by omega)];by_cases h:i+1<s.length
  ·rw[aI (by simp;omega),aW (by omega) (by omega),aB (by simp;omega)];congr 6;rw[Int.toNat_natCast,show((i:Int)+2).toNat=i+2 by omega,List.drop_take,show i+2-i=2 by omega];rw[Bool.eq_iff_iff,beq_iff_eq,List.isPrefixOf_iff_prefix,List.prefix_iff_eq_take];exact eq_comm
  ·rw[aC (by simp;omega)];congr 6
   symm
   rw[Bool.eq_false_iff];intro hp;have:=jX hp;simp only[List.length_cons,List.length_nil]at this;omega
 rw[J5];unfold rE Bv;simp only;cases h0:[91,58].isPrefixOf (s.drop i)
 case true =>
  have hl:=jX h0;simp only[List.length_cons,List.length_nil]at hl;simp only[bQ,cond_true];rw[aW (by omega) (by omega),show(i:Int)+2=((i+2:Nat):Int)from rfl,yRc hs (s.drop (i+2)) (i+2) n rfl (by omega) (by omega) (by rw[List.length_drop];omega),List.drop_drop];cases h1:xG (s.drop (i+2))with
  |none=>rfl
  |some k =>
   simp only;obtain⟨k1,k2⟩:=Ro h1;rw[List.length_drop]at k2;unfold kM;simp only;rw[aW (by omega) (by omega),aC (by simp;omega),aW (by omega) (by omega),aB (by simp;omega)];have e:(s.take ((i+2+k:Nat):Int).toNat).drop ((i:Int)+2).toNat=(s.drop (i+2)).take k:=by
    rw[Int.toNat_natCast,show((i:Int)+2).toNat=i+2 by omega,List.drop_take,show i+2+k-(i+2)=k by omega]
   rw[e];have h2:=zMf (n:=n) hn ((s.drop (i+2)).take k);cases hc:Qc ((s.drop (i+2)).take k)with
   |none =>
    rw[hc]at h2;obtain⟨_,p,h2⟩:=h2;rw[h2];rfl
   |some p =>
    rw[hc]at h2;rw[h2.2];simp only[aK,Bool.not_true,aZ];rw[Ji hn,aW (by omega) (by omega)];simp only[aK];rw[show i+(k+4)=i+2+k+2 by omega];rfl
 simp only[aZ,cond_false,fC];have J7:∀ (A K:Int) (M:Bool),qP n (s,(i:Int),first,false)=some (A,K,M)->wZ n g0 (s,(i:Int),no,first,b1,b2,bx q,()) =
  br (K==0) (some (b2,0,42)) (br (decide (IntKind.wrap .i64 (IntKind.wrap .i64 ((i:Int)+K)+1)<(s.length:Int))) (
   chk (inB (IntKind.wrap .i64 ((i:Int)+K)) s.length) (
    br (((aR 0 s (IntKind.wrap .i64 ((i:Int)+K))).toNat:Int)==45) (
     chk (inB (IntKind.wrap .i64 (IntKind.wrap .i64 ((i:Int)+K)+1)) s.length) (
      jn (gN n g0) (s,IntKind.wrap .i64 ((i:Int)+K),no,A,M,A,(((aR 0 s (IntKind.wrap .i64 (IntKind.wrap .i64 ((i:Int)+K)+1))).toNat:Int) != 93),b1,b2,bx q,()))) (
     jn (gN n g0) (s,IntKind.wrap .i64 ((i:Int)+K),no,A,M,A,false,b1,b2,bx q,())))) (
   jn (gN n g0) (s,IntKind.wrap .i64 ((i:Int)+K),no,A,M,A,false,b1,b2,bx q,()))):=by
  intro A K M h;unfold wZ;simp only;rw[h];rfl
 cases h1:tC first false (s.drop i)with
 |none=>rw[J7 0 0 false (by rw[zCk hi hs,h1];rfl)];rfl
 |some x =>
  obtain⟨a,k,may⟩:=x;have hk:=Kl h1;rw[List.length_drop]at hk;have hik:i+k<=s.length:=by omega
  rw[J7 (a.toNat:Int) (k:Int) may (by rw[zCk hi hs,h1];rfl)];rw[aC (by simp;omega),aW (x:=(i:Int)+(k:Int)) (by omega) (by omega),aW (by omega) (by omega)];have J8f:∀ t:Bool,t=false->gN n g0 (s,(i:Int)+(k:Int),no,(a.toNat:Int),may,(a.toNat:Int),t,b1,b2,bx q,())=g0 (s,((i+k:Nat):Int),no,false,b1,b2,bx (λj=>q j||dA a.toNat a.toNat j),()):=by
   intro t ht;subst ht;unfold gN;have hR:dR n ((a.toNat:Int),(a.toNat:Int))=some (bx (dA a.toNat a.toNat)):=zQ hn a.toNat_lt a.toNat_lt;simp only[aZ,hR,aK];rw[Ji hn];rfl
  simp only;rw[List.drop_drop,List.length_drop];by_cases h4:1<s.length-(i+k)
  ·rw[aI (by simp;omega),aB (eT (by omega) (by omega)),decide_eq_true h4,Bool.and_true];cases hr:s.drop (i+k)with
   |nil=>have:=congrArg List.length hr;simp only[List.length_drop,List.length_nil]at this;omega
   |cons c t =>
    obtain⟨hr2,_⟩:=yR hr;have e0:aR 0 s ((i:Int)+(k:Int))=c:=wD (i:=i+k) (j:=0) (by rw[hr];rfl);rw[e0,(cI c).2.2.2.2.2.2.2.1];cases t with
    |nil=>have:=congrArg List.length hr;simp only[List.length_drop,List.length_nil,List.length_cons]at this;omega
    |cons d t =>
     have e1:aR 0 s ((i:Int)+(k:Int)+1)=d:=wD (i:=i+k) (j:=1) (by rw[hr];rfl);simp only[List.isPrefixOf,Bool.and_true];cases h45:(45==c)
     ·simp only[aZ,Bool.false_and,cond_false,fC];exact J8f _ rfl
     ·simp only[bQ,Bool.true_and,fC];rw[aB (eT (by omega) (by omega)),e1,bne,(cI d).2.2.2.2.2.2.1];cases h93:(93==d)
      case true =>
       simp only[Bool.not_true,cond_false];exact J8f _ rfl
      simp only[Bool.not_false,cond_true];unfold gN;simp only[bQ];rw[aW (x:=(i:Int)+(k:Int)+1) (by omega) (by omega),show(i:Int)+(k:Int)+1=((i+k+1:Nat):Int)from rfl,zCk (by omega) hs];rw[List.drop_drop,show i+(k+1)=i+k+1 by omega];simp only[aK];cases h5:tC false true (s.drop (i+k+1))with
      |none=>rfl
      |some y =>
       obtain⟨b,m,is⟩:=y;have hm:=Kl h5;rw[List.length_drop]at hm;simp only[Rn];rw[aC (by simp;omega)];cases is
       ·simp only[Bool.not_false,bQ,Bool.and_false,Bool.false_and,cond_false]
       cases may
       ·simp only[Bool.not_false,bQ,Bool.not_true,aZ,Bool.false_and,cond_false]
       rw[aC (b:=!true) rfl,aC (b:=!true) rfl];by_cases hba:b.toNat<a.toNat
       ·rw[aI (by exact decide_eq_true (by omega)),decide_eq_true hba];rfl
       ·have hR2:dR n ((a.toNat:Int),(b.toNat:Int))=some (bx (dA a.toNat b.toNat)):=zQ hn a.toNat_lt b.toNat_lt;rw[aC (by exact decide_eq_false (by omega)),decide_eq_false hba,hR2];simp only[aK,Bool.not_false,Bool.and_true,cond_true];rw[Ji hn,aW (x:=1+(m:Int)) (by omega) (by omega),aW (by omega) (by omega)];simp only[aK];rw[show(i:Int)+(k:Int)+(1+(m:Int))=((i+(k+1+m):Nat):Int)by omega]
  ·rw[aC (by simp;omega),decide_eq_false h4,Bool.and_false];simp only[fC,cond_false];exact J8f _ rfl
def qV:Nat->Bool->(Nat->Bool)->List UInt8->Option ((Nat->Bool) × Nat)
 |0,_,_,_=>none
 |f+1,first,q,r =>
  bif [93].isPrefixOf r&&!first then some (q,1)
  else match Bv first r with
   |none=>none
   |some (p,k)=>match qV f false (λj=>q j||p j) (r.drop k)with
    |none=>none
    |some (x,m)=>some (x,k+m)
def gM (p:Nat->Bool):Bool:=(List.range 256).all fun i=>!p i
def Gi(s:List UInt8):Option ((Nat->Bool) × Nat):=
 bif [91].isPrefixOf s then
  let no:=[94].isPrefixOf (s.drop 1)
  let i:=bif no then 2 else 1
  match qV (s.length+1) true (λ_=>false) (s.drop i)with
  |none=>none
  |some (p,k)=>
   let p':=bif no then(λj=>!p j)else p
   bif gM p' then none else some (p',i+k)
 else none
theorem zXr:∀ {f:Nat}{first:Bool}{q:Nat->Bool}{r:List UInt8}{p:Nat->Bool}{k:Nat},qV f first q r=some (p,k)->1<=k/\k<=r.length
 |0,_,_,_,_,_,h=>absurd h (by simp[qV])
 |f+1,first,q,r,p,k,h=>by
  unfold qV at h;cases h0:[93].isPrefixOf r&&!first<;>simp only[h0,cond_true,cond_false]at h
  ·cases h1:Bv first r with
   |none=>rw[h1]at h;exact absurd h (by simp)
   |some x =>
    obtain⟨p1,k1⟩:=x;rw[h1]at h;simp only at h;have hk1:=zCl h1;cases h2:qV f false (λj=>q j||p1 j) (r.drop k1)with
    |none=>rw[h2]at h;exact absurd h (by simp)
    |some y =>
     obtain⟨p2,k2⟩:=y;rw[h2]at h;have hk2:=zXr h2;rw[List.length_drop]at hk2;simp only[aA,aF]at h;omega
  ·simp only[aH]at h0;have:=jX h0.1;simp only[List.length_cons,List.length_nil,aA,aF]at this h;omega
theorem zIm{s:List UInt8}{p:Nat->Bool}{k:Nat}(h:Gi s=some (p,k)):1<=k/\k<=s.length:=by
 unfold Gi at h;cases h0:[91].isPrefixOf s<;>simp only[h0,cond_true,cond_false]at h
 ·exact absurd h (by simp)
 ·cases h1:qV (s.length+1) true (λ_=>false) (s.drop (bif [94].isPrefixOf (s.drop 1)then 2 else 1))with
  |none=>rw[h1]at h;exact absurd h (by simp)
  |some x =>
   obtain⟨q,j⟩:=x;rw[h1]at h;have hj:=zXr h1;rw[List.length_drop]at hj;simp only at h;cases h2:gM (bif [94].isPrefixOf (s.drop 1)then(λj=>!q j)else q)<;>simp only[h2,cond_true,cond_false]at h
   ·simp only[aA,aF]at h;omega
   ·exact absurd h (by simp)
theorem qB{p:Nat->Bool}:Ty.beq (.arr 4 (.int .u64)) (wd p) [0,0,0,0]=gM p:=by
 rw[Bool.eq_iff_iff,<- rX,xAd,rX,yUx,gM,List.all_eq_true];simp
theorem zCm{p:Nat->Bool}:(((bG p).length:Int)==0)=gM p:=by
 rw[Bool.eq_iff_iff,gM,List.all_eq_true,beq_iff_eq];have:=@yAr p;rw[show(((bG p).length:Int)=0)<->(bG p).length=0 by omega,this];simp
def zCn(s:List UInt8)(i:Nat)(no:Bool)(o:Option ((Nat->Bool) × Nat))(e:Option (Sum (List Int × List UInt8 × Int × Unit) (Int × Int × List Int × List UInt8 × Int × Unit))):Prop:=match o with
 |some (p,k)=>bif gM (bif no then(λj=>!p j)else p)then ∃ a w,e=some (.inr (42,0,w,s,a,()))else e=some (.inl (wd (bif no then(λj=>!p j)else p),s,((i+k:Nat):Int),()))
 |none=>∃ a w,e=some (.inr (42,0,w,s,a,()))
theorem yNl{n:Nat}{s:List UInt8}{no:Bool}(hn:300<=n)(hs:s.length<1000000):∀ (f:Nat) (i m:Nat) (first:Bool) (q:Nat->Bool),i<=s.length->s.length-i<f->f<=m ->
 zCn s i no (qV f first q (s.drop i)) (fix (mW n) m (no,first,wd q,s,(i:Int),())):=by
 intro f;induction f with
 |zero=>intro i m first q _ h;omega
 |succ f ih =>
  intro i m first q hi hf hm
  rw[bI (by omega),mW];simp only;have hO:∀ p:Nat->Bool,qN n [wd q,wd p]=some (wd λj=>q j||p j):=by
   intro p;have:=zQy (n:=n) [q,p] (by omega) (by simp;omega) (by simp);simpa using this
  have hpart:zCn s i no (match Bv first (s.drop i)with
   |none=>none
   |some (p,k)=>match qV f false (λj=>q j||p j) ((s.drop i).drop k)with
    |none=>none
    |some (x,m)=>some (x,k+m)) (ob2 (oO n (first,s,(i:Int),())) (λy13 =>
   ob (qN n [wd q,y13.1]) λy14 =>
   fix (mW n) (m-1) (no,false,y14,y13.2.1,y13.2.2.1,())) (λy13 =>
   some (.inr (y13.1,y13.2.1,wd q,y13.2.2.1,y13.2.2.2.1,())))):=by
   have hp:=yRb (n:=n) (first:=first) hn hi hs;cases h1:Bv first (s.drop i)with
   |none =>
    rw[h1]at hp;obtain⟨a,hp⟩:=hp;rw[hp];exact⟨_,_,rfl⟩
   |some x =>
    obtain⟨p,k⟩:=x;rw[h1]at hp;simp only[zMh]at hp;have hk:=zCl h1;rw[List.length_drop]at hk;rw[hp];simp only[yFz];rw[hO p];simp only[aK];have:=ih (i+k) (m-1) false (λj=>q j||p j) (by omega) (by omega) (by omega);rw[List.drop_drop];cases h2:qV f false (λj=>q j||p j) (s.drop (i+k))with
    |none=>rw[h2]at this;exact this
    |some y =>
     obtain⟨p2,k2⟩:=y;rw[h2]at this;simp only[zCn]at this ⊢;rw[show i+(k+k2)=i+k+k2 by omega];exact this
  unfold qV;cases first
  case true =>
   simp only[bQ,Bool.not_true,Bool.and_false,cond_false];exact hpart
  simp only[aZ,Bool.not_false,Bool.and_true];cases h0:[93].isPrefixOf (s.drop i)
  ·rw[qA hi h0];simp only[aK,Bool.not_false,bQ,cond_false];exact hpart
  ·rw[pY hi hs h0];simp only[aK,Bool.not_true,aZ,cond_true,zCn];cases no
   ·simp only[aZ,cond_false];cases hq:gM q
    ·simp only[cond_false];rw[aC (by exact qB.trans hq)];rfl
    ·simp only[cond_true];refine⟨((i+[93].length:Nat):Int),wd q,?_⟩;rw[aI (by exact qB.trans hq)];rfl
   ·simp only[bQ,cond_true,zMd (n:=n) (by omega),aK];cases hq:gM (λj=>!q j)
    ·simp only[cond_false];rw[aC (by exact qB.trans hq)];rfl
    ·simp only[cond_true];refine⟨((i+[93].length:Nat):Int),wd (λj=>!q j),?_⟩;rw[aI (by exact qB.trans hq)];rfl
def yNm:Option ((Nat->Bool)×Nat)->List Int×Int×Int | some (p,k)=>(wd p,((k:Nat):Int),0) | none=>([0,0,0,0],0,42)
theorem zOz{n:Nat}{s:List UInt8}(hn:400<=n)(hsn:s.length+10<n)(hs:s.length<1000000):tO n s=some (yNm (Gi s)):=by
 have hT:∀ e:Option (Sum (List Int × List UInt8 × Int × Unit) (Int × Int × List Int × List UInt8 × Int × Unit)),mI n ([0,0,0,0],s,0,())=e->tO n s=ob (ob2 e (λy=>some (0,0,y)) (λy=>some y)) λy1=>br (y1.1 != 0) (some ([0,0,0,0],0,y1.1)) (some (y1.2.2.1,y1.2.2.2.2.1,0)):=by
  intro e he;unfold tO iI;simp only;rw[he]
 have hB:∀ a w,mI n ([0,0,0,0],s,0,())=some (.inr (42,0,w,s,a,()))->tO n s=some ([0,0,0,0],0,42):=by
  intro a w h;rw[hT _ h];rfl
 have h0:mI n ([0,0,0,0],s,0,())=br (![91].isPrefixOf s) (some (.inr (42,0,[0,0,0,0],s,0,()))) (fix (mW n) n ([94].isPrefixOf (s.drop 1),true,wd (λ_=>false),s,((bif [94].isPrefixOf (s.drop 1)then 2 else 1:Nat):Int),())):=by
  unfold mI;simp only;rw[show(0:Int)=((0:Nat):Int)from rfl];cases h1:[91].isPrefixOf s
  ·rw[qA (by omega) (by rw[List.drop_zero];exact h1)];rfl
  ·rw[pY (by omega) hs (by rw[List.drop_zero];exact h1)];have hl:=jX h1;simp only[List.length_cons,List.length_nil]at hl;simp only[aK,Bool.not_true,aZ];rw[show 0+([91]:List UInt8).length=1 from rfl];cases h2:[94].isPrefixOf (s.drop 1)
   ·rw[qA (by omega) h2,rX];rfl
   ·rw[pY (by omega) hs h2,rX];rfl
 unfold Gi;cases h1:[91].isPrefixOf s
 ·rw[h1]at h0;simp only[Bool.not_false,bQ]at h0;rw[hB _ _ h0];rfl
 ·rw[h1]at h0;simp only[Bool.not_true,aZ]at h0;simp only[cond_true];have hi:(bif [94].isPrefixOf (s.drop 1)then 2 else 1)<=s.length:=by
   have hl:=jX h1;simp only[List.length_cons,List.length_nil]at hl;cases h2:[94].isPrefixOf (s.drop 1)
   ·simp only[cond_false];omega
   ·have hl2:=jX h2;rw[List.length_drop]at hl2;simp only[List.length_cons,List.length_nil]at hl2;simp only[cond_true];omega
  have hL:=yNl (n:=n) (s:=s) (no:=[94].isPrefixOf (s.drop 1)) (by omega) hs (s.length+1) _ n true (λ_=>false) hi (by omega) (by omega);rw[<- h0]at hL;cases h3:qV (s.length+1) true (λ_=>false) (s.drop (bif [94].isPrefixOf (s.drop 1)then 2 else 1))with
  |none =>
   rw[h3]at hL;obtain⟨a,w,hL⟩:=hL;rw[hB _ _ hL];rfl
  |some x =>
   obtain⟨p,k⟩:=x;rw[h3]at hL;simp only[zCn]at hL;simp only;cases h4:gM (bif [94].isPrefixOf (s.drop 1)then(λj=>!p j)else p)<;>rw[h4]at hL<;>simp only[cond_true,cond_false]at hL ⊢
   ·rw[hT _ hL];rfl
   ·obtain⟨a,w,hL⟩:=hL;rw[hB _ _ hL];rfl
def zCo:Option ((Nat->Bool)×Nat)->(Nat->Bool)×Int×Int | some (p,k)=>(p,((k:Nat):Int),0) | none=>(fun _=>false,0,42)
theorem yNn{n:Nat}{s:List UInt8}{no:Bool}{b1:List Bool}(hn:300<=n)(hsn:s.length<n)(hs:s.length<1000000):∀ (f:Nat) (i m:Nat) (first:Bool) (q:Nat->Bool),i<=s.length->s.length-i<f->f<=m ->
 fix (rF n) m (s,(i:Int),no,first,b1,bx (λ_=>false),bx q,())=match qV f first q (s.drop i)with
  |some (p,k)=>bif gM (bif no then(λj=>!p j)else p)then some (bx (λ_=>false),0,42)else some (bx (bif no then(λj=>!p j)else p),((i+k:Nat):Int),0)
  |none=>some (bx (λ_=>false),0,42):=by
 intro f;induction f with
 |zero=>intro i m first q _ h;omega
 |succ f ih =>
  intro i m first q hi hf hm
  rw[bI (by omega),rF];simp only;have hlen:(s.drop i).length=s.length-i:=List.length_drop;have hpart:jH n (fix (rF n) (m-1)) (s,(i:Int),no,first,b1,bx (λ_=>false),bx q,())=match (match Bv first (s.drop i)with
   |none=>none
   |some (p,k)=>match qV f false (λj=>q j||p j) ((s.drop i).drop k)with
    |none=>none
    |some (x,m)=>some (x,k+m))with
   |some (p,k)=>bif gM (bif no then(λj=>!p j)else p)then some (bx (λ_=>false),0,42)else some (bx (bif no then(λj=>!p j)else p),((i+k:Nat):Int),0)
   |none=>some (bx (λ_=>false),0,42):=by
   rw[yNk hn hsn hi hs];cases h1:Bv first (s.drop i)with
   |none=>rfl
   |some x =>
    obtain⟨p,k⟩:=x;have hk:=zCl h1;rw[List.length_drop]at hk;simp only;rw[ih (i+k) (m-1) false _ (by omega) (by omega) (by omega),List.drop_drop];cases h2:qV f false (λj=>q j||p j) (s.drop (i+k))with
    |none=>rfl
    |some y =>
     obtain⟨p2,k2⟩:=y;simp only;rw[show i+(k+k2)=i+k+k2 by omega]
  have J2:1<=(s.drop i).length->wY n (IntKind.wrap .i64 ((i:Int)+1),no,b1,bx (λ_=>false),bx q,())=bif gM (bif no then(λj=>!q j)else q)then some (bx (λ_=>false),0,42)else some (bx (bif no then(λj=>!q j)else q),((i+1:Nat):Int),0):=by
   intro h;rw[aW (by omega) (by omega)];unfold wY;simp only[fC];cases no
   ·simp only[aZ,cond_false,rC,Le hn,aK,zCm];cases gM q<;>rfl
   ·simp only[bQ,cond_true,zXo hn,rC,Le hn,aK,zCm];cases gM (λj=>!q j)<;>rfl
  rw[qV];cases hr:s.drop i with
  |nil =>
   rw[hr]at hlen hpart;simp only[List.length_nil]at hlen;rw[aC (by simp;omega),fC,hpart];rfl
  |cons c t =>
   rw[hr]at hlen hpart J2;simp only[List.length_cons]at hlen;have e0:aR 0 s (i:Int)=c:=wD (i:=i) (j:=0) (by rw[hr];rfl);rw[aI (by simp;omega),aB (fQ (by omega)),e0,(cI c).2.2.2.2.2.2.1,fC,fC];rw[show [93].isPrefixOf (c::t)=(93==c)by simp[List.isPrefixOf]];cases(93==c)
   ·simp only[aZ,Bool.false_and,cond_false];exact hpart
   ·cases first
    ·simp only[bQ,Bool.not_false,Bool.and_true,cond_true];exact J2 (by simp)
    ·simp only[bQ,aZ,Bool.not_true,Bool.and_false,cond_false];exact hpart
theorem zIn{n:Nat}{s:List UInt8}(hn:400<=n)(hsn:s.length+10<n)(hs:s.length<1000000):wJ n s=some (bx (zCo (Gi s)).1,(zCo (Gi s)).2.1,(zCo (Gi s)).2.2):=by
 unfold wJ Gi;simp only;cases s with
 |nil=>rw[aI (by rfl),<- Dq];rfl
 |cons c t =>
  rw[aC (by simp;omega),aB (eT (by omega) (by simp))];rw[show aR 0 (c::t) 0=c from rfl,bne,(cI c).1,fC,show [91].isPrefixOf (c::t)=(91==c)by simp[List.isPrefixOf]];cases(91==c)
  ·simp only[Bool.not_false,bQ,cond_false,<- Dq];rfl
  simp only[Bool.not_true,aZ,cond_true,List.drop_one,List.tail_cons];have J1:∀ (i:Nat) (no:Bool),i<=(c::t).length->mX n (c::t,(i:Int),no,List.replicate 256 false,List.replicate 256 false,())=match qV ((c::t).length+1) true (λ_=>false) ((c::t).drop i)with
   |some (p,k)=>bif gM (bif no then(λj=>!p j)else p)then some (bx (λ_=>false),0,42)else some (bx (bif no then(λj=>!p j)else p),((i+k:Nat):Int),0)
   |none=>some (bx (λ_=>false),0,42):=by
   intro i no hi;unfold mX;simp only;rw[<- Dq];exact yNn (by omega) (by omega) hs ((c::t).length+1) i n true _ hi (by omega) (by omega)
  have fin:∀ (i:Nat) (no:Bool),(match qV ((c::t).length+1) true (λ_=>false) ((c::t).drop i)with
   |some (p,k)=>bif gM (bif no then(λj=>!p j)else p)then some (bx (λ_=>false),0,42)else some (bx (bif no then(λj=>!p j)else p),((i+k:Nat):Int),0)
   |none=>some (bx (λ_=>false),0,42))=some (bx (zCo (match qV ((c::t).length+1) true (λ_=>false) ((c::t).drop i)with
    |none=>none
    |some (p,k)=>bif gM (bif no then(λj=>!p j)else p)then none else some (bif no then(λj=>!p j)else p,i+k))).1,(zCo (match qV ((c::t).length+1) true (λ_=>false) ((c::t).drop i)with
    |none=>none
    |some (p,k)=>bif gM (bif no then(λj=>!p j)else p)then none else some (bif no then(λj=>!p j)else p,i+k))).2.1,(zCo (match qV ((c::t).length+1) true (λ_=>false) ((c::t).drop i)with
    |none=>none
    |some (p,k)=>bif gM (bif no then(λj=>!p j)else p)then none else some (bif no then(λj=>!p j)else p,i+k))).2.2):=by
   intro i no;cases qV ((c::t).length+1) true (λ_=>false) ((c::t).drop i)with
   |none=>rfl
   |some x =>
    obtain⟨p,k⟩:=x;simp only;cases gM (bif no then(λj=>!p j)else p)<;>rfl
  unfold Gr;simp only[fC];cases t with
  |nil =>
   rw[aC (by simp),show(1:Int)=((1:Nat):Int)from rfl,J1 1 false (by simp),fin];rfl
  |cons d t =>
   rw[aI (by simp;omega),aB (eT (by omega) (by simp;omega)),show aR 0 (c::d::t) 1=d from rfl,(cI d).2.2.2.2.2.2.2.2,show [94].isPrefixOf (d::t)=(94==d)by simp[List.isPrefixOf]];cases(94==d)
   ·simp only[aZ,cond_false];rw[show(1:Int)=((1:Nat):Int)from rfl,J1 1 false (by simp),fin];rfl
   ·simp only[bQ,cond_true];rw[show IntKind.wrap .i64 (1+1)=((2:Nat):Int)from rfl,J1 2 true (by simp),fin];rfl
end Go.Dec
