/- Part of a proof over this seat: a library of my own, and what it says of this seat. No statement is proved here. -/
import Derived.Test.YtfbilefiaminnaaGreatDoorPartBM
namespace Go.Dec
theorem Xt{n:Nat}{r t:List UInt8}:strings_HasPrefix n (r,t)=some (t.isPrefixOf r):=by
 unfold strings_HasPrefix iB;simp only;by_cases h:t.length<=r.length
 ·rw[bC (by simp;omega),aM (by simp;omega)];simp only[aN,Int.toNat_natCast];congr 1;rw[Bool.eq_iff_iff,List.isPrefixOf_iff_prefix,List.prefix_iff_eq_take,beq_iff_eq];exact eq_comm
 ·rw[aO (by simp;omega)];simp only[aN];congr 1
  symm
  rw[Bool.eq_false_iff,ne_eq,List.isPrefixOf_iff_prefix];intro hp;have:=hp.length_le;omega
theorem qE{n:Nat}{s t:List UInt8}{i:Nat}(hi:i<=s.length):gD n (t,s,(i:Int),())=some (t.isPrefixOf (s.drop i),s,(i:Int),()):=by
 unfold gD;simp only;rw[aM (by simp;omega),Xt];rfl
theorem lU{r t:List UInt8}(h:t.isPrefixOf r=true):t.length<=r.length:=by
 rw[List.isPrefixOf_iff_prefix]at h;exact h.length_le
theorem uU{n:Nat}{s t:List UInt8}{i:Nat}(hi:i<=s.length)(hs:s.length<1000000)(h:t.isPrefixOf (s.drop i)=true):fM n (t,s,(i:Int),())=some (true,s,((i+t.length:Nat):Int),()):=by
 have hl:=lU h;rw[List.length_drop]at hl;unfold fM;simp only;rw[qE hi];simp only[aN,h,Bool.not_true,bO];rw[bI (by omega) (by omega)];rfl
theorem uV{n:Nat}{s t:List UInt8}{i:Nat}(hi:i<=s.length)(h:t.isPrefixOf (s.drop i)=false):fM n (t,s,(i:Int),())=some (false,s,(i:Int),()):=by
 unfold fM;simp only;rw[qE hi];simp only[aN,h,Bool.not_false,dO]
theorem eqI{c:UInt8}(k:UInt8):((c.toNat:Int)==(k.toNat:Int))=(k==c):=by
 rw[Bool.eq_iff_iff,beq_iff_eq,beq_iff_eq,Int.ofNat_inj,UInt8.toNat_inj];exact eq_comm
theorem zFb{s:List UInt8}{i j:Nat}{d c:UInt8}(h:(s.drop i)[j]?=some c):aV d s ((i+j:Nat):Int)=c:=by
 rw[List.getElem?_drop]at h;unfold aV;rw[Int.toNat_natCast,List.getD_eq_getElem?_getD,h];rfl
theorem Rv{s t:List UInt8}{i:Nat}{a:UInt8}(h:s.drop i=a::t):s.drop (i+1)=t/\i<s.length:=by
 refine⟨?_,?_⟩
 ·rw[<- List.drop_drop,h];rfl
 ·have:=congrArg List.length h;rw[List.length_drop,List.length_cons]at this;omega
theorem xAu{r:List UInt8}{a b:UInt8}(h:[a,b].isPrefixOf r=true):∃ t,r=a::b::t:=by
 rw[List.isPrefixOf_iff_prefix]at h;obtain⟨t,rfl⟩:=h;exact⟨t,rfl⟩
theorem xEx{r:List UInt8}{a:UInt8}(h:[a].isPrefixOf r=true):∃ t,r=a::t:=by
 rw[List.isPrefixOf_iff_prefix]at h;obtain⟨t,rfl⟩:=h;exact⟨t,rfl⟩
def Jc (x:UInt8) (b:Bool):List UInt8->Option (UInt8×Nat×Bool) | _ :: _ :: c :: t=>bif [x,93].isPrefixOf t then some (c,5,b) else none | _=>none
def Qj(first ends:Bool)(r:List UInt8):Option (UInt8 × Nat × Bool):=
 bif [91,46].isPrefixOf r then Jc 46 true r
 else bif [91,61].isPrefixOf r then Jc 61 false r
 else bif [92,110].isPrefixOf r then some (10,2,true)
 else bif [91,58].isPrefixOf r then none
 else bif [93].isPrefixOf r&&!first then none
 else bif [45].isPrefixOf r&&!first&&!ends&&!([45,93].isPrefixOf r)then none
 else match r with|[]=>none|c::_=>some (c,1,true)
theorem yOu{x:UInt8}{b:Bool}{c:UInt8}{k:Nat}{m:Bool}:∀ {r:List UInt8},Jc x b r=some (c,k,m)->1<=k/\k<=r.length
 |[],h=>absurd h (by simp[Jc])
 |[_],h=>absurd h (by simp[Jc])
 |[_,_],h=>absurd h (by simp[Jc])
 |_::_::d::t,h=>by
  unfold Jc at h;cases hp:[x,93].isPrefixOf t<;>simp only[hp,cond_true,cond_false]at h
  ·exact absurd h (by simp)
  ·have:=lU hp;simp only[List.length_cons,List.length_nil,aA,aB]at this h ⊢;omega
theorem zJj{first ends:Bool}{r:List UInt8}{c:UInt8}{k:Nat}{m:Bool}(h:Qj first ends r=some (c,k,m)):1<=k/\k<=r.length:=by
 have mk:∀ {x:UInt8}{b:Bool},Jc x b r=some (c,k,m)->1<=k/\k<=r.length:=λh=>yOu h
 unfold Qj at h;cases h1:[91,46].isPrefixOf r<;>simp only[h1,cond_true,cond_false]at h
 ·cases h2:[91,61].isPrefixOf r<;>simp only[h2,cond_true,cond_false]at h
  ·cases h3:[92,110].isPrefixOf r<;>simp only[h3,cond_true,cond_false]at h
   ·cases h4:[91,58].isPrefixOf r<;>simp only[h4,cond_true,cond_false]at h
    ·cases h5:[93].isPrefixOf r&&!first<;>simp only[h5,cond_true,cond_false]at h
     ·cases h6:[45].isPrefixOf r&&!first&&!ends&&!([45,93].isPrefixOf r)<;>simp only[h6,cond_true,cond_false]at h
      ·split at h
       ·exact absurd h (by simp)
       ·simp only[aA,aB,List.length_cons]at h ⊢;omega
      ·exact absurd h (by simp)
     ·exact absurd h (by simp)
    ·exact absurd h (by simp)
   ·have:=lU h3;simp only[List.length_cons,List.length_nil,aA,aB]at this h;omega
  ·exact mk h
 ·exact mk h
def Ip(s:List UInt8)(i:Nat)(o:Option (UInt8 × Nat × Bool))(e:Option (Sum (Int × Bool × List UInt8 × Int × Unit) (Int × Int × List UInt8 × Int × Unit))):Prop:=match o with
 |some (c,k,m)=>e=some (.inl ((c.toNat:Int),m,s,((i+k:Nat):Int),()))
 |none=>∃ a,e=some (.inr (42,0,s,a,()))
theorem Bz{n:Nat}{x:List UInt8 × Int × Unit}:bU n x=some (.inr (42,0,x)):=rfl
theorem zMj{n:Nat}{s:List UInt8}{i:Nat}{mk:UInt8}{t:List UInt8}(hi:i<=s.length)(hs:s.length<1000000)(hr:s.drop i=91::mk::t):Ip s i (Jc mk ([mk]==[46]) (s.drop i))
  (br ((s.length:Int)==((i+2:Nat):Int)) (ob2 (bU n (s,((i+2:Nat):Int),())) (λy17=>none) (λy17=>some (.inr (y17.1,y17.2.1,y17.2.2.1,y17.2.2.2.1,()))))
   (chk ((decide (0<=IntKind.wrap .i64 (((i+2:Nat):Int)+1))&&decide (IntKind.wrap .i64 (((i+2:Nat):Int)+1)<=(s.length:Int)))) (
    chk (decide (([mk]:List UInt8).length+([93]:List UInt8).length<=qK)) (
     ob (strings_HasPrefix n (s.drop (IntKind.wrap .i64 (((i+2:Nat):Int)+1)).toNat,[mk]++[93])) λy19 =>
     br (!y19) (
      ob2 (bU n (s,((i+2:Nat):Int),())) (λy20 =>
       none) (λy20 =>
       some (.inr (y20.1,y20.2.1,y20.2.2.1,y20.2.2.2.1,())))) (
      jn (xY n) ([mk],s,((i+2:Nat):Int),())))))):=by
 obtain⟨h1,h1'⟩:=Rv hr;obtain⟨h2,h2'⟩:=Rv h1;have hlen:s.length=i+2+t.length:=by
  have:=congrArg List.length hr;simp only[List.length_drop,List.length_cons]at this;omega
 rw[hr];cases t with
 |nil =>
  simp only[List.length_nil]at hlen;rw[bC (by simp;omega),Bz];simp only[oK,Ip,Jc];exact⟨_,rfl⟩
 |cons c t =>
  simp only[List.length_cons]at hlen;obtain⟨h3,h3'⟩:=Rv h2;rw[aO (by simp;omega)];have hw:IntKind.wrap .i64 (((i+2:Nat):Int)+1)=((i+1+1+1:Nat):Int):=by rw[bI (by omega) (by omega)];omega
  rw[hw,aM (by simp;omega),aM (by simp[qK]),Int.toNat_natCast,h3,Xt];simp only[aN,List.cons_append,List.nil_append];cases hp:[mk,93].isPrefixOf t
  ·simp only[Bool.not_false,dO,Bz,oK,cond_false,Ip,Jc,hp];exact⟨_,rfl⟩
  ·simp only[Bool.not_true,bO,cond_true,Ip,zJg,xY,Jc,hp];have:=lU hp;simp only[List.length_cons,List.length_nil]at this;rw[aM (Hl (by omega)),bI (by omega) (by omega),show((i+2:Nat):Int)=((i+2:Nat):Int)from rfl,zFb (c:=c) (by rw[hr];rfl)];rfl
theorem zRq{n:Nat}{s:List UInt8}{i:Nat}{first ends:Bool}(hn:3<=n)(hi:i<=s.length)(hs:s.length<1000000):Ip s i (Qj first ends (s.drop i)) (rC n (first,ends,s,(i:Int),())):=by
 obtain⟨m,rfl⟩:∃ m,n=m+3:=⟨n-3,by omega⟩;have hlen:(s.drop i).length=s.length-i:=List.length_drop;have hin:∀ {t:List UInt8},t.isPrefixOf (s.drop i)=true->i+t.length<=s.length:=λh=>by have:=lU h;omega
 unfold rC Qj;simp only;rw[En,rQ];simp only;rw[bC (by rfl),aM (by rfl),aM (by rfl),aM (by rfl)];rw[show [91]++List.getD [[46],[61]] (0+Int.toNat 0) (Ty.dflt .str)=([91,46]:List UInt8)from rfl,show List.getD [[46],[61]] (0+Int.toNat 0) (Ty.dflt .str)=([46]:List UInt8)from rfl];cases h1:[91,46].isPrefixOf (s.drop i)
 case true =>
  obtain⟨t,ht⟩:=xAu h1;rw[uU hi hs h1];simp only[aN,Bool.not_true,bO,cond_true];exact zMj hi hs ht
 rw[uV hi h1];simp only[aN,Bool.not_false,dO,cond_false];rw[show IntKind.wrap .i64 (0+1)=1 from rfl,En,rQ];simp only;rw[bC (by rfl),aM (by rfl),aM (by rfl),aM (by rfl)];rw[show [91]++List.getD [[46],[61]] (0+Int.toNat 1) (Ty.dflt .str)=([91,61]:List UInt8)from rfl,show List.getD [[46],[61]] (0+Int.toNat 1) (Ty.dflt .str)=([61]:List UInt8)from rfl];cases h2:[91,61].isPrefixOf (s.drop i)
 case true =>
  obtain⟨t,ht⟩:=xAu h2;rw[uU hi hs h2];simp only[aN,Bool.not_true,bO,cond_true];exact zMj hi hs ht
 rw[uV hi h2];simp only[aN,Bool.not_false,dO,cond_false];rw[show IntKind.wrap .i64 (1+1)=2 from rfl,En,rQ];simp only;rw[aO (by rfl)];cases h3:[92,110].isPrefixOf (s.drop i)
 case true =>
  rw[uU hi hs h3];simp only[aN,dO,cond_true,Ip];rfl
 rw[uV hi h3];have xCx:∀ {c:UInt8}{t:List UInt8},s.drop i=c::t->mZ (m+3) (s,(i:Int),())=some (.inl ((c.toNat:Int),true,s,((i+1:Nat):Int),())):=by
  intro c t hr;obtain⟨_,h⟩:=Rv hr;unfold mZ;simp only;have e:IntKind.wrap .i64 (IntKind.wrap .i64 ((i:Int)+1)-1)=((i+0:Nat):Int):=by
   rw[bI (x:=(i:Int)+1) (by omega) (by omega),bI (by omega) (by omega)];omega
  rw[e,aM (Hl (by omega)),zFb (c:=c) (by rw[hr];rfl),bI (by omega) (by omega)];rfl
 have zYk:∀ bare:Bool,Ip s i (bif [91,58].isPrefixOf (s.drop i)then none
  else bif [93].isPrefixOf (s.drop i)&&!first then none
  else bif bare then none
  else match s.drop i with|[]=>none|c::_=>some (c,1,true)) (jW (m+3) (first,bare,s,(i:Int),())):=by
  intro bare;unfold jW;simp only;cases hr:s.drop i with
  |nil =>
   rw[hr]at hlen;simp only[List.length_nil]at hlen;rw[bC (by simp;omega),Bz];simp only[oK];cases first<;>cases bare<;>exact⟨_,rfl⟩
  |cons c t =>
   obtain⟨_,hlt⟩:=Rv hr;rw[aO (by simp;omega),qE hi];simp only[aN];rw[<- hr];cases h4:[91,58].isPrefixOf (s.drop i)
   case true =>
    simp only[dO,Bz,oK,cond_true];exact⟨_,rfl⟩
   simp only[bO,cond_false];rw[qE hi];simp only[aN];have hb:Ip s i (bif bare then none else some (c,1,true)) (br bare (
    ob2 (bU (m+3) (s,(i:Int),())) (λy40=>none) (λy40=>some (.inr (y40.1,y40.2.1,y40.2.2.1,y40.2.2.2.1,())))) (
    jn (mZ (m+3)) (s,(i:Int),()))):=by
    cases bare
    ·simp only[bO,cond_false,zJg];rw[xCx hr];rfl
    ·simp only[dO,cond_true,Bz,oK];exact⟨_,rfl⟩
   cases h5:[93].isPrefixOf (s.drop i)
   ·simp only[bO,Bool.false_and,cond_false];exact hb
   ·cases first
    ·simp only[dO,Bool.not_false,Bool.true_and,cond_true,Bz,oK];exact⟨_,rfl⟩
    ·simp only[dO,bO,Bool.not_true,Bool.and_false,cond_false];exact hb
 simp only[aN,bO,cond_false];rw[qE hi];simp only[aN];cases h6:[45].isPrefixOf (s.drop i)
 ·simp only[bO,Bool.false_and];exact zYk false
 simp only[dO,Bool.true_and];cases first
 ·simp only[Bool.not_false,dO,Bool.true_and];cases ends
  ·simp only[Bool.not_false,dO,Bool.true_and];rw[qE hi];simp only[aN];exact zYk _
  ·simp only[Bool.not_true,bO,Bool.false_and];exact zYk false
 ·simp only[Bool.not_true,bO,Bool.false_and];exact zYk false
theorem zUe(a b:UInt8):(a==b)=(b==a):=by rw[Bool.eq_iff_iff,beq_iff_eq,beq_iff_eq];exact eq_comm
def Pj:List UInt8->Option Nat | []=>none | c :: r=>bif [58,93].isPrefixOf (c :: r) then some 0 else (Pj r).map (·+1)
theorem zJk:∀ {r:List UInt8}{k:Nat},Pj r=some k->[58,93].isPrefixOf (r.drop k)=true/\k+2<=r.length
 |[],k,h=>absurd h (by simp[Pj])
 |c::r,k,h=>by
  unfold Pj at h;cases hp:[58,93].isPrefixOf (c::r)<;>simp only[hp,cond_true,cond_false]at h
  ·cases hk:Pj r with
   |none=>rw[hk]at h;exact absurd h (by simp)
   |some j =>
    rw[hk]at h;simp only[Option.map_some,aA]at h;subst h;obtain⟨h1,h2⟩:=zJk hk;exact⟨h1,by simp only[List.length_cons];omega⟩
  ·simp only[aA]at h;subst h;exact⟨hp,by have:=lU hp;simpa using this⟩
theorem zVs:∀ r:List UInt8,Go.Lib.index r [58,93]=match Pj r with|some k=>((k:Nat):Int)|none=>-1
 |[]=>by rfl
 |c::r=>by
  have ih:=zVs r;rw[Go.Lib.index,Pj];cases hp:[58,93].isPrefixOf (c::r)
  ·simp only[Bool.false_eq_true,if_false,cond_false];rw[ih];cases Pj r with
   |none=>rfl
   |some k =>
    simp only[Option.map_some];rw[if_neg (by simp)];rfl
  ·rfl
theorem yXi(r:List UInt8):Go.Lib.cut r [58,93]=match Pj r with|some k=>(r.take k,r.drop (k+2),true)|none=>(r,[],false):=by
 unfold Go.Lib.cut;rw[zVs];cases Pj r with
 |none=>rfl
 |some k=>simp
def Zl(first:Bool)(r:List UInt8):Option ((Nat->Bool) × Nat):=
 bif [91,58].isPrefixOf r then
  match Pj (r.drop 2)with
  |none=>none
  |some k=>match zCv ((r.drop 2).take k)with
   |some p=>some (p,k+4)
   |none=>none
 else match Qj first false r with
  |none=>none
  |some (a,k,may)=>
   bif [45].isPrefixOf (r.drop k)&&!([45,93].isPrefixOf (r.drop k))&&decide (1<(r.drop k).length)then
    match Qj false true (r.drop (k+1))with
    |none=>none
    |some (b,m,is)=>bif may&&is&&!(decide (b.toNat<a.toNat))then some (dI a.toNat b.toNat,k+1+m)else none
   else some (dI a.toNat a.toNat,k)
theorem zVt{first:Bool}{r:List UInt8}{p:Nat->Bool}{k:Nat}(h:Zl first r=some (p,k)):1<=k/\k<=r.length:=by
 unfold Zl at h;cases h0:[91,58].isPrefixOf r<;>simp only[h0,cond_true,cond_false]at h
 ·cases h1:Qj first false r with
  |none=>rw[h1]at h;exact absurd h (by simp)
  |some x =>
   obtain⟨a,j,may⟩:=x;have hl:=zJj h1;rw[h1]at h;simp only at h;cases h2:[45].isPrefixOf (r.drop j)&&!([45,93].isPrefixOf (r.drop j))&&decide (1<(r.drop j).length)<;>simp only[h2,cond_true,cond_false]at h
   ·simp only[aA,aB]at h;omega
   ·cases h3:Qj false true (r.drop (j+1))with
    |none=>rw[h3]at h;exact absurd h (by simp)
    |some y =>
     obtain⟨b,m,is⟩:=y;have hl3:=zJj h3;rw[h3]at h;simp only at h;rw[List.length_drop]at hl3;cases h4:may&&is&&!(decide (b.toNat<a.toNat))<;>simp only[h4,cond_true,cond_false]at h
     ·exact absurd h (by simp)
     ·simp only[aA,aB]at h;omega
 ·cases h1:Pj (r.drop 2)with
  |none=>rw[h1]at h;exact absurd h (by simp)
  |some j =>
   rw[h1]at h;simp only at h;have:=(zJk h1).2;rw[List.length_drop]at this;cases h2:zCv ((r.drop 2).take j)with
   |none=>rw[h2]at h;exact absurd h (by simp)
   |some q =>
    rw[h2]at h;simp only[aA,aB]at h;omega
def zRr(s:List UInt8)(i:Nat)(o:Option ((Nat->Bool) × Nat))(e:Option (Sum (List Int × List UInt8 × Int × Unit) (Int × Int × List UInt8 × Int × Unit))):Prop:=match o with
 |some (p,k)=>e=some (.inl (wd p,s,((i+k:Nat):Int),()))
 |none=>∃ a,e=some (.inr (42,0,s,a,()))
theorem yXj{n:Nat}{s:List UInt8}{i:Nat}{first:Bool}(hn:300<=n)(hi:i<=s.length)(hs:s.length<1000000):zRr s i (Zl first (s.drop i)) (tC n (first,s,(i:Int),())):=by
 unfold tC Zl;simp only;cases h0:[91,58].isPrefixOf (s.drop i)
 case true =>
  have hl:=lU h0;simp only[List.length_drop,List.length_cons,List.length_nil]at hl;rw[uU hi hs h0];simp only[aN,dO,cond_true];rw[aM (by simp;omega),Int.toNat_natCast,strings_Cut,aM (by simp;omega),show([91,58]:List UInt8).length=2 from rfl];simp only[aN];rw[yXi,List.drop_drop];have hC:=yLm (n:=n) hn;cases h1:Pj (s.drop (i+2))with
  |none =>
   simp only;have h2:=hC (s.drop (i+2));have yVd:∀ (w:Bool),∀ (x:List Int),∃ a,(ob (ρ:=Sum (List Int × List UInt8 × Int × Unit) (Int × Int × List UInt8 × Int × Unit)) (some (x,w)) λy8 =>
    br (!y8.2) (
    ob2 (bU n (s,IntKind.wrap .i64 (((i+2:Nat):Int)+((s.drop (i+2)).length:Int)),())) (λy9 =>
     none) (λy9 =>
     some (.inr (y9.1,y9.2.1,y9.2.2.1,y9.2.2.2.1,())))) (
    ob (fM n ([58,93],s,IntKind.wrap .i64 (((i+2:Nat):Int)+((s.drop (i+2)).length:Int)),())) λy10 =>
    br (!y10.1) (
     ob2 (bU n (y10.2.1,y10.2.2.1,())) (λy11 =>
      none) (λy11 =>
      some (.inr (y11.1,y11.2.1,y11.2.2.1,y11.2.2.2.1,())))) (
     some (.inl (y8.1,y10.2.1,y10.2.2.1,())))))=some (.inr (42,0,s,a,())):=by
    intro w x;simp only[aN];cases w
    ·simp only[Bool.not_false,dO,Bz,oK];exact⟨_,rfl⟩
    ·simp only[Bool.not_true,bO];have e:IntKind.wrap .i64 (((i+2:Nat):Int)+((s.drop (i+2)).length:Int))=((s.length:Nat):Int):=by
      rw[List.length_drop,bI (by omega) (by omega)];omega
     rw[e,uV (aP _) (by simp)];simp only[aN,Bool.not_false,dO,Bz,oK];exact⟨_,rfl⟩
   cases hc:zCv (s.drop (i+2))with
   |none=>rw[hc]at h2;rw[h2.1];exact yVd _ _
   |some p=>rw[hc]at h2;rw[h2.1];exact yVd _ _
  |some k =>
   simp only;obtain⟨k1,k2⟩:=zJk h1;rw[List.length_drop]at k2;rw[List.drop_drop]at k1;have h2:=hC ((s.drop (i+2)).take k);have e:IntKind.wrap .i64 (((i+2:Nat):Int)+(((s.drop (i+2)).take k).length:Int))=((i+2+k:Nat):Int):=by
    rw[List.length_take,List.length_drop,bI (by omega) (by omega)];omega
   rw[e];cases hc:zCv ((s.drop (i+2)).take k)with
   |none =>
    rw[hc]at h2;rw[h2.1];simp only[aN,Bool.not_false,dO,Bz,oK];exact⟨_,rfl⟩
   |some p =>
    rw[hc]at h2;rw[h2.1];simp only[aN,Bool.not_true,bO];rw[uU (by omega) hs k1];simp only[aN,Bool.not_true,bO,zRr];rw[show i+2+k+([58,93]:List UInt8).length=i+(k+4)by simp;omega]
 rw[uV hi h0];simp only[aN,bO,cond_false];have hE:=zRq (n:=n) (first:=first) (ends:=false) (by omega) hi hs;cases h1:Qj first false (s.drop i)with
 |none =>
  rw[h1]at hE;obtain⟨a,hE⟩:=hE;rw[hE];simp only[oK];exact⟨_,rfl⟩
 |some x =>
  obtain⟨a,k,may⟩:=x;rw[h1]at hE;simp only[Ip]at hE;rw[hE];have hk:=zJj h1;rw[List.length_drop]at hk;simp only[Uy];have hik:i+k<=s.length:=by omega
  have hR:dW n ((a.toNat:Int),(a.toNat:Int))=some (wd (dI a.toNat a.toNat)):=Mw hn a.toNat_lt a.toNat_lt;rw[qE hik,hR,List.drop_drop];simp only[aN];cases h2:[45].isPrefixOf (s.drop (i+k))
  ·simp only[Bool.not_false,dO,Bool.false_and,cond_false];rfl
  simp only[Bool.not_true,bO,Bool.true_and];rw[qE hik];simp only[aN];cases h3:[45,93].isPrefixOf (s.drop (i+k))
  case true=>simp only[dO,Bool.not_true,Bool.false_and,cond_false];rfl
  simp only[bO,Bool.not_false,Bool.true_and];have hp:=lU h2;rw[List.length_drop]at hp ⊢;simp only[List.length_cons,List.length_nil]at hp;rw[bI (by omega) (by omega)];by_cases h4:1<s.length-(i+k)
  ·rw[aO (by simp;omega),decide_eq_true h4];simp only[cond_true];have hE2:=zRq (n:=n) (first:=false) (ends:=true) (s:=s) (i:=i+k+1) (by omega) (by omega) hs;rw[show((i+k:Nat):Int)+1=((i+k+1:Nat):Int)from rfl];rw[List.drop_drop,show i+(k+1)=i+k+1 by omega];cases h5:Qj false true (s.drop (i+k+1))with
   |none =>
    rw[h5]at hE2;obtain⟨a,hE2⟩:=hE2;rw[hE2];simp only[oK];exact⟨_,rfl⟩
   |some y =>
    obtain⟨b,m,is⟩:=y;rw[h5]at hE2;simp only[Ip]at hE2;rw[hE2];simp only[Uy,Bz,oK];cases may
    ·simp only[Bool.not_false,dO,Bool.false_and,cond_false];exact⟨_,rfl⟩
    cases is
    ·simp only[Bool.not_false,dO,Bool.not_true,bO,Bool.and_false,Bool.false_and,cond_false];exact⟨_,rfl⟩
    have hR2:dW n ((a.toNat:Int),(b.toNat:Int))=some (wd (dI a.toNat b.toNat)):=Mw hn a.toNat_lt b.toNat_lt;rw[hR2,show decide ((b.toNat:Int)<(a.toNat:Int))=decide (b.toNat<a.toNat)by simp];cases decide (b.toNat<a.toNat)
    ·simp only[Bool.not_false,Bool.not_true,bO,Bool.and_true,cond_true,aN,zRr];rw[show i+(k+1+m)=i+k+1+m by omega]
    ·simp only[Bool.not_true,bO,dO,Bool.and_false,cond_false];exact⟨_,rfl⟩
  ·rw[bC (by simp;omega),decide_eq_false h4];rfl
def Tc:Nat->Bool->(Nat->Bool)->List UInt8->Option ((Nat->Bool) × Nat)
 |0,_,_,_=>none
 |f+1,first,q,r =>
  bif [93].isPrefixOf r&&!first then some (q,1)
  else match Zl first r with
   |none=>none
   |some (p,k)=>match Tc f false (λj=>q j||p j) (r.drop k)with
    |none=>none
    |some (x,m)=>some (x,k+m)
def Er (p:Nat->Bool):Bool:=(List.range 256).all fun i=>!p i
def zJl(s:List UInt8):Option ((Nat->Bool) × Nat):=
 bif [91].isPrefixOf s then
  let no:=[94].isPrefixOf (s.drop 1)
  let i:=bif no then 2 else 1
  match Tc (s.length+1) true (λ_=>false) (s.drop i)with
  |none=>none
  |some (p,k)=>
   let p':=bif no then(λj=>!p j)else p
   bif Er p' then none else some (p',i+k)
 else none
theorem yDa:∀ {f:Nat}{first:Bool}{q:Nat->Bool}{r:List UInt8}{p:Nat->Bool}{k:Nat},Tc f first q r=some (p,k)->1<=k/\k<=r.length
 |0,_,_,_,_,_,h=>absurd h (by simp[Tc])
 |f+1,first,q,r,p,k,h=>by
  unfold Tc at h;cases h0:[93].isPrefixOf r&&!first<;>simp only[h0,cond_true,cond_false]at h
  ·cases h1:Zl first r with
   |none=>rw[h1]at h;exact absurd h (by simp)
   |some x =>
    obtain⟨p1,k1⟩:=x;rw[h1]at h;simp only at h;have hk1:=zVt h1;cases h2:Tc f false (λj=>q j||p1 j) (r.drop k1)with
    |none=>rw[h2]at h;exact absurd h (by simp)
    |some y =>
     obtain⟨p2,k2⟩:=y;rw[h2]at h;have hk2:=yDa h2;rw[List.length_drop]at hk2;simp only[aA,aB]at h;omega
  ·simp only[aD]at h0;have:=lU h0.1;simp only[List.length_cons,List.length_nil,aA,aB]at this h;omega
theorem yDb{s:List UInt8}{p:Nat->Bool}{k:Nat}(h:zJl s=some (p,k)):1<=k/\k<=s.length:=by
 unfold zJl at h;cases h0:[91].isPrefixOf s<;>simp only[h0,cond_true,cond_false]at h
 ·exact absurd h (by simp)
 ·cases h1:Tc (s.length+1) true (λ_=>false) (s.drop (bif [94].isPrefixOf (s.drop 1)then 2 else 1))with
  |none=>rw[h1]at h;exact absurd h (by simp)
  |some x =>
   obtain⟨q,j⟩:=x;rw[h1]at h;have hj:=yDa h1;rw[List.length_drop]at hj;simp only at h;cases h2:Er (bif [94].isPrefixOf (s.drop 1)then(λj=>!q j)else q)<;>simp only[h2,cond_true,cond_false]at h
   ·simp only[aA,aB]at h;omega
   ·exact absurd h (by simp)
theorem Es{p:Nat->Bool}:Ty.beq (.arr 4 (.int .u64)) (wd p) [0,0,0,0]=Er p:=by
 rw[Bool.eq_iff_iff,<- wW,xEw,wW,xAt,Er,List.all_eq_true];simp
def zJm(s:List UInt8)(i:Nat)(no:Bool)(o:Option ((Nat->Bool) × Nat))(e:Option (Sum (List Int × List UInt8 × Int × Unit) (Int × Int × List Int × List UInt8 × Int × Unit))):Prop:=match o with
 |some (p,k)=>bif Er (bif no then(λj=>!p j)else p)then ∃ a w,e=some (.inr (42,0,w,s,a,()))else e=some (.inl (wd (bif no then(λj=>!p j)else p),s,((i+k:Nat):Int),()))
 |none=>∃ a w,e=some (.inr (42,0,w,s,a,()))
theorem yTb{n:Nat}{s:List UInt8}{no:Bool}(hn:300<=n)(hs:s.length<1000000):∀ (f:Nat) (i m:Nat) (first:Bool) (q:Nat->Bool),i<=s.length->s.length-i<f->f<=m ->
 zJm s i no (Tc f first q (s.drop i)) (fix (qM n) m (no,first,wd q,s,(i:Int),())):=by
 intro f;induction f with
 |zero=>intro i m first q _ h;omega
 |succ f ih =>
  intro i m first q hi hf hm
  rw[lT (by omega),qM];simp only;have hO:∀ p:Nat->Bool,vD n [wd q,wd p]=some (wd λj=>q j||p j):=by
   intro p;have:=zVr (n:=n) [q,p] (by omega) (by simp;omega) (by simp);simpa using this
  have hpart:zJm s i no (match Zl first (s.drop i)with
   |none=>none
   |some (p,k)=>match Tc f false (λj=>q j||p j) ((s.drop i).drop k)with
    |none=>none
    |some (x,m)=>some (x,k+m)) (ob2 (tC n (first,s,(i:Int),())) (λy13 =>
   ob (vD n [wd q,y13.1]) λy14 =>
   fix (qM n) (m-1) (no,false,y14,y13.2.1,y13.2.2.1,())) (λy13 =>
   some (.inr (y13.1,y13.2.1,wd q,y13.2.2.1,y13.2.2.2.1,())))):=by
   have hp:=yXj (n:=n) (first:=first) hn hi hs;cases h1:Zl first (s.drop i)with
   |none =>
    rw[h1]at hp;obtain⟨a,hp⟩:=hp;rw[hp];exact⟨_,_,rfl⟩
   |some x =>
    obtain⟨p,k⟩:=x;rw[h1]at hp;simp only[zRr]at hp;have hk:=zVt h1;rw[List.length_drop]at hk;rw[hp];simp only[Uy];rw[hO p];simp only[aN];have:=ih (i+k) (m-1) false (λj=>q j||p j) (by omega) (by omega) (by omega);rw[List.drop_drop];cases h2:Tc f false (λj=>q j||p j) (s.drop (i+k))with
    |none=>rw[h2]at this;exact this
    |some y =>
     obtain⟨p2,k2⟩:=y;rw[h2]at this;simp only[zJm]at this ⊢;rw[show i+(k+k2)=i+k+k2 by omega];exact this
  unfold Tc;cases first
  case true =>
   simp only[dO,Bool.not_true,Bool.and_false,cond_false];exact hpart
  simp only[bO,Bool.not_false,Bool.and_true];cases h0:[93].isPrefixOf (s.drop i)
  ·rw[uV hi h0];simp only[aN,Bool.not_false,dO,cond_false];exact hpart
  ·rw[uU hi hs h0];simp only[aN,Bool.not_true,bO,cond_true,zJm];cases no
   ·simp only[bO,cond_false];cases hq:Er q
    ·simp only[cond_false];rw[aO (by exact Es.trans hq)];rfl
    ·simp only[cond_true];refine⟨((i+[93].length:Nat):Int),wd q,?_⟩;rw[bC (by exact Es.trans hq)];rfl
   ·simp only[dO,cond_true,zRo (n:=n) (by omega),aN];cases hq:Er (λj=>!q j)
    ·simp only[cond_false];rw[aO (by exact Es.trans hq)];rfl
    ·simp only[cond_true];refine⟨((i+[93].length:Nat):Int),wd (λj=>!q j),?_⟩;rw[bC (by exact Es.trans hq)];rfl
def yTc:Option ((Nat->Bool)×Nat)->List Int×Int×Int | some (p,k)=>(wd p,((k:Nat):Int),0) | none=>([0,0,0,0],0,42)
theorem zUf{n:Nat}{s:List UInt8}(hn:400<=n)(hsn:s.length+10<n)(hs:s.length<1000000):xZ n s=some (yTc (zJl s)):=by
 have hT:∀ e:Option (Sum (List Int × List UInt8 × Int × Unit) (Int × Int × List Int × List UInt8 × Int × Unit)),qB n ([0,0,0,0],s,0,())=e->xZ n s=ob (ob2 e (λy=>some (0,0,y)) (λy=>some y)) λy1=>br (y1.1 != 0) (some ([0,0,0,0],0,y1.1)) (some (y1.2.2.1,y1.2.2.2.2.1,0)):=by
  intro e he;unfold xZ iN;simp only;rw[he]
 have hB:∀ a w,qB n ([0,0,0,0],s,0,())=some (.inr (42,0,w,s,a,()))->xZ n s=some ([0,0,0,0],0,42):=by
  intro a w h;rw[hT _ h];rfl
 have h0:qB n ([0,0,0,0],s,0,())=br (![91].isPrefixOf s) (some (.inr (42,0,[0,0,0,0],s,0,()))) (fix (qM n) n ([94].isPrefixOf (s.drop 1),true,wd (λ_=>false),s,((bif [94].isPrefixOf (s.drop 1)then 2 else 1:Nat):Int),())):=by
  unfold qB;simp only;rw[show(0:Int)=((0:Nat):Int)from rfl];cases h1:[91].isPrefixOf s
  ·rw[uV (by omega) (by rw[List.drop_zero];exact h1)];rfl
  ·rw[uU (by omega) hs (by rw[List.drop_zero];exact h1)];have hl:=lU h1;simp only[List.length_cons,List.length_nil]at hl;simp only[aN,Bool.not_true,bO];rw[show 0+([91]:List UInt8).length=1 from rfl];cases h2:[94].isPrefixOf (s.drop 1)
   ·rw[uV (by omega) h2,wW];rfl
   ·rw[uU (by omega) hs h2,wW];rfl
 unfold zJl;cases h1:[91].isPrefixOf s
 ·rw[h1]at h0;simp only[Bool.not_false,dO]at h0;rw[hB _ _ h0];rfl
 ·rw[h1]at h0;simp only[Bool.not_true,bO]at h0;simp only[cond_true];have hi:(bif [94].isPrefixOf (s.drop 1)then 2 else 1)<=s.length:=by
   have hl:=lU h1;simp only[List.length_cons,List.length_nil]at hl;cases h2:[94].isPrefixOf (s.drop 1)
   ·simp only[cond_false];omega
   ·have hl2:=lU h2;rw[List.length_drop]at hl2;simp only[List.length_cons,List.length_nil]at hl2;simp only[cond_true];omega
  have hL:=yTb (n:=n) (s:=s) (no:=[94].isPrefixOf (s.drop 1)) (by omega) hs (s.length+1) _ n true (λ_=>false) hi (by omega) (by omega);rw[<- h0]at hL;cases h3:Tc (s.length+1) true (λ_=>false) (s.drop (bif [94].isPrefixOf (s.drop 1)then 2 else 1))with
  |none =>
   rw[h3]at hL;obtain⟨a,w,hL⟩:=hL;rw[hB _ _ hL];rfl
  |some x =>
   obtain⟨p,k⟩:=x;rw[h3]at hL;simp only[zJm]at hL;simp only;cases h4:Er (bif [94].isPrefixOf (s.drop 1)then(λj=>!p j)else p)<;>rw[h4]at hL<;>simp only[cond_true,cond_false]at hL ⊢
   ·rw[hT _ hL];rfl
   ·obtain⟨a,w,hL⟩:=hL;rw[hB _ _ hL];rfl
end Go.Dec
namespace Go.Dec
abbrev Nd:Type:=Int × List Int × Int × Int × Int × Int × Int × Unit
abbrev RdT:Type:=List UInt8 × Int × Int × List Bool × List Nd × Unit
inductive Pt where
 |empty|bol|eol
 |bytes (p:Nat->Bool)
 |cat (a b:Pt)|alt (a b:Pt)
 |times (a:Pt) (lo hi:Int)
 |group (a:Pt) (n:Nat)
 |ref (n:Nat)
def Pt.sz:Pt->Nat | .cat a b=>a.sz+b.sz+1 | .alt a b=>a.sz+b.sz+1 | .times a _ _=>a.sz+1 | .group a _=>a.sz+1 | _=>1
theorem Pt.Bl:∀ t:Pt,1<=t.sz
 |.empty|.bol|.eol|.bytes _|.ref _=>aP _
 |.cat _ _|.alt _ _|.times _ _ _|.group _ _=>Nat.le_add_left _ _
def Pt.top (o:Nat) (t:Pt):Int:=((o+t.sz:Nat):Int) - 1
def Pt.enc (o:Nat):Pt->List Nd | .empty=>[(0,[0,0,0,0],0,0,0,0,0,())] | .bol=>[(2,[0,0,0,0],0,0,0,0,0,())] | .eol=>[(3,[0,0,0,0],0,0,0,0,0,())] | .bytes p=>[(1,wd p,0,0,0,0,0,())] | .cat a b=>a.enc o++b.enc (o+a.sz)++[(4,[0,0,0,0],a.top o,b.top (o+a.sz),0,0,0,())] | .alt a b=>a.enc o++b.enc (o+a.sz)++[(5,[0,0,0,0],a.top o,b.top (o+a.sz),0,0,0,())] | .times a lo hi=>a.enc o++[(6,[0,0,0,0],a.top o,0,lo,hi,0,())] | .group a n=>a.enc o++[(7,[0,0,0,0],a.top o,0,0,0,(n:Int),())] | .ref n=>[(8,[0,0,0,0],0,0,0,0,(n:Int),())]
theorem Pt.iU:∀ (t:Pt) (o:Nat),(t.enc o).length=t.sz
 |.empty,_|.bol,_|.eol,_|.bytes _,_|.ref _,_=>rfl
 |.cat a b,o=>by simp[Pt.enc,Pt.sz,Pt.iU a,Pt.iU b];omega
 |.alt a b,o=>by simp[Pt.enc,Pt.sz,Pt.iU a,Pt.iU b];omega
 |.times a _ _,o=>by simp[Pt.enc,Pt.sz,Pt.iU a]
 |.group a _,o=>by simp[Pt.enc,Pt.sz,Pt.iU a]
inductive Res (α:Type) where
 |ok (a:α) (r:List UInt8) (b:Nat) (en:List Bool)
 |er (e k:Nat)
def zR (r:List UInt8):Bool:=r.isEmpty||[92,41].isPrefixOf r
def Et:List UInt8:=[46,91,92,42,94,36,47]
def nP:Nat->List UInt8->Nat | 0,_=>0 | _+1,[]=>0 | m+1,c :: r=>bif isDigit c then nP m r+1 else 0
def Ho (r:List UInt8):Option Nat×List UInt8 :=let k:=nP 3 r
 (bif k==0 then none else some (yJn (r.take k)),r.drop k)
def zFc (t:Pt) (lo hi:Int) (r:List UInt8) (b:Nat) (en:List Bool):Res Pt :=bif [42].isPrefixOf r||[92,123].isPrefixOf r then .er 43 r.length else .ok (.times t lo hi) r b en
def Mx(t:Pt)(r:List UInt8)(b:Nat)(en:List Bool):Res Pt :=
 bif [42].isPrefixOf r then zFc t 0 (-1) (r.drop 1) b en
 else bif [92,123].isPrefixOf r then
  match Ho (r.drop 2)with
  |(none,_)=>.er 43 r.length
  |(some lo,r1)=>
   bif [44].isPrefixOf r1 then
    match Ho (r1.drop 1)with
    |(none,r2)=>bif [92,125].isPrefixOf r2&&decide (lo<=255)then zFc t lo (-1) (r2.drop 2) b en else .er 43 r.length
    |(some hi,r2)=>bif [92,125].isPrefixOf r2&&decide (lo<=255)&&decide (hi<=255)&&decide (lo<=hi)&&decide (1<=hi)then zFc t lo hi (r2.drop 2) b en else .er 43 r.length
   else bif [92,125].isPrefixOf r1&&decide (lo<=255)&&decide (1<=lo)then zFc t lo lo (r1.drop 2) b en else .er 43 r.length
 else .ok t r b en
def zFd (c:UInt8):Nat->Bool:=fun i=>decide (i = c.toNat)
def Gm(nE:List UInt8->Nat->List Bool->Res (Option Pt))(first:Bool)(r:List UInt8)(b:Nat)(en:List Bool):Res Pt :=
 match r with
 |[]=>.er 40 0
 |c::r1 =>
  bif c==46 then .ok (.bytes λ_=>true) r1 b en
  else bif c==91 then
   match zJl r with
   |none=>.er 42 r.length
   |some (p,k)=>.ok (.bytes p) (r.drop k) b en
  else bif c==92 then
   match r1 with
   |[]=>.er 40 r.length
   |d::r2 =>
    bif d==40 then
     bif b==9 then .er 41 r.length
     else match nE r2 (b+1) en with
      |.er e k=>.er e k
      |.ok none _ _ _=>.er 41 r.length
      |.ok (some t) r3 b3 en3=>bif [92,41].isPrefixOf r3 then .ok (.group t (b+1)) (r3.drop 2) b3 (en3.set (b+1) true)else .er 41 r.length
    else bif decide (49<=d.toNat)&&decide (d.toNat<=57)then
     bif en.getD (d.toNat-48) false then .ok (.ref (d.toNat-48)) r2 b en else .er 44 r.length
    else bif d==110 then .ok (.bytes (zFd 10)) r2 b en
    else bif Et.contains d then .ok (.bytes (zFd d)) r2 b en
    else bif d==123&&first then .er 43 r.length
    else .er 40 r.length
  else .ok (.bytes (zFd c)) r1 b en
def xL(nE:List UInt8->Nat->List Bool->Res (Option Pt)):Nat->Bool->List UInt8->Nat->List Bool->List Pt->Res (List Pt)
 |0,_,_,_,_,_=>.er 0 0
 |f+1,first,r,b,en,acc =>
  bif zR r then .ok acc r b en
  else bif [36].isPrefixOf r&&zR (r.drop 1)then .ok (acc++[.eol]) (r.drop 1) b en
  else match Gm nE first r b en with
   |.er e k=>.er e k
   |.ok t r1 b1 en1=>match Mx t r1 b1 en1 with
    |.er e k=>.er e k
    |.ok t2 r2 b2 en2=>xL nE f false r2 b2 en2 (acc++[t2])
def Pk:List Pt->Option Pt
 |[]=>none
 |t::ts=>match Pk ts with
  |none=>some t
  |some u=>some (.cat t u)
def nE:Nat->List UInt8->Nat->List Bool->Res (Option Pt)
 |0,_,_,_=>.er 0 0
 |f+1,r,b,en =>
  let bol:=[94].isPrefixOf r
  let r1:=bif bol then r.drop 1 else r
  match xL (nE f) (r1.length+1) true r1 b en (bif bol then [.bol]else [])with
  |.er e k=>.er e k
  |.ok ts r2 b2 en2=>.ok (Pk ts) r2 b2 en2
def Xu:List Bool:=[false,false,false,false,false,false,false,false,false,false]
def Xv(s:List UInt8):Sum Pt (Nat × Nat):=
 match s with
 |[]=>.inl .empty
 |_=>match nE 11 s 0 Xu with
  |.er e k=>.inr (e,s.length-k)
  |.ok t r _ _ =>
   match r with
   |[]=>match t with
    |none=>.inr (41,s.length)
    |some t=>bif decide (t.sz>120)then .inr (2,0)else .inl t
   |_=>.inr (41,s.length-r.length)
def psn (s r:List UInt8):Int:=((s.length-r.length:Nat):Int)
theorem Xw{r s:List UInt8}(h:r <:+ s):s.drop (s.length-r.length)=r:=(List.suffix_iff_eq_drop.1 h).symm
theorem Na{r s:List UInt8}(h:r <:+ s):r.length<=s.length:=h.length_le
theorem Iq{r s:List UInt8}(h:r <:+ s)(k:Nat):r.drop k <:+ s:=(List.drop_suffix k r).trans h
theorem yDc{r s:List UInt8}(h:r <:+ s){k:Nat}(hk:k<=r.length):psn s (r.drop k)=psn s r+k:=by
 have:=Na h;unfold psn;rw[List.length_drop];omega
theorem Eu{r s:List UInt8}(h:r <:+ s)(hs:s.length<1000000){k:Nat}(hk:k<=r.length):IntKind.wrap .i64 (psn s r+(k:Int))=psn s (r.drop k):=by
 have:=Na h;rw[yDc h hk,bI (by unfold psn;omega) (by unfold psn;omega)]
theorem yOv{r s:List UInt8}(h:r <:+ s):(decide (0<=psn s r)&&decide (psn s r<=(s.length:Int)))=true:=by
 unfold psn;simp
theorem Vi(r s:List UInt8):(psn s r).toNat=s.length-r.length:=Int.toNat_natCast _
theorem yHa{r s:List UInt8}(h:r <:+ s){j:Nat}{c d:UInt8}(hj:r[j]?=some c):aV d s (psn s r+(j:Int))=c:=by
 unfold psn;rw[show((s.length-r.length:Nat):Int)+(j:Int)=((s.length-r.length+j:Nat):Int)by omega];exact zFb (by rw[Xw h];exact hj)
theorem zUg{r s:List UInt8}(h:r <:+ s):(psn s r==(s.length:Int))=r.isEmpty:=by
 have:=Na h;rw[Bool.eq_iff_iff,beq_iff_eq,List.isEmpty_iff_length_eq_zero];unfold psn;omega
section
variable {n:Nat}
variable {s r t:List UInt8}
variable {b:Int}
variable {en:List Bool}
variable {l:List Nd}
theorem Aw(h:r <:+ s):bF n (t,s,psn s r,b,en,l,())=some (t.isPrefixOf r,s,psn s r,b,en,l,()):=by
 unfold bF;simp only;rw[aM (yOv h),Xt,Vi,Xw h];rfl
theorem xM(h:r <:+ s)(hs:s.length<1000000)(ht:t.isPrefixOf r=true):dQ n (t,s,psn s r,b,en,l,())=some (true,s,psn s (r.drop t.length),b,en,l,()):=by
 unfold dQ;simp only;rw[Aw h];simp only[aN,ht,Bool.not_true,bO];rw[Eu h hs (lU ht)]
theorem xO(h:r <:+ s)(ht:t.isPrefixOf r=false):dQ n (t,s,psn s r,b,en,l,())=some (false,s,psn s r,b,en,l,()):=by
 unfold dQ;simp only;rw[Aw h];simp only[aN,ht,Bool.not_false,dO]
theorem Xx{at' k a c mi ma nn:Int}{w:List Int}(hl:l.length<1000000):dG n (k,w,a,c,mi,ma,nn,s,at',b,en,l,())=some (((l.length:Nat):Int),s,at',b,en,l++[(k,w,a,c,mi,ma,nn,())],()):=by
 unfold dG;simp only;rw[aM (by simp[room];omega)];simp only[List.length_append,List.length_cons,List.length_nil];rw[bI (by omega) (by omega)];congr 2;omega
theorem yOw(h:r <:+ s):tQ n (s,psn s r,b,en,l,())=some (zR r,s,psn s r,b,en,l,()):=by
 unfold tQ;simp only;rw[zUg h,Aw h];unfold zR;cases r.isEmpty<;>rfl
theorem yTd{p:Nat->Bool}{at':Int}(hl:l.length<1000000):dZ n (wd p,s,at',b,en,l,())=some (((l.length:Nat):Int),s,at',b,en,l++(Pt.bytes p).enc l.length,()):=by
 unfold dZ;simp only;rw[Xx hl];rfl
theorem iV{x:Int × Int × RdT}:aL n x=some (.inr x):=rfl
theorem yHb:∀ (m:Nat) (r:List UInt8),nP m r<=m/\nP m r<=r.length
 |0,_=>by simp[nP]
 |m+1,[]=>by simp[nP]
 |m+1,c::r=>by
  have:=yHb m r;unfold nP;cases isDigit c<;>simp<;>omega
theorem yDd:∀ (m:Nat) (r:List UInt8),(r.take (nP m r)).all isDigit=true
 |0,_=>by simp[nP]
 |m+1,[]=>by simp[nP]
 |m+1,c::r=>by
  have:=yDd m r;unfold nP;cases h:isDigit c
  ·simp
  ·simp[h,this]
def zFe:Option Nat->Int | none => -1 | some k=>(k:Int)
theorem Jd(h:r <:+ s)(hs:s.length<1000000):(chk ((decide (0<=psn s (r.drop (nP 3 r)))&&decide (psn s (r.drop (nP 3 r))<=(s.length:Int))&&(decide (0<=psn s r)&&decide (psn s r<=psn s (r.drop (nP 3 r)))))) (
  ob (strconv_Atoi n ((s.take (psn s (r.drop (nP 3 r))).toNat).drop (psn s r).toNat)) λy24 =>
  br (!(!y24.2)) (
   some ((-1),s,psn s (r.drop (nP 3 r)),b,en,l,())) (
   some (y24.1,s,psn s (r.drop (nP 3 r)),b,en,l,()))))=some (zFe (Ho r).1,s,psn s (Ho r).2,b,en,l,()):=by
 have hk:=yHb 3 r;have hl:=Na h;rw[aM (by rw[yDc h hk.2];unfold psn;simp;omega)];have e:(s.take (psn s (r.drop (nP 3 r))).toNat).drop (psn s r).toNat=r.take (nP 3 r):=by
  rw[Vi,Vi,List.drop_take,Xw h,List.length_drop];congr 1;omega
 rw[e];have hall:=yDd 3 r;simp only[Ho];cases hd:nP 3 r with
 |zero=>simp[strconv_Atoi,zFe];rfl
 |succ k =>
  cases r with
  |nil=>rw[hd]at hk;simp at hk
  |cons c r =>
   rw[hd]at hall hk;unfold strconv_Atoi;rw[aM (by
    rw[aD];refine⟨?_,hall⟩;rw[Nat.ble_eq,List.length_take];omega)]
   simp[zFe]
theorem zVu(h:r <:+ s)(hs:s.length<1000000)(hn:10<=n):pX n (s,psn s r,b,en,l,())=some (zFe (Ho r).1,s,psn s (Ho r).2,b,en,l,()):=by
 unfold pX;simp only;have hl:=Na h;have key:∀ (j m:Nat) (r':List UInt8),r'=r.drop j->j+nP (3-j) r'=nP 3 r->j<=3->j<=r.length->4-j<=m->fix (qH n) m (psn s r',s,psn s r,b,en,l,())=some (zFe (Ho r).1,s,psn s (Ho r).2,b,en,l,()):=by
  intro j;induction hm:3-j generalizing j with
  |zero =>
   intro m r' hr' hd hj hjl hmm;have hj3:j=3:=by omega
   rw[lT (by omega),qH];simp only;have e:nP 3 r=j:=by rw[<- hd];simp[nP]
   have er:r'=r.drop (nP 3 r):=by rw[e];exact hr'
   have hlim:decide (psn s r'<IntKind.wrap .i64 (psn s r+3))=false:=by
    rw[hr',show(3:Int)=((3:Nat):Int)from rfl,Eu h hs (by omega),hj3];simp
   rw[er]at hlim ⊢;rw[hlim];by_cases hlt:psn s (r.drop (nP 3 r))<(s.length:Int)
   ·rw[bC (decide_eq_true hlt),bO];exact Jd h hs
   ·rw[aO (decide_eq_false hlt)];exact Jd h hs
  |succ q ih =>
   intro m r' hr' hd hj hjl hmm;have yTe:r' <:+ s:=by rw[hr'];exact Iq h j
   rw[lT (by omega),qH];simp only;have hlim:decide (psn s r'<IntKind.wrap .i64 (psn s r+3))=true:=by
    rw[hr',yDc h hjl,bI (by unfold psn;omega) (by unfold psn;omega)];simp;omega
   cases hc:r' with
   |nil =>
    rw[hc]at hd;have e:nP 3 r=j:=by rw[<- hd];rfl
    have er:r'=r.drop (nP 3 r):=by rw[e];exact hr'
    rw[<- hc,aO (by unfold psn;rw[hc];simp),er];exact Jd h hs
   |cons c r2 =>
    rw[<- hc];rw[hc]at hd;have hlr:r'.length=r2.length+1:=by rw[hc];rfl
    have hle:=Na yTe;have hg:aV 0 s (psn s r')=c:=by
     have:=yHa (d:=0) yTe (j:=0) (c:=c) (by rw[hc];rfl);simpa using this
    have hib:inB (psn s r') s.length=true:=dM (by unfold psn;omega) (by unfold psn;omega);rw[bC (by unfold psn;simp;omega),bC hlim,aM hib,aM hib,hg];have hdd:nP (q+1) (c::r2)=bif isDigit c then nP q r2+1 else 0:=rfl
    rw[hdd]at hd;cases hdg:isDigit c
    ·rw[hdg]at hd;simp only[cond_false,Nat.add_zero]at hd;have er:r'=r.drop (nP 3 r):=by rw[<- hd];exact hr'
     unfold isDigit at hdg;have hfin:=Jd (n:=n) (b:=b) (en:=en) (l:=l) h hs;rw[<- er]at hfin;by_cases h48:48<=c.toNat
     ·rw[bC (by simp;omega)];have h57:¬ c.toNat<=57:=by
       intro h57;simp[h48,h57]at hdg
      rw[aO (by simp;omega)];exact hfin
     ·rw[aO (by simp;omega)];exact hfin
    ·rw[hdg]at hd;simp only[cond_true]at hd;unfold isDigit at hdg;simp only[aD,decide_eq_true_eq]at hdg;rw[bC (by simp;omega),bC (by simp;omega)];have hr2:r2=r.drop (j+1):=by rw[<- List.drop_drop,<- hr',hc];rfl
     have hp:IntKind.wrap .i64 (psn s r'+1)=psn s r2:=by
      have:=Eu yTe hs (k:=1) (by omega);rw[hc]at this ⊢;exact this
     rw[hp];exact ih (j+1) (by omega) (m-1) r2 hr2 (by rw[<- hd];omega) (by omega) (by rw[hr',List.length_drop]at hlr;omega) (by omega)
 have:=key 0 n r (by simp) (by simp) (by omega) (by omega) (by omega);exact this
end
end Go.Dec
namespace Go.Dec
def POK(s:List UInt8)(l:List Nd)(o:Res Pt)(e:Option (Sum (Int × RdT) (Int × Int × RdT))):Prop:=match o with
 |.ok t r b en=>e=some (.inl (t.top l.length,s,psn s r,(b:Int),en,l++t.enc l.length,()))
 |.er c k=>∃ x:RdT,e=some (.inr ((c:Int),((s.length-k:Nat):Int),x))
section
variable {n:Nat}
variable {s r:List UInt8}
variable {b:Nat}
variable {en:List Bool}
variable {l:List Nd}
theorem yLn(k:Nat):((k:Int)==(-1))=false:=by rw[Bool.eq_false_iff,ne_eq,beq_iff_eq];omega
theorem yVe(k:Nat):((k:Int) != (-1))=true:=by rw[bne,yLn];rfl
theorem zRs{t:Pt}{lo hi:Int}(h:r <:+ s)(hl:l.length+t.sz<900000):POK s l (zFc t lo hi r b en) (
 ob (dG n (6,[0,0,0,0],t.top l.length,0,lo,hi,0,s,psn s r,(b:Int),en,l++t.enc l.length,())) λy8 =>
 ob (bF n ([42],y8.2.1,y8.2.2.1,y8.2.2.2.1,y8.2.2.2.2.1,y8.2.2.2.2.2.1,())) λy9 =>
 br y9.1 (
  ob2 (aL n (43,y9.2.2.1,y9.2.1,y9.2.2.1,y9.2.2.2.1,y9.2.2.2.2.1,y9.2.2.2.2.2.1,())) (λy10 =>
   none) (λy10 =>
   some (.inr (y10.1,y10.2.1,y10.2.2.1,y10.2.2.2.1,y10.2.2.2.2.1,y10.2.2.2.2.2.1,y10.2.2.2.2.2.2.1,())))) (
  ob (bF n ([92,123],y9.2.1,y9.2.2.1,y9.2.2.2.1,y9.2.2.2.2.1,y9.2.2.2.2.2.1,())) λy11 =>
  br y11.1 (
   ob2 (aL n (43,y11.2.2.1,y11.2.1,y11.2.2.1,y11.2.2.2.1,y11.2.2.2.2.1,y11.2.2.2.2.2.1,())) (λy12 =>
    none) (λy12 =>
    some (.inr (y12.1,y12.2.1,y12.2.2.1,y12.2.2.2.1,y12.2.2.2.2.1,y12.2.2.2.2.2.1,y12.2.2.2.2.2.2.1,())))) (
   some (.inl (y8.1,y11.2.1,y11.2.2.1,y11.2.2.2.1,y11.2.2.2.2.1,y11.2.2.2.2.2.1,()))))):=by
 rw[Xx (by rw[List.length_append,Pt.iU];omega)];simp only[aN];rw[Aw h];simp only[aN];unfold zFc;cases [42].isPrefixOf r
 ·simp only[bO,Bool.false_or];rw[Aw h];simp only[aN];cases [92,123].isPrefixOf r
  ·simp only[bO,cond_false,POK,Pt.enc,Pt.top,Pt.sz,List.length_append,Pt.iU,List.append_assoc];congr 3;omega
  ·simp only[dO,cond_true,iV,oK];exact⟨_,rfl⟩
 ·simp only[dO,Bool.true_or,cond_true,iV,oK];exact⟨_,rfl⟩
theorem yTf{t:Pt}(h:r <:+ s)(hs:s.length<1000000)(hn:10<=n)(hl:l.length+t.sz<900000):POK s l (Mx t r b en) (vE n (t.top l.length,s,psn s r,(b:Int),en,l++t.enc l.length,())):=by
 unfold vE Mx;simp only;cases h1:[42].isPrefixOf r
 case true =>
  rw[xM h hs h1];simp only[aN,dO,cond_true];exact zRs (Iq h 1) hl
 rw[xO h h1];simp only[aN,bO,cond_false];cases h2:[92,123].isPrefixOf r
 case false =>
  rw[xO h h2];simp only[aN,Bool.not_false,dO,cond_false,POK]
 rw[xM h hs h2];simp only[aN,Bool.not_true,bO,cond_true];have hg:∀ {x:RdT},POK s l (.er 43 r.length) (some (.inr (43,psn s r,x))):=λ{x}=>⟨x,rfl⟩
 have s2:r.drop 2 <:+ s:=Iq h 2;rw[show([92,123]:List UInt8).length=2 from rfl,zVu s2 hs hn];have n2:(Ho (r.drop 2)).2 <:+ s:=Iq s2 _;cases hlo:Ho (r.drop 2)with
 |mk lo r1 =>
  rw[hlo]at n2;simp only[aN]at n2 ⊢;cases h3:[44].isPrefixOf r1
  ·rw[xO n2 h3];simp only[aN,bO];cases lo with
   |none =>
    simp only[zFe];rw[bC (by rfl),iV];exact hg
   |some lo =>
    simp only[zFe,h3,cond_false];rw[aO (yLn lo)];cases h4:[92,125].isPrefixOf r1
    ·rw[xO n2 h4];simp only[aN,Bool.not_false,dO,iV,oK,Bool.false_and,cond_false];exact hg
    rw[xM n2 hs h4];simp only[aN,Bool.not_true,bO,Bool.true_and];by_cases h5:lo<=255
    ·rw[aO (by simp;omega),aO (by simp;omega),bC (yVe lo),decide_eq_true h5];by_cases h6:1<=lo
     ·rw[aO (by simp;split<;>omega),decide_eq_true h6];exact zRs (Iq n2 2) hl
     ·rw[bC (by simp;omega),decide_eq_false h6,iV];exact hg
    ·rw[bC (by simp;omega),decide_eq_false h5,iV];exact hg
  ·rw[xM n2 hs h3];simp only[aN,dO];have s3:r1.drop 1 <:+ s:=Iq n2 1;rw[show([44]:List UInt8).length=1 from rfl,zVu s3 hs hn];have n3:(Ho (r1.drop 1)).2 <:+ s:=Iq s3 _;cases hhi:Ho (r1.drop 1)with
   |mk hi r2 =>
    rw[hhi]at n3;simp only[aN]at n3 ⊢;cases lo with
    |none =>
     simp only[zFe];rw[bC (by rfl),iV];exact hg
    |some lo =>
     simp only[zFe,h3,cond_true];rw[aO (yLn lo)];cases hi with
     |none =>
      simp only[hhi];cases h4:[92,125].isPrefixOf r2
      ·rw[xO n3 h4];simp only[aN,Bool.not_false,dO,iV,oK,Bool.false_and,cond_false];exact hg
      rw[xM n3 hs h4];simp only[aN,Bool.not_true,bO,Bool.true_and];by_cases h5:lo<=255
      ·rw[aO (by simp;omega),decide_eq_true h5,aO (by rfl),aO (by rfl)];exact zRs (Iq n3 2) hl
      ·rw[bC (by simp;omega),decide_eq_false h5,iV];exact hg
     |some hi =>
      simp only[hhi];cases h4:[92,125].isPrefixOf r2
      ·rw[xO n3 h4];simp only[aN,Bool.not_false,dO,iV,oK,Bool.false_and,cond_false];exact hg
      rw[xM n3 hs h4];simp only[aN,Bool.not_true,bO,Bool.true_and];by_cases h5:lo<=255
      ·rw[aO (by simp;omega),decide_eq_true h5];by_cases h6:hi<=255
       ·rw[aO (by simp;omega),bC (yVe hi),decide_eq_true h6];by_cases h7:lo<=hi
        ·by_cases h8:1<=hi
         ·rw[aO (by simp;split<;>omega),decide_eq_true h7,decide_eq_true h8];exact zRs (Iq n3 2) hl
         ·rw[bC (by simp;split<;>omega),decide_eq_false h8,decide_eq_true h7,iV];exact hg
        ·rw[bC (by simp;split<;>omega),decide_eq_false h7,iV];exact hg
       ·rw[bC (by simp;omega),decide_eq_false h6,iV];exact hg
      ·rw[bC (by simp;omega),decide_eq_false h5,iV];exact hg
end
end Go.Dec
