/- Part of a proof over this seat: a library of my own, and what it says of this seat. No statement is proved here. -/
import Derived.Test.YthhbdkdofhhoeaaGreatDoorPartBG
namespace Go.Dec
theorem Sw{n:Nat}{r t:List UInt8}:strings_HasPrefix n (r,t)=some (t.isPrefixOf r):=by
 unfold strings_HasPrefix gP;simp only;by_cases h:t.length<=r.length
 ·rw[bD (by simp;omega),aC (by simp;omega)];simp only[bA,Int.toNat_natCast];congr 1;rw[Bool.eq_iff_iff,List.isPrefixOf_iff_prefix,List.prefix_iff_eq_take,beq_iff_eq];exact eq_comm
 ·rw[aS (by simp;omega)];simp only[bA];congr 1
  symm
  rw[Bool.eq_false_iff,ne_eq,List.isPrefixOf_iff_prefix];intro hp;have:=hp.length_le;omega
theorem jU{n:Nat}{s t:List UInt8}{i:Nat}(hi:i<=s.length):eG n (t,s,(i:Int),())=some (t.isPrefixOf (s.drop i),s,(i:Int),()):=by
 unfold eG;simp only;rw[aC (by simp;omega),Sw];rfl
theorem mY{r t:List UInt8}(h:t.isPrefixOf r=true):t.length<=r.length:=by
 rw[List.isPrefixOf_iff_prefix]at h;exact h.length_le
theorem mO{n:Nat}{s t:List UInt8}{i:Nat}(hi:i<=s.length)(hs:s.length<1000000)(h:t.isPrefixOf (s.drop i)=true):dR n (t,s,(i:Int),())=some (true,s,((i+t.length:Nat):Int),()):=by
 have hl:=mY h;rw[List.length_drop]at hl;unfold dR;simp only;rw[jU hi];simp only[bA,h,Bool.not_true,bR];rw[bZ (by omega) (by omega)];rfl
theorem mP{n:Nat}{s t:List UInt8}{i:Nat}(hi:i<=s.length)(h:t.isPrefixOf (s.drop i)=false):dR n (t,s,(i:Int),())=some (false,s,(i:Int),()):=by
 unfold dR;simp only;rw[jU hi];simp only[bA,h,Bool.not_false,dK]
theorem eqI{c:UInt8}(k:UInt8):((c.toNat:Int)==(k.toNat:Int))=(k==c):=by
 rw[Bool.eq_iff_iff,beq_iff_eq,beq_iff_eq,Int.ofNat_inj,UInt8.toNat_inj];exact eq_comm
theorem Nr{s:List UInt8}{i j:Nat}{d c:UInt8}(h:(s.drop i)[j]?=some c):bE d s ((i+j:Nat):Int)=c:=by
 rw[List.getElem?_drop]at h;unfold bE;rw[Int.toNat_natCast,List.getD_eq_getElem?_getD,h];rfl
theorem Ct{s t:List UInt8}{i:Nat}{a:UInt8}(h:s.drop i=a::t):s.drop (i+1)=t/\i<s.length:=by
 refine⟨?_,?_⟩
 ·rw[<- List.drop_drop,h];rfl
 ·have:=congrArg List.length h;rw[List.length_drop,List.length_cons]at this;omega
theorem Jf{r:List UInt8}{a b:UInt8}(h:[a,b].isPrefixOf r=true):∃ t,r=a::b::t:=by
 rw[List.isPrefixOf_iff_prefix]at h;obtain⟨t,rfl⟩:=h;exact⟨t,rfl⟩
theorem yEj{r:List UInt8}{a:UInt8}(h:[a].isPrefixOf r=true):∃ t,r=a::t:=by
 rw[List.isPrefixOf_iff_prefix]at h;obtain⟨t,rfl⟩:=h;exact⟨t,rfl⟩
def wO (x:UInt8) (b:Bool):List UInt8->Option (UInt8×Nat×Bool) | _ :: _ :: c :: t=>bif [x,93].isPrefixOf t then some (c,5,b) else none | _=>none
def pK(first ends:Bool)(r:List UInt8):Option (UInt8 × Nat × Bool):=
 bif [91,46].isPrefixOf r then wO 46 true r
 else bif [91,61].isPrefixOf r then wO 61 false r
 else bif [92,110].isPrefixOf r then some (10,2,true)
 else bif [91,58].isPrefixOf r then none
 else bif [93].isPrefixOf r&&!first then none
 else bif [45].isPrefixOf r&&!first&&!ends&&!([45,93].isPrefixOf r)then none
 else match r with|[]=>none|c::_=>some (c,1,true)
theorem zUu{x:UInt8}{b:Bool}{c:UInt8}{k:Nat}{m:Bool}:∀ {r:List UInt8},wO x b r=some (c,k,m)->1<=k/\k<=r.length
 |[],h=>absurd h (by simp[wO])
 |[_],h=>absurd h (by simp[wO])
 |[_,_],h=>absurd h (by simp[wO])
 |_::_::d::t,h=>by
  unfold wO at h;cases hp:[x,93].isPrefixOf t<;>simp only[hp,cond_true,cond_false]at h
  ·exact absurd h (by simp)
  ·have:=mY hp;simp only[List.length_cons,List.length_nil,aA,aB]at this h ⊢;omega
theorem Sy{first ends:Bool}{r:List UInt8}{c:UInt8}{k:Nat}{m:Bool}(h:pK first ends r=some (c,k,m)):1<=k/\k<=r.length:=by
 have mk:∀ {x:UInt8}{b:Bool},wO x b r=some (c,k,m)->1<=k/\k<=r.length:=λh=>zUu h
 unfold pK at h;cases h1:[91,46].isPrefixOf r<;>simp only[h1,cond_true,cond_false]at h
 ·cases h2:[91,61].isPrefixOf r<;>simp only[h2,cond_true,cond_false]at h
  ·cases h3:[92,110].isPrefixOf r<;>simp only[h3,cond_true,cond_false]at h
   ·cases h4:[91,58].isPrefixOf r<;>simp only[h4,cond_true,cond_false]at h
    ·cases h5:[93].isPrefixOf r&&!first<;>simp only[h5,cond_true,cond_false]at h
     ·cases h6:[45].isPrefixOf r&&!first&&!ends&&!([45,93].isPrefixOf r)<;>simp only[h6,cond_true,cond_false]at h
      ·split at h
       ·exact absurd h (by simp)
       ·simp only[aA,aB,List.length_cons]at h ⊢;omega
      ·exact absurd h (by simp)
     ·exact absurd h (by simp)
    ·exact absurd h (by simp)
   ·have:=mY h3;simp only[List.length_cons,List.length_nil,aA,aB]at this h;omega
  ·exact mk h
 ·exact mk h
def wE(s:List UInt8)(i:Nat)(o:Option (UInt8 × Nat × Bool))(e:Option (Sum (Int × Bool × List UInt8 × Int × Unit) (Int × Int × List UInt8 × Int × Unit))):Prop:=match o with
 |some (c,k,m)=>e=some (.inl ((c.toNat:Int),m,s,((i+k:Nat):Int),()))
 |none=>∃ a,e=some (.inr (42,0,s,a,()))
theorem sD{n:Nat}{x:List UInt8 × Int × Unit}:bJ n x=some (.inr (42,0,x)):=rfl
theorem Wv{n:Nat}{s:List UInt8}{i:Nat}{mk:UInt8}{t:List UInt8}(hi:i<=s.length)(hs:s.length<1000000)(hr:s.drop i=91::mk::t):wE s i (wO mk ([mk]==[46]) (s.drop i))
  (br ((s.length:Int)==((i+2:Nat):Int)) (ob2 (bJ n (s,((i+2:Nat):Int),())) (λy17=>none) (λy17=>some (.inr (y17.1,y17.2.1,y17.2.2.1,y17.2.2.2.1,()))))
   (chk ((decide (0<=IntKind.wrap .i64 (((i+2:Nat):Int)+1))&&decide (IntKind.wrap .i64 (((i+2:Nat):Int)+1)<=(s.length:Int)))) (
    chk (decide (([mk]:List UInt8).length+([93]:List UInt8).length<=aH)) (
     ob (strings_HasPrefix n (s.drop (IntKind.wrap .i64 (((i+2:Nat):Int)+1)).toNat,[mk]++[93])) λy19 =>
     br (!y19) (
      ob2 (bJ n (s,((i+2:Nat):Int),())) (λy20 =>
       none) (λy20 =>
       some (.inr (y20.1,y20.2.1,y20.2.2.1,y20.2.2.2.1,())))) (
      jn (oW n) ([mk],s,((i+2:Nat):Int),())))))):=by
 obtain⟨h1,h1'⟩:=Ct hr;obtain⟨h2,h2'⟩:=Ct h1;have hlen:s.length=i+2+t.length:=by
  have:=congrArg List.length hr;simp only[List.length_drop,List.length_cons]at this;omega
 rw[hr];cases t with
 |nil =>
  simp only[List.length_nil]at hlen;rw[bD (by simp;omega),sD];simp only[wN,wE,wO];exact⟨_,rfl⟩
 |cons c t =>
  simp only[List.length_cons]at hlen;obtain⟨h3,h3'⟩:=Ct h2;rw[aS (by simp;omega)];have hw:IntKind.wrap .i64 (((i+2:Nat):Int)+1)=((i+1+1+1:Nat):Int):=by rw[bZ (by omega) (by omega)];omega
  rw[hw,aC (by simp;omega),aC (by simp[aH]),Int.toNat_natCast,h3,Sw];simp only[bA,List.cons_append,List.nil_append];cases hp:[mk,93].isPrefixOf t
  ·simp only[Bool.not_false,dK,sD,wN,cond_false,wE,wO,hp];exact⟨_,rfl⟩
  ·simp only[Bool.not_true,bR,cond_true,wE,Au,oW,wO,hp];have:=mY hp;simp only[List.length_cons,List.length_nil]at this;rw[aC (qR (by omega)),bZ (by omega) (by omega),show((i+2:Nat):Int)=((i+2:Nat):Int)from rfl,Nr (c:=c) (by rw[hr];rfl)];rfl
theorem zCf{n:Nat}{s:List UInt8}{i:Nat}{first ends:Bool}(hn:3<=n)(hi:i<=s.length)(hs:s.length<1000000):wE s i (pK first ends (s.drop i)) (kI n (first,ends,s,(i:Int),())):=by
 obtain⟨m,rfl⟩:∃ m,n=m+3:=⟨n-3,by omega⟩;have hlen:(s.drop i).length=s.length-i:=List.length_drop;have hin:∀ {t:List UInt8},t.isPrefixOf (s.drop i)=true->i+t.length<=s.length:=λh=>by have:=mY h;omega
 unfold kI pK;simp only;rw[Yc,kQ];simp only;rw[bD (by rfl),aC (by rfl),aC (by rfl),aC (by rfl)];rw[show [91]++List.getD [[46],[61]] (0+Int.toNat 0) (Ty.dflt .str)=([91,46]:List UInt8)from rfl,show List.getD [[46],[61]] (0+Int.toNat 0) (Ty.dflt .str)=([46]:List UInt8)from rfl];cases h1:[91,46].isPrefixOf (s.drop i)
 case true =>
  obtain⟨t,ht⟩:=Jf h1;rw[mO hi hs h1];simp only[bA,Bool.not_true,bR,cond_true];exact Wv hi hs ht
 rw[mP hi h1];simp only[bA,Bool.not_false,dK,cond_false];rw[show IntKind.wrap .i64 (0+1)=1 from rfl,Yc,kQ];simp only;rw[bD (by rfl),aC (by rfl),aC (by rfl),aC (by rfl)];rw[show [91]++List.getD [[46],[61]] (0+Int.toNat 1) (Ty.dflt .str)=([91,61]:List UInt8)from rfl,show List.getD [[46],[61]] (0+Int.toNat 1) (Ty.dflt .str)=([61]:List UInt8)from rfl];cases h2:[91,61].isPrefixOf (s.drop i)
 case true =>
  obtain⟨t,ht⟩:=Jf h2;rw[mO hi hs h2];simp only[bA,Bool.not_true,bR,cond_true];exact Wv hi hs ht
 rw[mP hi h2];simp only[bA,Bool.not_false,dK,cond_false];rw[show IntKind.wrap .i64 (1+1)=2 from rfl,Yc,kQ];simp only;rw[aS (by rfl)];cases h3:[92,110].isPrefixOf (s.drop i)
 case true =>
  rw[mO hi hs h3];simp only[bA,dK,cond_true,wE];rfl
 rw[mP hi h3];have yGc:∀ {c:UInt8}{t:List UInt8},s.drop i=c::t->iR (m+3) (s,(i:Int),())=some (.inl ((c.toNat:Int),true,s,((i+1:Nat):Int),())):=by
  intro c t hr;obtain⟨_,h⟩:=Ct hr;unfold iR;simp only;have e:IntKind.wrap .i64 (IntKind.wrap .i64 ((i:Int)+1)-1)=((i+0:Nat):Int):=by
   rw[bZ (x:=(i:Int)+1) (by omega) (by omega),bZ (by omega) (by omega)];omega
  rw[e,aC (qR (by omega)),Nr (c:=c) (by rw[hr];rfl),bZ (by omega) (by omega)];rfl
 have zHq:∀ bare:Bool,wE s i (bif [91,58].isPrefixOf (s.drop i)then none
  else bif [93].isPrefixOf (s.drop i)&&!first then none
  else bif bare then none
  else match s.drop i with|[]=>none|c::_=>some (c,1,true)) (gJ (m+3) (first,bare,s,(i:Int),())):=by
  intro bare;unfold gJ;simp only;cases hr:s.drop i with
  |nil =>
   rw[hr]at hlen;simp only[List.length_nil]at hlen;rw[bD (by simp;omega),sD];simp only[wN];cases first<;>cases bare<;>exact⟨_,rfl⟩
  |cons c t =>
   obtain⟨_,hlt⟩:=Ct hr;rw[aS (by simp;omega),jU hi];simp only[bA];rw[<- hr];cases h4:[91,58].isPrefixOf (s.drop i)
   case true =>
    simp only[dK,sD,wN,cond_true];exact⟨_,rfl⟩
   simp only[bR,cond_false];rw[jU hi];simp only[bA];have hb:wE s i (bif bare then none else some (c,1,true)) (br bare (
    ob2 (bJ (m+3) (s,(i:Int),())) (λy40=>none) (λy40=>some (.inr (y40.1,y40.2.1,y40.2.2.1,y40.2.2.2.1,())))) (
    jn (iR (m+3)) (s,(i:Int),()))):=by
    cases bare
    ·simp only[bR,cond_false,Au];rw[yGc hr];rfl
    ·simp only[dK,cond_true,sD,wN];exact⟨_,rfl⟩
   cases h5:[93].isPrefixOf (s.drop i)
   ·simp only[bR,Bool.false_and,cond_false];exact hb
   ·cases first
    ·simp only[dK,Bool.not_false,Bool.true_and,cond_true,sD,wN];exact⟨_,rfl⟩
    ·simp only[dK,bR,Bool.not_true,Bool.and_false,cond_false];exact hb
 simp only[bA,bR,cond_false];rw[jU hi];simp only[bA];cases h6:[45].isPrefixOf (s.drop i)
 ·simp only[bR,Bool.false_and];exact zHq false
 simp only[dK,Bool.true_and];cases first
 ·simp only[Bool.not_false,dK,Bool.true_and];cases ends
  ·simp only[Bool.not_false,dK,Bool.true_and];rw[jU hi];simp only[bA];exact zHq _
  ·simp only[Bool.not_true,bR,Bool.false_and];exact zHq false
 ·simp only[Bool.not_true,bR,Bool.false_and];exact zHq false
theorem zSf(a b:UInt8):(a==b)=(b==a):=by rw[Bool.eq_iff_iff,beq_iff_eq,beq_iff_eq];exact eq_comm
def Aw:List UInt8->Option Nat | []=>none | c :: r=>bif [58,93].isPrefixOf (c :: r) then some 0 else (Aw r).map (·+1)
theorem Sz:∀ {r:List UInt8}{k:Nat},Aw r=some k->[58,93].isPrefixOf (r.drop k)=true/\k+2<=r.length
 |[],k,h=>absurd h (by simp[Aw])
 |c::r,k,h=>by
  unfold Aw at h;cases hp:[58,93].isPrefixOf (c::r)<;>simp only[hp,cond_true,cond_false]at h
  ·cases hk:Aw r with
   |none=>rw[hk]at h;exact absurd h (by simp)
   |some j =>
    rw[hk]at h;simp only[Option.map_some,aA]at h;subst h;obtain⟨h1,h2⟩:=Sz hk;exact⟨h1,by simp only[List.length_cons];omega⟩
  ·simp only[aA]at h;subst h;exact⟨hp,by have:=mY hp;simpa using this⟩
theorem zFr:∀ r:List UInt8,Go.Lib.index r [58,93]=match Aw r with|some k=>((k:Nat):Int)|none=>-1
 |[]=>by rfl
 |c::r=>by
  have ih:=zFr r;rw[Go.Lib.index,Aw];cases hp:[58,93].isPrefixOf (c::r)
  ·simp only[Bool.false_eq_true,if_false,cond_false];rw[ih];cases Aw r with
   |none=>rfl
   |some k =>
    simp only[Option.map_some];rw[if_neg (by simp)];rfl
  ·rfl
theorem yBo(r:List UInt8):Go.Lib.cut r [58,93]=match Aw r with|some k=>(r.take k,r.drop (k+2),true)|none=>(r,[],false):=by
 unfold Go.Lib.cut;rw[zFr];cases Aw r with
 |none=>rfl
 |some k=>simp
def pO(first:Bool)(r:List UInt8):Option ((Nat->Bool) × Nat):=
 bif [91,58].isPrefixOf r then
  match Aw (r.drop 2)with
  |none=>none
  |some k=>match Lj ((r.drop 2).take k)with
   |some p=>some (p,k+4)
   |none=>none
 else match pK first false r with
  |none=>none
  |some (a,k,may)=>
   bif [45].isPrefixOf (r.drop k)&&!([45,93].isPrefixOf (r.drop k))&&decide (1<(r.drop k).length)then
    match pK false true (r.drop (k+1))with
    |none=>none
    |some (b,m,is)=>bif may&&is&&!(decide (b.toNat<a.toNat))then some (bC a.toNat b.toNat,k+1+m)else none
   else some (bC a.toNat a.toNat,k)
theorem Ta{first:Bool}{r:List UInt8}{p:Nat->Bool}{k:Nat}(h:pO first r=some (p,k)):1<=k/\k<=r.length:=by
 unfold pO at h;cases h0:[91,58].isPrefixOf r<;>simp only[h0,cond_true,cond_false]at h
 ·cases h1:pK first false r with
  |none=>rw[h1]at h;exact absurd h (by simp)
  |some x =>
   obtain⟨a,j,may⟩:=x;have hl:=Sy h1;rw[h1]at h;simp only at h;cases h2:[45].isPrefixOf (r.drop j)&&!([45,93].isPrefixOf (r.drop j))&&decide (1<(r.drop j).length)<;>simp only[h2,cond_true,cond_false]at h
   ·simp only[aA,aB]at h;omega
   ·cases h3:pK false true (r.drop (j+1))with
    |none=>rw[h3]at h;exact absurd h (by simp)
    |some y =>
     obtain⟨b,m,is⟩:=y;have hl3:=Sy h3;rw[h3]at h;simp only at h;rw[List.length_drop]at hl3;cases h4:may&&is&&!(decide (b.toNat<a.toNat))<;>simp only[h4,cond_true,cond_false]at h
     ·exact absurd h (by simp)
     ·simp only[aA,aB]at h;omega
 ·cases h1:Aw (r.drop 2)with
  |none=>rw[h1]at h;exact absurd h (by simp)
  |some j =>
   rw[h1]at h;simp only at h;have:=(Sz h1).2;rw[List.length_drop]at this;cases h2:Lj ((r.drop 2).take j)with
   |none=>rw[h2]at h;exact absurd h (by simp)
   |some q =>
    rw[h2]at h;simp only[aA,aB]at h;omega
def zCg(s:List UInt8)(i:Nat)(o:Option ((Nat->Bool) × Nat))(e:Option (Sum (List Int × List UInt8 × Int × Unit) (Int × Int × List UInt8 × Int × Unit))):Prop:=match o with
 |some (p,k)=>e=some (.inl (wd p,s,((i+k:Nat):Int),()))
 |none=>∃ a,e=some (.inr (42,0,s,a,()))
theorem yBp{n:Nat}{s:List UInt8}{i:Nat}{first:Bool}(hn:300<=n)(hi:i<=s.length)(hs:s.length<1000000):zCg s i (pO first (s.drop i)) (lS n (first,s,(i:Int),())):=by
 unfold lS pO;simp only;cases h0:[91,58].isPrefixOf (s.drop i)
 case true =>
  have hl:=mY h0;simp only[List.length_drop,List.length_cons,List.length_nil]at hl;rw[mO hi hs h0];simp only[bA,dK,cond_true];rw[aC (by simp;omega),Int.toNat_natCast,strings_Cut,aC (by simp;omega),show([91,58]:List UInt8).length=2 from rfl];simp only[bA];rw[yBo,List.drop_drop];have hC:=zSe (n:=n) hn;cases h1:Aw (s.drop (i+2))with
  |none =>
   simp only;have h2:=hC (s.drop (i+2));have yAa:∀ (w:Bool),∀ (x:List Int),∃ a,(ob (ρ:=Sum (List Int × List UInt8 × Int × Unit) (Int × Int × List UInt8 × Int × Unit)) (some (x,w)) λy8 =>
    br (!y8.2) (
    ob2 (bJ n (s,IntKind.wrap .i64 (((i+2:Nat):Int)+((s.drop (i+2)).length:Int)),())) (λy9 =>
     none) (λy9 =>
     some (.inr (y9.1,y9.2.1,y9.2.2.1,y9.2.2.2.1,())))) (
    ob (dR n ([58,93],s,IntKind.wrap .i64 (((i+2:Nat):Int)+((s.drop (i+2)).length:Int)),())) λy10 =>
    br (!y10.1) (
     ob2 (bJ n (y10.2.1,y10.2.2.1,())) (λy11 =>
      none) (λy11 =>
      some (.inr (y11.1,y11.2.1,y11.2.2.1,y11.2.2.2.1,())))) (
     some (.inl (y8.1,y10.2.1,y10.2.2.1,())))))=some (.inr (42,0,s,a,())):=by
    intro w x;simp only[bA];cases w
    ·simp only[Bool.not_false,dK,sD,wN];exact⟨_,rfl⟩
    ·simp only[Bool.not_true,bR];have e:IntKind.wrap .i64 (((i+2:Nat):Int)+((s.drop (i+2)).length:Int))=((s.length:Nat):Int):=by
      rw[List.length_drop,bZ (by omega) (by omega)];omega
     rw[e,mP (aQ _) (by simp)];simp only[bA,Bool.not_false,dK,sD,wN];exact⟨_,rfl⟩
   cases hc:Lj (s.drop (i+2))with
   |none=>rw[hc]at h2;rw[h2.1];exact yAa _ _
   |some p=>rw[hc]at h2;rw[h2.1];exact yAa _ _
  |some k =>
   simp only;obtain⟨k1,k2⟩:=Sz h1;rw[List.length_drop]at k2;rw[List.drop_drop]at k1;have h2:=hC ((s.drop (i+2)).take k);have e:IntKind.wrap .i64 (((i+2:Nat):Int)+(((s.drop (i+2)).take k).length:Int))=((i+2+k:Nat):Int):=by
    rw[List.length_take,List.length_drop,bZ (by omega) (by omega)];omega
   rw[e];cases hc:Lj ((s.drop (i+2)).take k)with
   |none =>
    rw[hc]at h2;rw[h2.1];simp only[bA,Bool.not_false,dK,sD,wN];exact⟨_,rfl⟩
   |some p =>
    rw[hc]at h2;rw[h2.1];simp only[bA,Bool.not_true,bR];rw[mO (by omega) hs k1];simp only[bA,Bool.not_true,bR,zCg];rw[show i+2+k+([58,93]:List UInt8).length=i+(k+4)by simp;omega]
 rw[mP hi h0];simp only[bA,bR,cond_false];have hE:=zCf (n:=n) (first:=first) (ends:=false) (by omega) hi hs;cases h1:pK first false (s.drop i)with
 |none =>
  rw[h1]at hE;obtain⟨a,hE⟩:=hE;rw[hE];simp only[wN];exact⟨_,rfl⟩
 |some x =>
  obtain⟨a,k,may⟩:=x;rw[h1]at hE;simp only[wE]at hE;rw[hE];have hk:=Sy h1;rw[List.length_drop]at hk;simp only[zRy];have hik:i+k<=s.length:=by omega
  have hR:dH n ((a.toNat:Int),(a.toNat:Int))=some (wd (bC a.toNat a.toNat)):=zL hn a.toNat_lt a.toNat_lt;rw[jU hik,hR,List.drop_drop];simp only[bA];cases h2:[45].isPrefixOf (s.drop (i+k))
  ·simp only[Bool.not_false,dK,Bool.false_and,cond_false];rfl
  simp only[Bool.not_true,bR,Bool.true_and];rw[jU hik];simp only[bA];cases h3:[45,93].isPrefixOf (s.drop (i+k))
  case true=>simp only[dK,Bool.not_true,Bool.false_and,cond_false];rfl
  simp only[bR,Bool.not_false,Bool.true_and];have hp:=mY h2;rw[List.length_drop]at hp ⊢;simp only[List.length_cons,List.length_nil]at hp;rw[bZ (by omega) (by omega)];by_cases h4:1<s.length-(i+k)
  ·rw[aS (by simp;omega),decide_eq_true h4];simp only[cond_true];have hE2:=zCf (n:=n) (first:=false) (ends:=true) (s:=s) (i:=i+k+1) (by omega) (by omega) hs;rw[show((i+k:Nat):Int)+1=((i+k+1:Nat):Int)from rfl];rw[List.drop_drop,show i+(k+1)=i+k+1 by omega];cases h5:pK false true (s.drop (i+k+1))with
   |none =>
    rw[h5]at hE2;obtain⟨a,hE2⟩:=hE2;rw[hE2];simp only[wN];exact⟨_,rfl⟩
   |some y =>
    obtain⟨b,m,is⟩:=y;rw[h5]at hE2;simp only[wE]at hE2;rw[hE2];simp only[zRy,sD,wN];cases may
    ·simp only[Bool.not_false,dK,Bool.false_and,cond_false];exact⟨_,rfl⟩
    cases is
    ·simp only[Bool.not_false,dK,Bool.not_true,bR,Bool.and_false,Bool.false_and,cond_false];exact⟨_,rfl⟩
    have hR2:dH n ((a.toNat:Int),(b.toNat:Int))=some (wd (bC a.toNat b.toNat)):=zL hn a.toNat_lt b.toNat_lt;rw[hR2,show decide ((b.toNat:Int)<(a.toNat:Int))=decide (b.toNat<a.toNat)by simp];cases decide (b.toNat<a.toNat)
    ·simp only[Bool.not_false,Bool.not_true,bR,Bool.and_true,cond_true,bA,zCg];rw[show i+(k+1+m)=i+k+1+m by omega]
    ·simp only[Bool.not_true,bR,dK,Bool.and_false,cond_false];exact⟨_,rfl⟩
  ·rw[bD (by simp;omega),decide_eq_false h4];rfl
def xE:Nat->Bool->(Nat->Bool)->List UInt8->Option ((Nat->Bool) × Nat)
 |0,_,_,_=>none
 |f+1,first,q,r =>
  bif [93].isPrefixOf r&&!first then some (q,1)
  else match pO first r with
   |none=>none
   |some (p,k)=>match xE f false (λj=>q j||p j) (r.drop k)with
    |none=>none
    |some (x,m)=>some (x,k+m)
def fK (p:Nat->Bool):Bool:=(List.range 256).all fun i=>!p i
def vO(s:List UInt8):Option ((Nat->Bool) × Nat):=
 bif [91].isPrefixOf s then
  let no:=[94].isPrefixOf (s.drop 1)
  let i:=bif no then 2 else 1
  match xE (s.length+1) true (λ_=>false) (s.drop i)with
  |none=>none
  |some (p,k)=>
   let p':=bif no then(λj=>!p j)else p
   bif fK p' then none else some (p',i+k)
 else none
theorem zLe:∀ {f:Nat}{first:Bool}{q:Nat->Bool}{r:List UInt8}{p:Nat->Bool}{k:Nat},xE f first q r=some (p,k)->1<=k/\k<=r.length
 |0,_,_,_,_,_,h=>absurd h (by simp[xE])
 |f+1,first,q,r,p,k,h=>by
  unfold xE at h;cases h0:[93].isPrefixOf r&&!first<;>simp only[h0,cond_true,cond_false]at h
  ·cases h1:pO first r with
   |none=>rw[h1]at h;exact absurd h (by simp)
   |some x =>
    obtain⟨p1,k1⟩:=x;rw[h1]at h;simp only at h;have hk1:=Ta h1;cases h2:xE f false (λj=>q j||p1 j) (r.drop k1)with
    |none=>rw[h2]at h;exact absurd h (by simp)
    |some y =>
     obtain⟨p2,k2⟩:=y;rw[h2]at h;have hk2:=zLe h2;rw[List.length_drop]at hk2;simp only[aA,aB]at h;omega
  ·simp only[aF]at h0;have:=mY h0.1;simp only[List.length_cons,List.length_nil,aA,aB]at this h;omega
theorem zLf{s:List UInt8}{p:Nat->Bool}{k:Nat}(h:vO s=some (p,k)):1<=k/\k<=s.length:=by
 unfold vO at h;cases h0:[91].isPrefixOf s<;>simp only[h0,cond_true,cond_false]at h
 ·exact absurd h (by simp)
 ·cases h1:xE (s.length+1) true (λ_=>false) (s.drop (bif [94].isPrefixOf (s.drop 1)then 2 else 1))with
  |none=>rw[h1]at h;exact absurd h (by simp)
  |some x =>
   obtain⟨q,j⟩:=x;rw[h1]at h;have hj:=zLe h1;rw[List.length_drop]at hj;simp only at h;cases h2:fK (bif [94].isPrefixOf (s.drop 1)then(λj=>!q j)else q)<;>simp only[h2,cond_true,cond_false]at h
   ·simp only[aA,aB]at h;omega
   ·exact absurd h (by simp)
theorem Ip{p:Nat->Bool}:Ty.beq (.arr 4 (.int .u64)) (wd p) [0,0,0,0]=fK p:=by
 rw[Bool.eq_iff_iff,<- qE,yHy,qE,yEh,fK,List.all_eq_true];simp
def Tc(s:List UInt8)(i:Nat)(no:Bool)(o:Option ((Nat->Bool) × Nat))(e:Option (Sum (List Int × List UInt8 × Int × Unit) (Int × Int × List Int × List UInt8 × Int × Unit))):Prop:=match o with
 |some (p,k)=>bif fK (bif no then(λj=>!p j)else p)then ∃ a w,e=some (.inr (42,0,w,s,a,()))else e=some (.inl (wd (bif no then(λj=>!p j)else p),s,((i+k:Nat):Int),()))
 |none=>∃ a w,e=some (.inr (42,0,w,s,a,()))
theorem zYn{n:Nat}{s:List UInt8}{no:Bool}(hn:300<=n)(hs:s.length<1000000):∀ (f:Nat) (i m:Nat) (first:Bool) (q:Nat->Bool),i<=s.length->s.length-i<f->f<=m ->
 Tc s i no (xE f first q (s.drop i)) (fix (kC n) m (no,first,wd q,s,(i:Int),())):=by
 intro f;induction f with
 |zero=>intro i m first q _ h;omega
 |succ f ih =>
  intro i m first q hi hf hm
  rw[dD (by omega),kC];simp only;have hO:∀ p:Nat->Bool,nG n [wd q,wd p]=some (wd λj=>q j||p j):=by
   intro p;have:=zFq (n:=n) [q,p] (by omega) (by simp;omega) (by simp);simpa using this
  have hpart:Tc s i no (match pO first (s.drop i)with
   |none=>none
   |some (p,k)=>match xE f false (λj=>q j||p j) ((s.drop i).drop k)with
    |none=>none
    |some (x,m)=>some (x,k+m)) (ob2 (lS n (first,s,(i:Int),())) (λy13 =>
   ob (nG n [wd q,y13.1]) λy14 =>
   fix (kC n) (m-1) (no,false,y14,y13.2.1,y13.2.2.1,())) (λy13 =>
   some (.inr (y13.1,y13.2.1,wd q,y13.2.2.1,y13.2.2.2.1,())))):=by
   have hp:=yBp (n:=n) (first:=first) hn hi hs;cases h1:pO first (s.drop i)with
   |none =>
    rw[h1]at hp;obtain⟨a,hp⟩:=hp;rw[hp];exact⟨_,_,rfl⟩
   |some x =>
    obtain⟨p,k⟩:=x;rw[h1]at hp;simp only[zCg]at hp;have hk:=Ta h1;rw[List.length_drop]at hk;rw[hp];simp only[zRy];rw[hO p];simp only[bA];have:=ih (i+k) (m-1) false (λj=>q j||p j) (by omega) (by omega) (by omega);rw[List.drop_drop];cases h2:xE f false (λj=>q j||p j) (s.drop (i+k))with
    |none=>rw[h2]at this;exact this
    |some y =>
     obtain⟨p2,k2⟩:=y;rw[h2]at this;simp only[Tc]at this ⊢;rw[show i+(k+k2)=i+k+k2 by omega];exact this
  unfold xE;cases first
  case true =>
   simp only[dK,Bool.not_true,Bool.and_false,cond_false];exact hpart
  simp only[bR,Bool.not_false,Bool.and_true];cases h0:[93].isPrefixOf (s.drop i)
  ·rw[mP hi h0];simp only[bA,Bool.not_false,dK,cond_false];exact hpart
  ·rw[mO hi hs h0];simp only[bA,Bool.not_true,bR,cond_true,Tc];cases no
   ·simp only[bR,cond_false];cases hq:fK q
    ·simp only[cond_false];rw[aS (by exact Ip.trans hq)];rfl
    ·simp only[cond_true];refine⟨((i+[93].length:Nat):Int),wd q,?_⟩;rw[bD (by exact Ip.trans hq)];rfl
   ·simp only[dK,cond_true,zCd (n:=n) (by omega),bA];cases hq:fK (λj=>!q j)
    ·simp only[cond_false];rw[aS (by exact Ip.trans hq)];rfl
    ·simp only[cond_true];refine⟨((i+[93].length:Nat):Int),wd (λj=>!q j),?_⟩;rw[bD (by exact Ip.trans hq)];rfl
def zYo:Option ((Nat->Bool)×Nat)->List Int×Int×Int | some (p,k)=>(wd p,((k:Nat):Int),0) | none=>([0,0,0,0],0,42)
theorem zDz{n:Nat}{s:List UInt8}(hn:400<=n)(hsn:s.length+10<n)(hs:s.length<1000000):oZ n s=some (zYo (vO s)):=by
 have hT:∀ e:Option (Sum (List Int × List UInt8 × Int × Unit) (Int × Int × List Int × List UInt8 × Int × Unit)),jT n ([0,0,0,0],s,0,())=e->oZ n s=ob (ob2 e (λy=>some (0,0,y)) (λy=>some y)) λy1=>br (y1.1 != 0) (some ([0,0,0,0],0,y1.1)) (some (y1.2.2.1,y1.2.2.2.2.1,0)):=by
  intro e he;unfold oZ fH;simp only;rw[he]
 have hB:∀ a w,jT n ([0,0,0,0],s,0,())=some (.inr (42,0,w,s,a,()))->oZ n s=some ([0,0,0,0],0,42):=by
  intro a w h;rw[hT _ h];rfl
 have h0:jT n ([0,0,0,0],s,0,())=br (![91].isPrefixOf s) (some (.inr (42,0,[0,0,0,0],s,0,()))) (fix (kC n) n ([94].isPrefixOf (s.drop 1),true,wd (λ_=>false),s,((bif [94].isPrefixOf (s.drop 1)then 2 else 1:Nat):Int),())):=by
  unfold jT;simp only;rw[show(0:Int)=((0:Nat):Int)from rfl];cases h1:[91].isPrefixOf s
  ·rw[mP (by omega) (by rw[List.drop_zero];exact h1)];rfl
  ·rw[mO (by omega) hs (by rw[List.drop_zero];exact h1)];have hl:=mY h1;simp only[List.length_cons,List.length_nil]at hl;simp only[bA,Bool.not_true,bR];rw[show 0+([91]:List UInt8).length=1 from rfl];cases h2:[94].isPrefixOf (s.drop 1)
   ·rw[mP (by omega) h2,qE];rfl
   ·rw[mO (by omega) hs h2,qE];rfl
 unfold vO;cases h1:[91].isPrefixOf s
 ·rw[h1]at h0;simp only[Bool.not_false,dK]at h0;rw[hB _ _ h0];rfl
 ·rw[h1]at h0;simp only[Bool.not_true,bR]at h0;simp only[cond_true];have hi:(bif [94].isPrefixOf (s.drop 1)then 2 else 1)<=s.length:=by
   have hl:=mY h1;simp only[List.length_cons,List.length_nil]at hl;cases h2:[94].isPrefixOf (s.drop 1)
   ·simp only[cond_false];omega
   ·have hl2:=mY h2;rw[List.length_drop]at hl2;simp only[List.length_cons,List.length_nil]at hl2;simp only[cond_true];omega
  have hL:=zYn (n:=n) (s:=s) (no:=[94].isPrefixOf (s.drop 1)) (by omega) hs (s.length+1) _ n true (λ_=>false) hi (by omega) (by omega);rw[<- h0]at hL;cases h3:xE (s.length+1) true (λ_=>false) (s.drop (bif [94].isPrefixOf (s.drop 1)then 2 else 1))with
  |none =>
   rw[h3]at hL;obtain⟨a,w,hL⟩:=hL;rw[hB _ _ hL];rfl
  |some x =>
   obtain⟨p,k⟩:=x;rw[h3]at hL;simp only[Tc]at hL;simp only;cases h4:fK (bif [94].isPrefixOf (s.drop 1)then(λj=>!p j)else p)<;>rw[h4]at hL<;>simp only[cond_true,cond_false]at hL ⊢
   ·rw[hT _ hL];rfl
   ·obtain⟨a,w,hL⟩:=hL;rw[hB _ _ hL];rfl
end Go.Dec
