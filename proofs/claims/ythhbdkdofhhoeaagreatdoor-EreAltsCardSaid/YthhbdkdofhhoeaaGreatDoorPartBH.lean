/- Part of a proof over this seat: a library of my own, and what it says of this seat. No statement is proved here. -/
import Derived.Test.YthhbdkdofhhoeaaGreatDoorPartBG
namespace Go.Dec
theorem Qr{n:Nat}{r t:List UInt8}:strings_HasPrefix n (r,t)=some (t.isPrefixOf r):=by
 unfold strings_HasPrefix gW;simp only;by_cases h:t.length<=r.length
 ·rw[aO (by simp;omega),aF (by simp;omega)];simp only[aS,Int.toNat_natCast];congr 1;rw[Bool.eq_iff_iff,List.isPrefixOf_iff_prefix,List.prefix_iff_eq_take,beq_iff_eq];exact eq_comm
 ·rw[aG (by simp;omega)];simp only[aS];congr 1
  symm
  rw[Bool.eq_false_iff,ne_eq,List.isPrefixOf_iff_prefix];intro hp;have:=hp.length_le;omega
theorem jZ{n:Nat}{s t:List UInt8}{i:Nat}(hi:i<=s.length):eH n (t,s,(i:Int),())=some (t.isPrefixOf (s.drop i),s,(i:Int),()):=by
 unfold eH;simp only;rw[aF (by simp;omega),Qr];rfl
theorem kS{r t:List UInt8}(h:t.isPrefixOf r=true):t.length<=r.length:=by
 rw[List.isPrefixOf_iff_prefix]at h;exact h.length_le
theorem mX{n:Nat}{s t:List UInt8}{i:Nat}(hi:i<=s.length)(hs:s.length<1000000)(h:t.isPrefixOf (s.drop i)=true):dR n (t,s,(i:Int),())=some (true,s,((i+t.length:Nat):Int),()):=by
 have hl:=kS h;rw[List.length_drop]at hl;unfold dR;simp only;rw[jZ hi];simp only[aS,h,Bool.not_true,bV];rw[dI (by omega) (by omega)];rfl
theorem mY{n:Nat}{s t:List UInt8}{i:Nat}(hi:i<=s.length)(h:t.isPrefixOf (s.drop i)=false):dR n (t,s,(i:Int),())=some (false,s,(i:Int),()):=by
 unfold dR;simp only;rw[jZ hi];simp only[aS,h,Bool.not_false,fA]
theorem Lu{s:List UInt8}{i j:Nat}{d c:UInt8}(h:(s.drop i)[j]?=some c):bF d s ((i+j:Nat):Int)=c:=by
 rw[List.getElem?_drop]at h;unfold bF;rw[Int.toNat_natCast,List.getD_eq_getElem?_getD,h];rfl
theorem Bn{s t:List UInt8}{i:Nat}{a:UInt8}(h:s.drop i=a::t):s.drop (i+1)=t/\i<s.length:=by
 refine⟨?_,?_⟩
 ·rw[<- List.drop_drop,h];rfl
 ·have:=congrArg List.length h;rw[List.length_drop,List.length_cons]at this;omega
theorem Hq{r:List UInt8}{a b:UInt8}(h:[a,b].isPrefixOf r=true):∃ t,r=a::b::t:=by
 rw[List.isPrefixOf_iff_prefix]at h;obtain⟨t,rfl⟩:=h;exact⟨t,rfl⟩
theorem zVa{r:List UInt8}{a:UInt8}(h:[a].isPrefixOf r=true):∃ t,r=a::t:=by
 rw[List.isPrefixOf_iff_prefix]at h;obtain⟨t,rfl⟩:=h;exact⟨t,rfl⟩
def mR (x:UInt8) (b:Bool):List UInt8->Option (UInt8×Nat×Bool) | _ :: _ :: c :: t=>bif [x,93].isPrefixOf t then some (c,5,b) else none | _=>none
def rH(first ends:Bool)(r:List UInt8):Option (UInt8 × Nat × Bool):=
 bif [91,46].isPrefixOf r then mR 46 true r
 else bif [91,61].isPrefixOf r then mR 61 false r
 else bif [92,110].isPrefixOf r then some (10,2,true)
 else bif [91,58].isPrefixOf r then none
 else bif [93].isPrefixOf r&&!first then none
 else bif [45].isPrefixOf r&&!first&&!ends&&!([45,93].isPrefixOf r)then none
 else match r with|[]=>none|c::_=>some (c,1,true)
theorem zRn{x:UInt8}{b:Bool}{c:UInt8}{k:Nat}{m:Bool}:∀ {r:List UInt8},mR x b r=some (c,k,m)->1<=k/\k<=r.length
 |[],h=>absurd h (by simp[mR])
 |[_],h=>absurd h (by simp[mR])
 |[_,_],h=>absurd h (by simp[mR])
 |_::_::d::t,h=>by
  unfold mR at h;cases hp:[x,93].isPrefixOf t<;>simp only[hp,cond_true,cond_false]at h
  ·exact absurd h (by simp)
  ·have:=kS hp;simp only[List.length_cons,List.length_nil,aA,aB]at this h ⊢;omega
theorem Bo{first ends:Bool}{r:List UInt8}{c:UInt8}{k:Nat}{m:Bool}(h:rH first ends r=some (c,k,m)):1<=k/\k<=r.length:=by
 have mk:∀ {x:UInt8}{b:Bool},mR x b r=some (c,k,m)->1<=k/\k<=r.length:=λh=>zRn h
 unfold rH at h;cases h1:[91,46].isPrefixOf r<;>simp only[h1,cond_true,cond_false]at h
 ·cases h2:[91,61].isPrefixOf r<;>simp only[h2,cond_true,cond_false]at h
  ·cases h3:[92,110].isPrefixOf r<;>simp only[h3,cond_true,cond_false]at h
   ·cases h4:[91,58].isPrefixOf r<;>simp only[h4,cond_true,cond_false]at h
    ·cases h5:[93].isPrefixOf r&&!first<;>simp only[h5,cond_true,cond_false]at h
     ·cases h6:[45].isPrefixOf r&&!first&&!ends&&!([45,93].isPrefixOf r)<;>simp only[h6,cond_true,cond_false]at h
      ·split at h
       ·exact absurd h (by simp)
       ·simp only[aA,aB,List.length_cons]at h ⊢;omega
      ·exact absurd h (by simp)
     ·exact absurd h (by simp)
    ·exact absurd h (by simp)
   ·have:=kS h3;simp only[List.length_cons,List.length_nil,aA,aB]at this h;omega
  ·exact mk h
 ·exact mk h
def wB(s:List UInt8)(i:Nat)(o:Option (UInt8 × Nat × Bool))(e:Option (Sum (Int × Bool × List UInt8 × Int × Unit) (Int × Int × List UInt8 × Int × Unit))):Prop:=match o with
 |some (c,k,m)=>e=some (.inl ((c.toNat:Int),m,s,((i+k:Nat):Int),()))
 |none=>∃ a,e=some (.inr (42,0,s,a,()))
theorem sF{n:Nat}{x:List UInt8 × Int × Unit}:bE n x=some (.inr (42,0,x)):=rfl
theorem Uf{n:Nat}{s:List UInt8}{i:Nat}{mk:UInt8}{t:List UInt8}(hi:i<=s.length)(hs:s.length<1000000)(hr:s.drop i=91::mk::t):wB s i (mR mk ([mk]==[46]) (s.drop i))
  (br ((s.length:Int)==((i+2:Nat):Int)) (ob2 (bE n (s,((i+2:Nat):Int),())) (λy17=>none) (λy17=>some (.inr (y17.1,y17.2.1,y17.2.2.1,y17.2.2.2.1,()))))
   (chk ((decide (0<=IntKind.wrap .i64 (((i+2:Nat):Int)+1))&&decide (IntKind.wrap .i64 (((i+2:Nat):Int)+1)<=(s.length:Int)))) (
    chk (decide (([mk]:List UInt8).length+([93]:List UInt8).length<=aL)) (
     ob (strings_HasPrefix n (s.drop (IntKind.wrap .i64 (((i+2:Nat):Int)+1)).toNat,[mk]++[93])) λy19 =>
     br (!y19) (
      ob2 (bE n (s,((i+2:Nat):Int),())) (λy20 =>
       none) (λy20 =>
       some (.inr (y20.1,y20.2.1,y20.2.2.1,y20.2.2.2.1,())))) (
      jn (pO n) ([mk],s,((i+2:Nat):Int),())))))):=by
 obtain⟨h1,h1'⟩:=Bn hr;obtain⟨h2,h2'⟩:=Bn h1;have hlen:s.length=i+2+t.length:=by
  have:=congrArg List.length hr;simp only[List.length_drop,List.length_cons]at this;omega
 rw[hr];cases t with
 |nil =>
  simp only[List.length_nil]at hlen;rw[aO (by simp;omega),sF];simp only[wL,wB,mR];exact⟨_,rfl⟩
 |cons c t =>
  simp only[List.length_cons]at hlen;obtain⟨h3,h3'⟩:=Bn h2;rw[aG (by simp;omega)];have hw:IntKind.wrap .i64 (((i+2:Nat):Int)+1)=((i+1+1+1:Nat):Int):=by rw[dI (by omega) (by omega)];omega
  rw[hw,aF (by simp;omega),aF (by simp[aL]),Int.toNat_natCast,h3,Qr];simp only[aS,List.cons_append,List.nil_append];cases hp:[mk,93].isPrefixOf t
  ·simp only[Bool.not_false,fA,sF,wL,cond_false,wB,mR,hp];exact⟨_,rfl⟩
  ·simp only[Bool.not_true,bV,cond_true,wB,yAr,pO,mR,hp];have:=kS hp;simp only[List.length_cons,List.length_nil]at this;rw[aF (vG (by omega)),dI (by omega) (by omega),show((i+2:Nat):Int)=((i+2:Nat):Int)from rfl,Lu (c:=c) (by rw[hr];rfl)];rfl
theorem Zp{n:Nat}{s:List UInt8}{i:Nat}{first ends:Bool}(hn:3<=n)(hi:i<=s.length)(hs:s.length<1000000):wB s i (rH first ends (s.drop i)) (kN n (first,ends,s,(i:Int),())):=by
 obtain⟨m,rfl⟩:∃ m,n=m+3:=⟨n-3,by omega⟩;have hlen:(s.drop i).length=s.length-i:=List.length_drop;have hin:∀ {t:List UInt8},t.isPrefixOf (s.drop i)=true->i+t.length<=s.length:=λh=>by have:=kS h;omega
 unfold kN rH;simp only;rw[Vl,kV];simp only;rw[aO (by rfl),aF (by rfl),aF (by rfl),aF (by rfl)];rw[show [91]++List.getD [[46],[61]] (0+Int.toNat 0) (Ty.dflt .str)=([91,46]:List UInt8)from rfl,show List.getD [[46],[61]] (0+Int.toNat 0) (Ty.dflt .str)=([46]:List UInt8)from rfl];cases h1:[91,46].isPrefixOf (s.drop i)
 case true =>
  obtain⟨t,ht⟩:=Hq h1;rw[mX hi hs h1];simp only[aS,Bool.not_true,bV,cond_true];exact Uf hi hs ht
 rw[mY hi h1];simp only[aS,Bool.not_false,fA,cond_false];rw[show IntKind.wrap .i64 (0+1)=1 from rfl,Vl,kV];simp only;rw[aO (by rfl),aF (by rfl),aF (by rfl),aF (by rfl)];rw[show [91]++List.getD [[46],[61]] (0+Int.toNat 1) (Ty.dflt .str)=([91,61]:List UInt8)from rfl,show List.getD [[46],[61]] (0+Int.toNat 1) (Ty.dflt .str)=([61]:List UInt8)from rfl];cases h2:[91,61].isPrefixOf (s.drop i)
 case true =>
  obtain⟨t,ht⟩:=Hq h2;rw[mX hi hs h2];simp only[aS,Bool.not_true,bV,cond_true];exact Uf hi hs ht
 rw[mY hi h2];simp only[aS,Bool.not_false,fA,cond_false];rw[show IntKind.wrap .i64 (1+1)=2 from rfl,Vl,kV];simp only;rw[aG (by rfl)];cases h3:[92,110].isPrefixOf (s.drop i)
 case true =>
  rw[mX hi hs h3];simp only[aS,fA,cond_true,wB];rfl
 rw[mY hi h3];have yCm:∀ {c:UInt8}{t:List UInt8},s.drop i=c::t->iV (m+3) (s,(i:Int),())=some (.inl ((c.toNat:Int),true,s,((i+1:Nat):Int),())):=by
  intro c t hr;obtain⟨_,h⟩:=Bn hr;unfold iV;simp only;have e:IntKind.wrap .i64 (IntKind.wrap .i64 ((i:Int)+1)-1)=((i+0:Nat):Int):=by
   rw[dI (x:=(i:Int)+1) (by omega) (by omega),dI (by omega) (by omega)];omega
  rw[e,aF (vG (by omega)),Lu (c:=c) (by rw[hr];rfl),dI (by omega) (by omega)];rfl
 have zFh:∀ bare:Bool,wB s i (bif [91,58].isPrefixOf (s.drop i)then none
  else bif [93].isPrefixOf (s.drop i)&&!first then none
  else bif bare then none
  else match s.drop i with|[]=>none|c::_=>some (c,1,true)) (gQ (m+3) (first,bare,s,(i:Int),())):=by
  intro bare;unfold gQ;simp only;cases hr:s.drop i with
  |nil =>
   rw[hr]at hlen;simp only[List.length_nil]at hlen;rw[aO (by simp;omega),sF];simp only[wL];cases first<;>cases bare<;>exact⟨_,rfl⟩
  |cons c t =>
   obtain⟨_,hlt⟩:=Bn hr;rw[aG (by simp;omega),jZ hi];simp only[aS];rw[<- hr];cases h4:[91,58].isPrefixOf (s.drop i)
   case true =>
    simp only[fA,sF,wL,cond_true];exact⟨_,rfl⟩
   simp only[bV,cond_false];rw[jZ hi];simp only[aS];have hb:wB s i (bif bare then none else some (c,1,true)) (br bare (
    ob2 (bE (m+3) (s,(i:Int),())) (λy40=>none) (λy40=>some (.inr (y40.1,y40.2.1,y40.2.2.1,y40.2.2.2.1,())))) (
    jn (iV (m+3)) (s,(i:Int),()))):=by
    cases bare
    ·simp only[bV,cond_false,yAr];rw[yCm hr];rfl
    ·simp only[fA,cond_true,sF,wL];exact⟨_,rfl⟩
   cases h5:[93].isPrefixOf (s.drop i)
   ·simp only[bV,Bool.false_and,cond_false];exact hb
   ·cases first
    ·simp only[fA,Bool.not_false,Bool.true_and,cond_true,sF,wL];exact⟨_,rfl⟩
    ·simp only[fA,bV,Bool.not_true,Bool.and_false,cond_false];exact hb
 simp only[aS,bV,cond_false];rw[jZ hi];simp only[aS];cases h6:[45].isPrefixOf (s.drop i)
 ·simp only[bV,Bool.false_and];exact zFh false
 simp only[fA,Bool.true_and];cases first
 ·simp only[Bool.not_false,fA,Bool.true_and];cases ends
  ·simp only[Bool.not_false,fA,Bool.true_and];rw[jZ hi];simp only[aS];exact zFh _
  ·simp only[Bool.not_true,bV,Bool.false_and];exact zFh false
 ·simp only[Bool.not_true,bV,Bool.false_and];exact zFh false
def oF:List UInt8->Option Nat | []=>none | c :: r=>bif [58,93].isPrefixOf (c :: r) then some 0 else (oF r).map (·+1)
theorem Bp:∀ {r:List UInt8}{k:Nat},oF r=some k->[58,93].isPrefixOf (r.drop k)=true/\k+2<=r.length
 |[],k,h=>absurd h (by simp[oF])
 |c::r,k,h=>by
  unfold oF at h;cases hp:[58,93].isPrefixOf (c::r)<;>simp only[hp,cond_true,cond_false]at h
  ·cases hk:oF r with
   |none=>rw[hk]at h;exact absurd h (by simp)
   |some j =>
    rw[hk]at h;simp only[Option.map_some,aA]at h;subst h;obtain⟨h1,h2⟩:=Bp hk;exact⟨h1,by simp only[List.length_cons];omega⟩
  ·simp only[aA]at h;subst h;exact⟨hp,by have:=kS hp;simpa using this⟩
theorem zDl:∀ r:List UInt8,Go.Lib.index r [58,93]=match oF r with|some k=>((k:Nat):Int)|none=>-1
 |[]=>by rfl
 |c::r=>by
  have ih:=zDl r;rw[Go.Lib.index,oF];cases hp:[58,93].isPrefixOf (c::r)
  ·simp only[Bool.false_eq_true,if_false,cond_false];rw[ih];cases oF r with
   |none=>rfl
   |some k =>
    simp only[Option.map_some];rw[if_neg (by simp)];rfl
  ·rfl
theorem zYg(r:List UInt8):Go.Lib.cut r [58,93]=match oF r with|some k=>(r.take k,r.drop (k+2),true)|none=>(r,[],false):=by
 unfold Go.Lib.cut;rw[zDl];cases oF r with
 |none=>rfl
 |some k=>simp
def sW(first:Bool)(r:List UInt8):Option ((Nat->Bool) × Nat):=
 bif [91,58].isPrefixOf r then
  match oF (r.drop 2)with
  |none=>none
  |some k=>match Ju ((r.drop 2).take k)with
   |some p=>some (p,k+4)
   |none=>none
 else match rH first false r with
  |none=>none
  |some (a,k,may)=>
   bif [45].isPrefixOf (r.drop k)&&!([45,93].isPrefixOf (r.drop k))&&decide (1<(r.drop k).length)then
    match rH false true (r.drop (k+1))with
    |none=>none
    |some (b,m,is)=>bif may&&is&&!(decide (b.toNat<a.toNat))then some (bR a.toNat b.toNat,k+1+m)else none
   else some (bR a.toNat a.toNat,k)
theorem Bq{first:Bool}{r:List UInt8}{p:Nat->Bool}{k:Nat}(h:sW first r=some (p,k)):1<=k/\k<=r.length:=by
 unfold sW at h;cases h0:[91,58].isPrefixOf r<;>simp only[h0,cond_true,cond_false]at h
 ·cases h1:rH first false r with
  |none=>rw[h1]at h;exact absurd h (by simp)
  |some x =>
   obtain⟨a,j,may⟩:=x;have hl:=Bo h1;rw[h1]at h;simp only at h;cases h2:[45].isPrefixOf (r.drop j)&&!([45,93].isPrefixOf (r.drop j))&&decide (1<(r.drop j).length)<;>simp only[h2,cond_true,cond_false]at h
   ·simp only[aA,aB]at h;omega
   ·cases h3:rH false true (r.drop (j+1))with
    |none=>rw[h3]at h;exact absurd h (by simp)
    |some y =>
     obtain⟨b,m,is⟩:=y;have hl3:=Bo h3;rw[h3]at h;simp only at h;rw[List.length_drop]at hl3;cases h4:may&&is&&!(decide (b.toNat<a.toNat))<;>simp only[h4,cond_true,cond_false]at h
     ·exact absurd h (by simp)
     ·simp only[aA,aB]at h;omega
 ·cases h1:oF (r.drop 2)with
  |none=>rw[h1]at h;exact absurd h (by simp)
  |some j =>
   rw[h1]at h;simp only at h;have:=(Bp h1).2;rw[List.length_drop]at this;cases h2:Ju ((r.drop 2).take j)with
   |none=>rw[h2]at h;exact absurd h (by simp)
   |some q =>
    rw[h2]at h;simp only[aA,aB]at h;omega
def Zq(s:List UInt8)(i:Nat)(o:Option ((Nat->Bool) × Nat))(e:Option (Sum (List Int × List UInt8 × Int × Unit) (Int × Int × List UInt8 × Int × Unit))):Prop:=match o with
 |some (p,k)=>e=some (.inl (wd p,s,((i+k:Nat):Int),()))
 |none=>∃ a,e=some (.inr (42,0,s,a,()))
theorem zYh{n:Nat}{s:List UInt8}{i:Nat}{first:Bool}(hn:300<=n)(hi:i<=s.length)(hs:s.length<1000000):Zq s i (sW first (s.drop i)) (lX n (first,s,(i:Int),())):=by
 unfold lX sW;simp only;cases h0:[91,58].isPrefixOf (s.drop i)
 case true =>
  have hl:=kS h0;simp only[List.length_drop,List.length_cons,List.length_nil]at hl;rw[mX hi hs h0];simp only[aS,fA,cond_true];rw[aF (by simp;omega),Int.toNat_natCast,strings_Cut,aF (by simp;omega),show([91,58]:List UInt8).length=2 from rfl];simp only[aS];rw[zYg,List.drop_drop];have hC:=zPa (n:=n) hn;cases h1:oF (s.drop (i+2))with
  |none =>
   simp only;have h2:=hC (s.drop (i+2));have zWu:∀ (w:Bool),∀ (x:List Int),∃ a,(ob (ρ:=Sum (List Int × List UInt8 × Int × Unit) (Int × Int × List UInt8 × Int × Unit)) (some (x,w)) λy8 =>
    br (!y8.2) (
    ob2 (bE n (s,IntKind.wrap .i64 (((i+2:Nat):Int)+((s.drop (i+2)).length:Int)),())) (λy9 =>
     none) (λy9 =>
     some (.inr (y9.1,y9.2.1,y9.2.2.1,y9.2.2.2.1,())))) (
    ob (dR n ([58,93],s,IntKind.wrap .i64 (((i+2:Nat):Int)+((s.drop (i+2)).length:Int)),())) λy10 =>
    br (!y10.1) (
     ob2 (bE n (y10.2.1,y10.2.2.1,())) (λy11 =>
      none) (λy11 =>
      some (.inr (y11.1,y11.2.1,y11.2.2.1,y11.2.2.2.1,())))) (
     some (.inl (y8.1,y10.2.1,y10.2.2.1,())))))=some (.inr (42,0,s,a,())):=by
    intro w x;simp only[aS];cases w
    ·simp only[Bool.not_false,fA,sF,wL];exact⟨_,rfl⟩
    ·simp only[Bool.not_true,bV];have e:IntKind.wrap .i64 (((i+2:Nat):Int)+((s.drop (i+2)).length:Int))=((s.length:Nat):Int):=by
      rw[List.length_drop,dI (by omega) (by omega)];omega
     rw[e,mY (aR _) (by simp)];simp only[aS,Bool.not_false,fA,sF,wL];exact⟨_,rfl⟩
   cases hc:Ju (s.drop (i+2))with
   |none=>rw[hc]at h2;rw[h2.1];exact zWu _ _
   |some p=>rw[hc]at h2;rw[h2.1];exact zWu _ _
  |some k =>
   simp only;obtain⟨k1,k2⟩:=Bp h1;rw[List.length_drop]at k2;rw[List.drop_drop]at k1;have h2:=hC ((s.drop (i+2)).take k);have e:IntKind.wrap .i64 (((i+2:Nat):Int)+(((s.drop (i+2)).take k).length:Int))=((i+2+k:Nat):Int):=by
    rw[List.length_take,List.length_drop,dI (by omega) (by omega)];omega
   rw[e];cases hc:Ju ((s.drop (i+2)).take k)with
   |none =>
    rw[hc]at h2;rw[h2.1];simp only[aS,Bool.not_false,fA,sF,wL];exact⟨_,rfl⟩
   |some p =>
    rw[hc]at h2;rw[h2.1];simp only[aS,Bool.not_true,bV];rw[mX (by omega) hs k1];simp only[aS,Bool.not_true,bV,Zq];rw[show i+2+k+([58,93]:List UInt8).length=i+(k+4)by simp;omega]
 rw[mY hi h0];simp only[aS,bV,cond_false];have hE:=Zp (n:=n) (first:=first) (ends:=false) (by omega) hi hs;cases h1:rH first false (s.drop i)with
 |none =>
  rw[h1]at hE;obtain⟨a,hE⟩:=hE;rw[hE];simp only[wL];exact⟨_,rfl⟩
 |some x =>
  obtain⟨a,k,may⟩:=x;rw[h1]at hE;simp only[wB]at hE;rw[hE];have hk:=Bo h1;rw[List.length_drop]at hk;simp only[zOx];have hik:i+k<=s.length:=by omega
  have hR:cZ n ((a.toNat:Int),(a.toNat:Int))=some (wd (bR a.toNat a.toNat)):=yV hn a.toNat_lt a.toNat_lt;rw[jZ hik,hR,List.drop_drop];simp only[aS];cases h2:[45].isPrefixOf (s.drop (i+k))
  ·simp only[Bool.not_false,fA,Bool.false_and,cond_false];rfl
  simp only[Bool.not_true,bV,Bool.true_and];rw[jZ hik];simp only[aS];cases h3:[45,93].isPrefixOf (s.drop (i+k))
  case true=>simp only[fA,Bool.not_true,Bool.false_and,cond_false];rfl
  simp only[bV,Bool.not_false,Bool.true_and];have hp:=kS h2;rw[List.length_drop]at hp ⊢;simp only[List.length_cons,List.length_nil]at hp;rw[dI (by omega) (by omega)];by_cases h4:1<s.length-(i+k)
  ·rw[aG (by simp;omega),decide_eq_true h4];simp only[cond_true];have hE2:=Zp (n:=n) (first:=false) (ends:=true) (s:=s) (i:=i+k+1) (by omega) (by omega) hs;rw[show((i+k:Nat):Int)+1=((i+k+1:Nat):Int)from rfl];rw[List.drop_drop,show i+(k+1)=i+k+1 by omega];cases h5:rH false true (s.drop (i+k+1))with
   |none =>
    rw[h5]at hE2;obtain⟨a,hE2⟩:=hE2;rw[hE2];simp only[wL];exact⟨_,rfl⟩
   |some y =>
    obtain⟨b,m,is⟩:=y;rw[h5]at hE2;simp only[wB]at hE2;rw[hE2];simp only[zOx,sF,wL];cases may
    ·simp only[Bool.not_false,fA,Bool.false_and,cond_false];exact⟨_,rfl⟩
    cases is
    ·simp only[Bool.not_false,fA,Bool.not_true,bV,Bool.and_false,Bool.false_and,cond_false];exact⟨_,rfl⟩
    have hR2:cZ n ((a.toNat:Int),(b.toNat:Int))=some (wd (bR a.toNat b.toNat)):=yV hn a.toNat_lt b.toNat_lt;rw[hR2,show decide ((b.toNat:Int)<(a.toNat:Int))=decide (b.toNat<a.toNat)by simp];cases decide (b.toNat<a.toNat)
    ·simp only[Bool.not_false,Bool.not_true,bV,Bool.and_true,cond_true,aS,Zq];rw[show i+(k+1+m)=i+k+1+m by omega]
    ·simp only[Bool.not_true,bV,fA,Bool.and_false,cond_false];exact⟨_,rfl⟩
  ·rw[aO (by simp;omega),decide_eq_false h4];rfl
def nM:Nat->Bool->(Nat->Bool)->List UInt8->Option ((Nat->Bool) × Nat)
 |0,_,_,_=>none
 |f+1,first,q,r =>
  bif [93].isPrefixOf r&&!first then some (q,1)
  else match sW first r with
   |none=>none
   |some (p,k)=>match nM f false (λj=>q j||p j) (r.drop k)with
    |none=>none
    |some (x,m)=>some (x,k+m)
def lK (p:Nat->Bool):Bool:=(List.range 256).all fun i=>!p i
def zY(s:List UInt8):Option ((Nat->Bool) × Nat):=
 bif [91].isPrefixOf s then
  let no:=[94].isPrefixOf (s.drop 1)
  let i:=bif no then 2 else 1
  match nM (s.length+1) true (λ_=>false) (s.drop i)with
  |none=>none
  |some (p,k)=>
   let p':=bif no then(λj=>!p j)else p
   bif lK p' then none else some (p',i+k)
 else none
theorem Fg:∀ {f:Nat}{first:Bool}{q:Nat->Bool}{r:List UInt8}{p:Nat->Bool}{k:Nat},nM f first q r=some (p,k)->1<=k/\k<=r.length
 |0,_,_,_,_,_,h=>absurd h (by simp[nM])
 |f+1,first,q,r,p,k,h=>by
  unfold nM at h;cases h0:[93].isPrefixOf r&&!first<;>simp only[h0,cond_true,cond_false]at h
  ·cases h1:sW first r with
   |none=>rw[h1]at h;exact absurd h (by simp)
   |some x =>
    obtain⟨p1,k1⟩:=x;rw[h1]at h;simp only at h;have hk1:=Bq h1;cases h2:nM f false (λj=>q j||p1 j) (r.drop k1)with
    |none=>rw[h2]at h;exact absurd h (by simp)
    |some y =>
     obtain⟨p2,k2⟩:=y;rw[h2]at h;have hk2:=Fg h2;rw[List.length_drop]at hk2;simp only[aA,aB]at h;omega
  ·simp only[aD]at h0;have:=kS h0.1;simp only[List.length_cons,List.length_nil,aA,aB]at this h;omega
theorem Lv{s:List UInt8}{p:Nat->Bool}{k:Nat}(h:zY s=some (p,k)):1<=k/\k<=s.length:=by
 unfold zY at h;cases h0:[91].isPrefixOf s<;>simp only[h0,cond_true,cond_false]at h
 ·exact absurd h (by simp)
 ·cases h1:nM (s.length+1) true (λ_=>false) (s.drop (bif [94].isPrefixOf (s.drop 1)then 2 else 1))with
  |none=>rw[h1]at h;exact absurd h (by simp)
  |some x =>
   obtain⟨q,j⟩:=x;rw[h1]at h;have hj:=Fg h1;rw[List.length_drop]at hj;simp only at h;cases h2:lK (bif [94].isPrefixOf (s.drop 1)then(λj=>!q j)else q)<;>simp only[h2,cond_true,cond_false]at h
   ·simp only[aA,aB]at h;omega
   ·exact absurd h (by simp)
theorem uD{p:Nat->Bool}:Ty.beq (.arr 4 (.int .u64)) (wd p) [0,0,0,0]=lK p:=by
 rw[Bool.eq_iff_iff,<- oI,yEj,oI,yAt,lK,List.all_eq_true];simp
def Qs(s:List UInt8)(i:Nat)(no:Bool)(o:Option ((Nat->Bool) × Nat))(e:Option (Sum (List Int × List UInt8 × Int × Unit) (Int × Int × List Int × List UInt8 × Int × Unit))):Prop:=match o with
 |some (p,k)=>bif lK (bif no then(λj=>!p j)else p)then ∃ a w,e=some (.inr (42,0,w,s,a,()))else e=some (.inl (wd (bif no then(λj=>!p j)else p),s,((i+k:Nat):Int),()))
 |none=>∃ a w,e=some (.inr (42,0,w,s,a,()))
theorem zVb{n:Nat}{s:List UInt8}{no:Bool}(hn:300<=n)(hs:s.length<1000000):∀ (f:Nat) (i m:Nat) (first:Bool) (q:Nat->Bool),i<=s.length->s.length-i<f->f<=m ->
 Qs s i no (nM f first q (s.drop i)) (fix (kI n) m (no,first,wd q,s,(i:Int),())):=by
 intro f;induction f with
 |zero=>intro i m first q _ h;omega
 |succ f ih =>
  intro i m first q hi hf hm
  rw[eG (by omega),kI];simp only;have hO:∀ p:Nat->Bool,nJ n [wd q,wd p]=some (wd λj=>q j||p j):=by
   intro p;have:=zDk (n:=n) [q,p] (by omega) (by simp;omega) (by simp);simpa using this
  have hpart:Qs s i no (match sW first (s.drop i)with
   |none=>none
   |some (p,k)=>match nM f false (λj=>q j||p j) ((s.drop i).drop k)with
    |none=>none
    |some (x,m)=>some (x,k+m)) (ob2 (lX n (first,s,(i:Int),())) (λy13 =>
   ob (nJ n [wd q,y13.1]) λy14 =>
   fix (kI n) (m-1) (no,false,y14,y13.2.1,y13.2.2.1,())) (λy13 =>
   some (.inr (y13.1,y13.2.1,wd q,y13.2.2.1,y13.2.2.2.1,())))):=by
   have hp:=zYh (n:=n) (first:=first) hn hi hs;cases h1:sW first (s.drop i)with
   |none =>
    rw[h1]at hp;obtain⟨a,hp⟩:=hp;rw[hp];exact⟨_,_,rfl⟩
   |some x =>
    obtain⟨p,k⟩:=x;rw[h1]at hp;simp only[Zq]at hp;have hk:=Bq h1;rw[List.length_drop]at hk;rw[hp];simp only[zOx];rw[hO p];simp only[aS];have:=ih (i+k) (m-1) false (λj=>q j||p j) (by omega) (by omega) (by omega);rw[List.drop_drop];cases h2:nM f false (λj=>q j||p j) (s.drop (i+k))with
    |none=>rw[h2]at this;exact this
    |some y =>
     obtain⟨p2,k2⟩:=y;rw[h2]at this;simp only[Qs]at this ⊢;rw[show i+(k+k2)=i+k+k2 by omega];exact this
  unfold nM;cases first
  case true =>
   simp only[fA,Bool.not_true,Bool.and_false,cond_false];exact hpart
  simp only[bV,Bool.not_false,Bool.and_true];cases h0:[93].isPrefixOf (s.drop i)
  ·rw[mY hi h0];simp only[aS,Bool.not_false,fA,cond_false];exact hpart
  ·rw[mX hi hs h0];simp only[aS,Bool.not_true,bV,cond_true,Qs];cases no
   ·simp only[bV,cond_false];cases hq:lK q
    ·simp only[cond_false];rw[aG (by exact uD.trans hq)];rfl
    ·simp only[cond_true];refine⟨((i+[93].length:Nat):Int),wd q,?_⟩;rw[aO (by exact uD.trans hq)];rfl
   ·simp only[fA,cond_true,Zm (n:=n) (by omega),aS];cases hq:lK (λj=>!q j)
    ·simp only[cond_false];rw[aG (by exact uD.trans hq)];rfl
    ·simp only[cond_true];refine⟨((i+[93].length:Nat):Int),wd (λj=>!q j),?_⟩;rw[aO (by exact uD.trans hq)];rfl
def zVc:Option ((Nat->Bool)×Nat)->List Int×Int×Int | some (p,k)=>(wd p,((k:Nat):Int),0) | none=>([0,0,0,0],0,42)
theorem zBo{n:Nat}{s:List UInt8}(hn:400<=n)(hsn:s.length+10<n)(hs:s.length<1000000):pQ n s=some (zVc (zY s)):=by
 have hT:∀ e:Option (Sum (List Int × List UInt8 × Int × Unit) (Int × Int × List Int × List UInt8 × Int × Unit)),jX n ([0,0,0,0],s,0,())=e->pQ n s=ob (ob2 e (λy=>some (0,0,y)) (λy=>some y)) λy1=>br (y1.1 != 0) (some ([0,0,0,0],0,y1.1)) (some (y1.2.2.1,y1.2.2.2.2.1,0)):=by
  intro e he;unfold pQ fI;simp only;rw[he]
 have hB:∀ a w,jX n ([0,0,0,0],s,0,())=some (.inr (42,0,w,s,a,()))->pQ n s=some ([0,0,0,0],0,42):=by
  intro a w h;rw[hT _ h];rfl
 have h0:jX n ([0,0,0,0],s,0,())=br (![91].isPrefixOf s) (some (.inr (42,0,[0,0,0,0],s,0,()))) (fix (kI n) n ([94].isPrefixOf (s.drop 1),true,wd (λ_=>false),s,((bif [94].isPrefixOf (s.drop 1)then 2 else 1:Nat):Int),())):=by
  unfold jX;simp only;rw[show(0:Int)=((0:Nat):Int)from rfl];cases h1:[91].isPrefixOf s
  ·rw[mY (by omega) (by rw[List.drop_zero];exact h1)];rfl
  ·rw[mX (by omega) hs (by rw[List.drop_zero];exact h1)];have hl:=kS h1;simp only[List.length_cons,List.length_nil]at hl;simp only[aS,Bool.not_true,bV];rw[show 0+([91]:List UInt8).length=1 from rfl];cases h2:[94].isPrefixOf (s.drop 1)
   ·rw[mY (by omega) h2,oI];rfl
   ·rw[mX (by omega) hs h2,oI];rfl
 unfold zY;cases h1:[91].isPrefixOf s
 ·rw[h1]at h0;simp only[Bool.not_false,fA]at h0;rw[hB _ _ h0];rfl
 ·rw[h1]at h0;simp only[Bool.not_true,bV]at h0;simp only[cond_true];have hi:(bif [94].isPrefixOf (s.drop 1)then 2 else 1)<=s.length:=by
   have hl:=kS h1;simp only[List.length_cons,List.length_nil]at hl;cases h2:[94].isPrefixOf (s.drop 1)
   ·simp only[cond_false];omega
   ·have hl2:=kS h2;rw[List.length_drop]at hl2;simp only[List.length_cons,List.length_nil]at hl2;simp only[cond_true];omega
  have hL:=zVb (n:=n) (s:=s) (no:=[94].isPrefixOf (s.drop 1)) (by omega) hs (s.length+1) _ n true (λ_=>false) hi (by omega) (by omega);rw[<- h0]at hL;cases h3:nM (s.length+1) true (λ_=>false) (s.drop (bif [94].isPrefixOf (s.drop 1)then 2 else 1))with
  |none =>
   rw[h3]at hL;obtain⟨a,w,hL⟩:=hL;rw[hB _ _ hL];rfl
  |some x =>
   obtain⟨p,k⟩:=x;rw[h3]at hL;simp only[Qs]at hL;simp only;cases h4:lK (bif [94].isPrefixOf (s.drop 1)then(λj=>!p j)else p)<;>rw[h4]at hL<;>simp only[cond_true,cond_false]at hL ⊢
   ·rw[hT _ hL];rfl
   ·obtain⟨a,w,hL⟩:=hL;rw[hB _ _ hL];rfl
end Go.Dec
