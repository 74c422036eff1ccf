/- Part of a proof over this seat: a library of my own, and what it says of this seat. No statement is proved here. -/
import Derived.Test.YtfbilefiaminnaaGreatDoorPartBO
import Derived.Test.YtfbilefiaminnaaGreatDoorPartBL
namespace Go.Dec
theorem xBi{n:Nat}(hn:5<=n){k:Int}(hk:0<=k)(hk8:k<=8):vX n ([1,7,8],k)=some (decide (k=1)||decide (k=7)||decide (k=8)):=by
 obtain⟨n,rfl⟩:∃ m,n=m+5:=⟨n-5,by omega⟩;have hcase:k=0\/k=1\/k=2\/k=3\/k=4\/k=5\/k=6\/k=7\/k=8:=by omega
 rcases hcase with rfl|rfl|rfl|rfl|rfl|rfl|rfl|rfl|rfl<;>rfl
theorem yDo(t:Pt):0<=t.kind/\t.kind<=8:=by cases t<;>simp[Pt.kind]
section
variable {n:Nat}
variable {l:List Nd}
variable {st:List Pt}
theorem yPa{i:Nat}{a b:Pt}(h:encR (b::a::st)=l.take i):At l (szA st) a/\At l (szA st+a.sz) b:=by
 have hl:l=encR (b::a::st)++l.drop i:=by rw[h,List.take_append_drop]
 simp only[encR]at hl;refine⟨⟨encR st,b.enc (szA st+a.sz)++l.drop i,?_,Po st⟩,⟨encR st++a.enc (szA st),l.drop i,?_,by rw[List.length_append,Po,Pt.iU]⟩⟩
 ·rw[Pp]at hl;rw[List.append_assoc]at hl ⊢;rw[List.append_assoc]at hl;exact hl
 ·rw[Pp]at hl;exact hl
theorem at_one{i:Nat}{a:Pt}(h:encR (a::st)=l.take i):At l (szA st) a:=by
 have hl:l=encR (a::st)++l.drop i:=by rw[h,List.take_append_drop]
 exact⟨encR st,l.drop i,hl,Po st⟩
theorem Km{v:NV}(h:v.node.1≠4)(h2:v.node.1≠5)(h3:v.node.1≠6):pY n (l,v.node)=some true:=by
 unfold pY;simp only;rw[aO (by simpa using h),aO (by simpa using h2),aO (by simpa using h3)]
theorem yTn{oa ob':Nat}{a b:Pt}(ha:At l oa a)(hb:At l ob' b):pY n (l,(NV.cat (a.top oa) (b.top ob')).node)=some (decide (a.kind≠4/\a.kind≠5/\b.kind≠5)):=by
 unfold pY;simp only[NV.node];rw[bC (by rfl),aM ha.top.1,ha.top.2,Pt.zKu,aM ha.top.1,aM hb.top.1,hb.top.2,Pt.zKu];by_cases h1:a.kind=4
 ·rw[aO (by simp[h1]),decide_eq_false (by intro h;exact h.1 h1)]
 ·rw[bC (by simpa using h1)];by_cases h2:a.kind=5
  ·rw[aO (by simp[h2]),decide_eq_false (by intro h;exact h.2.1 h2)]
  ·rw[bC (by simpa using h2)];congr 1;rw[Bool.eq_iff_iff];simp[h1,h2]
theorem yTo{oa:Nat}{y:Int}{a:Pt}(ha:At l oa a):pY n (l,(NV.alt (a.top oa) y).node)=some (decide (a.kind≠5)):=by
 unfold pY;simp only[NV.node];rw[aO (by rfl),bC (by rfl),aM ha.top.1,ha.top.2,Pt.zKu];congr 1;rw[Bool.eq_iff_iff];simp
theorem yLq{oa:Nat}{lo hi:Int}{a:Pt}(hn:5<=n)(ha:At l oa a):pY n (l,(NV.times (a.top oa) lo hi).node)=some (decide (a.kind=1)||decide (a.kind=7)||decide (a.kind=8)):=by
 unfold pY;simp only[NV.node];rw[aO (by rfl),aO (by rfl),bC (by rfl),aM ha.top.1,ha.top.2,Pt.zKu,xBi hn (yDo a).1 (yDo a).2];rfl
def NV.parts:NV->Nat | .cat _ _ | .alt _ _=>2 | .times _ _ _ | .group _ _=>1 | _=>0
theorem parts_eq(v:NV):qC n v.node=some (v.parts:Int):=by cases v<;>rfl
theorem zUh(a:Pt):(jA (a::st)).take st.length=jA st:=by
 simp only[jA];rw[List.take_append_of_le_length (by rw[vT];omega),List.take_of_length_le (by rw[vT];omega)]
theorem yDp(a b:Pt):(jA (b::a::st)).take st.length=jA st:=by
 rw[jA,List.take_append_of_le_length (by rw[vT];simp),zUh]
theorem zUi(a:Pt):(jA (a::st)).getD (0+st.length+0) 0=a.top (szA st):=by
 rw[jA,List.getD_eq_getElem?_getD,List.getElem?_append_right (by rw[vT];omega),vT];simp
theorem yDq(a b:Pt):(jA (b::a::st)).getD (0+st.length+0) 0=a.top (szA st):=by
 rw[jA,List.getD_eq_getElem?_getD,fV (by rw[vT];simp),<- List.getD_eq_getElem?_getD,zUi]
theorem yDr(a b:Pt):(jA (b::a::st)).getD (0+st.length+1) 0=b.top (szA st+a.sz):=by
 rw[jA,List.getD_eq_getElem?_getD,List.getElem?_append_right (by rw[vT];simp),vT,Pp];simp
theorem yDs{g:List Nd × List Nd × Int × Int × List Int × Unit->Option Bool}{i:Nat}{v:NV}(hn:5<=n)(hl:l.length<1000000)(hi:i<l.length)(hv:l[i]?=some v.node)(hok:v.ok=true)(hw:zJp v.node)(hst:st.length<=i)(hsz:szA st=i)(he:encR st=l.take i):jO n g (l,l,(l.length:Int),(i:Int),jA st,())=match mO l.length st v with
  |none=>some false
  |some st2=>g (l,l,(l.length:Int),((i+1:Nat):Int),jA st2,()):=by
 unfold jO;simp only;have hget:∀ d,aV d l (i:Int)=v.node:=by
  intro d;rw[Kk hi];rw[List.getElem?_eq_getElem hi]at hv;exact Option.some.inj hv
 rw[bC (by simp;omega),aM (Hl hi),hget,parts_eq];simp only[aN];have hone:yA n v.node=some true:=by
  rcases yDn (n:=n) hw with ⟨h,_⟩|⟨_,h⟩
  ·exact h
  ·have:=h v rfl;rw[hok]at this;exact absurd this (by simp)
 rw[hone];simp only[aN,Bool.not_true,bO];have hi1:IntKind.wrap .i64 ((i:Int)+1)=((i+1:Nat):Int):=by rw[bI (by omega) (by omega)];rfl
 have hlen:=vT st;have hfin:∀ (v0:NV) (k:Nat) (st2:List Pt),k<=st.length->jA st2=(jA st).take k++[(i:Int)] ->
  chk ((decide ((0:Int)<=(k:Int))&&decide ((k:Int)<=(st.length:Int)))) (
   chk ((Nat.ble ((k:Int).toNat) st.length&&Nat.ble ((((k:Int).toNat)+([(i:Int)]:List Int).length)*8) room)) (
    g (l,l,(l.length:Int),IntKind.wrap .i64 ((i:Int)+1),(jA st).take ((k:Int).toNat)++[(i:Int)],())))=g (l,l,(l.length:Int),((i+1:Nat):Int),jA st2,()):=by
  intro v0 k st2 hk h2;rw[aM (by simp;omega),aM (by simp[room];omega),hi1,Int.toNat_natCast,h2]
 have hd:Ty.dflt (.int .i64)=(0:Int):=rfl;have hK:∀ (p:Nat),p<=st.length->IntKind.wrap .i64 (((st.length:Nat):Int)-(p:Int))=((st.length-p:Nat):Int):=by
  intro p hp;rw[bI (by omega) (by omega)];omega
 have htop:∀ t:Pt,t.sz=1->jA (t::st)=(jA st).take st.length++[(i:Int)]:=by
  intro t ht;rw[List.take_of_length_le (by omega)];simp only[jA,Pt.top,ht,hsz];congr 2;omega
 rw[hlen];have hcut:∀ (p:Nat),p<=st.length->((st.length-((st.length-p:Nat):Int).toNat:Nat):Int)=(p:Int):=by
  intro p hp;rw[Int.toNat_natCast];omega
 cases v with
 |empty =>
  rw[show(NV.empty).parts=0 from rfl,hK 0 (by omega),aO (by simp),bC (by rfl)];by_cases h1:l.length>1
  ·rw[bC (by simp;omega)];simp only[mO];rw[if_pos h1]
  ·rw[aO (by simp;omega),aM (by simp),hcut 0 (by omega),aO (by simp),Km (by simp[NV.node]) (by simp[NV.node]) (by simp[NV.node])];simp only[aN,Bool.not_true,bO,mO];rw[if_neg h1];exact hfin .empty _ _ (by omega) (htop .empty rfl)
 |bytes p =>
  rw[show(NV.bytes p).parts=0 from rfl,hK 0 (by omega),aO (by simp),aO (by rfl),aM (by simp),hcut 0 (by omega),aO (by simp),Km (by simp[NV.node]) (by simp[NV.node]) (by simp[NV.node])];simp only[aN,Bool.not_true,bO,mO];exact hfin .empty _ _ (by omega) (htop (.bytes p) rfl)
 |bol =>
  rw[show(NV.bol).parts=0 from rfl,hK 0 (by omega),aO (by simp),aO (by rfl),aM (by simp),hcut 0 (by omega),aO (by simp),Km (by simp[NV.node]) (by simp[NV.node]) (by simp[NV.node])];simp only[aN,Bool.not_true,bO,mO];exact hfin .empty _ _ (by omega) (htop .bol rfl)
 |eol =>
  rw[show(NV.eol).parts=0 from rfl,hK 0 (by omega),aO (by simp),aO (by rfl),aM (by simp),hcut 0 (by omega),aO (by simp),Km (by simp[NV.node]) (by simp[NV.node]) (by simp[NV.node])];simp only[aN,Bool.not_true,bO,mO];exact hfin .empty _ _ (by omega) (htop .eol rfl)
 |ref m =>
  rw[show(NV.ref m).parts=0 from rfl,hK 0 (by omega),aO (by simp),aO (by rfl),aM (by simp),hcut 0 (by omega),aO (by simp),Km (by simp[NV.node]) (by simp[NV.node]) (by simp[NV.node])];simp only[aN,Bool.not_true,bO,mO];exact hfin .empty _ _ (by omega) (htop (.ref m) rfl)
 |times x lo hi =>
  cases st with
  |nil=>rfl
  |cons a st =>
   have ha:At l (szA st) a:=at_one he;rw[show(NV.times x lo hi).parts=1 from rfl,hK 1 (by simp),aO (by simp),aO (by rfl),aM (by simp;omega),hcut 1 (by simp),bC (by rfl)];simp only[List.length_cons,Nat.add_sub_cancel,Int.toNat_natCast];rw[aM (by simp[inB]),aM (by simp),hd,show(0:Int).toNat=0 from rfl,zUi];simp only[mO,NV.node];by_cases hx:a.top (szA st)=x
   ·subst hx;rw[aO (by simp),aO (by rfl)];have hf:=yLq (n:=n) (lo:=lo) (hi:=hi) hn ha;simp only[NV.node]at hf;rw[hf];simp only[aN];have hlt:=a.Bl;by_cases hk:a.kind=1\/a.kind=7\/a.kind=8
    ·rw[if_pos ⟨trivial,hk⟩,aO (by rcases hk with h|h|h<;>simp[h])];have e:jA (.times a lo hi::st)=(jA (a::st)).take st.length++[(i:Int)]:=by
      rw[zUh];simp only[jA,Pt.top,Pt.sz];rw[Pp]at hsz;congr 2;omega
     have:=hfin .empty st.length (.times a lo hi::st) (by simp) e;simpa using this
    ·rw[if_neg (λh=>hk h.2),bC (by simp only[not_or]at hk;simp[hk.1,hk.2.1,hk.2.2])]
   ·rw[if_neg (λh=>hx h.1),bC (by simpa using hx)]
 |group x m =>
  cases st with
  |nil=>rfl
  |cons a st =>
   have ha:At l (szA st) a:=at_one he;rw[show(NV.group x m).parts=1 from rfl,hK 1 (by simp),aO (by simp),aO (by rfl),aM (by simp;omega),hcut 1 (by simp),bC (by rfl)];simp only[List.length_cons,Nat.add_sub_cancel,Int.toNat_natCast];rw[aM (by simp[inB]),aM (by simp),hd,show(0:Int).toNat=0 from rfl,zUi];simp only[mO,NV.node];by_cases hx:a.top (szA st)=x
   ·subst hx;rw[aO (by simp),aO (by rfl)];have hf:=Km (n:=n) (l:=l) (v:=.group (a.top (szA st)) m) (by simp[NV.node]) (by simp[NV.node]) (by simp[NV.node]);simp only[NV.node]at hf;rw[hf];simp only[aN];have hlt:=a.Bl;rw[if_pos trivial,aO (by rfl)];have e:jA (.group a m::st)=(jA (a::st)).take st.length++[(i:Int)]:=by
     rw[zUh];simp only[jA,Pt.top,Pt.sz];rw[Pp]at hsz;congr 2;omega
    have:=hfin .empty st.length (.group a m::st) (by simp) e;simpa using this
   ·rw[if_neg hx,bC (by simpa using hx)]
 |cat x y =>
  match st,hlen,hsz,he,hst,hK,hcut,hfin with
  |[],_,_,_,_,_,_,_=>rfl
  |[_],_,_,_,_,_,_,_=>rfl
  |b::a::st,hlen,hsz,he,hst,hK,hcut,hfin =>
   obtain⟨ha,hb⟩:=yPa he;rw[show(NV.cat x y).parts=2 from rfl,hK 2 (by simp),aO (by simp),aO (by rfl),aM (by simp;omega),hcut 2 (by simp),bC (by rfl)];simp only[List.length_cons,Nat.add_sub_cancel,Int.toNat_natCast,show ∀ k,k+1+1-2=k from λk=>rfl];rw[aM (by simp[inB];omega),aM (by simp;omega),hd,show(0:Int).toNat=0 from rfl,show(1:Int).toNat=1 from rfl,yDq,yDr];simp only[mO,NV.node];by_cases hx:a.top (szA st)=x
   ·subst hx;rw[aO (by simp),bC (by rfl),aM (by simp[inB];omega),aM (by simp)];by_cases hy:b.top (szA st+a.sz)=y
    ·subst hy;rw[aO (by simp)];have hf:=yTn (n:=n) ha hb;simp only[NV.node]at hf;rw[hf];simp only[aN];have hlt:=a.Bl;by_cases hk:a.kind≠4/\a.kind≠5/\b.kind≠5
     ·rw[if_pos ⟨trivial,trivial,hk⟩,decide_eq_true hk,aO (by rfl)];have e:jA (.cat a b::st)=(jA (b::a::st)).take st.length++[(i:Int)]:=by
       rw[yDp];simp only[jA,Pt.top,Pt.sz];rw[Pp,Pp]at hsz;congr 2;omega
      have:=hfin .empty st.length (.cat a b::st) (by simp;omega) e;simpa using this
     ·rw[if_neg (λh=>hk h.2.2),decide_eq_false hk,bC (by rfl)]
    ·rw[if_neg (λh=>hy h.2.1),bC (by simpa using hy)]
   ·rw[if_neg (λh=>hx h.1),bC (by simpa using hx)]
 |alt x y =>
  match st,hlen,hsz,he,hst,hK,hcut,hfin with
  |[],_,_,_,_,_,_,_=>rfl
  |[_],_,_,_,_,_,_,_=>rfl
  |b::a::st,hlen,hsz,he,hst,hK,hcut,hfin =>
   obtain⟨ha,hb⟩:=yPa he;rw[show(NV.alt x y).parts=2 from rfl,hK 2 (by simp),aO (by simp),aO (by rfl),aM (by simp;omega),hcut 2 (by simp),bC (by rfl)];simp only[List.length_cons,Nat.add_sub_cancel,Int.toNat_natCast,show ∀ k,k+1+1-2=k from λk=>rfl];rw[aM (by simp[inB];omega),aM (by simp;omega),hd,show(0:Int).toNat=0 from rfl,show(1:Int).toNat=1 from rfl,yDq,yDr];simp only[mO,NV.node];by_cases hx:a.top (szA st)=x
   ·subst hx;rw[aO (by simp),bC (by rfl),aM (by simp[inB];omega),aM (by simp)];by_cases hy:b.top (szA st+a.sz)=y
    ·subst hy;rw[aO (by simp)];have hf:=yTo (n:=n) (y:=b.top (szA st+a.sz)) ha;simp only[NV.node]at hf;rw[hf];simp only[aN];have hlt:=a.Bl;by_cases hk:a.kind≠5
     ·rw[if_pos ⟨trivial,trivial,hk⟩,decide_eq_true hk,aO (by rfl)];have e:jA (.alt a b::st)=(jA (b::a::st)).take st.length++[(i:Int)]:=by
       rw[yDp];simp only[jA,Pt.top,Pt.sz];rw[Pp,Pp]at hsz;congr 2;omega
      have:=hfin .empty st.length (.alt a b::st) (by simp;omega) e;simpa using this
     ·rw[if_neg (λh=>hk h.2.2),decide_eq_false hk,bC (by rfl)]
    ·rw[if_neg (λh=>hy h.2.1),bC (by simpa using hy)]
   ·rw[if_neg (λh=>hx h.1),bC (by simpa using hx)]
end
end Go.Dec
namespace Go.Dec
theorem yDt:∀ st:List Pt,st.length<=szA st
 |[]=>aP _
 |t::st=>by have:=yDt st;have:=t.Bl;simp only[List.length_cons,szA];omega
theorem yDu{len:Nat}{st st2:List Pt}{v:NV}(h:mO len st v=some st2):szA st2=szA st+1:=by
 have:=congrArg List.length (Zn h);rw[List.length_append,Po,Po]at this;simpa using this
section
variable {n:Nat}
variable {l:List Nd}
theorem zWa{i:Nat}{x:Nd}(h:l[i]?=some x):l.take (i+1)=l.take i++[x]:=by
 rw[List.take_add_one,h];rfl
theorem yHd(hn:5<=n)(hl:l.length<1000000)(hw:∀ nd∈l,zJp nd):∀ (vs:List NV) (i:Nat) (st:List Pt) (m:Nat),vs.map NV.node=l.drop i->(∀ v∈vs,v.ok=true)->i<=l.length->szA st=i->encR st=l.take i->vs.length<m ->
 fix (jO n) m (l,l,(l.length:Int),(i:Int),jA st,())=match wE l.length vs st with
  |none=>some false
  |some st2=>some (decide (st2.length=1)):=by
 intro vs;induction vs with
 |nil =>
  intro i st m hvs _ hi hsz he hm;have hi2:i=l.length:=by
   have:=congrArg List.length hvs;rw[List.length_drop]at this;simp at this;omega
  rw[lT hm,jO];simp only;rw[aO (by simp;omega),vT];simp only[wE];congr 1;rw[Bool.eq_iff_iff];simp;omega
 |cons v vs ih =>
  intro i st m hvs hok hi hsz he hm;have hil:i<l.length:=by
   have:=congrArg List.length hvs;rw[List.length_drop]at this;simp at this;omega
  have hv:l[i]?=some v.node:=by
   have:(l.drop i)[0]?=some v.node:=by rw[<- hvs];rfl
   rw[List.getElem?_drop]at this;simpa using this
  have xFf:vs.map NV.node=l.drop (i+1):=by
   have:(l.drop i).drop 1=vs.map NV.node:=by rw[<- hvs];rfl
   rw[List.drop_drop]at this;exact this.symm
  have hst:=yDt st;rw[lT (by omega),yDs hn hl hil hv (hok v (by simp)) (hw _ (List.mem_of_getElem? hv)) (by omega) hsz he];simp only[wE];cases hs:mO l.length st v with
  |none=>rfl
  |some st2 =>
   simp only;exact ih (i+1) st2 (m-1) xFf (λv hv=>hok v (by simp[hv])) (by omega) (by rw[yDu hs];omega) (by rw[Zn hs,he,zWa hv]) (by simp only[List.length_cons]at hm;omega)
theorem yXl(hn:5<=n)(hl:l.length<1000000)(hw:∀ nd∈l,zJp nd){j:Nat}{x:Nd}(hj:l[j]?=some x)(hx:∀ v:NV,x=v.node->v.ok=false):∀ (k i:Nat) (st:List Pt) (m:Nat),i+k=j->szA st=i->encR st=l.take i->k<m ->
 fix (jO n) m (l,l,(l.length:Int),(i:Int),jA st,())=some false:=by
 have hjl:j<l.length:=(bE.1 hj).1;intro k;induction k with
 |zero =>
  intro i st m hi hsz he hm;have hi:i=j:=by omega
  subst hi;rw[lT hm,jO];simp only;have hget:∀ d,aV d l (i:Int)=x:=by
   intro d;rw[Kk hjl];rw[List.getElem?_eq_getElem hjl]at hj;exact Option.some.inj hj
  rw[bC (by simp;omega),aM (Hl hjl),hget];have hone:yA n x=some false:=by
   rcases yDn (n:=n) (hw x (List.mem_of_getElem? hj))with ⟨_,v,h1,h2⟩|⟨h,_⟩
   ·rw[hx v h1]at h2;exact absurd h2 (by simp)
   ·exact h
  rw[hone];have hp:∃ p,qC n x=some p:=by
   unfold qC;simp only;cases(x.1==4)<;>cases(x.1==5)<;>cases(x.1==6)<;>cases(x.1==7)<;>exact⟨_,rfl⟩
  obtain⟨p,hp⟩:=hp;rw[hp];rfl
 |succ k ih =>
  intro i st m hi hsz he hm;have hil:i<l.length:=by omega
  have hli:l[i]?=some l[i]:=List.getElem?_eq_getElem hil;have hst:=yDt st;rcases yDn (n:=n) (hw _ (List.mem_of_getElem? hli))with ⟨_,v,h1,h2⟩|⟨h,_⟩
  ·rw[h1]at hli;rw[lT (by omega),yDs hn hl hil hli h2 (hw _ (List.mem_of_getElem? hli)) (by omega) hsz he];cases hs:mO l.length st v with
   |none=>rfl
   |some st2 =>
    simp only;exact ih (i+1) st2 (m-1) (by omega) (by rw[yDu hs];omega) (by rw[Zn hs,he,zWa hli]) (by omega)
  ·rw[lT (by omega),jO];simp only;have hget:∀ d,aV d l (i:Int)=l[i]:=λd=>Kk hil
   rw[bC (by simp;omega),aM (Hl hil),hget,h];have hp:∃ p,qC n l[i]=some p:=by
    unfold qC;simp only;cases(l[i].1==4)<;>cases(l[i].1==5)<;>cases(l[i].1==6)<;>cases(l[i].1==7)<;>exact⟨_,rfl⟩
   obtain⟨p,hp⟩:=hp;rw[hp];rfl
theorem zWb{len:Nat}:∀ (vs:List NV) (st st2:List Pt),(∀ v∈vs,v.ok=true)->(∀ t∈st,Rx len t)->wE len vs st=some st2->encR st2=encR st++vs.map NV.node/\∀ t∈st2,Rx len t
 |[],st,st2,_,hst,h=>by simp only[wE,aA]at h;subst h;exact⟨by simp,hst⟩
 |v::vs,st,st2,hv,hst,h=>by
  simp only[wE]at h;cases hs:mO len st v with
  |none=>rw[hs]at h;simp at h
  |some st3 =>
   rw[hs]at h;have:=zWb vs st3 st2 (λv h=>hv v (by simp[h])) (yTm (hv v (by simp)) hst hs) h;exact⟨by rw[this.1,Zn hs,List.append_assoc];rfl,this.2⟩
theorem zRv:∀ l:List Nd,(∃ vs:List NV,vs.map NV.node=l/\∀ v∈vs,v.ok=true)\/(∃ (j:Nat) (x:Nd),l[j]?=some x/\∀ v:NV,x=v.node->v.ok=false)
 |[]=>Or.inl ⟨[],rfl,by simp⟩
 |x::l=>by
  by_cases hx:∃ v:NV,x=v.node/\v.ok=true
  ·obtain⟨v,h1,h2⟩:=hx;rcases zRv l with ⟨vs,h3,h4⟩|⟨j,y,h3,h4⟩
   ·exact Or.inl ⟨v::vs,by rw[List.map_cons,h3,h1],by intro u hu;rcases List.mem_cons.1 hu with rfl|hu;exact h2;exact h4 u hu⟩
   ·exact Or.inr ⟨j+1,y,by simpa using h3,h4⟩
  ·exact Or.inr ⟨0,x,rfl,λv hv=>by
    cases h:v.ok
    ·rfl
    ·exact absurd ⟨v,hv,h⟩ hx⟩
theorem yLr(hn:5<=n)(hnl:l.length<n)(hl:l.length<1000000)(hw:∀ nd∈l,zJp nd):(Fz n l=some true/\∃ t,l=t.enc 0/\Rx l.length t)\/(Fz n l=some false/\∀ t,l=t.enc 0->¬ Rx l.length t):=by
 unfold Fz;simp only;have hcomp:∀ t,l=t.enc 0->Rx l.length t->fix (jO n) n (l,l,(l.length:Int),0,[],())=some true:=by
  intro t ht hk;have hm:(t.nvs 0).map NV.node=l.drop 0:=by rw[Kl,ht];rfl
  have hvl:(t.nvs 0).length=l.length:=by have:=congrArg List.length hm;simpa using this
  have:=yHd hn hl hw (t.nvs 0) 0 [] n hm (Ya t 0 hk.1) (by omega) rfl (by rfl) (by omega);have hf:=Ay l.length t [] hk.2.1 hk.2.2;rw[show szA []=0 from rfl]at hf;rw[hf]at this;exact this
 rcases zRv l with ⟨vs,h1,h2⟩|⟨j,x,h1,h2⟩
 ·have hvl:vs.length=l.length:=by have:=congrArg List.length h1;simpa using this
  have hN:=yHd hn hl hw vs 0 [] n (by rw[h1];rfl) h2 (by omega) rfl (by rfl) (by omega);rw[show((0:Nat):Int)=0 from rfl,show jA []=[]from rfl]at hN;cases hf:wE l.length vs []with
  |none =>
   rw[hf]at hN;refine Or.inr ⟨hN,λt ht hk=>?_⟩;have:=hcomp t ht hk;rw[hN]at this;simp at this
  |some st2 =>
   rw[hf]at hN;obtain⟨ho1,ho2⟩:=zWb vs [] st2 h2 (by simp) hf;by_cases h1l:st2.length=1
   ·match st2,h1l with
    |[t],_ =>
     refine Or.inl ⟨hN,t,?_,ho2 t (by simp)⟩;simp only[encR,szA,List.nil_append,h1]at ho1;exact ho1.symm
   ·simp only[decide_eq_false h1l]at hN;refine Or.inr ⟨hN,λt ht hk=>?_⟩;have:=hcomp t ht hk;rw[hN]at this;simp at this
 ·have hjl:j<l.length:=(bE.1 h1).1;have hB:=yXl hn hl hw h1 h2 j 0 [] n (by omega) rfl rfl (by omega);refine Or.inr ⟨hB,λt ht hk=>?_⟩;have:=hcomp t ht hk;rw[show((0:Nat):Int)=0 from rfl,show jA []=[]from rfl]at hB;rw[hB]at this;simp at this
end
abbrev W4:Type:=Nat × Bool × List Bool × Bool
def lV:Pt->W4->W4 | .cat a b,w=>lV b (lV a w) | .alt a b,w=>lV b (lV a w) | .times a _ _,w=>lV a w | .group a m,w=>((lV a (w.1+1,w.2.1&&decide (m = w.1+1),w.2.2.1,w.2.2.2)).1,(lV a (w.1+1,w.2.1&&decide (m = w.1+1),w.2.2.1,w.2.2.2)).2.1,(lV a (w.1+1,w.2.1&&decide (m = w.1+1),w.2.2.1,w.2.2.2)).2.2.1.set m true,(lV a (w.1+1,w.2.1&&decide (m = w.1+1),w.2.2.1,w.2.2.2)).2.2.2) | .ref m,w=>(w.1,w.2.1&&w.2.2.1.getD m false,w.2.2.1,true) | _,w=>w
theorem Az:∀ (t:Pt) (w:W4),(lV t w).2.2.1.length=w.2.2.1.length
 |.cat a b,w=>by simp only[lV];rw[Az b,Az a]
 |.alt a b,w=>by simp only[lV];rw[Az b,Az a]
 |.times a _ _,w=>by simp only[lV];rw[Az a]
 |.group a m,w=>by simp only[lV,List.length_set];rw[Az a]
 |.ref m,w=>rfl
 |.empty,w|.bol,w|.eol,w|.bytes _,w=>rfl
theorem Ry:∀ (t:Pt) (w:W4),(lV t w).1<=w.1+t.sz
 |.cat a b,w=>by simp only[lV,Pt.sz];have:=Ry b (lV a w);have:=Ry a w;omega
 |.alt a b,w=>by simp only[lV,Pt.sz];have:=Ry b (lV a w);have:=Ry a w;omega
 |.times a _ _,w=>by simp only[lV,Pt.sz];have:=Ry a w;omega
 |.group a m,w=>by simp only[lV,Pt.sz];have:=Ry a (w.1+1,w.2.1&&decide (m=w.1+1),w.2.2.1,w.2.2.2);simp only at this;omega
 |.ref m,w=>by simp only[lV];omega
 |.empty,w|.bol,w|.eol,w|.bytes _,w=>by simp only[lV];omega
def W4.out (l:List Nd) (w:W4):Option (List Nd×Int×Bool×List Bool×Bool×Unit):=some (l,(w.1:Int),w.2.1,w.2.2.1,w.2.2.2,())
theorem zFv{l:List Nd}(hl:l.length<1000000):∀ (t:Pt) (o m:Nat) (w:W4),At l o t->wR t=true->t.sz<=m->w.1+t.sz<1000000->w.2.2.1.length=10 ->
 tF m (t.top o,l,(w.1:Int),w.2.1,w.2.2.1,w.2.2.2,())=W4.out l (lV t w):=by
 intro t;have start:∀ {t:Pt}{o m:Nat}{x:List Nd × Int × Bool × List Bool × Bool × Unit},At l o t->tF (m+1) (t.top o,x)=eZ m (tF m) (t.top o,x):=λ_=>rfl
 induction t with
 |empty =>
  intro o m w h hf hm hg he;obtain⟨m,rfl⟩:∃ k,m=k+1:=⟨m-1,by simp only[Pt.sz]at hm;omega⟩;rw[start h];unfold eZ;simp only;rw[aM h.top.1,h.top.2];rfl
 |bytes p =>
  intro o m w h hf hm hg he;obtain⟨m,rfl⟩:∃ k,m=k+1:=⟨m-1,by simp only[Pt.sz]at hm;omega⟩;rw[start h];unfold eZ;simp only;rw[aM h.top.1,h.top.2];rfl
 |bol =>
  intro o m w h hf hm hg he;obtain⟨m,rfl⟩:∃ k,m=k+1:=⟨m-1,by simp only[Pt.sz]at hm;omega⟩;rw[start h];unfold eZ;simp only;rw[aM h.top.1,h.top.2];rfl
 |eol =>
  intro o m w h hf hm hg he;obtain⟨m,rfl⟩:∃ k,m=k+1:=⟨m-1,by simp only[Pt.sz]at hm;omega⟩;rw[start h];unfold eZ;simp only;rw[aM h.top.1,h.top.2];rfl
 |ref k =>
  intro o m w h hf hm hg he;obtain⟨m,rfl⟩:∃ k,m=k+1:=⟨m-1,by simp only[Pt.sz]at hm;omega⟩;simp only[wR,aD,decide_eq_true_eq]at hf;rw[start h];unfold eZ;simp only;rw[aM h.top.1,h.top.2];simp only[Pt.nv,NV.node];rw[aO (by rfl),aO (by rfl),aO (by rfl),aO (by rfl),bC (by rfl),aM (Hl (i:=k) (n:=10) (by omega)),aM (by exact decide_eq_true (show k<10 by omega))];simp only[lV,W4.out,Int.toNat_natCast];cases w.2.1<;>rfl
 |cat a b iha ihb =>
  intro o m w h hf hm hg he;obtain⟨m,rfl⟩:∃ k,m=k+1:=⟨m-1,by simp only[Pt.sz]at hm;omega⟩;simp only[wR,aD]at hf;simp only[Pt.sz]at hm hg;rw[start h];unfold eZ;simp only;rw[aM h.top.1,h.top.2];simp only[Pt.nv,NV.node];have hga:=Ry a w;rw[bC (by rfl),bC (by rfl),iha o m w h.xBf.1 hf.1 (by omega) (by omega) he];simp only[W4.out,aN];rw[ihb (o+a.sz) m (lV a w) h.xBf.2 hf.2 (by omega) (by omega) (by rw[Az];exact he)];rfl
 |alt a b iha ihb =>
  intro o m w h hf hm hg he;obtain⟨m,rfl⟩:∃ k,m=k+1:=⟨m-1,by simp only[Pt.sz]at hm;omega⟩;simp only[wR,aD]at hf;simp only[Pt.sz]at hm hg;rw[start h];unfold eZ;simp only;rw[aM h.top.1,h.top.2];simp only[Pt.nv,NV.node];have hga:=Ry a w;rw[aO (by rfl),bC (by rfl),iha o m w h.alt1.1 hf.1 (by omega) (by omega) he];simp only[W4.out,aN];rw[ihb (o+a.sz) m (lV a w) h.alt1.2 hf.2 (by omega) (by omega) (by rw[Az];exact he)];rfl
 |times a lo hi iha =>
  intro o m w h hf hm hg he;obtain⟨m,rfl⟩:∃ k,m=k+1:=⟨m-1,by simp only[Pt.sz]at hm;omega⟩;simp only[wR,aD]at hf;simp only[Pt.sz]at hm hg;rw[start h];unfold eZ;simp only;rw[aM h.top.1,h.top.2];simp only[Pt.nv,NV.node];rw[aO (by rfl),aO (by rfl),bC (by rfl),iha o m w h.xBg hf.1 (by omega) (by omega) he];rfl
 |group a k iha =>
  intro o m w h hf hm hg he;obtain⟨m,rfl⟩:∃ k,m=k+1:=⟨m-1,by simp only[Pt.sz]at hm;omega⟩;simp only[wR,aD,decide_eq_true_eq]at hf;simp only[Pt.sz]at hm hg;rw[start h];unfold eZ;simp only;rw[aM h.top.1,h.top.2];simp only[Pt.nv,NV.node];rw[aO (by rfl),aO (by rfl),aO (by rfl),bC (by rfl),bI (by omega) (by omega),show(w.1:Int)+1=((w.1+1:Nat):Int)from rfl];have hI:=iha o m (w.1+1,w.2.1&&decide (k=w.1+1),w.2.2.1,w.2.2.2) h.xBh hf.1 (by omega) (by simp only;omega) he;simp only at hI;have he2:((k:Int)==((w.1+1:Nat):Int))=decide (k=w.1+1):=by rw[Bool.eq_iff_iff,beq_iff_eq,decide_eq_true_eq];omega
  have hlen:=Az a (w.1+1,w.2.1&&decide (k=w.1+1),w.2.2.1,w.2.2.2);rw[he2];cases hb:w.2.1<;>rw[hb]at hI hlen
  ·simp only[Bool.false_and]at hI hlen;rw[bO,hI];simp only[W4.out,aN];rw[aM (Hl (i:=k) (n:=10) (by omega)),aM (by exact decide_eq_true (show k<10 by omega))];simp only[lV,hb,Bool.false_and,Int.toNat_natCast]
  ·simp only[Bool.true_and]at hI hlen;rw[dO,hI];simp only[W4.out,aN];rw[aM (Hl (i:=k) (n:=10) (by omega)),aM (by exact decide_eq_true (show k<10 by omega))];simp only[lV,hb,Bool.true_and,Int.toNat_natCast]
def w0:W4:=(0,true,Xu,false)
def yVh (t:Pt):Prop:=t.sz<=120 ∧ Rx t.sz t ∧ (lV t w0).2.1 = true
theorem yLs{n:Nat}{l:List Nd}(hn:200<=n)(hw:∀ nd∈l,zJp nd):(∃ t,yVh t/\l=t.enc 0/\Vh n l=some (((lV t w0).1:Int),(lV t w0).2.2.2,true))\/((∀ t,yVh t->l≠t.enc 0)/\Vh n l=some (0,false,false)):=by
 unfold Vh;simp only;have hsz:∀ t:Pt,l=t.enc 0->l.length=t.sz:=λt h=>by rw[h,Pt.iU]
 by_cases h0:l.length=0
 ·rw[bC (by rw[h0];rfl)];exact Or.inr ⟨λt _ h=>by have:=hsz t h;have:=t.Bl;omega,rfl⟩
 rw[aO (by simp;intro h;rw[h]at h0;simp at h0)];by_cases h1:l.length>120
 ·rw[bC (by simp;omega)];exact Or.inr ⟨λt ht h=>by have:=hsz t h;have:=ht.1;omega,rfl⟩
 rw[aO (by simp;omega)];rcases yLr (n:=n) (l:=l) (by omega) (by omega) (by omega) hw with ⟨ho,t,ht,hk⟩|⟨ho,hno⟩
 ·rw[ho];simp only[aN,Bool.not_true,bO];unfold Qd;simp only;have hlt:=hsz t ht;have htp:=t.Bl;rw[bI (by omega) (by omega),show(l.length:Int)-1=t.top 0 by unfold Pt.top;omega];have hA:At l 0 t:=by have:=At.self t;rw[<- ht]at this;exact this
  have hN:=zFv (l:=l) (by omega) t 0 n w0 hA hk.1 (by omega) (by simp only[w0];omega) rfl;have hw0:tF n (t.top 0,l,0,true,[false,false,false,false,false,false,false,false,false,false],false,())=W4.out l (lV t w0):=hN;rw[hw0];simp only[W4.out,aN];cases hi:(lV t w0).2.1
  ·refine Or.inr ⟨λu hu h=>?_,rfl⟩;have hu2:=hu.2.2;have hlu:=hsz u h;have hB:At l 0 u:=by have:=At.self u;rw[<- h]at this;exact this
   have htop:t.top 0=u.top 0:=by unfold Pt.top;omega
   have hM:=zFv (l:=l) (by omega) u 0 n w0 hB hu.2.1.1 (by omega) (by simp only[w0];omega) rfl;rw[<- htop,hN]at hM;simp only[W4.out,aA,aB]at hM;have:=hM.2.2.1;rw[hi,hu2]at this;simp at this
  ·rw[hlt]at hk;exact Or.inl ⟨t,⟨by omega,hk,hi⟩,ht,rfl⟩
 ·rw[ho];simp only[aN,Bool.not_false,dO];exact Or.inr ⟨λt ht h=>by have:=hno t h;rw[hsz t h]at this;exact this ht.2.1,by first|rfl|trivial⟩
end Go.Dec
namespace Go.Dec
theorem yLt(s:List UInt8):match Xv s with
 |.inl t=>s≠[]->t.sz<=120
 |.inr (e,k)=>k<=s.length/\(e=2\/(40<=e/\e<=44)):=by
 cases s with
 |nil=>simp[Xv]
 |cons c s0 =>
  have hps:Xv (c::s0)=match nE 11 (c::s0) 0 Xu with
   |.er e k=>.inr (e,(c::s0).length-k)
   |.ok t r _ _ =>
    match r with
    |[]=>match t with
     |none=>.inr (41,(c::s0).length)
     |some t=>bif decide (t.sz>120)then .inr (2,0)else .inl t
    |_=>.inr (41,(c::s0).length-r.length):=rfl
  rw[hps];have hgood:=(Pn 11 (c::s0) 0 Xu (by omega) (by omega) rfl).1;cases ho:nE 11 (c::s0) 0 Xu with
  |er e k =>
   rw[ho]at hgood;exact⟨by omega,Or.inr hgood⟩
  |ok t r b2 en2 =>
   simp only;cases r with
   |cons c2 r2=>exact⟨by omega,Or.inr ⟨by omega,by omega⟩⟩
   |nil =>
    cases t with
    |none=>exact⟨by omega,Or.inr ⟨by omega,by omega⟩⟩
    |some t =>
     simp only;by_cases h:t.sz>120
     ·rw[decide_eq_true h];exact⟨by omega,Or.inl rfl⟩
     ·rw[decide_eq_false h];exact λ_=>by omega
end Go.Dec
namespace Go.Dec
variable {n:Nat}
theorem yXm(t:Pt)(o:Nat):∀ nd∈t.enc o,zJp nd:=by
 intro nd h;rw[<- Kl]at h;obtain⟨v,_,rfl⟩:=List.mem_map.1 h;cases v with
 |bytes p=>exact⟨p,rfl⟩
 |_=>exact⟨λ_=>false,wW.symm⟩
def zRw (l:List NdT):Prop:=0<l.length ∧ l.length<=120 ∧ ∀ nd ∈ l,zJp nd
theorem xBj{s:List UInt8}(hs:s.length<=5000)(hn:20000<=n):Ans (Ke n s) λy=>y.2.2=0->zRw y.1:=by
 rw[yDl (by omega) (by omega)];refine Ans.some ?_;have hg:=yLt s;cases h:Xv s with
 |inl t =>
  rw[h]at hg;intro _;have hp:=t.Bl;have yDm:t.sz<=120:=by
   cases s with
   |nil=>simp only[Xv,Sum.inl.injEq]at h;subst h;simp[Pt.sz]
   |cons a r=>exact hg (by simp)
  simp only[yDk];exact⟨by rw[Pt.iU];omega,by rw[Pt.iU];omega,yXm t 0⟩
 |inr q =>
  rw[h]at hg;obtain⟨e,k⟩:=q;intro he;simp only[yDk]at he hg;omega
theorem yPb{l:List NdT}(hn:200<=n)(h:zRw l):Ans (Qr n l) λ_=>True:=by
 unfold Qr;rcases yLs (n:=n) (l:=l) hn h.2.2 with ⟨t,_,_,h3⟩|⟨_,h3⟩
 ·simp only[h3,aN];exact Ans.some trivial
 ·simp only[h3,aN];exact Ans.some trivial
abbrev PlT:Type:=Int × Int × List UInt8 × Unit
abbrev Yb:Type:=List UInt8 × Bool × Int × List (List NdT × Bool × Unit) × List Sc1 × List PlT × List PlT × List UInt8
def bK (x:Sc0):Yb:=(x.1,x.2.1,x.2.2.1,x.2.2.2.2.2.2.2.2.2.2.2.2.2.2.2.2.2.2.2.2.2.1,x.2.2.2.2.2.2.2.2.2.2.2.2.2.2.2.2.2.2.2.2.2.2.1,x.2.2.2.2.2.2.2.2.2.2.2.2.2.2.2.2.2.2.2.2.2.2.2.1,x.2.2.2.2.2.2.2.2.2.2.2.2.2.2.2.2.2.2.2.2.2.2.2.2.1,x.2.2.2.2.2.2.2.2.2.2.2.2.2.1)
structure RdK (S:List UInt8) (c k:Nat) (q:Yb):Prop where
 s:q.1=S
 e:q.2.1=false
 lo:0<=q.2.2.1
 hi:q.2.2.1<=(S.length:Int)
 pats:∀ p∈q.2.2.2.1,zRw p.1
 pn:q.2.2.2.1.length<=999
 cn:q.2.2.2.2.1.length<=c
 op:∀ p∈q.2.2.2.2.2.1,0<=p.1/\p.1<(q.2.2.2.2.1.length:Int)+(k:Nat)
 wa:∀ p∈q.2.2.2.2.2.2.1,0<=p.1/\p.1<(q.2.2.2.2.1.length:Int)+(k:Nat)
 on:q.2.2.2.2.2.1.length<=c+k
 wn:q.2.2.2.2.2.2.1.length<=c+k
 tx:q.2.2.2.2.2.2.2.length<=4001
 ct:∀ p∈q.2.2.2.2.1,p.2.2.1.length<=4001
def Rd (S:List UInt8) (c k:Nat) (x:Sc0):Prop:=RdK S c k (bK x)
def Nx (S:List UInt8) (c k:Nat) (x y:Sc0):Prop:=RdK S c k (bK y) ∧ (bK x).2.2.1<=(bK y).2.2.1 ∧ (bK x).2.2.2.1.length<=(bK y).2.2.2.1.length
def pW (x:Sc0) (a:Int):Sc0:=(x.1,x.2.1,a,x.2.2.2)
section
variable {S:List UInt8}
variable {c k:Nat}
variable {x y z:Sc0}
theorem Nx.trans(h:Nx S c k x y)(g:Nx S c k y z):Nx S c k x z:=⟨g.1,Int.le_trans h.2.1 g.2.1,Nat.le_trans h.2.2 g.2.2⟩
theorem Nx.refl(h:Rd S c k x):Nx S c k x x:=⟨h,Int.le_refl _,aP _⟩
theorem Rd.at(h:Rd S c k x){a:Int}(h0:x.2.2.1<=a)(h1:a<=S.length):Nx S c k x (pW x a):=
 ⟨⟨h.s,h.e,Int.le_trans h.lo h0,h1,h.pats,h.pn,h.cn,h.op,h.wa,h.on,h.wn,h.tx,h.ct⟩,h0,aP _⟩
theorem Rd.Je(h:Rd S c 0 x):Rd S c 1 x:=⟨h.s,h.e,h.lo,h.hi,h.pats,h.pn,h.cn,λp hp=>by have:=h.op p hp;exact⟨this.1,by omega⟩,λp hp=>by have:=h.wa p hp;exact⟨this.1,by omega⟩,Nat.le_trans h.on (by omega),Nat.le_trans h.wn (by omega),h.tx,h.ct⟩
def Fu (S:List UInt8) (n:Nat):Prop:=S.length<=4000 ∧ 20000<=n ∧ S.length<=900000
theorem Uz(b:List UInt8)(h:Rd S c k x):Ans (dD n (b,x)) λy=>y.2=x/\(y.1=true->x.2.2.1<(S.length:Int)/\∃ d,S[x.2.2.1.toNat]?=some d/\0<=Go.Lib.indexByte b d):=by
 have hs:x.1=S:=h.s;have hlo:0<=x.2.2.1:=h.lo;unfold dD;simp only[hs];refine Ans.br (λg=>?_) (λ_=>Ans.some ⟨rfl,λg=>by cases g⟩);have g:=yP g;refine Ans.chk (dM hlo (by omega)) ?_;have hg:S[x.2.2.1.toNat]?=some (aV 0 S x.2.2.1):=by
  unfold aV;have:x.2.2.1.toNat<S.length:=by omega
  rw[List.getD_eq_getElem?_getD,List.getElem?_eq_getElem this];rfl
 unfold strings_IndexByte;rw[aN];refine Ans.some ⟨rfl,λq=>⟨g,_,hg,?_⟩⟩;have q:=yP q;simpa using q
theorem Pq(b:List UInt8)(h:Rd S c k x)(hf:Fu S n):Ans (dH n (b,x)) λy=>∃ a,y.2=pW x a/\x.2.2.1<=a/\a<=S.length:=by
 have hhi:x.2.2.1<=S.length:=h.hi;have hlo:0<=x.2.2.1:=h.lo;have h4:=hf.1;unfold dH;refine Ans.ob _ (Uz b h) ?_;rintro⟨q,y⟩ ⟨hy,g⟩;simp only at hy g ⊢;subst hy;refine Ans.br (λ_=>Ans.some ⟨_,rfl,Int.le_refl _,hhi⟩) (λhq=>?_);have hq:q=true:=by simpa using hq
 have:=(g hq).1;rw[bI (by omega) (by omega)];exact Ans.some ⟨_,rfl,by omega,by omega⟩
theorem xP(h:Rd S c k x)(hf:Fu S n):Ans (bL n x) λy=>∃ a,y=pW x a/\x.2.2.1<=a/\a<=S.length:=by
 have hs:x.1=S:=h.s;obtain⟨f1,f2,f3⟩:=hf;unfold bL;simp only[hs];refine Ans.ob _ (zVo (n:=n) (s:=S) (a:=x.2.2.1) (by omega) f3 h.lo h.hi) ?_;rintro a ⟨g1,g2⟩;exact Ans.some ⟨a,by unfold pW;rw[hs],g1,g2⟩
theorem zOm(e:List UInt8)(h:Rd S c k x)(hf:Fu S n):Ans (eB n (e,x)) λy=>∃ a,y.2=pW x a/\x.2.2.1<=a/\a<=S.length/\y.1.length<=S.length:=by
 have hs:x.1=S:=h.s;unfold eB;refine Ans.ob _ (xP h hf) ?_;rintro _ ⟨a,rfl,g1,g2⟩;simp only at g1;obtain⟨f1,f2,f3⟩:=hf;have hlo:0<=x.2.2.1:=h.lo;simp only[pW,hs];refine Ans.ob _ (yGu (n:=n) (s:=S) (a:=a) (by omega) f3 (by omega) g2 e) ?_;rintro w ⟨k1,k2,k3⟩;exact Ans.some ⟨w.2,by simp only,by omega,k2,k3⟩
abbrev Ok{α β:Type}(P:α->Prop)(s:Sum α (Int × β)):Prop:=(∀ y,s=.inl y->P y)/\∀ z:Int × β,s=.inr z->z.1≠0
theorem okl{α β:Type}{P:α->Prop}{y:α}(h:P y):Ans (some (Sum.inl y:Sum α (Int × β))) (Ok P):=Ans.some ⟨λz e=>by cases e;exact h,λ_ e=>(nomatch e)⟩
theorem okr{α β:Type}{P:α->Prop}{e:Int}{w:β}(h:e≠0):Ans (some (Sum.inr (e,w):Sum α (Int × β))) (Ok P):=Ans.some ⟨λz e=>(nomatch e),λz e=>by cases e;exact h⟩
theorem iW{ρ:Type}{Q:ρ->Prop}{e:Int}{K:Unit->Option ρ}{K':Int × Unit->Option ρ}(h:Ans (K' (e,())) Q):Ans (ob2 (aW n (e,())) K K') Q:=h
theorem ok2{α β α' β':Type}{o:Option (Sum α (Int × β))}{K:α->Option (Sum α' (Int × β'))}{K':Int × β->Option (Sum α' (Int × β'))}{P:α->Prop}{Q:α'->Prop}(h:Ans o (Ok P))(hk:∀ y,P y->Ans (K y) (Ok Q))(hk':∀ z,∃ w,K' z=some (.inr (z.1,w))):Ans (ob2 o K K') (Ok Q):=
 Ans.ob2 P (λz=>z.1≠0) h hk λz hz=>by obtain⟨w,hw⟩:=hk' z;rw[hw];exact okr hz
theorem Pv{e:Int}:Ans (iF n (e,())) (Ok λ_=>e=0):=by
 unfold iF;simp only;refine Ans.br (λh=>iW (okr (by simpa using h))) (λh=>okl (by simpa using h))
theorem Gn(e:Int)(he:e≠0)(h:Rd S c k x)(hf:Fu S n):Ans (dY n (e,x)) (Ok λy=>∃ a,y.2=pW x a/\x.2.2.1<a/\a<=S.length):=by
 have hs:x.1=S:=h.s;obtain⟨f1,f2,f3⟩:=hf;unfold dY;simp only[hs];refine Ans.ob _ (yOn (n:=n) (s:=S) (a:=x.2.2.1) (by omega) f3 h.lo h.hi) ?_;rintro q ⟨g1,g2,g3⟩;refine Ans.br (λ_=>iW (okr he)) (λhq=>okl ⟨_,by unfold pW;rw[hs],g3 (by simpa using hq),g2⟩)
theorem any_ok(h:Rd S c k x)(hf:Fu S n):Ans (fO n x) (Ok λy=>y.2=pW x (x.2.2.1+1)/\x.2.2.1+1<=S.length):=by
 have hs:x.1=S:=h.s;have hlo:0<=x.2.2.1:=h.lo;have hhi:x.2.2.1<=S.length:=h.hi;obtain⟨f1,f2,f3⟩:=hf;unfold fO;simp only[hs];refine Ans.br (λ_=>iW (okr (by decide))) (λg=>?_);have g:x.2.2.1≠S.length:=by simpa using g
 rw[bI (x:=x.2.2.1+1) (by omega) (by omega),bI (by omega) (by omega)];refine Ans.chk (dM (by omega) (by omega)) (okl ⟨by unfold pW;rw[hs],by omega⟩)
theorem zFg(d:Int)(h:Rd S c k x)(hf:Fu S n):Ans (fA n (d,x)) (Ok λy=>∃ a,y.2=pW x a/\x.2.2.1<=a/\a<=S.length/\y.1.length<=S.length):=by
 have hs:x.1=S:=h.s;obtain⟨f1,f2,f3⟩:=hf;unfold fA;simp only[hs];refine Ans.ob _ (yXb (n:=n) (s:=S) (a:=x.2.2.1) (d:=d) (by omega) (by omega) h.lo h.hi) ?_;rintro q ⟨g1,g2,g3⟩;exact ok2 Pv (λ_ _=>okl ⟨_,by unfold pW;rw[hs],g1,g2,g3⟩) (λz=>⟨_,rfl⟩)
end
end Go.Dec
namespace Go.Dec
variable {n:Nat}
variable {S:List UInt8}
variable {c k:Nat}
variable {x y z:Sc0}
def rpn (x:Sc0):Nat:=(bK x).2.2.2.1.length
theorem zRx(d:Int)(h:Rd S c k x)(hf:Fu S n):Ans (fT n (d,x)) (Ok λy=>Nx S c k x y.2/\y.1=(rpn x:Int)/\rpn y.2=rpn x+1):=by
 have he:x.2.1=false:=h.e;have hpn:rpn x<=999:=h.pn;unfold fT;simp only[he];rw[bO];refine ok2 (zFg d h hf) ?_ (λz=>⟨_,rfl⟩);rintro⟨t,w⟩ ⟨a,hw,g1,g2,g3⟩;simp only at hw g1 g2 g3;subst hw;obtain⟨f1,f2,f3⟩:=hf;refine Ans.ob _ (xBj (n:=n) (s:=t) (by omega) f2) ?_;rintro⟨l,e1,e2⟩ hl;refine ok2 Pv ?_ (λz=>⟨_,rfl⟩);rintro _ hz;simp only at hl hz;have hl:=hl hz;refine Ans.br (λ_=>iW (okr (by decide))) (λhne=>?_);have hne:rpn x≠999:=by
  intro e;have:((rpn x:Nat):Int)=999:=by omega
  exact absurd hne (by rw[Bool.not_eq_false];exact beq_iff_eq.2 this)
 refine Ans.chk (Ru (m:=rpn x+1) (by omega)) (okl ?_);have hlen:((bK x).2.2.2.1++[(l,(false,()))]).length=rpn x+1:=by rw[List.length_append,List.length_singleton];rfl
 refine⟨⟨⟨h.s,he,Int.le_trans h.lo g1,g2,λp hp=>?_,?_,h.cn,h.op,h.wa,h.on,h.wn,h.tx,h.ct⟩,g1,?_⟩,?_,hlen⟩
 ·have hp:p∈(bK x).2.2.2.1++[(l,(false,()))]:=hp;rcases List.mem_append.1 hp with hp|hp
  ·exact h.pats p hp
  ·obtain rfl:=List.mem_singleton.1 hp;exact hl
 ·show((bK x).2.2.2.1++[(l,(false,()))]).length<=999;omega
 ·show(bK x).2.2.2.1.length<=((bK x).2.2.2.1++[(l,(false,()))]).length;rw[List.length_append];omega
 ·show IntKind.wrap .i64 (((((bK x).2.2.2.1++[(l,(false,()))]).length:Nat):Int)-1)=_;rw[hlen,bI (by omega) (by omega)];omega
theorem yHe(h:Rd S c k x)(hp:1<=rpn x):Ans (iC n x) λy=>Nx S c k x y/\rpn y=rpn x:=by
 have hpn:rpn x<=999:=h.pn;unfold iC;simp only;have hw:IntKind.wrap .i64 (((rpn x:Nat):Int)-1)=((rpn x-1:Nat):Int):=by rw[bI (by omega) (by omega)];omega
 refine Ans.chk (Gl (dM (n:=rpn x) (by show 0<=IntKind.wrap .i64 (((rpn x:Nat):Int)-1);omega) (by show IntKind.wrap .i64 (((rpn x:Nat):Int)-1)<_;omega)) (decide_eq_true (by omega))) ?_;refine Ans.chk (decide_eq_true (by show 0+(IntKind.wrap .i64 (((rpn x:Nat):Int)-1)).toNat<rpn x;omega)) (Ans.some ?_);refine⟨⟨⟨h.s,h.e,h.lo,h.hi,λp hp=>?_,?_,h.cn,h.op,h.wa,h.on,h.wn,h.tx,h.ct⟩,Int.le_refl _,?_⟩,List.length_set ..⟩
 ·rcases List.mem_or_eq_of_mem_set hp with hp|rfl
  ·exact h.pats p hp
  ·simp only[Nat.zero_add];have hi:(IntKind.wrap .i64 (((rpn x:Nat):Int)-1)).toNat<(bK x).2.2.2.1.length:=by show _<rpn x;omega
   have:=h.pats ((bK x).2.2.2.1[(IntKind.wrap .i64 (((rpn x:Nat):Int)-1)).toNat]'hi) (List.getElem_mem hi);rw[show(List.getD _ _ _:List NdT × Bool × Unit)=(bK x).2.2.2.1[(IntKind.wrap .i64 (((rpn x:Nat):Int)-1)).toNat]'hi from by rw[List.getD_eq_getElem?_getD];exact(congrArg (λo=>Option.getD o _) (List.getElem?_eq_getElem hi))];exact this
 ·exact Nat.le_trans (Nat.le_of_eq (List.length_set ..)) h.pn
 ·exact Nat.le_of_eq (List.length_set ..).symm
abbrev AdP(S:List UInt8)(c k:Nat)(x:Sc0)(y:Int × Int × Int × Bool × Sc0):Prop:=Nx S c k x y.2.2.2.2
theorem yPc(b q:Bool)(e1 e2 e3:Int)(h:Rd S c k x)(hf:Fu S n)(X:_)(hX:X=(b,q,x.1,x.2.1,x.2.2.1,x.2.2.2.1,x.2.2.2.2.1,x.2.2.2.2.2.1,x.2.2.2.2.2.2.1,x.2.2.2.2.2.2.2.1,x.2.2.2.2.2.2.2.2.1,x.2.2.2.2.2.2.2.2.2.1,x.2.2.2.2.2.2.2.2.2.2.1,x.2.2.2.2.2.2.2.2.2.2.2.1,x.2.2.2.2.2.2.2.2.2.2.2.2.1,x.2.2.2.2.2.2.2.2.2.2.2.2.2.1,x.2.2.2.2.2.2.2.2.2.2.2.2.2.2.1,x.2.2.2.2.2.2.2.2.2.2.2.2.2.2.2.1,x.2.2.2.2.2.2.2.2.2.2.2.2.2.2.2.2.1,x.2.2.2.2.2.2.2.2.2.2.2.2.2.2.2.2.2.1,x.2.2.2.2.2.2.2.2.2.2.2.2.2.2.2.2.2.2.1,x.2.2.2.2.2.2.2.2.2.2.2.2.2.2.2.2.2.2.2.1,x.2.2.2.2.2.2.2.2.2.2.2.2.2.2.2.2.2.2.2.2.1,x.2.2.2.2.2.2.2.2.2.2.2.2.2.2.2.2.2.2.2.2.2.1,x.2.2.2.2.2.2.2.2.2.2.2.2.2.2.2.2.2.2.2.2.2.2.1,x.2.2.2.2.2.2.2.2.2.2.2.2.2.2.2.2.2.2.2.2.2.2.2.1,x.2.2.2.2.2.2.2.2.2.2.2.2.2.2.2.2.2.2.2.2.2.2.2.2.1,x.2.2.2.2.2.2.2.2.2.2.2.2.2.2.2.2.2.2.2.2.2.2.2.2.2.1,e1,e2,e3,())):Ans (jn (jC n) X) (Ok (AdP S c k x)):=by
 subst hX;show Ans (jC n _) _;unfold jC;simp only;refine Ans.br (λ_=>?_) (λ_=>Ans.br (λ_=>?_) (λ_=>okl (Nx.refl h)))
 ·refine ok2 (Gn (x:=x) 121 (by decide) h hf) ?_ (λz=>⟨_,rfl⟩);rintro⟨v,w⟩ ⟨a,hw,g1,g2⟩;simp only at hw g1 g2;subst hw;exact okl (Rd.at h (Int.le_of_lt g1) g2)
 ·refine Ans.ob _ (Pq (x:=x) [126] h hf) ?_;rintro⟨q,w⟩ ⟨a,hw,g1,g2⟩;simp only at hw g1 g2;subst hw;have hn:=Rd.at h g1 g2;refine Ans.br (λ_=>?_) (λ_=>okl hn);refine ok2 (Gn (x:=pW x a) 121 (by decide) hn.1 hf) ?_ (λz=>⟨_,rfl⟩);rintro⟨v,w⟩ ⟨a2,hw,g1,g2⟩;simp only at hw g1 g2;subst hw;exact okl (hn.trans (Rd.at hn.1 (Int.le_of_lt g1) g2))
theorem zRy(b:Bool)(h:Rd S c k x)(hf:Fu S n):Ans (kM n (b,x)) (Ok (AdP S c k x)):=by
 unfold kM;refine Ans.ob _ (Uz _ h) ?_;rintro⟨q,w⟩ ⟨hw,_⟩;simp only at hw;have hw:=hw.symm;subst hw;have rx:∀ (d:Int) (w:Sc0),Nx S c k x w->Ans (ob2 (fT n (d,w)) (λy36 =>
  ob (dH n ([73],y36.2)) λy37 =>
  br y37.1 (
   ob (iC n (y37.2)) λy38 =>
   some (.inl (4,y36.1,0,true,y38))) (
   some (.inl (4,y36.1,0,true,y37.2)))) (λy36 =>
  some (.inr (y36)):Int × Sc0->Option (Sum (Int × Int × Int × Bool × Sc0) (Int × Sc0)))) (Ok (AdP S c k x)):=by
  intro d w hn;refine ok2 (zRx d hn.1 hf) ?_ (λz=>⟨_,rfl⟩);rintro⟨v,w2⟩ ⟨hn2,_,hp⟩;simp only at hn2 hp;refine Ans.ob _ (Pq [73] hn2.1 hf) ?_;rintro⟨q2,w3⟩ ⟨a,hw,g1,g2⟩;simp only at hw g1 g2;subst hw;have hn3:=Rd.at hn2.1 g1 g2;refine Ans.br (λ_=>?_) (λ_=>okl ((hn.trans hn2).trans hn3));refine Ans.ob _ (yHe hn3.1 (by show 1<=rpn w2;omega)) ?_;rintro w4 ⟨hn4,_⟩;exact okl (((hn.trans hn2).trans hn3).trans hn4)
 refine Ans.br (λ_=>?_) (λ_=>?_)
 ·refine ok2 (Gn 121 (by decide) h hf) ?_ (λz=>⟨_,rfl⟩);rintro⟨v,w⟩ ⟨a,hw,g1,g2⟩;simp only at hw g1 g2;subst hw;have hn:=Rd.at h (Int.le_of_lt g1) g2;refine Ans.ob _ (Pq [126] hn.1 hf) ?_;rintro⟨q,w⟩ ⟨a2,hw,g3,g4⟩;simp only at hw g3 g4;subst hw;have hn2:=hn.trans (Rd.at hn.1 g3 g4);refine Ans.br (λ_=>?_) (λ_=>okl hn2);refine ok2 (Gn 121 (by decide) hn2.1 hf) ?_ (λz=>⟨_,rfl⟩);rintro⟨v,w⟩ ⟨a3,hw,g5,g6⟩;simp only at hw g5 g6;subst hw;exact okl (hn2.trans (Rd.at hn2.1 (Int.le_of_lt g5) g6))
 ·refine Ans.ob _ (Pq [36] h hf) ?_;rintro⟨q,w⟩ ⟨a,hw,g1,g2⟩;simp only at hw g1 g2;subst hw;have hn:=Rd.at h g1 g2;refine Ans.br (λ_=>okl hn) (λ_=>?_);refine Ans.ob _ (Uz [47,92] hn.1) ?_;rintro⟨q,w⟩ ⟨hw,_⟩;simp only at hw;subst hw;refine Ans.br (λ_=>?_) (λ_=>Ans.br (λ_=>?_) (λ_=>?_))
  ·refine ok2 (any_ok hn.1 hf) ?_ (λz=>⟨_,rfl⟩);rintro⟨d,w⟩ ⟨hw,g3⟩;simp only at hw g3;subst hw;have hn2:=hn.trans (Rd.at hn.1 (by omega) g3);refine Ans.br (λ_=>?_) (λ_=>rx _ _ hn2);refine ok2 (any_ok hn2.1 hf) ?_ (λz=>⟨_,rfl⟩);rintro⟨d,w⟩ ⟨hw,g4⟩;simp only at hw g4;subst hw;exact rx _ _ (hn2.trans (Rd.at hn2.1 (by omega) g4))
  ·refine Ans.ob _ (Pq [43] hn.1 hf) ?_;rintro⟨q,w⟩ ⟨a2,hw,g3,g4⟩;simp only at hw g3 g4;subst hw;have hn2:=Rd.at hn.1 g3 g4;exact(yPc _ _ _ _ _ hn2.1 hf _ rfl).mono λs hs=>⟨λy hy=>(hn.trans hn2).trans (hs.1 y hy),hs.2⟩
  ·exact(yPc _ _ _ _ _ hn.1 hf _ rfl).mono λs hs=>⟨λy hy=>hn.trans (hs.1 y hy),hs.2⟩
theorem yDv(h:Rd S c k x)(hf:Fu S n):Ans (lX n x) (Ok λy=>Nx S c k x y.2):=by
 unfold lX;refine ok2 (zRy false h hf) ?_ (λz=>⟨_,rfl⟩);intro y hy;refine Ans.br (λ_=>okl hy) (λ_=>?_);refine Ans.ob _ (xP (x:=(y.2.2.2.2.1,y.2.2.2.2.2.1,y.2.2.2.2.2.2.1,y.2.2.2.2.2.2.2.1,y.2.2.2.2.2.2.2.2.1,y.1,y.2.1,y.2.2.1,y.2.2.2.2.2.2.2.2.2.2.2.2)) hy.1 hf) ?_;rintro _ ⟨a,rfl,g1,g2⟩;have hn1:Nx S c k x (pW (y.2.2.2.2.1,y.2.2.2.2.2.1,y.2.2.2.2.2.2.1,y.2.2.2.2.2.2.2.1,y.2.2.2.2.2.2.2.2.1,y.1,y.2.1,y.2.2.1,y.2.2.2.2.2.2.2.2.2.2.2.2) a):=Nx.trans (y:=y.2.2.2.2) hy (Rd.at (x:=(y.2.2.2.2.1,y.2.2.2.2.2.1,y.2.2.2.2.2.2.1,y.2.2.2.2.2.2.2.1,y.2.2.2.2.2.2.2.2.1,y.1,y.2.1,y.2.2.1,y.2.2.2.2.2.2.2.2.2.2.2.2)) hy.1 g1 g2);refine Ans.ob _ (Pq [44] hn1.1 hf) ?_;rintro⟨q,w⟩ ⟨a2,hw,g3,g4⟩;simp only at hw;subst hw;have hn2:=hn1.trans (Rd.at hn1.1 g3 g4);refine Ans.br (λ_=>?_) (λ_=>?_)
 ·refine Ans.ob _ (xP hn2.1 hf) ?_;rintro _ ⟨a3,rfl,g5,g6⟩;have hn3:=hn2.trans (Rd.at hn2.1 g5 g6);refine ok2 (zRy true hn3.1 hf) ?_ (λz=>⟨_,rfl⟩);intro y2 hy2;refine Ans.br (λ_=>iW (okr (by decide))) (λ_=>Ans.ob _ (yOr _) λq _=>Ans.br (λ_=>iW (okr (by decide))) (λ_=>okl (hn3.trans hy2)))
 ·exact Ans.ob _ (yOr _) λq _=>Ans.br (λ_=>iW (okr (by decide))) (λ_=>okl hn2)
def rcn (x:Sc0):Nat:=(bK x).2.2.2.2.1.length
theorem yDw(h:Rd S c 1 x)(hc:c<=5000):Ans (bZ n x) λy=>Nx S (c+1) 0 x y:=by
 have hcn:rcn x<=c:=h.cn;unfold bZ;simp only;refine Ans.chk (Ru (m:=rcn x+1) (by omega)) (Ans.some ?_);have hlen:∀ q,((bK x).2.2.2.2.1++[q]).length=rcn x+1:=λq=>by rw[List.length_append,List.length_singleton];rfl
 refine⟨⟨h.s,h.e,h.lo,h.hi,h.pats,h.pn,?_,λp hp=>?_,λp hp=>?_,h.on,h.wn,h.tx,λp hp=>?_⟩,Int.le_refl _,aP _⟩
 ·exact Nat.le_trans (Nat.le_of_eq (hlen _)) (by omega)
 ·have:=h.op p hp;refine⟨this.1,Int.lt_of_lt_of_le this.2 ?_⟩;exact Int.le_trans (show((rcn x:Nat):Int)+(1:Nat)<=((rcn x+1:Nat):Int)+(0:Nat)by omega) (Int.le_of_eq (congrArg (λm:Nat=>(m:Int)+(0:Nat)) (hlen _).symm))
 ·have:=h.wa p hp;refine⟨this.1,Int.lt_of_lt_of_le this.2 ?_⟩;exact Int.le_trans (show((rcn x:Nat):Int)+(1:Nat)<=((rcn x+1:Nat):Int)+(0:Nat)by omega) (Int.le_of_eq (congrArg (λm:Nat=>(m:Int)+(0:Nat)) (hlen _).symm))
 ·rcases List.mem_append.1 hp with hp|hp
  ·exact h.ct p hp
  ·obtain rfl:=List.mem_singleton.1 hp;exact h.tx
end Go.Dec
namespace Go.Dec
variable {n:Nat}
variable {S:List UInt8}
variable {c k:Nat}
variable {x y z:Sc0}
def rd3 (X:Sc3):Sc0:=(X.1,X.2.1,X.2.2.1,X.2.2.2.1,X.2.2.2.2.1,X.2.2.2.2.2.1,X.2.2.2.2.2.2.1,X.2.2.2.2.2.2.2.1,X.2.2.2.2.2.2.2.2.1,X.2.2.2.2.2.2.2.2.2.1,X.2.2.2.2.2.2.2.2.2.2.1,X.2.2.2.2.2.2.2.2.2.2.2.1,X.2.2.2.2.2.2.2.2.2.2.2.2.1,X.2.2.2.2.2.2.2.2.2.2.2.2.2.1,X.2.2.2.2.2.2.2.2.2.2.2.2.2.2.1,X.2.2.2.2.2.2.2.2.2.2.2.2.2.2.2.1,X.2.2.2.2.2.2.2.2.2.2.2.2.2.2.2.2.1,X.2.2.2.2.2.2.2.2.2.2.2.2.2.2.2.2.2.1,X.2.2.2.2.2.2.2.2.2.2.2.2.2.2.2.2.2.2.1,X.2.2.2.2.2.2.2.2.2.2.2.2.2.2.2.2.2.2.2.1,X.2.2.2.2.2.2.2.2.2.2.2.2.2.2.2.2.2.2.2.2.1,X.2.2.2.2.2.2.2.2.2.2.2.2.2.2.2.2.2.2.2.2.2.1,X.2.2.2.2.2.2.2.2.2.2.2.2.2.2.2.2.2.2.2.2.2.2.1,X.2.2.2.2.2.2.2.2.2.2.2.2.2.2.2.2.2.2.2.2.2.2.2.1,X.2.2.2.2.2.2.2.2.2.2.2.2.2.2.2.2.2.2.2.2.2.2.2.2.1,X.2.2.2.2.2.2.2.2.2.2.2.2.2.2.2.2.2.2.2.2.2.2.2.2.2.1,())
def mk3 (w:Sc0) (m:List (List UInt8×Int)):Sc3:=(w.1,w.2.1,w.2.2.1,w.2.2.2.1,w.2.2.2.2.1,w.2.2.2.2.2.1,w.2.2.2.2.2.2.1,w.2.2.2.2.2.2.2.1,w.2.2.2.2.2.2.2.2.1,w.2.2.2.2.2.2.2.2.2.1,w.2.2.2.2.2.2.2.2.2.2.1,w.2.2.2.2.2.2.2.2.2.2.2.1,w.2.2.2.2.2.2.2.2.2.2.2.2.1,w.2.2.2.2.2.2.2.2.2.2.2.2.2.1,w.2.2.2.2.2.2.2.2.2.2.2.2.2.2.1,w.2.2.2.2.2.2.2.2.2.2.2.2.2.2.2.1,w.2.2.2.2.2.2.2.2.2.2.2.2.2.2.2.2.1,w.2.2.2.2.2.2.2.2.2.2.2.2.2.2.2.2.2.1,w.2.2.2.2.2.2.2.2.2.2.2.2.2.2.2.2.2.2.1,w.2.2.2.2.2.2.2.2.2.2.2.2.2.2.2.2.2.2.2.1,w.2.2.2.2.2.2.2.2.2.2.2.2.2.2.2.2.2.2.2.2.1,w.2.2.2.2.2.2.2.2.2.2.2.2.2.2.2.2.2.2.2.2.2.1,w.2.2.2.2.2.2.2.2.2.2.2.2.2.2.2.2.2.2.2.2.2.2.1,w.2.2.2.2.2.2.2.2.2.2.2.2.2.2.2.2.2.2.2.2.2.2.2.1,w.2.2.2.2.2.2.2.2.2.2.2.2.2.2.2.2.2.2.2.2.2.2.2.2.1,w.2.2.2.2.2.2.2.2.2.2.2.2.2.2.2.2.2.2.2.2.2.2.2.2.2.1,m,())
def had (X:Sc3):List (List UInt8×Int):=X.2.2.2.2.2.2.2.2.2.2.2.2.2.2.2.2.2.2.2.2.2.2.2.2.2.2.1
def Ones (m:List (List UInt8×Int)):Prop := ∀ p ∈ m,p.2 = 1
theorem yTp{m:List (List UInt8 × Int)}(h:Ones m)(q:List UInt8):jK .str 0 m q=0\/jK .str 0 m q=1:=by
 unfold jK;have:∀ v,gH .str m q=some v->v=1:=by
  induction m with
  |nil=>intro v hv;cases hv
  |cons e r ih =>
   intro v hv;unfold gH at hv;split at hv
   ·obtain rfl:=Option.some.inj hv;exact h e (.head _)
   ·exact ih (λp hp=>h p (.tail _ hp)) v hv
 cases hq:gH .str m q with
 |none=>exact .inl rfl
 |some v=>exact .inr (this v hq)
theorem yTq(m:List (List UInt8 × Int))(q:List UInt8)(v:Int):jK .str 0 (wK .str m q v) q=v:=by
 have hs:Ty.beq .str q q=true:=yCu (t:=.str) rfl q;have key:∀ m:List (List UInt8 × Int),gH .str (wK .str m q v) q=some v:=by
  intro m;unfold wK;have:∀ m:List (List UInt8 × Int),(∀ u,gH .str m q=some u->gH .str (m.set (mIdx .str m q) (q,v)) q=some v)/\(gH .str m q=none->gH .str (m++[(q,v)]) q=some v):=by
   intro m;induction m with
   |nil=>exact⟨λu hu=>(by cases hu),λ_=>by simp only[List.nil_append,gH];split<;>simp_all⟩
   |cons e r ih =>
    cases hb:Ty.beq .str q e.1 with
    |true=>exact⟨λu _=>by simp only[mIdx,hb,List.set_cons_zero,gH];split<;>simp_all,λhn=>by simp[gH,hb]at hn⟩
    |false =>
     refine⟨λu hu=>?_,λhn=>?_⟩
     ·simp only[gH,hb]at hu;simp only[mIdx,hb,List.set_cons_succ,gH];exact ih.1 u hu
     ·simp only[gH,hb]at hn;simp only[List.cons_append,gH,hb];exact ih.2 hn
  cases hq:gH .str m q with
  |none=>exact(this m).2 hq
  |some u=>exact(this m).1 u hq
 unfold jK;rw[key m]
theorem yTr{m:List (List UInt8 × Int)}(h:Ones m)(q:List UInt8):Ones (wK .str m q 1):=by
 unfold wK;cases gH .str m q with
 |none =>
  intro p hp;rcases List.mem_append.1 hp with hp|hp
  ·exact h p hp
  ·obtain rfl:=List.mem_singleton.1 hp;rfl
 |some u =>
  intro p hp;rcases List.mem_or_eq_of_mem_set hp with hp|rfl
  ·exact h p hp
  ·rfl
abbrev FlP(S:List UInt8)(c k:Nat)(w:Sc0):Sum (Bool × Sc0) (Int × Sc0)->Prop:=Ok λy=>Nx S c k w y.2
def Rest (S:List UInt8) (c k:Nat) (x w:Sc0) (r:Sc3->Option (Sum (Bool×Sc0) (Int×Sc0))):Prop := ∀ Y,Nx S c k w (rd3 Y)->Ones (had Y)->Ans (r Y) (FlP S c k x)
theorem xBk(q:List UInt8){w:Sc0}{m:List (List UInt8 × Int)}{r:Sc3->Option (Sum (Bool × Sc0) (Int × Sc0))}(hx:Nx S c k x w)(h:Rd S c k w)(hp:1<=rpn w)(hm:Ones m)(hf:Fu S n)(hr:Rest S c k x w r):Ans (jn (oH n r) (q,mk3 w m)) (FlP S c k x):=by
 show Ans (oH n r _) _;unfold oH;have hn:Nx S c k w w:=Nx.refl h;refine Ans.br (λ_=>hr _ hn hm) (λ_=>Ans.br (λ_=>hr _ hn hm) (λ_=>Ans.br (λ_=>?_) (λ_=>Ans.br (λ_=>?_) (λ_=>hr _ hn hm))))
 ·refine Ans.ob _ (yHe (x:=w) h hp) ?_;rintro w2 ⟨g,_⟩;exact hr _ g hm
 ·refine Ans.ob _ (zOm (x:=w) [] h hf) ?_;rintro⟨t,w2⟩ ⟨a,hw,g1,g2,g3⟩;simp only at hw g3;subst hw;have hn2:=(Rd.at h g1 g2).1;have h4:=hf.1;have h8:RdK S c k (w.1,w.2.1,a,w.2.2.2.2.2.2.2.2.2.2.2.2.2.2.2.2.2.2.2.2.2.1,w.2.2.2.2.2.2.2.2.2.2.2.2.2.2.2.2.2.2.2.2.2.2.1,w.2.2.2.2.2.2.2.2.2.2.2.2.2.2.2.2.2.2.2.2.2.2.2.1,w.2.2.2.2.2.2.2.2.2.2.2.2.2.2.2.2.2.2.2.2.2.2.2.2.1,t):=⟨hn2.s,hn2.e,hn2.lo,hn2.hi,hn2.pats,hn2.pn,hn2.cn,hn2.op,hn2.wa,hn2.on,hn2.wn,by simp only;omega,hn2.ct⟩;exact Ans.br (λ_=>iW (okr (by decide))) (λ_=>okl ⟨h8,Int.le_trans hx.2.1 g1,hx.2.2⟩)
theorem yDx(q:List UInt8){w:Sc0}{m:List (List UInt8 × Int)}{r:Sc3->Option (Sum (Bool × Sc0) (Int × Sc0))}(hx:Nx S c k x w)(h:Rd S c k w)(hp:1<=rpn w)(hm:Ones m)(hf:Fu S n)(hr:jK .str 0 m q=0->Rest S c k x w r):Ans (jn (fK n r) (q,mk3 w m)) (FlP S c k x):=by
 show Ans (fK n r _) _;unfold fK;have hg:jK .str 0 (wK .str (had (mk3 w m)) q (IntKind.wrap .i64 (jK .str 0 (had (mk3 w m)) q+1))) q=IntKind.wrap .i64 (jK .str 0 m q+1):=yTq _ _ _;refine Ans.br (λ_=>iW (okr (by decide))) (λhle=>?_);have hle:¬ (jK .str 0 (wK .str (had (mk3 w m)) q (IntKind.wrap .i64 (jK .str 0 (had (mk3 w m)) q+1))) q>1):=zJf hle;rw[hg]at hle;have h0:jK .str 0 m q=0:=by
  rcases yTp hm q with e|e
  ·exact e
  ·rw[e,bI (by decide) (by decide)]at hle;omega
 refine Ans.br (λ_=>iW (okr (by decide))) (λ_=>?_);have hset:wK .str m q (IntKind.wrap .i64 (jK .str 0 m q+1))=wK .str m q 1:=by rw[h0];rfl
 have:=xBk (n:=n) q (m:=wK .str m q (IntKind.wrap .i64 (jK .str 0 m q+1))) hx h hp (by rw[hset];exact yTr hm q) hf (hr h0);exact this
theorem flB{X:Sc3}{r:Sc3->Option (Sum (Bool × Sc0) (Int × Sc0))}(hX:Nx S c k x (rd3 X))(hp3:1<=rpn (rd3 X))(hm:Ones (had X))(hf:Fu S n)(hlt:X.2.2.1<S.length)(go:∀ w,Nx S c k (rd3 X) w->(rd3 X).2.2.1<w.2.2.1->Rest S c k x w r):Ans (chk ((decide (0<=IntKind.wrap .i64 (X.2.2.1+1))&&decide (IntKind.wrap .i64 (X.2.2.1+1)<=(X.1.length:Int))&&(decide (0<=X.2.2.1)&&decide (X.2.2.1<=IntKind.wrap .i64 (X.2.2.1+1))))) (jn (fK n r) ((X.1.take (IntKind.wrap .i64 (X.2.2.1+1)).toNat).drop X.2.2.1.toNat,(X.1,X.2.1,(IntKind.wrap .i64 (X.2.2.1+1)),X.2.2.2.1,X.2.2.2.2.1,X.2.2.2.2.2.1,X.2.2.2.2.2.2.1,X.2.2.2.2.2.2.2.1,X.2.2.2.2.2.2.2.2.1,X.2.2.2.2.2.2.2.2.2.1,X.2.2.2.2.2.2.2.2.2.2.1,X.2.2.2.2.2.2.2.2.2.2.2.1,X.2.2.2.2.2.2.2.2.2.2.2.2.1,X.2.2.2.2.2.2.2.2.2.2.2.2.2.1,X.2.2.2.2.2.2.2.2.2.2.2.2.2.2.1,X.2.2.2.2.2.2.2.2.2.2.2.2.2.2.2.1,X.2.2.2.2.2.2.2.2.2.2.2.2.2.2.2.2.1,X.2.2.2.2.2.2.2.2.2.2.2.2.2.2.2.2.2.1,X.2.2.2.2.2.2.2.2.2.2.2.2.2.2.2.2.2.2.1,X.2.2.2.2.2.2.2.2.2.2.2.2.2.2.2.2.2.2.2.1,X.2.2.2.2.2.2.2.2.2.2.2.2.2.2.2.2.2.2.2.2.1,X.2.2.2.2.2.2.2.2.2.2.2.2.2.2.2.2.2.2.2.2.2.1,X.2.2.2.2.2.2.2.2.2.2.2.2.2.2.2.2.2.2.2.2.2.2.1,X.2.2.2.2.2.2.2.2.2.2.2.2.2.2.2.2.2.2.2.2.2.2.2.1,X.2.2.2.2.2.2.2.2.2.2.2.2.2.2.2.2.2.2.2.2.2.2.2.2.1,X.2.2.2.2.2.2.2.2.2.2.2.2.2.2.2.2.2.2.2.2.2.2.2.2.2.1,had X,())))) (FlP S c k x):=by
 have hlo:0<=X.2.2.1:=hX.1.lo;have hs:X.1=S:=hX.1.s;have h4:=hf.1;rw[bI (x:=X.2.2.1+1) (by omega) (by omega)];have hn:=Rd.at (x:=rd3 X) (a:=X.2.2.1+1) hX.1 (by show X.2.2.1<=_;omega) (by omega);exact Ans.chk (by rw[hs];exact yLh hlo (by omega) (by omega)) (yDx (w:=pW (rd3 X) (X.2.2.1+1)) (m:=had X) _ (hX.trans hn) hn.1 hp3 hm hf (λ_=>go _ hn (by show X.2.2.1<X.2.2.1+1;omega)))
theorem yTs(h:Rd S c k x)(hp:1<=rpn x)(hf:Fu S n):Ans (iJ n x) (FlP S c k x):=by
 unfold iJ;have hhi:x.2.2.1<=S.length:=h.hi;obtain⟨f1,f2,f3⟩:=hf;refine Ans.loop (λX=>Nx S c k x (rd3 X)/\Ones (had X)) (λX=>((S.length:Int)-X.2.2.1).toNat*2+(if jK .str 0 (had X) [110,117,109,98,101,114]=0 then 1 else 0)) ?_ n _ ⟨Nx.refl h,λp hp=>by cases hp⟩ (by
  have:0<=x.2.2.1:=h.lo;simp only;split<;>omega)
 rintro r X ⟨hX,hm⟩ hr;have hf:Fu S n:=⟨f1,f2,f3⟩;have hp3:1<=rpn (rd3 X):=Nat.le_trans hp hX.2.2;unfold Da;have go:∀ {w:Sc0},Nx S c k (rd3 X) w->(rd3 X).2.2.1<w.2.2.1->Rest S c k x w r:=by
  intro w hw hlt Y hY hm2;refine hr Y ⟨(hX.trans hw).trans hY,hm2⟩ ?_;have h1:w.2.2.1<=Y.2.2.1:=hY.2.1;have h2:X.2.2.1<w.2.2.1:=hlt;have h3:Y.2.2.1<=S.length:=hY.1.hi;split<;>split<;>omega
 refine Ans.ob _ (Uz (x:=rd3 X) _ hX.1) ?_;rintro⟨q,w⟩ ⟨hw,g⟩;simp only at hw g;subst hw;refine Ans.br (λ_=>Ans.br (λh0=>?_) (λh0=>?_)) (λ_=>?_)
 ·refine ok2 (Gn (x:=rd3 X) 124 (by decide) hX.1 hf) ?_ (λz=>⟨_,rfl⟩);rintro⟨v,w⟩ ⟨a,hw,g1,g2⟩;simp only at hw g1 g2;subst hw;have hn:=Rd.at (x:=rd3 X) hX.1 (Int.le_of_lt g1) g2;have h7:RdK S c k (X.1,X.2.1,a,X.2.2.2.2.2.2.2.2.2.2.2.2.2.2.2.2.2.2.2.2.2.1,X.2.2.2.2.2.2.2.2.2.2.2.2.2.2.2.2.2.2.2.2.2.2.1,X.2.2.2.2.2.2.2.2.2.2.2.2.2.2.2.2.2.2.2.2.2.2.2.1,X.2.2.2.2.2.2.2.2.2.2.2.2.2.2.2.2.2.2.2.2.2.2.2.2.1,X.2.2.2.2.2.2.2.2.2.2.2.2.2.1)/\X.2.2.1<=a/\X.2.2.2.2.2.2.2.2.2.2.2.2.2.2.2.2.2.2.2.2.2.1.length<=X.2.2.2.2.2.2.2.2.2.2.2.2.2.2.2.2.2.2.2.2.2.1.length:=hn;have key:∀ w2:Sc0,Nx S c k (rd3 X) w2->(rd3 X).2.2.1<w2.2.2.1->1<=rpn w2->Ans (jn (fK n r) ([110,117,109,98,101,114],mk3 w2 (had X))) (FlP S c k x):=λw2 k1 k2 k3=>yDx _ (hX.trans k1) k1.1 k3 hm hf (λ_=>go k1 k2)
  exact key (X.1,X.2.1,a,X.2.2.2.1,X.2.2.2.2.1,X.2.2.2.2.2.1,X.2.2.2.2.2.2.1,X.2.2.2.2.2.2.2.1,X.2.2.2.2.2.2.2.2.1,X.2.2.2.2.2.2.2.2.2.1,X.2.2.2.2.2.2.2.2.2.2.1,X.2.2.2.2.2.2.2.2.2.2.2.1,X.2.2.2.2.2.2.2.2.2.2.2.2.1,X.2.2.2.2.2.2.2.2.2.2.2.2.2.1,X.2.2.2.2.2.2.2.2.2.2.2.2.2.2.1,v,(rd3 X).2.2.2.2.2.2.2.2.2.2.2.2.2.2.2.2) h7 g1 hp3
 ·have hne:jK .str 0 (had X) [110,117,109,98,101,114]≠0:=λe=>by
   have:(jK .str 0 (had X) [110,117,109,98,101,114]==(0:Int))=true:=beq_iff_eq.2 e;exact absurd this (by rw[show(jK .str 0 (had X) [110,117,109,98,101,114]==(0:Int))=false from h0];exact Bool.false_ne_true)
  exact yDx (w:=rd3 X) (m:=had X) [110,117,109,98,101,114] hX hX.1 hp3 hm hf (λe=>absurd e hne)
 ·refine Ans.ob _ (Uz (x:=rd3 X) _ hX.1) ?_;rintro⟨q,w⟩ ⟨hw,g⟩;simp only at hw g;subst hw;refine Ans.br (λhq=>?_) (λ_=>okl hX);exact flB hX hp3 hm hf (g hq).1 (λw=>go (w:=w))
end Go.Dec
namespace Go.Dec
variable {n:Nat}
variable {S:List UInt8}
variable {c k:Nat}
variable {x y z:Sc0}
theorem Rd.up(h:Rd S c 0 x):Rd S (c+1) 0 x:=⟨h.s,h.e,h.lo,h.hi,h.pats,h.pn,Nat.le_succ_of_le h.cn,h.op,h.wa,Nat.le_trans h.on (by omega),Nat.le_trans h.wn (by omega),h.tx,h.ct⟩
theorem Nx.up(h:Nx S c 0 x y):Nx S (c+1) 0 x y:=⟨Rd.up h.1,h.2.1,h.2.2⟩
theorem Nx.cat{c2 k2:Nat}(h:Nx S c k x y)(g:Nx S c2 k2 y z):Nx S c2 k2 x z:=⟨g.1,Int.le_trans h.2.1 g.2.1,Nat.le_trans h.2.2 g.2.2⟩
theorem zOn(h:Rd S c k x)(hf:Fu S n):Ans (eH n x) (Ok λy=>Nx S c k x y):=by
 unfold eH;refine Ans.ob _ (xP h hf) ?_;rintro _ ⟨a,rfl,g1,g2⟩;have hn:=Rd.at h g1 g2;refine Ans.br (λ_=>?_) (λ_=>okl hn);refine Ans.ob _ (Uz _ hn.1) ?_;rintro⟨q,w⟩ ⟨hw,_⟩;simp only at hw;subst hw;exact Ans.br (λ_=>iW (okr (by decide))) (λ_=>okl hn)
theorem oD(h:Rd S c 1 x)(hc:c<=5000)(hf:Fu S n):Ans (aX n x) (Ok λy=>Nx S (c+1) 0 x y):=by
 unfold aX;refine Ans.ob _ (yDw h hc) ?_;intro y hy;exact ok2 (zOn hy.1 hf) (λz hz=>okl (hy.cat hz)) (λz=>⟨_,rfl⟩)
theorem yPd(h:Rd S c 0 x)(hc:c<=5000):Ans (mQ n x) λy=>Nx S (c+1) 0 x y:=by
 have hon:(bK x).2.2.2.2.2.1.length<=c+0:=h.on;unfold mQ;simp only;refine Ans.chk (Ru (m:=(bK x).2.2.2.2.2.1.length+1) (by omega)) ?_;have h7:RdK S c 1 (x.1,x.2.1,x.2.2.1,x.2.2.2.2.2.2.2.2.2.2.2.2.2.2.2.2.2.2.2.2.2.1,x.2.2.2.2.2.2.2.2.2.2.2.2.2.2.2.2.2.2.2.2.2.2.1,(x.2.2.2.2.2.2.2.2.2.2.2.2.2.2.2.2.2.2.2.2.2.2.2.1++[(((x.2.2.2.2.2.2.2.2.2.2.2.2.2.2.2.2.2.2.2.2.2.2.1.length:Nat):Int),(x.2.2.2.1,([],())))]),x.2.2.2.2.2.2.2.2.2.2.2.2.2.2.2.2.2.2.2.2.2.2.2.2.1,x.2.2.2.2.2.2.2.2.2.2.2.2.2.1):=by
  refine⟨h.s,h.e,h.lo,h.hi,h.pats,h.pn,h.cn,λp hp=>?_,λp hp=>?_,?_,Nat.le_trans h.wn (by omega),h.tx,h.ct⟩
  ·rcases List.mem_append.1 hp with hp|hp
   ·have:=h.op p hp;exact⟨this.1,by have:=this.2;simp only[bK]at this ⊢;omega⟩
   ·obtain rfl:=List.mem_singleton.1 hp;exact⟨by simp only;omega,by simp only;omega⟩
  ·have:=h.wa p hp;exact⟨this.1,by have:=this.2;simp only[bK]at this ⊢;omega⟩
  ·simp only[List.length_append,List.length_singleton];simp only[bK]at hon;omega
 refine Ans.ob (λy=>RdK S (c+1) 0 (bK y)/\x.2.2.1<=(bK y).2.2.1/\x.2.2.2.2.2.2.2.2.2.2.2.2.2.2.2.2.2.2.2.2.2.1.length<=(bK y).2.2.2.1.length) (yDw (c:=c) h7 hc) ?_;intro y hy;exact Ans.some hy
end Go.Dec
namespace Go.Dec
variable {n:Nat}
variable {S:List UInt8}
variable {c k:Nat}
variable {x y z T:Sc0}
variable {q:Yb}
def Fx (x:Sc0) (q:Yb):Prop:=(bK x).2.2.1<=q.2.2.1 ∧ (bK x).2.2.2.1.length<=q.2.2.2.1.length
theorem zYl(hT:bK T=q)(h:RdK S c 1 q)(hx:Fx x q)(hc:c<=5000):Ans (bZ n T) λy=>Nx S (c+1) 0 x y:=by
 subst hT;exact(yDw (x:=T) h hc).mono λy hy=>⟨hy.1,Int.le_trans hx.1 hy.2.1,Nat.le_trans hx.2 hy.2.2⟩
theorem yLu(hT:bK T=q)(h:RdK S c 1 q)(hx:Fx x q)(hc:c<=5000)(hf:Fu S n):Ans (aX n T) (Ok λy=>Nx S (c+1) 0 x y):=by
 subst hT;exact(oD (x:=T) h hc hf).mono λs hs=>⟨λy e=>⟨(hs.1 y e).1,Int.le_trans hx.1 (hs.1 y e).2.1,Nat.le_trans hx.2 (hs.1 y e).2.2⟩,hs.2⟩
theorem xCz(hT:bK T=q)(h:RdK S c k q)(hx:Fx x q)(hf:Fu S n):Ans (eH n T) (Ok λy=>Nx S c k x y):=by
 subst hT;exact(zOn (x:=T) h hf).mono λs hs=>⟨λy e=>⟨(hs.1 y e).1,Int.le_trans hx.1 (hs.1 y e).2.1,Nat.le_trans hx.2 (hs.1 y e).2.2⟩,hs.2⟩
theorem xFg(hT:bK T=q)(h:RdK S c k q)(hx:Fx x q)(hp:1<=q.2.2.2.1.length)(hf:Fu S n):Ans (iJ n T) (Ok λy=>Nx S c k x y.2):=by
 subst hT;exact(yTs (x:=T) h hp hf).mono λs hs=>⟨λy e=>⟨(hs.1 y e).1,Int.le_trans hx.1 (hs.1 y e).2.1,Nat.le_trans hx.2 (hs.1 y e).2.2⟩,hs.2⟩
def kat (q:Yb) (a:Int):Yb:=(q.1,q.2.1,a,q.2.2.2)
theorem xQ(h:RdK S c k q){a:Int}(h0:q.2.2.1<=a)(h1:a<=S.length):RdK S c k (kat q a):=⟨h.s,h.e,Int.le_trans h.lo h0,h1,h.pats,h.pn,h.cn,h.op,h.wa,h.on,h.wn,h.tx,h.ct⟩
theorem Ey(h:Fx x q){a:Int}(h0:q.2.2.1<=a):Fx x (kat q a):=⟨Int.le_trans h.1 h0,h.2⟩
def ktx (q:Yb) (t:List UInt8):Yb:=(q.1,q.2.1,q.2.2.1,q.2.2.2.1,q.2.2.2.2.1,q.2.2.2.2.2.1,q.2.2.2.2.2.2.1,t)
theorem zRz(h:RdK S c k q){t:List UInt8}(ht:t.length<=4001):RdK S c k (ktx q t):=⟨h.s,h.e,h.lo,h.hi,h.pats,h.pn,h.cn,h.op,h.wa,h.on,h.wn,ht,h.ct⟩
theorem yDy(h:Fx x q){t:List UInt8}:Fx x (ktx q t):=h
theorem RdK.sl(h:RdK S c 0 q):RdK S c 1 q:=⟨h.s,h.e,h.lo,h.hi,h.pats,h.pn,h.cn,λp hp=>by have:=h.op p hp;exact⟨this.1,by omega⟩,λp hp=>by have:=h.wa p hp;exact⟨this.1,by omega⟩,Nat.le_trans h.on (by omega),Nat.le_trans h.wn (by omega),h.tx,h.ct⟩
theorem Pw(h:Rd S c k x):Fx x (bK x):=⟨Int.le_refl _,aP _⟩
theorem yVi(t:List UInt8)(h:t.length<=4000):∃ b,strings_ContainsAny n (t,[32,9])=some b:=⟨_,by
 unfold strings_ContainsAny;rw[show(decide (([32,9]:List UInt8)=[32,9])&&Nat.ble t.length 1000000)=true from Gl rfl (Nat.ble_eq_true_of_le (by omega))];rfl⟩
theorem yXn(h:Rd S c k x)(hf:Fu S n):Ans (sI n x) (Ok λy=>∃ a,y.2=pW x a/\x.2.2.1<=a/\a<=S.length):=by
 unfold sI;refine Ans.ob _ (zOm _ h hf) ?_;rintro⟨t,w⟩ ⟨a,hw,g1,g2,g3⟩;simp only at hw g1 g2 g3;subst hw;obtain⟨b,hb⟩:=yVi (n:=n) t (Nat.le_trans g3 hf.1);simp only;rw[hb,aN];exact Ans.br (λ_=>iW (okr (by decide))) (λ_=>okl ⟨a,rfl,g1,g2⟩)
theorem yTt(h:Rd S c 0 x)(hf:Fu S n):Ans (qO n x) (Ok λy=>Nx S (c+1) 0 x y):=by
 unfold qO;refine ok2 (yXn h hf) ?_ (λz=>⟨_,rfl⟩);rintro⟨t,w⟩ ⟨a,hw,g1,g2⟩;simp only at hw g1 g2;subst hw;refine Ans.br (λ_=>iW (okr (by decide))) (λ_=>Ans.br (λ_=>iW (okr (by decide))) (λ_=>?_));exact ok2 (xCz (q:=kat (bK x) a) rfl (xQ h g1 g2) (Ey (Pw h) g1) hf) (λy hy=>okl (Nx.up hy)) (λz=>⟨_,rfl⟩)
theorem yHf(h:Rd S c 0 x)(hc:c<=5000)(hf:Fu S n):Ans (nT n x) (Ok λy=>Nx S (c+1) 0 x y):=by
 unfold nT;refine Ans.ob _ (zOm _ h hf) ?_;rintro⟨t,w⟩ ⟨a,hw,g1,g2,g3⟩;simp only at hw g1 g2 g3;subst hw;have h4:=hf.1;refine Ans.br (λ_=>iW (okr (by decide))) (λ_=>?_);exact Ans.ob _ (zYl (q:=ktx (kat (bK x) a) t) rfl (zRz (xQ (RdK.sl h) g1 g2) (by omega)) (yDy (Ey (Pw h) g1)) hc) (λy hy=>okl hy)
theorem zFh(h:Rd S c 0 x)(hc:c<=5000)(hf:Fu S n):Ans (iQ n x) (Ok λy=>Nx S (c+1) 0 x y):=by
 have key:∀ T:Sc0,bK T=bK x->Ans (jn (jD n) T) (Ok λy=>Nx S (c+1) 0 x y):=by
  intro T hT;have hR:Rd S c 0 T:=by unfold Rd;rw[hT];exact h
  have hX:Fx x (bK T):=by rw[hT];exact Pw h
  show Ans (jD n T) _;unfold jD;refine Ans.ob _ (xP hR hf) ?_;rintro _ ⟨a,rfl,g1,g2⟩;have k1:RdK S c 0 (kat (bK T) a):=xQ hR g1 g2;have f1:=Ey hX g1;refine Ans.ob _ (Uz (x:=pW T a) _ k1) ?_;rintro⟨b,w⟩ ⟨hw,_⟩;simp only at hw;subst hw;refine Ans.br (λ_=>?_) (λ_=>ok2 (yLu (T:=pW T a) rfl (RdK.sl k1) f1 hc hf) (λy hy=>okl hy) (λz=>⟨_,rfl⟩));refine ok2 (Gn (x:=pW T a) 120 (by decide) k1 hf) ?_ (λz=>⟨_,rfl⟩);rintro⟨v,w⟩ ⟨a2,hw,g3,g4⟩;simp only at hw g3 g4;subst hw;have k2:RdK S c 0 (kat (kat (bK T) a) a2):=xQ k1 (Int.le_of_lt g3) g4;have f2:Fx x (kat (kat (bK T) a) a2):=Ey f1 (Int.le_of_lt g3);have pl:∀ U:Sc0,bK U=kat (kat (bK T) a) a2->Ans (ob2 (aX n U) (λy59=>some (.inl (y59))) (λy59=>some (.inr (y59))):Option (Sum Sc0 (Int × Sc0))) (Ok λy=>Nx S (c+1) 0 x y):=λU hU=>ok2 (yLu hU (RdK.sl k2) f2 hc hf) (λy hy=>okl hy) (λz=>⟨_,rfl⟩)
  exact Ans.br (λ_=>Ans.br (λ_=>iW (okr (by decide))) (λ_=>pl _ rfl)) (λ_=>pl _ rfl)
 unfold iQ;exact Ans.br (λ_=>key _ rfl) (λ_=>key _ rfl)
theorem zAy(h:Rd S c 0 x)(hc:c<=5000)(hf:Fu S n):Ans (kV n x) (Ok λy=>Nx S (c+1) 0 x y):=by
 have key:∀ (a:Int),x.2.2.1<=a->a<=S.length->∀ T:Sc0,bK T=kat (bK x) a->Ans (jn (kU n) T) (Ok λy=>Nx S (c+1) 0 x y):=by
  intro a g1 g2 T hT;have hR:RdK S c 0 (bK T):=by rw[hT];exact xQ h g1 g2
  have hX:Fx x (bK T):=by rw[hT];exact Ey (Pw h) g1
  have hs:T.1=S:=hR.s;show Ans (kU n T) _;unfold kU;refine Ans.br (λ_=>iW (okr (by decide))) (λ_=>?_);show Ans (vG n T) _;unfold vG;refine Ans.ob (λy=>T.2.2.1<=y.2.1/\y.2.1<=S.length/\y.1.length<=S.length+1) (by rw[<- hs];have h4:=hf.1;have:=hf.2.1;exact yXc (by rw[hs];omega) (by rw[hs];omega) hR.lo (by rw[hs];exact hR.hi)) ?_;rintro⟨t,a2,e⟩ ⟨g3,g4,g5⟩;simp only at g5;have h4:=hf.1;refine ok2 Pv ?_ (λz=>⟨_,rfl⟩);intro _ _;exact Ans.ob _ (zYl (q:=ktx (kat (bK T) a2) t) rfl (zRz (RdK.sl (xQ hR g3 g4)) (by omega)) (yDy (Ey hX g3)) hc) (λy hy=>okl hy)
 unfold kV;refine Ans.ob _ (xP h hf) ?_;rintro _ ⟨a,rfl,g1,g2⟩;have hs:x.1=S:=h.s;have hlo:0<=x.2.2.1:=h.lo;have h4:=hf.1;refine Ans.chk (show(decide (0<=a)&&decide (a<=(x.1.length:Int)))=true by rw[hs];exact Ta (by omega) g2) ?_;obtain⟨b,hb,hb2⟩:=zKs (n:=n) (x.1.drop a.toNat) [92,10];refine Ans.ob (λy=>y=b) ⟨b,hb,rfl⟩ ?_;rintro _ rfl;refine Ans.br (λht=>?_) (λ_=>key a g1 g2 _ rfl);have h2:=hb2 ht;rw[hs,List.length_drop]at h2;simp only[List.length_cons,List.length_nil]at h2;have hw:IntKind.wrap .i64 (a+2)=a+2:=bI (by omega) (by omega);exact key (IntKind.wrap .i64 (a+2)) (by rw[hw];omega) (by rw[hw];omega) _ rfl
theorem yDz(h:Rd S c 0 x)(hc:c<=5000)(hf:Fu S n):Ans (lY n x) (Ok λy=>Nx S (c+1) 0 x y):=by
 obtain⟨f1,f2,f3⟩:=hf;have hf:Fu S n:=⟨f1,f2,f3⟩;unfold lY;refine ok2 (any_ok h hf) ?_ (λz=>⟨_,rfl⟩);rintro⟨d,w⟩ ⟨hw,g1⟩;simp only at hw;subst hw;have k1:RdK S c 0 (kat (bK x) (x.2.2.1+1)):=xQ h (by show x.2.2.1<=_;omega) g1;have e1:Fx x (kat (bK x) (x.2.2.1+1)):=Ey (Pw h) (by show x.2.2.1<=_;omega);refine ok2 (zFg (x:=pW x (x.2.2.1+1)) d k1 hf) ?_ (λz=>⟨_,rfl⟩);rintro⟨t,w⟩ ⟨a,hw,g2,g3,g4⟩;simp only at hw g2 g3 g4;subst hw;have k2:=xQ k1 g2 g3;have e2:=Ey e1 g2;refine ok2 (zFg (x:=pW (pW x (x.2.2.1+1)) a) d k2 hf) ?_ (λz=>⟨_,rfl⟩);rintro⟨t2,w⟩ ⟨a2,hw,g5,g6,g7⟩;simp only at hw g5 g6 g7;subst hw;have k3:=xQ k2 g5 g6;have e3:=Ey e2 g5;refine Ans.ob _ (zVq (n:=n) (s:=t) (by omega) (by omega)) ?_;rintro⟨u,i1,i2⟩ hu;refine ok2 Pv (λ_ _=>?_) (λz=>⟨_,rfl⟩);refine Ans.ob _ (zVq (n:=n) (s:=t2) (by omega) (by omega)) ?_;rintro⟨u2,i3,i4⟩ hu2;refine ok2 Pv (λ_ _=>?_) (λz=>⟨_,rfl⟩);simp only at hu hu2;refine Ans.ob _ (yXf (n:=n) (a:=u) (b:=u2) (by omega) (by omega) (by omega)) ?_;rintro⟨m,i5⟩ _;refine ok2 Pv (λ_ _=>?_) (λz=>⟨_,rfl⟩);exact ok2 (yLu (q:=ktx (kat (kat (kat (bK x) (x.2.2.1+1)) a) a2) u) rfl (zRz (RdK.sl k3) (by omega)) (yDy e3) hc hf) (λy hy=>okl hy) (λz=>⟨_,rfl⟩)
end Go.Dec
