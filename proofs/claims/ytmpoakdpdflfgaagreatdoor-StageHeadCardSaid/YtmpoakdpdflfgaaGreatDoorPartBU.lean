/- Part of a proof over this seat: a library of my own, and what it says of this seat. No statement is proved here. -/
import Derived.Test.YtmpoakdpdflfgaaGreatDoorPartBS
import Derived.Test.YtmpoakdpdflfgaaGreatDoorPartBA
import Derived.Test.YtmpoakdpdflfgaaGreatDoorPartAK
namespace Go.Dec
def lV:List Line->Prop
 | []=>True
 | e :: r=>(r=[]∨e.2.1=true)∧lV r
theorem mW:∀ (r w:List UInt8),lV (fE w r)
 | [],w=>by cases w <;> simp [fE,lV]
 | c :: r,w=>by
  unfold fE
  split
  ·exact ⟨.inr rfl,mW r []⟩
  ·exact mW r _
theorem zAp:∀ (l:List Line) (i:Nat) (d:Line),lV l->i+1 < l.length->(l.getD i d).2.1=true
 | [],i,d,_,h=>by simp at h
 | e :: r,0,d,⟨h1,_⟩,h=>by
  rcases h1 with h1 | h1
  ·subst h1; simp at h
  ·simpa using h1
 | e :: r,i+1,d,⟨_,h2⟩,h=>by
  have:=zAp r i d h2 (by simp at h; omega)
  simpa using this
theorem zWs {l:List Line} {i:Nat} {d:Line} (h:lV l) (hi:i+1 < l.length):l.set i ((l.getD i d).1,(true,()))=l:=by
 have h1:=zAp l i d h hi
 have h2:(((l.getD i d).1,(true,())):Line)=l[i]:=by
  have h3:l.getD i d=l[i]:=by simp [List.getD_eq_getElem?_getD,List.getElem?_eq_getElem (show i < l.length by omega)]
  rw [h3] at h1 ⊢
  rw [<- h1]
 rw [h2,List.set_getElem_self]
theorem Yy {n:Nat} {l:List Line} (h:lV l) (hl:l.length <= 1000) (st k:Int) (hk:k < l.length):∀ (j:Nat) (i m:Nat),i+j=k.toNat->j < m ->
  fix (gI n) m (st,k,(i:Int),l,())=some (l,st)
 | 0,i,m,hi,hm=>by
  rw [gP (by omega),gI]
  simp only
  rw [bX (decide_eq_false (by omega))]
 | j+1,i,m,hi,hm=>by
  rw [gP (by omega),gI]
  simp only
  rw [gY (decide_eq_true (by omega)),eD (by rw [zTd (by omega)]; simp),eD (decide_eq_true (by simp; omega)),pE (by omega) (by omega)]
  rw [show 0+((i:Nat):Int).toNat=i by simp,zWs h (by omega)]
  have:=Yy (n:=n) h hl st k hk j (i+1) (m - 1) (by omega) (by omega)
  rwa [show ((i+1:Nat):Int)=(i:Int)+1 by simp] at this
theorem zRi {n:Nat} {l:List Line} (h:lV l) (hl:l.length <= 1000) (hn:1500 <= n) (st:Int) :
  fix (gI n) n (st,(if IntKind.wrap .i64 (((l.length:Nat):Int) - 1) > 0 then IntKind.wrap .i64 (((l.length:Nat):Int) - 1) else 0),0,l,())=some (l,st):=by
 rcases Nat.eq_zero_or_pos l.length with h0 | h0
 ·have h1:l=[]:=List.length_eq_zero_iff.1 h0
  subst h1
  rw [pE (by simp) (by simp),if_neg (by simp),gP (by omega),gI]
  simp only
  rw [bX (decide_eq_false (by omega))]
 ·rw [pE (by omega) (by omega)]
  split
  ·exact Yy h hl st _ (by omega) _ 0 n (Nat.zero_add _) (by omega)
  ·exact Yy h hl st 0 (by omega) 0 0 n (by simp) (by omega)
theorem zRj {n:Nat} {t:List UInt8} (h:t.length <= 400):gD n (t,())=some (aL t,()):=by
 unfold gD
 rw [eD (decide_eq_true (by simp; omega))]
theorem zRk {n:Nat} (hn:1500 <= n) {t:List UInt8} (h:t.length <= 400) (sc:zUk) (q:Bool) (tb:List nV) :
  qR n ((sc,q,[],false,()),t,tb)=some (aL t,0):=by
 have h2:=pF t []
 unfold qR
 simp only
 rw [zTc,gY (by rfl),zRj h,iP,gP (by omega),xJ]
 simp only
 rw [bX (by rfl)]
 exact zRi (l:=aL t) (mW t []) (by simp only [aL]; omega) hn 0
def oL:List UInt8->List Line->List UInt8
 | _,[]=>[]
 | g,e :: r=>g++e.1++(if e.2.1 then [10]++oL [] r else oL [10] r)
def dJ:List Line->Nat
 | []=>0
 | e :: r=>e.1.length+1+dJ r
theorem Ah:∀ (a b:List Line),dJ (a++b)=dJ a+dJ b
 | [],b=>by simp [dJ]
 | e :: a,b=>by simp only [List.cons_append,dJ,Ah a b]; omega
theorem Na:∀ (l:List Line),dJ l <= (joinL l).length+l.length
 | []=>by simp [dJ]
 | e :: r=>by
  have:=Na r
  simp only [dJ,joinL,List.flatMap_cons,List.length_append,Gg,List.length_cons] at *
  omega
theorem Cw:∀ (l:List Line),lV l->oL [] l=joinL l
 | [],_=>rfl
 | e :: r,⟨h1,h2⟩=>by
  have ih:=Cw r h2
  simp only [oL,joinL,List.flatMap_cons,Gg,List.nil_append] at *
  cases he:e.2.1 with
  | true=>simp [ih]
  | false =>
   rcases h1 with h1 | h1
   ·subst h1; simp [oL]
   ·rw [he] at h1; cases h1
theorem zOj {n:Nat} {s:List UInt8} {a:List UInt8} (h:a.length+s.length <= 1000000):bD n (s,aM a,())=some ((s.length:Int),false,aM (a++s),()):=by
 unfold bD iQ
 simp only [iP]
 rw [eD (by simp only [Ll]; simp [room]; omega),Bn]
theorem zHc {n:Nat} {l:List Line} (hl:l.length <= 1000) (hs:dJ l <= 10000):∀ (r pre:List Line) (g a:List UInt8) (m:Nat),l=pre++r->r.length < m->a.length+g.length <= dJ pre ->
  fix (jT n) m (g,l,(l.length:Int),(pre.length:Int),aM a,())=some (a++oL g r):=by
 intro r
 induction r with
 | nil =>
  intro pre g a m hp hm ha
  have hp:pre=l:=by simpa using hp.symm
  subst hp
  rw [gP (by omega),jT]
  simp only
  rw [bX (by simp),Pz]
  simp [oL]
 | cons e r ih =>
  intro pre g a m hp hm ha
  have hm':r.length+1 < m:=hm
  have hlen:l.length=pre.length+r.length+1:=by rw [hp]; simp; omega
  have hsum:dJ l=dJ pre+(e.1.length+1+dJ r):=by rw [hp,Ah]; rfl
  have hsp:dJ (pre++[e])=dJ pre+(e.1.length+1):=by rw [Ah]; simp [dJ]
  have hi:∀ (g' a':List UInt8),a'.length+g'.length <= dJ (pre++[e])->fix (jT n) (m - 1) (g',l,(l.length:Int),(pre.length:Int)+1,aM a',())=some (a'++oL g' r):=fun g' a' h1=>by
   have:=ih (pre++[e]) g' a' (m - 1) (by rw [hp]; simp) (by omega) h1
   rwa [show ((pre++[e]).length:Int)=(pre.length:Int)+1 by simp] at this
  rw [gP (by omega),jT]
  simp only
  rw [gY (decide_eq_true (by omega)),eD (zTd (by omega)),zAf hp,eD (decide_eq_true (by simp [Cz]; omega)),zOj (by simp; omega)]
  simp only [iP]
  cases he:e.2.1 with
  | true =>
   simp only [yBo]
   rw [zOj (by simp; omega)]
   simp only [iP]
   rw [pE (by omega) (by omega),hi _ _ (by simp; omega)]
   simp [oL,he]
  | false =>
   simp only [zTc]
   rw [pE (by omega) (by omega),hi _ _ (by simp; omega)]
   simp [oL,he]
theorem zIo {n:Nat} (hn:1500 <= n) {t:List UInt8} (h:t.length <= 400):kV n (aL t)=some t:=by
 have h2:=pF t []
 have h3:=Na (aL t)
 rw [tH] at h3
 unfold kV
 have:=zHc (n:=n) (l:=aL t) (by simp only [aL]; omega) (by simp only [aL] at h3 ⊢; omega) (aL t) [] [] [] n rfl (by simp only [aL]; omega) (by simp [dJ])
 have he:oL [] (aL t)=t:=by rw [Cw (aL t) (mW t []),tH]
 rw [he] at this
 exact this
theorem zWt {n:Nat} (hn:1500 <= n) {L:List Line} (h:lV L) (hl:L.length <= 1000) (hs:dJ L <= 10000):kV n L=some (joinL L):=by
 unfold kV
 have:=zHc (n:=n) (l:=L) hl hs L [] [] [] n rfl (by omega) (by simp [dJ])
 rw [Cw L h] at this
 exact this
theorem yFt {n:Nat} {a:List UInt8} (h:a.length <= 1000000):dO n (10,aM a,())=some (false,aM (a++[10]),()):=by
 unfold dO iQ
 simp only [iP]
 rw [eD (by simp only [Ll]; simp [room]; omega),Bn]
 rfl
theorem yAd {n:Nat} {l:List Line} (hl:l.length <= 1000) (hs:dJ l <= 10000):∀ (r pre:List Line) (a:List UInt8) (m:Nat),l=pre++r->r.length < m->a.length <= dJ pre ->
  fix (jS n) m (l,(l.length:Int),(pre.length:Int),aM a,())=some (a++joinL r):=by
 intro r
 induction r with
 | nil =>
  intro pre a m hp hm ha
  have hp:pre=l:=by simpa using hp.symm
  subst hp
  rw [gP (by omega),jS]
  simp only
  rw [bX (by simp),Pz]
  simp [joinL]
 | cons e r ih =>
  intro pre a m hp hm ha
  have hm':r.length+1 < m:=hm
  have hlen:l.length=pre.length+r.length+1:=by rw [hp]; simp; omega
  have hsum:dJ l=dJ pre+(e.1.length+1+dJ r):=by rw [hp,Ah]; rfl
  have hsp:dJ (pre++[e])=dJ pre+(e.1.length+1):=by rw [Ah]; simp [dJ]
  have hi:∀ (a':List UInt8),a'.length <= dJ (pre++[e])->fix (jS n) (m - 1) (l,(l.length:Int),(pre.length:Int)+1,aM a',())=some (a'++joinL r):=fun a' h1=>by
   have:=ih (pre++[e]) a' (m - 1) (by rw [hp]; simp) (by omega) h1
   rwa [show ((pre++[e]).length:Int)=(pre.length:Int)+1 by simp] at this
  rw [gP (by omega),jS]
  simp only
  rw [gY (decide_eq_true (by omega)),eD (zTd (by omega)),zAf hp,zOj (by omega)]
  simp only [iP]
  cases he:e.2.1 with
  | true =>
   simp only [yBo]
   rw [yFt (by simp; omega)]
   simp only [iP]
   rw [pE (by omega) (by omega),hi _ (by simp; omega)]
   simp [joinL,Gg,he]
  | false =>
   simp only [zTc]
   rw [pE (by omega) (by omega),hi _ (by simp; omega)]
   simp [joinL,Gg,he]
theorem join_eq {n:Nat} (hn:1500 <= n) {L:List Line} (hl:L.length <= 1000) (hs:dJ L <= 10000):yO n L=some (joinL L) :=
 yAd (n:=n) (l:=L) hl hs L [] [] n rfl (by omega) (by simp [dJ])
theorem Qd:∀ (l:List Line) (k:Nat),lV l->lV (l.take k)
 | [],_,_=>by simp [lV]
 | _ :: _,0,_=>by simp [lV]
 | e :: r,k+1,⟨h1,h2⟩=>by
  refine ⟨?_,Qd r k h2⟩
  rcases h1 with h1 | h1
  ·exact .inl (by rw [h1]; simp)
  ·exact .inr h1
theorem zAq:∀ (l:List Line) (k:Nat),dJ (l.take k) <= dJ l
 | [],_=>by simp [dJ]
 | _ :: _,0=>by simp [dJ]
 | e :: r,k+1=>by
  have:=zAq r k
  simp only [List.take_succ_cons,dJ]
  omega
end Go.Dec
namespace Go.Dec
theorem yFu (n:Nat) {k N:Nat} (hk:1 <= k∧k <= 9) (hN:1 <= N∧N <= k) (last:Bool):vI n (((1,((k:Int),(0,()))),((0,(0,(0,()))),(false,()))),(false,(0,())),((N:Int),(last,([],()))))=some (decide ((N:Int)=(k:Int)),(false,0,())):=by
 unfold vI orF zNp
 rw [if_neg (by rintro ⟨h,_⟩; simp at h)]
 simp only
 unfold zNq
 rw [if_pos ⟨⟨k,N,hk,hN,rfl,rfl⟩,rfl,rfl⟩]
theorem zJy {n:Nat} (hn:3 <= n) {k N:Nat} (hk:1 <= k∧k <= 9) (hN:1 <= N∧N <= k) (c:Int) (P:List UInt8) (E last:Bool) (CS:List zGb) (t:List nV) (R:List Line) :
  kU n (1,(k:Int),0,0,0,0,false,113,[],[],c,0,(-1),[],false,false,1,0,(N:Int),0,(-1),P,[],E,last,false,[(false,(0,()))],[],false,[],CS,false,t,R,()) =
   some (decide ((N:Int)=(k:Int)),1,0,(N:Int),0,(-1),P,[],E,last,false,[],false,[],CS,false,t,R,[(false,(0,()))],()):=by
 obtain ⟨m,rfl⟩:∃ m,n=m+3:=⟨n - 3,by omega⟩
 have h:∀ K N:Int,kU (m+3) (1,K,0,0,0,0,false,113,[],[],c,0,(-1),[],false,false,1,0,N,0,(-1),P,[],E,last,false,[(false,(0,()))],[],false,[],CS,false,t,R,()) =
   ob (vI (m+3) (((1,(K,(0,()))),((0,(0,(0,()))),(false,()))),(false,(0,())),(N,(last,([],()))))) fun y=>some (y.1,1,0,N,0,(-1),P,[],E,last,false,[],false,[],CS,false,t,R,[y.2],()):=fun _ _=>rfl
 rw [h,yFu _ hk hN]
 rfl
abbrev Yz (K c:Int):zGb:=(((1,(K,(0,()))),((0,(0,(0,()))),(false,()))),(113,([],([],(c,(0,((-1),([],(false,(false,()))))))))))
theorem yEu {n:Nat} (hn:3 <= n) {k:Nat} (hk:1 <= k∧k <= 9) (c:Int) (P:List UInt8) (E last:Bool) :
  iH n ((false,([],([(((1,((k:Int),(0,()))),((0,(0,(0,()))),(false,()))),(113,([],([],(c,(0,((-1),([],(false,(false,()))))))))))],()))),false,(1,(0,((k:Int),(0,((-1),(P,([],(E,(last,(false,([(false,(0,()))],([],())))))))))))),[]) =
   some ((4,(1,((k:Int),(c,((-1),(P,([],(E,(last,(false,([(false,(0,()))],([],())))))))))))),[],[(P,E,())]):=by
 unfold iH
 simp only
 rw [bX (by rfl),bX (by rfl),eD (by rfl),show bZ (Ty.dflt aB) [Yz (k:Int) c] 0=Yz (k:Int) c from rfl]
 simp only [Yz]
 rw [zJy hn hk ⟨hk.1,Nat.le_refl k⟩,iP]
 simp only
 rw [gY (by simp),eD (by rfl)]
 obtain ⟨m,rfl⟩:∃ m,n=m+3:=⟨n - 3,by omega⟩
 rfl
theorem yEv {n:Nat} (hn:3 <= n) {k N:Nat} (hk:1 <= k∧k <= 9) (hN:1 <= N∧N < k) (c:Int) (P:List UInt8) (E last:Bool) :
  iH n ((false,([],([(((1,((k:Int),(0,()))),((0,(0,(0,()))),(false,()))),(113,([],([],(c,(0,((-1),([],(false,(false,()))))))))))],()))),false,(1,(0,((N:Int),(0,((-1),(P,([],(E,(last,(false,([(false,(0,()))],([],())))))))))))),[]) =
   some ((1,(1,((N:Int),(0,((-1),(P,([],(E,(last,(false,([(false,(0,()))],([],())))))))))))),[],[]):=by
 unfold iH
 simp only
 rw [bX (by rfl),bX (by rfl),eD (by rfl),show bZ (Ty.dflt aB) [Yz (k:Int) c] 0=Yz (k:Int) c from rfl]
 simp only [Yz]
 rw [zJy hn hk ⟨hN.1,by omega⟩,iP]
 simp only
 rw [bX (decide_eq_false (by omega)),bX (by rfl)]
 rfl
theorem yEw {n:Nat} (hn:0 < n) (K c N:Int) (P:List UInt8) (E last:Bool) :
  iH n ((false,([],([(((1,(K,(0,()))),((0,(0,(0,()))),(false,()))),(113,([],([],(c,(0,((-1),([],(false,(false,()))))))))))],()))),false,(1,(1,(N,(0,((-1),(P,([],(E,(last,(false,([(false,(0,()))],([],())))))))))))),[]) =
   some ((0,(1,(N,(0,((-1),(P,([],(E,(last,(false,([(false,(0,()))],([],())))))))))))),[],[(P,E,())]):=by
 obtain ⟨m,rfl⟩:∃ m,n=m+1:=⟨n - 1,by omega⟩
 rfl
theorem run_go {n:Nat} (hn:3 <= n) {k:Nat} (hk:1 <= k∧k <= 9) (c:Int):∀ (j N:Nat) (ls:List Line) (l:Line) (steps:Int) (row:List Line) (last:Bool) (m:Nat),
  N+j=k->1 <= N->3 * j+4 < m->0 <= steps->steps+2 * (j+1) <= 1000->row.length+j <= 100 ->
  ∃ s,fix (dS n) m ([],1000,ls,0,false,[],[(((1,((k:Int),(0,()))),((0,(0,(0,()))),(false,()))),(113,([],([],(c,(0,((-1),([],(false,(false,()))))))))))],false,[],false,[],0,steps,1,0,(N:Int),0,(-1),l.1,[],l.2.1,last,false,[(false,(0,()))],[],row,()) =
   some ((row++(l :: ls).take (j+1),([],((if j <= ls.length then c else 0),(s,())))),0):=by
 intro j
 induction j with
 | zero =>
  intro N ls l steps row last m hN hN1 hm h0 h1 h2
  obtain rfl:N=k:=by omega
  refine ⟨steps+1,?_⟩
  rw [gP (by omega),dS]
  simp only
  rw [bX (by rfl),bX (by rfl),bX (decide_eq_false (by omega)),yEu hn hk,iP,eD (by simp [room]; omega),pE (by omega) (by omega)]
  rw [gP (by omega),dS]
  simp only
  rw [gY (by rfl),if_pos (Nat.zero_le _)]
  by_cases hc:c=0
  ·subst hc
   rw [gY (by rfl)]
   rfl
  ·rw [bX (by simpa using hc)]
   rfl
 | succ j ih =>
  intro N ls l steps row last m hN hN1 hm h0 h1 h2
  rw [gP (by omega),dS]
  simp only
  rw [bX (by rfl),bX (by rfl),bX (decide_eq_false (by omega)),yEv hn hk ⟨hN1,by omega⟩,iP,eD (by simp [room]; omega),pE (by omega) (by omega)]
  rw [gP (by omega),dS]
  simp only
  rw [bX (by rfl),bX (by rfl),bX (decide_eq_false (by omega)),yEw (by omega),iP,eD (by simp [room]; omega),pE (by omega) (by omega)]
  rw [gP (by omega),dS]
  simp only
  rw [bX (by rfl),gY (by rfl)]
  cases ls with
  | nil =>
   refine ⟨steps+1+1,?_⟩
   rw [gY (by rfl),show ∀ N:Int,kM n (0,(1,(N,(0,((-1),(l.1,([],(l.2.1,(last,(false,([(false,(0,()))],([],()))))))))))))=some (4,(1,(N,(0,((-1),(l.1,([],(l.2.1,(last,(false,([(false,(0,()))],([],())))))))))))) from fun _=>rfl,iP]
   rw [gP (by omega),dS]
   simp only
   rw [gY (by rfl),gY (by rfl),if_neg (by simp)]
   simp
  | cons e ls =>
   rw [bX (by simp <;> omega),eD (zLm (by omega) (by simp <;> omega)),show bZ (Ty.dflt aI) (e :: ls) 0=e from rfl,
    show ∀ (N:Int) (b:Bool),lY n ((0,(1,(N,(0,((-1),(l.1,([],(l.2.1,(last,(false,([(false,(0,()))],([],())))))))))))),e,b)=some (1,(0,(IntKind.wrap .i64 (N+1),(0,((-1),(e.1,([],(e.2.1,(b,(false,([(false,(0,()))],([],())))))))))))) from fun _ _=>rfl,iP,eD (by simp <;> omega),
    show (e :: ls).drop (1:Int).toNat=ls from rfl,pE (x:=(N:Int)+1) (by omega) (by omega),show ((N:Int)+1)=((N+1:Nat):Int) by simp]
   simp only
   obtain ⟨s,hs⟩:=ih (N+1) ls e (steps+1+1) (row++[]++[l]) (((e :: ls).length:Int) == 1) (m - 1 - 1 - 1) (by omega) (by omega) (by omega) (by omega) (by omega) (by simp; omega)
   refine ⟨s,hs.trans ?_⟩
   have:(j+1 <= (e :: ls).length)=(j <= ls.length):=by simp
   simp only [this]
   simp
theorem yAe (n:Nat) (K c:Int):qP n (((false,([],([(((1,(K,(0,()))),((0,(0,(0,()))),(false,()))),(113,([],([],(c,(0,((-1),([],(false,(false,()))))))))))],()))),(false,([],(false,())))),[])=some []:=by
 unfold qP orF zNj
 rw [if_neg (by rintro ⟨h,_⟩; simp [qE] at h)]
 simp only
 unfold zNk
 simp only
 rw [if_pos ⟨rfl,rfl,rfl,rfl⟩]
theorem yFv {n:Nat} (hn:1500 <= n) {s:List UInt8} (hs:s.length <= 200) {k:Nat} (hk:1 <= k∧k <= 9) (c:Int) :
  ∃ z,wT n (((false,([],([(((1,((k:Int),(0,()))),((0,(0,(0,()))),(false,()))),(113,([],([],(c,(0,((-1),([],(false,(false,()))))))))))],()))),(false,([],(false,())))),s,[],1000) =
   some (((aL s).take k,([],((if k <= (aL s).length then c else 0),(z,())))),0):=by
 unfold wT
 simp only
 rw [bX (by rfl),yAe,iP,zRk hn (by omega),iP]
 rw [show Ie n (false,([],([(((1,((k:Int),(0,()))),((0,(0,(0,()))),(false,()))),(113,([],([],(c,(0,((-1),([],(false,(false,()))))))))))],())))=some (0,(0,(0,(0,((-1),([],([],(false,(false,(false,([(false,(0,()))],([],())))))))))))) from rfl,iP,bX (by rfl),gY (by rfl)]
 cases hL:aL s with
 | nil =>
  refine ⟨0,?_⟩
  rw [gY (by rfl),show kM n (0,(0,(0,(0,((-1),([],([],(false,(false,(false,([(false,(0,()))],([],()))))))))))))=some (4,(0,(0,(0,((-1),([],([],(false,(false,(false,([(false,(0,()))],([],())))))))))))) from rfl,iP,gP (by omega),Br]
  simp only
  rw [gY (by rfl),gY (by rfl),if_neg (by simp; omega)]
  simp
 | cons e ls =>
  obtain ⟨j,rfl⟩:∃ j,k=j+1:=⟨k - 1,by omega⟩
  simp only
  rw [bX (by simp <;> omega),eD (zLm (by omega) (by simp <;> omega)),show bZ (Ty.dflt aI) (e :: ls) 0=e from rfl,
   show ∀ (b:Bool),lY n ((0,(0,(0,(0,((-1),([],([],(false,(false,(false,([(false,(0,()))],([],())))))))))))),e,b)=some (1,(0,(((1:Nat):Int),(0,((-1),(e.1,([],(e.2.1,(b,(false,([(false,(0,()))],([],())))))))))))) from fun _=>rfl,iP,eD (by simp <;> omega),
   show (e :: ls).drop (1:Int).toNat=ls from rfl]
  simp only
  obtain ⟨z,hz⟩:=run_go (n:=n) (by omega) hk c j 1 ls e 0 [] (((e :: ls).length:Int) == 1) n (by omega) (by omega) (by omega) (by omega) (by omega) (by simp; omega)
  refine ⟨z,hz.trans ?_⟩
  have:(j+1 <= (e :: ls).length)=(j <= ls.length):=by simp
  simp only [this]
  simp
theorem Eu (x:List UInt8 × Int × Int) (hx:0 <= x.2.1∧x.2.1 <= 255):nJ 2000 x=some true:=by
 obtain ⟨s,w,c⟩:=x
 obtain ⟨hx0,hx1⟩:=hx
 simp only at hx0 hx1
 unfold nJ
 simp only
 by_cases h1:decide ((s.length:Int) > 200)=true
 ·rw [gY h1]; rfl
 ·rw [bX (by simpa using h1)]
  have h1:¬ (s.length:Int) > 200:=by simpa using h1
  rw [show shown16 2000 ()=some true from rfl,iP,bX (b:=!true) rfl,eD (by rfl),pE (x:=w) (by omega) (by omega)]
  have hmod:=Int.tmod_eq_emod_of_nonneg (b:=9) hx0
  rw [hmod]
  have hb1:=Int.emod_nonneg w (show (9:Int) ≠ 0 by decide)
  have hb2:=Int.emod_lt_of_pos w (show (0:Int) < 9 by decide)
  rw [pE (x:=1+w % 9) (by omega) (by omega)]
  obtain ⟨k,hk⟩:∃ k:Nat,1+w % 9=(k:Int):=⟨(1+w % 9).toNat,by omega⟩
  rw [hk]
  have hk9:1 <= k∧k <= 9:=by omega
  obtain ⟨z,hz⟩:=yFv (n:=2000) (by omega) (s:=s) (by omega) hk9 (IntKind.wrap .i64 c)
  have hs:qO 2000 s=some (aL s):=by unfold qO; rw [eD (decide_eq_true (by omega))]
  have hlen:=pF s []
  have hl:(aL s).length <= 201:=by simp only [aL]; omega
  have hS:=Na (aL s)
  rw [tH] at hS
  have ht:=zAq (aL s) k
  rw [hz,iP,hs,iP]
  simp only
  have hz0:((0:Int) == 0)=true:=rfl
  by_cases hle:k <= (aL s).length
  ·rw [gY (decide_eq_true (by omega)),eD (by simp; omega),show ((k:Int)).toNat=k by simp,join_eq (by omega) (by simp; omega) (by omega),iP,gY hz0,zWt (L:=(aL s).take k) (by omega) (Qd _ _ (mW s [])) (by simp; omega) (by omega),iP,gY (by simp),if_pos hle]
   simp
  ·have htk:(aL s).take k=aL s:=List.take_of_length_le (by omega)
   rw [bX (decide_eq_false (by omega)),gY hz0,htk,zIo (by omega) (by omega),iP,gY (by simp),if_neg hle]
   rfl
end Go.Dec
namespace Go.Dec
theorem Jj (x:bG [.str,.int .u8,.int .u8]) (hx:Tw [.str,.int .u8,.int .u8] x):nJ 2000 x=some true :=
 Eu x ⟨hx.2.1.1,hx.2.1.2⟩
end Go.Dec
