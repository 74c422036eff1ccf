/- Part of a proof over this seat: a library of my own, and what it says of this seat. No statement is proved here. -/
import Derived.Test.YthhbdkdofhhoeaaGreatDoorPartBP
import Derived.Test.YthhbdkdofhhoeaaGreatDoorPartBK
import Derived.Test.YthhbdkdofhhoeaaGreatDoorPartBQ
import Derived.Test.YthhbdkdofhhoeaaGreatDoorPartBR
namespace Go.Dec
def BK (first:Bool) (acc:Nat->Bool) (r:List UInt8) (S:Nat->Bool) (k:Nat):Prop :=∃ x,(∀ f,r.length<f->xE f first acc r = some (x,k)) ∧ ∀ j,j < 256->x j = (acc j||S j)
theorem BK.end{acc:Nat->Bool}{r:List UInt8}:BK false acc (93::r) (λ_=>false) 1:=by
 refine⟨acc,λf hf=>?_,λj _=>by simp⟩;obtain⟨f,rfl⟩:∃ k,f=k+1:=⟨f-1,by simp at hf;omega⟩;rfl
theorem BK.step{first:Bool}{acc p S T:Nat->Bool}{r r':List UInt8}{k1 k:Nat}(hno:([93].isPrefixOf r&&!first)=false)(hp:pO first r=some (p,k1))(hr:r.drop k1=r')(h:BK false (λj=>acc j||p j) r' S k)(hT:∀ j,j<256->T j=(p j||S j)):BK first acc r T (k1+k):=by
 obtain⟨x,h1,h2⟩:=h;have hl:=Ta hp;refine⟨x,λf hf=>?_,λj hj=>?_⟩
 ·obtain⟨f,rfl⟩:∃ k,f=k+1:=⟨f-1,by omega⟩;unfold xE;rw[hno,hp];simp only[cond_false];rw[hr,h1 f (by rw[<- hr,List.length_drop];omega)]
 ·rw[h2 j hj,hT j hj,Bool.or_assoc]
def ND (r:List UInt8):Bool:=!([45].isPrefixOf r&&!([45,93].isPrefixOf r))
theorem Lu{c:UInt8}{r:List UInt8}(h:c≠45):ND (c::r)=true:=by
 have:[45].isPrefixOf (c::r)=false:=by simp[List.isPrefixOf,Ne.symm h]
 unfold ND;rw[this];rfl
theorem uZ{first may:Bool}{a:UInt8}{k:Nat}{r:List UInt8}(h1:[91,58].isPrefixOf r=false)(h2:pK first false r=some (a,k,may))(h3:ND (r.drop k)=true):pO first r=some (bC a.toNat a.toNat,k):=by
 unfold pO;rw[h1,h2];unfold ND at h3;simp only[Bool.not_eq_true',cond_false]at h3 ⊢;rw[h3,Bool.false_and];rfl
theorem Ze{c:UInt8}(h:dW.contains c=false):c≠93/\c≠91/\c≠92/\c≠94/\c≠45/\c≠10:=by
 simpa [dW,List.contains_cons]using h
theorem Ol{first ends:Bool}{c:UInt8}{r:List UInt8}(h:dW.contains c=false):pK first ends (c::r)=some (c,1,true):=by
 have h2:c≠93/\c≠91/\c≠92/\c≠94/\c≠45/\c≠10:=by
  simpa [dW,List.contains_cons]using h
 obtain⟨h93,h91,h92,_,h45,_⟩:=h2;have e1:∀ a:UInt8,[91,a].isPrefixOf (c::r)=false:=λa=>by simp[List.isPrefixOf,Ne.symm h91]
 have e2:[92,110].isPrefixOf (c::r)=false:=by simp[List.isPrefixOf,Ne.symm h92]
 have e3:[93].isPrefixOf (c::r)=false:=by simp[List.isPrefixOf,Ne.symm h93]
 have e4:[45].isPrefixOf (c::r)=false:=by simp[List.isPrefixOf,Ne.symm h45]
 unfold pK;rw[e1,e1,e2,e1,e3,e4];rfl
theorem Om{c:UInt8}{r:List UInt8}(h:dW.contains c=false):[91,58].isPrefixOf (c::r)=false/\[93].isPrefixOf (c::r)=false:=by
 have h2:c≠93/\c≠91/\c≠92/\c≠94/\c≠45/\c≠10:=by
  simpa [dW,List.contains_cons]using h
 exact⟨by simp[List.isPrefixOf,Ne.symm h2.2.1],by simp[List.isPrefixOf,Ne.symm h2.1]⟩
theorem zSq{first:Bool}{c:UInt8}{r:List UInt8}(h:dW.contains c=false)(hr:ND r=true):pO first (c::r)=some (bC c.toNat c.toNat,1):=
 uZ (Om h).1 (Ol h) hr
theorem zSr{first:Bool}{c d:UInt8}{r:List UInt8}(h:dW.contains c=false)(hd:dW.contains d=false)(hcd:c.toNat<=d.toNat):pO first (c::45::d::r)=some (bC c.toNat d.toNat,3):=by
 have h93:d≠93:=(Ze hd).1;unfold pO;rw[(Om h).1,Ol h];simp only[cond_false,List.drop_succ_cons,List.drop_zero];rw[show [45].isPrefixOf (45::d::r)=true by simp[List.isPrefixOf],show [45,93].isPrefixOf (45::d::r)=false by simp[List.isPrefixOf,Ne.symm h93]];rw[Ol hd];simp[Nat.not_lt.2 hcd]
theorem range_one{c:UInt8}{j:Nat}:bC c.toNat c.toNat j=decide (j=c.toNat):=by
 unfold bC;rw[Bool.eq_iff_iff];simp;omega
def t5 (r:List UInt8):List UInt8:=93 :: r
def t4 (p:Nat->Bool) (r:List UInt8):List UInt8:=(bif p 45 then [45] else [])++t5 r
def t3 (p:Nat->Bool) (r:List UInt8):List UInt8:=(bif p 94 then [94] else [])++t4 p r
def t2 (p:Nat->Bool) (r:List UInt8):List UInt8:=(bif p 92 then [92] else [])++t3 p r
def t1 (p:Nat->Bool) (r:List UInt8):List UInt8:=(bif p 91 then [91] else [])++t2 p r
def t0 (p:Nat->Bool) (r:List UInt8):List UInt8:=(bif p 10 then [92,110] else [])++t1 p r
theorem yCa(p:Nat->Bool)(r:List UInt8):wQ p++r=t0 p r:=by
 simp only[wQ,t0,t1,t2,t3,t4,t5,List.append_assoc,List.singleton_append]
theorem nd4{p:Nat->Bool}{r:List UInt8}:ND (t4 p r)=true:=by
 unfold t4 t5;cases p 45<;>rfl
theorem nd3{p:Nat->Bool}{r:List UInt8}:ND (t3 p r)=true:=by
 unfold t3;cases p 94
 ·exact nd4
 ·exact Lu (by decide)
theorem nd2{p:Nat->Bool}{r:List UInt8}:ND (t2 p r)=true:=by
 unfold t2;cases p 92
 ·exact nd3
 ·exact Lu (by decide)
theorem nd1{p:Nat->Bool}{r:List UInt8}:ND (t1 p r)=true:=by
 unfold t1;cases p 91
 ·exact nd2
 ·exact Lu (by decide)
theorem nd0{p:Nat->Bool}{r:List UInt8}:ND (t0 p r)=true:=by
 unfold t0;cases p 10
 ·exact nd1
 ·exact Lu (by decide)
theorem yGe{p:Nat->Bool}{r:List UInt8}:∃ c s,t4 p r=c::s/\(c=45\/c=93):=by
 unfold t4 t5;cases p 45<;>exact⟨_,_,rfl,by simp⟩
theorem yAe{p:Nat->Bool}{r:List UInt8}:∃ c s,t3 p r=c::s/\(c=94\/c=45\/c=93):=by
 unfold t3;cases p 94
 ·obtain⟨c,s,h,hc⟩:=@yGe p r;exact⟨c,s,h,Or.inr hc⟩
 ·exact⟨_,_,rfl,Or.inl rfl⟩
theorem yGf{p:Nat->Bool}{r:List UInt8}:∃ c s,t2 p r=c::s/\(c=92\/c=94\/c=45\/c=93):=by
 unfold t2;cases p 92
 ·obtain⟨c,s,h,hc⟩:=@yAe p r;exact⟨c,s,h,Or.inr hc⟩
 ·exact⟨_,_,rfl,Or.inl rfl⟩
theorem bk4{first:Bool}{acc p:Nat->Bool}{r:List UInt8}(hf:first=true->p 45=true):BK first acc (t4 p r) (λj=>p j&&decide (j=45)) ((t4 p r).length-r.length):=by
 unfold t4;cases h:p 45
 ·have hff:first=false:=by cases first;rfl;exact absurd (hf rfl) (by simp[h])
  subst hff;obtain⟨x,h1,h2⟩:=BK.end (acc:=acc) (r:=r);refine⟨x,?_,λj hj=>?_⟩
  ·intro f hf;have:=h1 f hf;simpa [t5]using this
  ·rw[h2 j hj];by_cases hj2:j=45
   ·subst hj2;simp[h]
   ·simp[hj2]
 ·have hp:pO first (45::t5 r)=some (bC 45 45,1):=by
   refine uZ (a:=45) (may:=true) rfl ?_ rfl;unfold pK;cases first<;>rfl
  have:=BK.step (first:=first) (acc:=acc) (T:=λj=>p j&&decide (j=45)) (by rfl) hp (r':=t5 r) rfl BK.end (λj hj=>by
   show _=(bC 45 45 j||false);have e:=@range_one 45 j;rw[show(45:UInt8).toNat=45 from rfl]at e;rw[e];by_cases hj2:j=45
   ·subst hj2;simp[h]
   ·simp[hj2])
  have hlen:(([45]++t5 r).length-r.length)=1+1:=by simp[t5];omega
  simp only[cond_true,hlen];exact this
theorem zCq{first:Bool}{acc p S:Nat->Bool}{c:UInt8}{r r' w:List UInt8}{k:Nat}(hw:w.length=k/\(w++r').drop k=r')(hpart:∀ first,pO first (w++r')=some (bC c.toNat c.toNat,k))(h93:[93].isPrefixOf (w++r')=false)(hsub:∀ (first:Bool) (acc:Nat->Bool),(first=true->p c.toNat=false->False\/True)->True)(hf:BK false (λj=>acc j||bC c.toNat c.toNat j) r' S (r'.length-r.length))(ht:BK first acc r' S (r'.length-r.length)\/p c.toNat=true)(hrl:r.length<=r'.length):BK first acc ((bif p c.toNat then w else [])++r') (λj=>(p j&&decide (j=c.toNat))||S j) (((bif p c.toNat then w else [])++r').length-r.length):=by
 cases h:p c.toNat
 ·rcases ht with ht|ht
  ·obtain⟨x,h1,h2⟩:=ht;refine⟨x,λf hf=>h1 f hf,λj hj=>?_⟩;rw[h2 j hj];by_cases hj2:j=c.toNat
   ·subst hj2;simp[h]
   ·simp[hj2]
  ·rw[h]at ht;simp at ht
 ·simp only[cond_true];have:=BK.step (first:=first) (acc:=acc) (T:=λj=>(p j&&decide (j=c.toNat))||S j) (by rw[h93];rfl) (hpart first) hw.2 hf (λj hj=>by
   rw[range_one];by_cases hj2:j=c.toNat
   ·subst hj2;simp[h]
   ·simp[hj2])
  rw[List.length_append,hw.1,show k+r'.length-r.length=k+(r'.length-r.length)by omega];exact this
theorem yEz{p:Nat->Bool}{r:List UInt8}:r.length<=(t4 p r).length:=by unfold t4 t5;simp;omega
theorem yFa{p:Nat->Bool}{r:List UInt8}:r.length<=(t3 p r).length:=by unfold t3;have:=@yEz p r;simp;omega
theorem len2{p:Nat->Bool}{r:List UInt8}:r.length<=(t2 p r).length:=by unfold t2;have:=@yFa p r;simp;omega
theorem len1{p:Nat->Bool}{r:List UInt8}:r.length<=(t1 p r).length:=by unfold t1;have:=@len2 p r;simp;omega
theorem zWh{p:Nat->Bool}{r:List UInt8}:r.length<=(t0 p r).length:=by unfold t0;have:=@len1 p r;simp;omega
theorem bk3{first:Bool}{acc p:Nat->Bool}{r:List UInt8}(hf:first=true->p 94=true\/p 45=true):BK first acc (t3 p r) (λj=>(p j&&decide (j=94))||(p j&&decide (j=45))) ((t3 p r).length-r.length):=by
 refine zCq (c:=94) (w:=[94]) (k:=1) ⟨rfl,rfl⟩ (λfirst=>uZ (may:=true) rfl (by cases first<;>rfl) nd4) rfl (λ_ _ _=>trivial) (bk4 (by simp)) ?_ yEz;cases h:p 94
 ·left;exact bk4 (λhh=>by rcases hf hh with h2|h2;rw[h]at h2;simp at h2;exact h2)
 ·right;exact h
theorem bk2{first:Bool}{acc p:Nat->Bool}{r:List UInt8}(hf:first=true->p 92=true\/p 94=true\/p 45=true):BK first acc (t2 p r) (λj=>(p j&&decide (j=92))||((p j&&decide (j=94))||(p j&&decide (j=45)))) ((t2 p r).length-r.length):=by
 have hn:[92,110].isPrefixOf (92::t3 p r)=false:=by
  obtain⟨c,s,h,hc⟩:=@yAe p r;rw[h];rcases hc with rfl|rfl|rfl<;>rfl
 refine zCq (c:=92) (w:=[92]) (k:=1) ⟨rfl,rfl⟩ (λfirst=>uZ (may:=true) rfl (by
  unfold pK;rw[show([92]++t3 p r)=92::t3 p r from rfl,hn];cases first<;>rfl) nd3) rfl (λ_ _ _=>trivial) (bk3 (by simp)) ?_ yFa
 cases h:p 92
 ·left;exact bk3 (λhh=>by rcases hf hh with h2|h2;rw[h]at h2;simp at h2;exact h2)
 ·right;exact h
theorem bk1{first:Bool}{acc p:Nat->Bool}{r:List UInt8}(hf:first=true->p 91=true\/p 92=true\/p 94=true\/p 45=true):BK first acc (t1 p r) (λj=>(p j&&decide (j=91))||((p j&&decide (j=92))||((p j&&decide (j=94))||(p j&&decide (j=45))))) ((t1 p r).length-r.length):=by
 have hn:∀ a:UInt8,a=46\/a=61\/a=58->[91,a].isPrefixOf (91::t2 p r)=false:=by
  intro a ha;obtain⟨c,s,h,hc⟩:=@yGf p r;rw[h];rcases ha with rfl|rfl|rfl<;>rcases hc with rfl|rfl|rfl|rfl<;>rfl
 refine zCq (c:=91) (w:=[91]) (k:=1) ⟨rfl,rfl⟩ (λfirst=>uZ (may:=true) (hn 58 (by simp)) (by
  unfold pK;rw[show([91]++t2 p r)=91::t2 p r from rfl,hn 46 (by simp),hn 61 (by simp),hn 58 (by simp)];cases first<;>rfl) nd2) rfl (λ_ _ _=>trivial) (bk2 (by simp)) ?_ len2
 cases h:p 91
 ·left;exact bk2 (λhh=>by rcases hf hh with h2|h2;rw[h]at h2;simp at h2;exact h2)
 ·right;exact h
def zO (p:Nat->Bool):Nat->Bool:=fun j=>(p j&&decide (j = 10))||((p j&&decide (j = 91))||((p j&&decide (j = 92))||((p j&&decide (j = 94))||(p j&&decide (j = 45)))))
theorem bk0{first:Bool}{acc p:Nat->Bool}{r:List UInt8}(hf:first=true->p 10=true\/p 91=true\/p 92=true\/p 94=true\/p 45=true):BK first acc (t0 p r) (zO p) ((t0 p r).length-r.length):=by
 refine zCq (c:=10) (w:=[92,110]) (k:=2) ⟨rfl,rfl⟩ (λfirst=>uZ (may:=true) rfl (by cases first<;>rfl) nd1) rfl (λ_ _ _=>trivial) (bk1 (by simp)) ?_ len1;cases h:p 10
 ·left;exact bk1 (λhh=>by rcases hf hh with h2|h2;rw[h]at h2;simp at h2;exact h2)
 ·right;exact h
theorem Bz{p:Nat->Bool}{i:Nat}(h:aU p i=true):dW.contains (UInt8.ofNat i)=false:=by
 unfold aU at h;simp only[aF,Bool.not_eq_true']at h;exact h.2
theorem zEj{p:Nat->Bool}{r:List UInt8}(hr:ND r=true):∀ (f i:Nat),ND (dG (aU p) f i++r)=true
 |0,i=>hr
 |f+1,i=>by
  unfold dG;split
  ·cases hq:aU p i
   ·exact zEj hr f (i+1)
   ·have h2:=Bz hq;have h45:UInt8.ofNat i≠45:=(Ze h2).2.2.2.2.1;simp only[cond_true];cases decide (i+2<=nU (aU p) 256 i)<;>exact Lu h45
  ·exact hr
theorem yCb{p S:Nat->Bool}{T r:List UInt8}(hT:ND T=true)(hrl:r.length<=T.length)(hS:∀ (first:Bool) (acc:Nat->Bool),(first=true->∃ j,j<256/\S j=true)->BK first acc T S (T.length-r.length)):∀ (d i f:Nat) (first:Bool) (acc:Nat->Bool),256-i<=d->256-i<f->(first=true->(∃ j,j<256/\S j=true)\/∃ j,i<=j/\j<256/\aU p j=true) ->
  BK first acc (dG (aU p) f i++T) (λj=>(aU p j&&decide (i<=j))||S j) ((dG (aU p) f i++T).length-r.length):=by
 intro d;induction d with
 |zero =>
  intro i f first acc h1 h2 hf
  obtain⟨f,rfl⟩:∃ k,f=k+1:=⟨f-1,by omega⟩;rw[dG,if_neg (by omega),List.nil_append];obtain⟨x,k1,k2⟩:=hS first acc (λhh=>by rcases hf hh with h|⟨j,a,b,_⟩;exact h;omega)
  exact⟨x,k1,λj hj=>by show x j=(acc j||((aU p j&&decide (i<=j))||S j));rw[k2 j hj,decide_eq_false (show ¬ i<=j by omega)];simp⟩
 |succ d ih =>
  intro i f first acc h1 h2 hf
  obtain⟨f,rfl⟩:∃ k,f=k+1:=⟨f-1,by omega⟩;by_cases hi:i<256
  case neg =>
   rw[dG,if_neg hi,List.nil_append];obtain⟨x,k1,k2⟩:=hS first acc (λhh=>by rcases hf hh with h|⟨j,a,b,_⟩;exact h;omega)
   exact⟨x,k1,λj hj=>by show x j=(acc j||((aU p j&&decide (i<=j))||S j));rw[k2 j hj,decide_eq_false (show ¬ i<=j by omega)];simp⟩
  rw[dG,if_pos hi];cases hq:aU p i
  ·simp only[cond_false];obtain⟨x,k1,k2⟩:=ih (i+1) f first acc (by omega) (by omega) (λhh=>by
    rcases hf hh with h|⟨j,a,b,c⟩
    ·exact Or.inl h
    ·right;refine⟨j,?_,b,c⟩;have:j≠i:=λe=>by rw[e,hq]at c;simp at c
     omega)
   refine⟨x,k1,λj hj=>?_⟩;rw[k2 j hj];show(acc j||((aU p j&&decide (i+1<=j))||S j))=(acc j||((aU p j&&decide (i<=j))||S j));by_cases hj2:j=i
   ·subst hj2;simp[hq]
   ·rw[show decide (i+1<=j)=decide (i<=j)from decide_eq_decide.2 (by omega)]
  ·simp only[cond_true];have hap:=Bz hq;have hti:(UInt8.ofNat i).toNat=i:=by rw[UInt8.toNat_ofNat'];omega
   obtain⟨a1,a2,a3,a4⟩:=Iu (aU p) 256 i hi (by omega);generalize hk:nU (aU p) 256 i=k at *;have htk:(UInt8.ofNat k).toNat=k:=by rw[UInt8.toNat_ofNat'];omega
   by_cases h3:i+2<=k
   ·rw[decide_eq_true h3];simp only[cond_true];have hpk:aU p k=true:=a3 k (by omega) (aQ _);have:=BK.step (first:=first) (acc:=acc) (r:=[UInt8.ofNat i,45,UInt8.ofNat k]++dG (aU p) f (k+1)++T) (r':=dG (aU p) f (k+1)++T) (T:=λj=>(aU p j&&decide (i<=j))||S j) (by
     show([93].isPrefixOf (UInt8.ofNat i::_)&&!first)=false;rw[(Om hap).2];rfl) (zSr hap (Bz hpk) (by rw[hti,htk];omega)) rfl (ih (k+1) f false _ (by omega) (by omega) (by simp)) (λj hj=>by
     rw[hti,htk];unfold bC;by_cases b1:i<=j
     ·by_cases b2:j<=k
      ·have hpj:aU p j=true:=by
        by_cases b3:j=i
        ·rw[b3];exact hq
        ·exact a3 j (by omega) b2
       simp[b1,b2,hpj]
      ·rw[show decide (k+1<=j)=true from decide_eq_true (by omega)];simp[b1,b2]
     ·rw[show decide (k+1<=j)=false from decide_eq_false (by omega)];simp[b1])
    have hl:([UInt8.ofNat i,45,UInt8.ofNat k]++dG (aU p) f (k+1)++T).length-r.length=3+((dG (aU p) f (k+1)++T).length-r.length):=by
     simp only[List.length_append,List.length_cons,List.length_nil];omega
    rw[hl];exact this
   ·rw[decide_eq_false h3];simp only[cond_false];have:=BK.step (first:=first) (acc:=acc) (r:=[UInt8.ofNat i]++dG (aU p) f (i+1)++T) (r':=dG (aU p) f (i+1)++T) (T:=λj=>(aU p j&&decide (i<=j))||S j) (by
     show([93].isPrefixOf (UInt8.ofNat i::_)&&!first)=false;rw[(Om hap).2];rfl) (zSq hap (zEj hT f (i+1))) rfl (ih (i+1) f false _ (by omega) (by omega) (by simp)) (λj hj=>by
     rw[hti];unfold bC;by_cases b1:j=i
     ·subst b1;simp[hq]
     ·rw[show decide (i+1<=j)=decide (i<=j)from decide_eq_decide.2 (by omega)];have:(decide (i<=j)&&decide (j<=i))=false:=by simp;omega
      rw[this];simp)
    have hl:([UInt8.ofNat i]++dG (aU p) f (i+1)++T).length-r.length=1+((dG (aU p) f (i+1)++T).length-r.length):=by
     simp only[List.length_append,List.length_cons,List.length_nil];omega
    rw[hl];exact this
end Go.Dec
namespace Go.Dec
theorem Hg{p q:Nat->Bool}(h:∀ i,i<256->p i=q i):aT p=aT q:=by
 unfold aT;rw[List.filter_congr (λx hx=>h x (by simpa using hx))]
theorem Tw{p:Nat->Bool}(h:2<=(aT p).length)(c:Nat):∃ j,j<256/\j≠c/\p j=true:=by
 unfold aT at h;rw[List.length_map]at h;have hpw:((List.range 256).filter p).Pairwise (· < ·):=List.pairwise_lt_range.filter p;have hm:∀ x∈(List.range 256).filter p,x<256/\p x=true:=λx hx=>by simpa using hx
 match hl:(List.range 256).filter p,h with
 |a::b::l,_ =>
  rw[hl]at hpw hm;have hab:a<b:=(List.pairwise_cons.1 hpw).1 b (by simp);have ha:=hm a (by simp);have hb:=hm b (by simp);by_cases e:a=c
  ·exact⟨b,hb.1,by omega,hb.2⟩
  ·exact⟨a,ha.1,e,ha.2⟩
theorem Es{p:Nat->Bool}:fK p=true<->∀ i,i<256->p i=false:=by
 unfold fK;simp
theorem Tx{j:Nat}(hj:j<256):dW.contains (UInt8.ofNat j)=(decide (j=93)||(decide (j=91)||(decide (j=92)||(decide (j=94)||(decide (j=45)||decide (j=10)))))):=by
 have:((List.range 256).all λj=>dW.contains (UInt8.ofNat j)==(decide (j=93)||(decide (j=91)||(decide (j=92)||(decide (j=94)||(decide (j=45)||decide (j=10)))))))=true:=by decide +kernel
 have:=kD this hj;simpa using this
theorem zOr{p:Nat->Bool}{T:List UInt8}:∀ (f i:Nat),256-i<f->([94].isPrefixOf T=false\/∃ j,i<=j/\j<256/\aU p j=true)->[94].isPrefixOf (dG (aU p) f i++T)=false
 |0,i,h,_=>by omega
 |f+1,i,h,hh=>by
  unfold dG;split
  ·cases hq:aU p i
   ·refine zOr f (i+1) (by omega) ?_;rcases hh with hh|⟨j,h1,h2,h3⟩
    ·exact Or.inl hh
    ·right;refine⟨j,?_,h2,h3⟩;have:j≠i:=λe=>by rw[e,hq]at h3;simp at h3
     omega
   ·have h2:=Bz hq;have h94:UInt8.ofNat i≠94:=(Ze h2).2.2.2.1;have:∀ w,[94].isPrefixOf (UInt8.ofNat i::w)=false:=λw=>by simp[List.isPrefixOf,Ne.symm h94]
    simp only[cond_true];cases decide (i+2<=nU (aU p) 256 i)<;>exact this _
  ·rcases hh with hh|⟨j,h1,h2,h3⟩
   ·exact hh
   ·omega
theorem zVv{p x:Nat->Bool}(hx:∀ j,j<256->x j=((p j&&decide (j=93))||((aU p j&&decide (0<=j))||zO p j))){j:Nat}(hj:j<256):x j=p j:=by
 rw[hx j hj];simp only[aU,zO,Tx hj,decide_eq_true (Nat.zero_le j),Bool.and_true];cases p j
 ·simp
 ·simp only[Bool.true_and];cases decide (j=93)<;>cases decide (j=91)<;>cases decide (j=92)<;>cases decide (j=94)<;>cases decide (j=45)<;>cases decide (j=10)<;>rfl
theorem zMi{C rest w:List UInt8}{p S:Nat->Bool}(hC:BK true (λ_=>false) C S (C.length-rest.length))(hS:∀ x:Nat->Bool,(∀ j,j<256->x j=S j)->∀ j,j<256->x j=p j)(hno:[94].isPrefixOf C=false)(he:fK p=false)(hw:w++rest=91::C)(hl:rest.length<=C.length):∃ x,vO (w++rest)=some (x,w.length)/\∀ j,j<256->x j=p j:=by
 obtain⟨x,h1,h2⟩:=hC;have hx:=hS x (λj hj=>by rw[h2 j hj];rfl);refine⟨x,?_,hx⟩;rw[hw];unfold vO;rw[show [91].isPrefixOf (91::C)=true from rfl];simp only[cond_true,List.drop_succ_cons,List.drop_zero,hno,cond_false];rw[h1 _ (by rw[List.length_cons];omega)];simp only;have hxe:fK x=false:=by
  rw[Bool.eq_false_iff,ne_eq,Es]at he ⊢;intro h;exact he λi hi=>by rw[<- hx i hi];exact h i hi
 rw[hxe];have:=congrArg List.length hw;simp only[List.length_append,List.length_cons]at this;simp only[cond_false,aA,aB,true_and];omega
theorem zZh{p:Nat->Bool}{rest:List UInt8}(h2:2<=(aT p).length)(hn:aT p≠[45,94]):∃ x,vO (wR p++rest)=some (x,(wR p).length)/\∀ j,j<256->x j=p j:=by
 obtain⟨j0,j1,j2,j3⟩:=Tw h2 93;have hT:ND (t0 p rest)=true:=nd0;have hS:∀ (first:Bool) (acc:Nat->Bool),(first=true->∃ j,j<256/\zO p j=true)->BK first acc (t0 p rest) (zO p) ((t0 p rest).length-rest.length):=by
  intro first acc h
  refine bk0 λhf=>?_
  obtain⟨j,_,hj⟩:=h hf;simp only[zO,Bool.or_eq_true,aF,decide_eq_true_eq]at hj;rcases hj with ⟨a,rfl⟩|⟨a,rfl⟩|⟨a,rfl⟩|⟨a,rfl⟩|⟨a,rfl⟩
  ·exact Or.inl a
  ·exact Or.inr (Or.inl a)
  ·exact Or.inr (Or.inr (Or.inl a))
  ·exact Or.inr (Or.inr (Or.inr (Or.inl a)))
  ·exact Or.inr (Or.inr (Or.inr (Or.inr a)))
 have hsc:=λfirst acc=>yCb (p:=p) hT zWh hS 256 0 257 first acc (by omega) (by omega)
 have hcase:(∃ j,j<256/\zO p j=true)\/∃ j,0<=j/\j<256/\aU p j=true:=by
  by_cases hap:dW.contains (UInt8.ofNat j0)=true
  ·left;refine⟨j0,j1,?_⟩;rw[Tx j1]at hap;simp only[Bool.or_eq_true,decide_eq_true_eq]at hap;simp only[zO,j3,Bool.true_and,Bool.or_eq_true,decide_eq_true_eq];omega
  ·right;exact⟨j0,Nat.zero_le _,j1,by unfold aU;rw[j3,Bool.true_and];simpa using hap⟩
 have e:wR p++rest=91::((bif p 93 then [93]else [])++(dG (aU p) 257 0++t0 p rest)):=by
  simp only[wR,Iw,List.append_assoc,yCa,List.singleton_append,List.cons_append,List.nil_append]
 have hlen:rest.length<=(dG (aU p) 257 0++t0 p rest).length:=by rw[List.length_append];have:=@zWh p rest;omega
 have hemp:fK p=false:=Nu j1 j3;cases h93:p 93
 ·rw[h93]at e;refine zMi (p:=p) (hsc true _ (λ_=>hcase)) (λx hx j hj=>zVv (λj hj=>?_) hj) ?_ hemp e hlen
  ·rw[hx j hj];by_cases e2:j=93
   ·subst e2;rw[h93];simp
   ·rw[decide_eq_false e2,Bool.and_false,Bool.false_or]
  ·refine zOr 257 0 (by omega) ?_;by_cases hpl:∃ j,0<=j/\j<256/\aU p j=true
   ·exact Or.inr hpl
   ·left;unfold t0 t1 t2 t3;cases h10:p 10<;>simp only[cond_true,cond_false,List.nil_append]<;>try rfl
    cases h91:p 91<;>simp only[cond_true,cond_false,List.nil_append]<;>try rfl
    cases h92:p 92<;>simp only[cond_true,cond_false,List.nil_append]<;>try rfl
    have hall:∀ j,j<256->p j=true->j=94\/j=45:=by
     intro j hj hp;have:¬ dW.contains (UInt8.ofNat j)=false:=λh=>hpl ⟨j,Nat.zero_le _,hj,by unfold aU;rw[hp,h];rfl⟩
     rw[Bool.not_eq_false,Tx hj]at this;simp only[Bool.or_eq_true,decide_eq_true_eq]at this;rcases this with rfl|rfl|rfl|rfl|rfl|rfl
     ·rw[h93]at hp;simp at hp
     ·rw[h91]at hp;simp at hp
     ·rw[h92]at hp;simp at hp
     ·exact Or.inl rfl
     ·exact Or.inr rfl
     ·rw[h10]at hp;simp at hp
    obtain⟨a,a1,a2,a3⟩:=Tw h2 45;obtain⟨b,b1,b2,b3⟩:=Tw h2 94;have ha:=hall a a1 a3;have hb:=hall b b1 b3;have ha:a=94:=by omega
    have hb:b=45:=by omega
    subst ha hb;exfalso;apply hn;rw[Hg (q:=λj=>decide (j=94)||decide (j=45)) (λj hj=>by
     rw[Bool.eq_iff_iff];simp only[Bool.or_eq_true,decide_eq_true_eq];exact⟨hall j hj,λh=>by rcases h with rfl|rfl;exact a3;exact b3⟩)]
    decide +kernel
 ·rw[h93]at e;simp only[cond_true]at e;have hb:=BK.step (first:=true) (acc:=λ_=>false) (p:=bC 93 93) (k1:=1) (r:=[93]++(dG (aU p) 257 0++t0 p rest)) (T:=λj=>(p j&&decide (j=93))||((aU p j&&decide (0<=j))||zO p j)) (by simp)
   (uZ (a:=93) (may:=true) rfl rfl (by show ND (dG (aU p) 257 0++t0 p rest)=true;exact zEj hT 257 0)) rfl (hsc false _ (by simp)) (λj hj=>by
    have e:=@range_one 93 j;rw[show(93:UInt8).toNat=93 from rfl]at e;rw[e];by_cases e2:j=93
    ·subst e2;rw[h93];rfl
    ·rw[decide_eq_false e2,Bool.and_false])
  have hk:([93]++(dG (aU p) 257 0++t0 p rest)).length-rest.length=1+((dG (aU p) 257 0++t0 p rest).length-rest.length):=by
   rw[List.length_append,List.length_singleton];omega
  rw[<- hk]at hb;exact zMi (p:=p) hb (λx hx j hj=>zVv hx hj) rfl hemp e (by rw[List.length_append,List.length_singleton];omega)
theorem yFb{p:Nat->Bool}{rest:List UInt8}(hp:aT p=[45,94]):∃ x,vO ([91,45,94,93]++rest)=some (x,4)/\∀ j,j<256->x j=p j:=by
 have hpj:∀ j,j<256->p j=(decide (j=45)||decide (j=94)):=by
  intro j hj;have h:=rM (p:=p) hj;have hq:=rM (p:=λj=>decide (j=45)||decide (j=94)) hj;rw[show aT (λj=>decide (j=45)||decide (j=94))=[45,94]by decide +kernel,<- hp]at hq;rw[Bool.eq_iff_iff,h,<- hq]
 have h1:BK false (λj=>(false||bC 45 45 j)) (94::93::rest) (bC 94 94) (1+1):=
  BK.step (p:=bC 94 94) (r':=93::rest) rfl (uZ (a:=94) (may:=true) rfl rfl rfl) rfl BK.end (λj _=>by simp)
 have h2:BK true (λ_=>false) (45::94::93::rest) (λj=>bC 45 45 j||bC 94 94 j) (1+(1+1)):=
  BK.step (p:=bC 45 45) (r':=94::93::rest) rfl (uZ (a:=45) (may:=true) rfl rfl rfl) rfl h1 (λj _=>rfl)
 have hk:(45::94::93::rest).length-rest.length=1+(1+1):=by simp only[List.length_cons];omega
 rw[<- hk]at h2;refine zMi (p:=p) (w:=[91,45,94,93]) h2 (λx hx j hj=>?_) rfl (Nu (i:=45) (by omega) (by rw[hpj 45 (by omega)];rfl)) rfl (by simp only[List.length_cons];omega);have e1:=@range_one 45 j;have e2:=@range_one 94 j;rw[show(45:UInt8).toNat=45 from rfl]at e1;rw[show(94:UInt8).toNat=94 from rfl]at e2;rw[hx j hj,e1,e2,hpj j hj]
theorem zSs{p:Nat->Bool}(h:(aT p).length=256){j:Nat}(hj:j<256):p j=true:=by
 unfold aT at h;rw[List.length_map]at h;have:=List.length_filter_eq_length_iff.1 (show((List.range 256).filter p).length=(List.range 256).length by rw[h,List.length_range]);exact this j (by simpa using hj)
def HB (s:List UInt8):Prop := ∀ y,yBq (s++y) = false ∧ [36].isPrefixOf (s++y) = false ∧ [94].isPrefixOf (s++y) = false ∧ [42].isPrefixOf (s++y) = false ∧ [92,123].isPrefixOf (s++y) = false
theorem HB.app{s w:List UInt8}(h:HB s):HB (s++w):=λy=>by rw[List.append_assoc];exact h _
theorem show_cases{p:Nat->Bool}(he:fK p=false):(∃ c,iX p=Oe c/\∀ j,j<256->p j=mI c j)\/(iX p=[46]/\∀ j,j<256->p j=true)\/(iX p).head?=some 91/\∀ rest,∃ x,vO (iX p++rest)=some (x,(iX p).length)/\∀ j,j<256->x j=p j:=by
 have hmem:=λ{j}(hj:j<256)=>rM (p:=p) hj
 match hb:aT p with
 |[]=>
  rw[Bool.eq_false_iff,ne_eq,Es]at he;exact absurd (λi hi=>by
   have:=hmem hi;rw[hb]at this;simpa using this) he
 |[c]=>
  left;refine⟨c,by unfold iX;rw[hb],λj hj=>?_⟩;have:=hmem hj;rw[hb,List.mem_singleton]at this;rw[Bool.eq_iff_iff,this];simp only[mI,decide_eq_true_eq];rw[<- UInt8.toNat_inj,UInt8.toNat_ofNat'];omega
 |c::d::l =>
  right;have e:iX p=bif (c::d::l).length==256 then [46]else bif (c::d::l)==[45,94]then [91,45,94,93]else wR p:=by
   unfold iX;rw[hb]
  rw[<- hb]at e;rw[e];cases h:(aT p).length==256
  ·right;simp only[cond_false];cases h2:aT p==[45,94]
   ·simp only[cond_false];refine⟨rfl,λrest=>zZh (by rw[hb];simp) (by intro h3;rw[h3]at h2;simp at h2)⟩
   ·simp only[cond_true];exact⟨rfl,λrest=>yFb (by simpa using h2)⟩
  ·left;exact⟨rfl,λj hj=>zSs (by simpa using h) hj⟩
section
variable {row:List UInt8->Nat->List Bool->Res (Option Pt)}{first:Bool}{b:Nat}{en:List Bool}
end
end Go.Dec
namespace Go.Dec
def flat (ts:List Pt):List UInt8:=ts.flatMap Tv
end Go.Dec
namespace Go.Dec
def HE (s:List UInt8):Prop := ∀ y,wG (s++y) = false ∧ fC (s++y) = false
theorem Tz{c:UInt8}{s:List UInt8}(h1:c≠124)(h2:c≠41)(h3:c≠42)(h4:c≠43)(h5:c≠63)(h6:c≠123):HE (c::s):=λy=>by
 simp[wG,fC,h1,h2,h3,h4,h5,h6]
theorem HE.app{s w:List UInt8}(h:HE s):HE (s++w):=λy=>by rw[List.append_assoc];exact h _
theorem yFc{c:UInt8}(h:gM.contains c=false):c≠46/\c≠91/\c≠92/\c≠40/\c≠41/\c≠42/\c≠43/\c≠63/\c≠123/\c≠125/\c≠124/\c≠94/\c≠36:=by
 simpa [gM,List.contains_cons]using h
theorem yCc(c:UInt8):HE (Bw c):=by
 unfold Bw;cases c==10
 ·simp only[cond_false];cases h:gM.contains c
  ·have:=yFc h;exact Tz this.2.2.2.2.2.2.2.2.2.2.1 this.2.2.2.2.1 this.2.2.2.2.2.1 this.2.2.2.2.2.2.1 this.2.2.2.2.2.2.2.1 this.2.2.2.2.2.2.2.2.1
  ·exact Tz (by decide) (by decide) (by decide) (by decide) (by decide) (by decide)
 ·exact Tz (by decide) (by decide) (by decide) (by decide) (by decide) (by decide)
theorem zSt{rows:List UInt8->Nat->jA (List (List Pt))}{b:Nat}(c:UInt8)(y:List UInt8):pQ rows (Bw c++y) b=.ok (.bytes (mI c)) y b:=by
 unfold Bw;by_cases h10:c=10
 ·subst h10;rfl
 ·rw[beq_false_of_ne h10];simp only[cond_false];cases h:gM.contains c
  ·obtain⟨k46,k91,k92,k40,k41,k42,k43,k63,zLz,yJn,yJo,k94,k36⟩:=yFc h;simp only[cond_false,List.singleton_append];unfold pQ;simp only[fC,beq_false_of_ne k46,beq_false_of_ne k91,beq_false_of_ne k92,beq_false_of_ne k40,beq_false_of_ne k42,beq_false_of_ne k43,beq_false_of_ne k63,beq_false_of_ne zLz,beq_false_of_ne k94,beq_false_of_ne k36,cond_false,Bool.or_false]
  ·simp only[cond_true,List.cons_append,List.nil_append];have h14:oM.contains c=true:=by
    unfold oM;rw[List.contains_eq_any_beq,List.any_append,<- List.contains_eq_any_beq,h];rfl
   have zLy:(c==110)=false:=by
    rw[beq_eq_false_iff_ne];rintro rfl;revert h;decide
   have e:pQ rows (92::c::y) b=bif c==110 then .ok (.bytes (mI 10)) y b else bif oM.contains c then .ok (.bytes (mI c)) y b else bif decide (49<=c.toNat)&&decide (c.toNat<=57)then .er 44 (y.length+2)else .er 40 (y.length+2):=rfl
   rw[e,zLy,h14];rfl
theorem zZi:((List.range 256).all λi=>aT (mI (UInt8.ofNat i))==[UInt8.ofNat i])=true:=by decide +kernel
theorem zSu(c:UInt8):aT (mI c)=[c]:=by
 have:=kD zZi c.toNat_lt
 rwa [Bt,beq_iff_eq]at this
theorem zNn{p:Nat->Bool}(he:fK p=false):(∃ c,kX p=Bw c/\∀ j,j<256->p j=mI c j)\/(kX p=[46]/\∀ j,j<256->p j=true)\/(kX p).head?=some 91/\∀ rest,∃ x,vO (kX p++rest)=some (x,(kX p).length)/\∀ j,j<256->x j=p j:=by
 by_cases h1:(aT p).length=1
 ·left;obtain⟨c,hc⟩:=List.length_eq_one_iff.1 h1;refine⟨c,by unfold kX;rw[hc],?_⟩;rcases show_cases he with ⟨d,hd,h2⟩|⟨h,h2⟩|⟨h,h2⟩
  ·have:aT (mI d)=[c]:=by rw[<- hc];exact(Hg h2).symm
   intro j hj;have hm:=(rM (p:=p) hj);rw[hc,List.mem_singleton]at hm;rw[Bool.eq_iff_iff,hm];simp only[mI,decide_eq_true_eq];rw[<- UInt8.toNat_inj,UInt8.toNat_ofNat'];omega
  ·have:iX p=Oe c:=by unfold iX;rw[hc]
   intro j hj;have hm:=(rM (p:=p) hj);rw[hc,List.mem_singleton]at hm;rw[Bool.eq_iff_iff,hm];simp only[mI,decide_eq_true_eq];rw[<- UInt8.toNat_inj,UInt8.toNat_ofNat'];omega
  ·intro j hj;have hm:=(rM (p:=p) hj);rw[hc,List.mem_singleton]at hm;rw[Bool.eq_iff_iff,hm];simp only[mI,decide_eq_true_eq];rw[<- UInt8.toNat_inj,UInt8.toNat_ofNat'];omega
 ·have hsh:kX p=iX p:=by
   unfold kX;match hb:aT p,h1 with
   |[],_=>rfl
   |[c],h1=>simp at h1
   |a::b::l,_=>rfl
  rw[hsh];rcases show_cases he with ⟨d,hd,h2⟩|h|h
  ·exfalso;apply h1;have:aT p=aT (mI d):=Hg h2;rw[this];rw[zSu];rfl
  ·exact Or.inr (Or.inl h)
  ·exact Or.inr (Or.inr h)
end Go.Dec
namespace Go.Dec
end Go.Dec
namespace Go.Dec
end Go.Dec
