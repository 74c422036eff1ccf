/- Part of a proof over this seat: a library of my own, and what it says of this seat. No statement is proved here. -/
import Derived.Test.YthhbdkdofhhoeaaGreatDoorPartBP
import Derived.Test.YthhbdkdofhhoeaaGreatDoorPartBK
import Derived.Test.YthhbdkdofhhoeaaGreatDoorPartBQ
import Derived.Test.YthhbdkdofhhoeaaGreatDoorPartBR
namespace Go.Dec
def BK (first:Bool) (acc:Nat->Bool) (r:List UInt8) (S:Nat->Bool) (k:Nat):Prop :=∃ x,(∀ f,r.length<f->yB f first acc r = some (x,k)) ∧ ∀ j,j < 256->x j = (acc j||S j)
theorem BK.end {acc:Nat->Bool}{r:List UInt8}:BK false acc (93::r) (fun _=>false) 1:=by
 refine ⟨acc,fun f hf=>?_,fun j _=>by simp⟩;obtain ⟨f,rfl⟩:∃ k,f=k+1:=⟨f-1,by simp at hf;omega⟩;rfl
theorem BK.step {first:Bool}{acc p S T:Nat->Bool}{r r':List UInt8}{k1 k:Nat}(hno:([93].isPrefixOf r&&!first)=false) (hp:rA first r=some (p,k1)) (hr:r.drop k1=r') (h:BK false (fun j=>acc j||p j) r' S k) (hT:∀ j,j<256->T j=(p j||S j)):BK first acc r T (k1+k):=by
 obtain ⟨x,h1,h2⟩:=h;have hl:=Tw hp;refine ⟨x,fun f hf=>?_,fun j hj=>?_⟩
 ·obtain ⟨f,rfl⟩:∃ k,f=k+1:=⟨f-1,by omega⟩;unfold yB;rw [hno,hp];simp only [cond_false];rw [hr,h1 f (by rw [<- hr,List.length_drop];omega)]
 ·rw [h2 j hj,hT j hj,Bool.or_assoc]
def ND (r:List UInt8):Bool:=!([45].isPrefixOf r&&!([45,93].isPrefixOf r))
theorem Ms {c:UInt8}{r:List UInt8}(h:c≠45):ND (c::r)=true:=by
 have:[45].isPrefixOf (c::r)=false:=by simp [List.isPrefixOf,Ne.symm h]
 unfold ND;rw [this];rfl
theorem wB {first may:Bool}{a:UInt8}{k:Nat}{r:List UInt8}(h1:[91,58].isPrefixOf r=false) (h2:qZ first false r=some (a,k,may)) (h3:ND (r.drop k)=true):rA first r=some (bA a.toNat a.toNat,k):=by
 unfold rA;rw [h1,h2];unfold ND at h3;simp only [Bool.not_eq_true',cond_false] at h3 ⊢;rw [h3,Bool.false_and];rfl
theorem Zi {c:UInt8}(h:gG.contains c=false):c≠93∧c≠91∧c≠92∧c≠94∧c≠45∧c≠10:=by
 simpa [gG,List.contains_cons] using h
theorem Pk {first ends:Bool}{c:UInt8}{r:List UInt8}(h:gG.contains c=false):qZ first ends (c::r)=some (c,1,true):=by
 have h2:c≠93∧c≠91∧c≠92∧c≠94∧c≠45∧c≠10:=by
  simpa [gG,List.contains_cons] using h
 obtain ⟨h93,h91,h92,_,h45,_⟩:=h2;have e1:∀ a:UInt8,[91,a].isPrefixOf (c::r)=false:=fun a=>by simp [List.isPrefixOf,Ne.symm h91]
 have e2:[92,110].isPrefixOf (c::r)=false:=by simp [List.isPrefixOf,Ne.symm h92]
 have e3:[93].isPrefixOf (c::r)=false:=by simp [List.isPrefixOf,Ne.symm h93]
 have e4:[45].isPrefixOf (c::r)=false:=by simp [List.isPrefixOf,Ne.symm h45]
 unfold qZ;rw [e1,e1,e2,e1,e3,e4];rfl
theorem Pm {c:UInt8}{r:List UInt8}(h:gG.contains c=false):[91,58].isPrefixOf (c::r)=false∧[93].isPrefixOf (c::r)=false:=by
 have h2:c≠93∧c≠91∧c≠92∧c≠94∧c≠45∧c≠10:=by
  simpa [gG,List.contains_cons] using h
 exact ⟨by simp [List.isPrefixOf,Ne.symm h2.2.1],by simp [List.isPrefixOf,Ne.symm h2.1]⟩
theorem zTq {first:Bool}{c:UInt8}{r:List UInt8}(h:gG.contains c=false) (hr:ND r=true):rA first (c::r)=some (bA c.toNat c.toNat,1) :=
 wB (Pm h).1 (Pk h) hr
theorem zTr {first:Bool}{c d:UInt8}{r:List UInt8}(h:gG.contains c=false) (hd:gG.contains d=false) (hcd:c.toNat<=d.toNat):rA first (c::45::d::r)=some (bA c.toNat d.toNat,3):=by
 have h93:d≠93:=(Zi hd).1;unfold rA;rw [(Pm h).1,Pk h];simp only [cond_false,List.drop_succ_cons,List.drop_zero];rw [show [45].isPrefixOf (45::d::r)=true by simp [List.isPrefixOf],show [45,93].isPrefixOf (45::d::r)=false by simp [List.isPrefixOf,Ne.symm h93]];rw [Pk hd];simp [Nat.not_lt.2 hcd]
theorem range_one {c:UInt8}{j:Nat}:bA c.toNat c.toNat j=decide (j=c.toNat):=by
 unfold bA;rw [Bool.eq_iff_iff];simp;omega
def t5 (r:List UInt8):List UInt8:=93 :: r
def t4 (p:Nat->Bool) (r:List UInt8):List UInt8:=(bif p 45 then [45] else [])++t5 r
def t3 (p:Nat->Bool) (r:List UInt8):List UInt8:=(bif p 94 then [94] else [])++t4 p r
def t2 (p:Nat->Bool) (r:List UInt8):List UInt8:=(bif p 92 then [92] else [])++t3 p r
def t1 (p:Nat->Bool) (r:List UInt8):List UInt8:=(bif p 91 then [91] else [])++t2 p r
def t0 (p:Nat->Bool) (r:List UInt8):List UInt8:=(bif p 10 then [92,110] else [])++t1 p r
theorem yDj (p:Nat->Bool) (r:List UInt8):Aj p++r=t0 p r:=by
 simp only [Aj,t0,t1,t2,t3,t4,t5,List.append_assoc,List.singleton_append]
theorem nd4 {p:Nat->Bool}{r:List UInt8}:ND (t4 p r)=true:=by
 unfold t4 t5;cases p 45<;>rfl
theorem nd3 {p:Nat->Bool}{r:List UInt8}:ND (t3 p r)=true:=by
 unfold t3;cases p 94
 ·exact nd4
 ·exact Ms (by decide)
theorem nd2 {p:Nat->Bool}{r:List UInt8}:ND (t2 p r)=true:=by
 unfold t2;cases p 92
 ·exact nd3
 ·exact Ms (by decide)
theorem nd1 {p:Nat->Bool}{r:List UInt8}:ND (t1 p r)=true:=by
 unfold t1;cases p 91
 ·exact nd2
 ·exact Ms (by decide)
theorem nd0 {p:Nat->Bool}{r:List UInt8}:ND (t0 p r)=true:=by
 unfold t0;cases p 10
 ·exact nd1
 ·exact Ms (by decide)
theorem yHn {p:Nat->Bool}{r:List UInt8}:∃ c s,t4 p r=c::s∧(c=45∨c=93):=by
 unfold t4 t5;cases p 45<;>exact ⟨_,_,rfl,by simp⟩
theorem yBo {p:Nat->Bool}{r:List UInt8}:∃ c s,t3 p r=c::s∧(c=94∨c=45∨c=93):=by
 unfold t3;cases p 94
 ·obtain ⟨c,s,h,hc⟩:=@yHn p r;exact ⟨c,s,h,Or.inr hc⟩
 ·exact ⟨_,_,rfl,Or.inl rfl⟩
theorem yHo {p:Nat->Bool}{r:List UInt8}:∃ c s,t2 p r=c::s∧(c=92∨c=94∨c=45∨c=93):=by
 unfold t2;cases p 92
 ·obtain ⟨c,s,h,hc⟩:=@yBo p r;exact ⟨c,s,h,Or.inr hc⟩
 ·exact ⟨_,_,rfl,Or.inl rfl⟩
theorem bk4 {first:Bool}{acc p:Nat->Bool}{r:List UInt8}(hf:first=true->p 45=true):BK first acc (t4 p r) (fun j=>p j&&decide (j=45)) ((t4 p r).length-r.length):=by
 unfold t4;cases h:p 45
 ·have hff:first=false:=by cases first;rfl;exact absurd (hf rfl) (by simp [h])
  subst hff;obtain ⟨x,h1,h2⟩:=BK.end (acc:=acc) (r:=r);refine ⟨x,?_,fun j hj=>?_⟩
  ·intro f hf;have:=h1 f hf;simpa [t5] using this
  ·rw [h2 j hj];by_cases hj2:j=45
   ·subst hj2;simp [h]
   ·simp [hj2]
 ·have hp:rA first (45::t5 r)=some (bA 45 45,1):=by
   refine wB (a:=45) (may:=true) rfl ?_ rfl;unfold qZ;cases first<;>rfl
  have:=BK.step (first:=first) (acc:=acc) (T:=fun j=>p j&&decide (j=45)) (by rfl) hp (r':=t5 r) rfl BK.end (fun j hj=>by
   show _=(bA 45 45 j||false);have e:=@range_one 45 j;rw [show (45:UInt8).toNat=45 from rfl] at e;rw [e];by_cases hj2:j=45
   ·subst hj2;simp [h]
   ·simp [hj2])
  have hlen:(([45]++t5 r).length-r.length)=1+1:=by simp [t5];omega
  simp only [cond_true,hlen];exact this
theorem zCm {first:Bool}{acc p S:Nat->Bool}{c:UInt8}{r r' w:List UInt8}{k:Nat}(hw:w.length=k∧(w++r').drop k=r')
  (hpart:∀ first,rA first (w++r')=some (bA c.toNat c.toNat,k)) (h93:[93].isPrefixOf (w++r')=false)
  (hsub:∀ (first:Bool) (acc:Nat->Bool),(first=true->p c.toNat=false->False∨True)->True)
  (hf:BK false (fun j=>acc j||bA c.toNat c.toNat j) r' S (r'.length-r.length)) (ht:BK first acc r' S (r'.length-r.length)∨p c.toNat=true) (hrl:r.length<=r'.length) :
  BK first acc ((bif p c.toNat then w else [])++r') (fun j=>(p j&&decide (j=c.toNat))||S j) (((bif p c.toNat then w else [])++r').length-r.length):=by
 cases h:p c.toNat
 ·rcases ht with ht|ht
  ·obtain ⟨x,h1,h2⟩:=ht;refine ⟨x,fun f hf=>h1 f hf,fun j hj=>?_⟩;rw [h2 j hj];by_cases hj2:j=c.toNat
   ·subst hj2;simp [h]
   ·simp [hj2]
  ·rw [h] at ht;simp at ht
 ·simp only [cond_true];have:=BK.step (first:=first) (acc:=acc) (T:=fun j=>(p j&&decide (j=c.toNat))||S j) (by rw [h93];rfl) (hpart first) hw.2 hf (fun j hj=>by
   rw [range_one];by_cases hj2:j=c.toNat
   ·subst hj2;simp [h]
   ·simp [hj2])
  rw [List.length_append,hw.1,show k+r'.length-r.length=k+(r'.length-r.length) by omega];exact this
theorem yGm {p:Nat->Bool}{r:List UInt8}:r.length<=(t4 p r).length:=by unfold t4 t5;simp;omega
theorem yGn {p:Nat->Bool}{r:List UInt8}:r.length<=(t3 p r).length:=by unfold t3;have:=@yGm p r;simp;omega
theorem len2 {p:Nat->Bool}{r:List UInt8}:r.length<=(t2 p r).length:=by unfold t2;have:=@yGn p r;simp;omega
theorem len1 {p:Nat->Bool}{r:List UInt8}:r.length<=(t1 p r).length:=by unfold t1;have:=@len2 p r;simp;omega
theorem zXh {p:Nat->Bool}{r:List UInt8}:r.length<=(t0 p r).length:=by unfold t0;have:=@len1 p r;simp;omega
theorem bk3 {first:Bool}{acc p:Nat->Bool}{r:List UInt8}(hf:first=true->p 94=true∨p 45=true):BK first acc (t3 p r) (fun j=>(p j&&decide (j=94))||(p j&&decide (j=45))) ((t3 p r).length-r.length):=by
 refine zCm (c:=94) (w:=[94]) (k:=1) ⟨rfl,rfl⟩ (fun first=>wB (may:=true) rfl (by cases first<;>rfl) nd4) rfl (fun _ _ _=>trivial) (bk4 (by simp)) ?_ yGm;cases h:p 94
 ·left;exact bk4 (fun hh=>by rcases hf hh with h2|h2;rw [h] at h2;simp at h2;exact h2)
 ·right;exact h
theorem bk2 {first:Bool}{acc p:Nat->Bool}{r:List UInt8}(hf:first=true->p 92=true∨p 94=true∨p 45=true):BK first acc (t2 p r) (fun j=>(p j&&decide (j=92))||((p j&&decide (j=94))||(p j&&decide (j=45)))) ((t2 p r).length-r.length):=by
 have hn:[92,110].isPrefixOf (92::t3 p r)=false:=by
  obtain ⟨c,s,h,hc⟩:=@yBo p r;rw [h];rcases hc with rfl|rfl|rfl<;>rfl
 refine zCm (c:=92) (w:=[92]) (k:=1) ⟨rfl,rfl⟩ (fun first=>wB (may:=true) rfl (by
  unfold qZ;rw [show ([92]++t3 p r)=92::t3 p r from rfl,hn];cases first<;>rfl) nd3) rfl (fun _ _ _=>trivial) (bk3 (by simp)) ?_ yGn
 cases h:p 92
 ·left;exact bk3 (fun hh=>by rcases hf hh with h2|h2;rw [h] at h2;simp at h2;exact h2)
 ·right;exact h
theorem bk1 {first:Bool}{acc p:Nat->Bool}{r:List UInt8}(hf:first=true->p 91=true∨p 92=true∨p 94=true∨p 45=true):BK first acc (t1 p r) (fun j=>(p j&&decide (j=91))||((p j&&decide (j=92))||((p j&&decide (j=94))||(p j&&decide (j=45))))) ((t1 p r).length-r.length):=by
 have hn:∀ a:UInt8,a=46∨a=61∨a=58->[91,a].isPrefixOf (91::t2 p r)=false:=by
  intro a ha;obtain ⟨c,s,h,hc⟩:=@yHo p r;rw [h];rcases ha with rfl|rfl|rfl<;>rcases hc with rfl|rfl|rfl|rfl<;>rfl
 refine zCm (c:=91) (w:=[91]) (k:=1) ⟨rfl,rfl⟩ (fun first=>wB (may:=true) (hn 58 (by simp)) (by
  unfold qZ;rw [show ([91]++t2 p r)=91::t2 p r from rfl,hn 46 (by simp),hn 61 (by simp),hn 58 (by simp)];cases first<;>rfl) nd2) rfl (fun _ _ _=>trivial) (bk2 (by simp)) ?_ len2
 cases h:p 91
 ·left;exact bk2 (fun hh=>by rcases hf hh with h2|h2;rw [h] at h2;simp at h2;exact h2)
 ·right;exact h
def Al (p:Nat->Bool):Nat->Bool:=fun j=>(p j&&decide (j = 10))||((p j&&decide (j = 91))||((p j&&decide (j = 92))||((p j&&decide (j = 94))||(p j&&decide (j = 45)))))
theorem bk0 {first:Bool}{acc p:Nat->Bool}{r:List UInt8}(hf:first=true->p 10=true∨p 91=true∨p 92=true∨p 94=true∨p 45=true):BK first acc (t0 p r) (Al p) ((t0 p r).length-r.length):=by
 refine zCm (c:=10) (w:=[92,110]) (k:=2) ⟨rfl,rfl⟩ (fun first=>wB (may:=true) rfl (by cases first<;>rfl) nd1) rfl (fun _ _ _=>trivial) (bk1 (by simp)) ?_ len1;cases h:p 10
 ·left;exact bk1 (fun hh=>by rcases hf hh with h2|h2;rw [h] at h2;simp at h2;exact h2)
 ·right;exact h
theorem Db {p:Nat->Bool}{i:Nat}(h:bH p i=true):gG.contains (UInt8.ofNat i)=false:=by
 unfold bH at h;simp only [aD,Bool.not_eq_true'] at h;exact h.2
theorem zEr {p:Nat->Bool}{r:List UInt8}(hr:ND r=true):∀ (f i:Nat),ND (eU (bH p) f i++r)=true
 | 0,i=>hr
 | f+1,i=>by
  unfold eU;split
  ·cases hq:bH p i
   ·exact zEr hr f (i+1)
   ·have h2:=Db hq;have h45:UInt8.ofNat i≠45:=(Zi h2).2.2.2.2.1;simp only [cond_true];cases decide (i+2<=wP (bH p) 256 i)<;>exact Ms h45
  ·exact hr
theorem yDk {p S:Nat->Bool}{T r:List UInt8}(hT:ND T=true) (hrl:r.length<=T.length) (hS:∀ (first:Bool) (acc:Nat->Bool),(first=true->∃ j,j<256∧S j=true)->BK first acc T S (T.length-r.length)) :
  ∀ (d i f:Nat) (first:Bool) (acc:Nat->Bool),256-i<=d->256-i<f->(first=true->(∃ j,j<256∧S j=true)∨∃ j,i<=j∧j<256∧bH p j=true) ->
   BK first acc (eU (bH p) f i++T) (fun j=>(bH p j&&decide (i<=j))||S j) ((eU (bH p) f i++T).length-r.length):=by
 intro d;induction d with
 | zero =>
  intro i f first acc h1 h2 hf
  obtain ⟨f,rfl⟩:∃ k,f=k+1:=⟨f-1,by omega⟩;rw [eU,if_neg (by omega),List.nil_append];obtain ⟨x,k1,k2⟩:=hS first acc (fun hh=>by rcases hf hh with h|⟨j,a,b,_⟩;exact h;omega)
  exact ⟨x,k1,fun j hj=>by show x j=(acc j||((bH p j&&decide (i<=j))||S j));rw [k2 j hj,decide_eq_false (show ¬ i<=j by omega)];simp⟩
 | succ d ih =>
  intro i f first acc h1 h2 hf
  obtain ⟨f,rfl⟩:∃ k,f=k+1:=⟨f-1,by omega⟩;by_cases hi:i<256
  case neg =>
   rw [eU,if_neg hi,List.nil_append];obtain ⟨x,k1,k2⟩:=hS first acc (fun hh=>by rcases hf hh with h|⟨j,a,b,_⟩;exact h;omega)
   exact ⟨x,k1,fun j hj=>by show x j=(acc j||((bH p j&&decide (i<=j))||S j));rw [k2 j hj,decide_eq_false (show ¬ i<=j by omega)];simp⟩
  rw [eU,if_pos hi];cases hq:bH p i
  ·simp only [cond_false];obtain ⟨x,k1,k2⟩:=ih (i+1) f first acc (by omega) (by omega) (fun hh=>by
    rcases hf hh with h|⟨j,a,b,c⟩
    ·exact Or.inl h
    ·right;refine ⟨j,?_,b,c⟩;have:j≠i:=fun e=>by rw [e,hq] at c;simp at c
     omega)
   refine ⟨x,k1,fun j hj=>?_⟩;rw [k2 j hj];show (acc j||((bH p j&&decide (i+1<=j))||S j))=(acc j||((bH p j&&decide (i<=j))||S j));by_cases hj2:j=i
   ·subst hj2;simp [hq]
   ·rw [show decide (i+1<=j)=decide (i<=j) from decide_eq_decide.2 (by omega)]
  ·simp only [cond_true];have hap:=Db hq;have hti:(UInt8.ofNat i).toNat=i:=by rw [UInt8.toNat_ofNat'];omega
   obtain ⟨a1,a2,a3,a4⟩:=Uh (bH p) 256 i hi (by omega);generalize hk:wP (bH p) 256 i=k at *;have htk:(UInt8.ofNat k).toNat=k:=by rw [UInt8.toNat_ofNat'];omega
   by_cases h3:i+2<=k
   ·rw [decide_eq_true h3];simp only [cond_true];have hpk:bH p k=true:=a3 k (by omega) (aQ _);have:=BK.step (first:=first) (acc:=acc) (r:=[UInt8.ofNat i,45,UInt8.ofNat k]++eU (bH p) f (k+1)++T) (r':=eU (bH p) f (k+1)++T) (T:=fun j=>(bH p j&&decide (i<=j))||S j) (by
     show ([93].isPrefixOf (UInt8.ofNat i::_)&&!first)=false;rw [(Pm hap).2];rfl) (zTr hap (Db hpk) (by rw [hti,htk];omega)) rfl (ih (k+1) f false _ (by omega) (by omega) (by simp)) (fun j hj=>by
     rw [hti,htk];unfold bA;by_cases b1:i<=j
     ·by_cases b2:j<=k
      ·have hpj:bH p j=true:=by
        by_cases b3:j=i
        ·rw [b3];exact hq
        ·exact a3 j (by omega) b2
       simp [b1,b2,hpj]
      ·rw [show decide (k+1<=j)=true from decide_eq_true (by omega)];simp [b1,b2]
     ·rw [show decide (k+1<=j)=false from decide_eq_false (by omega)];simp [b1])
    have hl:([UInt8.ofNat i,45,UInt8.ofNat k]++eU (bH p) f (k+1)++T).length-r.length=3+((eU (bH p) f (k+1)++T).length-r.length):=by
     simp only [List.length_append,List.length_cons,List.length_nil];omega
    rw [hl];exact this
   ·rw [decide_eq_false h3];simp only [cond_false];have:=BK.step (first:=first) (acc:=acc) (r:=[UInt8.ofNat i]++eU (bH p) f (i+1)++T) (r':=eU (bH p) f (i+1)++T) (T:=fun j=>(bH p j&&decide (i<=j))||S j) (by
     show ([93].isPrefixOf (UInt8.ofNat i::_)&&!first)=false;rw [(Pm hap).2];rfl) (zTq hap (zEr hT f (i+1))) rfl (ih (i+1) f false _ (by omega) (by omega) (by simp)) (fun j hj=>by
     rw [hti];unfold bA;by_cases b1:j=i
     ·subst b1;simp [hq]
     ·rw [show decide (i+1<=j)=decide (i<=j) from decide_eq_decide.2 (by omega)];have:(decide (i<=j)&&decide (j<=i))=false:=by simp;omega
      rw [this];simp)
    have hl:([UInt8.ofNat i]++eU (bH p) f (i+1)++T).length-r.length=1+((eU (bH p) f (i+1)++T).length-r.length):=by
     simp only [List.length_append,List.length_cons,List.length_nil];omega
    rw [hl];exact this
end Go.Dec
namespace Go.Dec
theorem rQ {p q:Nat->Bool}(h:∀ i,i<256->p i=q i):bB p=bB q:=by
 unfold bB;rw [List.filter_congr (fun x hx=>h x (by simpa using hx))]
theorem Uk {p:Nat->Bool}(h:2<=(bB p).length) (c:Nat):∃ j,j<256∧j≠c∧p j=true:=by
 unfold bB at h;rw [List.length_map] at h;have hpw:((List.range 256).filter p).Pairwise (· < ·):=List.pairwise_lt_range.filter p;have hm:∀ x∈(List.range 256).filter p,x<256∧p x=true:=fun x hx=>by simpa using hx
 match hl:(List.range 256).filter p,h with
 | a::b::l,_ =>
  rw [hl] at hpw hm;have hab:a<b:=(List.pairwise_cons.1 hpw).1 b (by simp);have ha:=hm a (by simp);have hb:=hm b (by simp);by_cases e:a=c
  ·exact ⟨b,hb.1,by omega,hb.2⟩
  ·exact ⟨a,ha.1,e,ha.2⟩
theorem zCn {p:Nat->Bool}:gZ p=true<->∀ i,i<256->p i=false:=by
 unfold gZ;simp
theorem Ul {j:Nat}(hj:j<256):gG.contains (UInt8.ofNat j)=(decide (j=93)||(decide (j=91)||(decide (j=92)||(decide (j=94)||(decide (j=45)||decide (j=10)))))):=by
 have:((List.range 256).all fun j=>gG.contains (UInt8.ofNat j)==(decide (j=93)||(decide (j=91)||(decide (j=92)||(decide (j=94)||(decide (j=45)||decide (j=10)))))))=true:=by decide +kernel
 have:=nK this hj;simpa using this
theorem zPs {p:Nat->Bool}{T:List UInt8}:∀ (f i:Nat),256-i<f->([94].isPrefixOf T=false∨∃ j,i<=j∧j<256∧bH p j=true)->[94].isPrefixOf (eU (bH p) f i++T)=false
 | 0,i,h,_=>by omega
 | f+1,i,h,hh=>by
  unfold eU;split
  ·cases hq:bH p i
   ·refine zPs f (i+1) (by omega) ?_;rcases hh with hh|⟨j,h1,h2,h3⟩
    ·exact Or.inl hh
    ·right;refine ⟨j,?_,h2,h3⟩;have:j≠i:=fun e=>by rw [e,hq] at h3;simp at h3
     omega
   ·have h2:=Db hq;have h94:UInt8.ofNat i≠94:=(Zi h2).2.2.2.1;have:∀ w,[94].isPrefixOf (UInt8.ofNat i::w)=false:=fun w=>by simp [List.isPrefixOf,Ne.symm h94]
    simp only [cond_true];cases decide (i+2<=wP (bH p) 256 i)<;>exact this _
  ·rcases hh with hh|⟨j,h1,h2,h3⟩
   ·exact hh
   ·omega
theorem zWw {p x:Nat->Bool}(hx:∀ j,j<256->x j=((p j&&decide (j=93))||((bH p j&&decide (0<=j))||Al p j))) {j:Nat}(hj:j<256):x j=p j:=by
 rw [hx j hj];simp only [bH,Al,Ul hj,decide_eq_true (Nat.zero_le j),Bool.and_true];cases p j
 ·simp
 ·simp only [Bool.true_and];cases decide (j=93)<;>cases decide (j=91)<;>cases decide (j=92)<;>cases decide (j=94)<;>cases decide (j=45)<;>cases decide (j=10)<;>rfl
theorem zMx {C rest w:List UInt8}{p S:Nat->Bool}(hC:BK true (fun _=>false) C S (C.length-rest.length)) (hS:∀ x:Nat->Bool,(∀ j,j<256->x j=S j)->∀ j,j<256->x j=p j)
  (hno:[94].isPrefixOf C=false) (he:gZ p=false) (hw:w++rest=91::C) (hl:rest.length<=C.length):∃ x,wO (w++rest)=some (x,w.length)∧∀ j,j<256->x j=p j:=by
 obtain ⟨x,h1,h2⟩:=hC;have hx:=hS x (fun j hj=>by rw [h2 j hj];rfl);refine ⟨x,?_,hx⟩;rw [hw];unfold wO;rw [show [91].isPrefixOf (91::C)=true from rfl];simp only [cond_true,List.drop_succ_cons,List.drop_zero,hno,cond_false];rw [h1 _ (by rw [List.length_cons];omega)];simp only;have hxe:gZ x=false:=by
  rw [Bool.eq_false_iff,ne_eq,zCn] at he ⊢;intro h;exact he fun i hi=>by rw [<- hx i hi];exact h i hi
 rw [hxe];have:=congrArg List.length hw;simp only [List.length_append,List.length_cons] at this;simp only [cond_false,aA,aB,true_and];omega
theorem yAl {p:Nat->Bool}{rest:List UInt8}(h2:2<=(bB p).length) (hn:bB p≠[45,94]):∃ x,wO (Da p++rest)=some (x,(Da p).length)∧∀ j,j<256->x j=p j:=by
 obtain ⟨j0,j1,j2,j3⟩:=Uk h2 93;have hT:ND (t0 p rest)=true:=nd0;have hS:∀ (first:Bool) (acc:Nat->Bool),(first=true->∃ j,j<256∧Al p j=true)->BK first acc (t0 p rest) (Al p) ((t0 p rest).length-rest.length):=by
  intro first acc h
  refine bk0 fun hf=>?_
  obtain ⟨j,_,hj⟩:=h hf;simp only [Al,Bool.or_eq_true,aD,decide_eq_true_eq] at hj;rcases hj with ⟨a,rfl⟩|⟨a,rfl⟩|⟨a,rfl⟩|⟨a,rfl⟩|⟨a,rfl⟩
  ·exact Or.inl a
  ·exact Or.inr (Or.inl a)
  ·exact Or.inr (Or.inr (Or.inl a))
  ·exact Or.inr (Or.inr (Or.inr (Or.inl a)))
  ·exact Or.inr (Or.inr (Or.inr (Or.inr a)))
 have hsc:=fun first acc=>yDk (p:=p) hT zXh hS 256 0 257 first acc (by omega) (by omega)
 have hcase:(∃ j,j<256∧Al p j=true)∨∃ j,0<=j∧j<256∧bH p j=true:=by
  by_cases hap:gG.contains (UInt8.ofNat j0)=true
  ·left;refine ⟨j0,j1,?_⟩;rw [Ul j1] at hap;simp only [Bool.or_eq_true,decide_eq_true_eq] at hap;simp only [Al,j3,Bool.true_and,Bool.or_eq_true,decide_eq_true_eq];omega
  ·right;exact ⟨j0,Nat.zero_le _,j1,by unfold bH;rw [j3,Bool.true_and];simpa using hap⟩
 have e:Da p++rest=91::((bif p 93 then [93] else [])++(eU (bH p) 257 0++t0 p rest)):=by
  simp only [Da,zIi,List.append_assoc,yDj,List.singleton_append,List.cons_append,List.nil_append]
 have hlen:rest.length<=(eU (bH p) 257 0++t0 p rest).length:=by rw [List.length_append];have:=@zXh p rest;omega
 have hemp:gZ p=false:=Oq j1 j3;cases h93:p 93
 ·rw [h93] at e;refine zMx (p:=p) (hsc true _ (fun _=>hcase)) (fun x hx j hj=>zWw (fun j hj=>?_) hj) ?_ hemp e hlen
  ·rw [hx j hj];by_cases e2:j=93
   ·subst e2;rw [h93];simp
   ·rw [decide_eq_false e2,Bool.and_false,Bool.false_or]
  ·refine zPs 257 0 (by omega) ?_;by_cases hpl:∃ j,0<=j∧j<256∧bH p j=true
   ·exact Or.inr hpl
   ·left;unfold t0 t1 t2 t3;cases h10:p 10<;>simp only [cond_true,cond_false,List.nil_append]<;>try rfl
    cases h91:p 91<;>simp only [cond_true,cond_false,List.nil_append]<;>try rfl
    cases h92:p 92<;>simp only [cond_true,cond_false,List.nil_append]<;>try rfl
    have hall:∀ j,j<256->p j=true->j=94∨j=45:=by
     intro j hj hp;have:¬ gG.contains (UInt8.ofNat j)=false:=fun h=>hpl ⟨j,Nat.zero_le _,hj,by unfold bH;rw [hp,h];rfl⟩
     rw [Bool.not_eq_false,Ul hj] at this;simp only [Bool.or_eq_true,decide_eq_true_eq] at this;rcases this with rfl|rfl|rfl|rfl|rfl|rfl
     ·rw [h93] at hp;simp at hp
     ·rw [h91] at hp;simp at hp
     ·rw [h92] at hp;simp at hp
     ·exact Or.inl rfl
     ·exact Or.inr rfl
     ·rw [h10] at hp;simp at hp
    obtain ⟨a,a1,a2,a3⟩:=Uk h2 45;obtain ⟨b,b1,b2,b3⟩:=Uk h2 94;have ha:=hall a a1 a3;have hb:=hall b b1 b3;have ha:a=94:=by omega
    have hb:b=45:=by omega
    subst ha hb;exfalso;apply hn;rw [rQ (q:=fun j=>decide (j=94)||decide (j=45)) (fun j hj=>by
     rw [Bool.eq_iff_iff];simp only [Bool.or_eq_true,decide_eq_true_eq];exact ⟨hall j hj,fun h=>by rcases h with rfl|rfl;exact a3;exact b3⟩)]
    decide +kernel
 ·rw [h93] at e;simp only [cond_true] at e;have hb:=BK.step (first:=true) (acc:=fun _=>false) (p:=bA 93 93) (k1:=1) (r:=[93]++(eU (bH p) 257 0++t0 p rest)) (T:=fun j=>(p j&&decide (j=93))||((bH p j&&decide (0<=j))||Al p j)) (by simp)
   (wB (a:=93) (may:=true) rfl rfl (by show ND (eU (bH p) 257 0++t0 p rest)=true;exact zEr hT 257 0)) rfl (hsc false _ (by simp)) (fun j hj=>by
    have e:=@range_one 93 j;rw [show (93:UInt8).toNat=93 from rfl] at e;rw [e];by_cases e2:j=93
    ·subst e2;rw [h93];rfl
    ·rw [decide_eq_false e2,Bool.and_false])
  have hk:([93]++(eU (bH p) 257 0++t0 p rest)).length-rest.length=1+((eU (bH p) 257 0++t0 p rest).length-rest.length):=by
   rw [List.length_append,List.length_singleton];omega
  rw [<- hk] at hb;exact zMx (p:=p) hb (fun x hx j hj=>zWw hx hj) rfl hemp e (by rw [List.length_append,List.length_singleton];omega)
theorem yGo {p:Nat->Bool}{rest:List UInt8}(hp:bB p=[45,94]):∃ x,wO ([91,45,94,93]++rest)=some (x,4)∧∀ j,j<256->x j=p j:=by
 have hpj:∀ j,j<256->p j=(decide (j=45)||decide (j=94)):=by
  intro j hj;have h:=qJ (p:=p) hj;have hq:=qJ (p:=fun j=>decide (j=45)||decide (j=94)) hj;rw [show bB (fun j=>decide (j=45)||decide (j=94))=[45,94] by decide +kernel,<- hp] at hq;rw [Bool.eq_iff_iff,h,<- hq]
 have h1:BK false (fun j=>(false||bA 45 45 j)) (94::93::rest) (bA 94 94) (1+1) :=
  BK.step (p:=bA 94 94) (r':=93::rest) rfl (wB (a:=94) (may:=true) rfl rfl rfl) rfl BK.end (fun j _=>by simp)
 have h2:BK true (fun _=>false) (45::94::93::rest) (fun j=>bA 45 45 j||bA 94 94 j) (1+(1+1)) :=
  BK.step (p:=bA 45 45) (r':=94::93::rest) rfl (wB (a:=45) (may:=true) rfl rfl rfl) rfl h1 (fun j _=>rfl)
 have hk:(45::94::93::rest).length-rest.length=1+(1+1):=by simp only [List.length_cons];omega
 rw [<- hk] at h2;refine zMx (p:=p) (w:=[91,45,94,93]) h2 (fun x hx j hj=>?_) rfl (Oq (i:=45) (by omega) (by rw [hpj 45 (by omega)];rfl)) rfl (by simp only [List.length_cons];omega);have e1:=@range_one 45 j;have e2:=@range_one 94 j;rw [show (45:UInt8).toNat=45 from rfl] at e1;rw [show (94:UInt8).toNat=94 from rfl] at e2;rw [hx j hj,e1,e2,hpj j hj]
theorem zTs {p:Nat->Bool}(h:(bB p).length=256) {j:Nat}(hj:j<256):p j=true:=by
 unfold bB at h;rw [List.length_map] at h;have:=List.length_filter_eq_length_iff.1 (show ((List.range 256).filter p).length=(List.range 256).length by rw [h,List.length_range]);exact this j (by simpa using hj)
def HB (s:List UInt8):Prop := ∀ y,yCx (s++y) = false ∧ [36].isPrefixOf (s++y) = false ∧ [94].isPrefixOf (s++y) = false ∧ [42].isPrefixOf (s++y) = false ∧ [92,123].isPrefixOf (s++y) = false
theorem HB.app {s w:List UInt8}(h:HB s):HB (s++w):=fun y=>by rw [List.append_assoc];exact h _
theorem show_cases {p:Nat->Bool}(he:gZ p=false):(∃ c,pG p=Pf c∧∀ j,j<256->p j=oO c j)∨(pG p=[46]∧∀ j,j<256->p j=true)∨(pG p).head?=some 91∧∀ rest,∃ x,wO (pG p++rest)=some (x,(pG p).length)∧∀ j,j<256->x j=p j:=by
 have hmem:=fun {j}(hj:j<256)=>qJ (p:=p) hj
 match hb:bB p with
 | [] =>
  rw [Bool.eq_false_iff,ne_eq,zCn] at he;exact absurd (fun i hi=>by
   have:=hmem hi;rw [hb] at this;simpa using this) he
 | [c] =>
  left;refine ⟨c,by unfold pG;rw [hb],fun j hj=>?_⟩;have:=hmem hj;rw [hb,List.mem_singleton] at this;rw [Bool.eq_iff_iff,this];simp only [oO,decide_eq_true_eq];rw [<- UInt8.toNat_inj,UInt8.toNat_ofNat'];omega
 | c::d::l =>
  right;have e:pG p=bif (c::d::l).length==256 then [46] else bif (c::d::l)==[45,94] then [91,45,94,93] else Da p:=by
   unfold pG;rw [hb]
  rw [<- hb] at e;rw [e];cases h:(bB p).length==256
  ·right;simp only [cond_false];cases h2:bB p==[45,94]
   ·simp only [cond_false];refine ⟨rfl,fun rest=>yAl (by rw [hb];simp) (by intro h3;rw [h3] at h2;simp at h2)⟩
   ·simp only [cond_true];exact ⟨rfl,fun rest=>yGo (by simpa using h2)⟩
  ·left;exact ⟨rfl,fun j hj=>zTs (by simpa using h) hj⟩
section
variable {row:List UInt8->Nat->List Bool->Res (Option Pt)}{first:Bool}{b:Nat}{en:List Bool}
end
end Go.Dec
namespace Go.Dec
theorem yAm:((List.range 256).all fun k=>decide ((bX (k:Int)).length<=3)&&decide (1<=(bX (k:Int)).length))=true:=by decide +kernel
theorem zGs {c:UInt8}{r:List UInt8}(hc:isDigit c=false):∀ (m:Nat) (w:List UInt8),w.all isDigit=true->w.length<=m->lT m (w++c::r)=w.length
 | 0,[],_,_=>rfl
 | m+1,[],_,_=>by show (bif isDigit c then lT m r+1 else 0)=0;rw [hc];rfl
 | 0,d::w,_,h=>by simp at h
 | m+1,d::w,h,h2=>by
  simp only [List.all_cons,aD] at h;show (bif isDigit d then lT m (w++c::r)+1 else 0)=_;rw [h.1,zGs hc m w h.2 (by simpa using h2)];rfl
theorem Pn {k:Nat}(hk:k<256) {c:UInt8}{r:List UInt8}(hc:isDigit c=false):vB (bX (k:Int)++c::r)=(some k,c::r):=by
 have ht:=nK yAm hk;simp only [aD,decide_eq_true_eq] at ht;obtain ⟨v1,v2⟩:=Ch (k:=k) (by omega);have hd:=zGs (r:=r) hc 3 _ v2 ht.1;unfold vB;simp only;rw [hd,beq_false_of_ne (by omega)];rw [List.take_left,List.drop_left,v1];rfl
theorem yAn {c:UInt8}{r:List UInt8}(hc:isDigit c=false):vB (c::r)=(none,c::r):=by
 have:lT 3 (c::r)=0:=by show (bif isDigit c then lT 2 r+1 else 0)=0;rw [hc];rfl
 unfold vB;simp only;rw [this];rfl
def flat (ts:List Pt):List UInt8:=ts.flatMap Ui
def shL:List Pt->List Pt->Prop | [],[]=>True | a :: s,b :: t=>gU a b ∧ shL s t | _,_=>False
end Go.Dec
namespace Go.Dec
def nM:Pt->List Pt | .cat a b=>a :: nM b | t=>[t]
def jP:Pt->List (List Pt) | .alt a b=>nM a :: jP b | t=>[nM t]
theorem zGt:∀ t,∃ u us,nM t=u::us
 | .cat a b=>⟨_,_,rfl⟩
 | .empty|.bol|.eol|.bytes _|.alt _ _|.times _ _ _|.group _ _|.ref _=>⟨_,_,rfl⟩
theorem Zj:∀ t,∃ u us,jP t=u::us
 | .alt a b=>⟨_,_,rfl⟩
 | .empty|.bol|.eol|.bytes _|.cat _ _|.times _ _ _|.group _ _|.ref _=>⟨_,_,rfl⟩
theorem Po:∀ t,fV (nM t)=t
 | .cat a b=>by
  have ih:=Po b;obtain ⟨u,us,h⟩:=zGt b;simp only [nM,fV] at ih ⊢;rw [h] at ih ⊢;simp only [mE];rw [ih]
 | .empty|.bol|.eol|.bytes _|.alt _ _|.times _ _ _|.group _ _|.ref _=>rfl
theorem Kw:∀ t,dB (jP t)=t
 | .alt a b=>by
  have ih:=Kw b;obtain ⟨u,us,h⟩:=Zj b;simp only [jP,dB] at ih ⊢;rw [h] at ih ⊢;simp only [List.map_cons,mE] at ih ⊢;rw [ih,Po]
 | .cat a b=>Po (.cat a b)
 | .empty|.bol|.eol|.bytes _|.times _ _ _|.group _ _|.ref _=>rfl
theorem Pp:∀ t,bY t=true->jY t=true->jC t=true->t.kind≠5->∀ u∈nM t,xE u
 | .cat a b,h1,h2,h3,_=>by
  simp only [bY,jY,jC,aD,decide_eq_true_eq] at h1 h2 h3;intro u hu;rcases List.mem_cons.1 hu with rfl|hu
  ·exact ⟨h1.1,h2.1.1,h3.1,h2.2.1.1,h2.2.1.2⟩
  ·exact Pp b h1.2 h2.1.2 h3.2 h2.2.2 u hu
 | .empty,h1,h2,h3,h5|.bol,h1,h2,h3,h5|.eol,h1,h2,h3,h5|.bytes _,h1,h2,h3,h5|.times _ _ _,h1,h2,h3,h5|.group _ _,h1,h2,h3,h5|.ref _,h1,h2,h3,h5=>by
  intro u hu;simp only [nM,List.mem_singleton] at hu;subst hu;exact ⟨h1,h2,h3,by simp [Pt.kind],h5⟩
 | .alt a b,_,_,_,h5=>absurd rfl h5
theorem zMy:∀ t,bY t=true->jY t=true->jC t=true->∀ ts∈jP t,∀ u∈ts,xE u
 | .alt a b,h1,h2,h3=>by
  simp only [bY,jY,jC,aD,decide_eq_true_eq] at h1 h2 h3;intro ts hts;rcases List.mem_cons.1 hts with rfl|hts
  ·exact Pp a h1.1 h2.1.1 h3.1 h2.2
  ·exact zMy b h1.2 h2.1.2 h3.2 ts hts
 | .cat a b,h1,h2,h3=>by
  intro ts hts;simp only [jP,List.mem_singleton] at hts;subst hts;exact Pp (.cat a b) h1 h2 h3 (by simp [Pt.kind])
 | .empty,h1,h2,h3|.bol,h1,h2,h3|.eol,h1,h2,h3|.bytes _,h1,h2,h3|.times _ _ _,h1,h2,h3|.group _ _,h1,h2,h3|.ref _,h1,h2,h3=>by
  intro ts hts;simp only [jP,List.mem_singleton] at hts;subst hts;exact Pp _ h1 h2 h3 (by simp [Pt.kind])
def mF (ts:List Pt):List UInt8:=ts.flatMap bE
def Ef:List (List Pt)->List UInt8 | []=>[] | [ts]=>mF ts | ts :: us :: rs=>mF ts++124 :: Ef (us :: rs)
theorem Dc:∀ t,bE t=mF (nM t)
 | .cat a b=>by
  have ih:=Dc b;simp only [bE,nM,mF,List.flatMap_cons] at ih ⊢;rw [ih]
 | .empty|.bol|.eol|.bytes _|.alt _ _|.times _ _ _|.group _ _|.ref _=>by simp [nM,mF]
theorem Pq:∀ t,bE t=Ef (jP t)
 | .alt a b=>by
  have ih:=Pq b;obtain ⟨u,us,h⟩:=Zj b;simp only [jP];rw [h] at ih ⊢;simp only [Ef];rw [<- ih,<- Dc];simp [bE]
 | .cat a b=>Dc (.cat a b)
 | .empty|.bol|.eol|.bytes _|.times _ _ _|.group _ _|.ref _=>Dc _
def gN:Pt->Nat | .cat a b=>gN a+gN b | .alt a b=>gN a+gN b | .times a _ _=>gN a | .group a _=>gN a+1 | _=>0
def yF:Pt->Nat->Prop | .cat a b,k=>yF a k ∧ yF b (k+gN a) | .alt a b,k=>yF a k ∧ yF b (k+gN a) | .times a _ _,k=>yF a k | .group a m,k=>m = k+1 ∧ yF a (k+1) | .ref _,_=>False | _,_=>True
theorem yT:∀ (t:Pt) (w:W4),(aT t w).2.2.2=false->w.2.2.2=false
 | .cat a b,w,h=>yT a w (yT b _ h)
 | .alt a b,w,h=>yT a w (yT b _ h)
 | .times a _ _,w,h=>yT a w h
 | .group a m,w,h=>yT a (w.1+1,w.2.1&&decide (m=w.1+1),w.2.2.1,w.2.2.2) h
 | .ref m,w,h=>by simp [aT] at h
 | .empty,w,h|.bol,w,h|.eol,w,h|.bytes _,w,h=>h
theorem Ci:∀ (t:Pt) (k:Nat) (en:List Bool) (rf:Bool),(aT t (k,true,en,rf)).2.1=true->(aT t (k,true,en,rf)).2.2.2=false->yF t k∧(aT t (k,true,en,rf)).1=k+gN t
 | .cat a b,k,en,rf,h1,h2=>by
  simp only [aT] at h1 h2 ⊢;generalize hw:aT a (k,true,en,rf)=w at h1 h2;obtain ⟨k2,i2,en2,rf2⟩:=w;have hi:=(qK h1).1;have hr:=yT b _ h2;simp only at hi hr;subst hi hr;obtain ⟨g1,g2⟩:=Ci a k en rf (by rw [hw]) (by rw [hw]);rw [hw] at g2;simp only at g2;subst g2;obtain ⟨g3,g4⟩:=Ci b _ en2 false h1 h2;exact ⟨⟨g1,g3⟩,by rw [g4];simp only [gN];omega⟩
 | .alt a b,k,en,rf,h1,h2=>by
  simp only [aT] at h1 h2 ⊢;generalize hw:aT a (k,true,en,rf)=w at h1 h2;obtain ⟨k2,i2,en2,rf2⟩:=w;have hi:=(qK h1).1;have hr:=yT b _ h2;simp only at hi hr;subst hi hr;obtain ⟨g1,g2⟩:=Ci a k en rf (by rw [hw]) (by rw [hw]);rw [hw] at g2;simp only at g2;subst g2;obtain ⟨g3,g4⟩:=Ci b _ en2 false h1 h2;exact ⟨⟨g1,g3⟩,by rw [g4];simp only [gN];omega⟩
 | .times a _ _,k,en,rf,h1,h2=>Ci a k en rf h1 h2
 | .group a m,k,en,rf,h1,h2=>by
  simp only [aT,Bool.true_and] at h1 h2 ⊢;have hm:=(qK h1).1;rw [hm] at h1 h2 ⊢;obtain ⟨g1,g2⟩:=Ci a (k+1) en rf h1 h2;exact ⟨⟨of_decide_eq_true hm,g1⟩,by rw [g2];simp only [gN];omega⟩
 | .ref m,k,en,rf,h1,h2=>by simp [aT] at h2
 | .empty,k,en,rf,h1,h2|.bol,k,en,rf,h1,h2|.eol,k,en,rf,h1,h2|.bytes _,k,en,rf,h1,h2=>⟨trivial,rfl⟩
def gL (ts:List Pt):Nat:=(ts.map gN).sum
def zCo:List Pt->Nat->Prop | [],_=>True | t :: ts,k=>yF t k ∧ zCo ts (k+gN t)
def gLL (rs:List (List Pt)):Nat:=(rs.map gL).sum
def zCp:List (List Pt)->Nat->Prop | [],_=>True | ts :: rs,k=>zCo ts k ∧ zCp rs (k+gL ts)
theorem Js:∀ t k,yF t k->zCo (nM t) k∧gL (nM t)=gN t
 | .cat a b,k,h=>by
  obtain ⟨g1,g2⟩:=Js b _ h.2;refine ⟨⟨h.1,g1⟩,?_⟩;simp only [nM,gL,List.map_cons,List.sum_cons,gN] at g2 ⊢;rw [g2]
 | .empty,k,h|.bol,k,h|.eol,k,h|.bytes _,k,h|.alt _ _,k,h|.times _ _ _,k,h|.group _ _,k,h|.ref _,k,h=>⟨⟨h,trivial⟩,by simp [nM,gL]⟩
theorem zMz:∀ t k,yF t k->zCp (jP t) k∧gLL (jP t)=gN t
 | .alt a b,k,h=>by
  obtain ⟨g1,g2⟩:=zMz b _ h.2;obtain ⟨g3,g4⟩:=Js a k h.1;refine ⟨⟨g3,by rw [g4];exact g1⟩,?_⟩;simp only [jP,gLL,List.map_cons,List.sum_cons,gN] at g2 ⊢;rw [g2,g4]
 | .cat a b,k,h=>by
  obtain ⟨g1,g2⟩:=Js (.cat a b) k h;exact ⟨⟨g1,trivial⟩,by simp only [jP,gLL,List.map_cons,List.map_nil,List.sum_cons,List.sum_nil];omega⟩
 | .empty,k,h|.bol,k,h|.eol,k,h|.bytes _,k,h|.times _ _ _,k,h|.group _ _,k,h|.ref _,k,h=>by
  obtain ⟨g1,g2⟩:=Js _ k h;exact ⟨⟨g1,trivial⟩,by simp only [jP,gLL,List.map_cons,List.map_nil,List.sum_cons,List.sum_nil];omega⟩
def HE (s:List UInt8):Prop := ∀ y,nL (s++y) = false ∧ dY (s++y) = false
theorem Ir {c:UInt8}{s:List UInt8}(h1:c≠124) (h2:c≠41) (h3:c≠42) (h4:c≠43) (h5:c≠63) (h6:c≠123):HE (c::s):=fun y=>by
 simp [nL,dY,h1,h2,h3,h4,h5,h6]
theorem HE.app {s w:List UInt8}(h:HE s):HE (s++w):=fun y=>by rw [List.append_assoc];exact h _
theorem yGp {c:UInt8}(h:mP.contains c=false):c≠46∧c≠91∧c≠92∧c≠40∧c≠41∧c≠42∧c≠43∧c≠63∧c≠123∧c≠125∧c≠124∧c≠94∧c≠36:=by
 simpa [mP,List.contains_cons] using h
theorem yDl (c:UInt8):HE (Jr c):=by
 unfold Jr;cases c==10
 ·simp only [cond_false];cases h:mP.contains c
  ·have:=yGp h;exact Ir this.2.2.2.2.2.2.2.2.2.2.1 this.2.2.2.2.1 this.2.2.2.2.2.1 this.2.2.2.2.2.2.1 this.2.2.2.2.2.2.2.1 this.2.2.2.2.2.2.2.2.1
  ·exact Ir (by decide) (by decide) (by decide) (by decide) (by decide) (by decide)
 ·exact Ir (by decide) (by decide) (by decide) (by decide) (by decide) (by decide)
theorem zTt {rows:List UInt8->Nat->iA (List (List Pt))}{b:Nat}(c:UInt8) (y:List UInt8):qH rows (Jr c++y) b=.ok (.bytes (oO c)) y b:=by
 unfold Jr;by_cases h10:c=10
 ·subst h10;rfl
 ·rw [beq_false_of_ne h10];simp only [cond_false];cases h:mP.contains c
  ·obtain ⟨k46,k91,k92,k40,k41,k42,k43,k63,zMg,yKo,yKp,k94,k36⟩:=yGp h;simp only [cond_false,List.singleton_append];unfold qH;simp only [dY,beq_false_of_ne k46,beq_false_of_ne k91,beq_false_of_ne k92,beq_false_of_ne k40,beq_false_of_ne k42,beq_false_of_ne k43,beq_false_of_ne k63,beq_false_of_ne zMg,beq_false_of_ne k94,beq_false_of_ne k36,cond_false,Bool.or_false]
  ·simp only [cond_true,List.cons_append,List.nil_append];have h14:qG.contains c=true:=by
    unfold qG;rw [List.contains_eq_any_beq,List.any_append,<- List.contains_eq_any_beq,h];rfl
   have zMf:(c==110)=false:=by
    rw [beq_eq_false_iff_ne];rintro rfl;revert h;decide
   have e:qH rows (92::c::y) b=bif c==110 then .ok (.bytes (oO 10)) y b else bif qG.contains c then .ok (.bytes (oO c)) y b else bif decide (49<=c.toNat)&&decide (c.toNat<=57) then .er 44 (y.length+2) else .er 40 (y.length+2):=rfl
   rw [e,zMf,h14];rfl
theorem yAo:((List.range 256).all fun i=>bB (oO (UInt8.ofNat i))==[UInt8.ofNat i])=true:=by decide +kernel
theorem zTu (c:UInt8):bB (oO c)=[c]:=by
 have:=nK yAo c.toNat_lt
 rwa [Cx,beq_iff_eq] at this
theorem zOl {p:Nat->Bool}(he:gZ p=false):(∃ c,uI p=Jr c∧∀ j,j<256->p j=oO c j)∨(uI p=[46]∧∀ j,j<256->p j=true)∨(uI p).head?=some 91∧∀ rest,∃ x,wO (uI p++rest)=some (x,(uI p).length)∧∀ j,j<256->x j=p j:=by
 by_cases h1:(bB p).length=1
 ·left;obtain ⟨c,hc⟩:=List.length_eq_one_iff.1 h1;refine ⟨c,by unfold uI;rw [hc],?_⟩;rcases show_cases he with ⟨d,hd,h2⟩|⟨h,h2⟩|⟨h,h2⟩
  ·have:bB (oO d)=[c]:=by rw [<- hc];exact (rQ h2).symm
   intro j hj;have hm:=(qJ (p:=p) hj);rw [hc,List.mem_singleton] at hm;rw [Bool.eq_iff_iff,hm];simp only [oO,decide_eq_true_eq];rw [<- UInt8.toNat_inj,UInt8.toNat_ofNat'];omega
  ·have:pG p=Pf c:=by unfold pG;rw [hc]
   intro j hj;have hm:=(qJ (p:=p) hj);rw [hc,List.mem_singleton] at hm;rw [Bool.eq_iff_iff,hm];simp only [oO,decide_eq_true_eq];rw [<- UInt8.toNat_inj,UInt8.toNat_ofNat'];omega
  ·intro j hj;have hm:=(qJ (p:=p) hj);rw [hc,List.mem_singleton] at hm;rw [Bool.eq_iff_iff,hm];simp only [oO,decide_eq_true_eq];rw [<- UInt8.toNat_inj,UInt8.toNat_ofNat'];omega
 ·have hsh:uI p=pG p:=by
   unfold uI;match hb:bB p,h1 with
   | [],_=>rfl
   | [c],h1=>simp at h1
   | a::b::l,_=>rfl
  rw [hsh];rcases show_cases he with ⟨d,hd,h2⟩|h|h
  ·exfalso;apply h1;have:bB p=bB (oO d):=rQ h2;rw [this];rw [zTu];rfl
  ·exact Or.inr (Or.inl h)
  ·exact Or.inr (Or.inr h)
end Go.Dec
namespace Go.Dec
theorem zOm {y:List UInt8}(h:nL y=true):dY y=false:=by
 cases y with
 | nil=>rfl
 | cons c y =>
  simp only [nL,Bool.or_eq_true,beq_iff_eq] at h;rcases h with rfl|rfl<;>rfl
theorem Jt {t:Pt}{lo hi:Int}{y:List UInt8}{b:Nat}(h:dY y=false):Il t lo hi y b=.ok (.times t lo hi) y b:=by
 unfold Il;rw [h];rfl
theorem zOn {t:Pt}{lo hi:Int}{y:List UInt8}{b:Nat}(ht:kQ lo hi=true) (h:dY y=false):kL t (Ak lo hi++y) b=.ok (.times t lo hi) y b:=by
 simp only [kQ,aD,Bool.or_eq_true,decide_eq_true_eq] at ht;obtain ⟨⟨h1,h2⟩,h3⟩:=ht;obtain ⟨l,rfl⟩:∃ l:Nat,lo=(l:Int):=⟨lo.toNat,by omega⟩;have hl:l<256:=by omega
 have hB:∀ (w:List UInt8) (hi:Int),nS w=some ((l:Int),hi,y)->kL t (123::w) b=.ok (.times t (l:Int) hi) y b:=by
  intro w hi hw;have e:kL t (123::w) b=match nS w with
   | none=>.er 43 (w.length+1)
   | some (lo,hi,r2)=>Il t lo hi r2 b:=rfl
  rw [e,hw];exact Jt h
 unfold Ak;by_cases hm:hi=-1
 ·subst hm;simp only [show ((-1:Int)==-1)=true from rfl,show ((-1:Int)==1)=false from rfl,Bool.true_and,Bool.false_and,cond_true,cond_false];by_cases hz:l=0
  ·subst hz;exact Jt h
  ·rw [show (((l:Nat):Int)==0)=false by rw [beq_eq_false_iff_ne];omega];simp only [cond_false];by_cases h1l:l=1
   ·subst h1l;exact Jt h
   ·rw [show (((l:Nat):Int)==1)=false by rw [beq_eq_false_iff_ne];omega];simp only [cond_false,List.append_assoc,List.singleton_append];rw [List.cons_append];refine hB _ _ ?_;unfold nS;rw [show ([44,125]++y:List UInt8)=44::125::y from rfl,Pn hl (by decide)];simp only [show [44].isPrefixOf (44::125::y)=true from rfl,cond_true,List.drop_succ_cons,List.drop_zero];rw [yAn (by decide)];simp only [show [125].isPrefixOf (125::y)=true from rfl,Bool.true_and,decide_eq_true (show l<=255 by omega),cond_true,List.drop_succ_cons,List.drop_zero]
 ·rcases h3 with h3|⟨⟨h3,h4⟩,h5⟩
  ·exact absurd h3 hm
  obtain ⟨g,rfl⟩:∃ g:Nat,hi=(g:Int):=⟨hi.toNat,by omega⟩;rw [show (((g:Nat):Int)==-1)=false from beq_false_of_ne hm];simp only [Bool.false_and,cond_false];by_cases h01:g=1∧l=0
  ·obtain ⟨rfl,rfl⟩:=h01;exact Jt h
  ·rw [show (((g:Nat):Int)==1&&((l:Nat):Int)==0)=false by
    rw [Bool.and_eq_false_iff,beq_eq_false_iff_ne,beq_eq_false_iff_ne];omega]
   simp only [cond_false];by_cases he:g=l
   ·subst he;simp only [beq_self_eq_true,cond_true,List.append_assoc,List.singleton_append];rw [List.cons_append];refine hB _ _ ?_;unfold nS;rw [Pn hl (by decide)];simp only [show [44].isPrefixOf (125::y)=false from rfl,cond_false,show [125].isPrefixOf (125::y)=true from rfl,Bool.true_and,decide_eq_true (show g<=255 by omega),decide_eq_true (show 1<=g by omega),cond_true,List.drop_succ_cons,List.drop_zero]
   ·rw [show (((g:Nat):Int)==((l:Nat):Int))=false by rw [beq_eq_false_iff_ne];omega];simp only [cond_false,List.append_assoc,List.singleton_append];rw [List.cons_append];refine hB _ _ ?_;unfold nS;rw [show (44::bX (g:Int)++125::y:List UInt8)=44::(bX (g:Int)++(125::y)) from rfl,Pn hl (by decide)];simp only [show [44].isPrefixOf (44::(bX (g:Int)++(125::y)))=true from rfl,cond_true,List.drop_succ_cons,List.drop_zero];rw [Pn (by omega) (by decide)];simp only [show [125].isPrefixOf (125::y)=true from rfl,Bool.true_and,decide_eq_true (show l<=255 by omega),decide_eq_true (show g<=255 by omega),decide_eq_true (show l<=g by omega),decide_eq_true (show 1<=g by omega),cond_true,List.drop_succ_cons,List.drop_zero]
theorem Zk (mk:Pt->Pt->Pt) (hm:∀ a b c d,gU a c->gU b d->gU (mk a b) (mk c d)):∀ (ts us:List Pt),shL ts us->gU (mE mk ts) (mE mk us)
 | [],[],_=>trivial
 | [t],[u],h=>h.1
 | t::t2::ts,u::u2::us,h=>hm _ _ _ _ h.1 (Zk mk hm (t2::ts) (u2::us) h.2)
 | [],_::_,h=>h.elim
 | _::_,[],h=>h.elim
 | [_],_::_::_,h=>h.2.elim
 | _::_::_,[_],h=>h.2.elim
def zTv:List (List Pt)->List (List Pt)->Prop | [],[]=>True | a :: s,b :: t=>shL a b ∧ zTv s t | _,_=>False
theorem zNa:∀ (a b:List (List Pt)),zTv a b->shL (a.map fV) (b.map fV)
 | [],[],_=>trivial
 | x::a,y::b,h=>⟨Zk .cat (fun _ _ _ _ h1 h2=>⟨h1,h2⟩) x y h.1,zNa a b h.2⟩
 | [],_::_,h=>h.elim
 | _::_,[],h=>h.elim
theorem zNb {a b:List (List Pt)}(h:zTv a b):gU (dB a) (dB b):=Zk .alt (fun _ _ _ _ h1 h2=>⟨h1,h2⟩) _ _ (zNa a b h)
def Mt (rows:List UInt8->Nat->iA (List (List Pt))) (F0:Nat):Prop :=∀ (a:Pt) (b:Nat) (y:List UInt8),Im a->yF a (b+1)->b+1+gN a<=9->F0<=b+1 -> ∃ us,rows (bE a++41 :: y) (b+1) = .ok us (41 :: y) (b+1+gN a) ∧ gU a (dB us)
theorem zPt {rows:List UInt8->Nat->iA (List (List Pt))}{F0:Nat}(hrow:Mt rows F0) {t:Pt}{b:Nat}(ht:Uc t) (hn:yF t b) (hb:b+gN t<=9) (h0:F0<=b+1) :
  HE (bE t)∧∀ y,∃ u,qH rows (bE t++y) b=.ok u y (b+gN t)∧gU t u:=by
 obtain ⟨h1,h2,h3,h4⟩:=ht;cases t with
 | bytes p =>
  have he:gZ p=false:=by simpa [bY] using h1
  simp only [bE,gN,Nat.add_zero];rcases zOl he with ⟨c,hc,h5⟩|⟨hc,h5⟩|⟨hc,h5⟩
  ·rw [hc];exact ⟨yDl c,fun y=>⟨_,zTt c y,rQ h5⟩⟩
  ·rw [hc];exact ⟨Ir (by decide) (by decide) (by decide) (by decide) (by decide) (by decide),fun y=>⟨.bytes fun _=>true,rfl,rQ (fun j hj=>h5 j hj)⟩⟩
  ·cases hs:uI p with
   | nil=>rw [hs] at hc;cases hc
   | cons d s =>
    rw [hs] at hc h5;simp only [List.head?_cons,aA] at hc;subst hc;refine ⟨Ir (by decide) (by decide) (by decide) (by decide) (by decide) (by decide),fun y=>?_⟩;obtain ⟨x,h6,h7⟩:=h5 y;refine ⟨.bytes x,?_,(rQ h7).symm⟩;have e:qH rows (91::(s++y)) b=match wO (91::(s++y)) with
     | none=>.er 42 ((s++y).length+1)
     | some (p,k)=>.ok (.bytes p) ((91::(s++y)).drop k) b:=rfl
    rw [List.cons_append] at h6 ⊢;rw [e,h6];simp only;rw [<- List.cons_append,List.drop_left]
 | group a m =>
  obtain ⟨rfl,hn⟩:=hn;simp only [gN] at hb ⊢;simp only [bY,jY,jC,aD] at h1 h2 h3;refine ⟨Ir (by decide) (by decide) (by decide) (by decide) (by decide) (by decide),fun y=>?_⟩;obtain ⟨us,g1,g2⟩:=hrow a b y ⟨h1.1,h2,h3⟩ hn (by omega) h0;refine ⟨.group (dB us) (b+1),?_,g2⟩;have e:bE (.group a (b+1))++y=40::(bE a++41::y):=by simp [bE]
  rw [e];have e2:qH rows (40::(bE a++41::y)) b=bif b==9 then .er 41 ((bE a++41::y).length+1)
   else match rows (bE a++41::y) (b+1) with
    | .er e k=>.er e k
    | .ok rs r2 b2=>match r2 with
     | []=>.er 41 ((bE a++41::y).length+1)
     | _::r3=>.ok (.group (dB rs) (b+1)) r3 b2:=rfl
  rw [e2,show (b==9)=false by rw [beq_eq_false_iff_ne];omega,g1];simp only [cond_false];rw [show b+1+gN a=b+(gN a+1) by omega]
 | ref m=>exact hn.elim
 | empty=>rcases h4 with h|h|h<;>simp [Pt.kind] at h
 | bol=>rcases h4 with h|h|h<;>simp [Pt.kind] at h
 | eol=>rcases h4 with h|h|h<;>simp [Pt.kind] at h
 | cat a c=>rcases h4 with h|h|h<;>simp [Pt.kind] at h
 | alt a c=>rcases h4 with h|h|h<;>simp [Pt.kind] at h
 | times a _ _=>rcases h4 with h|h|h<;>simp [Pt.kind] at h
theorem zPu {rows:List UInt8->Nat->iA (List (List Pt))}{F0:Nat}(hrow:Mt rows F0) {t:Pt}{b:Nat}(ht:xE t) (hn:yF t b) (hb:b+gN t<=9) (h0:F0<=b+1) :
  HE (bE t)∧∀ y,dY y=false->∃ u,iL rows (bE t++y) b=.ok u y (b+gN t)∧gU t u:=by
 obtain ⟨h1,h2,h3,h4,h5⟩:=ht;have hatom:Uc t->HE (bE t)∧∀ y,dY y=false->∃ u,iL rows (bE t++y) b=.ok u y (b+gN t)∧gU t u:=by
  intro ha;obtain ⟨g1,g2⟩:=zPt hrow ha hn hb h0;refine ⟨g1,fun y hy=>?_⟩;obtain ⟨u,g3,g4⟩:=g2 y;exact ⟨u,by unfold iL;rw [g3];exact Ag hy,g4⟩
 have yGq:∀ (c:UInt8),(c=94∨c=36)->HE [c]:=by
  rintro c (rfl|rfl)<;>exact Ir (by decide) (by decide) (by decide) (by decide) (by decide) (by decide)
 cases t with
 | bytes p=>exact hatom ⟨h1,h2,h3,Or.inl rfl⟩
 | group a m=>exact hatom ⟨h1,h2,h3,Or.inr (Or.inl rfl)⟩
 | ref m=>exact hn.elim
 | empty=>cases h3
 | cat a c=>exact absurd rfl h4
 | alt a c=>exact absurd rfl h5
 | bol =>
  refine ⟨yGq 94 (Or.inl rfl),fun y hy=>⟨.bol,?_,trivial⟩⟩;have e:iL rows (94::y) b=match (bif dY y then iA.er 43 y.length else .ok .bol y b) with
   | .er e k=>.er e k
   | .ok t r1 b1=>kL t r1 b1:=rfl
  show iL rows (94::y) b=_;rw [e,hy];exact Ag hy
 | eol =>
  refine ⟨yGq 36 (Or.inr rfl),fun y hy=>⟨.eol,?_,trivial⟩⟩;have e:iL rows (36::y) b=match (bif dY y then iA.er 43 y.length else .ok .eol y b) with
   | .er e k=>.er e k
   | .ok t r1 b1=>kL t r1 b1:=rfl
  show iL rows (36::y) b=_;rw [e,hy];exact Ag hy
 | times a lo hi =>
  simp only [bY,jY,jC,aD,Bool.or_eq_true,decide_eq_true_eq] at h1 h2 h3;have hk:a.kind=1∨a.kind=7∨a.kind=8:=by rcases h2.2 with (h|h)|h<;>simp [h]
  obtain ⟨g1,g2⟩:=zPt hrow ⟨h1.1,h2.1,h3,hk⟩ hn hb h0;refine ⟨g1.app,fun y hy=>?_⟩;obtain ⟨u,g3,g4⟩:=g2 (Ak lo hi++y);refine ⟨.times u lo hi,?_,g4,rfl,rfl⟩;have e:bE (.times a lo hi)++y=bE a++(Ak lo hi++y):=by simp [bE]
  rw [e];unfold iL;rw [g3];exact zOn h1.2 hy
theorem zGu {rows:List UInt8->Nat->iA (List (List Pt))}{F0:Nat}(hrow:Mt rows F0) {ts:List Pt}{b:Nat}(ht:∀ u∈ts,xE u) (hn:zCo ts b) (hb:b+gL ts<=9) (h0:F0<=b+1) {y:List UInt8}(hy:nL y=true) :
  dY (mF ts++y)=false∧(ts≠[]->nL (mF ts++y)=false):=by
 cases ts with
 | nil=>exact ⟨zOm hy,fun h=>absurd rfl h⟩
 | cons t ts =>
  simp only [gL,List.map_cons,List.sum_cons] at hb;have:=(zPu hrow (ht t (by simp)) hn.1 (by omega) h0).1 (mF ts++y);have e:mF (t::ts)++y=bE t++(mF ts++y):=by simp [mF]
  rw [e];exact ⟨this.2,fun _=>this.1⟩
theorem Zl {rows:List UInt8->Nat->iA (List (List Pt))}{F0:Nat}(hrow:Mt rows F0):∀ (ts:List Pt) (f b:Nat) (acc:List Pt) (y:List UInt8),(∀ u∈ts,xE u)->zCo ts b->b+gL ts<=9->F0<=b+1->nL y=true->(mF ts++y).length<f ->
  ∃ us,qI rows f (mF ts++y) b acc=.ok (acc++us) y (b+gL ts)∧shL ts us
 | [],f,b,acc,y,_,_,_,_,hy,hf=>by
  obtain ⟨f,rfl⟩:∃ k,f=k+1:=⟨f-1,by omega⟩;refine ⟨[],?_,trivial⟩;show qI rows (f+1) y b acc=_;unfold qI;rw [hy,List.append_nil];rfl
 | t::ts,f,b,acc,y,ht,hn,hb,h0,hy,hf=>by
  obtain ⟨f,rfl⟩:∃ k,f=k+1:=⟨f-1,by omega⟩;have hc:=(zGu hrow ht hn hb h0 hy).2 (by simp);simp only [gL,List.map_cons,List.sum_cons] at hb;obtain ⟨g1,g2⟩:=zPu hrow (ht t (by simp)) hn.1 (by omega) h0;have hnx:=(zGu hrow (ts:=ts) (b:=b+gN t) (fun u hu=>ht u (by simp [hu])) hn.2 (by simp only [gL];omega) (by omega) hy).1;obtain ⟨u,g3,g4⟩:=g2 (mF ts++y) hnx;have e:mF (t::ts)++y=bE t++(mF ts++y):=by simp [mF]
  rw [e] at hc hf ⊢;have hpos:1<=(bE t).length:=by
   cases hp:bE t with
   | nil=>have:=(g1 []).1;rw [hp] at this;cases this
   | cons c s=>simp
  rw [List.length_append] at hf;obtain ⟨us,k1,k2⟩:=Zl hrow ts f (b+gN t) (acc++[u]) y (fun u hu=>ht u (by simp [hu])) hn.2 (by simp only [gL];omega) (by omega) hy (by omega);refine ⟨u::us,?_,g4,k2⟩;unfold qI;rw [hc];simp only [cond_false];rw [g3];simp only;rw [k1];simp only [gL,List.map_cons,List.sum_cons,List.append_assoc,List.singleton_append,Nat.add_assoc]
theorem zEs {rows:List UInt8->Nat->iA (List (List Pt))}{F0:Nat}{top:Bool}(hrow:Mt rows F0):∀ (rs:List (List Pt)) (f b:Nat) (acc:List (List Pt)) (y:List UInt8),rs≠[]->(∀ ts∈rs,Mj ts)->zCp rs b->b+gLL rs<=9->F0<=b+1->(y=[]∨∃ z,y=41::z)->(Ef rs++y).length<f ->
  ∃ us,uH rows top f (Ef rs++y) b acc=.ok (acc++us) y (b+gLL rs)∧zTv rs us
 | [],_,_,_,_,h,_,_,_,_,_,_=>absurd rfl h
 | ts::rs,f,b,acc,y,_,hr,hn,hb,h0,hy,hf=>by
  obtain ⟨f,rfl⟩:∃ k,f=k+1:=⟨f-1,by omega⟩;obtain ⟨t1,t2⟩:=hr ts (by simp);simp only [gLL,List.map_cons,List.sum_cons] at hb;have hcy:nL y=true:=by rcases hy with rfl|⟨z,rfl⟩<;>rfl
  cases rs with
  | nil =>
   simp only [List.map_nil,List.sum_nil] at hb;obtain ⟨us,k1,k2⟩:=Zl hrow ts ((mF ts++y).length+1) b [] y t2 hn.1 (by omega) h0 hcy (by omega);obtain ⟨v,vs,rfl⟩:∃ v vs,us=v::vs:=by
    cases us with
    | nil=>cases ts with
     | nil=>exact absurd rfl t1
     | cons _ _=>exact k2.elim
    | cons v vs=>exact ⟨v,vs,rfl⟩
   refine ⟨[v::vs],?_,k2,trivial⟩;show uH rows top (f+1) (mF ts++y) b acc=_;unfold uH;rw [k1];simp only [List.nil_append];have e:[124].isPrefixOf y=false:=by rcases hy with rfl|⟨z,rfl⟩<;>rfl
   rw [e];simp only [cond_false,gLL,List.map_cons,List.map_nil,List.sum_cons,List.sum_nil,Nat.add_zero]
  | cons vs rs =>
   have e:Ef (ts::vs::rs)++y=mF ts++124::(Ef (vs::rs)++y):=by simp [Ef]
   rw [e] at hf ⊢;obtain ⟨us,k1,k2⟩:=Zl hrow ts ((mF ts++124::(Ef (vs::rs)++y)).length+1) b [] (124::(Ef (vs::rs)++y)) t2 hn.1 (by omega) h0 rfl (by omega);obtain ⟨v,ws,rfl⟩:∃ v ws,us=v::ws:=by
    cases us with
    | nil=>cases ts with
     | nil=>exact absurd rfl t1
     | cons _ _=>exact k2.elim
    | cons v ws=>exact ⟨v,ws,rfl⟩
   rw [List.length_append,List.length_cons] at hf;obtain ⟨xs,j1,j2⟩:=zEs hrow (vs::rs) f (b+gL ts) (acc++[v::ws]) y (by simp) (fun x hx=>hr x (by simp at hx ⊢;exact Or.inr hx)) hn.2 (by simp only [gLL,List.map_cons,List.sum_cons] at hb ⊢;omega) (by omega) hy (by omega);refine ⟨(v::ws)::xs,?_,k2,j2⟩;unfold uH;rw [k1];simp only [List.nil_append,show ∀ z:List UInt8,[124].isPrefixOf ((124:UInt8)::z)=true from fun _=>rfl,cond_true,List.drop_succ_cons,List.drop_zero];rw [j1];simp only [gLL,List.map_cons,List.sum_cons,List.append_assoc,List.singleton_append,Nat.add_assoc]
theorem zPv {a:Pt}{b:Nat}(ha:Im a) (hn:yF a b):jP a≠[]∧(∀ ts∈jP a,Mj ts)∧zCp (jP a) b∧gLL (jP a)=gN a:=by
 obtain ⟨u,us,h⟩:=Zj a;obtain ⟨g1,g2⟩:=zMz a b hn;refine ⟨by rw [h];simp,fun ts hts=>⟨?_,zMy a ha.1 ha.2.1 ha.2.2 ts hts⟩,g1,g2⟩;have:∀ t:Pt,∀ ts∈jP t,ts≠[]:=by
  intro t;induction t with
  | alt a b _ ihb =>
   intro ts hts;rcases List.mem_cons.1 hts with rfl|hts
   ·obtain ⟨u,us,h⟩:=zGt a;rw [h];simp
   ·exact ihb ts hts
  | _ =>
   intro ts hts;simp only [jP,List.mem_singleton] at hts;subst hts;simp [nM]
 exact this a ts hts
theorem yDm:∀ f:Nat,Mt (jO f false) (11-f):=by
 intro f;induction f with
 | zero=>intro a b y _ _ _ h;omega
 | succ f ih =>
  intro a b y ha hn hb h0;obtain ⟨r1,r2,r3,r4⟩:=zPv ha hn;obtain ⟨us,k1,k2⟩:=zEs (rows:=jO f false) (top:=false) ih (jP a) ((Ef (jP a)++41::y).length+1) (b+1) [] (41::y) r1 r2 r3 (by rw [r4];omega) (by omega) (Or.inr ⟨y,rfl⟩) (by omega);refine ⟨us,?_,?_⟩
  ·unfold jO;rw [Pq,k1,r4];rfl
  ·have:=zNb k2
   rwa [Kw] at this
theorem yGr:∀ (t u:Pt),gU t u->t.sz=u.sz:=by
 intro t;induction t with
 | empty=>intro u h;cases u<;>simp only [gU] at h;rfl
 | bol=>intro u h;cases u<;>simp only [gU] at h;rfl
 | eol=>intro u h;cases u<;>simp only [gU] at h;rfl
 | bytes p=>intro u h;cases u<;>simp only [gU] at h;rfl
 | ref m=>intro u h;cases u<;>simp only [gU] at h;rfl
 | cat a b iha ihb=>intro u h;cases u<;>simp only [gU] at h;simp only [Pt.sz];rw [iha _ h.1,ihb _ h.2]
 | alt a b iha ihb=>intro u h;cases u<;>simp only [gU] at h;simp only [Pt.sz];rw [iha _ h.1,ihb _ h.2]
 | times a lo hi iha=>intro u h;cases u<;>simp only [gU] at h;simp only [Pt.sz];rw [iha _ h.1]
 | group a n iha=>intro u h;cases u<;>simp only [gU] at h;simp only [Pt.sz];rw [iha _ h]
theorem yHp {t:Pt}{b:Nat}:yF t b->bY t=true->b+gN t<=9∨gN t=0:=by
 induction t generalizing b with
 | cat a c iha ihc =>
  intro h h1;simp only [bY,aD] at h1;rcases ihc h.2 h1.2 with h2|h2
  ·simp only [gN];left;omega
  ·rcases iha h.1 h1.1 with h3|h3
   ·simp only [gN];left;omega
   ·simp only [gN];right;omega
 | alt a c iha ihc =>
  intro h h1;simp only [bY,aD] at h1;rcases ihc h.2 h1.2 with h2|h2
  ·simp only [gN];left;omega
  ·rcases iha h.1 h1.1 with h3|h3
   ·simp only [gN];left;omega
   ·simp only [gN];right;omega
 | times a lo hi iha =>
  intro h h1;simp only [bY,aD] at h1;exact iha h h1.1
 | group a m iha =>
  intro h h1;simp only [bY,aD,decide_eq_true_eq] at h1;obtain ⟨rfl,h⟩:=h;rcases iha h h1.1 with h2|h2
  ·simp only [gN];left;omega
  ·simp only [gN];left;omega
 | _=>intro _ _;right;rfl
theorem zNc {t:Pt}(hg:xR t) (hr:(aT t w0).2.2.2=false) (hne:jC t=true):∃ u,lF (bE t)=.inl u∧gU t u:=by
 obtain ⟨hn,_⟩:=Ci t 0 Ol false hg.2.2 hr;have hk:=hg.2.1;have hb:0+gN t<=9:=by rcases yHp hn hk.1 with h|h<;>omega
 have ha:Im t:=⟨hk.1,hk.2.1,hne⟩;obtain ⟨r1,r2,r3,r4⟩:=zPv ha hn;obtain ⟨us,k1,k2⟩:=zEs (rows:=jO 10 false) (top:=true) (yDm 10) (jP t) ((Ef (jP t)++[]).length+1) 0 [] [] r1 r2 r3 (by rw [r4];omega) (by omega) (Or.inl rfl) (by omega);have hsh:=zNb k2;rw [Kw] at hsh;rw [List.append_nil,<- Pq,List.nil_append] at k1;refine ⟨dB us,?_,hsh⟩;have zNd:jO 11 true (bE t) 0=.ok us [] (0+gLL (jP t)):=k1;have Uf:=hg.1;cases hp:bE t with
 | nil =>
  rw [hp] at zNd;have:jO 11 true [] 0=.er 40 0:=rfl;rw [this] at zNd;cases zNd
 | cons c s =>
  rw [hp] at zNd;have he:lF (c::s)=match jO 11 true (c::s) 0 with
   | .er e k=>.inr (e,(c::s).length-k)
   | .ok rs r _ =>
    match r with
    | []=>bif decide ((dB rs).sz>120) then .inr (2,0) else .inl (dB rs)
    | _=>.inr (41,(c::s).length-r.length):=rfl
  rw [he,zNd];simp only;rw [<- yGr _ _ hsh,show decide (t.sz>120)=false by simp;omega];rfl
theorem zOo {s:List UInt8}{t:Pt}(h:lF s=.inl t):t=.empty∨jC t=true:=by
 cases s with
 | nil=>left;simp only [lF,Sum.inl.injEq] at h;exact h.symm
 | cons c s0 =>
  right;have hg:=Ah 11 true (c::s0) 0 (by omega) (by omega);have he:lF (c::s0)=match jO 11 true (c::s0) 0 with
   | .er e k=>.inr (e,(c::s0).length-k)
   | .ok rs r _ =>
    match r with
    | []=>bif decide ((dB rs).sz>120) then .inr (2,0) else .inl (dB rs)
    | _=>.inr (41,(c::s0).length-r.length):=rfl
  rw [he] at h;cases ho:jO 11 true (c::s0) 0 with
  | er e k=>rw [ho] at h;cases h
  | ok rs r b' =>
   rw [ho] at h hg;obtain ⟨g1,g2,g3,g4,g5,g6,g7,g8⟩:=hg;simp only at h;cases r with
   | cons d r2=>cases h
   | nil =>
    simp only at h;cases Uf:decide ((dB rs).sz>120)<;>rw [Uf] at h<;>simp only [cond_true,cond_false,Sum.inl.injEq,reduceCtorEq] at h
    subst h;exact (Ou rs g6 g7).2.2
theorem Xh {s:List UInt8}{t:Pt}(h:lF s=.inl t):∃ u,lF (bE t)=.inl u∧gU t u:=by
 rcases Ku s with ⟨t',hp,hg,hr⟩|⟨e,k,hp,_⟩
 ·rw [h] at hp;simp only [Sum.inl.injEq] at hp;subst hp;rcases zOo h with rfl|hne
  ·exact ⟨.empty,rfl,trivial⟩
  ·exact zNc hg hr hne
 ·rw [h] at hp;cases hp
end Go.Dec
