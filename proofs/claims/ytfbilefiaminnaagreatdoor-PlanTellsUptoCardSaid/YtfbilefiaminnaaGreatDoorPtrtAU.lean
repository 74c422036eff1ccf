import Derived.Test.YtfbilefiaminnaaGreatDoorPtrtAT
import Derived.Test.YtfbilefiaminnaaGreatDoorRows
import GoSem.ClaimGoes
open Go.IntKind renaming wrap->qEq
open Int renaming le_refl->qEe
open List renaming mem_append->qAp,mem_singleton->qCp,length_singleton->qFl,getD_eq_getElem?_getD->wG,length_append->xG,take_succ_eq_append_getElem->qGm,take_of_length_le->zH,mem_cons->qEu,length_map->qFs,getElem_mem->wU,getElem?_eq_getElem->wW,map_append->qGu,mem_range->qDr,length_take->qAb,map_cons->qBt,getElem_of_mem->qFp,any_eq_true->qFc,length_set->qAx
open Prod renaming fst->qEs
open Nat renaming ble_eq_true_of_le->qFr,zero_add->yY,zero_le->qAm,not_lt_zero->qFq,le_succ->qGv
namespace Go.Dec
variable {n:Nat}
def Vq (M:List (Int×List UInt8)) (t:List UInt8):Prop:=(114,t) ∈ M ∧ t ≠ []
def zBc (M:List (Int×List UInt8)) (t:List UInt8):Prop:=((119,t) ∈ M ∨ (115,t) ∈ M) ∧ t ≠ []
theorem yJf{t:List UInt8}:¬ Vq [] t:=λh=>by cases h.1
theorem yJg{t:List UInt8}:¬ zBc [] t:=λh=>by rcases h.1 with h|h<;>cases h
theorem yJh{M:List (Int × List UInt8)}{a:Int}{b t:List UInt8}:Vq (M++[(a,b)]) t<->Vq M t\/(a=114/\t=b/\b≠[]):=by
 unfold Vq;rw[qAp,qCp,aC];constructor
 ·rintro⟨h|⟨h1,h2⟩,h3⟩
  ·exact .inl ⟨h,h3⟩
  ·exact .inr ⟨h1.symm,h2,h2 ▸ h3⟩
 ·rintro(⟨h,h3⟩|⟨h1,h2,h3⟩)
  ·exact⟨.inl h,h3⟩
  ·exact⟨.inr ⟨h1.symm,h2⟩,h2 ▸ h3⟩
theorem yJi{M:List (Int × List UInt8)}{a:Int}{b t:List UInt8}:zBc (M++[(a,b)]) t<->zBc M t\/((a=119\/a=115)/\t=b/\b≠[]):=by
 unfold zBc;rw[qAp,qAp,qCp,qCp,aC,aC];constructor
 ·rintro⟨(h|⟨h1,h2⟩)|(h|⟨h1,h2⟩),h3⟩
  ·exact .inl ⟨.inl h,h3⟩
  ·exact .inr ⟨.inl h1.symm,h2,h2 ▸ h3⟩
  ·exact .inl ⟨.inr h,h3⟩
  ·exact .inr ⟨.inr h1.symm,h2,h2 ▸ h3⟩
 ·rintro(⟨h|h,h3⟩|⟨h1|h1,h2,h3⟩)
  ·exact⟨.inl (.inl h),h3⟩
  ·exact⟨.inr (.inl h),h3⟩
  ·exact⟨.inl (.inr ⟨h1.symm,h2⟩),h2 ▸ h3⟩
  ·exact⟨.inr (.inr ⟨h1.symm,h2⟩),h2 ▸ h3⟩
theorem yJj{a t:List UInt8}:∀ {l},t∈Nz a l<->t=a\/t∈l
 |[]=>by simp[Nz]
 |b::r=>by
  unfold Nz;cases decide (a<=b)with
  |true=>simp
  |false =>
   show t∈b::Nz a r<->_;rw[qEu,yJj,qEu];exact⟨λh=>h.elim (λh=>.inr (.inl h)) λh=>h.elim .inl λh=>.inr (.inr h),λh=>h.elim (λh=>.inr (.inl h)) λh=>h.elim .inl λh=>.inr (.inr h)⟩
theorem zCv{t:List UInt8}:∀ {l},t∈tH l<->t∈l
 |[]=>Iff.rfl
 |a::r=>by unfold tH;rw[yJj,zCv,qEu]
theorem zTr{m:List (List UInt8 × Int)}{q t:List UInt8}{v:Int}:t∈(uV .str m q v).map qEs<->t∈m.map qEs\/t=q:=by
 have hk:=zIs q v m;have hin:∀ (m:List (List UInt8 × Int)) (u:Int),fV .str m q=some u->q∈m.map qEs:=by
  intro m;induction m with
  |nil=>intro u hu;cases hu
  |cons e r ih =>
   intro u hu;cases hb:Ty.beq .str q e.1 with
   |true =>
    have hb:(q==e.1)=true:=hb;rw[qBt,qEu];exact .inl (eq_of_beq hb)
   |false =>
    simp only[fV,hb]at hu;rw[qBt,qEu];exact .inr (ih u hu)
 unfold uV;cases hf:fV .str m q with
 |none =>
  show t∈(m++[(q,v)]).map qEs<->_;rw[qGu,qAp];simp
 |some u =>
  show t∈(m.set (mIdx .str m q) (q,v)).map qEs<->_;rw[hk.1 u hf];exact⟨.inl,λh=>h.elim id λh=>h ▸ hin m u hf⟩
theorem yVk{x:Bool × pt2}(h:Sq x)(hn:20000<=n):Ans (Oa n x) λy=>(y.1.length<=4000/\y.2.length<=4000)/\(∀ t,t∈y.1<->Vq (x.2.2.1.map ot) t)/\∀ t,t∈y.2<->zBc (x.2.2.1.map ot) t:=by
 obtain⟨_,_,h3,h4⟩:=h;unfold Oa;simp only;generalize x.2.2.1=L at h3 h4;refine Ans.loop (λX=>FiI L X/\(∀ t,t∈X.2.2.2.1.map qEs<->Vq ((L.take X.2.2.1.toNat).map ot) t)/\∀ t,t∈X.2.2.2.2.1.map qEs<->zBc ((L.take X.2.2.1.toNat).map ot) t) (λX=>(X.2.1-X.2.2.1).toNat) ?_ n _ ⟨⟨rfl,rfl,qEe _,by simp only;omega,wO.nil,wO.nil⟩,λt=>⟨λh=>(nomatch h),λh=>absurd h yJf⟩,λt=>⟨λh=>(nomatch h),λh=>absurd h yJg⟩⟩ (by simp only;omega);rintro r ⟨l,t,i,m1,m2,⟨⟩⟩ ⟨⟨e1,e2,hi0,hi1,k1,k2⟩,s1,s2⟩ hr;simp only at e1 e2 hi0 hi1 k1 k2 hr s1 s2;subst e1;unfold Ti;simp only;refine Ans.br (λhlt=>?_) (λhge=>?_)
 ·have hlt:=jZ hlt;have hil:i.toNat<l.length:=by omega
  refine Ans.chk (bI hi0 (by omega)) ?_;rw[tF hil];have hc:l[i.toNat].2.2.1.length<=4001:=(h4 _ (wU hil)).1;have hw:qEq .i64 (i+1)=i+1:=bD (by omega) (by omega);have hj:(i+1).toNat=i.toNat+1:=by omega
  have he:(l.take (i+1).toNat).map ot=(l.take i.toNat).map ot++[(l[i.toNat].2.1,l[i.toNat].2.2.1)]:=by rw[hj,qGm hil,qGu];rfl
  generalize l[i.toNat]=v at hc he ⊢;have step:∀ a b,wO (i.toNat+1) a->wO (i.toNat+1) b->(∀ t,t∈a.map qEs<->Vq ((l.take i.toNat).map ot) t\/(v.2.1=114/\t=v.2.2.1/\v.2.2.1≠[]))->(∀ t,t∈b.map qEs<->zBc ((l.take i.toNat).map ot) t\/((v.2.1=119\/v.2.1=115)/\t=v.2.2.1/\v.2.2.1≠[]))->Ans (r (l,t,qEq .i64 (i+1),a,b,())) _:=λa b ha hb p q =>
   hr _ ⟨⟨rfl,e2,by rw[hw];simp only;omega,by rw[hw];simp only;omega,by rw[hw];simp only;rw[hj];exact ha,by rw[hw];simp only;rw[hj];exact hb⟩,λt=>by rw[hw];simp only;rw[he,yJh];exact p t,λt=>by rw[hw];simp only;rw[he,yJi];exact q t⟩ (by rw[hw];simp only;omega)
  have w1:=k1.mono (qGv _);have w2:=k2.mono (qGv _);have no1:(∀ t,¬ (v.2.1=114/\t=v.2.2.1/\v.2.2.1≠[]))->∀ t,t∈m1.map qEs<->Vq ((l.take i.toNat).map ot) t\/(v.2.1=114/\t=v.2.2.1/\v.2.2.1≠[]):=λhno t=>⟨λh=>.inl ((s1 t).1 h),λh=>h.elim (s1 t).2 λh=>absurd h (hno t)⟩
  have no2:(∀ t,¬ ((v.2.1=119\/v.2.1=115)/\t=v.2.2.1/\v.2.2.1≠[]))->∀ t,t∈m2.map qEs<->zBc ((l.take i.toNat).map ot) t\/((v.2.1=119\/v.2.1=115)/\t=v.2.2.1/\v.2.2.1≠[]):=λhno t=>⟨λh=>.inl ((s2 t).1 h),λh=>h.elim (s2 t).2 λh=>absurd h (hno t)⟩
  refine Ans.br (λhz=>?_) λhz=>?_
  ·have hz:v.2.2.1=[]:=eq_of_beq hz;exact step _ _ w1 w2 (no1 λt h=>h.2.2 hz) (no2 λt h=>h.2.2 hz)
  ·have hz:v.2.2.1≠[]:=λh=>by rw[h]at hz;cases hz
   refine Ans.br (λho=>?_) λho=>?_
   ·have ho:v.2.1=114:=eq_of_beq ho;refine step _ _ (k1.set _ hc) w2 (λt=>?_) (no2 λt h=>by rw[ho]at h;rcases h.1 with h|h<;>cases h);rw[zTr,s1];exact⟨λh=>h.elim .inl λh=>.inr ⟨ho,h,hz⟩,λh=>h.elim .inl λh=>.inr h.2.1⟩
   ·have ho:v.2.1≠114:=λh=>by rw[h]at ho;cases ho
    refine Ans.br (λhp=>?_) λhp=>?_
    ·have hp:v.2.1=119:=eq_of_beq hp;refine step _ _ w1 (k2.set _ hc) (no1 λt h=>ho h.1) (λt=>?_);rw[zTr,s2];exact⟨λh=>h.elim .inl λh=>.inr ⟨.inl hp,h,hz⟩,λh=>h.elim .inl λh=>.inr h.2.1⟩
    ·have hp:v.2.1≠119:=λh=>by rw[h]at hp;cases hp
     refine Ans.br (λhq=>?_) λhq=>?_
     ·have hq:v.2.1=115:=eq_of_beq hq;refine step _ _ w1 (k2.set _ hc) (no1 λt h=>ho h.1) (λt=>?_);rw[zTr,s2];exact⟨λh=>h.elim .inl λh=>.inr ⟨.inr hq,h,hz⟩,λh=>h.elim .inl λh=>.inr h.2.1⟩
     ·have hq:v.2.1≠115:=λh=>by rw[h]at hq;cases hq
      exact step _ _ w1 w2 (no1 λt h=>ho h.1) (no2 λt h=>h.1.elim hp hq)
 ·have hge:=Am hge;have hk:i.toNat<=4000:=by omega
  have l1:=k1.2.1;have l2:=k2.2.1;unfold Cn;simp only[aK];rw[yBs k1 hk,aK,yBs k2 hk,aK];rw[zH (by omega)]at s1 s2;exact Ans.some ⟨⟨by rw[zCu,qFs];omega,by rw[zCu,qFs];omega⟩,λt=>by rw[zCv];exact s1 t,λt=>by rw[zCv];exact s2 t⟩
theorem yKu(zs:List (List UInt8))(t:List UInt8):t∈Go.Lib.compact zs<->t∈zs:=by
 unfold Go.Lib.compact Go.Lib.compactUpTo;rw[List.mem_map];constructor
 ·rintro⟨i,hi,rfl⟩;have hi:=qDr.1 (List.mem_filter.1 hi).1;simp[hi]
 ·intro h;obtain⟨i,hi,rfl⟩:=qFp h;have key:∀ i,i<zs.length->∃ a,a∈List.filter (Go.Lib.keeps zs.toArray) (List.range zs.length)/\zs.toArray[a]! = zs.toArray[i]! := by
   intro i;induction i with
   |zero=>intro hi;exact⟨0,List.mem_filter.2 ⟨qDr.2 hi,by simp[Go.Lib.keeps]⟩,rfl⟩
   |succ i ih =>
    intro hi;cases hk:Go.Lib.keeps zs.toArray (i+1)with
    |true=>exact⟨i+1,List.mem_filter.2 ⟨qDr.2 hi,hk⟩,rfl⟩
    |false =>
     obtain⟨a,h1,h2⟩:=ih (by omega);refine⟨a,h1,h2.trans ?_⟩;simp[Go.Lib.keeps]at hk;simpa using hk.symm
  obtain⟨a,h1,h2⟩:=key i hi;exact⟨a,h1,by rw[h2];simp[hi]⟩
end Go.Dec
namespace Go.Dec
variable {n:Nat}
abbrev NmX:Type:=List (List UInt8) × List UInt8 × Bool × Int × List (List UInt8) × Unit
theorem zXn(l:List (List UInt8))(w:List UInt8)(s0:Bool)(hn:l.length<n)(hm:l.length<=100000):Ans (fix (zS n) n (l,w,s0,0,[],())) λy=>y.length<=l.length+1/\∀ t,t∈y<->t∈l\/(s0=false/\t=w):=by
 refine Ans.loop (λX:NmX=>∃ (b:Bool) (i:Int) (R:List (List UInt8)),X=(l,w,b,i,R,())/\0<=i/\i<=(l.length:Int)/\(b=false->s0=false)/\R.length<=i.toNat+(match b with|true=>1|false=>0)/\∀ t,t∈R<->t∈l.take i.toNat\/(b=true/\s0=false/\t=w)) (λX=>(l.length-X.2.2.2.1.toNat)) ?_ n _ ⟨_,_,_,rfl,qEe _,by omega,id,by simp,λt=>by cases s0<;>simp⟩ (by simp only;omega);rintro r X ⟨b,i,R,rfl,i0,i1,hb,hl,hs⟩ hr;simp only at hr;have hl2:R.length<=100001:=by cases b<;>simp only at hl<;>omega
 have rm1:∀ (x:List (List UInt8)) (y:List UInt8),x.length<=100002->Nat.ble ((x.length+[y].length)*16) room=true:=λx y h=>qFr (by simp only[qFl,room];omega)
 unfold zS;simp only;refine Ans.br (λhlt=>?_) (λhge=>?_)
 ·have hlt:=jZ hlt;have hil:i.toNat<l.length:=by omega
  have hw:qEq .i64 (i+1)=i+1:=bD (by omega) (by omega);have hj:(i+1).toNat=i.toNat+1:=by omega
  have hi:inB i l.length=true:=bI i0 (by omega);rw[tF hil,hw];have ht:∀ t,t∈l.take (i+1).toNat<->t∈l.take i.toNat\/t=l[i.toNat]:=λt=>by rw[hj,qGm hil,qAp,qCp]
  generalize l[i.toNat]=v at ht;have step:∀ (b2:Bool) (R2:List (List UInt8)),(b2=false->s0=false)->R2.length<=(i+1).toNat+(match b2 with|true=>1|false=>0)->(∀ t,t∈R2<->(t∈l.take i.toNat\/t=v)\/(b2=true/\s0=false/\t=w))->Ans (r (l,w,b2,i+1,R2,())) _:=λb2 R2 h1 h2 h3 =>
   hr _ ⟨_,_,_,rfl,by omega,by omega,h1,h2,λt=>by rw[ht];exact h3 t⟩ (by simp only;omega)
  cases b with
  |true =>
   rw[show(!true)=false from rfl,bS];refine Ans.chk hi (Ans.chk (rm1 _ _ (by omega)) (step _ _ hb (by simp only[xG,qFl]at hl ⊢;omega) λt=>?_));rw[qAp,qCp,hs];exact⟨λh=>h.elim (λh=>h.elim (λh=>.inl (.inl h)) .inr) λh=>.inl (.inr h),λh=>h.elim (λh=>h.elim (λh=>.inl (.inl h)) .inr) λh=>.inl (.inr h)⟩
  |false =>
   have h0:=hb rfl;simp only at hl;have hs:∀ t,t∈R<->t∈l.take i.toNat:=λt=>by rw[hs];simp
   rw[show(!false)=true from rfl,dH];refine Ans.chk hi (Ans.br (λ_=>Ans.chk hi (Ans.br (λ_=>?_) λhe=>?_)) λ_=>?_)
   ·refine Ans.chk (rm1 _ _ (by omega)) (Ans.chk hi (Ans.chk (rm1 _ _ (by rw[xG,qFl];omega)) (step _ _ (λh=>by cases h) (by simp only[xG,qFl];omega) λt=>?_)));rw[qAp,qAp,qCp,qCp,hs];exact⟨λh=>h.elim (λh=>h.elim (λh=>.inl (.inl h)) λh=>.inr ⟨rfl,h0,h⟩) λh=>.inl (.inr h),λh=>h.elim (λh=>h.elim (λh=>.inl (.inl h)) .inr) λh=>.inl (.inr h.2.2)⟩
   ·have he:v=w:=by simpa using he
    refine Ans.chk hi (Ans.chk (rm1 _ _ (by omega)) (step _ _ (λh=>by cases h) (by simp only[xG,qFl];omega) λt=>?_));rw[qAp,qCp,hs];exact⟨λh=>h.elim (λh=>.inl (.inl h)) λh=>.inl (.inr h),λh=>h.elim (λh=>h.elim .inl .inr) λh=>.inr (h.2.2.trans he.symm)⟩
   ·refine Ans.chk hi (Ans.chk (rm1 _ _ (by omega)) (step _ _ hb (by simp only[xG,qFl];omega) λt=>?_));rw[qAp,qCp,hs];exact⟨.inl,λh=>h.elim id λh=>by cases h.1⟩
 ·have hge:=Am hge;rw[zH (by omega)]at hs;cases b with
  |true =>
   rw[show(!true)=false from rfl,bS];exact Ans.some ⟨by simp only at hl;omega,λt=>by rw[hs];simp⟩
  |false =>
   simp only at hl;rw[show(!false)=true from rfl,dH];refine Ans.chk (rm1 _ _ (by omega)) (Ans.some ⟨by simp only[xG,qFl];omega,λt=>?_⟩);rw[qAp,qCp,hs];simp[hb rfl]
theorem zIv(l:List (List UInt8))(w:List UInt8)(hn:l.length<n)(hm:l.length<=100000):Ans (yU n (l,w)) λy=>y.length<=l.length+1/\∀ t,t∈y<->t∈l\/(t=w/\w≠[]):=by
 unfold yU;simp only;refine(zXn l w (w==[]) hn hm).mono λy hy=>⟨hy.1,λt=>?_⟩
 rw[hy.2];cases w with
 |nil=>simp
 |cons a r =>
  have:((a::r)==([]:List UInt8))=false:=rfl;simp[this]
theorem yRs(l:List (List UInt8))(w:List UInt8)(hn:l.length<n)(hm:l.length<=100000):Ans (Ju n (l,w)) λy=>y.length<=l.length+1/\∀ t,t∈y<->t∈l\/t=w:=by
 have he:Vw n=zS n:=rfl;unfold Ju;simp only;rw[he];refine(zXn l w false hn hm).mono λy hy=>⟨hy.1,λt=>?_⟩
 rw[hy.2];simp
abbrev RFX:Type:=List (List UInt8) × List (List UInt8) × Int × Bool × pt2
theorem yRt{x:Bool × pt2}(hl:x.2.2.1.length<=4000)(hn:20000<=n):Ans (Jt n x) λy=>(y.1.length<=4000/\y.2.length<=4000)/\(∀ t,t∈y.1<->Vq (x.2.2.1.map ot) t)/\∀ t,t∈y.2<->zBc (x.2.2.1.map ot) t:=by
 obtain⟨q,P,C,⟨⟩⟩:=x;simp only at hl;unfold Jt;refine Ans.loop (λX:RFX=>∃ (R W:List (List UInt8)) (i:Int),X=(R,W,i,q,P,C,())/\0<=i/\i<=(C.length:Int)/\R.length<=i.toNat/\W.length<=i.toNat/\(∀ t,t∈R<->Vq ((C.take i.toNat).map ot) t)/\∀ t,t∈W<->zBc ((C.take i.toNat).map ot) t) (λX=>(C.length-X.2.2.1.toNat)) ?_ n _ ⟨_,_,_,rfl,qEe _,by omega,qAm _,qAm _,λt=>⟨λh=>(nomatch h),λh=>absurd h yJf⟩,λt=>⟨λh=>(nomatch h),λh=>absurd h yJg⟩⟩ (by simp only;omega);rintro r X ⟨R,W,i,rfl,i0,i1,r1,w1,s1,s2⟩ hr;simp only at hr;unfold Vv;simp only;refine Ans.br (λhlt=>?_) (λhge=>?_)
 ·have hlt:=jZ hlt;have hil:i.toNat<C.length:=by omega
  have hi:inB i C.length=true:=bI i0 (by omega);have hw:qEq .i64 (i+1)=i+1:=bD (by omega) (by omega);have hj:(i+1).toNat=i.toNat+1:=by omega
  rw[tF hil,hw];have he:(C.take (i+1).toNat).map ot=(C.take i.toNat).map ot++[(C[i.toNat].2.1,C[i.toNat].2.2.1)]:=by rw[hj,qGm hil,qGu];rfl
  generalize C[i.toNat]=v at he ⊢;have step:∀ R2 W2,R2.length<=(i+1).toNat->W2.length<=(i+1).toNat->(∀ t,t∈R2<->t∈R\/(v.2.1=114/\t=v.2.2.1/\v.2.2.1≠[]))->(∀ t,t∈W2<->t∈W\/((v.2.1=119\/v.2.1=115)/\t=v.2.2.1/\v.2.2.1≠[]))->Ans (r (R2,W2,i+1,q,P,C,())) _:=λR2 W2 h1 h2 p q =>
   hr _ ⟨_,_,_,rfl,by omega,by omega,h1,h2,λt=>by rw[he,yJh,p,s1],λt=>by rw[he,yJi,q,s2]⟩ (by simp only;omega)
  have no:∀ (A:List (List UInt8)) (p:Prop),¬ p->∀ t,t∈A<->t∈A\/(p/\t=v.2.2.1/\v.2.2.1≠[]):=λA p hp t=>⟨.inl,λh=>h.elim id λh=>absurd h.1 hp⟩
  have yes:∀ (A B:List (List UInt8)) (p:Prop),p->(∀ t,t∈B<->t∈A\/(t=v.2.2.1/\v.2.2.1≠[]))->∀ t,t∈B<->t∈A\/(p/\t=v.2.2.1/\v.2.2.1≠[]):=λA B p hp h t=>by rw[h];exact⟨λh=>h.elim .inl λh=>.inr ⟨hp,h⟩,λh=>h.elim .inl λh=>.inr h.2⟩
  refine Ans.chk hi (Ans.br (λho=>?_) λho=>?_)
  ·have ho:v.2.1=114:=eq_of_beq ho;exact Ans.chk hi (Ans.ob _ (zIv R v.2.2.1 (by omega) (by omega)) λy hy=>step _ _ (by omega) (by omega) (yes _ _ _ ho hy.2) (no _ _ λh=>by rw[ho]at h;rcases h with h|h<;>cases h))
  ·have ho:v.2.1≠114:=λh=>by rw[h]at ho;cases ho
   refine Ans.br (λhp=>?_) λhp=>?_
   ·rw[hp,dH];have hp:v.2.1=119:=eq_of_beq hp;exact Ans.chk hi (Ans.ob _ (zIv W v.2.2.1 (by omega) (by omega)) λy hy=>step _ _ (by omega) (by omega) (no _ _ ho) (yes _ _ _ (.inl hp) hy.2))
   ·have hp:v.2.1≠119:=λh=>by rw[h]at hp;cases hp
    refine Ans.br (λhq=>?_) λhq=>?_
    ·have hq:v.2.1=115:=eq_of_beq hq;exact Ans.chk hi (Ans.ob _ (zIv W v.2.2.1 (by omega) (by omega)) λy hy=>step _ _ (by omega) (by omega) (no _ _ ho) (yes _ _ _ (.inr hq) hy.2))
    ·have hq:v.2.1≠115:=λh=>by rw[h]at hq;cases hq
     exact step _ _ (by omega) (by omega) (no _ _ ho) (no _ _ λh=>h.elim hp hq)
 ·have hge:=Am hge;rw[zH (by omega)]at s1 s2;exact Ans.some ⟨⟨by simp only;omega,by simp only;omega⟩,s1,s2⟩
structure yRu (M:List (Int × List UInt8)) (F:List (List UInt8)) (bad:Bool) (y:List (List UInt8) × List (List UInt8)):Prop where
 l1:y.1.length<=5000
 l2:y.2.length<=4000
 b:bad=true->y=([],[])
 m1:bad=false->∀ t,t∈y.1<->Vq M t\/t∈F
 m2:bad=false->∀ t,t∈y.2<->zBc M t
theorem yBu{M F}:yRu M F true ([],[]):=⟨qAm _,qAm _,λ_=>rfl,λh=>(nomatch h),λh=>(nomatch h)⟩
theorem yRv{x:aO.den}(h:Sq x.1)(hf:x.2.2.1.length<=900)(hn:20000<=n):Ans (jB n x) (yRu (x.1.2.2.1.map ot) x.2.2.1 x.2.2.2.1):=by
 unfold jB;refine Ans.br (λhb=>Ans.some (by rw[hb];exact yBu)) λhb=>?_
 refine Ans.ob _ (yVk h hn) ?_;rintro⟨a,b⟩ ⟨⟨h1,h2⟩,s1,s2⟩;simp only at h1 h2 s1 s2;refine Ans.chk (qFr (by simp only;omega)) (Ans.some ⟨?_,h2,λe=>?_,λ_ t=>?_,λ_=>s2⟩)
 ·refine Nat.le_trans (yKt _) ?_;rw[zCu,xG];simp only;omega
 ·rw[hb]at e;cases e
 ·simp only;rw[yKu,zCv,qAp,s1]
theorem yJk{x:pt1}(h:x.1.2.2.1.length<=4000)(hf:x.2.2.1.length<=900)(hn:20000<=n):Ans (pE n x) (yRu (x.1.2.2.1.map ot) x.2.2.1 x.2.2.2.1):=by
 unfold pE;simp only;refine Ans.br (λhb=>Ans.some (by rw[hb];exact yBu)) λhb=>?_
 refine Ans.ob _ (yRt h hn) ?_;rintro⟨a,b⟩ ⟨⟨h1,h2⟩,s1,s2⟩;simp only at h1 h2 s1 s2;obtain⟨⟨q,P,C,⟨⟩⟩,q2,F,bad,⟨⟩⟩:=x;simp only at h hf hb s1 s2 ⊢;refine Ans.loop (λX:List (List UInt8) × List (List UInt8) × Int × Bool × List (List NdT × Bool × Unit) × List Sc1 × Bool × List (List UInt8) × Bool × Unit=>∃ (R:List (List UInt8)) (i:Int),X=(R,b,i,q,P,C,q2,F,bad,())/\0<=i/\i<=(F.length:Int)/\R.length<=4000+i.toNat/\∀ t,t∈R<->Vq (C.map ot) t\/t∈F.take i.toNat) (λX=>(F.length-X.2.2.1.toNat)) ?_ n _ ⟨_,_,rfl,qEe _,by omega,by omega,λt=>by rw[s1];simp⟩ (by simp only;omega);rintro r X ⟨R,i,rfl,i0,i1,r1,hs⟩ hr;simp only at hr;unfold Vx;simp only;refine Ans.br (λhlt=>?_) (λhge=>?_)
 ·have hlt:=jZ hlt;have hil:i.toNat<F.length:=by omega
  have hw:qEq .i64 (i+1)=i+1:=bD (by omega) (by omega);have hj:(i+1).toNat=i.toNat+1:=by omega
  rw[tF hil,hw];refine Ans.chk (bI i0 (by omega)) (Ans.ob _ (yRs R F[i.toNat] (by omega) (by omega)) λy hy=>?_);refine hr _ ⟨_,_,rfl,by omega,by omega,by omega,λt=>?_⟩ (by simp only;omega);rw[hy.2,hs,hj,qGm hil,qAp,qCp,or_assoc]
 ·have hge:=Am hge;rw[zH (by omega)]at hs;exact Ans.some ⟨by simp only;omega,h2,(λe=>by rw[hb]at e;cases e),λ_=>hs,λ_=>s2⟩
end Go.Dec
namespace Go.Dec
variable {n:Nat}
theorem has_eq(l:List (List UInt8))(w:List UInt8)(hn:l.length<n)(hm:l.length<1000000):Ma n (l,w)=some (l.contains w):=by
 have key:Ans (Ma n (l,w)) λy=>y=l.contains w:=by
  unfold Ma;simp only;refine Ans.loop (λX:List (List UInt8) × List UInt8 × Int × Unit=>∃ i:Int,X=(l,w,i,())/\0<=i/\i<=(l.length:Int)/\w∉l.take i.toNat) (λX=>(l.length-X.2.2.1.toNat)) ?_ n _ ⟨_,rfl,qEe _,by omega,by simp⟩ (by simp only;omega);rintro r X ⟨i,rfl,i0,i1,hv⟩ hr;simp only at hr;unfold zCh;simp only;refine Ans.br (λhlt=>?_) (λhge=>?_)
  ·have hlt:=jZ hlt;have hil:i.toNat<l.length:=by omega
   have hw:qEq .i64 (i+1)=i+1:=bD (by omega) (by omega);have hj:(i+1).toNat=i.toNat+1:=by omega
   refine Ans.chk (bI i0 (by omega)) ?_;rw[tF hil,hw];refine Ans.br (λhe=>Ans.some ?_) (λhne=>hr _ ⟨_,rfl,by omega,by omega,?_⟩ (by simp only;omega))
   ·have he:l[i.toNat]=w:=eq_of_beq he;rw[<- he];simp
   ·rw[hj,qGm hil,qAp];rintro(h|h)
    ·exact hv h
    ·have h:=qCp.1 h;rw[h]at hne;simp at hne
  ·have hge:=Am hge;rw[zH (by omega)]at hv;exact Ans.some (by simpa using hv)
 obtain⟨y,hy,rfl⟩:=key;exact hy
theorem zEf(a b:List (List UInt8))(ha:a.length<n)(hb:b.length<n)(hm:b.length<1000000)(hm2:a.length<1000000):sW n (a,b)=some (comm a b):=by
 have key:Ans (sW n (a,b)) λy=>y=comm a b:=by
  unfold sW;simp only;refine Ans.loop (λX:List (List UInt8) × List (List UInt8) × Int × Unit=>∃ i:Int,X=(a,b,i,())/\0<=i/\i<=(a.length:Int)/\comm (a.take i.toNat) b=false) (λX=>(a.length-X.2.2.1.toNat)) ?_ n _ ⟨_,rfl,qEe _,by omega,by simp[comm]⟩ (by simp only;omega);rintro r X ⟨i,rfl,i0,i1,hv⟩ hr;simp only at hr;unfold Tp;simp only;refine Ans.br (λhlt=>?_) (λhge=>?_)
  ·have hlt:=jZ hlt;have hil:i.toNat<a.length:=by omega
   have hw:qEq .i64 (i+1)=i+1:=bD (by omega) (by omega);have hj:(i+1).toNat=i.toNat+1:=by omega
   refine Ans.chk (bI i0 (by omega)) ?_;rw[tF hil,hw,has_eq _ _ hb hm,aK];refine Ans.br (λhe=>Ans.some ?_) (λhne=>hr _ ⟨_,rfl,by omega,by omega,?_⟩ (by simp only;omega))
   ·exact(zIu.2 ⟨a[i.toNat],wU hil,by simpa using he⟩).symm
   ·rw[hj,qGm hil,zTq,hv];simpa [comm]using hne
  ·have hge:=Am hge;rw[zH (by omega)]at hv;exact Ans.some hv.symm
 obtain⟨y,hy,rfl⟩:=key;exact hy
theorem zIw{a b c d:List (List UInt8)}(h:∀ t,t∈a<->t∈c)(g:∀ t,t∈b<->t∈d):comm a b=comm c d:=by
 apply Bool.eq_iff_iff.2;rw[zIu,zIu];exact⟨λ⟨x,p,q⟩=>⟨x,(h x).1 p,(g x).1 q⟩,λ⟨x,p,q⟩=>⟨x,(h x).2 p,(g x).2 q⟩⟩
structure Two (n:Nat) (g:pm0) (r:pt1) (p q:List (List UInt8) × List (List UInt8)):Prop where
 hp:jB n g=some p
 hq:pE n r=some q
 ok:xAd g p
 l1:q.1.length<=5000
 l2:q.2.length<=4000
 m1:∀ t,t∈p.1<->t∈q.1
 m2:∀ t,t∈p.2<->t∈q.2
def Twin (n:Nat) (g:pm0) (r:pt1):Prop := ∃ p q,Two n g r p q
theorem xDx{g:pm0}{r:pt1}(hn:20000<=n)(h:Sq g.1)(hf:g.2.2.1.length<=900)(h2:r.2=g.2)(h3:r.1.2.2.1.map ot=g.1.2.2.1.map ot):Twin n g r:=by
 have hl:r.1.2.2.1.length<=4000:=by
  have:=congrArg List.length h3;rw[qFs,qFs]at this;rw[this];exact h.2.2.1
 obtain⟨p,hp,sp⟩:=yRv h hf hn;obtain⟨q,hq,sq⟩:=yJk (n:=n) (x:=r) hl (by rw[h2];exact hf) hn;rw[h2,h3]at sq
 suffices hm:(∀ t,t∈p.1<->t∈q.1)/\∀ t,t∈p.2<->t∈q.2 from ⟨p,q,hp,hq,⟨sp.l1,sp.l2,sp.b⟩,sq.l1,sq.l2,hm.1,hm.2⟩
 cases hb:g.2.2.2.1 with
 |true=>exact⟨λt=>by rw[sp.b hb,sq.b hb],λt=>by rw[sp.b hb,sq.b hb]⟩
 |false=>exact⟨λt=>(sp.m1 hb t).trans (sq.m1 hb t).symm,λt=>(sp.m2 hb t).trans (sq.m2 hb t).symm⟩
def pth (n:Nat) (g:pm0):List (List UInt8)×List (List UInt8):=(jB n g).getD ([],[])
def MM (n:Nat) (g h:pm0):Bool:=yDq (pth n g) (pth n h)
theorem yRw{g h:pm0}{r s:pt1}(hn:20000<=n)(a:Twin n g r)(b:Twin n h s):lV n (g,h)=some (MM n g h)/\vK n (r,s)=some (MM n g h):=by
 obtain⟨p,q,A⟩:=a;obtain⟨u,v,B⟩:=b;have e1:pth n g=p:=by unfold pth;rw[A.hp];rfl
 have e2:pth n h=u:=by unfold pth;rw[B.hp];rfl
 have a1:=A.l1;have a2:=A.l2;have b1:=B.l1;have b2:=B.l2;unfold MM;rw[e1,e2];refine⟨xAh A.hp B.hp A.ok B.ok hn,?_⟩;unfold vK;simp only;rw[A.hq,aK,B.hq,aK,zEf _ _ (by omega) (by omega) (by omega) (by omega),aK,zEf _ _ (by omega) (by omega) (by omega) (by omega),aK,zEf _ _ (by omega) (by omega) (by omega) (by omega),aK];unfold yDq;rw[zTq,zIw A.m1 B.m2,zIw A.m2 B.m2,zIw A.m2 B.m1];cases comm q.2 v.1<;>cases comm q.2 v.2<;>cases comm q.1 v.2<;>rfl
abbrev D9:pm0:=Ty.dflt aO
def bar (n:Nat) (g:List pm0) (i:Nat):Bool:=(g.take i).any fun h=>MM n h (g.getD i D9)
theorem yJl{α:Type}{f:α->Bool}{g:List α}{i:Nat}(d:α)(h:i<g.length):(g.take (i+1)).any f=((g.take i).any f||f (g.getD i d)):=by
 rw[qGm h,List.any_append];simp[wG,h]
theorem zTs{l:List Bool}{i k:Nat}{v:Bool}(h:i<l.length):(l.set i v).getD k false=if k=i then v else l.getD k false:=by
 rw[wG,wG,List.getElem?_set];by_cases hk:i=k
 ·subst hk;simp[h]
 ·rw[if_neg hk,if_neg (λe=>hk e.symm)]
theorem xDy{a b:List Bool}(h:a.length=b.length)(g:∀ k,k<a.length->a.getD k false=b.getD k false):a=b:=by
 apply List.ext_getElem h;intro k h1 h2;have:=g k h1
 rwa [wG,wG,wW h1,wW h2]at this
theorem xAi{s:List pm0}{b:pm0}{f:pm0->Bool}(hs:s.length<n)(hm:s.length<1000000)(hf:∀ h,h∈s->lV n (h,b)=some (f h)):Ans (eD n (s,b.1.1,b.1.2.1,b.1.2.2.1,b.2.1,b.2.2.1,b.2.2.2.1,())) λy=>y.1=s.any f:=by
 unfold eD gK;simp only;refine Ans.ob (λy=>decide (y.1≥0)=s.any f) ?_ λy hy=>Ans.some hy
 refine Ans.loop (λX:List pm0 × Int × Int × pm1=>∃ i:Int,X=(s,(s.length:Int),i,b.1.1,b.1.2.1,b.1.2.2.1,b.2.1,b.2.2.1,b.2.2.2.1,())/\0<=i/\i<=(s.length:Int)/\(s.take i.toNat).any f=false) (λX=>(s.length-X.2.2.1.toNat)) ?_ n _ ⟨_,rfl,qEe _,by omega,by simp⟩ (by simp only;omega);rintro r X ⟨i,rfl,i0,i1,hv⟩ hr;simp only at hr;unfold mV;simp only;refine Ans.br (λhlt=>?_) (λhge=>?_)
 ·have hlt:=jZ hlt;have hil:i.toNat<s.length:=by omega
  have hw:qEq .i64 (i+1)=i+1:=bD (by omega) (by omega);have hj:(i+1).toNat=i.toNat+1:=by omega
  refine Ans.chk (bI i0 (by omega)) ?_;rw[tF hil,hw];have hp:=hf _ (wU hil);have ht:=yJl (f:=f) D9 hil;rw[wG,wW hil,Option.getD_some]at ht;generalize s[i.toNat]=v at hp ht;refine Ans.ob (λy=>y=(f v,b.1.1,b.1.2.1,b.1.2.2.1,b.2.1,b.2.2.1,b.2.2.2.1,())) ?_ ?_
  ·unfold En;refine⟨_,?_,rfl⟩;show ob (lV n (v,b)) _=_;rw[hp];rfl
  ·rintro y rfl;refine Ans.br (λhe=>Ans.some ?_) (λhne=>hr _ ⟨_,rfl,by omega,by omega,?_⟩ (by simp only;omega))
   ·rw[decide_eq_true (by simp only;omega)];simp only at he;have:(s.take (i.toNat+1)).any f=true:=by rw[ht,he,Bool.or_true]
    exact(qFc.2 (by obtain⟨x,h1,h2⟩:=qFc.1 this;exact⟨x,List.mem_of_mem_take h1,h2⟩)).symm
   ·rw[hj,ht,hv];simpa using hne
 ·have hge:=Am hge;rw[zH (by omega)]at hv;exact Ans.some (by simp only;rw[hv];rfl)
theorem yKv{g:List pm0}(hn:20000<=n)(hl:g.length<=10)(hM:∀ i k,i<g.length->k<g.length->lV n (g.getD i D9,g.getD k D9)=some (MM n (g.getD i D9) (g.getD k D9))):Ans (uD n g) λy=>y.length=g.length/\∀ k,k<g.length->y.getD k false=bar n g k:=by
 unfold uD;simp only;refine Ans.chk (sI (decide_eq_true (by omega)) (sI (decide_eq_true (by trivial)) (qFr (by simp only[room];omega)))) ?_;refine Ans.loop (λX:List pm0 × List pm0 × Int × Int × List Bool × Unit=>∃ (i:Int) (R:List Bool),X=(g,g,(g.length:Int),i,R,())/\0<=i/\i<=(g.length:Int)/\R.length=g.length/\∀ k,k<i.toNat->R.getD k false=bar n g k) (λX=>(g.length-X.2.2.2.1.toNat)) ?_ n _ ⟨_,_,rfl,qEe _,by omega,by simp,λk h=>absurd h (qFq _)⟩ (by simp only;omega);rintro r X ⟨i,R,rfl,i0,i1,hR,hb⟩ hr;simp only at hr;unfold Pq;simp only;refine Ans.br (λhlt=>?_) (λhge=>?_)
 ·have hlt:=jZ hlt;have hil:i.toNat<g.length:=by omega
  have hw:qEq .i64 (i+1)=i+1:=bD (by omega) (by omega);have hj:(i+1).toNat=i.toNat+1:=by omega
  refine Ans.chk (bI i0 (by omega)) (Ans.chk (Ri i0 i1) ?_);rw[hw];have hf:∀ h,h∈g.take i.toNat->lV n (h,aM (Ty.dflt aO) g i)=some (MM n h (g.getD i.toNat D9)):=by
   intro h hh;obtain⟨k,hk,rfl⟩:=qFp hh;rw[qAb]at hk;have:=hM k i.toNat (by omega) hil;rw[List.getElem_take]
   rwa [wG (i:=k),wW (by omega),Option.getD_some]at this
  refine Ans.ob _ (xAi (n:=n) (s:=g.take i.toNat) (b:=aM (Ty.dflt aO) g i) (by rw[qAb];omega) (by rw[qAb];omega) hf) λy hy=>?_
  refine Ans.chk (sI (bI i0 (by omega)) (decide_eq_true (by omega))) (Ans.chk (decide_eq_true (by omega)) ?_);refine hr _ ⟨_,_,rfl,by omega,by omega,by rw[qAx];exact hR,λk hk=>?_⟩ (by simp only;omega);rw[zTs (by omega)];by_cases he:k=0+i.toNat
  ·rw[if_pos he,hy,he,yY];rfl
  ·rw[if_neg he];exact hb k (by omega)
 ·have hge:=Am hge;exact Ans.some ⟨hR,λk hk=>hb k (by omega)⟩
theorem yCw{g:List pm0}{q:List pt1}(hn:20000<=n)(hl:g.length<=10)(hq:q.length=g.length)(hM:∀ i k,i<g.length->k<g.length->vK n (q.getD i D9,q.getD k D9)=some (MM n (g.getD i D9) (g.getD k D9))):Ans (Ab n q) λy=>y.length=g.length/\∀ k,k<g.length->y.getD k false=bar n g k:=by
 unfold Ab;simp only;refine Ans.chk (sI (decide_eq_true (by omega)) (sI (decide_eq_true (by trivial)) (qFr (by simp only[room];omega)))) ?_;refine Ans.loop (λX:List pt1 × Int × List Bool × Unit=>∃ (i:Int) (R:List Bool),X=(q,i,R,())/\0<=i/\i<=(g.length:Int)/\R.length=g.length/\(∀ k,k<i.toNat->R.getD k false=bar n g k)/\∀ k,i.toNat<=k->R.getD k false=false) (λX=>(g.length-X.2.1.toNat)) ?_ n _ ⟨_,_,rfl,qEe _,by omega,by rw[List.length_replicate];omega,λk h=>absurd h (qFq _),λk _=>by
  rw[wG,List.getElem?_replicate];split<;>rfl⟩ (by simp only;omega)
 rintro r X ⟨j,R,rfl,i0,i1,hR,hb,hz⟩ hr;simp only at hr;unfold Od;simp only;refine Ans.br (λhlt=>?_) (λhge=>?_)
 ·have hlt:=jZ hlt;have hjl:j.toNat<g.length:=by omega
  have hw:qEq .i64 (j+1)=j+1:=bD (by omega) (by omega);have hj:(j+1).toNat=j.toNat+1:=by omega
  refine Ans.loop (λX:List pt1 × Int × Int × List Bool × Unit=>∃ (i:Int) (T:List Bool),X=(q,j,i,T,())/\0<=i/\i<=j/\T.length=g.length/\(∀ k,k≠j.toNat->T.getD k false=R.getD k false)/\T.getD j.toNat false=(g.take i.toNat).any λh=>MM n h (g.getD j.toNat D9)) (λX=>(g.length-X.2.2.1.toNat)) ?_ n _ ⟨_,_,rfl,qEe _,by omega,hR,λ_ _=>rfl,by rw[hz _ (aS _)];simp⟩ (by simp only;omega);rintro r2 X ⟨i,T,rfl,k0,k1,hT,ho,hv⟩ hr2;simp only at hr2;unfold Oc;simp only;have c1:(inB j T.length&&decide (0+T.length<=T.length))=true:=sI (bI i0 (by omega)) (decide_eq_true (by omega));have c2:decide (0+j.toNat<T.length)=true:=decide_eq_true (by omega);refine Ans.br (λhik=>?_) (λhik=>?_)
  ·have hik:=jZ hik;have hig:i.toNat<g.length:=by omega
   have hwi:qEq .i64 (i+1)=i+1:=bD (by omega) (by omega);have hji:(i+1).toNat=i.toNat+1:=by omega
   rw[hwi];have step:∀ b,b=((g.take i.toNat).any (λh=>MM n h (g.getD j.toNat D9))||MM n (g.getD i.toNat D9) (g.getD j.toNat D9))->Ans (r2 (q,j,i+1,T.set (0+j.toNat) b,())) _:=λb hb =>
    hr2 _ ⟨_,_,rfl,by omega,by omega,by rw[qAx];exact hT,λk hk=>by rw[zTs (by omega),if_neg (by omega)];exact ho k hk,by rw[zTs (by omega),if_pos (by omega),hji,yJl D9 hig];exact hb⟩ (by simp only;omega)
   refine Ans.chk c1 (Ans.chk c2 (Ans.br (λht=>?_) λht=>?_))
   ·have ht:T.getD j.toNat false=true:=by rw[yY]at ht;exact ht
    refine Ans.chk c1 (Ans.chk c2 (step _ ?_));rw[<- hv,ht];rfl
   ·have ht:T.getD j.toNat false=false:=by rw[yY]at ht;exact ht
    refine Ans.chk (bI k0 (by omega)) (Ans.chk (bI i0 (by omega)) ?_);have hm:=hM i.toNat j.toNat hig hjl;refine Ans.ob _ ⟨_,hm,rfl⟩ ?_;rintro y rfl;refine Ans.chk c1 (Ans.chk c2 (step _ ?_));rw[<- hv,ht];rfl
  ·have hik:=Am hik;have hij:i=j:=by omega
   rw[hw];refine hr _ ⟨_,_,rfl,by omega,by omega,hT,λk hk=>?_,λk hk=>?_⟩ (by simp only;omega)
   ·by_cases he:k=j.toNat
    ·rw[he,hv,hij];rfl
    ·rw[ho k he];exact hb k (by omega)
   ·rw[ho k (by omega)];exact hz k (by omega)
 ·have hge:=Am hge;exact Ans.some ⟨hR,λk hk=>hb k (by omega)⟩
theorem xDz(a:List Bool)(ha:a.length<n)(hm:a.length<1000000):Hw n (a,a)=some true:=by
 have key:Ans (Hw n (a,a)) λy=>y=true:=by
  unfold Hw;simp only;refine Ans.br (λh=>by simp at h) λ_=>?_
  refine Ans.loop (λX:List Bool × List Bool × Int × Unit=>∃ i:Int,X=(a,a,i,())/\0<=i/\i<=(a.length:Int)) (λX=>(a.length-X.2.2.1.toNat)) ?_ n _ ⟨_,rfl,qEe _,by omega⟩ (by simp only;omega);rintro r X ⟨i,rfl,i0,i1⟩ hr;simp only at hr;unfold Zd;simp only;refine Ans.br (λhlt=>?_) λ_=>Ans.some rfl
  have hlt:=jZ hlt;have hw:qEq .i64 (i+1)=i+1:=bD (by omega) (by omega);rw[hw];exact Ans.chk (bI i0 (by omega)) (Ans.chk (bI i0 (by omega)) (Ans.br (λh=>by simp at h) λ_=>hr _ ⟨_,rfl,by omega,by omega⟩ (by simp only;omega)))
 obtain⟨y,hy,rfl⟩:=key;exact hy
theorem yRx{g:List pm0}{q:List pt1}(hn:20000<=n)(hl:g.length<=10)(hq:q.length=g.length)(hT:∀ i,i<g.length->Twin n (g.getD i D9) (q.getD i D9))(j:Int):∃ v,yA n (g,j)=some v/\Jv n (q,j)=some v:=by
 have key:∀ (m:Nat) (i:Int),-1<=i->i<(g.length:Int)->(i+1).toNat<m->∃ v,fix (Lc n) m (g,i,())=some v/\fix (Im n) m (q,i,())=some v:=by
  intro m;induction m with
  |zero=>intro i _ _ h;exact absurd h (qFq _)
  |succ m ih =>
   intro i h0 h1 hm;rw[Lh,Lh];unfold Lc Im;simp only;by_cases hi:i≥0
   ·rw[decide_eq_true hi,dH,dH,bI hi (by omega),Ce,bI hi (by omega),Ce];obtain⟨p,u,A⟩:=hT i.toNat (by omega);have hp:jB n (aM (Ty.dflt aO) g i)=some p:=A.hp;have hu:pE n (aM (Ty.dflt aO) q i)=some u:=A.hq;rw[hp,aK,hu,aK,bD (x:=i-1) (by omega) (by omega)];have he:decide ((p.2.length:Int)>0)=decide ((u.2.length:Int)>0):=by
     have hm2:=A.m2;apply Bool.eq_iff_iff.2;rw[decide_eq_true_iff,decide_eq_true_iff];have l1:∀ {a b:List (List UInt8)},(∀ t,t∈a->t∈b)->(a.length:Int)>0->(b.length:Int)>0:=by
      intro a b h ha;cases a with
      |nil=>simp at ha
      |cons x r=>have:=List.length_pos_of_mem (h x (.head _));omega
     exact⟨l1 λt=>(hm2 t).1,l1 λt=>(hm2 t).2⟩
    rw[he];cases decide ((u.2.length:Int)>0)with
    |true=>exact⟨_,rfl,rfl⟩
    |false=>exact ih (i-1) (by omega) (by omega) (by omega)
   ·rw[decide_eq_false hi,bS,bS];exact⟨_,rfl,rfl⟩
 unfold yA Jv;simp only;by_cases h0:j<0
 ·rw[decide_eq_true h0];exact⟨_,rfl,rfl⟩
 rw[decide_eq_false h0,bS,bS];by_cases h1:j>(g.length:Int)
 ·rw[hq,decide_eq_true h1];exact⟨_,rfl,rfl⟩
 rw[hq,decide_eq_false h1,bS,bS,bD (x:=j-1) (by omega) (by omega)];exact key n (j-1) (by omega) (by omega) (by omega)
end Go.Dec
namespace Go.Dec
variable {n:Nat}
theorem yVl{Q:List pm0 × Bool->Prop}{l:List pm2}{i:Int}{row:List pm0}{g:List pm2 × Int × List pm0 × Unit->Option (List pm0 × Bool)}(hn:20000<=n)(h0:0<=i)(hi:i<(l.length:Int))(hl:l.length<=1048576)(hr:row.length<=1048576)(hQ:Q ([],false))(hg:∀ s,xKb l[i.toNat]! s->Ans (g (l,i+1,row++[s],())) Q):Ans (El n g (l,i,row,())) Q:=by
 have hil:i.toNat<l.length:=by omega
 have hi2:inB i l.length=true:=bI h0 (by omega);have hat:aM (Ty.dflt qI) l i=l[i.toNat]! := by rw[tF hil];simp[hil]
 unfold El;simp only;rw[hat];generalize hT:l[i.toNat]! = T at hat hg;refine Ans.br (λ_=>Ans.chk hi2 (Ans.br (λ_=>Ans.some hQ) λ_=>Ans.chk hi2 (Ans.br (λ_=>Ans.some hQ) λh5=>?_))) (λh=>absurd (decide_eq_true hi) (by rw[h];exact Bool.false_ne_true));have h5:T.2.1.length<=5:=by have:=Am h5;omega
 refine Ans.loop (λX:List pm2 × Int × Int × List pm0 × Unit=>X.1=l/\X.2.1=i/\0<=X.2.2.1/\X.2.2.1<=5/\X.2.2.2.1=row) (λX=>(5-X.2.2.1).toNat) ?_ n _ ⟨rfl,rfl,qEe _,by simp only;omega,rfl⟩ (by simp only;omega);rintro r ⟨l2,i2,k,Np,⟨⟩⟩ ⟨e1,e2,k0,k1,e3⟩ hr2;simp only at e1 e2 k0 k1 e3 hr2;subst e1 e2 e3;unfold zCe;simp only;rw[hat];refine Ans.chk hi2 (Ans.br (λhk=>?_) λ_=>?_)
 ·have hk:=jZ hk;have hw:qEq .i64 (k+1)=k+1:=bD (by omega) (by omega);refine Ans.chk hi2 (Ans.chk (bI k0 (by omega)) (Ans.br (λ_=>Ans.some hQ) λ_=>?_));exact hr2 _ ⟨rfl,rfl,by rw[hw];simp only;omega,by rw[hw];simp only;omega,rfl⟩ (by rw[hw];simp only;omega)
 ·refine Ans.chk hi2 (Ans.ob _ (xAc hn) λy hy=>?_);have hw:qEq .i64 (i2+1)=i2+1:=bD (by omega) (by omega);refine Ans.chk hi2 (Ans.chk hi2 (Ans.chk (qFr (by simp only[qFl,room];omega)) ?_));rw[hw];exact hg _ ⟨hy,rfl,h5⟩
def Stg (s:pm0):Prop:=Sq s.1 ∧ s.2.2.1.length<=900
theorem xIl(l:List pm2)(hn:20000<=n)(hl:l.length<n)(hm:l.length<=1048576):Ans (Tj n l) λy=>y.2=true->y.1.length<=10/\∀ s,s∈y.1->Stg s:=by
 have hQ:(([],false):List pm0 × Bool).2=true->(([],false):List pm0 × Bool).1.length<=10/\∀ s,s∈(([],false):List pm0 × Bool).1->Stg s:=λh=>by cases h
 unfold Tj;simp only;refine Ans.loop (λX:List pm2 × Int × List pm0 × Unit=>∃ (i:Int) (R:List pm0),X=(l,i,R,())/\0<=i/\i<=(l.length:Int)/\R.length=i.toNat/\∀ s,s∈R->Stg s) (λX=>(l.length-X.2.1.toNat)) ?_ n _ ⟨_,_,rfl,qEe _,by omega,rfl,λ_ h=>(nomatch h)⟩ (by simp only;omega);rintro r X ⟨i,R,rfl,i0,i1,hR,hs⟩ hr;simp only at hr;by_cases hi:i<(l.length:Int)
 ·exact yVl hn i0 hi hm (by omega) hQ λs h=>hr _ ⟨_,_,rfl,by omega,by omega,by simp only[xG,qFl];omega,λt ht=>by
   rcases qAp.1 ht with ht|ht
   ·exact hs t ht
   ·obtain rfl:=qCp.1 ht;exact⟨h.1,by rw[h.2.1];have:=h.2.2;simp only;omega⟩⟩ (by simp only;omega)
 ·unfold El;simp only;rw[decide_eq_false hi,bS];refine Ans.some λh=>⟨?_,hs⟩
  have h:(l.length:Int)<=10:=of_decide_eq_true h;show R.length<=10;omega
theorem yRy{g:List pm0}{j:Int}(hn:20000<=n)(hg:g.length<=10)(hs:∀ s,s∈g->Stg s):Ans (Ac n (j,g,())) λb=>b=true:=by
 unfold Ac;simp only;refine Ans.loop (λX:Int × List pt1 × Int × List pt1 × Unit=>∃ (i:Int) (R:List pt1),X=(j,g,i,R,())/\0<=i/\i<=(g.length:Int)/\R.length=i.toNat/\∀ k,k<i.toNat->Twin n (g.getD k D9) (R.getD k D9)) (λX=>(g.length-X.2.2.1.toNat)) ?_ n _ ⟨_,_,rfl,qEe _,by omega,rfl,λk h=>absurd h (qFq _)⟩ (by simp only;omega);rintro r X ⟨i,R,rfl,i0,i1,hR,ht⟩ hr;simp only at hr;unfold Me;simp only;refine Ans.br (λhlt=>?_) (λhge=>?_)
 ·have hlt:=jZ hlt;have hil:i.toNat<g.length:=by omega
  have hw:qEq .i64 (i+1)=i+1:=bD (by omega) (by omega);refine Ans.chk (bI i0 (by omega)) ?_;rw[hw];have hst:Stg (aM (Ty.dflt aO) g i):=by rw[tF hil];exact hs _ (wU hil)
  refine Ans.ob _ (yVj hn hst.1) λy hy=>?_
  refine Ans.chk (qFr (by simp only[qFl,room];omega)) ?_;refine hr _ ⟨_,_,rfl,by omega,by omega,by simp only[xG,qFl];omega,λk hk=>?_⟩ (by simp only;omega);by_cases he:k=i.toNat
  ·subst he;have:(R++[y]).getD i.toNat D9=y:=by simp[wG,hR]
   rw[this];exact xDx hn hst.1 hst.2 hy.1 hy.2
  ·have:(R++[y]).getD k D9=R.getD k D9:=by
    rw[wG,wG,fU (by omega)]
   rw[this];exact ht k (by omega)
 have hge:=Am hge;have hRl:R.length=g.length:=by omega
 have hT:∀ k,k<g.length->Twin n (g.getD k D9) (R.getD k D9):=λk hk=>ht k (by omega)
 have hM:=λi k (hi:i<g.length) (hk:k<g.length)=>yRw hn (hT i hi) (hT k hk)
 refine Ans.loop (λX:Int × List pt1 × Int × List pt1 × Unit=>∃ i:Int,X=(j,g,i,R,())/\0<=i/\i<=(g.length:Int)) (λX=>(g.length-X.2.2.1.toNat)) ?_ n _ ⟨_,rfl,qEe _,by omega⟩ (by simp only;omega);rintro r1 X ⟨i,rfl,i0,i1⟩ hr1;simp only at hr1;unfold Md;simp only;refine Ans.br (λhlt=>?_) (λ_=>?_)
 ·have hlt:=jZ hlt;have hwi:qEq .i64 (i+1)=i+1:=bD (by omega) (by omega);refine Ans.loop (λX:Int × List pt1 × Int × Int × List pt1 × Unit=>∃ k:Int,X=(j,g,i,k,R,())/\0<=k/\k<=(g.length:Int)) (λX=>(g.length-X.2.2.2.1.toNat)) ?_ n _ ⟨_,rfl,qEe _,by omega⟩ (by simp only;omega);rintro r2 X ⟨k,rfl,k0,k1⟩ hr2;simp only at hr2;unfold Mc;simp only;refine Ans.br (λhkt=>?_) (λ_=>by rw[hwi];exact hr1 _ ⟨_,rfl,by omega,by omega⟩ (by simp only;omega));have hkt:=jZ hkt;have hw:qEq .i64 (k+1)=k+1:=bD (by omega) (by omega);obtain⟨m1,m2⟩:=hM i.toNat k.toNat (by omega) (by omega);have m1:lV n (aM (Ty.dflt aO) g i,aM (Ty.dflt aO) g k)=_:=m1;refine Ans.chk (bI i0 (by omega)) (Ans.chk (bI k0 (by omega)) ?_);rw[m1,aK];refine Ans.chk (sI (bI i0 (by omega)) (decide_eq_true (by omega))) (Ans.chk (decide_eq_true (by omega)) (Ans.chk (sI (bI k0 (by omega)) (decide_eq_true (by omega))) (Ans.chk (decide_eq_true (by omega)) ?_)));rw[yY,yY];refine Ans.ob (λy=>y=MM n (g.getD i.toNat D9) (g.getD k.toNat D9)) ⟨_,m2,rfl⟩ ?_;rintro y rfl;rw[hw];exact Ans.br (λh=>by simp at h) λ_=>hr2 _ ⟨_,rfl,by omega,by omega⟩ (by simp only;omega)
 ·obtain⟨a,ha,a1,a2⟩:=yKv hn hg λi k hi hk=>(hM i k hi hk).1
  obtain⟨b,hb,b1,b2⟩:=yCw hn hg hRl λi k hi hk=>(hM i k hi hk).2
  have hab:b=a:=xDy (by rw[a1,b1]) λk hk=>by rw[b1]at hk;rw[a2 k hk,b2 k hk]
  obtain⟨v,v1,v2⟩:=yRx hn hg hRl hT j;subst hab;rw[ha,aK,hb,aK,xDz _ (by omega) (by omega),aK,dH,v1,aK,v2,aK];exact Ans.some (by simp)
theorem yVm:Dc 2000000 ()=some true:=by kernel_rfl
theorem yDr(x:List pm2 × Int)(hx:x.1.length<=1048576):Oe 2000000 x=some true:=by
 obtain⟨l,j⟩:=x;obtain⟨⟨g,ok⟩,hy,h⟩:=xIl (n:=2000000) l (by omega) (by simp only at hx;omega) hx;unfold Oe;simp only at h ⊢;rw[hy,aK,yVm,aK,aK];cases ok with
 |false=>rfl
 |true =>
  obtain⟨h1,h2⟩:=h rfl;obtain⟨b,hb,rfl⟩:=yRy (n:=2000000) (j:=j) (by omega) h1 h2;exact hb
end Go.Dec
namespace Go.Dec
open Go.Proofs.YtfbilefiaminnaaGreatDoor
theorem yVo{H:Type}{enc:TypeId × Value->H}{P:Program}{w w2:World}{N:Nat->Nat->Prop}{base:Nat}{spare:Nat->Bool}{held:Bool}{t e:TypeId}{ts:List TypeId}{v:Value}{vs:List Value}{ds:List (DataW H)}{ps:List MemPlace}{T:Ty}{xs:List T.den}(ht:P.underlying t=some (.slice e))(hr:(Ty.slice T).Rel w2 N xs [v])(h:DataW.TrodAll enc P w base spare held (t::ts) (v::vs) ds ps):xs=[]\/∃ el sp r,ds=.slice el sp::r/\el.length=xs.length:=by
 obtain⟨u,hu,hr⟩:=hr;obtain rfl:v=u:=by simpa using hu
 match ds,h with
 |d::r,⟨p,q,⟨fuel,h1⟩,_,_⟩=>
  rcases DataW.trod_slice ht h1 with ⟨hc,_⟩|⟨a,len,cap,elems,rest,k,_,hc,hx,_,_,_,hl,_⟩
  ·rcases hr with ⟨_,rfl⟩|⟨b,off,cap,css,rfl,_⟩|⟨a,cap,rfl,rfl,_⟩
   ·exact .inl rfl
   ·simp[Value.cells]at hc
   ·exact .inl rfl
  ·have hx:d=.slice (elems.map (·.1)) (rest.map (·.1)):=congrArg qEs hx;rcases hr with ⟨_,rfl⟩|⟨b,off,cap2,css,rfl,_⟩|⟨a,cap,rfl,rfl,_⟩
   ·exact .inl rfl
   ·simp only[Value.cells,aL,Value.slice.injEq]at hc;refine .inr ⟨_,_,r,by rw[hx],?_⟩;rw[qFs,hl];exact hc.1.2.1.symm
   ·exact .inl rfl
theorem xAj{H:Type}(d:DataW H):1<=Rows.uptoBulk d:=by
 cases d with
 |lit l=>cases l<;>simp[Rows.uptoBulk]
 |_=>simp[Rows.uptoBulk]
theorem yDs{H:Type}:∀ l:List (DataW H),l.length<=Rows.uptoBulkAll l
 |[]=>by simp
 |d::r=>by
  have h1:=xAj d;have h2:=yDs r;simp only[Rows.uptoBulkAll,List.length_cons];omega
end Go.Dec
namespace Go.Dec
theorem yMx{P:Program}(h:P.funcs.any Func.goes=false)(f:FuncId):P.goes f=false:=by
 have hg:∀ g:Nat,(P.funcs[g]?).any Func.goes=false:=by
  intro g;cases hx:P.funcs[g]? with
  |none=>rfl
  |some fn =>
   rw[Array.any_eq_false]at h;obtain⟨hl,he⟩:=Array.getElem?_eq_some_iff.1 hx;have:=h g hl;rw[he]at this;simpa using this
 unfold Program.goes;rw[h,Bool.and_false,Bool.or_false];simp[hg]
theorem yRz{P:Program}(h:P.funcs.any Func.goes=false)(c:OpenClaim):false=c.goesBy P:=by
 unfold OpenClaim.goesBy Program.goesAt Program.goesFrom;have h1:∀ o:Option FuncId,o.any P.goes=false:=λo=>by cases o<;>simp[yMx h]
 rw[h1];cases c.start<;>simp[yMx h]
end Go.Dec
