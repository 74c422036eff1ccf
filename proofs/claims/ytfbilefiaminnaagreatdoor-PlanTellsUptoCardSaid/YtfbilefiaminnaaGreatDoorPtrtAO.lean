import Derived.Test.YtfbilefiaminnaaGreatDoorPtrtAN
import Derived.Lib.SmallJoins
import Derived.Test.YtfbilefiaminnaaGreatDoorPtrtAI
import Derived.Test.YtfbilefiaminnaaGreatDoorPtrtAM
open Go.Proofs.Tryz renaming prog->qEr
open Nat renaming beq->vF,zero_add->yY,lt_trichotomy->qDv,sub_self->qEd,zero_le->qAm,min_self->qDx
open List renaming range->qAr,getElem?_append_right->yZ,mem_range->qDr,getElem?_cons_zero->qAi,getElem?_cons_succ->qEa,length_append->xG,all_eq_true->qFb,mem_append_left->qAq,getElem?_set_self->qAv,getElem?_set_ne->qAw,mem_append->qAp,mem_singleton->qCp,any_eq_true->qFc,getElem?_eq_none->qAu,getElem?_map->qBx,length_cons->xI,length_zip->qDw,getElem?_take_of_lt->qEb,zip_cons_cons->qFd,map_cons->qBt,mem_append_right->qAh,mem_flatMap->qFf,filter->qFh,getElem?_eq_getElem->wW,mem_filterMap->qDt,append_nil->vE,length_drop->yV,mem_of_getElem?->qDk,nil_append->qDc,cons_append->qCt,map_nil->qFi,mem_map->qBw,append_assoc->wE
open Array renaming getElem?_eq_some_iff->qCk,length_toList->qAc,replicate->qDy,getElem?_setIfInBounds_ne->qFe,toList_push->qCn,toList_filter->qFg,getElem?_toList->qCj,toList->qFj
open Go.Oper renaming apart->qDp
open Bool renaming or_eq_true->qDq,false_eq_true->qBs
open Option renaming getD_some->qCx,map_some->kU
open Option.some renaming inj->qBc
namespace Go.Dec
section
variable {ρ:Type}{Γ:Orc ρ}{T:Tab}{π:FuncId->Option PE}
theorem Goes.ld{σ:St}{o:Oper}{v:V}{h':List Ob}{t:TypeId}{p:Operand}{l:L}(ho:o.op=.load t p)(hp:ovl σ p=.one l)(h:Goes π T σ o v h'):h'=σ.h/\loadAt T σ.h t l=some (true,v)/\∀ h2,loadAt T h2 t l=loadAt T σ.h t l->Goes π T ⟨σ.r,h2⟩ o v h2:=by
 obtain⟨dst,op,type,pos,after,guard⟩:=o;have e:∀ h2 y,ovl ⟨σ.r,h2⟩ y=ovl σ y:=λh2 y=>by cases y<;>rfl
 simp only at ho;subst ho;unfold Goes at h ⊢;simp only[nQ,isM,isX,isS,gN,e,hp]at h ⊢;split at h
 ·rename_i c u hc;simp only[aA,aC]at h;obtain⟨rfl,rfl,rfl⟩:=h;exact⟨rfl,hc,λh2 he=>by rw[he,hc]⟩
 ·cases h
theorem Goes.xGy{σ:St}{o:Oper}{v:V}{h':List Ob}{args:Array Operand}{ats:Array TypeId}{p:Operand}{sid ver:Nat}(ho:o.op=.call { callee:=.builtin .len,args:=args,argTypes:=ats })(ha:args.toList=[p])(hp:ovl σ p=.one (.own sid ver))(h:Goes π T σ o v h'):h'=σ.h/\∀ h2,h2[sid]?=σ.h[sid]?->Goes π T ⟨σ.r,h2⟩ o v h2:=by
 obtain⟨dst,op,type,pos,after,guard⟩:=o;have e:∀ h2 y,ovl ⟨σ.r,h2⟩ y=ovl σ y:=λh2 y=>by cases y<;>rfl
 simp only at ho;subst ho;unfold Goes at h ⊢;simp only[nQ,isM,isX,isS,gN,ha]at h ⊢;have key:∀ h2 t,h2[sid]?=σ.h[sid]?->Uw T ⟨σ.r,h2⟩ t p=Uw T σ t p:=λh2 t he=>by
  have hs:zNq h2 (L.view h2 (.own sid ver))=zNq σ.h (L.view σ.h (.own sid ver)):=by
   rw[yLc he];simp only[L.view];split<;>simp only[zNq,he]
  simp only[Uw,e,hp];split
  ·have hq:=‹V.one (L.own sid ver)=V.one _›;simp only[V.one.injEq]at hq;subst hq;simp only[hs]
  ·rfl
 cases zGo:ats.toList with
 |nil=>rw[zGo]at h;cases h
 |cons t r =>
  cases r with
  |cons _ _=>rw[zGo]at h;cases h
  |nil =>
   rw[zGo]at h;simp only at h ⊢;split at h
   ·rename_i c u hc;simp only[aA,aC]at h;obtain⟨rfl,rfl,rfl⟩:=h;exact⟨rfl,λh2 he=>by rw[key h2 t he,hc]⟩
   ·cases h
theorem Goes.xGz{σ:St}{o:Oper}{v:V}{h':List Ob}{args:Array Operand}{ats:Array TypeId}{p:Operand}{sid ver:Nat}(ho:o.op=.call { callee:=.builtin .len,args:=args,argTypes:=ats })(ha:args.toList=[p])(hp:ovl σ p=.one (.own sid ver))(h:Goes π T σ o v h')(hn:σ.h[sid]?=none):∀ h2,Goes π T ⟨σ.r,h2⟩ o v h2:=by
 obtain⟨dst,op,type,pos,after,guard⟩:=o;have e:∀ h2 y,ovl ⟨σ.r,h2⟩ y=ovl σ y:=λh2 y=>by cases y<;>rfl
 simp only at ho;subst ho;unfold Goes at h ⊢;simp only[nQ,isM,isX,isS,gN,ha]at h ⊢;cases zGo:ats.toList with
 |nil=>rw[zGo]at h;cases h
 |cons t r =>
  cases r with
  |cons _ _=>rw[zGo]at h;cases h
  |nil =>
   rw[zGo]at h;simp only at h ⊢;split at h
   ·rename_i c u hc;simp only[aA,aC]at h;obtain⟨rfl,rfl,rfl⟩:=h;intro h2;have:Uw T ⟨σ.r,h2⟩ t p=some (true,u):=by
     simp only[Uw,e,hp]at hc ⊢;split at hc
     ·have hq:=‹V.one (L.own sid ver)=V.one _›;simp only[V.one.injEq]at hq;subst hq;simp only[L.view,hn,zNq]at hc;split at hc
      ·exact hc
      all_goals cases hc
     ·cases hc
    simp only[this]
   ·cases h
def Tv(x:Oper):Option Operand :=
 match x.op with
 |.load _ p=>some p
 |.call { callee:=.builtin .len,args,.. }=>match args.toList with
  |[p]=>some p
  |_=>none
 |_=>none
def zCj(T:Tab)(t:TypeId):Bool:=match T.get t with|some ti=>vF ti.size 1|none=>false
def Zf(T:Tab)(σ:St)(rid:Nat)(oV ids:List Nat)(x:Oper)(u:Nat):Bool :=
 match x.guard with
 |some _=>false
 |none =>
  match x.op with
  |.load t p=>match ovl σ p with
   |.one (.ptr id off)=>vF id rid&&(vF u (6+2*rid)&&(oV.any (vF off)&&zCj T t))
   |_=>false
  |.call { callee:=.builtin .len,args,.. }=>match args.toList with
   |[p]=>match ovl σ p with
    |.one (.own sid _)=>vF u 1&&!ids.any (vF sid)
    |_=>false
   |_=>false
  |_=>false
def yDl(x:Oper):List Oper->Bool
 |[]=>true
 |y::r=>(match Tv x,y.dst with|some (.tmp t),some d=>!vF t d|_,_=>true)&&yDl x r
theorem zVt{x:Oper}:∀ {l:List Oper},yDl x l=true->∀ y∈l,∀ p,Tv x=some p->∀ d,y.dst=some d->p≠.tmp d
 |[],_,_,h,_,_,_,_=>by cases h
 |z::l,h,y,hy,p,hp,d,hd=>by
  simp only[yDl,aD]at h;cases hy with
  |head =>
   intro e;subst e;rw[hp,hd]at h;simp at h
  |tail _ hy=>exact zVt h.2 y hy p hp d hd
theorem yAx{π:FuncId->Option PE}{ops:Array Oper}{p:Operand}:∀ {L:List (Oper × Nat)}{σ σA:St},(∀ y∈L,∀ d,y.1.dst=some d->p≠.tmp d)->Run π T ops L σ σA->ovl σA p=ovl σ p
 |[],σ,σA,_,h=>by obtain rfl:=h;rfl
 |(x,u)::L,σ,σA,hp,h=>by
  obtain⟨v,h',_,h⟩:=h;rw[yAx (λy hy=>hp y (.tail _ hy)) h];exact zEo λt ht=>hp _ (.head _) t ht
def Free (T:Tab) (ops:Array Oper) (o:Oper) (rid:Nat) (oV ids:List Nat) (σA:St) (L:List (Oper×Nat)):Prop :=∀ A x u B,L = A++(x,u) :: B->qDp ops x o = true ∧ (Ni ids u = true ∨ (Zf T σA rid oV ids x u = true ∧ ∀ y ∈ (x,u) :: B,∀ p,Tv x = some p -> ∀ d,y.1.dst = some d->p ≠ .tmp d))
theorem Free.tail{ops:Array Oper}{o:Oper}{rid:Nat}{oV ids:List Nat}{σA:St}{x:Oper × Nat}{L:List (Oper × Nat)}(h:Free T ops o rid oV ids σA (x::L)):Free T ops o rid oV ids σA L:=λA y u B e=>h (x::A) y u B (by rw[e];rfl)
theorem xDh{a:Nat}{l:List Nat}(h:(!l.any (vF a))=true):a∉l:=λhm=>by
 have:l.any (vF a)=true:=qFc.2 ⟨a,hm,Nat.beq_refl a⟩;rw[this]at h;cases h
theorem zLy{ops:Array Oper}{o:Oper}{rid:Nat}{oV ids:List Nat}{v:V}:∀ {L:List (Oper × Nat)}{σ σA:St}{h':List Ob},Free T ops o rid oV ids σA L->Run π T ops L σ σA ->
 (∀ id,id<σ.h.length->id∉ids->h'[id]?=σ.h[id]?)->(∀ off∈oV,∀ t,zCj T t=true->loadAt T h' t (.ptr rid off)=loadAt T σ.h t (.ptr rid off))->σA.h=σ.h/\Run π T ops L ⟨cB σ.r o.dst v,h'⟩ ⟨cB σA.r o.dst v,h'⟩/\∀ y∈o.op.operands,ovl σA y=ovl σ y
 |[],σ,σA,h',_,hr,_,_=>by
  obtain rfl:=hr;exact⟨rfl,rfl,λ_ _=>rfl⟩
 |(x,u)::L,σ,σA,h',hf,hrun,hh,hld=>by
  have xJp:=hrun;obtain⟨v1,h1,g,hr⟩:=hrun;obtain⟨ha,hu⟩:=hf [] x u L rfl;obtain⟨a1,a2,a3⟩:=Oper.apart_spec ha;have key:h1=σ.h/\zM π T ops ⟨cB σ.r o.dst v,h'⟩ x u v1 h':=by
   rcases hu with hu|⟨hu,hset⟩
   ·simp only[Ni,qDq,aD]at hu;rcases hu with hu|⟨hu,hp⟩
    ·have hu:=aP hu;obtain⟨e,k1⟩:=g.dry hu;have k:∀ h3,iA π T ops ⟨cB σ.r o.dst v,h3⟩ x v1 h3:=λh3=>(k1 h3).move o.dst v (.inl rfl) rfl a3
     exact⟨e,k h',λ_=>⟨rfl,k⟩,λ_=>rfl,(λh6=>by omega),(λh3=>by omega),aS _⟩
    ·have hrd:rdB u=true:=by simp only[rdB,hu,Bool.or_true]
     simp only[zKu,aD]at hu;have h6:=bX hu.1;have h0:=aP hu.2;obtain⟨id,fo,k1,k2,k3,k4,k5⟩:=g.at6 h6;obtain rfl:=k3 h0;have hid:id∉ids:=by
      intro hm;have e:u / 2-3=id:=by omega
      rw[e]at hp;cases hq:pos id ids 0 with
      |some q=>rw[hq]at hp;cases hp
      |none=>exact zGy.zKz hq hm
     have he:=hh id k2 hid;have hlt:id<h'.length:=by
      rcases jF id h'.length with h|h
      ·exact h
      ·rw[qAu h,wW k2]at he;cases he
     refine⟨k4,(k5 h' he).move o.dst v (.inl rfl) rfl a3,λh=>by omega,λ_=>rfl,λ_=>⟨id,none,k1,hlt,k3,rfl,λh2 he2=>(k5 h2 (he2.trans he)).move o.dst v (.inl rfl) rfl a3⟩,(λh=>by omega),aS _⟩
   ·have hk:∀ p,Tv x=some p->ovl σA p=ovl σ p:=λp hp=>yAx (λy hy=>hset y hy p hp) xJp
    unfold Zf at hu;split at hu
    ·cases hu
    ·rename_i hg;split at hu
     ·rename_i t p ho;have hp:=hk p (by simp only[Tv,ho]);split at hu
      ·rename_i id off hpo;rw[hp]at hpo;simp only[aD]at hu;obtain⟨e1,e2,e3,e9⟩:=hu;have e1:=aP e1;have e2:=aP e2;subst e1;obtain⟨off',hm,e4⟩:=qFc.1 e3;have e4:=aP e4;subst e4;have hgo:Goes π T σ x v1 h1:=by
        have:=g.goes;unfold iA at this;rw[hg]at this;rcases this with h|⟨h,_⟩|⟨_,h⟩
        ·exact h
        ·simp only[Yp,ho,zKv]at h;cases h
        ·simp only[Ux,ho]at h;cases h
       obtain⟨rfl,l1,l2⟩:=hgo.ld ho hpo;have hlt:id<h'.length:=zQi (l:=.ptr id off) rfl ((hld off hm t e9).trans l1);have mk:∀ h2,loadAt T h2 t (.ptr id off)=loadAt T σ.h t (.ptr id off)->iA π T ops ⟨cB σ.r o.dst v,h2⟩ x v1 h2:=λh2 he=>by
        have:iA π T ops ⟨σ.r,h2⟩ x v1 h2:=by unfold iA;rw[hg];exact .inl (l2 h2 he)
        exact this.move o.dst v (.inl rfl) rfl a3
       refine⟨rfl,mk h' (hld off hm t e9),λh=>by omega,λ_=>rfl,λ_=>⟨id,none,by omega,hlt,λ_=>rfl,rfl,λh2 he2=>mk h2 ((yAg (l:=.ptr id off) rfl he2).trans (hld off hm t e9))⟩,λh=>by omega,aS _⟩
      ·cases hu
     ·rename_i args ats ho;split at hu
      ·rename_i p hargs;have hp:=hk p (by simp only[Tv,ho,hargs]);split at hu
       ·rename_i sid ver hpo;rw[hp]at hpo;simp only[aD]at hu;obtain⟨e2,e3⟩:=hu;have e2:=aP e2;subst e2;have hni:=xDh e3;have hgo:Goes π T σ x v1 h1:=by
         have:=g.goes;unfold iA at this;rw[hg]at this;rcases this with h|⟨h,_⟩|⟨_,h⟩
         ·exact h
         ·simp only[Yp,ho,zGv]at h;cases h
         ·simp only[Ux,ho]at h;cases h
        obtain⟨rfl,l2⟩:=hgo.xGy ho hargs hpo;refine⟨rfl,?_,λh=>by omega,λ_=>rfl,λh=>by omega,λh=>by omega,aS _⟩;have:iA π T ops ⟨σ.r,h'⟩ x v1 h':=by
         unfold iA;rw[hg];rcases jF sid σ.h.length with hlt|hge
         ·exact .inl (l2 h' (hh sid hlt hni))
         ·exact .inl (hgo.xGz ho hargs hpo (qAu hge) h')
        exact this.move o.dst v (.inl rfl) rfl a3
       ·cases hu
      ·cases hu
     ·cases hu
  obtain⟨rfl,g2⟩:=key;obtain⟨k1,k2,k3⟩:=zLy (σ:=⟨cB σ.r x.dst v1,σ.h⟩) (h':=h') hf.tail hr hh hld;refine⟨k1,⟨v1,h',g2,?_⟩,λy hy=>?_⟩
  ·have e:cB (cB σ.r o.dst v) x.dst v1=cB (cB σ.r x.dst v1) o.dst v:=(zKw a2).symm;simp only[e];exact k2
  ·rw[k3 y hy];have hne:∀ t,x.dst=some t->y≠.tmp t:=λt ht e=>a1 t ht (by
    subst e;exact qAq _ (qDt.2 ⟨.tmp t,by simpa using hy,rfl⟩))
   exact zEo hne
theorem zQo{π:FuncId->Option PE}{ops:Array Oper}:∀ {L M:List (Oper × Nat)}{σ σ1 σ2:St},Run π T ops L σ σ1->Run π T ops M σ1 σ2->Run π T ops (L++M) σ σ2
 |[],M,σ,σ1,σ2,h,h2=>by obtain rfl:=h;exact h2
 |(x,u)::L,M,σ,σ1,σ2,h,h2=>by
  obtain⟨v,h',g,h⟩:=h;exact⟨v,h',g,zQo h h2⟩
theorem yQk{LA LB:List (Oper × Nat)}{p:Oper × Nat}{listed:Array Bool}{i n:Nat}(hLA:LA.length=i)(hsz:listed.size=n)(hi:i<n)(hlen:(LA++p::LB).length=n)(Ww:∀ m,i<m->m<n->listed.getD m false=false):lN (LA++p::LB) (listed.setIfInBounds i true)=lN LA listed++LB:=by
 subst hLA;unfold lN;rw[range_split (i:=LA.length) (by rw[hlen];exact hi),List.filterMap_append,List.filterMap_cons];have hat:iB (LA++p::LB) (listed.setIfInBounds LA.length true) LA.length=none:=by
  unfold iB;rw[if_pos];have:LA.length<listed.size:=by omega
  simp[this]
 rw[hat];congr 1
 ·refine iG λm hm=>?_
  have hm:=qDr.1 hm;unfold iB;rw[getD_set_ne true (by omega),fU hm]
 ·rw[List.filterMap_map];have hll:(LA++p::LB).length-LA.length-1=LB.length:=by simp
  rw[hll];have:(qAr LB.length).filterMap (iB (LA++p::LB) (listed.setIfInBounds LA.length true) ∘ λk=>LA.length+1+k)=(qAr LB.length).filterMap (λk=>LB[k]?):=iG λk hk=>by
   have hk:=qDr.1 hk;simp only[Function.comp];unfold iB;have xIw:LA.length+LB.length+1=n:=by rw[<- hlen];simp;omega
   have h1:=Ww (LA.length+1+k) (by omega) (by omega);have h2:listed.getD (LA.length+1+k) true=false:=by
    have:LA.length+1+k<listed.size:=by omega
    simpa [this]using h1
   rw[getD_set_ne true (by omega),h2];rw[yZ (by omega),show LA.length+1+k-LA.length=k+1 by omega,qEa];simp
  rw[this];exact Lp LB
theorem zVu{C:Ctx}(hT:bU C.P T)(hΓ:kW C.P Γ){ops:Array Oper}(hd:yO ops.toList 0=true){j:Nat}{o:Oper}{f:FuncId}{args:Array Operand}(hj:ops[j]?=some o)(hg:o.guard=none){ats:Array TypeId}(hop:o.op=.call { callee:=.value (.func f),args:=args,argTypes:=ats }){LA:List (Oper × Nat)}{σA:St}{r:ρ}{k:Dec.K ρ}{Q:Exit->Act->World->Prop}(hLA:LA.length=j)(hL:∀ i,i<j->ops[i]?=(LA[i]?).map (·.1))(hrow:∀ i o u,LA[i]?=some (o,u)->∀ i' x v,i'<i->LA[i']?=some (x,v)->(qDp ops x o=true/\Gy 0 v u=true)\/ahead ops ops.size i' i=true)(hafter:Kz ops j (ops.size-(j+1)) (j+1)=true){rid:Nat}{oV ids:List Nat}(hfree:∀ i x u,LA[i]?=some (x,u)->(qDp ops x o=true/\(Ni ids u=true\/(Zf T σA rid oV ids x u=true/\∀ i' y u',i<=i'->LA[i']?=some (y,u')->∀ p,Tv x=some p->∀ d,y.dst=some d->p≠.tmp d)))\/ahead ops ops.size i j=true)(hb:iK C.P f=true)(hcall:Ed C.P f (jQ σA args.toList) σA.h λout h'=>((match out with
  |.ret v=>mF Γ.quiet T 0 ops (ops.toList.drop (j+1)) (j+1) (LA.map (·.2)++[0]) ⟨cB σA.r o.dst v,h'⟩ λ_ σ2=>k .normal σ2
  |.pan t v=>k (.pan t v) ⟨σA.r.map λ_=>.cK,h'⟩)=some r)/\(∀ id,id<σA.h.length->id∉ids->h'[id]?=σA.h[id]?)/\∀ off∈oV,∀ t,zCj T t=true->loadAt T h' t (.ptr rid off)=loadAt T σA.h t (.ptr rid off))(hq:∀ e x σ' β' a' w',Sim C β' σ' a' w'->Nc β' w' (C.N β' σ'.h) e x->k e σ'=some r->Q x a' w'):∀ (fuel:Nat) (listed:Array Bool) (β:Nat->Pl) (σ:St) (a:Act) (w:World),listed.size=ops.size->Closed ops listed->listed.getD j true=false->(lN LA listed).length+(ops.size-j)<=fuel->Run Γ.pure T ops (lN LA listed) σ σA->Sim C β σ a w->wpAny C.P .any ops Q fuel listed a w
 |0,listed,β,σ,a,w,hsz,hcl,hjl,hfu,h,hs=>by
  have hlt:=(qCk.1 hj).1;omega
 |fuel+1,listed,β,σ,a,w,hsz,hcl,hjl,hfu,h,hs=>by
  have hjlt:=(qCk.1 hj).1;have Ww:∀ i,j<i->i<ops.size->listed.getD i false=false:=by
   intro i hji hi;cases hli:listed.getD i false with
   |false=>rfl
   |true =>
    have hah:=Ck hafter (i-(j+1)) (by omega);rw[show j+1+(i-(j+1))=i by omega]at hah;have:=nK hcl hah λo' ho' e he hb=>hcl i o' ho' hli e he hb
    rw[Ay hsz hjlt hjl]at this;cases this
  refine⟨λhr=>?_,λi hi=>?_⟩
  ·exfalso;refine zGx (L:=ops.toList.map λo=>(o,0)) (λi=>by simp only[qBx,qCj];cases ops[i]?<;>rfl) hd hsz ?_ hr;intro h0;obtain⟨A,B,e1,_,_⟩:=Hg (L:=ops.toList.map λo=>(o,0)) (i:=j) (o:=(o,0)) (by simp[hj]) hjl;rw[h0]at e1;simp at e1
  ·obtain⟨h1,o1,ho1,hall⟩:=mem_ready.1 hi;have hlt:i<ops.size:=(qCk.1 ho1).1;have yEv:Closed ops (listed.setIfInBounds i true):=by
    intro m o2 ho2 hl e he hb;by_cases hmi:i=m
    ·subst hmi;rw[ho1]at ho2;simp only[aA]at ho2;subst ho2;exact getD_set_true (hall e he hb)
    ·rw[getD_set_ne false hmi]at hl;exact getD_set_true (hcl m o2 ho2 hl e he hb)
   rcases qDv i j with hij|hij|hij
   ·cases hLi:LA[i]? with
    |none=>rw[hL i hij,hLi]at ho1;cases ho1
    |some p =>
     obtain⟨o',u⟩:=p;rw[hL i hij,hLi]at ho1;simp only[kU,aA]at ho1;subst ho1;obtain⟨A,B,e1,e2,hA⟩:=Hg hLi h1;have hfr:∀ x∈A,qDp ops x.1 o'=true/\Gy 0 x.2 u=true:=λx hx=>by
      obtain⟨m,hm,hmo,hml⟩:=hA x hx;rcases hrow i o' u hLi m x.1 x.2 hm hmo with hf|hf
      ·exact hf
      ·have:=nK hcl hf λo2 ho2=>by
        rw[hL i hij,hLi]at ho2;simp only[kU,aA]at ho2;subst ho2;exact hall
       rw[Ay hsz (by omega) hml]at this;cases this
     rw[e1]at h;obtain⟨v,h',g,h⟩:=front (qAm _) hfr h;rw[e1]at hfu;simp only[xG,xI]at hfu;refine zKx hT hΓ (by rw[hL i hij,hLi];rfl) g.goes hs λβ' a' w' hs'=>?_
     refine zVu hT hΓ hd hj hg hop hLA hL hrow hafter hfree hb hcall hq fuel _ β' _ a' w' (by simpa using hsz) yEv ?_ (by rw[e2];simp only[xG];omega) (by rw[e2];exact h) hs';rw[getD_set_ne true (by omega)];exact hjl
   ·subst hij;rw[hj]at ho1;simp only[aA]at ho1;subst ho1;have hfr:Free T ops o rid oV ids σA (lN LA listed):=λA x u B hAB=>by
     obtain⟨l1,l2,e1,e2,e3⟩:=List.filterMap_eq_append_iff.1 hAB;obtain⟨l3,m,l4,rfl,e4,e5,e6⟩:=List.filterMap_eq_cons_iff.1 e3;have hpw:(l1++(l3++m::l4)).Pairwise (· < ·):=e1 ▸ List.pairwise_lt_range;have hmr:m∈qAr LA.length:=by rw[e1];simp
     have hml:=qDr.1 hmr;unfold iB at e5;split at e5
     ·cases e5
     ·rename_i xJq;rcases hfree m x u e5 with hf|hf
      ·refine⟨hf.1,hf.2.imp (λh=>h) λh=>⟨h.1,λy hy=>?_⟩⟩;have:∃ m',m<=m'/\LA[m']?=some y:=by
        cases hy with
        |head=>exact⟨m,aS _,e5⟩
        |tail _ hy =>
         rw[<- e6]at hy;obtain⟨m',hm',hme⟩:=qDt.1 hy;unfold iB at hme;split at hme
         ·cases hme
         ·have h2:=(List.pairwise_append.1 (List.pairwise_append.1 hpw).2.1).2.1;exact⟨m',Nat.le_of_lt ((List.pairwise_cons.1 h2).1 m' hm'),hme⟩
       obtain⟨m',h1,h2⟩:=this;exact h.2 m' y.1 y.2 h1 h2
      ·have:=nK hcl hf λo2 ho2=>by
        rw[hj]at ho2;simp only[aA]at ho2;subst ho2;exact hall
       rw[Ay hsz (by omega) (by simpa using xJq)]at this;cases this
    obtain⟨eh,_,yXa⟩:=zLy (v:=.cK) (h':=σ.h) hfr h (λ_ _ _=>rfl) λ_ _ _ _=>rfl
    have ea:jQ σA args.toList=jQ σ args.toList:=He λy hy=>yXa y (by rw[hop];simp only[Op.operands,Call.operands];simp at hy ⊢;exact .inr hy)
    rw[ea,eh]at hcall;have hlen:=zGz h;unfold wpOp;simp only[hj];rw[if_pos (by simp[Region.wanted,hg])];refine .inl (yKy (cs:=[]) hop (by simp[callee,ovl,zEi]) hb (by rw[vE];exact hcall) hs ?_ ?_)
    ·intro v h' β' a' w' ⟨hk,zLa,xLk⟩ hs';obtain⟨vs,σe,l1,l2,l3,l4⟩:=Hf hΓ hk;obtain⟨_,hrA,_⟩:=zLy (v:=v) (h':=h') hfr h zLa xLk;rw[eh]at *
     let L:List (Oper × Nat):=LA++(o,0)::(ops.toList.drop (i+1)).zip vs
     have hLL:∀ m:Nat,ops[m]?=(L[m]?).map (·.1):=λm=>by
      rcases qDv m i with hm|hm|hm
      ·rw[hL m hm];simp only[L];rw[fU (by omega)]
      ·subst hm;simp only[L];rw[yZ (by omega),hLA,qEd];simpa using hj
      ·simp only[L];rw[yZ (by omega),hLA,show m-i=(m-i-1)+1 by omega,qEa,zip_fst l1,List.getElem?_drop,show i+1+(m-i-1)=m by omega];simp
     have yOp:L.length=ops.size:=by
      simp only[L,xG,xI,qDw,l1,qDx,yV,qAc,hLA];omega
     have yEw:lN L (listed.setIfInBounds i true)=lN LA listed++(ops.toList.drop (i+1)).zip vs:=yQk hLA hsz hjlt yOp Ww;refine zBy hT hΓ hd hLL ?_ (λβ2 a2 w2 hs2=>hq .normal .normal σe β2 a2 w2 hs2 rfl l3) fuel _ β' _ a' w' (by simpa using hsz) yEv ?_ (qAm _) ?_ hs'
     ·intro m om u hm i' x v' him hi';rcases qDv m i with hmi|hmi|hmi
      ·have e1:LA[m]?=some (om,u):=by simp only[L]at hm;rwa [fU (by omega)]at hm
       have e2:LA[i']?=some (x,v'):=by simp only[L]at hi';rwa [fU (by omega)]at hi'
       exact hrow m om u e1 i' x v' him e2
      ·subst hmi;simp only[L]at hm hi';rw[yZ (by omega),hLA,qEd,qAi,aA,aC]at hm;obtain⟨rfl,rfl⟩:=hm;rw[fU (by omega)]at hi';rcases hfree i' x v' hi' with hf|hf
       ·exact .inl ⟨hf.1,by simp[Gy]⟩
       ·exact .inr hf
      ·simp only[L]at hm;rw[yZ (by omega),hLA,show m-i=(m-i-1)+1 by omega,qEa]at hm;obtain⟨hm1,hm2⟩:=xM hm;have hrw:=l4 (m-i-1) om u hm1 hm2;rw[show i+1+(m-i-1)=m by omega]at hrw;refine(Gz hrw i' v' x ?_ (by rw[yY,hLL i'];rw[hi'];rfl)).elim .inl (λh=>.inr (by rwa [yY]at h));rcases qDv i' i with h2|h2|h2
       ·simp only[L]at hi';rw[fU (by omega)]at hi';rw[fU (by simp;omega),fU (by simp;omega),qBx,hi'];rfl
       ·subst h2;simp only[L]at hi';rw[yZ (by omega),hLA,qEd,qAi,aA,aC]at hi';obtain⟨rfl,rfl⟩:=hi';rw[fU (by simp;omega),yZ (by simp;omega)];simp[hLA]
       ·simp only[L]at hi';rw[yZ (by omega),hLA,show i'-i=(i'-i-1)+1 by omega,qEa]at hi';obtain⟨_,hi2⟩:=xM hi';rw[yZ (by simp;omega)];simp only[xG,List.length_map,xI,List.length_nil,hLA];rw[show i'-(i+(0+1))=i'-i-1 by omega,qEb (by omega)];exact hi2
     ·have hsl:ops.toList.length=ops.size:=qAc;rw[yEw,xG,qDw,l1,qDx,yV,hsl];omega
     ·rw[yEw];exact zQo hrA l2
    ·intro t v h' β' w' y ⟨hk,_⟩ hs' hy;have:=hs'.cK (n:=σ.r.length) rfl σA.r hlen;exact hq (.pan t v) _ _ β' a w' this ⟨y,rfl,hy⟩ hk
   ·have:=Ww i hij hlt;exfalso;have hah:=Ck hafter (i-(j+1)) (by omega);rw[show j+1+(i-(j+1))=i by omega]at hah;have:=nK hcl hah λo' ho'=>by
     rw[ho1]at ho';simp only[aA]at ho';subst ho';exact hall
    rw[Ay hsz hjlt hjl]at this;cases this
def zHk (T:Tab) (ops:Array Oper) (j:Nat) (o:Oper) (rid:Nat) (oV ids:List Nat) (σ:St):List Oper->List Nat->Nat->Bool | x :: xs,v :: vs,i=>(ahead ops ops.size i j||(qDp ops x o&&(Ni ids v||(Zf T σ rid oV ids x v&&yDl x (x :: xs)))))&&zHk T ops j o rid oV ids σ xs vs (i+1) | _,_,_=>true
theorem zJe{ops:Array Oper}{j:Nat}{o:Oper}{rid:Nat}{oV ids:List Nat}{σ:St}:∀ {xs:List Oper}{vs:List Nat}{k:Nat},zHk T ops j o rid oV ids σ xs vs k=true->∀ i x u,(xs.zip vs)[i]?=some (x,u) ->
 (qDp ops x o=true/\(Ni ids u=true\/(Zf T σ rid oV ids x u=true/\∀ i' y u',i<=i'->(xs.zip vs)[i']?=some (y,u')->∀ p,Tv x=some p->∀ d,y.dst=some d->p≠.tmp d)))\/ahead ops ops.size (k+i) j=true
 |[],_,_,_,_,_,_,h=>by simp at h
 |_::_,[],_,_,_,_,_,h=>by simp at h
 |z::xs,v::vs,k,hc,i,x,u,h=>by
  simp only[zHk,aD,qDq]at hc;cases i with
  |zero =>
   simp only[qFd,qAi,aA,aC]at h;obtain⟨rfl,rfl⟩:=h;rcases hc.1 with h1|⟨h1,h2⟩
   ·exact .inr h1
   ·refine .inl ⟨h1,h2.imp (λh=>h) λh=>⟨h.1,λi' y u' _ hy p hp d hd=>?_⟩⟩;have hm:=(List.of_mem_zip (qDk hy)).1;exact zVt h.2 y hm p hp d hd
  |succ i =>
   rw[qFd,qEa]at h;have:=zJe hc.2 i x u h;rw[show k+1+i=k+(i+1)by omega]at this;refine this.imp (λh=>⟨h.1,h.2.imp (λh=>h) λh=>⟨h.1,λi' y u' hi hy p hp d hd=>?_⟩⟩) (λh=>h);cases i' with
   |zero=>omega
   |succ i' =>
    rw[qFd,qEa]at hy;exact h.2 i' y u' (by omega) hy p hp d hd
def yQl{ρ:Type}(Γ:Orc ρ)(T:Tab)(ops:Array Oper)(j rid:Nat)(oV:List Nat)(zLz:List V->List Ob->List Nat)(gen:List V->List Ob->(Out->List Ob->Option ρ)->Option ρ)(f:FuncId)(σ:St)(k:K ρ):Option ρ :=
 match yO ops.toList 0 with
 |true =>
  match ops[j]? with
  |some o =>
   match o.op,o.guard with
   |.call { callee:=.value (.func g),args,.. },none =>
    match vF g f with
    |true=>mF Γ.quiet T 0 ops (ops.toList.take j) 0 [] σ λus σ1 =>
     match Kz ops j (ops.size-(j+1)) (j+1)&&zHk T ops j o rid oV (zLz (jQ σ1 args.toList) σ1.h) σ1 (ops.toList.take j) us 0 with
     |true=>gen (jQ σ1 args.toList) σ1.h λout h'=>match out with
      |.ret v=>mF Γ.quiet T 0 ops (ops.toList.drop (j+1)) (j+1) (us++[0]) ⟨cB σ1.r o.dst v,h'⟩ λ_ σ2=>k .normal σ2
      |.pan t v=>k (.pan t v) ⟨σ1.r.map λ_=>.cK,h'⟩
     |false=>none
    |false=>none
   |_,_=>none
  |none=>none
 |false=>none
theorem yUa{C:Ctx}(hT:bU C.P T)(hΓ:kW C.P Γ)(hm:C.P.follows .mixedOrders=true){id:Nat}{ops:Array Oper}{j rid:Nat}{oV:List Nat}{zLz:List V->List Ob->List Nat}{gen:List V->List Ob->(Out->List Ob->Option ρ)->Option ρ}{f:FuncId}{r:ρ}{Q:Exit->Act->World->Prop}{k:Dec.K ρ}{β:Nat->Pl}{σ:St}{a:Act}{w:World}(hgen:∀ vs h kk r,gen vs h kk=some r->iK C.P f=true/\Ed C.P f vs h λout h'=>kk out h'=some r/\(∀ id,id<h.length->id∉zLz vs h->h'[id]?=h[id]?)/\∀ off∈oV,∀ t,zCj T t=true->loadAt T h' t (.ptr rid off)=loadAt T h t (.ptr rid off))(hq:∀ e x σ' β' a' w',Sim C β' σ' a' w'->Nc β' w' (C.N β' σ'.h) e x->k e σ'=some r->Q x a' w')(h:yQl Γ T ops j rid oV zLz gen f σ k=some r)(hs:Sim C β σ a w):(Code.region id ops true).wp C.P Q a w:=by
 unfold yQl at h;split at h
 case h_2=>cases h
 rename_i hd;split at h
 case h_2=>cases h
 rename_i o hj;split at h
 case h_2=>cases h
 rename_i g args ats hop hg;split at h
 case h_2=>cases h
 rename_i hgf;have hgf:=aP hgf;subst hgf;obtain⟨vs,σA,hlen,hrun,hk,hrow⟩:=Hf hΓ h;have hjlt:=(qCk.1 hj).1;have hvl:vs.length=j:=by rw[hlen,List.length_take,qAc];omega
 have hzl:((ops.toList.take j).zip vs).length=j:=by rw[qDw,hlen,qDx,<- hlen,hvl]
 rw[qDc]at hk;split at hk
 case h_2=>cases hk
 rename_i hc;simp only[aD]at hc;have hL:∀ i,i<j->ops[i]?=(((ops.toList.take j).zip vs)[i]?).map (·.1):=λi hi=>by
  rw[zip_fst hlen,qEb hi];simp
 have hmap:((ops.toList.take j).zip vs).map (·.2)=vs:=List.map_snd_zip (by omega);refine wp_region_any hm ?_;have hj0:(qDy ops.size false).getD j true=false:=by simp[hjlt]
 have e:lN ((ops.toList.take j).zip vs) (qDy ops.size false)=(ops.toList.take j).zip vs:=by
  unfold lN;have e1:(qAr ((ops.toList.take j).zip vs).length).filterMap (iB ((ops.toList.take j).zip vs) (qDy ops.size false))=(qAr ((ops.toList.take j).zip vs).length).filterMap (λi=>((ops.toList.take j).zip vs)[i]?):=iG λi hi=>by
   unfold iB;have:=qDr.1 hi;rw[hzl]at this;simp[show i<ops.size by omega]
  rw[e1];exact Lp _
 obtain⟨hb,hcall⟩:=hgen _ _ _ _ hk;refine zVu (LA:=(ops.toList.take j).zip vs) hT hΓ hd hj hg hop hzl hL ?_ hc.1 (λi x u hi=>?_) hb (by rw[hmap];exact hcall) hq _ _ β σ a _ (by simp) ?_ hj0 (by rw[e,hzl];omega) (by rw[e];exact hrun) (hs.drawn _)
 ·intro i o u hi i' x v hij hi';obtain⟨hi1,hi2⟩:=xM hi;obtain⟨xKs,yXc⟩:=xM hi';have h1:=hrow i o u hi1 hi2;rw[yY,qDc]at h1;have hlt2:i'<j:=by
   have:=(bK.1 hi2).1;omega
  have h2:=Gz h1 i' v x (by rw[qEb hij];exact yXc) (by rw[yY,hL i' hlt2,hi'];rfl)
  rwa [yY]at h2
 ·have:=zJe hc.2 i x u hi
  rwa [yY]at this
 ·intro m o2 ho2 hl;simp only[Array.getD_eq_getD_getElem?,Array.getElem?_replicate]at hl;split at hl<;>cases hl
end
end Go.Dec
namespace Go.Dec
section
variable {P:Program}{f:FuncId}{si so:Sh}{T:Tab}
def lone:L->Bool | .own ..=>true | .val (.int _) _=>true | _=>false
theorem zCk{l:L}(h:lone l=true):l.size=1:=by
 unfold lone at h;split at h
 ·rfl
 ·rfl
 ·cases h
theorem zQp:∀ {ls:List L}{n:Nat}{a b:List L},kS ls n=some (a,b)->ls=a++b
 |ls,0,a,b,h=>by
  have:kS ls 0=some ([],ls):=by cases ls<;>rfl
  rw[this]at h;simp only[aA,aC]at h;obtain⟨rfl,rfl⟩:=h;rfl
 |[],n+1,a,b,h=>by cases h
 |l::r,n+1,a,b,h=>by
  simp only[kS]at h;split at h
  ·cases hr:kS r (n+1-l.size)with
   |none=>rw[hr]at h;cases h
   |some p =>
    rw[hr]at h;simp only[kU,aA,aC]at h;obtain⟨rfl,rfl⟩:=h;rw[qCt,<- zQp hr]
  ·cases h
def sits(ls:List L)(off j:Nat):Bool:=match kS ls off with|some (a,_)=>vF a.length j&&vF (sizes (ls.take j)) off|none=>false
theorem take1{ls:List L}{off j:Nat}{l:L}(h:sits ls off j=true)(hj:ls[j]?=some l)(hl:l.size=1):Cj ls off 1=some [l]:=by
 unfold sits at h;split at h
 ·rename_i a b hs;simp only[aD]at h;have h1:=aP h.1;have e:=zQp hs;have hb:b=l::b.tail:=by
   rw[e,yZ (by omega),h1,qEd]at hj;cases b with
   |nil=>cases hj
   |cons x r=>simp only[qAi,aA]at hj;subst hj;rfl
  unfold Cj;rw[hs];simp only;rw[hb];simp only[kS,hl];cases b.tail<;>rfl
 ·cases h
def zHl:List (Nat × Nat)->List L->Option (List L × List L)
 |[],ls=>some (ls,[])
 |(off,j)::r,ls=>match ls[j]? with
  |some l=>match lone l&&sits ls off j with
   |true=>match zHl r (ls.set j (.bad 1))with
    |some (ls',os)=>some (ls',l::os)
    |none=>none
   |false=>none
  |none=>none
def Ve:List (Nat × Nat)->List L->List L->Option (List L)
 |[],ls,_=>some ls
 |(off,j)::r,ls,l::os=>match ls[j]? with
  |some (.bad 1)=>match sits ls off j with
   |true=>Ve r (ls.set j l) os
   |false=>none
  |_=>none
 |_::_,_,[]=>none
section
variable {β:Nat->Pl}{w:World}{N:Nat->Nat->Prop}
def Held (β:Nat->Pl) (w:World) (N:Nat->Nat->Prop) (cs:List Value):List (Nat×Nat)->List L->Prop | [],[]=>True | (off,_) :: r,l :: os=>(∃ c,cs[off]? = some c ∧ l.Rel β w N [c] ∧ lone l = true) ∧ Held β w N cs r os | _,_=>False
theorem zCl{ls:List L}{off j:Nat}(h:sits ls off j=true):sizes (ls.take j)=off:=by
 unfold sits at h;split at h
 ·simp only[aD]at h;exact aP h.2
 ·cases h
theorem zSj:∀ {js:List (Nat × Nat)}{ls ls' os:List L}{cs:List Value},zHl js ls=some (ls',os)->aJ β w N ls cs->aJ β w N ls' cs/\Held β w N cs js os
 |[],ls,ls',os,cs,h,hr=>by
  simp only[zHl,aA,aC]at h;obtain⟨rfl,rfl⟩:=h;exact⟨hr,trivial⟩
 |(off,j)::r,ls,ls',os,cs,h,hr=>by
  simp only[zHl]at h;split at h
  case h_2=>cases h
  rename_i l hl;split at h
  case h_2=>cases h
  rename_i hc;simp only[aD]at hc;split at h
  case h_2=>cases h
  rename_i ls2 os2 h2;simp only[aA,aC]at h;obtain⟨rfl,rfl⟩:=h;obtain⟨c,g1,g2⟩:=aJ.cell (zCk hc.1) hl hr;obtain⟨k1,k2⟩:=zSj h2 (hr.tell (zCk hc.1) (by simp only[L.Rel];exact⟨rfl,L.Rel.one g2⟩) hl g1);rw[zCl hc.2]at g1;exact⟨k1,⟨c,g1,g2,hc.1⟩,k2⟩
theorem yGs:∀ {js:List (Nat × Nat)}{ls ls' os:List L}{cs:List Value},Ve js ls os=some ls'->aJ β w N ls cs->Held β w N cs js os->aJ β w N ls' cs
 |[],ls,ls',os,cs,h,hr,_=>by
  simp only[Ve,aA]at h;subst h;exact hr
 |(off,j)::r,ls,ls',[],cs,h,hr,hh=>by cases h
 |(off,j)::r,ls,ls',l::os,cs,h,hr,hh=>by
  simp only[Ve]at h;split at h
  case h_2=>cases h
  rename_i hl;split at h
  case h_2=>cases h
  rename_i hc;obtain⟨⟨c,g1,g2,_⟩,hh⟩:=hh;rw[<- zCl hc]at g1;exact yGs h (hr.tell rfl g2 hl g1) hh
def atK:List (Nat × Nat)->List L->List L->Bool
 |[],_,_=>true
 |(off,j)::r,ls,l'=>sits ls off j&&sits l' off j&&atK r ls l'
end
def yQm(vs:List V)(h:List Ob):Option (Nat × TypeId × List L):=
 match vs with
 |.one (.ptr rid 0)::_=>match h[rid]? with
  |some (.box e ls)=>some (rid,e,ls)
  |_=>none
 |_=>none
def yDm(js:List (Nat × Nat))(vs:List V)(h:List Ob):List Nat :=
 match yQm vs h with
 |some (rid,e,ls)=>match zHl js ls with
  |some (lsh,_)=>rid::reach vs (h.set rid (.box e lsh))
  |none=>reach vs h
 |none=>reach vs h
theorem yGt:∀ {js:List (Nat × Nat)}{ls ls' os:List L},zHl js ls=some (ls',os)->∀ (i:Nat) (p:Nat × Nat),js[i]?=some p->∃ l,os[i]?=some l/\ls[p.2]?=some l/\lone l=true
 |[],_,_,_,_,i,p,hp=>by simp at hp
 |(off,j)::r,ls,ls',os,h,i,p,hp=>by
  simp only[zHl]at h;split at h
  case h_2=>cases h
  rename_i l hl;split at h
  case h_2=>cases h
  rename_i hc;simp only[aD]at hc;split at h
  case h_2=>cases h
  rename_i ls2 os2 h2;simp only[aA,aC]at h;obtain⟨rfl,rfl⟩:=h;cases i with
  |zero =>
   simp only[qAi,aA]at hp;subst hp;exact⟨l,rfl,hl,hc.1⟩
  |succ i =>
   obtain⟨l',k1,k2,k3⟩:=yGt h2 i p (by simpa using hp);refine⟨l',by simpa using k1,?_,k3⟩;by_cases hj:j=p.2
   ·subst hj;rw[qAv (bK.1 hl).1]at k2;simp only[aA]at k2;subst k2;cases k3
   ·rwa [qAw hj]at k2
theorem yAy{q:Nat}{l0:L}(hl:lone l0=true):∀ {js:List (Nat × Nat)}{ls ls' os:List L},Ve js ls os=some ls'->ls[q]?=some l0->ls'[q]?=some l0
 |[],ls,ls',os,h,hq=>by
  simp only[Ve,aA]at h;subst h;exact hq
 |(off,j)::r,ls,ls',[],h,hq=>by cases h
 |(off,j)::r,ls,ls',l::os,h,hq=>by
  simp only[Ve]at h;split at h
  case h_2=>cases h
  rename_i hb;split at h
  case h_2=>cases h
  refine yAy hl h ?_;have hne:j≠q:=λe=>by
   subst e;rw[hb]at hq;simp only[aA]at hq;subst hq;cases hl
  rwa [qAw hne]
theorem yGu:∀ {js:List (Nat × Nat)}{ls ls' os:List L},Ve js ls os=some ls'->(∀ l∈os,lone l=true)->∀ (i:Nat) (p:Nat × Nat),js[i]?=some p->∃ l,os[i]?=some l/\ls'[p.2]?=some l
 |[],_,_,_,_,_,i,p,hp=>by simp at hp
 |(off,j)::r,ls,ls',[],h,_,i,p,hp=>by cases h
 |(off,j)::r,ls,ls',l::os,h,ho,i,p,hp=>by
  simp only[Ve]at h;split at h
  case h_2=>cases h
  rename_i hb;split at h
  case h_2=>cases h
  cases i with
  |zero =>
   simp only[qAi,aA]at hp;subst hp;exact⟨l,rfl,yAy (ho l (.head _)) h (by rw[qAv (bK.1 hb).1])⟩
  |succ i =>
   obtain⟨l',k1,k2⟩:=yGu h (λl hl=>ho l (.tail _ hl)) i p (by simpa using hp);exact⟨l',by simpa using k1,k2⟩
theorem yMe:∀ {js:List (Nat × Nat)}{ls ls':List L},atK js ls ls'=true->∀ p∈js,sits ls p.1 p.2=true/\sits ls' p.1 p.2=true
 |[],_,_,_,p,hp=>by cases hp
 |(off,j)::r,ls,ls',h,p,hp=>by
  simp only[atK,aD]at h;cases hp with
  |head=>exact⟨h.1.1,h.1.2⟩
  |tail _ hp=>exact yMe h.2 p hp
theorem Held.lone{β:Nat->Pl}{w:World}{N:Nat->Nat->Prop}{cs:List Value}:∀ {js:List (Nat × Nat)}{os:List L},Held β w N cs js os->∀ l∈os,Dec.lone l=true
 |[],[],_,l,hl=>by cases hl
 |[],_::_,h,_,_=>h.elim
 |_::_,[],h,_,_=>h.elim
 |_::_,_::_,h,l,hl=>by
  cases hl with
  |head =>
   obtain⟨⟨_,_,_,g⟩,_⟩:=h;exact g
  |tail _ hl=>exact Held.lone h.2 l hl
theorem Held.move{β β':Nat->Pl}{w w':World}{N N':Nat->Nat->Prop}(hm:Moves β β'){cs cs':List Value}:∀ {js:List (Nat × Nat)}{os:List L},(∀ p∈js,cs'[p.1]?=cs[p.1]?)->Held β w N cs js os->Held β' w' N' cs' js os
 |[],[],_,_=>trivial
 |[],_::_,_,h=>h.elim
 |_::_,[],_,h=>h.elim
 |p::js,l::os,hc,h=>by
  obtain⟨⟨c,g1,g2,g3⟩,h⟩:=h;refine⟨⟨c,by rw[hc p (.head _)];exact g1,?_,g3⟩,Held.move hm (λq hq=>hc q (.tail _ hq)) h⟩;unfold Dec.lone at g3;split at g3
  ·rename_i id ver;simp only[L.Rel]at g2 ⊢;obtain⟨z1,z2,z3,c0,z4,z5,z6⟩:=g2;rcases hm id z1 with e|⟨g1,g2,g3,g4⟩
   ·rw[e];exact⟨z1,z2,z3,c0,z4,z5,z6⟩
   ·exact⟨g2,g3,by omega,c0,z4,z5,λhv=>by omega⟩
  ·simp only[L.Rel,Ty.Rel]at g2 ⊢;exact g2
  ·cases g3
def InK:List (Nat × Nat)->List L->List Value->List L->Prop
 |[],ls,[],ls'=>ls'=ls
 |(off,j)::r,ls,v::vs,ls'=>ls[j]?=some (.bad 1)/\sits ls off j=true/\InK r (ls.set j (.val .opq v)) vs ls'
 |_,_,_,_=>False
def Qp:List (Nat × Nat)->List L->List Value->List L->Prop
 |[],ls,[],ls'=>ls'=ls
 |(off,j)::r,ls,v::vs,ls'=>ls[j]?=some (.val .opq v)/\sits ls off j=true/\Qp r (ls.set j (.bad 1)) vs ls'
 |_,_,_,_=>False
theorem InK.rel{β:Nat->Pl}{w:World}{N:Nat->Nat->Prop}{cs:List Value}:∀ {js:List (Nat × Nat)}{ls ls':List L},InK js ls (js.map λp=>(cs[p.1]?).getD undef) ls'->aJ β w N ls cs->aJ β w N ls' cs/\∀ p∈js,∃ c,cs[p.1]?=some c
 |[],ls,ls',h,hr=>by
  simp only[qFi,InK]at h;subst h;exact⟨hr,λp hp=>by cases hp⟩
 |(off,j)::r,ls,ls',h,hr=>by
  simp only[qBt,InK]at h;obtain⟨h1,h2,h3⟩:=h;obtain⟨c,g1,g2⟩:=aJ.cell (l:=.bad 1) rfl h1 hr;have g1':=g1;rw[zCl h2]at g1;rw[g1]at h3;simp only[qCx]at h3;have hone:=L.Rel.one g2 c (.head _);have xLl:(L.val .opq c).Rel β w N [c]:=by simp only[L.Rel,Ty.Rel];exact⟨trivial,hone⟩
  obtain⟨k1,k2⟩:=InK.rel h3 (hr.tell (l:=.bad 1) rfl xLl h1 g1');refine⟨k1,λp hp=>?_⟩;cases hp with
  |head=>exact⟨c,g1⟩
  |tail _ hp=>exact k2 p hp
theorem Qp.rel{β:Nat->Pl}{w:World}{N:Nat->Nat->Prop}{cs cs0:List Value}:∀ {js:List (Nat × Nat)}{ls ls':List L},Qp js ls (js.map λp=>(cs0[p.1]?).getD undef) ls'->aJ β w N ls cs->aJ β w N ls' cs/\∀ p∈js,cs[p.1]?=some ((cs0[p.1]?).getD undef)
 |[],ls,ls',h,hr=>by
  simp only[qFi,Qp]at h;subst h;exact⟨hr,λp hp=>by cases hp⟩
 |(off,j)::r,ls,ls',h,hr=>by
  simp only[qBt,Qp]at h;obtain⟨h1,h2,h3⟩:=h;obtain⟨c,g1,g2⟩:=aJ.cell (by rfl) h1 hr;have hc:c=(cs0[off]?).getD undef:=by
   simp only[L.Rel,Ty.Rel]at g2;simpa using g2.1
  have hb:(L.bad 1).Rel β w N [c]:=by simp only[L.Rel];exact⟨rfl,L.Rel.one g2⟩
  obtain⟨k1,k2⟩:=Qp.rel h3 (hr.tell (by rfl) hb h1 g1);rw[zCl h2]at g1;refine⟨k1,λp hp=>?_⟩;cases hp with
  |head=>rw[g1,hc]
  |tail _ hp=>exact k2 p hp
theorem xBi{C:Ctx}{β β':Nat->Pl}{w w':World}{h h1:List Ob}{vs:List V}{rid b:Nat}{e e':TypeId}{ls lsh os ls' ls2:List L}{js:List (Nat × Nat)}{y:so.X}{us:List Value}(hb:h[rid]?=some (.box e ls))(hh:zHl js ls=some (lsh,os))(hh1:h.set rid (.box e lsh)=h1)(hs:fC C β h w)(hs1:fC C β h1 w)(hN1:∀ b j,b<w.heap.size->C.N β h1 b j->C.N β h b j)(hnd:nodupB (reach vs h1)=true)(hlt:∀ i∈reach vs h1,i<h1.length)(hwr:∀ (j:Nat) (o:Ob),(inH (reach vs h1) h1)[j]?=some o->o.wr=true)(Jm:vQ (inH (reach vs h1) h1) so.os=true)(yYu:(gD (reach vs h1) h1 (so.enc y).h)[rid]?=some (.box e' ls'))(xHa:Ve js ls' os=some ls2)(hat:atK js ls ls2=true)(hs':Sim (inC C β h1 w (reach vs h1) hs1) β' (so.enc y) { tmps:=us.toArray,defers:=[] } w')(hbb:(β rid).blk=some b)(hcell:∀ off∈js.map (·.1),w'.cell? ⟨b,off,none⟩=w.cell? ⟨b,off,none⟩):∃ β2,Moves β β2/\Keep (C.N β h) w w'/\(∀ b j,b<w.heap.size->C.N β2 ((gD (reach vs h1) h1 (so.enc y).h).set rid (.box e' ls2)) b j->C.N β h b j)/\fC C β2 ((gD (reach vs h1) h1 (so.enc y).h).set rid (.box e' ls2)) w' /\
  bJ (λv u=>V.Rel β2 w' (C.N β2 ((gD (reach vs h1) h1 (so.enc y).h).set rid (.box e' ls2))) v u) ((so.enc y).r.map (V.back (lS (reach vs h1) h1.length) (jX (reach vs h1) h1))) us /\
  (∀ id,id<h.length->id∉rid::reach vs h1->((gD (reach vs h1) h1 (so.enc y).h).set rid (.box e' ls2))[id]?=h[id]?) /\
  ∀ off∈js.map (·.1),∀ t,zCj T t=true->loadAt T ((gD (reach vs h1) h1 (so.enc y).h).set rid (.box e' ls2)) t (.ptr rid off)=loadAt T h t (.ptr rid off):=by
 have zGr:=(bK.1 hb).1;have hbx:=hs.obj _ _ hb;simp only[Ob.Rel]at hbx;obtain⟨q1,q2,rb,rcs,q3,q4,q5⟩:=hbx;rw[hbb]at q3;simp only[aA]at q3;subst q3;have xBj:=(zSj hh q4).2;obtain⟨β2,m1,m2,m3,m4,m5⟩:=zHf hs1 hnd hlt hwr Jm hs';have yGv:=m4.obj _ _ yYu;simp only[Ob.Rel]at yGv;obtain⟨p1,p2,pb,pcs,p3,p4,p5⟩:=yGv;have hpb:pb=b:=by
  rcases m1 rid q1 with e|⟨e,_⟩
  ·rw[e,hbb]at p3;simpa using p3.symm
  ·rw[q2]at e;cases e
 subst hpb;have hpc:∀ p∈js,pcs[p.1]?=rcs[p.1]?:=λp hp=>by
  have h1:w'.cell? ⟨pb,p.1,none⟩=pcs[p.1]?:=by
   simp only[World.cell?,p5];simp
  have h2:w.cell? ⟨pb,p.1,none⟩=rcs[p.1]?:=by
   simp only[World.cell?,q5];simp
  rw[<- h1,<- h2];exact hcell p.1 (List.mem_map_of_mem hp)
 obtain⟨hs2,hN2⟩:=m4.zKr (ls':=ls2) yYu (λcs hcs hheap=>by
  have hcs2:cs=pcs:=by
   rw[p3]at hheap;simp only[qCx]at hheap;rw[p5]at hheap;simp only[aA,Obj.cells.injEq]at hheap;have:=congrArg qFj hheap.1;simpa using this.symm
  subst hcs2;exact yGs xHa hcs (xBj.move m1 hpc))
 have hsz:w.heap.size<=w'.heap.size:=m2.size;have hlt':=(bK.1 yYu).1;refine⟨β2,m1,(Keep.refl _ w).uJ m2 λb i hb hN=>hN1 b i hb hN,λb i hlt2 hb=>hN1 b i hlt2 (m3 b i hlt2 (hN2 b i (by omega) hb)),hs2,bJ.mono (λv u hv=>V.Rel.mono (Moves.refl β2) (Keep.refl _ w') hN2 hv) m5,λid hid hni=>?_,λoff hoff t ht=>?_⟩
 ·have hne:id≠rid:=λe=>hni (by rw[e];exact .head _)
  have hnr:id∉reach vs h1:=λe=>hni (.tail _ e)
  rw[qAw (Ne.symm hne),Sc (by rw[<- hh1];simpa using hid) hnr,<- hh1,qAw (Ne.symm hne)]
 ·obtain⟨p,hp,rfl⟩:=qBw.1 hoff;obtain⟨i,hi⟩:=List.getElem?_of_mem hp;obtain⟨l,k1,k2,k3⟩:=yGt hh i p hi;obtain⟨l',k4,k5⟩:=yGu xHa xBj.lone i p hi;rw[k1]at k4;simp only[aA]at k4;subst k4;obtain⟨s1,s2⟩:=yMe hat p hp;unfold zCj at ht;split at ht
  ·rename_i ti hti;have ht:=aP ht;simp only[loadAt,hti,qAv hlt',hb,ht,take1 s1 k2 (zCk k3),take1 s2 k5 (zCk k3)]
  ·cases ht
def zSk(P:Program)(f:FuncId)(oV:List Nat)(si so:Sh)(tp:TypeId)(sp:Sh)(F:si.X->Option (Sum so.X sp.X)):Prop :=
 iK P f=true/\∀ x y,F x=some y->∀ (C:Ctx) (β:Nat->Pl) (w:World) (xs:List Value) (b:Nat),C.P=P->C.fix.length<=si.os.length->Sim C β (si.enc x) { tmps:=xs.toArray,defers:=[] } w->C.fix[0]?=some (some b) ->
  Calls P f xs.toArray w λe w'=>((∃ (z:so.X) (us:List Value) (β':Nat->Pl),y=.inl z/\e=.returned (sP us)/\Sim C β' (so.enc z) { tmps:=us.toArray,defers:=[] } w') \/
   ∃ (z:sp.X) (u:Value) (β':Nat->Pl),y=.inr z/\e=.panicked [{ v:=.iface tp u,recovered:=false }]/\Sim C β' (sp.enc z) { tmps:=#[u],defers:=[] } w')/\∀ off∈oV,w'.cell? ⟨b,off,none⟩=w.cell? ⟨b,off,none⟩
def yQn(js:List (Nat × Nat))(rid:Nat)(ls os:List L)(hp:List Ob):Option (List Ob):=
 match hp[rid]? with
 |some (.box e' ls')=>match Ve js ls' os with
  |some ls2=>match atK js ls ls2 with
   |true=>some (hp.set rid (.box e' ls2))
   |false=>none
  |none=>none
 |_=>none
theorem yAz{js:List (Nat × Nat)}{rid:Nat}{ls os:List L}{hp h2:List Ob}(h:yQn js rid ls os hp=some h2):∃ e' ls' ls2,hp[rid]?=some (.box e' ls')/\Ve js ls' os=some ls2/\atK js ls ls2=true/\h2=hp.set rid (.box e' ls2):=by
 unfold yQn at h;split at h
 case h_2=>cases h
 rename_i e' ls' h1;split at h
 case h_2=>cases h
 rename_i ls2 h2;split at h
 case h_2=>cases h
 rename_i h3;simp only[aA]at h;exact⟨e',ls',ls2,h1,h2,h3,h.symm⟩
def yGw {ρ : Type} (js : List (Nat × Nat)) (rid : Nat) (si so : Sh) (tp : TypeId) (sp : Sh) (F : si.X -> Option (Sum so.X sp.X)) (vs : List V) (h : List Ob) (k : Out -> List Ob -> Option ρ) : Option ρ :=
  match yQm vs h with
  | some (yQo, e, ls) =>
    match vF yQo rid with
    | true => match zHl js ls with
      | some (lsh, os) =>
        let h1 := h.set rid (.box e lsh)
        match si.dec ⟨vs.map (V.ren (reach vs h1) h1), inH (reach vs h1) h1⟩ with
        | some x => chk (zEp (reach vs h1) h1 si so && (vQ (inH (reach vs h1) h1) sp.os && xGv.yQj rid (reach vs h1))) (ob2 (F x)
            (fun y => match yQn js rid ls os (gD (reach vs h1) h1 (so.enc y).h) with
              | some h2 => k (.ret (zYh ((so.enc y).r.map (V.back (lS (reach vs h1) h1.length) (jX (reach vs h1) h1))))) h2
              | none => none)
            (fun z => match yQn js rid ls os (gD (reach vs h1) h1 (sp.enc z).h) with
              | some h2 => k (.pan tp (xFk ((sp.enc z).r.map (V.back (lS (reach vs h1) h1.length) (jX (reach vs h1) h1))))) h2
              | none => none))
        | none => none
      | none => none
    | false => none
  | none => none
theorem yUb{ρ:Type}{js:List (Nat × Nat)}{rid:Nat}{tp:TypeId}{sp:Sh}{F:si.X->Option (Sum so.X sp.X)}(hM:zSk P f (js.map (·.1)) si so tp sp F)(vs:List V)(h:List Ob)(k:Out->List Ob->Option ρ)(r:ρ)(hr:yGw js rid si so tp sp F vs h k=some r):iK P f=true/\Ed P f vs h λout h'=>k out h'=some r/\(∀ id,id<h.length->id∉yDm js vs h->h'[id]?=h[id]?)/\∀ off∈js.map (·.1),∀ t,zCj T t=true->loadAt T h' t (.ptr rid off)=loadAt T h t (.ptr rid off):=by
 refine⟨hM.1,?_⟩;unfold yGw at hr;split at hr
 case h_2=>cases hr
 rename_i yQo e ls nH;split at hr
 case h_2=>cases hr
 rename_i yYv;have yYv:=aP yYv;subst yYv;split at hr
 case h_2=>cases hr
 rename_i lsh os hh;have xHb:yDm js vs h=yQo::reach vs (h.set yQo (.box e lsh)):=by unfold yDm;rw[nH];simp only[hh]
 unfold yQm at nH;split at nH
 case h_2=>cases nH
 rename_i xHc vs';split at nH
 case h_2=>cases nH
 rename_i e0 ls0 hb;simp only[aA,aC]at nH;obtain⟨rfl,rfl,rfl⟩:=nH;generalize hh1:h.set xHc (.box e0 lsh)=h1 at *;generalize hvs:(V.one (L.ptr xHc 0)::vs')=vs at *;simp only at hr;split at hr
 case h_2=>cases hr
 rename_i x hx;obtain⟨hc,hr⟩:=iP hr;simp only[aD]at hc;obtain⟨hok,hkp,hpre⟩:=hc;obtain⟨hnd,hlt,hlen,hwr,Jm⟩:=zDa hok;intro C β w xs hP hs ha;subst hP;have zGr:=(bK.1 hb).1;have hbx:=hs.obj _ _ hb;simp only[Ob.Rel]at hbx;obtain⟨q1,q2,rb,rcs,q3,q4,q5⟩:=hbx;obtain⟨hs1,hN1⟩:=hs.zKr (ls':=lsh) hb (λcs hcs _=>(zSj hh hcs).1);rw[hh1]at hs1 hN1;have ha1:rO β w (C.N β h1) vs xs:=bJ.mono (λv u hv=>V.Rel.mono (Moves.refl β) (Keep.refl _ w) hN1 hv) ha;have Ew:=zNw hx (yFe hs1 ha1 hnd hlt);have xJr:(inC C β h1 w (reach vs h1) hs1).fix[0]?=some (some rb):=by
  unfold xGv.yQj at hpre;split at hpre
  ·rename_i a r hrr;have:=aP hpre;subst this;have hg:h1[a]?=some (.box e0 lsh):=by rw[<- hh1,qAv zGr]
   simp only[inC,hrr,qBt,qAi,Nj,gV hg,Ef];rw[q3]
  ·cases hpre
 cases hy:F x with
 |none=>rw[hy]at hr;cases hr
 |some y =>
  rw[hy]at hr;refine(hM.2 x y hy (inC C β h1 w _ hs1) _ w xs rb rfl (by simp[inC,hlen]) Ew xJr).mono ?_;rintro ex w' ⟨⟨z,us,β',rfl,rfl,hs'⟩|⟨z,u,β',rfl,rfl,hs'⟩,hcell'⟩
  ·simp only[ob2]at hr;split at hr
   case h_2=>cases hr
   rename_i h2 hput;obtain⟨e',ls',ls2,k1,k2,k3,rfl⟩:=yAz hput;obtain⟨β2,m1,m2,m3,m4,m5,m6,m7⟩:=xBi (T:=T) hb hh hh1 hs hs1 hN1 hnd hlt hwr Jm k1 k2 k3 hs' q3 hcell';exact⟨_,_,β2,⟨hr,by rw[xHb];exact m6,m7⟩,m1,m2,m3,m4,_,rfl,zRx m5⟩
  ·simp only[ob2]at hr;split at hr
   case h_2=>cases hr
   rename_i h2 hput;obtain⟨e',ls',ls2,k1,k2,k3,rfl⟩:=yAz hput;obtain⟨β2,m1,m2,m3,m4,m5,m6,m7⟩:=xBi (T:=T) (us:=[u]) hb hh hh1 hs hs1 hN1 hnd hlt hwr hkp k1 k2 k3 hs' q3 hcell';refine⟨_,_,β2,⟨hr,by rw[xHb];exact m6,m7⟩,m1,m2,m3,m4,u,rfl,?_⟩;cases hv:(sp.enc z).r.map (V.back (lS (reach vs h1) h1.length) (jX (reach vs h1) h1))with
   |nil=>rw[hv]at m5;exact m5.elim
   |cons v l =>
    rw[hv]at m5;cases l with
    |nil=>exact m5.1
    |cons v2 l=>exact m5.2.elim
theorem yGx{C:Ctx}{β':Nat->Pl}{w w':World}{b:Nat}{so sko:Sh}{y:so.X}{y0:sko.X}{us:List Value}{js:List (Nat × Nat)}{rcs:List Value}{e2:TypeId}{ls2 ls3:List L}(hfix:C.fix[0]?=some (some b))(q5:∃ e,w.heap[b]?=some (.cells rcs.toArray e (0,0)))(hsome:∀ p∈js,∃ c,rcs[p.1]?=some c)(hs':Sim C β' (so.enc y) { tmps:=us.toArray,defers:=[] } w')(k1:(so.enc y).h[0]?=some (.box e2 ls2))(k2:Qp js ls2 (js.map λp=>(rcs[p.1]?).getD undef) ls3)(k4:sko.enc y0=⟨(so.enc y).r,(so.enc y).h.set 0 (.box e2 ls3)⟩):Sim C β' (sko.enc y0) { tmps:=us.toArray,defers:=[] } w'/\∀ off∈js.map (·.1),w'.cell? ⟨b,off,none⟩=w.cell? ⟨b,off,none⟩:=by
 obtain⟨e0,q5⟩:=q5;obtain⟨_,xLm⟩:=hs'.heap.fixed 0 _ hfix;obtain⟨hb',_⟩:=xLm b rfl;have yGv:=hs'.heap.obj _ _ k1;simp only[Ob.Rel]at yGv;obtain⟨p1,p2,pb,pcs,p3,p4,p5⟩:=yGv;rw[hb']at p3;simp only[aA]at p3;subst p3;obtain⟨hs2,hN2⟩:=hs'.heap.zKr (ls':=ls3) k1 (λcs hcs _=>(k2.rel hcs).1);refine⟨?_,λoff hoff=>?_⟩
 ·rw[k4];exact⟨hs2,hs'.defers,hs'.size,λi v hv=>(hs'.reg i v hv).mono (Moves.refl β') (Keep.refl _ w') hN2⟩
 ·obtain⟨p,hp,rfl⟩:=qBw.1 hoff;have h1:w'.cell? ⟨b,p.1,none⟩=pcs[p.1]?:=by
   simp only[World.cell?,p5];simp
  have h2:w.cell? ⟨b,p.1,none⟩=rcs[p.1]?:=by
   simp only[World.cell?,q5];simp
  obtain⟨c,hc⟩:=hsome p hp;rw[h1,h2,(k2.rel p4).2 p hp,hc];rfl
def zVv{α γ α' γ':Type}(f:α->α')(g:γ->γ'):Sum α γ->Sum α' γ'
 |.inl x=>.inl (f x)
 |.inr y=>.inr (g y)
theorem yKf{sk sko skp sp:Sh}{tp:TypeId}{js:List (Nat × Nat)}{F:si.X->Option (Sum so.X sp.X)}{G:sk.X->Option (Sum sko.X skp.X)}(put:List Value->sk.X->si.X)(yQp:List Value->sko.X->so.X)(yQq:List Value->skp.X->sp.X)(xLn:∀ vs x y,vs.length=js.length->G x=some y->F (put vs x)=some (zVv (yQp vs) (yQq vs) y))(hin:∀ vs x,vs.length=js.length->∃ e ls ls',(sk.enc x).h[0]?=some (.box e ls)/\InK js ls vs ls'/\si.enc (put vs x)=⟨(sk.enc x).r,(sk.enc x).h.set 0 (.box e ls')⟩)(hout:∀ vs y,vs.length=js.length->∃ e ls ls',(so.enc (yQp vs y)).h[0]?=some (.box e ls)/\Qp js ls vs ls'/\sko.enc y=⟨(so.enc (yQp vs y)).r,(so.enc (yQp vs y)).h.set 0 (.box e ls')⟩)(xJs:∀ vs y,vs.length=js.length->∃ e ls ls',(sp.enc (yQq vs y)).h[0]?=some (.box e ls)/\Qp js ls vs ls'/\skp.enc y=⟨(sp.enc (yQq vs y)).r,(sp.enc (yQq vs y)).h.set 0 (.box e ls')⟩)(hos:sk.os.length<=si.os.length)(hM:dA P f si so tp sp F):zSk P f (js.map (·.1)) sk sko tp skp G:=by
 refine⟨hM.1,λx y hG C β w xs b hP hfl hs hfix=>?_⟩;obtain⟨_,hfx⟩:=hs.heap.fixed 0 _ hfix;obtain⟨hb,nH⟩:=hfx b rfl;have hne:∃ e ls,(sk.enc x).h[0]?=some (.box e ls):=by
  obtain⟨e,ls,_,h1,_⟩:=hin (js.map λ_=>undef) x (by simp);exact⟨e,ls,h1⟩
 obtain⟨e0,ls0,h0⟩:=hne;have hbx:=hs.heap.obj _ _ h0;simp only[Ob.Rel]at hbx;obtain⟨q1,q2,rb,rcs,q3,q4,q5⟩:=hbx;rw[hb]at q3;simp only[aA]at q3;subst q3;have hvl:(js.map λp=>(rcs[p.1]?).getD undef).length=js.length:=by simp
 obtain⟨e,ls,ls',h1,h2,h4⟩:=hin _ x hvl;rw[h0]at h1;simp only[aA,Ob.box.injEq]at h1;obtain⟨rfl,rfl⟩:=h1;obtain⟨hs1,hN1⟩:=hs.heap.zKr (ls':=ls') h0 (λcs hcs hheap=>by
  have:cs=rcs:=by
   rw[hb]at hheap;simp only[qCx]at hheap;rw[q5]at hheap;simp only[aA,Obj.cells.injEq]at hheap;have:=congrArg qFj hheap.1;simpa using this.symm
  subst this;exact(h2.rel hcs).1)
 have hsome:=(h2.rel q4).2;have Ew:Sim C β (si.enc (put (js.map λp=>(rcs[p.1]?).getD undef) x)) { tmps:=xs.toArray,defers:=[] } w:=by
  rw[h4];exact⟨hs1,hs.defers,hs.size,λi v hv=>(hs.reg i v hv).mono (Moves.refl β) (Keep.refl _ w) hN1⟩
 refine(hM.2 _ _ (xLn _ x y hvl hG) C β w xs hP (Nat.le_trans hfl hos) Ew).mono ?_;rintro ex w' (⟨z,us,β',hz,rfl,hs'⟩|⟨z,u,β',hz,rfl,hs'⟩)
 ·cases y with
  |inr y=>cases hz
  |inl y =>
   simp only[zVv,Sum.inl.injEq]at hz;subst hz;obtain⟨e2,ls2,ls3,k1,k2,k4⟩:=hout _ y hvl;obtain⟨r1,r2⟩:=yGx hfix ⟨_,q5⟩ hsome hs' k1 k2 k4;exact⟨.inl ⟨y,us,β',rfl,rfl,r1⟩,r2⟩
 ·cases y with
  |inl y=>cases hz
  |inr y =>
   simp only[zVv,Sum.inr.injEq]at hz;subst hz;obtain⟨e2,ls2,ls3,k1,k2,k4⟩:=xJs _ y hvl;obtain⟨r1,r2⟩:=yGx (us:=[u]) hfix ⟨_,q5⟩ hsome hs' k1 k2 k4;exact⟨.inr ⟨y,u,β',rfl,rfl,r1⟩,r2⟩
theorem yKg{sp:Sh}{tp:TypeId}{F:si.X->Option (Sum so.X sp.X)}{Γ:Orc (Sum so.X sp.X)}{an:An (Sum so.X sp.X)}{co cp:List Co}{fn:Func}{id:Nat}{ops:Array Oper}{c2:Code}{j rid:Nat}{oV:List Nat}{zLz:List V->List Ob->List Nat}{gen:List V->List Ob->(Out->List Ob->Option (Sum so.X sp.X))->Option (Sum so.X sp.X)}{g:FuncId}(hf:P.funcs[f]?=some fn)(hb:fn.body=some (.seq (.region id ops true) c2))(hh:iK P f=true)(hT:bU P T)(hΓ:kW P Γ)(hm:P.follows .mixedOrders=true)(hgen:∀ vs h kk r,gen vs h kk=some r->iK P g=true/\Ed P g vs h λout h'=>kk out h'=some r/\(∀ id,id<h.length->id∉zLz vs h->h'[id]?=h[id]?)/\∀ off∈oV,∀ t,zCj T t=true->loadAt T h' t (.ptr rid off)=loadAt T h t (.ptr rid off))(ha:zRu P si.os.length c2 an)(hfx:an.fx si.os.length=true)(hco:dF (Co.fx si.os.length) co=true)(hcp:dF (Co.fx si.os.length) cp=true)(h:∀ x,yQl Γ T ops j rid oV zLz gen g ⟨Sb (si.enc x).r fn.ntmps,(si.enc x).h⟩ (λe σ'=>match e with|.normal=>ev Γ T c2 an σ' (zDc T fn.results.toList so co tp sp cp)|e=>zDc T fn.results.toList so co tp sp cp e σ')=F x):dA P f si so tp sp F:=by
 refine⟨hh,λx y hF C β w xs hP hkf hs=>?_⟩;rw[<- h x]at hF;refine calls_of_wp hf hb ?_;have post:∀ (e:Ex) (x':Exit) (σ':St) (β':Nat->Pl) (a':Act) (w':World),Sim C β' σ' a' w'->Nc β' w' (C.N β' σ'.h) e x'->zDc T fn.results.toList so co tp sp cp e σ'=some y ->
  bodyPost C.P fn (λe w'=>(∃ (z:so.X) (us:List Value) (β':Nat->Pl),y=.inl z/\e=.returned (sP us)/\Sim C β' (so.enc z) { tmps:=us.toArray,defers:=[] } w') \/
  ∃ (z:sp.X) (u:Value) (β':Nat->Pl),y=.inr z/\e=.panicked [{ v:=.iface tp u,recovered:=false }]/\Sim C β' (sp.enc z) { tmps:=#[u],defers:=[] } w') x' a' w':=by
  intro e x' σ' β' a' w' hs' hx' hk;subst hP;have fin:(zHg T fn.results.toList so co σ' λy=>some (.inl y))=some y->x'=.ret\/x'=.normal->bodyPost C.P fn (λe w'=>(∃ (z:so.X) (us:List Value) (β':Nat->Pl),y=.inl z/\e=.returned (sP us)/\Sim C β' (so.enc z) { tmps:=us.toArray,defers:=[] } w') \/
   ∃ (z:sp.X) (u:Value) (β':Nat->Pl),y=.inr z/\e=.panicked [{ v:=.iface tp u,recovered:=false }]/\Sim C β' (sp.enc z) { tmps:=#[u],defers:=[] } w') x' a' w':=by
   intro hk hx';obtain⟨us,β2,y',h1,h2,h3⟩:=zSa (fn:=fn) hT hkf hco hs' hk;obtain rfl:=qBc h3;rcases hx' with rfl|rfl
   ·exact⟨hs'.defers,_,h1,.inl ⟨y',us,β2,rfl,rfl,h2⟩⟩
   ·exact⟨hs'.defers,_,h1,.inl ⟨y',us,β2,rfl,rfl,h2⟩⟩
  cases e with
  |normal=>obtain rfl:=hx';exact fin hk (.inr rfl)
  |ret=>obtain rfl:=hx';exact fin hk (.inl rfl)
  |exit i=>simp[zDc]at hk
  |goto l=>simp[zDc]at hk
  |pan t u =>
   simp only[zDc]at hk;split at hk
   ·rename_i hb;have:=aP hb;subst this;obtain⟨x0,rfl,hx0⟩:=hx';obtain⟨β2,_,z,h3,h4⟩:=Fb hT hkf hcp hk (zRz (vs:=[u]) (us:=[x0]) hs' ⟨hx0,trivial⟩);obtain rfl:=qBc h4;exact⟨hs'.defers,.inr ⟨z,x0,β2,rfl,rfl,h3⟩⟩
   ·cases hk
 refine wp_seq ?_;have hs0:=zLf fn.ntmps hs;subst hP;refine yUa hT hΓ hm hgen (λe x' σ' β' a' w' hs' hx' hk=>?_) hF hs0;cases e with
 |normal =>
  obtain rfl:=hx';exact zHa (P:=C.P) hT hΓ hm c2 an ha hfx _ _ y hk C β' _ w' _ rfl hkf hs' (λe x' σ' β' a' w' h1 h2 h3=>post e x' σ' β' a' w' h1 h2 h3)
 |ret=>have p:=post .ret _ _ _ _ _ hs' hx' hk;obtain rfl:=hx';exact p
 |exit i=>have p:=post (.exit i) _ _ _ _ _ hs' hx' hk;obtain rfl:=hx';exact p
 |goto l=>have p:=post (.goto l) _ _ _ _ _ hs' hx' hk;obtain rfl:=hx';exact p
 |pan t u=>have p:=post (.pan t u) _ _ _ _ _ hs' hx' hk;obtain⟨x0,rfl,_⟩:=hx';exact p
def zSl(o:Option Ob):List L:=match o with|some (.box _ ls)=>ls|_=>[]
theorem yQr{α:Type}:∀ {vs:List α},vs.length=3->∃ a b c,vs=[a,b,c]
 |[a,b,c],_=>⟨a,b,c,rfl⟩
 |[],h=>by cases h
 |[_],h=>by cases h
 |[_,_],h=>by cases h
 |_::_::_::_::_,h=>by simp at h
theorem InK.three{o1 j1 o2 j2 o3 j3:Nat}{ls:List L}{a b c:Value}(h1:ls[j1]?=some (.bad 1))(h2:sits ls o1 j1=true)(h3:(ls.set j1 (.val .opq a))[j2]?=some (.bad 1))(h4:sits (ls.set j1 (.val .opq a)) o2 j2=true)(h5:((ls.set j1 (.val .opq a)).set j2 (.val .opq b))[j3]?=some (.bad 1))(h6:sits ((ls.set j1 (.val .opq a)).set j2 (.val .opq b)) o3 j3=true):InK [(o1,j1),(o2,j2),(o3,j3)] ls [a,b,c] (((ls.set j1 (.val .opq a)).set j2 (.val .opq b)).set j3 (.val .opq c)):=
 ⟨h1,h2,h3,h4,h5,h6,rfl⟩
theorem Qp.three{o1 j1 o2 j2 o3 j3:Nat}{ls:List L}{a b c:Value}(h1:ls[j1]?=some (.val .opq a))(h2:sits ls o1 j1=true)(h3:(ls.set j1 (.bad 1))[j2]?=some (.val .opq b))(h4:sits (ls.set j1 (.bad 1)) o2 j2=true)(h5:((ls.set j1 (.bad 1)).set j2 (.bad 1))[j3]?=some (.val .opq c))(h6:sits ((ls.set j1 (.bad 1)).set j2 (.bad 1)) o3 j3=true):Qp [(o1,j1),(o2,j2),(o3,j3)] ls [a,b,c] (((ls.set j1 (.bad 1)).set j2 (.bad 1)).set j3 (.bad 1)):=
 ⟨h1,h2,h3,h4,h5,h6,rfl⟩
end
end Go.Dec
namespace Go.Dec
theorem Tw(n:Nat):∀ (vs:List Value) x y,vs.length=3->gX n x=some y->iT n (x.1,x.2.1,x.2.2.1,(vs.getD 0 undef),x.2.2.2.1,(vs.getD 1 undef),x.2.2.2.2.1,x.2.2.2.2.2.1,x.2.2.2.2.2.2.1,x.2.2.2.2.2.2.2.1,x.2.2.2.2.2.2.2.2.1,x.2.2.2.2.2.2.2.2.2.1,x.2.2.2.2.2.2.2.2.2.2.1,x.2.2.2.2.2.2.2.2.2.2.2.1,x.2.2.2.2.2.2.2.2.2.2.2.2.1,x.2.2.2.2.2.2.2.2.2.2.2.2.2.1,x.2.2.2.2.2.2.2.2.2.2.2.2.2.2.1,x.2.2.2.2.2.2.2.2.2.2.2.2.2.2.2.1,x.2.2.2.2.2.2.2.2.2.2.2.2.2.2.2.2.1,x.2.2.2.2.2.2.2.2.2.2.2.2.2.2.2.2.2.1,x.2.2.2.2.2.2.2.2.2.2.2.2.2.2.2.2.2.2.1,x.2.2.2.2.2.2.2.2.2.2.2.2.2.2.2.2.2.2.2.1,(vs.getD 2 undef),x.2.2.2.2.2.2.2.2.2.2.2.2.2.2.2.2.2.2.2.2)=some (zVv (λy=>(y.1,y.2.1,y.2.2.1,y.2.2.2.1,(vs.getD 0 undef),y.2.2.2.2.1,(vs.getD 1 undef),y.2.2.2.2.2.1,y.2.2.2.2.2.2.1,y.2.2.2.2.2.2.2.1,y.2.2.2.2.2.2.2.2.1,y.2.2.2.2.2.2.2.2.2.1,y.2.2.2.2.2.2.2.2.2.2.1,y.2.2.2.2.2.2.2.2.2.2.2.1,y.2.2.2.2.2.2.2.2.2.2.2.2.1,y.2.2.2.2.2.2.2.2.2.2.2.2.2.1,y.2.2.2.2.2.2.2.2.2.2.2.2.2.2.1,y.2.2.2.2.2.2.2.2.2.2.2.2.2.2.2.1,y.2.2.2.2.2.2.2.2.2.2.2.2.2.2.2.2.1,y.2.2.2.2.2.2.2.2.2.2.2.2.2.2.2.2.2.1,y.2.2.2.2.2.2.2.2.2.2.2.2.2.2.2.2.2.2.1,y.2.2.2.2.2.2.2.2.2.2.2.2.2.2.2.2.2.2.2.1,y.2.2.2.2.2.2.2.2.2.2.2.2.2.2.2.2.2.2.2.2.1,(vs.getD 2 undef),y.2.2.2.2.2.2.2.2.2.2.2.2.2.2.2.2.2.2.2.2.2)) (λz=>(z.1,z.2.1,z.2.2.1,z.2.2.2.1,(vs.getD 0 undef),z.2.2.2.2.1,(vs.getD 1 undef),z.2.2.2.2.2.1,z.2.2.2.2.2.2.1,z.2.2.2.2.2.2.2.1,z.2.2.2.2.2.2.2.2.1,z.2.2.2.2.2.2.2.2.2.1,z.2.2.2.2.2.2.2.2.2.2.1,z.2.2.2.2.2.2.2.2.2.2.2.1,z.2.2.2.2.2.2.2.2.2.2.2.2.1,z.2.2.2.2.2.2.2.2.2.2.2.2.2.1,z.2.2.2.2.2.2.2.2.2.2.2.2.2.2.1,z.2.2.2.2.2.2.2.2.2.2.2.2.2.2.2.1,z.2.2.2.2.2.2.2.2.2.2.2.2.2.2.2.2.1,z.2.2.2.2.2.2.2.2.2.2.2.2.2.2.2.2.2.1,z.2.2.2.2.2.2.2.2.2.2.2.2.2.2.2.2.2.2.1,z.2.2.2.2.2.2.2.2.2.2.2.2.2.2.2.2.2.2.2.1,z.2.2.2.2.2.2.2.2.2.2.2.2.2.2.2.2.2.2.2.2.1,(vs.getD 2 undef),z.2.2.2.2.2.2.2.2.2.2.2.2.2.2.2.2.2.2.2.2.2)) y):=by
 intro vs x y hl h;obtain⟨a,b,c,rfl⟩:=yQr hl;unfold gX iT iR gW at h;unfold iT iR gW;simp only[List.getD_cons_zero,List.getD_cons_succ]at h ⊢;cases hB:nM n (x.1,x.2.2.1)with
 |none=>simp only[hB,ob]at h;cases h
 |some i =>
  simp only[hB,ob]at h ⊢;cases hW:sD n (x.1,i,[59,125])with
  |none=>simp only[hW]at h;cases h
  |some w =>
   simp only[hW]at h ⊢;cases hC:strings_ContainsAny n (w.1,[32,9])with
   |none=>simp only[hC]at h;cases h
   |some q =>
    simp only[hC]at h ⊢;cases q with
    |true =>
     simp only[br,bB,ob2,aA]at h ⊢;subst h;rfl
    |false =>
     simp only[br,aA]at h ⊢;subst h;rfl
end Go.Dec
namespace Go.Proofs
open Go.Shelf Go.RowKit Go.Lib
variable {P:Program}{ρ:Ren}
def blk:ByteArray:=⟨#[32,9]⟩
theorem Zg:blk.size=2:=rfl
set_option maxHeartbeats 4000000 in
set_option maxRecDepth 1000000 in
theorem Any.yBz(L:Lays.n152 P ρ)(w:World):Calls P (ρ.f 152) #[.string blk,.int .i32 65533] w λe w'=>e=.returned (.int .i64 (-1))/\Below w.heap.size w w':=by
 have t3:=L.t3;have a3:=L.a3;have z3:=L.z3;have v3:=L.v3;have t4:=L.t4;have a4:=L.a4;have z4:=L.z4;have v4:=L.v4;have t5:=L.t5;have a5:=L.a5;have z5:=L.z5;have v5:=L.v5;have t9:=L.t9;have a9:=L.a9;have z9:=L.z9;have v9:=L.v9;have t21:=L.t21;have a21:=L.a21;have z21:=L.z21;have v21:=L.v21
 go_enter L.f152,Body.n152_ntmps ρ
 go_wp2
 go_loopg [5,6] 2 (λg _ _ wx=>∃ i:Nat,i+g=2/\wx=w.iter blk i)
 case atStart=>exact⟨0,by omega,rfl⟩
 case round =>
  obtain⟨i,hig,rfl⟩:=hrel;cases gk with
  |zero =>
   obtain rfl:i=2:=by omega
   have hnx:=run_next_end (P:=P) w blk 2;have hd:¬ (2<blk.size):=by decide
   go_wp2
   go_ret
   exact⟨rfl,(Below.refl _ _).alloc (aS _) _⟩
  |succ g =>
   have hi:i<blk.size:=by rw[Zg];omega
   have hlt:(blk[i]'hi).toNat<128:=by
    have:i=0\/i=1:=by omega
    rcases this with rfl|rfl
    ·show(32:UInt8).toNat<128;decide
    ·show(9:UInt8).toNat<128;decide
   have hne:(((blk[i]'hi).toNat:Int)==65533)=false:=beq_eq_false_iff_ne.2 (by omega);have hnx:=λty=>run_next_ascii (P:=P) w blk i ty hi hlt
   obtain⟨x,hx⟩:∃ x:UInt8,blk[i]'hi=x:=⟨_,rfl⟩;rw[hx]at hne hnx;clear hlt hx
   go_wp2
   go_roundg g
   case measure=>omega
   case rel=>exact⟨i+1,by omega,rfl⟩
set_option maxHeartbeats 4000000 in
set_option maxRecDepth 1000000 in
theorem Any.zYw(L:Lays.n152 P ρ)(r:Int)(w:World)(h0:128<=r):Calls P (ρ.f 152) #[.string blk,.int .i32 r] w λe w'=>e=.returned (.int .i64 (-1))/\Below w.heap.size w w':=by
 by_cases hr:r=65533
 ·subst hr;exact Any.yBz L w
 have t3:=L.t3;have a3:=L.a3;have z3:=L.z3;have v3:=L.v3;have t4:=L.t4;have a4:=L.a4;have z4:=L.z4;have v4:=L.v4;have t5:=L.t5;have a5:=L.a5;have z5:=L.z5;have v5:=L.v5;have t9:=L.t9;have a9:=L.a9;have z9:=L.z9;have v9:=L.v9;have t21:=L.t21;have a21:=L.a21;have z21:=L.z21;have v21:=L.v21;have e119:∀ args w,(callFunc (ρ.f 119) args).run P w=.ok (.enter (ρ.f 119) args) w:=enters_of L.f119 (by kernel_rfl) rfl;have e137:∀ args w,(callFunc (ρ.f 137) args).run P w=.ok (.enter (ρ.f 137) args) w:=enters_of L.f137 (by kernel_rfl) rfl;have mixed:=L.mixed;have hle:¬ (r<128):=by omega
 have hle2:decide (r<128)=false:=decide_eq_false hle;have hge:decide ((0:Int)<=r)=true:=decide_eq_true (by omega);have hne:(r==65533)=false:=beq_eq_false_iff_ne.2 hr;have hv':validRune r=Lib.validRune r:=rfl;cases hv:Lib.validRune r
 ·go_enter L.f152,Body.n152_ntmps ρ
  go_wp2_with (go_at_fn (ρ.f 119);refine(Any.utf8_ValidRune { L with } r _).mono ?_;rintro e w' ⟨rfl,hw⟩;rw[hw,hv])
  go_ret
  exact⟨rfl,Below.refl _ _⟩
 ·obtain⟨f1,f2,f3⟩:=encode_facts r (by rw[validRune_eq,hv',hv]) h0;have hcv:∀ w,(convert (ρ.t 21) (ρ.t 9) (.int .i32 r)).run P w=.ok (.string (Utf8.encode r)) w:=λw=>run_convert_int_string w _ _ _ _ (by rw[t21];rfl) t9
  generalize Utf8.encode r=E at f1 f2 f3 hcv;have hsub:((E.size:Int)-1)=((E.size-1:Nat):Int):=by omega
  by_cases h2:E.size=2
  ·have h1:1<E.size:=by omega
   obtain⟨c,hc⟩:∃ c:UInt8,E[1]'h1=c:=⟨_,rfl⟩;have xNa:128<=c.toNat:=by
    have:=f3 (by omega);simp only[h2]at this;rw[<- hc];exact this
   have hcn:((9:Int)==(c.toNat:Int))=false:=beq_eq_false_iff_ne.2 (by omega);clear f1 f2 f3
   go_enter L.f152,Body.n152_ntmps ρ
   go_wp2_with (go_at_fn (ρ.f 119);refine(Any.utf8_ValidRune { L with } r _).mono ?_;rintro e w' ⟨rfl,hw⟩;rw[hw,hv])
   apply wp_scope_straight
   go_wp2
   go_loopg [9] 1 (λ_ s9 wx=>s9=.int .i64 1/\wx=w)
   case atStart=>exact⟨rfl,rfl⟩
   case round =>
    obtain⟨rfl,rfl⟩:=hrel;have hb1:1<blk.size:=by rw[Zg];omega
    have hb2:blk[1]'hb1=9:=rfl
    go_wp2
    apply wp_scope_straight
    go_wp2
    go_region_o
    go_wp2
    go_region_with_o (go_at_fn (ρ.f 137);refine(Any.strings_IndexByte { L with } _ _ _).mono ?_;rintro e w' ⟨rfl,hw⟩;rw[hw])
    all_goals (
     have hib:indexByte (List.take (blk.size-2) (List.drop 2 blk.data.toList)) c=-1:=rfl
     go_wp2
     simp only[Exit.noGoto,Exit.inBlock,Exit.then]
     go_ret
     exact⟨rfl,Below.drew (Below.drew (Below.refl _ _))⟩)
  ·have h3:2<=E.size-1:=by omega
   clear f3;generalize hz:E.size-1=z at hsub h3;have hzl:¬ (z<blk.size):=by rw[Zg];omega
   go_enter L.f152,Body.n152_ntmps ρ
   go_wp2_with (go_at_fn (ρ.f 119);refine(Any.utf8_ValidRune { L with } r _).mono ?_;rintro e w' ⟨rfl,hw⟩;rw[hw,hv])
   apply wp_scope_straight
   go_wp2
   go_loopg [9] 1 (λ_ s9 wx=>s9=.int .i64 (z:Nat)/\wx=w)
   case atStart=>exact⟨by rw[<- hsub],rfl⟩
   case round =>
    obtain⟨rfl,rfl⟩:=hrel
    go_wp2
    simp only[Exit.noGoto]
    go_ret
    exact⟨rfl,Below.refl _ _⟩
end Go.Proofs
namespace Go.Proofs
open Go.Shelf Go.RowKit Go.Lib
variable {P:Program}{ρ:Ren}
theorem zQq(s:ByteArray)(pos:Nat)(h:pos<s.size)(ha:128<=(s[pos]'h).toNat):pos+(Utf8.decode s pos).2<=s.size/\∀ k,k<(Utf8.decode s pos).2->128<=(s.get! (pos+k)).toNat:=by
 have h0:128<=(s.get! (pos+0)).toNat:=by rw[get_at s pos h];exact ha
 have hn:¬ (s.get! (pos+0)).toNat<128:=by omega
 have one:pos+1<=s.size/\∀ k,k<1->128<=(s.get! (pos+k)).toNat:=⟨h,λk hk=>by
  obtain rfl:k=0:=by omega
  exact h0⟩
 simp only[Utf8.decode,hn,if_false];split
 ·rename_i hc;simp only[aD,decide_eq_true_eq,beq_iff_eq]at hc;split
  ·refine⟨by simp only;omega,λk hk=>?_⟩;simp only at hk;match k,hk with
   |0,_=>exact h0
   |1,_=>omega
   |k+2,hk=>omega
  ·exact one
 ·split
  ·rename_i hc;simp only[aD,decide_eq_true_eq,beq_iff_eq]at hc;split
   ·refine⟨by simp only;omega,λk hk=>?_⟩;simp only at hk;match k,hk with
    |0,_=>exact h0
    |1,_=>omega
    |2,_=>omega
    |k+3,hk=>omega
   ·exact one
  ·split
   ·rename_i hc;simp only[aD,decide_eq_true_eq,beq_iff_eq]at hc;split
    ·refine⟨by simp only;omega,λk hk=>?_⟩;simp only at hk;match k,hk with
     |0,_=>exact h0
     |1,_=>omega
     |2,_=>omega
     |3,_=>omega
     |k+4,hk=>omega
    ·exact one
   ·exact one
theorem yQs(s:ByteArray)(j:Nat)(b:UInt8)(h:s.data.toList[j]?=some b):s.get! j=b:=by
 rw[qCj]at h;show s.data[j]! = b;rw[getElem!_def,h]
theorem yQt{s:ByteArray}{i:Nat}(hi:i<s.size)(ha:128<=(s[i]'hi).toNat)(h:NoAny s.data.toList blk.data.toList i):NoAny s.data.toList blk.data.toList (i+(Utf8.decode s i).2):=λj b hj hb=>by
 by_cases hij:j<i
 ·exact h j b hij hb
 ·have:=(zQq s i hi ha).2 (j-i) (by omega);rw[show i+(j-i)=j by omega,yQs s j b hb]at this;show [32,9].contains b=false;cases hc:[32,9].contains b with
  |false=>rfl
  |true =>
   simp at hc;rcases hc with rfl|rfl<;>simp at this
set_option maxHeartbeats 8000000 in
set_option maxRecDepth 1000000 in
theorem Any.yGy(L:Lays.n153 P ρ)(s:ByteArray)(w:World)(h8:s.size<=8):Calls P (ρ.f 153) #[.string s,.string blk] w λe w'=>e=.returned (.int .i64 (Lib.indexAny s.data.toList blk.data.toList))/\Below w.heap.size w w':=by
 have hemp:blk.toList.isEmpty=false:=by rw[Lib.toList_data];rfl
 have hn1:((blk.size:Int)==1)=false:=rfl;have h8z:decide ((8:Int)<(s.size:Int))=false:=decide_eq_false (by omega);have t3:=L.t3;have a3:=L.a3;have z3:=L.z3;have v3:=L.v3;have t4:=L.t4;have a4:=L.a4;have z4:=L.z4;have v4:=L.v4;have t5:=L.t5;have a5:=L.a5;have z5:=L.z5;have v5:=L.v5;have t9:=L.t9;have a9:=L.a9;have z9:=L.z9;have v9:=L.v9;have t21:=L.t21;have a21:=L.a21;have z21:=L.z21;have v21:=L.v21;have e152:∀ args w,(callFunc (ρ.f 152) args).run P w=.ok (.enter (ρ.f 152) args) w:=enters_of L.f152 (by kernel_rfl) rfl;have e226:∀ args w,(callFunc (ρ.f 226) args).run P w=.ok (.enter (ρ.f 226) args) w:=enters_of L.f226 (by kernel_rfl) rfl
 go_enter L.f153,Body.n153_ntmps ρ
 go_wp2_with (go_at_fn (ρ.f 226);refine(Any.strings_shouldUseASCIISet { L with } _ _).mono ?_;rintro e w' ⟨rfl,hw⟩;rw[hw,h8z])
 go_loopg [9,10] (s.size+1) (λg _ _ wx=>∃ i:Nat,s.size+1-i=g/\i<=s.size/\wx.heap[w.heap.size]?=some (.stringIter s i)/\Below w.heap.size w wx/\Lib.NoAny s.data.toList blk.data.toList i)
 case atStart=>exact⟨0,by omega,by omega,World.iter_heap w s 0,(Below.refl _ _).alloc (aS _) _,Lib.NoAny.zero _ _⟩
 case round =>
  obtain⟨i,hig,hle,hit,hbel,hno⟩:=hrel;have HN:Aside (Lib.NoAny s.data.toList blk.data.toList i):=hno;have HB:Aside (Below w.heap.size w wr):=hbel;clear hno hbel;by_cases hi:i<s.size
  ·obtain⟨x,hx⟩:∃ x:UInt8,s[i]'hi=x:=⟨_,rfl⟩;have hxl:s.data.toList[i]?=some x:=by rw[<- hx];exact Lib.data_getElem? s i hi
   by_cases hx128:x.toNat<128
   ·have hnx:=λty=>run_next_ascii_at (P:=P) wr w.heap.size s i ty hit hi (by rw[hx];exact hx128)
    rw[hx]at hnx;have zYx:=iterAt_heap wr w.heap.size s i (i+1) hit;have hbn:=below_iterAt HB.out (aS _) s (i+1);generalize wr.iterAt w.heap.size s (i+1)=w2 at hnx zYx hbn;have Hx:Aside (s.data.toList[i]?=some x):=hxl;have HB2:Aside (Below w.heap.size w w2):=hbn;clear hxl hx hbn;have hcon:=Lib.contains_iff_indexByte blk.data.toList x;have hback:((x.toNat:Int)).toNat.toUInt8=x:=by simp
    cases hin:blk.data.toList.contains x
    ·rw[hin]at hcon;have hlt:¬ ((0:Int)<=Lib.indexByte blk.data.toList x):=of_decide_eq_false hcon.symm;clear hcon
     go_wp2_with (go_at_fn (ρ.f 152);refine(Any.strings_IndexRune_ascii { L with } _ _ _ (by omega) (by omega)).mono ?_;rintro e w' ⟨rfl,hw⟩;rw[hw,hback])
     go_roundg (s.size+1-(i+1))
     case measure=>omega
     case rel=>exact⟨i+1,rfl,by omega,zYx,HB2.out,HN.out.succ Hx.out hin⟩
    ·rw[hin]at hcon;have hge:(0:Int)<=Lib.indexByte blk.data.toList x:=of_decide_eq_true hcon.symm;clear hcon
     go_wp2_with (go_at_fn (ρ.f 152);refine(Any.strings_IndexRune_ascii { L with } _ _ _ (by omega) (by omega)).mono ?_;rintro e w' ⟨rfl,hw⟩;rw[hw,hback])
     go_ret
     exact⟨by rw[Lib.indexAny_hit HN.out Hx.out hin];rfl,HB2.out⟩
   ·have hx128:128<=(s[i]'hi).toNat:=by rw[hx];omega
    have hnx:=λty=>run_next_any_at (P:=P) wr w.heap.size s i ty hit hi
    obtain⟨hr,hk⟩:=decode_high s i hi hx128;have hsp:=(zQq s i hi hx128).1;have yYw:=yQt hi hx128 HN.out;generalize (Utf8.decode s i).1=r at hnx hr;generalize (Utf8.decode s i).2=k at hnx hk hsp yYw;have zYx:=iterAt_heap wr w.heap.size s i (i+k) hit;have hbn:=below_iterAt HB.out (aS _) s (i+k);generalize wr.iterAt w.heap.size s (i+k)=w2 at hnx zYx hbn;have HB2:Aside (Below w.heap.size w w2):=hbn;have HN2:Aside (NoAny s.data.toList blk.data.toList (i+k)):=yYw;have hlt2:w.heap.size<w2.heap.size:=(qCk.1 zYx).1;have hr0:(128:Int)<=(r:Int):=by omega
    clear hxl hx hbn yYw hx128
    go_wp2_with (go_at_fn (ρ.f 152);refine(Any.zYw { L with } _ _ (by omega)).mono ?_;rintro e w' ⟨rfl,hw⟩)
    go_roundg (s.size+1-(i+k))
    case measure=>omega
    case rel=>exact⟨i+k,rfl,by omega,by rw[hw.block _ hlt2];exact zYx,HB2.out.trans (hw.mono (by omega)),HN2.out⟩
  ·obtain rfl:i=s.size:=by omega
   have hnx:=λty=>run_next_end_at (P:=P) wr w.heap.size s s.size ty hit (by omega)
   go_wp2
   go_ret
   exact⟨by rw[Lib.indexAny_none (by rw[<- Lib.size_eq];exact HN.out)];rfl,HB.out⟩
set_option maxHeartbeats 1000000 in
theorem Any.zVw(L:Lays.n150 P ρ)(h116:(P.info? (ρ.t 116)).map (λi=>(i.zero,i.size))=some (some (.agg (qDy 256 (.bool false))),256))(s:ByteArray)(w:World)(hs:s.size<4294967281):Calls P (ρ.f 150) #[.string s,.string blk] w λe w'=>e=.returned (.bool (Lib.containsAny s.data.toList blk.data.toList))/\Below w.heap.size w w':=by
 have c:Calls P (ρ.f 153) #[.string s,.string blk] w λe w'=>e=.returned (.int .i64 (Lib.indexAny s.data.toList blk.data.toList))/\Below w.heap.size w w':=by
  by_cases h8:s.size<=8
  ·exact Any.yGy { L with } s w h8
  ·have hac:∀ (j:Nat) b,blk.data.toList[j]?=some b->b.toNat<128:=λj b h=>by
    have:b∈([32,9]:List UInt8):=qDk h;simp at this;rcases this with rfl|rfl<;>decide
   refine(Any.strings_IndexAny_long { L with } (zero_of_info h116).1 (zero_of_info h116).2 s blk w (by rw[Zg];omega) (by omega) hs (by rw[Zg];omega) hac).mono λe w' ⟨h1,h2⟩=>⟨h1,?_⟩
   rw[h2];exact((Below.refl _ _).alloc (aS _) _).alloc (by simp) _
 have t3:=L.t3;have a3:=L.a3;have z3:=L.z3;have v3:=L.v3;have t4:=L.t4;have a4:=L.a4;have z4:=L.z4;have v4:=L.v4;have t9:=L.t9;have a9:=L.a9;have z9:=L.z9;have v9:=L.v9;have e153:∀ args w,(callFunc (ρ.f 153) args).run P w=.ok (.enter (ρ.f 153) args) w:=enters_of L.f153 (by kernel_rfl) rfl
 go_enter L.f150,Body.n150_ntmps ρ
 go_wp2_with (go_at_fn (ρ.f 153);refine c.mono ?_;rintro e w' ⟨rfl,hw⟩)
 go_ret
 exact⟨rfl,hw⟩
end Go.Proofs
namespace Go.Dec
open Go.Proofs Go.RowKit Go.Sort Go.Lib
abbrev Bg:List Ty:=[.str,.str]
abbrev Bh:List Ty:=[.bool]
theorem yMf(c:List UInt8):∀ s:List UInt8,Lib.containsAny s c=s.any λx=>c.contains x
 |[]=>rfl
 |b::l=>by
  have ih:=yMf c l;unfold Lib.containsAny at ih ⊢;rw[List.any_cons,<- ih,indexAny];have h:=indexAny_ge c l;cases c.contains b
  ·simp only[qBs,if_false,Bool.false_or];by_cases h1:indexAny l c=-1
   ·rw[h1];rfl
   ·rw[if_neg (by simpa using h1)];exact decide_eq_decide.2 (by omega)
  ·simp
theorem Fv(n:Nat):Pure qEr 115 Bg Bh (strings_ContainsAny n):=by
 refine⟨by kernel_rfl,λx y hF w N xs hG _ hx=>?_⟩;obtain⟨hc,hy⟩:=iP hF;rw[aD]at hc;obtain⟨hc,hl⟩:=hc;have hc:=of_decide_eq_true hc;have hl:=bX hl;obtain rfl:=qBc hy;obtain⟨x,c⟩:=x;simp only at hc hl;subst hc;obtain⟨u,us,rfl,h1,v,rfl,h2⟩:=hx;simp only[Ty.bW,Ty.isAgg,qBs,if_false,Ty.Rel,aL,and_true]at h1 h2;subst h1 h2;refine(Any.zVw Tryz.lays150 (by kernel_rfl) ⟨x.toArray⟩ w (by simp[ByteArray.size];omega)).mono ?_;rintro e w' ⟨rfl,hb⟩;refine⟨[_],rfl,hb.os,hb.tape,hb.output,Xc hb,_,rfl,?_⟩;have:=yMf blk.data.toList x;simp only[Ty.bW,Ty.isAgg,qBs,if_false,Ty.Rel];rw[this];rfl
end Go.Dec
namespace Go.Dec
open Go.Proofs Go.RowKit
open Go.ChangeMaps (setBlock)
set_option maxRecDepth 100000
structure Upd (b:Nat) (w w':World):Prop where
 os:w'.os=w.os
 tape:w'.tape=w.tape
 output:w'.output=w.output
 size:w'.heap.size=w.heap.size
 block:∀ k,k≠b->w'.heap[k]?=w.heap[k]?
theorem Upd.below{b:Nat}{w0 w w':World}{B:Nat}(h:Upd b w w')(hb:B<=b)(h0:Below B w0 w):Below B w0 w' :=
 ⟨h.os.trans h0.os,h.tape.trans h0.tape,h.output.trans h0.output,by rw[h.size];exact h0.size,λk hk=>(h.block k (by omega)).trans (h0.block k hk)⟩
theorem Ad{w:World}{t kt et:TypeId}{d:TypeDesc}{b:Nat}{es:Array MapEntry}{n:Nat}{tab:List (MK × Nat)}{x:MK}{f:Nat}(hu:qEr.underlying t=some (.map kt et))(hd:qEr.underlying kt=some d)(hb:w.heap[b]?=some (.map es n))(hF:Eb tab es.toList)(hk:uK (TK.of d) tab=true)(hx:Kj (TK.of d) x=true)(hn:memT tab x=false):∃ w',(Instr.mapUpdate t (.map (some b)) x.v (.func (.func f) #[] #[])).run qEr w=.ok () w'/\w'.heap[b]?=some (.map (es.push ⟨x.v,.func (.func f) #[] #[],n⟩) (n+1))/\Upd b w w' /\
  Eb (tab++[(x,f)]) (es.push ⟨x.v,.func (.func f) #[] #[],n⟩).toList/\uK (TK.of d) (tab++[(x,f)])=true:=by
 have hnone:kV tab x=none:=by
  have:=zBs tab x;rw[hn]at this;cases hq:kV tab x with
  |none=>rfl
  |some q=>rw[hq]at this;simp at this
 obtain⟨r,hr,hr2⟩:=zCw hx hk hF;rw[hnone]at hr2;subst hr2;have hlt:b<w.heap.size:=(qCk.1 hb).1;have hu1:(underlying t).run qEr w=.ok (.map kt et) w:=by simp[underlying,hu]
 have hu2:(underlying kt).run qEr w=.ok d w:=by simp[underlying,hd]
 have hget:(getObj b).run qEr w=.ok (.map es n) w:=by simp[getObj,Sem.run,hb]
 have hset:∀ o,(setObj b o).run qEr w=.ok () { w with heap:=w.heap.setIfInBounds b o }:=by intro o;simp[setObj,Sem.run,hb]
 have hck:=Yh (w:=w) (b:=false) (n:=9999) hd hx;refine⟨_,?_,zKm (ms:=es.push ⟨x.v,.func (.func f) #[] #[],n⟩) (n:=n+1) hlt,⟨rfl,rfl,rfl,by simp[World.nJ],λk hk=>by simp only[World.nJ];rw[qFe (Ne.symm hk)]⟩,⟨λe he=>?_,λq hq=>?_⟩,?_⟩
 ·simp only[Instr.mapUpdate,Sem.run_bind,hu1,Result.andThen_ok,hget,hck,Instr.findKey,hu2,hr,Sem.run_pure,hset,World.nJ]
 ·rw[qCn]at he;rcases qAp.1 he with he|he
  ·obtain⟨x',f',g1,g2,g3⟩:=hF.1 e he;exact⟨x',f',g1,g2,yAb g3⟩
  ·obtain rfl:=qCp.1 he;exact⟨x,f,rfl,rfl,yAc hnone⟩
 ·rw[qCn];rcases qAp.1 hq with hq|hq
  ·obtain⟨e,he,g⟩:=hF.2 q hq;exact⟨e,qAq _ he,g⟩
  ·obtain rfl:=qCp.1 hq;exact⟨_,qAh _ (qCp.2 rfl),rfl⟩
 ·rw[zGm]at hk ⊢;intro q hq;rcases qAp.1 hq with hq|hq
  ·exact hk q hq
  ·obtain rfl:=qCp.1 hq;exact hx
def Qq:List (MK×Nat):=[(.i .u8 123,71),(.i .u8 125,72),(.i .u8 58,73),(.i .u8 115,74),(.i .u8 121,75),(.i .u8 61,76),(.i .u8 100,76),(.i .u8 68,76),(.i .u8 103,76),(.i .u8 71,76),(.i .u8 104,76),(.i .u8 72,76),(.i .u8 110,76),(.i .u8 78,76),(.i .u8 112,76),(.i .u8 80,76),(.i .u8 120,76),(.i .u8 97,77),(.i .u8 105,77),(.i .u8 99,77),(.i .u8 98,78),(.i .u8 116,78),(.i .u8 84,78),(.i .u8 108,79),(.i .u8 113,79),(.i .u8 81,79),(.i .u8 114,80),(.i .u8 119,80)]
def yMg:List (List UInt8×Nat):=[([61,100,68,103,71,104,72,110,78,112,80,120],76),([97,105,99],77),([98,116,84],78),([108,113,81],79),([114,119],80)]
def bases:List (MK×Nat):=[(.i .u8 123,71),(.i .u8 125,72),(.i .u8 58,73),(.i .u8 115,74),(.i .u8 121,75)]
def kv (s:List UInt8) (f:Nat):List (MK×Nat):=s.map fun b=>(.i .u8 (b.toNat:Int),f)
def ents:Array MapEntry := #[⟨.string ⟨#[61,100,68,103,71,104,72,110,78,112,80,120]⟩,.func (.func 76) #[] #[],0⟩,⟨.string ⟨#[97,105,99]⟩,.func (.func 77) #[] #[],1⟩,⟨.string ⟨#[98,116,84]⟩,.func (.func 78) #[] #[],2⟩,⟨.string ⟨#[108,113,81]⟩,.func (.func 79) #[] #[],3⟩,⟨.string ⟨#[114,119]⟩,.func (.func 80) #[] #[],4⟩]
def wT(seen:List Nat):List (MK × Nat):=bases++seen.flatMap λi=>match yMg[i]? with|some p=>kv p.1 p.2|none=>[]
theorem zSm(a b:List (MK × Nat))(x:MK):memT (a++b) x=(memT a x||memT b x):=by
 induction a with
 |nil=>rfl
 |cons p r ih=>obtain⟨k,f⟩:=p;simp only[qCt,memT,ih,Bool.or_assoc]
theorem yBa(x:MK)(g:Nat->List (MK × Nat)):∀ l:List Nat,(∀ i∈l,memT (g i) x=false)->memT (l.flatMap g) x=false
 |[],_=>rfl
 |i::l,h=>by rw[List.flatMap_cons,zSm,h i (.head _),yBa x g l λk hk=>h k (.tail _ hk)];rfl
def Bj(i:Nat):List (MK × Nat):=match yMg[i]? with|some p=>kv p.1 p.2|none=>[]
theorem yUc:((qAr 5).all λi=>(qAr 12).all λj=>match (Bj i)[j]? with
 |some q=>!memT bases q.1&&(!memT ((Bj i).take j) q.1&&(qAr 5).all λk=>k==i||!memT (Bj k) q.1)
 |none=>true)=true:=by decide +kernel
theorem zHm{i:Nat}(h:5<=i):Bj i=[]:=by
 unfold Bj;rw[qAu (by exact h)]
theorem yGz:∀ i,(Bj i).length<=12
 |0|1|2|3|4=>by decide
 |n+5=>by rw[zHm (by omega)];exact qAm _
theorem fresh{seen:List Nat}{i j:Nat}{q:MK × Nat}(hi:i∉seen)(hq:(Bj i)[j]?=some q):memT (wT seen++(Bj i).take j) q.1=false:=by
 have hlt:j<(Bj i).length:=(bK.1 hq).1;have h5:i<5:=by
  rcases jF i 5 with h|h
  ·exact h
  ·rw[zHm h]at hlt;exact absurd hlt (Nat.not_lt_zero _)
 have h:=yUc;rw[qFb]at h;have h:=h i (qDr.2 h5);rw[qFb]at h;have h:=h j (qDr.2 (Nat.lt_of_lt_of_le hlt (yGz i)));rw[hq]at h;simp only[aD,Bool.not_eq_true',qFb,qDr,qDq,beq_iff_eq]at h;obtain⟨h1,h2,h3⟩:=h;unfold wT;rw[zSm,zSm,h1,h2];have:memT (seen.flatMap Bj) q.1=false:=yBa _ _ _ λk hk=>by
  rcases jF k 5 with h|h
  ·rcases h3 k h with e|e
   ·subst e;exact absurd hk hi
   ·exact e
  ·rw[zHm h];rfl
 show(false||memT (seen.flatMap Bj) q.1||false)=false;rw[this];rfl
theorem yUd:((bases++(qAr 5).flatMap Bj).all λq=>decide (kV Qq q.1=some q.2))=true:=by decide +kernel
theorem yYx:(Qq.all λq=>decide (q∈bases)||(qAr 5).any λi=>decide (q∈Bj i))=true:=by decide +kernel
theorem xHd{seen:List Nat}{es:List MapEntry}(hall:∀ i,i<5->i∈seen)(h:Eb (wT seen) es):Eb Qq es:=by
 refine⟨λe he=>?_,λq hq=>?_⟩
 ·obtain⟨x,f,h1,h2,h3⟩:=h.1 e he;refine⟨x,f,h1,h2,?_⟩;have hm:=zBt h3;have hs:=yUd;rw[qFb]at hs;have:(x,f)∈bases++(qAr 5).flatMap Bj:=by
   rcases qAp.1 hm with hm|hm
   ·exact qAq _ hm
   ·obtain⟨i,hi,hm⟩:=qFf.1 hm;refine qAh _ (qFf.2 ⟨i,qDr.2 ?_,hm⟩);rcases jF i 5 with h|h
    ·exact h
    ·have:(x,f)∈Bj i:=hm;rw[zHm h]at this;cases this
  exact of_decide_eq_true (hs _ this)
 ·have hf:=yYx;rw[qFb]at hf;have:=hf q hq;rw[qDq,qFc]at this;rcases this with this|⟨i,hi,this⟩
  ·exact h.2 q (qAq _ (of_decide_eq_true this))
  ·exact h.2 q (qAh _ (qFf.2 ⟨i,hall i (qDr.1 hi),of_decide_eq_true this⟩))
theorem xDi{es:Array MapEntry}{seen:Array Nat}{e:MapEntry}(he:e∈(leftOf es seen).toList):(leftOf es (seen.push e.born)).size<(leftOf es seen).size:=by
 have hz:∀ s:Array Nat,(leftOf es s).size=(es.toList.filter λx=>!s.contains x.born).length:=λs=>by unfold leftOf;rw[<- qAc,qFg]
 have he:e∈es.toList.filter λx=>!seen.contains x.born:=by unfold leftOf at he;rwa [qFg]at he
 rw[hz,hz];generalize es.toList=l at he ⊢;have hs:∀ x:MapEntry,(!(seen.push e.born).contains x.born)=(!seen.contains x.born&&!(x.born==e.born)):=λx=>by
  simp only[Array.contains_push,Bool.not_or]
 simp only[hs];have:qFh (λx=>!seen.contains x.born&&!(x.born==e.born)) l=(qFh (λx=>!seen.contains x.born) l).filter λx=>!(x.born==e.born):=by
  rw[List.filter_filter];exact congrArg (λp=>qFh p l) (funext λx=>Bool.and_comm _ _)
 rw[this];exact List.length_filter_lt_length_iff_exists.2 ⟨e,he,by simp⟩
theorem yUe{seen:Array Nat}(h:(leftOf ents seen).size=0):∀ i,i<5->i∈seen.toList:=by
 intro i hi;have h0:leftOf ents seen=#[]:=Array.eq_empty_of_size_eq_zero h;unfold leftOf at h0;rw[Array.filter_eq_empty_iff]at h0;have hz:i<ents.size:=hi;have:∃ e∈ents,e.born=i:=⟨ents[i]'hz,Array.getElem_mem hz,by
  match i,hi with
  |0,_|1,_|2,_|3,_|4,_=>rfl⟩
 obtain⟨e,he,rfl⟩:=this;simpa using h0 e he
theorem xHe{seen:Array Nat}{e:MapEntry}(he:e∈(leftOf ents seen).toList):e.born∉seen.toList/\e∈ents.toList/\∃ s f,e.key=.string ⟨s.toArray⟩/\e.val=.func (.func f) #[] #[]/\Bj e.born=kv s f:=by
 unfold leftOf at he;simp only[qFg,List.mem_filter]at he;refine⟨by simpa using he.2,he.1,?_⟩;have:=he.1;simp only[ents,List.mem_cons,List.not_mem_nil,or_false]at this;rcases this with rfl|rfl|rfl|rfl|rfl<;>exact⟨_,_,rfl,rfl,rfl⟩
theorem zHn(w:World)(o:Obj):(w.alloc o).heap.size=w.heap.size+1:=Array.size_push _
theorem yUf(w:World)(t:TypeId):(Instr.makeMap t none).run qEr w=.ok (.map (some w.heap.size)) (w.alloc (.map #[] 0)):=by
 simp only[Instr.makeMap,Option.map_none,Sem.run_bind,run_newObj,Result.andThen_ok,Sem.run_pure];rfl
set_option maxHeartbeats 8000000 in
theorem yQu(w:World):Calls qEr 48 #[] w λe w'=>∃ b es n,e=.returned (.map (some b))/\w'.heap[b]?=some (.map es n)/\Eb Qq es.toList/\w.heap.size=b/\Below w.heap.size w w':=by
 have m0:=yUf w 113;have B0:Below w.heap.size w (w.alloc (.map #[] 0)):=(Below.refl _ _).alloc (aS _) _;have b0:(w.alloc (.map #[] 0)).heap[w.heap.size]?=some (.map #[] 0):=heap_alloc_new w _;have z0:(w.alloc (.map #[] 0)).heap.size=w.heap.size+1:=zHn _ _;generalize w.alloc (.map #[] 0)=w0 at m0 B0 b0 z0;have ut:qEr.underlying 113=some (.map 5 147):=by kernel_rfl
 have uk:qEr.underlying 5=some (.int .u8):=by kernel_rfl
 have us:qEr.underlying 148=some (.map 9 147):=by kernel_rfl
 have uz:qEr.underlying 9=some .string:=by kernel_rfl
 have xLo:qEr.underlying 149=some (.slice 5):=by kernel_rfl
 obtain⟨w1,r1,b1,u1,F1,k1⟩:=Ad (x:=.i .u8 123) (f:=71) (tab:=[]) ut uk b0 ⟨by simp,by simp⟩ rfl rfl rfl;obtain⟨w2,r2,b2,u2,F2,k2⟩:=Ad (x:=.i .u8 125) (f:=72) ut uk b1 F1 k1 rfl (by decide);obtain⟨w3,r3,b3,u3,F3,k3⟩:=Ad (x:=.i .u8 58) (f:=73) ut uk b2 F2 k2 rfl (by decide);obtain⟨w4,r4,b4,u4,F4,k4⟩:=Ad (x:=.i .u8 115) (f:=74) ut uk b3 F3 k3 rfl (by decide);obtain⟨w5,r5,b5,u5,F5,k5⟩:=Ad (x:=.i .u8 121) (f:=75) ut uk b4 F4 k4 rfl (by decide);have B5:Below w.heap.size w w5:=u5.below (aS _) (u4.below (aS _) (u3.below (aS _) (u2.below (aS _) (u1.below (aS _) B0))));have z5:w5.heap.size=w.heap.size+1:=by rw[u5.size,u4.size,u3.size,u2.size,u1.size,z0]
 clear u1 u2 u3 u4 u5 b0 b1 b2 b3 b4 F1 F2 F3 F4 k1 k2 k3 k4 B0 z0;simp only[MK.v]at r1 r2 r3 r4 r5;have m6:=yUf w5 148;have B6:Below w.heap.size w (w5.alloc (.map #[] 0)):=B5.alloc (by omega) _;have b6:(w5.alloc (.map #[] 0)).heap[w5.heap.size]?=some (.map #[] 0):=heap_alloc_new w5 _;have z6:(w5.alloc (.map #[] 0)).heap.size=w.heap.size+2:=by rw[zHn,z5]
 have c6:=(Below.heap_alloc w5 (.map #[] 0) w.heap.size (by omega)).trans b5;rw[z5]at m6 b6;generalize w5.alloc (.map #[] 0)=w6 at m6 B6 b6 z6 c6;obtain⟨w7,r7,b7,u7,G1,q1⟩:=Ad (x:=.s [61,100,68,103,71,104,72,110,78,112,80,120]) (f:=76) (tab:=[]) us uz b6 ⟨by simp,by simp⟩ rfl rfl rfl;obtain⟨w8,r8,b8,u8,G2,q2⟩:=Ad (x:=.s [97,105,99]) (f:=77) us uz b7 G1 q1 rfl (by decide);obtain⟨w9,r9,b9,u9,G3,q3⟩:=Ad (x:=.s [98,116,84]) (f:=78) us uz b8 G2 q2 rfl (by decide);obtain⟨w10,r10,b10,u10,G4,q4⟩:=Ad (x:=.s [108,113,81]) (f:=79) us uz b9 G3 q3 rfl (by decide);obtain⟨w11,r11,b11,u11,G5,q5⟩:=Ad (x:=.s [114,119]) (f:=80) us uz b10 G4 q4 rfl (by decide);have hle:w.heap.size<=w.heap.size+1:=Nat.le_succ _;have B11:Below w.heap.size w w11:=u11.below hle (u10.below hle (u9.below hle (u8.below hle (u7.below hle B6))));have z11:w11.heap.size=w.heap.size+2:=by rw[u11.size,u10.size,u9.size,u8.size,u7.size,z6]
 have hne:w.heap.size≠w.heap.size+1:=by omega
 have c11:w11.heap[w.heap.size]?=_:=(u11.block _ hne).trans ((u10.block _ hne).trans ((u9.block _ hne).trans ((u8.block _ hne).trans ((u7.block _ hne).trans c6))));clear u7 u8 u9 u10 u11 b6 b7 b8 b9 b10 G1 G2 G3 G4 G5 q1 q2 q3 q4 q5 B6 z6 c6 B5 b5;simp only[MK.v]at r7 r8 r9 r10 r11;have b11:w11.heap[w.heap.size+1]?=some (.map ents 5):=b11;have r12:=run_range_map w11 148 9 147 (w.heap.size+1) ents 5 us b11;have B12:Below w.heap.size w (w11.alloc (.mapIter (some (w.heap.size+1)) 5 #[] 5)):=B11.alloc (by omega) _;have i12:(w11.alloc (.mapIter (some (w.heap.size+1)) 5 #[] 5)).heap[w11.heap.size]?=some (.mapIter (some (w.heap.size+1)) 5 #[] 5):=heap_alloc_new w11 _;have c12:=(Below.heap_alloc w11 (.mapIter (some (w.heap.size+1)) 5 #[] 5) w.heap.size (by omega)).trans c11;have b12:=(Below.heap_alloc w11 (.mapIter (some (w.heap.size+1)) 5 #[] 5) (w.heap.size+1) (by omega)).trans b11;have z12:(w11.alloc (.mapIter (some (w.heap.size+1)) 5 #[] 5)).heap.size=w.heap.size+3:=by rw[zHn,z11]
 rw[z11]at r12 i12;generalize w11.alloc (.mapIter (some (w.heap.size+1)) 5 #[] 5)=w12 at r12 B12 i12 c12 b12 z12
 go_enter Tryz.func48,Tryz.ntmps48
 go_wp2
 go_loopg [5] 5 (λg _ wx=>∃ (seen:Array Nat) (es:Array MapEntry) (n c0:Nat),(leftOf ents seen).size=g/\wx.heap[w.heap.size+2]?=some (.mapIter (some (w.heap.size+1)) 5 seen c0)/\5<=c0/\wx.heap[w.heap.size+1]?=some (.map ents 5) /\
  wx.heap[w.heap.size]?=some (.map es n)/\Eb (wT seen.toList) es.toList/\uK (TK.of (.int .u8)) (wT seen.toList)=true/\Below w.heap.size w wx/\w.heap.size+3<=wx.heap.size)
 case atStart=>exact⟨#[],_,_,5,by kernel_rfl,i12,aS _,b12,c12,F5,k5,B12,Nat.le_of_eq z12.symm⟩
 case round =>
  clear k5 F5 r1 r2 r3 r4 r5 r7 r8 r9 r10 r11 r12 m0 m6 B12 i12 c12 b12 z12 z5 z11 c11 b11 B11;obtain⟨seen,es,n,c0,hg,hit,hc0,xBk,hes,hF,hK,hB,hz⟩:=hrel;have HB:Aside (Below w.heap.size w wr):=hB;have HF:Aside (Eb (wT seen.toList) es.toList/\uK (TK.of (.int .u8)) (wT seen.toList)=true):=⟨hF,hK⟩;have HG:Aside ((leftOf ents seen).size=gk):=hg;clear hB hF hK hg;rcases run_next_at (P:=qEr) wr 0 (w.heap.size+2) (w.heap.size+1) 5 c0 seen ents 5 hit xBk (by decide) hc0 with ⟨h0,hnx⟩|⟨e,he,w1,hw1,hrest⟩
  ·go_wp2
   go_ret
   exact⟨_,_,_,rfl,hes,xHd (yUe h0) HF.out.1,rfl,HB.out⟩
  ·obtain⟨hns,hmem,s,f,hk1,hk2,hk3⟩:=xHe he;have hlt:=xDi he;have HL:Aside (e.born∉seen.toList/\(leftOf ents (seen.push e.born)).size<(leftOf ents seen).size/\Bj e.born=kv s f/\e∈ents.toList):=⟨hns,hlt,hk3,hmem⟩;obtain⟨w2,hw2⟩:∃ w2,setBlock w1 (w.heap.size+2) (.mapIter (some (w.heap.size+1)) 5 (seen.push e.born) 5)=w2:=⟨_,rfl⟩;have hh:w1.heap=wr.heap:=by rcases hw1 with rfl|rfl<;>rfl
   have hB2:Below w.heap.size w w2:=by
    have:Below w.heap.size w w1:=by
     rcases hw1 with rfl|rfl
     ·exact HB.out
     ·exact Below.drew HB.out
    rw[<- hw2];exact this.trans ⟨rfl,rfl,rfl,by simp[setBlock],λk hk=>by simp only[setBlock];rw[qFe (by omega)]⟩
   have hsz2:w2.heap.size=wr.heap.size:=by rw[<- hw2,<- hh];simp[setBlock]
   have hat:∀ k,k≠w.heap.size+2->w2.heap[k]?=wr.heap[k]?:=λk hk=>by rw[<- hw2,<- hh];simp only[setBlock];rw[qFe (Ne.symm hk)]
   have hit2:w2.heap[w.heap.size+2]?=some (.mapIter (some (w.heap.size+1)) 5 (seen.push e.born) 5):=by
    rw[<- hw2];simp only[setBlock];rw[Array.getElem?_setIfInBounds_self_of_lt (by rw[hh];omega)]
   have yUg:=(hat _ (by omega)).trans xBk;have xLp:=(hat _ (by omega)).trans hes;rw[hw2]at hrest;clear hw1 hw2 hh hat he hns hlt hk3;have hen:=run_entry_at (P:=qEr) w2 (w.heap.size+2) (w.heap.size+1) 5 seen ents 5 e hit2 yUg hmem (by decide);rw[hk1,hk2]at hrest hen;have hcv:=Go.Lib.run_convert_string_bytes (P:=qEr) w2 9 149 5 ⟨s.toArray⟩ uz xLo uk;have hZ3:=Go.Lib.bytesWorld_size w2 5 ⟨s.toArray⟩;have hO3:=Go.Lib.bytesWorld_at_old w2 5 ⟨s.toArray⟩;have hC3:=Go.Lib.bytesWorld_cell w2 5 ⟨s.toArray⟩;have hB3:=hB2.trans (Go.Joins.below_bytesWorld w.heap.size w2 5 ⟨s.toArray⟩ (by omega));generalize Go.Lib.bytesWorld w2 5 ⟨s.toArray⟩=w3 at hcv hZ3 hO3 hC3 hB3;generalize hcap:grownCap w2 _ 0 5=cap at hcv;have hit3:=(hO3 _ (by omega)).trans hit2;have xHf:=(hO3 _ (by omega)).trans yUg;have xLq:=(hO3 _ (by omega)).trans xLp;clear hmem;have hk2:w.heap.size+3<=w2.heap.size:=by omega
   clear hsz2;generalize w2.heap.size=k2 at hcv hZ3 hO3 hC3 hk2;have hlen:(⟨s.toArray⟩:ByteArray).size=s.length:=by simp[ByteArray.size]
   rw[hlen]at hcv hC3;have hdat:(⟨s.toArray⟩:ByteArray).data.toList=s:=by simp
   simp only[hdat]at hC3
   go_wp2
   go_loopg [19] s.length (λg s19 wx=>∃ (j:Nat) (es':Array MapEntry) (n':Nat),j+g=s.length/\s19=.int .i64 j/\wx.heap[w.heap.size]?=some (.map es' n')/\Eb (wT seen.toList++(kv s f).take j) es'.toList/\uK (TK.of (.int .u8)) (wT seen.toList++(kv s f).take j)=true/\Upd w.heap.size w3 wx)
   case atStart=>exact⟨0,es,n,by omega,rfl,xLq,by simpa using HF.out.1,by simpa using HF.out.2,⟨rfl,rfl,rfl,rfl,λ_ _=>rfl⟩⟩
   case round =>
    obtain⟨j,es',n',hj,rfl,hes',hF',hK',hU⟩:=hrel;have hjb:k2≠w.heap.size:=by omega
    by_cases hjl:j<s.length
    ·obtain⟨b,hb⟩:∃ b,s[j]?=some b:=⟨s[j],wW hjl⟩;have hcell:wr.cell? ⟨k2,j,none⟩=some (.int .u8 (b.toNat:Int)):=by
      have h1:=hC3 j hjl;rw[List.getD_eq_getElem?_getD,hb,qCx]at h1;rw[<- h1];exact World.cell?_of_block (w:=w3) (hU.block _ hjb)
     have hq:(Bj e.born)[j]?=some (.i .u8 (b.toNat:Int),f):=by
      rw[HL.out.2.2.1];unfold kv;rw[qBx,hb];rfl
     have hnew:=fresh (seen:=seen.toList) (i:=e.born) HL.out.1 hq;rw[HL.out.2.2.1]at hnew hq;have htk:(kv s f).take (j+1)=(kv s f).take j++[(.i .u8 (b.toNat:Int),f)]:=by rw[List.take_add_one,hq];rfl
     obtain⟨w4,r4,b4,u4,F4,K4⟩:=Ad (x:=.i .u8 (b.toNat:Int)) (f:=f) ut uk hes' hF' hK' rfl hnew;rw[wE,<- htk]at F4 K4;simp only[MK.v]at r4;have HF4:Aside (Eb (wT seen.toList++(kv s f).take (j+1)) _/\uK (TK.of (.int .u8)) (wT seen.toList++(kv s f).take (j+1))=true):=⟨F4,K4⟩;have hU4:Upd w.heap.size w3 w4:=⟨u4.os.trans hU.os,u4.tape.trans hU.tape,u4.output.trans hU.output,u4.size.trans hU.size,λk hk=>(u4.block k hk).trans (hU.block k hk)⟩;clear F4 K4 hF' hK' hq hnew htk hb u4;have hjz:(j:Int)<(s.length:Int):=by omega
     have hj0:(0:Int)<=(j:Int):=by omega
     have h12:s.length<=12:=by
      have:=yGz e.born;rw[HL.out.2.2.1]at this;simpa [kv]using this
     have hwr:Aside (wrap64 ((j:Int)+1)=((j+1:Nat):Int)):=by rw[IntWalk.wrap64_in _ (by omega)];rfl
     clear h12
     go_wp2
     go_roundg (gk-1)
     case measure=>omega
     case rel=>exact⟨j+1,_,_,by omega,by rw[hwr.out],b4,HF4.out.1,HF4.out.2,hU4⟩
    ·obtain rfl:j=s.length:=by omega
     have hF2:Eb (wT (seen.push e.born).toList) es'.toList/\uK (TK.of (.int .u8)) (wT (seen.push e.born).toList)=true:=by
      have:wT (seen.push e.born).toList=wT seen.toList++(kv s f).take s.length:=by
       unfold wT;rw[qCn,List.flatMap_append,wE,List.take_of_length_le (by simp[kv])];congr 1;show _++(Bj e.born++[])=_;rw[HL.out.2.2.1,vE]
      rw[this];exact⟨hF',hK'⟩
     have HF2:Aside (Eb (wT (seen.push e.born).toList) es'.toList/\uK (TK.of (.int .u8)) (wT (seen.push e.born).toList)=true):=hF2;clear hF2 hF' hK';have hjz:¬ ((s.length:Int)<(s.length:Int)):=by omega
     go_wp2
     go_roundg ((leftOf ents (seen.push e.born)).size)
     case measure=>have h1:=HL.out.2.1;have h2:=HG.out;omega
     case rel=>exact⟨seen.push e.born,es',n',5,rfl,(hU.block _ (by omega)).trans hit3,aS _,(hU.block _ (by omega)).trans xHf,hes',HF2.out.1,HF2.out.2,hU.below (aS _) hB3,by rw[hU.size];omega⟩
end Go.Dec
namespace Go.Dec
open Go.Proofs
abbrev Zh:Sh:=⟨0,[],[]⟩
abbrev Fz:Sh:=⟨1,[⟨0,false,[.mp 0]⟩],[.fm Qq]⟩
theorem zOw(n:Nat):dV qEr 48 Zh Fz (zDe n):=by
 refine⟨by kernel_rfl,λx y hy C β w xs hP hkf hs=>?_⟩;have henc:Zh.enc x=⟨[],[]⟩:=rfl;rw[henc]at hs;have hl:xs.length=0:=by have:=hs.size;simpa using this.symm
 obtain rfl:=List.length_eq_zero_iff.1 hl;refine(yQu w).mono λe w' ⟨b,es,nn,he,hms,hfm,hb,hbel⟩=>?_
 subst he hb;have hlt:w.heap.size<w'.heap.size:=(qCk.1 hms).1
 let p:Pl:=⟨true,true,0,some w.heap.size,0,0,0,[]⟩
 have hk:Keep (λ_ _=>False) w w':=Keep.mZ (M:=λ_=>False) hbel.size (λj hj _=>hbel.block j hj) (λ_ _ h=>h);have Ew:=hs.zUe (o:=.fm Qq) (p:=p) (w':=w') (λb' hb'=>by
  have:b'=w.heap.size:=by
   have:=Ob.uU (o:=.fm Qq) rfl hb';simpa [p]using this.symm
  subst this;exact⟨aS _,hlt⟩) hk ⟨hbel.os,hbel.tape,hbel.output⟩ (by
  simp only[Ob.Rel];exact⟨rfl,rfl,_,es,nn,rfl,hms,hfm⟩)
 refine⟨[.map (some w.heap.size)],_,rfl,⟨Ew.heap,rfl,by rw[show(Fz.enc y).r=[.one (.mp 0)]from rfl];rfl,λi v hv=>?_⟩⟩;cases i with
 |zero =>
  have hv:v=.one (.mp 0):=by
   have:(Fz.enc y).r=[.one (.mp 0)]:=rfl;rw[this]at hv;simpa using hv.symm
  subst hv;simp only[V.Rel,L.Rel];exact⟨rfl,rfl,_,rfl,rfl⟩
 |succ i =>
  have:(Fz.enc y).r=[.one (.mp 0)]:=rfl;rw[this]at hv;simp at hv
end Go.Dec
