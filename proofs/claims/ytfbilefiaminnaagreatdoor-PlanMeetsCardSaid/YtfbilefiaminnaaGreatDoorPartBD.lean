/- Part of a proof over this seat: a library of my own, and what it says of this seat. No statement is proved here. -/
import Derived.Test.YtfbilefiaminnaaGreatDoorPartAK
namespace Go.Dec
section
variable {P:Program}
variable {f:FuncId}
variable {si so:Sh}
def xCp(j:Nat)(vs:List V)(h:List Ob):Option (Nat × TypeId × List L × Nat × Nat):=
 match vs with
 |.one (.ptr rid 0)::_=>match h[rid]? with
  |some (.box e ls)=>match ls[j]? with
   |some (.own sid u)=>some (rid,e,ls,sid,u)
   |_=>none
  |_=>none
 |_=>none
def xAc{ρ:Type}(off j:Nat)(si so:Sh)(F:si.X->Option so.X)(vs:List V)(h:List Ob)(k:Out->List Ob->Option ρ):Option ρ :=
 match xCp j vs h with
 |some (rid,e,ls,sid,u)=>
  let h1:=h.set rid (.box e (ls.set j (.bad 1)))
  match si.dec ⟨vs.map (V.ren (reach vs h1) h1),inH (reach vs h1) h1⟩with
  |some x=>chk (zBi (reach vs h1) h1 si so&&(Nat.beq (sizes (ls.take j)) off&&yKq rid (reach vs h1))) (ob (F x) λy =>
   match (fZ (reach vs h1) h1 (so.enc y).h)[rid]? with
   |some (.box e' ls')=>match ls'[j]? with
    |some (.bad 1)=>match Nat.beq (sizes (ls'.take j)) off with
     |true=>k (.ret (zSy ((so.enc y).r.map (V.back (lJ (reach vs h1) h1.length) (jS (reach vs h1) h1))))) ((fZ (reach vs h1) h1 (so.enc y).h).set rid (.box e' (ls'.set j (.own sid u))))
     |false=>none
    |_=>none
   |_=>none)
  |none=>none
 |none=>none
where
 yKq (rid:Nat):List Nat->Bool
  |a::_=>Nat.beq a rid
  |[]=>false
def xAd{ρ:Type}(si so:Sh)(F:si.X->Option so.X)(vs:List V)(h:List Ob)(k:Out->List Ob->Option ρ):Option ρ :=
 match (peM si so F).run vs h with
 |some (c,o)=>chk c (ob o λy=>k (.ret ((peM si so F).enc y vs h).1) ((peM si so F).enc y vs h).2)
 |none=>none
def geM {ρ:Type} (f:FuncId) (si so:Sh) (F:si.X->Option so.X):GE ρ := { f:=f,run:=xAd si so F }
theorem xAe{ρ:Type}{F:si.X->Option so.X}(h:dV P f si so F):(geM (ρ:=ρ) f si so F).OK P:=⟨λvs hp k r hr=>by
 simp only[geM,xAd]at hr;split at hr
 ·rename_i c o hrun;obtain⟨rfl,hr⟩:=iM hr;obtain⟨y,rfl,hr⟩:=zJw hr;refine⟨h.1,((aZ h).rel vs hp y hrun).mono ?_⟩;rintro o' h' ⟨rfl,rfl⟩;exact⟨hr,λid hid hn=>Qc hid hn⟩
 ·cases hr⟩
end
end Go.Dec
namespace Go.Dec
section
variable {ρ:Type}
variable {Γ:Orc ρ}
variable {T:Tab}
variable {π:FuncId->Option PE}
theorem Goes.ld{σ:St}{o:Oper}{v:V}{h':List Ob}{t:TypeId}{p:Operand}{l:L}(ho:o.op=.load t p)(hp:ovl σ p=.one l)(h:Goes π T σ o v h'):h'=σ.h/\loadAt T σ.h t l=some (true,v)/\∀ h2,loadAt T h2 t l=loadAt T σ.h t l->Goes π T ⟨σ.r,h2⟩ o v h2:=by
 obtain⟨dst,op,type,pos,after,guard⟩:=o;have e:∀ h2 y,ovl ⟨σ.r,h2⟩ y=ovl σ y:=λh2 y=>by cases y<;>rfl
 simp only at ho;subst ho;unfold Goes at h ⊢;simp only[nG,isM,isX,isS,gL,e,hp]at h ⊢;split at h
 ·rename_i c u hc;simp only[aA,aB]at h;obtain⟨rfl,rfl,rfl⟩:=h;exact⟨rfl,hc,λh2 he=>by rw[he,hc]⟩
 ·cases h
theorem Goes.xAf{σ:St}{o:Oper}{v:V}{h':List Ob}{args:Array Operand}{ats:Array TypeId}{p:Operand}{sid ver:Nat}(ho:o.op=.call { callee:=.builtin .len,args:=args,argTypes:=ats })(ha:args.toList=[p])(hp:ovl σ p=.one (.own sid ver))(h:Goes π T σ o v h'):h'=σ.h/\∀ h2,h2[sid]?=σ.h[sid]?->Goes π T ⟨σ.r,h2⟩ o v h2:=by
 obtain⟨dst,op,type,pos,after,guard⟩:=o;have e:∀ h2 y,ovl ⟨σ.r,h2⟩ y=ovl σ y:=λh2 y=>by cases y<;>rfl
 simp only at ho;subst ho;unfold Goes at h ⊢;simp only[nG,isM,isX,isS,gL,ha]at h ⊢;have key:∀ h2 t,h2[sid]?=σ.h[sid]?->Sc T ⟨σ.r,h2⟩ t p=Sc T σ t p:=λh2 t he=>by
  have hs:zJu h2 (L.view h2 (.own sid ver))=zJu σ.h (L.view σ.h (.own sid ver)):=by
   rw[yFp he];simp only[L.view];split<;>simp only[zJu,he]
  simp only[Sc,e,hp];split
  ·have hq:=‹V.one (L.own sid ver)=V.one _›;simp only[V.one.injEq]at hq;subst hq;simp only[hs]
  ·rfl
 cases zDh:ats.toList with
 |nil=>rw[zDh]at h;cases h
 |cons t r =>
  cases r with
  |cons _ _=>rw[zDh]at h;cases h
  |nil =>
   rw[zDh]at h;simp only at h ⊢;split at h
   ·rename_i c u hc;simp only[aA,aB]at h;obtain⟨rfl,rfl,rfl⟩:=h;exact⟨rfl,λh2 he=>by rw[key h2 t he,hc]⟩
   ·cases h
theorem Goes.xAg{σ:St}{o:Oper}{v:V}{h':List Ob}{args:Array Operand}{ats:Array TypeId}{p:Operand}{sid ver:Nat}(ho:o.op=.call { callee:=.builtin .len,args:=args,argTypes:=ats })(ha:args.toList=[p])(hp:ovl σ p=.one (.own sid ver))(h:Goes π T σ o v h')(hn:σ.h[sid]?=none):∀ h2,Goes π T ⟨σ.r,h2⟩ o v h2:=by
 obtain⟨dst,op,type,pos,after,guard⟩:=o;have e:∀ h2 y,ovl ⟨σ.r,h2⟩ y=ovl σ y:=λh2 y=>by cases y<;>rfl
 simp only at ho;subst ho;unfold Goes at h ⊢;simp only[nG,isM,isX,isS,gL,ha]at h ⊢;cases zDh:ats.toList with
 |nil=>rw[zDh]at h;cases h
 |cons t r =>
  cases r with
  |cons _ _=>rw[zDh]at h;cases h
  |nil =>
   rw[zDh]at h;simp only at h ⊢;split at h
   ·rename_i c u hc;simp only[aA,aB]at h;obtain⟨rfl,rfl,rfl⟩:=h;intro h2;have:Sc T ⟨σ.r,h2⟩ t p=some (true,u):=by
     simp only[Sc,e,hp]at hc ⊢;split at hc
     ·have hq:=‹V.one (L.own sid ver)=V.one _›;simp only[V.one.injEq]at hq;subst hq;simp only[L.view,hn,zJu]at hc;split at hc
      ·exact hc
      all_goals cases hc
     ·cases hc
    simp only[this]
   ·cases h
def Qz(x:Oper):Option Operand :=
 match x.op with
 |.load _ p=>some p
 |.call { callee:=.builtin .len,args,.. }=>match args.toList with
  |[p]=>some p
  |_=>none
 |_=>none
def Zg(T:Tab)(t:TypeId):Bool:=match T.get t with|some ti=>Nat.beq ti.size 1|none=>false
def Wu(T:Tab)(σ:St)(rid:Nat)(oL ids:List Nat)(x:Oper)(u:Nat):Bool :=
 match x.guard with
 |some _=>false
 |none =>
  match x.op with
  |.load t p=>match ovl σ p with
   |.one (.ptr id off)=>Nat.beq id rid&&(Nat.beq u (6+2*rid)&&(oL.any (Nat.beq off)&&Zg T t))
   |_=>false
  |.call { callee:=.builtin .len,args,.. }=>match args.toList with
   |[p]=>match ovl σ p with
    |.one (.own sid _)=>Nat.beq u 1&&!ids.any (Nat.beq sid)
    |_=>false
   |_=>false
  |_=>false
def zYg(x:Oper):List Oper->Bool
 |[]=>true
 |y::r=>(match Qz x,y.dst with|some (.tmp t),some d=>!Nat.beq t d|_,_=>true)&&zYg x r
theorem zQi{x:Oper}:∀ {l:List Oper},zYg x l=true->∀ y∈l,∀ p,Qz x=some p->∀ d,y.dst=some d->p≠.tmp d
 |[],_,_,h,_,_,_,_=>by cases h
 |z::l,h,y,hy,p,hp,d,hd=>by
  simp only[zYg,aD]at h;cases hy with
  |head =>
   intro e;subst e;rw[hp,hd]at h;simp at h
  |tail _ hy=>exact zQi h.2 y hy p hp d hd
theorem zVi{π:FuncId->Option PE}{ops:Array Oper}{p:Operand}:∀ {L:List (Oper × Nat)}{σ σA:St},(∀ y∈L,∀ d,y.1.dst=some d->p≠.tmp d)->Run π T ops L σ σA->ovl σA p=ovl σ p
 |[],σ,σA,_,h=>by obtain rfl:=h;rfl
 |(x,u)::L,σ,σA,hp,h=>by
  obtain⟨v,h',_,h⟩:=h;rw[zVi (λy hy=>hp y (.tail _ hy)) h];exact zBh λt ht=>hp _ (.head _) t ht
def Free (T:Tab) (ops:Array Oper) (o:Oper) (rid:Nat) (oL ids:List Nat) (σA:St) (L:List (Oper×Nat)):Prop :=∀ A x u B,L = A++(x,u) :: B->Oper.apart ops x o = true ∧ (Ld ids u = true ∨ (Wu T σA rid oL ids x u = true ∧ ∀ y ∈ (x,u) :: B,∀ p,Qz x = some p -> ∀ d,y.1.dst = some d->p ≠ .tmp d))
theorem Free.tail{ops:Array Oper}{o:Oper}{rid:Nat}{oL ids:List Nat}{σA:St}{x:Oper × Nat}{L:List (Oper × Nat)}(h:Free T ops o rid oL ids σA (x::L)):Free T ops o rid oL ids σA L:=λA y u B e=>h (x::A) y u B (by rw[e];rfl)
theorem yWz{a:Nat}{l:List Nat}(h:(!l.any (Nat.beq a))=true):a∉l:=λhm=>by
 have:l.any (Nat.beq a)=true:=List.any_eq_true.2 ⟨a,hm,Nat.beq_refl a⟩;rw[this]at h;cases h
theorem zIf{ops:Array Oper}{o:Oper}{rid:Nat}{oL ids:List Nat}{v:V}:∀ {L:List (Oper × Nat)}{σ σA:St}{h':List Ob},Free T ops o rid oL ids σA L->Run π T ops L σ σA ->
 (∀ id,id<σ.h.length->id∉ids->h'[id]?=σ.h[id]?)->(∀ off∈oL,∀ t,Zg T t=true->loadAt T h' t (.ptr rid off)=loadAt T σ.h t (.ptr rid off))->σA.h=σ.h/\Run π T ops L ⟨bW σ.r o.dst v,h'⟩ ⟨bW σA.r o.dst v,h'⟩/\∀ y∈o.op.operands,ovl σA y=ovl σ y
 |[],σ,σA,h',_,hr,_,_=>by
  obtain rfl:=hr;exact⟨rfl,rfl,λ_ _=>rfl⟩
 |(x,u)::L,σ,σA,h',hf,hrun,hh,hld=>by
  have xCq:=hrun;obtain⟨v1,h1,g,hr⟩:=hrun;obtain⟨ha,hu⟩:=hf [] x u L rfl;obtain⟨a1,a2,a3⟩:=Oper.apart_spec ha;have key:h1=σ.h/\yS π T ops ⟨bW σ.r o.dst v,h'⟩ x u v1 h':=by
   rcases hu with hu|⟨hu,hset⟩
   ·simp only[Ld,Bool.or_eq_true,aD]at hu;rcases hu with hu|⟨hu,hp⟩
    ·have hu:=aK hu;obtain⟨e,k1⟩:=g.dry hu;have k:∀ h3,gZ π T ops ⟨bW σ.r o.dst v,h3⟩ x v1 h3:=λh3=>(k1 h3).move o.dst v (.inl rfl) rfl a3
     exact⟨e,k h',λ_=>⟨rfl,k⟩,λ_=>rfl,(λh6=>by omega),(λh3=>by omega),aP _⟩
    ·have hrd:rdB u=true:=by simp only[rdB,hu,Bool.or_true]
     simp only[zHb,aD]at hu;have h6:=bR hu.1;have h0:=aK hu.2;obtain⟨id,fo,k1,k2,k3,k4,k5⟩:=g.at6 h6;obtain rfl:=k3 h0;have hid:id∉ids:=by
      intro hm;have e:u / 2-3=id:=by omega
      rw[e]at hp;cases hq:pos id ids 0 with
      |some q=>rw[hq]at hp;cases hp
      |none=>exact zDs.zHg hq hm
     have he:=hh id k2 hid;have hlt:id<h'.length:=by
      rcases jB id h'.length with h|h
      ·exact h
      ·rw[List.getElem?_eq_none h,List.getElem?_eq_getElem k2]at he;cases he
     refine⟨k4,(k5 h' he).move o.dst v (.inl rfl) rfl a3,λh=>by omega,λ_=>rfl,λ_=>⟨id,none,k1,hlt,k3,rfl,λh2 he2=>(k5 h2 (he2.trans he)).move o.dst v (.inl rfl) rfl a3⟩,(λh=>by omega),aP _⟩
   ·have hk:∀ p,Qz x=some p->ovl σA p=ovl σ p:=λp hp=>zVi (λy hy=>hset y hy p hp) xCq
    unfold Wu at hu;split at hu
    ·cases hu
    ·rename_i hg;split at hu
     ·rename_i t p ho;have hp:=hk p (by simp only[Qz,ho]);split at hu
      ·rename_i id off hpo;rw[hp]at hpo;simp only[aD]at hu;obtain⟨e1,e2,e3,e9⟩:=hu;have e1:=aK e1;have e2:=aK e2;subst e1;obtain⟨off',hm,e4⟩:=List.any_eq_true.1 e3;have e4:=aK e4;subst e4;have hgo:Goes π T σ x v1 h1:=by
        have:=g.goes;unfold gZ at this;rw[hg]at this;rcases this with h|⟨h,_⟩|⟨_,h⟩
        ·exact h
        ·simp only[Vw,ho,zHc]at h;cases h
        ·simp only[Sd,ho]at h;cases h
       obtain⟨rfl,l1,l2⟩:=hgo.ld ho hpo;have hlt:id<h'.length:=zLp (l:=.ptr id off) rfl ((hld off hm t e9).trans l1);have mk:∀ h2,loadAt T h2 t (.ptr id off)=loadAt T σ.h t (.ptr id off)->gZ π T ops ⟨bW σ.r o.dst v,h2⟩ x v1 h2:=λh2 he=>by
        have:gZ π T ops ⟨σ.r,h2⟩ x v1 h2:=by unfold gZ;rw[hg];exact .inl (l2 h2 he)
        exact this.move o.dst v (.inl rfl) rfl a3
       refine⟨rfl,mk h' (hld off hm t e9),λh=>by omega,λ_=>rfl,λ_=>⟨id,none,by omega,hlt,λ_=>rfl,rfl,λh2 he2=>mk h2 ((zUr (l:=.ptr id off) rfl he2).trans (hld off hm t e9))⟩,λh=>by omega,aP _⟩
      ·cases hu
     ·rename_i args ats ho;split at hu
      ·rename_i p hargs;have hp:=hk p (by simp only[Qz,ho,hargs]);split at hu
       ·rename_i sid ver hpo;rw[hp]at hpo;simp only[aD]at hu;obtain⟨e2,e3⟩:=hu;have e2:=aK e2;subst e2;have hni:=yWz e3;have hgo:Goes π T σ x v1 h1:=by
         have:=g.goes;unfold gZ at this;rw[hg]at this;rcases this with h|⟨h,_⟩|⟨_,h⟩
         ·exact h
         ·simp only[Vw,ho,zDp]at h;cases h
         ·simp only[Sd,ho]at h;cases h
        obtain⟨rfl,l2⟩:=hgo.xAf ho hargs hpo;refine⟨rfl,?_,λh=>by omega,λ_=>rfl,λh=>by omega,λh=>by omega,aP _⟩;have:gZ π T ops ⟨σ.r,h'⟩ x v1 h':=by
         unfold gZ;rw[hg];rcases jB sid σ.h.length with hlt|hge
         ·exact .inl (l2 h' (hh sid hlt hni))
         ·exact .inl (hgo.xAg ho hargs hpo (List.getElem?_eq_none hge) h')
        exact this.move o.dst v (.inl rfl) rfl a3
       ·cases hu
      ·cases hu
     ·cases hu
  obtain⟨rfl,g2⟩:=key;obtain⟨k1,k2,k3⟩:=zIf (σ:=⟨bW σ.r x.dst v1,σ.h⟩) (h':=h') hf.tail hr hh hld;refine⟨k1,⟨v1,h',g2,?_⟩,λy hy=>?_⟩
  ·have e:bW (bW σ.r o.dst v) x.dst v1=bW (bW σ.r x.dst v1) o.dst v:=(zHd a2).symm;simp only[e];exact k2
  ·rw[k3 y hy];have hne:∀ t,x.dst=some t->y≠.tmp t:=λt ht e=>a1 t ht (by
    subst e;exact List.mem_append_left _ (List.mem_filterMap.2 ⟨.tmp t,by simpa using hy,rfl⟩))
   exact zBh hne
theorem zLv{π:FuncId->Option PE}{ops:Array Oper}:∀ {L M:List (Oper × Nat)}{σ σ1 σ2:St},Run π T ops L σ σ1->Run π T ops M σ1 σ2->Run π T ops (L++M) σ σ2
 |[],M,σ,σ1,σ2,h,h2=>by obtain rfl:=h;exact h2
 |(x,u)::L,M,σ,σ1,σ2,h,h2=>by
  obtain⟨v,h',g,h⟩:=h;exact⟨v,h',g,zLv h h2⟩
theorem yKr{LA LB:List (Oper × Nat)}{p:Oper × Nat}{listed:Array Bool}{i n:Nat}(hLA:LA.length=i)(hsz:listed.size=n)(hi:i<n)(hlen:(LA++p::LB).length=n)(Ud:∀ m,i<m->m<n->listed.getD m false=false):lH (LA++p::LB) (listed.setIfInBounds i true)=lH LA listed++LB:=by
 subst hLA;unfold lH;rw[range_split (i:=LA.length) (by rw[hlen];exact hi),List.filterMap_append,List.filterMap_cons];have hat:iA (LA++p::LB) (listed.setIfInBounds LA.length true) LA.length=none:=by
  unfold iA;rw[if_pos];have:LA.length<listed.size:=by omega
  simp[this]
 rw[hat];congr 1
 ·refine iE λm hm=>?_
  have hm:=List.mem_range.1 hm;unfold iA;rw[getD_set_ne true (by omega),fV hm]
 ·rw[List.filterMap_map];have hll:(LA++p::LB).length-LA.length-1=LB.length:=by simp
  rw[hll];have:(List.range LB.length).filterMap (iA (LA++p::LB) (listed.setIfInBounds LA.length true) ∘ λk=>LA.length+1+k)=(List.range LB.length).filterMap (λk=>LB[k]?):=iE λk hk=>by
   have hk:=List.mem_range.1 hk;simp only[Function.comp];unfold iA;have xBy:LA.length+LB.length+1=n:=by rw[<- hlen];simp;omega
   have h1:=Ud (LA.length+1+k) (by omega) (by omega);have h2:listed.getD (LA.length+1+k) true=false:=by
    have:LA.length+1+k<listed.size:=by omega
    simpa [this]using h1
   rw[getD_set_ne true (by omega),h2];rw[List.getElem?_append_right (by omega),show LA.length+1+k-LA.length=k+1 by omega,List.getElem?_cons_succ];simp
  rw[this];exact Jw LB
theorem zQj{C:Ctx}(hT:bM C.P T)(hΓ:kQ C.P Γ){ops:Array Oper}(hd:xW ops.toList 0=true){j:Nat}{o:Oper}{f:FuncId}{args:Array Operand}(hj:ops[j]?=some o)(hg:o.guard=none){ats:Array TypeId}(hop:o.op=.call { callee:=.value (.func f),args:=args,argTypes:=ats }){LA:List (Oper × Nat)}{σA:St}{r:ρ}{k:Dec.K ρ}{Q:Exit->Act->World->Prop}(hLA:LA.length=j)(hL:∀ i,i<j->ops[i]?=(LA[i]?).map (·.1))(hrow:∀ i o u,LA[i]?=some (o,u)->∀ i' x v,i'<i->LA[i']?=some (x,v)->(Oper.apart ops x o=true/\Fg 0 v u=true)\/ahead ops ops.size i' i=true)(hafter:Jh ops j (ops.size-(j+1)) (j+1)=true){rid:Nat}{oL ids:List Nat}(hfree:∀ i x u,LA[i]?=some (x,u)->(Oper.apart ops x o=true/\(Ld ids u=true\/(Wu T σA rid oL ids x u=true/\∀ i' y u',i<=i'->LA[i']?=some (y,u')->∀ p,Qz x=some p->∀ d,y.dst=some d->p≠.tmp d)))\/ahead ops ops.size i j=true)(hb:iH C.P f=true)(hcall:Cx C.P f (jL σA args.toList) σA.h λout h'=>((match out with
  |.ret v=>lW Γ.quiet T 0 ops (ops.toList.drop (j+1)) (j+1) (LA.map (·.2)++[0]) ⟨bW σA.r o.dst v,h'⟩ λ_ σ2=>k .normal σ2
  |.pan t v=>k (.pan t v) ⟨σA.r.map λ_=>.bY,h'⟩)=some r)/\(∀ id,id<σA.h.length->id∉ids->h'[id]?=σA.h[id]?)/\∀ off∈oL,∀ t,Zg T t=true->loadAt T h' t (.ptr rid off)=loadAt T σA.h t (.ptr rid off))(hq:∀ e x σ' β' a' w',Sim C β' σ' a' w'->La β' w' (C.N β' σ'.h) e x->k e σ'=some r->Q x a' w'):∀ (fuel:Nat) (listed:Array Bool) (β:Nat->Pl) (σ:St) (a:Act) (w:World),listed.size=ops.size->Closed ops listed->listed.getD j true=false->(lH LA listed).length+(ops.size-j)<=fuel->Run Γ.pure T ops (lH LA listed) σ σA->Sim C β σ a w->wpAny C.P .any ops Q fuel listed a w
 |0,listed,β,σ,a,w,hsz,hcl,hjl,hfu,h,hs=>by
  have hlt:=(Array.getElem?_eq_some_iff.1 hj).1;omega
 |fuel+1,listed,β,σ,a,w,hsz,hcl,hjl,hfu,h,hs=>by
  have hjlt:=(Array.getElem?_eq_some_iff.1 hj).1;have Ud:∀ i,j<i->i<ops.size->listed.getD i false=false:=by
   intro i hji hi;cases hli:listed.getD i false with
   |false=>rfl
   |true =>
    have hah:=Bc hafter (i-(j+1)) (by omega);rw[show j+1+(i-(j+1))=i by omega]at hah;have:=mY hcl hah λo' ho' e he hb=>hcl i o' ho' hli e he hb
    rw[zY hsz hjlt hjl]at this;cases this
  refine⟨λhr=>?_,λi hi=>?_⟩
  ·exfalso;refine zDr (L:=ops.toList.map λo=>(o,0)) (λi=>by simp only[List.getElem?_map,Array.getElem?_toList];cases ops[i]?<;>rfl) hd hsz ?_ hr;intro h0;obtain⟨A,B,e1,_,_⟩:=Fq (L:=ops.toList.map λo=>(o,0)) (i:=j) (o:=(o,0)) (by simp[hj]) hjl;rw[h0]at e1;simp at e1
  ·obtain⟨h1,o1,ho1,hall⟩:=mem_ready.1 hi;have hlt:i<ops.size:=(Array.getElem?_eq_some_iff.1 ho1).1;have zZw:Closed ops (listed.setIfInBounds i true):=by
    intro m o2 ho2 hl e he hb;by_cases hmi:i=m
    ·subst hmi;rw[ho1]at ho2;simp only[aA]at ho2;subst ho2;exact getD_set_true (hall e he hb)
    ·rw[getD_set_ne false hmi]at hl;exact getD_set_true (hcl m o2 ho2 hl e he hb)
   rcases Nat.lt_trichotomy i j with hij|hij|hij
   ·cases hLi:LA[i]? with
    |none=>rw[hL i hij,hLi]at ho1;cases ho1
    |some p =>
     obtain⟨o',u⟩:=p;rw[hL i hij,hLi]at ho1;simp only[Option.map_some,aA]at ho1;subst ho1;obtain⟨A,B,e1,e2,hA⟩:=Fq hLi h1;have hfr:∀ x∈A,Oper.apart ops x.1 o'=true/\Fg 0 x.2 u=true:=λx hx=>by
      obtain⟨m,hm,hmo,hml⟩:=hA x hx;rcases hrow i o' u hLi m x.1 x.2 hm hmo with hf|hf
      ·exact hf
      ·have:=mY hcl hf λo2 ho2=>by
        rw[hL i hij,hLi]at ho2;simp only[Option.map_some,aA]at ho2;subst ho2;exact hall
       rw[zY hsz (by omega) hml]at this;cases this
     rw[e1]at h;obtain⟨v,h',g,h⟩:=front (Nat.zero_le _) hfr h;rw[e1]at hfu;simp only[List.length_append,List.length_cons]at hfu;refine zHe hT hΓ (by rw[hL i hij,hLi];rfl) g.goes hs λβ' a' w' hs'=>?_
     refine zQj hT hΓ hd hj hg hop hLA hL hrow hafter hfree hb hcall hq fuel _ β' _ a' w' (by simpa using hsz) zZw ?_ (by rw[e2];simp only[List.length_append];omega) (by rw[e2];exact h) hs';rw[getD_set_ne true (by omega)];exact hjl
   ·subst hij;rw[hj]at ho1;simp only[aA]at ho1;subst ho1;have hfr:Free T ops o rid oL ids σA (lH LA listed):=λA x u B hAB=>by
     obtain⟨l1,l2,e1,e2,e3⟩:=List.filterMap_eq_append_iff.1 hAB;obtain⟨l3,m,l4,rfl,e4,e5,e6⟩:=List.filterMap_eq_cons_iff.1 e3;have hpw:(l1++(l3++m::l4)).Pairwise (· < ·):=e1 ▸ List.pairwise_lt_range;have hmr:m∈List.range LA.length:=by rw[e1];simp
     have hml:=List.mem_range.1 hmr;unfold iA at e5;split at e5
     ·cases e5
     ·rename_i xCr;rcases hfree m x u e5 with hf|hf
      ·refine⟨hf.1,hf.2.imp (λh=>h) λh=>⟨h.1,λy hy=>?_⟩⟩;have:∃ m',m<=m'/\LA[m']?=some y:=by
        cases hy with
        |head=>exact⟨m,aP _,e5⟩
        |tail _ hy =>
         rw[<- e6]at hy;obtain⟨m',hm',hme⟩:=List.mem_filterMap.1 hy;unfold iA at hme;split at hme
         ·cases hme
         ·have h2:=(List.pairwise_append.1 (List.pairwise_append.1 hpw).2.1).2.1;exact⟨m',Nat.le_of_lt ((List.pairwise_cons.1 h2).1 m' hm'),hme⟩
       obtain⟨m',h1,h2⟩:=this;exact h.2 m' y.1 y.2 h1 h2
      ·have:=mY hcl hf λo2 ho2=>by
        rw[hj]at ho2;simp only[aA]at ho2;subst ho2;exact hall
       rw[zY hsz (by omega) (by simpa using xCr)]at this;cases this
    obtain⟨eh,_,yQu⟩:=zIf (v:=.bY) (h':=σ.h) hfr h (λ_ _ _=>rfl) λ_ _ _ _=>rfl
    have ea:jL σA args.toList=jL σ args.toList:=Fj λy hy=>yQu y (by rw[hop];simp only[Op.operands,Call.operands];simp at hy ⊢;exact .inr hy)
    rw[ea,eh]at hcall;have hlen:=zDt h;unfold wpOp;simp only[hj];rw[if_pos (by simp[Region.wanted,hg])];refine .inl (yFl (cs:=[]) hop (by simp[callee,ovl,zBb]) hb (by rw[List.append_nil];exact hcall) hs ?_ ?_)
    ·intro v h' β' a' w' ⟨hk,zHh,xEi⟩ hs';obtain⟨vs,σe,l1,l2,l3,l4⟩:=Fp hΓ hk;obtain⟨_,hrA,_⟩:=zIf (v:=v) (h':=h') hfr h zHh xEi;rw[eh]at *
     let L:List (Oper × Nat):=LA++(o,0)::(ops.toList.drop (i+1)).zip vs
     have hLL:∀ m:Nat,ops[m]?=(L[m]?).map (·.1):=λm=>by
      rcases Nat.lt_trichotomy m i with hm|hm|hm
      ·rw[hL m hm];simp only[L];rw[fV (by omega)]
      ·subst hm;simp only[L];rw[List.getElem?_append_right (by omega),hLA,Nat.sub_self];simpa using hj
      ·simp only[L];rw[List.getElem?_append_right (by omega),hLA,show m-i=(m-i-1)+1 by omega,List.getElem?_cons_succ,zip_fst l1,List.getElem?_drop,show i+1+(m-i-1)=m by omega];simp
     have yJa:L.length=ops.size:=by
      simp only[L,List.length_append,List.length_cons,List.length_zip,l1,Nat.min_self,List.length_drop,Array.length_toList,hLA];omega
     have zZx:lH L (listed.setIfInBounds i true)=lH LA listed++(ops.toList.drop (i+1)).zip vs:=yKr hLA hsz hjlt yJa Ud;refine Yy hT hΓ hd hLL ?_ (λβ2 a2 w2 hs2=>hq .normal .normal σe β2 a2 w2 hs2 rfl l3) fuel _ β' _ a' w' (by simpa using hsz) zZw ?_ (Nat.zero_le _) ?_ hs'
     ·intro m om u hm i' x v' him hi';rcases Nat.lt_trichotomy m i with hmi|hmi|hmi
      ·have e1:LA[m]?=some (om,u):=by simp only[L]at hm;rwa [fV (by omega)]at hm
       have e2:LA[i']?=some (x,v'):=by simp only[L]at hi';rwa [fV (by omega)]at hi'
       exact hrow m om u e1 i' x v' him e2
      ·subst hmi;simp only[L]at hm hi';rw[List.getElem?_append_right (by omega),hLA,Nat.sub_self,List.getElem?_cons_zero,aA,aB]at hm;obtain⟨rfl,rfl⟩:=hm;rw[fV (by omega)]at hi';rcases hfree i' x v' hi' with hf|hf
       ·exact .inl ⟨hf.1,by simp[Fg]⟩
       ·exact .inr hf
      ·simp only[L]at hm;rw[List.getElem?_append_right (by omega),hLA,show m-i=(m-i-1)+1 by omega,List.getElem?_cons_succ]at hm;obtain⟨hm1,hm2⟩:=wT hm;have hrw:=l4 (m-i-1) om u hm1 hm2;rw[show i+1+(m-i-1)=m by omega]at hrw;refine(Fh hrw i' v' x ?_ (by rw[Nat.zero_add,hLL i'];rw[hi'];rfl)).elim .inl (λh=>.inr (by rwa [Nat.zero_add]at h));rcases Nat.lt_trichotomy i' i with h2|h2|h2
       ·simp only[L]at hi';rw[fV (by omega)]at hi';rw[fV (by simp;omega),fV (by simp;omega),List.getElem?_map,hi'];rfl
       ·subst h2;simp only[L]at hi';rw[List.getElem?_append_right (by omega),hLA,Nat.sub_self,List.getElem?_cons_zero,aA,aB]at hi';obtain⟨rfl,rfl⟩:=hi';rw[fV (by simp;omega),List.getElem?_append_right (by simp;omega)];simp[hLA]
       ·simp only[L]at hi';rw[List.getElem?_append_right (by omega),hLA,show i'-i=(i'-i-1)+1 by omega,List.getElem?_cons_succ]at hi';obtain⟨_,hi2⟩:=wT hi';rw[List.getElem?_append_right (by simp;omega)];simp only[List.length_append,List.length_map,List.length_cons,List.length_nil,hLA];rw[show i'-(i+(0+1))=i'-i-1 by omega,List.getElem?_take_of_lt (by omega)];exact hi2
     ·have hsl:ops.toList.length=ops.size:=Array.length_toList;rw[zZx,List.length_append,List.length_zip,l1,Nat.min_self,List.length_drop,hsl];omega
     ·rw[zZx];exact zLv hrA l2
    ·intro t v h' β' w' y ⟨hk,_⟩ hs' hy;have:=hs'.bY (n:=σ.r.length) rfl σA.r hlen;exact hq (.pan t v) _ _ β' a w' this ⟨y,rfl,hy⟩ hk
   ·have:=Ud i hij hlt;exfalso;have hah:=Bc hafter (i-(j+1)) (by omega);rw[show j+1+(i-(j+1))=i by omega]at hah;have:=mY hcl hah λo' ho'=>by
     rw[ho1]at ho';simp only[aA]at ho';subst ho';exact hall
    rw[zY hsz hjlt hjl]at this;cases this
def zEf (T:Tab) (ops:Array Oper) (j:Nat) (o:Oper) (rid:Nat) (oL ids:List Nat) (σ:St):List Oper->List Nat->Nat->Bool | x :: xs,v :: vs,i=>(ahead ops ops.size i j||(Oper.apart ops x o&&(Ld ids v||(Wu T σ rid oL ids x v&&zYg x (x :: xs)))))&&zEf T ops j o rid oL ids σ xs vs (i+1) | _,_,_=>true
theorem zFp{ops:Array Oper}{j:Nat}{o:Oper}{rid:Nat}{oL ids:List Nat}{σ:St}:∀ {xs:List Oper}{vs:List Nat}{k:Nat},zEf T ops j o rid oL ids σ xs vs k=true->∀ i x u,(xs.zip vs)[i]?=some (x,u) ->
 (Oper.apart ops x o=true/\(Ld ids u=true\/(Wu T σ rid oL ids x u=true/\∀ i' y u',i<=i'->(xs.zip vs)[i']?=some (y,u')->∀ p,Qz x=some p->∀ d,y.dst=some d->p≠.tmp d)))\/ahead ops ops.size (k+i) j=true
 |[],_,_,_,_,_,_,h=>by simp at h
 |_::_,[],_,_,_,_,_,h=>by simp at h
 |z::xs,v::vs,k,hc,i,x,u,h=>by
  simp only[zEf,aD,Bool.or_eq_true]at hc;cases i with
  |zero =>
   simp only[List.zip_cons_cons,List.getElem?_cons_zero,aA,aB]at h;obtain⟨rfl,rfl⟩:=h;rcases hc.1 with h1|⟨h1,h2⟩
   ·exact .inr h1
   ·refine .inl ⟨h1,h2.imp (λh=>h) λh=>⟨h.1,λi' y u' _ hy p hp d hd=>?_⟩⟩;have hm:=(List.of_mem_zip (List.mem_of_getElem? hy)).1;exact zQi h.2 y hm p hp d hd
  |succ i =>
   rw[List.zip_cons_cons,List.getElem?_cons_succ]at h;have:=zFp hc.2 i x u h;rw[show k+1+i=k+(i+1)by omega]at this;refine this.imp (λh=>⟨h.1,h.2.imp (λh=>h) λh=>⟨h.1,λi' y u' hi hy p hp d hd=>?_⟩⟩) (λh=>h);cases i' with
   |zero=>omega
   |succ i' =>
    rw[List.zip_cons_cons,List.getElem?_cons_succ]at hy;exact h.2 i' y u' (by omega) hy p hp d hd
def yKs{ρ:Type}(Γ:Orc ρ)(T:Tab)(ops:Array Oper)(j rid:Nat)(oL:List Nat)(zIg:List V->List Ob->List Nat)(gen:List V->List Ob->(Out->List Ob->Option ρ)->Option ρ)(f:FuncId)(σ:St)(k:K ρ):Option ρ :=
 match xW ops.toList 0 with
 |true =>
  match ops[j]? with
  |some o =>
   match o.op,o.guard with
   |.call { callee:=.value (.func g),args,.. },none =>
    match Nat.beq g f with
    |true=>lW Γ.quiet T 0 ops (ops.toList.take j) 0 [] σ λus σ1 =>
     match Jh ops j (ops.size-(j+1)) (j+1)&&zEf T ops j o rid oL (zIg (jL σ1 args.toList) σ1.h) σ1 (ops.toList.take j) us 0 with
     |true=>gen (jL σ1 args.toList) σ1.h λout h'=>match out with
      |.ret v=>lW Γ.quiet T 0 ops (ops.toList.drop (j+1)) (j+1) (us++[0]) ⟨bW σ1.r o.dst v,h'⟩ λ_ σ2=>k .normal σ2
      |.pan t v=>k (.pan t v) ⟨σ1.r.map λ_=>.bY,h'⟩
     |false=>none
    |false=>none
   |_,_=>none
  |none=>none
 |false=>none
theorem yNz{C:Ctx}(hT:bM C.P T)(hΓ:kQ C.P Γ)(hm:C.P.follows .mixedOrders=true){id:Nat}{ops:Array Oper}{j rid:Nat}{oL:List Nat}{zIg:List V->List Ob->List Nat}{gen:List V->List Ob->(Out->List Ob->Option ρ)->Option ρ}{f:FuncId}{r:ρ}{Q:Exit->Act->World->Prop}{k:Dec.K ρ}{β:Nat->Pl}{σ:St}{a:Act}{w:World}(hgen:∀ vs h kk r,gen vs h kk=some r->iH C.P f=true/\Cx C.P f vs h λout h'=>kk out h'=some r/\(∀ id,id<h.length->id∉zIg vs h->h'[id]?=h[id]?)/\∀ off∈oL,∀ t,Zg T t=true->loadAt T h' t (.ptr rid off)=loadAt T h t (.ptr rid off))(hq:∀ e x σ' β' a' w',Sim C β' σ' a' w'->La β' w' (C.N β' σ'.h) e x->k e σ'=some r->Q x a' w')(h:yKs Γ T ops j rid oL zIg gen f σ k=some r)(hs:Sim C β σ a w):(Code.region id ops true).wp C.P Q a w:=by
 unfold yKs at h;split at h
 case h_2=>cases h
 rename_i hd;split at h
 case h_2=>cases h
 rename_i o hj;split at h
 case h_2=>cases h
 rename_i g args ats hop hg;split at h
 case h_2=>cases h
 rename_i hgf;have hgf:=aK hgf;subst hgf;obtain⟨vs,σA,hlen,hrun,hk,hrow⟩:=Fp hΓ h;have hjlt:=(Array.getElem?_eq_some_iff.1 hj).1;have hvl:vs.length=j:=by rw[hlen,List.length_take,Array.length_toList];omega
 have hzl:((ops.toList.take j).zip vs).length=j:=by rw[List.length_zip,hlen,Nat.min_self,<- hlen,hvl]
 rw[List.nil_append]at hk;split at hk
 case h_2=>cases hk
 rename_i hc;simp only[aD]at hc;have hL:∀ i,i<j->ops[i]?=(((ops.toList.take j).zip vs)[i]?).map (·.1):=λi hi=>by
  rw[zip_fst hlen,List.getElem?_take_of_lt hi];simp
 have hmap:((ops.toList.take j).zip vs).map (·.2)=vs:=List.map_snd_zip (by omega);refine wp_region_any hm ?_;have hj0:(Array.replicate ops.size false).getD j true=false:=by simp[hjlt]
 have e:lH ((ops.toList.take j).zip vs) (Array.replicate ops.size false)=(ops.toList.take j).zip vs:=by
  unfold lH;have e1:(List.range ((ops.toList.take j).zip vs).length).filterMap (iA ((ops.toList.take j).zip vs) (Array.replicate ops.size false))=(List.range ((ops.toList.take j).zip vs).length).filterMap (λi=>((ops.toList.take j).zip vs)[i]?):=iE λi hi=>by
   unfold iA;have:=List.mem_range.1 hi;rw[hzl]at this;simp[show i<ops.size by omega]
  rw[e1];exact Jw _
 obtain⟨hb,hcall⟩:=hgen _ _ _ _ hk;refine zQj (LA:=(ops.toList.take j).zip vs) hT hΓ hd hj hg hop hzl hL ?_ hc.1 (λi x u hi=>?_) hb (by rw[hmap];exact hcall) hq _ _ β σ a _ (by simp) ?_ hj0 (by rw[e,hzl];omega) (by rw[e];exact hrun) (hs.drawn _)
 ·intro i o u hi i' x v hij hi';obtain⟨hi1,hi2⟩:=wT hi;obtain⟨xDr,yQw⟩:=wT hi';have h1:=hrow i o u hi1 hi2;rw[Nat.zero_add,List.nil_append]at h1;have hlt2:i'<j:=by
   have:=(bE.1 hi2).1;omega
  have h2:=Fh h1 i' v x (by rw[List.getElem?_take_of_lt hij];exact yQw) (by rw[Nat.zero_add,hL i' hlt2,hi'];rfl)
  rwa [Nat.zero_add]at h2
 ·have:=zFp hc.2 i x u hi
  rwa [Nat.zero_add]at this
 ·intro m o2 ho2 hl;simp only[Array.getD_eq_getD_getElem?,Array.getElem?_replicate]at hl;split at hl<;>cases hl
end
end Go.Dec
