import Derived.Test.YtfbilefiaminnaaGreatDoorPtrtAC
open Nat renaming beq->vF,blt->qDl,ble->qBg,lt_succ_self->qBr,zero_add->yY,beq_refl->qDi,add_zero->qAa,min_eq_left->qAe,le_trans->zG,mul_one->qBq,le_add_right->qAn,add_sub_cancel_left->qAo,lt_of_lt_of_le->wD
open List renaming getElem?_set_ne->qAw,getElem?_set_self->qAv,mem_append_right->qAh,length_cons->xI,getElem?_cons_zero->qAi,mem_of_getElem?->qDk,mem_append_left->qAq,append_nil->vE,nodup_append->qDm,getElem?_append_right->yZ,mem_append->qAp,getElem?_map->qBx,length_take->qAb,take_take->qAd,take_left'->qAz,replicate->qAf,take->qAy,flatten_cons->xB,getD_eq_getElem?_getD->wG,mem_of_mem_drop->qDn,getElem?_eq_none->qAu
open Option renaming map_eq_some_iff->qBu
open Bool renaming false_eq_true->qBs
namespace Go.Dec
theorem Ky{i:Nat}:∀ {l:List Nat}{n j:Nat},pos i l n=some j->∃ m,j=n+m/\l[m]?=some i
 |[],_,_,h=>by cases h
 |a::r,n,j,h=>by
  simp only[pos]at h;split at h
  ·rename_i hb;have:=aP hb;simp only[aA]at h;subst h this;exact⟨0,rfl,rfl⟩
  ·obtain⟨m,h1,h2⟩:=Ky h;exact⟨m+1,by omega,by simpa using h2⟩
theorem Yl{i:Nat}:∀ {l:List Nat}{n:Nat},pos i l n=none->i∉l
 |[],_,_=>by simp
 |a::r,n,h=>by
  simp only[pos]at h;split at h
  ·cases h
  ·rename_i hb;intro hm;cases hm with
   |head=>simp at hb
   |tail _ hm=>exact Yl h hm
def nodupB:List Nat->Bool
 |[]=>true
 |a::r=>(match pos a r 0 with|none=>true|some _=>false)&&nodupB r
theorem Ws:∀ {l:List Nat},nodupB l=true->∀ {i j:Nat}{a:Nat},l[i]?=some a->l[j]?=some a->i=j
 |[],_,_,_,_,h,_=>by simp at h
 |x::r,h,i,j,a,hi,hj=>by
  simp only[nodupB,aD]at h;obtain⟨h1,h2⟩:=h;have hx:x∉r:=by
   split at h1
   ·rename_i hn;exact Yl hn
   ·cases h1
  cases i with
  |zero =>
   cases j with
   |zero=>rfl
   |succ j =>
    simp only[qAi,aA]at hi;subst hi;exact absurd (qDk (by simpa using hj)) hx
  |succ i =>
   cases j with
   |zero =>
    simp only[qAi,aA]at hj;subst hj;exact absurd (qDk (by simpa using hi)) hx
   |succ j=>rw[Ws h2 (i:=i) (j:=j) (by simpa using hi) (by simpa using hj)]
theorem yLa{l:List Nat}(h:nodupB l=true){i m:Nat}(hm:l[m]?=some i):pos i l 0=some m:=by
 cases hp:pos i l 0 with
 |none=>exact absurd (qDk hm) (Yl hp)
 |some j =>
  obtain⟨k,h1,h2⟩:=Ky hp;rw[h1,yY,Ws h h2 hm]
def zRq(h:List Ob)(id:Nat):Nat :=
 match h[id]? with
 |some (.arr _ _ v _ _)=>v
 |some (.stk _ _ v _ _)=>v
 |_=>0
mutual
def L.ren(ρ:List Nat)(h:List Ob):L->L
 |.val t x=>.val t x
 |.jC=>.jC
 |.fD id o=>match pos id ρ 0 with
  |some j=>.fD j o
  |none=>.bad 1
 |.aZ=>.aZ
 |.rJ t x o=>.rJ t x o
 |.bad n=>.bad n
 |.Uu x tab=>.Uu x tab
 |.mp id=>match pos id ρ 0 with
  |some j=>.mp j
  |none=>.bad 1
 |.ptr id o=>match pos id ρ 0 with
  |some j=>.ptr j o
  |none=>.bad 1
 |.sK id o es i sub=>match pos id ρ 0 with
  |some j=>.sK j o es i sub
  |none=>.bad 1
 |.jD id u i o=>match pos id ρ 0,vF u (zRq h id)with
  |some j,true=>.jD j 0 i o
  |_,_=>.bad 1
 |.sl id u i n=>match pos id ρ 0,vF u (zRq h id)with
  |some j,true=>.sl j 0 i n
  |_,_=>.bad 1
 |.own id u=>match pos id ρ 0,vF u (zRq h id)with
  |some j,true=>.own j 0
  |_,_=>.bad 1
 |.clo f caps=>.clo f (L.Qc ρ h caps)
def L.Qc (ρ:List Nat) (h:List Ob):List L->List L | []=>[] | l :: ls=>l.ren ρ h :: L.Qc ρ h ls
end
def V.ren (ρ:List Nat) (h:List Ob):V->V | .one l => .one (l.ren ρ h) | .agg ls => .agg (L.Qc ρ h ls) | _ => .cK
def Ob.ren (ρ:List Nat) (h:List Ob):Ob->Ob | .box e ls => .box e (L.Qc ρ h ls) | .arr e t _ rows wr => .arr e t 0 rows wr | .fm tab => .fm tab | .dm kt vt es => .dm kt vt es | .stk e ei _ rows top => .stk e ei 0 rows (top.map (L.Qc ρ h))
section
variable {β β':Nat->Pl}{w:World}{N N':Nat->Nat->Prop}
theorem Qd{l:L}{cs:List Value}(hl:l.size=1)(h:l.Rel β w N cs):(L.bad 1).Rel β' w N' cs:=by
 simp only[L.Rel];exact⟨by rw[h.length,hl],h.one⟩
mutual
theorem L.Rel.Il{ρ:List Nat}{h:List Ob}(hβ:∀ i j,pos i ρ 0=some j->(β' j).live=(β i).live/\(β' j).box=(β i).box/\(β' j).blk=(β i).blk/\((β i).box=false->(β' j).ver=0/\(β i).ver=zRq h i/\(β' j).size=(β i).size/\(β' j).cap=(β i).cap/\(β' j).len=(β i).len))(hN:∀ b j,b<w.heap.size->N' b j->N b j):∀ {l:L}{cs:List Value},l.Rel β w N cs->(l.ren ρ h).Rel β' w N' cs
 |.val t x,cs,hr=>by simp only[L.ren,L.Rel]at *;exact Ty.Rel.mono (Keep.refl _ w) hN hr
 |.jC,cs,hr=>by simp only[L.ren,L.Rel]at *;exact hr
 |.fD id off,cs,hr=>by
  simp only[L.ren];split
  ·rename_i j hp;obtain⟨k1,k2,k3,_⟩:=hβ id j hp;simp only[L.Rel]at *;rw[k1,k2,k3];exact hr
  ·exact Qd rfl hr
 |.aZ,cs,hr=>by simp only[L.ren,L.Rel]at *;exact hr
 |.bad n,cs,hr=>by simp only[L.ren,L.Rel]at *;exact hr
 |.Uu x tab,cs,hr=>by simp only[L.ren,L.Rel]at *;exact hr
 |.mp id,cs,hr=>by
  simp only[L.ren];split
  ·rename_i j hp;obtain⟨k1,k2,k3,_⟩:=hβ id j hp;simp only[L.Rel]at *;rw[k1,k2,k3];exact hr
  ·exact Qd rfl hr
 |.rJ t x off,cs,hr=>by simp only[L.ren,L.Rel]at *;obtain⟨c,hc,hr⟩:=hr;exact⟨c,hc,hr.mono (Keep.refl _ w) hN⟩
 |.ptr id off,cs,hr=>by
  simp only[L.ren];split
  ·rename_i j hp;obtain⟨k1,k2,k3,_⟩:=hβ id j hp;simp only[L.Rel]at *;rw[k1,k2,k3];exact hr
  ·exact Qd rfl hr
 |.sK id off es i sub,cs,hr=>by
  simp only[L.ren];split
  ·rename_i j hp;obtain⟨k1,k2,k3,_⟩:=hβ id j hp;simp only[L.Rel]at *;rw[k1,k2,k3];exact hr
  ·exact Qd rfl hr
 |.jD id u i off,cs,hr=>by
  simp only[L.ren];split
  ·rename_i j hp hu;obtain⟨k1,k2,k3,k4⟩:=hβ id j hp;have hu:=aP hu;simp only[L.Rel]at *;obtain⟨g1,g2,g3,c,g4,g5,g6⟩:=hr;obtain⟨m1,m2,m3,m4,m5⟩:=k4 g2;refine⟨k1 ▸ g1,k2 ▸ g2,by omega,c,g4,g5,λ_=>?_⟩;rw[k3,m3];exact g6 (by omega)
  ·exact Qd rfl hr
 |.sl id u off len,cs,hr=>by
  simp only[L.ren];split
  ·rename_i j hp hu;obtain⟨k1,k2,k3,k4⟩:=hβ id j hp;have hu:=aP hu;simp only[L.Rel]at *;obtain⟨g1,g2,g3,c,g4,g5,g6⟩:=hr;obtain⟨m1,m2,m3,m4,m5⟩:=k4 g2;refine⟨k1 ▸ g1,k2 ▸ g2,by omega,c,g4,g5,λ_=>?_⟩;have:=g6 (by omega);unfold eP at *;rw[k3,m3,m4];exact this
  ·exact Qd rfl hr
 |.own id u,cs,hr=>by
  simp only[L.ren];split
  ·rename_i j hp hu;obtain⟨k1,k2,k3,k4⟩:=hβ id j hp;have hu:=aP hu;simp only[L.Rel]at *;obtain⟨g1,g2,g3,c,g4,g5,g6⟩:=hr;obtain⟨m1,m2,m3,m4,m5⟩:=k4 g2;refine⟨k1 ▸ g1,k2 ▸ g2,by omega,c,g4,g5,λ_=>?_⟩;have:=g6 (by omega);unfold eP at *;rw[k3,m3,m4,m5];exact this
  ·exact Qd rfl hr
 |.clo f caps,cs,hr=>by
  simp only[L.ren,L.Rel]at *;obtain⟨us,hc,hr⟩:=hr;exact⟨us,hc,L.eG.Il hβ hN hr⟩
theorem L.eG.Il{ρ:List Nat}{h:List Ob}(hβ:∀ i j,pos i ρ 0=some j->(β' j).live=(β i).live/\(β' j).box=(β i).box/\(β' j).blk=(β i).blk/\((β i).box=false->(β' j).ver=0/\(β i).ver=zRq h i/\(β' j).size=(β i).size/\(β' j).cap=(β i).cap/\(β' j).len=(β i).len))(hN:∀ b j,b<w.heap.size->N' b j->N b j):∀ {ls:List L}{us:List Value},L.eG β w N ls us->L.eG β' w N' (L.Qc ρ h ls) us
 |[],us,hr=>by simp only[L.Qc,L.eG]at *;exact hr
 |l::ls,us,hr=>by
  simp only[L.Qc,L.eG]at *;obtain⟨u,r,e,h1,h2⟩:=hr;exact⟨u,r,e,L.Rel.Il hβ hN h1,L.eG.Il hβ hN h2⟩
end
def yNv(β β':Nat->Pl)(ρ:List Nat)(h:List Ob):Prop:=∀ i j,pos i ρ 0=some j->(β' j).live=(β i).live/\(β' j).box=(β i).box/\(β' j).blk=(β i).blk/\((β i).box=false->(β' j).ver=0/\(β i).ver=zRq h i/\(β' j).size=(β i).size/\(β' j).cap=(β i).cap/\(β' j).len=(β i).len)
theorem aJ.Il{ρ:List Nat}{h:List Ob}(hβ:yNv β β' ρ h)(hN:∀ b j,b<w.heap.size->N' b j->N b j):∀ {ls:List L}{cs:List Value},aJ β w N ls cs->aJ β' w N' (L.Qc ρ h ls) cs
 |[],_,hr=>hr
 |_l::_ls,_,⟨c1,c2,e,h1,h2⟩=>⟨c1,c2,e,L.Rel.Il hβ hN h1,aJ.Il hβ hN h2⟩
theorem V.Rel.Il{ρ:List Nat}{h:List Ob}(hβ:yNv β β' ρ h)(hN:∀ b j,b<w.heap.size->N' b j->N b j){x:V}{u:Value}(hr:x.Rel β w N u):(x.ren ρ h).Rel β' w N' u:=by
 cases x with
 |one l=>exact L.Rel.Il hβ hN hr
 |agg ls=>obtain⟨cs,e,hr⟩:=hr;exact⟨cs,e,hr.Il hβ hN⟩
 |_=>trivial
end
def zGp(h:List Ob)(i:Nat):Ob :=
 match h[i]? with
 |some o=>o
 |none=>.box 0 []
def inH (ρ:List Nat) (h:List Ob):List Ob:=ρ.map fun i=>(zGp h i).ren ρ h
theorem Cx{ρ:List Nat}{h:List Ob}{j:Nat}{o:Ob}(hj:(inH ρ h)[j]?=some o):∃ i,ρ[j]?=some i/\o=(zGp h i).ren ρ h:=by
 simp only[inH,qBx,qBu]at hj;obtain⟨i,h1,rfl⟩:=hj;exact⟨i,h1,rfl⟩
theorem gV{h:List Ob}{i:Nat}{o:Ob}(ho:h[i]?=some o):zGp h i=o:=by
 simp only[zGp,ho]
theorem Ob.zKq{ρ:List Nat}{h:List Ob}(o:Ob):(o.ren ρ h).wr=o.wr:=by cases o<;>rfl
theorem Ob.Au(ρ:List Nat)(h:List Ob)(o:Ob):(o.ren ρ h).tQ=o.tQ:=by cases o<;>rfl
end Go.Dec
namespace Go.Dec
section
variable {C:Ctx}{T:Tab}
theorem aJ.putAt{β β':Nat->Pl}{w w':World}{N N':Nat->Nat->Prop}(hm:Moves β β')(hk:Keep N w w')(hN:∀ b j,b<w.heap.size->N' b j->N b j){l l':L}(hl:∀ cs,l.Rel β w N cs->l'.Rel β' w' N' cs):∀ {ls:List L}{j:Nat}{cs:List Value},ls[j]?=some l->aJ β w N ls cs->aJ β' w' N' (ls.set j l') cs
 |[],j,_,h,_=>by simp at h
 |x::ls,0,_,h,⟨c1,c2,e,h1,h2⟩=>by
  simp only[qAi,aA]at h;subst h;exact⟨c1,c2,e,hl _ h1,h2.mono hm hk hN⟩
 |x::ls,j+1,_,h,⟨c1,c2,e,h1,h2⟩=>⟨c1,c2,e,h1.mono hm hk hN,aJ.putAt hm hk hN hl (j:=j) (by simpa using h) h2⟩
def yNw(h:List Ob)(rid j:Nat):Option (Bool × List Ob):=
 match h[rid]? with
 |some (.box eb ls)=>
  match ls[j]? with
  |some (.sl sid u 0 k)=>
   match h[sid]? with
   |some (.stk e ei v rows _)=>some (vF v u&&qBg k rows.length,(h.set sid (.stk e ei (v+1) (rows.take k) none)).set rid (.box eb (ls.set j (.own sid (v+1)))))
   |some (.arr e t v rows true)=>some (vF v u&&qBg k rows.length,(h.set sid (.arr e t (v+1) (rows.take k) true)).set rid (.box eb (ls.set j (.own sid (v+1)))))
   |_=>none
  |_=>none
 |_=>none
theorem tX{e:TypeId}{t:Ty}{ver:Nat}{rows:List t.den}{wr:Bool}{p:Pl}{b:Nat}:(Ob.arr e t ver rows wr).blks p b<->p.blk=some b:=⟨λh=>Ob.uU rfl h,λh=>Ob.xL h⟩
theorem zGq{e:TypeId}{ls:List L}{p:Pl}{b:Nat}:(Ob.box e ls).blks p b<->p.blk=some b:=⟨λh=>Ob.uU rfl h,λh=>Ob.xL h⟩
theorem ySr{β:Nat->Pl}{w:World}{σ:St}{a:Act}{rid j:Nat}{h':List Ob}(h:yNw σ.h rid j=some (true,h'))(hs:Sim C β σ a w):∃ β',Sim C β' ⟨σ.r,h'⟩ a w:=by
 unfold yNw at h;split at h
 ·rename_i eb ls hb;split at h
  ·rename_i sid u k hl;split at h
   ·rename_i e ei v rows top hst;simp only[aA,aC,aD]at h;obtain⟨⟨hv,hk⟩,rfl⟩:=h;have hv:=aP hv;have hk:=bX hk;subst hv;have hne:rid≠sid:=λe=>by rw[e,hst]at hb;cases hb
    have zGr:=(bK.1 hb).1;have hlts:=(bK.1 hst).1;have hob:=hs.heap.obj _ _ hst;have hbx:=hs.heap.obj _ _ hb;simp only[Ob.Rel]at hob hbx;obtain⟨k1,k2,k3,k4,k5,b,cur,cs,cs2,bs,g1,g2,g3,g4,g5,g6,g7,g8,g9,g10,g11⟩:=hob;obtain⟨q1,q2,rb,rcs,q3,q4,q5⟩:=hbx;have g9':=g9;rw[<- List.take_append_drop k rows]at g9';obtain⟨c1,c2,d1,d2,f1,f2,f3,f4⟩:=iZ.split g9'
    let p:Pl:={ β sid with ver:=v+1,len:=k,sub:=d1.map λq=>(q,0) }
    have hps:upd β sid p sid=p:=upd_same _ _ _;have hpr:upd β sid p rid=β rid:=aY _ _ hne;have hmv:Moves β (upd β sid p):=λi hi=>by
     by_cases h1:i=sid
     ·subst h1;rw[hps];exact .inr ⟨k2,k1,k2,by rw[k3];exact qBr _⟩
     ·exact .inl (aY _ _ h1)
    have hgs:∀ o,((σ.h.set sid (.stk e ei (v+1) (rows.take k) none)).set rid (.box eb (ls.set j (.own sid (v+1)))))[sid]?=some o->o=.stk e ei (v+1) (rows.take k) none:=λo ho=>by
     rw[qAw hne,qAv hlts]at ho;simpa using ho.symm
    have hgr:∀ o,((σ.h.set sid (.stk e ei (v+1) (rows.take k) none)).set rid (.box eb (ls.set j (.own sid (v+1)))))[rid]?=some o->o=.box eb (ls.set j (.own sid (v+1))):=λo ho=>by
     rw[qAv (by simpa using zGr)]at ho;simpa using ho.symm
    have hSub:∀ q,q∈d1->q∈bs:=λq hq=>by rw[f2];exact qAq _ hq
    have back:∀ i o b',(i=sid\/i=rid)->((σ.h.set sid (.stk e ei (v+1) (rows.take k) none)).set rid (.box eb (ls.set j (.own sid (v+1)))))[i]?=some o->o.blks (upd β sid p i) b' ->
     ∃ o0,σ.h[i]?=some o0/\o0.wr=true/\∀ j,o0.at (β i) b' j:=λi o b' hS ho hbk=>by
     rcases hS with rfl|rfl
     ·rw[hgs o ho,hps,pJ (p:=p) rfl]at hbk;exact⟨_,hst,rfl,λj=>(Jg g6).2 (hbk.imp id (hSub _))⟩
     ·rw[hgr o ho,hpr,zGq]at hbk;exact⟨_,hb,rfl,λj=>Ob.mP hbk⟩
    have hturn:Turn C (λi=>i=sid\/i=rid) σ.h ((σ.h.set sid (.stk e ei (v+1) (rows.take k) none)).set rid (.box eb (ls.set j (.own sid (v+1))))) β (upd β sid p) w w:=by
     refine⟨by simp,λi _ hS=>?_,λi h1 h2=>?_,λi hi=>?_,?_,?_,?_,(Keep.refl (λ_ _=>False) w).weaken λ_ _ h=>h.elim,⟨rfl,rfl,rfl⟩,hmv⟩
     ·have h1:i≠sid:=λh=>hS (.inl h)
      have h2:i≠rid:=λh=>hS (.inr h)
      exact⟨by rw[qAw (Ne.symm h2),qAw (Ne.symm h1)],aY _ _ h1⟩
     ·simp at h2;omega
     ·simp at hi;rw[aY _ _ (by omega)];exact hs.heap.dead i hi
     ·intro i o b' j' hS ho _ _ hat;obtain⟨o0,m1,m2,m3⟩:=back i o b' hS ho ⟨j',hat⟩;exact⟨i,o0,hS,m1,m2,m3 j'⟩
     ·intro i o b' hS ho hbk;obtain⟨o0,m1,m2,m3⟩:=back i o b' hS ho hbk;exact .inl ⟨i,o0,hS,m1,0,m3 0⟩
     ·intro i i' o o' b' hS hS' ho ho' hbi hbj;obtain⟨o0,m1,m2,m3⟩:=back i o b' hS ho hbi;obtain⟨o1,n1,n2,n3⟩:=back i' o' b' hS' ho' hbj;exact hs.heap.kX i i' o0 o1 b' m1 n1 ⟨0,m3 0⟩ ⟨0,n3 0⟩
    refine⟨_,hs.re hturn λi o hS ho=>?_⟩;rcases hS with rfl|rfl
    ·rw[hgs o ho,hps];simp only[Ob.Rel];have hlen:(rows.take k).length=k:=by rw[qAb];omega
     have hc1:c1.length=k*4:=by rw[f3.length,hlen]
     refine⟨k1,k2,rfl,k4,by simp only[p,hlen,Ms,qAa],b,cur,c1,[],d1,g1,g2,g3,by simp only[p];omega,g5,rfl,?_,λh=>g8 (hSub _ h),f3,rfl,?_⟩
     ·rw[f2]at g7;exact(qDm.1 g7).1
     ·rw[vE];simp only[p];have:=congrArg (qAy (k*4)) g11;rw[qAd,qAe (by rw[k5];omega),f1,List.append_assoc,qAz hc1]at this;exact this
    ·rw[hgr o ho,hpr];simp only[Ob.Rel];refine⟨q1,q2,rb,rcs,q3,?_,q5⟩;refine aJ.putAt (l:=.sl sid v 0 k) hmv (Keep.refl _ w) hturn.owns (λcs0 hr=>?_) hl q4;simp only[L.Rel,hps]at hr ⊢;obtain⟨r1,r2,r3,c,r4,r5,r6⟩:=hr;refine⟨k1,k2,aS _,c,r4,r5,λ_=>?_⟩;exact r6 k3
   ·rename_i e t v rows hst;simp only[aA,aC,aD]at h;obtain⟨⟨hv,hk⟩,rfl⟩:=h;have hv:=aP hv;have hk:=bX hk;subst hv;have hne:rid≠sid:=λe=>by rw[e,hst]at hb;cases hb
    have zGr:=(bK.1 hb).1;have hlts:=(bK.1 hst).1;have hob:=hs.heap.obj _ _ hst;have hbx:=hs.heap.obj _ _ hb;simp only[Ob.Rel]at hob hbx;obtain⟨k1,k2,k3,k4,k5,k6,k7⟩:=hob;obtain⟨q1,q2,rb,rcs,q3,q4,q5⟩:=hbx
    let p:Pl:={ β sid with ver:=v+1,len:=k }
    have hps:upd β sid p sid=p:=upd_same _ _ _;have hpr:upd β sid p rid=β rid:=aY _ _ hne;have hmv:Moves β (upd β sid p):=λi hi=>by
     by_cases h1:i=sid
     ·subst h1;rw[hps];exact .inr ⟨k2,k1,k2,by rw[k3];exact qBr _⟩
     ·exact .inl (aY _ _ h1)
    have hgs:∀ o,((σ.h.set sid (.arr e t (v+1) (rows.take k) true)).set rid (.box eb (ls.set j (.own sid (v+1)))))[sid]?=some o->o=.arr e t (v+1) (rows.take k) true:=λo ho=>by
     rw[qAw hne,qAv hlts]at ho;simpa using ho.symm
    have hgr:∀ o,((σ.h.set sid (.arr e t (v+1) (rows.take k) true)).set rid (.box eb (ls.set j (.own sid (v+1)))))[rid]?=some o->o=.box eb (ls.set j (.own sid (v+1))):=λo ho=>by
     rw[qAv (by simpa using zGr)]at ho;simpa using ho.symm
    have back:∀ i o b',(i=sid\/i=rid)->((σ.h.set sid (.arr e t (v+1) (rows.take k) true)).set rid (.box eb (ls.set j (.own sid (v+1)))))[i]?=some o->o.blks (upd β sid p i) b' ->
     ∃ o0,σ.h[i]?=some o0/\o0.wr=true/\∀ j,o0.at (β i) b' j:=λi o b' hS ho hbk=>by
     rcases hS with rfl|rfl
     ·rw[hgs o ho,hps,tX]at hbk;exact⟨_,hst,rfl,λj=>Ob.mP hbk⟩
     ·rw[hgr o ho,hpr,zGq]at hbk;exact⟨_,hb,rfl,λj=>Ob.mP hbk⟩
    have hturn:Turn C (λi=>i=sid\/i=rid) σ.h ((σ.h.set sid (.arr e t (v+1) (rows.take k) true)).set rid (.box eb (ls.set j (.own sid (v+1))))) β (upd β sid p) w w:=by
     refine⟨by simp,λi _ hS=>?_,λi h1 h2=>?_,λi hi=>?_,?_,?_,?_,(Keep.refl (λ_ _=>False) w).weaken λ_ _ h=>h.elim,⟨rfl,rfl,rfl⟩,hmv⟩
     ·have h1:i≠sid:=λh=>hS (.inl h)
      have h2:i≠rid:=λh=>hS (.inr h)
      exact⟨by rw[qAw (Ne.symm h2),qAw (Ne.symm h1)],aY _ _ h1⟩
     ·simp at h2;omega
     ·simp at hi;rw[aY _ _ (by omega)];exact hs.heap.dead i hi
     ·intro i o b' j' hS ho _ _ hat;obtain⟨o0,m1,m2,m3⟩:=back i o b' hS ho ⟨j',hat⟩;exact⟨i,o0,hS,m1,m2,m3 j'⟩
     ·intro i o b' hS ho hbk;obtain⟨o0,m1,m2,m3⟩:=back i o b' hS ho hbk;exact .inl ⟨i,o0,hS,m1,0,m3 0⟩
     ·intro i i' o o' b' hS hS' ho ho' hbi hbj;obtain⟨o0,m1,m2,m3⟩:=back i o b' hS ho hbi;obtain⟨o1,n1,n2,n3⟩:=back i' o' b' hS' ho' hbj;exact hs.heap.kX i i' o0 o1 b' m1 n1 ⟨0,m3 0⟩ ⟨0,n3 0⟩
    refine⟨_,hs.re hturn λi o hS ho=>?_⟩;rcases hS with rfl|rfl
    ·rw[hgs o ho,hps];simp only[Ob.Rel];have hlen:(rows.take k).length=k:=by rw[qAb];omega
     refine⟨k1,k2,rfl,k4,k5,hlen.symm,?_⟩;rcases k7 with ⟨g1,g2,g3⟩|⟨b,cur,css,g1,g2,g3,g4,g5,g6,g7⟩
     ·exact .inl ⟨g1,by rw[g2];exact List.take_nil,g3⟩
     ·have hcl:∀ c∈css,c.length=t.size:=λc hc=>by
       obtain⟨x,_,hx⟩:=g3.mem_right c hc;exact hx.length
      refine .inr ⟨b,cur,css.take k,g1,g2,bJ.mono (λx c h=>h.mono (Keep.refl _ w) hturn.owns) (g3.take k),?_,g5,by rw[hlen];exact zG hk g6,g7⟩;rw[hlen,<- sJ css hcl k,<- g4,qAd,qAe (Nat.mul_le_mul_right _ hk)]
    ·rw[hgr o ho,hpr];simp only[Ob.Rel];refine⟨q1,q2,rb,rcs,q3,?_,q5⟩;refine aJ.putAt (l:=.sl sid v 0 k) hmv (Keep.refl _ w) hturn.owns (λcs0 hr=>?_) hl q4;simp only[L.Rel,hps]at hr ⊢;obtain⟨r1,r2,r3,c,r4,r5,r6⟩:=hr;refine⟨k1,k2,aS _,c,r4,r5,λ_=>?_⟩;exact r6 k3
   ·cases h
  ·cases h
 ·cases h
def yWh(h:List Ob)(rid j:Nat):Option (Bool × List Ob):=
 match h[rid]? with
 |some (.box eb ls)=>
  match ls[j]? with
  |some (.own sid u)=>
   match h[sid]? with
   |some (.stk e ei v rows none)=>
    some (vF v u&&qBg 1 rows.length,
     ((h.set sid (.stk e ei (v+1) (rows.take (rows.length-1)) (some [.val (.int .i64) (rows.getD (rows.length-1) (0,0,[],[],())).1,.val (.int .i64) (rows.getD (rows.length-1) (0,0,[],[],())).2.1,.own h.length 0,.own (h.length+1) 0]))).set rid (.box eb (ls.set j (.own sid (v+1))))) ++
      [.arr ei (.int .i64) 0 (rows.getD (rows.length-1) (0,0,[],[],())).2.2.1 true,.arr ei (.int .i64) 0 (rows.getD (rows.length-1) (0,0,[],[],())).2.2.2.1 true])
   |_=>none
  |_=>none
 |_=>none
def Ym(bs:List Nat)(n cap:Nat):Pl:=match bs with
 |[]=>⟨true,false,0,none,1,0,n,[]⟩
 |b::_=>⟨true,false,0,some b,1,cap,n,[]⟩
theorem yEj{w:World}{ei:TypeId}{xs:List Int}{v:Value}{bs:List Nat}(h:Wm w ei xs v bs):∃ cap,(∀ (β:Nat->Pl) (N:Nat->Nat->Prop),(Ob.arr ei (.int .i64) 0 xs true).Rel β w N (Ym bs xs.length cap))/\eP (Ym bs xs.length cap) 0 xs.length v /\
 (∀ b,(Ym bs xs.length cap).blk=some b<->b∈bs):=by
 rcases h with ⟨rfl,rfl,rfl⟩|⟨b,cap,cur,rfl,rfl,h3,h4,h5,h6,h7⟩
 ·refine⟨0,λβ N=>?_,?_,λb=>by simp[Ym]⟩
  ·show _/\_/\_/\_/\_/\_/\_;exact⟨rfl,rfl,rfl,rfl,by decide,rfl,.inl ⟨rfl,rfl,rfl⟩⟩
  ·show _/\_/\_;exact⟨rfl,rfl,rfl⟩
 ·refine⟨cap,λβ N=>?_,?_,λq=>by simp[Ym];exact eq_comm⟩
  ·show _/\_/\_/\_/\_/\_/\_;refine⟨rfl,rfl,rfl,rfl,by decide,rfl,.inr ⟨b,cur,xs.map λn=>[.int .i64 n],rfl,h3,?_,?_,?_,h6,h7⟩⟩
   ·exact go xs
   ·have e1:(Ty.int IntKind.i64).size=1:=rfl;rw[e1,qBq,h4];exact fl xs
   ·have e1:(Ty.int IntKind.i64).size=1:=rfl;rw[e1,qBq];exact h5
  ·show _/\_;exact⟨by show 0+xs.length<=cap;omega,0,rfl,.inl (Nat.zero_mul _).symm⟩
where
 go {N:Nat->Nat->Prop}:∀ xs:List Int,bJ (λx c=>(Ty.int IntKind.i64).Rel w N x c) xs (xs.map λn=>[.int .i64 n])
  |[]=>trivial
  |_::xs=>⟨rfl,go xs⟩
 fl:∀ xs:List Int,xs.map (Value.int .i64)=(xs.map λn=>[Value.int .i64 n]).flatten
  |[]=>rfl
  |_::xs=>by simp only[List.map_cons,xB,List.singleton_append];rw[fl xs]
theorem zUs(bs:List Nat)(n cap:Nat):(Ym bs n cap).live=true/\(Ym bs n cap).box=false/\(Ym bs n cap).ver=0/\(Ym bs n cap).len=n:=by cases bs<;>exact⟨rfl,rfl,rfl,rfl⟩
theorem yWi{β:Nat->Pl}{w:World}{σ:St}{a:Act}{rid j:Nat}{h':List Ob}(h:yWh σ.h rid j=some (true,h'))(hs:Sim C β σ a w):∃ β',Sim C β' ⟨σ.r,h'⟩ a w:=by
 unfold yWh at h;split at h
 ·rename_i eb ls hb;split at h
  ·rename_i sid u hl;split at h
   ·rename_i e ei v rows hst;simp only[aA,aC,aD]at h;obtain⟨⟨hv,hk⟩,rfl⟩:=h;have hv:=aP hv;have hk:=bX hk;subst hv;have hne:rid≠sid:=λe=>by rw[e,hst]at hb;cases hb
    have zGr:=(bK.1 hb).1;have hlts:=(bK.1 hst).1;have hob:=hs.heap.obj _ _ hst;have hbx:=hs.heap.obj _ _ hb;simp only[Ob.Rel]at hob hbx;obtain⟨k1,k2,k3,k4,k5,b,cur,cs,cs2,bs,g1,g2,g3,g4,g5,g6,g7,g8,g9,g10,g11⟩:=hob;simp only[Yb]at g10;subst g10;obtain⟨q1,q2,rb,rcs,q3,q4,q5⟩:=hbx;obtain⟨lo,f,rfl⟩:∃ lo f,rows=lo++[f]:=by
     rcases List.eq_nil_or_concat rows with h|⟨lo,f,h⟩
     ·rw[h]at hk;simp at hk
     ·exact⟨lo,f,by rw[h,List.concat_eq_append]⟩
    have hln:(lo++[f]).length-1=lo.length:=by simp
    have hget:(lo++[f]).getD lo.length (0,0,[],[],())=f:=by simp[wG]
    have htk:(lo++[f]).take lo.length=lo:=qAz rfl;rw[hln,hget,htk];obtain⟨c1,c2,d1,d2,f1,f2,f3,f4⟩:=iZ.split g9;obtain⟨v1,v2,x1,x2,cs',bs',e1,e2,i1,i2,e3⟩:=f4;obtain⟨rfl,rfl⟩:=e3;rw[vE]at e2;subst e2;obtain⟨xKm,A1,A2,A3⟩:=yEj i1;obtain⟨cap2,B1,B2,B3⟩:=yEj i2;generalize hP1:Ym x1 f.2.2.1.length xKm=P1 at *;generalize hP2:Ym x2 f.2.2.2.1.length cap2=P2 at *;have P1f:P1.live=true/\P1.box=false/\P1.ver=0/\P1.len=f.2.2.1.length:=by rw[<- hP1];exact zUs _ _ _
    have P2f:P2.live=true/\P2.box=false/\P2.ver=0/\P2.len=f.2.2.2.1.length:=by rw[<- hP2];exact zUs _ _ _
    let p:Pl:={ β sid with ver:=v+1,sub:=d1.map λq=>(q,0) }
    generalize hn:σ.h.length=n at *
    let β':Nat->Pl:=upd (upd (upd β sid p) n P1) (n+1) P2
    have b1:β' n=P1:=by simp only[β'];rw[aY _ _ (by omega),upd_same]
    have b2:β' (n+1)=P2:=by simp only[β'];rw[upd_same]
    have b3:β' sid=p:=by simp only[β'];rw[aY _ _ (by omega),aY _ _ (by omega),upd_same]
    have b4:∀ i,i≠sid->i≠n->i≠n+1->β' i=β i:=λi h1 h2 h3=>by simp only[β'];rw[aY _ _ h3,aY _ _ h2,aY _ _ h1]
    have b5:β' rid=β rid:=b4 rid hne (by omega) (by omega);have hmv:Moves β β':=λi hi=>by
     by_cases h1:i=sid
     ·subst h1;rw[b3];exact .inr ⟨k2,k1,k2,by rw[k3];exact qBr _⟩
     ·have hin:i<n:=by
       rcases jF i n with h2|h2
       ·exact h2
       ·rw[hs.heap.dead i (by omega)]at hi;cases hi
      exact .inl (b4 i h1 (by omega) (by omega))
    generalize hH:((σ.h.set sid (Ob.stk e ei (v+1) lo (some [.val (.int .i64) f.1,.val (.int .i64) f.2.1,.own n 0,.own (n+1) 0]))).set rid (.box eb (ls.set j (.own sid (v+1)))))++[Ob.arr ei (.int .i64) 0 f.2.2.1 true,Ob.arr ei (.int .i64) 0 f.2.2.2.1 true]=H;have hHl:H.length=n+2:=by rw[<- hH];simp[hn]
    have hlo:∀ i,i<n->H[i]?=((σ.h.set sid (Ob.stk e ei (v+1) lo (some [.val (.int .i64) f.1,.val (.int .i64) f.2.1,.own n 0,.own (n+1) 0]))).set rid (.box eb (ls.set j (.own sid (v+1)))))[i]?:=λi hi=>by rw[<- hH,fU (by simp[hn];exact hi)]
    have hgs:∀ o,H[sid]?=some o->o=.stk e ei (v+1) lo (some [.val (.int .i64) f.1,.val (.int .i64) f.2.1,.own n 0,.own (n+1) 0]):=λo ho=>by
     rw[hlo sid (by omega),qAw hne,qAv (by omega)]at ho;simpa using ho.symm
    have hgr:∀ o,H[rid]?=some o->o=.box eb (ls.set j (.own sid (v+1))):=λo ho=>by
     rw[hlo rid (by omega),qAv (by simp[hn];omega)]at ho;simpa using ho.symm
    have hgn:∀ o,H[n]?=some o->o=.arr ei (.int .i64) 0 f.2.2.1 true:=λo ho=>by
     rw[<- hH,yZ (by simp[hn])]at ho;simp[hn]at ho;exact ho.symm
    have hgm:∀ o,H[n+1]?=some o->o=.arr ei (.int .i64) 0 f.2.2.2.1 true:=λo ho=>by
     rw[<- hH,yZ (by simp[hn])]at ho;simp[hn]at ho;exact ho.symm
    have hnd:=g7;rw[f2]at hnd;obtain⟨nd1,nd2,nd3⟩:=qDm.1 hnd;obtain⟨nd4,nd5,nd6⟩:=qDm.1 nd2;have own:∀ q,b=q\/q∈bs->∃ o0,σ.h[sid]?=some o0/\o0.wr=true/\∀ j,o0.at (β sid) q j:=λq hq=>⟨_,hst,rfl,λj=>(Jg g6).2 (by rw[g1];exact hq.imp (λh=>by rw[h]) id)⟩
    have back:∀ i o q,(i=sid\/i=rid\/i=n\/i=n+1)->H[i]?=some o->o.blks (β' i) q ->
     (i≠rid/\(b=q\/q∈bs))\/(i=rid/\(β rid).blk=some q):=λi o q hS ho hbk=>by
     rcases hS with rfl|rfl|rfl|rfl
     ·rw[hgs o ho,b3,pJ (p:=p) rfl]at hbk;refine .inl ⟨Ne.symm hne,?_⟩;rcases hbk with h|h
      ·have h:(β i).blk=some q:=h;rw[g1]at h;exact .inl (by simpa using h)
      ·exact .inr (by rw[f2];exact qAq _ h)
     ·rw[hgr o ho,b5,zGq]at hbk;exact .inr ⟨rfl,hbk⟩
     ·rw[hgn o ho,b1,tX,A3]at hbk;exact .inl ⟨by omega,.inr (by rw[f2];exact qAh _ (qAq _ hbk))⟩
     ·rw[hgm o ho,b2,tX,B3]at hbk;exact .inl ⟨by omega,.inr (by rw[f2];exact qAh _ (qAh _ hbk))⟩
    have yWj:∀ q,(β rid).blk=some q->∃ o0,σ.h[rid]?=some o0/\o0.wr=true/\∀ j,o0.at (β rid) q j:=λq hq=>⟨_,hb,rfl,λj=>Ob.mP hq⟩
    have hsep:∀ q,(b=q\/q∈bs)->(β rid).blk=some q->False:=λq h1 h2=>by
     obtain⟨o0,m1,m2,m3⟩:=own q h1;obtain⟨o1,n1,n2,n3⟩:=yWj q h2;exact hne (hs.heap.kX rid sid o1 o0 q n1 m1 ⟨0,n3 0⟩ ⟨0,m3 0⟩)
    have hturn:Turn C (λi=>i=sid\/i=rid\/i=n\/i=n+1) σ.h H β β' w w:=by
     refine⟨by omega,λi hi hS=>?_,λi h1 h2=>?_,λi hi=>?_,?_,?_,?_,(Keep.refl (λ_ _=>False) w).weaken λ_ _ h=>h.elim,⟨rfl,rfl,rfl⟩,hmv⟩
     ·have h1:i≠sid:=λh=>hS (.inl h)
      have h2:i≠rid:=λh=>hS (.inr (.inl h))
      exact⟨by rw[hlo i (by omega),qAw (Ne.symm h2),qAw (Ne.symm h1)],b4 i h1 (by omega) (by omega)⟩
     ·have:i=n\/i=n+1:=by omega
      exact .inr (.inr this)
     ·rw[b4 i (by omega) (by omega) (by omega)];exact hs.heap.dead i (by omega)
     ·intro i o q j' hS ho _ _ hat;rcases back i o q hS ho ⟨j',hat⟩with ⟨_,h2⟩|⟨_,h2⟩
      ·obtain⟨o0,m1,m2,m3⟩:=own q h2;exact⟨sid,o0,.inl rfl,m1,m2,m3 j'⟩
      ·obtain⟨o0,m1,m2,m3⟩:=yWj q h2;exact⟨rid,o0,.inr (.inl rfl),m1,m2,m3 j'⟩
     ·intro i o q hS ho hbk;rcases back i o q hS ho hbk with ⟨_,h2⟩|⟨_,h2⟩
      ·obtain⟨o0,m1,m2,m3⟩:=own q h2;exact .inl ⟨sid,o0,.inl rfl,m1,0,m3 0⟩
      ·obtain⟨o0,m1,m2,m3⟩:=yWj q h2;exact .inl ⟨rid,o0,.inr (.inl rfl),m1,0,m3 0⟩
     ·intro i i' o o' q hS hS' ho ho' hbi hbj;rcases back i o q hS ho hbi with ⟨r1,r2⟩|⟨r1,r2⟩<;>rcases back i' o' q hS' ho' hbj with ⟨r3,r4⟩|⟨r3,r4⟩
      ·have sb:∀ q,(β sid).blk=some q->q=b:=λq h=>by rw[g1]at h;simpa using h.symm
       rcases hS with rfl|rfl|rfl|rfl
       ·rw[hgs o ho,b3,pJ (p:=p) rfl]at hbi;rcases hS' with rfl|rfl|rfl|rfl
        ·rfl
        ·exact absurd rfl r3
        ·exfalso;rw[hgn o' ho',b1,tX,A3]at hbj;rcases hbi with h|h
         ·exact g8 (by rw[<- sb q h,f2];exact qAh _ (qAq _ hbj))
         ·exact nd3 q h q (qAq _ hbj) rfl
        ·exfalso;rw[hgm o' ho',b2,tX,B3]at hbj;rcases hbi with h|h
         ·exact g8 (by rw[<- sb q h,f2];exact qAh _ (qAh _ hbj))
         ·exact nd3 q h q (qAh _ hbj) rfl
       ·exact absurd rfl r1
       ·rw[hgn o ho,b1,tX,A3]at hbi;rcases hS' with rfl|rfl|rfl|rfl
        ·exfalso;rw[hgs o' ho',b3,pJ (p:=p) rfl]at hbj;rcases hbj with h|h
         ·exact g8 (by rw[<- sb q h,f2];exact qAh _ (qAq _ hbi))
         ·exact nd3 q h q (qAq _ hbi) rfl
        ·exact absurd rfl r3
        ·rfl
        ·exfalso;rw[hgm o' ho',b2,tX,B3]at hbj;exact nd6 q hbi q hbj rfl
       ·rw[hgm o ho,b2,tX,B3]at hbi;rcases hS' with rfl|rfl|rfl|rfl
        ·exfalso;rw[hgs o' ho',b3,pJ (p:=p) rfl]at hbj;rcases hbj with h|h
         ·exact g8 (by rw[<- sb q h,f2];exact qAh _ (qAh _ hbi))
         ·exact nd3 q h q (qAh _ hbi) rfl
        ·exact absurd rfl r3
        ·exfalso;rw[hgn o' ho',b1,tX,A3]at hbj;exact nd6 q hbj q hbi rfl
        ·rfl
      ·exact(hsep q r2 r4).elim
      ·exact(hsep q r4 r2).elim
      ·rw[r1,r3]
    refine⟨_,hs.re hturn λi o hS ho=>?_⟩;rcases hS with rfl|rfl|rfl|rfl
    ·rw[hgs o ho,b3];simp only[Ob.Rel];refine⟨k1,k2,rfl,k4,by simp only[p,k5,Ms];simp,b,cur,c1,c2,d1,g1,g2,g3,g4,g5,rfl,nd1,λh=>g8 (by rw[f2];exact qAq _ h),f3,⟨?_,by rw[e1];rfl⟩,?_⟩
     ·rw[e1];refine⟨[_],_,rfl,by simp only[L.Rel,Ty.Rel],[_],_,rfl,by simp only[L.Rel,Ty.Rel],[v1],[v2],rfl,?_,[v2],[],rfl,?_,rfl⟩
      ·simp only[L.Rel,b1];exact⟨P1f.1,P1f.2.1,by omega,_,rfl,i1.one,λ_=>by rw[P1f.2.2.2];exact A2⟩
      ·simp only[L.Rel,b2];exact⟨P2f.1,P2f.2.1,by omega,_,rfl,i2.one,λ_=>by rw[P2f.2.2.2];exact B2⟩
     ·rw[vE]at g11;rw[<- f1];exact g11
    ·rw[hgr o ho,b5];simp only[Ob.Rel];refine⟨q1,q2,rb,rcs,q3,?_,q5⟩;refine aJ.putAt (l:=.own sid v) hmv (Keep.refl _ w) hturn.owns (λcs0 hr=>?_) hl q4;simp only[L.Rel,b3]at hr ⊢;obtain⟨r1,r2,r3,c,r4,r5,r6⟩:=hr;exact⟨k1,k2,aS _,c,r4,r5,λ_=>r6 k3⟩
    ·rw[hgn o ho,b1];exact A1 _ _
    ·rw[hgm o ho,b2];exact B1 _ _
   ·cases h
  ·cases h
 ·cases h
def yWk(h:List Ob)(rid j:Nat):Option (Bool × List Ob):=
 match h[rid]? with
 |some (.box eb ls)=>
  match ls[j]? with
  |some (.own sid u)=>
   match h[sid]? with
   |some (.stk e ei v rows (some [.val (.int .i64) x,.val (.int .i64) y,.own i1 u1,.own i2 u2]))=>
    match h[i1]?,h[i2]? with
    |some (.arr e1 (.int .i64) w1 r1 true),some (.arr e2 (.int .i64) w2 r2 true)=>
     if e1=ei/\e2=ei/\i1≠i2 then
      some (vF v u&&(vF w1 u1&&vF w2 u2),
       ((((h.set sid (.stk e ei (v+1) (rows++[(x,y,r1,r2,())]) none)).set rid (.box eb (ls.set j (.own sid (v+1))))).set i1 (.arr ei (.int .i64) (w1+1) [] true)).set i2 (.arr ei (.int .i64) (w2+1) [] true)))
     else none
    |_,_=>none
   |_=>none
  |_=>none
 |_=>none
def zGs(p:Pl):List Nat:=match p.blk with
 |none=>[]
 |some b=>[b]
theorem yEk{p:Pl}{b:Nat}:b∈zGs p<->p.blk=some b:=by
 unfold zGs;cases p.blk with
 |none=>simp
 |some c=>simp;exact eq_comm
theorem zUt(p:Pl):(zGs p).Nodup:=by
 unfold zGs;cases p.blk<;>simp
theorem row_in{β:Nat->Pl}{w:World}{N:Nat->Nat->Prop}{ei:TypeId}{ver:Nat}{xs:List Int}{p:Pl}{c:Value}(h:(Ob.arr ei (.int .i64) ver xs true).Rel β w N p)(hc:eP p 0 p.len c):Wm w ei xs c (zGs p):=by
 obtain⟨h1,h2,h3,h4,h5,h6,h7⟩:=h;have hone:(Ty.int IntKind.i64).size=1:=rfl;rcases h7 with ⟨h7,rfl,_⟩|⟨b,cur,css,k1,k2,k3,k4,k5,k6,k7⟩
 ·unfold eP at hc;rw[h7]at hc;exact .inl ⟨hc.1,rfl,by simp[zGs,h7]⟩
 ·unfold eP at hc;rw[k1]at hc;obtain⟨_,o,rfl,ho⟩:=hc;have:o=0:=by
   rcases ho with h|h
   ·simpa using h
   ·omega
  subst this;rw[hone,qBq]at k4 k5;refine .inr ⟨b,p.cap,cur,by simp[zGs,k1],by rw[h6];rfl,k2,?_,k5,k6,k7⟩;have h6':xs.length=xs.length:=rfl;rw[k4];exact go k3
where
 go {w:World}{N:Nat->Nat->Prop}:∀ {xs:List Int}{css:List (List Value)},bJ (λx c=>(Ty.int IntKind.i64).Rel w N x c) xs css->css.flatten=xs.map (Value.int .i64)
  |[],[],_=>rfl
  |x::xs,c::css,h=>by
   have h1:c=[.int .i64 x]:=h.1;rw[xB,h1,go h.2];rfl
  |[],_::_,h=>h.elim
  |_::_,[],h=>h.elim
theorem yWl{β:Nat->Pl}{w:World}{σ:St}{a:Act}{rid j:Nat}{h':List Ob}(h:yWk σ.h rid j=some (true,h'))(hs:Sim C β σ a w):∃ β',Sim C β' ⟨σ.r,h'⟩ a w:=by
 unfold yWk at h;split at h
 ·rename_i eb ls hb;split at h
  ·rename_i sid u hl;split at h
   ·rename_i e ei v rows x y i1 u1 i2 u2 hst;split at h
    ·rename_i e1 w1 r1 e2 w2 r2 ho1 ho2;split at h
     ·rename_i hc;obtain⟨rfl,rfl,yWm⟩:=hc;simp only[aA,aC,aD]at h;obtain⟨⟨hv,hv1,hv2⟩,rfl⟩:=h;have hv:=aP hv;have hv1:=aP hv1;have hv2:=aP hv2;subst hv hv1 hv2;have hne:rid≠sid:=λe=>by rw[e,hst]at hb;cases hb
      have hr1:i1≠rid:=λe=>by rw[e,hb]at ho1;cases ho1
      have hr2:i2≠rid:=λe=>by rw[e,hb]at ho2;cases ho2
      have hs1:i1≠sid:=λe=>by rw[e,hst]at ho1;cases ho1
      have hs2:i2≠sid:=λe=>by rw[e,hst]at ho2;cases ho2
      have zGr:=(bK.1 hb).1;have hlts:=(bK.1 hst).1;have hlt1:=(bK.1 ho1).1;have hlt2:=(bK.1 ho2).1;have hob:=hs.heap.obj _ _ hst;have hbx:=hs.heap.obj _ _ hb;have Yi:=hs.heap.obj _ _ ho1;have Yj:=hs.heap.obj _ _ ho2;have hA1:=Yi;have hA2:=Yj;simp only[Ob.Rel]at hob hbx Yi Yj;obtain⟨k1,k2,k3,k4,k5,b,cur,cs,cs2,bs,g1,g2,g3,g4,g5,g6,g7,g8,g9,⟨g10,xEr⟩,g11⟩:=hob;obtain⟨q1,q2,rb,rcs,q3,q4,q5⟩:=hbx;obtain⟨c1,t1,f1,m1,c2,t2,f2,m2,c3,t3,f3,m3,c4,t4,f4,m4,f5⟩:=g10;simp only[aJ]at f5;simp only[L.Rel,Ty.Rel]at m1 m2 m3 m4;subst f5 m1 m2;rw[vE]at f4;obtain⟨_,_,_,z3,rfl,_,n3⟩:=m3;obtain⟨_,_,_,z4,rfl,_,n4⟩:=m4;subst f4 f3 f2 f1;have I1:=row_in hA1 (n3 Yi.2.2.1);have I2:=row_in hA2 (n4 Yj.2.2.1);generalize hx1:zGs (β i1)=x1 at *;generalize hx2:zGs (β i2)=x2 at *;have X1:∀ q,q∈x1<->(β i1).blk=some q:=λq=>by rw[<- hx1];exact yEk
      have X2:∀ q,q∈x2<->(β i2).blk=some q:=λq=>by rw[<- hx2];exact yEk
      have X1n:x1.Nodup:=by rw[<- hx1];exact zUt _
      have X2n:x2.Nodup:=by rw[<- hx2];exact zUt _
      let p:Pl:={ β sid with ver:=v+1,sub:=(bs++(x1++x2)).map λq=>(q,0) }
      let P1:Pl:=⟨true,false,w1+1,none,1,0,0,[]⟩
      let P2:Pl:=⟨true,false,w2+1,none,1,0,0,[]⟩
      let β':Nat->Pl:=upd (upd (upd β sid p) i1 P1) i2 P2
      have b1:β' i1=P1:=by simp only[β'];rw[aY _ _ yWm,upd_same]
      have b2:β' i2=P2:=by simp only[β'];rw[upd_same]
      have b3:β' sid=p:=by simp only[β'];rw[aY _ _ (Ne.symm hs2),aY _ _ (Ne.symm hs1),upd_same]
      have b4:∀ i,i≠sid->i≠i1->i≠i2->β' i=β i:=λi h1 h2 h3=>by simp only[β'];rw[aY _ _ h3,aY _ _ h2,aY _ _ h1]
      have b5:β' rid=β rid:=b4 rid hne (Ne.symm hr1) (Ne.symm hr2);have hmv:Moves β β':=λi hi=>by
       by_cases h1:i=sid
       ·subst h1;rw[b3];exact .inr ⟨k2,k1,k2,by rw[k3];exact qBr _⟩
       ·by_cases h2:i=i1
        ·subst h2;rw[b1];exact .inr ⟨Yi.2.1,rfl,rfl,by rw[Yi.2.2.1];exact qBr _⟩
        ·by_cases h3:i=i2
         ·subst h3;rw[b2];exact .inr ⟨Yj.2.1,rfl,rfl,by rw[Yj.2.2.1];exact qBr _⟩
         ·exact .inl (b4 i h1 h2 h3)
      generalize hH:((((σ.h.set sid (Ob.stk e e2 (v+1) (rows++[(x,y,r1,r2,())]) none)).set rid (.box eb (ls.set j (.own sid (v+1))))).set i1 (.arr e2 (.int .i64) (w1+1) [] true)).set i2 (.arr e2 (.int .i64) (w2+1) [] true))=H;have hHl:H.length=σ.h.length:=by rw[<- hH];simp
      have hgs:∀ o,H[sid]?=some o->o=.stk e e2 (v+1) (rows++[(x,y,r1,r2,())]) none:=λo ho=>by
       rw[<- hH,qAw hs2,qAw hs1,qAw hne,qAv hlts]at ho;simpa using ho.symm
      have hgr:∀ o,H[rid]?=some o->o=.box eb (ls.set j (.own sid (v+1))):=λo ho=>by
       rw[<- hH,qAw hr2,qAw hr1,qAv (by simpa using zGr)]at ho;simpa using ho.symm
      have hg1:∀ o,H[i1]?=some o->o=.arr e2 (.int .i64) (w1+1) [] true:=λo ho=>by
       rw[<- hH,qAw (Ne.symm yWm),qAv (by simpa using hlt1)]at ho;simpa using ho.symm
      have hg2:∀ o,H[i2]?=some o->o=.arr e2 (.int .i64) (w2+1) [] true:=λo ho=>by
       rw[<- hH,qAv (by simpa using hlt2)]at ho;simpa using ho.symm
      have zXx:∀ q,b=q\/q∈bs->∃ o0,σ.h[sid]?=some o0/\o0.wr=true/\∀ j,o0.at (β sid) q j:=λq hq=>⟨_,hst,rfl,λj=>(Jg g6).2 (by rw[g1];exact hq.imp (λh=>by rw[h]) id)⟩
      have yNx:∀ q,q∈x1->∃ o0,σ.h[i1]?=some o0/\o0.wr=true/\∀ j,o0.at (β i1) q j:=λq hq=>⟨_,ho1,rfl,λj=>Ob.mP ((X1 q).1 hq)⟩
      have yNy:∀ q,q∈x2->∃ o0,σ.h[i2]?=some o0/\o0.wr=true/\∀ j,o0.at (β i2) q j:=λq hq=>⟨_,ho2,rfl,λj=>Ob.mP ((X2 q).1 hq)⟩
      have Ng:∀ q,(β rid).blk=some q->∃ o0,σ.h[rid]?=some o0/\o0.wr=true/\∀ j,o0.at (β rid) q j:=λq hq=>⟨_,hb,rfl,λj=>Ob.mP hq⟩
      have sep:∀ {i i' q:Nat},(∃ o0:Ob,σ.h[i]?=some o0/\o0.wr=true/\∀ j,o0.at (β i) q j)->(∃ o0:Ob,σ.h[i']?=some o0/\o0.wr=true/\∀ j,o0.at (β i') q j)->i=i':=λ{i i' q} h1 h2=>by
       obtain⟨o0,a1,_,a3⟩:=h1;obtain⟨o1,c1,_,c3⟩:=h2;exact hs.heap.kX i i' o0 o1 q a1 c1 ⟨0,a3 0⟩ ⟨0,c3 0⟩
      have back:∀ i o q,(i=sid\/i=rid\/i=i1\/i=i2)->H[i]?=some o->o.blks (β' i) q ->
       (i=sid/\∃ i0,(i0=sid\/i0=i1\/i0=i2)/\∃ o0,σ.h[i0]?=some o0/\o0.wr=true/\∀ j,o0.at (β i0) q j)\/(i=rid/\∃ o0,σ.h[rid]?=some o0/\o0.wr=true/\∀ j,o0.at (β rid) q j):=λi o q hS ho hbk=>by
       rcases hS with rfl|rfl|rfl|rfl
       ·rw[hgs o ho,b3,pJ (p:=p) rfl]at hbk;refine .inl ⟨rfl,?_⟩;rcases hbk with h|h
        ·have h:(β i).blk=some q:=h;rw[g1]at h;exact⟨i,.inl rfl,zXx q (.inl (by simpa using h))⟩
        ·rcases qAp.1 h with h|h
         ·exact⟨i,.inl rfl,zXx q (.inr h)⟩
         ·rcases qAp.1 h with h|h
          ·exact⟨i1,.inr (.inl rfl),yNx q h⟩
          ·exact⟨i2,.inr (.inr rfl),yNy q h⟩
       ·rw[hgr o ho,b5,zGq]at hbk;exact .inr ⟨rfl,Ng q hbk⟩
       ·rw[hg1 o ho,b1,tX]at hbk;cases hbk
       ·rw[hg2 o ho,b2,tX]at hbk;cases hbk
      have hturn:Turn C (λi=>i=sid\/i=rid\/i=i1\/i=i2) σ.h H β β' w w:=by
       refine⟨by omega,λi hi hS=>?_,λi h1 h2=>by omega,λi hi=>?_,?_,?_,?_,(Keep.refl (λ_ _=>False) w).weaken λ_ _ h=>h.elim,⟨rfl,rfl,rfl⟩,hmv⟩
       ·have h1:i≠sid:=λh=>hS (.inl h)
        have h2:i≠rid:=λh=>hS (.inr (.inl h))
        have h3:i≠i1:=λh=>hS (.inr (.inr (.inl h)))
        have h4:i≠i2:=λh=>hS (.inr (.inr (.inr h)))
        exact⟨by rw[<- hH,qAw (Ne.symm h4),qAw (Ne.symm h3),qAw (Ne.symm h2),qAw (Ne.symm h1)],b4 i h1 h3 h4⟩
       ·rw[b4 i (by omega) (by omega) (by omega)];exact hs.heap.dead i (by omega)
       ·intro i o q j' hS ho _ _ hat;rcases back i o q hS ho ⟨j',hat⟩with ⟨_,i0,h0,o0,a1,a2,a3⟩|⟨_,o0,a1,a2,a3⟩
        ·refine⟨i0,o0,?_,a1,a2,a3 j'⟩;rcases h0 with h|h|h
         ·exact .inl h
         ·exact .inr (.inr (.inl h))
         ·exact .inr (.inr (.inr h))
        ·exact⟨rid,o0,.inr (.inl rfl),a1,a2,a3 j'⟩
       ·intro i o q hS ho hbk;rcases back i o q hS ho hbk with ⟨_,i0,h0,o0,a1,a2,a3⟩|⟨_,o0,a1,a2,a3⟩
        ·refine .inl ⟨i0,o0,?_,a1,0,a3 0⟩;rcases h0 with h|h|h
         ·exact .inl h
         ·exact .inr (.inr (.inl h))
         ·exact .inr (.inr (.inr h))
        ·exact .inl ⟨rid,o0,.inr (.inl rfl),a1,0,a3 0⟩
       ·intro i i' o o' q hS hS' ho ho' hbi hbj;rcases back i o q hS ho hbi with ⟨r3,i0,h0,hh⟩|⟨r3,hh⟩<;>rcases back i' o' q hS' ho' hbj with ⟨r4,i0',h0',hh'⟩|⟨r4,hh'⟩
        ·rw[r3,r4]
        ·exfalso;have:=sep hh hh';rcases h0 with h|h|h
         ·exact hne (by rw[<- this,h])
         ·exact hr1 (by rw[<- h,this])
         ·exact hr2 (by rw[<- h,this])
        ·exfalso;have:=sep hh' hh;rcases h0' with h|h|h
         ·exact hne (by rw[<- this,h])
         ·exact hr1 (by rw[<- h,this])
         ·exact hr2 (by rw[<- h,this])
        ·rw[r3,r4]
      refine⟨_,hs.re hturn λi o hS ho=>?_⟩;rcases hS with rfl|rfl|rfl|rfl
      ·rw[hgs o ho,b3];simp only[Ob.Rel];have hnd:(bs++(x1++x2)).Nodup:=by
        refine qDm.2 ⟨g7,qDm.2 ⟨X1n,X2n,λq hq q' hq' e=>?_⟩,λq hq q' hq' e=>?_⟩
        ·subst e;exact yWm (sep (yNx q hq) (yNy q hq'))
        ·subst e;rcases qAp.1 hq' with h|h
         ·exact hs1 (sep (yNx q h) (zXx q (.inr hq)))
         ·exact hs2 (sep (yNy q h) (zXx q (.inr hq)))
       have hbn:b∉bs++(x1++x2):=λh=>by
        rcases qAp.1 h with h|h
        ·exact g8 h
        ·rcases qAp.1 h with h|h
         ·exact hs1 (sep (yNx b h) (zXx b (.inl rfl)))
         ·exact hs2 (sep (yNy b h) (zXx b (.inl rfl)))
       refine⟨k1,k2,rfl,k4,by simp only[p,k5,Ms,List.length_append,xI,List.length_nil],b,cur,cs++[.int .i64 x,.int .i64 y,z3,z4],[],bs++(x1++x2),g1,g2,g3,g4,g5,rfl,hnd,hbn,?_,rfl,?_⟩
       ·have hone:iZ w e2 [(x,y,r1,r2,())] [.int .i64 x,.int .i64 y,z3,z4] (x1++(x2++[])):=⟨z3,z4,x1,x2,[],[],rfl,rfl,I1,I2,rfl,rfl⟩;rw[vE]at hone;exact g9.append hone
       ·rw[vE];exact g11
      ·rw[hgr o ho,b5];simp only[Ob.Rel];refine⟨q1,q2,rb,rcs,q3,?_,q5⟩;refine aJ.putAt (l:=.own sid v) hmv (Keep.refl _ w) hturn.owns (λcs0 hr=>?_) hl q4;simp only[L.Rel,b3]at hr ⊢;obtain⟨r1',r2',r3',c,r4',r5',r6'⟩:=hr;exact⟨k1,k2,aS _,c,r4',r5',λ_=>r6' k3⟩
      ·rw[hg1 o ho,b1];exact⟨rfl,rfl,rfl,rfl,by decide,rfl,.inl ⟨rfl,rfl,rfl⟩⟩
      ·rw[hg2 o ho,b2];exact⟨rfl,rfl,rfl,rfl,by decide,rfl,.inl ⟨rfl,rfl,rfl⟩⟩
     ·cases h
    ·cases h
   ·cases h
  ·cases h
 ·cases h
def zXy(h:List Ob)(sid k:Nat):Option (Bool × List Ob):=
 match h[sid]? with
 |some (.stk e ei v rows (some ls))=>
  match ls[k]? with
  |some .aZ=>some (true,h.set sid (.stk e ei v rows (some (ls.set k (.own h.length 0))))++[.arr ei (.int .i64) 0 [] true])
  |some (.own ..)=>some (true,h)
  |_=>none
 |_=>none
theorem yWn{β:Nat->Pl}{w:World}{σ:St}{a:Act}{sid k:Nat}{h':List Ob}(h:zXy σ.h sid k=some (true,h'))(hs:Sim C β σ a w):∃ β',Sim C β' ⟨σ.r,h'⟩ a w:=by
 unfold zXy at h;split at h
 ·rename_i e ei v rows ls hst;split at h
  ·rename_i hl;simp only[aA,aC,true_and]at h;subst h;have hlts:=(bK.1 hst).1;have hob:=hs.heap.obj _ _ hst;simp only[Ob.Rel]at hob;obtain⟨k1,k2,k3,k4,k5,b,cur,cs,cs2,bs,g1,g2,g3,g4,g5,g6,g7,g8,g9,⟨g10,xEr⟩,g11⟩:=hob
   let P0:Pl:=⟨true,false,0,none,1,0,0,[]⟩
   generalize hn:σ.h.length=n at *;have b1:upd β n P0 n=P0:=upd_same _ _ _;have b2:∀ i,i≠n->upd β n P0 i=β i:=λi hi=>aY _ _ hi
   have hmv:Moves β (upd β n P0):=λi hi=>by
    refine .inl (b2 i λe=>?_);subst e;rw[hs.heap.dead i (by omega)]at hi;cases hi
   generalize hH:σ.h.set sid (Ob.stk e ei v rows (some (ls.set k (.own n 0))))++[Ob.arr ei (.int .i64) 0 [] true]=H;have hHl:H.length=n+1:=by rw[<- hH];simp[hn]
   have hlo:∀ i,i<n->H[i]?=(σ.h.set sid (Ob.stk e ei v rows (some (ls.set k (.own n 0)))))[i]?:=λi hi=>by rw[<- hH,fU (by simp[hn];exact hi)]
   have hgs:∀ o,H[sid]?=some o->o=.stk e ei v rows (some (ls.set k (.own n 0))):=λo ho=>by
    rw[hlo sid (by omega),qAv (by omega)]at ho;simpa using ho.symm
   have hgn:∀ o,H[n]?=some o->o=.arr ei (.int .i64) 0 [] true:=λo ho=>by
    rw[<- hH,yZ (by simp[hn])]at ho;simp[hn]at ho;exact ho.symm
   have back:∀ i o q,(i=sid\/i=n)->H[i]?=some o->o.blks (upd β n P0 i) q->i=sid/\∃ o0,σ.h[sid]?=some o0/\o0.wr=true/\∀ j,o0.at (β sid) q j:=λi o q hS ho hbk=>by
    rcases hS with rfl|rfl
    ·rw[hgs o ho,b2 i (by omega),pJ g6]at hbk;exact⟨rfl,_,hst,rfl,λj=>(Jg g6).2 hbk⟩
    ·rw[hgn o ho,b1,tX]at hbk;cases hbk
   have hturn:Turn C (λi=>i=sid\/i=n) σ.h H β (upd β n P0) w w:=by
    refine⟨by omega,λi hi hS=>?_,λi h1 h2=>.inr (by omega),λi hi=>?_,?_,?_,?_,(Keep.refl (λ_ _=>False) w).weaken λ_ _ h=>h.elim,⟨rfl,rfl,rfl⟩,hmv⟩
    ·have h1:i≠sid:=λh=>hS (.inl h)
     exact⟨by rw[hlo i (by omega),qAw (Ne.symm h1)],b2 i (by omega)⟩
    ·rw[b2 i (by omega)];exact hs.heap.dead i (by omega)
    ·intro i o q j' hS ho _ _ hat;obtain⟨_,o0,m1,m2,m3⟩:=back i o q hS ho ⟨j',hat⟩;exact⟨sid,o0,.inl rfl,m1,m2,m3 j'⟩
    ·intro i o q hS ho hbk;obtain⟨_,o0,m1,m2,m3⟩:=back i o q hS ho hbk;exact .inl ⟨sid,o0,.inl rfl,m1,0,m3 0⟩
    ·intro i i' o o' q hS hS' ho ho' hbi hbj;rw[(back i o q hS ho hbi).1,(back i' o' q hS' ho' hbj).1]
   refine⟨_,hs.re hturn λi o hS ho=>?_⟩;rcases hS with rfl|rfl
   ·rw[hgs o ho,b2 i (by omega)];simp only[Ob.Rel];refine⟨k1,k2,k3,k4,k5,b,cur,cs,cs2,bs,g1,g2,g3,g4,g5,g6,g7,g8,g9,⟨?_,xEr⟩,g11⟩;refine aJ.putAt (l:=.aZ) hmv (Keep.refl _ w) hturn.owns (λcs0 hr=>?_) hl g10;simp only[L.Rel,b1]at hr ⊢;subst hr;exact⟨rfl,rfl,aS _,_,rfl,rfl,λ_=>⟨rfl,rfl,rfl⟩⟩
   ·rw[hgn o ho,b1];exact⟨rfl,rfl,rfl,rfl,by decide,rfl,.inl ⟨rfl,rfl,rfl⟩⟩
  ·simp only[aA,aC,true_and]at h;subst h;exact⟨β,hs⟩
  ·cases h
 ·cases h
theorem fC.zKr{C:Ctx}{β:Nat->Pl}{h:List Ob}{w:World}{id:Nat}{e:TypeId}{ls ls':List L}(hs:fC C β h w)(ho:h[id]?=some (.box e ls))(hl:∀ cs,aJ β w (C.N β h) ls cs->w.heap[((β id).blk).getD 0]?=some (.cells cs.toArray e (0,0))->aJ β w (C.N β h) ls' cs):fC C β (h.set id (.box e ls')) w/\∀ b j,b<w.heap.size->C.N β (h.set id (.box e ls')) b j->C.N β h b j:=by
 have hob:=hs.obj _ _ ho;simp only[Ob.Rel]at hob;obtain⟨h1,h2,b,cs,h3,h4,h5⟩:=hob;have hlt:=(bK.1 ho).1;have hg:∀ o,(h.set id (.box e ls'))[id]?=some o->o=.box e ls':=λo h=>by
  rw[qAv hlt]at h;simpa using h.symm
 have hturn:Turn C (λi=>i=id) h (h.set id (.box e ls')) β β w w:=by
  refine⟨by simp,λi _ hS=>⟨by rw[qAw (Ne.symm hS)],rfl⟩,λi h1 h2=>?_,λi hi=>hs.dead i (by simpa using hi),?_,?_,?_,(Keep.refl (λ_ _=>False) w).weaken λ_ _ h=>h.elim,⟨rfl,rfl,rfl⟩,Moves.refl β⟩
  ·simp at h2;omega
  ·rintro i o b' j rfl ho' _ _ hat;rw[hg o ho']at hat;exact⟨i,_,rfl,ho,rfl,Ob.zV rfl rfl rfl hat⟩
  ·rintro i o b' rfl ho' hb;rw[hg o ho']at hb;exact .inl ⟨i,_,rfl,ho,Ob.mQ rfl rfl rfl hb⟩
  ·rintro i j o o' b' rfl rfl _ _ _ _;rfl
 refine⟨hs.re hturn λi o hS ho'=>?_,hturn.owns⟩;subst hS;rw[hg o ho'];simp only[Ob.Rel];refine⟨h1,h2,b,cs,h3,?_,h5⟩;exact(hl cs h4 (by rw[h3];exact h5)).mono (Moves.refl β) (Keep.refl _ w) hturn.owns
theorem aJ.cell{β:Nat->Pl}{w:World}{N:Nat->Nat->Prop}{l:L}(hz:l.size=1):∀ {ls:List L}{j:Nat}{cs:List Value},ls[j]?=some l->aJ β w N ls cs->∃ c,cs[sizes (ls.take j)]?=some c/\l.Rel β w N [c]
 |[],j,_,h,_=>by simp at h
 |x::ls,0,_,h,⟨c1,c2,e,h1,h2⟩=>by
  simp only[qAi,aA]at h;subst h;have hl:=h1.length;rw[hz]at hl;match c1,hl with
  |[c],_=>exact⟨c,by rw[e];rfl,h1⟩
 |x::ls,j+1,_,h,⟨c1,c2,e,h1,h2⟩=>by
  obtain⟨c,g1,g2⟩:=aJ.cell hz (j:=j) (by simpa using h) h2;refine⟨c,?_,g2⟩;have:sizes ((x::ls).take (j+1))=c1.length+sizes (ls.take j):=by simp[sizes,h1.length]
  rw[this,e,yZ (qAn _ _),qAo];exact g1
theorem aJ.tell{β:Nat->Pl}{w:World}{N:Nat->Nat->Prop}{l l':L}{c:Value}(hz:l.size=1)(hl:l'.Rel β w N [c]):∀ {ls:List L}{j:Nat}{cs:List Value},ls[j]?=some l->cs[sizes (ls.take j)]?=some c->aJ β w N ls cs->aJ β w N (ls.set j l') cs
 |[],j,_,h,_,_=>by simp at h
 |x::ls,0,_,h,hc,⟨c1,c2,e,h1,h2⟩=>by
  simp only[qAi,aA]at h;subst h;have hn:=h1.length;rw[hz]at hn;match c1,hn with
  |[d],_ =>
   rw[e]at hc;have:d=c:=by simpa [sizes]using hc
   subst this;exact⟨[d],c2,e,hl,h2⟩
 |x::ls,j+1,_,h,hc,⟨c1,c2,e,h1,h2⟩=>by
  refine⟨c1,c2,e,h1,aJ.tell hz hl (j:=j) (by simpa using h) ?_ h2⟩;have:sizes ((x::ls).take (j+1))=c1.length+sizes (ls.take j):=by simp[sizes,h1.length]
  rw[this,e,yZ (qAn _ _),qAo]at hc;exact hc
def zNu(h:List Ob)(id j:Nat):Option (Bool × List Ob):=
 match h[id]? with
 |some (.box e ls)=>
  match ls[j]? with
  |some l=>match vF l.size 1 with
   |true=>some (true,h.set id (.box e (ls.set j (.bad 1))))
   |false=>none
  |none=>none
 |_=>none
theorem ySs{β:Nat->Pl}{w:World}{σ:St}{a:Act}{id j:Nat}{h':List Ob}(h:zNu σ.h id j=some (true,h'))(hs:Sim C β σ a w):∃ β',Sim C β' ⟨σ.r,h'⟩ a w:=by
 unfold zNu at h;split at h
 ·rename_i e ls hb;split at h
  ·rename_i l hl;split at h
   ·rename_i hz;have hz:=aP hz;simp only[aA,aC,true_and]at h;subst h;obtain⟨hs1,hN1⟩:=hs.heap.zKr (ls':=ls.set j (.bad 1)) hb (λcs hcs _=>by
     obtain⟨c',g1,g2⟩:=aJ.cell hz hl hcs;exact hcs.tell hz (by simp only[L.Rel];exact⟨rfl,L.Rel.one g2⟩) hl g1)
    exact⟨β,hs1,hs.defers,hs.size,λi v hv=>(hs.reg i v hv).mono (Moves.refl β) (Keep.refl _ w) hN1⟩
   ·cases h
  ·cases h
 ·cases h
def yNz(h:List Ob)(sid:Nat):Option (Bool × List Ob):=
 match h[sid]? with
 |some (.stk e ei v rows (some _))=>some (true,h.set sid (.stk e ei (v+1) rows none))
 |some (.stk _ _ _ _ none)=>some (true,h)
 |_=>none
theorem ySt{β:Nat->Pl}{w:World}{σ:St}{a:Act}{sid:Nat}{h':List Ob}(h:yNz σ.h sid=some (true,h'))(hs:Sim C β σ a w):∃ β',Sim C β' ⟨σ.r,h'⟩ a w:=by
 unfold yNz at h;split at h
 ·rename_i e ei v rows ls hst;simp only[aA,aC,true_and]at h;subst h;have hlts:=(bK.1 hst).1;have hob:=hs.heap.obj _ _ hst;simp only[Ob.Rel]at hob;obtain⟨k1,k2,k3,k4,k5,b,cur,cs,cs2,bs,g1,g2,g3,g4,g5,g6,g7,g8,g9,g10,g11⟩:=hob
  let p:Pl:={ β sid with ver:=v+1,len:=rows.length }
  have hps:upd β sid p sid=p:=upd_same _ _ _;have hmv:Moves β (upd β sid p):=λi hi=>by
   by_cases h1:i=sid
   ·subst h1;rw[hps];exact .inr ⟨k2,k1,k2,by rw[k3];exact qBr _⟩
   ·exact .inl (aY _ _ h1)
  have hg:∀ o,(σ.h.set sid (.stk e ei (v+1) rows none))[sid]?=some o->o=.stk e ei (v+1) rows none:=λo ho=>by
   rw[qAv hlts]at ho;simpa using ho.symm
  have hturn:Turn C (λi=>i=sid) σ.h (σ.h.set sid (.stk e ei (v+1) rows none)) β (upd β sid p) w w:=by
   refine⟨by simp,λi _ hS=>⟨by rw[qAw (Ne.symm hS)],aY _ _ hS⟩,λi h1 h2=>?_,λi hi=>?_,?_,?_,?_,(Keep.refl (λ_ _=>False) w).weaken λ_ _ h=>h.elim,⟨rfl,rfl,rfl⟩,hmv⟩
   ·simp at h2;omega
   ·simp at hi;rw[aY _ _ (by omega)];exact hs.heap.dead i hi
   ·rintro i o q j rfl ho _ _ hat;rw[hg o ho,hps,Jg (p:=p) (bs:=bs) g6]at hat;exact⟨i,_,rfl,hst,rfl,(Jg g6).2 hat⟩
   ·rintro i o q rfl ho hb;rw[hg o ho,hps,pJ (p:=p) (bs:=bs) g6]at hb;exact .inl ⟨i,_,rfl,hst,(pJ g6).2 hb⟩
   ·rintro i j o o' q rfl rfl _ _ _ _;rfl
  refine⟨_,hs.re hturn λi o hS ho=>?_⟩;subst hS;rw[hg o ho,hps];simp only[Ob.Rel];have hl:=g9.length;refine⟨k1,k2,rfl,k4,by simp only[p,Ms,qAa],b,cur,cs,[],bs,g1,g2,g3,by simp only[p];simp only[Ms]at k5;omega,g5,g6,g7,g8,g9,rfl,?_⟩;rw[vE];simp only[p];have:=congrArg (qAy (rows.length*4)) g11;rw[qAd,qAe (by rw[k5];simp only[Ms];omega),qAz hl]at this;exact this
 ·simp only[aA,aC,true_and]at h;subst h;exact⟨β,hs⟩
 ·cases h
end
end Go.Dec
namespace Go.Dec
inductive Co where
 |keep (mask:List Bool)
 |trunc (n:Nat)
 |Ng (i:Nat) (t:TypeId)
 |ownB (id:Nat) (j:Nat) (t:TypeId)
 |xEs (i:Nat) (t:Ty)
 |xEt (id:Nat) (j:Nat) (t:Ty)
 |ver (id:Nat)
 |slR (i:Nat)
 |Yn (i:Nat)
 |xEu (id:Nat) (j:Nat)
 |xEv (i:Nat) (j:Nat) (t:TypeId)
 |xEw (i:Nat) (j:Nat)
 |gc (ρ:List Nat)
 |gcA (k:Nat)
 |orn (id:Nat) (j:Nat) (to off:Nat)
 |opn (id:Nat) (j:Nat)
 |cls (id:Nat) (j:Nat)
 |yWo (id:Nat) (j:Nat)
 |zXy (id:Nat) (k:Nat)
 |zNu (id:Nat) (j:Nat)
 |shut (id:Nat)
def Ee:List Bool->List V->List V | true :: m,v :: r=>v :: Ee m r | false :: m,_ :: r => .cK :: Ee m r | [],_ :: r => .cK :: Ee [] r | _,[]=>[]
mutual
def L.isB (n:Nat):L->Bool | .ptr id _=>qDl id n | .fD id _=>qDl id n | .sK id _ _ _ _=>qDl id n | .jD id _ _ _=>qDl id n | .sl id _ _ _=>qDl id n | .own id _=>qDl id n | .mp id=>qDl id n | .clo _ caps=>L.zCy n caps | _=>true
def L.zCy (n:Nat):List L->Bool | []=>true | l :: ls=>L.isB n l&&L.zCy n ls
end
def Qe (n:Nat):List (Sum L (List L))->Bool | []=>true | .inl l :: r=>l.isB n&&Qe n r | .inr ls :: r=>L.zCy n ls&&Qe n r
def V.isB (n:Nat):V->Bool | .one l=>l.isB n | .agg ls=>L.zCy n ls | .tup vs=>Qe n vs | .cK=>true
def Ob.isB (n:Nat):Ob->Bool | .box _ ls=>L.zCy n ls | .arr ..=>true | .fm _=>true | .dm ..=>true | .stk _ _ _ _ none=>true | .stk _ _ _ _ (some ls)=>L.zCy n ls
mutual
def L.Av (id v:Nat):L->Bool | .jD i u _ _=>!vF i id||vF u v | .sl i u _ _=>!vF i id||vF u v | .own i u=>!vF i id||vF u v | .clo _ caps=>L.Ji id v caps | _=>true
def L.Ji (id v:Nat):List L->Bool | []=>true | l :: ls=>L.Av id v l&&L.Ji id v ls
end
mutual
def L.dN(id:Nat):L->L
 |.jD i u a b=>if vF i id then .jD i 0 a b else .jD i u a b
 |.sl i u a b=>if vF i id then .sl i 0 a b else .sl i u a b
 |.own i u=>if vF i id then .own i 0 else .own i u
 |.clo f caps=>.clo f (L.Ey id caps)
 |l=>l
def L.Ey (id:Nat):List L->List L | []=>[] | l :: ls=>L.dN id l :: L.Ey id ls
end
def zEn (id v:Nat):List (Sum L (List L))->Bool | []=>true | .inl l :: r=>l.Av id v&&zEn id v r | .inr ls :: r=>L.Ji id v ls&&zEn id v r
def V.Av (id v:Nat):V->Bool | .one l=>l.Av id v | .agg ls=>L.Ji id v ls | .tup vs=>zEn id v vs | .cK=>true
def zGt (id:Nat):List (Sum L (List L))->List (Sum L (List L)) | []=>[] | .inl l :: r => .inl (l.dN id) :: zGt id r | .inr ls :: r => .inr (L.Ey id ls) :: zGt id r
def V.dN (id:Nat):V->V | .one l => .one (l.dN id) | .agg ls => .agg (L.Ey id ls) | .tup vs => .tup (zGt id vs) | .cK => .cK
def Ob.Av (id v:Nat):Ob->Bool | .box _ ls=>L.Ji id v ls | .arr ..=>true | .fm _=>true | .dm ..=>true | .stk _ _ _ _ none=>true | .stk _ _ _ _ (some ls)=>L.Ji id v ls
def Ob.dN (id:Nat):Ob->Ob | .box e ls => .box e (L.Ey id ls) | .stk e ei v rows top => .stk e ei v rows (top.map (L.Ey id)) | o=>o
def vP(ls:List L)(j:Nat)(l:L):Option (List L):=
 match ls[j]? with
 |some .aZ=>some (ls.set j l)
 |_=>none
def yWp(to off:Nat):L->Option L
 |.jC=>some (.fD to off)
 |.ptr a b=>match vF a to&&vF b off with
  |true=>some (.fD to off)
  |false=>none
 |.fD a b=>match vF a to&&vF b off with
  |true=>some (.fD to off)
  |false=>none
 |_=>none
def zNv:Nat->Nat->List Nat->Bool | _,0,_=>true | i,k+1,a :: r=>vF a i&&zNv (i+1) k r | _,_+1,[]=>false
theorem yAe:∀ {i k:Nat}{ρ:List Nat},zNv i k ρ=true->∀ j,j<k->ρ[j]?=some (i+j)
 |_,0,_,_,j,hj=>by omega
 |i,k+1,a::r,h,j,hj=>by
  simp only[zNv,aD]at h;have:=aP h.1;subst this;cases j with
  |zero=>rfl
  |succ j =>
   have:=yAe h.2 j (by omega);rw[show a+1+j=a+(j+1)by omega]at this;simpa using this
 |_,_+1,[],h,_,_=>by cases h
def frz(h:List Ob)(l:L):Option (Bool × L × List Ob):=
 match l with
 |.own id ver =>
  match h[id]? with
  |some (.arr e t v rows _)=>some (vF v ver,.val (.slice t) rows,h.set id (.arr e t v rows false))
  |_=>none
 |.sl id ver off len =>
  match h[id]? with
  |some (.arr e t v rows _)=>some (vF v ver&&qBg (off+len) rows.length,.val (.slice t) ((rows.drop off).take len),h.set id (.arr e t v rows false))
  |_=>none
 |_=>none
def gcL(ρ:List Nat)(σ:St):Option (Bool × St):=
 if nodupB ρ&&dF (λi=>qDl i σ.h.length) ρ then some (true,⟨σ.r.map (V.ren ρ σ.h),inH ρ σ.h⟩)else none
def upto:Nat->Nat->List Nat | _,0=>[] | i,k+1=>i :: upto (i+1) k
def gcR (k:Nat) (σ:St):List Nat:=zNt σ.h (σ.h.length+1) (zKn (upto 0 k) (yEi σ.r)) 0
def zBw (σ:St):Option (Bool×List Ob)->Option (Bool×St) | some (c,h)=>some (c,⟨σ.r,h⟩) | none=>none
theorem Gx{σ σ':St}{x:Option (Bool × List Ob)}{b:Bool}(h:zBw σ x=some (b,σ')):∃ h',x=some (b,h')/\σ'=⟨σ.r,h'⟩:=by
 unfold zBw at h;split at h
 ·simp only[aA,aC]at h;obtain⟨rfl,rfl⟩:=h;exact⟨_,rfl,rfl⟩
 ·cases h
def co1(T:Tab)(c:Co)(σ:St):Option (Bool × St):=
 match c with
 |.opn id j=>zBw σ (yWh σ.h id j)
 |.cls id j=>zBw σ (yWk σ.h id j)
 |.yWo id j=>zBw σ (yNw σ.h id j)
 |.zXy id k=>zBw σ (Dec.zXy σ.h id k)
 |.zNu id j=>zBw σ (Dec.zNu σ.h id j)
 |.shut id=>zBw σ (yNz σ.h id)
 |.gcA k=>match zNv 0 k (gcR k σ)with
  |true=>gcL (gcR k σ) σ
  |false=>none
 |.slR i =>
  match σ.r[i]? with
  |some (.one (.own id ver))=>
   match σ.h[id]? with
   |some (.arr _ _ v rows _)=>some (vF v ver,⟨σ.r.set i (.one (.sl id ver 0 rows.length)),σ.h⟩)
   |_=>none
  |some (.one (.sl ..))=>some (true,σ)
  |_=>none
 |.xEv i j t =>
  match σ.r[i]?,elemTy T t with
  |some (.agg ls),some (e,te,_)=>
   match ls[j]? with
   |some (.own ..)=>some (true,σ)
   |_ =>
    match vP ls j (.own σ.h.length 0)with
    |some ls'=>some (true,⟨σ.r.set i (.agg ls'),σ.h++[.arr e te 0 [] true]⟩)
    |none=>none
  |_,_=>none
 |.xEw i j =>
  match σ.r[i]? with
  |some (.agg ls)=>
   match ls[j]? with
   |some l =>
    match l.isD with
    |true=>some (true,σ)
    |false =>
     match frz σ.h l with
     |some (c,l',h')=>some (c,⟨σ.r.set i (.agg (ls.set j l')),h'⟩)
     |none=>none
   |none=>none
  |_=>none
 |.gc ρ=>gcL ρ σ
 |.orn id j to off =>
  match σ.h[id]? with
  |some (.box eb ls)=>
   match ls[j]? with
   |some l =>
    match yWp to off l with
    |some l'=>some (true,⟨σ.r,σ.h.set id (.box eb (ls.set j l'))⟩)
    |none=>none
   |none=>none
  |_=>none
 |.Yn i =>
  match σ.r[i]? with
  |some (.one l)=>
   match l.isD with
   |true=>some (true,σ)
   |false =>
    match frz σ.h l with
    |some (c,l',h')=>some (c,⟨σ.r.set i (.one l'),h'⟩)
    |none=>none
  |_=>none
 |.xEu id j =>
  match σ.h[id]? with
  |some (.box eb ls)=>
   match ls[j]? with
   |some l =>
    match l.isD with
    |true=>some (true,σ)
    |false =>
     match frz σ.h l with
     |some (c,l',h')=>some (c,⟨σ.r,h'.set id (.box eb (ls.set j l'))⟩)
     |none=>none
   |none=>none
  |_=>none
 |.keep m=>some (true,⟨Ee m σ.r,σ.h⟩)
 |.trunc n=>if qBg n σ.h.length&&(dF (V.isB n) σ.r&&dF (Ob.isB n) (σ.h.take n))then some (true,⟨σ.r,σ.h.take n⟩)else none
 |.Ng i t =>
  match σ.r[i]?,elemTy T t with
  |some (.one .aZ),some (e,te,_)=>some (true,⟨σ.r.set i (.one (.own σ.h.length 0)),σ.h++[.arr e te 0 [] true]⟩)
  |some (.one (.own ..)),_=>some (true,σ)
  |_,_=>none
 |.ownB id j t =>
  match σ.h[id]?,elemTy T t with
  |some (.box eb ls),some (e,te,_)=>
   match ls[j]? with
   |some (.own ..)=>some (true,σ)
   |_ =>
    match vP ls j (.own σ.h.length 0)with
    |some ls'=>some (true,⟨σ.r,(σ.h++[Ob.arr e te 0 [] true]).set id (.box eb ls')⟩)
    |none=>none
  |_,_=>none
 |.xEs i t =>
  match σ.r[i]? with
  |some (.one .aZ)=>some (true,⟨σ.r.set i (.one (.val (.slice t) [])),σ.h⟩)
  |_=>none
 |.xEt id j t =>
  match σ.h[id]? with
  |some (.box eb ls)=>
   match vP ls j (.val (.slice t) [])with
   |some ls'=>some (true,⟨σ.r,σ.h.set id (.box eb ls')⟩)
   |none=>none
  |_=>none
 |.ver id =>
  match σ.h[id]? with
  |some (.arr e t v rows wr)=>if dF (V.Av id v) σ.r&&dF (Ob.Av id v) σ.h then some (true,⟨σ.r.map (V.dN id),(σ.h.map (Ob.dN id)).set id (.arr e t 0 rows wr)⟩)else none
  |_=>none
def Co.fx (k:Nat):Co->Bool | .trunc n=>qBg k n | .gc ρ=>zNv 0 k ρ | .gcA n=>qBg k n | _=>true
def norm{ρ:Type}(T:Tab):List Co->St->(St->Option ρ)->Option ρ
 |[],σ,k=>k σ
 |c::cs,σ,k =>
  match co1 T c σ with
  |some (b,σ')=>chk b (norm T cs σ' k)
  |none=>none
section
variable {T:Tab}{C:Ctx}{β:Nat->Pl}{w:World}
theorem zBx:∀ (m:List Bool) (r:List V) (i:Nat) (v:V),(Ee m r)[i]?=some v->v=.cK\/r[i]?=some v
 |true::m,x::r,0,v,h=>.inr h
 |true::m,x::r,i+1,v,h=>zBx m r i v (by simpa [Ee]using h)
 |false::m,x::r,0,v,h=>by simp[Ee]at h;exact .inl h.symm
 |false::m,x::r,i+1,v,h=>zBx m r i v (by simpa [Ee]using h)
 |[],x::r,0,v,h=>by simp[Ee]at h;exact .inl h.symm
 |[],x::r,i+1,v,h=>zBx [] r i v (by simpa [Ee]using h)
 |true::_,[],i,v,h=>by simp[Ee]at h
 |false::_,[],i,v,h=>by simp[Ee]at h
 |[],[],i,v,h=>by simp[Ee]at h
theorem Nh:∀ (m:List Bool) (r:List V),(Ee m r).length=r.length
 |true::m,_x::r=>congrArg (· + 1) (Nh m r)
 |false::m,_x::r=>congrArg (· + 1) (Nh m r)
 |[],_x::r=>congrArg (· + 1) (Nh [] r)
 |true::_,[]=>rfl
 |false::_,[]=>rfl
 |[],[]=>rfl
theorem yN{α:Type}{f:α->Bool}:∀ {l:List α},dF f l=true->∀ (i:Nat) (x:α),l[i]?=some x->f x=true
 |y::r,h,0,x,hx=>by
  simp only[dF,aD]at h;simp only[qAi,aA]at hx;subst hx;exact h.1
 |y::r,h,i+1,x,hx=>by
  simp only[dF,aD]at h;exact yN h.2 i x (by simpa using hx)
 |[],_,i,x,hx=>by simp at hx
mutual
theorem L.Rel.below{β':Nat->Pl}{N N':Nat->Nat->Prop}{n:Nat}(hβ:∀ id,id<n->β' id=β id)(hN:∀ b j,b<w.heap.size->N' b j->N b j):∀ {l:L}{cs:List Value},l.isB n=true->l.Rel β w N cs->l.Rel β' w N' cs
 |.val t x,cs,_,h=>by simp only[L.Rel]at *;exact Ty.Rel.mono (Keep.refl _ w) hN h
 |.ptr id off,cs,hb,h=>by simp only[L.isB]at hb;simp only[L.Rel]at *;rw[hβ id (bX hb)];exact h
 |.sK id off es i sub,cs,hb,h=>by simp only[L.isB]at hb;simp only[L.Rel]at *;rw[hβ id (bX hb)];exact h
 |.jC,cs,_,h=>by simp only[L.Rel]at *;exact h
 |.fD id off,cs,hb,h=>by simp only[L.isB]at hb;simp only[L.Rel]at *;rw[hβ id (bX hb)];exact h
 |.jD id ver i off,cs,hb,h=>by simp only[L.isB]at hb;simp only[L.Rel]at *;rw[hβ id (bX hb)];exact h
 |.rJ t x off,cs,_,h=>by simp only[L.Rel]at *;obtain⟨c,hc,hr⟩:=h;exact⟨c,hc,hr.mono (Keep.refl _ w) hN⟩
 |.sl id ver off len,cs,hb,h=>by simp only[L.isB]at hb;simp only[L.Rel]at *;rw[hβ id (bX hb)];exact h
 |.own id ver,cs,hb,h=>by simp only[L.isB]at hb;simp only[L.Rel]at *;rw[hβ id (bX hb)];exact h
 |.aZ,cs,_,h=>by simp only[L.Rel]at *;exact h
 |.clo f caps,cs,hb,h=>by
  simp only[L.isB]at hb;simp only[L.Rel]at *;obtain⟨us,hc,hr⟩:=h;exact⟨us,hc,L.eG.below hβ hN hb hr⟩
 |.bad n,cs,_,h=>by simp only[L.Rel]at *;exact h
 |.Uu x tab,cs,_,h=>by simp only[L.Rel]at *;exact h
 |.mp id,cs,hb,h=>by simp only[L.isB]at hb;simp only[L.Rel]at *;rw[hβ id (bX hb)];exact h
theorem L.eG.below{β':Nat->Pl}{N N':Nat->Nat->Prop}{n:Nat}(hβ:∀ id,id<n->β' id=β id)(hN:∀ b j,b<w.heap.size->N' b j->N b j):∀ {ls:List L}{us:List Value},L.zCy n ls=true->L.eG β w N ls us->L.eG β' w N' ls us
 |[],us,_,h=>by simp only[L.eG]at *;exact h
 |l::ls,us,hb,h=>by
  simp only[L.zCy,aD]at hb;simp only[L.eG]at *;obtain⟨u,r,e,h1,h2⟩:=h;exact⟨u,r,e,L.Rel.below hβ hN hb.1 h1,L.eG.below hβ hN hb.2 h2⟩
end
theorem aJ.below{β':Nat->Pl}{N N':Nat->Nat->Prop}{n:Nat}(hβ:∀ id,id<n->β' id=β id)(hN:∀ b j,b<w.heap.size->N' b j->N b j):∀ {ls:List L}{cs:List Value},L.zCy n ls=true->aJ β w N ls cs->aJ β' w N' ls cs
 |[],_,_,h=>h
 |l::ls,_,hb,⟨c1,c2,e,h1,h2⟩=>by
  simp only[L.zCy,aD]at hb;exact⟨c1,c2,e,h1.below hβ hN hb.1,aJ.below hβ hN hb.2 h2⟩
theorem zKs{β':Nat->Pl}{N N':Nat->Nat->Prop}{n:Nat}(hβ:∀ id,id<n->β' id=β id)(hN:∀ b j,b<w.heap.size->N' b j->N b j):∀ {vs:List (Sum L (List L))}{us:List Value},Qe n vs=true->bJ (jM β w N) vs us->bJ (jM β' w N') vs us
 |[],[],_,_=>trivial
 |.inl l::vs,u::us,hb,h=>by
  simp only[Qe,aD]at hb;exact⟨L.Rel.below hβ hN hb.1 h.1,zKs hβ hN hb.2 h.2⟩
 |.inr ls::vs,u::us,hb,h=>by
  simp only[Qe,aD]at hb;obtain⟨⟨cs,e,hr⟩,h2⟩:=h;exact⟨⟨cs,e,hr.below hβ hN hb.1⟩,zKs hβ hN hb.2 h2⟩
 |[],_::_,_,h=>h.elim
 |.inl _::_,[],_,h=>h.elim
 |.inr _::_,[],_,h=>h.elim
theorem V.Rel.below{β':Nat->Pl}{N N':Nat->Nat->Prop}{n:Nat}(hβ:∀ id,id<n->β' id=β id)(hN:∀ b j,b<w.heap.size->N' b j->N b j){v:V}{x:Value}(hb:v.isB n=true)(h:v.Rel β w N x):v.Rel β' w N' x:=by
 cases v with
 |one l=>exact L.Rel.below hβ hN hb h
 |agg ls=>obtain⟨cs,e,hr⟩:=h;exact⟨cs,e,hr.below hβ hN hb⟩
 |tup vs=>obtain⟨us,e,hr⟩:=h;exact⟨us,e,zKs hβ hN hb hr⟩
 |cK=>trivial
theorem Sim.trunc{σ:St}{a:Act}{n:Nat}(hs:Sim C β σ a w)(hfx:C.fix.length<=n)(hn:n<=σ.h.length)(hr:dF (V.isB n) σ.r=true)(ho:dF (Ob.isB n) (σ.h.take n)=true):∃ β',Sim C β' ⟨σ.r,σ.h.take n⟩ a w:=by
 let β':Nat->Pl:=λid=>if id<n then β id else⟨false,false,0,none,0,0,0,[]⟩
 have hβ:∀ id,id<n->β' id=β id:=λid hid=>by simp[β',hid]
 have hget:∀ (id:Nat) (o:Ob),(σ.h.take n)[id]?=some o->id<n/\σ.h[id]?=some o:=λid o h=>by
  rw[List.getElem?_take]at h;split at h
  ·rename_i hlt;exact⟨hlt,h⟩
  ·cases h
 have hN:∀ b j,b<w.heap.size->C.N β' (σ.h.take n) b j->C.N β σ.h b j:=λb j _ hb=>by
  rcases hb with hb|⟨id,o,ho,hw,hbk⟩
  ·exact .inl hb
  ·obtain⟨hid,ho⟩:=hget id o ho;rw[hβ id hid]at hbk;exact .inr ⟨id,o,ho,hw,hbk⟩
 refine⟨β',⟨⟨?_,?_,?_,?_,hs.heap.n0,hs.heap.frame,hs.heap.size,hs.heap.os,hs.heap.tape,hs.heap.output,λj o hj=>by
  obtain⟨k1,k2⟩:=hs.heap.fixed j o hj;have hjn:j<n:=wD (bK.1 hj).1 hfx;exact⟨by simp;omega,λb hb=>by rw[hβ j hjn];exact k2 b hb⟩⟩,hs.defers,hs.size,λi v hv=>(hs.reg i v hv).below hβ hN (yN hr i v hv)⟩⟩
 ·intro id o hio;obtain⟨hid,h1⟩:=hget id o hio;rw[hβ id hid];have hob:=hs.heap.obj id o h1;cases o with
  |box e ls =>
   have hbl:=yN ho id _ hio;simp only[Ob.Rel]at *;obtain⟨g1,g2,b,cs,g3,g4,g5⟩:=hob;exact⟨g1,g2,b,cs,g3,g4.below hβ hN hbl,g5⟩
  |arr e t ver rows wr =>
   simp only[Ob.Rel]at *;obtain⟨g1,g2,g3,g4,g5,g6,g7⟩:=hob;refine⟨g1,g2,g3,g4,g5,g6,?_⟩;rcases g7 with g7|⟨b,cur,css,k1,k2,k3,k4⟩
   ·exact .inl g7
   ·exact .inr ⟨b,cur,css,k1,k2,k3.mono λ_ _ h=>h.mono (Keep.refl _ w) hN,k4⟩
  |fm tab=>simp only[Ob.Rel]at *;exact hob
  |dm kt vt es =>
   simp only[Ob.Rel]at *;obtain⟨g1,g2,b,ms,g3,g4,g5⟩:=hob;exact⟨g1,g2,b,ms,g3,g4,g5.mono (Keep.refl _ w) hN⟩
  |stk e ei ver rows top =>
   have hbl:=yN ho id _ hio;simp only[Ob.Rel]at *;obtain⟨g1,g2,g3,g4,g5,b,cur,cs,cs2,bs,k1,k2,k3,k4,k5,k6,k7,k8,k9,k10,k11⟩:=hob;refine⟨g1,g2,g3,g4,g5,b,cur,cs,cs2,bs,k1,k2,k3,k4,k5,k6,k7,k8,k9,?_,k11⟩;cases top with
   |none=>exact k10
   |some ls=>exact⟨k10.1.below hβ hN hbl,k10.2⟩
 ·intro id hid;simp only[qAb]at hid;simp only[β'];rw[if_neg (by omega)]
 ·intro i j o1 o2 b h1 h2 hb1 hb2;obtain⟨hi,h1⟩:=hget i o1 h1;obtain⟨hj,h2⟩:=hget j o2 h2;rw[hβ i hi]at hb1;rw[hβ j hj]at hb2;exact hs.heap.kX i j o1 o2 b h1 h2 hb1 hb2
 ·intro id o b h1 hb;obtain⟨hi,h1⟩:=hget id o h1;exact hs.heap.Lj h1 rfl (by rw[hβ id hi]) (by rw[hβ id hi]) (λh=>h) hb
section ver
variable {id v:Nat}
def pK (β:Nat->Pl) (id:Nat):Nat->Pl:=upd β id { β id with ver:=0 }
theorem zXz{i j:Nat}(h:i≠j):vF i j=false:=by
 cases hb:vF i j
 ·rfl
 ·exact absurd (aP hb) h
mutual
theorem L.Rel.dN{N:Nat->Nat->Prop}(hv:(β id).ver=v):∀ {l:L}{cs:List Value},l.Av id v=true->l.Rel β w N cs->(l.dN id).Rel (pK β id) w N cs
 |.val t x,cs,_,h=>by simp only[L.dN,L.Rel]at *;exact h
 |.Uu x tab,cs,_,h=>by simp only[L.dN,L.Rel]at *;exact h
 |.mp i,cs,_,h=>by
  simp only[L.dN,L.Rel,pK]at *;by_cases hi:i=id
  ·subst hi;rw[upd_same];exact h
  ·rw[aY _ _ hi];exact h
 |.ptr i off,cs,_,h=>by
  simp only[L.dN,L.Rel,pK]at *;by_cases hi:i=id
  ·subst hi;rw[upd_same];exact h
  ·rw[aY _ _ hi];exact h
 |.sK i off es k sub,cs,_,h=>by
  simp only[L.dN,L.Rel,pK]at *;by_cases hi:i=id
  ·subst hi;rw[upd_same];exact h
  ·rw[aY _ _ hi];exact h
 |.jC,cs,_,h=>by simp only[L.dN,L.Rel]at *;exact h
 |.fD i off,cs,_,h=>by
  simp only[L.dN,L.Rel,pK]at *;by_cases hi:i=id
  ·subst hi;rw[upd_same];exact h
  ·rw[aY _ _ hi];exact h
 |.jD i u a b,cs,hb,h=>by
  simp only[L.dN];by_cases hi:i=id
  ·subst hi;have hu:u=v:=by simpa [L.Av,qDi]using hb
   subst hu;simp only[qDi,if_true,L.Rel,pK,upd_same]at *;obtain⟨h1,h2,h3,c,h4,h5,h6⟩:=h;exact⟨h1,h2,aS _,c,h4,h5,λ_=>h6 hv⟩
  ·have:vF i id=false:=zXz hi;simp only[this,qBs,if_false,L.Rel,pK]at *;rw[aY _ _ hi];exact h
 |.rJ t x off,cs,_,h=>by simp only[L.dN,L.Rel]at *;exact h
 |.sl i u a b,cs,hb,h=>by
  simp only[L.dN];by_cases hi:i=id
  ·subst hi;have hu:u=v:=by simpa [L.Av,qDi]using hb
   subst hu;simp only[qDi,if_true,L.Rel,pK,upd_same]at *;obtain⟨h1,h2,h3,c,h4,h5,h6⟩:=h;exact⟨h1,h2,aS _,c,h4,h5,λ_=>h6 hv⟩
  ·have:vF i id=false:=zXz hi;simp only[this,qBs,if_false,L.Rel,pK]at *;rw[aY _ _ hi];exact h
 |.own i u,cs,hb,h=>by
  simp only[L.dN];by_cases hi:i=id
  ·subst hi;have hu:u=v:=by simpa [L.Av,qDi]using hb
   subst hu;simp only[qDi,if_true,L.Rel,pK,upd_same]at *;obtain⟨h1,h2,h3,c,h4,h5,h6⟩:=h;exact⟨h1,h2,aS _,c,h4,h5,λ_=>h6 hv⟩
  ·have:vF i id=false:=zXz hi;simp only[this,qBs,if_false,L.Rel,pK]at *;rw[aY _ _ hi];exact h
 |.aZ,cs,_,h=>by simp only[L.dN,L.Rel]at *;exact h
 |.clo f caps,cs,hb,h=>by
  simp only[L.Av]at hb;simp only[L.dN,L.Rel]at *;obtain⟨us,hc,hr⟩:=h;exact⟨us,hc,L.eG.dN hv hb hr⟩
 |.bad n,cs,_,h=>by simp only[L.dN,L.Rel]at *;exact h
theorem L.eG.dN{N:Nat->Nat->Prop}(hv:(β id).ver=v):∀ {ls:List L}{us:List Value},L.Ji id v ls=true->L.eG β w N ls us->L.eG (pK β id) w N (L.Ey id ls) us
 |[],us,_,h=>by simp only[L.Ey,L.eG]at *;exact h
 |l::ls,us,hb,h=>by
  simp only[L.Ji,aD]at hb;simp only[L.Ey,L.eG]at *;obtain⟨u,r,e,h1,h2⟩:=h;exact⟨u,r,e,L.Rel.dN hv hb.1 h1,L.eG.dN hv hb.2 h2⟩
end
theorem aJ.dN{N:Nat->Nat->Prop}(hv:(β id).ver=v):∀ {ls:List L}{cs:List Value},L.Ji id v ls=true->aJ β w N ls cs->aJ (pK β id) w N (L.Ey id ls) cs
 |[],_,_,h=>by simp only[L.Ey,aJ]at *;exact h
 |l::ls,_,hb,⟨c1,c2,e,h1,h2⟩=>by
  simp only[L.Ji,aD]at hb;exact⟨c1,c2,e,h1.dN hv hb.1,aJ.dN hv hb.2 h2⟩
theorem zKt{N:Nat->Nat->Prop}(hv:(β id).ver=v):∀ {vs:List (Sum L (List L))}{us:List Value},zEn id v vs=true->bJ (jM β w N) vs us->bJ (jM (pK β id) w N) (zGt id vs) us
 |[],[],_,_=>trivial
 |.inl l::vs,u::us,hb,h=>by
  simp only[zEn,aD]at hb;exact⟨L.Rel.dN hv hb.1 h.1,zKt hv hb.2 h.2⟩
 |.inr ls::vs,u::us,hb,h=>by
  simp only[zEn,aD]at hb;obtain⟨⟨cs,e,hr⟩,h2⟩:=h;exact⟨⟨cs,e,hr.dN hv hb.1⟩,zKt hv hb.2 h2⟩
 |[],_::_,_,h=>h.elim
 |.inl _::_,[],_,h=>h.elim
 |.inr _::_,[],_,h=>h.elim
theorem V.Rel.dN{N:Nat->Nat->Prop}(hv:(β id).ver=v){u:V}{x:Value}(hb:u.Av id v=true)(h:u.Rel β w N x):(u.dN id).Rel (pK β id) w N x:=by
 cases u with
 |one l=>exact L.Rel.dN hv hb h
 |agg ls=>obtain⟨cs,e,hr⟩:=h;exact⟨cs,e,hr.dN hv hb⟩
 |tup vs=>obtain⟨us,e,hr⟩:=h;exact⟨us,e,zKt hv hb hr⟩
 |cK=>trivial
theorem yWq(i:Nat):(pK β id i).box=(β i).box:=by
 unfold pK;by_cases hi:i=id
 ·subst hi;rw[upd_same]
 ·rw[aY _ _ hi]
theorem Qf(i:Nat):(pK β id i).blk=(β i).blk/\(pK β id i).live=(β i).live:=by
 unfold pK upd;split
 ·rename_i h;subst h;exact⟨rfl,rfl⟩
 ·exact⟨rfl,rfl⟩
theorem Ob.yWr(o:Ob):(o.dN id).wr=o.wr:=by cases o<;>rfl
theorem Ob.yOa(o:Ob):(o.dN id).tQ=o.tQ:=by cases o<;>rfl
theorem zGu(i:Nat):(pK β id i).sub=(β i).sub:=by
 unfold pK upd;split
 ·rename_i h;subst h;rfl
 ·rfl
theorem Sim.dN{σ:St}{a:Act}{e:TypeId}{t:Ty}{rows:List t.den}{wr:Bool}(hs:Sim C β σ a w)(ho:σ.h[id]?=some (.arr e t v rows wr))(hr:dF (V.Av id v) σ.r=true)(hh:dF (Ob.Av id v) σ.h=true):Sim C (pK β id) ⟨σ.r.map (V.dN id),(σ.h.map (Ob.dN id)).set id (.arr e t 0 rows wr)⟩ a w:=by
 have hob:=hs.heap.obj _ _ ho;simp only[Ob.Rel]at hob;obtain⟨g1,g2,g3,g4,g5,g6,g7⟩:=hob;have xKn:id<(σ.h.map (Ob.dN id)).length:=by simpa using(bK.1 ho).1
 have hget:∀ (i:Nat) (o:Ob),((σ.h.map (Ob.dN id)).set id (.arr e t 0 rows wr))[i]?=some o->∃ o',σ.h[i]?=some o'/\(o.wr=o'.wr/\o.tQ=o'.tQ)/\((i≠id/\o=o'.dN id)\/(i=id/\o=.arr e t 0 rows wr)):=λi o h=>by
  by_cases hi:id=i
  ·subst hi;rw[qAv xKn]at h;simp only[aA]at h;subst h;exact⟨_,ho,⟨rfl,rfl⟩,.inr ⟨rfl,rfl⟩⟩
  ·rw[qAw hi,qBx,qBu]at h;obtain⟨o',h1,rfl⟩:=h;exact⟨o',h1,⟨Ob.yWr o',Ob.yOa o'⟩,.inl ⟨λh=>hi h.symm,rfl⟩⟩
 have hNi:∀ b j,C.N (pK β id) ((σ.h.map (Ob.dN id)).set id (.arr e t 0 rows wr)) b j->C.N β σ.h b j:=λb j hb=>by
  rcases hb with hb|⟨i,o,h1,h2,h3⟩
  ·exact .inl hb
  ·obtain⟨o',h4,h5,_⟩:=hget i o h1;exact .inr ⟨i,o',h4,by rw[<- h5.1];exact h2,Ob.zV h5.2 (Qf (β:=β) (id:=id) i).1 (zGu i) h3⟩
 have mono:∀ {l:List L}{cs:List Value},aJ (pK β id) w (C.N β σ.h) l cs->aJ (pK β id) w (C.N (pK β id) ((σ.h.map (Ob.dN id)).set id (.arr e t 0 rows wr))) l cs:=λh=>h.mono (Moves.refl _) (Keep.refl _ w) λb j _ hb=>hNi b j hb
 refine⟨⟨?_,?_,?_,?_,hs.heap.n0,hs.heap.frame,hs.heap.size,hs.heap.os,hs.heap.tape,hs.heap.output,λj o hj=>by
  obtain⟨k1,k2⟩:=hs.heap.fixed j o hj;exact⟨by simpa using k1,λb hb=>by rw[(Qf (β:=β) (id:=id) j).1,(yWq (β:=β) (id:=id) j)];exact k2 b hb⟩⟩,hs.defers,by simpa using hs.size,?_⟩
 ·intro i o h;obtain⟨o',h1,h2,h3|h3⟩:=hget i o h
  ·obtain⟨hi,rfl⟩:=h3;have hob:=hs.heap.obj i o' h1;have hbi:pK β id i=β i:=aY _ _ hi;rw[hbi];cases o' with
   |box eb ls =>
    have hvv:=yN hh i _ h1;simp only[Ob.dN,Ob.Rel]at *;obtain⟨k1,k2,b,cs,k3,k4,k5⟩:=hob;exact⟨k1,k2,b,cs,k3,mono (k4.dN g3 hvv),k5⟩
   |arr e2 t2 xNk gU wr2 =>
    simp only[Ob.dN,Ob.Rel]at *;obtain⟨k1,k2,k3,k4,k5,k6,k7⟩:=hob;refine⟨k1,k2,k3,k4,k5,k6,?_⟩;rcases k7 with k7|⟨b,cur,css,m1,m2,m3,m4⟩
    ·exact .inl k7
    ·exact .inr ⟨b,cur,css,m1,m2,m3.mono λ_ _ h=>h.mono (Keep.refl _ w) λb j _ hb=>hNi b j hb,m4⟩
   |fm tab=>simp only[Ob.dN,Ob.Rel]at *;exact hob
   |dm kt vt es =>
    simp only[Ob.dN,Ob.Rel]at *;obtain⟨k1,k2,b,ms,k3,k4,k5⟩:=hob;exact⟨k1,k2,b,ms,k3,k4,k5.mono (Keep.refl _ w) λb j _ hb=>hNi b j hb⟩
   |stk es ei vs rs top =>
    have hvv:=yN hh i _ h1;simp only[Ob.dN,Ob.Rel]at *;obtain⟨m1,m2,m3,m4,m5,b,cur,cs,cs2,bs,k1,k2,k3,k4,k5,k6,k7,k8,k9,k10,k11⟩:=hob;refine⟨m1,m2,m3,m4,by rw[zGh];exact m5,b,cur,cs,cs2,bs,k1,k2,k3,k4,k5,k6,k7,k8,k9,?_,k11⟩;refine k10.imp _ λls cs e hl=>?_
    subst e;exact mono (hl.dN g3 hvv)
  ·obtain⟨rfl,rfl⟩:=h3;simp only[Ob.Rel,pK,upd_same];refine⟨g1,g2,trivial,g4,g5,g6,?_⟩;rcases g7 with g7|⟨b,cur,css,m1,m2,m3,m4⟩
   ·exact .inl g7
   ·exact .inr ⟨b,cur,css,m1,m2,m3.mono λ_ _ h=>h.mono (Keep.refl _ w) λb j _ hb=>hNi b j hb,m4⟩
 ·intro i hi;rw[(Qf (β:=β) (id:=id) i).2];exact hs.heap.dead i (by simpa using hi)
 ·intro i j o1 o2 b h1 h2 hb1 hb2;obtain⟨o1',k1,k3,_⟩:=hget i o1 h1;obtain⟨o2',k2,k4,_⟩:=hget j o2 h2;exact hs.heap.kX i j o1' o2' b k1 k2 (Ob.mQ k3.2 (Qf (β:=β) (id:=id) i).1 (zGu i) hb1) (Ob.mQ k4.2 (Qf (β:=β) (id:=id) j).1 (zGu j) hb2)
 ·intro i o b h1 hb;obtain⟨o',k1,k3,_⟩:=hget i o h1;exact hs.heap.Lj k1 k3.2 (Qf (β:=β) (id:=id) i).1 (zGu i) (λh=>by rw[<- k3.1];exact h) hb
 ·intro i u hu;rw[qBx,qBu]at hu;obtain⟨u0,h1,rfl⟩:=hu;exact((hs.reg i u0 h1).dN g3 (yN hr i u0 h1)).mono (Moves.refl _) (Keep.refl _ w) λb j _ hb=>hNi b j hb
end ver
theorem aJ.vP{N:Nat->Nat->Prop}{l:L}(hl:l.Rel β w N [.slice none 0 0]):∀ {ls ls':List L}{j:Nat}{cs:List Value},Dec.vP ls j l=some ls'->aJ β w N ls cs->aJ β w N ls' cs
 |[],_,j,_,h,_=>by simp[Dec.vP]at h
 |x::ls,ls',0,cs,h,hr=>by
  simp only[Dec.vP,qAi]at h;split at h
  ·rename_i hx;simp only[aA]at h hx;subst h hx;obtain⟨c1,c2,e,h1,h2⟩:=hr;simp only[L.Rel]at h1;subst h1;exact⟨_,c2,e,hl,h2⟩
  ·cases h
 |x::ls,ls',j+1,cs,h,hr=>by
  simp only[Dec.vP,List.getElem?_cons_succ]at h;split at h
  ·rename_i hx;simp only[aA,List.set_cons_succ]at h;subst h;obtain⟨c1,c2,e,h1,h2⟩:=hr;exact⟨c1,c2,e,h1,aJ.vP (j:=j) hl (by simp[Dec.vP,hx]) h2⟩
  ·cases h
theorem aJ.setAt{N:Nat->Nat->Prop}{l':L}:∀ {ls:List L}{j:Nat}{l:L}{cs:List Value},ls[j]?=some l->(∀ c,l.Rel β w N c->l'.Rel β w N c)->aJ β w N ls cs->aJ β w N (ls.set j l') cs
 |[],j,_,_,h,_,_=>by simp at h
 |x::ls,0,l,cs,h,hl,hr=>by
  simp only[qAi,aA]at h;subst h;obtain⟨c1,c2,e,h1,h2⟩:=hr;exact⟨c1,c2,e,hl _ h1,h2⟩
 |x::ls,j+1,l,cs,h,hl,hr=>by
  obtain⟨c1,c2,e,h1,h2⟩:=hr;exact⟨c1,c2,e,h1,aJ.setAt (j:=j) (by simpa using h) hl h2⟩
theorem aJ.zUu{N N':Nat->Nat->Prop}(hN:∀ b j,b<w.heap.size->N' b j->N b j){l':L}:∀ {ls:List L}{j:Nat}{l:L}{cs:List Value},ls[j]?=some l->(∀ c,l.Rel β w N c->l'.Rel β w N' c)->aJ β w N ls cs->aJ β w N' (ls.set j l') cs
 |[],j,_,_,h,_,_=>by simp at h
 |x::ls,0,l,cs,h,hl,hr=>by
  simp only[qAi,aA]at h;subst h;obtain⟨c1,c2,e,h1,h2⟩:=hr;exact⟨c1,c2,e,hl _ h1,h2.mono (Moves.refl β) (Keep.refl _ w) hN⟩
 |x::ls,j+1,l,cs,h,hl,hr=>by
  obtain⟨c1,c2,e,h1,h2⟩:=hr;exact⟨c1,c2,e,h1.mono (Moves.refl β) (Keep.refl _ w) hN,aJ.zUu (j:=j) hN (by simpa using h) hl h2⟩
theorem yEl{h:List Ob}{e:TypeId}{t:Ty}{ver id off len:Nat}{rows:List t.den}{wr:Bool}{c:Value}{N':Nat->Nat->Prop}(hh:fC C β h w)(ho:h[id]?=some (.arr e t ver rows wr))(hsl:eP (β id) off len c)(hle:off+len<=rows.length)(hN:∀ b j,b<w.heap.size->N' b j->C.N β h b j)(hnb:∀ b j,(β id).blk=some b->¬ N' b j):(Ty.slice t).Rel w N' ((rows.drop off).take len) [c]:=by
 have hob:=hh.obj _ _ ho;simp only[Ob.Rel]at hob;obtain⟨_,_,hpv,hpz,hpos,hpl,hob⟩:=hob;simp only[Ty.Rel];refine⟨c,rfl,?_⟩;unfold eP at hsl;rcases hob with ⟨hnb',hr0,_⟩|⟨b,cur,css,hb,hheap,hall,htake,hcap,hrc,hm⟩
 ·rw[hnb']at hsl;subst hr0;exact .inl ⟨hsl.1,by simp⟩
 ·rw[hb]at hsl;obtain⟨h1,o,rfl,h3⟩:=hsl;obtain⟨hf1,hf2,_⟩:=hh.fresh _ _ _ ho hb;have hlen:((rows.drop off).take len).length=len:=by simp;omega
  have hl:=jO hall;have hcs:=(Cells.of_heap hheap).take (rows.length*t.size);rw[htake]at hcs;have hcs2:=(hcs.drop (off*t.size)).take (len*t.size);rw[pF css hl off,sJ _ (λc hc=>hl c (qDn hc)) len,yY]at hcs2;have yCy:bJ (λx c=>t.Rel w N' x c) ((rows.drop off).take len) ((css.drop off).take len):=((hall.drop off).take len).mono λ_ _ h=>h.mono (Keep.refl _ w) hN
  refine .inr (.inl ⟨b,o,_,(css.drop off).take len,by rw[hlen],hf2,λj _ _=>hnb b j hb,by omega,by omega,yCy,λc hc=>hl c (qDn (List.mem_of_mem_take hc)),?_⟩);rcases h3 with h3|⟨h3,_⟩
  ·rw[h3,hpz];exact hcs2
  ·have hl0:len=0:=by omega
   subst hl0;simpa using Cells.nil
theorem fC.freeze{id:Nat}{e:TypeId}{t:Ty}{v:Nat}{rows:List t.den}{wr:Bool}{h:List Ob}(hs:fC C β h w)(ho:h[id]?=some (.arr e t v rows wr)):fC C β (h.set id (.arr e t v rows false)) w/\(∀ b j,C.N β (h.set id (.arr e t v rows false)) b j->C.N β h b j)/\∀ b j,(β id).blk=some b->¬ C.N β (h.set id (.arr e t v rows false)) b j:=by
 have hi:id<h.length:=(bK.1 ho).1;have hget:∀ (i:Nat) (o:Ob),(h.set id (.arr e t v rows false))[i]?=some o->(i≠id/\h[i]?=some o)\/(i=id/\o=.arr e t v rows false):=λi o hio=>by
  by_cases hid:i=id
  ·subst hid;rw[qAv hi]at hio;simp only[aA]at hio;exact .inr ⟨rfl,hio.symm⟩
  ·rw[qAw (Ne.symm hid)]at hio;exact .inl ⟨hid,hio⟩
 have hN:∀ b j,C.N β (h.set id (.arr e t v rows false)) b j->C.N β h b j:=λb j hb=>by
  rcases hb with hb|⟨i,o,hio,hw,hbk⟩
  ·exact .inl hb
  ·rcases hget i o hio with ⟨_,hio⟩|⟨_,rfl⟩
   ·exact .inr ⟨i,o,hio,hw,hbk⟩
   ·cases hw
 have hob:∀ (i:Nat) (o:Ob),h[i]?=some o->o.Rel β w (C.N β (h.set id (.arr e t v rows false))) (β i):=λi o hio=>(hs.obj i o hio).mono (Moves.refl β) (Keep.refl _ w) (λb j _ hb=>hN b j hb) λ_ _=>rfl
 refine⟨⟨λi o hio=>?_,λi hl=>hs.dead i (by simpa using hl),λi j o o' b h1 h2 hb1 hb2=>?_,λi o b hio hb=>?_,hs.n0,hs.frame,hs.size,hs.os,hs.tape,hs.output,λj o hj=>⟨by simpa using(hs.fixed j o hj).1,(hs.fixed j o hj).2⟩⟩,hN,λb k hb hn=>?_⟩
 ·rcases hget i o hio with ⟨_,hio⟩|⟨rfl,rfl⟩
  ·exact hob i o hio
  ·have:=hob i _ ho;simp only[Ob.Rel]at this ⊢;exact this
 ·have k:∀ (i:Nat) (o:Ob),(h.set id (.arr e t v rows false))[i]?=some o->∃ o':Ob,h[i]?=some o'/\o.tQ=o'.tQ:=λi o hio=>by
   rcases hget i o hio with ⟨_,hio⟩|⟨rfl,rfl⟩
   ·exact⟨o,hio,rfl⟩
   ·exact⟨_,ho,rfl⟩
  obtain⟨o1,k1,k3⟩:=k i o h1;obtain⟨o2,k2,k4⟩:=k j o' h2;exact hs.kX i j o1 o2 b k1 k2 (Ob.mQ k3 rfl rfl hb1) (Ob.mQ k4 rfl rfl hb2)
 ·rcases hget i o hio with ⟨_,hio⟩|⟨rfl,rfl⟩
  ·exact hs.eZ i o b hio hb
  ·exact hs.Lj ho rfl rfl rfl (λh=>by cases h) hb
 ·rcases hn with hn|⟨i,o,hio,hw,hbk⟩
  ·exact(hs.fresh id _ b ho hb).1 k hn
  ·rcases hget i o hio with ⟨hne,hio⟩|⟨_,rfl⟩
   ·exact hne (hs.kX i id o _ b hio ho ⟨k,hbk⟩ (Ob.xL hb))
   ·cases hw
theorem zYa{h h':List Ob}{l l':L}(hf:frz h l=some (true,l',h'))(hs:fC C β h w):fC C β h' w/\(∀ b j,C.N β h' b j->C.N β h b j)/\(∀ cs,l.Rel β w (C.N β h) cs->l'.Rel β w (C.N β h') cs)/\h'.length=h.length /\
 (∀ (i:Nat) (o:Ob),h[i]?=some o->∃ o',h'[i]?=some o'/\(∀ e ls,o=.box e ls->o'=.box e ls)):=by
 have ob:∀ {id:Nat}{e:TypeId}{t:Ty}{v:Nat}{rows:List t.den}{wr:Bool},h[id]?=some (.arr e t v rows wr)->∀ (i:Nat) (o:Ob),h[i]?=some o->∃ o',(h.set id (.arr e t v rows false))[i]?=some o'/\(∀ e ls,o=.box e ls->o'=.box e ls):=by
  intro id e t v rows wr ho i o hio;by_cases hid:i=id
  ·subst hid;rw[ho]at hio;simp only[aA]at hio;subst hio;exact⟨_,qAv (bK.1 ho).1,λe ls h=>by cases h⟩
  ·exact⟨o,by rw[qAw (Ne.symm hid)];exact hio,λe ls h=>h⟩
 cases l<;>simp only[frz,reduceCtorEq]at hf
 case own id ver =>
  split at hf
  ·rename_i e t v rows wr ho;simp only[aA,aC]at hf;obtain⟨hv,rfl,rfl⟩:=hf;have hv:=aP hv;obtain⟨k1,k2,k3⟩:=hs.freeze ho;refine⟨k1,k2,λcs hr=>?_,by simp,ob ho⟩;have hob:=hs.obj _ _ ho;simp only[Ob.Rel]at hob;obtain⟨_,_,hpv,_,_,hpl,_⟩:=hob;simp only[L.Rel]at hr;obtain⟨_,_,_,c,rfl,_,himp⟩:=hr;have hsl:=himp (by rw[hpv,hv]);rw[hpl]at hsl;have:=yEl (N':=C.N β (h.set id (.arr e t v rows false))) hs ho hsl (by omega) (λb j _ hb=>k2 b j hb) k3;rw[List.drop_zero,List.take_length]at this;simpa only[L.Rel]using this
  ·cases hf
 case sl id ver off len =>
  split at hf
  ·rename_i e t v rows wr ho;simp only[aA,aC,aD]at hf;obtain⟨⟨hv,hle⟩,rfl,rfl⟩:=hf;have hv:=aP hv;obtain⟨k1,k2,k3⟩:=hs.freeze ho;refine⟨k1,k2,λcs hr=>?_,by simp,ob ho⟩;have hob:=hs.obj _ _ ho;simp only[Ob.Rel]at hob;obtain⟨_,_,hpv,_,_,hpl,_⟩:=hob;simp only[L.Rel]at hr;obtain⟨_,_,_,c,rfl,_,himp⟩:=hr;simpa only[L.Rel]using yEl (N':=C.N β (h.set id (.arr e t v rows false))) hs ho (himp (by rw[hpv,hv])) (bX hle) (λb j _ hb=>k2 b j hb) k3
  ·cases hf
theorem yWs{N:Nat->Nat->Prop}{to off:Nat}{l l':L}{cs:List Value}(h:yWp to off l=some l')(hr:l.Rel β w N cs):l'.Rel β w N cs:=by
 cases l<;>simp only[yWp,reduceCtorEq]at h
 case jC =>
  simp only[aA]at h;subst h;simp only[L.Rel]at *;exact⟨_,hr,.inl rfl⟩
 case ptr a b =>
  split at h
  ·rename_i hb;simp only[aD]at hb;have e1:=aP hb.1;have e2:=aP hb.2;subst e1 e2;simp only[aA]at h;subst h;simp only[L.Rel]at *;obtain⟨h1,h2,b,h3,h4⟩:=hr;exact⟨_,h4,.inr ⟨h1,h2,b,h3,rfl⟩⟩
  ·cases h
 case fD a b =>
  split at h
  ·rename_i hb;simp only[aD]at hb;have e1:=aP hb.1;have e2:=aP hb.2;subst e1 e2;simp only[aA]at h;subst h;exact hr
  ·cases h
def Qg(β:Nat->Pl)(ρ:List Nat):Nat->Pl:=λj=>match ρ[j]? with|some i=>{ β i with ver:=0 }|none=>⟨false,false,0,none,0,0,0,[]⟩
theorem yEm{C:Ctx}{β:Nat->Pl}{w:World}{h:List Ob}{ρ:List Nat}(hs:fC C β h w)(hlt:∀ i∈ρ,i<h.length):yNv β (Qg β ρ) ρ h:=by
 intro i j hp;obtain⟨m,hm,hi⟩:=Ky hp;rw[yY]at hm;subst hm;have e:Qg β ρ j={ β i with ver:=0 }:=by simp only[Qg,hi]
 rw[e];refine⟨rfl,rfl,rfl,λhb=>⟨rfl,?_,rfl,rfl,rfl⟩⟩;have hil:=hlt i (qDk hi);have ho:h[i]?=some h[i]:=by simp[hil]
 have hob:=hs.obj i _ ho;unfold zRq;rw[ho];cases hoi:h[i]with
 |box e ls =>
  rw[hoi]at hob;simp only[Ob.Rel]at hob;rw[hob.2.1]at hb;cases hb
 |arr e t v rows wr =>
  rw[hoi]at hob;simp only[Ob.Rel]at hob;exact hob.2.2.1
 |stk e ei v rows top =>
  rw[hoi]at hob;simp only[Ob.Rel]at hob;exact hob.2.2.1
 |fm tab =>
  rw[hoi]at hob;simp only[Ob.Rel]at hob;rw[hob.2.1]at hb;cases hb
 |dm kt vt es =>
  rw[hoi]at hob;simp only[Ob.Rel]at hob;rw[hob.2.1]at hb;cases hb
theorem Sim.gc{σ:St}{a:Act}{ρ:List Nat}(hs:Sim C β σ a w)(hnd:nodupB ρ=true)(hlt:∀ i∈ρ,i<σ.h.length)(hfx:∀ j,j<C.fix.length->ρ[j]?=some j):Sim C (Qg β ρ) ⟨σ.r.map (V.ren ρ σ.h),inH ρ σ.h⟩ a w:=by
 have zRr:=yEm hs.heap hlt;have hget:∀ i∈ρ,∃ o,σ.h[i]?=some o:=λi hi=>⟨σ.h[i]'(hlt i hi),by simp[hlt i hi]⟩
 have hβ:∀ {j i:Nat},ρ[j]?=some i->Qg β ρ j={ β i with ver:=0 }:=λhi=>by simp only[Qg,hi]
 have hN:∀ b j,b<w.heap.size->C.N (Qg β ρ) (inH ρ σ.h) b j->C.N β σ.h b j:=λb k _ hb=>by
  rcases hb with hb|⟨j,o,ho,hw,hbk⟩
  ·exact .inl hb
  ·obtain⟨i,hi,rfl⟩:=Cx ho;obtain⟨o',ho'⟩:=hget i (qDk hi);rw[gV ho',Ob.zKq]at hw;rw[gV ho',hβ hi]at hbk;exact .inr ⟨i,o',ho',hw,Ob.zV (Ob.Au ρ σ.h o') rfl rfl hbk⟩
 refine⟨⟨?_,?_,?_,?_,hs.heap.n0,hs.heap.frame,hs.heap.size,hs.heap.os,hs.heap.tape,hs.heap.output,?_⟩,hs.defers,by simpa using hs.size,?_⟩
 ·intro j o ho;obtain⟨i,hi,rfl⟩:=Cx ho;obtain⟨o',ho'⟩:=hget i (qDk hi);rw[gV ho',hβ hi];have hob:=hs.heap.obj i o' ho';cases o' with
  |box e ls =>
   simp only[Ob.ren,Ob.Rel]at *;obtain⟨h1,h2,b,cs,h3,h4,h5⟩:=hob;exact⟨h1,h2,b,cs,h3,h4.Il zRr hN,h5⟩
  |arr e t v rows wr =>
   simp only[Ob.ren,Ob.Rel]at *;obtain⟨h1,h2,h3,h4,h5,h6,h7⟩:=hob;refine⟨h1,h2,trivial,h4,h5,h6,?_⟩;rcases h7 with h7|⟨b,cur,css,k1,k2,k3,k4⟩
   ·exact .inl h7
   ·exact .inr ⟨b,cur,css,k1,k2,k3.mono λ_ _ h=>h.mono (Keep.refl _ w) hN,k4⟩
  |fm tab=>simp only[Ob.ren,Ob.Rel]at *;exact hob
  |dm kt vt es =>
   simp only[Ob.ren,Ob.Rel]at *;obtain⟨h1,h2,b,ms,h3,h4,h5⟩:=hob;exact⟨h1,h2,b,ms,h3,h4,h5.mono (Keep.refl _ w) hN⟩
  |stk e ei v rows top =>
   simp only[Ob.ren,Ob.Rel]at *;obtain⟨g1,g2,g3,g4,g5,b,cur,cs,cs2,bs,k1,k2,k3,k4,k5,k6,k7,k8,k9,k10,k11⟩:=hob;exact⟨g1,g2,trivial,g4,by rw[zGh];exact g5,b,cur,cs,cs2,bs,k1,k2,k3,k4,k5,k6,k7,k8,k9,k10.imp _ λls cs _ hl=>hl.Il zRr hN,k11⟩
 ·intro j hj;simp only[inH,List.length_map]at hj;simp only[Qg,qAu hj]
 ·intro i j o1 o2 b h1 h2 hb1 hb2;obtain⟨i',hi,rfl⟩:=Cx h1;obtain⟨j',hj,rfl⟩:=Cx h2;obtain⟨o1',ho1⟩:=hget i' (qDk hi);obtain⟨o2',ho2⟩:=hget j' (qDk hj);rw[hβ hi,gV ho1]at hb1;rw[hβ hj,gV ho2]at hb2;have:=hs.heap.kX i' j' o1' o2' b ho1 ho2 (Ob.mQ (Ob.Au ρ σ.h o1') rfl rfl hb1) (Ob.mQ (Ob.Au ρ σ.h o2') rfl rfl hb2);subst this;exact Ws hnd hi hj
 ·intro j o b ho hb;obtain⟨i,hi,rfl⟩:=Cx ho;obtain⟨o',ho'⟩:=hget i (qDk hi);rw[gV ho']at hb ⊢;exact hs.heap.Lj ho' (Ob.Au ρ σ.h o') (by rw[hβ hi]) (by rw[hβ hi]) (λh=>by rw[Ob.zKq]at h;exact h) hb
 ·intro j o hj;obtain⟨k1,k2⟩:=hs.heap.fixed j o hj;have hj2:=hfx j (bK.1 hj).1;refine⟨by simpa [inH]using(bK.1 hj2).1,λb hb=>?_⟩;rw[hβ hj2];exact k2 b hb
 ·intro i v hv;simp only[qBx,qBu]at hv;obtain⟨v0,hv0,rfl⟩:=hv;exact(hs.reg i v0 hv0).Il zRr hN
theorem yLb{kf:Nat}(hkf:C.fix.length<=kf){ρ:List Nat}{σ σ':St}{a:Act}{b:Bool}(hfx:zNv 0 kf ρ=true)(h:gcL ρ σ=some (b,σ'))(hs:Sim C β σ a w):∃ β',Sim C β' σ' a w:=by
 unfold gcL at h;split at h
 ·rename_i hc;simp only[aD]at hc;simp only[aA,aC]at h;obtain⟨_,rfl⟩:=h;refine⟨_,hs.gc hc.1 (λi hi=>?_) λj hj=>?_⟩
  ·obtain⟨n,hn⟩:=List.getElem?_of_mem hi;exact bX (yN hc.2 n i hn)
  ·have:=yAe hfx j (wD hj hkf)
   rwa [yY]at this
 ·cases h
theorem xCd(_hT:bU C.P T){kf:Nat}(hkf:C.fix.length<=kf){c:Co}{σ σ':St}{a:Act}{b:Bool}(hfx:c.fx kf=true)(h:co1 T c σ=some (b,σ'))(hb:b=true)(hs:Sim C β σ a w):∃ β',Sim C β' σ' a w:=by
 cases c with
 |opn id j =>
  simp only[co1]at h;obtain⟨h',h1,rfl⟩:=Gx h;subst hb;exact yWi h1 hs
 |cls id j =>
  simp only[co1]at h;obtain⟨h',h1,rfl⟩:=Gx h;subst hb;exact yWl h1 hs
 |yWo id j =>
  simp only[co1]at h;obtain⟨h',h1,rfl⟩:=Gx h;subst hb;exact ySr h1 hs
 |zXy id k =>
  simp only[co1]at h;obtain⟨h',h1,rfl⟩:=Gx h;subst hb;exact yWn h1 hs
 |zNu id j =>
  simp only[co1]at h;obtain⟨h',h1,rfl⟩:=Gx h;subst hb;exact ySs h1 hs
 |shut id =>
  simp only[co1]at h;obtain⟨h',h1,rfl⟩:=Gx h;subst hb;exact ySt h1 hs
 |slR i =>
  simp only[co1]at h;split at h
  ·rename_i id ver hi;split at h
   ·rename_i e t v rows wr ho;simp only[aA,aC]at h;obtain⟨rfl,rfl⟩:=h;have hv:=aP hb;refine⟨β,hs.heap,hs.defers,by simpa using hs.size,λj u hu=>?_⟩;by_cases hij:i=j
    ·subst hij;rw[qAv (bK.1 hi).1]at hu;simp only[aA]at hu;subst hu;have hr:=hs.reg i _ hi;have hob:=hs.heap.obj _ _ ho;simp only[Ob.Rel]at hob;obtain⟨_,_,hpv,_,_,hpl,_⟩:=hob;simp only[V.Rel,L.Rel]at hr ⊢;obtain⟨h1,h2,h3,c,h4,h5,h6⟩:=hr;exact⟨h1,h2,h3,c,h4,h5,λhvv=>by have:=h6 hvv;rwa [hpl]at this⟩
    ·rw[qAw hij]at hu;exact hs.reg j u hu
   ·cases h
  ·simp only[aA,aC]at h;obtain⟨_,rfl⟩:=h;exact⟨β,hs⟩
  ·cases h
 |xEv i j t =>
  simp only[co1]at h;split at h
  ·rename_i ls e te ti hi het;obtain⟨ts,_,_,hti,_,hsz,hpos,hby⟩:=kC het;split at h
   ·simp only[aA,aC]at h;obtain⟨_,rfl⟩:=h;exact⟨β,hs⟩
   split at h
   ·rename_i ls' hset;simp only[aA,aC]at h;obtain⟨_,rfl⟩:=h;obtain⟨β',h1,h2,h3⟩:=Sv (e:=e) (t:=te) hs hpos;refine⟨β',h2.heap,h2.defers,by simpa using h2.size,λk v hv=>?_⟩;by_cases hij:i=k
    ·subst hij;rw[qAv (bK.1 hi).1]at hv;simp only[aA]at hv;subst hv;obtain⟨cs,e1,e2⟩:=h2.reg i _ hi;exact⟨cs,e1,aJ.vP h3 hset e2⟩
    ·rw[qAw hij]at hv;exact h2.reg k v hv
   ·cases h
  ·cases h
 |xEw i j =>
  simp only[co1]at h;split at h
  ·rename_i ls hi;split at h
   ·rename_i l hl;split at h
    ·simp only[aA,aC]at h;obtain⟨_,rfl⟩:=h;exact⟨β,hs⟩
    split at h
    ·rename_i c l' h' hf;simp only[aA,aC]at h;obtain⟨rfl,rfl⟩:=h;subst hb;obtain⟨k1,k2,k3,k4,_⟩:=zYa hf hs.heap;refine⟨β,k1,hs.defers,by simpa using hs.size,λk u hu=>?_⟩;by_cases hij:i=k
     ·subst hij;rw[qAv (bK.1 hi).1]at hu;simp only[aA]at hu;subst hu;obtain⟨cs,e1,e2⟩:=hs.reg i _ hi;exact⟨cs,e1,aJ.zUu (λb j _ hb=>k2 b j hb) hl k3 e2⟩
     ·rw[qAw hij]at hu;exact(hs.reg k u hu).mono (Moves.refl β) (Keep.refl _ w) λb j _ hb=>k2 b j hb
    ·cases h
   ·cases h
  ·cases h
 |gc ρ=>exact yLb hkf hfx h hs
 |gcA k =>
  simp only[co1]at h;split at h
  ·rename_i hp;simp only[Co.fx]at hfx;exact yLb (zG hkf (bX hfx)) hp h hs
  ·cases h
 |orn id j to off =>
  simp only[co1]at h;split at h
  ·rename_i eb ls hi;split at h
   ·rename_i l hl;split at h
    ·rename_i l' hf;simp only[aA,aC]at h;obtain⟨_,rfl⟩:=h;have hob:=hs.heap.obj _ _ hi;simp only[Ob.Rel]at hob;obtain⟨_,_,bb,cs,hb,hls,hheap⟩:=hob;have hnew:aJ β w (C.N β σ.h) (ls.set j l') cs:=aJ.setAt hl (λc hr=>yWs hf hr) hls;have:=hs.Ye (cs':=cs) hi hb hheap hnew;rw[setRow_self w bb cs.toArray eb (0,0) hheap]at this;exact⟨β,this⟩
    ·cases h
   ·cases h
  ·cases h
 |Yn i =>
  simp only[co1]at h;split at h
  ·rename_i l hi;split at h
   ·simp only[aA,aC]at h;obtain⟨_,rfl⟩:=h;exact⟨β,hs⟩
   split at h
   ·rename_i c l' h' hf;simp only[aA,aC]at h;obtain⟨rfl,rfl⟩:=h;subst hb;obtain⟨k1,k2,k3,k4,_⟩:=zYa hf hs.heap;refine⟨β,k1,hs.defers,by simpa using hs.size,λj u hu=>?_⟩;by_cases hij:i=j
    ·subst hij;rw[qAv (bK.1 hi).1]at hu;simp only[aA]at hu;subst hu;exact k3 _ (hs.reg i _ hi)
    ·rw[qAw hij]at hu;exact(hs.reg j u hu).mono (Moves.refl β) (Keep.refl _ w) λb j _ hb=>k2 b j hb
   ·cases h
  ·cases h
 |xEu id j =>
  simp only[co1]at h;split at h
  ·rename_i eb ls hi;split at h
   ·rename_i l hl;split at h
    ·simp only[aA,aC]at h;obtain⟨_,rfl⟩:=h;exact⟨β,hs⟩
    split at h
    ·rename_i c l' h' hf;simp only[aA,aC]at h;obtain⟨rfl,rfl⟩:=h;subst hb;obtain⟨k1,k2,k3,k4,k5⟩:=zYa hf hs.heap;obtain⟨o',h1,h2⟩:=k5 id _ hi;have h2:=h2 eb ls rfl;subst h2;have hs':Sim C β ⟨σ.r,h'⟩ a w:=⟨k1,hs.defers,hs.size,λi v hv=>(hs.reg i v hv).mono (Moves.refl β) (Keep.refl _ w) λb j _ hb=>k2 b j hb⟩;have hob:=k1.obj _ _ h1;have zYb:=hs.heap.obj _ _ hi;simp only[Ob.Rel]at hob zYb;obtain⟨_,_,bb,cs,hb,hls,hheap⟩:=hob;obtain⟨_,_,bb0,cs0,hb0,xKo,yEn⟩:=zYb;rw[hb]at hb0;simp only[aA]at hb0;subst hb0;rw[hheap]at yEn;simp only[aA,Obj.cells.injEq,and_true]at yEn;have hcs:cs0=cs:=by have:=congrArg Array.toList yEn;simpa using this.symm
     subst hcs;have hnew:aJ β w (C.N β h') (ls.set j l') cs0:=aJ.zUu (λb j _ hb=>k2 b j hb) hl k3 xKo;have:=hs'.Ye (cs':=cs0) h1 hb hheap hnew;rw[setRow_self w bb cs0.toArray eb (0,0) hheap]at this;exact⟨β,this⟩
    ·cases h
   ·cases h
  ·cases h
 |keep m =>
  simp only[co1,aA,aC]at h;obtain⟨rfl,rfl⟩:=h;refine⟨β,hs.heap,hs.defers,by rw[Nh];exact hs.size,λi v hv=>?_⟩;rcases zBx m σ.r i v hv with rfl|h1
  ·trivial
  ·exact hs.reg i v h1
 |trunc n =>
  simp only[co1]at h;split at h
  ·rename_i hc;simp only[aD]at hc;simp only[aA,aC]at h;obtain⟨rfl,rfl⟩:=h;exact hs.trunc (zG hkf (bX hfx)) (bX hc.1) hc.2.1 hc.2.2
  ·cases h
 |Ng i t =>
  simp only[co1]at h;split at h
  ·rename_i e te ti hi het;obtain⟨ts,_,_,hti,_,hsz,hpos,hby⟩:=kC het;simp only[aA,aC]at h;obtain⟨rfl,rfl⟩:=h;obtain⟨β',h1,h2,h3⟩:=Sv (e:=e) (t:=te) hs hpos;refine⟨β',h2.heap,h2.defers,by simpa using h2.size,λj v hv=>?_⟩;by_cases hij:i=j
   ·subst hij;rw[qAv (bK.1 hi).1]at hv;simp only[aA]at hv;subst hv;have:=hs.reg i _ hi;simp only[V.Rel,L.Rel,aL,and_true]at this;rw[this];exact h3
   ·rw[qAw hij]at hv;exact h2.reg j v hv
  ·simp only[aA,aC]at h;obtain⟨_,rfl⟩:=h;exact⟨β,hs⟩
  ·cases h
 |ownB id j t =>
  simp only[co1]at h;split at h
  ·rename_i eb ls e te ti hi het;obtain⟨ts,_,_,hti,_,hsz,hpos,hby⟩:=kC het;split at h
   ·simp only[aA,aC]at h;obtain⟨_,rfl⟩:=h;exact⟨β,hs⟩
   split at h
   ·rename_i ls' hset;simp only[aA,aC]at h;obtain⟨rfl,rfl⟩:=h;obtain⟨β',h1,h2,h3⟩:=Sv (e:=e) (t:=te) hs hpos;have hi':(σ.h++[.arr e te 0 [] true])[id]?=some (.box eb ls):=by
     rw[fU (bK.1 hi).1];exact hi
    have hob:=h2.heap.obj _ _ hi';simp only[Ob.Rel]at hob;obtain⟨_,_,bb,cs,hb,hls,hheap⟩:=hob;have:=h2.Ye (cs':=cs) hi' hb hheap (aJ.vP h3 hset hls);rw[setRow_self w bb cs.toArray eb (0,0) hheap]at this;exact⟨β',this⟩
   ·cases h
  ·cases h
 |xEs i t =>
  simp only[co1]at h;split at h
  ·rename_i hi;simp only[aA,aC]at h;obtain⟨rfl,rfl⟩:=h;refine⟨β,hs.heap,hs.defers,by simpa using hs.size,λj v hv=>?_⟩;by_cases hij:i=j
   ·subst hij;rw[qAv (bK.1 hi).1]at hv;simp only[aA]at hv;subst hv;have:=hs.reg i _ hi;simp only[V.Rel,L.Rel,Ty.Rel,aL,and_true]at this ⊢;exact⟨_,rfl,.inl ⟨this,rfl⟩⟩
   ·rw[qAw hij]at hv;exact hs.reg j v hv
  ·cases h
 |xEt id j t =>
  simp only[co1]at h;split at h
  ·rename_i eb ls hi;split at h
   ·rename_i ls' hset;simp only[aA,aC]at h;obtain⟨rfl,rfl⟩:=h;have hob:=hs.heap.obj _ _ hi;simp only[Ob.Rel]at hob;obtain⟨_,_,bb,cs,hb,hls,hheap⟩:=hob;have:=hs.Ye (cs':=cs) hi hb hheap (aJ.vP (l:=.val (.slice t) []) (by simp only[L.Rel,Ty.Rel];exact⟨_,rfl,.inl ⟨rfl,rfl⟩⟩) hset hls);rw[setRow_self w bb cs.toArray eb (0,0) hheap]at this;exact⟨β,this⟩
   ·cases h
  ·cases h
 |ver id =>
  simp only[co1]at h;split at h
  ·rename_i e t v rows wr ho;split at h
   ·rename_i hc;simp only[aD]at hc;simp only[aA,aC]at h;obtain⟨rfl,rfl⟩:=h;exact⟨_,hs.dN ho hc.1 hc.2⟩
   ·cases h
  ·cases h
theorem Qh{ρ:Type}(hT:bU C.P T){kf:Nat}(hkf:C.fix.length<=kf){k:St->Option ρ}{r:ρ}:∀ {cs:List Co}{β:Nat->Pl}{σ:St}{a:Act},dF (Co.fx kf) cs=true->norm T cs σ k=some r->Sim C β σ a w->∃ β' σ',Sim C β' σ' a w/\k σ'=some r
 |[],β,σ,a,_,h,hs=>⟨β,σ,hs,h⟩
 |c::cs,β,σ,a,hfx,h,hs=>by
  simp only[dF,aD]at hfx;simp only[norm]at h;split at h
  ·rename_i b σ' hc;obtain⟨hb,hk⟩:=iP h;obtain⟨β',hs'⟩:=xCd hT hkf hfx.1 hc hb hs;exact Qh hT hkf hfx.2 hk hs'
  ·cases h
end
end Go.Dec
namespace Go.Dec
inductive LS where
 |v (t:Ty)
 |ptr (id off:Nat)
 |own (id:Nat)
 |clo (f:Nat) (caps:List (Nat × Nat))
 |any (n:Nat)
 |jD (id off:Nat)
 |sl (id:Nat)
 |aZ
 |fD (id off:Nat)
 |mp (id:Nat)
def xEx (caps:List (Nat×Nat)):List L:=caps.map fun p => .ptr p.1 p.2
def yDf:List (Nat×Nat)->List L->Bool | [],[]=>true | p :: r,.ptr a b :: m=>vF p.1 a&&(vF p.2 b&&yDf r m) | _,_=>false
theorem yEo:∀ {caps:List (Nat × Nat)}{m:List L},yDf caps m=true->m=xEx caps
 |[],[],_=>rfl
 |(i,o)::r,l::m,h=>by
  cases l<;>simp only[yDf,aD,qBs]at h
  obtain⟨h1,h2,h3⟩:=h;obtain rfl:i=_:=aP h1;obtain rfl:o=_:=aP h2;rw[yEo h3];rfl
 |[],_::_,h=>by cases h
 |_::_,[],h=>by cases h
@[reducible] def LTs:List LS->Type->Type
 |[],A=>A
 |.v t::r,A=>t.den × LTs r A
 |.jD _ _::r,A=>Nat × LTs r A
 |.sl _::r,A=>Nat × (Nat × LTs r A)
 |.ptr _ _::r,A=>LTs r A
 |.own _::r,A=>LTs r A
 |.clo _ _::r,A=>LTs r A
 |.any _::r,A=>LTs r A
 |.aZ::r,A=>LTs r A
 |.fD _ _::r,A=>LTs r A
 |.mp _::r,A=>LTs r A
structure Slot where
 i:Nat
 agg:Bool
 ls:List LS
inductive OS where
 |box (e:TypeId) (ls:List LS)
 |row (e:TypeId) (t:Ty)
 |fm (tab:List (MK × Nat))
 |dm (kt vt:Ty)
 |stk (e ei:TypeId)
@[reducible] def RTs:List Slot->Type->Type
 |[],A=>A
 |s::r,A=>LTs s.ls (RTs r A)
@[reducible] def OTs:List OS->Type->Type
 |[],A=>A
 |.box _ ls::r,A=>LTs ls (OTs r A)
 |.row _ t::r,A=>List t.den × OTs r A
 |.fm _::r,A=>OTs r A
 |.dm kt vt::r,A=>List (kt.den × vt.den) × OTs r A
 |.stk _ _::r,A=>List (Int × Int × List Int × List Int × Unit) × OTs r A
structure Sh where
 n:Nat
 rs:List Slot
 os:List OS
@[reducible] def Sh.X (sh:Sh):Type:=RTs sh.rs (OTs sh.os Unit)
def fQ {A:Type}:(ls:List LS)->LTs ls A->List L×A | [],x=>([],x) | .v t :: r,x=>(.val t x.1 :: (fQ r x.2).1,(fQ r x.2).2) | .ptr a b :: r,x=>(.ptr a b :: (fQ (A:=A) r x).1,(fQ (A:=A) r x).2) | .own a :: r,x=>(.own a 0 :: (fQ (A:=A) r x).1,(fQ (A:=A) r x).2) | .clo f caps :: r,x=>(.clo f (xEx caps) :: (fQ (A:=A) r x).1,(fQ (A:=A) r x).2) | .jD a o :: r,x=>(.jD a 0 x.1 o :: (fQ r x.2).1,(fQ r x.2).2) | .sl a :: r,x=>(.sl a 0 x.1 x.2.1 :: (fQ r x.2.2).1,(fQ r x.2.2).2) | .aZ :: r,x=>(.aZ :: (fQ (A:=A) r x).1,(fQ (A:=A) r x).2) | .fD a b :: r,x=>(.fD a b :: (fQ (A:=A) r x).1,(fQ (A:=A) r x).2) | .mp a :: r,x=>(.mp a :: (fQ (A:=A) r x).1,(fQ (A:=A) r x).2) | .any n :: r,x=>(.bad n :: (fQ (A:=A) r x).1,(fQ (A:=A) r x).2)
def yEp(agg:Bool)(ls:List L):V :=
 match agg,ls with
 |true,ls=>.agg ls
 |false,[l]=>.one l
 |_,_=>.cK
def Wt {A:Type}:(rs:List Slot)->List V->RTs rs A->List V×A | [],acc,x=>(acc,x) | s :: r,acc,x=>Wt r (acc.set s.i (yEp s.agg (fQ s.ls x).1)) (fQ s.ls x).2
def fT {A:Type}:(os:List OS)->OTs os A->List Ob×A | [],x=>([],x) | .box e ls :: r,x=>(.box e (fQ ls x).1 :: (fT r (fQ ls x).2).1,(fT r (fQ ls x).2).2) | .row e t :: r,x=>(.arr e t 0 x.1 true :: (fT r x.2).1,(fT r x.2).2) | .fm tab :: r,x=>(.fm tab :: (fT (A:=A) r x).1,(fT (A:=A) r x).2) | .dm kt vt :: r,x=>(.dm kt vt x.1 :: (fT r x.2).1,(fT r x.2).2) | .stk e ei :: r,x=>(.stk e ei 0 x.1 none :: (fT r x.2).1,(fT r x.2).2)
def Sh.enc (sh:Sh) (x:sh.X):St :=let p:=Wt sh.rs (qAf sh.n .cK) x
 ⟨p.1,(fT sh.os p.2).1⟩
def dI{A:Type}:(ls:List LS)->List L->Option (A->LTs ls A)
 |[],[]=>some id
 |.v t::r,l::m =>
  match l.asT t,dI (A:=A) r m with
  |some x,some f=>some λa=>(x,f a)
  |_,_=>none
 |.ptr a b::r,.ptr a' b'::m=>match vF a a'&&vF b b' with
  |true=>dI (A:=A) r m
  |false=>none
 |.own a::r,.own a' u::m=>match vF a a'&&vF u 0 with
  |true=>dI (A:=A) r m
  |false=>none
 |.clo f caps::r,.clo f' m'::m=>match vF f f'&&yDf caps m' with
  |true=>dI (A:=A) r m
  |false=>none
 |.jD a o::r,.jD a' u i o'::m=>match vF a a'&&(vF u 0&&vF o o'),dI (A:=A) r m with
  |true,some f=>some λx=>(i,f x)
  |_,_=>none
 |.sl a::r,.sl a' u i n::m=>match vF a a'&&vF u 0,dI (A:=A) r m with
  |true,some f=>some λx=>(i,n,f x)
  |_,_=>none
 |.aZ::r,.aZ::m=>dI (A:=A) r m
 |.fD a b::r,.fD a' b'::m=>match vF a a'&&vF b b' with
  |true=>dI (A:=A) r m
  |false=>none
 |.mp a::r,.mp a'::m=>match vF a a' with
  |true=>dI (A:=A) r m
  |false=>none
 |.any n::r,l::m=>match vF n l.size with
  |true=>dI (A:=A) r m
  |false=>none
 |_,_=>none
def zUv(agg:Bool)(v:V):Option (List L):=
 match agg,v with
 |true,.agg ls=>some ls
 |false,.one l=>some [l]
 |_,_=>none
def zUw{A:Type}(σr:List V):(rs:List Slot)->Option (A->RTs rs A)
 |[]=>some id
 |s::r =>
  match zUv s.agg (σr.getD s.i .cK)with
  |some ls =>
   match dI (A:=RTs r A) s.ls ls,zUw σr r with
   |some f,some g=>some λa=>f (g a)
   |_,_=>none
  |none=>none
def gB{A:Type}:(os:List OS)->List Ob->Option (A->OTs os A)
 |[],[]=>some id
 |.box e ls::r,.box e' l::m =>
  match vF e e',dI (A:=OTs r A) ls l,gB (A:=A) r m with
  |true,some f,some g=>some λa=>f (g a)
  |_,_,_=>none
 |.row e t::r,.arr e' t' ver rows wr::m =>
  match vF e e'&&(vF ver 0&&wr),gB (A:=A) r m with
  |true,some g=>if h:t'=t then some λa=>(h ▸ rows,g a)else none
  |_,_=>none
 |.fm tab::r,.fm xEy::m=>if tab=xEy then gB (A:=A) r m else none
 |.dm kt vt::r,.dm kt' vt' es::m =>
  match gB (A:=A) r m with
  |some g=>if h:kt'=kt/\vt'=vt then some λa=>(h.1 ▸ h.2 ▸ es,g a)else none
  |none=>none
 |.stk e ei::r,.stk e' ei' ver rows none::m =>
  match vF e e'&&(vF ei ei'&&vF ver 0),gB (A:=A) r m with
  |true,some g=>some λa=>(rows,g a)
  |_,_=>none
 |_,_=>none
def Sh.dec(sh:Sh)(σ:St):Option sh.X :=
 match vF σ.r.length sh.n,zUw (A:=OTs sh.os Unit) σ.r sh.rs,gB (A:=Unit) sh.os σ.h with
 |true,some f,some g=>some (f (g ()))
 |_,_,_=>none
section
variable {β:Nat->Pl}{w:World}{N:Nat->Nat->Prop}{A:Type}
theorem mR:∀ {ls:List LS}{l:List L}{f:A->LTs ls A}(a:A) {cs:List Value},dI ls l=some f->aJ β w N l cs->aJ β w N (fQ ls (f a)).1 cs/\(fQ ls (f a)).2=a
 |[],[],f,a,cs,h,hr=>by
  simp only[dI,aA]at h;subst h;exact⟨hr,rfl⟩
 |.v t::r,l::m,f,a,cs,h,hr=>by
  simp only[dI]at h;split at h
  ·rename_i x g h1 h2;simp only[aA]at h;subst h;obtain⟨c1,c2,e,r1,r2⟩:=hr;obtain⟨g1,g2⟩:=mR a h2 r2;exact⟨⟨c1,c2,e,by simpa only[L.Rel]using L.zNp h1 r1,g1⟩,g2⟩
  ·cases h
 |.ptr i o::r,l::m,f,a,cs,h,hr=>by
  cases l<;>simp only[dI,reduceCtorEq]at h
  split at h
  ·rename_i hb;simp only[aD]at hb;have e1:=aP hb.1;have e2:=aP hb.2;subst e1 e2;obtain⟨c1,c2,e,r1,r2⟩:=hr;obtain⟨g1,g2⟩:=mR a h r2;exact⟨⟨c1,c2,e,r1,g1⟩,g2⟩
  ·cases h
 |.own i::r,l::m,f,a,cs,h,hr=>by
  cases l<;>simp only[dI,reduceCtorEq]at h
  split at h
  ·rename_i hb;simp only[aD]at hb;have e1:=aP hb.1;have e2:=aP hb.2;subst e1 e2;obtain⟨c1,c2,e,r1,r2⟩:=hr;obtain⟨g1,g2⟩:=mR a h r2;exact⟨⟨c1,c2,e,r1,g1⟩,g2⟩
  ·cases h
 |.clo i caps::r,l::m,f,a,cs,h,hr=>by
  cases l<;>simp only[dI,reduceCtorEq]at h
  split at h
  ·rename_i hb;simp only[aD]at hb;have e1:=aP hb.1;have e2:=yEo hb.2;subst e1 e2;obtain⟨c1,c2,e,r1,r2⟩:=hr;obtain⟨g1,g2⟩:=mR a h r2;exact⟨⟨c1,c2,e,r1,g1⟩,g2⟩
  ·cases h
 |.jD i o::r,l::m,f,a,cs,h,hr=>by
  cases l<;>simp only[dI,reduceCtorEq]at h
  split at h
  ·rename_i f1 hb h2;simp only[aA]at h;subst h;simp only[aD]at hb;have e1:=aP hb.1;have e2:=aP hb.2.1;have e3:=aP hb.2.2;subst e1 e2 e3;obtain⟨c1,c2,e,r1,r2⟩:=hr;obtain⟨g1,g2⟩:=mR a h2 r2;exact⟨⟨c1,c2,e,r1,g1⟩,g2⟩
  ·cases h
 |.sl i::r,l::m,f,a,cs,h,hr=>by
  cases l<;>simp only[dI,reduceCtorEq]at h
  split at h
  ·rename_i f1 hb h2;simp only[aA]at h;subst h;simp only[aD]at hb;have e1:=aP hb.1;have e2:=aP hb.2;subst e1 e2;obtain⟨c1,c2,e,r1,r2⟩:=hr;obtain⟨g1,g2⟩:=mR a h2 r2;exact⟨⟨c1,c2,e,r1,g1⟩,g2⟩
  ·cases h
 |.fD i o::r,l::m,f,a,cs,h,hr=>by
  cases l<;>simp only[dI,reduceCtorEq]at h
  split at h
  ·rename_i hb;simp only[aD]at hb;have e1:=aP hb.1;have e2:=aP hb.2;subst e1 e2;obtain⟨c1,c2,e,r1,r2⟩:=hr;obtain⟨g1,g2⟩:=mR a h r2;exact⟨⟨c1,c2,e,r1,g1⟩,g2⟩
  ·cases h
 |.aZ::r,l::m,f,a,cs,h,hr=>by
  cases l<;>simp only[dI,reduceCtorEq]at h
  obtain⟨c1,c2,e,r1,r2⟩:=hr;obtain⟨g1,g2⟩:=mR a h r2;exact⟨⟨c1,c2,e,r1,g1⟩,g2⟩
 |.mp i::r,l::m,f,a,cs,h,hr=>by
  cases l<;>simp only[dI,reduceCtorEq]at h
  split at h
  ·rename_i hb;have e1:=aP hb;subst e1;obtain⟨c1,c2,e,r1,r2⟩:=hr;obtain⟨g1,g2⟩:=mR a h r2;exact⟨⟨c1,c2,e,r1,g1⟩,g2⟩
  ·cases h
 |.any n::r,l::m,f,a,cs,h,hr=>by
  simp only[dI]at h;split at h
  ·rename_i hb;have e1:=aP hb;subst e1;obtain⟨c1,c2,e,r1,r2⟩:=hr;obtain⟨g1,g2⟩:=mR a h r2;exact⟨⟨c1,c2,e,by simp only[L.Rel];exact⟨r1.length,λc hc=>r1.one c hc⟩,g1⟩,g2⟩
  ·cases h
 |[],_::_,_,_,_,h,_=>by simp[dI]at h
 |.v _::_,[],_,_,_,h,_=>by simp[dI]at h
 |.ptr .. :: _,[],_,_,_,h,_=>by simp[dI]at h
 |.own .. :: _,[],_,_,_,h,_=>by simp[dI]at h
 |.clo .. :: _,[],_,_,_,h,_=>by simp[dI]at h
 |.jD .. :: _,[],_,_,_,h,_=>by simp[dI]at h
 |.sl .. :: _,[],_,_,_,h,_=>by simp[dI]at h
 |.aZ::_,[],_,_,_,h,_=>by simp[dI]at h
 |.fD .. :: _,[],_,_,_,h,_=>by simp[dI]at h
 |.mp .. :: _,[],_,_,_,h,_=>by simp[dI]at h
 |.any .. :: _,[],_,_,_,h,_=>by simp[dI]at h
theorem sN:∀ {ls:List LS}{l:List L}{f:A->LTs ls A}(a:A),dI ls l=some f->(fQ ls (f a)).1.length=l.length
 |[],[],f,a,h=>by
  simp only[dI,aA]at h;subst h;rfl
 |.v t::r,l::m,f,a,h=>by
  simp only[dI]at h;split at h
  ·rename_i x g h1 h2;simp only[aA]at h;subst h;simp only[fQ,xI,sN a h2]
  ·cases h
 |.ptr i o::r,l::m,f,a,h=>by
  cases l<;>simp only[dI,reduceCtorEq]at h
  split at h
  ·simp only[fQ,xI,sN a h]
  ·cases h
 |.mp i::r,l::m,f,a,h=>by
  cases l<;>simp only[dI,reduceCtorEq]at h
  split at h
  ·simp only[fQ,xI,sN a h]
  ·cases h
 |.own i::r,l::m,f,a,h=>by
  cases l<;>simp only[dI,reduceCtorEq]at h
  split at h
  ·simp only[fQ,xI,sN a h]
  ·cases h
 |.clo i caps::r,l::m,f,a,h=>by
  cases l<;>simp only[dI,reduceCtorEq]at h
  split at h
  ·simp only[fQ,xI,sN a h]
  ·cases h
 |.jD i o::r,l::m,f,a,h=>by
  cases l<;>simp only[dI,reduceCtorEq]at h
  split at h
  ·rename_i f1 hb h2;simp only[aA]at h;subst h;simp only[fQ,xI,sN a h2]
  ·cases h
 |.sl i::r,l::m,f,a,h=>by
  cases l<;>simp only[dI,reduceCtorEq]at h
  split at h
  ·rename_i f1 hb h2;simp only[aA]at h;subst h;simp only[fQ,xI,sN a h2]
  ·cases h
 |.fD i o::r,l::m,f,a,h=>by
  cases l<;>simp only[dI,reduceCtorEq]at h
  split at h
  ·simp only[fQ,xI,sN a h]
  ·cases h
 |.aZ::r,l::m,f,a,h=>by
  cases l<;>simp only[dI,reduceCtorEq]at h
  have:=sN a h;simp only[fQ,xI,this]
 |.any n::r,l::m,f,a,h=>by
  simp only[dI]at h;split at h
  ·simp only[fQ,xI,sN a h]
  ·cases h
 |[],_::_,_,_,h=>by simp[dI]at h
 |.v _::_,[],_,_,h=>by simp[dI]at h
 |.ptr .. :: _,[],_,_,h=>by simp[dI]at h
 |.own .. :: _,[],_,_,h=>by simp[dI]at h
 |.clo .. :: _,[],_,_,h=>by simp[dI]at h
 |.jD .. :: _,[],_,_,h=>by simp[dI]at h
 |.sl .. :: _,[],_,_,h=>by simp[dI]at h
 |.aZ::_,[],_,_,h=>by simp[dI]at h
 |.fD .. :: _,[],_,_,h=>by simp[dI]at h
 |.mp .. :: _,[],_,_,h=>by simp[dI]at h
 |.any .. :: _,[],_,_,h=>by simp[dI]at h
theorem yOb{agg:Bool}{v:V}{ls ls':List L}{x:Value}(hs:zUv agg v=some ls)(hr:v.Rel β w N x)(hlen:ls'.length=ls.length)(h:∀ cs,aJ β w N ls cs->aJ β w N ls' cs):(yEp agg ls').Rel β w N x:=by
 unfold zUv at hs;split at hs
 ·simp only[aA]at hs;subst hs;obtain⟨cs,e,hr⟩:=hr;exact⟨cs,e,h cs hr⟩
 ·rename_i l;simp only[aA]at hs;subst hs;match ls',hlen with
  |[l'],_ =>
   obtain⟨c1,c2,e,h1,h2⟩:=h [x] ⟨[x],[],rfl,hr,rfl⟩;simp only[aJ]at h2;subst h2;rw[vE]at e;subst e;exact h1
 ·cases hs
def Xu (β:Nat->Pl) (w:World) (N:Nat->Nat->Prop) (r:List V) (tmps:Array Value):Prop := ∀ (i:Nat) (v:V),r[i]? = some v->v.Rel β w N (tmps.getD i undef)
theorem Xu.set{r:List V}{tmps:Array Value}(h:Xu β w N r tmps){i:Nat}{v:V}(hv:v.Rel β w N (tmps.getD i undef)):Xu β w N (r.set i v) tmps:=by
 intro j u hu;by_cases hij:i=j
 ·subst hij;rcases jF i r.length with hi|hi
  ·rw[qAv hi]at hu;simp only[aA]at hu;subst hu;exact hv
  ·rw[qAu (by simpa using hi)]at hu;cases hu
 ·rw[qAw hij]at hu;exact h j u hu
theorem yAf{σr:List V}{tmps:Array Value}(hr:Xu β w N σr tmps):∀ {rs:List Slot}{f:A->RTs rs A}(a:A) {acc:List V},zUw σr rs=some f->Xu β w N acc tmps ->
 Xu β w N (Wt rs acc (f a)).1 tmps/\(Wt rs acc (f a)).2=a/\(Wt rs acc (f a)).1.length=acc.length
 |[],f,a,acc,h,ha=>by
  simp only[zUw,aA]at h;subst h;exact⟨ha,rfl,rfl⟩
 |s::r,f,a,acc,h,ha=>by
  simp only[zUw]at h;split at h
  ·rename_i ls hls;split at h
   ·rename_i f1 g h1 h2;simp only[aA]at h;subst h;have hv:(σr.getD s.i .cK).Rel β w N (tmps.getD s.i undef):=by
     rw[wG];cases hg:σr[s.i]? with
     |none=>trivial
     |some v=>exact hr s.i v hg
    have hmk:=yOb hls hv (sN (g a) h1) λcs hc=>(mR (g a) h1 hc).1
    have e2:(fQ s.ls (f1 (g a))).2=g a:=by
     have hp:∃ cs,aJ β w N ls cs:=by
      unfold zUv at hls;split at hls
      ·rename_i l heq;simp only[aA]at hls;subst hls;rw[heq]at hv;obtain⟨cs,_,hc⟩:=hv;exact⟨cs,hc⟩
      ·rename_i l heq;simp only[aA]at hls;subst hls;rw[heq]at hv;exact⟨[_],[_],[],rfl,hv,rfl⟩
      ·cases hls
     obtain⟨cs,hc⟩:=hp;exact(mR (g a) h1 hc).2
    simp only[Wt];rw[e2];obtain⟨k1,k2,k3⟩:=yAf hr a (acc:=acc.set s.i (yEp s.agg (fQ s.ls (f1 (g a))).1)) h2 (ha.set hmk);exact⟨k1,k2,by rw[k3,List.length_set]⟩
   ·cases h
  ·cases h
def Sz(β:Nat->Pl)(w:World)(N:Nat->Nat->Prop):Nat->List Ob->List Ob->Prop
 |_,[],[]=>True
 |i,o::r,o'::r'=>(o.Rel β w N (β i)->o'.Rel β w N (β i))/\(o'.wr=o.wr/\o'.tQ=o.tQ)/\Sz β w N (i+1) r r'
 |_,_,_=>False
theorem Lm{w:World}:∀ {os:List OS}{h:List Ob}{f:A->OTs os A}(a:A) (i:Nat),gB os h=some f->(∀ (j:Nat) (o:Ob),h[j]?=some o->o.Rel β w N (β (i+j)))->Sz β w N i h (fT os (f a)).1
 |[],[],f,a,i,h,_=>by
  simp only[gB,aA]at h;subst h;trivial
 |.box e ls::r,.box e' l::m,f,a,i,h,hr=>by
  simp only[gB]at h;split at h
  ·rename_i f1 g hb h1 h2;simp only[aA]at h;subst h;have:=aP hb;subst this;have h0:=hr 0 _ rfl;simp only[Ob.Rel,qAa]at h0;obtain⟨_,_,b0,cs0,_,hc0,_⟩:=h0;have e2:=(mR (g a) h1 hc0).2;simp only[fT];refine⟨?_,⟨rfl,rfl⟩,?_⟩
   ·simp only[Ob.Rel];rintro⟨k1,k2,b,cs,k3,k4,k5⟩;exact⟨k1,k2,b,cs,k3,(mR (g a) h1 k4).1,k5⟩
   ·rw[e2];exact Lm a (i+1) h2 λj o ho=>by
     have:=hr (j+1) o (by simpa using ho)
     rwa [show i+(j+1)=i+1+j by omega]at this
  ·cases h
 |.row e t::r,.arr e' t' ver rows wr::m,f,a,i,h,hr=>by
  simp only[gB]at h;split at h
  ·rename_i g hb h2;split at h
   ·rename_i ht;subst ht;simp only[aA]at h;subst h;simp only[aD]at hb;have e1:=aP hb.1;have e2:=aP hb.2.1;have e3:=hb.2.2;subst e1 e2 e3;simp only[fT];refine⟨λh=>h,⟨rfl,rfl⟩,?_⟩;exact Lm a (i+1) h2 λj o ho=>by
     have:=hr (j+1) o (by simpa using ho)
     rwa [show i+(j+1)=i+1+j by omega]at this
   ·cases h
  ·cases h
 |[],_::_,_,_,_,h,_=>by simp[gB]at h
 |.box .. :: _,[],_,_,_,h,_=>by simp[gB]at h
 |.row .. :: _,[],_,_,_,h,_=>by simp[gB]at h
 |.box .. :: _,.arr .. :: _,_,_,_,h,_=>by simp[gB]at h
 |.row .. :: _,.box .. :: _,_,_,_,h,_=>by simp[gB]at h
 |.fm tab::r,.fm xEy::m,f,a,i,h,hr=>by
  simp only[gB]at h;split at h
  ·rename_i ht;subst ht;simp only[fT];refine⟨λh=>h,⟨rfl,rfl⟩,?_⟩;exact Lm a (i+1) h λj o ho=>by
    have:=hr (j+1) o (by simpa using ho)
    rwa [show i+(j+1)=i+1+j by omega]at this
  ·cases h
 |.dm kt vt::r,.dm kt' vt' es::m,f,a,i,h,hr=>by
  simp only[gB]at h;split at h
  ·rename_i g h2;split at h
   ·rename_i ht;obtain⟨rfl,rfl⟩:=ht;simp only[aA]at h;subst h;simp only[fT];refine⟨λh=>h,⟨rfl,rfl⟩,?_⟩;exact Lm a (i+1) h2 λj o ho=>by
     have:=hr (j+1) o (by simpa using ho)
     rwa [show i+(j+1)=i+1+j by omega]at this
   ·cases h
  ·cases h
 |.stk e ei::r,.stk e' ei' ver rows none::m,f,a,i,h,hr=>by
  simp only[gB]at h;split at h
  ·rename_i g hb h2;simp only[aA]at h;subst h;simp only[aD]at hb;have e1:=aP hb.1;have e2:=aP hb.2.1;have e3:=aP hb.2.2;subst e1 e2 e3;simp only[fT];refine⟨λh=>h,⟨rfl,rfl⟩,?_⟩;exact Lm a (i+1) h2 λj o ho=>by
    have:=hr (j+1) o (by simpa using ho)
    rwa [show i+(j+1)=i+1+j by omega]at this
  ·cases h
 |.stk .. :: _,.stk _ _ _ _ (some _)::_,_,_,_,h,_=>by simp[gB]at h
 |.stk .. :: _,[],_,_,_,h,_=>by simp[gB]at h
 |.stk .. :: _,.box .. :: _,_,_,_,h,_=>by simp[gB]at h
 |.stk .. :: _,.arr .. :: _,_,_,_,h,_=>by simp[gB]at h
 |.stk .. :: _,.fm .. :: _,_,_,_,h,_=>by simp[gB]at h
 |.stk .. :: _,.dm .. :: _,_,_,_,h,_=>by simp[gB]at h
 |.box .. :: _,.stk .. :: _,_,_,_,h,_=>by simp[gB]at h
 |.row .. :: _,.stk .. :: _,_,_,_,h,_=>by simp[gB]at h
 |.fm .. :: _,.stk .. :: _,_,_,_,h,_=>by simp[gB]at h
 |.dm .. :: _,.stk .. :: _,_,_,_,h,_=>by simp[gB]at h
 |.fm .. :: _,[],_,_,_,h,_=>by simp[gB]at h
 |.dm .. :: _,[],_,_,_,h,_=>by simp[gB]at h
 |.dm .. :: _,.box .. :: _,_,_,_,h,_=>by simp[gB]at h
 |.dm .. :: _,.arr .. :: _,_,_,_,h,_=>by simp[gB]at h
 |.dm .. :: _,.fm .. :: _,_,_,_,h,_=>by simp[gB]at h
 |.fm .. :: _,.dm .. :: _,_,_,_,h,_=>by simp[gB]at h
 |.box .. :: _,.dm .. :: _,_,_,_,h,_=>by simp[gB]at h
 |.row .. :: _,.dm .. :: _,_,_,_,h,_=>by simp[gB]at h
 |.fm .. :: _,.box .. :: _,_,_,_,h,_=>by simp[gB]at h
 |.fm .. :: _,.arr .. :: _,_,_,_,h,_=>by simp[gB]at h
 |.box .. :: _,.fm .. :: _,_,_,_,h,_=>by simp[gB]at h
 |.row .. :: _,.fm .. :: _,_,_,_,h,_=>by simp[gB]at h
theorem Sz.length{w:World}:∀ {i:Nat}{h h':List Ob},Sz β w N i h h'->h'.length=h.length
 |_,[],[],_=>rfl
 |_,_::_,_::_,h=>by simp[Sz.length h.2.2]
 |_,[],_::_,h=>h.elim
 |_,_::_,[],h=>h.elim
theorem Sz.get{w:World}:∀ {i:Nat}{h h':List Ob},Sz β w N i h h'->∀ (j:Nat) (o':Ob),h'[j]?=some o'->∃ o,h[j]?=some o/\(o'.wr=o.wr/\o'.tQ=o.tQ)/\(o.Rel β w N (β (i+j))->o'.Rel β w N (β (i+j)))
 |_,[],[],_,j,_,h=>by simp at h
 |i,o::r,o2::r2,h,j,o',hj=>by
  cases j with
  |zero =>
   simp only[qAi,aA]at hj;subst hj;exact⟨o,rfl,h.2.1,h.1⟩
  |succ j =>
   obtain⟨u,h1,h2,h3⟩:=Sz.get h.2.2 j o' (by simpa using hj);rw[show i+1+j=i+(j+1)by omega]at h3;exact⟨u,by simpa using h1,h2,h3⟩
 |_,[],_::_,h,_,_,_=>h.elim
 |_,_::_,[],h,_,_,_=>h.elim
theorem zNw{C:Ctx}{sh:Sh}{σ:St}{a:Act}{w:World}{x:sh.X}(h:sh.dec σ=some x)(hs:Sim C β σ a w):Sim C β (sh.enc x) a w:=by
 unfold Sh.dec at h;split at h
 ·rename_i f g hn hf hg;simp only[aA]at h;subst h;have hn:=aP hn;obtain⟨k1,k2,k3⟩:=yAf (A:=OTs sh.os Unit) (tmps:=a.tmps) hs.reg (g ()) (acc:=qAf sh.n .cK) hf (λi v hv=>by
   rw[List.getElem?_replicate]at hv;split at hv
   ·simp only[aA]at hv;subst hv;trivial
   ·cases hv)
  have hob:=Lm (A:=Unit) (β:=β) (N:=C.N β σ.h) (w:=w) () 0 hg (λj o ho=>by rw[yY];exact hs.heap.obj j o ho);have eh:(sh.enc (f (g ()))).h=(fT sh.os (g ())).1:=by simp only[Sh.enc];rw[k2]
  have er:(sh.enc (f (g ()))).r=(Wt sh.rs (qAf sh.n .cK) (f (g ()))).1:=rfl;have hNN:∀ b j,C.N β (sh.enc (f (g ()))).h b j->C.N β σ.h b j:=λb j hb=>by
   rcases hb with hb|⟨id,o,ho,hw,hbk⟩
   ·exact .inl hb
   ·rw[eh]at ho;obtain⟨o0,h1,h2,_⟩:=hob.get id o ho;exact .inr ⟨id,o0,h1,by rw[<- h2.1];exact hw,Ob.zV h2.2 rfl rfl hbk⟩
  refine⟨⟨?_,?_,?_,?_,hs.heap.n0,hs.heap.frame,hs.heap.size,hs.heap.os,hs.heap.tape,hs.heap.output,λj o hj=>by
   obtain⟨k1,k2⟩:=hs.heap.fixed j o hj;exact⟨by rw[eh,hob.length];exact k1,k2⟩⟩,hs.defers,?_,?_⟩
  ·intro id o ho;rw[eh]at ho;obtain⟨o0,h1,_,h3⟩:=hob.get id o ho;rw[yY]at h3;exact(h3 (hs.heap.obj id o0 h1)).mono (Moves.refl β) (Keep.refl _ w) (λb j _ hb=>hNN b j hb) λ_ _=>rfl
  ·intro id hid;rw[eh,hob.length]at hid;exact hs.heap.dead id hid
  ·intro i j o o' b hi hj hbi hbj;rw[eh]at hi hj;obtain⟨o1,h1,h3,_⟩:=hob.get i o hi;obtain⟨o2,h2,h4,_⟩:=hob.get j o' hj;exact hs.heap.kX i j o1 o2 b h1 h2 (Ob.mQ h3.2 rfl rfl hbi) (Ob.mQ h4.2 rfl rfl hbj)
  ·intro id o b ho hb;rw[eh]at ho;obtain⟨o1,h1,h3,_⟩:=hob.get id o ho;exact hs.heap.Lj h1 h3.2 rfl rfl (λh=>by rw[<- h3.1];exact h) hb
  ·rw[er,k3,List.length_replicate,<- hn,hs.size]
  ·intro i v hv;exact(k1 i v (by rw[er]at hv;exact hv)).mono (Moves.refl β) (Keep.refl _ w) λb j _ hb=>hNN b j hb
 ·cases h
end
end Go.Dec
