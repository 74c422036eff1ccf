/- Part of a proof over this seat: a library of my own, and what it says of this seat. No statement is proved here. -/
import Derived.Test.YtfbilefiaminnaaGreatDoorPartAF
namespace Go.Dec
theorem Jg{i:Nat}:∀ {l:List Nat}{n j:Nat},pos i l n=some j->∃ m,j=n+m/\l[m]?=some i
 |[],_,_,h=>by cases h
 |a::r,n,j,h=>by
  simp only[pos]at h;split at h
  ·rename_i hb;have:=aK hb;simp only[aA]at h;subst h this;exact⟨0,rfl,rfl⟩
  ·obtain⟨m,h1,h2⟩:=Jg h;exact⟨m+1,by omega,by simpa using h2⟩
theorem Vt{i:Nat}:∀ {l:List Nat}{n:Nat},pos i l n=none->i∉l
 |[],_,_=>by simp
 |a::r,n,h=>by
  simp only[pos]at h;split at h
  ·cases h
  ·rename_i hb;intro hm;cases hm with
   |head=>simp at hb
   |tail _ hm=>exact Vt h hm
def nodupB:List Nat->Bool
 |[]=>true
 |a::r=>(match pos a r 0 with|none=>true|some _=>false)&&nodupB r
theorem Tz:∀ {l:List Nat},nodupB l=true->∀ {i j:Nat}{a:Nat},l[i]?=some a->l[j]?=some a->i=j
 |[],_,_,_,_,h,_=>by simp at h
 |x::r,h,i,j,a,hi,hj=>by
  simp only[nodupB,aD]at h;obtain⟨h1,h2⟩:=h;have hx:x∉r:=by
   split at h1
   ·rename_i hn;exact Vt hn
   ·cases h1
  cases i with
  |zero =>
   cases j with
   |zero=>rfl
   |succ j =>
    simp only[List.getElem?_cons_zero,aA]at hi;subst hi;exact absurd (List.mem_of_getElem? (by simpa using hj)) hx
  |succ i =>
   cases j with
   |zero =>
    simp only[List.getElem?_cons_zero,aA]at hj;subst hj;exact absurd (List.mem_of_getElem? (by simpa using hi)) hx
   |succ j=>rw[Tz h2 (i:=i) (j:=j) (by simpa using hi) (by simpa using hj)]
theorem yFn{l:List Nat}(h:nodupB l=true){i m:Nat}(hm:l[m]?=some i):pos i l 0=some m:=by
 cases hp:pos i l 0 with
 |none=>exact absurd (List.mem_of_getElem? hm) (Vt hp)
 |some j =>
  obtain⟨k,h1,h2⟩:=Jg hp;rw[h1,Nat.zero_add,Tz h h2 hm]
def zMx(h:List Ob)(id:Nat):Nat :=
 match h[id]? with
 |some (.arr _ _ v _ _)=>v
 |some (.stk _ _ v _ _)=>v
 |_=>0
mutual
def L.ren(ρ:List Nat)(h:List Ob):L->L
 |.val t x=>.val t x
 |.lF=>.lF
 |.fC id o=>match pos id ρ 0 with
  |some j=>.fC j o
  |none=>.bad 1
 |.bJ=>.bJ
 |.qY t x o=>.qY t x o
 |.bad n=>.bad n
 |.Rz x tab=>.Rz x tab
 |.mp id=>match pos id ρ 0 with
  |some j=>.mp j
  |none=>.bad 1
 |.ptr id o=>match pos id ρ 0 with
  |some j=>.ptr j o
  |none=>.bad 1
 |.rY id o es i sub=>match pos id ρ 0 with
  |some j=>.rY j o es i sub
  |none=>.bad 1
 |.iZ id u i o=>match pos id ρ 0,Nat.beq u (zMx h id)with
  |some j,true=>.iZ j 0 i o
  |_,_=>.bad 1
 |.sl id u i n=>match pos id ρ 0,Nat.beq u (zMx h id)with
  |some j,true=>.sl j 0 i n
  |_,_=>.bad 1
 |.own id u=>match pos id ρ 0,Nat.beq u (zMx h id)with
  |some j,true=>.own j 0
  |_,_=>.bad 1
 |.clo f caps=>.clo f (L.Nr ρ h caps)
def L.Nr (ρ:List Nat) (h:List Ob):List L->List L | []=>[] | l :: ls=>l.ren ρ h :: L.Nr ρ h ls
end
def V.ren (ρ:List Nat) (h:List Ob):V->V | .one l => .one (l.ren ρ h) | .agg ls => .agg (L.Nr ρ h ls) | _ => .bY
def Ob.ren (ρ:List Nat) (h:List Ob):Ob->Ob | .box e ls => .box e (L.Nr ρ h ls) | .arr e t _ rows wr => .arr e t 0 rows wr | .fm tab => .fm tab | .dm kt vt es => .dm kt vt es | .stk e ei _ rows top => .stk e ei 0 rows (top.map (L.Nr ρ h))
section
variable {β β':Nat->Pl}
variable {w:World}
variable {N N':Nat->Nat->Prop}
theorem Ns{l:L}{cs:List Value}(hl:l.size=1)(h:l.Rel β w N cs):(L.bad 1).Rel β' w N' cs:=by
 simp only[L.Rel];exact⟨by rw[h.length,hl],h.one⟩
mutual
theorem L.Rel.Gs{ρ:List Nat}{h:List Ob}(hβ:∀ i j,pos i ρ 0=some j->(β' j).live=(β i).live/\(β' j).box=(β i).box/\(β' j).blk=(β i).blk/\((β i).box=false->(β' j).ver=0/\(β i).ver=zMx h i/\(β' j).size=(β i).size/\(β' j).cap=(β i).cap/\(β' j).len=(β i).len))(hN:∀ b j,b<w.heap.size->N' b j->N b j):∀ {l:L}{cs:List Value},l.Rel β w N cs->(l.ren ρ h).Rel β' w N' cs
 |.val t x,cs,hr=>by simp only[L.ren,L.Rel]at *;exact Ty.Rel.mono (Keep.refl _ w) hN hr
 |.lF,cs,hr=>by simp only[L.ren,L.Rel]at *;exact hr
 |.fC id off,cs,hr=>by
  simp only[L.ren];split
  ·rename_i j hp;obtain⟨k1,k2,k3,_⟩:=hβ id j hp;simp only[L.Rel]at *;rw[k1,k2,k3];exact hr
  ·exact Ns rfl hr
 |.bJ,cs,hr=>by simp only[L.ren,L.Rel]at *;exact hr
 |.bad n,cs,hr=>by simp only[L.ren,L.Rel]at *;exact hr
 |.Rz x tab,cs,hr=>by simp only[L.ren,L.Rel]at *;exact hr
 |.mp id,cs,hr=>by
  simp only[L.ren];split
  ·rename_i j hp;obtain⟨k1,k2,k3,_⟩:=hβ id j hp;simp only[L.Rel]at *;rw[k1,k2,k3];exact hr
  ·exact Ns rfl hr
 |.qY t x off,cs,hr=>by simp only[L.ren,L.Rel]at *;obtain⟨c,hc,hr⟩:=hr;exact⟨c,hc,hr.mono (Keep.refl _ w) hN⟩
 |.ptr id off,cs,hr=>by
  simp only[L.ren];split
  ·rename_i j hp;obtain⟨k1,k2,k3,_⟩:=hβ id j hp;simp only[L.Rel]at *;rw[k1,k2,k3];exact hr
  ·exact Ns rfl hr
 |.rY id off es i sub,cs,hr=>by
  simp only[L.ren];split
  ·rename_i j hp;obtain⟨k1,k2,k3,_⟩:=hβ id j hp;simp only[L.Rel]at *;rw[k1,k2,k3];exact hr
  ·exact Ns rfl hr
 |.iZ id u i off,cs,hr=>by
  simp only[L.ren];split
  ·rename_i j hp hu;obtain⟨k1,k2,k3,k4⟩:=hβ id j hp;have hu:=aK hu;simp only[L.Rel]at *;obtain⟨g1,g2,g3,c,g4,g5,g6⟩:=hr;obtain⟨m1,m2,m3,m4,m5⟩:=k4 g2;refine⟨k1 ▸ g1,k2 ▸ g2,by omega,c,g4,g5,λ_=>?_⟩;rw[k3,m3];exact g6 (by omega)
  ·exact Ns rfl hr
 |.sl id u off len,cs,hr=>by
  simp only[L.ren];split
  ·rename_i j hp hu;obtain⟨k1,k2,k3,k4⟩:=hβ id j hp;have hu:=aK hu;simp only[L.Rel]at *;obtain⟨g1,g2,g3,c,g4,g5,g6⟩:=hr;obtain⟨m1,m2,m3,m4,m5⟩:=k4 g2;refine⟨k1 ▸ g1,k2 ▸ g2,by omega,c,g4,g5,λ_=>?_⟩;have:=g6 (by omega);unfold eO at *;rw[k3,m3,m4];exact this
  ·exact Ns rfl hr
 |.own id u,cs,hr=>by
  simp only[L.ren];split
  ·rename_i j hp hu;obtain⟨k1,k2,k3,k4⟩:=hβ id j hp;have hu:=aK hu;simp only[L.Rel]at *;obtain⟨g1,g2,g3,c,g4,g5,g6⟩:=hr;obtain⟨m1,m2,m3,m4,m5⟩:=k4 g2;refine⟨k1 ▸ g1,k2 ▸ g2,by omega,c,g4,g5,λ_=>?_⟩;have:=g6 (by omega);unfold eO at *;rw[k3,m3,m4,m5];exact this
  ·exact Ns rfl hr
 |.clo f caps,cs,hr=>by
  simp only[L.ren,L.Rel]at *;obtain⟨us,hc,hr⟩:=hr;exact⟨us,hc,L.eD.Gs hβ hN hr⟩
theorem L.eD.Gs{ρ:List Nat}{h:List Ob}(hβ:∀ i j,pos i ρ 0=some j->(β' j).live=(β i).live/\(β' j).box=(β i).box/\(β' j).blk=(β i).blk/\((β i).box=false->(β' j).ver=0/\(β i).ver=zMx h i/\(β' j).size=(β i).size/\(β' j).cap=(β i).cap/\(β' j).len=(β i).len))(hN:∀ b j,b<w.heap.size->N' b j->N b j):∀ {ls:List L}{us:List Value},L.eD β w N ls us->L.eD β' w N' (L.Nr ρ h ls) us
 |[],us,hr=>by simp only[L.Nr,L.eD]at *;exact hr
 |l::ls,us,hr=>by
  simp only[L.Nr,L.eD]at *;obtain⟨u,r,e,h1,h2⟩:=hr;exact⟨u,r,e,L.Rel.Gs hβ hN h1,L.eD.Gs hβ hN h2⟩
end
def yIf(β β':Nat->Pl)(ρ:List Nat)(h:List Ob):Prop:=∀ i j,pos i ρ 0=some j->(β' j).live=(β i).live/\(β' j).box=(β i).box/\(β' j).blk=(β i).blk/\((β i).box=false->(β' j).ver=0/\(β i).ver=zMx h i/\(β' j).size=(β i).size/\(β' j).cap=(β i).cap/\(β' j).len=(β i).len)
theorem aG.Gs{ρ:List Nat}{h:List Ob}(hβ:yIf β β' ρ h)(hN:∀ b j,b<w.heap.size->N' b j->N b j):∀ {ls:List L}{cs:List Value},aG β w N ls cs->aG β' w N' (L.Nr ρ h ls) cs
 |[],_,hr=>hr
 |_l::_ls,_,⟨c1,c2,e,h1,h2⟩=>⟨c1,c2,e,L.Rel.Gs hβ hN h1,aG.Gs hβ hN h2⟩
theorem V.Rel.Gs{ρ:List Nat}{h:List Ob}(hβ:yIf β β' ρ h)(hN:∀ b j,b<w.heap.size->N' b j->N b j){x:V}{u:Value}(hr:x.Rel β w N u):(x.ren ρ h).Rel β' w N' u:=by
 cases x with
 |one l=>exact L.Rel.Gs hβ hN hr
 |agg ls=>obtain⟨cs,e,hr⟩:=hr;exact⟨cs,e,hr.Gs hβ hN⟩
 |_=>trivial
end
def zDi(h:List Ob)(i:Nat):Ob :=
 match h[i]? with
 |some o=>o
 |none=>.box 0 []
def inH (ρ:List Nat) (h:List Ob):List Ob:=ρ.map fun i=>(zDi h i).ren ρ h
theorem Bp{ρ:List Nat}{h:List Ob}{j:Nat}{o:Ob}(hj:(inH ρ h)[j]?=some o):∃ i,ρ[j]?=some i/\o=(zDi h i).ren ρ h:=by
 simp only[inH,List.getElem?_map,Option.map_eq_some_iff]at hj;obtain⟨i,h1,rfl⟩:=hj;exact⟨i,h1,rfl⟩
theorem gU{h:List Ob}{i:Nat}{o:Ob}(ho:h[i]?=some o):zDi h i=o:=by
 simp only[zDi,ho]
theorem Ob.zGx{ρ:List Nat}{h:List Ob}(o:Ob):(o.ren ρ h).wr=o.wr:=by cases o<;>rfl
theorem Ob.zV(ρ:List Nat)(h:List Ob)(o:Ob):(o.ren ρ h).sU=o.sU:=by cases o<;>rfl
end Go.Dec
namespace Go.Dec
section
variable {C:Ctx}
variable {T:Tab}
theorem aG.putAt{β β':Nat->Pl}{w w':World}{N N':Nat->Nat->Prop}(hm:Moves β β')(hk:Keep N w w')(hN:∀ b j,b<w.heap.size->N' b j->N b j){l l':L}(hl:∀ cs,l.Rel β w N cs->l'.Rel β' w' N' cs):∀ {ls:List L}{j:Nat}{cs:List Value},ls[j]?=some l->aG β w N ls cs->aG β' w' N' (ls.set j l') cs
 |[],j,_,h,_=>by simp at h
 |x::ls,0,_,h,⟨c1,c2,e,h1,h2⟩=>by
  simp only[List.getElem?_cons_zero,aA]at h;subst h;exact⟨c1,c2,e,hl _ h1,h2.mono hm hk hN⟩
 |x::ls,j+1,_,h,⟨c1,c2,e,h1,h2⟩=>⟨c1,c2,e,h1.mono hm hk hN,aG.putAt hm hk hN hl (j:=j) (by simpa using h) h2⟩
def yIg(h:List Ob)(rid j:Nat):Option (Bool × List Ob):=
 match h[rid]? with
 |some (.box eb ls)=>
  match ls[j]? with
  |some (.sl sid u 0 k)=>
   match h[sid]? with
   |some (.stk e ei v rows _)=>some (Nat.beq v u&&Nat.ble k rows.length,(h.set sid (.stk e ei (v+1) (rows.take k) none)).set rid (.box eb (ls.set j (.own sid (v+1)))))
   |some (.arr e t v rows true)=>some (Nat.beq v u&&Nat.ble k rows.length,(h.set sid (.arr e t (v+1) (rows.take k) true)).set rid (.box eb (ls.set j (.own sid (v+1)))))
   |_=>none
  |_=>none
 |_=>none
theorem sZ{e:TypeId}{t:Ty}{ver:Nat}{rows:List t.den}{wr:Bool}{p:Pl}{b:Nat}:(Ob.arr e t ver rows wr).blks p b<->p.blk=some b:=⟨λh=>Ob.uG rfl h,λh=>Ob.wS h⟩
theorem zDj{e:TypeId}{ls:List L}{p:Pl}{b:Nat}:(Ob.box e ls).blks p b<->p.blk=some b:=⟨λh=>Ob.uG rfl h,λh=>Ob.wS h⟩
theorem yMq{β:Nat->Pl}{w:World}{σ:St}{a:Act}{rid j:Nat}{h':List Ob}(h:yIg σ.h rid j=some (true,h'))(hs:Sim C β σ a w):∃ β',Sim C β' ⟨σ.r,h'⟩ a w:=by
 unfold yIg at h;split at h
 ·rename_i eb ls hb;split at h
  ·rename_i sid u k hl;split at h
   ·rename_i e ei v rows top hst;simp only[aA,aB,aD]at h;obtain⟨⟨hv,hk⟩,rfl⟩:=h;have hv:=aK hv;have hk:=bR hk;subst hv;have hne:rid≠sid:=λe=>by rw[e,hst]at hb;cases hb
    have zDk:=(bE.1 hb).1;have hlts:=(bE.1 hst).1;have hob:=hs.heap.obj _ _ hst;have hbx:=hs.heap.obj _ _ hb;simp only[Ob.Rel]at hob hbx;obtain⟨k1,k2,k3,k4,k5,b,cur,cs,cs2,bs,g1,g2,g3,g4,g5,g6,g7,g8,g9,g10,g11⟩:=hob;obtain⟨q1,q2,rb,rcs,q3,q4,q5⟩:=hbx;have g9':=g9;rw[<- List.take_append_drop k rows]at g9';obtain⟨c1,c2,d1,d2,f1,f2,f3,f4⟩:=iX.split g9'
    let p:Pl:={ β sid with ver:=v+1,len:=k,sub:=d1.map λq=>(q,0) }
    have hps:upd β sid p sid=p:=upd_same _ _ _;have hpr:upd β sid p rid=β rid:=aU _ _ hne;have hmv:Moves β (upd β sid p):=λi hi=>by
     by_cases h1:i=sid
     ·subst h1;rw[hps];exact .inr ⟨k2,k1,k2,by rw[k3];exact Nat.lt_succ_self _⟩
     ·exact .inl (aU _ _ h1)
    have hgs:∀ o,((σ.h.set sid (.stk e ei (v+1) (rows.take k) none)).set rid (.box eb (ls.set j (.own sid (v+1)))))[sid]?=some o->o=.stk e ei (v+1) (rows.take k) none:=λo ho=>by
     rw[List.getElem?_set_ne hne,List.getElem?_set_self hlts]at ho;simpa using ho.symm
    have hgr:∀ o,((σ.h.set sid (.stk e ei (v+1) (rows.take k) none)).set rid (.box eb (ls.set j (.own sid (v+1)))))[rid]?=some o->o=.box eb (ls.set j (.own sid (v+1))):=λo ho=>by
     rw[List.getElem?_set_self (by simpa using zDk)]at ho;simpa using ho.symm
    have hSub:∀ q,q∈d1->q∈bs:=λq hq=>by rw[f2];exact List.mem_append_left _ hq
    have back:∀ i o b',(i=sid\/i=rid)->((σ.h.set sid (.stk e ei (v+1) (rows.take k) none)).set rid (.box eb (ls.set j (.own sid (v+1)))))[i]?=some o->o.blks (upd β sid p i) b' ->
     ∃ o0,σ.h[i]?=some o0/\o0.wr=true/\∀ j,o0.at (β i) b' j:=λi o b' hS ho hbk=>by
     rcases hS with rfl|rfl
     ·rw[hgs o ho,hps,oV (p:=p) rfl]at hbk;exact⟨_,hst,rfl,λj=>(Ht g6).2 (hbk.imp id (hSub _))⟩
     ·rw[hgr o ho,hpr,zDj]at hbk;exact⟨_,hb,rfl,λj=>Ob.mH hbk⟩
    have hturn:Turn C (λi=>i=sid\/i=rid) σ.h ((σ.h.set sid (.stk e ei (v+1) (rows.take k) none)).set rid (.box eb (ls.set j (.own sid (v+1))))) β (upd β sid p) w w:=by
     refine⟨by simp,λi _ hS=>?_,λi h1 h2=>?_,λi hi=>?_,?_,?_,?_,(Keep.refl (λ_ _=>False) w).weaken λ_ _ h=>h.elim,⟨rfl,rfl,rfl⟩,hmv⟩
     ·have h1:i≠sid:=λh=>hS (.inl h)
      have h2:i≠rid:=λh=>hS (.inr h)
      exact⟨by rw[List.getElem?_set_ne (Ne.symm h2),List.getElem?_set_ne (Ne.symm h1)],aU _ _ h1⟩
     ·simp at h2;omega
     ·simp at hi;rw[aU _ _ (by omega)];exact hs.heap.dead i hi
     ·intro i o b' j' hS ho _ _ hat;obtain⟨o0,m1,m2,m3⟩:=back i o b' hS ho ⟨j',hat⟩;exact⟨i,o0,hS,m1,m2,m3 j'⟩
     ·intro i o b' hS ho hbk;obtain⟨o0,m1,m2,m3⟩:=back i o b' hS ho hbk;exact .inl ⟨i,o0,hS,m1,0,m3 0⟩
     ·intro i i' o o' b' hS hS' ho ho' hbi hbj;obtain⟨o0,m1,m2,m3⟩:=back i o b' hS ho hbi;obtain⟨o1,n1,n2,n3⟩:=back i' o' b' hS' ho' hbj;exact hs.heap.kR i i' o0 o1 b' m1 n1 ⟨0,m3 0⟩ ⟨0,n3 0⟩
    refine⟨_,hs.re hturn λi o hS ho=>?_⟩;rcases hS with rfl|rfl
    ·rw[hgs o ho,hps];simp only[Ob.Rel];have hlen:(rows.take k).length=k:=by rw[List.length_take];omega
     have hc1:c1.length=k*4:=by rw[f3.length,hlen]
     refine⟨k1,k2,rfl,k4,by simp only[p,hlen,Kq,Nat.add_zero],b,cur,c1,[],d1,g1,g2,g3,by simp only[p];omega,g5,rfl,?_,λh=>g8 (hSub _ h),f3,rfl,?_⟩
     ·rw[f2]at g7;exact(List.nodup_append.1 g7).1
     ·rw[List.append_nil];simp only[p];have:=congrArg (List.take (k*4)) g11;rw[List.take_take,Nat.min_eq_left (by rw[k5];omega),f1,List.append_assoc,List.take_left' hc1]at this;exact this
    ·rw[hgr o ho,hpr];simp only[Ob.Rel];refine⟨q1,q2,rb,rcs,q3,?_,q5⟩;refine aG.putAt (l:=.sl sid v 0 k) hmv (Keep.refl _ w) hturn.owns (λcs0 hr=>?_) hl q4;simp only[L.Rel,hps]at hr ⊢;obtain⟨r1,r2,r3,c,r4,r5,r6⟩:=hr;refine⟨k1,k2,aP _,c,r4,r5,λ_=>?_⟩;exact r6 k3
   ·rename_i e t v rows hst;simp only[aA,aB,aD]at h;obtain⟨⟨hv,hk⟩,rfl⟩:=h;have hv:=aK hv;have hk:=bR hk;subst hv;have hne:rid≠sid:=λe=>by rw[e,hst]at hb;cases hb
    have zDk:=(bE.1 hb).1;have hlts:=(bE.1 hst).1;have hob:=hs.heap.obj _ _ hst;have hbx:=hs.heap.obj _ _ hb;simp only[Ob.Rel]at hob hbx;obtain⟨k1,k2,k3,k4,k5,k6,k7⟩:=hob;obtain⟨q1,q2,rb,rcs,q3,q4,q5⟩:=hbx
    let p:Pl:={ β sid with ver:=v+1,len:=k }
    have hps:upd β sid p sid=p:=upd_same _ _ _;have hpr:upd β sid p rid=β rid:=aU _ _ hne;have hmv:Moves β (upd β sid p):=λi hi=>by
     by_cases h1:i=sid
     ·subst h1;rw[hps];exact .inr ⟨k2,k1,k2,by rw[k3];exact Nat.lt_succ_self _⟩
     ·exact .inl (aU _ _ h1)
    have hgs:∀ o,((σ.h.set sid (.arr e t (v+1) (rows.take k) true)).set rid (.box eb (ls.set j (.own sid (v+1)))))[sid]?=some o->o=.arr e t (v+1) (rows.take k) true:=λo ho=>by
     rw[List.getElem?_set_ne hne,List.getElem?_set_self hlts]at ho;simpa using ho.symm
    have hgr:∀ o,((σ.h.set sid (.arr e t (v+1) (rows.take k) true)).set rid (.box eb (ls.set j (.own sid (v+1)))))[rid]?=some o->o=.box eb (ls.set j (.own sid (v+1))):=λo ho=>by
     rw[List.getElem?_set_self (by simpa using zDk)]at ho;simpa using ho.symm
    have back:∀ i o b',(i=sid\/i=rid)->((σ.h.set sid (.arr e t (v+1) (rows.take k) true)).set rid (.box eb (ls.set j (.own sid (v+1)))))[i]?=some o->o.blks (upd β sid p i) b' ->
     ∃ o0,σ.h[i]?=some o0/\o0.wr=true/\∀ j,o0.at (β i) b' j:=λi o b' hS ho hbk=>by
     rcases hS with rfl|rfl
     ·rw[hgs o ho,hps,sZ]at hbk;exact⟨_,hst,rfl,λj=>Ob.mH hbk⟩
     ·rw[hgr o ho,hpr,zDj]at hbk;exact⟨_,hb,rfl,λj=>Ob.mH hbk⟩
    have hturn:Turn C (λi=>i=sid\/i=rid) σ.h ((σ.h.set sid (.arr e t (v+1) (rows.take k) true)).set rid (.box eb (ls.set j (.own sid (v+1))))) β (upd β sid p) w w:=by
     refine⟨by simp,λi _ hS=>?_,λi h1 h2=>?_,λi hi=>?_,?_,?_,?_,(Keep.refl (λ_ _=>False) w).weaken λ_ _ h=>h.elim,⟨rfl,rfl,rfl⟩,hmv⟩
     ·have h1:i≠sid:=λh=>hS (.inl h)
      have h2:i≠rid:=λh=>hS (.inr h)
      exact⟨by rw[List.getElem?_set_ne (Ne.symm h2),List.getElem?_set_ne (Ne.symm h1)],aU _ _ h1⟩
     ·simp at h2;omega
     ·simp at hi;rw[aU _ _ (by omega)];exact hs.heap.dead i hi
     ·intro i o b' j' hS ho _ _ hat;obtain⟨o0,m1,m2,m3⟩:=back i o b' hS ho ⟨j',hat⟩;exact⟨i,o0,hS,m1,m2,m3 j'⟩
     ·intro i o b' hS ho hbk;obtain⟨o0,m1,m2,m3⟩:=back i o b' hS ho hbk;exact .inl ⟨i,o0,hS,m1,0,m3 0⟩
     ·intro i i' o o' b' hS hS' ho ho' hbi hbj;obtain⟨o0,m1,m2,m3⟩:=back i o b' hS ho hbi;obtain⟨o1,n1,n2,n3⟩:=back i' o' b' hS' ho' hbj;exact hs.heap.kR i i' o0 o1 b' m1 n1 ⟨0,m3 0⟩ ⟨0,n3 0⟩
    refine⟨_,hs.re hturn λi o hS ho=>?_⟩;rcases hS with rfl|rfl
    ·rw[hgs o ho,hps];simp only[Ob.Rel];have hlen:(rows.take k).length=k:=by rw[List.length_take];omega
     refine⟨k1,k2,rfl,k4,k5,hlen.symm,?_⟩;rcases k7 with ⟨g1,g2,g3⟩|⟨b,cur,css,g1,g2,g3,g4,g5,g6,g7⟩
     ·exact .inl ⟨g1,by rw[g2];exact List.take_nil,g3⟩
     ·have hcl:∀ c∈css,c.length=t.size:=λc hc=>by
       obtain⟨x,_,hx⟩:=g3.mem_right c hc;exact hx.length
      refine .inr ⟨b,cur,css.take k,g1,g2,bD.mono (λx c h=>h.mono (Keep.refl _ w) hturn.owns) (g3.take k),?_,g5,by rw[hlen];exact Nat.le_trans hk g6,g7⟩;rw[hlen,<- rX css hcl k,<- g4,List.take_take,Nat.min_eq_left (Nat.mul_le_mul_right _ hk)]
    ·rw[hgr o ho,hpr];simp only[Ob.Rel];refine⟨q1,q2,rb,rcs,q3,?_,q5⟩;refine aG.putAt (l:=.sl sid v 0 k) hmv (Keep.refl _ w) hturn.owns (λcs0 hr=>?_) hl q4;simp only[L.Rel,hps]at hr ⊢;obtain⟨r1,r2,r3,c,r4,r5,r6⟩:=hr;refine⟨k1,k2,aP _,c,r4,r5,λ_=>?_⟩;exact r6 k3
   ·cases h
  ·cases h
 ·cases h
def yQb(h:List Ob)(rid j:Nat):Option (Bool × List Ob):=
 match h[rid]? with
 |some (.box eb ls)=>
  match ls[j]? with
  |some (.own sid u)=>
   match h[sid]? with
   |some (.stk e ei v rows none)=>
    some (Nat.beq v u&&Nat.ble 1 rows.length,
     ((h.set sid (.stk e ei (v+1) (rows.take (rows.length-1)) (some [.val (.int .i64) (rows.getD (rows.length-1) (0,0,[],[],())).1,.val (.int .i64) (rows.getD (rows.length-1) (0,0,[],[],())).2.1,.own h.length 0,.own (h.length+1) 0]))).set rid (.box eb (ls.set j (.own sid (v+1))))) ++
      [.arr ei (.int .i64) 0 (rows.getD (rows.length-1) (0,0,[],[],())).2.2.1 true,.arr ei (.int .i64) 0 (rows.getD (rows.length-1) (0,0,[],[],())).2.2.2.1 true])
   |_=>none
  |_=>none
 |_=>none
def Vu(bs:List Nat)(n cap:Nat):Pl:=match bs with
 |[]=>⟨true,false,0,none,1,0,n,[]⟩
 |b::_=>⟨true,false,0,some b,1,cap,n,[]⟩
theorem zZk{w:World}{ei:TypeId}{xs:List Int}{v:Value}{bs:List Nat}(h:Tq w ei xs v bs):∃ cap,(∀ (β:Nat->Pl) (N:Nat->Nat->Prop),(Ob.arr ei (.int .i64) 0 xs true).Rel β w N (Vu bs xs.length cap))/\eO (Vu bs xs.length cap) 0 xs.length v /\
 (∀ b,(Vu bs xs.length cap).blk=some b<->b∈bs):=by
 rcases h with ⟨rfl,rfl,rfl⟩|⟨b,cap,cur,rfl,rfl,h3,h4,h5,h6,h7⟩
 ·refine⟨0,λβ N=>?_,?_,λb=>by simp[Vu]⟩
  ·show _/\_/\_/\_/\_/\_/\_;exact⟨rfl,rfl,rfl,rfl,by decide,rfl,.inl ⟨rfl,rfl,rfl⟩⟩
  ·show _/\_/\_;exact⟨rfl,rfl,rfl⟩
 ·refine⟨cap,λβ N=>?_,?_,λq=>by simp[Vu];exact eq_comm⟩
  ·show _/\_/\_/\_/\_/\_/\_;refine⟨rfl,rfl,rfl,rfl,by decide,rfl,.inr ⟨b,cur,xs.map λn=>[.int .i64 n],rfl,h3,?_,?_,?_,h6,h7⟩⟩
   ·exact go xs
   ·have e1:(Ty.int IntKind.i64).size=1:=rfl;rw[e1,Nat.mul_one,h4];exact fl xs
   ·have e1:(Ty.int IntKind.i64).size=1:=rfl;rw[e1,Nat.mul_one];exact h5
  ·show _/\_;exact⟨by show 0+xs.length<=cap;omega,0,rfl,.inl (Nat.zero_mul _).symm⟩
where
 go {N:Nat->Nat->Prop}:∀ xs:List Int,bD (λx c=>(Ty.int IntKind.i64).Rel w N x c) xs (xs.map λn=>[.int .i64 n])
  |[]=>trivial
  |_::xs=>⟨rfl,go xs⟩
 fl:∀ xs:List Int,xs.map (Value.int .i64)=(xs.map λn=>[Value.int .i64 n]).flatten
  |[]=>rfl
  |_::xs=>by simp only[List.map_cons,List.flatten_cons,List.singleton_append];rw[fl xs]
theorem zPj(bs:List Nat)(n cap:Nat):(Vu bs n cap).live=true/\(Vu bs n cap).box=false/\(Vu bs n cap).ver=0/\(Vu bs n cap).len=n:=by cases bs<;>exact⟨rfl,rfl,rfl,rfl⟩
theorem yQc{β:Nat->Pl}{w:World}{σ:St}{a:Act}{rid j:Nat}{h':List Ob}(h:yQb σ.h rid j=some (true,h'))(hs:Sim C β σ a w):∃ β',Sim C β' ⟨σ.r,h'⟩ a w:=by
 unfold yQb at h;split at h
 ·rename_i eb ls hb;split at h
  ·rename_i sid u hl;split at h
   ·rename_i e ei v rows hst;simp only[aA,aB,aD]at h;obtain⟨⟨hv,hk⟩,rfl⟩:=h;have hv:=aK hv;have hk:=bR hk;subst hv;have hne:rid≠sid:=λe=>by rw[e,hst]at hb;cases hb
    have zDk:=(bE.1 hb).1;have hlts:=(bE.1 hst).1;have hob:=hs.heap.obj _ _ hst;have hbx:=hs.heap.obj _ _ hb;simp only[Ob.Rel]at hob hbx;obtain⟨k1,k2,k3,k4,k5,b,cur,cs,cs2,bs,g1,g2,g3,g4,g5,g6,g7,g8,g9,g10,g11⟩:=hob;simp only[Vk]at g10;subst g10;obtain⟨q1,q2,rb,rcs,q3,q4,q5⟩:=hbx;obtain⟨lo,f,rfl⟩:∃ lo f,rows=lo++[f]:=by
     rcases List.eq_nil_or_concat rows with h|⟨lo,f,h⟩
     ·rw[h]at hk;simp at hk
     ·exact⟨lo,f,by rw[h,List.concat_eq_append]⟩
    have hln:(lo++[f]).length-1=lo.length:=by simp
    have hget:(lo++[f]).getD lo.length (0,0,[],[],())=f:=by simp[List.getD_eq_getElem?_getD]
    have htk:(lo++[f]).take lo.length=lo:=List.take_left' rfl;rw[hln,hget,htk];obtain⟨c1,c2,d1,d2,f1,f2,f3,f4⟩:=iX.split g9;obtain⟨v1,v2,x1,x2,cs',bs',e1,e2,i1,i2,e3⟩:=f4;obtain⟨rfl,rfl⟩:=e3;rw[List.append_nil]at e2;subst e2;obtain⟨xDl,A1,A2,A3⟩:=zZk i1;obtain⟨cap2,B1,B2,B3⟩:=zZk i2;generalize hP1:Vu x1 f.2.2.1.length xDl=P1 at *;generalize hP2:Vu x2 f.2.2.2.1.length cap2=P2 at *;have P1f:P1.live=true/\P1.box=false/\P1.ver=0/\P1.len=f.2.2.1.length:=by rw[<- hP1];exact zPj _ _ _
    have P2f:P2.live=true/\P2.box=false/\P2.ver=0/\P2.len=f.2.2.2.1.length:=by rw[<- hP2];exact zPj _ _ _
    let p:Pl:={ β sid with ver:=v+1,sub:=d1.map λq=>(q,0) }
    generalize hn:σ.h.length=n at *
    let β':Nat->Pl:=upd (upd (upd β sid p) n P1) (n+1) P2
    have b1:β' n=P1:=by simp only[β'];rw[aU _ _ (by omega),upd_same]
    have b2:β' (n+1)=P2:=by simp only[β'];rw[upd_same]
    have b3:β' sid=p:=by simp only[β'];rw[aU _ _ (by omega),aU _ _ (by omega),upd_same]
    have b4:∀ i,i≠sid->i≠n->i≠n+1->β' i=β i:=λi h1 h2 h3=>by simp only[β'];rw[aU _ _ h3,aU _ _ h2,aU _ _ h1]
    have b5:β' rid=β rid:=b4 rid hne (by omega) (by omega);have hmv:Moves β β':=λi hi=>by
     by_cases h1:i=sid
     ·subst h1;rw[b3];exact .inr ⟨k2,k1,k2,by rw[k3];exact Nat.lt_succ_self _⟩
     ·have hin:i<n:=by
       rcases jB i n with h2|h2
       ·exact h2
       ·rw[hs.heap.dead i (by omega)]at hi;cases hi
      exact .inl (b4 i h1 (by omega) (by omega))
    generalize hH:((σ.h.set sid (Ob.stk e ei (v+1) lo (some [.val (.int .i64) f.1,.val (.int .i64) f.2.1,.own n 0,.own (n+1) 0]))).set rid (.box eb (ls.set j (.own sid (v+1)))))++[Ob.arr ei (.int .i64) 0 f.2.2.1 true,Ob.arr ei (.int .i64) 0 f.2.2.2.1 true]=H;have hHl:H.length=n+2:=by rw[<- hH];simp[hn]
    have hlo:∀ i,i<n->H[i]?=((σ.h.set sid (Ob.stk e ei (v+1) lo (some [.val (.int .i64) f.1,.val (.int .i64) f.2.1,.own n 0,.own (n+1) 0]))).set rid (.box eb (ls.set j (.own sid (v+1)))))[i]?:=λi hi=>by rw[<- hH,fV (by simp[hn];exact hi)]
    have hgs:∀ o,H[sid]?=some o->o=.stk e ei (v+1) lo (some [.val (.int .i64) f.1,.val (.int .i64) f.2.1,.own n 0,.own (n+1) 0]):=λo ho=>by
     rw[hlo sid (by omega),List.getElem?_set_ne hne,List.getElem?_set_self (by omega)]at ho;simpa using ho.symm
    have hgr:∀ o,H[rid]?=some o->o=.box eb (ls.set j (.own sid (v+1))):=λo ho=>by
     rw[hlo rid (by omega),List.getElem?_set_self (by simp[hn];omega)]at ho;simpa using ho.symm
    have hgn:∀ o,H[n]?=some o->o=.arr ei (.int .i64) 0 f.2.2.1 true:=λo ho=>by
     rw[<- hH,List.getElem?_append_right (by simp[hn])]at ho;simp[hn]at ho;exact ho.symm
    have hgm:∀ o,H[n+1]?=some o->o=.arr ei (.int .i64) 0 f.2.2.2.1 true:=λo ho=>by
     rw[<- hH,List.getElem?_append_right (by simp[hn])]at ho;simp[hn]at ho;exact ho.symm
    have hnd:=g7;rw[f2]at hnd;obtain⟨nd1,nd2,nd3⟩:=List.nodup_append.1 hnd;obtain⟨nd4,nd5,nd6⟩:=List.nodup_append.1 nd2;have own:∀ q,b=q\/q∈bs->∃ o0,σ.h[sid]?=some o0/\o0.wr=true/\∀ j,o0.at (β sid) q j:=λq hq=>⟨_,hst,rfl,λj=>(Ht g6).2 (by rw[g1];exact hq.imp (λh=>by rw[h]) id)⟩
    have back:∀ i o q,(i=sid\/i=rid\/i=n\/i=n+1)->H[i]?=some o->o.blks (β' i) q ->
     (i≠rid/\(b=q\/q∈bs))\/(i=rid/\(β rid).blk=some q):=λi o q hS ho hbk=>by
     rcases hS with rfl|rfl|rfl|rfl
     ·rw[hgs o ho,b3,oV (p:=p) rfl]at hbk;refine .inl ⟨Ne.symm hne,?_⟩;rcases hbk with h|h
      ·have h:(β i).blk=some q:=h;rw[g1]at h;exact .inl (by simpa using h)
      ·exact .inr (by rw[f2];exact List.mem_append_left _ h)
     ·rw[hgr o ho,b5,zDj]at hbk;exact .inr ⟨rfl,hbk⟩
     ·rw[hgn o ho,b1,sZ,A3]at hbk;exact .inl ⟨by omega,.inr (by rw[f2];exact List.mem_append_right _ (List.mem_append_left _ hbk))⟩
     ·rw[hgm o ho,b2,sZ,B3]at hbk;exact .inl ⟨by omega,.inr (by rw[f2];exact List.mem_append_right _ (List.mem_append_right _ hbk))⟩
    have yQd:∀ q,(β rid).blk=some q->∃ o0,σ.h[rid]?=some o0/\o0.wr=true/\∀ j,o0.at (β rid) q j:=λq hq=>⟨_,hb,rfl,λj=>Ob.mH hq⟩
    have hsep:∀ q,(b=q\/q∈bs)->(β rid).blk=some q->False:=λq h1 h2=>by
     obtain⟨o0,m1,m2,m3⟩:=own q h1;obtain⟨o1,n1,n2,n3⟩:=yQd q h2;exact hne (hs.heap.kR rid sid o1 o0 q n1 m1 ⟨0,n3 0⟩ ⟨0,m3 0⟩)
    have hturn:Turn C (λi=>i=sid\/i=rid\/i=n\/i=n+1) σ.h H β β' w w:=by
     refine⟨by omega,λi hi hS=>?_,λi h1 h2=>?_,λi hi=>?_,?_,?_,?_,(Keep.refl (λ_ _=>False) w).weaken λ_ _ h=>h.elim,⟨rfl,rfl,rfl⟩,hmv⟩
     ·have h1:i≠sid:=λh=>hS (.inl h)
      have h2:i≠rid:=λh=>hS (.inr (.inl h))
      exact⟨by rw[hlo i (by omega),List.getElem?_set_ne (Ne.symm h2),List.getElem?_set_ne (Ne.symm h1)],b4 i h1 (by omega) (by omega)⟩
     ·have:i=n\/i=n+1:=by omega
      exact .inr (.inr this)
     ·rw[b4 i (by omega) (by omega) (by omega)];exact hs.heap.dead i (by omega)
     ·intro i o q j' hS ho _ _ hat;rcases back i o q hS ho ⟨j',hat⟩with ⟨_,h2⟩|⟨_,h2⟩
      ·obtain⟨o0,m1,m2,m3⟩:=own q h2;exact⟨sid,o0,.inl rfl,m1,m2,m3 j'⟩
      ·obtain⟨o0,m1,m2,m3⟩:=yQd q h2;exact⟨rid,o0,.inr (.inl rfl),m1,m2,m3 j'⟩
     ·intro i o q hS ho hbk;rcases back i o q hS ho hbk with ⟨_,h2⟩|⟨_,h2⟩
      ·obtain⟨o0,m1,m2,m3⟩:=own q h2;exact .inl ⟨sid,o0,.inl rfl,m1,0,m3 0⟩
      ·obtain⟨o0,m1,m2,m3⟩:=yQd q h2;exact .inl ⟨rid,o0,.inr (.inl rfl),m1,0,m3 0⟩
     ·intro i i' o o' q hS hS' ho ho' hbi hbj;rcases back i o q hS ho hbi with ⟨r1,r2⟩|⟨r1,r2⟩<;>rcases back i' o' q hS' ho' hbj with ⟨r3,r4⟩|⟨r3,r4⟩
      ·have sb:∀ q,(β sid).blk=some q->q=b:=λq h=>by rw[g1]at h;simpa using h.symm
       rcases hS with rfl|rfl|rfl|rfl
       ·rw[hgs o ho,b3,oV (p:=p) rfl]at hbi;rcases hS' with rfl|rfl|rfl|rfl
        ·rfl
        ·exact absurd rfl r3
        ·exfalso;rw[hgn o' ho',b1,sZ,A3]at hbj;rcases hbi with h|h
         ·exact g8 (by rw[<- sb q h,f2];exact List.mem_append_right _ (List.mem_append_left _ hbj))
         ·exact nd3 q h q (List.mem_append_left _ hbj) rfl
        ·exfalso;rw[hgm o' ho',b2,sZ,B3]at hbj;rcases hbi with h|h
         ·exact g8 (by rw[<- sb q h,f2];exact List.mem_append_right _ (List.mem_append_right _ hbj))
         ·exact nd3 q h q (List.mem_append_right _ hbj) rfl
       ·exact absurd rfl r1
       ·rw[hgn o ho,b1,sZ,A3]at hbi;rcases hS' with rfl|rfl|rfl|rfl
        ·exfalso;rw[hgs o' ho',b3,oV (p:=p) rfl]at hbj;rcases hbj with h|h
         ·exact g8 (by rw[<- sb q h,f2];exact List.mem_append_right _ (List.mem_append_left _ hbi))
         ·exact nd3 q h q (List.mem_append_left _ hbi) rfl
        ·exact absurd rfl r3
        ·rfl
        ·exfalso;rw[hgm o' ho',b2,sZ,B3]at hbj;exact nd6 q hbi q hbj rfl
       ·rw[hgm o ho,b2,sZ,B3]at hbi;rcases hS' with rfl|rfl|rfl|rfl
        ·exfalso;rw[hgs o' ho',b3,oV (p:=p) rfl]at hbj;rcases hbj with h|h
         ·exact g8 (by rw[<- sb q h,f2];exact List.mem_append_right _ (List.mem_append_right _ hbi))
         ·exact nd3 q h q (List.mem_append_right _ hbi) rfl
        ·exact absurd rfl r3
        ·exfalso;rw[hgn o' ho',b1,sZ,A3]at hbj;exact nd6 q hbj q hbi rfl
        ·rfl
      ·exact(hsep q r2 r4).elim
      ·exact(hsep q r4 r2).elim
      ·rw[r1,r3]
    refine⟨_,hs.re hturn λi o hS ho=>?_⟩;rcases hS with rfl|rfl|rfl|rfl
    ·rw[hgs o ho,b3];simp only[Ob.Rel];refine⟨k1,k2,rfl,k4,by simp only[p,k5,Kq];simp,b,cur,c1,c2,d1,g1,g2,g3,g4,g5,rfl,nd1,λh=>g8 (by rw[f2];exact List.mem_append_left _ h),f3,⟨?_,by rw[e1];rfl⟩,?_⟩
     ·rw[e1];refine⟨[_],_,rfl,by simp only[L.Rel,Ty.Rel],[_],_,rfl,by simp only[L.Rel,Ty.Rel],[v1],[v2],rfl,?_,[v2],[],rfl,?_,rfl⟩
      ·simp only[L.Rel,b1];exact⟨P1f.1,P1f.2.1,by omega,_,rfl,i1.one,λ_=>by rw[P1f.2.2.2];exact A2⟩
      ·simp only[L.Rel,b2];exact⟨P2f.1,P2f.2.1,by omega,_,rfl,i2.one,λ_=>by rw[P2f.2.2.2];exact B2⟩
     ·rw[List.append_nil]at g11;rw[<- f1];exact g11
    ·rw[hgr o ho,b5];simp only[Ob.Rel];refine⟨q1,q2,rb,rcs,q3,?_,q5⟩;refine aG.putAt (l:=.own sid v) hmv (Keep.refl _ w) hturn.owns (λcs0 hr=>?_) hl q4;simp only[L.Rel,b3]at hr ⊢;obtain⟨r1,r2,r3,c,r4,r5,r6⟩:=hr;exact⟨k1,k2,aP _,c,r4,r5,λ_=>r6 k3⟩
    ·rw[hgn o ho,b1];exact A1 _ _
    ·rw[hgm o ho,b2];exact B1 _ _
   ·cases h
  ·cases h
 ·cases h
def yQe(h:List Ob)(rid j:Nat):Option (Bool × List Ob):=
 match h[rid]? with
 |some (.box eb ls)=>
  match ls[j]? with
  |some (.own sid u)=>
   match h[sid]? with
   |some (.stk e ei v rows (some [.val (.int .i64) x,.val (.int .i64) y,.own i1 u1,.own i2 u2]))=>
    match h[i1]?,h[i2]? with
    |some (.arr e1 (.int .i64) w1 r1 true),some (.arr e2 (.int .i64) w2 r2 true)=>
     if e1=ei/\e2=ei/\i1≠i2 then
      some (Nat.beq v u&&(Nat.beq w1 u1&&Nat.beq w2 u2),
       ((((h.set sid (.stk e ei (v+1) (rows++[(x,y,r1,r2,())]) none)).set rid (.box eb (ls.set j (.own sid (v+1))))).set i1 (.arr ei (.int .i64) (w1+1) [] true)).set i2 (.arr ei (.int .i64) (w2+1) [] true)))
     else none
    |_,_=>none
   |_=>none
  |_=>none
 |_=>none
def zDl(p:Pl):List Nat:=match p.blk with
 |none=>[]
 |some b=>[b]
theorem zZl{p:Pl}{b:Nat}:b∈zDl p<->p.blk=some b:=by
 unfold zDl;cases p.blk with
 |none=>simp
 |some c=>simp;exact eq_comm
theorem zPk(p:Pl):(zDl p).Nodup:=by
 unfold zDl;cases p.blk<;>simp
theorem row_in{β:Nat->Pl}{w:World}{N:Nat->Nat->Prop}{ei:TypeId}{ver:Nat}{xs:List Int}{p:Pl}{c:Value}(h:(Ob.arr ei (.int .i64) ver xs true).Rel β w N p)(hc:eO p 0 p.len c):Tq w ei xs c (zDl p):=by
 obtain⟨h1,h2,h3,h4,h5,h6,h7⟩:=h;have hone:(Ty.int IntKind.i64).size=1:=rfl;rcases h7 with ⟨h7,rfl,_⟩|⟨b,cur,css,k1,k2,k3,k4,k5,k6,k7⟩
 ·unfold eO at hc;rw[h7]at hc;exact .inl ⟨hc.1,rfl,by simp[zDl,h7]⟩
 ·unfold eO at hc;rw[k1]at hc;obtain⟨_,o,rfl,ho⟩:=hc;have:o=0:=by
   rcases ho with h|h
   ·simpa using h
   ·omega
  subst this;rw[hone,Nat.mul_one]at k4 k5;refine .inr ⟨b,p.cap,cur,by simp[zDl,k1],by rw[h6];rfl,k2,?_,k5,k6,k7⟩;have h6':xs.length=xs.length:=rfl;rw[k4];exact go k3
where
 go {w:World}{N:Nat->Nat->Prop}:∀ {xs:List Int}{css:List (List Value)},bD (λx c=>(Ty.int IntKind.i64).Rel w N x c) xs css->css.flatten=xs.map (Value.int .i64)
  |[],[],_=>rfl
  |x::xs,c::css,h=>by
   have h1:c=[.int .i64 x]:=h.1;rw[List.flatten_cons,h1,go h.2];rfl
  |[],_::_,h=>h.elim
  |_::_,[],h=>h.elim
theorem yQf{β:Nat->Pl}{w:World}{σ:St}{a:Act}{rid j:Nat}{h':List Ob}(h:yQe σ.h rid j=some (true,h'))(hs:Sim C β σ a w):∃ β',Sim C β' ⟨σ.r,h'⟩ a w:=by
 unfold yQe at h;split at h
 ·rename_i eb ls hb;split at h
  ·rename_i sid u hl;split at h
   ·rename_i e ei v rows x y i1 u1 i2 u2 hst;split at h
    ·rename_i e1 w1 r1 e2 w2 r2 ho1 ho2;split at h
     ·rename_i hc;obtain⟨rfl,rfl,yQg⟩:=hc;simp only[aA,aB,aD]at h;obtain⟨⟨hv,hv1,hv2⟩,rfl⟩:=h;have hv:=aK hv;have hv1:=aK hv1;have hv2:=aK hv2;subst hv hv1 hv2;have hne:rid≠sid:=λe=>by rw[e,hst]at hb;cases hb
      have hr1:i1≠rid:=λe=>by rw[e,hb]at ho1;cases ho1
      have hr2:i2≠rid:=λe=>by rw[e,hb]at ho2;cases ho2
      have hs1:i1≠sid:=λe=>by rw[e,hst]at ho1;cases ho1
      have hs2:i2≠sid:=λe=>by rw[e,hst]at ho2;cases ho2
      have zDk:=(bE.1 hb).1;have hlts:=(bE.1 hst).1;have hlt1:=(bE.1 ho1).1;have hlt2:=(bE.1 ho2).1;have hob:=hs.heap.obj _ _ hst;have hbx:=hs.heap.obj _ _ hb;have Vq:=hs.heap.obj _ _ ho1;have Vr:=hs.heap.obj _ _ ho2;have hA1:=Vq;have hA2:=Vr;simp only[Ob.Rel]at hob hbx Vq Vr;obtain⟨k1,k2,k3,k4,k5,b,cur,cs,cs2,bs,g1,g2,g3,g4,g5,g6,g7,g8,g9,⟨g10,yYc⟩,g11⟩:=hob;obtain⟨q1,q2,rb,rcs,q3,q4,q5⟩:=hbx;obtain⟨c1,t1,f1,m1,c2,t2,f2,m2,c3,t3,f3,m3,c4,t4,f4,m4,f5⟩:=g10;simp only[aG]at f5;simp only[L.Rel,Ty.Rel]at m1 m2 m3 m4;subst f5 m1 m2;rw[List.append_nil]at f4;obtain⟨_,_,_,z3,rfl,_,n3⟩:=m3;obtain⟨_,_,_,z4,rfl,_,n4⟩:=m4;subst f4 f3 f2 f1;have I1:=row_in hA1 (n3 Vq.2.2.1);have I2:=row_in hA2 (n4 Vr.2.2.1);generalize hx1:zDl (β i1)=x1 at *;generalize hx2:zDl (β i2)=x2 at *;have X1:∀ q,q∈x1<->(β i1).blk=some q:=λq=>by rw[<- hx1];exact zZl
      have X2:∀ q,q∈x2<->(β i2).blk=some q:=λq=>by rw[<- hx2];exact zZl
      have X1n:x1.Nodup:=by rw[<- hx1];exact zPk _
      have X2n:x2.Nodup:=by rw[<- hx2];exact zPk _
      let p:Pl:={ β sid with ver:=v+1,sub:=(bs++(x1++x2)).map λq=>(q,0) }
      let P1:Pl:=⟨true,false,w1+1,none,1,0,0,[]⟩
      let P2:Pl:=⟨true,false,w2+1,none,1,0,0,[]⟩
      let β':Nat->Pl:=upd (upd (upd β sid p) i1 P1) i2 P2
      have b1:β' i1=P1:=by simp only[β'];rw[aU _ _ yQg,upd_same]
      have b2:β' i2=P2:=by simp only[β'];rw[upd_same]
      have b3:β' sid=p:=by simp only[β'];rw[aU _ _ (Ne.symm hs2),aU _ _ (Ne.symm hs1),upd_same]
      have b4:∀ i,i≠sid->i≠i1->i≠i2->β' i=β i:=λi h1 h2 h3=>by simp only[β'];rw[aU _ _ h3,aU _ _ h2,aU _ _ h1]
      have b5:β' rid=β rid:=b4 rid hne (Ne.symm hr1) (Ne.symm hr2);have hmv:Moves β β':=λi hi=>by
       by_cases h1:i=sid
       ·subst h1;rw[b3];exact .inr ⟨k2,k1,k2,by rw[k3];exact Nat.lt_succ_self _⟩
       ·by_cases h2:i=i1
        ·subst h2;rw[b1];exact .inr ⟨Vq.2.1,rfl,rfl,by rw[Vq.2.2.1];exact Nat.lt_succ_self _⟩
        ·by_cases h3:i=i2
         ·subst h3;rw[b2];exact .inr ⟨Vr.2.1,rfl,rfl,by rw[Vr.2.2.1];exact Nat.lt_succ_self _⟩
         ·exact .inl (b4 i h1 h2 h3)
      generalize hH:((((σ.h.set sid (Ob.stk e e2 (v+1) (rows++[(x,y,r1,r2,())]) none)).set rid (.box eb (ls.set j (.own sid (v+1))))).set i1 (.arr e2 (.int .i64) (w1+1) [] true)).set i2 (.arr e2 (.int .i64) (w2+1) [] true))=H;have hHl:H.length=σ.h.length:=by rw[<- hH];simp
      have hgs:∀ o,H[sid]?=some o->o=.stk e e2 (v+1) (rows++[(x,y,r1,r2,())]) none:=λo ho=>by
       rw[<- hH,List.getElem?_set_ne hs2,List.getElem?_set_ne hs1,List.getElem?_set_ne hne,List.getElem?_set_self hlts]at ho;simpa using ho.symm
      have hgr:∀ o,H[rid]?=some o->o=.box eb (ls.set j (.own sid (v+1))):=λo ho=>by
       rw[<- hH,List.getElem?_set_ne hr2,List.getElem?_set_ne hr1,List.getElem?_set_self (by simpa using zDk)]at ho;simpa using ho.symm
      have hg1:∀ o,H[i1]?=some o->o=.arr e2 (.int .i64) (w1+1) [] true:=λo ho=>by
       rw[<- hH,List.getElem?_set_ne (Ne.symm yQg),List.getElem?_set_self (by simpa using hlt1)]at ho;simpa using ho.symm
      have hg2:∀ o,H[i2]?=some o->o=.arr e2 (.int .i64) (w2+1) [] true:=λo ho=>by
       rw[<- hH,List.getElem?_set_self (by simpa using hlt2)]at ho;simpa using ho.symm
      have zSo:∀ q,b=q\/q∈bs->∃ o0,σ.h[sid]?=some o0/\o0.wr=true/\∀ j,o0.at (β sid) q j:=λq hq=>⟨_,hst,rfl,λj=>(Ht g6).2 (by rw[g1];exact hq.imp (λh=>by rw[h]) id)⟩
      have yIh:∀ q,q∈x1->∃ o0,σ.h[i1]?=some o0/\o0.wr=true/\∀ j,o0.at (β i1) q j:=λq hq=>⟨_,ho1,rfl,λj=>Ob.mH ((X1 q).1 hq)⟩
      have yIi:∀ q,q∈x2->∃ o0,σ.h[i2]?=some o0/\o0.wr=true/\∀ j,o0.at (β i2) q j:=λq hq=>⟨_,ho2,rfl,λj=>Ob.mH ((X2 q).1 hq)⟩
      have zDm:∀ q,(β rid).blk=some q->∃ o0,σ.h[rid]?=some o0/\o0.wr=true/\∀ j,o0.at (β rid) q j:=λq hq=>⟨_,hb,rfl,λj=>Ob.mH hq⟩
      have sep:∀ {i i' q:Nat},(∃ o0:Ob,σ.h[i]?=some o0/\o0.wr=true/\∀ j,o0.at (β i) q j)->(∃ o0:Ob,σ.h[i']?=some o0/\o0.wr=true/\∀ j,o0.at (β i') q j)->i=i':=λ{i i' q} h1 h2=>by
       obtain⟨o0,a1,_,a3⟩:=h1;obtain⟨o1,c1,_,c3⟩:=h2;exact hs.heap.kR i i' o0 o1 q a1 c1 ⟨0,a3 0⟩ ⟨0,c3 0⟩
      have back:∀ i o q,(i=sid\/i=rid\/i=i1\/i=i2)->H[i]?=some o->o.blks (β' i) q ->
       (i=sid/\∃ i0,(i0=sid\/i0=i1\/i0=i2)/\∃ o0,σ.h[i0]?=some o0/\o0.wr=true/\∀ j,o0.at (β i0) q j)\/(i=rid/\∃ o0,σ.h[rid]?=some o0/\o0.wr=true/\∀ j,o0.at (β rid) q j):=λi o q hS ho hbk=>by
       rcases hS with rfl|rfl|rfl|rfl
       ·rw[hgs o ho,b3,oV (p:=p) rfl]at hbk;refine .inl ⟨rfl,?_⟩;rcases hbk with h|h
        ·have h:(β i).blk=some q:=h;rw[g1]at h;exact⟨i,.inl rfl,zSo q (.inl (by simpa using h))⟩
        ·rcases List.mem_append.1 h with h|h
         ·exact⟨i,.inl rfl,zSo q (.inr h)⟩
         ·rcases List.mem_append.1 h with h|h
          ·exact⟨i1,.inr (.inl rfl),yIh q h⟩
          ·exact⟨i2,.inr (.inr rfl),yIi q h⟩
       ·rw[hgr o ho,b5,zDj]at hbk;exact .inr ⟨rfl,zDm q hbk⟩
       ·rw[hg1 o ho,b1,sZ]at hbk;cases hbk
       ·rw[hg2 o ho,b2,sZ]at hbk;cases hbk
      have hturn:Turn C (λi=>i=sid\/i=rid\/i=i1\/i=i2) σ.h H β β' w w:=by
       refine⟨by omega,λi hi hS=>?_,λi h1 h2=>by omega,λi hi=>?_,?_,?_,?_,(Keep.refl (λ_ _=>False) w).weaken λ_ _ h=>h.elim,⟨rfl,rfl,rfl⟩,hmv⟩
       ·have h1:i≠sid:=λh=>hS (.inl h)
        have h2:i≠rid:=λh=>hS (.inr (.inl h))
        have h3:i≠i1:=λh=>hS (.inr (.inr (.inl h)))
        have h4:i≠i2:=λh=>hS (.inr (.inr (.inr h)))
        exact⟨by rw[<- hH,List.getElem?_set_ne (Ne.symm h4),List.getElem?_set_ne (Ne.symm h3),List.getElem?_set_ne (Ne.symm h2),List.getElem?_set_ne (Ne.symm h1)],b4 i h1 h3 h4⟩
       ·rw[b4 i (by omega) (by omega) (by omega)];exact hs.heap.dead i (by omega)
       ·intro i o q j' hS ho _ _ hat;rcases back i o q hS ho ⟨j',hat⟩with ⟨_,i0,h0,o0,a1,a2,a3⟩|⟨_,o0,a1,a2,a3⟩
        ·refine⟨i0,o0,?_,a1,a2,a3 j'⟩;rcases h0 with h|h|h
         ·exact .inl h
         ·exact .inr (.inr (.inl h))
         ·exact .inr (.inr (.inr h))
        ·exact⟨rid,o0,.inr (.inl rfl),a1,a2,a3 j'⟩
       ·intro i o q hS ho hbk;rcases back i o q hS ho hbk with ⟨_,i0,h0,o0,a1,a2,a3⟩|⟨_,o0,a1,a2,a3⟩
        ·refine .inl ⟨i0,o0,?_,a1,0,a3 0⟩;rcases h0 with h|h|h
         ·exact .inl h
         ·exact .inr (.inr (.inl h))
         ·exact .inr (.inr (.inr h))
        ·exact .inl ⟨rid,o0,.inr (.inl rfl),a1,0,a3 0⟩
       ·intro i i' o o' q hS hS' ho ho' hbi hbj;rcases back i o q hS ho hbi with ⟨r3,i0,h0,hh⟩|⟨r3,hh⟩<;>rcases back i' o' q hS' ho' hbj with ⟨r4,i0',h0',hh'⟩|⟨r4,hh'⟩
        ·rw[r3,r4]
        ·exfalso;have:=sep hh hh';rcases h0 with h|h|h
         ·exact hne (by rw[<- this,h])
         ·exact hr1 (by rw[<- h,this])
         ·exact hr2 (by rw[<- h,this])
        ·exfalso;have:=sep hh' hh;rcases h0' with h|h|h
         ·exact hne (by rw[<- this,h])
         ·exact hr1 (by rw[<- h,this])
         ·exact hr2 (by rw[<- h,this])
        ·rw[r3,r4]
      refine⟨_,hs.re hturn λi o hS ho=>?_⟩;rcases hS with rfl|rfl|rfl|rfl
      ·rw[hgs o ho,b3];simp only[Ob.Rel];have hnd:(bs++(x1++x2)).Nodup:=by
        refine List.nodup_append.2 ⟨g7,List.nodup_append.2 ⟨X1n,X2n,λq hq q' hq' e=>?_⟩,λq hq q' hq' e=>?_⟩
        ·subst e;exact yQg (sep (yIh q hq) (yIi q hq'))
        ·subst e;rcases List.mem_append.1 hq' with h|h
         ·exact hs1 (sep (yIh q h) (zSo q (.inr hq)))
         ·exact hs2 (sep (yIi q h) (zSo q (.inr hq)))
       have hbn:b∉bs++(x1++x2):=λh=>by
        rcases List.mem_append.1 h with h|h
        ·exact g8 h
        ·rcases List.mem_append.1 h with h|h
         ·exact hs1 (sep (yIh b h) (zSo b (.inl rfl)))
         ·exact hs2 (sep (yIi b h) (zSo b (.inl rfl)))
       refine⟨k1,k2,rfl,k4,by simp only[p,k5,Kq,List.length_append,List.length_cons,List.length_nil],b,cur,cs++[.int .i64 x,.int .i64 y,z3,z4],[],bs++(x1++x2),g1,g2,g3,g4,g5,rfl,hnd,hbn,?_,rfl,?_⟩
       ·have hone:iX w e2 [(x,y,r1,r2,())] [.int .i64 x,.int .i64 y,z3,z4] (x1++(x2++[])):=⟨z3,z4,x1,x2,[],[],rfl,rfl,I1,I2,rfl,rfl⟩;rw[List.append_nil]at hone;exact g9.append hone
       ·rw[List.append_nil];exact g11
      ·rw[hgr o ho,b5];simp only[Ob.Rel];refine⟨q1,q2,rb,rcs,q3,?_,q5⟩;refine aG.putAt (l:=.own sid v) hmv (Keep.refl _ w) hturn.owns (λcs0 hr=>?_) hl q4;simp only[L.Rel,b3]at hr ⊢;obtain⟨r1',r2',r3',c,r4',r5',r6'⟩:=hr;exact⟨k1,k2,aP _,c,r4',r5',λ_=>r6' k3⟩
      ·rw[hg1 o ho,b1];exact⟨rfl,rfl,rfl,rfl,by decide,rfl,.inl ⟨rfl,rfl,rfl⟩⟩
      ·rw[hg2 o ho,b2];exact⟨rfl,rfl,rfl,rfl,by decide,rfl,.inl ⟨rfl,rfl,rfl⟩⟩
     ·cases h
    ·cases h
   ·cases h
  ·cases h
 ·cases h
def zSp(h:List Ob)(sid k:Nat):Option (Bool × List Ob):=
 match h[sid]? with
 |some (.stk e ei v rows (some ls))=>
  match ls[k]? with
  |some .bJ=>some (true,h.set sid (.stk e ei v rows (some (ls.set k (.own h.length 0))))++[.arr ei (.int .i64) 0 [] true])
  |some (.own ..)=>some (true,h)
  |_=>none
 |_=>none
theorem yQh{β:Nat->Pl}{w:World}{σ:St}{a:Act}{sid k:Nat}{h':List Ob}(h:zSp σ.h sid k=some (true,h'))(hs:Sim C β σ a w):∃ β',Sim C β' ⟨σ.r,h'⟩ a w:=by
 unfold zSp at h;split at h
 ·rename_i e ei v rows ls hst;split at h
  ·rename_i hl;simp only[aA,aB,true_and]at h;subst h;have hlts:=(bE.1 hst).1;have hob:=hs.heap.obj _ _ hst;simp only[Ob.Rel]at hob;obtain⟨k1,k2,k3,k4,k5,b,cur,cs,cs2,bs,g1,g2,g3,g4,g5,g6,g7,g8,g9,⟨g10,yYc⟩,g11⟩:=hob
   let P0:Pl:=⟨true,false,0,none,1,0,0,[]⟩
   generalize hn:σ.h.length=n at *;have b1:upd β n P0 n=P0:=upd_same _ _ _;have b2:∀ i,i≠n->upd β n P0 i=β i:=λi hi=>aU _ _ hi
   have hmv:Moves β (upd β n P0):=λi hi=>by
    refine .inl (b2 i λe=>?_);subst e;rw[hs.heap.dead i (by omega)]at hi;cases hi
   generalize hH:σ.h.set sid (Ob.stk e ei v rows (some (ls.set k (.own n 0))))++[Ob.arr ei (.int .i64) 0 [] true]=H;have hHl:H.length=n+1:=by rw[<- hH];simp[hn]
   have hlo:∀ i,i<n->H[i]?=(σ.h.set sid (Ob.stk e ei v rows (some (ls.set k (.own n 0)))))[i]?:=λi hi=>by rw[<- hH,fV (by simp[hn];exact hi)]
   have hgs:∀ o,H[sid]?=some o->o=.stk e ei v rows (some (ls.set k (.own n 0))):=λo ho=>by
    rw[hlo sid (by omega),List.getElem?_set_self (by omega)]at ho;simpa using ho.symm
   have hgn:∀ o,H[n]?=some o->o=.arr ei (.int .i64) 0 [] true:=λo ho=>by
    rw[<- hH,List.getElem?_append_right (by simp[hn])]at ho;simp[hn]at ho;exact ho.symm
   have back:∀ i o q,(i=sid\/i=n)->H[i]?=some o->o.blks (upd β n P0 i) q->i=sid/\∃ o0,σ.h[sid]?=some o0/\o0.wr=true/\∀ j,o0.at (β sid) q j:=λi o q hS ho hbk=>by
    rcases hS with rfl|rfl
    ·rw[hgs o ho,b2 i (by omega),oV g6]at hbk;exact⟨rfl,_,hst,rfl,λj=>(Ht g6).2 hbk⟩
    ·rw[hgn o ho,b1,sZ]at hbk;cases hbk
   have hturn:Turn C (λi=>i=sid\/i=n) σ.h H β (upd β n P0) w w:=by
    refine⟨by omega,λi hi hS=>?_,λi h1 h2=>.inr (by omega),λi hi=>?_,?_,?_,?_,(Keep.refl (λ_ _=>False) w).weaken λ_ _ h=>h.elim,⟨rfl,rfl,rfl⟩,hmv⟩
    ·have h1:i≠sid:=λh=>hS (.inl h)
     exact⟨by rw[hlo i (by omega),List.getElem?_set_ne (Ne.symm h1)],b2 i (by omega)⟩
    ·rw[b2 i (by omega)];exact hs.heap.dead i (by omega)
    ·intro i o q j' hS ho _ _ hat;obtain⟨_,o0,m1,m2,m3⟩:=back i o q hS ho ⟨j',hat⟩;exact⟨sid,o0,.inl rfl,m1,m2,m3 j'⟩
    ·intro i o q hS ho hbk;obtain⟨_,o0,m1,m2,m3⟩:=back i o q hS ho hbk;exact .inl ⟨sid,o0,.inl rfl,m1,0,m3 0⟩
    ·intro i i' o o' q hS hS' ho ho' hbi hbj;rw[(back i o q hS ho hbi).1,(back i' o' q hS' ho' hbj).1]
   refine⟨_,hs.re hturn λi o hS ho=>?_⟩;rcases hS with rfl|rfl
   ·rw[hgs o ho,b2 i (by omega)];simp only[Ob.Rel];refine⟨k1,k2,k3,k4,k5,b,cur,cs,cs2,bs,g1,g2,g3,g4,g5,g6,g7,g8,g9,⟨?_,yYc⟩,g11⟩;refine aG.putAt (l:=.bJ) hmv (Keep.refl _ w) hturn.owns (λcs0 hr=>?_) hl g10;simp only[L.Rel,b1]at hr ⊢;subst hr;exact⟨rfl,rfl,aP _,_,rfl,rfl,λ_=>⟨rfl,rfl,rfl⟩⟩
   ·rw[hgn o ho,b1];exact⟨rfl,rfl,rfl,rfl,by decide,rfl,.inl ⟨rfl,rfl,rfl⟩⟩
  ·simp only[aA,aB,true_and]at h;subst h;exact⟨β,hs⟩
  ·cases h
 ·cases h
theorem fB.zGy{C:Ctx}{β:Nat->Pl}{h:List Ob}{w:World}{id:Nat}{e:TypeId}{ls ls':List L}(hs:fB C β h w)(ho:h[id]?=some (.box e ls))(hl:∀ cs,aG β w (C.N β h) ls cs->w.heap[((β id).blk).getD 0]?=some (.cells cs.toArray e (0,0))->aG β w (C.N β h) ls' cs):fB C β (h.set id (.box e ls')) w/\∀ b j,b<w.heap.size->C.N β (h.set id (.box e ls')) b j->C.N β h b j:=by
 have hob:=hs.obj _ _ ho;simp only[Ob.Rel]at hob;obtain⟨h1,h2,b,cs,h3,h4,h5⟩:=hob;have hlt:=(bE.1 ho).1;have hg:∀ o,(h.set id (.box e ls'))[id]?=some o->o=.box e ls':=λo h=>by
  rw[List.getElem?_set_self hlt]at h;simpa using h.symm
 have hturn:Turn C (λi=>i=id) h (h.set id (.box e ls')) β β w w:=by
  refine⟨by simp,λi _ hS=>⟨by rw[List.getElem?_set_ne (Ne.symm hS)],rfl⟩,λi h1 h2=>?_,λi hi=>hs.dead i (by simpa using hi),?_,?_,?_,(Keep.refl (λ_ _=>False) w).weaken λ_ _ h=>h.elim,⟨rfl,rfl,rfl⟩,Moves.refl β⟩
  ·simp at h2;omega
  ·rintro i o b' j rfl ho' _ _ hat;rw[hg o ho']at hat;exact⟨i,_,rfl,ho,rfl,Ob.zA rfl rfl rfl hat⟩
  ·rintro i o b' rfl ho' hb;rw[hg o ho']at hb;exact .inl ⟨i,_,rfl,ho,Ob.mI rfl rfl rfl hb⟩
  ·rintro i j o o' b' rfl rfl _ _ _ _;rfl
 refine⟨hs.re hturn λi o hS ho'=>?_,hturn.owns⟩;subst hS;rw[hg o ho'];simp only[Ob.Rel];refine⟨h1,h2,b,cs,h3,?_,h5⟩;exact(hl cs h4 (by rw[h3];exact h5)).mono (Moves.refl β) (Keep.refl _ w) hturn.owns
theorem aG.cell{β:Nat->Pl}{w:World}{N:Nat->Nat->Prop}{l:L}(hz:l.size=1):∀ {ls:List L}{j:Nat}{cs:List Value},ls[j]?=some l->aG β w N ls cs->∃ c,cs[sizes (ls.take j)]?=some c/\l.Rel β w N [c]
 |[],j,_,h,_=>by simp at h
 |x::ls,0,_,h,⟨c1,c2,e,h1,h2⟩=>by
  simp only[List.getElem?_cons_zero,aA]at h;subst h;have hl:=h1.length;rw[hz]at hl;match c1,hl with
  |[c],_=>exact⟨c,by rw[e];rfl,h1⟩
 |x::ls,j+1,_,h,⟨c1,c2,e,h1,h2⟩=>by
  obtain⟨c,g1,g2⟩:=aG.cell hz (j:=j) (by simpa using h) h2;refine⟨c,?_,g2⟩;have:sizes ((x::ls).take (j+1))=c1.length+sizes (ls.take j):=by simp[sizes,h1.length]
  rw[this,e,List.getElem?_append_right (Nat.le_add_right _ _),Nat.add_sub_cancel_left];exact g1
theorem aG.tell{β:Nat->Pl}{w:World}{N:Nat->Nat->Prop}{l l':L}{c:Value}(hz:l.size=1)(hl:l'.Rel β w N [c]):∀ {ls:List L}{j:Nat}{cs:List Value},ls[j]?=some l->cs[sizes (ls.take j)]?=some c->aG β w N ls cs->aG β w N (ls.set j l') cs
 |[],j,_,h,_,_=>by simp at h
 |x::ls,0,_,h,hc,⟨c1,c2,e,h1,h2⟩=>by
  simp only[List.getElem?_cons_zero,aA]at h;subst h;have hn:=h1.length;rw[hz]at hn;match c1,hn with
  |[d],_ =>
   rw[e]at hc;have:d=c:=by simpa [sizes]using hc
   subst this;exact⟨[d],c2,e,hl,h2⟩
 |x::ls,j+1,_,h,hc,⟨c1,c2,e,h1,h2⟩=>by
  refine⟨c1,c2,e,h1,aG.tell hz hl (j:=j) (by simpa using h) ?_ h2⟩;have:sizes ((x::ls).take (j+1))=c1.length+sizes (ls.take j):=by simp[sizes,h1.length]
  rw[this,e,List.getElem?_append_right (Nat.le_add_right _ _),Nat.add_sub_cancel_left]at hc;exact hc
def zJy(h:List Ob)(id j:Nat):Option (Bool × List Ob):=
 match h[id]? with
 |some (.box e ls)=>
  match ls[j]? with
  |some l=>match Nat.beq l.size 1 with
   |true=>some (true,h.set id (.box e (ls.set j (.bad 1))))
   |false=>none
  |none=>none
 |_=>none
theorem yMr{β:Nat->Pl}{w:World}{σ:St}{a:Act}{id j:Nat}{h':List Ob}(h:zJy σ.h id j=some (true,h'))(hs:Sim C β σ a w):∃ β',Sim C β' ⟨σ.r,h'⟩ a w:=by
 unfold zJy at h;split at h
 ·rename_i e ls hb;split at h
  ·rename_i l hl;split at h
   ·rename_i hz;have hz:=aK hz;simp only[aA,aB,true_and]at h;subst h;obtain⟨hs1,hN1⟩:=hs.heap.zGy (ls':=ls.set j (.bad 1)) hb (λcs hcs _=>by
     obtain⟨c',g1,g2⟩:=aG.cell hz hl hcs;exact hcs.tell hz (by simp only[L.Rel];exact⟨rfl,L.Rel.one g2⟩) hl g1)
    exact⟨β,hs1,hs.defers,hs.size,λi v hv=>(hs.reg i v hv).mono (Moves.refl β) (Keep.refl _ w) hN1⟩
   ·cases h
  ·cases h
 ·cases h
def yIj(h:List Ob)(sid:Nat):Option (Bool × List Ob):=
 match h[sid]? with
 |some (.stk e ei v rows (some _))=>some (true,h.set sid (.stk e ei (v+1) rows none))
 |some (.stk _ _ _ _ none)=>some (true,h)
 |_=>none
theorem yMs{β:Nat->Pl}{w:World}{σ:St}{a:Act}{sid:Nat}{h':List Ob}(h:yIj σ.h sid=some (true,h'))(hs:Sim C β σ a w):∃ β',Sim C β' ⟨σ.r,h'⟩ a w:=by
 unfold yIj at h;split at h
 ·rename_i e ei v rows ls hst;simp only[aA,aB,true_and]at h;subst h;have hlts:=(bE.1 hst).1;have hob:=hs.heap.obj _ _ hst;simp only[Ob.Rel]at hob;obtain⟨k1,k2,k3,k4,k5,b,cur,cs,cs2,bs,g1,g2,g3,g4,g5,g6,g7,g8,g9,g10,g11⟩:=hob
  let p:Pl:={ β sid with ver:=v+1,len:=rows.length }
  have hps:upd β sid p sid=p:=upd_same _ _ _;have hmv:Moves β (upd β sid p):=λi hi=>by
   by_cases h1:i=sid
   ·subst h1;rw[hps];exact .inr ⟨k2,k1,k2,by rw[k3];exact Nat.lt_succ_self _⟩
   ·exact .inl (aU _ _ h1)
  have hg:∀ o,(σ.h.set sid (.stk e ei (v+1) rows none))[sid]?=some o->o=.stk e ei (v+1) rows none:=λo ho=>by
   rw[List.getElem?_set_self hlts]at ho;simpa using ho.symm
  have hturn:Turn C (λi=>i=sid) σ.h (σ.h.set sid (.stk e ei (v+1) rows none)) β (upd β sid p) w w:=by
   refine⟨by simp,λi _ hS=>⟨by rw[List.getElem?_set_ne (Ne.symm hS)],aU _ _ hS⟩,λi h1 h2=>?_,λi hi=>?_,?_,?_,?_,(Keep.refl (λ_ _=>False) w).weaken λ_ _ h=>h.elim,⟨rfl,rfl,rfl⟩,hmv⟩
   ·simp at h2;omega
   ·simp at hi;rw[aU _ _ (by omega)];exact hs.heap.dead i hi
   ·rintro i o q j rfl ho _ _ hat;rw[hg o ho,hps,Ht (p:=p) (bs:=bs) g6]at hat;exact⟨i,_,rfl,hst,rfl,(Ht g6).2 hat⟩
   ·rintro i o q rfl ho hb;rw[hg o ho,hps,oV (p:=p) (bs:=bs) g6]at hb;exact .inl ⟨i,_,rfl,hst,(oV g6).2 hb⟩
   ·rintro i j o o' q rfl rfl _ _ _ _;rfl
  refine⟨_,hs.re hturn λi o hS ho=>?_⟩;subst hS;rw[hg o ho,hps];simp only[Ob.Rel];have hl:=g9.length;refine⟨k1,k2,rfl,k4,by simp only[p,Kq,Nat.add_zero],b,cur,cs,[],bs,g1,g2,g3,by simp only[p];simp only[Kq]at k5;omega,g5,g6,g7,g8,g9,rfl,?_⟩;rw[List.append_nil];simp only[p];have:=congrArg (List.take (rows.length*4)) g11;rw[List.take_take,Nat.min_eq_left (by rw[k5];simp only[Kq];omega),List.take_left' hl]at this;exact this
 ·simp only[aA,aB,true_and]at h;subst h;exact⟨β,hs⟩
 ·cases h
end
end Go.Dec
