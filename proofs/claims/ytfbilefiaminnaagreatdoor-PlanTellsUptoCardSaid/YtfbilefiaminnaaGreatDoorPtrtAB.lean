import Derived.Test.YtfbilefiaminnaaGreatDoorPtrtAA
import Derived.LaidEql
import Derived.WalkSpells
import Derived.Lib.AppendStr
open Go.Sem renaming run_bind->jJ,run_pure->jI
open Go.Builtin renaming append_->qBd,lenOf->qBe,firstCells->qBf,zeroCells->qBk
open Go.Result renaming andThen_ok->kQ
open Nat renaming beq->vF,ble->qBg,zero_add->yY,le_mul_of_pos_right->qBl,add_mul->zB,mul_le_mul_right->wH,mul_one->qBq,lt_succ_self->qBr,add_zero->qAa,mul_comm->qBy,sub_zero->qCa,min_eq_left->qAe,add_assoc->zD
open List renaming length_append->xG,eq_nil_of_length_eq_zero->qBi,take_left'->qAz,size_toArray->qBb,replicate->qAf,length_take->qAb,length_nil->qBn,flatten_append->qBo,map_cons->qBt,append_nil->vE,length_drop->yV,take_left->qBa,mem_map->qBw,getElem?_map->qBx,getElem?_eq_none->qAu,foldr_cons->qCb,getElem?_cons_zero->qAi,length_cons->xI,drop_drop->zT,drop_left->qCd,flatten_cons->xB,length_replicate->qCh
open Array renaming toList_inj->qBh,toList_append->qBj,size_append->qBm,length_toList->qAc,toList_map->qBp,eq_empty_of_size_eq_zero->qBz,range->qCf,map->qCi
open Bool renaming false_eq_true->qBs,eq_false_or_eq_true->qBv,not_true->qCc
open Option renaming map_eq_some_iff->qBu,map_some->kU,map_none->zU
namespace Go.Dec
section
variable {β:Nat->Pl}{w:World}{T:Tab}{C:Ctx}
def rowsOf(h:List Ob)(te:Ty)(x:L):Option (Bool × List te.den):=
 match x with
 |.aZ=>some (true,[])
 |.val (.slice t) ys=>if e:t=te then some (true,e ▸ ys)else none
 |.own id ver =>
  match h[id]? with
  |some (.arr _ t v rows _)=>if e:t=te then some (vF v ver,e ▸ rows)else none
  |_=>none
 |.sl id ver off len =>
  match h[id]? with
  |some (.arr _ t v rows _)=>if e:t=te then some (vF v ver&&decide (off+len<=rows.length),e ▸ ((rows.drop off).take len))else none
  |_=>none
 |_=>none
def yCz (w:World) (N:Nat->Nat->Prop) (te:Ty) (ys:List te.den) (v:Value):Prop :=(v = .slice none 0 0 ∧ ys = []) ∨ (∃ b off cap css,v = .slice (some ⟨b,off,none⟩) ys.length cap ∧ ys.length<=cap ∧ bJ (fun x c=>te.Rel w N x c) ys css ∧ Cells w b off css.flatten) ∨ ∃ a cap,v = .slice (some a) 0 cap ∧ ys = []
theorem jO{N:Nat->Nat->Prop}{te:Ty}{ys:List te.den}{css:List (List Value)}(h:bJ (λx c=>te.Rel w N x c) ys css):∀ c∈css,c.length=te.size:=λc hc=>by
 obtain⟨y,_,hy⟩:=h.mem_right c hc;exact hy.length
theorem Gw{h:List Ob}{te:Ty}{x:L}{ys:List te.den}{v:Value}(hh:fC C β h w)(hr:rowsOf h te x=some (true,ys))(hx:x.Rel β w (C.N β h) [v]):yCz w (C.N β h) te ys v:=by
 unfold rowsOf at hr;split at hr
 ·simp only[aA,aC,true_and]at hr;simp only[L.Rel,aL,and_true]at hx;exact .inl ⟨hx,hr.symm⟩
 ·rename_i t zs;split at hr
  ·rename_i e;subst e;simp only[aA,aC,true_and]at hr;subst hr;simp only[L.Rel,Ty.Rel]at hx;obtain⟨v',e1,hs⟩:=hx;simp only[aL,and_true]at e1;subst e1;rcases hs with hs|⟨b,off,cap,css,h1,h2,h3,h4,h5,h6,h7,h8⟩|⟨a,cap,h1,h2,_⟩
   ·exact .inl hs
   ·exact .inr (.inl ⟨b,off,cap,css,h1,h4,h6,h8⟩)
   ·exact .inr (.inr ⟨a,cap,h1,h2⟩)
  ·cases hr
 ·rename_i id ver;split at hr
  ·rename_i e t vv rows wr ho;split at hr
   ·rename_i e1;subst e1;simp only[aA,aC]at hr;obtain⟨hv,rfl⟩:=hr;have hv:=aP hv;have hob:=hh.obj _ _ ho;simp only[Ob.Rel]at hob;obtain⟨_,_,hpv,hpz,hpos,hpl,hob⟩:=hob;simp only[L.Rel]at hx;obtain⟨_,_,_,c,hc,_,himp⟩:=hx;have hsl:=himp (by rw[hpv,hv]);simp only[aL,and_true]at hc;subst hc;unfold eP at hsl;rcases hob with ⟨hnb,hr0,_⟩|⟨b,cur,css,hb,hheap,hall,htake,hcap,hrc,_⟩
    ·rw[hnb]at hsl;exact .inl ⟨hsl.1,hr0⟩
    ·rw[hb]at hsl;obtain⟨h1,o,h2,h3⟩:=hsl;rw[hpl]at h2 h1;have ho0:o=0\/rows.length=0:=by
      rcases h3 with h3|h3
      ·left;omega
      ·right;omega
     have hcs:=(Cells.of_heap hheap).take (rows.length*t.size);rw[htake]at hcs;rcases ho0 with rfl|h0
     ·exact .inr (.inl ⟨b,0,_,css,h2,by omega,hall,hcs⟩)
     ·have:rows=[]:=qBi h0;subst this;have:css=[]:=by cases css with|nil=>rfl|cons _ _=>exact hall.elim
      subst this;exact .inr (.inl ⟨b,o,_,[],h2,by simp,trivial,Cells.nil⟩)
   ·cases hr
  ·cases hr
 ·rename_i id ver off len;split at hr
  ·rename_i e t vv rows wr ho;split at hr
   ·rename_i e1;subst e1;simp only[aA,aC,aD]at hr;obtain⟨⟨hv,hle⟩,rfl⟩:=hr;have hv:=aP hv;have hle:=of_decide_eq_true hle;have hob:=hh.obj _ _ ho;simp only[Ob.Rel]at hob;obtain⟨_,_,hpv,hpz,hpos,hpl,hob⟩:=hob;simp only[L.Rel]at hx;obtain⟨_,_,_,c,hc,_,himp⟩:=hx;have hsl:=himp (by rw[hpv,hv]);simp only[aL,and_true]at hc;subst hc;unfold eP at hsl;rcases hob with ⟨hnb,hr0,_⟩|⟨b,cur,css,hb,hheap,hall,htake,hcap,hrc,_⟩
    ·rw[hnb]at hsl;subst hr0;exact .inl ⟨hsl.1,by simp⟩
    ·rw[hb]at hsl;obtain⟨h1,o,h2,h3⟩:=hsl;have hlen:((rows.drop off).take len).length=len:=by simp;omega
     have hcs:=(Cells.of_heap hheap).take (rows.length*t.size);rw[htake]at hcs;have hl:=jO hall;have hcs2:=(hcs.drop (off*t.size)).take (len*t.size);rw[pF css hl off,sJ _ (λc hc=>hl c (List.mem_of_mem_drop hc)) len,yY]at hcs2;rcases h3 with h3|h3
     ·refine .inr (.inl ⟨b,o,_,(css.drop off).take len,by rw[hlen];exact h2,by omega,(hall.drop off).take len,?_⟩);rw[h3,hpz];exact hcs2
     ·have hl0:len=0:=by omega
      subst hl0;exact .inr (.inl ⟨b,o,_,[],by simpa using h2,by simp,by simp[bJ],Cells.nil⟩)
   ·cases hr
  ·cases hr
 ·cases hr
def room:Nat:=140737488355328
theorem xBw{σ:St}{a:Act}{e:TypeId}{t:Ty}{rows:List t.den}{css:List (List Value)}{cs:Array Value}{cap:Nat}(hs:Sim C β σ a w)(hpos:0<t.size)(hr:bJ (λx c=>t.Rel w (C.N β σ.h) x c) rows css)(hcs:cs.toList.take (rows.length*t.size)=css.flatten)(hsz:cs.size=cap*t.size)(hle:rows.length<=cap)(hm:cap<=maxLen):∃ β',Moves β β'/\Sim C β' { σ with h:=σ.h++[.arr e t 0 rows true] } a (w.drew.alloc (.cells cs e)) /\
  (L.own σ.h.length 0).Rel β' (w.drew.alloc (.cells cs e)) (C.N β' (σ.h++[.arr e t 0 rows true])) [.slice (some ⟨w.heap.size,0,none⟩) rows.length cap]:=by
 let p:Pl:=⟨true,false,0,some w.heap.size,t.size,cap,rows.length,[]⟩
 have hk:Keep (λ_ _=>False) w (w.drew.alloc (.cells cs e)):=(Aq w).trans (dX w.drew _);refine⟨upd β σ.h.length p,rY hs.heap p,hs.push (p:=p) (.inr ⟨rfl,by simp⟩) hk ⟨rfl,rfl,rfl⟩ ?_,?_⟩
 ·simp only[Ob.Rel];refine⟨rfl,rfl,rfl,rfl,hpos,rfl,.inr ⟨w.heap.size,cs,css,rfl,?_,?_,hcs,hsz,hle,hm⟩⟩
  ·exact heap_alloc_new w.drew _
  ·exact hr.mono λ_ _ hx=>hx.mono (hk.weaken λ_ _ h=>h.elim) λb j hlt hn=>Ll (zGi rfl (.inr rfl)) hlt hn
 ·simp only[L.Rel,upd_same];refine⟨rfl,rfl,aS _,_,rfl,rfl,λ_=>?_⟩;unfold eP;simp only[p];exact⟨by omega,0,rfl,.inl (by simp)⟩
theorem Sv{σ:St}{a:Act}{e:TypeId}{t:Ty}(hs:Sim C β σ a w)(hpos:0<t.size):∃ β',Moves β β'/\Sim C β' { σ with h:=σ.h++[.arr e t 0 [] true] } a w/\(L.own σ.h.length 0).Rel β' w (C.N β' (σ.h++[.arr e t 0 [] true])) [.slice none 0 0]:=by
 let p:Pl:=⟨true,false,0,none,t.size,0,0,[]⟩
 refine⟨upd β σ.h.length p,rY hs.heap p,hs.push (p:=p) (.inl rfl) (Keep.refl _ w) ⟨rfl,rfl,rfl⟩ ?_,?_⟩
 ·simp only[Ob.Rel];exact⟨rfl,rfl,rfl,rfl,hpos,rfl,.inl ⟨rfl,trivial,rfl⟩⟩
 ·simp only[L.Rel,upd_same];refine⟨rfl,rfl,aS _,_,rfl,rfl,λ_=>?_⟩;unfold eP;simp only[p];exact⟨trivial,trivial,trivial⟩
theorem pG{b off:Nat}{cs:List Value}(h:Cells w b off cs):∀ j u,cs[j]?=some u->w.cell? ((⟨b,off,none⟩:Addr).add j)=some u:=λj u hu=>by
 rw[addr_add];exact h j u hu
theorem yBv{σ:St}{a:Act}{st e:TypeId}{ts ti:TI}{te:Ty}{ys:List te.den}{y:Value}(ty:TypeId)(hT:bU C.P T)(hst:T.get st=some ts)(hk:ts.k=.slice e)(hti:T.get e=some ti)(hsz:ti.size=te.size)(hpos:0<te.size)(hby:0<ti.bytes)(hroom:ys.length*ti.bytes<=room)(hs:Sim C β σ a w)(hy:yCz w (C.N β σ.h) te ys y):∃ v' w' β',(qBd #[st,st] ty #[.slice none 0 0,y]).run C.P w=.ok v' w'/\Moves β β'/\Sim C β' { σ with h:=σ.h++[.arr e te 0 ys true] } a w'/\(L.own σ.h.length 0).Rel β' w' (C.N β' (σ.h++[.arr e te 0 ys true])) [v']/\Keep (C.N β σ.h) w w':=by
 have hu:=(hT _ _ hst).slice hk;obtain⟨i,z,hi,his,hib,hz,tT,hzs,_⟩:=(hT _ _ hti).i;have hlen:ys.length<=ys.length*ti.bytes:=qBl _ hby;unfold room at hroom;have hnil:ys=[]->y=.slice none 0 0\/(∃ a cap,y=.slice (some a) 0 cap)->(qBd #[st,st] ty #[.slice none 0 0,y]).run C.P w=.ok (.slice none 0 0) w:=by
  rintro _ (rfl|⟨a,cap,rfl⟩)
  ·simp[qBd,run_underlying hu,Go.sizeOf,typeInfo,hi,qBe,qBf]
  ·simp[qBd,run_underlying hu,Go.sizeOf,typeInfo,hi,qBe,qBf,loadCells,loadCellsFrom]
 by_cases h0:ys.length=0
 ·have hys:ys=[]:=qBi h0;subst hys;obtain⟨β',h1,h2,h3⟩:=Sv (e:=e) hs hpos;refine⟨_,w,β',hnil rfl ?_,h1,h2,h3,Keep.refl _ w⟩;rcases hy with ⟨hy,_⟩|⟨b,off,cap,css,hy,_⟩|⟨a,cap,hy,_⟩
  ·exact .inl hy
  ·exact .inr ⟨⟨b,off,none⟩,cap,hy⟩
  ·exact .inr ⟨a,cap,hy⟩
 ·rcases hy with ⟨_,hy⟩|⟨b,off,cap,css,rfl,hle,hall,hcs⟩|⟨_,_,_,hy⟩
  rotate_left 2
  ·subst hy;simp at h0
  ·subst hy;simp at h0
  ·have hl:=jO hall;have hfl:css.flatten.length=ys.length*i.size:=by rw[cZ css hl,hall.length,his,hsz]
   have hrun:=run_append_nil (P:=C.P) w st ty e i z hu hi hz ⟨b,off,none⟩ ys.length cap css.flatten hfl (pG hcs) (by omega) (by omega) (by rw[hib];omega);have hge:=grownCap_ge w ys.length 0 e;have hcm:=grownCap_le_maxLen w ys.length 0 e (by simp only[maxLen];omega);obtain⟨β',h1,h2,h3⟩:=xBw (e:=e) (cs:=css.flatten.toArray++qBk z.cells (grownCap w ys.length 0 e-ys.length)) (cap:=grownCap w ys.length 0 e) hs hpos hall
    (by simp only[qBj];rw[qAz (by rw[hfl,his,hsz])])
    (by simp only[qBm,qBb,size_zeroCells,hzs,hfl,his,hsz,<- zB];congr 1;omega) hge hcm
   exact⟨_,_,β',hrun,h1,h2,h3,((Aq w).trans (dX w.drew _)).weaken λ_ _ h=>h.elim⟩
theorem zIx{σ:St}{a:Act}{st e:TypeId}{ts ti:TI}{te:Ty}{rows ys:List te.den}{x y:Value}{id ver n:Nat}(ty:TypeId)(hT:bU C.P T)(hst:T.get st=some ts)(hk:ts.k=.slice e)(hti:T.get e=some ti)(hsz:ti.size=te.size)(hby:0<ti.bytes)(hroom:(n+ys.length)*ti.bytes<=room)(hs:Sim C β σ a w)(ho:σ.h[id]?=some (.arr e te ver rows true))(hn:n<=rows.length)(hx:eP (β id) 0 n x)(hy:yCz w (C.N β σ.h) te ys y):∃ v' w' β',(qBd #[st,st] ty #[x,y]).run C.P w=.ok v' w'/\Moves β β'/\Sim C β' { σ with h:=σ.h.set id (.arr e te (ver+1) (rows.take n++ys) true) } a w' /\
  (L.own id (ver+1)).Rel β' w' (C.N β' (σ.h.set id (.arr e te (ver+1) (rows.take n++ys) true))) [v']/\Keep (C.N β σ.h) w w':=by
 have hu:=(hT _ _ hst).slice hk;obtain⟨i,z,hi,his,hib,hz,tT,hzs,_⟩:=(hT _ _ hti).i;have hlen:n+ys.length<=(n+ys.length)*ti.bytes:=qBl _ hby;unfold room at hroom;have hob:=hs.heap.obj _ _ ho;simp only[Ob.Rel]at hob;obtain⟨hlive,nH,hpv,hpz,hpos,hpl,hob⟩:=hob;have hrl:(rows.take n++ys).length=n+ys.length:=by simp;omega
 have fin:∀ (w':World) (bk cap:Nat) (cur:Array Value) (css:List (List Value)),(bk=w.heap.size/\w.heap.size<w'.heap.size\/(β id).blk=some bk)->Keep (λk _=>(β id).blk=some k/\True) w w'->Same w w' ->
  w'.heap[bk]?=some (.cells cur e (0,0))->bJ (λx c=>te.Rel w (C.N β σ.h) x c) (rows.take n++ys) css->cur.toList.take ((n+ys.length)*te.size)=css.flatten->cur.size=cap*te.size->n+ys.length<=cap->cap<=maxLen ->
  ∃ β',Moves β β'/\Sim C β' { σ with h:=σ.h.set id (.arr e te (ver+1) (rows.take n++ys) true) } a w' /\
   (L.own id (ver+1)).Rel β' w' (C.N β' (σ.h.set id (.arr e te (ver+1) (rows.take n++ys) true))) [.slice (some ⟨bk,0,none⟩) (n+ys.length) cap]:=by
  intro w' bk cap cur css hbk hkeep hsame hheap hall htake hcsz hle hm
  let p:Pl:=⟨true,false,ver+1,some bk,te.size,cap,n+ys.length,[]⟩
  have hmv:Moves β (upd β id p):=λj hj=>by
   by_cases hji:j=id
   ·subst hji;rw[upd_same];exact .inr ⟨nH,rfl,rfl,by rw[hpv];exact qBr _⟩
   ·exact .inl (aY _ _ hji)
  have hpb:p.blk=(β id).blk\/p.blk=none\/(p.blk=some w.heap.size/\w.heap.size<w'.heap.size):=by
   rcases hbk with ⟨e1,h2⟩|e1
   ·right;right;exact⟨by simp only[p,e1],h2⟩
   ·left;simp only[p,e1]
  have hkk:Keep (λk _=>(β id).blk=some k/\Ob.wr (.arr e te ver rows true)=true) w w':=hkeep.weaken λk _ hk=>⟨hk.1,rfl⟩
  refine⟨upd β id p,hmv,hs.set (p:=p) ho (λ_=>rfl) hpb hkk hsame hmv ?_,?_⟩
  ·simp only[Ob.Rel];refine⟨rfl,rfl,rfl,rfl,hpos,hrl.symm,.inr ⟨bk,cur,css,rfl,hheap,?_,by rw[hrl];exact htake,hcsz,by rw[hrl];exact hle,hm⟩⟩;exact hall.mono λ_ _ h=>h.mono (hkk.weaken λk _ hk=>.inr ⟨id,_,ho,rfl,Ob.mP hk.1⟩) λk j hlt hn=>yL (w:=w) ho (at_set (λ_=>rfl) (hpb.imp (λh=>h) (·.imp (λh=>h) (·.1))) rfl) hlt hn
  ·simp only[L.Rel,upd_same];refine⟨rfl,rfl,aS _,_,rfl,rfl,λ_=>?_⟩;unfold eP;simp only[p];exact⟨by omega,0,rfl,.inl (by simp)⟩
 have toK:∀ {w':World},Keep (λk _=>(β id).blk=some k/\True) w w'->Keep (C.N β σ.h) w w':=λh=>h.weaken λk _ hk=>.inr ⟨id,_,ho,rfl,Ob.mP hk.1⟩
 rcases hob with ⟨hnb,hr0,hcap0⟩|⟨b,cur,css,hb,hheap,hall,htake,hcap,hrc,hcm⟩
 ·subst hr0;have hn0:n=0:=by simpa using hn
  subst hn0;unfold eP at hx;rw[hnb]at hx;obtain⟨rfl,_,_⟩:=hx;by_cases h0:ys.length=0
  ·have hys:ys=[]:=qBi h0;subst hys;have hrun:(qBd #[st,st] ty #[.slice none 0 0,y]).run C.P w=.ok (.slice none 0 0) w:=by
    rcases hy with ⟨rfl,_⟩|⟨b,off,cap,css,rfl,_⟩|⟨_,_,rfl,_⟩
    ·simp[qBd,run_underlying hu,Go.sizeOf,typeInfo,hi,qBe,qBf]
    ·simp[qBd,run_underlying hu,Go.sizeOf,typeInfo,hi,qBe,qBf,loadCells,loadCellsFrom]
    ·simp[qBd,run_underlying hu,Go.sizeOf,typeInfo,hi,qBe,qBf,loadCells,loadCellsFrom]
   let p:Pl:=⟨true,false,ver+1,none,te.size,0,0,[]⟩
   have hmv:Moves β (upd β id p):=λj hj=>by
    by_cases hji:j=id
    ·subst hji;rw[upd_same];exact .inr ⟨nH,rfl,rfl,by rw[hpv];exact qBr _⟩
    ·exact .inl (aY _ _ hji)
   refine⟨_,w,upd β id p,hrun,hmv,hs.set (p:=p) ho (λ_=>rfl) (.inr (.inl rfl)) (Keep.refl _ w) ⟨rfl,rfl,rfl⟩ hmv ?_,?_,Keep.refl _ w⟩
   ·simp only[Ob.Rel];exact⟨rfl,rfl,rfl,rfl,hpos,by simp[p],.inl ⟨rfl,by simp,rfl⟩⟩
   ·simp only[L.Rel,upd_same];refine⟨rfl,rfl,aS _,_,rfl,rfl,λ_=>?_⟩;unfold eP;simp only[p];exact⟨trivial,trivial,trivial⟩
  ·rcases hy with ⟨_,hy⟩|⟨b,off,cap,css,rfl,hle,hall,hcs⟩|⟨_,_,_,hy⟩
   rotate_left 2
   ·subst hy;simp at h0
   ·subst hy;simp at h0
   ·have hl:=jO hall;have hfl:css.flatten.length=ys.length*i.size:=by rw[cZ css hl,hall.length,his,hsz]
    have hrun:=run_append_nil (P:=C.P) w st ty e i z hu hi hz ⟨b,off,none⟩ ys.length cap css.flatten hfl (pG hcs) (by omega) (by omega) (by rw[hib];rw[yY]at hroom;omega);have hge:=grownCap_ge w ys.length 0 e;have hcm:=grownCap_le_maxLen w ys.length 0 e (by simp only[maxLen];omega);have hk0:Keep (λ_ _=>False) w (w.drew.alloc (.cells (css.flatten.toArray++qBk z.cells (grownCap w ys.length 0 e-ys.length)) e)):=(Aq w).trans (dX w.drew _);have hk1:=hk0.weaken (N':=λk _=>(β id).blk=some k/\True) λ_ _ h=>h.elim
    obtain⟨β',h1,h2,h3⟩:=fin _ w.heap.size (grownCap w ys.length 0 e) _ css (.inl ⟨rfl,by simp⟩) hk1 ⟨rfl,rfl,rfl⟩ (heap_alloc_new w.drew _) (by simpa using hall)
     (by simp only[qBj,yY];rw[qAz (by rw[hfl,his,hsz])])
     (by simp only[qBm,qBb,size_zeroCells,hzs,hfl,his,hsz,<- zB];congr 1;omega) (by omega) hcm
    rw[yY]at h3;exact⟨_,_,β',hrun,h1,h2,h3,toK hk1⟩
 ·unfold eP at hx;rw[hb]at hx;obtain⟨h1,o,rfl,h3⟩:=hx;have ho0:o=0:=by
   rcases h3 with h3|h3
   ·simpa using h3
   ·omega
  subst ho0;rw[qCa];have hl:=jO hall;have hlx:=hall.take n;obtain⟨lM,b2,off2,cap2,hrow,zL,yNj⟩:∃ lM b2 off2 cap2,(ys.length=0\/y=.slice (some ⟨b2,off2,none⟩) ys.length cap2)/\bJ (λx c=>te.Rel w (C.N β σ.h) x c) ys lM/\Cells w b2 off2 lM.flatten:=by
   rcases hy with ⟨_,hy⟩|⟨b2,off2,cap2,lM,hy,_,hy2,hy3⟩|⟨_,_,_,hy⟩
   ·subst hy;exact⟨[],0,0,0,.inl rfl,trivial,Cells.nil⟩
   ·exact⟨lM,b2,off2,cap2,.inr hy,hy2,hy3⟩
   ·subst hy;exact⟨[],0,0,0,.inl rfl,trivial,Cells.nil⟩
  have hly:=jO zL;have hfy:lM.flatten.length=ys.length*i.size:=by rw[cZ lM hly,zL.length,his,hsz]
  have xEh:cur.toList.take (n*te.size)=(css.take n).flatten:=by
   rw[<- sJ css hl n,<- htake,List.take_take,qAe (wH _ hn)]
  have hln:(css.take n).flatten.length=n*te.size:=by
   rw[cZ _ (λc hc=>hl c (List.mem_of_mem_take hc)),qAb,<- hall.length,qAe hn]
  have hone:∀ u∈lM.flatten,u.oneCell'=true:=λu hu=>by
   obtain⟨c,hc,huc⟩:=List.mem_flatten.1 hu;obtain⟨q,_,hq⟩:=zL.mem_right c hc;exact hq.one u huc
  by_cases hr:n+ys.length<=(β id).cap
  ·have hmul:(n+ys.length)*te.size<=(β id).cap*te.size:=wH _ hr;have hadd:(n+ys.length)*te.size=n*te.size+ys.length*te.size:=zB _ _ _;have hrun:(qBd #[st,st] ty #[.slice (some ⟨b,0,none⟩) n (β id).cap,y]).run C.P w =
    .ok (.slice (some ⟨b,0,none⟩) (n+ys.length) (β id).cap) (w.setRow b (cur.toList.take (n*i.size)++lM.flatten++cur.toList.drop (n*i.size+lM.flatten.length)).toArray):=by
    rcases hy with ⟨rfl,hy⟩|⟨b3,xKf,yNk,xMx,rfl,_,hy2,hy3⟩|⟨a3,yNk,rfl,hy⟩
    rotate_left 2
    ·subst hy;have:lM=[]:=by cases lM with|nil=>rfl|cons _ _=>exact zL.elim
     subst this;have yDy:n+0<=(β id).cap:=hr;exact run_append_room (P:=C.P) w st ty e i hu hi b n (β id).cap cur hheap a3 0 yNk [] (by simp) (by simp) (by simp) yDy (by simp;rw[his,hsz];simp at hmul;omega)
    ·subst hy;have:lM=[]:=by cases lM with|nil=>rfl|cons _ _=>exact zL.elim
     subst this;simp only[List.flatten_nil,vE,qBn,qAa,List.take_append_drop,Array.toArray_toList,setRow_self w b cur e (0,0) hheap];simp[qBd,run_underlying hu,Go.sizeOf,typeInfo,hi,qBe,qBf,storeCells];omega
    ·rcases hrow with h0|hrow
     ·have:ys=[]:=qBi h0;subst this;have:lM=[]:=by cases lM with|nil=>rfl|cons _ _=>exact zL.elim
      subst this;have yDy:n+0<=(β id).cap:=hr;exact run_append_room (P:=C.P) w st ty e i hu hi b n (β id).cap cur hheap ⟨b3,xKf,none⟩ 0 yNk [] (by simp) (by simp) (by simp) yDy (by simp;rw[his,hsz];simp at hmul;omega)
     ·simp only[Value.slice.injEq,aA,Addr.mk.injEq,and_true,true_and]at hrow;obtain⟨⟨rfl,rfl⟩,rfl⟩:=hrow;exact run_append_room (P:=C.P) w st ty e i hu hi b n (β id).cap cur hheap _ ys.length yNk lM.flatten hfy (pG yNj) hone hr (by rw[hfy,his,hsz];omega)
   have hk1:Keep (λk _=>(β id).blk=some k/\True) w (w.setRow b (cur.toList.take (n*i.size)++lM.flatten++cur.toList.drop (n*i.size+lM.flatten.length)).toArray):=nI.weaken λk _ hk=>by subst hk;exact⟨hb,trivial⟩
   obtain⟨β',g1,g2,g3⟩:=fin _ b (β id).cap _ (css.take n++lM) (.inr hb) hk1 Cw (setRow_heap w b _ _ e _ hheap) (hlx.append zL)
    (by
     rw[his,hsz,xEh,qBo];exact qAz (by rw[xG,hln,hfy,his,hsz,hadd]))
    (by
     simp only[qBb,xG,qAb,yV,qAc,hfy,his,hsz];omega) hr hcm
   exact⟨_,_,β',hrun,g1,g2,g3,toK hk1⟩
  ·have xIp:0<ys.length:=by omega
   rcases hrow with h0|rfl
   ·omega
   ·have holds:∀ j u,(css.take n).flatten[j]?=some u->w.cell? ((⟨b,0,none⟩:Addr).add j)=some u:=pG (by rw[<- xEh];exact(Cells.of_heap hheap).take _);have hrun:=run_append_grow (P:=C.P) w st ty e i z hu hi hz ⟨b,0,none⟩ n (β id).cap (css.take n).flatten (by rw[hln,his,hsz]) holds ⟨b2,off2,none⟩ ys.length cap2 lM.flatten hfy (pG yNj) (by omega) (by omega)
     (growslice_fits (by omega) (by rw[hib];exact hroom))
    have hge:=grownCap_ge w (n+ys.length) (β id).cap e;have hcm':=grownCap_le_maxLen w (n+ys.length) (β id).cap e (by simp only[maxLen];omega);have hk0:Keep (λ_ _=>False) w (w.drew.alloc (.cells ((css.take n).flatten.toArray++lM.flatten.toArray++qBk z.cells (grownCap w (n+ys.length) (β id).cap e-(n+ys.length))) e)):=(Aq w).trans (dX w.drew _);have hk1:=hk0.weaken (N':=λk _=>(β id).blk=some k/\True) λ_ _ h=>h.elim
    obtain⟨β',g1,g2,g3⟩:=fin _ w.heap.size (grownCap w (n+ys.length) (β id).cap e) _ (css.take n++lM) (.inl ⟨rfl,by simp⟩) hk1 ⟨rfl,rfl,rfl⟩ (heap_alloc_new w.drew _) (hlx.append zL)
     (by
      simp only[qBj,qBo];exact qAz (by rw[xG,hln,hfy,his,hsz,<- zB]))
     (by
      simp only[qBm,qBb,size_zeroCells,hzs,hfy,hln,his,hsz,<- zB];congr 1;omega) hge hcm'
    exact⟨_,_,β',hrun,g1,g2,g3,toK hk1⟩
theorem Sim.grow{σ:St}{a:Act}{w':World}(hs:Sim C β σ a w)(hk0:Keep (λ_ _=>False) w w')(hsm:Same w w'):Sim C β σ a w':=by
 have hold:∀ b:Nat,b<w.heap.size->w'.heap[b]?=w.heap[b]?:=λb hb=>hk0.2 b hb λ_ h=>h
 have hk:Keep (C.N β σ.h) w w':=hk0.weaken λ_ _ h=>h.elim
 refine⟨⟨λid o ho=>?_,hs.heap.dead,hs.heap.kX,λid o b ho hb=>?_,hs.heap.n0,hs.heap.frame.uJ hk0 λ_ _ _ h=>h.elim,Nat.le_trans hs.heap.size hk0.1,hsm.os.trans hs.heap.os,hsm.tape.trans hs.heap.tape,hsm.output.trans hs.heap.output,hs.heap.fixed⟩,hs.defers,hs.size,λi v hv=>(hs.reg i v hv).mono (Moves.refl β) hk λ_ _ _ h=>h⟩
 ·exact(hs.heap.obj id o ho).mono (Moves.refl β) hk (λ_ _ _ h=>h) λb hb=>hold b (hs.heap.eZ id o b ho hb).2.1
 ·obtain⟨h1,h2,h3⟩:=hs.heap.eZ id o b ho hb;exact⟨h1,Nat.lt_of_lt_of_le h2 hk0.1,h3⟩
theorem ySh{h:List Ob}(hs:fC C β h w)(j:Nat):¬ C.N β h w.heap.size j:=by
 rintro(hn|⟨id,o,ho,_,hat⟩)
 ·have:=hs.n0 _ _ hn;have:=hs.size;omega
 ·have:=(hs.eZ id o _ ho ⟨j,hat⟩).2.1;omega
theorem zEj{σ:St}{a:Act}{st e:TypeId}{ts ti:TI}{te:Ty}{xs ys:List te.den}{x y:Value}(ty:TypeId)(hT:bU C.P T)(hst:T.get st=some ts)(hk:ts.k=.slice e)(hti:T.get e=some ti)(hsz:ti.size=te.size)(hby:0<ti.bytes)(hroom:(xs.length+ys.length)*ti.bytes<=room)(hs:Sim C β σ a w)(hx:(Ty.clip te).Rel w (C.N β σ.h) xs [x])(hy:yCz w (C.N β σ.h) te ys y):∃ v' w',(qBd #[st,st] ty #[x,y]).run C.P w=.ok v' w'/\Keep (C.N β σ.h) w w'/\Sim C β σ a w'/\(Ty.slice te).Rel w' (C.N β σ.h) (xs++ys) [v']:=by
 have hu:=(hT _ _ hst).slice hk;obtain⟨i,z,hi,his,hib,hz,tT,hzs,_⟩:=(hT _ _ hti).i;have hlen:xs.length+ys.length<=(xs.length+ys.length)*ti.bytes:=qBl _ hby;unfold room at hroom;obtain⟨x',e1,hsl,p,n,ht⟩:=hx;simp only[aL,and_true]at e1;subst e1;have fin:∀ (cur:Array Value) (cap:Nat) (css:List (List Value)),bJ (λx c=>te.Rel w (C.N β σ.h) x c) (xs++ys) css->(∃ r,cur.toList=css.flatten++r)->xs.length+ys.length<=cap->cap<=maxLen ->
  Keep (C.N β σ.h) w (w.drew.alloc (.cells cur e))/\Sim C β σ a (w.drew.alloc (.cells cur e))/\(Ty.slice te).Rel (w.drew.alloc (.cells cur e)) (C.N β σ.h) (xs++ys) [.slice (some ⟨w.heap.size,0,none⟩) (xs.length+ys.length) cap]:=by
  intro cur cap css hall hcur hle hm;have hk0:Keep (λ_ _=>False) w (w.drew.alloc (.cells cur e)):=(Aq w).trans (dX w.drew _);have hkN:Keep (C.N β σ.h) w (w.drew.alloc (.cells cur e)):=hk0.weaken λ_ _ h=>h.elim
  refine⟨hkN,hs.grow hk0 ⟨rfl,rfl,rfl⟩,_,rfl,.inr (.inl ⟨w.heap.size,0,cap,css,by rw[xG],?_,λj _ _=>ySh hs.heap j,by rw[xG];exact hle,hm,hall.mono λ_ _ h=>h.mono hkN λ_ _ _ h=>h,jO hall,?_⟩)⟩
  ·have:=heap_alloc_new w.drew (.cells cur e);exact(Array.getElem?_eq_some_iff.1 this).1
  ·obtain⟨r,hcur⟩:=hcur;have h1:=Cells.of_heap (heap_alloc_new w.drew (.cells cur e));rw[hcur]at h1;exact h1.left
 have hnil:xs=[]->x=.slice none 0 0->∃ v' w',(qBd #[st,st] ty #[x,y]).run C.P w=.ok v' w'/\Keep (C.N β σ.h) w w'/\Sim C β σ a w'/\(Ty.slice te).Rel w' (C.N β σ.h) (xs++ys) [v']:=by
  rintro rfl rfl;have hemp:ys=[]->(qBd #[st,st] ty #[.slice none 0 0,y]).run C.P w=.ok (.slice none 0 0) w:=by
   intro h0;subst h0;rcases hy with ⟨rfl,_⟩|⟨b,off,cap,css,rfl,_⟩|⟨_,_,rfl,_⟩
   ·simp[qBd,run_underlying hu,Go.sizeOf,typeInfo,hi,qBe,qBf]
   ·simp[qBd,run_underlying hu,Go.sizeOf,typeInfo,hi,qBe,qBf,loadCells,loadCellsFrom]
   ·simp[qBd,run_underlying hu,Go.sizeOf,typeInfo,hi,qBe,qBf,loadCells,loadCellsFrom]
  by_cases h0:ys.length=0
  ·have hys:ys=[]:=qBi h0;have:=hemp hys;subst hys;exact⟨_,w,this,Keep.refl _ w,hs,_,rfl,.inl ⟨rfl,rfl⟩⟩
  ·rcases hy with ⟨_,hy⟩|⟨b,off,cap,css,rfl,hle,hall,hcs⟩|⟨_,_,_,hy⟩
   rotate_left 2
   ·subst hy;simp at h0
   ·subst hy;simp at h0
   ·have hl:=jO hall;have hfl:css.flatten.length=ys.length*i.size:=by rw[cZ css hl,hall.length,his,hsz]
    simp only[qBn,yY]at hroom hlen;have hrun:=run_append_nil (P:=C.P) w st ty e i z hu hi hz ⟨b,off,none⟩ ys.length cap css.flatten hfl (pG hcs) (by omega) (by omega) (by rw[hib];omega);have hge:=grownCap_ge w ys.length 0 e;have hcm:=grownCap_le_maxLen w ys.length 0 e (by simp only[maxLen];omega);obtain⟨g1,g2,g3⟩:=fin (css.flatten.toArray++qBk z.cells (grownCap w ys.length 0 e-ys.length)) (grownCap w ys.length 0 e) css hall ⟨_,by rw[qBj]⟩ (by simpa using hge) hcm;simp only[qBn,yY]at g3;exact⟨_,_,hrun,g1,g2,g3⟩
 have hsome:∀ (ad:Addr) (csx:List (List Value)),x=.slice (some ad) xs.length xs.length->bJ (λx c=>te.Rel w (C.N β σ.h) x c) xs csx->(∀ j u,csx.flatten[j]?=some u->w.cell? (ad.add j)=some u)->(Ty.slice te).Rel w (C.N β σ.h) xs [x] ->
  ∃ v' w',(qBd #[st,st] ty #[x,y]).run C.P w=.ok v' w'/\Keep (C.N β σ.h) w w'/\Sim C β σ a w'/\(Ty.slice te).Rel w' (C.N β σ.h) (xs++ys) [v']:=by
  rintro ad csx rfl yNl hcx hself;by_cases h0:ys.length=0
  ·have hys:ys=[]:=qBi h0;subst hys;refine⟨.slice (some ad) xs.length xs.length,w,?_,Keep.refl _ w,hs,by rw[vE];exact hself⟩;rcases hy with ⟨rfl,_⟩|⟨b,off,cap,css,rfl,_⟩|⟨_,_,rfl,_⟩
   ·simp[qBd,run_underlying hu,Go.sizeOf,typeInfo,hi,qBe,qBf,storeCells]
   ·simp[qBd,run_underlying hu,Go.sizeOf,typeInfo,hi,qBe,qBf,storeCells,loadCells,loadCellsFrom]
   ·simp[qBd,run_underlying hu,Go.sizeOf,typeInfo,hi,qBe,qBf,storeCells,loadCells,loadCellsFrom]
  ·rcases hy with ⟨_,hy⟩|⟨b2,off2,cap2,lM,rfl,_,zL,yNj⟩|⟨_,_,_,hy⟩
   rotate_left 2
   ·subst hy;simp at h0
   ·subst hy;simp at h0
   ·have hfx:csx.flatten.length=xs.length*i.size:=by rw[cZ csx (jO yNl),yNl.length,his,hsz]
    have hfy:lM.flatten.length=ys.length*i.size:=by rw[cZ lM (jO zL),zL.length,his,hsz]
    have hrun:=run_append_grow (P:=C.P) w st ty e i z hu hi hz ad xs.length xs.length csx.flatten hfx hcx ⟨b2,off2,none⟩ ys.length cap2 lM.flatten hfy (pG yNj) (by omega) (by omega)
     (growslice_fits (by omega) (by rw[hib];exact hroom))
    have hge:=grownCap_ge w (xs.length+ys.length) xs.length e;have hcm:=grownCap_le_maxLen w (xs.length+ys.length) xs.length e (by simp only[maxLen];omega);obtain⟨g1,g2,g3⟩:=fin (csx.flatten.toArray++lM.flatten.toArray++qBk z.cells (grownCap w (xs.length+ys.length) xs.length e-(xs.length+ys.length))) _ (csx++lM) (yNl.append zL) ⟨_,by rw[qBj,qBj,qBo]⟩ hge hcm;exact⟨_,_,hrun,g1,g2,g3⟩
 rcases hsl with ⟨rfl,h2⟩|⟨b,off,cap,css,rfl,hb,hn,hl,hm,hr,hz2,hc⟩|⟨ad,cap,rfl,rfl,hm⟩
 ·exact hnil h2 rfl
 ·simp only[Value.slice.injEq]at ht;obtain⟨_,h2,h3⟩:=ht;have:cap=xs.length:=by omega
  subst this;exact hsome _ css rfl hr (pG hc) ⟨_,rfl,.inr (.inl ⟨b,off,_,css,rfl,hb,hn,hl,hm,hr,hz2,hc⟩)⟩
 ·simp only[Value.slice.injEq]at ht;obtain⟨_,h2,h3⟩:=ht;have:cap=0:=by omega
  subst this;exact hsome ad [] rfl trivial (λj u hu=>by simp at hu) ⟨_,rfl,.inr (.inr ⟨ad,0,rfl,rfl,hm⟩)⟩
end
end Go.Dec
namespace Go.Dec
def Ty.cmp:Ty->Bool | .unit | .bool | .int _ | .str=>true | .pair a b=>a.cmp&&b.cmp | .arr _ a=>a.cmp | _=>false
def Yg {α:Type} (f:α->α->Bool):List α->List α->Bool | [],[]=>true | x :: xs,y :: ys=>f x y&&Yg f xs ys | _,_=>false
def Ty.beq:(t:Ty)->t.den->t.den->Bool
 |.unit,_,_=>true
 |.bool,a,b=>Bool.beq' a b
 |.int _,a,b=>Int.beq' a b
 |.str,a,b=>List.beq' a b
 |.pair a b,x,y=>a.beq x.1 y.1&&b.beq x.2 y.2
 |.arr _ a,x,y=>Yg (λu v=>a.beq u v) x y
 |_,_,_=>false
where
 Bool.beq' (a b:Bool):Bool:=a==b
 Int.beq' (a b:Int):Bool:=a==b
 List.beq' (a b:List UInt8):Bool:=a==b
def valOf(agg:Bool)(cs:List Value):Value:=if agg then .agg cs.toArray else cs.getD 0 undef
section
variable {P:Program}{w:World}{N:Nat->Nat->Prop}
theorem zUf:∀ {n:Nat}{t:TypeId}{ty:Ty}{d:TypeDesc},jN P n t=some ty->P.underlying t=some d->ty.cmp=true->ty.isAgg=(TK.of d).isAgg
 |0,_,_,_,h,_,_=>by simp[jN]at h
 |n+1,t,ty,d,h,hd,hc=>by
  simp only[jN,hd]at h;cases d<;>simp only[aA,reduceCtorEq,qBu]at h
  case bool=>subst h;rfl
  case int=>subst h;rfl
  case string=>subst h;rfl
  case slice=>obtain⟨a,_,rfl⟩:=h;simp[Ty.cmp]at hc
  case array=>obtain⟨a,_,rfl⟩:=h;rfl
  case func=>subst h;simp[Ty.cmp]at hc
  case interface=>subst h;split at hc<;>simp[Ty.cmp]at hc
  case struct fs =>
   revert h;generalize fs.toList=l;cases l with
   |nil=>intro h;simp at h;subst h;rfl
   |cons f l =>
    intro h;simp only[qCb]at h;split at h
    ·simp only[aA]at h;subst h;rfl
    ·cases h
theorem zGj{t:TypeId}{ty:Ty}{n:Nat}{d:TypeDesc}{x:ty.den}{cx:List Value}{all:List Value}{off:Nat}(ht:jN P n t=some ty)(hd:P.underlying t=some d)(hc:ty.cmp=true)(hsz:ty.size=P.cellsOf t)(hx:ty.Rel w N x cx)(hat:(all.drop off).take cx.length=cx):(part t all.toArray off).run P w=.ok (valOf ty.isAgg cx) w:=by
 have hag:=zUf ht hd hc;have hl:=hx.length;have hrun:(isAgg t).run P w=.ok (TK.of d).isAgg w:=by
  simp only[isAgg,jJ,run_underlying hd,kQ];cases d<;>rfl
 simp only[part,jJ,hrun,kQ];rw[<- hag];cases h:ty.isAgg with
 |true =>
  have hi:∃ i,P.info? t=some i:=by
   unfold Program.underlying at hd;split at hd
   ·rename_i h1;exact⟨_,h1⟩
   ·rename_i i h1;exact⟨_,h1⟩
   ·cases hd
  obtain⟨i,hi⟩:=hi;have hsz2:(sizeOf t).run P w=.ok (P.cellsOf t) w:=by simp[sizeOf,typeInfo,hi,Program.cellsOf]
  simp only[if_true,jJ,hsz2,kQ,jI,valOf];congr 2;rw[<- hsz,<- hl];apply qBh.1;simp only[Array.toList_extract,List.extract_eq_take_drop];rw[show off+cx.length-off=cx.length by omega];exact hat
 |false =>
  have h1:cx.length=1:=by
   rw[hl];cases ty<;>first|rfl|simp[Ty.isAgg]at h
  match cx,h1 with
  |[c],_ =>
   have hc0:all[off]?=some c:=by
    have:=congrArg (λl=>l[0]?) hat;simp only[List.getElem?_take,List.getElem?_drop,List.length_singleton,Nat.lt_add_one,if_true,qAa,qAi]at this;exact this
   simp[valOf,hc0]
theorem yAa{α:Type}(f:α->α->Bool)(w:World)(step:Nat->Option Bool × Unit->Sem (ForInStep (Option Bool × Unit))):∀ (xs ys:List α),xs.length=ys.length->∀ k,
 (∀ i (h:i<xs.length) (h':i<ys.length),(step (k+i) (none,())).run P w=.ok (if f xs[i] ys[i]=true then .yield (none,())else .done (some false,())) w) ->
 (forIn (List.range' k xs.length) (none,()) step).run P w=.ok (if Yg f xs ys=true then(none,())else(some false,())) w
 |[],[],_,k,_=>by simp[Yg]
 |x::xs,y::ys,hl,k,h=>by
  have h0:=h 0 (by simp) (by simp);simp only[qAa,List.getElem_cons_zero]at h0;simp only[xI,List.range'_succ,List.forIn_cons,jJ,h0,kQ,Yg];rcases qBv (f x y)with hf|hf
  case inr=>simp[hf]
  case inl =>
   simp only[hf,if_true,Bool.true_and];exact yAa f w step xs ys (by simpa using hl) (k+1) λi h1 h2=>by
    have:=h (i+1) (by simp;omega) (by simp;omega);simpa [zD,Nat.add_comm 1 i]using this
 |[],_::_,hl,_,_=>by simp at hl
 |_::_,[],hl,_,_=>by simp at hl
def Jf(P:Program)(n:Nat)(fs:List Field):Option Ty:=fs.foldr (λf r=>match jN P n f.type,r with|some a,some b=>some (.pair a b)|_,_=>none) (some .unit)
theorem zKh {n:Nat}(ih:∀ (t:TypeId) (ty:Ty) (x y:ty.den) (cx cy:List Value) (d:Nat),n<=d->jN P n t=some ty->zBp P n t=true->ty.cmp=true->ty.Rel w N x cx->ty.Rel w N y cy ->
 (Op.equalIn d t (valOf ty.isAgg cx) (valOf ty.isAgg cy)).run P w=.ok (ty.beq x y) w) (d:Nat) (hd:n<=d) (ax ay:List Value):
 ∀ (fs:List Field) (off:Nat) (ty:Ty) (x y:ty.den) (cx cy:List Value),Jf P n fs=some ty->eqF P (zBp P n) (jN P n) off fs=true->ty.cmp=true->ty.Rel w N x cx->ty.Rel w N y cy->ax.drop off=cx->ay.drop off=cy ->
  (Op.eqFields d ax.toArray ay.toArray fs).run P w=.ok (ty.beq x y) w
 |[],off,ty,x,y,cx,cy,ht,he,hc,hx,hy,hax,hay=>by
  simp only[Jf,List.foldr_nil,aA]at ht;subst ht;simp[Op.eqFields,Ty.beq]
 |f::fs,off,ty,x,y,cx,cy,ht,he,hc,hx,hy,hax,hay=>by
  simp only[Jf,qCb]at ht;split at ht
  ·rename_i _ a b hta htb;simp only[aA]at ht;subst ht;simp only[eqF,aD,hta]at he;obtain⟨⟨⟨⟨h1,h2⟩,h3⟩,h4⟩,h5⟩:=he;have h1:f.offset=off:=by simpa using h1
   have h2:f.name ≠ "_" := by simpa using h2
   have h4:a.size=P.cellsOf f.type:=by simpa using h4
   simp only[Ty.cmp,aD]at hc;obtain⟨c1,c2,e1,hx1,hx2⟩:=hx;obtain⟨d1,d2,e2,hy1,hy2⟩:=hy;obtain⟨dsc,zKi⟩:∃ dsc,P.underlying f.type=some dsc:=by
    cases hu:P.underlying f.type with
    |some d=>exact⟨d,rfl⟩
    |none =>
     cases n with
     |zero=>simp[jN]at hta
     |succ n=>simp[jN,hu]at hta
   have hp1:=zGj (all:=ax) (off:=off) hta zKi hc.1 h4 hx1 (by rw[hax,e1,qBa]);have hp2:=zGj (all:=ay) (off:=off) hta zKi hc.1 h4 hy1 (by rw[hay,e2,qBa]);have hq:=ih f.type a x.1 y.1 c1 d1 d hd hta h3 hc.1 hx1 hy1;simp only[Op.eqFields,h2,ne_eq,not_false_eq_true,if_true,jJ,h1,hp1,hp2,hq,kQ];cases hb:a.beq x.1 y.1 with
   |false=>simp[Ty.beq,hb]
   |true =>
    simp only[qCc,qBs,if_false];have:=zKh ih d hd ax ay fs (off+P.cellsOf f.type) b x.2 y.2 c2 d2 htb h5 hc.2 hx2 hy2
     (by rw[<- h4,<- hx1.length,<- zT,hax,e1,qCd]) (by rw[<- h4,<- hy1.length,<- zT,hay,e2,qCd])
    rw[this];simp[Ty.beq,hb]
  ·cases ht
theorem zKj:∀ (n:Nat) (t:TypeId) (ty:Ty) (x y:ty.den) (cx cy:List Value) (d:Nat),n<=d->jN P n t=some ty->zBp P n t=true->ty.cmp=true->ty.Rel w N x cx->ty.Rel w N y cy ->
 (Op.equalIn d t (valOf ty.isAgg cx) (valOf ty.isAgg cy)).run P w=.ok (ty.beq x y) w
 |0,_,_,_,_,_,_,_,_,h,_,_,_,_=>by simp[jN]at h
 |n+1,t,ty,x,y,cx,cy,0,hd,_,_,_,_,_=>by omega
 |n+1,t,ty,x,y,cx,cy,d+1,hd,ht,he,hc,hx,hy=>by
  simp only[jN]at ht;simp only[zBp]at he;split at ht
  ·rename_i hu;simp only[aA]at ht;subst ht;simp only[Ty.Rel]at hx hy;subst hx hy;simpa [valOf,Ty.isAgg,Ty.beq,Ty.beq.Bool.beq']using run_equalIn_bool' w d t x y hu
  ·rename_i k hu;simp only[aA]at ht;subst ht;simp only[Ty.Rel]at hx hy;subst hx hy;simpa [valOf,Ty.isAgg,Ty.beq,Ty.beq.Int.beq']using run_equalIn_int w d t k k x y hu
  ·rename_i hu;simp only[aA]at ht;subst ht;simp only[Ty.Rel]at hx hy;subst hx hy;have:=run_equalIn_string (P:=P) w d t ⟨x.toArray⟩ ⟨y.toArray⟩ hu;rw[toList_mk,toList_mk]at this;simpa [valOf,Ty.isAgg,Ty.beq,Ty.beq.List.beq']using this
  ·rename_i e hu;cases hte:jN P n e with
   |none=>rw[hte]at ht;cases ht
   |some a=>rw[hte]at ht;simp only[kU,aA]at ht;subst ht;simp[Ty.cmp]at hc
  ·rename_i k e hu;cases hte:jN P n e with
   |none=>rw[hte]at ht;cases ht
   |some a =>
    rw[hte]at ht;simp only[kU,aA]at ht;subst ht;simp only[hu,hte,aD,beq_iff_eq]at he;simp only[Ty.cmp]at hc;obtain⟨hxl,yNm,rfl,hax⟩:=hx;obtain⟨hyl,lM,rfl,hay⟩:=hy;have hlx:=jO hax;have hly:=jO hay;obtain⟨dsc,zKi⟩:∃ dsc,P.underlying e=some dsc:=by
     cases hu:P.underlying e with
     |some d=>exact⟨d,rfl⟩
     |none =>
      cases n with
      |zero=>simp[jN]at hte
      |succ n=>simp[jN,hu]at hte
    obtain⟨i,hi⟩:∃ i,P.info? e=some i:=by
     unfold Program.underlying at zKi;split at zKi
     ·rename_i h1;exact⟨_,h1⟩
     ·rename_i i h1;exact⟨_,h1⟩
     ·cases zKi
    have hsz2:(sizeOf e).run P w=.ok (P.cellsOf e) w:=by simp[sizeOf,typeInfo,hi,Program.cellsOf]
    have hagg:(Ty.arr k a).isAgg=true:=rfl;simp only[hagg,valOf,if_true,Op.equalIn,jJ,run_underlying hu,kQ,hsz2];rw[Std.Legacy.Range.forIn_eq_forIn_range'];have hrange:Std.Legacy.Range.size { stop:=k,step_pos:=Nat.one_pos }=x.length:=by simp[Std.Legacy.Range.size,hxl]
    simp only[hrange];rw[yAa (λu v=>a.beq u v) w _ x y (by rw[hxl,hyl]) 0 (λi h1 h2=>by
     have h1':i<yNm.length:=by rw[<- hax.length];exact h1
     have h2':i<lM.length:=by rw[<- hay.length];exact h2
     have r1:=hax.get i h1 h1';have r2:=hay.get i h2 h2';have seg:∀ (css:List (List Value)) (h:i<css.length),(∀ c∈css,c.length=a.size)->(css.flatten.drop (i*a.size)).take css[i].length=css[i]:=λcss h hl=>by
      rw[pF css hl i,List.drop_eq_getElem_cons h,xB,qBa]
     have p1:=zGj (all:=yNm.flatten) (off:=i*a.size) hte zKi hc he.2 r1 (seg yNm h1' hlx);have p2:=zGj (all:=lM.flatten) (off:=i*a.size) hte zKi hc he.2 r2 (seg lM h2' hly);have q:=zKj n e a x[i] y[i] yNm[i] lM[i] d (by omega) hte he.1 hc r1 r2;simp only[yY,jJ,<- he.2,p1,p2,kQ,q];rcases qBv (a.beq x[i] y[i])with hb|hb<;>simp[hb])]
    simp only[Ty.beq];rcases qBv (Yg (λu v=>a.beq u v) x y)with hb|hb<;>simp[hb]
  ·rename_i fs hu;have hf:P.fieldsOf t=fs:=by simp[Program.fieldsOf,hu]
   simp only[hu,aD,Bool.not_eq_true']at he;have hagg:ty.isAgg=true:=by
    have:=zUf (n:=n+1) (t:=t) (by simp only[jN,hu];exact ht) hu hc;simpa [TK.of,TK.isAgg]using this
   rw[hagg];simp only[valOf,if_true];rw[run_equalIn_struct w d t _ _ (by rw[hf];exact hu) he.1,hf];exact zKh (zKj n) d (by omega) cx cy fs.toList 0 ty x y cx cy ht he.2 hc hx hy rfl rfl
  ·simp only[aA]at ht;subst ht;split at hc<;>simp[Ty.cmp]at hc
  ·simp only[aA]at ht;subst ht;simp[Ty.cmp]at hc
  ·cases ht
end
end Go.Dec
namespace Go.Dec
def xEi:Operand->Bool | .const (.pointer none) | .const .nilIface | .const .nilFunc | .const (.slice none 0 0)=>true | _=>false
def yDz(k:TK)(x:L)(c:Operand):Option Bool :=
 match k,c,x with
 |.ptr _,.const (.pointer none),.jC=>some true
 |.ptr _,.const (.pointer none),.ptr .. => some false
 |.ptr _,.const (.pointer none),.sK .. => some false
 |.ptr _,.const (.pointer none),.rJ .. => some false
 |.iface _,.const .nilIface,.val .err b=>some (!b)
 |.func,.const .nilFunc,.clo .. => some false
 |.slice _,.const (.slice none 0 0),.aZ=>some true
 |_,_,_=>none
def eqV(T:Tab)(xt:TypeId)(a b:List L):Option Bool :=
 match T.get xt with
 |some ti =>
  match ti.ty with
  |some ty =>
   if ti.eqs&&ty.cmp&&ty.isAgg then
    match dS ty a,dS ty b with
    |some (x,[]),some (y,[])=>some (ty.beq x y)
    |_,_=>none
   else none
  |none=>none
 |none=>none
def isEq:BinOp->Bool | .eql | .neq=>true | _=>false
def sgn(op:BinOp)(b:Bool):Bool :=
 match op with
 |.neq=>!b
 |_=>b
def zRj(T:Tab)(σ:St)(op:BinOp)(xt:TypeId)(x y:Operand):Option (Bool × V):=
 if isEq op&&xEi y then
  match ovl σ x,T.get xt with
  |.one l,some ti =>
   match yDz ti.k l y with
   |some b=>some (true,.one (.val .bool (sgn op b)))
   |none=>none
  |_,_=>none
 else
  match ovl σ x,ovl σ y with
  |.one a,.one b =>
   match a,b with
   |.val .bool p,.val .bool q =>
    match T.get xt with
    |some ti=>match ti.k with
     |.bool=>match yCx op p q with
      |some (c,r)=>some (c,.one r)
      |none=>none
     |_=>none
    |none=>none
   |a,b=>match bin op a b with
    |some (c,r)=>some (c,.one r)
    |none=>none
  |.agg a,.agg b =>
   if isEq op then
    match eqV T xt a b with
    |some r=>some (true,.one (.val .bool (sgn op r)))
    |none=>none
   else none
  |_,_=>none
def Rx(T:Tab)(σ:St)(s d:TypeId)(x:Operand):Option (Bool × V):=
 match T.get s,T.get d,ovl σ x with
 |some ts,some td,.one l =>
  match td.k,ts.k,l with
  |.int k,.int _,.val (.int _) n=>some (true,.one (.val (.int k) (k.wrap n)))
  |.str,.str,.val .str s=>some (true,.one (.val .str s))
  |_,_,_=>none
 |_,_,_=>none
def vals (σ:St):List (Nat×Operand)->List (Nat×V) | []=>[] | (i,x) :: r=>(i,ovl σ x) :: vals σ r
def Sw(T:Tab)(σ:St)(t:TypeId)(parts:List (Nat × Operand)):Option (Bool × V):=
 match T.get t with
 |some ti =>
  match ti.k with
  |.struct fs =>
   if fs.all λp=>(T.get p.2).isSome then
    match build T fs ti.zls (vals σ parts)with
    |some ls=>some (true,.agg ls)
    |none=>none
   else none
  |_=>none
 |none=>none
def elems(σ:St)(te:Ty):Nat->List (Nat × Operand)->Option (List te.den)
 |_,[]=>some []
 |k,(i,x)::r =>
  if vF i k then
   match (ovl σ x).leaves with
   |some ls =>
    match dS te ls,elems σ te (k+1) r with
    |some (y,[]),some ys=>some (y::ys)
    |_,_=>none
   |none=>none
  else none
def elemTy(T:Tab)(t:TypeId):Option (TypeId × Ty × TI):=
 match T.get t with
 |some ts =>
  match ts.k with
  |.slice e =>
   match T.get e with
   |some ti =>
    match ti.ty with
    |some te=>if vF ti.size te.size&&qBg 1 te.size&&qBg 1 ti.bytes then some (e,te,ti)else none
    |none=>none
   |none=>none
  |_=>none
 |none=>none
def Uw(T:Tab)(σ:St)(t:TypeId)(x:Operand):Option (Bool × V):=
 match T.get t,ovl σ x with
 |some ti,.one l =>
  match ti.k with
  |.arr n _=>some (true,.one (.val (.int .i64) (n:Int)))
  |.str=>match l with
   |.val .str s=>some (true,.one (.val (.int .i64) (s.length:Int)))
   |_=>none
  |.slice _=>match zNq σ.h (l.view σ.h)with
   |some (c,n)=>some (c,.one (.val (.int .i64) n))
   |none=>none
  |_=>none
 |_,_=>none
def Qb(T:Tab)(σ:St)(t:TypeId)(s x:Operand):Option (Bool × V × List Ob):=
 match elemTy T t,ovl σ s,ovl σ x with
 |some (e,te,ti),.one ls,.one lx =>
  match rowsOf σ.h te lx with
  |some (c,ys)=>
   match ls with
   |.aZ=>some (c&&qBg (ys.length*ti.bytes) room,.one (.own σ.h.length 0),σ.h++[.arr e te 0 ys true])
   |.own id ver =>
    match σ.h[id]? with
    |some (.arr e' t' v rows true)=>if h:t'=te/\e'=e then
     some (c&&(vF v ver&&qBg ((rows.length+ys.length)*ti.bytes) room),.one (.own id (ver+1)),σ.h.set id (.arr e te (ver+1) ((h.1 ▸ rows)++ys) true))
     else none
    |_=>none
   |.sl id ver off len =>
    match σ.h[id]? with
    |some (.arr e' t' v rows true)=>if h:t'=te/\e'=e then
     some (c&&(vF v ver&&(vF off 0&&(qBg len rows.length&&qBg ((len+ys.length)*ti.bytes) room))),.one (.own id (ver+1)),σ.h.set id (.arr e te (ver+1) ((h.1 ▸ rows).take len++ys) true))
     else none
    |_=>none
   |.val (.clip t') xs=>if h:t'=te then some (c&&qBg ((xs.length+ys.length)*ti.bytes) room,.one (.val (.slice te) ((h ▸ xs)++ys)),σ.h)else none
   |_=>none
  |none=>none
 |_,_,_=>none
def eH (s:List UInt8):List Int:=s.map fun b=>(b.toNat:Int)
def zEk(T:Tab)(σ:St)(t t':TypeId)(s x:Operand):Option (Bool × V × List Ob):=
 match elemTy T t,T.get t',ovl σ s,ovl σ x with
 |some (e,_,ti),some tx,.one (.own id ver),.one (.val .str u)=>
  match tx.k,σ.h[id]? with
  |.str,some (.arr e' (.int .u8) v rows true)=>
   some (vF e' e&&(vF ti.size 1&&(vF v ver&&qBg ((rows.length+u.length)*ti.bytes) room)),.one (.own id (ver+1)),σ.h.set id (.arr e' (.int .u8) (ver+1) (rows++eH u) true))
  |_,_=>none
 |_,_,_,_=>none
def gN(T:Tab)(σ:St)(o:Oper):Option (Bool × V × List Ob):=
 match o.op with
 |.move x=>some (true,ovl σ x,σ.h)
 |.assign x=>some (true,ovl σ x,σ.h)
 |.unOp op _ x =>
  match ovl σ x with
  |.one l=>match un op l with
   |some (c,r)=>some (c,.one r,σ.h)
   |none=>none
  |_=>none
 |.binOp op xt x y _=>match zRj T σ op xt x y with
  |some (c,v)=>some (c,v,σ.h)
  |none=>none
 |.convert s d x=>match Rx T σ s d x with
  |some (c,v)=>some (c,v,σ.h)
  |none=>none
 |.fieldAddr s x f =>
  match T.get s,ovl σ x with
  |some ti,.one l =>
   match ti.k with
   |.struct fs =>
    match fs[f]? with
    |some (off,ft)=>
     match T.get ft with
     |some tf=>if qBg 1 tf.size then
      match Yd σ.h l off with
      |some (c,r)=>some (c,.one r,σ.h)
      |none=>none
      else none
     |none=>none
    |none=>none
   |_=>none
  |_,_=>none
 |.indexAddr t x i =>
  match T.get t,ovl σ x,qW (ovl σ i)with
  |some ti,.one l,some (_,n)=>
   match Cv T σ.h ti.k (l.view σ.h) n with
   |some (c,r)=>some (c,.one r,σ.h)
   |none=>none
  |_,_,_=>none
 |.index t x i =>
  match T.get t,qW (ovl σ i)with
  |some ti,some (_,n)=>
   match ti.k with
   |.str=>match idx (ovl σ x) n with
    |some (c,v)=>some (c,v,σ.h)
    |none=>none
   |_=>none
  |_,_=>none
 |.slice t x lo hi none =>
  match T.get t,ovl σ x,xS σ lo,xS σ hi with
  |some ti,.one l,some l0,some h0 =>
   match slice ti.k (l.view σ.h) l0 h0 σ.h with
   |some (c,r)=>
    match ti.k with
    |.slice e =>
     match T.get e with
     |some te =>
      match l.view σ.h with
      |.val (.slice a) _=>if vF a.size te.size then some (c,.one r,σ.h)else none
      |.sl id _ _ _ =>
       match σ.h[id]? with
       |some (.arr _ a _ _ _)=>if vF a.size te.size then some (c,.one r,σ.h)else none
       |some (.stk ..)=>if vF 4 te.size then some (c,.one r,σ.h)else none
       |_=>none
      |_=>none
     |none=>none
    |.str=>some (c,.one r,σ.h)
    |_=>none
   |none=>none
  |_,_,_,_=>none
 |.slice t x none (some hi) (some mx)=>
  match T.get t,ovl σ x,qW (ovl σ hi),qW (ovl σ mx)with
  |some ti,.one (.val (.slice a) xs),some (_,n),some (_,m)=>
   match ti.k with
   |.slice e =>
    match T.get e with
    |some te=>if vF a.size te.size then some (decide (n=(xs.length:Int))&&decide (m=(xs.length:Int)),.one (.val (.clip a) xs),σ.h)else none
    |none=>none
   |_=>none
  |_,_,_,_=>none
 |.build t parts=>match Sw T σ t parts.toList with
  |some (c,v)=>some (c,v,σ.h)
  |none=>none
 |.extract x i=>match ext (ovl σ x) i with
  |some v=>some (true,v,σ.h)
  |none=>none
 |.load t x =>
  match ovl σ x with
  |.one l=>match loadAt T σ.h t l with
   |some (c,v)=>some (c,v,σ.h)
   |none=>none
  |_=>none
 |.store t x y =>
  match ovl σ x with
  |.one l=>match storeAt T σ.h t l (ovl σ y)with
   |some (c,h)=>some (c,.cK,h)
   |none=>none
  |_=>none
 |.nilCheck x =>
  match ovl σ x with
  |.one (.ptr id off)=>some (true,.one (.ptr id off),σ.h)
  |.one (.sK id off es i sub)=>some (true,.one (.sK id off es i sub),σ.h)
  |.one (.rJ t y off)=>some (true,.one (.rJ t y off),σ.h)
  |.one (.jD id ver i off)=>some (true,.one (.jD id ver i off),σ.h)
  |.one (.clo f cs)=>some (true,.one (.clo f cs),σ.h)
  |.one (.val .opq (.func (.func f) a b))=>some (true,.one (.val .opq (.func (.func f) a b)),σ.h)
  |_=>none
 |.makeFunc (.func f) first cs =>
  match Nat.blt f 1000000 with
  |true =>
   if first.size=0 then
    match caps σ cs.toList with
    |some ls=>some (true,.one (.clo f ls),σ.h)
    |none=>none
   else if cs.size=0 then
    match caps σ first.toList with
    |some (l::ls)=>some (true,.one (.clo (f+1000000) (l::ls)),σ.h)
    |_=>none
   else none
  |false=>none
 |.box e x =>
  match (ovl σ x).leaves with
  |some ls=>some (true,.one (.ptr σ.h.length 0),σ.h++[.box e ls])
  |none=>none
 |.alloc e =>
  match T.get e with
  |some ti=>some (true,.one (.ptr σ.h.length 0),σ.h++[.box e ti.zls])
  |none=>none
 |.buildSlice t n parts =>
  match elemTy T t with
  |some (e,te,_)=>
   if vF n parts.size&&qBg (n*te.size) 16777216 then
    match elems σ te 0 parts.toList with
    |some ys=>some (true,.one (.own σ.h.length 0),σ.h++[.arr e te 0 ys true])
    |none=>none
   else none
  |none=>none
 |.makeSlice t l c =>
  match elemTy T t,qW (ovl σ l),qW (ovl σ c)with
  |some (e,te,ti),some (.i64,n),some (.i64,m)=>
   match dS te ti.zls with
   |some (z,[])=>some (decide (0<=n)&&(decide (n=m)&&qBg (n.toNat*ti.bytes) room),.one (.own σ.h.length 0),σ.h++[.arr e te 0 (qAf n.toNat z) true])
   |_=>none
  |_,_,_=>none
 |.call { callee:=.builtin b,args,argTypes }=>
  match b,args.toList,argTypes.toList with
  |.len,[x],[t]=>match Uw T σ t x with
   |some (c,v)=>some (c,v,σ.h)
   |none=>none
  |.append,[s,x],[t,t']=>if vF t t' then Qb T σ t s x else zEk T σ t t' s x
  |.min,[x,y],_ =>
   match qW (ovl σ x),qW (ovl σ y)with
   |some (k,a),some (_,b)=>some (true,.one (.val (.int k) (if b<a then b else a)),σ.h)
   |_,_=>none
  |.max,[x,y],_ =>
   match qW (ovl σ x),qW (ovl σ y)with
   |some (k,a),some (_,b)=>some (true,.one (.val (.int k) (if b>a then b else a)),σ.h)
   |_,_=>none
  |_,_,_=>none
 |_=>none
section
variable {β:Nat->Pl}{w:World}{T:Tab}{C:Ctx}
theorem iO{N:Nat->Nat->Prop}{v:V}{k:IntKind}{n:Int}{x:Value}(h:qW v=some (k,n))(hr:v.Rel β w N x):x=.int k n:=by
 unfold qW at h;split at h
 ·simp only[aA,aC]at h;obtain⟨rfl,rfl⟩:=h;simp only[V.Rel,L.Rel,Ty.Rel,aL,and_true]at hr;exact hr
 ·cases h
theorem xEj{N:Nat->Nat->Prop}{op:UnOp}{l r:L}{x:Value}(h:un op l=some (true,r))(hr:l.Rel β w N [x]):∃ y,(Op.unary op x).run C.P w=.ok y w/\r.Rel β w N [y]:=by
 unfold un at h;split at h
 ·simp only[aA,aC,true_and]at h;subst h;simp only[L.Rel,Ty.Rel,aL,and_true]at hr ⊢;subst hr;exact⟨_,rfl,rfl⟩
 ·simp only[aA,aC,true_and]at h;subst h;simp only[L.Rel,Ty.Rel,aL,and_true]at hr ⊢;subst hr;exact⟨_,rfl,rfl⟩
 ·cases h
theorem lK{op:BinOp}{t:TypeId}{x y:Operand}{a b:Value}(h1:a≠.nilIface\/b≠.nilIface)(h2:(∀ c,a≠.agg c)\/(∀ c,b≠.agg c)):(eqGuard op t x y a b).run C.P w=.ok () w:=by
 unfold eqGuard;cases op<;>simp only[qCc,Bool.not_false,qBs,if_false,if_true,jI]<;>try rfl
 all_goals
  split
  ·simp at h1
  ·rename_i c d;rcases h2 with h2|h2
   ·exact absurd rfl (h2 c)
   ·exact absurd rfl (h2 d)
  ·rfl
theorem pI{N:Nat->Nat->Prop}{ty:Ty}{ls:List L}{x:ty.den}{cs:List Value}(h:dS ty ls=some (x,[]))(hr:aJ β w N ls cs):ty.Rel w N x cs:=by
 obtain⟨c1,c2,e,h1,h2⟩:=vJ h hr;simp only[aJ]at h2;subst h2;rw[vE]at e;subst e;exact h1
theorem xBx{N:Nat->Nat->Prop}{xt:TypeId}{a b:List L}{r:Bool}{ca cb:List Value}{op:BinOp}{x y:Operand}(hT:bU C.P T)(h:eqV T xt a b=some r)(hop:isEq op=true)(ha:aJ β w N a ca)(hb:aJ β w N b cb):(eqGuard op xt x y (.agg ca.toArray) (.agg cb.toArray)).run C.P w=.ok () w/\(binOp op xt (.agg ca.toArray) (.agg cb.toArray)).run C.P w=.ok (.bool (sgn op r)) w:=by
 unfold eqV at h;split at h
 ·rename_i ti hti;split at h
  ·rename_i ty hty;split at h
   ·rename_i hc;simp only[aD]at hc;obtain⟨⟨h1,h2⟩,h3⟩:=hc;split at h
    ·rename_i p q hp hq;simp only[aA]at h;subst h;have hok:=hT _ _ hti;obtain⟨hg,he⟩:=hok.eqs h1;have hrp:=pI hp ha;have hrq:=pI hq hb;have hrun:=zKj (P:=C.P) (w:=w) (N:=N) 12 xt ty p q ca cb 10000 (by omega) (hok.ty.trans hty) he h2 hrp hrq;simp only[valOf,h3,if_true]at hrun;refine⟨run_eqGuard_agg w op xt x y _ _ hg,?_⟩;cases op<;>simp only[isEq,qBs]at hop
     ·rw[run_eql_struct,hrun];rfl
     ·rw[run_neq_struct,hrun];rfl
    ·cases h
   ·cases h
  ·cases h
 ·cases h
theorem Eu{xt:TypeId}{u v:Value}{r:Bool}(d:Nat)(h:(xt∈([]:List Nat))\/(∃ e,C.P.underlying xt=some (.pointer e)/\((u=.pointer none/\v=.pointer none/\r=true)\/(∃ a,u=.pointer (some a)/\v=.pointer none/\r=false))) \/
 (∃ ms,C.P.underlying xt=some (.interface ms)/\((u=.nilIface/\v=.nilIface/\r=true)\/(∃ t x,u=.iface t x/\v=.nilIface/\r=false))) \/
 (∃ ps rs b,C.P.underlying xt=some (.func ps rs b)/\∃ f x y,u=.func f x y/\v=.nilFunc/\r=false) \/
 (∃ e,C.P.underlying xt=some (.slice e)/\u=.slice none 0 0/\v=.slice none 0 0/\r=true)):(Op.equalIn (d+1) xt u v).run C.P w=.ok r w:=by
 rcases h with h|⟨e,hu,⟨rfl,rfl,rfl⟩|⟨a,rfl,rfl,rfl⟩⟩|⟨ms,hu,⟨rfl,rfl,rfl⟩|⟨t,x,rfl,rfl,rfl⟩⟩|⟨ps,rs,b,hu,f,x,y,rfl,rfl,rfl⟩|⟨e,hu,rfl,rfl,rfl⟩
 ·cases h
 all_goals simp only[Op.equalIn,jJ,run_underlying hu,kQ,jI,Option.isNone_none]
theorem Ev{xt:TypeId}{u v:Value}{r:Bool}{op:BinOp}{x y:Operand}(hop:isEq op=true)(hg:(eqGuard op xt x y u v).run C.P w=.ok () w)(hs:(∃ a b,u=.pointer a/\v=.pointer b)\/(v=.nilIface)\/(v=.nilFunc)\/(∃ a b c d e f,u=.slice a b c/\v=.slice d e f))(h:∀ d,(Op.equalIn (d+1) xt u v).run C.P w=.ok r w):((do eqGuard op xt x y u v;binOp op xt u v:Sem Value)).run C.P w=.ok (.bool (sgn op r)) w:=by
 rw[jJ,hg,kQ];have h':(Op.equal xt u v).run C.P w=.ok r w:=h 9999;cases op<;>simp only[isEq,qBs]at hop
 all_goals
  rcases hs with ⟨a,b,rfl,rfl⟩|rfl|rfl|⟨a,b,c,d,e,f,rfl,rfl⟩
  ·simp only[binOp,jJ,h',kQ,jI,sgn]
  ·cases u<;>simp only[binOp,jJ,h',kQ,jI,sgn]
  ·cases u<;>simp only[binOp,jJ,h',kQ,jI,sgn]
  ·simp only[binOp,jJ,h',kQ,jI,sgn]
theorem ySi{N:Nat->Nat->Prop}{xt:TypeId}{ti:TI}{l:L}{x y:Operand}{ρ:Operand->Value}{op:BinOp}{b:Bool}(hT:bU C.P T)(hti:T.get xt=some ti)(h:yDz ti.k l y=some b)(hop:isEq op=true)(hr:l.Rel β w N [ρ x])(hc:∀ v,ρ (.const v)=v):((do eqGuard op xt x y (ρ x) (ρ y);binOp op xt (ρ x) (ρ y):Sem Value)).run C.P w=.ok (.bool (sgn op b)) w:=by
 have hok:=hT _ _ hti;unfold yDz at h;split at h<;>simp only[aA,reduceCtorEq]at h<;>subst h
 ·rename_i e _ hk;simp only[L.Rel,aL,and_true]at hr;rw[hr,hc];exact Ev hop (lK (.inl (by simp)) (.inl (by simp))) (.inl ⟨_,_,rfl,rfl⟩) λd=>Eu d (.inr (.inl ⟨_,hok.ptr hk,.inl ⟨rfl,rfl,rfl⟩⟩))
 ·rename_i e id off hk;simp only[L.Rel,aL,and_true]at hr;obtain⟨_,_,b,_,hr⟩:=hr;rw[hr,hc];exact Ev hop (lK (.inl (by simp)) (.inl (by simp))) (.inl ⟨_,_,rfl,rfl⟩) λd=>Eu d (.inr (.inl ⟨_,hok.ptr hk,.inr ⟨_,rfl,rfl,rfl⟩⟩))
 ·rename_i e id off es i sub hk;simp only[L.Rel,aL,and_true]at hr;obtain⟨_,_,b,_,hr⟩:=hr;rw[hr,hc];exact Ev hop (lK (.inl (by simp)) (.inl (by simp))) (.inl ⟨_,_,rfl,rfl⟩) λd=>Eu d (.inr (.inl ⟨_,hok.ptr hk,.inr ⟨_,rfl,rfl,rfl⟩⟩))
 ·rename_i e t x off hk;simp only[L.Rel,aL,and_true]at hr;obtain⟨c,hr,b,o,cs,rfl,_⟩:=hr;rw[hr,hc];exact Ev hop (lK (.inl (by simp)) (.inl (by simp))) (.inl ⟨_,_,rfl,rfl⟩) λd=>Eu d (.inr (.inl ⟨_,hok.ptr hk,.inr ⟨_,rfl,rfl,rfl⟩⟩))
 ·rename_i e bb hk;simp only[L.Rel,Ty.Rel,aL,and_true]at hr;obtain⟨v,hr,hv⟩:=hr;obtain⟨ms,hu⟩:=hok.iface hk;rcases hv with ⟨rfl,t,x,rfl⟩|⟨rfl,rfl⟩
  ·rw[hr,hc];exact Ev hop (lK (.inl (by simp)) (.inl (by simp))) (.inr (.inl rfl)) λd=>Eu d (.inr (.inr (.inl ⟨_,hu,.inr ⟨_,_,rfl,rfl,rfl⟩⟩)))
  ·rw[hr,hc];exact Ev hop (by cases op<;>simp[isEq]at hop<;>simp[eqGuard]) (.inr (.inl rfl)) λd=>Eu d (.inr (.inr (.inl ⟨_,hu,.inl ⟨rfl,rfl,rfl⟩⟩)))
 ·rename_i f cs hk;simp only[L.Rel,aL,and_true]at hr;obtain⟨us,hr,_⟩:=hr;obtain⟨g,p,q,e⟩:=zXq f us;rw[e]at hr;obtain⟨d,hd,hk'⟩:=hok.und;rw[hk]at hk';cases d<;>simp only[TK.of,reduceCtorEq]at hk'
  rw[hr,hc];exact Ev hop (lK (.inl (by simp)) (.inl (by simp))) (.inr (.inr (.inl rfl))) λd=>Eu d (.inr (.inr (.inr (.inl ⟨_,_,_,hd,_,_,_,rfl,rfl,rfl⟩))))
 ·rename_i e hk;simp only[L.Rel,aL,and_true]at hr;rw[hr,hc];exact Ev hop (lK (.inl (by simp)) (.inl (by simp))) (.inr (.inr (.inr ⟨_,_,_,_,_,_,rfl,rfl⟩))) λd=>Eu d (.inr (.inr (.inr (.inr ⟨_,hok.slice hk,rfl,rfl,rfl⟩))))
theorem xBy{N:Nat->Nat->Prop}{op:BinOp}{xt:TypeId}{x y:Operand}{a b r:L}{u v:Value}(hnb:∀ p q,¬ (a=.val .bool p/\b=.val .bool q))(h:bin op a b=some (true,r))(ha:a.Rel β w N [u])(hb:b.Rel β w N [v]):∃ z,((do eqGuard op xt x y u v;binOp op xt u v:Sem Value)).run C.P w=.ok z w/\r.Rel β w N [z]:=by
 unfold bin at h;split at h
 ·simp only[L.Rel,Ty.Rel,aL,and_true]at ha hb;subst ha hb;rw[jJ,lK (.inl (by simp)) (.inl (by simp)),kQ];split at h
  ·exact yNe xt h
  ·rename_i hs;split at h
   ·rename_i hk;subst hk;exact yVs xt (by simpa using hs) h
   ·cases h
 ·simp only[L.Rel,Ty.Rel,aL,and_true]at ha hb;subst ha hb;rw[jJ,lK (.inl (by simp)) (.inl (by simp)),kQ];exact yVt xt h
 ·rename_i p q;exact absurd ⟨rfl,rfl⟩ (hnb p q)
 ·cases h
theorem yVx{σ:St}{a:Act}{op:BinOp}{xt:TypeId}{x y:Operand}{v:V}(hT:bU C.P T)(hs:Sim C β σ a w)(h:zRj T σ op xt x y=some (true,v)):∃ z,((do eqGuard op xt x y (a.eval x) (a.eval y);binOp op xt (a.eval x) (a.eval y):Sem Value)).run C.P w=.ok z w/\v.Rel β w (C.N β σ.h) z:=by
 have hx:=bE hs x;have hy:=bE hs y;unfold zRj at h;split at h
 ·rename_i hc;simp only[aD]at hc;split at h
  ·rename_i l ti hl hti;split at h
   ·rename_i b hb;simp only[aA,aC,true_and]at h;subst h;rw[hl]at hx;exact⟨_,ySi (N:=C.N β σ.h) (ρ:=a.eval) hT hti hb hc.1 hx (λ_=>rfl),by simp only[V.Rel,L.Rel,Ty.Rel]⟩
   ·cases h
  ·cases h
 ·split at h
  ·rename_i p q hp hq;rw[hp]at hx;rw[hq]at hy;split at h
   ·rename_i p q _;split at h
    ·rename_i ti hti;split at h
     ·rename_i hk;split at h
      ·rename_i c r hb;simp only[aA,aC]at h;obtain⟨rfl,rfl⟩:=h;simp only[V.Rel,L.Rel,Ty.Rel,aL,and_true]at hx hy;rw[hx,hy,jJ,lK (.inl (by simp)) (.inl (by simp)),kQ];exact ySd xt ((hT _ _ hti).bool hk) hb
      ·cases h
     ·cases h
    ·cases h
   ·rename_i a1 b1 hnb;split at h
    ·rename_i c r hb;simp only[aA,aC]at h;obtain⟨rfl,rfl⟩:=h;exact xBy (N:=C.N β σ.h) (λp q hpq=>hnb p q hpq.1 hpq.2) hb hx hy
    ·cases h
  ·rename_i p q hp hq;rw[hp]at hx;rw[hq]at hy;split at h
   ·rename_i hop;split at h
    ·rename_i r hr;simp only[aA,aC,true_and]at h;subst h;obtain⟨ca,hca,hra⟩:=hx;obtain⟨cb,hcb,hrb⟩:=hy;rw[hca,hcb];obtain⟨h1,h2⟩:=xBx (x:=x) (y:=y) hT hr hop hra hrb;exact⟨_,by rw[jJ,h1,kQ,h2],by simp only[V.Rel,L.Rel,Ty.Rel]⟩
    ·cases h
   ·cases h
  ·cases h
theorem ySj{σ:St}{a:Act}{s d:TypeId}{x:Operand}{v:V}(hT:bU C.P T)(hs:Sim C β σ a w)(h:Rx T σ s d x=some (true,v)):∃ z,(convert s d (a.eval x)).run C.P w=.ok z w/\v.Rel β w (C.N β σ.h) z:=by
 have hx:=bE hs x;unfold Rx at h;split at h
 ·rename_i ts td l hts htd hl;rw[hl]at hx;split at h
  ·rename_i k ks kn n hkd hks;simp only[aA,aC,true_and]at h;subst h;simp only[V.Rel,L.Rel,Ty.Rel,aL,and_true]at hx;rw[hx];refine⟨.int k (k.wrap n),?_,by simp only[V.Rel,L.Rel,Ty.Rel]⟩;simp only[convert,jJ,run_underlying ((hT _ _ hts).int hks),run_underlying ((hT _ _ htd).int hkd),kQ,Conv.intToInt,jI]
  ·rename_i s0 hkd hks;simp only[aA,aC,true_and]at h;subst h;simp only[V.Rel,L.Rel,Ty.Rel,aL,and_true]at hx;rw[hx];refine⟨.string ⟨s0.toArray⟩,?_,by simp only[V.Rel,L.Rel,Ty.Rel]⟩;simp only[convert,jJ,run_underlying ((hT _ _ hts).str hks),run_underlying ((hT _ _ htd).str hkd),kQ,jI]
  ·cases h
 ·cases h
theorem zKk(places:Nat->Option (Nat × Nat))(cs:Array Value)(i off size:Nat)(v:Value)(rest:List (Nat × Value))(hp:places i=some (off,size))(hsz:v.cells.size=size)(hfit:off+size<=cs.size):Instr.fill places cs ((i,v)::rest)=Instr.fill places (cs.toList.take off++v.cells.toList++cs.toList.drop (off+size)).toArray rest:=by
 simp only[Instr.fill,hp];rw[if_neg (by simp only[Bool.or_eq_true,decide_eq_true_eq,not_or];constructor<;>omega)];congr 1;have key:∀ (vs:List Value) (k:Nat) (cs:Array Value),off+k+vs.length<=cs.size ->
  (vs.zipIdx k).foldl (λ(cs:Array Value) (p:Value × Nat)=>cs.setIfInBounds (off+p.2) p.1) cs=(cs.toList.take (off+k)++vs++cs.toList.drop (off+k+vs.length)).toArray:=by
  intro vs;induction vs with
  |nil=>intro k cs _;simp
  |cons v vs ih =>
   intro k cs hk;simp only[List.zipIdx_cons,List.foldl_cons];rw[ih (k+1) _ (by simp at hk ⊢;omega)];have e:=list_seg_step cs.toList (off+k) v vs (by simp at hk ⊢;omega);congr 1;simpa [Array.toList_setIfInBounds,zD]using e
 rw[<- Array.foldl_toList];have:=key v.cells.toList 0 cs (by simp;omega);simp only[qAa,qAc,hsz]at this;rw[<- this];simp[Array.toList_zipIdx]
theorem zUg{N:Nat->Nat->Prop}{fs:List (Nat × TypeId)}{places:Nat->Option (Nat × Nat)}(hT:bU C.P T)(hpl:∀ i off ft ti,fs[i]?=some (off,ft)->T.get ft=some ti->places i=some (off,ti.size)):∀ (parts:List (Nat × V)) (vs:List (Nat × Value)) (ls ls':List L) (cs:Array Value),build T fs ls parts=some ls'->aJ β w N ls cs.toList->bJ (λ(p:Nat × V) (q:Nat × Value)=>p.1=q.1/\p.2.Rel β w N q.2) parts vs ->
  ∃ cs':Array Value,Instr.fill places cs vs=some cs'/\aJ β w N ls' cs'.toList
 |[],[],ls,ls',cs,h,hr,_=>by
  simp only[build,aA]at h;subst h;exact⟨cs,rfl,hr⟩
 |(i,v)::parts,(j,x)::vs,ls,ls',cs,h,hr,ha=>by
  obtain⟨⟨e,hv⟩,ha⟩:=ha;simp only at e;subst e;simp only[build]at h;split at h
  ·rename_i off ft new hf hn;split at h
   ·rename_i ti hti;split at h
    ·rename_i hsz;split at h
     ·rename_i ls1 hset;have hrx:=V.Mv hn hv;obtain⟨hr1,hle⟩:=zBo hset hr hrx;have hxs:x.cells.size=ti.size:=by rw[<- hsz,<- hrx.length];simp
      have hxl:x.cells.toList.length=ti.size:=by simpa using hxs
      rw[hxl]at hr1 hle;have hfit:off+ti.size<=cs.size:=by simpa using hle
      rw[zKk places cs i off ti.size x vs (hpl i off ft ti hf hti) hxs hfit];exact zUg hT hpl parts vs ls1 ls' _ h (by simpa [List.append_assoc]using hr1) ha
     ·cases h
    ·cases h
   ·cases h
  ·cases h
 |[],_::_,_,_,_,_,_,ha=>ha.elim
 |_::_,[],_,_,_,_,_,ha=>ha.elim
theorem yEa{σ:St}{a:Act}(hs:Sim C β σ a w):∀ parts:List (Nat × Operand),bJ (λ(p:Nat × V) (q:Nat × Value)=>p.1=q.1/\p.2.Rel β w (C.N β σ.h) q.2) (vals σ parts) (parts.map λp=>(p.1,a.eval p.2))
 |[]=>trivial
 |(_i,x)::r=>⟨⟨rfl,bE hs x⟩,yEa hs r⟩
theorem yNn{σ:St}{a:Act}{t:TypeId}{parts:Array (Nat × Operand)}{v:V}(hT:bU C.P T)(hs:Sim C β σ a w)(h:Sw T σ t parts.toList=some (true,v)):∃ z,(Instr.build t (parts.map λp=>(p.1,a.eval p.2))).run C.P w=.ok z w/\v.Rel β w (C.N β σ.h) z:=by
 unfold Sw at h;split at h
 ·rename_i ti hti;split at h
  ·rename_i fs hk;split at h
   case isFalse=>cases h
   rename_i hpl;split at h
   ·rename_i ls hb;simp only[aA,aC,true_and]at h;subst h;have hok:=hT _ _ hti;obtain⟨ff,hu,rfl⟩:=hok.struct hk;obtain⟨_,z,hi,his,hib,hz,tT,hzs,yNo⟩:=hok.i;have hmap:∀ (l:List Field) (_:∀ f∈l,(T.get f.type).isSome=true) (acc:Array (Nat × Nat)),(l.foldlM (λ(acc:Array (Nat × Nat)) f=>do
     let s <- sizeOf f.type
     pure (acc.push (f.offset,s))) acc:Sem (Array (Nat × Nat))).run C.P w=.ok (acc++(l.map λf=>(f.offset,((T.get f.type).map (·.size)).getD 0)).toArray) w:=by
     intro l;induction l with
     |nil=>intro _ acc;simp
     |cons f l ih =>
      intro hl acc;obtain⟨tf,htf⟩:=Option.isSome_iff_exists.1 (hl f (.head _));simp only[List.foldlM_cons,jJ,(hT _ _ htf).sizeOf,kQ,jI];rw[ih (λg hg=>hl g (.tail _ hg))];simp[htf]
    have hall:∀ f∈ff.toList,(T.get f.type).isSome=true:=λf hf=>List.all_eq_true.1 hpl (f.offset,f.type) (qBw.2 ⟨f,hf,rfl⟩)
    have xBz:(ff.mapM (λf=>do pure (f.offset,<- sizeOf f.type)):Sem (Array (Nat × Nat))).run C.P w=.ok ((ff.toList.map λf=>(f.offset,((T.get f.type).map (·.size)).getD 0)).toArray) w:=by
     rw[Array.mapM_eq_foldlM,<- Array.foldlM_toList];have:=hmap ff.toList hall #[];simp only[bind_pure_comp]at this ⊢;simpa using this
    have xKg:∀ (i off:Nat) (ft:TypeId) (tf:TI),(ff.toList.map λf=>(f.offset,f.type))[i]?=some (off,ft)->T.get ft=some tf->(((ff.toList.map λf=>(f.offset,((T.get f.type).map (·.size)).getD 0)).toArray)[i]?:Option (Nat × Nat))=some (off,tf.size):=by
     intro i off ft tf h1 h2;simp only[qBx,qBu,aC,List.getElem?_toArray]at h1 ⊢;obtain⟨f,hf,rfl,rfl⟩:=h1;exact⟨f,hf,rfl,by simp[h2]⟩
    obtain⟨cs',xIq,hr⟩:=zUg (β:=β) (w:=w) (N:=C.N β σ.h) (places:=λi=>(((ff.toList.map λf=>(f.offset,((T.get f.type).map (·.size)).getD 0)).toArray)[i]?:Option (Nat × Nat))) hT xKg (vals σ parts.toList) (parts.toList.map λp=>(p.1,a.eval p.2)) ti.zls ls z.cells hb (tT _ _ _) (yEa hs _);refine⟨.agg cs',?_,⟨cs'.toList,rfl,hr⟩⟩;have hzv:(zeroValue t).run C.P w=.ok z w:=by simp[zeroValue,typeInfo,hi,hz]
    simp only[Instr.build,jJ,hzv,kQ,run_underlying hu,xBz,qBp];rw[xIq];rfl
   ·cases h
  ·cases h
 ·cases h
theorem xCa{N:Nat->Nat->Prop}{v r:V}{i:Nat}{x:Value}(h:ext v i=some r)(hr:v.Rel β w N x):∃ z,(Instr.extract x i).run C.P w=.ok z w/\r.Rel β w N z:=by
 unfold ext at h;split at h
 ·rename_i vs;obtain⟨us,rfl,hall⟩:=hr;have hi:i<vs.length:=by
   rcases jF i vs.length with h1|h1
   ·exact h1
   ·rw[qAu h1]at h;cases h
  have hi1:i<us.length:=by rw[<- hall.length];exact hi
  have hrel:=hall.get i hi hi1;rw[List.getElem?_eq_getElem hi]at h;refine⟨us[i],by simp[Instr.extract,hi1],?_⟩;split at h
  ·rename_i l hl;simp only[aA]at h hl;subst h;rw[hl]at hrel;exact hrel
  ·rename_i ls hl;simp only[aA]at h hl;subst h;rw[hl]at hrel;exact hrel
  ·cases h
 ·cases h
end
end Go.Dec
namespace Go.Dec
section
variable {β:Nat->Pl}{w:World}{T:Tab}{C:Ctx}
theorem yNp(w:World)(N:Nat->Nat->Prop)(l:List Int):bJ (λ(x:Int) (c:List Value)=>(Ty.int .u8).Rel w N x c) l (l.map λn=>[Value.int .u8 n]):=by
 induction l with
 |nil=>trivial
 |cons x l ih=>exact⟨rfl,ih⟩
theorem zXs(s:List UInt8):Lib.strCells ⟨s.toArray⟩=((eH s).map λn=>[Value.int .u8 n]).flatten:=by
 simp only[Lib.strCells,eH];induction s with
 |nil=>rfl
 |cons b s ih=>simp at ih ⊢;exact ih
theorem yBw{σ:St}{a:Act}{st sx e:TypeId}{ts tx ti:TI}{rows:List Int}{s:List UInt8}{x:Value}{id ver:Nat}(ty:TypeId)(hT:bU C.P T)(hst:T.get st=some ts)(hk:ts.k=.slice e)(hsx:T.get sx=some tx)(hkx:tx.k=.str)(hti:T.get e=some ti)(hsz:ti.size=1)(hby:0<ti.bytes)(hroom:(rows.length+s.length)*ti.bytes<=room)(hs:Sim C β σ a w)(ho:σ.h[id]?=some (.arr e (.int .u8) ver rows true))(hx:eP (β id) 0 rows.length x):∃ v' w' β',(qBd #[st,sx] ty #[x,.string ⟨s.toArray⟩]).run C.P w=.ok v' w'/\Moves β β'/\Sim C β' { σ with h:=σ.h.set id (.arr e (.int .u8) (ver+1) (rows++eH s) true) } a w' /\
  (L.own id (ver+1)).Rel β' w' (C.N β' (σ.h.set id (.arr e (.int .u8) (ver+1) (rows++eH s) true))) [v']/\Keep (C.N β σ.h) w w':=by
 have hu:=(hT _ _ hst).slice hk;obtain⟨i,z,hi,his,hib,hz,tT,hzs,_⟩:=(hT _ _ hti).i;have hlen:rows.length+s.length<=(rows.length+s.length)*ti.bytes:=qBl _ hby;have hus:=(hT _ _ hsx).str hkx;have hss:(⟨s.toArray⟩:ByteArray).size=s.length:=by simp[ByteArray.size]
 unfold room at hroom;have hob:=hs.heap.obj _ _ ho;simp only[Ob.Rel]at hob;obtain⟨hlive,nH,hpv,hpz,hpos,hpl,hob⟩:=hob;have hrl:(rows++eH s).length=rows.length+s.length:=by simp[eH]
 have fin:∀ (w':World) (bk cap:Nat) (cur:Array Value) (css:List (List Value)),(bk=w.heap.size/\w.heap.size<w'.heap.size\/(β id).blk=some bk)->Keep (λk _=>(β id).blk=some k/\True) w w'->Same w w' ->
  w'.heap[bk]?=some (.cells cur e (0,0))->bJ (λx c=>(Ty.int .u8).Rel w (C.N β σ.h) x c) (rows++eH s) css->cur.toList.take ((rows.length+s.length)*1)=css.flatten->cur.size=cap*1->rows.length+s.length<=cap->cap<=maxLen ->
  ∃ β',Moves β β'/\Sim C β' { σ with h:=σ.h.set id (.arr e (.int .u8) (ver+1) (rows++eH s) true) } a w' /\
   (L.own id (ver+1)).Rel β' w' (C.N β' (σ.h.set id (.arr e (.int .u8) (ver+1) (rows++eH s) true))) [.slice (some ⟨bk,0,none⟩) (rows.length+s.length) cap]:=by
  intro w' bk cap cur css hbk hkeep hsame hheap hall htake hcsz hle hm
  let p:Pl:=⟨true,false,ver+1,some bk,1,cap,rows.length+s.length,[]⟩
  have hmv:Moves β (upd β id p):=λj hj=>by
   by_cases hji:j=id
   ·subst hji;rw[upd_same];exact .inr ⟨nH,rfl,rfl,by rw[hpv];exact qBr _⟩
   ·exact .inl (aY _ _ hji)
  have hpb:p.blk=(β id).blk\/p.blk=none\/(p.blk=some w.heap.size/\w.heap.size<w'.heap.size):=by
   rcases hbk with ⟨e1,h2⟩|e1
   ·right;right;exact⟨by simp only[p,e1],h2⟩
   ·left;simp only[p,e1]
  have hkk:Keep (λk _=>(β id).blk=some k/\Ob.wr (.arr e (.int .u8) ver rows true)=true) w w':=hkeep.weaken λk _ hk=>⟨hk.1,rfl⟩
  refine⟨upd β id p,hmv,hs.set (p:=p) ho (λ_=>rfl) hpb hkk hsame hmv ?_,?_⟩
  ·simp only[Ob.Rel];refine⟨rfl,rfl,rfl,rfl,hpos,hrl.symm,.inr ⟨bk,cur,css,rfl,hheap,?_,by rw[hrl];exact htake,hcsz,by rw[hrl];exact hle,hm⟩⟩;exact hall.mono λ_ _ h=>h.mono (hkk.weaken λk _ hk=>.inr ⟨id,_,ho,rfl,Ob.mP hk.1⟩) λk j hlt hn=>yL (w:=w) ho (at_set (λ_=>rfl) (hpb.imp (λh=>h) (·.imp (λh=>h) (·.1))) rfl) hlt hn
  ·simp only[L.Rel,upd_same];refine⟨rfl,rfl,aS _,_,rfl,rfl,λ_=>?_⟩;unfold eP;simp only[p];exact⟨by omega,0,rfl,.inl (by simp)⟩
 have toK:∀ {w':World},Keep (λk _=>(β id).blk=some k/\True) w w'->Keep (C.N β σ.h) w w':=λh=>h.weaken λk _ hk=>.inr ⟨id,_,ho,rfl,Ob.mP hk.1⟩
 have hcells:=zXs s;have hmul:s.length*ti.bytes<=(rows.length+s.length)*ti.bytes:=wH _ (by omega);have hsm:s.length<=140737488355328:=by omega
 have hsb:s.length*ti.bytes<=140737488355328:=by omega
 have zL:bJ (λx c=>(Ty.int .u8).Rel w (C.N β σ.h) x c) (eH s) ((eH s).map λn=>[Value.int .u8 n]):=yNp _ _ _;have hsl:(eH s).length=s.length:=by simp[eH]
 have hfy:(Lib.strCells ⟨s.toArray⟩).length=s.length:=by rw[Lib.strCells_length,hss]
 rcases hob with ⟨hnb,hr0,hcap0⟩|⟨b,cur,css,hb,hheap,hall,htake,hcap,hrc,hcm⟩
 ·subst hr0;unfold eP at hx;rw[hnb]at hx;obtain⟨rfl,_,_⟩:=hx;by_cases h0:s.length=0
  ·have hys:s=[]:=qBi h0;subst hys;have hrun:(qBd #[st,sx] ty #[.slice none 0 0,.string ⟨#[]⟩]).run C.P w=.ok (.slice none 0 0) w:=by
    have h1:ByteArray.size ⟨#[]⟩=0:=rfl;simp[qBd,run_underlying hu,run_underlying hus,Go.sizeOf,typeInfo,hi,qBe,qBf,h1]
   let p:Pl:=⟨true,false,ver+1,none,1,0,0,[]⟩
   have hmv:Moves β (upd β id p):=λj hj=>by
    by_cases hji:j=id
    ·subst hji;rw[upd_same];exact .inr ⟨nH,rfl,rfl,by rw[hpv];exact qBr _⟩
    ·exact .inl (aY _ _ hji)
   refine⟨_,w,upd β id p,hrun,hmv,hs.set (p:=p) ho (λ_=>rfl) (.inr (.inl rfl)) (Keep.refl _ w) ⟨rfl,rfl,rfl⟩ hmv ?_,?_,Keep.refl _ w⟩
   ·simp only[Ob.Rel];exact⟨rfl,rfl,rfl,rfl,hpos,by simp[p,eH],.inl ⟨rfl,by simp[eH],rfl⟩⟩
   ·simp only[L.Rel,upd_same];refine⟨rfl,rfl,aS _,_,rfl,rfl,λ_=>?_⟩;unfold eP;simp only[p];exact⟨trivial,trivial,trivial⟩
  ·have hrun:=run_append_nil_string (P:=C.P) w st sx ty e i z hu hus hi hz ⟨s.toArray⟩ (by omega) (by omega) (by rw[hib,hss];omega);have e1:(s.toArray.map λb:UInt8=>Value.int .u8 b.toNat)=(Lib.strCells ⟨s.toArray⟩).toArray:=by
    apply Array.ext';simp[Lib.strCells]
   rw[hss]at hrun;simp only[e1]at hrun;have hge:=grownCap_ge w s.length 0 e;have hcm:=grownCap_le_maxLen w s.length 0 e (by simp only[maxLen];omega);have hk0:Keep (λ_ _=>False) w (w.drew.alloc (.cells ((Lib.strCells ⟨s.toArray⟩).toArray++qBk z.cells (grownCap w s.length 0 e-s.length)) e)):=(Aq w).trans (dX w.drew _);have hk1:=hk0.weaken (N':=λk _=>(β id).blk=some k/\True) λ_ _ h=>h.elim
   obtain⟨β',h1,h2,h3⟩:=fin _ w.heap.size (grownCap w s.length 0 e) _ _ (.inl ⟨rfl,by simp⟩) hk1 ⟨rfl,rfl,rfl⟩ (heap_alloc_new w.drew _) (by simpa using zL)
    (by rw[<- hcells];simp only[qBj,qBn,yY,qBq];rw[qAz hfy])
    (by simp only[qBm,qBb,size_zeroCells,hzs,hfy,his,hsz,qBq];omega) (by simpa using hge) hcm
   simp only[qBn,yY]at h3;exact⟨_,_,β',hrun,h1,h2,h3,toK hk1⟩
 ·unfold eP at hx;rw[hb]at hx;obtain⟨h1,o,rfl,h3⟩:=hx;have ho0:o=0:=by
   rcases h3 with h3|h3
   ·simpa using h3
   ·omega
  subst ho0;rw[qCa];have hl:=jO hall;have hcl:css.flatten.length=rows.length:=by rw[cZ css hl,<- hall.length];simp[Ty.size]
  have htk:cur.toList.take rows.length=css.flatten:=by simpa [Ty.size]using htake
  have hcs:cur.size=(β id).cap:=by simpa [Ty.size]using hcap
  by_cases hr:rows.length+s.length<=(β id).cap
  ·have hrun:=Lib.run_append_room_string (P:=C.P) w st sx ty e i hu hus hi (by rw[his,hsz]) b rows.length (β id).cap cur hheap ⟨s.toArray⟩ (by rw[hss];exact hr) (by rw[hss];omega);rw[hss]at hrun;have hk1:Keep (λk _=>(β id).blk=some k/\True) w (w.setRow b (cur.toList.take rows.length++Lib.strCells ⟨s.toArray⟩++cur.toList.drop (rows.length+s.length)).toArray):=nI.weaken λk _ hk=>by subst hk;exact⟨hb,trivial⟩
   obtain⟨β',g1,g2,g3⟩:=fin _ b (β id).cap _ _ (.inr hb) hk1 Cw (setRow_heap w b _ _ e _ hheap) (hall.append zL)
    (by
     rw[htk,qBo,<- hcells];exact qAz (by rw[xG,hcl,hfy,qBq]))
    (by
     simp only[qBb,xG,qAb,yV,qAc,hfy];omega) hr hcm
   exact⟨_,_,β',hrun,g1,g2,g3,toK hk1⟩
  ·have holds:∀ j u,css.flatten[j]?=some u->w.cell? ((⟨b,0,none⟩:Addr).add j)=some u:=pG (by rw[<- htk];exact(Cells.of_heap hheap).take _);have hrun:=Lib.run_append_grow_string (P:=C.P) w st sx ty e i z hu hus hi hz ⟨b,0,none⟩ rows.length (β id).cap css.flatten (by rw[hcl,his,hsz,qBq]) holds ⟨s.toArray⟩ (by omega) (by omega)
    (growslice_fits (by omega) (by rw[hib,hss];exact hroom))
   rw[hss]at hrun;have hge:=grownCap_ge w (rows.length+s.length) (β id).cap e;have hcm':=grownCap_le_maxLen w (rows.length+s.length) (β id).cap e (by simp only[maxLen];omega);have hk0:Keep (λ_ _=>False) w (w.drew.alloc (.cells (css.flatten.toArray++(Lib.strCells ⟨s.toArray⟩).toArray++qBk z.cells (grownCap w (rows.length+s.length) (β id).cap e-(rows.length+s.length))) e)):=(Aq w).trans (dX w.drew _);have hk1:=hk0.weaken (N':=λk _=>(β id).blk=some k/\True) λ_ _ h=>h.elim
   obtain⟨β',g1,g2,g3⟩:=fin _ w.heap.size (grownCap w (rows.length+s.length) (β id).cap e) _ _ (.inl ⟨rfl,by simp⟩) hk1 ⟨rfl,rfl,rfl⟩ (heap_alloc_new w.drew _) (hall.append zL)
    (by
     simp only[qBj,qBo,<- hcells];exact qAz (by rw[xG,hcl,hfy,qBq]))
    (by
     simp only[qBm,qBb,size_zeroCells,hzs,hcl,hfy,his,hsz];omega) hge hcm'
   exact⟨_,_,β',hrun,g1,g2,g3,toK hk1⟩
end
end Go.Dec
namespace Go.Dec
section
variable {β:Nat->Pl}{w:World}{T:Tab}{C:Ctx}
def After(C:Ctx)(β:Nat->Pl)(σ:St)(a:Act)(w:World)(o:Oper)(v:V)(h':List Ob):Prop :=
 ∃ β' w' n v',(execOp a.eval o).run C.P w=.ok n w'/\(n=.value v'\/(n=.skip/\v'=undef))/\Moves β β'/\Keep (C.N β σ.h) w w'/\Sim C β' { σ with h:=h' } a w'/\v.Rel β' w' (C.N β' h') v'
theorem After.read{σ:St}{a:Act}{o:Oper}{v:V}(hs:Sim C β σ a w)(h:∃ v',(execOp a.eval o).run C.P w=.ok (.value v') w/\v.Rel β w (C.N β σ.h) v'):After C β σ a w o v σ.h:=by
 obtain⟨v',h1,h2⟩:=h;exact⟨β,w,_,v',h1,.inl rfl,Moves.refl β,Keep.refl _ w,hs,h2⟩
theorem fJ{m:Sem Value}{P:Program}{y:Value}(h:m.run P w=.ok y w):(do pure (Next.value (<- m)):Sem Next).run P w=.ok (.value y) w:=by
 rw[jJ,h];rfl
theorem zRk{σ:St}{a:Act}(hs:Sim C β σ a w):∀ {xs:List Operand}{ls:List L},caps σ xs=some ls->L.eG β w (C.N β σ.h) ls (xs.map a.eval)
 |[],ls,h=>by simp only[caps,aA]at h;subst h;simp only[L.eG,List.map_nil]
 |x::xs,ls,h=>by
  simp only[caps]at h;split at h
  ·rename_i l r hl hr;simp only[aA]at h;subst h;simp only[L.eG,qBt];have hx:=bE hs x;rw[hl]at hx;exact⟨_,_,rfl,hx,zRk hs hr⟩
  ·cases h
theorem kC{t e:TypeId}{te:Ty}{ti:TI}(h:elemTy T t=some (e,te,ti)):∃ ts,T.get t=some ts/\ts.k=.slice e/\T.get e=some ti/\ti.ty=some te/\ti.size=te.size/\0<te.size/\0<ti.bytes:=by
 unfold elemTy at h;split at h
 ·rename_i ts hts;split at h
  ·rename_i e' hk;split at h
   ·rename_i ti' hti;split at h
    ·rename_i te' hte;split at h
     ·rename_i hc;simp only[aA,aC]at h;obtain⟨rfl,rfl,rfl⟩:=h;simp only[aD]at hc;obtain⟨⟨h1,h2⟩,h3⟩:=hc;exact⟨ts,hts,hk,hti,hte,aP h1,bX h2,bX h3⟩
     ·cases h
    ·cases h
   ·cases h
  ·cases h
 ·cases h
theorem zBr{σ:St}{a:Act}{te:Ty}(hs:Sim C β σ a w):∀ {k:Nat}{xs:List (Nat × Operand)}{ys:List te.den},elems σ te k xs=some ys ->
 ∃ css,bJ (λx c=>te.Rel w (C.N β σ.h) x c) ys css/\css=xs.map (λp=>(a.eval p.2).cells.toList)/\∀ i p,xs[i]?=some p->p.1=k+i
 |k,[],ys,h=>by
  simp only[elems,aA]at h;subst h;exact⟨[],trivial,rfl,by simp⟩
 |k,(i,x)::xs,ys,h=>by
  simp only[elems]at h;split at h
  ·rename_i hi;split at h
   ·rename_i ls hls;split at h
    ·rename_i _ y zs hy hr;simp only[aA]at h;subst h;obtain⟨css,h1,h2,h3⟩:=zBr hs hr;have hx:=V.Mv hls (bE hs x);refine⟨(a.eval x).cells.toList::css,⟨pI hy hx,h1⟩,by rw[h2];rfl,λj p hp=>?_⟩;cases j with
     |zero =>
      simp only[qAi,aA]at hp;subst hp;exact aP hi
     |succ j =>
      have:=h3 j p (by simpa using hp);omega
    ·cases h
   ·cases h
  ·cases h
theorem zGk (size : Nat) : ∀ (ps : List (Nat × Value)) (k : Nat) (cs : Array Value), (∀ i p, ps[i]? = some p -> p.1 = k + i) -> (∀ p ∈ ps, p.2.cells.size = size) -> cs.size = (k + ps.length) * size ->
    ∃ cs' : Array Value, Instr.fill (fun i => some (i * size, size)) cs ps = some cs' ∧ cs'.toList = cs.toList.take (k * size) ++ (ps.map fun p => p.2.cells.toList).flatten
  | [], k, cs, _, _, hs => ⟨cs, rfl, by rw [List.take_of_length_le (by simp at hs ⊢; omega)]; simp⟩
  | (i, v) :: ps, k, cs, h1, h2, hs => by
    have hi : i = k := by have := h1 0 (i, v) rfl; simpa using this
    subst hi;have hv := h2 (i, v) (.head _);have hm : (i + 1 + ps.length) * size <= (i + (ps.length + 1)) * size := wH _ (by omega);have hm2 : (i + 1) * size <= (i + (ps.length + 1)) * size := wH _ (by omega);have hsm : (i + 1) * size = i * size + size := Nat.succ_mul _ _;simp only [xI] at hs;rw [zKk _ cs i (i * size) size v ps rfl hv (by omega)];have hvl : v.cells.toList.length = size := by simpa using hv
    obtain ⟨cs', h3, h4⟩ := zGk size ps (i + 1) (cs.toList.take (i * size) ++ v.cells.toList ++ cs.toList.drop (i * size + size)).toArray (fun j p hp => by have := h1 (j + 1) p (by simpa using hp); omega) (fun p hp => h2 p (.tail _ hp))
      (by simp only [qBb, xG, qAb, yV, qAc, hvl]
          rw [show i + 1 + ps.length = i + (ps.length + 1) by omega]; omega)
    refine ⟨cs', h3, ?_⟩;rw [h4];simp only [qBt, xB];rw [qAz (by simp only [xG, qAb, qAc, hvl]; omega)];simp
theorem yVy{σ:St}{a:Act}{t:TypeId}{x:Operand}{v:V}(ty:TypeId)(hT:bU C.P T)(hs:Sim C β σ a w)(h:Uw T σ t x=some (true,v)):∃ z,(Builtin.len_ #[t] ty #[a.eval x]).run C.P w=.ok z w/\v.Rel β w (C.N β σ.h) z:=by
 have hx:=bE hs x;unfold Uw at h;split at h
 ·rename_i ti l hti hl;rw[hl]at hx;have hok:=hT _ _ hti;split at h
  ·rename_i n e hk;simp only[aA,aC,true_and]at h;subst h;refine⟨goInt n,?_,by simp only[V.Rel,L.Rel,Ty.Rel,goInt]⟩;have hu:=hok.arr hk;simp[Builtin.len_,run_underlying hu]
  ·rename_i hk;split at h
   ·rename_i s;simp only[aA,aC,true_and]at h;subst h;simp only[V.Rel,L.Rel,Ty.Rel,aL,and_true]at hx;rw[hx];refine⟨goInt s.length,?_,by simp only[V.Rel,L.Rel,Ty.Rel,goInt]⟩;have hu:=hok.str hk;simp[Builtin.len_,run_underlying hu,size_mk]
   ·cases h
  ·rename_i e hk;split at h
   ·rename_i c n hn;simp only[aA,aC]at h;obtain⟨rfl,rfl⟩:=h;have hu:=hok.slice hk;have hx:=zRi hs.heap (show l.Rel β w (C.N β σ.h) [a.eval x]from hx);generalize l.view σ.h=l' at hx hn;have:∃ b c,a.eval x=.slice b n.toNat c/\0<=n:=by
     unfold zNq at hn;split at hn
     ·rename_i te xs;simp only[aA,aC,true_and]at hn;subst hn;simp only[L.Rel,Ty.Rel]at hx;obtain⟨v',e1,hx⟩:=hx;simp only[aL,and_true]at e1;rw[e1];rcases hx with ⟨rfl,rfl⟩|⟨b,off,cap,css,rfl,_⟩|⟨ad,cap,rfl,rfl,_⟩
      ·exact⟨none,0,rfl,by simp⟩
      ·exact⟨some ⟨b,off,none⟩,cap,by simp,by omega⟩
      ·exact⟨some ad,cap,by simp,by simp⟩
     ·simp only[aA,aC,true_and]at hn;subst hn;simp only[L.Rel,aL,and_true]at hx;exact⟨none,0,by simpa using hx,by simp⟩
     ·rename_i id ver off len;split at hn
      ·rename_i e' te vv rows wr ho;simp only[aA,aC]at hn;obtain⟨hv,rfl⟩:=hn;have hv:=aP hv;have hob:=hs.heap.obj _ _ ho;simp only[Ob.Rel]at hob;obtain⟨_,_,hpv,_⟩:=hob;simp only[L.Rel]at hx;obtain⟨_,_,_,c,hc,_,himp⟩:=hx;have hsl:=himp (by rw[hpv,hv]);simp only[aL,and_true]at hc;subst hc;unfold eP at hsl;split at hsl
       ·exact⟨none,0,by rw[hsl.1,hsl.2.2];rfl,by omega⟩
       ·obtain⟨_,o,hsl,_⟩:=hsl;exact⟨_,_,by rw[hsl];simp;exact⟨rfl,rfl⟩,by omega⟩
      ·rename_i e' ei vv rows top ho;simp only[aA,aC]at hn;obtain⟨hv,rfl⟩:=hn;have hv:=aP hv;have hob:=hs.heap.obj _ _ ho;simp only[Ob.Rel]at hob;obtain⟨_,_,hpv,_⟩:=hob;simp only[L.Rel]at hx;obtain⟨_,_,_,c,hc,_,himp⟩:=hx;have hsl:=himp (by rw[hpv,hv]);simp only[aL,and_true]at hc;subst hc;unfold eP at hsl;split at hsl
       ·exact⟨none,0,by rw[hsl.1,hsl.2.2];rfl,by omega⟩
       ·obtain⟨_,o,hsl,_⟩:=hsl;exact⟨_,_,by rw[hsl];simp;exact⟨rfl,rfl⟩,by omega⟩
      ·cases hn
     ·cases hn
    obtain⟨b,c,hb,h0⟩:=this;refine⟨goInt n,?_,by simp only[V.Rel,L.Rel,Ty.Rel,goInt]⟩;rw[hb];simp[Builtin.len_,run_underlying hu,Int.toNat_of_nonneg h0]
   ·cases h
  ·cases h
 ·cases h
theorem yJo{σ:St}{a:Act}{t:TypeId}{s x:Operand}{v:V}{h':List Ob}(ty:TypeId)(hT:bU C.P T)(hs:Sim C β σ a w)(h:Qb T σ t s x=some (true,v,h')):∃ β' w' v',(qBd #[t,t] ty #[a.eval s,a.eval x]).run C.P w=.ok v' w'/\Moves β β'/\Keep (C.N β σ.h) w w'/\Sim C β' { σ with h:=h' } a w'/\v.Rel β' w' (C.N β' h') v':=by
 have hx:=bE hs x;have hsl:=bE hs s;unfold Qb at h;split at h
 ·rename_i e te ti ls lx het hls hlx;obtain⟨ts,hts,hk,hti,_,hsz,hpos,hby⟩:=kC het;rw[hlx]at hx;rw[hls]at hsl;split at h
  ·rename_i c ys hys;split at h
   ·simp only[aA,aC,aD]at h;obtain⟨⟨rfl,hroom⟩,rfl,rfl⟩:=h;have hy:=Gw hs.heap hys (show lx.Rel β w (C.N β σ.h) [a.eval x]from hx);simp only[V.Rel,L.Rel,aL,and_true]at hsl;rw[hsl];obtain⟨v',w',β',h1,h2,h3,h4,h5⟩:=yBv ty hT hts hk hti hsz hpos hby (bX hroom) hs hy;exact⟨β',w',v',h1,h2,h5,h3,h4⟩
   ·rename_i id ver;split at h
    ·rename_i e' t' vv rows ho;split at h
     ·rename_i hh;obtain⟨e1,e2⟩:=hh;subst e1 e2;simp only[aA,aC,aD]at h;obtain⟨⟨rfl,hv,hroom⟩,rfl,rfl⟩:=h;have hv:=aP hv;subst hv;have hy:=Gw hs.heap hys (show lx.Rel β w (C.N β σ.h) [a.eval x]from hx);have hob:=hs.heap.obj _ _ ho;simp only[Ob.Rel]at hob;obtain⟨_,_,hpv,_,_,hpl,_⟩:=hob;simp only[V.Rel,L.Rel]at hsl;obtain⟨_,_,_,c,hc,_,himp⟩:=hsl;have hso:=himp hpv;simp only[aL,and_true]at hc;subst hc;rw[hpl]at hso;obtain⟨v',w',β',h1,h2,h3,h4,h5⟩:=zIx ty hT hts hk hti hsz hby (bX hroom) hs ho (aS _) hso hy;rw[List.take_length]at h3 h4;exact⟨β',w',v',h1,h2,h5,h3,h4⟩
     ·cases h
    ·cases h
   ·rename_i id ver off len;split at h
    ·rename_i e' t' vv rows ho;split at h
     ·rename_i hh;obtain⟨e1,e2⟩:=hh;subst e1 e2;simp only[aA,aC,aD]at h;obtain⟨⟨rfl,hv,hoff,hlen,hroom⟩,rfl,rfl⟩:=h;have hv:=aP hv;have hoff:=aP hoff;subst hv hoff;have hy:=Gw hs.heap hys (show lx.Rel β w (C.N β σ.h) [a.eval x]from hx);have hob:=hs.heap.obj _ _ ho;simp only[Ob.Rel]at hob;obtain⟨_,_,hpv,_,_,hpl,_⟩:=hob;simp only[V.Rel,L.Rel]at hsl;obtain⟨_,_,_,c,hc,_,himp⟩:=hsl;have hso:=himp hpv;simp only[aL,and_true]at hc;subst hc;obtain⟨v',w',β',h1,h2,h3,h4,h5⟩:=zIx ty hT hts hk hti hsz hby (bX hroom) hs ho (bX hlen) hso hy;exact⟨β',w',v',h1,h2,h5,h3,h4⟩
     ·cases h
    ·cases h
   ·rename_i t' xs;split at h
    ·rename_i e1;subst e1;simp only[aA,aC,aD]at h;obtain⟨⟨rfl,hroom⟩,rfl,rfl⟩:=h;have hy:=Gw hs.heap hys (show lx.Rel β w (C.N β σ.h) [a.eval x]from hx);simp only[V.Rel,L.Rel]at hsl;obtain⟨v',w',h1,h2,h3,h4⟩:=zEj ty hT hts hk hti hsz hby (bX hroom) hs hsl hy;exact⟨β,w',v',h1,Moves.refl β,h2,h3,by simp only[V.Rel,L.Rel];exact h4⟩
    ·cases h
   ·cases h
  ·cases h
 ·cases h
theorem yJp{σ:St}{a:Act}{t t2:TypeId}{s x:Operand}{v:V}{h':List Ob}(ty:TypeId)(hT:bU C.P T)(hs:Sim C β σ a w)(h:zEk T σ t t2 s x=some (true,v,h')):∃ β' w' v',(qBd #[t,t2] ty #[a.eval s,a.eval x]).run C.P w=.ok v' w'/\Moves β β'/\Keep (C.N β σ.h) w w'/\Sim C β' { σ with h:=h' } a w'/\v.Rel β' w' (C.N β' h') v':=by
 have hx:=bE hs x;have hsl:=bE hs s;unfold zEk at h;split at h
 ·rename_i e _ ti tx id ver u het htx hls hlx;obtain⟨ts,hts,hk,hti,_,_,_,hby⟩:=kC het;rw[hlx]at hx;rw[hls]at hsl;split at h
  ·rename_i e' vv rows hkx ho;simp only[aA,aC,aD]at h;obtain⟨⟨he,hsz,hv,hroom⟩,rfl,rfl⟩:=h;have he:=aP he;have hsz:=aP hsz;have hv:=aP hv;subst he hv;have hob:=hs.heap.obj _ _ ho;simp only[Ob.Rel]at hob;obtain⟨_,_,hpv,_,_,hpl,_⟩:=hob;simp only[V.Rel,L.Rel]at hsl;obtain⟨_,_,_,c,hc,_,himp⟩:=hsl;have hso:=himp hpv;simp only[aL,and_true]at hc;subst hc;rw[hpl]at hso;simp only[V.Rel,L.Rel,Ty.Rel,aL,and_true]at hx;rw[hx];obtain⟨v',w',β',h1,h2,h3,h4,h5⟩:=yBw ty hT hts hk htx hkx hti hsz hby (bX hroom) hs ho hso;exact⟨β',w',v',h1,h2,h5,h3,h4⟩
  ·cases h
 ·cases h
theorem yM{a:Act}{o:Oper}{b:Builtin}{args:Array Operand}{ts:Array TypeId}{x:Value}{w':World}(ho:o.op=.call { callee:=.builtin b,args,argTypes:=ts })(h:(builtin b ts o.type (args.map fun|.const _=>true|_=>false) (args.map a.eval)).run C.P w=.ok (.value x) w'):(execOp a.eval o).run C.P w=.ok (.value x) w':=by
 simp only[execOp,ho,resolve,jJ,jI,kQ,invoke];exact h
theorem Ik{z:Array Value}{size:Nat}(hz:z.size=size)(hpos:0<size)(k:Nat):(madeCells z (k*size)).toList=(qAf k z.toList).flatten:=by
 have hl:∀ c∈qAf k z.toList,c.length=size:=λc hc=>by rw[List.eq_of_mem_replicate hc];simpa using hz
 apply List.ext_getElem?;intro j;by_cases hj:j<k*size
 ·have h1:j / size<k:=Nat.div_lt_of_lt_mul (by rw[qBy];exact hj);have h2:j % size<size:=Nat.mod_lt _ hpos;have h3:=Gv (qAf k z.toList) hl (j / size) (j % size) (by simpa using h1) h2;have h4:j / size*size+j % size=j:=by rw[qBy];exact Nat.div_add_mod j size
  rw[h4]at h3;rw[h3];have h5:j % size<z.size:=by omega
  simp only[madeCells,qBp,qBx,Array.getElem?_toList,hz];rw[Array.getElem?_eq_getElem (by simpa using hj)];simp[h5]
 ·have h1:(qAf k z.toList).flatten.length=k*size:=by rw[cZ _ hl];simp
  have h2:(madeCells z (k*size)).toList.length=k*size:=by simp[size_madeCells]
  rw[qAu (by omega),qAu (by omega)]
theorem yNq{σ:St}{a:Act}{o:Oper}{v:V}{h':List Ob}(hT:bU C.P T)(hs:Sim C β σ a w)(h:gN T σ o=some (true,v,h')):After C β σ a w o v h':=by
 unfold gN at h;split at h
 ·rename_i x ho;simp only[aA,aC,true_and]at h;obtain⟨rfl,rfl⟩:=h;exact After.read hs ⟨_,by simp only[execOp,ho];rfl,bE hs x⟩
 ·rename_i x ho;simp only[aA,aC,true_and]at h;obtain⟨rfl,rfl⟩:=h;exact After.read hs ⟨_,by simp only[execOp,ho];rfl,bE hs x⟩
 ·rename_i op _ x ho;have hx:=bE hs x;split at h
  ·rename_i l hl;rw[hl]at hx;split at h
   ·rename_i c r hr;simp only[aA,aC]at h;obtain⟨rfl,rfl,rfl⟩:=h;obtain⟨y,h1,h2⟩:=xEj (C:=C) hr hx;exact After.read hs ⟨y,by simp only[execOp,ho];exact fJ h1,h2⟩
   ·cases h
  ·cases h
 ·rename_i op xt x y _ ho;split at h
  ·rename_i c r hr;simp only[aA,aC]at h;obtain⟨rfl,rfl,rfl⟩:=h;obtain⟨z,h1,h2⟩:=yVx hT hs hr;exact After.read hs ⟨z,by simp only[execOp,ho];exact fJ h1,h2⟩
  ·cases h
 ·rename_i s d x ho;split at h
  ·rename_i c r hr;simp only[aA,aC]at h;obtain⟨rfl,rfl,rfl⟩:=h;obtain⟨z,h1,h2⟩:=ySj hT hs hr;exact After.read hs ⟨z,by simp only[execOp,ho];exact fJ h1,h2⟩
  ·cases h
 ·rename_i s x f ho;have hx:=bE hs x;split at h
  ·rename_i ti l hti hl;rw[hl]at hx;split at h
   ·rename_i fs hk;split at h
    ·rename_i off ft hf;split at h
     ·rename_i tf htf;split at h
      ·rename_i hz;split at h
       ·rename_i c r hr;simp only[aA,aC]at h;obtain⟨rfl,rfl,rfl⟩:=h;obtain⟨y,h1,h2⟩:=yDw hT hti hk hf htf (bX hz) hr hs.heap hx;exact After.read hs ⟨y,by simp only[execOp,ho];exact fJ h1,h2⟩
       ·cases h
      ·cases h
     ·cases h
    ·cases h
   ·cases h
  ·cases h
 ·rename_i t x i ho;have hx:=bE hs x;split at h
  ·rename_i ti l k n hti hl hn;rw[hl]at hx;split at h
   ·rename_i c r hr;simp only[aA,aC]at h;obtain⟨rfl,rfl,rfl⟩:=h;obtain⟨y,h1,h2⟩:=yJm (k:=k) hT hti hr hs.heap (zRi hs.heap hx);exact After.read hs ⟨y,by simp only[execOp,ho,iO hn (bE hs i)];exact fJ h1,h2⟩
   ·cases h
  ·cases h
 ·rename_i t x i ho;split at h
  ·rename_i ti k n hti hn;split at h
   ·rename_i hk;split at h
    ·rename_i c r hr;simp only[aA,aC]at h;obtain⟨rfl,rfl,rfl⟩:=h;obtain⟨y,h1,h2⟩:=xBv (σh:=σ.h) (k:=k) hT hti hk hr (bE hs x);exact After.read hs ⟨y,by simp only[execOp,ho,iO hn (bE hs i)];exact fJ h1,h2⟩
    ·cases h
   ·cases h
  ·cases h
 ·rename_i t x lo hi ho;have hx:=bE hs x;split at h
  ·rename_i ti l l0 h0 hti hl hlo hhi;rw[hl]at hx;have hx2:=zRi hs.heap (show l.Rel β w (C.N β σ.h) [a.eval x]from hx);have hb:∀ (q:Option Operand) (m:Option Int),xS σ q=some m->∃ k,q.map a.eval=m.map (.int k):=by
    intro q m hq;cases q with
    |none=>simp only[xS,aA]at hq;subst hq;exact⟨.i64,rfl⟩
    |some q =>
     simp only[xS]at hq;split at hq
     ·rename_i k n hn;simp only[aA]at hq;subst hq;exact⟨k,by simp[iO hn (bE hs q)]⟩
     ·cases hq
   obtain⟨kl,hkl⟩:=hb lo l0 hlo;obtain⟨kh,hkh⟩:=hb hi h0 hhi;split at h
   ·rename_i c r hr;have fin:(∀ e,ti.k=.slice e->∃ te,T.get e=some te/\(∀ a xs,l.view σ.h=.val (.slice a) xs->a.size=te.size)/\(∀ id ver off len,l.view σ.h=.sl id ver off len->te.size=(β id).size))->some (c,V.one r,σ.h)=some (true,v,h')->After C β σ a w o v h':=by
     intro hte h;simp only[aA,aC]at h;obtain⟨rfl,rfl,rfl⟩:=h;obtain⟨y,h1,h2⟩:=ySe (kl:=kl) (kh:=kh) hT hti hr hs.heap hx2 hte;exact After.read hs ⟨y,by simp only[execOp,ho,hkl,hkh,zU];exact fJ h1,h2⟩
    split at h
    ·rename_i e hk;split at h
     ·rename_i te hte;split at h
      ·rename_i a0 xs hv;split at h
       ·rename_i hz;refine fin (λe' he'=>?_) h;rw[hk]at he';simp only[TK.slice.injEq]at he';subst he';refine⟨te,hte,λa1 ys h1=>?_,λid ver off len h1=>?_⟩
        ·rw[hv]at h1;simp only[L.val.injEq,Ty.slice.injEq]at h1;obtain⟨rfl,_⟩:=h1;exact aP hz
        ·rw[hv]at h1;cases h1
       ·cases h
      ·rename_i id0 xNb xNc xNd hv;split at h
       ·rename_i e0 a0 v0 xIr wr0 ho0;split at h
        ·rename_i hz;refine fin (λe' he'=>?_) h;rw[hk]at he';simp only[TK.slice.injEq]at he';subst he';refine⟨te,hte,λa1 ys h1=>?_,λid ver off len h1=>?_⟩
         ·rw[hv]at h1;cases h1
         ·rw[hv]at h1;simp only[L.sl.injEq]at h1;obtain⟨rfl,_⟩:=h1;have hob:=hs.heap.obj _ _ ho0;simp only[Ob.Rel]at hob;obtain⟨_,_,_,hpz,_⟩:=hob;rw[hpz];exact(aP hz).symm
        ·cases h
       ·rename_i e0 ei0 v0 xIr xNe ho0;split at h
        ·rename_i hz;refine fin (λe' he'=>?_) h;rw[hk]at he';simp only[TK.slice.injEq]at he';subst he';refine⟨te,hte,λa1 ys h1=>?_,λid ver off len h1=>?_⟩
         ·rw[hv]at h1;cases h1
         ·rw[hv]at h1;simp only[L.sl.injEq]at h1;obtain⟨rfl,_⟩:=h1;have hob:=hs.heap.obj _ _ ho0;simp only[Ob.Rel]at hob;obtain⟨_,_,_,hpz,_⟩:=hob;rw[hpz];exact(aP hz).symm
        ·cases h
       ·cases h
      ·cases h
     ·cases h
    ·rename_i hk;exact fin (λe he=>by rw[hk]at he;cases he) h
    ·cases h
   ·cases h
  ·cases h
 ·rename_i t x hi mx ho;have hx:=bE hs x;split at h
  ·rename_i ti a0 xs k1 n k2 m hti hl hhi hmx;rw[hl]at hx;have hh:=iO hhi (bE hs hi);have hm:=iO hmx (bE hs mx);split at h
   ·rename_i e hk;split at h
    ·rename_i te hte;split at h
     ·rename_i hz;simp only[aA,aC,aD,decide_eq_true_eq]at h;obtain⟨⟨hn,hm2⟩,rfl,rfl⟩:=h;have hz:=aP hz;have hu:=(hT _ _ hti).slice hk;obtain⟨y,h1,h2⟩:=yVv (C:=C) (t:=t) (k1:=k1) (k2:=k2) hT hti hk hte hz.symm hx;refine After.read hs ⟨y,?_,by simp only[V.Rel,L.Rel];exact h2⟩;simp only[execOp,ho,zU,kU,hh,hm,hn,hm2];exact fJ h1
     ·cases h
    ·cases h
   ·cases h
  ·cases h
 ·rename_i t parts ho;split at h
  ·rename_i c r hr;simp only[aA,aC]at h;obtain⟨rfl,rfl,rfl⟩:=h;obtain⟨z,h1,h2⟩:=yNn hT hs hr;exact After.read hs ⟨z,by simp only[execOp,ho];exact fJ h1,h2⟩
  ·cases h
 ·rename_i x i ho;split at h
  ·rename_i r hr;simp only[aA,aC,true_and]at h;obtain⟨rfl,rfl⟩:=h;obtain⟨z,h1,h2⟩:=xCa (C:=C) hr (bE hs x);exact After.read hs ⟨z,by simp only[execOp,ho];exact fJ h1,h2⟩
  ·cases h
 ·rename_i t x ho;have hx:=bE hs x;split at h
  ·rename_i l hl;rw[hl]at hx;split at h
   ·rename_i c r hr;simp only[aA,aC]at h;obtain⟨rfl,rfl,rfl⟩:=h;obtain⟨z,h1,h2⟩:=Wn hT hr hs.heap hx;exact After.read hs ⟨z,by simp only[execOp,ho];exact fJ h1,h2⟩
   ·cases h
  ·cases h
 ·rename_i t x y ho;have hx:=bE hs x;split at h
  ·rename_i l hl;rw[hl]at hx;split at h
   ·rename_i c r hr;simp only[aA,aC]at h;obtain⟨rfl,rfl,rfl⟩:=h;obtain⟨w',h1,h2,h3⟩:=yJn hT hr hs hx (bE hs y);exact⟨β,w',.skip,undef,by simp only[execOp,ho,jJ,h1,kQ,jI],.inr ⟨rfl,rfl⟩,Moves.refl β,h3,h2,trivial⟩
   ·cases h
  ·cases h
 ·rename_i x ho;have hx:=bE hs x;have fin:∀ l:L,ovl σ x=.one l->(∃ b,a.eval x=.pointer (some b))\/(∃ f p q,a.eval x=.func (.func f) p q)->After C β σ a w o (.one l) σ.h:=by
   intro l hl hp;rw[hl]at hx;refine After.read hs ⟨a.eval x,?_,hx⟩;rcases hp with ⟨b,hb⟩|⟨f,p,q,hb⟩<;>(simp only[execOp,ho,hb];rfl)
  split at h
  ·rename_i id off hl;simp only[aA,aC,true_and]at h;obtain⟨rfl,rfl⟩:=h;refine fin _ hl (.inl ?_);rw[hl]at hx;simp only[V.Rel,L.Rel,aL,and_true]at hx;obtain⟨_,_,b,_,hx⟩:=hx;exact⟨_,hx⟩
  ·rename_i id off es i sub hl;simp only[aA,aC,true_and]at h;obtain⟨rfl,rfl⟩:=h;refine fin _ hl (.inl ?_);rw[hl]at hx;simp only[V.Rel,L.Rel,aL,and_true]at hx;obtain⟨_,_,b,_,hx⟩:=hx;exact⟨_,hx⟩
  ·rename_i t y off hl;simp only[aA,aC,true_and]at h;obtain⟨rfl,rfl⟩:=h;refine fin _ hl (.inl ?_);rw[hl]at hx;simp only[V.Rel,L.Rel,aL,and_true]at hx;obtain⟨c,hx,b,o',cs,rfl,_⟩:=hx;exact⟨_,hx⟩
  ·rename_i id ver i off hl;simp only[aA,aC,true_and]at h;obtain⟨rfl,rfl⟩:=h;refine fin _ hl (.inl ?_);rw[hl]at hx;simp only[V.Rel,L.Rel,aL,and_true]at hx;obtain⟨_,_,_,c,hx,⟨q,o',rfl⟩,_⟩:=hx;exact⟨_,hx⟩
  ·rename_i f cs hl;simp only[aA,aC,true_and]at h;obtain⟨rfl,rfl⟩:=h;refine fin _ hl (.inr ?_);rw[hl]at hx;simp only[V.Rel,L.Rel,aL,and_true]at hx;obtain⟨us,hx,_⟩:=hx;obtain⟨g,p,q,e⟩:=zXq f us;exact⟨_,_,_,hx.trans e⟩
  ·rename_i f p q hl;simp only[aA,aC,true_and]at h;obtain⟨rfl,rfl⟩:=h;refine fin _ hl (.inr ?_);rw[hl]at hx;simp only[V.Rel,L.Rel,Ty.Rel,aL,and_true]at hx;exact⟨_,_,_,hx.1⟩
  ·cases h
 ·rename_i f first cs ho
  split at h
  ·rename_i hlt;split at h
   ·rename_i h0;split at h
    ·rename_i ls hls;simp only[aA,aC,true_and]at h;obtain⟨rfl,rfl⟩:=h;have hr:=zRk hs hls;refine After.read hs ⟨.func (.func f) #[] (cs.map a.eval),?_,?_⟩
     ·have:first=#[]:=qBz h0
      subst this;simp only[execOp,ho,Instr.makeFunc,Array.map_empty];rfl
     ·simp only[V.Rel,L.Rel];exact⟨_,by rw[zEh (by rwa [Nat.blt_eq]at hlt),<- qBp],hr⟩
    ·cases h
   ·split at h
    ·rename_i h1;split at h
     ·rename_i l ls hls;simp only[aA,aC,true_and]at h;obtain⟨rfl,rfl⟩:=h;have hr:=zRk hs hls;refine After.read hs ⟨.func (.func f) (first.map a.eval) #[],?_,?_⟩
      ·have:cs=#[]:=qBz h1;subst this;simp only[execOp,ho,Instr.makeFunc,Array.map_empty];rfl
      ·simp only[V.Rel,L.Rel];refine⟨_,?_,hr⟩;cases hf:first.toList with
       |nil =>
        rw[hf]at hls;simp[caps]at hls
       |cons x xs =>
        rw[qBt,zUa,<- qBt,<- hf,<- qBp]
     ·cases h
    ·cases h
  ·cases h
 ·rename_i e x ho;split at h
  ·rename_i ls hls;simp only[aA,aC,true_and]at h;obtain⟨rfl,rfl⟩:=h;have hr:=V.Mv hls (bE hs x);obtain⟨β',h1,h2,h3⟩:=ySf (e:=e) hs hr;refine⟨β',_,_,.pointer (some ⟨w.heap.size,0,none⟩),?_,.inl rfl,h1,(dX w _).weaken λ_ _ h=>h.elim,h2,h3⟩;simp only[execOp,ho,Instr.box,newVar,newRow,jJ,run_newObj,kQ,jI];rfl
  ·cases h
 ·rename_i e ho;split at h
  ·rename_i ti hti;simp only[aA,aC,true_and]at h;obtain⟨rfl,rfl⟩:=h;obtain⟨i,z,hi,his,hib,hz,tT,hzs,_⟩:=(hT _ _ hti).i;obtain⟨β',h1,h2,h3⟩:=ySf (e:=e) hs (tT β w (C.N β σ.h));refine⟨β',_,_,.pointer (some ⟨w.heap.size,0,none⟩),?_,.inl rfl,h1,(dX w _).weaken λ_ _ h=>h.elim,h2,h3⟩;have hzv:(zeroValue e).run C.P w=.ok z w:=by simp[zeroValue,typeInfo,hi,hz]
   simp only[execOp,ho,Instr.alloc,jJ,hzv,kQ,newVar,newRow,run_newObj,jI];rfl
  ·cases h
 ·rename_i t n parts ho;split at h
  ·rename_i e te ti het;obtain⟨ts,hts,hk,hti,zXt,hsz,hpos,hby⟩:=kC het;split at h
   ·rename_i hc;simp only[aD]at hc;have hn:=aP hc.1;have hle:=bX hc.2;split at h
    ·rename_i ys hys;simp only[aA,aC,true_and]at h;obtain⟨rfl,rfl⟩:=h;obtain⟨css,h1,h2,h3⟩:=zBr hs hys;obtain⟨i,z,hi,his,hib,hz,tT,hzs,_⟩:=(hT _ _ hti).i;have hlc:=jO h1;have hps:∀ p∈parts.toList.map (λp=>(p.1,a.eval p.2)),p.2.cells.size=te.size:=λp hp=>by
      obtain⟨q,hq,rfl⟩:=qBw.1 hp;have:=hlc (a.eval q.2).cells.toList (by rw[h2];exact qBw.2 ⟨q,hq,rfl⟩);simpa using this
     have Na:ys.length=parts.size:=by rw[h1.length,h2];simp
     obtain⟨cs',hf1,hf2⟩:=zGk te.size (parts.toList.map λp=>(p.1,a.eval p.2)) 0 ((qCf (n*te.size)).map (z.cells[· % z.cells.size]!)) (λj p hp=>by
      simp only[qBx,qBu]at hp;obtain⟨q,hq,rfl⟩:=hp;have:=h3 j q hq;omega) hps (by simp[hn])
     simp only[Nat.zero_mul,List.take_zero,List.nil_append,List.map_map]at hf2;obtain⟨β',g1,g2,g3⟩:=ySg (e:=e) (cs:=cs') hs hpos h1 (by rw[hf2,h2];rfl) (by
      rw[Na,<- hn];have:n*1<=n*te.size:=Nat.mul_le_mul_left _ hpos;simp only[maxLen];omega)
     refine⟨β',_,_,.slice (some ⟨w.heap.size,0,none⟩) ys.length ys.length,?_,.inl rfl,g1,(dX w _).weaken λ_ _ h=>h.elim,g2,g3⟩;have hu:=(hT _ _ hts).slice hk;have hzv:(zeroValue e).run C.P w=.ok z w:=by simp[zeroValue,typeInfo,hi,hz]
     have yEb:¬ (n*te.size>2 ^ 24):=by omega
     simp only[execOp,ho,Instr.buildSlice,jJ,run_underlying hu,kQ,(hT _ _ hti).sizeOf,hsz,yEb,if_false,jI];by_cases h0:n*te.size=0
     ·have hn0:n=0:=by
       rcases Nat.mul_eq_zero.1 h0 with h|h
       ·exact h
       ·omega
      have hpe:parts=#[]:=qBz (by omega);subst hpe;subst hn0;have yEc:ys=[]:=qBi (by simpa using Na);subst yEc;have yEd:cs'=#[]:=by simpa using hf2
      subst yEd;simp[Instr.fill,newRow,show qCf 0=#[]from rfl];try rfl
     ·simp only[h0,if_false,jJ,hzv,kQ,jI];rw[qBp,hf1];simp only[jJ,newRow,run_newObj,kQ,jI,Na,hn];rfl
    ·cases h
   ·cases h
  ·cases h
 ·rename_i t l c ho;split at h
  ·rename_i e te ti n m het hn hm;obtain⟨ts,hts,hk,hti,zXt,hsz,hpos,hby⟩:=kC het;split at h
   ·rename_i z0 hz0;simp only[aA,aC,aD]at h;obtain⟨⟨h0,hnm,hroom⟩,rfl,rfl⟩:=h;have h0:=of_decide_eq_true h0;have hnm:=of_decide_eq_true hnm;have hroom:=bX hroom;subst hnm;obtain⟨i,z,hi,his,hib,hz,tT,hzs,_⟩:=(hT _ _ hti).i;have hu:=(hT _ _ hts).slice hk;have hrz:=pI hz0 (tT β w (C.N β σ.h));obtain⟨k,rfl⟩:∃ k:Nat,n=k:=⟨n.toNat,by omega⟩;rw[Int.toNat_natCast]at hroom;unfold room at hroom;have hkb:k<=k*ti.bytes:=qBl _ hby;have hrun:=run_make (P:=C.P) w t e i z hu hi hz .i64 .i64 (k:Int) (k:Int) (by omega) (Int.le_refl _) (by
     have h:((i.bytes*k:Nat):Int)<=281474976710656:=by rw[hib,qBy];omega
     rwa [Int.natCast_mul]at h) (by omega)
    simp only[Int.toNat_natCast]at hrun;have hzz:z.cells.size=te.size:=by rw[hzs,his,hsz]
    have hal:bJ (λx c=>te.Rel w (C.N β σ.h) x c) (qAf k z0) (qAf k z.cells.toList):=bJ.replicate hrz k;obtain⟨β',g1,g2,g3⟩:=ySg (e:=e) (cs:=madeCells z.cells (k*i.size)) hs hpos hal (by rw[his,hsz];exact Ik hzz hpos k) (by simp only[qCh,maxLen];omega);rw[qCh]at g3;refine⟨β',_,_,.slice (some ⟨w.heap.size,0,none⟩) k k,?_,.inl rfl,g1,(dX w _).weaken λ_ _ h=>h.elim,g2,g3⟩;simp only[execOp,ho,iO hn (bE hs l),iO hm (bE hs c),jJ,hrun];rfl
   ·cases h
  ·cases h
 ·rename_i b args ts ho;split at h
  ·rename_i x t hargs hts;split at h
   ·rename_i c r hr;simp only[aA,aC]at h;obtain⟨rfl,rfl,rfl⟩:=h;have e1:args=#[x]:=by apply qBh.1;simpa using hargs
    have e2:ts=#[t]:=by apply qBh.1;simpa using hts
    subst e1 e2;obtain⟨z,h1,h2⟩:=yVy o.type hT hs hr;exact After.read hs ⟨z,yM ho (fJ (by simpa using h1)),h2⟩
   ·cases h
  ·rename_i s x t t' hargs hts;split at h
   ·rename_i htt;have htt:=aP htt;subst htt;have e1:args=#[s,x]:=by apply qBh.1;simpa using hargs
    have e2:ts=#[t,t]:=by apply qBh.1;simpa using hts
    subst e1 e2;obtain⟨β',w',v',h1,h2,h3,h4,h5⟩:=yJo o.type hT hs h;refine⟨β',w',_,v',yM (x:=v') ho ?_,.inl rfl,h2,h3,h4,h5⟩;simp only[builtin,jJ];have h1':(qBd #[t,t] o.type (qCi a.eval #[s,x])).run C.P w=.ok v' w':=by simpa using h1
    rw[h1'];rfl
   ·have e1:args=#[s,x]:=by apply qBh.1;simpa using hargs
    have e2:ts=#[t,t']:=by apply qBh.1;simpa using hts
    subst e1 e2;obtain⟨β',w',v',h1,h2,h3,h4,h5⟩:=yJp o.type hT hs h;refine⟨β',w',_,v',yM (x:=v') ho ?_,.inl rfl,h2,h3,h4,h5⟩;simp only[builtin,jJ];have h1':(qBd #[t,t'] o.type (qCi a.eval #[s,x])).run C.P w=.ok v' w':=by simpa using h1
    rw[h1'];rfl
  ·rename_i x y hargs;split at h
   ·rename_i k p k2 q hp hq;simp only[aA,aC,true_and]at h;obtain⟨rfl,rfl⟩:=h;have e1:args=#[x,y]:=by apply qBh.1;simpa using hargs
    subst e1;have hx:=iO hp (bE hs x);have hy:=iO hq (bE hs y);refine After.read hs ⟨.int k (if q<p then q else p),yM ho ?_,by simp only[V.Rel,L.Rel,Ty.Rel]⟩;simp[builtin,Builtin.min_,Builtin.min2,hx,hy]
   ·cases h
  ·rename_i x y hargs;split at h
   ·rename_i k p k2 q hp hq;simp only[aA,aC,true_and]at h;obtain⟨rfl,rfl⟩:=h;have e1:args=#[x,y]:=by apply qBh.1;simpa using hargs
    subst e1;have hx:=iO hp (bE hs x);have hy:=iO hq (bE hs y);refine After.read hs ⟨.int k (if q>p then q else p),yM ho ?_,by simp only[V.Rel,L.Rel,Ty.Rel]⟩;simp[builtin,Builtin.max_,Builtin.max2,hx,hy]
   ·cases h
  ·cases h
 ·cases h
end
end Go.Dec
