/- Part of a proof over this seat: a library of my own, and what it says of this seat. No statement is proved here. -/
import Derived.Test.YtfbilefiaminnaaGreatDoorPartBD
import Derived.Test.YtfbilefiaminnaaGreatDoorPartAP
import Derived.Shelf.Small.Strs
import Derived.Shelf.Small.Utf8
import Derived.Laws.RangeAny
import Derived.WalkKit
import Derived.Scope
import Derived.Lib.Walk
import Derived.Deep.LoopGhost
import Derived.Laws.Runes
import Derived.Shelf.Strings.IndexAnyAll
import Derived.Lib.OthersKept
import Derived.Test.YtfbilefiaminnaaGreatDoorPartBC
import Derived.Test.YtfbilefiaminnaaGreatDoorPartAO
namespace Go.Dec
section
variable {P:Program}
variable {f:FuncId}
variable {si so:Sh}
variable {T:Tab}
def lone:L->Bool | .own ..=>true | .val (.int _) _=>true | _=>false
theorem Zh{l:L}(h:lone l=true):l.size=1:=by
 unfold lone at h;split at h
 ·rfl
 ·rfl
 ·cases h
theorem zLw:∀ {ls:List L}{n:Nat}{a b:List L},kL ls n=some (a,b)->ls=a++b
 |ls,0,a,b,h=>by
  have:kL ls 0=some ([],ls):=by cases ls<;>rfl
  rw[this]at h;simp only[aA,aB]at h;obtain⟨rfl,rfl⟩:=h;rfl
 |[],n+1,a,b,h=>by cases h
 |l::r,n+1,a,b,h=>by
  simp only[kL]at h;split at h
  ·cases hr:kL r (n+1-l.size)with
   |none=>rw[hr]at h;cases h
   |some p =>
    rw[hr]at h;simp only[Option.map_some,aA,aB]at h;obtain⟨rfl,rfl⟩:=h;rw[List.cons_append,<- zLw hr]
  ·cases h
def sits(ls:List L)(off j:Nat):Bool:=match kL ls off with|some (a,_)=>Nat.beq a.length j&&Nat.beq (sizes (ls.take j)) off|none=>false
theorem take1{ls:List L}{off j:Nat}{l:L}(h:sits ls off j=true)(hj:ls[j]?=some l)(hl:l.size=1):Ba ls off 1=some [l]:=by
 unfold sits at h;split at h
 ·rename_i a b hs;simp only[aD]at h;have h1:=aK h.1;have e:=zLw hs;have hb:b=l::b.tail:=by
   rw[e,List.getElem?_append_right (by omega),h1,Nat.sub_self]at hj;cases b with
   |nil=>cases hj
   |cons x r=>simp only[List.getElem?_cons_zero,aA]at hj;subst hj;rfl
  unfold Ba;rw[hs];simp only;rw[hb];simp only[kL,hl];cases b.tail<;>rfl
 ·cases h
def zEg:List (Nat × Nat)->List L->Option (List L × List L)
 |[],ls=>some (ls,[])
 |(off,j)::r,ls=>match ls[j]? with
  |some l=>match lone l&&sits ls off j with
   |true=>match zEg r (ls.set j (.bad 1))with
    |some (ls',os)=>some (ls',l::os)
    |none=>none
   |false=>none
  |none=>none
def Sl:List (Nat × Nat)->List L->List L->Option (List L)
 |[],ls,_=>some ls
 |(off,j)::r,ls,l::os=>match ls[j]? with
  |some (.bad 1)=>match sits ls off j with
   |true=>Sl r (ls.set j l) os
   |false=>none
  |_=>none
 |_::_,_,[]=>none
section
variable {β:Nat->Pl}
variable {w:World}
variable {N:Nat->Nat->Prop}
def Held (β:Nat->Pl) (w:World) (N:Nat->Nat->Prop) (cs:List Value):List (Nat×Nat)->List L->Prop | [],[]=>True | (off,_) :: r,l :: os=>(∃ c,cs[off]? = some c ∧ l.Rel β w N [c] ∧ lone l = true) ∧ Held β w N cs r os | _,_=>False
theorem Zi{ls:List L}{off j:Nat}(h:sits ls off j=true):sizes (ls.take j)=off:=by
 unfold sits at h;split at h
 ·simp only[aD]at h;exact aK h.2
 ·cases h
theorem zNq:∀ {js:List (Nat × Nat)}{ls ls' os:List L}{cs:List Value},zEg js ls=some (ls',os)->aG β w N ls cs->aG β w N ls' cs/\Held β w N cs js os
 |[],ls,ls',os,cs,h,hr=>by
  simp only[zEg,aA,aB]at h;obtain⟨rfl,rfl⟩:=h;exact⟨hr,trivial⟩
 |(off,j)::r,ls,ls',os,cs,h,hr=>by
  simp only[zEg]at h;split at h
  case h_2=>cases h
  rename_i l hl;split at h
  case h_2=>cases h
  rename_i hc;simp only[aD]at hc;split at h
  case h_2=>cases h
  rename_i ls2 os2 h2;simp only[aA,aB]at h;obtain⟨rfl,rfl⟩:=h;obtain⟨c,g1,g2⟩:=aG.cell (Zh hc.1) hl hr;obtain⟨k1,k2⟩:=zNq h2 (hr.tell (Zh hc.1) (by simp only[L.Rel];exact⟨rfl,L.Rel.one g2⟩) hl g1);rw[Zi hc.2]at g1;exact⟨k1,⟨c,g1,g2,hc.1⟩,k2⟩
theorem yBq:∀ {js:List (Nat × Nat)}{ls ls' os:List L}{cs:List Value},Sl js ls os=some ls'->aG β w N ls cs->Held β w N cs js os->aG β w N ls' cs
 |[],ls,ls',os,cs,h,hr,_=>by
  simp only[Sl,aA]at h;subst h;exact hr
 |(off,j)::r,ls,ls',[],cs,h,hr,hh=>by cases h
 |(off,j)::r,ls,ls',l::os,cs,h,hr,hh=>by
  simp only[Sl]at h;split at h
  case h_2=>cases h
  rename_i hl;split at h
  case h_2=>cases h
  rename_i hc;obtain⟨⟨c,g1,g2,_⟩,hh⟩:=hh;rw[<- Zi hc]at g1;exact yBq h (hr.tell rfl g2 hl g1) hh
def atK:List (Nat × Nat)->List L->List L->Bool
 |[],_,_=>true
 |(off,j)::r,ls,l'=>sits ls off j&&sits l' off j&&atK r ls l'
end
def yKt(vs:List V)(h:List Ob):Option (Nat × TypeId × List L):=
 match vs with
 |.one (.ptr rid 0)::_=>match h[rid]? with
  |some (.box e ls)=>some (rid,e,ls)
  |_=>none
 |_=>none
def zYh(js:List (Nat × Nat))(vs:List V)(h:List Ob):List Nat :=
 match yKt vs h with
 |some (rid,e,ls)=>match zEg js ls with
  |some (lsh,_)=>rid::reach vs (h.set rid (.box e lsh))
  |none=>reach vs h
 |none=>reach vs h
theorem yBr:∀ {js:List (Nat × Nat)}{ls ls' os:List L},zEg js ls=some (ls',os)->∀ (i:Nat) (p:Nat × Nat),js[i]?=some p->∃ l,os[i]?=some l/\ls[p.2]?=some l/\lone l=true
 |[],_,_,_,_,i,p,hp=>by simp at hp
 |(off,j)::r,ls,ls',os,h,i,p,hp=>by
  simp only[zEg]at h;split at h
  case h_2=>cases h
  rename_i l hl;split at h
  case h_2=>cases h
  rename_i hc;simp only[aD]at hc;split at h
  case h_2=>cases h
  rename_i ls2 os2 h2;simp only[aA,aB]at h;obtain⟨rfl,rfl⟩:=h;cases i with
  |zero =>
   simp only[List.getElem?_cons_zero,aA]at hp;subst hp;exact⟨l,rfl,hl,hc.1⟩
  |succ i =>
   obtain⟨l',k1,k2,k3⟩:=yBr h2 i p (by simpa using hp);refine⟨l',by simpa using k1,?_,k3⟩;by_cases hj:j=p.2
   ·subst hj;rw[List.getElem?_set_self (bE.1 hl).1]at k2;simp only[aA]at k2;subst k2;cases k3
   ·rwa [List.getElem?_set_ne hj]at k2
theorem zVj{q:Nat}{l0:L}(hl:lone l0=true):∀ {js:List (Nat × Nat)}{ls ls' os:List L},Sl js ls os=some ls'->ls[q]?=some l0->ls'[q]?=some l0
 |[],ls,ls',os,h,hq=>by
  simp only[Sl,aA]at h;subst h;exact hq
 |(off,j)::r,ls,ls',[],h,hq=>by cases h
 |(off,j)::r,ls,ls',l::os,h,hq=>by
  simp only[Sl]at h;split at h
  case h_2=>cases h
  rename_i hb;split at h
  case h_2=>cases h
  refine zVj hl h ?_;have hne:j≠q:=λe=>by
   subst e;rw[hb]at hq;simp only[aA]at hq;subst hq;cases hl
  rwa [List.getElem?_set_ne hne]
theorem yBs:∀ {js:List (Nat × Nat)}{ls ls' os:List L},Sl js ls os=some ls'->(∀ l∈os,lone l=true)->∀ (i:Nat) (p:Nat × Nat),js[i]?=some p->∃ l,os[i]?=some l/\ls'[p.2]?=some l
 |[],_,_,_,_,_,i,p,hp=>by simp at hp
 |(off,j)::r,ls,ls',[],h,_,i,p,hp=>by cases h
 |(off,j)::r,ls,ls',l::os,h,ho,i,p,hp=>by
  simp only[Sl]at h;split at h
  case h_2=>cases h
  rename_i hb;split at h
  case h_2=>cases h
  cases i with
  |zero =>
   simp only[List.getElem?_cons_zero,aA]at hp;subst hp;exact⟨l,rfl,zVj (ho l (.head _)) h (by rw[List.getElem?_set_self (bE.1 hb).1])⟩
  |succ i =>
   obtain⟨l',k1,k2⟩:=yBs h (λl hl=>ho l (.tail _ hl)) i p (by simpa using hp);exact⟨l',by simpa using k1,k2⟩
theorem yGq:∀ {js:List (Nat × Nat)}{ls ls':List L},atK js ls ls'=true->∀ p∈js,sits ls p.1 p.2=true/\sits ls' p.1 p.2=true
 |[],_,_,_,p,hp=>by cases hp
 |(off,j)::r,ls,ls',h,p,hp=>by
  simp only[atK,aD]at h;cases hp with
  |head=>exact⟨h.1.1,h.1.2⟩
  |tail _ hp=>exact yGq h.2 p hp
theorem Held.lone{β:Nat->Pl}{w:World}{N:Nat->Nat->Prop}{cs:List Value}:∀ {js:List (Nat × Nat)}{os:List L},Held β w N cs js os->∀ l∈os,Dec.lone l=true
 |[],[],_,l,hl=>by cases hl
 |[],_::_,h,_,_=>h.elim
 |_::_,[],h,_,_=>h.elim
 |_::_,_::_,h,l,hl=>by
  cases hl with
  |head =>
   obtain⟨⟨_,_,_,g⟩,_⟩:=h;exact g
  |tail _ hl=>exact Held.lone h.2 l hl
theorem Held.move{β β':Nat->Pl}{w w':World}{N N':Nat->Nat->Prop}(hm:Moves β β'){cs cs':List Value}:∀ {js:List (Nat × Nat)}{os:List L},(∀ p∈js,cs'[p.1]?=cs[p.1]?)->Held β w N cs js os->Held β' w' N' cs' js os
 |[],[],_,_=>trivial
 |[],_::_,_,h=>h.elim
 |_::_,[],_,h=>h.elim
 |p::js,l::os,hc,h=>by
  obtain⟨⟨c,g1,g2,g3⟩,h⟩:=h;refine⟨⟨c,by rw[hc p (.head _)];exact g1,?_,g3⟩,Held.move hm (λq hq=>hc q (.tail _ hq)) h⟩;unfold Dec.lone at g3;split at g3
  ·rename_i id ver;simp only[L.Rel]at g2 ⊢;obtain⟨z1,z2,z3,c0,z4,z5,z6⟩:=g2;rcases hm id z1 with e|⟨g1,g2,g3,g4⟩
   ·rw[e];exact⟨z1,z2,z3,c0,z4,z5,z6⟩
   ·exact⟨g2,g3,by omega,c0,z4,z5,λhv=>by omega⟩
  ·simp only[L.Rel,Ty.Rel]at g2 ⊢;exact g2
  ·cases g3
def InK:List (Nat × Nat)->List L->List Value->List L->Prop
 |[],ls,[],ls'=>ls'=ls
 |(off,j)::r,ls,v::vs,ls'=>ls[j]?=some (.bad 1)/\sits ls off j=true/\InK r (ls.set j (.val .opq v)) vs ls'
 |_,_,_,_=>False
def Oh:List (Nat × Nat)->List L->List Value->List L->Prop
 |[],ls,[],ls'=>ls'=ls
 |(off,j)::r,ls,v::vs,ls'=>ls[j]?=some (.val .opq v)/\sits ls off j=true/\Oh r (ls.set j (.bad 1)) vs ls'
 |_,_,_,_=>False
theorem InK.rel{β:Nat->Pl}{w:World}{N:Nat->Nat->Prop}{cs:List Value}:∀ {js:List (Nat × Nat)}{ls ls':List L},InK js ls (js.map λp=>(cs[p.1]?).getD undef) ls'->aG β w N ls cs->aG β w N ls' cs/\∀ p∈js,∃ c,cs[p.1]?=some c
 |[],ls,ls',h,hr=>by
  simp only[List.map_nil,InK]at h;subst h;exact⟨hr,λp hp=>by cases hp⟩
 |(off,j)::r,ls,ls',h,hr=>by
  simp only[List.map_cons,InK]at h;obtain⟨h1,h2,h3⟩:=h;obtain⟨c,g1,g2⟩:=aG.cell (l:=.bad 1) rfl h1 hr;have g1':=g1;rw[Zi h2]at g1;rw[g1]at h3;simp only[Option.getD_some]at h3;have hone:=L.Rel.one g2 c (.head _);have xEj:(L.val .opq c).Rel β w N [c]:=by simp only[L.Rel,Ty.Rel];exact⟨trivial,hone⟩
  obtain⟨k1,k2⟩:=InK.rel h3 (hr.tell (l:=.bad 1) rfl xEj h1 g1');refine⟨k1,λp hp=>?_⟩;cases hp with
  |head=>exact⟨c,g1⟩
  |tail _ hp=>exact k2 p hp
theorem Oh.rel{β:Nat->Pl}{w:World}{N:Nat->Nat->Prop}{cs cs0:List Value}:∀ {js:List (Nat × Nat)}{ls ls':List L},Oh js ls (js.map λp=>(cs0[p.1]?).getD undef) ls'->aG β w N ls cs->aG β w N ls' cs/\∀ p∈js,cs[p.1]?=some ((cs0[p.1]?).getD undef)
 |[],ls,ls',h,hr=>by
  simp only[List.map_nil,Oh]at h;subst h;exact⟨hr,λp hp=>by cases hp⟩
 |(off,j)::r,ls,ls',h,hr=>by
  simp only[List.map_cons,Oh]at h;obtain⟨h1,h2,h3⟩:=h;obtain⟨c,g1,g2⟩:=aG.cell (by rfl) h1 hr;have hc:c=(cs0[off]?).getD undef:=by
   simp only[L.Rel,Ty.Rel]at g2;simpa using g2.1
  have hb:(L.bad 1).Rel β w N [c]:=by simp only[L.Rel];exact⟨rfl,L.Rel.one g2⟩
  obtain⟨k1,k2⟩:=Oh.rel h3 (hr.tell (by rfl) hb h1 g1);rw[Zi h2]at g1;refine⟨k1,λp hp=>?_⟩;cases hp with
  |head=>rw[g1,hc]
  |tail _ hp=>exact k2 p hp
theorem yUy{C:Ctx}{β β':Nat->Pl}{w w':World}{h h1:List Ob}{vs:List V}{rid b:Nat}{e e':TypeId}{ls lsh os ls' ls2:List L}{js:List (Nat × Nat)}{y:so.X}{us:List Value}(hb:h[rid]?=some (.box e ls))(hh:zEg js ls=some (lsh,os))(hh1:h.set rid (.box e lsh)=h1)(hs:fB C β h w)(hs1:fB C β h1 w)(hN1:∀ b j,b<w.heap.size->C.N β h1 b j->C.N β h b j)(hnd:nodupB (reach vs h1)=true)(hlt:∀ i∈reach vs h1,i<h1.length)(hwr:∀ (j:Nat) (o:Ob),(inH (reach vs h1) h1)[j]?=some o->o.wr=true)(Ib:uX (inH (reach vs h1) h1) so.os=true)(ySo:(fZ (reach vs h1) h1 (so.enc y).h)[rid]?=some (.box e' ls'))(xAh:Sl js ls' os=some ls2)(hat:atK js ls ls2=true)(hs':Sim (inC C β h1 w (reach vs h1) hs1) β' (so.enc y) { tmps:=us.toArray,defers:=[] } w')(hbb:(β rid).blk=some b)(hcell:∀ off∈js.map (·.1),w'.cell? ⟨b,off,none⟩=w.cell? ⟨b,off,none⟩):∃ β2,Moves β β2/\Keep (C.N β h) w w'/\(∀ b j,b<w.heap.size->C.N β2 ((fZ (reach vs h1) h1 (so.enc y).h).set rid (.box e' ls2)) b j->C.N β h b j)/\fB C β2 ((fZ (reach vs h1) h1 (so.enc y).h).set rid (.box e' ls2)) w' /\
  bD (λv u=>V.Rel β2 w' (C.N β2 ((fZ (reach vs h1) h1 (so.enc y).h).set rid (.box e' ls2))) v u) ((so.enc y).r.map (V.back (lJ (reach vs h1) h1.length) (jS (reach vs h1) h1))) us /\
  (∀ id,id<h.length->id∉rid::reach vs h1->((fZ (reach vs h1) h1 (so.enc y).h).set rid (.box e' ls2))[id]?=h[id]?) /\
  ∀ off∈js.map (·.1),∀ t,Zg T t=true->loadAt T ((fZ (reach vs h1) h1 (so.enc y).h).set rid (.box e' ls2)) t (.ptr rid off)=loadAt T h t (.ptr rid off):=by
 have zDk:=(bE.1 hb).1;have hbx:=hs.obj _ _ hb;simp only[Ob.Rel]at hbx;obtain⟨q1,q2,rb,rcs,q3,q4,q5⟩:=hbx;rw[hbb]at q3;simp only[aA]at q3;subst q3;have yUz:=(zNq hh q4).2;obtain⟨β2,m1,m2,m3,m4,m5⟩:=zDz hs1 hnd hlt hwr Ib hs';have yBt:=m4.obj _ _ ySo;simp only[Ob.Rel]at yBt;obtain⟨p1,p2,pb,pcs,p3,p4,p5⟩:=yBt;have hpb:pb=b:=by
  rcases m1 rid q1 with e|⟨e,_⟩
  ·rw[e,hbb]at p3;simpa using p3.symm
  ·rw[q2]at e;cases e
 subst hpb;have hpc:∀ p∈js,pcs[p.1]?=rcs[p.1]?:=λp hp=>by
  have h1:w'.cell? ⟨pb,p.1,none⟩=pcs[p.1]?:=by
   simp only[World.cell?,p5];simp
  have h2:w.cell? ⟨pb,p.1,none⟩=rcs[p.1]?:=by
   simp only[World.cell?,q5];simp
  rw[<- h1,<- h2];exact hcell p.1 (List.mem_map_of_mem hp)
 obtain⟨hs2,hN2⟩:=m4.zGy (ls':=ls2) ySo (λcs hcs hheap=>by
  have hcs2:cs=pcs:=by
   rw[p3]at hheap;simp only[Option.getD_some]at hheap;rw[p5]at hheap;simp only[aA,Obj.cells.injEq]at hheap;have:=congrArg Array.toList hheap.1;simpa using this.symm
  subst hcs2;exact yBq xAh hcs (yUz.move m1 hpc))
 have hsz:w.heap.size<=w'.heap.size:=m2.size;have hlt':=(bE.1 ySo).1;refine⟨β2,m1,(Keep.refl _ w).tN m2 λb i hb hN=>hN1 b i hb hN,λb i hlt2 hb=>hN1 b i hlt2 (m3 b i hlt2 (hN2 b i (by omega) hb)),hs2,bD.mono (λv u hv=>V.Rel.mono (Moves.refl β2) (Keep.refl _ w') hN2 hv) m5,λid hid hni=>?_,λoff hoff t ht=>?_⟩
 ·have hne:id≠rid:=λe=>hni (by rw[e];exact .head _)
  have hnr:id∉reach vs h1:=λe=>hni (.tail _ e)
  rw[List.getElem?_set_ne (Ne.symm hne),Qc (by rw[<- hh1];simpa using hid) hnr,<- hh1,List.getElem?_set_ne (Ne.symm hne)]
 ·obtain⟨p,hp,rfl⟩:=List.mem_map.1 hoff;obtain⟨i,hi⟩:=List.getElem?_of_mem hp;obtain⟨l,k1,k2,k3⟩:=yBr hh i p hi;obtain⟨l',k4,k5⟩:=yBs xAh yUz.lone i p hi;rw[k1]at k4;simp only[aA]at k4;subst k4;obtain⟨s1,s2⟩:=yGq hat p hp;unfold Zg at ht;split at ht
  ·rename_i ti hti;have ht:=aK ht;simp only[loadAt,hti,List.getElem?_set_self hlt',hb,ht,take1 s1 k2 (Zh k3),take1 s2 k5 (Zh k3)]
  ·cases ht
def zNr(P:Program)(f:FuncId)(oL:List Nat)(si so:Sh)(tp:TypeId)(sp:Sh)(F:si.X->Option (Sum so.X sp.X)):Prop :=
 iH P f=true/\∀ x y,F x=some y->∀ (C:Ctx) (β:Nat->Pl) (w:World) (xs:List Value) (b:Nat),C.P=P->C.fix.length<=si.os.length->Sim C β (si.enc x) { tmps:=xs.toArray,defers:=[] } w->C.fix[0]?=some (some b) ->
  Calls P f xs.toArray w λe w'=>((∃ (z:so.X) (us:List Value) (β':Nat->Pl),y=.inl z/\e=.returned (sG us)/\Sim C β' (so.enc z) { tmps:=us.toArray,defers:=[] } w') \/
   ∃ (z:sp.X) (u:Value) (β':Nat->Pl),y=.inr z/\e=.panicked [{ v:=.iface tp u,recovered:=false }]/\Sim C β' (sp.enc z) { tmps:=#[u],defers:=[] } w')/\∀ off∈oL,w'.cell? ⟨b,off,none⟩=w.cell? ⟨b,off,none⟩
def yKu(js:List (Nat × Nat))(rid:Nat)(ls os:List L)(hp:List Ob):Option (List Ob):=
 match hp[rid]? with
 |some (.box e' ls')=>match Sl js ls' os with
  |some ls2=>match atK js ls ls2 with
   |true=>some (hp.set rid (.box e' ls2))
   |false=>none
  |none=>none
 |_=>none
theorem zVk{js:List (Nat × Nat)}{rid:Nat}{ls os:List L}{hp h2:List Ob}(h:yKu js rid ls os hp=some h2):∃ e' ls' ls2,hp[rid]?=some (.box e' ls')/\Sl js ls' os=some ls2/\atK js ls ls2=true/\h2=hp.set rid (.box e' ls2):=by
 unfold yKu at h;split at h
 case h_2=>cases h
 rename_i e' ls' h1;split at h
 case h_2=>cases h
 rename_i ls2 h2;split at h
 case h_2=>cases h
 rename_i h3;simp only[aA]at h;exact⟨e',ls',ls2,h1,h2,h3,h.symm⟩
def yBu {ρ : Type} (js : List (Nat × Nat)) (rid : Nat) (si so : Sh) (tp : TypeId) (sp : Sh) (F : si.X -> Option (Sum so.X sp.X)) (vs : List V) (h : List Ob) (k : Out -> List Ob -> Option ρ) : Option ρ :=
  match yKt vs h with
  | some (yKv, e, ls) =>
    match Nat.beq yKv rid with
    | true => match zEg js ls with
      | some (lsh, os) =>
        let h1 := h.set rid (.box e lsh)
        match si.dec ⟨vs.map (V.ren (reach vs h1) h1), inH (reach vs h1) h1⟩ with
        | some x => chk (zBi (reach vs h1) h1 si so && (uX (inH (reach vs h1) h1) sp.os && xAc.yKq rid (reach vs h1))) (ob2 (F x)
            (fun y => match yKu js rid ls os (fZ (reach vs h1) h1 (so.enc y).h) with
              | some h2 => k (.ret (zSy ((so.enc y).r.map (V.back (lJ (reach vs h1) h1.length) (jS (reach vs h1) h1))))) h2
              | none => none)
            (fun z => match yKu js rid ls os (fZ (reach vs h1) h1 (sp.enc z).h) with
              | some h2 => k (.pan tp (yYv ((sp.enc z).r.map (V.back (lJ (reach vs h1) h1.length) (jS (reach vs h1) h1))))) h2
              | none => none))
        | none => none
      | none => none
    | false => none
  | none => none
theorem yOa{ρ:Type}{js:List (Nat × Nat)}{rid:Nat}{tp:TypeId}{sp:Sh}{F:si.X->Option (Sum so.X sp.X)}(hM:zNr P f (js.map (·.1)) si so tp sp F)(vs:List V)(h:List Ob)(k:Out->List Ob->Option ρ)(r:ρ)(hr:yBu js rid si so tp sp F vs h k=some r):iH P f=true/\Cx P f vs h λout h'=>k out h'=some r/\(∀ id,id<h.length->id∉zYh js vs h->h'[id]?=h[id]?)/\∀ off∈js.map (·.1),∀ t,Zg T t=true->loadAt T h' t (.ptr rid off)=loadAt T h t (.ptr rid off):=by
 refine⟨hM.1,?_⟩;unfold yBu at hr;split at hr
 case h_2=>cases hr
 rename_i yKv e ls mV;split at hr
 case h_2=>cases hr
 rename_i ySp;have ySp:=aK ySp;subst ySp;split at hr
 case h_2=>cases hr
 rename_i lsh os hh;have xAi:zYh js vs h=yKv::reach vs (h.set yKv (.box e lsh)):=by unfold zYh;rw[mV];simp only[hh]
 unfold yKt at mV;split at mV
 case h_2=>cases mV
 rename_i xAj vs';split at mV
 case h_2=>cases mV
 rename_i e0 ls0 hb;simp only[aA,aB]at mV;obtain⟨rfl,rfl,rfl⟩:=mV;generalize hh1:h.set xAj (.box e0 lsh)=h1 at *;generalize hvs:(V.one (L.ptr xAj 0)::vs')=vs at *;simp only at hr;split at hr
 case h_2=>cases hr
 rename_i x hx;obtain⟨hc,hr⟩:=iM hr;simp only[aD]at hc;obtain⟨hok,hkp,hpre⟩:=hc;obtain⟨hnd,hlt,hlen,hwr,Ib⟩:=Zu hok;intro C β w xs hP hs ha;subst hP;have zDk:=(bE.1 hb).1;have hbx:=hs.obj _ _ hb;simp only[Ob.Rel]at hbx;obtain⟨q1,q2,rb,rcs,q3,q4,q5⟩:=hbx;obtain⟨hs1,hN1⟩:=hs.zGy (ls':=lsh) hb (λcs hcs _=>(zNq hh hcs).1);rw[hh1]at hs1 hN1;have ha1:rA β w (C.N β h1) vs xs:=bD.mono (λv u hv=>V.Rel.mono (Moves.refl β) (Keep.refl _ w) hN1 hv) ha;have Dq:=zKa hx (yAf hs1 ha1 hnd hlt);have xCs:(inC C β h1 w (reach vs h1) hs1).fix[0]?=some (some rb):=by
  unfold xAc.yKq at hpre;split at hpre
  ·rename_i a r hrr;have:=aK hpre;subst this;have hg:h1[a]?=some (.box e0 lsh):=by rw[<- hh1,List.getElem?_set_self zDk]
   simp only[inC,hrr,List.map_cons,List.getElem?_cons_zero,Le,gU hg,Cz];rw[q3]
  ·cases hpre
 cases hy:F x with
 |none=>rw[hy]at hr;cases hr
 |some y =>
  rw[hy]at hr;refine(hM.2 x y hy (inC C β h1 w _ hs1) _ w xs rb rfl (by simp[inC,hlen]) Dq xCs).mono ?_;rintro ex w' ⟨⟨z,us,β',rfl,rfl,hs'⟩|⟨z,u,β',rfl,rfl,hs'⟩,hcell'⟩
  ·simp only[ob2]at hr;split at hr
   case h_2=>cases hr
   rename_i h2 hput;obtain⟨e',ls',ls2,k1,k2,k3,rfl⟩:=zVk hput;obtain⟨β2,m1,m2,m3,m4,m5,m6,m7⟩:=yUy (T:=T) hb hh hh1 hs hs1 hN1 hnd hlt hwr Ib k1 k2 k3 hs' q3 hcell';exact⟨_,_,β2,⟨hr,by rw[xAi];exact m6,m7⟩,m1,m2,m3,m4,_,rfl,zNe m5⟩
  ·simp only[ob2]at hr;split at hr
   case h_2=>cases hr
   rename_i h2 hput;obtain⟨e',ls',ls2,k1,k2,k3,rfl⟩:=zVk hput;obtain⟨β2,m1,m2,m3,m4,m5,m6,m7⟩:=yUy (T:=T) (us:=[u]) hb hh hh1 hs hs1 hN1 hnd hlt hwr hkp k1 k2 k3 hs' q3 hcell';refine⟨_,_,β2,⟨hr,by rw[xAi];exact m6,m7⟩,m1,m2,m3,m4,u,rfl,?_⟩;cases hv:(sp.enc z).r.map (V.back (lJ (reach vs h1) h1.length) (jS (reach vs h1) h1))with
   |nil=>rw[hv]at m5;exact m5.elim
   |cons v l =>
    rw[hv]at m5;cases l with
    |nil=>exact m5.1
    |cons v2 l=>exact m5.2.elim
theorem yBv{C:Ctx}{β':Nat->Pl}{w w':World}{b:Nat}{so sko:Sh}{y:so.X}{y0:sko.X}{us:List Value}{js:List (Nat × Nat)}{rcs:List Value}{e2:TypeId}{ls2 ls3:List L}(hfix:C.fix[0]?=some (some b))(q5:∃ e,w.heap[b]?=some (.cells rcs.toArray e (0,0)))(hsome:∀ p∈js,∃ c,rcs[p.1]?=some c)(hs':Sim C β' (so.enc y) { tmps:=us.toArray,defers:=[] } w')(k1:(so.enc y).h[0]?=some (.box e2 ls2))(k2:Oh js ls2 (js.map λp=>(rcs[p.1]?).getD undef) ls3)(k4:sko.enc y0=⟨(so.enc y).r,(so.enc y).h.set 0 (.box e2 ls3)⟩):Sim C β' (sko.enc y0) { tmps:=us.toArray,defers:=[] } w'/\∀ off∈js.map (·.1),w'.cell? ⟨b,off,none⟩=w.cell? ⟨b,off,none⟩:=by
 obtain⟨e0,q5⟩:=q5;obtain⟨_,xEk⟩:=hs'.heap.fixed 0 _ hfix;obtain⟨hb',_⟩:=xEk b rfl;have yBt:=hs'.heap.obj _ _ k1;simp only[Ob.Rel]at yBt;obtain⟨p1,p2,pb,pcs,p3,p4,p5⟩:=yBt;rw[hb']at p3;simp only[aA]at p3;subst p3;obtain⟨hs2,hN2⟩:=hs'.heap.zGy (ls':=ls3) k1 (λcs hcs _=>(k2.rel hcs).1);refine⟨?_,λoff hoff=>?_⟩
 ·rw[k4];exact⟨hs2,hs'.defers,hs'.size,λi v hv=>(hs'.reg i v hv).mono (Moves.refl β') (Keep.refl _ w') hN2⟩
 ·obtain⟨p,hp,rfl⟩:=List.mem_map.1 hoff;have h1:w'.cell? ⟨b,p.1,none⟩=pcs[p.1]?:=by
   simp only[World.cell?,p5];simp
  have h2:w.cell? ⟨b,p.1,none⟩=rcs[p.1]?:=by
   simp only[World.cell?,q5];simp
  obtain⟨c,hc⟩:=hsome p hp;rw[h1,h2,(k2.rel p4).2 p hp,hc];rfl
def zQk{α γ α' γ':Type}(f:α->α')(g:γ->γ'):Sum α γ->Sum α' γ'
 |.inl x=>.inl (f x)
 |.inr y=>.inr (g y)
theorem yEx{sk sko skp sp:Sh}{tp:TypeId}{js:List (Nat × Nat)}{F:si.X->Option (Sum so.X sp.X)}{G:sk.X->Option (Sum sko.X skp.X)}(put:List Value->sk.X->si.X)(yKw:List Value->sko.X->so.X)(yKx:List Value->skp.X->sp.X)(xEl:∀ vs x y,vs.length=js.length->G x=some y->F (put vs x)=some (zQk (yKw vs) (yKx vs) y))(hin:∀ vs x,vs.length=js.length->∃ e ls ls',(sk.enc x).h[0]?=some (.box e ls)/\InK js ls vs ls'/\si.enc (put vs x)=⟨(sk.enc x).r,(sk.enc x).h.set 0 (.box e ls')⟩)(hout:∀ vs y,vs.length=js.length->∃ e ls ls',(so.enc (yKw vs y)).h[0]?=some (.box e ls)/\Oh js ls vs ls'/\sko.enc y=⟨(so.enc (yKw vs y)).r,(so.enc (yKw vs y)).h.set 0 (.box e ls')⟩)(xCt:∀ vs y,vs.length=js.length->∃ e ls ls',(sp.enc (yKx vs y)).h[0]?=some (.box e ls)/\Oh js ls vs ls'/\skp.enc y=⟨(sp.enc (yKx vs y)).r,(sp.enc (yKx vs y)).h.set 0 (.box e ls')⟩)(hos:sk.os.length<=si.os.length)(hM:cK P f si so tp sp F):zNr P f (js.map (·.1)) sk sko tp skp G:=by
 refine⟨hM.1,λx y hG C β w xs b hP hfl hs hfix=>?_⟩;obtain⟨_,hfx⟩:=hs.heap.fixed 0 _ hfix;obtain⟨hb,mV⟩:=hfx b rfl;have hne:∃ e ls,(sk.enc x).h[0]?=some (.box e ls):=by
  obtain⟨e,ls,_,h1,_⟩:=hin (js.map λ_=>undef) x (by simp);exact⟨e,ls,h1⟩
 obtain⟨e0,ls0,h0⟩:=hne;have hbx:=hs.heap.obj _ _ h0;simp only[Ob.Rel]at hbx;obtain⟨q1,q2,rb,rcs,q3,q4,q5⟩:=hbx;rw[hb]at q3;simp only[aA]at q3;subst q3;have hvl:(js.map λp=>(rcs[p.1]?).getD undef).length=js.length:=by simp
 obtain⟨e,ls,ls',h1,h2,h4⟩:=hin _ x hvl;rw[h0]at h1;simp only[aA,Ob.box.injEq]at h1;obtain⟨rfl,rfl⟩:=h1;obtain⟨hs1,hN1⟩:=hs.heap.zGy (ls':=ls') h0 (λcs hcs hheap=>by
  have:cs=rcs:=by
   rw[hb]at hheap;simp only[Option.getD_some]at hheap;rw[q5]at hheap;simp only[aA,Obj.cells.injEq]at hheap;have:=congrArg Array.toList hheap.1;simpa using this.symm
  subst this;exact(h2.rel hcs).1)
 have hsome:=(h2.rel q4).2;have Dq:Sim C β (si.enc (put (js.map λp=>(rcs[p.1]?).getD undef) x)) { tmps:=xs.toArray,defers:=[] } w:=by
  rw[h4];exact⟨hs1,hs.defers,hs.size,λi v hv=>(hs.reg i v hv).mono (Moves.refl β) (Keep.refl _ w) hN1⟩
 refine(hM.2 _ _ (xEl _ x y hvl hG) C β w xs hP (Nat.le_trans hfl hos) Dq).mono ?_;rintro ex w' (⟨z,us,β',hz,rfl,hs'⟩|⟨z,u,β',hz,rfl,hs'⟩)
 ·cases y with
  |inr y=>cases hz
  |inl y =>
   simp only[zQk,Sum.inl.injEq]at hz;subst hz;obtain⟨e2,ls2,ls3,k1,k2,k4⟩:=hout _ y hvl;obtain⟨r1,r2⟩:=yBv hfix ⟨_,q5⟩ hsome hs' k1 k2 k4;exact⟨.inl ⟨y,us,β',rfl,rfl,r1⟩,r2⟩
 ·cases y with
  |inl y=>cases hz
  |inr y =>
   simp only[zQk,Sum.inr.injEq]at hz;subst hz;obtain⟨e2,ls2,ls3,k1,k2,k4⟩:=xCt _ y hvl;obtain⟨r1,r2⟩:=yBv (us:=[u]) hfix ⟨_,q5⟩ hsome hs' k1 k2 k4;exact⟨.inr ⟨y,u,β',rfl,rfl,r1⟩,r2⟩
theorem yEy{sp:Sh}{tp:TypeId}{F:si.X->Option (Sum so.X sp.X)}{Γ:Orc (Sum so.X sp.X)}{an:An (Sum so.X sp.X)}{co cp:List Co}{fn:Func}{id:Nat}{ops:Array Oper}{c2:Code}{j rid:Nat}{oL:List Nat}{zIg:List V->List Ob->List Nat}{gen:List V->List Ob->(Out->List Ob->Option (Sum so.X sp.X))->Option (Sum so.X sp.X)}{g:FuncId}(hf:P.funcs[f]?=some fn)(hb:fn.body=some (.seq (.region id ops true) c2))(hh:iH P f=true)(hT:bM P T)(hΓ:kQ P Γ)(hm:P.follows .mixedOrders=true)(hgen:∀ vs h kk r,gen vs h kk=some r->iH P g=true/\Cx P g vs h λout h'=>kk out h'=some r/\(∀ id,id<h.length->id∉zIg vs h->h'[id]?=h[id]?)/\∀ off∈oL,∀ t,Zg T t=true->loadAt T h' t (.ptr rid off)=loadAt T h t (.ptr rid off))(ha:zNb P si.os.length c2 an)(hfx:an.fx si.os.length=true)(hco:dA (Co.fx si.os.length) co=true)(hcp:dA (Co.fx si.os.length) cp=true)(h:∀ x,yKs Γ T ops j rid oL zIg gen g ⟨Qb (si.enc x).r fn.ntmps,(si.enc x).h⟩ (λe σ'=>match e with|.normal=>ev Γ T c2 an σ' (Zw T fn.results.toList so co tp sp cp)|e=>Zw T fn.results.toList so co tp sp cp e σ')=F x):cK P f si so tp sp F:=by
 refine⟨hh,λx y hF C β w xs hP hkf hs=>?_⟩;rw[<- h x]at hF;refine calls_of_wp hf hb ?_;have post:∀ (e:Ex) (x':Exit) (σ':St) (β':Nat->Pl) (a':Act) (w':World),Sim C β' σ' a' w'->La β' w' (C.N β' σ'.h) e x'->Zw T fn.results.toList so co tp sp cp e σ'=some y ->
  bodyPost C.P fn (λe w'=>(∃ (z:so.X) (us:List Value) (β':Nat->Pl),y=.inl z/\e=.returned (sG us)/\Sim C β' (so.enc z) { tmps:=us.toArray,defers:=[] } w') \/
  ∃ (z:sp.X) (u:Value) (β':Nat->Pl),y=.inr z/\e=.panicked [{ v:=.iface tp u,recovered:=false }]/\Sim C β' (sp.enc z) { tmps:=#[u],defers:=[] } w') x' a' w':=by
  intro e x' σ' β' a' w' hs' hx' hk;subst hP;have fin:(zEa T fn.results.toList so co σ' λy=>some (.inl y))=some y->x'=.ret\/x'=.normal->bodyPost C.P fn (λe w'=>(∃ (z:so.X) (us:List Value) (β':Nat->Pl),y=.inl z/\e=.returned (sG us)/\Sim C β' (so.enc z) { tmps:=us.toArray,defers:=[] } w') \/
   ∃ (z:sp.X) (u:Value) (β':Nat->Pl),y=.inr z/\e=.panicked [{ v:=.iface tp u,recovered:=false }]/\Sim C β' (sp.enc z) { tmps:=#[u],defers:=[] } w') x' a' w':=by
   intro hk hx';obtain⟨us,β2,y',h1,h2,h3⟩:=zNh (fn:=fn) hT hkf hco hs' hk;obtain rfl:=Option.some.inj h3;rcases hx' with rfl|rfl
   ·exact⟨hs'.defers,_,h1,.inl ⟨y',us,β2,rfl,rfl,h2⟩⟩
   ·exact⟨hs'.defers,_,h1,.inl ⟨y',us,β2,rfl,rfl,h2⟩⟩
  cases e with
  |normal=>obtain rfl:=hx';exact fin hk (.inr rfl)
  |ret=>obtain rfl:=hx';exact fin hk (.inl rfl)
  |exit i=>simp[Zw]at hk
  |goto l=>simp[Zw]at hk
  |pan t u =>
   simp only[Zw]at hk;split at hk
   ·rename_i hb;have:=aK hb;subst this;obtain⟨x0,rfl,hx0⟩:=hx';obtain⟨β2,_,z,h3,h4⟩:=Dv hT hkf hcp hk (zNg (vs:=[u]) (us:=[x0]) hs' ⟨hx0,trivial⟩);obtain rfl:=Option.some.inj h4;exact⟨hs'.defers,.inr ⟨z,x0,β2,rfl,rfl,h3⟩⟩
   ·cases hk
 refine wp_seq ?_;have hs0:=zHm fn.ntmps hs;subst hP;refine yNz hT hΓ hm hgen (λe x' σ' β' a' w' hs' hx' hk=>?_) hF hs0;cases e with
 |normal =>
  obtain rfl:=hx';exact zDu (P:=C.P) hT hΓ hm c2 an ha hfx _ _ y hk C β' _ w' _ rfl hkf hs' (λe x' σ' β' a' w' h1 h2 h3=>post e x' σ' β' a' w' h1 h2 h3)
 |ret=>have p:=post .ret _ _ _ _ _ hs' hx' hk;obtain rfl:=hx';exact p
 |exit i=>have p:=post (.exit i) _ _ _ _ _ hs' hx' hk;obtain rfl:=hx';exact p
 |goto l=>have p:=post (.goto l) _ _ _ _ _ hs' hx' hk;obtain rfl:=hx';exact p
 |pan t u=>have p:=post (.pan t u) _ _ _ _ _ hs' hx' hk;obtain⟨x0,rfl,_⟩:=hx';exact p
def zNs(o:Option Ob):List L:=match o with|some (.box _ ls)=>ls|_=>[]
theorem yKy{α:Type}:∀ {vs:List α},vs.length=3->∃ a b c,vs=[a,b,c]
 |[a,b,c],_=>⟨a,b,c,rfl⟩
 |[],h=>by cases h
 |[_],h=>by cases h
 |[_,_],h=>by cases h
 |_::_::_::_::_,h=>by simp at h
theorem InK.three{o1 j1 o2 j2 o3 j3:Nat}{ls:List L}{a b c:Value}(h1:ls[j1]?=some (.bad 1))(h2:sits ls o1 j1=true)(h3:(ls.set j1 (.val .opq a))[j2]?=some (.bad 1))(h4:sits (ls.set j1 (.val .opq a)) o2 j2=true)(h5:((ls.set j1 (.val .opq a)).set j2 (.val .opq b))[j3]?=some (.bad 1))(h6:sits ((ls.set j1 (.val .opq a)).set j2 (.val .opq b)) o3 j3=true):InK [(o1,j1),(o2,j2),(o3,j3)] ls [a,b,c] (((ls.set j1 (.val .opq a)).set j2 (.val .opq b)).set j3 (.val .opq c)):=
 ⟨h1,h2,h3,h4,h5,h6,rfl⟩
theorem Oh.three{o1 j1 o2 j2 o3 j3:Nat}{ls:List L}{a b c:Value}(h1:ls[j1]?=some (.val .opq a))(h2:sits ls o1 j1=true)(h3:(ls.set j1 (.bad 1))[j2]?=some (.val .opq b))(h4:sits (ls.set j1 (.bad 1)) o2 j2=true)(h5:((ls.set j1 (.bad 1)).set j2 (.bad 1))[j3]?=some (.val .opq c))(h6:sits ((ls.set j1 (.bad 1)).set j2 (.bad 1)) o3 j3=true):Oh [(o1,j1),(o2,j2),(o3,j3)] ls [a,b,c] (((ls.set j1 (.bad 1)).set j2 (.bad 1)).set j3 (.bad 1)):=
 ⟨h1,h2,h3,h4,h5,h6,rfl⟩
end
end Go.Dec
namespace Go.Dec
theorem Ra(n:Nat):∀ (vs:List Value) x y,vs.length=3->gW n x=some y->iP n (x.1,x.2.1,x.2.2.1,(vs.getD 0 undef),x.2.2.2.1,(vs.getD 1 undef),x.2.2.2.2.1,x.2.2.2.2.2.1,x.2.2.2.2.2.2.1,x.2.2.2.2.2.2.2.1,x.2.2.2.2.2.2.2.2.1,x.2.2.2.2.2.2.2.2.2.1,x.2.2.2.2.2.2.2.2.2.2.1,x.2.2.2.2.2.2.2.2.2.2.2.1,x.2.2.2.2.2.2.2.2.2.2.2.2.1,x.2.2.2.2.2.2.2.2.2.2.2.2.2.1,x.2.2.2.2.2.2.2.2.2.2.2.2.2.2.1,x.2.2.2.2.2.2.2.2.2.2.2.2.2.2.2.1,x.2.2.2.2.2.2.2.2.2.2.2.2.2.2.2.2.1,x.2.2.2.2.2.2.2.2.2.2.2.2.2.2.2.2.2.1,x.2.2.2.2.2.2.2.2.2.2.2.2.2.2.2.2.2.2.1,x.2.2.2.2.2.2.2.2.2.2.2.2.2.2.2.2.2.2.2.1,(vs.getD 2 undef),x.2.2.2.2.2.2.2.2.2.2.2.2.2.2.2.2.2.2.2.2)=some (zQk (λy=>(y.1,y.2.1,y.2.2.1,y.2.2.2.1,(vs.getD 0 undef),y.2.2.2.2.1,(vs.getD 1 undef),y.2.2.2.2.2.1,y.2.2.2.2.2.2.1,y.2.2.2.2.2.2.2.1,y.2.2.2.2.2.2.2.2.1,y.2.2.2.2.2.2.2.2.2.1,y.2.2.2.2.2.2.2.2.2.2.1,y.2.2.2.2.2.2.2.2.2.2.2.1,y.2.2.2.2.2.2.2.2.2.2.2.2.1,y.2.2.2.2.2.2.2.2.2.2.2.2.2.1,y.2.2.2.2.2.2.2.2.2.2.2.2.2.2.1,y.2.2.2.2.2.2.2.2.2.2.2.2.2.2.2.1,y.2.2.2.2.2.2.2.2.2.2.2.2.2.2.2.2.1,y.2.2.2.2.2.2.2.2.2.2.2.2.2.2.2.2.2.1,y.2.2.2.2.2.2.2.2.2.2.2.2.2.2.2.2.2.2.1,y.2.2.2.2.2.2.2.2.2.2.2.2.2.2.2.2.2.2.2.1,y.2.2.2.2.2.2.2.2.2.2.2.2.2.2.2.2.2.2.2.2.1,(vs.getD 2 undef),y.2.2.2.2.2.2.2.2.2.2.2.2.2.2.2.2.2.2.2.2.2)) (λz=>(z.1,z.2.1,z.2.2.1,z.2.2.2.1,(vs.getD 0 undef),z.2.2.2.2.1,(vs.getD 1 undef),z.2.2.2.2.2.1,z.2.2.2.2.2.2.1,z.2.2.2.2.2.2.2.1,z.2.2.2.2.2.2.2.2.1,z.2.2.2.2.2.2.2.2.2.1,z.2.2.2.2.2.2.2.2.2.2.1,z.2.2.2.2.2.2.2.2.2.2.2.1,z.2.2.2.2.2.2.2.2.2.2.2.2.1,z.2.2.2.2.2.2.2.2.2.2.2.2.2.1,z.2.2.2.2.2.2.2.2.2.2.2.2.2.2.1,z.2.2.2.2.2.2.2.2.2.2.2.2.2.2.2.1,z.2.2.2.2.2.2.2.2.2.2.2.2.2.2.2.2.1,z.2.2.2.2.2.2.2.2.2.2.2.2.2.2.2.2.2.1,z.2.2.2.2.2.2.2.2.2.2.2.2.2.2.2.2.2.2.1,z.2.2.2.2.2.2.2.2.2.2.2.2.2.2.2.2.2.2.2.1,z.2.2.2.2.2.2.2.2.2.2.2.2.2.2.2.2.2.2.2.2.1,(vs.getD 2 undef),z.2.2.2.2.2.2.2.2.2.2.2.2.2.2.2.2.2.2.2.2.2)) y):=by
 intro vs x y hl h;obtain⟨a,b,c,rfl⟩:=yKy hl;unfold gW iP iO gV at h;unfold iP iO gV;simp only[List.getD_cons_zero,List.getD_cons_succ]at h ⊢;cases hB:nA n (x.1,x.2.2.1)with
 |none=>simp only[hB,ob]at h;cases h
 |some i =>
  simp only[hB,ob]at h ⊢;cases hW:rR n (x.1,i,[59,125])with
  |none=>simp only[hW]at h;cases h
  |some w =>
   simp only[hW]at h ⊢;cases hC:strings_ContainsAny n (w.1,[32,9])with
   |none=>simp only[hC]at h;cases h
   |some q =>
    simp only[hC]at h ⊢;cases q with
    |true =>
     simp only[br,aW,ob2,aA]at h ⊢;subst h;rfl
    |false =>
     simp only[br,aA]at h ⊢;subst h;rfl
end Go.Dec
namespace Go.Proofs
open Go.Shelf Go.RowKit Go.Lib
variable {P:Program}
variable {ρ:Ren}
def blk:ByteArray:=⟨#[32,9]⟩
theorem Wv:blk.size=2:=rfl
set_option maxHeartbeats 4000000 in
set_option maxRecDepth 1000000 in
theorem Any.zXf(L:Lays.n152 P ρ)(w:World):Calls P (ρ.f 152) #[.string blk,.int .i32 65533] w λe w'=>e=.returned (.int .i64 (-1))/\Below w.heap.size w w':=by
 have t3:=L.t3;have a3:=L.a3;have z3:=L.z3;have v3:=L.v3;have t4:=L.t4;have a4:=L.a4;have z4:=L.z4;have v4:=L.v4;have t5:=L.t5;have a5:=L.a5;have z5:=L.z5;have v5:=L.v5;have t9:=L.t9;have a9:=L.a9;have z9:=L.z9;have v9:=L.v9;have t21:=L.t21;have a21:=L.a21;have z21:=L.z21;have v21:=L.v21
 go_enter L.f152,Body.n152_ntmps ρ
 go_wp2
 go_loopg [5,6] 2 (λg _ _ wx=>∃ i:Nat,i+g=2/\wx=w.iter blk i)
 case atStart=>exact⟨0,by omega,rfl⟩
 case round =>
  obtain⟨i,hig,rfl⟩:=hrel;cases gk with
  |zero =>
   obtain rfl:i=2:=by omega
   have hnx:=run_next_end (P:=P) w blk 2;have hd:¬ (2<blk.size):=by decide
   go_wp2
   go_ret
   exact⟨rfl,(Below.refl _ _).alloc (aP _) _⟩
  |succ g =>
   have hi:i<blk.size:=by rw[Wv];omega
   have hlt:(blk[i]'hi).toNat<128:=by
    have:i=0\/i=1:=by omega
    rcases this with rfl|rfl
    ·show(32:UInt8).toNat<128;decide
    ·show(9:UInt8).toNat<128;decide
   have hne:(((blk[i]'hi).toNat:Int)==65533)=false:=beq_eq_false_iff_ne.2 (by omega);have hnx:=λty=>run_next_ascii (P:=P) w blk i ty hi hlt
   obtain⟨x,hx⟩:∃ x:UInt8,blk[i]'hi=x:=⟨_,rfl⟩;rw[hx]at hne hnx;clear hlt hx
   go_wp2
   go_roundg g
   case measure=>omega
   case rel=>exact⟨i+1,by omega,rfl⟩
set_option maxHeartbeats 4000000 in
set_option maxRecDepth 1000000 in
theorem Any.zTm(L:Lays.n152 P ρ)(r:Int)(w:World)(h0:128<=r):Calls P (ρ.f 152) #[.string blk,.int .i32 r] w λe w'=>e=.returned (.int .i64 (-1))/\Below w.heap.size w w':=by
 by_cases hr:r=65533
 ·subst hr;exact Any.zXf L w
 have t3:=L.t3;have a3:=L.a3;have z3:=L.z3;have v3:=L.v3;have t4:=L.t4;have a4:=L.a4;have z4:=L.z4;have v4:=L.v4;have t5:=L.t5;have a5:=L.a5;have z5:=L.z5;have v5:=L.v5;have t9:=L.t9;have a9:=L.a9;have z9:=L.z9;have v9:=L.v9;have t21:=L.t21;have a21:=L.a21;have z21:=L.z21;have v21:=L.v21;have e119:∀ args w,(callFunc (ρ.f 119) args).run P w=.ok (.enter (ρ.f 119) args) w:=enters_of L.f119 (by kernel_rfl) rfl;have e137:∀ args w,(callFunc (ρ.f 137) args).run P w=.ok (.enter (ρ.f 137) args) w:=enters_of L.f137 (by kernel_rfl) rfl;have mixed:=L.mixed;have hle:¬ (r<128):=by omega
 have hle2:decide (r<128)=false:=decide_eq_false hle;have hge:decide ((0:Int)<=r)=true:=decide_eq_true (by omega);have hne:(r==65533)=false:=beq_eq_false_iff_ne.2 hr;have hv':validRune r=Lib.validRune r:=rfl;cases hv:Lib.validRune r
 ·go_enter L.f152,Body.n152_ntmps ρ
  go_wp2_with (go_at_fn (ρ.f 119);refine(Any.utf8_ValidRune { L with } r _).mono ?_;rintro e w' ⟨rfl,hw⟩;rw[hw,hv])
  go_ret
  exact⟨rfl,Below.refl _ _⟩
 ·obtain⟨f1,f2,f3⟩:=encode_facts r (by rw[validRune_eq,hv',hv]) h0;have hcv:∀ w,(convert (ρ.t 21) (ρ.t 9) (.int .i32 r)).run P w=.ok (.string (Utf8.encode r)) w:=λw=>run_convert_int_string w _ _ _ _ (by rw[t21];rfl) t9
  generalize Utf8.encode r=E at f1 f2 f3 hcv;have hsub:((E.size:Int)-1)=((E.size-1:Nat):Int):=by omega
  by_cases h2:E.size=2
  ·have h1:1<E.size:=by omega
   obtain⟨c,hc⟩:∃ c:UInt8,E[1]'h1=c:=⟨_,rfl⟩;have xFy:128<=c.toNat:=by
    have:=f3 (by omega);simp only[h2]at this;rw[<- hc];exact this
   have hcn:((9:Int)==(c.toNat:Int))=false:=beq_eq_false_iff_ne.2 (by omega);clear f1 f2 f3
   go_enter L.f152,Body.n152_ntmps ρ
   go_wp2_with (go_at_fn (ρ.f 119);refine(Any.utf8_ValidRune { L with } r _).mono ?_;rintro e w' ⟨rfl,hw⟩;rw[hw,hv])
   apply wp_scope_straight
   go_wp2
   go_loopg [9] 1 (λ_ s9 wx=>s9=.int .i64 1/\wx=w)
   case atStart=>exact⟨rfl,rfl⟩
   case round =>
    obtain⟨rfl,rfl⟩:=hrel;have hb1:1<blk.size:=by rw[Wv];omega
    have hb2:blk[1]'hb1=9:=rfl
    go_wp2
    apply wp_scope_straight
    go_wp2
    go_region_o
    go_wp2
    go_region_with_o (go_at_fn (ρ.f 137);refine(Any.strings_IndexByte { L with } _ _ _).mono ?_;rintro e w' ⟨rfl,hw⟩;rw[hw])
    all_goals (
     have hib:indexByte (List.take (blk.size-2) (List.drop 2 blk.data.toList)) c=-1:=rfl
     go_wp2
     simp only[Exit.noGoto,Exit.inBlock,Exit.then]
     go_ret
     exact⟨rfl,Below.drew (Below.drew (Below.refl _ _))⟩)
  ·have h3:2<=E.size-1:=by omega
   clear f3;generalize hz:E.size-1=z at hsub h3;have hzl:¬ (z<blk.size):=by rw[Wv];omega
   go_enter L.f152,Body.n152_ntmps ρ
   go_wp2_with (go_at_fn (ρ.f 119);refine(Any.utf8_ValidRune { L with } r _).mono ?_;rintro e w' ⟨rfl,hw⟩;rw[hw,hv])
   apply wp_scope_straight
   go_wp2
   go_loopg [9] 1 (λ_ s9 wx=>s9=.int .i64 (z:Nat)/\wx=w)
   case atStart=>exact⟨by rw[<- hsub],rfl⟩
   case round =>
    obtain⟨rfl,rfl⟩:=hrel
    go_wp2
    simp only[Exit.noGoto]
    go_ret
    exact⟨rfl,Below.refl _ _⟩
end Go.Proofs
namespace Go.Proofs
open Go.Shelf Go.RowKit Go.Lib
variable {P:Program}
variable {ρ:Ren}
theorem zLx(s:ByteArray)(pos:Nat)(h:pos<s.size)(ha:128<=(s[pos]'h).toNat):pos+(Utf8.decode s pos).2<=s.size/\∀ k,k<(Utf8.decode s pos).2->128<=(s.get! (pos+k)).toNat:=by
 have h0:128<=(s.get! (pos+0)).toNat:=by rw[get_at s pos h];exact ha
 have hn:¬ (s.get! (pos+0)).toNat<128:=by omega
 have one:pos+1<=s.size/\∀ k,k<1->128<=(s.get! (pos+k)).toNat:=⟨h,λk hk=>by
  obtain rfl:k=0:=by omega
  exact h0⟩
 simp only[Utf8.decode,hn,if_false];split
 ·rename_i hc;simp only[aD,decide_eq_true_eq,beq_iff_eq]at hc;split
  ·refine⟨by simp only;omega,λk hk=>?_⟩;simp only at hk;match k,hk with
   |0,_=>exact h0
   |1,_=>omega
   |k+2,hk=>omega
  ·exact one
 ·split
  ·rename_i hc;simp only[aD,decide_eq_true_eq,beq_iff_eq]at hc;split
   ·refine⟨by simp only;omega,λk hk=>?_⟩;simp only at hk;match k,hk with
    |0,_=>exact h0
    |1,_=>omega
    |2,_=>omega
    |k+3,hk=>omega
   ·exact one
  ·split
   ·rename_i hc;simp only[aD,decide_eq_true_eq,beq_iff_eq]at hc;split
    ·refine⟨by simp only;omega,λk hk=>?_⟩;simp only at hk;match k,hk with
     |0,_=>exact h0
     |1,_=>omega
     |2,_=>omega
     |3,_=>omega
     |k+4,hk=>omega
    ·exact one
   ·exact one
theorem yKz(s:ByteArray)(j:Nat)(b:UInt8)(h:s.data.toList[j]?=some b):s.get! j=b:=by
 rw[Array.getElem?_toList]at h;show s.data[j]! = b;rw[getElem!_def,h]
theorem yLa{s:ByteArray}{i:Nat}(hi:i<s.size)(ha:128<=(s[i]'hi).toNat)(h:NoAny s.data.toList blk.data.toList i):NoAny s.data.toList blk.data.toList (i+(Utf8.decode s i).2):=λj b hj hb=>by
 by_cases hij:j<i
 ·exact h j b hij hb
 ·have:=(zLx s i hi ha).2 (j-i) (by omega);rw[show i+(j-i)=j by omega,yKz s j b hb]at this;show [32,9].contains b=false;cases hc:[32,9].contains b with
  |false=>rfl
  |true =>
   simp at hc;rcases hc with rfl|rfl<;>simp at this
set_option maxHeartbeats 8000000 in
set_option maxRecDepth 1000000 in
theorem Any.yBw(L:Lays.n153 P ρ)(s:ByteArray)(w:World)(h8:s.size<=8):Calls P (ρ.f 153) #[.string s,.string blk] w λe w'=>e=.returned (.int .i64 (Lib.indexAny s.data.toList blk.data.toList))/\Below w.heap.size w w':=by
 have hemp:blk.toList.isEmpty=false:=by rw[Lib.toList_data];rfl
 have hn1:((blk.size:Int)==1)=false:=rfl;have h8z:decide ((8:Int)<(s.size:Int))=false:=decide_eq_false (by omega);have t3:=L.t3;have a3:=L.a3;have z3:=L.z3;have v3:=L.v3;have t4:=L.t4;have a4:=L.a4;have z4:=L.z4;have v4:=L.v4;have t5:=L.t5;have a5:=L.a5;have z5:=L.z5;have v5:=L.v5;have t9:=L.t9;have a9:=L.a9;have z9:=L.z9;have v9:=L.v9;have t21:=L.t21;have a21:=L.a21;have z21:=L.z21;have v21:=L.v21;have e152:∀ args w,(callFunc (ρ.f 152) args).run P w=.ok (.enter (ρ.f 152) args) w:=enters_of L.f152 (by kernel_rfl) rfl;have e226:∀ args w,(callFunc (ρ.f 226) args).run P w=.ok (.enter (ρ.f 226) args) w:=enters_of L.f226 (by kernel_rfl) rfl
 go_enter L.f153,Body.n153_ntmps ρ
 go_wp2_with (go_at_fn (ρ.f 226);refine(Any.strings_shouldUseASCIISet { L with } _ _).mono ?_;rintro e w' ⟨rfl,hw⟩;rw[hw,h8z])
 go_loopg [9,10] (s.size+1) (λg _ _ wx=>∃ i:Nat,s.size+1-i=g/\i<=s.size/\wx.heap[w.heap.size]?=some (.stringIter s i)/\Below w.heap.size w wx/\Lib.NoAny s.data.toList blk.data.toList i)
 case atStart=>exact⟨0,by omega,by omega,World.iter_heap w s 0,(Below.refl _ _).alloc (aP _) _,Lib.NoAny.zero _ _⟩
 case round =>
  obtain⟨i,hig,hle,hit,hbel,hno⟩:=hrel;have HN:Aside (Lib.NoAny s.data.toList blk.data.toList i):=hno;have HB:Aside (Below w.heap.size w wr):=hbel;clear hno hbel;by_cases hi:i<s.size
  ·obtain⟨x,hx⟩:∃ x:UInt8,s[i]'hi=x:=⟨_,rfl⟩;have hxl:s.data.toList[i]?=some x:=by rw[<- hx];exact Lib.data_getElem? s i hi
   by_cases hx128:x.toNat<128
   ·have hnx:=λty=>run_next_ascii_at (P:=P) wr w.heap.size s i ty hit hi (by rw[hx];exact hx128)
    rw[hx]at hnx;have zTn:=iterAt_heap wr w.heap.size s i (i+1) hit;have hbn:=below_iterAt HB.out (aP _) s (i+1);generalize wr.iterAt w.heap.size s (i+1)=w2 at hnx zTn hbn;have Hx:Aside (s.data.toList[i]?=some x):=hxl;have HB2:Aside (Below w.heap.size w w2):=hbn;clear hxl hx hbn;have hcon:=Lib.contains_iff_indexByte blk.data.toList x;have hback:((x.toNat:Int)).toNat.toUInt8=x:=by simp
    cases hin:blk.data.toList.contains x
    ·rw[hin]at hcon;have hlt:¬ ((0:Int)<=Lib.indexByte blk.data.toList x):=of_decide_eq_false hcon.symm;clear hcon
     go_wp2_with (go_at_fn (ρ.f 152);refine(Any.strings_IndexRune_ascii { L with } _ _ _ (by omega) (by omega)).mono ?_;rintro e w' ⟨rfl,hw⟩;rw[hw,hback])
     go_roundg (s.size+1-(i+1))
     case measure=>omega
     case rel=>exact⟨i+1,rfl,by omega,zTn,HB2.out,HN.out.succ Hx.out hin⟩
    ·rw[hin]at hcon;have hge:(0:Int)<=Lib.indexByte blk.data.toList x:=of_decide_eq_true hcon.symm;clear hcon
     go_wp2_with (go_at_fn (ρ.f 152);refine(Any.strings_IndexRune_ascii { L with } _ _ _ (by omega) (by omega)).mono ?_;rintro e w' ⟨rfl,hw⟩;rw[hw,hback])
     go_ret
     exact⟨by rw[Lib.indexAny_hit HN.out Hx.out hin];rfl,HB2.out⟩
   ·have hx128:128<=(s[i]'hi).toNat:=by rw[hx];omega
    have hnx:=λty=>run_next_any_at (P:=P) wr w.heap.size s i ty hit hi
    obtain⟨hr,hk⟩:=decode_high s i hi hx128;have hsp:=(zLx s i hi hx128).1;have ySq:=yLa hi hx128 HN.out;generalize (Utf8.decode s i).1=r at hnx hr;generalize (Utf8.decode s i).2=k at hnx hk hsp ySq;have zTn:=iterAt_heap wr w.heap.size s i (i+k) hit;have hbn:=below_iterAt HB.out (aP _) s (i+k);generalize wr.iterAt w.heap.size s (i+k)=w2 at hnx zTn hbn;have HB2:Aside (Below w.heap.size w w2):=hbn;have HN2:Aside (NoAny s.data.toList blk.data.toList (i+k)):=ySq;have hlt2:w.heap.size<w2.heap.size:=(Array.getElem?_eq_some_iff.1 zTn).1;have hr0:(128:Int)<=(r:Int):=by omega
    clear hxl hx hbn ySq hx128
    go_wp2_with (go_at_fn (ρ.f 152);refine(Any.zTm { L with } _ _ (by omega)).mono ?_;rintro e w' ⟨rfl,hw⟩)
    go_roundg (s.size+1-(i+k))
    case measure=>omega
    case rel=>exact⟨i+k,rfl,by omega,by rw[hw.block _ hlt2];exact zTn,HB2.out.trans (hw.mono (by omega)),HN2.out⟩
  ·obtain rfl:i=s.size:=by omega
   have hnx:=λty=>run_next_end_at (P:=P) wr w.heap.size s s.size ty hit (by omega)
   go_wp2
   go_ret
   exact⟨by rw[Lib.indexAny_none (by rw[<- Lib.size_eq];exact HN.out)];rfl,HB.out⟩
set_option maxHeartbeats 1000000 in
theorem Any.zQl(L:Lays.n150 P ρ)(h116:(P.info? (ρ.t 116)).map (λi=>(i.zero,i.size))=some (some (.agg (Array.replicate 256 (.bool false))),256))(s:ByteArray)(w:World)(hs:s.size<4294967281):Calls P (ρ.f 150) #[.string s,.string blk] w λe w'=>e=.returned (.bool (Lib.containsAny s.data.toList blk.data.toList))/\Below w.heap.size w w':=by
 have c:Calls P (ρ.f 153) #[.string s,.string blk] w λe w'=>e=.returned (.int .i64 (Lib.indexAny s.data.toList blk.data.toList))/\Below w.heap.size w w':=by
  by_cases h8:s.size<=8
  ·exact Any.yBw { L with } s w h8
  ·have hac:∀ (j:Nat) b,blk.data.toList[j]?=some b->b.toNat<128:=λj b h=>by
    have:b∈([32,9]:List UInt8):=List.mem_of_getElem? h;simp at this;rcases this with rfl|rfl<;>decide
   refine(Any.strings_IndexAny_long { L with } (zero_of_info h116).1 (zero_of_info h116).2 s blk w (by rw[Wv];omega) (by omega) hs (by rw[Wv];omega) hac).mono λe w' ⟨h1,h2⟩=>⟨h1,?_⟩
   rw[h2];exact((Below.refl _ _).alloc (aP _) _).alloc (by simp) _
 have t3:=L.t3;have a3:=L.a3;have z3:=L.z3;have v3:=L.v3;have t4:=L.t4;have a4:=L.a4;have z4:=L.z4;have v4:=L.v4;have t9:=L.t9;have a9:=L.a9;have z9:=L.z9;have v9:=L.v9;have e153:∀ args w,(callFunc (ρ.f 153) args).run P w=.ok (.enter (ρ.f 153) args) w:=enters_of L.f153 (by kernel_rfl) rfl
 go_enter L.f150,Body.n150_ntmps ρ
 go_wp2_with (go_at_fn (ρ.f 153);refine c.mono ?_;rintro e w' ⟨rfl,hw⟩)
 go_ret
 exact⟨rfl,hw⟩
end Go.Proofs
namespace Go.Dec
open Go.Proofs Go.RowKit Go.Sort Go.Lib
abbrev Ac:List Ty:=[.str,.str]
abbrev Ad:List Ty:=[.bool]
theorem yGr(c:List UInt8):∀ s:List UInt8,Lib.containsAny s c=s.any λx=>c.contains x
 |[]=>rfl
 |b::l=>by
  have ih:=yGr c l;unfold Lib.containsAny at ih ⊢;rw[List.any_cons,<- ih,indexAny];have h:=indexAny_ge c l;cases c.contains b
  ·simp only[Bool.false_eq_true,if_false,Bool.false_or];by_cases h1:indexAny l c=-1
   ·rw[h1];rfl
   ·rw[if_neg (by simpa using h1)];exact decide_eq_decide.2 (by omega)
  ·simp
theorem Ea(n:Nat):Pure Tryz.prog 115 Ac Ad (strings_ContainsAny n):=by
 refine⟨by kernel_rfl,λx y hF w N xs hG _ hx=>?_⟩;obtain⟨hc,hy⟩:=iM hF;rw[aD]at hc;obtain⟨hc,hl⟩:=hc;have hc:=of_decide_eq_true hc;have hl:=bR hl;obtain rfl:=Option.some.inj hy;obtain⟨x,c⟩:=x;simp only at hc hl;subst hc;obtain⟨u,us,rfl,h1,v,rfl,h2⟩:=hx;simp only[Ty.bP,Ty.isAgg,Bool.false_eq_true,if_false,Ty.Rel,aJ,and_true]at h1 h2;subst h1 h2;refine(Any.zQl Tryz.lays150 (by kernel_rfl) ⟨x.toArray⟩ w (by simp[ByteArray.size];omega)).mono ?_;rintro e w' ⟨rfl,hb⟩;refine⟨[_],rfl,hb.os,hb.tape,hb.output,Uk hb,_,rfl,?_⟩;have:=yGr blk.data.toList x;simp only[Ty.bP,Ty.isAgg,Bool.false_eq_true,if_false,Ty.Rel];rw[this];rfl
end Go.Dec
