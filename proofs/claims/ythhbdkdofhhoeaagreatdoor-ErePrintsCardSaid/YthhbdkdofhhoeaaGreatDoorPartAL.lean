/- Part of a proof over this seat: a library of my own, and what it says of this seat. No statement is proved here. -/
import Derived.Test.YthhbdkdofhhoeaaGreatDoorPartAK
import Derived.WalkKit
import Derived.OwnWalkIn
import Derived.TacticsInMore
import Derived.Lib.SliceRun
namespace Go.Dec
section
variable {P:Program}{f:FuncId}{si so:Sh}
def Ol(P:Program)(f:FuncId)(off:Nat)(si so:Sh)(F:si.X->Option so.X):Prop :=
 iQ P f=true/\∀ x y,F x=some y->∀ (C:Ctx) (β:Nat->Pl) (w:World) (xs:List Value) (b:Nat) (c:Value),C.P=P->C.fix.length<=si.os.length->Sim C β (si.enc x) { tmps:=xs.toArray,defers:=[] } w->C.fix[0]?=some (some b)->w.cell? ⟨b,off,none⟩=some c ->
  Calls P f xs.toArray w λe w'=>∃ (us:List Value) (β':Nat->Pl),e=.returned (qM us)/\Sim C β' (so.enc y) { tmps:=us.toArray,defers:=[] } w'/\w'.cell? ⟨b,off,none⟩=some c
def Wj(j:Nat)(vs:List V)(h:List Ob):Option (Nat × TypeId × List L × Nat × Nat):=
 match vs with
 |.one (.ptr rid 0)::_=>match h[rid]? with
  |some (.box e ls)=>match ls[j]? with
   |some (.own sid u)=>some (rid,e,ls,sid,u)
   |_=>none
  |_=>none
 |_=>none
def yEj{ρ:Type}(off j:Nat)(si so:Sh)(F:si.X->Option so.X)(vs:List V)(h:List Ob)(k:Out->List Ob->Option ρ):Option ρ :=
 match Wj j vs h with
 |some (rid,e,ls,sid,u)=>
  let h1:=h.set rid (.box e (ls.set j (.bad 1)))
  match si.dec ⟨vs.map (V.ren (reach vs h1) h1),inH (reach vs h1) h1⟩with
  |some x=>chk (Zy (reach vs h1) h1 si so&&(Nat.beq (sizes (ls.take j)) off&&yOx rid (reach vs h1))) (ob (F x) λy =>
   match (jD (reach vs h1) h1 (so.enc y).h)[rid]? with
   |some (.box e' ls')=>match ls'[j]? with
    |some (.bad 1)=>match Nat.beq (sizes (ls'.take j)) off with
     |true=>k (.ret (zVj ((so.enc y).r.map (V.back (lQ (reach vs h1) h1.length) (jW (reach vs h1) h1))))) ((jD (reach vs h1) h1 (so.enc y).h).set rid (.box e' (ls'.set j (.own sid u))))
     |false=>none
    |_=>none
   |_=>none)
  |none=>none
 |none=>none
where
 yOx (rid:Nat):List Nat->Bool
  |a::_=>Nat.beq a rid
  |[]=>false
def yEk(j:Nat)(vs:List V)(h:List Ob):List Nat :=
 match Wj j vs h with
 |some (rid,e,ls,_,_)=>rid::reach vs (h.set rid (.box e (ls.set j (.bad 1))))
 |none=>reach vs h
theorem yQi{ρ:Type}{off j:Nat}{F:si.X->Option so.X}(hM:Ol P f off si so F){vs:List V}{h:List Ob}{k:Out->List Ob->Option ρ}{r:ρ}(hr:yEj off j si so F vs h k=some r):iQ P f=true/\Ec P f vs h λout h'=>k out h'=some r/\∀ id,id<h.length->id∉yEk j vs h->h'[id]?=h[id]?:=by
 refine⟨hM.1,?_⟩;unfold yEj at hr;split at hr
 case h_2=>cases hr
 rename_i rid e ls sid u hh;have yZb:yEk j vs h=rid::reach vs (h.set rid (.box e (ls.set j (.bad 1)))):=by unfold yEk;rw[hh]
 unfold Wj at hh;split at hh
 case h_2=>cases hh
 rename_i zVp vs';split at hh
 case h_2=>cases hh
 rename_i e0 ls0 hb;split at hh
 case h_2=>cases hh
 rename_i yEl u0 hlj;simp only[aA,aF]at hh;obtain⟨rfl,rfl,rfl,rfl,rfl⟩:=hh;generalize hh1:h.set zVp (.box e0 (ls0.set j (.bad 1)))=h1 at *;generalize hvs:(V.one (L.ptr zVp 0)::vs')=vs at *;simp only at hr;split at hr
 case h_2=>cases hr
 rename_i x hx;obtain⟨hc,hr⟩:=iV hr;obtain⟨y,hF,hr⟩:=zDk hr;simp only[aH]at hc;obtain⟨hok,hoff,hpre⟩:=hc;have hoff:=aU hoff;obtain⟨hnd,hlt,hlen,hwr,Jy⟩:=Rz hok;split at hr
 case h_2=>cases hr
 rename_i e' ls' yTg;split at hr
 case h_2=>cases hr
 rename_i yZc;split at hr
 case h_2=>cases hr
 rename_i yEm;have yEm:=aU yEm;intro C β w xs hP hs ha;subst hP;have zNm:=(bP.1 hb).1;have hbx:=hs.obj _ _ hb;simp only[Ob.Rel]at hbx;obtain⟨q1,q2,rb,rcs,q3,q4,q5⟩:=hbx;obtain⟨c,hc1,hc2⟩:=aN.cell (by rfl) hlj q4;rw[hoff]at hc1;have hone:=L.Rel.one hc2 c (.head _);obtain⟨hs1,hN1⟩:=hs.Zt (ls':=ls0.set j (.bad 1)) hb (λcs hcs _=>by
  obtain⟨c',g1,g2⟩:=aN.cell (by rfl) hlj hcs;exact hcs.tell (by rfl) (by simp only[L.Rel];exact⟨rfl,L.Rel.one g2⟩) hlj g1)
 rw[hh1]at hs1 hN1;have ha1:nC β w (C.N β h1) vs xs:=bD.mono (λv u hv=>V.Rel.mono (Moves.refl β) (Keep.refl _ w) hN1 hv) ha;have Eb:=zDs hx (zVk hs1 ha1 hnd hlt);have hcell:w.cell? ⟨rb,off,none⟩=some c:=by
  have:=Cells.of_heap q5 off c hc1
  rwa [Nat.zero_add]at this
 have yWn:(inC C β h1 w (reach vs h1) hs1).fix[0]?=some (some rb):=by
  unfold yEj.yOx at hpre;split at hpre
  ·rename_i a r hrr;have:=aU hpre;subst this;have hg:h1[a]?=some (.box e0 (ls0.set j (.bad 1))):=by rw[<- hh1,List.getElem?_set_self zNm]
   simp only[inC,hrr,List.map_cons,List.getElem?_cons_zero,Ef,gV hg,xK];rw[q3]
  ·cases hpre
 refine(hM.2 x y hF (inC C β h1 w _ hs1) _ w xs rb c rfl (by simp[inC,hlen]) Eb yWn hcell).mono ?_;rintro ex w' ⟨us,β',rfl,hs',hcell'⟩;obtain⟨β2,m1,m2,m3,m4,m5⟩:=Wh hs1 hnd hlt hwr Jy hs';have zVq:=m4.obj _ _ yTg;simp only[Ob.Rel]at zVq;obtain⟨p1,p2,pb,pcs,p3,p4,p5⟩:=zVq;have hpb:pb=rb:=by
  rcases m1 zVp q1 with e|⟨e,_⟩
  ·rw[e,q3]at p3;simpa using p3.symm
  ·rw[q2]at e;cases e
 subst hpb;have hpc:pcs[off]?=some c:=by
  have:w'.cell? ⟨pb,off,none⟩=pcs[off]?:=by
   simp only[World.cell?,p5];simp
  rw[<- this];exact hcell'
 have hown:(L.own yEl u0).Rel β2 w' (C.N β2 (jD (reach vs h1) h1 (so.enc y).h)) [c]:=by
  simp only[L.Rel]at hc2 ⊢;obtain⟨z1,z2,z3,c0,z4,z5,z6⟩:=hc2;rcases m1 yEl z1 with e|⟨g1,g2,g3,g4⟩
  ·rw[e];exact⟨z1,z2,z3,c0,z4,z5,z6⟩
  ·exact⟨g2,g3,by omega,c0,z4,z5,λhv=>by omega⟩
 obtain⟨hs2,hN2⟩:=m4.Zt (ls':=ls'.set j (.own yEl u0)) yTg (λcs hcs hheap=>by
  have hcs2:cs=pcs:=by
   rw[p3]at hheap;simp only[Option.getD_some]at hheap;rw[p5]at hheap;simp only[aA,Obj.cells.injEq]at hheap;have:=congrArg Array.toList hheap.1;simpa using this.symm
  subst hcs2;exact hcs.tell (by rfl) hown yZc (by rw[yEm];exact hpc))
 have hsz:w.heap.size<=w'.heap.size:=m2.size;refine⟨_,_,β2,⟨hr,λid hid hni=>?_⟩,m1,(Keep.refl _ w).qK m2 λb i hb hN=>hN1 b i hb hN,λb i hlt2 hb=>hN1 b i hlt2 (m3 b i hlt2 (hN2 b i (by omega) hb)),hs2,_,rfl,?_⟩
 ·rw[yZb]at hni;have hne:id≠zVp:=λe=>hni (by rw[e];exact .head _)
  have hnr:id∉reach vs h1:=λe=>hni (.tail _ e)
  rw[List.getElem?_set_ne (Ne.symm hne),Iu (by rw[<- hh1];simpa using hid) hnr,<- hh1,List.getElem?_set_ne (Ne.symm hne)]
 ·exact zHc (bD.mono (λv u hv=>V.Rel.mono (Moves.refl β2) (Keep.refl _ w') hN2 hv) m5)
def geK {ρ:Type} (f:FuncId) (off j:Nat) (si so:Sh) (F:si.X->Option so.X):GE ρ := { f:=f,run:=yEj off j si so F,ids:=yEk j }
theorem mV{ρ:Type}{off j:Nat}{F:si.X->Option so.X}(h:Ol P f off si so F):(geK (ρ:=ρ) f off j si so F).OK P:=⟨λ_ _ _ _ hr=>yQi h hr⟩
theorem Qy{sk sko:Sh}{off j:Nat}{F:si.X->Option so.X}{G:sk.X->Option sko.X}(put:Value->sk.X->si.X)(yEn:Value->sko.X->so.X)(yZd:∀ v x y,G x=some y->F (put v x)=some (yEn v y))(hin:∀ v x,∃ e ls,(sk.enc x).h[0]?=some (.box e ls)/\ls[j]?=some (.bad 1)/\sizes (ls.take j)=off/\si.enc (put v x)=⟨(sk.enc x).r,(sk.enc x).h.set 0 (.box e (ls.set j (.val .opq v)))⟩)(hout:∀ v y,∃ e ls,(so.enc (yEn v y)).h[0]?=some (.box e ls)/\ls[j]?=some (.val .opq v)/\sizes (ls.take j)=off/\sko.enc y=⟨(so.enc (yEn v y)).r,(so.enc (yEn v y)).h.set 0 (.box e (ls.set j (.bad 1)))⟩)(hos:sk.os.length<=si.os.length)(hM:iW P f si so F):Ol P f off sk sko G:=by
 refine⟨hM.1,λx y hG C β w xs b c hP hfl hs hfix hcell=>?_⟩;obtain⟨e,ls,h1,h2,h3,h4⟩:=hin c x;obtain⟨_,hfx⟩:=hs.heap.fixed 0 _ hfix;obtain⟨hb,kY⟩:=hfx b rfl;have hbx:=hs.heap.obj _ _ h1;simp only[Ob.Rel]at hbx;obtain⟨q1,q2,rb,rcs,q3,q4,q5⟩:=hbx;rw[hb]at q3;simp only[aA]at q3;subst q3;obtain⟨c',g1,g2⟩:=aN.cell (by rfl) h2 q4;rw[h3]at g1;have hcc:c'=c:=by
  have:=Cells.of_heap q5 off c' g1;rw[Nat.zero_add,hcell]at this;simpa using this.symm
 subst hcc;have hone:=L.Rel.one g2 c' (.head _);have yZe:(L.val .opq c').Rel β w (C.N β (sk.enc x).h) [c']:=by simp only[L.Rel,Ty.Rel];exact⟨trivial,hone⟩
 obtain⟨hs1,hN1⟩:=hs.heap.Zt (ls':=ls.set j (.val .opq c')) h1 (λcs hcs hheap=>by
  have:cs=rcs:=by
   rw[hb]at hheap;simp only[Option.getD_some]at hheap;rw[q5]at hheap;simp only[aA,Obj.cells.injEq]at hheap;have:=congrArg Array.toList hheap.1;simpa using this.symm
  subst this;exact hcs.tell (by rfl) yZe h2 (by rw[h3];exact g1))
 have Eb:Sim C β (si.enc (put c' x)) { tmps:=xs.toArray,defers:=[] } w:=by
  rw[h4];exact⟨hs1,hs.defers,hs.size,λi v hv=>(hs.reg i v hv).mono (Moves.refl β) (Keep.refl _ w) hN1⟩
 refine(hM.2 _ _ (yZd c' x y hG) C β w xs hP (Nat.le_trans hfl hos) Eb).mono ?_;rintro ex w' ⟨us,β',rfl,hs'⟩;obtain⟨e2,ls2,k1,k2,k3,k4⟩:=hout c' y;obtain⟨_,yZf⟩:=hs'.heap.fixed 0 _ hfix;obtain⟨hb',_⟩:=yZf b rfl;have zVq:=hs'.heap.obj _ _ k1;simp only[Ob.Rel]at zVq;obtain⟨p1,p2,pb,pcs,p3,p4,p5⟩:=zVq;rw[hb']at p3;simp only[aA]at p3;subst p3;obtain⟨c2,m1,m2⟩:=aN.cell (by rfl) k2 p4;rw[k3]at m1;have hc2:c2=c':=by
  simp only[L.Rel,Ty.Rel]at m2;simpa using m2.1
 subst hc2;obtain⟨hs2,hN2⟩:=hs'.heap.Zt (ls':=ls2.set j (.bad 1)) k1 (λcs hcs _=>by
  obtain⟨c3,n1,n2⟩:=aN.cell (by rfl) k2 hcs;exact hcs.tell (by rfl) (by simp only[L.Rel];exact⟨rfl,L.Rel.one n2⟩) k2 n1)
 refine⟨us,β',rfl,?_,?_⟩
 ·rw[k4];exact⟨hs2,hs'.defers,hs'.size,λi v hv=>(hs'.reg i v hv).mono (Moves.refl β') (Keep.refl _ w') hN2⟩
 ·have:=Cells.of_heap p5 off c2 m1
  rwa [Nat.zero_add]at this
def yOy(P:Program)(f:FuncId)(off:Nat):Prop :=
 iQ P f=true/\∀ (w:World) (rb b n cap:Nat),w.cell? ⟨rb,off,none⟩=some (.slice (some ⟨b,0,none⟩) n cap)->1<=n->n<=maxLen ->
  Calls P f #[.pointer (some ⟨rb,0,none⟩)] w λe w'=>e=.returned (.pointer (some ⟨b,(n-1)*4,none⟩))/\∃ d,w'={ w with drawn:=d }
def Qz(off j:Nat):PE where
 R:=Nat × Nat × Nat
 use:=1
 run vs h:=match vs with
  |[_]=>match Wj j vs h with
   |some (_,_,ls,sid,u)=>match h[sid]? with
    |some (.stk _ _ v rows top)=>some (Nat.beq v u&&(Nat.beq (sizes (ls.take j)) off&&Nat.ble 1 (rows.length+zX top)),some (sid,v,rows.length+zX top-1))
    |_=>none
   |none=>none
  |_=>none
 enc y _ h:=(.one (.iG y.1 y.2.1 y.2.2 0),h)
theorem Wm{off j:Nat}(hM:yOy P f off):(Qz off j).OK P f:=by
 refine⟨hM.1,λvs h y hr C β w xs hP hs ha=>?_,λ_ vs h h2 hd=>?_,λ_ y vs h=>rfl,λh=>(by cases h)⟩
 ·subst hP;simp only[Qz]at hr;split at hr
  case h_2=>cases hr
  rename_i v0;split at hr
  case h_2=>cases hr
  rename_i rid e ls sid u hh;split at hr
  case h_2=>cases hr
  rename_i es ei v rows top hst;simp only[aA,aF,aH]at hr;obtain⟨⟨hv,hoff,hn⟩,hy⟩:=hr;have hy:=Option.some.inj hy;subst hy;have hv:=aU hv;have hn:=cZ hn;have hoff:=aU hoff;subst hv;unfold Wj at hh;split at hh
  case h_2=>cases hh
  rename_i zVp vs' hvs;simp only[aQ]at hvs;obtain⟨rfl,rfl⟩:=hvs;split at hh
  case h_2=>cases hh
  rename_i e0 ls0 hb;split at hh
  case h_2=>cases hh
  rename_i yEl u0 hlj;simp only[aA,aF]at hh;obtain⟨rfl,rfl,rfl,rfl,rfl⟩:=hh;match xs,ha with
  |[x],ha =>
   have hx:=ha.1;simp only[V.Rel,L.Rel,aQ,and_true]at hx;obtain⟨_,_,rb',yZg,rfl⟩:=hx;have hbx:=hs.obj _ _ hb;simp only[Ob.Rel]at hbx;obtain⟨q1,q2,rb,rcs,q3,q4,q5⟩:=hbx;rw[yZg]at q3;simp only[aA]at q3;subst q3;obtain⟨c,hc1,hc2⟩:=aN.cell (by rfl) hlj q4;rw[hoff]at hc1;have hcell:w.cell? ⟨rb',off,none⟩=some c:=by
    have:=Cells.of_heap q5 off c hc1
    rwa [Nat.zero_add]at this
   have hob:=hs.obj _ _ hst;simp only[Ob.Rel]at hob;obtain⟨k1,k2,k3,k4,k5,b,cur,cs,cs2,bs,g1,g2,g3,g4,g5,_⟩:=hob;simp only[L.Rel]at hc2;obtain⟨_,_,_,c0,z4,_,z6⟩:=hc2;simp only[aQ,and_true]at z4;subst z4;have hsl:=z6 k3;unfold eD at hsl;rw[g1]at hsl;obtain⟨s1,o,rfl,s3⟩:=hsl;have ho:o=0:=by
    rcases s3 with h|h
    ·simpa using h
    ·omega
   subst ho;rw[k5]at hcell;refine(hM.2 w rb' b _ _ hcell hn (by omega)).mono ?_;rintro ex w' ⟨rfl,d,rfl⟩;have Eb:Sim C β ⟨[],h⟩ { tmps:=#[],defers:=[] } w:=⟨hs,rfl,rfl,λi v hv=>by simp at hv⟩;have yWo:=Eb.drawn d;refine⟨_,_,β,⟨rfl,rfl⟩,Moves.refl β,?_,λ_ _ _ h=>h,yWo.heap,_,rfl,?_⟩
   ·exact⟨bA _,λ_ _ _=>rfl,λ_ _ _ _ _ h=>h⟩
   ·simp only[V.Rel,L.Rel];exact⟨k1,k2,by omega,_,rfl,⟨_,_,rfl⟩,λ_=>⟨b,g1,by rw[k4,Nat.add_zero]⟩⟩
 ·refine⟨?_,λ_=>rfl⟩;have:∀ h,(Qz off j).run vs h=none:=λh=>by
   simp only[Qz];split
   ·rename_i v0;have hn:Wj j [v0] h=none:=by
     unfold Wj;split
     ·rename_i hv;simp only[aQ,and_true]at hv;obtain⟨rfl,_⟩:=hv;simp[cK,V.isD,L.isD]at hd
     ·rfl
    rw[hn]
   ·rfl
  rw[this h,this h2]
def yTh{ρ:Type}(si so:Sh)(F:si.X->Option so.X)(vs:List V)(h:List Ob)(k:Out->List Ob->Option ρ):Option ρ :=
 match (peM si so F).run vs h with
 |some (c,o)=>chk c (ob o λy=>k (.ret ((peM si so F).enc y vs h).1) ((peM si so F).enc y vs h).2)
 |none=>none
def geM {ρ:Type} (f:FuncId) (si so:Sh) (F:si.X->Option so.X):GE ρ := { f:=f,run:=yTh si so F }
theorem Jz{ρ:Type}{F:si.X->Option so.X}(h:iW P f si so F):(geM (ρ:=ρ) f si so F).OK P:=⟨λvs hp k r hr=>by
 simp only[geM,yTh]at hr;split at hr
 ·rename_i c o hrun;obtain⟨rfl,hr⟩:=iV hr;obtain⟨y,rfl,hr⟩:=zDk hr;refine⟨h.1,((gP h).rel vs hp y hrun).mono ?_⟩;rintro o' h' ⟨rfl,rfl⟩;exact⟨hr,λid hid hn=>Iu hid hn⟩
 ·cases hr⟩
end
end Go.Dec
namespace Go.Dec
open Go.RowKit
section
variable {P:Program}{f:FuncId}{fn:Func}{t tb e:TypeId}{p0 p1 p2 p3 p4 p5 p6 p7:String}
end
end Go.Dec
namespace Go.Dec
section
variable {C:Ctx}{β:Nat->Pl}{w w1:World}{h:List Ob}{σ:St}{a:Act}
def Wn(C:Ctx)(β:Nat->Pl)(h:List Ob)(w w1:World)(N:Nat)(hs:fA C β h w)(hk:Keep (λ_ _=>False) w w1):Ctx where
 P:=C.P
 N0 b j:=C.N0 b j\/b=N
 w0:=w1
 Kr b j:=∃ (i:Nat) (o:Ob),h[i]?=some o/\o.wr=true/\o.at (β i) b j
 glob w' hw:=C.glob w' ((hs.frame.qK hk λ_ _ _ h=>h.elim).qK hw λb j hb hm=>by
  obtain⟨i,o,ho,hwo,hbk⟩:=hm;rcases(hs.fB i o b ho ⟨j,hbk⟩).2.2 with h1|h1
  ·omega
  ·exact h1 j hwo hbk)
 fix:=C.fix
theorem Sim.inN{N:Nat}(hs:Sim C β σ a w)(hk:Keep (λ_ _=>False) w w1)(hN:w.heap.size<=N)(hN1:N<w1.heap.size):Sim (Wn C β σ.h w w1 N hs.heap hk) β σ a w1:=by
 have hsub:∀ b j,b<w.heap.size->(Wn C β σ.h w w1 N hs.heap hk).N β σ.h b j->C.N β σ.h b j:=λb j hb h=>by
  rcases h with h|h
  ·rcases h with h|h
   ·exact .inl h
   ·omega
  ·exact .inr h
 have hkw:Keep (C.N β σ.h) w w1:=hk.weaken λ_ _ h=>h.elim
 refine⟨⟨λid o ho=>(hs.heap.obj id o ho).mono (Moves.refl β) hkw hsub λb hb=>hk.block b (hs.heap.fB id o b ho hb).2.1 (λ_ h=>h),hs.heap.dead,hs.heap.kC,λid o b ho hb=>?_,λb j hb=>?_,Keep.refl _ _,bA _,rfl,rfl,rfl,hs.heap.fixed⟩,hs.defers,hs.size,λi u hu=>(hs.reg i u hu).mono (Moves.refl β) hkw hsub⟩
 ·obtain⟨k1,k2,k3⟩:=hs.heap.fB id o b ho hb;refine⟨λj h=>?_,Nat.lt_of_lt_of_le k2 hk.size,.inr λj g1 g2=>⟨id,o,ho,g1,g2⟩⟩;rcases h with h|h
  ·exact k1 j h
  ·omega
 ·rcases hb with hb|rfl
  ·exact Nat.lt_of_lt_of_le (Nat.lt_of_lt_of_le (hs.heap.n0 b j hb) hs.heap.size) hk.size
  ·exact hN1
theorem Sim.yTi{N:Nat}{hs:fA C β h w}{hk:Keep (λ_ _=>False) w w1}{β':Nat->Pl}{σ':St}{a':Act}{w2 w3:World}(hN:w.heap.size<=N)(hN1:N<w1.heap.size)(h2:Sim (Wn C β h w w1 N hs hk) β' σ' a' w2)(h3:Keep (λb _=>b=N) w2 w3)(ho:w3.os=C.w0.os)(ht:w3.tape=C.w0.tape)(hout:w3.output=C.w0.output):Sim C β' σ' a' w3:=by
 have hsub:∀ b j,b<w2.heap.size->C.N β' σ'.h b j->(Wn C β h w w1 N hs hk).N β' σ'.h b j:=λb j _ h=>by
  rcases h with h|h
  ·exact .inl (.inl h)
  ·exact .inr h
 have hNn:∀ j,(Wn C β h w w1 N hs hk).N β' σ'.h N j:=λj=>.inl (.inr rfl)
 have hkw:Keep ((Wn C β h w w1 N hs hk).N β' σ'.h) w2 w3:=h3.weaken λb j hb=>by subst hb;exact hNn j
 have hbk:∀ (id:Nat) (o:Ob) (b:Nat),σ'.h[id]?=some o->o.blks (β' id) b->b≠N:=λid o b ho hb e=>(h2.heap.fB id o b ho hb).1 0 (.inr e)
 refine⟨⟨λid o ho=>(h2.heap.obj id o ho).mono (Moves.refl β') hkw hsub λb hb=>h3.block b (h2.heap.fB id o b ho hb).2.1 (λ_=>hbk id o b ho hb),h2.heap.dead,h2.heap.kC,λid o b ho hb=>?_,hs.n0,?_,?_,ho,ht,hout,h2.heap.fixed⟩,h2.defers,h2.size,λi u hu=>(h2.reg i u hu).mono (Moves.refl β') hkw hsub⟩
 ·obtain⟨k1,k2,k3⟩:=h2.heap.fB id o b ho hb;refine⟨λj h=>k1 j (.inl h),Nat.lt_of_lt_of_le k2 h3.size,?_⟩;by_cases hlt:C.w0.heap.size<=b
  ·exact .inl hlt
  ·right;rcases k3 with k3|k3
   ·have k3:w1.heap.size<=b:=k3;have:=hs.size;have:=hk.size;omega
   ·intro j g1 g2;obtain⟨i,o',ho',hw',hb'⟩:=k3 j g1 g2;rcases(hs.fB i o' b ho' ⟨j,hb'⟩).2.2 with h1|h1
    ·exact absurd h1 hlt
    ·exact h1 j hw' hb'
 ·refine((hs.frame.qK hk λ_ _ _ h=>h.elim).qK h2.heap.frame λb j hb hm=>?_).qK h3 λb j hb hm=>?_
  ·obtain⟨i,o',ho',hw',hb'⟩:=hm;rcases(hs.fB i o' b ho' ⟨j,hb'⟩).2.2 with h1|h1
   ·omega
   ·exact h1 j hw' hb'
  ·have:=hs.size;omega
 ·exact Nat.le_trans (Nat.le_trans (Nat.le_trans hs.size hk.size) h2.heap.size) h3.size
end
end Go.Dec
