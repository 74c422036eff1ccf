import Derived.Test.YtfbilefiaminnaaGreatDoorPtrtAL
import Derived.Test.YtfbilefiaminnaaGreatDoorPtrtAH
open Go.Proofs.Tryz renaming prog->qEr
open Option.some renaming inj->qBc
open Array renaming getElem?_eq_some_iff->qCk
open List renaming length_eq_one_iff->qEw,nil_append->qDc,cons_append->qCt,append_nil->vE
open Nat renaming le_trans->zG,lt_of_lt_of_le->wD
namespace Go.Dec
open Go.Proofs Go.RowKit
abbrev yYr:List OS:=[.box 195 [.fD 0 0,.own 1],.row 5 (.int .u8)]
abbrev Qn:Sh:=⟨1,[⟨0,false,[.ptr 0 0]⟩],yYr⟩
abbrev Qo:Sh:=⟨0,[],yYr⟩
theorem yKd{w:World}{b:Nat}{c v u:Value}{e:TypeId}(h:w.heap[b]?=some (.cells #[c,u] e (0,0))):w.setCell ⟨b,0,none⟩ v=w.setRow b #[v,u]:=by
 have e1:(w.setCell ⟨b,0,none⟩ v).heap=(w.setRow b #[v,u]).heap:=by
  apply Array.ext_getElem?;intro j;by_cases hj:j=b
  ·subst hj;rw[setRow_heap w j _ _ e _ h];obtain⟨hlt,hk⟩:=qCk.1 h;show(w.heap.modify j _)[j]?=_;rw[Array.getElem?_eq_getElem (by rw[Array.size_modify];exact hlt),Array.getElem_modify_self,hk];rfl
  ·rw[setRow_other w b j _ (λe=>hj e),Below.heap_setCell _ _ _ j (λe=>hj e)]
 have e2:w.setCell ⟨b,0,none⟩ v={ w with heap:=(w.setCell ⟨b,0,none⟩ v).heap }:=rfl;rw[e2,e1];rfl
theorem zJp(n:Nat):dV qEr 144 Qn Qo (Kl n):=by
 refine⟨by kernel_rfl,λx y hF C β w xs hP hkf hs=>?_⟩;obtain rfl:=qBc hF;obtain⟨rows,x0⟩:=x;have hE:Qn.enc (rows,x0)=⟨[.one (.ptr 0 0)],[.box 195 [.fD 0 0,.own 1 0],.arr 5 (.int .u8) 0 rows true]⟩:=rfl;have hE2:Qo.enc (rows,x0)=⟨[],[.box 195 [.fD 0 0,.own 1 0],.arr 5 (.int .u8) 0 rows true]⟩:=rfl;rw[hE]at hs;rw[hE2];have h0:=hs.heap.obj 0 _ rfl;have hr:=hs.reg 0 _ rfl;have hsz:=hs.size;obtain⟨u,rfl⟩:∃ u,xs=[u]:=qEw.1 (by simpa using hsz.symm);simp only[Ob.Rel,aJ,V.Rel,L.Rel]at h0 hr;obtain⟨hl,hb,b,cs,hblk,⟨c1,c2,rfl,⟨c,rfl,hc⟩,c3,c4,rfl,⟨g1,g2,g3,v,rfl,g5,g6⟩,rfl⟩,hheap⟩:=h0;obtain⟨_,_,b',hb',hu⟩:=hr;have hbb:b'=b:=by rw[hblk]at hb';cases hb';rfl
 subst hbb;have hu:u=.pointer (some ⟨b',0,none⟩):=by simpa using hu
 subst hu;simp only[qDc,qCt,vE]at hheap;have done:∀ {w':World},fC C β [.box 195 [.fD 0 0,.own 1 0],.arr 5 (.int .u8) 0 rows true] w'->Sim C β ⟨[],[.box 195 [.fD 0 0,.own 1 0],.arr 5 (.int .u8) 0 rows true]⟩ { tmps:=(([]:List Value)).toArray,defers:=[] } w' :=
  λh=>⟨h,rfl,rfl,λi v h=>by simp at h⟩
 rcases hc with rfl|⟨_,_,b2,hb2,rfl⟩
 ·refine(Tryz.check_fresh b' w (by simp[World.cell?,hheap]) (by simp[World.shape?,hheap]) (by simp[World.frozen?,hheap])).mono ?_;rintro e w' ⟨rfl,rfl⟩;rw[yKd hheap];refine⟨[],β,rfl,done ?_⟩;have:=Sim.Ye (id:=0) (e:=195) (ls:=[.fD 0 0,.own 1 0]) (ls':=[.fD 0 0,.own 1 0]) (b:=b') (cs:=[.pointer none,v]) (cs':=[.pointer (some ⟨b',0,none⟩),v]) hs rfl hblk hheap ?_
  ·exact this.heap
  ·exact⟨[_],[_],rfl,⟨_,rfl,.inr ⟨hl,hb,b',hblk,rfl⟩⟩,[_],[],rfl,⟨g1,g2,g3,v,rfl,g5,g6⟩,rfl⟩
 ·have hbb:b2=b':=by rw[hblk]at hb2;cases hb2;rfl
  subst hbb;refine(Tryz.check_used b2 w (by simp[World.cell?,hheap])).mono ?_;rintro e w' ⟨rfl,rfl⟩;exact⟨[],β,rfl,done hs.heap⟩
end Go.Dec
namespace Go.Dec
open Go.Proofs Go.RowKit
theorem grownBy_drew(w:World)(r:Option Nat):w.grownBy w.drew r:=⟨rfl,rfl,rfl,aS _,λ_ _ _=>rfl⟩
theorem zVr{a b c:World}{r:Option Nat}(h:a.grownBy b r)(h':b.grownBy c r):a.grownBy c r :=
 ⟨h'.os.trans h.os,h'.tape.trans h.tape,h'.output.trans h.output,zG h.size h'.size,λk hk hne=>(h'.block k (wD hk h.size) hne).trans (h.block k hk hne)⟩
theorem zYv(w:World)(g n:Nat):w.grownBy (w.freeze ⟨g,0,none⟩ n) (some g):=by
 unfold World.freeze;split
 ·exact⟨rfl,rfl,rfl,aS _,λ_ _ _=>rfl⟩
 ·refine⟨rfl,rfl,rfl,by simp,λk hk hne=>?_⟩;simp only[Array.getElem?_modify];rw[if_neg (λe=>hne (by rw[e]))]
set_option maxHeartbeats 1000000 in
set_option maxRecDepth 100000 in
theorem yYs(b g cap:Nat)(p:Value)(cur:Array Value)(l:List UInt8)(w:World)(h0:l≠[])(hbk:w.heap[b]?=some (.cells #[p,.slice (some ⟨g,0,none⟩) l.length cap] 195 (0,0)))(hg:w.heap[g]?=some (.cells cur 5 (0,0)))(hnc:l.length<=cap)(hcm:cap<=maxLen)(hcs:cur.size=cap)(htake:cur.toList.take l.length=Lib.byteCells l):Calls qEr 126 #[.pointer (some ⟨b,0,none⟩)] w λe w'=>e=.returned (.string ⟨l.toArray⟩)/\w.grownBy w' (some g):=by
 have hl0:l.length≠0:=by simpa using h0
 have c1:w.drew.cell? ⟨b,1,none⟩=some (.slice (some ⟨g,0,none⟩) l.length cap):=by
  have:w.drew.heap[b]?=some (.cells #[p,.slice (some ⟨g,0,none⟩) l.length cap] 195 (0,0)):=hbk;rw[Lib.cell_of_heap this];rfl
 have hSD:(Builtin.unsafeSliceData_ #[149] 226 #[.slice (some ⟨g,0,none⟩) l.length cap]).run qEr w.drew=.ok (.pointer (some ⟨g,0,none⟩)) w.drew :=
  Lib.run_unsafeSliceData_row _ _ _ _ _ _ (by omega)
 have hUS:(Builtin.unsafeString_ #[226,3] 9 #[.pointer (some ⟨g,0,none⟩),.int .i64 l.length]).run qEr w.drew=.ok (.string ⟨l.toArray⟩) (w.drew.freeze ⟨g,0,none⟩ l.length):=by
  refine Lib.run_unsafeString_row w.drew 226 3 9 5 Tryz.underlying226 (by kernel_rfl) g cur.size (by have hg':w.drew.heap[g]?=some (.cells cur 5 (0,0)):=hg;simp[World.shape?,hg']) l h0 (by omega) (by unfold maxLen at hcm;omega) ?_;intro j x hx;have hj:j<l.length:=(bK.1 hx).1;have h1:cur[j]?=some (.int .u8 x.toNat):=by
   have h2:(cur.toList.take l.length)[j]?=some (.int .u8 x.toNat):=by rw[htake];simp[Lib.byteCells,hx]
   rw[List.getElem?_take,if_pos hj]at h2;simpa using h2
  have hg':w.drew.heap[g]?=some (.cells cur 5 (0,0)):=hg;rw[addr_add,Lib.cell_of_heap hg'];simpa using h1
 have mixed:qEr.follows .mixedOrders=true:=by kernel_rfl
 go_enter Tryz.func126,Tryz.ntmps126
 go_wp2
 go_region_o
 all_goals (go_wp2;go_ret;exact⟨rfl,zVr (grownBy_drew w _) (zYv _ _ _)⟩)
theorem zSh(W:World)(q:Option Addr):(Builtin.unsafeString_ #[226,3] 9 #[.pointer q,.int .i64 0]).run qEr W=.ok (.string .empty) W:=Lib.run_unsafeString_none W _ _ _ q
set_option maxHeartbeats 2000000 in
set_option maxRecDepth 100000 in
theorem xDf(b:Nat)(r:Option Nat)(p:Value)(w:World)(hbk:w.heap[b]?=some (.cells #[p,.slice none 0 0] 195 (0,0))):Calls qEr 126 #[.pointer (some ⟨b,0,none⟩)] w λe w'=>e=.returned (.string ⟨#[]⟩)/\w.grownBy w' r:=by
 have hUS:=zSh;have c1:w.drew.cell? ⟨b,1,none⟩=some (.slice none 0 0):=by
  have:w.drew.heap[b]?=some (.cells #[p,.slice none 0 0] 195 (0,0)):=hbk;rw[Lib.cell_of_heap this];rfl
 have hSD:(Builtin.unsafeSliceData_ #[149] 226 #[.slice none 0 0]).run qEr w.drew=.ok (.pointer none) w.drew:=rfl;have mixed:qEr.follows .mixedOrders=true:=by kernel_rfl
 go_enter Tryz.func126,Tryz.ntmps126
 go_wp2
 go_region_o
 all_goals (go_wp2;go_ret;exact⟨rfl,grownBy_drew w _⟩)
set_option maxHeartbeats 2000000 in
set_option maxRecDepth 100000 in
theorem yQi(b g:Nat)(r:Option Nat)(p:Value)(cur:Array Value)(w:World)(hbk:w.heap[b]?=some (.cells #[p,.slice (some ⟨g,0,none⟩) 0 0] 195 (0,0)))(hg:w.heap[g]?=some (.cells cur 5 (0,0))):Calls qEr 126 #[.pointer (some ⟨b,0,none⟩)] w λe w'=>e=.returned (.string ⟨#[]⟩)/\w.grownBy w' r:=by
 have hUS:=zSh;have hlt:b<w.heap.size:=by
  rcases jF b w.heap.size with h'|h'
  ·exact h'
  ·simp[Array.getElem?_eq_none h']at hbk
 have c1:w.drew.cell? ⟨b,1,none⟩=some (.slice (some ⟨g,0,none⟩) 0 0):=by
  have:w.drew.heap[b]?=some (.cells #[p,.slice (some ⟨g,0,none⟩) 0 0] 195 (0,0)):=hbk;rw[Lib.cell_of_heap this];rfl
 have hSD:(Builtin.unsafeSliceData_ #[149] 226 #[.slice (some ⟨g,0,none⟩) 0 0]).run qEr w.drew=.ok (.pointer (some ⟨w.drew.heap.size,0,none⟩)) (w.drew.alloc (.view ⟨g,0,none⟩ 5)):=
  Lib.run_unsafeSliceData_zero w.drew _ _ 5 Tryz.underlying226 ⟨g,0,none⟩ 0 (5,cur.size) (by have hg':w.drew.heap[g]?=some (.cells cur 5 (0,0)):=hg;simp[World.shape?,hg'])
 have c2:(w.drew.alloc (.view ⟨g,0,none⟩ 5)).cell? ⟨b,1,none⟩=some (.slice (some ⟨g,0,none⟩) 0 0):=by
  have:(w.drew.alloc (.view ⟨g,0,none⟩ 5)).heap[b]?=_:=(Lib.alloc_old w.drew _ b hlt).trans hbk;rw[Lib.cell_of_heap this];rfl
 have c3:(w.alloc (.view ⟨g,0,none⟩ 5)).drew.cell? ⟨b,1,none⟩=some (.slice (some ⟨g,0,none⟩) 0 0):=c2;have c0:w.cell? ⟨b,1,none⟩=some (.slice (some ⟨g,0,none⟩) 0 0):=c1;have mixed:qEr.follows .mixedOrders=true:=by kernel_rfl
 go_enter Tryz.func126,Tryz.ntmps126
 go_wp2
 go_region_o
 all_goals (go_wp2;go_ret;exact⟨rfl,zVr (grownBy_drew w _) (World.grownBy_alloc _ _ _)⟩)
set_option maxHeartbeats 2000000 in
set_option maxRecDepth 100000 in
theorem yYt(b g cap:Nat)(r:Option Nat)(p:Value)(w:World)(hc0:cap≠0)(hbk:w.heap[b]?=some (.cells #[p,.slice (some ⟨g,0,none⟩) 0 cap] 195 (0,0))):Calls qEr 126 #[.pointer (some ⟨b,0,none⟩)] w λe w'=>e=.returned (.string ⟨#[]⟩)/\w.grownBy w' r:=by
 have hUS:=zSh;have c1:w.drew.cell? ⟨b,1,none⟩=some (.slice (some ⟨g,0,none⟩) 0 cap):=by
  have:w.drew.heap[b]?=some (.cells #[p,.slice (some ⟨g,0,none⟩) 0 cap] 195 (0,0)):=hbk;rw[Lib.cell_of_heap this];rfl
 have hSD:(Builtin.unsafeSliceData_ #[149] 226 #[.slice (some ⟨g,0,none⟩) 0 cap]).run qEr w.drew=.ok (.pointer (some ⟨g,0,none⟩)) w.drew :=
  Lib.run_unsafeSliceData_row _ _ _ _ _ _ hc0
 clear hc0;have mixed:qEr.follows .mixedOrders=true:=by kernel_rfl
 go_enter Tryz.func126,Tryz.ntmps126
 go_wp2
 go_region_o
 all_goals (go_wp2;go_ret;exact⟨rfl,grownBy_drew w _⟩)
abbrev yB:Sh:=⟨1,[⟨0,false,[.v .str]⟩],[.box 195 [.fD 0 0,.any 1],.row 5 (.int .u8)]⟩
theorem yGr(l:List Int)(h:(l.all λn=>decide (0<=n)&&decide (n<256))=true):Lib.byteCells (bV l)=l.map (Value.int .u8):=by
 induction l with
 |nil=>rfl
 |cons n l ih =>
  simp only[List.all_cons,aD,decide_eq_true_eq]at h;obtain⟨⟨h1,h2⟩,h3⟩:=h;have:=ih h3;simp only[Lib.byteCells,bV,List.map_cons,List.map_map]at this ⊢;rw[aL];refine⟨?_,this⟩;have e:(UInt8.ofNat n.toNat).toNat=n.toNat:=by
   rw[UInt8.toNat_ofNat_of_lt'];have:n.toNat<256:=by omega
   exact this
  rw[e];congr 1;omega
theorem Oh(n:Nat):dV qEr 126 Qn yB (Builder_String n):=by
 refine⟨by kernel_rfl,λx y hF C β w xs hP hkf hs=>?_⟩;obtain⟨hrange,hy⟩:=iP hF;obtain rfl:=qBc hy;obtain⟨rows,x0⟩:=x;have hE:Qn.enc (rows,x0)=⟨[.one (.ptr 0 0)],[.box 195 [.fD 0 0,.own 1 0],.arr 5 (.int .u8) 0 rows true]⟩:=rfl;have hE2:yB.enc (bV rows,[],())=⟨[.one (.val .str (bV rows))],[.box 195 [.fD 0 0,.bad 1],.arr 5 (.int .u8) 0 [] true]⟩:=rfl;rw[hE]at hs;show Calls qEr 126 xs.toArray w λe w'=>∃ us β',e=Ending.returned (sP us)/\Sim C β' (yB.enc (bV rows,[],())) { tmps:=us.toArray,defers:=[] } w'
 rw[hE2];have h0:=hs.heap.obj 0 _ rfl;have h1:=hs.heap.obj 1 _ rfl;have hr:=hs.reg 0 _ rfl;have hsz:=hs.size;obtain⟨u,rfl⟩:∃ u,xs=[u]:=qEw.1 (by simpa using hsz.symm);have hcells:=yGr rows hrange;simp only[Ob.Rel,aJ,V.Rel,L.Rel]at h0 h1 hr;obtain⟨hl,hb,b,cs,hblk,⟨c1,c2,rfl,⟨c,rfl,hc⟩,c3,c4,rfl,⟨g1,g2,g3,v,rfl,g5,g6⟩,rfl⟩,hheap⟩:=h0;obtain⟨_,_,b',hb',hu⟩:=hr;have hbb:b'=b:=by rw[hblk]at hb';cases hb';rfl
 subst hbb;have hu:u=.pointer (some ⟨b',0,none⟩):=by simpa using hu
 subst hu;simp only[qDc,qCt,vE]at hheap;obtain⟨k1,k2,k3,k4,k5,k6,k7⟩:=h1;have hso:=g6 k3;have done:∀ {w':World}{r:Option Nat},w.grownBy w' r->(∀ k,r=some k->(β 1).blk=some k) ->
  Sim C (upd β 1 ⟨true,false,0,none,1,0,0,[]⟩) ⟨[.one (.val .str (bV rows))],[.box 195 [.fD 0 0,.bad 1],.arr 5 (.int .u8) 0 [] true]⟩ { tmps:=([Value.string ⟨(bV rows).toArray⟩]:List Value).toArray,defers:=[] } w':=by
  intro w' r hg hrk;have hne:∀ k,r=some k->k≠b':=λk hk e=>by
   subst e;have:=hs.heap.apart 0 1 _ _ k rfl rfl hblk (hrk k hk);omega
  have hlt:b'<w.heap.size:=(qCk.1 hheap).1;have hb2:w'.heap[b']?=some (.cells #[c,v] 195 (0,0)):=(hg.block b' hlt (λe=>hne b' e.symm rfl)).trans hheap;have e0:upd β 1 ⟨true,false,0,none,1,0,0,[]⟩ 0=β 0:=aY _ _ (by omega);have e1:upd β 1 ⟨true,false,0,none,1,0,0,[]⟩ 1=⟨true,false,0,none,1,0,0,[]⟩:=upd_same _ _ _;refine⟨{ obj:=?_,dead:=?_,kX:=?_,eZ:=?_,n0:=hs.heap.n0,frame:=?_,size:=zG hs.heap.size hg.size,os:=hg.os.trans hs.heap.os,tape:=hg.tape.trans hs.heap.tape,output:=hg.output.trans hs.heap.output,fixed:=?_ },rfl,rfl,?_⟩
  ·intro id o ho;match id,ho with
   |0,ho =>
    obtain rfl:=qBc ho;simp only[Ob.Rel,aJ,L.Rel,e0];exact⟨hl,hb,b',[c,v],hblk,⟨[c],[v],rfl,⟨c,rfl,hc⟩,[v],[],rfl,⟨rfl,λq hq=>by simp at hq;subst hq;exact g5⟩,rfl⟩,hb2⟩
   |1,ho =>
    obtain rfl:=qBc ho;simp only[Ob.Rel,e1];simp[Ty.size]
   |id+2,ho=>simp at ho
  ·intro id hid;have hid:2<=id:=hid;rw[aY _ _ (by omega)];exact hs.heap.dead id hid
  ·intro i j o o' bk hi hj h1 h2;match i,j,hi,hj with
   |0,0,_,_=>rfl
   |1,_,hi,_ =>
    obtain rfl:=qBc hi;have:=Ob.uU rfl h1;rw[e1]at this;cases this
   |_,1,_,hj =>
    obtain rfl:=qBc hj;have:=Ob.uU rfl h2;rw[e1]at this;cases this
   |i+2,_,hi,_=>simp at hi
   |_,j+2,_,hj=>simp at hj
  ·intro id o bk hi h1;match id,hi with
   |0,hi =>
    obtain rfl:=qBc hi;rw[e0]at h1;obtain⟨q1,q2,q3⟩:=hs.heap.Lj (id:=0) (o:=.box 195 [.fD 0 0,.own 1 0]) (p:=β 0) rfl rfl rfl rfl (λh=>h) h1;rw[e0];exact⟨q1,wD q2 hg.size,q3⟩
   |1,hi =>
    obtain rfl:=qBc hi;have:=Ob.uU rfl h1;rw[e1]at this;cases this
   |id+2,hi=>simp at hi
  ·refine hs.heap.frame.uJ (M:=λk _=>some k=r) (Keep.mZ (M:=λk=>some k=r) hg.size (λb hb hn=>hg.block b hb hn) (λ_ _ h=>h)) λk j hk hr=>?_
   have hk1:=hrk k hr.symm;obtain⟨_,_,q3⟩:=hs.heap.fresh 1 _ k rfl hk1;rcases q3 with q3|q3
   ·omega
   ·exact q3 j rfl
  ·intro j o hj;obtain⟨q1,q2⟩:=hs.heap.fixed j o hj;refine⟨q1,λbk hbk=>?_⟩;obtain⟨q3,q4⟩:=q2 bk hbk;match j with
   |0=>rw[e0];exact⟨q3,q4⟩
   |1=>rw[k2]at q4;cases q4
   |j+2=>simp at q1;omega
  ·intro i q hq;match i,hq with
   |0,hq =>
    obtain rfl:=qBc hq;simp[V.Rel,L.Rel,Ty.Rel]
   |i+1,hq=>simp at hq
 have hlb:(bV rows).length=rows.length:=by simp[bV]
 rcases k7 with ⟨hn,rfl,hcap⟩|⟨g,cur,css,hgb,hgh,hall,htake,hcap,hrc,hcm⟩
 ·unfold eP at hso;rw[hn]at hso;obtain⟨rfl,_,_⟩:=hso;refine(xDf b' none c w hheap).mono ?_;rintro e w' ⟨rfl,hg⟩;exact⟨[_],_,rfl,done hg (λk hk=>by cases hk)⟩
 ·unfold eP at hso;rw[hgb]at hso;obtain⟨m1,o,rfl,m3⟩:=hso;have ho0:o=0:=by
   rcases m3 with m3|m3
   ·simpa using m3
   ·omega
  subst ho0;rw[Nat.sub_zero,k6]at hheap;have xJn:css.flatten=rows.map (Value.int .u8):=zXw hall;have hcs:cur.size=(β 1).cap:=by simpa [Ty.size]using hcap
  have htk:cur.toList.take rows.length=Lib.byteCells (bV rows):=by rw[hcells,<- xJn];simpa [Ty.size]using htake
  by_cases he:rows=[]
  ·subst he;by_cases hc0:(β 1).cap=0
   ·rw[hc0]at hheap;refine(yQi b' g none c cur w hheap hgh).mono ?_;rintro e w' ⟨rfl,hg⟩;exact⟨[_],_,rfl,done hg (λk hk=>by cases hk)⟩
   ·refine(yYt b' g (β 1).cap none c w hc0 hheap).mono ?_;rintro e w' ⟨rfl,hg⟩;exact⟨[_],_,rfl,done hg (λk hk=>by cases hk)⟩
  ·rw[<- hlb]at hheap htk;refine(yYs b' g (β 1).cap c cur (bV rows) w (by intro h;have:=congrArg List.length h;rw[hlb]at this;exact he (List.eq_nil_of_length_eq_zero this)) hheap hgh (by omega) hcm hcs htk).mono ?_;rintro e w' ⟨rfl,hg⟩;exact⟨[_],_,rfl,done hg (λk hk=>by cases hk;exact hgb)⟩
end Go.Dec
