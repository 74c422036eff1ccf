/- Part of a proof over this seat: a library of my own, and what it says of this seat. No statement is proved here. -/
import Derived.Test.YtfbilefiaminnaaGreatDoorProg
import Derived.Test.YtfbilefiaminnaaGreatDoorPartAK
import Derived.WalkKit
import Derived.WalkSmall
import Derived.Defers
import Derived.Recover
import Derived.Laws.Pointers
import Derived.RangeFuncRecord
import Derived.KernelRfl
namespace Go.Dec
open Go.Proofs Go.RowKit
theorem Md{w:World}{b i:Nat}{cs:Array Value}{t:TypeId}{f:Nat × Nat}{v:Value}(h:w.heap[b]?=some (.cells cs t f)):(w.setCell ⟨b,i,none⟩ v).heap[b]?=some (.cells (cs.setIfInBounds i v) t f):=by
 unfold World.setCell;rw[Array.getElem?_modify,if_pos rfl,h];rfl
theorem Iz{w:World}{b i k:Nat}{v:Value}(h:k≠b):(w.setCell ⟨b,i,none⟩ v).heap[k]?=w.heap[k]?:=by
 unfold World.setCell;rw[Array.getElem?_modify,if_neg (λe=>h e.symm)]
theorem zQd(v:Value)(w:World):Calls Tryz.prog 208 #[v] w λe w'=>e=.panicked [{ v:=.iface 215 (.agg #[.int .i64 42,.int .i64 0]),recovered:=false }]/\w'=w:=by
 go_enter Tryz.func208,Tryz.ntmps208
 go_wp2
 exact⟨rfl,rfl,rfl⟩
theorem zKw(v:Value)(e0 at0:Int)(w:World):Calls Tryz.prog 139 #[v,.int .i64 e0,.int .i64 at0] w λe w'=>e=.panicked [{ v:=.iface 215 (.agg #[.int .i64 e0,.int .i64 at0]),recovered:=false }]/\w'=w:=by
 go_enter Tryz.func139,Tryz.ntmps139
 go_wp2
 exact⟨rfl,rfl,rfl⟩
theorem catch_idle(p:Addr)(w:World):CallsD Tryz.prog 154 #[.pointer (some p)] .returning w λe u' w'=>e=.returned (.tuple #[])/\u'=.returning/\w'=w:=by
 refine callsD_of_wpS Tryz.func154 rfl λc₀ cs hu=>?_
 apply wpS_seq;apply wpS_region;simp[wpOpsS,go_sem,recoverD,hu,Tryz.ntmps154,Exit.thenS];have e:∀ (x y:Value),(#[x]++(Array.replicate 10 undef).setIfInBounds 3 y:Array Value)=#[x,undef,undef,undef,y,undef,undef,undef,undef,undef,undef]:=λ_ _=>rfl
 rw[e];refine wpS_of_wp ?_
 go_wp2
 cases c₀;simp_all[bodyPostS,results,Tryz.results82]
set_option maxRecDepth 100000 in
theorem catch_panicking(p:Addr)(a b:Int)(older:List PanicEntry)(w:World)(hc:w.heap[p.block]?=some (.cells #[.int .i64 0,.int .i64 0] 215 (0,0)))(hp:p=⟨p.block,0,none⟩):CallsD Tryz.prog 154 #[.pointer (some p)] (.panicking ({ v:=.iface 215 (.agg #[.int .i64 a,.int .i64 b]),recovered:=false }::older)) w λe u' w' =>
  e=.returned (.tuple #[])/\u'=.panicking ({ v:=.iface 215 (.agg #[.int .i64 a,.int .i64 b]),recovered:=true }::older)/\w'.heap[p.block]?=some (.cells #[.int .i64 a,.int .i64 b] 215 (0,0))/\Keep (λb _=>b=p.block) w w'/\w'.os=w.os/\w'.tape=w.tape/\w'.output=w.output:=by
 refine callsD_of_wpS Tryz.func154 rfl λc₀ cs hu=>?_
 apply wpS_seq;apply wpS_region;simp[wpOpsS,go_sem,recoverD,hu,Tryz.ntmps154,Exit.thenS];have e:∀ (x y:Value),(#[x]++(Array.replicate 10 undef).setIfInBounds 3 y:Array Value)=#[x,undef,undef,undef,y,undef,undef,undef,undef,undef,undef]:=λ_ _=>rfl
 rw[e];refine wpS_of_wp ?_;obtain⟨pb,po,pw⟩:=p;simp only[Addr.mk.injEq,true_and]at hp;obtain⟨rfl,rfl⟩:=hp;simp only at hc;have hta:∀ (v:Value) (w:World),(Instr.typeAssert (.iface 215 v) 20 215 true).run Tryz.prog w=.ok (.tuple #[v,.bool true]) w:=λ_ _=>by kernel_rfl
 have hlt:pb<w.heap.size:=(Array.getElem?_eq_some_iff.1 hc).1;have hc0:w.cell? ⟨pb,0,none⟩=some (.int .i64 0):=by simp[World.cell?,hc]
 have hc1:w.cell? ⟨pb,1,none⟩=some (.int .i64 0):=by simp[World.cell?,hc]
 have hz0:w.frozen? ⟨pb,0,none⟩=false:=by simp[World.frozen?,hc]
 have hz1:w.frozen? ⟨pb,1,none⟩=false:=by simp[World.frozen?,hc]
 go_wp2
 have hs1:=Md (i:=0) (v:=.int .i64 a) hc;have hs2:=Md (i:=1) (v:=.int .i64 b) hs1;have hs3:∀ k,k≠pb->((w.setCell ⟨pb,0,none⟩ (.int .i64 a)).setCell ⟨pb,1,none⟩ (.int .i64 b)).heap[k]?=w.heap[k]?:=λk hk=>(Iz hk).trans (Iz hk)
 have hs4:((w.setCell ⟨pb,0,none⟩ (.int .i64 a)).setCell ⟨pb,1,none⟩ (.int .i64 b)).heap.size=w.heap.size:=by simp
 have hk:Keep (λb _=>b=pb) w (((w.setCell ⟨pb,0,none⟩ (.int .i64 a)).setCell ⟨pb,1,none⟩ (.int .i64 b)).alloc (.cells #[.int .i64 a,.int .i64 b] 215)):=
  Keep.mP (M:=λb=>b=pb) (by simp) (λk hk hn=>(Below.heap_alloc _ _ k (by rw[hs4];exact hk)).trans (hs3 k hn)) (λ_ _ h=>h)
 have hs5:(((w.setCell ⟨pb,0,none⟩ (.int .i64 a)).setCell ⟨pb,1,none⟩ (.int .i64 b)).alloc (.cells #[.int .i64 a,.int .i64 b] 215)).heap[pb]?=some (.cells #[.int .i64 a,.int .i64 b] 215 (0,0)):=
  (Below.heap_alloc _ _ pb (by rw[hs4];exact hlt)).trans hs2
 have ho:(((w.setCell ⟨pb,0,none⟩ (.int .i64 a)).setCell ⟨pb,1,none⟩ (.int .i64 b)).alloc (.cells #[.int .i64 a,.int .i64 b] 215)).os=w.os:=rfl;have ht:(((w.setCell ⟨pb,0,none⟩ (.int .i64 a)).setCell ⟨pb,1,none⟩ (.int .i64 b)).alloc (.cells #[.int .i64 a,.int .i64 b] 215)).tape=w.tape:=rfl;have hou:(((w.setCell ⟨pb,0,none⟩ (.int .i64 a)).setCell ⟨pb,1,none⟩ (.int .i64 b)).alloc (.cells #[.int .i64 a,.int .i64 b] 215)).output=w.output:=rfl;clear hs1 hs2 hs3 hs4 hc0 hc1 hz0 hz1 hta;generalize (((w.setCell ⟨pb,0,none⟩ (.int .i64 a)).setCell ⟨pb,1,none⟩ (.int .i64 b)).alloc (.cells #[.int .i64 a,.int .i64 b] 215))=W at *;cases c₀;simp[bodyPostS,results,Tryz.results82,hs5,hk,ho,ht,hou,go_sem]
theorem tried_calls{g:FuncId}{caps:Array Value}{w:World}(xAb:∀ args w,(callFunc 154 args).run Tryz.prog w=.ok (.enter 154 args) w)(eg:∀ args w,(callFunc g args).run Tryz.prog w=.ok (.enter g args) w){R1:World->Prop}{R2:Int->Int->World->Prop}(hg:Calls Tryz.prog g caps (w.alloc (.cells #[.int .i64 0,.int .i64 0] 215)) λe w2=>w2.heap[w.heap.size]?=some (.cells #[.int .i64 0,.int .i64 0] 215 (0,0))/\((e=.returned (.tuple #[])/\R1 w2) \/
  ∃ a b,e=.panicked [{ v:=.iface 215 (.agg #[.int .i64 a,.int .i64 b]),recovered:=false }]/\R2 a b w2)):Calls Tryz.prog 136 #[.func (.func g) #[] caps] w λe w'=>(e=.returned (.agg #[.int .i64 0,.int .i64 0])/\∃ w2,R1 w2/\Keep (λb _=>b=w.heap.size) w2 w'/\w'.os=w2.os/\w'.tape=w2.tape/\w'.output=w2.output) \/
  ∃ a b,e=.returned (.agg #[.int .i64 a,.int .i64 b])/\∃ w2,R2 a b w2/\Keep (λb _=>b=w.heap.size) w2 w'/\w'.os=w2.os/\w'.tape=w2.tape/\w'.output=w2.output:=by
 have hmf:∀ (fn:Fn) (first cap:Array Value) (w:World),(Instr.makeFunc fn first cap).run Tryz.prog w=.ok (.func fn first cap) w:=λ_ _ _ _=>rfl
 go_enter_defers Tryz.func136,Tryz.ntmps136
 go_wp2
 refine hg.mono ?_;rintro e w2 ⟨hb,(⟨rfl,h1⟩|⟨a,b,rfl,h2⟩)⟩
 ·have hlt:w.heap.size<w2.heap.size:=(Array.getElem?_eq_some_iff.1 hb).1;have hc0:w2.cell? ⟨w.heap.size,0,none⟩=some (.int .i64 0):=by simp[World.cell?,hb]
  have hc1:w2.cell? ⟨w.heap.size,1,none⟩=some (.int .i64 0):=by simp[World.cell?,hb]
  have hz0:w2.frozen? ⟨w.heap.size,0,none⟩=false:=by simp[World.frozen?,hb]
  have hz1:w2.frozen? ⟨w.heap.size,1,none⟩=false:=by simp[World.frozen?,hb]
  have hs1:=Md (i:=0) (v:=.int .i64 0) hb;have hs2:=Md (i:=1) (v:=.int .i64 0) hs1;have hs3:∀ k,k≠w.heap.size->((w2.setCell ⟨w.heap.size,0,none⟩ (.int .i64 0)).setCell ⟨w.heap.size,1,none⟩ (.int .i64 0)).heap[k]?=w2.heap[k]?:=λk hk=>(Iz hk).trans (Iz hk)
  have hs4:((w2.setCell ⟨w.heap.size,0,none⟩ (.int .i64 0)).setCell ⟨w.heap.size,1,none⟩ (.int .i64 0)).heap.size=w2.heap.size:=by simp
  have ho:((w2.setCell ⟨w.heap.size,0,none⟩ (.int .i64 0)).setCell ⟨w.heap.size,1,none⟩ (.int .i64 0)).os=w2.os:=rfl;have ht:((w2.setCell ⟨w.heap.size,0,none⟩ (.int .i64 0)).setCell ⟨w.heap.size,1,none⟩ (.int .i64 0)).tape=w2.tape:=rfl;have hou:((w2.setCell ⟨w.heap.size,0,none⟩ (.int .i64 0)).setCell ⟨w.heap.size,1,none⟩ (.int .i64 0)).output=w2.output:=rfl
  go_wp2
  generalize ((w2.setCell ⟨w.heap.size,0,none⟩ (.int .i64 0)).setCell ⟨w.heap.size,1,none⟩ (.int .i64 0))=W at *;have hk:Keep (λb _=>b=w.heap.size) w2 W:=Keep.mP (M:=λb=>b=w.heap.size) (Nat.le_of_eq hs4.symm) (λk _ hn=>hs3 k hn) (λ_ _ h=>h);have hd0:W.cell? ⟨w.heap.size,0,none⟩=some (.int .i64 0):=by simp[World.cell?,hs2]
  have hd1:W.cell? ⟨w.heap.size,1,none⟩=some (.int .i64 0):=by simp[World.cell?,hs2]
  refine leaves_cons (f:=154) (args:=#[.pointer (some ⟨w.heap.size,0,none⟩)]) (by simp) (by simp[go_sem,xAb]) ?_;refine(catch_idle ⟨w.heap.size,0,none⟩ _).mono ?_;rintro e u' w'' ⟨rfl,rfl,rfl⟩;simp[Leaves,settle,results,Tryz.results44,go_sem,hd0,hd1];exact .inl ⟨w2,h1,hk,ho,ht,hou⟩
 ·refine leaves_cons (f:=154) (args:=#[.pointer (some ⟨w.heap.size,0,none⟩)]) (by simp) (by simp[go_sem,xAb]) ?_;refine(catch_panicking ⟨w.heap.size,0,none⟩ a b [] w2 hb rfl).mono ?_;rintro e u' w'' ⟨rfl,rfl,hb2,hk,ho,ht,hou⟩;have hd0:w''.cell? ⟨w.heap.size,0,none⟩=some (.int .i64 a):=by simp[World.cell?,hb2]
  have hd1:w''.cell? ⟨w.heap.size,1,none⟩=some (.int .i64 b):=by simp[World.cell?,hb2]
  simp[Leaves,settle,results,Tryz.results44,go_sem,hd0,hd1];exact .inr ⟨a,b,⟨rfl,rfl⟩,w2,h2,hk,ho,ht,hou⟩
section
variable {si so sp sd od:Sh}
theorem yKo{β:Nat->Pl}{w:World}{N:Nat->Nat->Prop}(a b:Int):V.Rel β w N (.agg [.val (.int .i64) a,.val (.int .i64) b]) (.agg #[.int .i64 a,.int .i64 b]):=
 ⟨[.int .i64 a,.int .i64 b],rfl,[.int .i64 a],[.int .i64 b],rfl,by simp only[L.Rel,Ty.Rel],[.int .i64 b],[],rfl,by simp only[L.Rel,Ty.Rel],rfl⟩
theorem Zf{C:Ctx}{β:Nat->Pl}{w:World}{σ:St}{a:Act}(h:Sim C β σ a w)(x y:Int):Sim C β ⟨[.agg [.val (.int .i64) x,.val (.int .i64) y]],σ.h⟩ { tmps:=#[.agg #[.int .i64 x,.int .i64 y]],defers:=[] } w:=by
 refine⟨h.heap,rfl,rfl,λi u hu=>?_⟩;cases i with
 |zero =>
  simp only[List.getElem?_cons_zero,aA]at hu;subst hu;exact yKo x y
 |succ i=>simp at hu
theorem zQe{F:si.X->Option (Sum so.X sp.X)}(hF:∀ x,∃ v z,F x=some (.inr z)/\sp.enc z=⟨[.agg [.val (.int .i64) 42,.val (.int .i64) 0]],(si.enc x).h⟩/\(si.enc x).r=[v]):cK Tryz.prog 208 si so 215 sp F:=by
 refine⟨by kernel_rfl,λx y hy C β w xs hP hkf hs=>?_⟩;obtain⟨v,z,hz,he,hr⟩:=hF x;rw[hz]at hy;obtain rfl:=Option.some.inj hy;have hl:xs.length=1:=by have:=hs.size;rw[hr]at this;simpa using this.symm
 obtain⟨u,rfl⟩:=List.length_eq_one_iff.1 hl;refine(zQd u w).mono ?_;rintro e w' ⟨rfl,rfl⟩;refine .inr ⟨z,_,β,rfl,rfl,?_⟩;rw[he];exact Zf hs 42 0
theorem zKx{F:si.X->Option (Sum so.X sp.X)}(hF:∀ x,∃ v a b z,F x=some (.inr z)/\sp.enc z=⟨[.agg [.val (.int .i64) a,.val (.int .i64) b]],(si.enc x).h⟩/\(si.enc x).r=[v,.one (.val (.int .i64) a),.one (.val (.int .i64) b)]):cK Tryz.prog 139 si so 215 sp F:=by
 refine⟨by kernel_rfl,λx y hy C β w xs hP hkf hs=>?_⟩;obtain⟨v,a,b,z,hz,he,hr⟩:=hF x;rw[hz]at hy;obtain rfl:=Option.some.inj hy;have hl:xs.length=3:=by have:=hs.size;rw[hr]at this;simpa using this.symm
 match xs,hl with
 |[u0,u1,u2],_ =>
  have h1:=hs.reg 1 (.one (.val (.int .i64) a)) (by rw[hr];rfl);have h2:=hs.reg 2 (.one (.val (.int .i64) b)) (by rw[hr];rfl);simp only[V.Rel,L.Rel,Ty.Rel,aJ,and_true]at h1 h2;simp at h1 h2;subst h1 h2;refine(zKw u0 a b w).mono ?_;rintro e w' ⟨rfl,rfl⟩;refine .inr ⟨z,_,β,rfl,rfl,?_⟩;rw[he];exact Zf hs a b
theorem zLu{g:FuncId}{caps:List L}{F:sd.X->Option (Sum od.X sp.X)}{G:si.X->Option so.X}{conv:si.X->sd.X}{o1:od.X->so.X}{o2:sp.X->so.X}(hM:cK Tryz.prog g sd od 215 sp F)(hos:sd.os.length=si.os.length)(hin:∀ x,si.enc x=⟨[.one (.clo g caps)],(sd.enc (conv x)).h⟩/\(sd.enc (conv x)).r=caps.map V.one)(hG:∀ x,G x=match F (conv x) with|some (.inl y)=>some (o1 y)|some (.inr z)=>some (o2 z)|none=>none)(h1:∀ y,so.enc (o1 y)=⟨[.agg [.val (.int .i64) 0,.val (.int .i64) 0]],(od.enc y).h⟩/\(od.enc y).r=[])(h2:∀ z,∃ a b,so.enc (o2 z)=⟨[.agg [.val (.int .i64) a,.val (.int .i64) b]],(sp.enc z).h⟩/\(sp.enc z).r=[.agg [.val (.int .i64) a,.val (.int .i64) b]])(hg:g<1000000:=by decide):dV Tryz.prog 136 si so G:=by
 refine⟨by kernel_rfl,λx y hy C β w xs hP hkf hs=>?_⟩;obtain⟨he,hr⟩:=hin x;rw[hG]at hy;rw[he]at hs;have hl:xs.length=1:=by have:=hs.size;simpa using this.symm
 obtain⟨u,rfl⟩:=List.length_eq_one_iff.1 hl;have hu:=hs.reg 0 _ rfl;simp only[V.Rel,L.Rel]at hu;obtain⟨us,hu,hcap⟩:=hu;have hu:u=.func (.func g) #[] us.toArray:=by rw[zBa hg]at hu;simpa using hu
 subst hu;have hargs:=Lb hcap;have hsd:Sim C β (sd.enc (conv x)) { tmps:=us.toArray,defers:=[] } w:=by
  have e:sd.enc (conv x)=⟨caps.map V.one,(sd.enc (conv x)).h⟩:=by rw[<- hr]
  rw[e];refine⟨hs.heap,rfl,by simpa using hargs.length,λi v hv=>?_⟩;have hi:=(bE.1 hv).1;have hi':i<us.length:=by rw[<- hargs.length];exact hi
  have:=hargs.get i hi hi';rw[(bE.1 hv).2]at this;have e2:(us.toArray).getD i undef=us[i]:=by simp[hi']
  rw[e2];exact this
 have hk:Keep (λ_ _=>False) w (w.alloc (.cells #[.int .i64 0,.int .i64 0] 215)):=Keep.mP (M:=λ_=>False) (by simp) (λk hk _=>Below.heap_alloc _ _ k hk) (λ_ _ h=>h);have hsz:(w.alloc (.cells #[.int .i64 0,.int .i64 0] 215)).heap.size=w.heap.size+1:=by simp
 have hnew:(w.alloc (.cells #[.int .i64 0,.int .i64 0] 215)).heap[w.heap.size]?=some (.cells #[.int .i64 0,.int .i64 0] 215 (0,0)):=World.alloc_heap_new _ _;have hsN:=hsd.inN hk (aP _) (by rw[hsz];omega);cases hFx:F (conv x)with
 |none=>rw[hFx]at hy;cases hy
 |some r =>
  rw[hFx]at hy;have hcall:=hM.2 (conv x) r hFx _ β _ us (by exact hP) (by rw[hos];exact hkf) hsN;have Yu:∀ {β':Nat->Pl}{σ':St}{a':Act}{w2:World},Sim (Sg C β (sd.enc (conv x)).h w (w.alloc (.cells #[.int .i64 0,.int .i64 0] 215)) w.heap.size hsd.heap hk) β' σ' a' w2->w2.heap[w.heap.size]?=some (.cells #[.int .i64 0,.int .i64 0] 215 (0,0)):=λh=>by
   rw[h.heap.frame.block _ (by show _<(w.alloc _).heap.size;rw[hsz];omega) (λj hm=>?_)]
   ·exact hnew
   ·obtain⟨i,o,ho,_,hb⟩:=hm;have:=(hsd.heap.eY i o _ ho ⟨_,hb⟩).2.1;omega
  have hos0:=hs.heap.os;have yBm:=hs.heap.tape;have yBn:=hs.heap.output;have hC:=tried_calls (w:=w) (g:=g) (caps:=us.toArray) (R1:=λw2=>∃ y β' us,r=.inl y/\Sim (Sg C β (sd.enc (conv x)).h w (w.alloc (.cells #[.int .i64 0,.int .i64 0] 215)) w.heap.size hsd.heap hk) β' (od.enc y) { tmps:=us,defers:=[] } w2)
   (R2:=λa b w2=>∃ z β' us,r=.inr z/\so.enc (o2 z)=⟨[.agg [.val (.int .i64) a,.val (.int .i64) b]],(sp.enc z).h⟩/\Sim (Sg C β (sd.enc (conv x)).h w (w.alloc (.cells #[.int .i64 0,.int .i64 0] 215)) w.heap.size hsd.heap hk) β' (sp.enc z) { tmps:=us,defers:=[] } w2)
   (λargs w=>zB (by kernel_rfl) args w) (λargs w=>zB hM.1 args w) (hcall.mono (by
    rintro e w2 (⟨z,vs,β',rfl,rfl,hs'⟩|⟨z,v,β',rfl,rfl,hs'⟩)
    ·refine⟨Yu hs',.inl ⟨?_,z,β',_,rfl,hs'⟩⟩;have hv:vs=[]:=by
      have:=hs'.size;rw[(h1 z).2]at this;simpa using this.symm
     rw[hv];rfl
    ·obtain⟨a,b,hz,hzr⟩:=h2 z;refine⟨Yu hs',.inr ⟨a,b,?_,z,β',_,rfl,hz,hs'⟩⟩;have:=hs'.reg 0 _ (by rw[hzr];rfl);obtain⟨cs,hc,c1,c2,ec,k1,c3,c4,ec2,k2,k3⟩:=this;simp only[L.Rel,Ty.Rel]at k1 k2;simp only[aG]at k3;subst k1 k2 k3 ec2 ec;have hc:v=.agg #[.int .i64 a,.int .i64 b]:=by simpa using hc
     rw[hc]))
  refine hC.mono ?_;have e0:(w.alloc (.cells #[.int .i64 0,.int .i64 0] 215)).os=w.os:=rfl;have e1:(w.alloc (.cells #[.int .i64 0,.int .i64 0] 215)).tape=w.tape:=rfl;have e2:(w.alloc (.cells #[.int .i64 0,.int .i64 0] 215)).output=w.output:=rfl;rintro e w' (⟨rfl,w2,⟨z,β',vs,rfl,hs'⟩,hk',ho,ht,hou⟩|⟨a,b,rfl,w2,⟨z,β',vs,rfl,hz,hs'⟩,hk',ho,ht,hou⟩)
  ·obtain rfl:=Option.some.inj hy;have:=Sim.yJm (aP _) (by rw[hsz];omega) hs' hk' (ho.trans (hs'.heap.os.trans (e0.trans hos0))) (ht.trans (hs'.heap.tape.trans (e1.trans yBm))) (hou.trans (hs'.heap.output.trans (e2.trans yBn)));refine⟨[.agg #[.int .i64 0,.int .i64 0]],β',rfl,?_⟩;rw[(h1 z).1];exact Zf this 0 0
  ·obtain rfl:=Option.some.inj hy;have:=Sim.yJm (aP _) (by rw[hsz];omega) hs' hk' (ho.trans (hs'.heap.os.trans (e0.trans hos0))) (ht.trans (hs'.heap.tape.trans (e1.trans yBm))) (hou.trans (hs'.heap.output.trans (e2.trans yBn)));refine⟨[.agg #[.int .i64 a,.int .i64 b]],β',rfl,?_⟩;rw[hz];exact Zf this a b
end
end Go.Dec
