import Derived.Test.YtfbilefiaminnaaGreatDoorPtrtAH
import Derived.Shelf.Spec.SlicesGrow
import Derived.Laws.AppendOwnNone
import Derived.WalkSmall
import Derived.Handy
open Go.Proofs.Tryz renaming prog->qEr
open Go.World renaming cell?->qAj
open Prod renaming fst->qEs
open Option.some renaming inj->qBc
open List renaming pairwise_cons->qEt,mem_cons->qEu,mem_map->qBw,map_map->qDh,map->qEv,length_eq_one_iff->qEw,mem_cons_self->qCs
open Array renaming getElem?_eq_some_iff->qCk,getElem?_toList->qCj,getElem?_eq_getElem->qEx,getElem?_eq_none->qEy,getElem?_modify->qCv,replicate->qDy
open Go.Builtin renaming append_->qBd
namespace Go.Dec
open Go.Proofs Go.RowKit Go.Sort Go.Shelf Go.Maps
open Go.WideElems (Fit rd rg)
open Go.MapKept (Stamped)
theorem Tryz.sortsA(m:Nat):AnyZ.SortsIn qEr Tryz.sortedA_ren Fence.wide m :=
 ⟨λblk off cap ss W hH hblk hsz=>callsIn_wide.2 (AnyM.slices_Sort_string Tryz.sortA blk off cap ss W hH hblk hsz),
  λp cap W=>callsIn_wide.2 (AnyM.slices_Sort_string_none Tryz.sortA p cap W)⟩
theorem yAw{a b c:List UInt8}(h:a<=b)(g:b<=c):a<=c:=Std.le_trans h g
theorem zLs(a:List UInt8):∀ l:List (List UInt8),(Nz a l).Perm (a::l)
 |[]=>.refl _
 |b::r=>by
  unfold Nz;cases decide (a<=b)
  ·exact((zLs a r).cons b).trans (.swap a b r)
  ·exact .refl _
theorem Xa:∀ l:List (List UInt8),(tH l).Perm l
 |[]=>.refl _
 |a::r=>(zLs a _).trans ((Xa r).cons a)
theorem zQm(a:List UInt8):∀ l:List (List UInt8),l.Pairwise (· <= ·)->(Nz a l).Pairwise (· <= ·)
 |[],_=>by simp[Nz]
 |b::r,h=>by
  unfold Nz;rw[qEt]at h;cases hd:decide (a<=b)
  ·have hba:b<=a:=by
    rcases Std.le_total (a:=a) (b:=b)with h1|h1
    ·exact absurd h1 (of_decide_eq_false hd)
    ·exact h1
   refine qEt.2 ⟨λc hc=>?_,zQm a r h.2⟩;rcases qEu.1 ((zLs a r).mem_iff.1 hc)with rfl|hc
   ·exact hba
   ·exact h.1 c hc
  ·refine qEt.2 ⟨λc hc=>?_,qEt.2 h⟩;have hab:a<=b:=of_decide_eq_true hd;rcases qEu.1 hc with rfl|hc
   ·exact hab
   ·exact yAw hab (h.1 c hc)
theorem zLt:∀ l:List (List UInt8),(tH l).Pairwise (· <= ·)
 |[]=>.nil
 |a::r=>zQm a _ (zLt r)
theorem zJa:∀ {l m:List (List UInt8)},l.Perm m->l.Pairwise (· <= ·)->m.Pairwise (· <= ·)->l=m
 |[],m,h,_,_=>(List.Perm.nil_eq h)
 |a::r,m,h,h1,h2=>by
  cases m with
  |nil=>exact absurd h.length_eq (by simp)
  |cons b s =>
   rw[qEt]at h1 h2;have hab:a<=b:=by
    rcases qEu.1 (h.mem_iff.2 (qCs (a:=b) (l:=s)))with e|e
    ·rw[e];exact Std.le_refl _
    ·exact h1.1 b e
   have hba:b<=a:=by
    rcases qEu.1 (h.mem_iff.1 (qCs (a:=a) (l:=r)))with e|e
    ·rw[e];exact Std.le_refl _
    ·exact h2.1 a e
   obtain rfl:a=b:=Std.le_antisymm hab hba;rw[zJa (List.Perm.cons_inv h) h1.2 h2.2]
theorem yTz{l m:List (List UInt8)}(h:l.Perm m):(l.mergeSort λx y=>decide (x<=y))=tH m:=by
 refine zJa ((List.mergeSort_perm _ _).trans (h.trans (Xa m).symm)) ?_ (zLt m);have:=List.pairwise_mergeSort (le:=λx y:List UInt8=>decide (x<=y)) (λa b c h1 h2=>decide_eq_true (yAw (of_decide_eq_true h1) (of_decide_eq_true h2))) (λa b=>by
  rcases Std.le_total (a:=a) (b:=b)with h|h
  ·simp[h]
  ·simp[h]) l
 exact this.imp λh=>of_decide_eq_true h
theorem zVm:∀ {l:List (List UInt8)},Zb l=true->l.Nodup
 |[],_=>.nil
 |a::r,h=>by
  simp only[Zb,aD,Bool.not_eq_true',List.contains_eq_mem,decide_eq_false_iff_not]at h;exact List.nodup_cons.2 ⟨h.1,zVm h.2⟩
theorem zLu{w w':World}{N:Nat->Nat->Prop}{tid:TypeId}{v:Value}{xs:List (List UInt8)}(hN:∀ b j,w.heap.size<=b->¬ N b j)(h:w'.ownsRow w.heap.size tid 1 v xs.length (xs.map encStr)):(Ty.slice .str).Rel w' N xs [v]:=by
 refine⟨v,rfl,?_⟩;rcases h.2 with ⟨rfl,h0⟩|⟨g,cap,cur,rfl,hge,hcell,r5,r6,r7,r8⟩
 ·exact .inl ⟨rfl,List.eq_nil_of_length_eq_zero h0⟩
 ·refine .inr (.inl ⟨g,0,cap,xs.map λx=>[encStr x],rfl,(qCk.1 hcell).1,λj _ _=>hN g j hge,r5,r6,?_,?_,?_⟩)
  ·have:∀ l:List (List UInt8),bJ (λx c=>Ty.str.Rel w' N x c) l (l.map λx=>[encStr x]):=by
    intro l;induction l with
    |nil=>trivial
    |cons a r ih=>exact⟨rfl,ih⟩
   exact this xs
  ·intro c hc;obtain⟨x,_,rfl⟩:=qBw.1 hc;rfl
  ·intro j c hj;have hfl:(xs.map λx=>[encStr x]).flatten=xs.map encStr:=by
    clear h hj r8 r7 r5;induction xs with
    |nil=>rfl
    |cons a r ih=>simp[ih]
   rw[hfl,<- r8,List.getElem?_take]at hj;split at hj
   ·simp only[qAj,hcell,Nat.zero_add,<- qCj,hj];rfl
   ·cases hj
theorem xGt{C:Ctx}{β:Nat->Pl}{h:List Ob}{w:World}(hs:fC C β h w):∀ b j,w.heap.size<=b->¬ C.N β h b j:=by
 intro b j hb hn;rcases hn with hn|⟨id,o,h1,h2,h3⟩
 ·have:=hs.n0 b j hn;have:=hs.size;omega
 ·have:=(hs.eZ id o b h1 ⟨j,h3⟩).2.1;omega
theorem yYp{P:Program}{k:TypeId}(hst:P.underlying k=some .string){w:World}{N:Nat->Nat->Prop}{b:Nat}{m:List (List UInt8 × Int)}{ms:Array MapEntry}(hb:w.heap[b]?=some (.map ms ms.size))(hE:nZ w N .str (.int .i64) m ms)(hnd:(m.map qEs).Nodup)(hlen:∀ e∈m,e.1.length<=1000000)(hsz:m.length<=1000000):∃ D:DataW Unit,w.ownsMap P k (λ_=>some (.nil,[])) b m.length D/\Maps.size D<=m.length/\(strKeys D).Perm (m.map qEs):=by
 have hz:=hE.size;have hl:=hE.1;have hkeys:ms.toList.map (·.key)=m.map λe=>encStr e.1:=by
  have:∀ (a:List (List UInt8 × Int)) (c:List MapEntry),bJ (λ(x:List UInt8 × Int) (q:MapEntry)=>Ty.str.bW w N x.1 q.key/\(Ty.int .i64).bW w N x.2 q.val) a c->c.map (·.key)=a.map λe=>encStr e.1:=by
   intro a;induction a with
   |nil=>intro c h;cases c with|nil=>rfl|cons _ _=>exact h.elim
   |cons x r ih =>
    intro c h;cases c with
    |nil=>exact h.elim
    |cons q s =>
     obtain⟨⟨h1,_⟩,h2⟩:=h;simp only[Ty.bW,Ty.isAgg,Bool.false_eq_true,if_false,Ty.Rel,aL,and_true]at h1;simp only[List.map_cons,ih s h2,h1]
  exact this m ms.toList hl
 have hrd:∀ x∈ms.toList,∃ e∈m,x.key=encStr e.1:=by
  intro x hx;have:x.key∈m.map λe=>encStr e.1:=by rw[<- hkeys];exact qBw.2 ⟨x,hx,rfl⟩
  obtain⟨e,he,h⟩:=qBw.1 this;exact⟨e,he,h.symm⟩
 have hrg:∀ x∈ms.toList,∀ s,x.key=encStr s->s.length<=1000000->rd P k (λ_=>some ((.nil:DataW Unit),[])) x=some (.string s,.nil):=by
  intro x _ s hs hsl;have hkf:Go.keyOf P k x.key=some (Lit.string s):=by
   rw[hs];have:s.toArray.size<=maxLen:=by simp[maxLen];omega
   simp[Go.keyOf,hst,mapKey,ByteArray.size,encStr,maxLen];omega
  simp[Go.WideElems.rd,hkf]
 refine⟨.map ((ms.toList.map (rg P k λ_=>some (.nil,[]))).foldr DataW.insert []),⟨ms,ms.size,hb,⟨by simp only[maxLen];omega,⟨λx hx=>?_,?_,?_⟩,λx hx=>?_⟩,by omega,rfl⟩,?_,?_⟩
 ·obtain⟨i,hi,hx⟩:=List.getElem_of_mem hx;have hi':ms[i]?=some x:=by rw[<- qCj,List.getElem?_eq_getElem hi,hx]
  rw[hE.2 i x hi'];simpa using hi
 ·have:ms.toList.map (·.born)=List.range ms.size:=by
   apply List.ext_getElem?;intro i;rw[List.getElem?_map,qCj];by_cases hi:i<ms.size
   ·rw[List.getElem?_range hi,qEx hi];simp only[Option.map_some,hE.2 i _ (qEx hi)]
   ·rw[List.getElem?_eq_none (by simpa using hi),qEy (by omega)];rfl
  rw[this];exact List.nodup_range
 ·rw[hkeys];have:(m.map λe=>encStr e.1)=(m.map qEs).map encStr:=by rw[qDh];rfl
  rw[this,List.Nodup,List.pairwise_map];exact hnd.imp λh e=>h (encStr_inj e)
 ·obtain⟨e,he,h⟩:=hrd x hx;exact⟨_,hrg x hx _ h (hlen e he)⟩
 ·show List.length _<=_;rw[(Go.WideShapes.sorted_perm _).length_eq,List.length_map,Array.length_toList];omega
 ·show(qEv _ _).Perm _;refine((Go.WideShapes.sorted_perm _).map _).trans ?_;rw[qDh];have:(ms.toList.map λx=>strOf (rg P k (λ_=>some ((.nil:DataW Unit),[])) x).1)=m.map qEs:=by
   have hinj:(ms.toList.map λx=>strOf (rg P k (λ_=>some ((.nil:DataW Unit),[])) x).1).map encStr=(m.map qEs).map encStr:=by
    rw[qDh,qDh];have:(m.map (encStr ∘ qEs))=ms.toList.map (·.key):=by rw[hkeys];rfl
    rw[this];refine List.map_congr_left λx hx=>?_
    obtain⟨e,he,h⟩:=hrd x hx;simp only[Function.comp,Go.WideElems.rg,hrg x hx _ h (hlen e he),Option.getD_some,strOf];exact h.symm
   exact(List.map_inj_right (f:=encStr) (λa b h=>encStr_inj h)).1 hinj
  show(qEv (λx=>strOf (rg P k (λ_=>some ((.nil:DataW Unit),[])) x).1) ms.toList).Perm _;rw[this]
abbrev Dl:Sh:=⟨1,[⟨0,false,[.clo 59 [(0,0)]]⟩],[.box 70 [.mp 1],.dm .str (.int .i64)]⟩
abbrev Dm:Sh:=⟨1,[⟨0,false,[.v (.slice .str)]⟩],[.box 70 [.mp 1],.dm .str (.int .i64)]⟩
set_option maxRecDepth 100000 in
theorem Ze(n:Nat):dV qEr 42 Dl Dm (lF n):=by
 refine⟨by kernel_rfl,λx y hy C β w xs hP hkf hs=>?_⟩;obtain⟨m,u⟩:=x;unfold lF at hy;obtain⟨hc,hy⟩:=iP hy;obtain rfl:=qBc hy;simp only[aD,List.all_eq_true]at hc;obtain⟨c1,c2,c3⟩:=hc;have c2:=bX c2;have henc:Dl.enc (m,u)=⟨[.one (.clo 59 [.ptr 0 0])],[.box 70 [.mp 1],.dm .str (.int .i64) m]⟩:=rfl;rw[henc]at hs;have hl:xs.length=1:=by have:=hs.size;simpa using this.symm
 obtain⟨v,rfl⟩:∃ v,xs=[v]:=qEw.1 hl;have hv:=hs.reg 0 _ rfl;simp only[V.Rel,L.Rel,L.eG]at hv;obtain⟨us,hv,p,us1,rfl,⟨hl0,hb0,b0,xLi,hp⟩,rfl⟩:=hv;have hO:=hs.heap.obj 0 _ rfl;simp only[Ob.Rel,aJ,L.Rel]at hO;obtain⟨_,_,b0',cs,h01,⟨k1,k2,rfl,⟨_,_,b1,h11,hk1⟩,rfl⟩,hcell⟩:=hO;rw[xLi]at h01;obtain rfl:=qBc h01;subst hk1;have hO1:=hs.heap.obj 1 _ rfl;simp only[Ob.Rel]at hO1;obtain⟨_,_,b1',ms,h12,hmap,hE⟩:=hO1;rw[h11]at h12;obtain rfl:=qBc h12;simp only[aL,and_true]at hp hv;subst hp;rw[zEh (by decide)]at hv;have hv:v=.func (.func 59) #[] #[.pointer (some ⟨b0,0,none⟩)]:=hv;subst hv;have hnd:=zVm c1;obtain⟨D,hown,hsz,hperm⟩:=yYp (P:=qEr) (k:=9) (by kernel_rfl) (w:=w) (b:=b1) hmap hE hnd (λe he=>bX (c3 e he)) c2;have xLj:b0<w.heap.size:=(qCk.1 hcell).1;have hcl:w.cell? ⟨b0,0,none⟩=some (.map (some b1)):=by simp[qAj,hcell]
 have hseq:=AnyZ.keys_gives { Tryz.keysA with } Fence.wide 2 trivial rfl (by omega) b0 b1 _ D w xLj hcl hown;have run:=(callsIn_wide (n:=5)).1 (AnyZ.sorted_in Tryz.sortedA Fence.wide 5 trivial trivial trivial trivial rfl (by omega) (Tryz.sortsA _) (enters_of Tryz.func26 (by kernel_rfl) rfl) 59 _ trivial (enters_of Tryz.func59 (by kernel_rfl) rfl) _ _ (by simp only[maxLen];omega) (by omega) w hseq);refine run.mono ?_;rintro e w' ⟨v,ss,rfl,hp2,hrow,_,hb⟩;have hsort:(ss.mergeSort λx y=>decide (x<=y))=tH (m.map qEs):=yTz (hp2.trans hperm);have hlen:ss.length=(tH (m.map qEs)).length:=by rw[<- hsort,List.length_mergeSort]
 rw[hsort,hlen]at hrow;have hk:Keep (λ_ _=>False) w w':=Keep.mZ (M:=λ_=>False) hb.size (λj hj _=>hb.block j hj) (λ_ _ h=>h);have hg:=hs.grow hk ⟨hb.os,hb.tape,hb.output⟩;have hrel:=zLu (xGt hs.heap) hrow;have heO:Dm.enc (tH (qEv qEs (m,u).fst),(m,u).fst,())=⟨[.one (.val (.slice .str) (tH (m.map qEs)))],[.box 70 [.mp 1],.dm .str (.int .i64) m]⟩:=rfl;rw[heO];refine⟨[v],β,rfl,⟨hg.heap,rfl,rfl,λi q hq=>?_⟩⟩;cases i with
 |zero =>
  obtain rfl:=qBc hq;simp only[V.Rel,L.Rel];exact hrel
 |succ i=>simp at hq
end Go.Dec
namespace Go.Proofs
open Go.Shelf
def Tryz.growA_ren:Go.Shelf.Ren:=⟨fun | 4=>37 | n=>n,fun | 22=>32 | 25=>9 | 3=>3 | 4=>4 | 9=>9 | 20=>20 | 0=>0 | n=>n,fun | n=>n⟩
theorem Tryz.growA:Go.Proofs.Lays8.n4 qEr Tryz.growA_ren:={
 mixed:=by kernel_rfl
 f4:=⟨Tryz.f37.name,by decide,Tryz.func37.trans (congrArg some (by kernel_rfl))⟩
 t0:=Tryz.underlying0
 a0:=Tryz.isAgg0
 z0:=Tryz.sizeOf0
 v0:=Tryz.zeroValue0
 t3:=Tryz.underlying3
 a3:=Tryz.isAgg3
 z3:=Tryz.sizeOf3
 v3:=Tryz.zeroValue3
 t4:=Tryz.underlying4
 a4:=Tryz.isAgg4
 z4:=Tryz.sizeOf4
 v4:=Tryz.zeroValue4
 t9:=Tryz.underlying9
 a9:=Tryz.isAgg9
 z9:=Tryz.sizeOf9
 v9:=Tryz.zeroValue9
 t20:=Tryz.underlying20
 a20:=Tryz.isAgg20
 z20:=Tryz.sizeOf20
 v20:=Tryz.zeroValue20
 t22:=Tryz.underlying32
 a22:=Tryz.isAgg32
 z22:=Tryz.sizeOf32
 v22:=Tryz.zeroValue32 }
end Go.Proofs
namespace Go.Dec
open Go.Proofs Go.RowKit Go.Sort Go.Shelf
def Xb (w:World) (u:Value) (xs:List (List UInt8)):Prop := ∃ p c,u = .slice p xs.length c ∧ (p = none->xs = [] ∧ c = 0) ∧ ∀ a:Addr,p = some a -> ∀ j v,(xs.map encStr)[j]? = some v->w.cell? (a.add j) = some v
theorem yMc{w:World}{a:Addr}{v:Value}(h:w.cell? a=some v):a.block<w.heap.size:=by
 rcases jF a.block w.heap.size with hl|hl
 ·exact hl
 ·simp[qAj,qEy hl]at h
theorem yGn:∀ (xs:List (List UInt8)) (css:List (List Value)) {w:World}{N:Nat->Nat->Prop},bJ (λx c=>Ty.str.Rel w N x c) xs css->css.flatten=xs.map encStr
 |[],[],_,_,_=>rfl
 |[],_::_,_,_,h=>h.elim
 |_::_,[],_,_,h=>h.elim
 |x::r,c::s,w,N,h=>by
  obtain⟨h1,h2⟩:=h;simp only[Ty.Rel]at h1;rw[List.flatten_cons,h1,yGn r s h2];rfl
theorem Qm{w:World}{N:Nat->Nat->Prop}{u:Value}{xs:List (List UInt8)}(h:(Ty.slice .str).Rel w N xs [u]):Xb w u xs:=by
 obtain⟨v,hv,h⟩:=h;obtain rfl:u=v:=by simpa using hv
 rcases h with ⟨rfl,rfl⟩|⟨b,off,cap,css,rfl,hb,_,_,_,hall,_,hcells⟩|⟨a,cap,rfl,rfl,_⟩
 ·exact⟨none,0,rfl,λ_=>⟨rfl,rfl⟩,λa h=>(nomatch h)⟩
 ·refine⟨_,cap,rfl,λh=>(nomatch h),λa h=>?_⟩;obtain rfl:=qBc h;intro j v hj;rw[<- yGn xs css hall]at hj;have:=hcells j v hj;unfold Addr.add;split
  ·rename_i h0;subst h0;exact this
  ·exact this
 ·exact⟨some a,cap,rfl,λh=>(nomatch h),λ_ _ j v hj=>by simp at hj⟩
theorem xBh:∃ i0,qEr.info? 9=some i0/\i0.zero=some (.string ⟨#[]⟩)/\i0.size=1/\i0.bytes=16:=by
 have h:(qEr.info? 9).map (λi=>(i.zero,i.size,i.bytes))=some (some (.string ⟨#[]⟩),1,16):=by kernel_rfl
 cases hi:qEr.info? 9 with
 |none=>rw[hi]at h;cases h
 |some i =>
  rw[hi]at h;simp only[Option.map_some,aA,aC]at h;exact⟨i,rfl,h.1,h.2.1,h.2.2⟩
theorem Xb.mono{w w':World}{u:Value}{xs:List (List UInt8)}(h:Xb w u xs)(hk:∀ b,b<w.heap.size->w'.heap[b]?=w.heap[b]?):Xb w' u xs:=by
 obtain⟨p,c,h1,h2,h3⟩:=h;refine⟨p,c,h1,h2,λa ha j v hj=>?_⟩;have h4:=h3 a ha j v hj;have hb:(a.add j).block<w.heap.size:=yMc h4;exact(World.cell?_of_block (w:=w) (hk _ hb)).trans h4
theorem yQg(w:World)(n:Nat)(hn:n<=1000000):Calls qEr 37 #[.slice none 0 0,.int .i64 n] w λe w'=>∃ r,e=.returned r/\w'.ownsRow w.heap.size 9 1 r 0 []/\Below w.heap.size w w':=by
 by_cases h0:n=0
 ·subst h0;refine(Any8.slices_Grow_room Tryz.growA none 0 0 0 w (by omega) (by omega) (by omega) (by omega)).mono ?_;rintro e w' ⟨rfl,rfl⟩;exact⟨_,rfl,World.ownsRow_nil _ _ _ _,Below.refl _ _⟩
 ·obtain⟨i0,hi0,hz0,hs0,yYq⟩:=xBh;refine(Any8.slices_Grow_grow Tryz.growA i0 (.string ⟨#[]⟩) hi0 hz0 (by omega) none 0 0 n [] w (by omega) (by omega) (by rw[yYq];omega) (by omega) (by simp) (λ_=>rfl) (λa h=>by cases h)).mono ?_;rintro e w' ⟨rfl,rfl⟩;have hm:grownCap w (0+n) 0 9<=maxLen:=grownCap_le_maxLen w _ _ _ (by simp only[maxLen];omega);have hge:=grownCap_ge w (0+n) 0 9;refine⟨_,rfl,⟨rfl,.inr ⟨w.heap.size,grownCap w (0+n) 0 9,_,rfl,aS _,heap_alloc_new w.drew _,Nat.zero_le _,hm,?_,rfl⟩⟩,Below.alloc (Below.drew (Below.refl _ _)) (aS _) _⟩;simp only[Array.size_append,size_zeroCells,Value.cells];show 0+(0+n-0)*1+(grownCap w (0+n) 0 9-(0+n))*1=_;omega
theorem yMd{w:World}{base n:Nat}{r u:Value}{zs:List Value}{xs:List (List UInt8)}(hown:w.ownsRow base 9 1 r n zs)(hu:Xb w u xs)(hl:n+xs.length<=2000000)(hb:base<=w.heap.size):∃ r' w',(qBd #[32,32] 32 #[r,u]).run qEr w=.ok r' w'/\w'.ownsRow base 9 1 r' (n+xs.length) (zs++xs.map encStr)/\w.grownBy w' r.ownBlock:=by
 obtain⟨i0,hi0,hz0,hs0,yYq⟩:=xBh;have ut:qEr.underlying 32=some (.slice 9):=by kernel_rfl
 obtain⟨p,c,rfl,hp,hcells⟩:=hu;cases p with
 |none =>
  obtain⟨rfl,rfl⟩:=hp rfl;have h:=run_append_owned_none (P:=qEr) (w:=w) base 32 32 9 i0 1 ut hi0 r n zs hown;exact⟨r,w,h,by simpa using hown,⟨rfl,rfl,rfl,aS _,λ_ _ _=>rfl⟩⟩
 |some a =>
  obtain⟨r',w',h1,h2,h3,_⟩:=run_append_own w base 32 32 9 i0 (.string ⟨#[]⟩) 1 16 ut hi0 hz0 hs0 yYq rfl (by omega) r n zs hown a xs.length c (xs.map encStr) (by simp) (hcells a rfl) (λv hv=>by obtain⟨x,_,rfl⟩:=qBw.1 hv;rfl) (by simp only[maxLen];omega) (by omega) hb;exact⟨r',w',h1,h2,h3⟩
theorem zVn{ops:Array Oper}{rest:List Oper}{o:Oper}{a:Act}{Q:Exit->Act->World->Prop}{w w':World}{r u r':Value}(hgd:o.guard=none)(s x:Operand)(ho:o.op=.call { callee:=.builtin .append,args:=#[s,x],argTypes:=#[32,32] })(hty:o.type=32)(hs:a.eval s=r)(hx:a.eval x=u)(hrun:(qBd #[32,32] 32 #[r,u]).run qEr w=.ok r' w')(h:wpList qEr ops Q rest (a.put o.dst r') w'):wpList qEr ops Q (o::rest) a w:=by
 refine wpList_plain hgd λK hK=>?_
 unfold Oper.wp;simp[execOp,ho,hty,resolve,invoke,builtin,hs,hx,hrun,Result.andThen];exact hK _ _ h
set_option maxHeartbeats 4000000 in
set_option maxRecDepth 100000 in
theorem zLv(w:World)(bb oo cc:Nat)(u v:Value)(xs ys:List (List UInt8))(hu:Xb w u xs)(hv:Xb w v ys)(c0:w.cell? ⟨bb,oo,none⟩=some u)(c1:w.cell? ⟨bb,oo+1,none⟩=some v)(hl:xs.length+ys.length<=1000000):Calls qEr 20 #[.slice (some ⟨bb,oo,none⟩) 2 cc] w λe w'=>∃ r,e=.returned r/\w'.ownsRow w.heap.size 9 1 r (xs++ys).length ((xs++ys).map encStr)/\Below w.heap.size w w':=by
 have hbb:bb<w.heap.size:=yMc c0;have lu:∃ p c,u=.slice p xs.length c:=by obtain⟨p,c,h,_⟩:=hu;exact⟨p,c,h⟩
 have lv:∃ p c,v=.slice p ys.length c:=by obtain⟨p,c,h,_⟩:=hv;exact⟨p,c,h⟩
 have HU:Aside (Xb w u xs/\Xb w v ys):=⟨hu,hv⟩;clear hu hv;obtain⟨pu,cu,rfl⟩:=lu;obtain⟨pv,cv,rfl⟩:=lv;have hw:∀ w:World,Calls qEr 37 #[.slice none 0 0,.int .i64 ((xs.length:Int)+(ys.length:Int))] w λe w'=>∃ r,e=.returned r/\w'.ownsRow w.heap.size 9 1 r 0 []/\Below w.heap.size w w':=λw=>yQg w (xs.length+ys.length) hl
 have g0:¬ ((xs.length:Int)<0):=by omega
 have g1:¬ ((xs.length:Int)+(ys.length:Int)<0):=by omega
 have g2:wrap64 ((xs.length:Int)+(ys.length:Int))=(xs.length:Int)+(ys.length:Int):=by unfold wrap64;omega
 have g3:wrap64 (0+(xs.length:Int))=(xs.length:Int):=by unfold wrap64;omega
 have e37:∀ args w,(callFunc 37 args).run qEr w=.ok (.enter 37 args) w:=enters_of Tryz.func37 (by kernel_rfl) rfl
 go_enter Tryz.func20,Tryz.ntmps20
 go_wp2
 refine wp_loop_rounds 3 ?_;rw[rounds_succ]
 go_wp2
 rw[rounds_succ]
 go_wp2
 rw[rounds_succ]
 go_wp2_with (go_at_fn 37;refine(hw _).mono ?_;rintro e w1 ⟨r,rfl,hown,hb⟩)
 have hsz:=hb.size;have c0':w1.cell? ⟨bb,oo,none⟩=some (.slice pu xs.length cu):=(hb.cell (p:=⟨bb,oo,none⟩) hbb).trans c0;have c1':w1.cell? ⟨bb,oo+1,none⟩=some (.slice pv ys.length cv):=(hb.cell (p:=⟨bb,oo+1,none⟩) hbb).trans c1;obtain⟨r1,w2,ha1,ho1,hg1⟩:=yMd hown (HU.out.1.mono hb.block) (by omega) hsz;have hb2:Below w.heap.size w w2:=hb.grown hg1 hsz (λk hk=>(hown.lt k hk).1);have xNn:w2.cell? ⟨bb,oo+1,none⟩=some (.slice pv ys.length cv):=(hb2.cell (p:=⟨bb,oo+1,none⟩) hbb).trans c1;obtain⟨r2,w3,ha2,ho2,hg2⟩:=yMd ho1 (HU.out.2.mono hb2.block) (by omega) hb2.size;have hb3:Below w.heap.size w w3:=hb2.grown hg2 hb2.size (λk hk=>(ho1.lt k hk).1);have HO:Aside (w3.ownsRow w.heap.size 9 1 r2 (0+xs.length+ys.length) ([]++xs.map encStr++ys.map encStr)/\Below w.heap.size w w3):=⟨ho2,hb3⟩;have HA:Aside ((qBd #[32,32] 32 #[r,.slice pu xs.length cu]).run qEr w1=.ok r1 w2/\(qBd #[32,32] 32 #[r1,.slice pv ys.length cv]).run qEr w2=.ok r2 w3):=⟨ha1,ha2⟩;clear ho2 hb3 ho1 hg1 hg2 hown hb hb2 hsz c0 c1 ha1 ha2;refine wp_loop_rounds 3 ?_;rw[rounds_succ]
 go_wp2_with (refine zVn rfl (.tmp 31) (.tmp 32) rfl rfl rfl rfl HA.out.1 ?_)
 rw[rounds_succ]
 go_wp2_with (refine zVn rfl (.tmp 31) (.tmp 32) rfl rfl rfl rfl HA.out.2 ?_)
 rw[rounds_succ]
 go_wp2
 go_ret
 refine⟨r2,rfl,?_,HO.out.2⟩;have:=HO.out.1;rw[List.length_append,List.map_append];simpa using this
end Go.Dec
namespace Go.Dec
open Go.Proofs Go.RowKit
theorem Og{w:World}{b i:Nat}{cs:Array Value}{t:TypeId}{f:Nat × Nat}{v:Value}(h:w.heap[b]?=some (.cells cs t f)):(w.setCell ⟨b,i,none⟩ v).heap[b]?=some (.cells (cs.setIfInBounds i v) t f):=by
 unfold World.setCell;rw[qCv,if_pos rfl,h];rfl
theorem Kn{w:World}{b i k:Nat}{v:Value}(h:k≠b):(w.setCell ⟨b,i,none⟩ v).heap[k]?=w.heap[k]?:=by
 unfold World.setCell;rw[qCv,if_neg (λe=>h e.symm)]
theorem zVo(v:Value)(w:World):Calls qEr 208 #[v] w λe w'=>e=.panicked [{ v:=.iface 215 (.agg #[.int .i64 42,.int .i64 0]),recovered:=false }]/\w'=w:=by
 go_enter Tryz.func208,Tryz.ntmps208
 go_wp2
 exact⟨rfl,rfl,rfl⟩
theorem zOt(v:Value)(e0 at0:Int)(w:World):Calls qEr 139 #[v,.int .i64 e0,.int .i64 at0] w λe w'=>e=.panicked [{ v:=.iface 215 (.agg #[.int .i64 e0,.int .i64 at0]),recovered:=false }]/\w'=w:=by
 go_enter Tryz.func139,Tryz.ntmps139
 go_wp2
 exact⟨rfl,rfl,rfl⟩
theorem catch_idle(p:Addr)(w:World):CallsD qEr 154 #[.pointer (some p)] .returning w λe u' w'=>e=.returned (.tuple #[])/\u'=.returning/\w'=w:=by
 refine callsD_of_wpS Tryz.func154 rfl λc₀ cs hu=>?_
 apply wpS_seq;apply wpS_region;simp[wpOpsS,go_sem,recoverD,hu,Tryz.ntmps154,Exit.thenS];have e:∀ (x y:Value),(#[x]++(qDy 10 undef).setIfInBounds 3 y:Array Value)=#[x,undef,undef,undef,y,undef,undef,undef,undef,undef,undef]:=λ_ _=>rfl
 rw[e];refine wpS_of_wp ?_
 go_wp2
 cases c₀;simp_all[bodyPostS,results,Tryz.results82]
set_option maxRecDepth 100000 in
theorem catch_panicking(p:Addr)(a b:Int)(older:List PanicEntry)(w:World)(hc:w.heap[p.block]?=some (.cells #[.int .i64 0,.int .i64 0] 215 (0,0)))(hp:p=⟨p.block,0,none⟩):CallsD qEr 154 #[.pointer (some p)] (.panicking ({ v:=.iface 215 (.agg #[.int .i64 a,.int .i64 b]),recovered:=false }::older)) w λe u' w' =>
  e=.returned (.tuple #[])/\u'=.panicking ({ v:=.iface 215 (.agg #[.int .i64 a,.int .i64 b]),recovered:=true }::older)/\w'.heap[p.block]?=some (.cells #[.int .i64 a,.int .i64 b] 215 (0,0))/\Keep (λb _=>b=p.block) w w'/\w'.os=w.os/\w'.tape=w.tape/\w'.output=w.output:=by
 refine callsD_of_wpS Tryz.func154 rfl λc₀ cs hu=>?_
 apply wpS_seq;apply wpS_region;simp[wpOpsS,go_sem,recoverD,hu,Tryz.ntmps154,Exit.thenS];have e:∀ (x y:Value),(#[x]++(qDy 10 undef).setIfInBounds 3 y:Array Value)=#[x,undef,undef,undef,y,undef,undef,undef,undef,undef,undef]:=λ_ _=>rfl
 rw[e];refine wpS_of_wp ?_;obtain⟨pb,po,pw⟩:=p;simp only[Addr.mk.injEq,true_and]at hp;obtain⟨rfl,rfl⟩:=hp;simp only at hc;have hta:∀ (v:Value) (w:World),(Instr.typeAssert (.iface 215 v) 20 215 true).run qEr w=.ok (.tuple #[v,.bool true]) w:=λ_ _=>by kernel_rfl
 have hlt:pb<w.heap.size:=(qCk.1 hc).1;have hc0:w.cell? ⟨pb,0,none⟩=some (.int .i64 0):=by simp[qAj,hc]
 have hc1:w.cell? ⟨pb,1,none⟩=some (.int .i64 0):=by simp[qAj,hc]
 have hz0:w.frozen? ⟨pb,0,none⟩=false:=by simp[World.frozen?,hc]
 have hz1:w.frozen? ⟨pb,1,none⟩=false:=by simp[World.frozen?,hc]
 go_wp2
 have hs1:=Og (i:=0) (v:=.int .i64 a) hc;have hs2:=Og (i:=1) (v:=.int .i64 b) hs1;have hs3:∀ k,k≠pb->((w.setCell ⟨pb,0,none⟩ (.int .i64 a)).setCell ⟨pb,1,none⟩ (.int .i64 b)).heap[k]?=w.heap[k]?:=λk hk=>(Kn hk).trans (Kn hk)
 have hs4:((w.setCell ⟨pb,0,none⟩ (.int .i64 a)).setCell ⟨pb,1,none⟩ (.int .i64 b)).heap.size=w.heap.size:=by simp
 have hk:Keep (λb _=>b=pb) w (((w.setCell ⟨pb,0,none⟩ (.int .i64 a)).setCell ⟨pb,1,none⟩ (.int .i64 b)).alloc (.cells #[.int .i64 a,.int .i64 b] 215)):=
  Keep.mZ (M:=λb=>b=pb) (by simp) (λk hk hn=>(Below.heap_alloc _ _ k (by rw[hs4];exact hk)).trans (hs3 k hn)) (λ_ _ h=>h)
 have hs5:(((w.setCell ⟨pb,0,none⟩ (.int .i64 a)).setCell ⟨pb,1,none⟩ (.int .i64 b)).alloc (.cells #[.int .i64 a,.int .i64 b] 215)).heap[pb]?=some (.cells #[.int .i64 a,.int .i64 b] 215 (0,0)):=
  (Below.heap_alloc _ _ pb (by rw[hs4];exact hlt)).trans hs2
 have ho:(((w.setCell ⟨pb,0,none⟩ (.int .i64 a)).setCell ⟨pb,1,none⟩ (.int .i64 b)).alloc (.cells #[.int .i64 a,.int .i64 b] 215)).os=w.os:=rfl;have ht:(((w.setCell ⟨pb,0,none⟩ (.int .i64 a)).setCell ⟨pb,1,none⟩ (.int .i64 b)).alloc (.cells #[.int .i64 a,.int .i64 b] 215)).tape=w.tape:=rfl;have hou:(((w.setCell ⟨pb,0,none⟩ (.int .i64 a)).setCell ⟨pb,1,none⟩ (.int .i64 b)).alloc (.cells #[.int .i64 a,.int .i64 b] 215)).output=w.output:=rfl;clear hs1 hs2 hs3 hs4 hc0 hc1 hz0 hz1 hta;generalize (((w.setCell ⟨pb,0,none⟩ (.int .i64 a)).setCell ⟨pb,1,none⟩ (.int .i64 b)).alloc (.cells #[.int .i64 a,.int .i64 b] 215))=W at *;cases c₀;simp[bodyPostS,results,Tryz.results82,hs5,hk,ho,ht,hou,go_sem]
theorem tried_calls{g:FuncId}{caps:Array Value}{w:World}(xGu:∀ args w,(callFunc 154 args).run qEr w=.ok (.enter 154 args) w)(eg:∀ args w,(callFunc g args).run qEr w=.ok (.enter g args) w){R1:World->Prop}{R2:Int->Int->World->Prop}(hg:Calls qEr g caps (w.alloc (.cells #[.int .i64 0,.int .i64 0] 215)) λe w2=>w2.heap[w.heap.size]?=some (.cells #[.int .i64 0,.int .i64 0] 215 (0,0))/\((e=.returned (.tuple #[])/\R1 w2) \/
  ∃ a b,e=.panicked [{ v:=.iface 215 (.agg #[.int .i64 a,.int .i64 b]),recovered:=false }]/\R2 a b w2)):Calls qEr 136 #[.func (.func g) #[] caps] w λe w'=>(e=.returned (.agg #[.int .i64 0,.int .i64 0])/\∃ w2,R1 w2/\Keep (λb _=>b=w.heap.size) w2 w'/\w'.os=w2.os/\w'.tape=w2.tape/\w'.output=w2.output) \/
  ∃ a b,e=.returned (.agg #[.int .i64 a,.int .i64 b])/\∃ w2,R2 a b w2/\Keep (λb _=>b=w.heap.size) w2 w'/\w'.os=w2.os/\w'.tape=w2.tape/\w'.output=w2.output:=by
 have hmf:∀ (fn:Fn) (first cap:Array Value) (w:World),(Instr.makeFunc fn first cap).run qEr w=.ok (.func fn first cap) w:=λ_ _ _ _=>rfl
 go_enter_defers Tryz.func136,Tryz.ntmps136
 go_wp2
 refine hg.mono ?_;rintro e w2 ⟨hb,(⟨rfl,h1⟩|⟨a,b,rfl,h2⟩)⟩
 ·have hlt:w.heap.size<w2.heap.size:=(qCk.1 hb).1;have hc0:w2.cell? ⟨w.heap.size,0,none⟩=some (.int .i64 0):=by simp[qAj,hb]
  have hc1:w2.cell? ⟨w.heap.size,1,none⟩=some (.int .i64 0):=by simp[qAj,hb]
  have hz0:w2.frozen? ⟨w.heap.size,0,none⟩=false:=by simp[World.frozen?,hb]
  have hz1:w2.frozen? ⟨w.heap.size,1,none⟩=false:=by simp[World.frozen?,hb]
  have hs1:=Og (i:=0) (v:=.int .i64 0) hb;have hs2:=Og (i:=1) (v:=.int .i64 0) hs1;have hs3:∀ k,k≠w.heap.size->((w2.setCell ⟨w.heap.size,0,none⟩ (.int .i64 0)).setCell ⟨w.heap.size,1,none⟩ (.int .i64 0)).heap[k]?=w2.heap[k]?:=λk hk=>(Kn hk).trans (Kn hk)
  have hs4:((w2.setCell ⟨w.heap.size,0,none⟩ (.int .i64 0)).setCell ⟨w.heap.size,1,none⟩ (.int .i64 0)).heap.size=w2.heap.size:=by simp
  have ho:((w2.setCell ⟨w.heap.size,0,none⟩ (.int .i64 0)).setCell ⟨w.heap.size,1,none⟩ (.int .i64 0)).os=w2.os:=rfl;have ht:((w2.setCell ⟨w.heap.size,0,none⟩ (.int .i64 0)).setCell ⟨w.heap.size,1,none⟩ (.int .i64 0)).tape=w2.tape:=rfl;have hou:((w2.setCell ⟨w.heap.size,0,none⟩ (.int .i64 0)).setCell ⟨w.heap.size,1,none⟩ (.int .i64 0)).output=w2.output:=rfl
  go_wp2
  generalize ((w2.setCell ⟨w.heap.size,0,none⟩ (.int .i64 0)).setCell ⟨w.heap.size,1,none⟩ (.int .i64 0))=W at *;have hk:Keep (λb _=>b=w.heap.size) w2 W:=Keep.mZ (M:=λb=>b=w.heap.size) (Nat.le_of_eq hs4.symm) (λk _ hn=>hs3 k hn) (λ_ _ h=>h);have hd0:W.cell? ⟨w.heap.size,0,none⟩=some (.int .i64 0):=by simp[qAj,hs2]
  have hd1:W.cell? ⟨w.heap.size,1,none⟩=some (.int .i64 0):=by simp[qAj,hs2]
  refine leaves_cons (f:=154) (args:=#[.pointer (some ⟨w.heap.size,0,none⟩)]) (by simp) (by simp[go_sem,xGu]) ?_;refine(catch_idle ⟨w.heap.size,0,none⟩ _).mono ?_;rintro e u' w'' ⟨rfl,rfl,rfl⟩;simp[Leaves,settle,results,Tryz.results44,go_sem,hd0,hd1];exact .inl ⟨w2,h1,hk,ho,ht,hou⟩
 ·refine leaves_cons (f:=154) (args:=#[.pointer (some ⟨w.heap.size,0,none⟩)]) (by simp) (by simp[go_sem,xGu]) ?_;refine(catch_panicking ⟨w.heap.size,0,none⟩ a b [] w2 hb rfl).mono ?_;rintro e u' w'' ⟨rfl,rfl,hb2,hk,ho,ht,hou⟩;have hd0:w''.cell? ⟨w.heap.size,0,none⟩=some (.int .i64 a):=by simp[qAj,hb2]
  have hd1:w''.cell? ⟨w.heap.size,1,none⟩=some (.int .i64 b):=by simp[qAj,hb2]
  simp[Leaves,settle,results,Tryz.results44,go_sem,hd0,hd1];exact .inr ⟨a,b,⟨rfl,rfl⟩,w2,h2,hk,ho,ht,hou⟩
section
variable {si so sp sd od:Sh}
theorem yQh{β:Nat->Pl}{w:World}{N:Nat->Nat->Prop}(a b:Int):V.Rel β w N (.agg [.val (.int .i64) a,.val (.int .i64) b]) (.agg #[.int .i64 a,.int .i64 b]):=
 ⟨[.int .i64 a,.int .i64 b],rfl,[.int .i64 a],[.int .i64 b],rfl,by simp only[L.Rel,Ty.Rel],[.int .i64 b],[],rfl,by simp only[L.Rel,Ty.Rel],rfl⟩
theorem zCi{C:Ctx}{β:Nat->Pl}{w:World}{σ:St}{a:Act}(h:Sim C β σ a w)(x y:Int):Sim C β ⟨[.agg [.val (.int .i64) x,.val (.int .i64) y]],σ.h⟩ { tmps:=#[.agg #[.int .i64 x,.int .i64 y]],defers:=[] } w:=by
 refine⟨h.heap,rfl,rfl,λi u hu=>?_⟩;cases i with
 |zero =>
  simp only[List.getElem?_cons_zero,aA]at hu;subst hu;exact yQh x y
 |succ i=>simp at hu
theorem zVp{F:si.X->Option (Sum so.X sp.X)}(hF:∀ x,∃ v z,F x=some (.inr z)/\sp.enc z=⟨[.agg [.val (.int .i64) 42,.val (.int .i64) 0]],(si.enc x).h⟩/\(si.enc x).r=[v]):dA qEr 208 si so 215 sp F:=by
 refine⟨by kernel_rfl,λx y hy C β w xs hP hkf hs=>?_⟩;obtain⟨v,z,hz,he,hr⟩:=hF x;rw[hz]at hy;obtain rfl:=qBc hy;have hl:xs.length=1:=by have:=hs.size;rw[hr]at this;simpa using this.symm
 obtain⟨u,rfl⟩:=qEw.1 hl;refine(zVo u w).mono ?_;rintro e w' ⟨rfl,rfl⟩;refine .inr ⟨z,_,β,rfl,rfl,?_⟩;rw[he];exact zCi hs 42 0
theorem zOu{F:si.X->Option (Sum so.X sp.X)}(hF:∀ x,∃ v a b z,F x=some (.inr z)/\sp.enc z=⟨[.agg [.val (.int .i64) a,.val (.int .i64) b]],(si.enc x).h⟩/\(si.enc x).r=[v,.one (.val (.int .i64) a),.one (.val (.int .i64) b)]):dA qEr 139 si so 215 sp F:=by
 refine⟨by kernel_rfl,λx y hy C β w xs hP hkf hs=>?_⟩;obtain⟨v,a,b,z,hz,he,hr⟩:=hF x;rw[hz]at hy;obtain rfl:=qBc hy;have hl:xs.length=3:=by have:=hs.size;rw[hr]at this;simpa using this.symm
 match xs,hl with
 |[u0,u1,u2],_ =>
  have h1:=hs.reg 1 (.one (.val (.int .i64) a)) (by rw[hr];rfl);have h2:=hs.reg 2 (.one (.val (.int .i64) b)) (by rw[hr];rfl);simp only[V.Rel,L.Rel,Ty.Rel,aL,and_true]at h1 h2;simp at h1 h2;subst h1 h2;refine(zOt u0 a b w).mono ?_;rintro e w' ⟨rfl,rfl⟩;refine .inr ⟨z,_,β,rfl,rfl,?_⟩;rw[he];exact zCi hs a b
theorem zQn{g:FuncId}{caps:List L}{F:sd.X->Option (Sum od.X sp.X)}{G:si.X->Option so.X}{conv:si.X->sd.X}{o1:od.X->so.X}{o2:sp.X->so.X}(hM:dA qEr g sd od 215 sp F)(hos:sd.os.length=si.os.length)(hin:∀ x,si.enc x=⟨[.one (.clo g caps)],(sd.enc (conv x)).h⟩/\(sd.enc (conv x)).r=caps.map V.one)(hG:∀ x,G x=match F (conv x) with|some (.inl y)=>some (o1 y)|some (.inr z)=>some (o2 z)|none=>none)(h1:∀ y,so.enc (o1 y)=⟨[.agg [.val (.int .i64) 0,.val (.int .i64) 0]],(od.enc y).h⟩/\(od.enc y).r=[])(h2:∀ z,∃ a b,so.enc (o2 z)=⟨[.agg [.val (.int .i64) a,.val (.int .i64) b]],(sp.enc z).h⟩/\(sp.enc z).r=[.agg [.val (.int .i64) a,.val (.int .i64) b]])(hg:g<1000000:=by decide):dV qEr 136 si so G:=by
 refine⟨by kernel_rfl,λx y hy C β w xs hP hkf hs=>?_⟩;obtain⟨he,hr⟩:=hin x;rw[hG]at hy;rw[he]at hs;have hl:xs.length=1:=by have:=hs.size;simpa using this.symm
 obtain⟨u,rfl⟩:=qEw.1 hl;have hu:=hs.reg 0 _ rfl;simp only[V.Rel,L.Rel]at hu;obtain⟨us,hu,hcap⟩:=hu;have hu:u=.func (.func g) #[] us.toArray:=by rw[zEh hg]at hu;simpa using hu
 subst hu;have hargs:=Nf hcap;have hsd:Sim C β (sd.enc (conv x)) { tmps:=us.toArray,defers:=[] } w:=by
  have e:sd.enc (conv x)=⟨caps.map V.one,(sd.enc (conv x)).h⟩:=by rw[<- hr]
  rw[e];refine⟨hs.heap,rfl,by simpa using hargs.length,λi v hv=>?_⟩;have hi:=(bK.1 hv).1;have hi':i<us.length:=by rw[<- hargs.length];exact hi
  have:=hargs.get i hi hi';rw[(bK.1 hv).2]at this;have e2:(us.toArray).getD i undef=us[i]:=by simp[hi']
  rw[e2];exact this
 have hk:Keep (λ_ _=>False) w (w.alloc (.cells #[.int .i64 0,.int .i64 0] 215)):=Keep.mZ (M:=λ_=>False) (by simp) (λk hk _=>Below.heap_alloc _ _ k hk) (λ_ _ h=>h);have hsz:(w.alloc (.cells #[.int .i64 0,.int .i64 0] 215)).heap.size=w.heap.size+1:=by simp
 have hnew:(w.alloc (.cells #[.int .i64 0,.int .i64 0] 215)).heap[w.heap.size]?=some (.cells #[.int .i64 0,.int .i64 0] 215 (0,0)):=World.alloc_heap_new _ _;have hsN:=hsd.inN hk (aS _) (by rw[hsz];omega);cases hFx:F (conv x)with
 |none=>rw[hFx]at hy;cases hy
 |some r =>
  rw[hFx]at hy;have hcall:=hM.2 (conv x) r hFx _ β _ us (by exact hP) (by rw[hos];exact hkf) hsN;have zBu:∀ {β':Nat->Pl}{σ':St}{a':Act}{w2:World},Sim (Uy C β (sd.enc (conv x)).h w (w.alloc (.cells #[.int .i64 0,.int .i64 0] 215)) w.heap.size hsd.heap hk) β' σ' a' w2->w2.heap[w.heap.size]?=some (.cells #[.int .i64 0,.int .i64 0] 215 (0,0)):=λh=>by
   rw[h.heap.frame.block _ (by show _<(w.alloc _).heap.size;rw[hsz];omega) (λj hm=>?_)]
   ·exact hnew
   ·obtain⟨i,o,ho,_,hb⟩:=hm;have:=(hsd.heap.eZ i o _ ho ⟨_,hb⟩).2.1;omega
  have hos0:=hs.heap.os;have yGo:=hs.heap.tape;have yGp:=hs.heap.output;have hC:=tried_calls (w:=w) (g:=g) (caps:=us.toArray) (R1:=λw2=>∃ y β' us,r=.inl y/\Sim (Uy C β (sd.enc (conv x)).h w (w.alloc (.cells #[.int .i64 0,.int .i64 0] 215)) w.heap.size hsd.heap hk) β' (od.enc y) { tmps:=us,defers:=[] } w2)
   (R2:=λa b w2=>∃ z β' us,r=.inr z/\so.enc (o2 z)=⟨[.agg [.val (.int .i64) a,.val (.int .i64) b]],(sp.enc z).h⟩/\Sim (Uy C β (sd.enc (conv x)).h w (w.alloc (.cells #[.int .i64 0,.int .i64 0] 215)) w.heap.size hsd.heap hk) β' (sp.enc z) { tmps:=us,defers:=[] } w2)
   (λargs w=>zW (by kernel_rfl) args w) (λargs w=>zW hM.1 args w) (hcall.mono (by
    rintro e w2 (⟨z,vs,β',rfl,rfl,hs'⟩|⟨z,v,β',rfl,rfl,hs'⟩)
    ·refine⟨zBu hs',.inl ⟨?_,z,β',_,rfl,hs'⟩⟩;have hv:vs=[]:=by
      have:=hs'.size;rw[(h1 z).2]at this;simpa using this.symm
     rw[hv];rfl
    ·obtain⟨a,b,hz,hzr⟩:=h2 z;refine⟨zBu hs',.inr ⟨a,b,?_,z,β',_,rfl,hz,hs'⟩⟩;have:=hs'.reg 0 _ (by rw[hzr];rfl);obtain⟨cs,hc,c1,c2,ec,k1,c3,c4,ec2,k2,k3⟩:=this;simp only[L.Rel,Ty.Rel]at k1 k2;simp only[aJ]at k3;subst k1 k2 k3 ec2 ec;have hc:v=.agg #[.int .i64 a,.int .i64 b]:=by simpa using hc
     rw[hc]))
  refine hC.mono ?_;have e0:(w.alloc (.cells #[.int .i64 0,.int .i64 0] 215)).os=w.os:=rfl;have e1:(w.alloc (.cells #[.int .i64 0,.int .i64 0] 215)).tape=w.tape:=rfl;have e2:(w.alloc (.cells #[.int .i64 0,.int .i64 0] 215)).output=w.output:=rfl;rintro e w' (⟨rfl,w2,⟨z,β',vs,rfl,hs'⟩,hk',ho,ht,hou⟩|⟨a,b,rfl,w2,⟨z,β',vs,rfl,hz,hs'⟩,hk',ho,ht,hou⟩)
  ·obtain rfl:=qBc hy;have:=Sim.yPb (aS _) (by rw[hsz];omega) hs' hk' (ho.trans (hs'.heap.os.trans (e0.trans hos0))) (ht.trans (hs'.heap.tape.trans (e1.trans yGo))) (hou.trans (hs'.heap.output.trans (e2.trans yGp)));refine⟨[.agg #[.int .i64 0,.int .i64 0]],β',rfl,?_⟩;rw[(h1 z).1];exact zCi this 0 0
  ·obtain rfl:=qBc hy;have:=Sim.yPb (aS _) (by rw[hsz];omega) hs' hk' (ho.trans (hs'.heap.os.trans (e0.trans hos0))) (ht.trans (hs'.heap.tape.trans (e1.trans yGo))) (hou.trans (hs'.heap.output.trans (e2.trans yGp)));refine⟨[.agg #[.int .i64 a,.int .i64 b]],β',rfl,?_⟩;rw[hz];exact zCi this a b
end
end Go.Dec
