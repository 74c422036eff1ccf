/- Part of a proof over this seat: a library of my own, and what it says of this seat. No statement is proved here. -/
import Derived.Test.YtfbilefiaminnaaGreatDoorPartAQ
import Derived.Test.YtfbilefiaminnaaGreatDoorPartAR
import Derived.Test.YtfbilefiaminnaaGreatDoorPartAK
import Derived.Test.YtfbilefiaminnaaGreatDoorPartAE
import Derived.Shelf.SlIter.Sorted
import Derived.Shelf.SlIter.Collect
import Derived.KernelRfl
import Derived.Shelf.Spec.SlicesGrow
import Derived.Ground.Names8Prog
import Derived.Test.YtfbilefiaminnaaGreatDoorProg
import Derived.Laws.OwnMore
import Derived.Laws.AppendOwnNone
import Derived.WalkKit
import Derived.WalkSmall
import Derived.Deep.LoopGhost
import Derived.Handy
namespace Go.Dec
open Go.Proofs Go.RowKit Go.Sort Go.Shelf Go.Maps
open Go.WideElems (Fit rd rg)
open Go.MapKept (Stamped)
theorem Tryz.sortsA(m:Nat):AnyZ.SortsIn Tryz.prog Tryz.sortedA_ren Fence.wide m :=
 ⟨λblk off cap ss W hH hblk hsz=>callsIn_wide.2 (AnyM.slices_Sort_string Tryz.sortA blk off cap ss W hH hblk hsz),
  λp cap W=>callsIn_wide.2 (AnyM.slices_Sort_string_none Tryz.sortA p cap W)⟩
theorem zVh{a b c:List UInt8}(h:a<=b)(g:b<=c):a<=c:=Std.le_trans h g
theorem zHz(a:List UInt8):∀ l:List (List UInt8),(zAa a l).Perm (a::l)
 |[]=>.refl _
 |b::r=>by
  unfold zAa;cases decide (a<=b)
  ·exact((zHz a r).cons b).trans (.swap a b r)
  ·exact .refl _
theorem Ui:∀ l:List (List UInt8),(vY l).Perm l
 |[]=>.refl _
 |a::r=>(zHz a _).trans ((Ui r).cons a)
theorem zLt(a:List UInt8):∀ l:List (List UInt8),l.Pairwise (· <= ·)->(zAa a l).Pairwise (· <= ·)
 |[],_=>by simp[zAa]
 |b::r,h=>by
  unfold zAa;rw[List.pairwise_cons]at h;cases hd:decide (a<=b)
  ·have hba:b<=a:=by
    rcases Std.le_total (a:=a) (b:=b)with h1|h1
    ·exact absurd h1 (of_decide_eq_false hd)
    ·exact h1
   refine List.pairwise_cons.2 ⟨λc hc=>?_,zLt a r h.2⟩;rcases List.mem_cons.1 ((zHz a r).mem_iff.1 hc)with rfl|hc
   ·exact hba
   ·exact h.1 c hc
  ·refine List.pairwise_cons.2 ⟨λc hc=>?_,List.pairwise_cons.2 h⟩;have hab:a<=b:=of_decide_eq_true hd;rcases List.mem_cons.1 hc with rfl|hc
   ·exact hab
   ·exact zVh hab (h.1 c hc)
theorem zIa:∀ l:List (List UInt8),(vY l).Pairwise (· <= ·)
 |[]=>.nil
 |a::r=>zLt a _ (zIa r)
theorem zFl:∀ {l m:List (List UInt8)},l.Perm m->l.Pairwise (· <= ·)->m.Pairwise (· <= ·)->l=m
 |[],m,h,_,_=>(List.Perm.nil_eq h)
 |a::r,m,h,h1,h2=>by
  cases m with
  |nil=>exact absurd h.length_eq (by simp)
  |cons b s =>
   rw[List.pairwise_cons]at h1 h2;have hab:a<=b:=by
    rcases List.mem_cons.1 (h.mem_iff.2 (List.mem_cons_self (a:=b) (l:=s)))with e|e
    ·rw[e];exact Std.le_refl _
    ·exact h1.1 b e
   have hba:b<=a:=by
    rcases List.mem_cons.1 (h.mem_iff.1 (List.mem_cons_self (a:=a) (l:=r)))with e|e
    ·rw[e];exact Std.le_refl _
    ·exact h2.1 a e
   obtain rfl:a=b:=Std.le_antisymm hab hba;rw[zFl (List.Perm.cons_inv h) h1.2 h2.2]
theorem yNy{l m:List (List UInt8)}(h:l.Perm m):(l.mergeSort λx y=>decide (x<=y))=vY m:=by
 refine zFl ((List.mergeSort_perm _ _).trans (h.trans (Ui m).symm)) ?_ (zIa m);have:=List.pairwise_mergeSort (le:=λx y:List UInt8=>decide (x<=y)) (λa b c h1 h2=>decide_eq_true (zVh (of_decide_eq_true h1) (of_decide_eq_true h2))) (λa b=>by
  rcases Std.le_total (a:=a) (b:=b)with h|h
  ·simp[h]
  ·simp[h]) l
 exact this.imp λh=>of_decide_eq_true h
theorem zQb:∀ {l:List (List UInt8)},Wq l=true->l.Nodup
 |[],_=>.nil
 |a::r,h=>by
  simp only[Wq,aD,Bool.not_eq_true',List.contains_eq_mem,decide_eq_false_iff_not]at h;exact List.nodup_cons.2 ⟨h.1,zQb h.2⟩
theorem zIb{w w':World}{N:Nat->Nat->Prop}{tid:TypeId}{v:Value}{xs:List (List UInt8)}(hN:∀ b j,w.heap.size<=b->¬ N b j)(h:w'.ownsRow w.heap.size tid 1 v xs.length (xs.map encStr)):(Ty.slice .str).Rel w' N xs [v]:=by
 refine⟨v,rfl,?_⟩;rcases h.2 with ⟨rfl,h0⟩|⟨g,cap,cur,rfl,hge,hcell,r5,r6,r7,r8⟩
 ·exact .inl ⟨rfl,List.eq_nil_of_length_eq_zero h0⟩
 ·refine .inr (.inl ⟨g,0,cap,xs.map λx=>[encStr x],rfl,(Array.getElem?_eq_some_iff.1 hcell).1,λj _ _=>hN g j hge,r5,r6,?_,?_,?_⟩)
  ·have:∀ l:List (List UInt8),bD (λx c=>Ty.str.Rel w' N x c) l (l.map λx=>[encStr x]):=by
    intro l;induction l with
    |nil=>trivial
    |cons a r ih=>exact⟨rfl,ih⟩
   exact this xs
  ·intro c hc;obtain⟨x,_,rfl⟩:=List.mem_map.1 hc;rfl
  ·intro j c hj;have hfl:(xs.map λx=>[encStr x]).flatten=xs.map encStr:=by
    clear h hj r8 r7 r5;induction xs with
    |nil=>rfl
    |cons a r ih=>simp[ih]
   rw[hfl,<- r8,List.getElem?_take]at hj;split at hj
   ·simp only[World.cell?,hcell,Nat.zero_add,<- Array.getElem?_toList,hj];rfl
   ·cases hj
theorem xAa{C:Ctx}{β:Nat->Pl}{h:List Ob}{w:World}(hs:fB C β h w):∀ b j,w.heap.size<=b->¬ C.N β h b j:=by
 intro b j hb hn;rcases hn with hn|⟨id,o,h1,h2,h3⟩
 ·have:=hs.n0 b j hn;have:=hs.size;omega
 ·have:=(hs.eY id o b h1 ⟨j,h3⟩).2.1;omega
theorem ySj{P:Program}{k:TypeId}(hst:P.underlying k=some .string){w:World}{N:Nat->Nat->Prop}{b:Nat}{m:List (List UInt8 × Int)}{ms:Array MapEntry}(hb:w.heap[b]?=some (.map ms ms.size))(hE:nQ w N .str (.int .i64) m ms)(hnd:(m.map Prod.fst).Nodup)(hlen:∀ e∈m,e.1.length<=1000000)(hsz:m.length<=1000000):∃ D:DataW Unit,w.ownsMap P k (λ_=>some (.nil,[])) b m.length D/\Maps.size D<=m.length/\(strKeys D).Perm (m.map Prod.fst):=by
 have hz:=hE.size;have hl:=hE.1;have hkeys:ms.toList.map (·.key)=m.map λe=>encStr e.1:=by
  have:∀ (a:List (List UInt8 × Int)) (c:List MapEntry),bD (λ(x:List UInt8 × Int) (q:MapEntry)=>Ty.str.bP w N x.1 q.key/\(Ty.int .i64).bP w N x.2 q.val) a c->c.map (·.key)=a.map λe=>encStr e.1:=by
   intro a;induction a with
   |nil=>intro c h;cases c with|nil=>rfl|cons _ _=>exact h.elim
   |cons x r ih =>
    intro c h;cases c with
    |nil=>exact h.elim
    |cons q s =>
     obtain⟨⟨h1,_⟩,h2⟩:=h;simp only[Ty.bP,Ty.isAgg,Bool.false_eq_true,if_false,Ty.Rel,aJ,and_true]at h1;simp only[List.map_cons,ih s h2,h1]
  exact this m ms.toList hl
 have hrd:∀ x∈ms.toList,∃ e∈m,x.key=encStr e.1:=by
  intro x hx;have:x.key∈m.map λe=>encStr e.1:=by rw[<- hkeys];exact List.mem_map.2 ⟨x,hx,rfl⟩
  obtain⟨e,he,h⟩:=List.mem_map.1 this;exact⟨e,he,h.symm⟩
 have hrg:∀ x∈ms.toList,∀ s,x.key=encStr s->s.length<=1000000->rd P k (λ_=>some ((.nil:DataW Unit),[])) x=some (.string s,.nil):=by
  intro x _ s hs hsl;have hkf:Go.keyOf P k x.key=some (Lit.string s):=by
   rw[hs];have:s.toArray.size<=maxLen:=by simp[maxLen];omega
   simp[Go.keyOf,hst,mapKey,ByteArray.size,encStr,maxLen];omega
  simp[Go.WideElems.rd,hkf]
 refine⟨.map ((ms.toList.map (rg P k λ_=>some (.nil,[]))).foldr DataW.insert []),⟨ms,ms.size,hb,⟨by simp only[maxLen];omega,⟨λx hx=>?_,?_,?_⟩,λx hx=>?_⟩,by omega,rfl⟩,?_,?_⟩
 ·obtain⟨i,hi,hx⟩:=List.getElem_of_mem hx;have hi':ms[i]?=some x:=by rw[<- Array.getElem?_toList,List.getElem?_eq_getElem hi,hx]
  rw[hE.2 i x hi'];simpa using hi
 ·have:ms.toList.map (·.born)=List.range ms.size:=by
   apply List.ext_getElem?;intro i;rw[List.getElem?_map,Array.getElem?_toList];by_cases hi:i<ms.size
   ·rw[List.getElem?_range hi,Array.getElem?_eq_getElem hi];simp only[Option.map_some,hE.2 i _ (Array.getElem?_eq_getElem hi)]
   ·rw[List.getElem?_eq_none (by simpa using hi),Array.getElem?_eq_none (by omega)];rfl
  rw[this];exact List.nodup_range
 ·rw[hkeys];have:(m.map λe=>encStr e.1)=(m.map Prod.fst).map encStr:=by rw[List.map_map];rfl
  rw[this,List.Nodup,List.pairwise_map];exact hnd.imp λh e=>h (encStr_inj e)
 ·obtain⟨e,he,h⟩:=hrd x hx;exact⟨_,hrg x hx _ h (hlen e he)⟩
 ·show List.length _<=_;rw[(Go.WideShapes.sorted_perm _).length_eq,List.length_map,Array.length_toList];omega
 ·show(List.map _ _).Perm _;refine((Go.WideShapes.sorted_perm _).map _).trans ?_;rw[List.map_map];have:(ms.toList.map λx=>strOf (rg P k (λ_=>some ((.nil:DataW Unit),[])) x).1)=m.map Prod.fst:=by
   have hinj:(ms.toList.map λx=>strOf (rg P k (λ_=>some ((.nil:DataW Unit),[])) x).1).map encStr=(m.map Prod.fst).map encStr:=by
    rw[List.map_map,List.map_map];have:(m.map (encStr ∘ Prod.fst))=ms.toList.map (·.key):=by rw[hkeys];rfl
    rw[this];refine List.map_congr_left λx hx=>?_
    obtain⟨e,he,h⟩:=hrd x hx;simp only[Function.comp,Go.WideElems.rg,hrg x hx _ h (hlen e he),Option.getD_some,strOf];exact h.symm
   exact(List.map_inj_right (f:=encStr) (λa b h=>encStr_inj h)).1 hinj
  show(List.map (λx=>strOf (rg P k (λ_=>some ((.nil:DataW Unit),[])) x).1) ms.toList).Perm _;rw[this]
abbrev Cb:Sh:=⟨1,[⟨0,false,[.clo 59 [(0,0)]]⟩],[.box 70 [.mp 1],.dm .str (.int .i64)]⟩
abbrev Cc:Sh:=⟨1,[⟨0,false,[.v (.slice .str)]⟩],[.box 70 [.mp 1],.dm .str (.int .i64)]⟩
set_option maxRecDepth 100000 in
theorem Wt(n:Nat):dV Tryz.prog 42 Cb Cc (kW n):=by
 refine⟨by kernel_rfl,λx y hy C β w xs hP hkf hs=>?_⟩;obtain⟨m,u⟩:=x;unfold kW at hy;obtain⟨hc,hy⟩:=iM hy;obtain rfl:=Option.some.inj hy;simp only[aD,List.all_eq_true]at hc;obtain⟨c1,c2,c3⟩:=hc;have c2:=bR c2;have henc:Cb.enc (m,u)=⟨[.one (.clo 59 [.ptr 0 0])],[.box 70 [.mp 1],.dm .str (.int .i64) m]⟩:=rfl;rw[henc]at hs;have hl:xs.length=1:=by have:=hs.size;simpa using this.symm
 obtain⟨v,rfl⟩:∃ v,xs=[v]:=List.length_eq_one_iff.1 hl;have hv:=hs.reg 0 _ rfl;simp only[V.Rel,L.Rel,L.eD]at hv;obtain⟨us,hv,p,us1,rfl,⟨hl0,hb0,b0,xEg,hp⟩,rfl⟩:=hv;have hO:=hs.heap.obj 0 _ rfl;simp only[Ob.Rel,aG,L.Rel]at hO;obtain⟨_,_,b0',cs,h01,⟨k1,k2,rfl,⟨_,_,b1,h11,hk1⟩,rfl⟩,hcell⟩:=hO;rw[xEg]at h01;obtain rfl:=Option.some.inj h01;subst hk1;have hO1:=hs.heap.obj 1 _ rfl;simp only[Ob.Rel]at hO1;obtain⟨_,_,b1',ms,h12,hmap,hE⟩:=hO1;rw[h11]at h12;obtain rfl:=Option.some.inj h12;simp only[aJ,and_true]at hp hv;subst hp;rw[zBa (by decide)]at hv;have hv:v=.func (.func 59) #[] #[.pointer (some ⟨b0,0,none⟩)]:=hv;subst hv;have hnd:=zQb c1;obtain⟨D,hown,hsz,hperm⟩:=ySj (P:=Tryz.prog) (k:=9) (by kernel_rfl) (w:=w) (b:=b1) hmap hE hnd (λe he=>bR (c3 e he)) c2;have xEh:b0<w.heap.size:=(Array.getElem?_eq_some_iff.1 hcell).1;have hcl:w.cell? ⟨b0,0,none⟩=some (.map (some b1)):=by simp[World.cell?,hcell]
 have hseq:=AnyZ.keys_gives { Tryz.keysA with } Fence.wide 2 trivial rfl (by omega) b0 b1 _ D w xEh hcl hown;have run:=(callsIn_wide (n:=5)).1 (AnyZ.sorted_in Tryz.sortedA Fence.wide 5 trivial trivial trivial trivial rfl (by omega) (Tryz.sortsA _) (enters_of Tryz.func26 (by kernel_rfl) rfl) 59 _ trivial (enters_of Tryz.func59 (by kernel_rfl) rfl) _ _ (by simp only[maxLen];omega) (by omega) w hseq);refine run.mono ?_;rintro e w' ⟨v,ss,rfl,hp2,hrow,_,hb⟩;have hsort:(ss.mergeSort λx y=>decide (x<=y))=vY (m.map Prod.fst):=yNy (hp2.trans hperm);have hlen:ss.length=(vY (m.map Prod.fst)).length:=by rw[<- hsort,List.length_mergeSort]
 rw[hsort,hlen]at hrow;have hk:Keep (λ_ _=>False) w w':=Keep.mP (M:=λ_=>False) hb.size (λj hj _=>hb.block j hj) (λ_ _ h=>h);have hg:=hs.grow hk ⟨hb.os,hb.tape,hb.output⟩;have hrel:=zIb (xAa hs.heap) hrow;have heO:Cc.enc (vY (List.map Prod.fst (m,u).fst),(m,u).fst,())=⟨[.one (.val (.slice .str) (vY (m.map Prod.fst)))],[.box 70 [.mp 1],.dm .str (.int .i64) m]⟩:=rfl;rw[heO];refine⟨[v],β,rfl,⟨hg.heap,rfl,rfl,λi q hq=>?_⟩⟩;cases i with
 |zero =>
  obtain rfl:=Option.some.inj hq;simp only[V.Rel,L.Rel];exact hrel
 |succ i=>simp at hq
end Go.Dec
namespace Go.Proofs
open Go.Shelf
def Tryz.growA_ren:Go.Shelf.Ren:=⟨fun | 4=>37 | n=>n,fun | 22=>32 | 25=>9 | 3=>3 | 4=>4 | 9=>9 | 20=>20 | 0=>0 | n=>n,fun | n=>n⟩
theorem Tryz.growA:Go.Proofs.Lays8.n4 Tryz.prog Tryz.growA_ren:={
 mixed:=by kernel_rfl
 f4:=⟨Tryz.f37.name,by decide,Tryz.func37.trans (congrArg some (by kernel_rfl))⟩
 t0:=Tryz.underlying0
 a0:=Tryz.isAgg0
 z0:=Tryz.sizeOf0
 v0:=Tryz.zeroValue0
 t3:=Tryz.underlying3
 a3:=Tryz.isAgg3
 z3:=Tryz.sizeOf3
 v3:=Tryz.zeroValue3
 t4:=Tryz.underlying4
 a4:=Tryz.isAgg4
 z4:=Tryz.sizeOf4
 v4:=Tryz.zeroValue4
 t9:=Tryz.underlying9
 a9:=Tryz.isAgg9
 z9:=Tryz.sizeOf9
 v9:=Tryz.zeroValue9
 t20:=Tryz.underlying20
 a20:=Tryz.isAgg20
 z20:=Tryz.sizeOf20
 v20:=Tryz.zeroValue20
 t22:=Tryz.underlying32
 a22:=Tryz.isAgg32
 z22:=Tryz.sizeOf32
 v22:=Tryz.zeroValue32 }
end Go.Proofs
namespace Go.Dec
open Go.Proofs Go.RowKit Go.Sort Go.Shelf
def Uj (w:World) (u:Value) (xs:List (List UInt8)):Prop := ∃ p c,u = .slice p xs.length c ∧ (p = none->xs = [] ∧ c = 0) ∧ ∀ a:Addr,p = some a -> ∀ j v,(xs.map encStr)[j]? = some v->w.cell? (a.add j) = some v
theorem yGo{w:World}{a:Addr}{v:Value}(h:w.cell? a=some v):a.block<w.heap.size:=by
 rcases jB a.block w.heap.size with hl|hl
 ·exact hl
 ·simp[World.cell?,Array.getElem?_eq_none hl]at h
theorem yBl:∀ (xs:List (List UInt8)) (css:List (List Value)) {w:World}{N:Nat->Nat->Prop},bD (λx c=>Ty.str.Rel w N x c) xs css->css.flatten=xs.map encStr
 |[],[],_,_,_=>rfl
 |[],_::_,_,_,h=>h.elim
 |_::_,[],_,_,h=>h.elim
 |x::r,c::s,w,N,h=>by
  obtain⟨h1,h2⟩:=h;simp only[Ty.Rel]at h1;rw[List.flatten_cons,h1,yBl r s h2];rfl
theorem Od{w:World}{N:Nat->Nat->Prop}{u:Value}{xs:List (List UInt8)}(h:(Ty.slice .str).Rel w N xs [u]):Uj w u xs:=by
 obtain⟨v,hv,h⟩:=h;obtain rfl:u=v:=by simpa using hv
 rcases h with ⟨rfl,rfl⟩|⟨b,off,cap,css,rfl,hb,_,_,_,hall,_,hcells⟩|⟨a,cap,rfl,rfl,_⟩
 ·exact⟨none,0,rfl,λ_=>⟨rfl,rfl⟩,λa h=>(nomatch h)⟩
 ·refine⟨_,cap,rfl,λh=>(nomatch h),λa h=>?_⟩;obtain rfl:=Option.some.inj h;intro j v hj;rw[<- yBl xs css hall]at hj;have:=hcells j v hj;unfold Addr.add;split
  ·rename_i h0;subst h0;exact this
  ·exact this
 ·exact⟨some a,cap,rfl,λh=>(nomatch h),λ_ _ j v hj=>by simp at hj⟩
theorem yUx:∃ i0,Tryz.prog.info? 9=some i0/\i0.zero=some (.string ⟨#[]⟩)/\i0.size=1/\i0.bytes=16:=by
 have h:(Tryz.prog.info? 9).map (λi=>(i.zero,i.size,i.bytes))=some (some (.string ⟨#[]⟩),1,16):=by kernel_rfl
 cases hi:Tryz.prog.info? 9 with
 |none=>rw[hi]at h;cases h
 |some i =>
  rw[hi]at h;simp only[Option.map_some,aA,aB]at h;exact⟨i,rfl,h.1,h.2.1,h.2.2⟩
theorem Uj.mono{w w':World}{u:Value}{xs:List (List UInt8)}(h:Uj w u xs)(hk:∀ b,b<w.heap.size->w'.heap[b]?=w.heap[b]?):Uj w' u xs:=by
 obtain⟨p,c,h1,h2,h3⟩:=h;refine⟨p,c,h1,h2,λa ha j v hj=>?_⟩;have h4:=h3 a ha j v hj;have hb:(a.add j).block<w.heap.size:=yGo h4;exact(World.cell?_of_block (w:=w) (hk _ hb)).trans h4
theorem yKn(w:World)(n:Nat)(hn:n<=1000000):Calls Tryz.prog 37 #[.slice none 0 0,.int .i64 n] w λe w'=>∃ r,e=.returned r/\w'.ownsRow w.heap.size 9 1 r 0 []/\Below w.heap.size w w':=by
 by_cases h0:n=0
 ·subst h0;refine(Any8.slices_Grow_room Tryz.growA none 0 0 0 w (by omega) (by omega) (by omega) (by omega)).mono ?_;rintro e w' ⟨rfl,rfl⟩;exact⟨_,rfl,World.ownsRow_nil _ _ _ _,Below.refl _ _⟩
 ·obtain⟨i0,hi0,hz0,hs0,ySk⟩:=yUx;refine(Any8.slices_Grow_grow Tryz.growA i0 (.string ⟨#[]⟩) hi0 hz0 (by omega) none 0 0 n [] w (by omega) (by omega) (by rw[ySk];omega) (by omega) (by simp) (λ_=>rfl) (λa h=>by cases h)).mono ?_;rintro e w' ⟨rfl,rfl⟩;have hm:grownCap w (0+n) 0 9<=maxLen:=grownCap_le_maxLen w _ _ _ (by simp only[maxLen];omega);have hge:=grownCap_ge w (0+n) 0 9;refine⟨_,rfl,⟨rfl,.inr ⟨w.heap.size,grownCap w (0+n) 0 9,_,rfl,aP _,heap_alloc_new w.drew _,Nat.zero_le _,hm,?_,rfl⟩⟩,Below.alloc (Below.drew (Below.refl _ _)) (aP _) _⟩;simp only[Array.size_append,size_zeroCells,Value.cells];show 0+(0+n-0)*1+(grownCap w (0+n) 0 9-(0+n))*1=_;omega
theorem yGp{w:World}{base n:Nat}{r u:Value}{zs:List Value}{xs:List (List UInt8)}(hown:w.ownsRow base 9 1 r n zs)(hu:Uj w u xs)(hl:n+xs.length<=2000000)(hb:base<=w.heap.size):∃ r' w',(Builtin.append_ #[32,32] 32 #[r,u]).run Tryz.prog w=.ok r' w'/\w'.ownsRow base 9 1 r' (n+xs.length) (zs++xs.map encStr)/\w.grownBy w' r.ownBlock:=by
 obtain⟨i0,hi0,hz0,hs0,ySk⟩:=yUx;have ut:Tryz.prog.underlying 32=some (.slice 9):=by kernel_rfl
 obtain⟨p,c,rfl,hp,hcells⟩:=hu;cases p with
 |none =>
  obtain⟨rfl,rfl⟩:=hp rfl;have h:=run_append_owned_none (P:=Tryz.prog) (w:=w) base 32 32 9 i0 1 ut hi0 r n zs hown;exact⟨r,w,h,by simpa using hown,⟨rfl,rfl,rfl,aP _,λ_ _ _=>rfl⟩⟩
 |some a =>
  obtain⟨r',w',h1,h2,h3,_⟩:=run_append_own w base 32 32 9 i0 (.string ⟨#[]⟩) 1 16 ut hi0 hz0 hs0 ySk rfl (by omega) r n zs hown a xs.length c (xs.map encStr) (by simp) (hcells a rfl) (λv hv=>by obtain⟨x,_,rfl⟩:=List.mem_map.1 hv;rfl) (by simp only[maxLen];omega) (by omega) hb;exact⟨r',w',h1,h2,h3⟩
theorem zQc{ops:Array Oper}{rest:List Oper}{o:Oper}{a:Act}{Q:Exit->Act->World->Prop}{w w':World}{r u r':Value}(hgd:o.guard=none)(s x:Operand)(ho:o.op=.call { callee:=.builtin .append,args:=#[s,x],argTypes:=#[32,32] })(hty:o.type=32)(hs:a.eval s=r)(hx:a.eval x=u)(hrun:(Builtin.append_ #[32,32] 32 #[r,u]).run Tryz.prog w=.ok r' w')(h:wpList Tryz.prog ops Q rest (a.put o.dst r') w'):wpList Tryz.prog ops Q (o::rest) a w:=by
 refine wpList_plain hgd λK hK=>?_
 unfold Oper.wp;simp[execOp,ho,hty,resolve,invoke,builtin,hs,hx,hrun,Result.andThen];exact hK _ _ h
set_option maxHeartbeats 4000000 in
set_option maxRecDepth 100000 in
theorem zIc(w:World)(bb oo cc:Nat)(u v:Value)(xs ys:List (List UInt8))(hu:Uj w u xs)(hv:Uj w v ys)(c0:w.cell? ⟨bb,oo,none⟩=some u)(c1:w.cell? ⟨bb,oo+1,none⟩=some v)(hl:xs.length+ys.length<=1000000):Calls Tryz.prog 20 #[.slice (some ⟨bb,oo,none⟩) 2 cc] w λe w'=>∃ r,e=.returned r/\w'.ownsRow w.heap.size 9 1 r (xs++ys).length ((xs++ys).map encStr)/\Below w.heap.size w w':=by
 have hbb:bb<w.heap.size:=yGo c0;have lu:∃ p c,u=.slice p xs.length c:=by obtain⟨p,c,h,_⟩:=hu;exact⟨p,c,h⟩
 have lv:∃ p c,v=.slice p ys.length c:=by obtain⟨p,c,h,_⟩:=hv;exact⟨p,c,h⟩
 have HU:Aside (Uj w u xs/\Uj w v ys):=⟨hu,hv⟩;clear hu hv;obtain⟨pu,cu,rfl⟩:=lu;obtain⟨pv,cv,rfl⟩:=lv;have hw:∀ w:World,Calls Tryz.prog 37 #[.slice none 0 0,.int .i64 ((xs.length:Int)+(ys.length:Int))] w λe w'=>∃ r,e=.returned r/\w'.ownsRow w.heap.size 9 1 r 0 []/\Below w.heap.size w w':=λw=>yKn w (xs.length+ys.length) hl
 have g0:¬ ((xs.length:Int)<0):=by omega
 have g1:¬ ((xs.length:Int)+(ys.length:Int)<0):=by omega
 have g2:wrap64 ((xs.length:Int)+(ys.length:Int))=(xs.length:Int)+(ys.length:Int):=by unfold wrap64;omega
 have g3:wrap64 (0+(xs.length:Int))=(xs.length:Int):=by unfold wrap64;omega
 have e37:∀ args w,(callFunc 37 args).run Tryz.prog w=.ok (.enter 37 args) w:=enters_of Tryz.func37 (by kernel_rfl) rfl
 go_enter Tryz.func20,Tryz.ntmps20
 go_wp2
 refine wp_loop_rounds 3 ?_;rw[rounds_succ]
 go_wp2
 rw[rounds_succ]
 go_wp2
 rw[rounds_succ]
 go_wp2_with (go_at_fn 37;refine(hw _).mono ?_;rintro e w1 ⟨r,rfl,hown,hb⟩)
 have hsz:=hb.size;have c0':w1.cell? ⟨bb,oo,none⟩=some (.slice pu xs.length cu):=(hb.cell (p:=⟨bb,oo,none⟩) hbb).trans c0;have c1':w1.cell? ⟨bb,oo+1,none⟩=some (.slice pv ys.length cv):=(hb.cell (p:=⟨bb,oo+1,none⟩) hbb).trans c1;obtain⟨r1,w2,ha1,ho1,hg1⟩:=yGp hown (HU.out.1.mono hb.block) (by omega) hsz;have hb2:Below w.heap.size w w2:=hb.grown hg1 hsz (λk hk=>(hown.lt k hk).1);have xGl:w2.cell? ⟨bb,oo+1,none⟩=some (.slice pv ys.length cv):=(hb2.cell (p:=⟨bb,oo+1,none⟩) hbb).trans c1;obtain⟨r2,w3,ha2,ho2,hg2⟩:=yGp ho1 (HU.out.2.mono hb2.block) (by omega) hb2.size;have hb3:Below w.heap.size w w3:=hb2.grown hg2 hb2.size (λk hk=>(ho1.lt k hk).1);have HO:Aside (w3.ownsRow w.heap.size 9 1 r2 (0+xs.length+ys.length) ([]++xs.map encStr++ys.map encStr)/\Below w.heap.size w w3):=⟨ho2,hb3⟩;have HA:Aside ((Builtin.append_ #[32,32] 32 #[r,.slice pu xs.length cu]).run Tryz.prog w1=.ok r1 w2/\(Builtin.append_ #[32,32] 32 #[r1,.slice pv ys.length cv]).run Tryz.prog w2=.ok r2 w3):=⟨ha1,ha2⟩;clear ho2 hb3 ho1 hg1 hg2 hown hb hb2 hsz c0 c1 ha1 ha2;refine wp_loop_rounds 3 ?_;rw[rounds_succ]
 go_wp2_with (refine zQc rfl (.tmp 31) (.tmp 32) rfl rfl rfl rfl HA.out.1 ?_)
 rw[rounds_succ]
 go_wp2_with (refine zQc rfl (.tmp 31) (.tmp 32) rfl rfl rfl rfl HA.out.2 ?_)
 rw[rounds_succ]
 go_wp2
 go_ret
 refine⟨r2,rfl,?_,HO.out.2⟩;have:=HO.out.1;rw[List.length_append,List.map_append];simpa using this
end Go.Dec
