import Derived.HandedShaped
import Derived.Test.YtfbilefiaminnaaGreatDoorPtrtAQ
open Go.DataW renaming TrodAll->qFk
open Int renaming le_refl->qEe,toNat_natCast->qCg
open List renaming length_drop->yV,length_singleton->qFl,length_cons->xI,length_append->xG,length_take->qAb,all_cons->qFa,map_cons->qBt,suffix_refl->qFm,mem_append->qAp,drop_drop->zT,take_append_drop->qFn,foldr_nil->qFo,foldr_cons->qCb,range->qAr,getElem?_eq_getElem->wW,getElem_of_mem->qFp,append_nil->vE,replicate->qAf,length_map->qFs
open Go.IntKind renaming wrap->qEq
open Nat renaming beq->vF,ble->qBg,zero_le->qAm,succ_mul->wF,not_lt_zero->qFq,ble_eq_true_of_le->qFr,le_trans->zG,le_add_right->qAn
open Option renaming map_some->kU
namespace Go.Dec
open Go.ChangeShapes Go.WideShapes Go.ChangeAt Go.RowKit
def Ty.WF:(t:Ty)->t.den->Prop | .int k,n=>k.min<=n ∧ n<=k.max | .str,s=>s.length<=maxLen | .pair a b,x=>a.WF x.1 ∧ b.WF x.2 | .arr n a,xs=>xs.length = n ∧ ∀ x ∈ xs,a.WF x | .slice a,xs=>xs.length<=maxLen ∧ ∀ x ∈ xs,a.WF x | _,_=>True
def yQy(P:Program)(g:TypeId->Bool)(h:TypeId->Option Ty):Nat->List Field->Nat->Bool
 |off,[],total=>vF off total
 |off,f::fs,total=>vF f.offset off&&(g f.type&&((match h f.type with|some a=>vF a.size (P.cellsOf f.type)|none=>false)&&yQy P g h (off+P.cellsOf f.type) fs total))
def Sl(P:Program):Nat->TypeId->Bool
 |0,_=>false
 |n+1,t =>
  match P.underlying t with
  |some .bool=>true
  |some (.int _)=>true
  |some .string=>true
  |some (.interface ms)=>!ms.isEmpty
  |some (.slice e)=>Sl P n e&&(match jN P n e with|some a=>vF a.size (P.cellsOf e)&&qBg 1 a.size|none=>false)
  |some (.struct fs)=>yQy P (Sl P n) (jN P n) 0 fs.toList (P.cellsOf t)
  |some (.array k e)=>Sl P n e&&(match jN P n e with|some a=>vF a.size (P.cellsOf e)&&vF (k*a.size) (P.cellsOf t)|none=>false)
  |_=>false
theorem Rh{α β:Type}{f:α->Option β}{x:α}{l:List α}{r:List β}(h:(x::l).mapM f=some r):∃ y ys,f x=some y/\l.mapM f=some ys/\r=y::ys:=by
 rw[List.mapM_cons]at h;cases hx:f x with
 |none=>rw[hx]at h;cases h
 |some y =>
  rw[hx]at h;cases hl:l.mapM f with
  |none=>rw[hl]at h;cases h
  |some ys =>
   rw[hl]at h;exact⟨y,ys,rfl,rfl,(Option.some.inj h).symm⟩
theorem mapM_mem_some{α β:Type}{f:α->Option β}:∀ {l:List α}{r:List β},l.mapM f=some r->∀ x∈l,∃ y,f x=some y
 |[],_,_,x,hx=>by cases hx
 |a::l,r,h,x,hx=>by
  obtain⟨y,ys,h1,h2,_⟩:=Rh h;cases hx with
  |head=>exact⟨y,h1⟩
  |tail _ hx=>exact mapM_mem_some h2 x hx
theorem yHu{α β:Type}{f:α->Option β}:∀ {l:List α}{r:List β},l.mapM f=some r->r.length=l.length/\∀ (i:Nat) (x:α) (y:β),l[i]?=some x->r[i]?=some y->f x=some y
 |[],r,h=>by simp at h;subst h;exact⟨rfl,λi x y hx=>by simp at hx⟩
 |a::l,r,h=>by
  obtain⟨y,ys,h1,h2,rfl⟩:=Rh h;obtain⟨k1,k2⟩:=yHu h2;refine⟨by simp[k1],λi x z hx hz=>?_⟩;cases i with
  |zero=>simp at hx hz;subst hx hz;exact h1
  |succ i=>exact k2 i x z (by simpa using hx) (by simpa using hz)
theorem yHv{w:World}{base:Nat}{a:Addr}{n:Nat}{cs:List Value}(h:w.cells? base a n=some cs):cs.length=n/\∀ j c,cs[j]?=some c->w.cell? (a.add j)=some c:=by
 unfold World.cells? at h;split at h
 ·obtain⟨h1,h2⟩:=yHu h;rw[List.length_range]at h1;refine⟨h1,λj c hj=>?_⟩;have hlt:j<n:=by rw[<- h1];exact(bK.1 hj).1
  exact h2 j j c (by simp[hlt]) hj
 ·cases h
theorem cell?_spot{w:World}{a:Addr}{c:Value}(h:w.cell? a=some c):a=⟨a.block,a.off,none⟩/\a.block<w.heap.size:=by
 unfold World.cell? at h;split at h
 ·rename_i cs t fr hb;split at h
  ·cases h
  ·rename_i hs;obtain⟨b,o,s⟩:=a;simp at hs;subst hs;exact⟨rfl,(Array.getElem?_eq_some_iff.1 hb).1⟩
 ·cases h
theorem zRa{α:Type}{w:World}{b off size:Nat}{R:α->List Value->Prop}:∀ n:Nat,(∀ i,i<n->∃ x c,R x c/\c.length=size/\Cells w b (off+i*size) c) ->
 ∃ xs css,xs.length=n/\bJ R xs css/\(∀ c∈css,c.length=size)/\Cells w b off css.flatten
 |0,_=>⟨[],[],rfl,trivial,by simp,Cells.nil⟩
 |n+1,h=>by
  obtain⟨xs,css,h1,h2,h3,h4⟩:=zRa n λi hi=>h i (Nat.lt_succ_of_lt hi)
  obtain⟨x,c,k1,k2,k3⟩:=h n (Nat.lt_succ_self n);have hl:css.flatten.length=n*size:=by rw[cZ css h3,<- h2.length,h1]
  refine⟨xs++[x],css++[c],by simp[h1],h2.append ⟨k1,trivial⟩,?_,?_⟩
  ·intro d hd;rcases qAp.1 hd with hd|hd
   ·exact h3 d hd
   ·simp at hd;subst hd;exact k2
  ·rw[List.flatten_append];refine h4.append ?_;rw[hl];simpa using k3
theorem zWy{α:Type}{size:Nat}{R:α->List Value->Prop}:∀ (n:Nat) (cs:List Value),cs.length=n*size->(∀ i,i<n->∃ x,R x ((cs.drop (i*size)).take size))->∃ xs css,xs.length=n/\bJ R xs css/\css.flatten=cs
 |0,cs,h,_=>⟨[],[],rfl,trivial,by
  have:cs=[]:=List.length_eq_zero_iff.1 (by omega);rw[this];rfl⟩
 |n+1,cs,h,hx=>by
  obtain⟨x,h0⟩:=hx 0 (by omega);rw[Nat.zero_mul,List.drop_zero]at h0;have hl:(n+1)*size=n*size+size:=wF n size;obtain⟨xs,css,k1,k2,k3⟩:=zWy (R:=R) (size:=size) n (cs.drop size) (by rw[yV];omega) λi hi=>by
   obtain⟨y,hy⟩:=hx (i+1) (by omega);refine⟨y,?_⟩;rw[zT,show size+i*size=(i+1)*size by rw[wF];omega];exact hy
  exact⟨x::xs,cs.take size::css,by simp[k1],⟨h0,k2⟩,by rw[List.flatten_cons,k3,qFn]⟩
section
variable {H:Type}{enc:TypeId × Value->H}{P:Program}{w:World}{base:Nat}{spare:Nat->Bool}{held:Bool}
abbrev N0:Nat->Nat->Prop:=λ_ _=>False
theorem zWz{n:Nat}{fuel:Nat}(ih:∀ t cs d ps ty,jN P n t=some ty->Sl P n t=true->DataW.trod enc P w base spare held fuel t cs=some (d,ps)->∃ x:ty.den,ty.Rel w N0 x cs/\ty.WF x)(cs:List Value):∀ (fs:List Field) (off total:Nat) (ty:Ty) (r:List (DataW H × List MemPlace)),Jf P n fs=some ty->yQy P (Sl P n) (jN P n) off fs total=true->cs.length=total ->
  (fs.mapM λf=>DataW.trod enc P w base spare held fuel f.type ((cs.drop f.offset).take (P.cellsOf f.type)))=some r->∃ x:ty.den,ty.Rel w N0 x (cs.drop off)/\ty.WF x
 |[],off,total,ty,r,ht,hl,hc,hm=>by
  simp only[Jf,qFo,aA]at ht;subst ht;have:=aP hl;refine⟨(),?_,trivial⟩;simp only[Ty.Rel];apply List.drop_eq_nil_of_le;omega
 |f::fs,off,total,ty,r,ht,hl,hc,hm=>by
  obtain⟨y,ys,h1,h2,_⟩:=Rh hm;simp only[Jf,qCb]at ht;split at ht
  ·rename_i _ a b hta htb;simp only[aA]at ht;subst ht;simp only[yQy,aD,hta]at hl;obtain⟨l1,l2,l3,l4⟩:=hl;have l1:=aP l1;have l3:=aP l3;rw[l1]at h1;obtain⟨x,hx,hwx⟩:=ih f.type _ _ _ a hta l2 h1;obtain⟨z,hz,hwz⟩:=zWz ih cs fs (off+P.cellsOf f.type) total b ys htb l4 hc h2;refine⟨(x,z),⟨_,_,?_,hx,hz⟩,hwx,hwz⟩;rw[<- zT,qFn]
  ·cases ht
theorem Sm:∀ (n fuel:Nat) (t:TypeId) (cs:List Value) (d:DataW H) (ps:List MemPlace) (ty:Ty),jN P n t=some ty->Sl P n t=true->DataW.trod enc P w base spare held fuel t cs=some (d,ps) ->
 ∃ x:ty.den,ty.Rel w N0 x cs/\ty.WF x
 |0,_,_,_,_,_,_,h,_,_=>by cases h
 |n+1,0,_,_,_,_,_,_,_,h=>by cases h
 |n+1,fuel+1,t,cs,d,ps,ty,ht,hl,h=>by
  have h0:=h;unfold jN at ht;unfold Sl at hl;unfold DataW.trod at h;cases hu:P.underlying t with
  |none=>rw[hu]at hl;cases hl
  |some k =>
   rw[hu]at ht hl h;cases k with
   |bool =>
    simp only[aA]at ht;subst ht;obtain⟨b,rfl⟩:∃ b,cs=[.bool b]:=by split at h<;>simp_all
    exact⟨b,rfl,trivial⟩
   |int k =>
    simp only[aA]at ht;subst ht;obtain⟨m,rfl,hwf⟩:∃ m,cs=[.int k m]/\(Lit.int k m).wf=true:=by
     split at h<;>simp_all
    simp only[Lit.wf,aD,decide_eq_true_eq]at hwf;exact⟨m,rfl,hwf⟩
   |string =>
    simp only[aA]at ht;subst ht;obtain⟨x,rfl,hx⟩:∃ x:ByteArray,cs=[.string x]/\x.size<=maxLen:=by
     split at h<;>simp_all
    refine⟨x.data.toList,by simp[Ty.Rel],?_⟩;simp only[Ty.WF,Array.length_toList];exact hx
   |interface ms =>
    have hm:ms.isEmpty=false:=by simpa using hl
    simp only[hm,Bool.false_eq_true,if_false,aA]at ht;subst ht;obtain⟨v,rfl,hv⟩:∃ v,cs=[v]/\(v=.nilIface\/∃ u x,v=.iface u x):=by
     split at h<;>first|(simp_all;done)|skip
    rcases hv with rfl|⟨u,x,rfl⟩
    ·exact⟨false,⟨_,rfl,.inr ⟨rfl,rfl⟩⟩,trivial⟩
    ·exact⟨true,⟨_,rfl,.inl ⟨rfl,u,x,rfl⟩⟩,trivial⟩
   |slice e =>
    simp only at ht hl;cases hte:jN P n e with
    |none=>rw[hte]at ht;cases ht
    |some te =>
     rw[hte]at ht hl;simp only[kU,aA]at ht;subst ht;simp only[aD]at hl;obtain⟨hle,hsz,hpos⟩:=hl;have hsz:=aP hsz;have hpos:=bX hpos;obtain⟨v,rfl,hv⟩:∃ v,cs=[v]/\(v=.slice none 0 0\/∃ a len cap,v=.slice (some a) len cap/\len<=cap/\cap<=maxLen /\
      ∃ elems,((qAr len).mapM λi=>(w.cells? base (a.add (i*P.cellsOf e)) (P.cellsOf e)).bind (DataW.trod enc P w base spare held fuel e))=some elems):=by
      split at h<;>first|(simp_all;done)|skip
      ·rename_i e' a len cap hq;simp only[aA,TypeDesc.slice.injEq]at hq;subst hq
       dsimp only at h
       split at h
       ·rename_i hk;obtain⟨_,hk1,hk2⟩:=hk;cases hm:((qAr len).mapM λi=>(w.cells? base (a.add (i*P.cellsOf e)) (P.cellsOf e)).bind (DataW.trod enc P w base spare held fuel e))with
        |none=>rw[hm]at h;cases h
        |some elems=>exact⟨_,rfl,.inr ⟨a,len,cap,rfl,hk1,hk2,elems,hm⟩⟩
       ·cases h
     rcases hv with rfl|⟨a,len,cap,rfl,hlc,hcm,elems,hm⟩
     ·exact⟨[],⟨_,rfl,.inl ⟨rfl,rfl⟩⟩,by simp[Ty.WF]⟩
     ·rcases Nat.eq_zero_or_pos len with h0|h0
      ·subst h0;exact⟨[],⟨_,rfl,.inr (.inr ⟨a,cap,rfl,rfl,hcm⟩)⟩,by simp[Ty.WF]⟩
      ·have each:∀ i,i<len->∃ (x:te.den) (c:List Value),(te.Rel w N0 x c/\te.WF x)/\c.length=te.size/\(∀ j u,c[j]?=some u->w.cell? ((a.add (i*P.cellsOf e)).add j)=some u):=λi hi=>by
        obtain⟨y,hy⟩:=mapM_mem_some hm i (List.mem_range.2 hi);cases hc:w.cells? base (a.add (i*P.cellsOf e)) (P.cellsOf e)with
        |none=>rw[hc]at hy;cases hy
        |some c =>
         rw[hc]at hy;obtain⟨x,hx,hwx⟩:=Sm n fuel e c y.1 y.2 te hte hle hy;obtain⟨k1,k2⟩:=yHv hc;exact⟨x,c,⟨hx,hwx⟩,by rw[k1,hsz],k2⟩
       obtain⟨x0,c0,_,hl0,hc0⟩:=each 0 h0;have h00:c0[0]?=some (c0[0]'(by omega)):=wW _;have hadd:(a.add (0*P.cellsOf e)).add 0=a:=by simp[Addr.add]
       have hcell:=hc0 0 _ h00;rw[hadd]at hcell;obtain⟨hsp,hbk⟩:=cell?_spot hcell;obtain⟨ab,ao,asp⟩:=a;simp only[Addr.mk.injEq,true_and]at hsp;subst hsp;obtain⟨xs,css,h1,h2,h3,h4⟩:=zRa (w:=w) (b:=ab) (off:=ao) (size:=te.size) (R:=λx c=>te.Rel w N0 x c/\te.WF x) len λi hi=>by
        obtain⟨x,c,k1,k2,k3⟩:=each i hi;refine⟨x,c,k1,k2,λj u hj=>?_⟩;have:=k3 j u hj;rw[addr_add,addr_add,<- hsz]at this;exact this
       refine⟨xs,⟨_,rfl,.inr (.inl ⟨ab,ao,cap,css,by rw[h1],hbk,λ_ _ _ h=>h,by omega,hcm,h2.mono λ_ _ h=>h.1,h3,h4⟩)⟩,?_⟩;simp only[Ty.WF];refine⟨by omega,λx hx=>?_⟩;obtain⟨i,hi,rfl⟩:=qFp hx;exact(h2.get i hi (by rw[<- h2.length];exact hi)).2
   |struct fs =>
    simp only at ht hl;have hf:Jf P n fs.toList=some ty:=ht;have h2:(if cs.length=P.cellsOf t then(fs.toList.mapM λf=>DataW.trod enc P w base spare held fuel f.type ((cs.drop f.offset).take (P.cellsOf f.type))).map λxs=>(DataW.agg (xs.map (·.1)),xs.flatMap (·.2))else none)=some (d,ps):=h;split at h2
    ·rename_i hc;cases hm:(fs.toList.mapM λf=>DataW.trod enc P w base spare held fuel f.type ((cs.drop f.offset).take (P.cellsOf f.type)))with
     |none=>rw[hm]at h2;cases h2
     |some r =>
      have:=zWz (λt cs d ps ty a b c=>Sm n fuel t cs d ps ty a b c) cs fs.toList 0 _ ty r hf hl hc hm;simpa using this
    ·cases h2
   |array k e =>
    simp only at ht hl;cases hte:jN P n e with
    |none=>rw[hte]at ht;cases ht
    |some te =>
     rw[hte]at ht hl;simp only[kU,aA]at ht;subst ht;simp only[aD]at hl;obtain⟨hle,hsz,htot⟩:=hl;have hsz:=aP hsz;have htot:=aP htot;obtain⟨xs,m,hm,_,hlen,hn,hel⟩:=DataW.trod_array hu h0;simp only[Nat.add_right_cancel_iff]at hm;subst hm;obtain⟨ys,css,k1,k2,k3⟩:=zWy (size:=te.size) (R:=λx c=>te.Rel w N0 x c/\te.WF x) k cs (by rw[hlen,htot]) λi hi=>by
      have h1:=hel i hi;rw[wW (by omega)]at h1;rw[hsz];exact Sm n fuel e _ _ _ te hte hle h1
     refine⟨ys,⟨k1,css,k3.symm,k2.mono λ_ _ h=>h.1⟩,?_⟩;simp only[Ty.WF];refine⟨k1,λx hx=>?_⟩;obtain⟨i,hi,rfl⟩:=qFp hx;exact(k2.get i hi (by rw[<- k2.length];exact hi)).2
   |_=>cases hl
def yHw:(ts:List Ty)->bT ts->Prop | [],_=>True | [t],x=>t.WF x | t :: s :: r,x=>t.WF x.1 ∧ yHw (s :: r) x.2
theorem zRb{t:TypeId}{v:Value}{d:DataW H}{ps:List MemPlace}{ty:Ty}{base':Nat}(ht:jN P 12 t=some ty)(hl:Sl P 12 t=true)(h:DataW.Trod enc P w base spare held t v d ps)(hv:Value.okWide P w .any base' t v):∃ x:ty.den,ty.bW w N0 x v/\ty.WF x:=by
 obtain⟨fuel,h⟩:=h;obtain⟨x,hx,hw⟩:=Sm 12 fuel t _ d ps ty ht hl h;refine⟨x,?_,hw⟩;unfold Ty.bW;have key:(ty.isAgg=true->∃ cs,v=.agg cs)/\(ty.isAgg=false->v.cells=#[v]):=by
  unfold Value.okWide at hv;unfold jN at ht;cases hu:P.underlying t with
  |none=>rw[hu]at ht;cases ht
  |some k =>
   rw[hu]at ht hv;cases k with
   |struct fs =>
    obtain⟨cs,rfl,_⟩:=hv;refine⟨λ_=>⟨cs,rfl⟩,λh=>?_⟩;exfalso;have hf:Jf P 11 fs.toList=some ty:=ht;cases hfs:fs.toList with
    |nil=>rw[hfs]at hf;simp only[Jf,qFo,aA]at hf;subst hf;cases h
    |cons f r =>
     rw[hfs]at hf;simp only[Jf,qCb]at hf;split at hf
     ·simp only[aA]at hf;subst hf;cases h
     ·cases hf
   |array n e =>
    obtain⟨cs,rfl,_⟩:=hv;refine⟨λ_=>⟨cs,rfl⟩,λh=>?_⟩;exfalso;simp only at ht;cases he:jN P 11 e with
    |none=>rw[he]at ht;cases ht
    |some a=>rw[he]at ht;simp only[kU,aA]at ht;subst ht;cases h
   |_ =>
    refine⟨λh=>?_,λ_=>?_⟩
    ·exfalso;have hcon:∀ r:Option Ty,r=some ty->(r=some .bool\/(∃ k,r=some (.int k))\/r=some .str\/(∃ q:Option Ty,r=q.map .slice)\/r=some .err\/r=some .opq\/r=none)->False:=by
      rintro r hr (rfl|⟨_,rfl⟩|rfl|⟨q,rfl⟩|rfl|rfl|rfl)
      ·cases hr;cases h
      ·cases hr;cases h
      ·cases hr;cases h
      ·obtain⟨x,_,rfl⟩:=Option.map_eq_some_iff.1 hr;cases h
      ·cases hr;cases h
      ·cases hr;cases h
      ·cases hr
     exact hcon _ ht (by
      first
       |exact .inl rfl
       |exact .inr (.inl ⟨_,rfl⟩)
       |exact .inr (.inr (.inl rfl))
       |exact .inr (.inr (.inr (.inl ⟨_,rfl⟩)))
       |exact .inr (.inr (.inr (.inr (.inl rfl))))
       |exact .inr (.inr (.inr (.inr (.inr (.inl rfl)))))
       |exact .inr (.inr (.inr (.inr (.inr (.inr rfl)))))
       |(simp only;split<;>simp))
    ·simp only[Cell.okWide,Cell.ok,hu]at hv<;>(cases v<;>first|rfl|(simp at hv;done))
 cases ha:ty.isAgg with
 |true =>
  rw[if_pos rfl];obtain⟨cs,rfl⟩:=key.1 ha;exact⟨cs.toList,by simp,hx⟩
 |false =>
  rw[if_neg (by simp)];rw[key.2 ha]at hx;exact hx
theorem zNd{base':Nat}:∀ {ts:List TypeId}{aqs:List Ty}{vs:List Value}{ds:List (DataW H)}{ps:List MemPlace},ts.map (jN P 12)=aqs.map some->(ts.all (Sl P 12))=true->qFk enc P w base spare held ts vs ds ps ->
 (∀ (j:Nat) t v,ts[j]?=some t->vs[j]?=some v->Value.okWide P w .any base' t v)->∃ x:bT aqs,nA w N0 aqs x vs/\yHw aqs x
 |[],[],[],_,_,_,_,_,_=>⟨(),rfl,trivial⟩
 |[t],[a],[v],[d],ps,ht,hl,h,hv=>by
  simp only[qBt,List.map_nil,aL,and_true]at ht;simp only[qFa,List.all_nil,Bool.and_true]at hl;obtain⟨p,q,h1,_,_⟩:=h;obtain⟨x,h2,h3⟩:=zRb ht hl h1 (hv 0 t v rfl rfl);exact⟨x,⟨v,rfl,h2⟩,h3⟩
 |t::t2::ts,a::a2::aqs,v::v2::vs,d::ds,ps,ht,hl,h,hv=>by
  simp only[qBt,aL]at ht;simp only[qFa,aD]at hl;obtain⟨p,q,h1,h2,_⟩:=h;obtain⟨x,k1,k2⟩:=zRb ht.1 hl.1 h1 (hv 0 t v rfl rfl);obtain⟨y,k3,k4⟩:=zNd (ts:=t2::ts) (aqs:=a2::aqs) (by simp only[qBt,aL];exact ht.2) (by simp only[qFa,aD];exact hl.2) h2 (λj t v h1 h2=>hv (j+1) t v (by simpa using h1) (by simpa using h2));exact⟨(x,y),⟨v,_,rfl,k1,k3⟩,k2,k4⟩
 |[],_::_,_,_,_,ht,_,_,_=>by simp at ht
 |_::_,[],_,_,_,ht,_,_,_=>by simp at ht
 |[],[],_::_,_,_,_,_,h,_=>by simp[qFk]at h
 |[_],_::_::_,_,_,_,ht,_,_,_=>by simp at ht
 |_::_::_,[_],_,_,_,ht,_,_,_=>by simp at ht
 |[_],[_],[],_,_,_,_,h,_=>by simp[qFk]at h
 |[_],[_],[_],[],_,_,_,h,_=>by simp[qFk]at h
 |[_],[_],[_],_::_::_,_,_,_,h,_=>by simp[qFk]at h
 |[_],[_],_::_::_,[],_,_,_,h,_=>by simp[qFk]at h
 |[_],[_],_::_::_,_::_,_,_,_,h,_=>by simp[qFk]at h
 |_::_::_,_::_::_,[],_,_,_,_,h,_=>by simp[qFk]at h
 |_::_::_,_::_::_,[_],[],_,_,_,h,_=>by simp[qFk]at h
 |_::_::_,_::_::_,[_],[_],_,_,_,h,_=>by simp[qFk]at h
 |_::_::_,_::_::_,[_],_::_::_,_,_,_,h,_=>by simp[qFk]at h
 |_::_::_,_::_::_,_::_::_,[],_,_,_,h,_=>by simp[qFk]at h
theorem zJl{W W':World}(hl:laidOutB P=true)(hb:Below W.heap.size W W'):∀ {ts:List TypeId}{vs:List Value}{ds:List (DataW H)}{ps:List MemPlace},(ts.all λt=>P.readableRec t&&decide (t<P.types.size))=true ->
 qFk enc P W 0 (λ_=>true) true ts vs ds ps->(∀ x∈ps,x.block<W.heap.size)->qFk enc P W' 0 (λb=>decide (b<W.heap.size)) true ts vs ds ps
 |[],[],[],_,_,h,_=>h
 |t::ts,v::vs,d::ds,ps,hr,h,hlt=>by
  simp only[qFa,aD,decide_eq_true_eq]at hr;obtain⟨p,q,h1,h2,rfl⟩:=h;exact⟨p,q,Below.trod hl hr.1.1 hr.1.2 h1 hb (λx hx=>hlt x (List.mem_append_left _ hx)),zJl hl hb hr.2 h2 (λx hx=>hlt x (List.mem_append_right _ hx)),rfl⟩
 |[],[],_::_,_,_,h,_=>by simp[qFk]at h
 |[],_::_,_,_,_,h,_=>by simp[qFk]at h
 |_::_,[],_,_,_,h,_=>by simp[qFk]at h
 |_::_,_::_,[],_,_,h,_=>by simp[qFk]at h
end
end Go.Dec
namespace Go.Dec
open Go.ChangeShapes Go.WideShapes Go.ChangeAt Go.RowKit
theorem zRc{H:Type}{enc:TypeId × Value->H}{P:Program}{w:World}{base:Nat}{spare:Nat->Bool}{held:Bool}:∀ {ts:List TypeId}{vs:List Value}{ds:List (DataW H)}{ps:List MemPlace},qFk enc P w base spare held ts vs ds ps->ds.length=ts.length
 |[],[],[],_,_=>rfl
 |_::_,_::_,_::_,_,⟨_,_,_,h,_⟩=>by simp[zRc h]
 |[],[],_::_,_,h=>by simp[qFk]at h
 |[],_::_,_,_,h=>by simp[qFk]at h
 |_::_,[],_,_,h=>by simp[qFk]at h
 |_::_,_::_,[],_,h=>by simp[qFk]at h
theorem zTy{H:Type}{enc:TypeId × Value->H}{P:Program}{f:FuncId}{fn:Func}{s:ChangeSpec}{apart fresh handsOn:Bool}{aqs:List Ty}{F:bT aqs->Option Bool}{tb:TypeId}{φ:bT aqs->Prop}(hres:fn.resultTypes=#[tb])(hb:P.underlying tb=some .bool)(hts:fn.params.toList.map (jN P 12)=aqs.map some)(xLt:fn.params.toList.all (Sl P 12)=true)(hread:(fn.params.toList.all λt=>P.readableRec t&&decide (t<P.types.size))=true)(hl:laidOutB P=true)(hvars:s.vars=[])(hs:∀ ds:List (DataW H),ds.length=fn.params.toList.length->(s.fn H ds).results=[.lit (.bool true)]/\(s.fn H ds).args=ds/\(s.fn H ds).vars=[])(hP:Pure P f aqs [.bool] F)(hF:∀ x,yHw aqs x->φ x->F x=some true){W:World}{base:Nat}{args:Array Value}{ds gs:List (DataW H)}{before:List MemPlace}(hG:Glob P W)(hval:∀ (j:Nat) t v,fn.params[j]?=some t->args[j]?=some v->Value.okWide P W .any base t v)(hW:DataW.Whole enc P fn.params.toList s.vars apart W args.toList ds gs before)(hφ:∀ x,nA W N0 aqs x args.toList->φ x):Calls P f args W λe W'=>∃ v,e=.returned v/\s.post enc P fn apart fresh handsOn false W args v W':=by
 have hW':=hW;obtain⟨p,q,hA,hV,rfl,_,_⟩:=hW;rw[hvars]at hV;obtain⟨rfl,rfl⟩:=trodVars_none hV;obtain⟨x,hx,hwf⟩:=zNd hts xLt hA (λj t v h1 h2=>hval j t v (by simpa using h1) (by simpa using h2));have hlt:∀ z∈p,z.block<W.heap.size:=λz hz=>by simpa using hW'.lt z (by simpa using hz)
 have:=hP.2 x true (hF x hwf (hφ x hx)) W N0 args.toList hG (λ_ _ h=>h.elim) hx;rw[Array.toArray_toList]at this;refine this.mono ?_;rintro e W' ⟨us,rfl,ho,ht,hop,hk,hr⟩;obtain⟨u,rfl,hu⟩:=hr;simp only[Ty.bW,Ty.isAgg,Bool.false_eq_true,if_false,Ty.Rel,aL,and_true]at hu;subst hu;have hbel:Below W.heap.size W W':=⟨ho,ht,hop,hk.size,λk hk'=>hk.block k hk' (λ_ h=>h)⟩;obtain⟨s1,s2,s3⟩:=hs (ds++[]) (by rw[vE];exact zRc hA);refine⟨.bool true,rfl,ds,[],p++[],[],p,[],hW',?_,?_,?_,hbel.frame _,λh=>by cases h⟩
 ·rw[s1,hres];exact trodAll_mk1 (shut_bool hb true)
 ·rw[s2,vE];exact zJl hl hbel hread hA hlt
 ·rw[s3,hvars];rfl
end Go.Dec
namespace Go.Dec
@[simp] theorem dH {ρ:Type}(x y:Option ρ):br true x y=x:=rfl
@[simp] theorem bS {ρ:Type}(x y:Option ρ):br false x y=y:=rfl
@[simp] theorem aK {α ρ:Type}(a:α) (k:α->Option ρ):ob (some a) k=k a:=rfl
@[simp] theorem Ce {ρ:Type}(x:Option ρ):chk true x=x:=rfl
theorem yHx{α:Type}{f:α->α->Bool}(hf:∀ a b,f a b=true<->a=b):∀ {x y:List α},Yg f x y=true<->x=y
 |[],[]=>by simp[Yg]
 |[],_::_=>by simp[Yg]
 |_::_,[]=>by simp[Yg]
 |a::x,b::y=>by simp[Yg,hf,yHx hf]
theorem beq_iff:∀ {t:Ty},t.cmp=true->∀ {x y:t.den},t.beq x y=true<->x=y
 |.unit,_,_,_=>by simp[Ty.beq]
 |.bool,_,_,_=>by simp[Ty.beq,Ty.beq.Bool.beq']
 |.int _,_,_,_=>by simp[Ty.beq,Ty.beq.Int.beq']
 |.str,_,_,_=>by simp[Ty.beq,Ty.beq.List.beq']
 |.pair a b,h,x,y=>by
  simp only[Ty.cmp,aD]at h;simp only[Ty.beq,aD,beq_iff h.1,beq_iff h.2];exact⟨λh=>Prod.ext h.1 h.2,λh=>by subst h;exact⟨rfl,rfl⟩⟩
 |.arr n a,h,x,y=>by
  simp only[Ty.cmp]at h;simp only[Ty.beq];exact yHx λ_ _=>beq_iff h
 |.slice _,h,_,_=>by cases h
 |.err,h,_,_=>by cases h
 |.opq,h,_,_=>by cases h
theorem yHy{t:Ty}(h:t.cmp=true)(x:t.den):t.beq x x=true:=(beq_iff h).2 rfl
theorem beq_false{t:Ty}(h:t.cmp=true){x y:t.den}(hne:x≠y):t.beq x y=false:=by
 cases hb:t.beq x y with
 |false=>rfl
 |true=>exact absurd ((beq_iff h).1 hb) hne
theorem Lh{ρ α:Type}(B:(α->Option ρ)->α->Option ρ)(n:Nat)(x:α):fix B (n+1) x=B (fix B n) x:=rfl
theorem lZ{ρ α:Type}{B:(α->Option ρ)->α->Option ρ}{n:Nat}{x:α}(h:0<n):fix B n x=B (fix B (n-1)) x:=by
 cases n with
 |zero=>omega
 |succ n=>rfl
theorem bD{x:Int}(h:-9223372036854775808<=x)(h2:x<=9223372036854775807):qEq .i64 x=x:=IntWalk.i64_in x ⟨h,h2⟩
theorem bI{i:Int}{n:Nat}(h:0<=i)(h2:i<n):inB i n=true:=by simp[inB,h,h2]
theorem Jc{i n:Nat}(h:i<n):inB (i:Int) n=true:=bI (by omega) (by omega)
variable {n:Nat}
theorem yQz{a b:Int}(h:a<=b):decide (a<=b)=true:=decide_eq_true h
theorem sI{a b:Bool}(h:a=true)(h2:b=true):(a&&b)=true:=by rw[h,h2];rfl
theorem Ri{a b:Int}(h:0<=a)(h2:a<=b):(decide (0<=a)&&decide (a<=b))=true:=sI (yQz h) (yQz h2)
theorem yRa{a b c:Int}(h:0<=a)(h1:a<=b)(h2:b<=c):(decide (0<=b)&&decide (b<=c)&&(decide (0<=a)&&decide (a<=b)))=true:=sI (Ri (by omega) h2) (Ri h h1)
theorem jZ{p:Prop}[Decidable p](h:decide p=true):p:=of_decide_eq_true h
theorem Am{p:Prop}[Decidable p](h:decide p=false):¬ p:=of_decide_eq_false h
theorem Rj{s:List UInt8}{a:Int}(h0:0<=a)(h1:a<=s.length):lU n (s,a)=some (s.drop a.toNat,a):=by
 unfold lU;simp only;rw[show decide (a<0)=false from decide_eq_false (by omega),bS,show decide (a>(s.length:Int))=false from decide_eq_false (by omega),bS,Ri h0 h1,Ce]
def yZc:List Bool:=((qAf 256 false).set 32 true).set 9 true
def xLu:List Bool:=((((((((((qAf 256 false).set 48 true).set 49 true).set 50 true).set 51 true).set 52 true).set 53 true).set 54 true).set 55 true).set 56 true).set 57 true
theorem zXa:∃ t,(∀ m,strings_makeASCIISet (m+3) [32,9]=some (t,true))/\t.length=256:=⟨yZc,λm=>by kernel_rfl,by kernel_rfl⟩
theorem yRb:∃ t,(∀ m,strings_makeASCIISet (m+11) [48,49,50,51,52,53,54,55,56,57]=some (t,true))/\t.length=256:=⟨xLu,λm=>by kernel_rfl,by kernel_rfl⟩
theorem zZo(c:UInt8)(b:List Bool):gF n ((c.toNat:Int),b,())=some (b.getD c.toNat false,b,()):=by
 unfold gF;have h:=c.toNat_lt;simp only;rw[Jc (by simpa using h),Ce,qCg,decide_eq_true (by simpa using h),Ce];rfl
theorem yUk(b:List Bool):∀ s:List UInt8,s.length<n->∃ t,strings_trimLeftASCII n (s,b,())=some (t,b,())/\t <:+ s:=by
 have key:∀ (m:Nat) (s:List UInt8),s.length<m->∃ t,fix (mU n) m (s,b,())=some (t,b,())/\t <:+ s:=by
  intro m;induction m with
  |zero=>intro s h;exact absurd h (qFq _)
  |succ m ih =>
   intro s hs;rw[Lh];unfold mU;simp only;cases s with
   |nil=>exact⟨[],rfl,qFm _⟩
   |cons c r =>
    rw[show decide ((((c::r).length:Nat):Int)>0)=true from decide_eq_true (by rw[xI];omega),dH,bI (by omega) (by rw[xI];omega),Ce];rw[show aM 0 (c::r) 0=c from rfl,zZo,aK];simp only;cases b.getD c.toNat false with
    |false=>exact⟨_,rfl,qFm _⟩
    |true =>
     rw[show(!true)=false from rfl,bS,Ri (by omega) (by rw[xI];omega),Ce];obtain⟨t,h1,h2⟩:=ih r (by rw[xI]at hs;omega);exact⟨t,h1,h2.trans (List.suffix_cons _ _)⟩
 intro s hs;exact key n s hs
theorem yUl(b:List Bool):∀ s:List UInt8,s.length<n->s.length<=999999->∃ t,strings_trimRightASCII n (s,b,())=some (t,b,())/\t.length<=s.length:=by
 have key:∀ (m:Nat) (s:List UInt8),s.length<m->s.length<1000000->∃ t,fix (rR n) m (s,b,())=some (t,b,())/\t.length<=s.length:=by
  intro m;induction m with
  |zero=>intro s h;exact absurd h (qFq _)
  |succ m ih =>
   intro s hs hb;rw[Lh];unfold rR;simp only;by_cases h0:s.length=0
   ·rw[show decide ((s.length:Int)>0)=false from decide_eq_false (by omega),bS];exact⟨_,rfl,aS _⟩
   ·rw[show decide ((s.length:Int)>0)=true from decide_eq_true (by omega),dH,bD (by omega) (by omega),bI (by omega) (by omega),Ce,zZo,aK];simp only;cases b.getD (aM 0 s ((s.length:Int)-1)).toNat false with
    |false=>exact⟨_,rfl,aS _⟩
    |true =>
     rw[show(!true)=false from rfl,bS,Ri (by omega) (by omega),Ce];have hl:(s.take ((s.length:Int)-1).toNat).length=s.length-1:=by rw[qAb];omega
     obtain⟨t,h1,h2⟩:=ih (s.take ((s.length:Int)-1).toNat) (by omega) (by omega);exact⟨t,h1,by omega⟩
 intro s hs hn;exact key n s hs (by omega)
theorem yBc{c d:UInt8}{cs:List UInt8}{k:Nat}(hk:k+1<=n)(ha:∃ t,(∀ m,strings_makeASCIISet (m+k) (c::d::cs)=some (t,true))/\t.length=256){s:List UInt8}(hs:s.length<n):∃ t,jU n (s,c::d::cs)=some t/\t <:+ s:=by
 obtain⟨b,ha,_⟩:=ha;obtain⟨t,h1,h2⟩:=yUk (n:=n) b s hs;have hm:=ha (n-k);rw[show n-k+k=n by omega]at hm;unfold jU;simp only;cases hz:s==[]with
 |true=>exact⟨s,rfl,qFm _⟩
 |false =>
  rw[bS,show((c::d::cs)==[])=false from rfl,bS,show((((c::d::cs).length:Nat):Int)==1)=false from beq_eq_false_iff_ne.2 (by rw[xI,xI];omega),bS,hm,aK];simp only[dH];rw[h1,aK];exact⟨t,rfl,h2⟩
theorem yUm{c d:UInt8}{cs:List UInt8}{k:Nat}(hk:k+1<=n){s:List UInt8}(hn:s.length<=999999)(ha:∃ t,(∀ m,strings_makeASCIISet (m+k) (c::d::cs)=some (t,true))/\t.length=256)(hs:s.length<n):∃ t,kH n (s,c::d::cs)=some t/\t.length<=s.length:=by
 obtain⟨b,ha,_⟩:=ha;obtain⟨t,h1,h2⟩:=yUl (n:=n) b s hs hn;have hm:=ha (n-k);rw[show n-k+k=n by omega]at hm;unfold kH;simp only;cases hz:s==[]with
 |true=>exact⟨s,rfl,aS _⟩
 |false =>
  rw[bS,show((c::d::cs)==[])=false from rfl,bS,show((((c::d::cs).length:Nat):Int)==1)=false from beq_eq_false_iff_ne.2 (by rw[xI,xI];omega),bS,hm,aK];simp only[dH];rw[h1,aK];exact⟨t,rfl,h2⟩
variable {s:List UInt8}{a:Int}
theorem yBd(hs:s.length+20<n)(hn:s.length<=900000)(h0:0<=a)(h1:a<=s.length):Ans (nM n (s,a)) λy=>a<=y/\y<=s.length:=by
 obtain⟨t,h2,h3⟩:=yBc (n:=n) (k:=3) (by omega) zXa (s:=s.drop a.toNat) (by rw[yV];omega);have hl:=h3.length_le;rw[yV]at hl;unfold nM;simp only;rw[Rj h0 h1,aK,h2,aK,bD (by omega) (by omega)];exact Ans.some ⟨by omega,by omega⟩
theorem zFz(b:List UInt8)(c:Int):∃ k,strings_IndexByte n (b,c)=some k:=⟨_,rfl⟩
theorem yBe(hs:s.length+20<n)(hn:s.length<=900000)(h0:0<=a)(h1:a<=s.length)(e:List UInt8)(m:Nat)(i0:Int)(hi:0<=i0)(hi1:i0<=((s.drop a.toNat).length:Int))(hm:((s.drop a.toNat).length:Int)-i0<m):Ans (fix (nU n) m (a,e,s.drop a.toNat,i0,())) λy=>a+i0<=y.2/\y.2<=s.length/\y.1.length<=s.length:=by
 have hdl:(s.drop a.toNat).length=s.length-a.toNat:=yV;refine Ans.loop (λx=>x.1=a/\x.2.1=e/\x.2.2.1=s.drop a.toNat/\i0<=x.2.2.2.1/\x.2.2.2.1<=((s.drop a.toNat).length:Int)) (λx=>(((s.drop a.toNat).length:Int)-x.2.2.2.1).toNat) ?_ m _ ⟨rfl,rfl,rfl,qEe _,hi1⟩ (by simp only;omega);rintro r ⟨t,e',rest,i,u⟩ ⟨ht,he,hrest,hi0,hi1⟩ hr;simp only at ht he hrest hi0 hi1 hr;subst ht he hrest;have fin:Ans (chk ((decide (0<=i)&&decide (i<=((s.drop t.toNat).length:Int)))) (ob (kH n ((s.drop t.toNat).take i.toNat,[32,9])) λy=>some (y,qEq .i64 (t+i)))) λy:List UInt8 × Int=>t+i0<=y.2/\y.2<=s.length/\y.1.length<=s.length:=by
  obtain⟨u,h2,h3⟩:=yUm (n:=n) (k:=3) (by omega) (s:=(s.drop t.toNat).take i.toNat) (by rw[qAb,yV];omega) zXa (by rw[qAb,yV];omega);have hl:((s.drop t.toNat).take i.toNat).length<=(s.drop t.toNat).length:=by rw[qAb];omega
  refine Ans.chk (Ri (by omega) hi1) ?_;rw[h2,aK,bD (by omega) (by omega)];exact Ans.some ⟨by simp only;omega,by simp only;omega,by simp only;omega⟩
 unfold nU;simp only;refine Ans.br (λh=>?_) (λ_=>fin);have h:=jZ h;refine Ans.chk (bI (by omega) (by omega)) (Ans.br (λ_=>Ans.chk (bI (by omega) (by omega)) ?_) (λ_=>fin));obtain⟨k,hk⟩:=zFz (n:=n) e' ((aM 0 (s.drop t.toNat) i).toNat:Int);rw[hk,aK];refine Ans.br (λ_=>?_) (λ_=>fin);rw[bD (by omega) (by omega)];exact hr _ ⟨rfl,rfl,rfl,by simp only;omega,by simp only;omega⟩ (by simp only;omega)
theorem yMi(hs:s.length+20<n)(hn:s.length<=900000)(h0:0<=a)(h1:a<=s.length)(e:List UInt8):Ans (sD n (s,a,e)) λy=>a<=y.2/\y.2<=s.length/\y.1.length<=s.length:=by
 unfold sD;simp only;rw[Rj h0 h1,aK];have hdl:(s.drop a.toNat).length=s.length-a.toNat:=yV;exact(yBe hs hn h0 h1 e n 0 (qEe _) (by omega) (by omega)).mono λy hy=>⟨by have:=hy.1;omega,hy.2⟩
theorem yUn(hs:s.length+20<n)(hn:s.length<=900000)(h0:0<=a)(hd:s[a.toNat]?=some 35):Ans (sD n (s,a,[])) λy=>a<y.2/\y.2<=s.length/\y.1.length<=s.length:=by
 have hlt:a.toNat<s.length:=(bK.1 hd).1;unfold sD;simp only;rw[Rj h0 (by omega),aK];have hdl:(s.drop a.toNat).length=s.length-a.toNat:=yV;have hg:aM 0 (s.drop a.toNat) 0=35:=by
  unfold aM;rw[List.getD_eq_getElem?_getD,List.getElem?_drop];simp only[Int.toNat_zero,Nat.add_zero,hd];rfl
 simp only;rw[lZ (by omega:0<n)];rw[show nU n (fix (nU n) (n-1)) (a,[],s.drop a.toNat,0,())=fix (nU n) (n-1) (a,[],s.drop a.toNat,1,())from by
  unfold nU;simp only;rw[show decide ((0:Int)<((s.drop a.toNat).length:Int))=true from decide_eq_true (by omega),dH,bI (qEe _) (by omega),Ce,hg];rfl]
 exact(yBe hs hn h0 (by omega) [] (n-1) 1 (by decide) (by omega) (by omega)).mono λy hy=>⟨by have:=hy.1;omega,hy.2⟩
theorem yKp(hs:s.length+20<n)(hn:s.length<=900000)(h0:0<=a)(hd:s[a.toNat]?=some 35):nM n (s,a)=some a:=by
 have hlt:a.toNat<s.length:=(bK.1 hd).1;have hdl:(s.drop a.toNat).length=s.length-a.toNat:=yV;obtain⟨r,hr⟩:∃ r,s.drop a.toNat=35::r:=⟨s.drop (a.toNat+1),by rw[List.drop_eq_getElem_cons hlt];congr 1;exact(bK.1 hd).2⟩;have htr:jU n (35::r,[32,9])=some (35::r):=by
  have hm:strings_makeASCIISet n [32,9]=some (yZc,true):=by
   obtain⟨m,rfl⟩:∃ m,n=m+3:=⟨n-3,by omega⟩
   kernel_rfl
  unfold jU;simp only;rw[show(((35:UInt8)::r)==[])=false from rfl,bS,show(([32,9]:List UInt8)==[])=false from rfl,bS,show((([32,9]:List UInt8).length:Int)==1)=false from rfl,bS,hm,aK];simp only[dH];unfold strings_trimLeftASCII;simp only;rw[lZ (by omega:0<n)];unfold mU;simp only;rw[show decide ((((35::r).length:Nat):Int)>0)=true from decide_eq_true (by rw[xI];omega),dH,bI (by omega) (by rw[xI];omega),Ce,show aM (0:UInt8) (35::r) 0=35 from rfl,zZo,aK];simp only;rw[show yZc.getD (35:UInt8).toNat false=false from by decide +kernel];rfl
 unfold nM;simp only;rw[Rj h0 (by omega),aK];simp only;rw[hr,htr,aK,<- hr,bD (by omega) (by omega)];exact congrArg some (by omega)
theorem yUo(hs:s.length+20<n)(hn:s.length<=900000)(h0:0<=a)(h1:a<=s.length):Ans (Fj n (s,a)) λy=>a<=y.2.1/\y.2.1<=s.length/\(y.2.2=0->a<y.2.1):=by
 obtain⟨t,h2,h3⟩:=yBc (n:=n) (k:=11) (by omega) yRb (s:=s.drop a.toNat) (by rw[yV];omega);have hl:=h3.length_le;have hd:(s.drop a.toNat).length=s.length-a.toNat:=yV;unfold Fj;simp only;rw[Rj h0 h1,aK];simp only;rw[h2,aK,bD (by omega) (by omega)];refine Ans.chk (Ri (by omega) (by omega)) ?_;have htk:((s.drop a.toNat).take (((s.drop a.toNat).length:Int)-(t.length:Int)).toNat).length<=(s.drop a.toNat).length:=by rw[qAb];omega
 have hp:∃ q,uO n ((s.drop a.toNat).take (((s.drop a.toNat).length:Int)-(t.length:Int)).toNat,10,64)=some q:=⟨_,by unfold uO;rw[show((10:Int)==10&&((64:Int)==64&&qBg _ 281474976710656))=true from by simp only[beq_self_eq_true,Bool.true_and];exact qFr (by omega)];rfl⟩;obtain⟨q,hq⟩:=hp;generalize (s.drop a.toNat).take (((s.drop a.toNat).length:Int)-(t.length:Int)).toNat=T at htk hq ⊢;rw[hq,aK];refine Ans.br (λ_=>Ans.some ⟨qEe _,h1,λe=>by simp at e⟩) (λhT=>Ans.br (λ_=>Ans.some ⟨qEe _,h1,λe=>by simp at e⟩) (λ_=>Ans.br (λ_=>Ans.some ⟨qEe _,h1,λe=>by simp at e⟩) (λ_=>?_)));have hT:1<=T.length:=by cases T with|nil=>cases hT|cons a r=>simp
 rw[bD (x:=a+(T.length:Int)) (by omega) (by omega)];exact Ans.some ⟨by simp only;omega,by simp only;omega,λ_=>by simp only;omega⟩
end Go.Dec
namespace Go.Dec
variable {n:Nat}
def Bys (row:List Int):Prop := ∀ v ∈ row,0<=v ∧ v < 256
theorem yMj:Bys []:=λ_ h=>by cases h
theorem zZp{a b:List Int}(h:Bys a)(k:Bys b):Bys (a++b):=λv hv=>by
 rcases qAp.1 hv with hv|hv
 ·exact h v hv
 ·exact k v hv
theorem yRc(s:List UInt8):Bys (eH s):=λv hv=>by
 obtain⟨c,_,rfl⟩:=List.mem_map.1 hv;have:=c.toNat_lt;exact⟨by omega,by omega⟩
theorem zAr(s:List UInt8):(eH s).length=s.length:=qFs ..
theorem Gl(r:List Int):(bV r).length=r.length:=qFs ..
theorem Uo{m k:Nat}(h:m*k<=100000000000):qBg (m*k) room=true:=qFr (zG h (by decide))
theorem yDn{a:Nat}(h:a<=100000000000):decide (a<=qV)=true:=decide_eq_true (zG h (by decide))
theorem zOp(s t:List UInt8):∃ b,strings_HasPrefix n (s,t)=some b/\(b=true->t.length<=s.length):=by
 unfold strings_HasPrefix iC;simp only;by_cases h:t.length<=s.length
 ·rw[show decide ((s.length:Int)≥(t.length:Int))=true from decide_eq_true (by omega),dH,show(decide (0<=(t.length:Int))&&true)=true from (Bool.and_true _).trans (yQz (by omega)),Ce,aK];exact⟨_,rfl,λ_=>h⟩
 ·rw[show decide ((s.length:Int)≥(t.length:Int))=false from decide_eq_false (by omega),bS,aK];exact⟨_,rfl,λh=>by cases h⟩
theorem zTk{t:List UInt8}{row:List Int}(h:row.length+t.length<=10000000):eT n (t,row,())=some ((t.length:Int),false,row++eH t,()):=by
 unfold eT Kl;simp only[aK];rw[Uo (by omega),Ce]
theorem zZq{row:List Int}(h:Bys row):Builder_String n (row,())=some (bV row,[],()):=by
 unfold Builder_String;simp only;rw[show(row.all λv=>decide (0<=v)&&decide (v<256))=true from List.all_eq_true.2 λv hv=>sI (yQz (h v hv).1) (decide_eq_true (h v hv).2),Ce]
theorem yZd{one b:List UInt8}{row:List Int}(hr:Bys row)(hb:b.length<=one.length)(ho:one.length<=10)(hl:row.length<=1000000):Ans (sQ n (one,b,row,())) λy=>y.2.1=b/\Bys y.2.2.1/\y.2.2.1.length<=row.length+one.length:=by
 have stay:∀ q,Ans (some (q,b,row,()):Option (Bool × Sc6)) λy=>y.2.1=b/\Bys y.2.2.1/\y.2.2.1.length<=row.length+one.length:=λq=>Ans.some ⟨rfl,hr,qAn _ _⟩
 unfold sQ;simp only;refine Ans.br (λ_=>stay _) (λ_=>Ans.br (λ_=>stay _) (λ_=>Ans.br (λ_=>stay _) (λ_=>Ans.chk (yDn (by rw[qFl];omega)) (Ans.br (λ_=>?_) (λ_=>?_)))))
 ·rw[zTk (by omega),aK];exact Ans.some ⟨rfl,zZp hr (yRc _),by simp only[xG,zAr];omega⟩
 ·rw[zTk (by omega),aK];exact Ans.some ⟨rfl,zZp hr (yRc _),by simp only[xG,zAr];omega⟩
theorem yMk{s:List UInt8}{i k:Int}(h0:0<=i)(hk:0<=k)(h1:i+k<=s.length):((s.take (i+k).toNat).drop i.toNat).length=k.toNat:=by rw[yV,qAb];omega
theorem yUp{s b:List UInt8}(hs:s.length<n)(hs2:s.length<=100000)(hb:b.length=1):Ans (kM n (s,b,[],())) λy=>0<=y.1/\y.1<=s.length/\y.2.1=b/\Bys y.2.2.1/\y.2.2.1.length<=s.length:=by
 unfold kM;refine Ans.loop (λx=>x.1=s/\0<=x.2.1/\x.2.1<=(s.length:Int)/\x.2.2.1=b/\Bys x.2.2.2.1/\(x.2.2.2.1.length:Int)<=x.2.1) (λx=>((s.length:Int)-x.2.1).toNat) ?_ n _ ⟨rfl,qEe _,by simp only;omega,rfl,yMj,qEe _⟩ (by simp only;omega);rintro r ⟨s',i,b',row,u⟩ ⟨h1,h2,h3,h4,h5,h6⟩ hr;simp only at h1 h2 h3 h4 h5 h6 hr;subst h1 h4;have go:∀ k:Int,(k=1\/k=2)->i+k<=s'.length->Ans (chk ((decide (0<=qEq .i64 (i+k))&&decide (qEq .i64 (i+k)<=(s'.length:Int))&&(decide (0<=i)&&decide (i<=qEq .i64 (i+k))))) (ob (sQ n ((s'.take (qEq .i64 (i+k)).toNat).drop i.toNat,b',row,())) λy=>br (!y.1) (some (i,y.2.1,y.2.2.1,())) (r (s',qEq .i64 (i+k),y.2.1,y.2.2.1,())))) λy:Int × Sc6=>0<=y.1/\y.1<=s'.length/\y.2.1=b'/\Bys y.2.2.1/\y.2.2.1.length<=s'.length:=by
  intro k hk hik;have hk0:0<=k/\k<=2/\1<=k:=by omega
  rw[bD (x:=i+k) (by omega) (by omega)];refine Ans.chk (yRa h2 (by omega) hik) ?_;have hl:=yMk h2 hk0.1 hik;refine Ans.ob (λy:Bool × Sc6=>y.2.1=b'/\Bys y.2.2.1/\y.2.2.1.length<=row.length+k.toNat) ((yZd h5 (by omega) (by omega) (by omega)).mono λy hy=>by rw[hl]at hy;exact hy) ?_;rintro y ⟨g1,g2,g3⟩;refine Ans.br (λ_=>Ans.some ⟨h2,h3,g1,g2,by simp only;omega⟩) (λ_=>hr _ ⟨rfl,by simp only;omega,hik,g1,g2,by simp only;omega⟩ (by simp only;omega))
 unfold wZ;simp only;refine Ans.br (λh=>?_) (λ_=>Ans.some ⟨h2,h3,rfl,h5,by simp only;omega⟩);have h:=jZ h;refine Ans.chk (bI h2 (by omega)) (Ans.br (λ_=>?_) (λ_=>go 1 (.inl rfl) (by omega)));refine Ans.br (λh'=>go 2 (.inr rfl) ?_) (λ_=>go 1 (.inl rfl) (by omega));have h':=jZ h';rw[bD (by omega) (by omega)]at h';omega
theorem xDj{s:List UInt8}{a d:Int}(hs:s.length+20<n)(hs2:s.length<=100000)(h0:0<=a)(h1:a<=s.length):Ans (Nr n (s,a,d)) λy=>a<=y.2.1/\y.2.1<=s.length/\y.1.length<=s.length:=by
 have hl1:(bV [d]).length=1:=by rw[Gl];rfl
 have bad:Ans (some (([]:List UInt8),a,(120:Int))) λy=>a<=y.2.1/\y.2.1<=s.length/\y.1.length<=s.length:=Ans.some ⟨qEe _,h1,qAm _⟩
 unfold Nr;simp only;rw[Rj h0 h1,aK];refine Ans.br (λ_=>bad) (λ_=>Ans.br (λ_=>bad) (λ_=>?_));have hd:(s.drop a.toNat).length=s.length-a.toNat:=yV;refine Ans.ob _ (yUp (n:=n) (s:=s.drop a.toNat) (b:=bV [d]) (by omega) (by omega) hl1) ?_;rintro⟨k,b,row,u⟩ ⟨g1,g2,g3,g4,g5⟩;simp only at g1 g2 g3 g4 g5;subst g3;refine Ans.chk (Ri g1 g2) ?_;obtain⟨q,hq,hq2⟩:=zOp (n:=n) ((s.drop a.toNat).drop k.toNat) (bV [d]);rw[hq,aK];refine Ans.br (λ_=>bad) (λh=>?_);have hq2:=hq2 (by cases q<;>simp_all);rw[hl1,yV]at hq2;rw[zZq g4,aK,bD (x:=a+k) (by omega) (by omega),bD (by omega) (by omega)];exact Ans.some ⟨by simp only;omega,by simp only;omega,by simp only[Gl];omega⟩
theorem yZe{one:List UInt8}{row:List Int}(hr:Bys row)(ho:one.length<=10)(ho1:1<=one.length)(hl:row.length<=1000000):Ans (sU n (one,row,())) λy=>Bys y.2.1/\y.2.1.length<=row.length+one.length:=by
 have stay:Ans (some (false,row,()):Option (Bool × List Int × Unit)) λy=>Bys y.2.1/\y.2.1.length<=row.length+one.length:=Ans.some ⟨hr,qAn _ _⟩
 unfold sU;simp only;refine Ans.br (λ_=>stay) (λ_=>Ans.br (λ_=>stay) (λ_=>?_));rw[bD (by omega) (by omega)];refine Ans.chk (Ri (by omega) (by omega)) ?_;rw[zTk (by rw[yV];omega),aK];exact Ans.some ⟨zZp hr (yRc _),by simp only[xG,zAr,yV];omega⟩
theorem yUq{s:List UInt8}(hs:s.length<n)(hs2:s.length<=100000):Ans (kN n (s,[],())) λy=>0<=y.1/\y.1<=s.length/\Bys y.2.1/\y.2.1.length<=s.length:=by
 unfold kN;refine Ans.loop (λx=>x.1=s/\0<=x.2.1/\x.2.1<=(s.length:Int)/\Bys x.2.2.1/\(x.2.2.1.length:Int)<=x.2.1) (λx=>((s.length:Int)-x.2.1).toNat) ?_ n _ ⟨rfl,qEe _,by simp only;omega,yMj,qEe _⟩ (by simp only;omega);rintro r ⟨s',i,row,u⟩ ⟨h1,h2,h3,h5,h6⟩ hr;simp only at h1 h2 h3 h5 h6 hr;subst h1;have go:∀ k:Int,(k=1\/k=2)->i+k<=s'.length->Ans (chk ((decide (0<=qEq .i64 (i+k))&&decide (qEq .i64 (i+k)<=(s'.length:Int))&&(decide (0<=i)&&decide (i<=qEq .i64 (i+k))))) (ob (sU n ((s'.take (qEq .i64 (i+k)).toNat).drop i.toNat,row,())) λy=>br (!y.1) (some (i,y.2.1,())) (r (s',qEq .i64 (i+k),y.2.1,())))) λy:Int × List Int × Unit=>0<=y.1/\y.1<=s'.length/\Bys y.2.1/\y.2.1.length<=s'.length:=by
  intro k hk hik;have hk0:0<=k/\k<=2/\1<=k:=by omega
  rw[bD (x:=i+k) (by omega) (by omega)];refine Ans.chk (yRa h2 (by omega) hik) ?_;have hl:=yMk h2 hk0.1 hik;refine Ans.ob (λy:Bool × List Int × Unit=>Bys y.2.1/\y.2.1.length<=row.length+k.toNat) ((yZe h5 (by omega) (by omega) (by omega)).mono λy hy=>by rw[hl]at hy;exact hy) ?_;rintro y ⟨g2,g3⟩;refine Ans.br (λ_=>Ans.some ⟨h2,h3,g2,by simp only;omega⟩) (λ_=>hr _ ⟨rfl,by simp only;omega,hik,g2,by simp only;omega⟩ (by simp only;omega))
 unfold xA;simp only;refine Ans.br (λh=>?_) (λ_=>Ans.some ⟨h2,h3,h5,by simp only;omega⟩);have h:=jZ h;refine Ans.chk (bI h2 (by omega)) (Ans.br (λ_=>?_) (λ_=>go 1 (.inl rfl) (by omega)));refine Ans.br (λh'=>go 2 (.inr rfl) ?_) (λ_=>go 1 (.inl rfl) (by omega));have h':=jZ h';rw[bD (by omega) (by omega)]at h';omega
theorem xDk{s:List UInt8}{a:Int}(hs:s.length+20<n)(hs2:s.length<=100000)(h0:0<=a)(h1:a<=s.length):Ans (Ny n (s,a)) λy=>a<=y.2.1/\y.2.1<=s.length/\y.1.length<=s.length+1:=by
 unfold Ny;simp only;rw[Rj h0 h1,aK];have hd:(s.drop a.toNat).length=s.length-a.toNat:=yV;refine Ans.ob _ (yUq (n:=n) (s:=s.drop a.toNat) (by omega) (by omega)) ?_;rintro⟨k,row,u⟩ ⟨g1,g2,g4,g5⟩;simp only at g1 g2 g4 g5;refine Ans.chk (Ri g1 g2) ?_;obtain⟨q,hq,_⟩:=zOp (n:=n) ((s.drop a.toNat).drop k.toNat) [92];rw[hq,aK];have hk:(bV row).length=row.length:=Gl _;refine Ans.br (λ_=>Ans.some ⟨qEe _,h1,qAm _⟩) (λ_=>Ans.br (λh=>?_) (λ_=>?_))
 ·have h:k<((s.drop a.toNat).length:Int):=jZ h;rw[zZq g4,aK,bD (x:=k+1) (by omega) (by omega)];refine Ans.chk (yDn (by simp only[qFl];omega)) ?_;rw[bD (by omega) (by omega)];exact Ans.some ⟨by simp only;omega,by simp only;omega,by simp only[xG,qFl];omega⟩
 ·rw[zZq g4,aK];refine Ans.chk (yDn (by simp only[qFl];omega)) ?_;rw[bD (by omega) (by omega)];exact Ans.some ⟨by simp only;omega,by simp only;omega,by simp only[xG,qFl];omega⟩
end Go.Dec
namespace Go.Dec
variable {n:Nat}
abbrev Oz:Type:=List UInt8 × Int × Unit
theorem yHz{b:List UInt8}{row:List Oz}(hl:row.length<=1000000):Ans (qM n (b,row,())) λy=>y.2.1.length<=row.length+1/\y.1=[]:=by
 unfold qM;simp only;refine Ans.br (λ_=>Ans.chk (Uo (by simp only[qFl];omega)) (Ans.some ⟨by simp only[xG,qFl];omega,rfl⟩)) (λ_=>Ans.some ⟨by simp only;omega,rfl⟩)
theorem yZf{s:List UInt8}(hs:s.length<n)(hs2:s.length<=100000):Ans (Jq n s) λy=>y.1.length<=2*s.length+1:=by
 unfold Jq;refine Ans.loop (λx=>x.1=s/\0<=x.2.1/\x.2.1<=(s.length:Int)/\(x.2.2.1.length:Int)<=x.2.1/\(x.2.2.2.1.length:Int)<=2*x.2.1) (λx=>((s.length:Int)-x.2.1).toNat) ?_ n _ ⟨rfl,qEe _,by simp only;omega,qEe _,qEe _⟩ (by simp only;omega);rintro r ⟨s',i,b,row,u⟩ ⟨h1,h2,h3,h5,h6⟩ hr;simp only at h1 h2 h3 h5 h6 hr;subst h1;have bad:∀ (k:Int),Ans (some (([]:List Oz),k,(90:Int))) λy=>y.1.length<=2*s'.length+1:=λk=>Ans.some (qAm _)
 have lay:∀ (c k:Int),(k=1\/k=2)->i+k<=s'.length->Ans (chk (decide (b.length+(bV [c]).length<=qV)) (r (s',i+k,b++bV [c],row,()))) λy=>y.1.length<=2*s'.length+1:=by
  intro c k hk hik;have hc:(bV [c]).length=1:=by rw[Gl];rfl
  refine Ans.chk (yDn (by omega)) (hr _ ⟨rfl,by simp only;omega,hik,by simp only[xG,hc];omega,by simp only;omega⟩ (by simp only;omega))
 have part:∀ (c k:Int),(k=1\/k=2)->i+k<=s'.length->Ans (ob (qM n (b,row,())) λy=>chk (qBg ((y.2.1.length+([([],(c,()))]:List Oz).length)*24) room) (r (s',i+k,y.1,y.2.1++[([],(c,()))],()))) λy=>y.1.length<=2*s'.length+1:=by
  intro c k hk hik;refine Ans.ob _ (yHz (n:=n) (b:=b) (row:=row) (by omega)) ?_;rintro⟨b2,Np,u2⟩ ⟨g1,g2⟩;simp only at g1 g2;subst g2;refine Ans.chk (Uo (by simp only[qFl];omega)) (hr _ ⟨rfl,by simp only;omega,hik,by simp only[List.length_nil];omega,by simp only[xG,qFl];omega⟩ (by simp only;omega))
 have w1:qEq .i64 (i+1)=i+1:=bD (by omega) (by omega);have w2:qEq .i64 (i+1+1)=i+2:=by rw[bD (by omega) (by omega)];omega
 unfold Vr;simp only[w1,w2];refine Ans.br (λh=>?_) (λ_=>?_)
 ·have h:=jZ h;refine Ans.chk (bI h2 (by omega)) (Ans.br (λ_=>part 0 1 (.inl rfl) (by omega)) (λ_=>Ans.br (λ_=>bad _) (λ_=>Ans.br (λ_=>lay _ 1 (.inl rfl) (by omega)) (λ_=>Ans.br (λ_=>bad _) (λhne=>?_)))));have hne:i+1≠s'.length:=by simpa using hne
  have tail:Ans (br ((((aM 0 s' (i+1)).toNat:Int))==110) (chk (decide (b.length+(bV [10]).length<=qV)) (r (s',i+2,b++bV [10],row,()))) (ob (strings_IndexByte n ([10,92,38,47],((aM 0 s' (i+1)).toNat:Int))) λy=>br (decide (y<0)) (some ([],qEq .i64 (i+1-1),90)) (chk (decide (b.length+(bV [((aM 0 s' (i+1)).toNat:Int)]).length<=qV)) (r (s',i+2,b++bV [((aM 0 s' (i+1)).toNat:Int)],row,()))))) λy=>y.1.length<=2*s'.length+1:=by
   refine Ans.br (λ_=>lay _ 2 (.inr rfl) (by omega)) (λ_=>?_);obtain⟨k,hk⟩:=zFz (n:=n) [10,92,38,47] ((aM 0 s' (i+1)).toNat:Int);rw[hk,aK];exact Ans.br (λ_=>bad _) (λ_=>lay _ 2 (.inr rfl) (by omega))
  refine Ans.chk (bI (by omega) (by omega)) (Ans.br (λ_=>Ans.br (λ_=>part _ 2 (.inr rfl) (by omega)) (λ_=>tail)) (λ_=>tail))
 ·refine Ans.ob _ (yHz (n:=n) (b:=b) (row:=row) (by omega)) ?_;rintro⟨b2,Np,u2⟩ ⟨g1,g2⟩;exact Ans.some (by simp only at g1 ⊢;omega)
theorem xDl{l:List Oz}(hl:l.length<n)(hl2:l.length<=1000000):Ans (Ns n l) λ_=>True:=by
 unfold Ns;refine Ans.loop (λx=>x.2.1=l/\x.2.2.1=(l.length:Int)/\0<=x.2.2.2.1/\x.2.2.2.1<=(l.length:Int)) (λx=>((l.length:Int)-x.2.2.2.1).toNat) ?_ n _ ⟨rfl,rfl,qEe _,by simp only;omega⟩ (by simp only;omega);rintro r ⟨m,l',t,i,u⟩ ⟨h1,h2,h3,h4⟩ hr;simp only at h1 h2 h3 h4 hr;subst h1 h2;unfold Yx;simp only;refine Ans.br (λh=>Ans.chk (bI h3 (by have:=jZ h;omega)) ?_) (λ_=>Ans.some trivial);have h:=jZ h;rw[bD (by omega) (by omega)];exact hr _ ⟨rfl,rfl,by simp only;omega,by simp only;omega⟩ (by simp only;omega)
theorem yBf{s:List UInt8}(hs:s.length<n)(hs2:s.length<=100000):Ans (Db n s) λy=>y.1.length<=s.length:=by
 unfold Db;refine Ans.loop (λx=>x.1=s/\0<=x.2.1/\x.2.1<=(s.length:Int)/\(x.2.2.1.length:Int)<=x.2.1) (λx=>((s.length:Int)-x.2.1).toNat) ?_ n _ ⟨rfl,qEe _,by simp only;omega,qEe _⟩ (by simp only;omega);rintro r ⟨s',i,row,u⟩ ⟨h1,h2,h3,h5⟩ hr;simp only at h1 h2 h3 h5 hr;subst h1;have bad:Ans (some (([]:List UInt8),i,(100:Int))) λy=>y.1.length<=s'.length:=Ans.some (qAm _)
 have w1:qEq .i64 (i+1)=i+1:=bD (by omega) (by omega);have w2:qEq .i64 (i+1+1)=i+2:=by rw[bD (by omega) (by omega)];omega
 have lay:∀ (c k:Int),(k=1\/k=2)->i+k<=s'.length->Ans (chk (qBg ((row.length+([c]:List (Int)).length)*1) room) (r (s',i+k,row++[c],()))) λy=>y.1.length<=s'.length:=by
  intro c k hk hik;exact Ans.chk (Uo (by simp only[qFl];omega)) (hr _ ⟨rfl,by simp only;omega,hik,by simp only[xG,qFl];omega⟩ (by simp only;omega))
 unfold Vs;simp only[w1,w2];refine Ans.br (λh=>?_) (λ_=>Ans.some (by simp only[Gl];omega));have h:=jZ h;refine Ans.chk (bI h2 (by omega)) (Ans.br (λ_=>bad) (λ_=>Ans.br (λ_=>Ans.br (λ_=>bad) (λhne=>?_)) (λ_=>lay _ 1 (.inl rfl) (by omega))));have hne:i+1≠s'.length:=by simpa using hne
 refine Ans.chk (bI (by omega) (by omega)) ?_;obtain⟨k,hk⟩:=zFz (n:=n) [110,92,47] ((aM 0 s' (i+1)).toNat:Int);rw[hk,aK];exact Ans.br (λ_=>bad) (λ_=>Ans.chk (bI (by omega) (by omega)) (Ans.br (λ_=>lay _ 2 (.inr rfl) (by omega)) (λ_=>lay _ 2 (.inr rfl) (by omega))))
theorem xDm(hn:300<=n):Ans (Nv n ()) λ_=>True:=by
 unfold Nv;refine Ans.loop (λx=>0<=x.1/\x.1<=256) (λx=>(256-x.1).toNat) ?_ n _ ⟨qEe _,by decide⟩ (by simp only;omega);rintro r ⟨i,row,u⟩ ⟨h1,h2⟩ hr;simp only at h1 h2 hr;unfold Yz;simp only;refine Ans.br (λh=>?_) (λ_=>Ans.some trivial);have h:=jZ h;refine Ans.chk (bI h1 (by omega)) (Ans.chk (decide_eq_true (by omega)) ?_);rw[bD (x:=i+1) (by omega) (by omega)];exact hr _ ⟨by simp only;omega,by simp only;omega⟩ (by simp only;omega)
theorem xDn{a b:List UInt8}(hn:300<=n)(ha:a.length<n)(ha2:a.length<=100000):Ans (Nw n (a,b)) λ_=>True:=by
 unfold Nw;simp only;refine Ans.br (λ_=>Ans.some trivial) (λhab=>Ans.ob _ (xDm hn) ?_);have hab:a.length=b.length:=by simp at hab;omega
 rintro y _;refine Ans.loop (λx=>x.1=a/\x.2.1=b/\x.2.2.1=(a.length:Int)/\0<=x.2.2.2.1/\x.2.2.2.1<=(a.length:Int)) (λx=>((a.length:Int)-x.2.2.2.1).toNat) ?_ n _ ⟨rfl,rfl,rfl,qEe _,by simp only;omega⟩ (by simp only;omega);rintro r ⟨a',b',t,i,c1,c2,c3,u⟩ ⟨h1,h2,h3,h4,h5⟩ hr;simp only at h1 h2 h3 h4 h5 hr;subst h1 h2 h3;unfold Za;simp only;refine Ans.br (λh=>?_) (λ_=>Ans.some trivial);have h:=jZ h;have hc:=(aM 0 a' i).toNat_lt;have hc1:inB ((aM 0 a' i).toNat:Int) 256=true:=Jc (by simpa using hc);have hc2:decide (((aM 0 a' i).toNat:Int).toNat<256)=true:=decide_eq_true (by rw[qCg];simpa using hc);refine Ans.chk (bI h4 (by omega)) (Ans.chk hc1 (Ans.chk hc2 (Ans.br (λ_=>Ans.some trivial) (λ_=>Ans.chk (bI h4 (by omega)) (Ans.chk hc1 (Ans.chk hc2 (Ans.chk hc1 (Ans.chk hc2 ?_))))))));rw[bD (x:=i+1) (by omega) (by omega)];exact hr _ ⟨rfl,rfl,rfl,by simp only;omega,by simp only;omega⟩ (by simp only;omega)
theorem yUr(a:Int × Int × Int × Unit):Ans (xO n a) λ_=>True:=by
 unfold xO;simp only;refine Ans.br (λ_=>Ans.some trivial) (λh1=>Ans.br (λ_=>Ans.some trivial) (λh2=>?_));have h1:=Am h1;have h2:=Am h2;refine Ans.chk (bI (by omega) (by omega)) (Ans.chk (decide_eq_true (by omega)) (Ans.br (λ_=>Ans.chk (bI (by decide) (by decide)) (Ans.chk (by decide) (Ans.br (λ_=>Ans.br (λ_=>Ans.chk (bI (by decide) (by decide)) (Ans.chk (by decide) (Ans.some trivial))) (λ_=>Ans.some trivial)) (λ_=>Ans.some trivial)))) (λ_=>Ans.some trivial)))
theorem yUs(r:(Int × Int × Int × Unit) × (Int × Int × Int × Unit) × Bool × Unit):Ans (Ql n r) λ_=>True:=by
 unfold Ql;simp only;refine Ans.ob _ (yUr _) λy _=>Ans.br (λ_=>Ans.some trivial) (λ_=>Ans.ob _ (yUr _) λy _=>Ans.br (λ_=>Ans.some trivial) (λ_=>Ans.br (λ_=>Ans.some trivial) (λ_=>Ans.br (λ_=>Ans.some trivial) (λ_=>Ans.br (λ_=>Ans.some trivial) (λ_=>Ans.br (λ_=>Ans.some trivial) (λ_=>Ans.some trivial))))))
end Go.Dec
