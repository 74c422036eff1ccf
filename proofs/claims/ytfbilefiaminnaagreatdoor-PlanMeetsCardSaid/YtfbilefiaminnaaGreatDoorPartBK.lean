/- Part of a proof over this seat: a library of my own, and what it says of this seat. No statement is proved here. -/
import Derived.OpenShut
import Derived.Test.YtfbilefiaminnaaGreatDoorPartAJ
import Derived.ProofKit
import Derived.HandedShaped
import Derived.Shelf.Vars
import Derived.Lib.IndexMore
import Derived.Lib.Index
import Derived.IntWalk
namespace Go.Dec
open Go.ChangeShapes Go.WideShapes Go.ChangeAt Go.RowKit
def Ty.WF:(t:Ty)->t.den->Prop | .int k,n=>k.min<=n ∧ n<=k.max | .str,s=>s.length<=maxLen | .pair a b,x=>a.WF x.1 ∧ b.WF x.2 | .arr n a,xs=>xs.length = n ∧ ∀ x ∈ xs,a.WF x | .slice a,xs=>xs.length<=maxLen ∧ ∀ x ∈ xs,a.WF x | _,_=>True
def yLf(P:Program)(g:TypeId->Bool)(h:TypeId->Option Ty):Nat->List Field->Nat->Bool
 |off,[],total=>Nat.beq off total
 |off,f::fs,total=>Nat.beq f.offset off&&(g f.type&&((match h f.type with|some a=>Nat.beq a.size (P.cellsOf f.type)|none=>false)&&yLf P g h (off+P.cellsOf f.type) fs total))
def Qh(P:Program):Nat->TypeId->Bool
 |0,_=>false
 |n+1,t =>
  match P.underlying t with
  |some .bool=>true
  |some (.int _)=>true
  |some .string=>true
  |some (.interface ms)=>!ms.isEmpty
  |some (.slice e)=>Qh P n e&&(match jI P n e with|some a=>Nat.beq a.size (P.cellsOf e)&&Nat.ble 1 a.size|none=>false)
  |some (.struct fs)=>yLf P (Qh P n) (jI P n) 0 fs.toList (P.cellsOf t)
  |some (.array k e)=>Qh P n e&&(match jI P n e with|some a=>Nat.beq a.size (P.cellsOf e)&&Nat.beq (k*a.size) (P.cellsOf t)|none=>false)
  |_=>false
theorem Pg{α β:Type}{f:α->Option β}{x:α}{l:List α}{r:List β}(h:(x::l).mapM f=some r):∃ y ys,f x=some y/\l.mapM f=some ys/\r=y::ys:=by
 rw[List.mapM_cons]at h;cases hx:f x with
 |none=>rw[hx]at h;cases h
 |some y =>
  rw[hx]at h;cases hl:l.mapM f with
  |none=>rw[hl]at h;cases h
  |some ys =>
   rw[hl]at h;exact⟨y,ys,rfl,rfl,(Option.some.inj h).symm⟩
theorem mapM_mem_some{α β:Type}{f:α->Option β}:∀ {l:List α}{r:List β},l.mapM f=some r->∀ x∈l,∃ y,f x=some y
 |[],_,_,x,hx=>by cases hx
 |a::l,r,h,x,hx=>by
  obtain⟨y,ys,h1,h2,_⟩:=Pg h;cases hx with
  |head=>exact⟨y,h1⟩
  |tail _ hx=>exact mapM_mem_some h2 x hx
theorem yCq{α β:Type}{f:α->Option β}:∀ {l:List α}{r:List β},l.mapM f=some r->r.length=l.length/\∀ (i:Nat) (x:α) (y:β),l[i]?=some x->r[i]?=some y->f x=some y
 |[],r,h=>by simp at h;subst h;exact⟨rfl,λi x y hx=>by simp at hx⟩
 |a::l,r,h=>by
  obtain⟨y,ys,h1,h2,rfl⟩:=Pg h;obtain⟨k1,k2⟩:=yCq h2;refine⟨by simp[k1],λi x z hx hz=>?_⟩;cases i with
  |zero=>simp at hx hz;subst hx hz;exact h1
  |succ i=>exact k2 i x z (by simpa using hx) (by simpa using hz)
theorem yCr{w:World}{base:Nat}{a:Addr}{n:Nat}{cs:List Value}(h:w.cells? base a n=some cs):cs.length=n/\∀ j c,cs[j]?=some c->w.cell? (a.add j)=some c:=by
 unfold World.cells? at h;split at h
 ·obtain⟨h1,h2⟩:=yCq h;rw[List.length_range]at h1;refine⟨h1,λj c hj=>?_⟩;have hlt:j<n:=by rw[<- h1];exact(bE.1 hj).1
  exact h2 j j c (by simp[hlt]) hj
 ·cases h
theorem cell?_spot{w:World}{a:Addr}{c:Value}(h:w.cell? a=some c):a=⟨a.block,a.off,none⟩/\a.block<w.heap.size:=by
 unfold World.cell? at h;split at h
 ·rename_i cs t fr hb;split at h
  ·cases h
  ·rename_i hs;obtain⟨b,o,s⟩:=a;simp at hs;subst hs;exact⟨rfl,(Array.getElem?_eq_some_iff.1 hb).1⟩
 ·cases h
theorem zMg{α:Type}{w:World}{b off size:Nat}{R:α->List Value->Prop}:∀ n:Nat,(∀ i,i<n->∃ x c,R x c/\c.length=size/\Cells w b (off+i*size) c) ->
 ∃ xs css,xs.length=n/\bD R xs css/\(∀ c∈css,c.length=size)/\Cells w b off css.flatten
 |0,_=>⟨[],[],rfl,trivial,by simp,Cells.nil⟩
 |n+1,h=>by
  obtain⟨xs,css,h1,h2,h3,h4⟩:=zMg n λi hi=>h i (Nat.lt_succ_of_lt hi)
  obtain⟨x,c,k1,k2,k3⟩:=h n (Nat.lt_succ_self n);have hl:css.flatten.length=n*size:=by rw[cB css h3,<- h2.length,h1]
  refine⟨xs++[x],css++[c],by simp[h1],h2.append ⟨k1,trivial⟩,?_,?_⟩
  ·intro d hd;rcases List.mem_append.1 hd with hd|hd
   ·exact h3 d hd
   ·simp at hd;subst hd;exact k2
  ·rw[List.flatten_append];refine h4.append ?_;rw[hl];simpa using k3
theorem zRj{α:Type}{size:Nat}{R:α->List Value->Prop}:∀ (n:Nat) (cs:List Value),cs.length=n*size->(∀ i,i<n->∃ x,R x ((cs.drop (i*size)).take size))->∃ xs css,xs.length=n/\bD R xs css/\css.flatten=cs
 |0,cs,h,_=>⟨[],[],rfl,trivial,by
  have:cs=[]:=List.length_eq_zero_iff.1 (by omega);rw[this];rfl⟩
 |n+1,cs,h,hx=>by
  obtain⟨x,h0⟩:=hx 0 (by omega);rw[Nat.zero_mul,List.drop_zero]at h0;have hl:(n+1)*size=n*size+size:=Nat.succ_mul n size;obtain⟨xs,css,k1,k2,k3⟩:=zRj (R:=R) (size:=size) n (cs.drop size) (by rw[List.length_drop];omega) λi hi=>by
   obtain⟨y,hy⟩:=hx (i+1) (by omega);refine⟨y,?_⟩;rw[List.drop_drop,show size+i*size=(i+1)*size by rw[Nat.succ_mul];omega];exact hy
  exact⟨x::xs,cs.take size::css,by simp[k1],⟨h0,k2⟩,by rw[List.flatten_cons,k3,List.take_append_drop]⟩
section
variable {H:Type}
variable {enc:TypeId × Value->H}
variable {P:Program}
variable {w:World}
variable {base:Nat}
variable {spare:Nat->Bool}
variable {held:Bool}
abbrev N0:Nat->Nat->Prop:=λ_ _=>False
theorem zRk{n:Nat}{fuel:Nat}(ih:∀ t cs d ps ty,jI P n t=some ty->Qh P n t=true->DataW.trod enc P w base spare held fuel t cs=some (d,ps)->∃ x:ty.den,ty.Rel w N0 x cs/\ty.WF x)(cs:List Value):∀ (fs:List Field) (off total:Nat) (ty:Ty) (r:List (DataW H × List MemPlace)),Hr P n fs=some ty->yLf P (Qh P n) (jI P n) off fs total=true->cs.length=total ->
  (fs.mapM λf=>DataW.trod enc P w base spare held fuel f.type ((cs.drop f.offset).take (P.cellsOf f.type)))=some r->∃ x:ty.den,ty.Rel w N0 x (cs.drop off)/\ty.WF x
 |[],off,total,ty,r,ht,hl,hc,hm=>by
  simp only[Hr,List.foldr_nil,aA]at ht;subst ht;have:=aK hl;refine⟨(),?_,trivial⟩;simp only[Ty.Rel];apply List.drop_eq_nil_of_le;omega
 |f::fs,off,total,ty,r,ht,hl,hc,hm=>by
  obtain⟨y,ys,h1,h2,_⟩:=Pg hm;simp only[Hr,List.foldr_cons]at ht;split at ht
  ·rename_i _ a b hta htb;simp only[aA]at ht;subst ht;simp only[yLf,aD,hta]at hl;obtain⟨l1,l2,l3,l4⟩:=hl;have l1:=aK l1;have l3:=aK l3;rw[l1]at h1;obtain⟨x,hx,hwx⟩:=ih f.type _ _ _ a hta l2 h1;obtain⟨z,hz,hwz⟩:=zRk ih cs fs (off+P.cellsOf f.type) total b ys htb l4 hc h2;refine⟨(x,z),⟨_,_,?_,hx,hz⟩,hwx,hwz⟩;rw[<- List.drop_drop,List.take_append_drop]
  ·cases ht
theorem Qi:∀ (n fuel:Nat) (t:TypeId) (cs:List Value) (d:DataW H) (ps:List MemPlace) (ty:Ty),jI P n t=some ty->Qh P n t=true->DataW.trod enc P w base spare held fuel t cs=some (d,ps) ->
 ∃ x:ty.den,ty.Rel w N0 x cs/\ty.WF x
 |0,_,_,_,_,_,_,h,_,_=>by cases h
 |n+1,0,_,_,_,_,_,_,_,h=>by cases h
 |n+1,fuel+1,t,cs,d,ps,ty,ht,hl,h=>by
  have h0:=h;unfold jI at ht;unfold Qh at hl;unfold DataW.trod at h;cases hu:P.underlying t with
  |none=>rw[hu]at hl;cases hl
  |some k =>
   rw[hu]at ht hl h;cases k with
   |bool =>
    simp only[aA]at ht;subst ht;obtain⟨b,rfl⟩:∃ b,cs=[.bool b]:=by split at h<;>simp_all
    exact⟨b,rfl,trivial⟩
   |int k =>
    simp only[aA]at ht;subst ht;obtain⟨m,rfl,hwf⟩:∃ m,cs=[.int k m]/\(Lit.int k m).wf=true:=by
     split at h<;>simp_all
    simp only[Lit.wf,aD,decide_eq_true_eq]at hwf;exact⟨m,rfl,hwf⟩
   |string =>
    simp only[aA]at ht;subst ht;obtain⟨x,rfl,hx⟩:∃ x:ByteArray,cs=[.string x]/\x.size<=maxLen:=by
     split at h<;>simp_all
    refine⟨x.data.toList,by simp[Ty.Rel],?_⟩;simp only[Ty.WF,Array.length_toList];exact hx
   |interface ms =>
    have hm:ms.isEmpty=false:=by simpa using hl
    simp only[hm,Bool.false_eq_true,if_false,aA]at ht;subst ht;obtain⟨v,rfl,hv⟩:∃ v,cs=[v]/\(v=.nilIface\/∃ u x,v=.iface u x):=by
     split at h<;>first|(simp_all;done)|skip
    rcases hv with rfl|⟨u,x,rfl⟩
    ·exact⟨false,⟨_,rfl,.inr ⟨rfl,rfl⟩⟩,trivial⟩
    ·exact⟨true,⟨_,rfl,.inl ⟨rfl,u,x,rfl⟩⟩,trivial⟩
   |slice e =>
    simp only at ht hl;cases hte:jI P n e with
    |none=>rw[hte]at ht;cases ht
    |some te =>
     rw[hte]at ht hl;simp only[Option.map_some,aA]at ht;subst ht;simp only[aD]at hl;obtain⟨hle,hsz,hpos⟩:=hl;have hsz:=aK hsz;have hpos:=bR hpos;obtain⟨v,rfl,hv⟩:∃ v,cs=[v]/\(v=.slice none 0 0\/∃ a len cap,v=.slice (some a) len cap/\len<=cap/\cap<=maxLen /\
      ∃ elems,((List.range len).mapM λi=>(w.cells? base (a.add (i*P.cellsOf e)) (P.cellsOf e)).bind (DataW.trod enc P w base spare held fuel e))=some elems):=by
      split at h<;>first|(simp_all;done)|skip
      ·rename_i e' a len cap hq;simp only[aA,TypeDesc.slice.injEq]at hq;subst hq
       dsimp only at h
       split at h
       ·rename_i hk;obtain⟨_,hk1,hk2⟩:=hk;cases hm:((List.range len).mapM λi=>(w.cells? base (a.add (i*P.cellsOf e)) (P.cellsOf e)).bind (DataW.trod enc P w base spare held fuel e))with
        |none=>rw[hm]at h;cases h
        |some elems=>exact⟨_,rfl,.inr ⟨a,len,cap,rfl,hk1,hk2,elems,hm⟩⟩
       ·cases h
     rcases hv with rfl|⟨a,len,cap,rfl,hlc,hcm,elems,hm⟩
     ·exact⟨[],⟨_,rfl,.inl ⟨rfl,rfl⟩⟩,by simp[Ty.WF]⟩
     ·rcases Nat.eq_zero_or_pos len with h0|h0
      ·subst h0;exact⟨[],⟨_,rfl,.inr (.inr ⟨a,cap,rfl,rfl,hcm⟩)⟩,by simp[Ty.WF]⟩
      ·have each:∀ i,i<len->∃ (x:te.den) (c:List Value),(te.Rel w N0 x c/\te.WF x)/\c.length=te.size/\(∀ j u,c[j]?=some u->w.cell? ((a.add (i*P.cellsOf e)).add j)=some u):=λi hi=>by
        obtain⟨y,hy⟩:=mapM_mem_some hm i (List.mem_range.2 hi);cases hc:w.cells? base (a.add (i*P.cellsOf e)) (P.cellsOf e)with
        |none=>rw[hc]at hy;cases hy
        |some c =>
         rw[hc]at hy;obtain⟨x,hx,hwx⟩:=Qi n fuel e c y.1 y.2 te hte hle hy;obtain⟨k1,k2⟩:=yCr hc;exact⟨x,c,⟨hx,hwx⟩,by rw[k1,hsz],k2⟩
       obtain⟨x0,c0,_,hl0,hc0⟩:=each 0 h0;have h00:c0[0]?=some (c0[0]'(by omega)):=List.getElem?_eq_getElem _;have hadd:(a.add (0*P.cellsOf e)).add 0=a:=by simp[Addr.add]
       have hcell:=hc0 0 _ h00;rw[hadd]at hcell;obtain⟨hsp,hbk⟩:=cell?_spot hcell;obtain⟨ab,ao,asp⟩:=a;simp only[Addr.mk.injEq,true_and]at hsp;subst hsp;obtain⟨xs,css,h1,h2,h3,h4⟩:=zMg (w:=w) (b:=ab) (off:=ao) (size:=te.size) (R:=λx c=>te.Rel w N0 x c/\te.WF x) len λi hi=>by
        obtain⟨x,c,k1,k2,k3⟩:=each i hi;refine⟨x,c,k1,k2,λj u hj=>?_⟩;have:=k3 j u hj;rw[addr_add,addr_add,<- hsz]at this;exact this
       refine⟨xs,⟨_,rfl,.inr (.inl ⟨ab,ao,cap,css,by rw[h1],hbk,λ_ _ _ h=>h,by omega,hcm,h2.mono λ_ _ h=>h.1,h3,h4⟩)⟩,?_⟩;simp only[Ty.WF];refine⟨by omega,λx hx=>?_⟩;obtain⟨i,hi,rfl⟩:=List.getElem_of_mem hx;exact(h2.get i hi (by rw[<- h2.length];exact hi)).2
   |struct fs =>
    simp only at ht hl;have hf:Hr P n fs.toList=some ty:=ht;have h2:(if cs.length=P.cellsOf t then(fs.toList.mapM λf=>DataW.trod enc P w base spare held fuel f.type ((cs.drop f.offset).take (P.cellsOf f.type))).map λxs=>(DataW.agg (xs.map (·.1)),xs.flatMap (·.2))else none)=some (d,ps):=h;split at h2
    ·rename_i hc;cases hm:(fs.toList.mapM λf=>DataW.trod enc P w base spare held fuel f.type ((cs.drop f.offset).take (P.cellsOf f.type)))with
     |none=>rw[hm]at h2;cases h2
     |some r =>
      have:=zRk (λt cs d ps ty a b c=>Qi n fuel t cs d ps ty a b c) cs fs.toList 0 _ ty r hf hl hc hm;simpa using this
    ·cases h2
   |array k e =>
    simp only at ht hl;cases hte:jI P n e with
    |none=>rw[hte]at ht;cases ht
    |some te =>
     rw[hte]at ht hl;simp only[Option.map_some,aA]at ht;subst ht;simp only[aD]at hl;obtain⟨hle,hsz,htot⟩:=hl;have hsz:=aK hsz;have htot:=aK htot;obtain⟨xs,m,hm,_,hlen,hn,hel⟩:=DataW.trod_array hu h0;simp only[Nat.add_right_cancel_iff]at hm;subst hm;obtain⟨ys,css,k1,k2,k3⟩:=zRj (size:=te.size) (R:=λx c=>te.Rel w N0 x c/\te.WF x) k cs (by rw[hlen,htot]) λi hi=>by
      have h1:=hel i hi;rw[List.getElem?_eq_getElem (by omega)]at h1;rw[hsz];exact Qi n fuel e _ _ _ te hte hle h1
     refine⟨ys,⟨k1,css,k3.symm,k2.mono λ_ _ h=>h.1⟩,?_⟩;simp only[Ty.WF];refine⟨k1,λx hx=>?_⟩;obtain⟨i,hi,rfl⟩:=List.getElem_of_mem hx;exact(k2.get i hi (by rw[<- k2.length];exact hi)).2
   |_=>cases hl
def yCs:(ts:List Ty)->dB ts->Prop | [],_=>True | [t],x=>t.WF x | t :: s :: r,x=>t.WF x.1 ∧ yCs (s :: r) x.2
theorem zMh{t:TypeId}{v:Value}{d:DataW H}{ps:List MemPlace}{ty:Ty}{base':Nat}(ht:jI P 12 t=some ty)(hl:Qh P 12 t=true)(h:DataW.Trod enc P w base spare held t v d ps)(hv:Value.okWide P w .any base' t v):∃ x:ty.den,ty.bP w N0 x v/\ty.WF x:=by
 obtain⟨fuel,h⟩:=h;obtain⟨x,hx,hw⟩:=Qi 12 fuel t _ d ps ty ht hl h;refine⟨x,?_,hw⟩;unfold Ty.bP;have key:(ty.isAgg=true->∃ cs,v=.agg cs)/\(ty.isAgg=false->v.cells=#[v]):=by
  unfold Value.okWide at hv;unfold jI at ht;cases hu:P.underlying t with
  |none=>rw[hu]at ht;cases ht
  |some k =>
   rw[hu]at ht hv;cases k with
   |struct fs =>
    obtain⟨cs,rfl,_⟩:=hv;refine⟨λ_=>⟨cs,rfl⟩,λh=>?_⟩;exfalso;have hf:Hr P 11 fs.toList=some ty:=ht;cases hfs:fs.toList with
    |nil=>rw[hfs]at hf;simp only[Hr,List.foldr_nil,aA]at hf;subst hf;cases h
    |cons f r =>
     rw[hfs]at hf;simp only[Hr,List.foldr_cons]at hf;split at hf
     ·simp only[aA]at hf;subst hf;cases h
     ·cases hf
   |array n e =>
    obtain⟨cs,rfl,_⟩:=hv;refine⟨λ_=>⟨cs,rfl⟩,λh=>?_⟩;exfalso;simp only at ht;cases he:jI P 11 e with
    |none=>rw[he]at ht;cases ht
    |some a=>rw[he]at ht;simp only[Option.map_some,aA]at ht;subst ht;cases h
   |_ =>
    refine⟨λh=>?_,λ_=>?_⟩
    ·exfalso;have hcon:∀ r:Option Ty,r=some ty->(r=some .bool\/(∃ k,r=some (.int k))\/r=some .str\/(∃ q:Option Ty,r=q.map .slice)\/r=some .err\/r=some .opq\/r=none)->False:=by
      rintro r hr (rfl|⟨_,rfl⟩|rfl|⟨q,rfl⟩|rfl|rfl|rfl)
      ·cases hr;cases h
      ·cases hr;cases h
      ·cases hr;cases h
      ·obtain⟨x,_,rfl⟩:=Option.map_eq_some_iff.1 hr;cases h
      ·cases hr;cases h
      ·cases hr;cases h
      ·cases hr
     exact hcon _ ht (by
      first
       |exact .inl rfl
       |exact .inr (.inl ⟨_,rfl⟩)
       |exact .inr (.inr (.inl rfl))
       |exact .inr (.inr (.inr (.inl ⟨_,rfl⟩)))
       |exact .inr (.inr (.inr (.inr (.inl rfl))))
       |exact .inr (.inr (.inr (.inr (.inr (.inl rfl)))))
       |exact .inr (.inr (.inr (.inr (.inr (.inr rfl)))))
       |(simp only;split<;>simp))
    ·simp only[Cell.okWide,Cell.ok,hu]at hv<;>(cases v<;>first|rfl|(simp at hv;done))
 cases ha:ty.isAgg with
 |true =>
  rw[if_pos rfl];obtain⟨cs,rfl⟩:=key.1 ha;exact⟨cs.toList,by simp,hx⟩
 |false =>
  rw[if_neg (by simp)];rw[key.2 ha]at hx;exact hx
theorem zJe{base':Nat}:∀ {ts:List TypeId}{as:List Ty}{vs:List Value}{ds:List (DataW H)}{ps:List MemPlace},ts.map (jI P 12)=as.map some->(ts.all (Qh P 12))=true->DataW.TrodAll enc P w base spare held ts vs ds ps ->
 (∀ (j:Nat) t v,ts[j]?=some t->vs[j]?=some v->Value.okWide P w .any base' t v)->∃ x:dB as,nS w N0 as x vs/\yCs as x
 |[],[],[],_,_,_,_,_,_=>⟨(),rfl,trivial⟩
 |[t],[a],[v],[d],ps,ht,hl,h,hv=>by
  simp only[List.map_cons,List.map_nil,aJ,and_true]at ht;simp only[List.all_cons,List.all_nil,Bool.and_true]at hl;obtain⟨p,q,h1,_,_⟩:=h;obtain⟨x,h2,h3⟩:=zMh ht hl h1 (hv 0 t v rfl rfl);exact⟨x,⟨v,rfl,h2⟩,h3⟩
 |t::t2::ts,a::a2::as,v::v2::vs,d::ds,ps,ht,hl,h,hv=>by
  simp only[List.map_cons,aJ]at ht;simp only[List.all_cons,aD]at hl;obtain⟨p,q,h1,h2,_⟩:=h;obtain⟨x,k1,k2⟩:=zMh ht.1 hl.1 h1 (hv 0 t v rfl rfl);obtain⟨y,k3,k4⟩:=zJe (ts:=t2::ts) (as:=a2::as) (by simp only[List.map_cons,aJ];exact ht.2) (by simp only[List.all_cons,aD];exact hl.2) h2 (λj t v h1 h2=>hv (j+1) t v (by simpa using h1) (by simpa using h2));exact⟨(x,y),⟨v,_,rfl,k1,k3⟩,k2,k4⟩
 |[],_::_,_,_,_,ht,_,_,_=>by simp at ht
 |_::_,[],_,_,_,ht,_,_,_=>by simp at ht
 |[],[],_::_,_,_,_,_,h,_=>by simp[DataW.TrodAll]at h
 |[_],_::_::_,_,_,_,ht,_,_,_=>by simp at ht
 |_::_::_,[_],_,_,_,ht,_,_,_=>by simp at ht
 |[_],[_],[],_,_,_,_,h,_=>by simp[DataW.TrodAll]at h
 |[_],[_],[_],[],_,_,_,h,_=>by simp[DataW.TrodAll]at h
 |[_],[_],[_],_::_::_,_,_,_,h,_=>by simp[DataW.TrodAll]at h
 |[_],[_],_::_::_,[],_,_,_,h,_=>by simp[DataW.TrodAll]at h
 |[_],[_],_::_::_,_::_,_,_,_,h,_=>by simp[DataW.TrodAll]at h
 |_::_::_,_::_::_,[],_,_,_,_,h,_=>by simp[DataW.TrodAll]at h
 |_::_::_,_::_::_,[_],[],_,_,_,h,_=>by simp[DataW.TrodAll]at h
 |_::_::_,_::_::_,[_],[_],_,_,_,h,_=>by simp[DataW.TrodAll]at h
 |_::_::_,_::_::_,[_],_::_::_,_,_,_,h,_=>by simp[DataW.TrodAll]at h
 |_::_::_,_::_::_,_::_::_,[],_,_,_,h,_=>by simp[DataW.TrodAll]at h
theorem zFu{W W':World}(hl:laidOutB P=true)(hb:Below W.heap.size W W'):∀ {ts:List TypeId}{vs:List Value}{ds:List (DataW H)}{ps:List MemPlace},(ts.all λt=>P.readableRec t&&decide (t<P.types.size))=true ->
 DataW.TrodAll enc P W 0 (λ_=>true) true ts vs ds ps->(∀ x∈ps,x.block<W.heap.size)->DataW.TrodAll enc P W' 0 (λb=>decide (b<W.heap.size)) true ts vs ds ps
 |[],[],[],_,_,h,_=>h
 |t::ts,v::vs,d::ds,ps,hr,h,hlt=>by
  simp only[List.all_cons,aD,decide_eq_true_eq]at hr;obtain⟨p,q,h1,h2,rfl⟩:=h;exact⟨p,q,Below.trod hl hr.1.1 hr.1.2 h1 hb (λx hx=>hlt x (List.mem_append_left _ hx)),zFu hl hb hr.2 h2 (λx hx=>hlt x (List.mem_append_right _ hx)),rfl⟩
 |[],[],_::_,_,_,h,_=>by simp[DataW.TrodAll]at h
 |[],_::_,_,_,_,h,_=>by simp[DataW.TrodAll]at h
 |_::_,[],_,_,_,h,_=>by simp[DataW.TrodAll]at h
 |_::_,_::_,[],_,_,h,_=>by simp[DataW.TrodAll]at h
end
end Go.Dec
namespace Go.Dec
open Go.ChangeShapes Go.WideShapes Go.ChangeAt Go.RowKit
theorem zMi{H:Type}{enc:TypeId × Value->H}{P:Program}{w:World}{base:Nat}{spare:Nat->Bool}{held:Bool}:∀ {ts:List TypeId}{vs:List Value}{ds:List (DataW H)}{ps:List MemPlace},DataW.TrodAll enc P w base spare held ts vs ds ps->ds.length=ts.length
 |[],[],[],_,_=>rfl
 |_::_,_::_,_::_,_,⟨_,_,_,h,_⟩=>by simp[zMi h]
 |[],[],_::_,_,h=>by simp[DataW.TrodAll]at h
 |[],_::_,_,_,h=>by simp[DataW.TrodAll]at h
 |_::_,[],_,_,h=>by simp[DataW.TrodAll]at h
 |_::_,_::_,[],_,h=>by simp[DataW.TrodAll]at h
theorem zYm{H:Type}{enc:TypeId × Value->H}{P:Program}{f:FuncId}{fn:Func}{s:ChangeSpec}{apart fresh handsOn:Bool}{as:List Ty}{F:dB as->Option Bool}{tb:TypeId}(hres:fn.resultTypes=#[tb])(hb:P.underlying tb=some .bool)(hts:fn.params.toList.map (jI P 12)=as.map some)(xEr:fn.params.toList.all (Qh P 12)=true)(hread:(fn.params.toList.all λt=>P.readableRec t&&decide (t<P.types.size))=true)(hl:laidOutB P=true)(hvars:s.vars=[])(hs:∀ ds:List (DataW H),ds.length=fn.params.toList.length->(s.fn H ds).results=[.lit (.bool true)]/\(s.fn H ds).args=ds/\(s.fn H ds).vars=[])(hP:Pure P f as [.bool] F)(hF:∀ x,yCs as x->F x=some true){W:World}{base:Nat}{args:Array Value}{ds gs:List (DataW H)}{before:List MemPlace}(hG:Glob P W)(hval:∀ (j:Nat) t v,fn.params[j]?=some t->args[j]?=some v->Value.okWide P W .any base t v)(hW:DataW.Whole enc P fn.params.toList s.vars apart W args.toList ds gs before):Calls P f args W λe W'=>∃ v,e=.returned v/\s.post enc P fn apart fresh handsOn false W args v W':=by
 have hW':=hW;obtain⟨p,q,hA,hV,rfl,_,_⟩:=hW;rw[hvars]at hV;obtain⟨rfl,rfl⟩:=trodVars_none hV;obtain⟨x,hx,hwf⟩:=zJe hts xEr hA (λj t v h1 h2=>hval j t v (by simpa using h1) (by simpa using h2));have hlt:∀ z∈p,z.block<W.heap.size:=λz hz=>by simpa using hW'.lt z (by simpa using hz)
 have:=hP.2 x true (hF x hwf) W N0 args.toList hG (λ_ _ h=>h.elim) hx;rw[Array.toArray_toList]at this;refine this.mono ?_;rintro e W' ⟨us,rfl,ho,ht,hop,hk,hr⟩;obtain⟨u,rfl,hu⟩:=hr;simp only[Ty.bP,Ty.isAgg,Bool.false_eq_true,if_false,Ty.Rel,aJ,and_true]at hu;subst hu;have hbel:Below W.heap.size W W':=⟨ho,ht,hop,hk.size,λk hk'=>hk.block k hk' (λ_ h=>h)⟩;obtain⟨s1,s2,s3⟩:=hs (ds++[]) (by rw[List.append_nil];exact zMi hA);refine⟨.bool true,rfl,ds,[],p++[],[],p,[],hW',?_,?_,?_,hbel.frame _,λh=>by cases h⟩
 ·rw[s1,hres];exact trodAll_mk1 (shut_bool hb true)
 ·rw[s2,List.append_nil];exact zFu hl hbel hread hA hlt
 ·rw[s3,hvars];rfl
end Go.Dec
namespace Go.Dec
@[simp] theorem dO {ρ:Type}(x y:Option ρ):br true x y=x:=rfl
@[simp] theorem bO {ρ:Type}(x y:Option ρ):br false x y=y:=rfl
@[simp] theorem aN {α ρ:Type}(a:α) (k:α->Option ρ):ob (some a) k=k a:=rfl
@[simp] theorem Dl {ρ:Type}(x:Option ρ):chk true x=x:=rfl
theorem yCt{α:Type}{f:α->α->Bool}(hf:∀ a b,f a b=true<->a=b):∀ {x y:List α},Vo f x y=true<->x=y
 |[],[]=>by simp[Vo]
 |[],_::_=>by simp[Vo]
 |_::_,[]=>by simp[Vo]
 |a::x,b::y=>by simp[Vo,hf,yCt hf]
theorem beq_iff:∀ {t:Ty},t.cmp=true->∀ {x y:t.den},t.beq x y=true<->x=y
 |.unit,_,_,_=>by simp[Ty.beq]
 |.bool,_,_,_=>by simp[Ty.beq,Ty.beq.Bool.beq']
 |.int _,_,_,_=>by simp[Ty.beq,Ty.beq.Int.beq']
 |.str,_,_,_=>by simp[Ty.beq,Ty.beq.List.beq']
 |.pair a b,h,x,y=>by
  simp only[Ty.cmp,aD]at h;simp only[Ty.beq,aD,beq_iff h.1,beq_iff h.2];exact⟨λh=>Prod.ext h.1 h.2,λh=>by subst h;exact⟨rfl,rfl⟩⟩
 |.arr n a,h,x,y=>by
  simp only[Ty.cmp]at h;simp only[Ty.beq];exact yCt λ_ _=>beq_iff h
 |.slice _,h,_,_=>by cases h
 |.err,h,_,_=>by cases h
 |.opq,h,_,_=>by cases h
theorem yCu{t:Ty}(h:t.cmp=true)(x:t.den):t.beq x x=true:=(beq_iff h).2 rfl
theorem beq_false{t:Ty}(h:t.cmp=true){x y:t.den}(hne:x≠y):t.beq x y=false:=by
 cases hb:t.beq x y with
 |false=>rfl
 |true=>exact absurd ((beq_iff h).1 hb) hne
end Go.Dec
namespace Go.Dec
theorem En{ρ α:Type}(B:(α->Option ρ)->α->Option ρ)(n:Nat)(x:α):fix B (n+1) x=B (fix B n) x:=rfl
theorem lT{ρ α:Type}{B:(α->Option ρ)->α->Option ρ}{n:Nat}{x:α}(h:0<n):fix B n x=B (fix B (n-1)) x:=by
 cases n with
 |zero=>omega
 |succ n=>rfl
theorem bI{x:Int}(h:-9223372036854775808<=x)(h2:x<=9223372036854775807):IntKind.wrap .i64 x=x:=IntWalk.i64_in x ⟨h,h2⟩
theorem dM{i:Int}{n:Nat}(h:0<=i)(h2:i<n):inB i n=true:=by simp[inB,h,h2]
theorem Hl{i n:Nat}(h:i<n):inB (i:Int) n=true:=dM (by omega) (by omega)
end Go.Dec
