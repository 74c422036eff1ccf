import Derived.Test.YtfbilefiaminnaaGreatDoorPtrtAB
import Derived.Lib.ConvBytes
open Go.Sem renaming run_bind->jJ,run_pure->jI
open Go.Result renaming andThen_ok->kQ
open Nat renaming beq->vF,lt_of_lt_of_le->wD,ble->qBg,zero_add->yY,mul_le_mul_right->wH,succ_mul->wF,le_trans->zG,zero_le->qAm,sub_zero->qCa,lt_succ_self->qBr,zero_mul->qDa,mul_one->qBq,beq_refl->qDi,blt_eq->qDj
open Bool renaming false_eq_true->qBs,not_eq_true'->qCo
open List renaming append_nil->vE,mem_append->qAp,mem_map->qBw,length_append->xG,getElem?_set_ne->qAw,getElem?_set_self->qAv,getD_eq_getElem?_getD->wG,mem_singleton->qCp,take_left'->qAz,flatten_cons->xB,getElem?_map->qBx,mem_cons_self->qCs,cons_append->qCt,ext_getElem?->qCu,length_cons->xI,nodup_nil->qCy,not_mem_nil->qCz,size_toArray->qBb,take_zero->qDb,nil_append->qDc,extract_eq_take_drop->qDe,drop_eq_getElem_cons->qDf,getElem?_toArray->qDg,getElem?_eq_getElem->wW,map_map->qDh
open Option.some renaming inj->qBc
open Option renaming map_some->kU,bind_some->qCm,getD_some->qCx
open Array renaming toList_inj->qBh,getElem?_toList->qCj,getElem?_eq_some_iff->qCk,getD_eq_getD_getElem?->qCl,toList_push->qCn,size_modify->qCq,toList_map->qBp,eq_empty_of_size_eq_zero->qBz,toArray_toList->qCr,getElem?_modify->qCv,size_push->qCw,length_toList->qAc,toList_append->qBj,toList_extract->qDd,range->qCf
open Go.Builtin renaming append_->qBd,zeroCells->qBk
namespace Go.Dec
def isM(o:Oper):Bool:=match o.op with
 |.makeMap .. => true
 |.insert .. => true
 |.mapUpdate .. => true
 |.lookup .. => true
 |.mapEntry .. => true
 |.entryStore .. => true
 |_=>false
def keyOf:V->Option MK | .one (.val (.int k) n)=>some (.i k n) | .one (.val .str s)=>some (.s s) | _=>none
def yVz:V->Option Nat | .one (.clo f [])=>some f | _=>none
def memT:List (MK×Nat)->MK->Bool | [],_=>false | (a,_) :: r,x=>MK.beq x a||memT r x
def Kj(tk:TK)(x:MK):Bool:=match tk,x with
 |.int k,.i k' _=>decide (k=k')
 |.str,.s _=>true
 |_,_=>false
def uK (tk:TK):List (MK×Nat)->Bool | []=>true | (a,_) :: r=>Kj tk a&&uK tk r
def zGl(tk:TK)(kt:Ty):Bool:=match tk,kt with
 |.int k,.int k'=>decide (k=k')
 |.str,.str=>true
 |_,_=>false
def fV(kt:Ty){α:Type}:List (kt.den × α)->kt.den->Option α
 |[],_=>none
 |e::r,k=>match kt.beq k e.1 with
  |true=>some e.2
  |false=>fV kt r k
def mIdx(kt:Ty){α:Type}:List (kt.den × α)->kt.den->Nat
 |[],_=>0
 |e::r,k=>match kt.beq k e.1 with
  |true=>0
  |false=>mIdx kt r k+1
def jP(kt:Ty){α:Type}(d:α)(es:List (kt.den × α))(k:kt.den):α:=match fV kt es k with
 |some v=>v
 |none=>d
def zXu(kt:Ty){α:Type}(es:List (kt.den × α))(k:kt.den):Bool:=match fV kt es k with
 |some _=>true
 |none=>false
def uV(kt:Ty){α:Type}(es:List (kt.den × α))(k:kt.den)(v:α):List (kt.den × α):=match fV kt es k with
 |some _=>es.set (mIdx kt es k) (k,v)
 |none=>es++[(k,v)]
def yWa(kt:Ty){α:Type}(es:List (kt.den × α))(i:Int)(v:α):List (kt.den × α):=match es[i.toNat]? with
 |some e=>es.set i.toNat (e.1,v)
 |none=>es
def toTy(t:Ty)(v:V):Option t.den :=
 match t.isAgg,v with
 |true,.agg ls=>match dS t ls with
  |some (x,[])=>some x
  |_=>none
 |false,.one l=>l.asT t
 |_,_=>none
def yDa(t:Ty)(x:t.den):Sum L (List L):=
 match t.isAgg with
 |true=>.inr (explode t x)
 |false=>.inl (.val t x)
def valTy(t:Ty)(x:t.den):V :=
 match t.isAgg with
 |true=>.agg (explode t x)
 |false=>.one (.val t x)
def zUh(ti:TI)(t:Ty):Option t.den :=
 match ti.k.isAgg==t.isAgg,dS t ti.zls with
 |true,some (x,[])=>some x
 |_,_=>none
def zXv(T:Tab)(σ:St)(t:TypeId)(m k x:Operand):Option (Bool × V × List Ob):=
 match T.get t,ovl σ m with
 |some ti,.one (.mp id)=>match ti.k,σ.h[id]? with
  |.map kt _,some (.fm tab)=>match T.get kt,keyOf (ovl σ k),yVz (ovl σ x)with
   |some tk,some key,some f=>match Kj tk.k key&&(uK tk.k tab&&!memT tab key)with
    |true=>some (true,.tup [],σ.h.set id (.fm (tab++[(key,f)])))
    |false=>none
   |_,_,_=>none
  |.map kt _,some (.dm kty vty es)=>match T.get kt,toTy kty (ovl σ k),toTy vty (ovl σ x)with
   |some tk,some key,some v=>match zGl tk.k kty with
    |true=>some (true,.tup [],σ.h.set id (.dm kty vty (uV kty es key v)))
    |false=>none
   |_,_,_=>none
  |_,_=>none
 |_,_=>none
def stepM(T:Tab)(σ:St)(o:Oper):Option (Bool × V × List Ob):=
 match o.op with
 |.makeMap t none=>match T.get t with
  |some ti=>match ti.k with
   |.map kt et=>match T.get kt,T.get et with
    |some tk,some te=>match te.k with
     |.func=>some (true,.one (.mp σ.h.length),σ.h++[.fm []])
     |_=>match tk.ty,te.ty with
      |some kty,some vty=>some (true,.one (.mp σ.h.length),σ.h++[.dm kty vty []])
      |_,_=>none
    |_,_=>none
   |_=>none
  |none=>none
 |.insert t m k x=>zXv T σ t m k x
 |.mapUpdate t m k x=>zXv T σ t m k x
 |.lookup t m k ok=>match T.get t,ovl σ m with
  |some ti,.one (.mp id)=>match ti.k,σ.h[id]? with
   |.map kt et,some (.fm tab)=>match ok,keyOf (ovl σ k),T.get kt,T.get et with
    |true,some key,some tk,some te=>match Kj tk.k key&&(uK tk.k tab&&!te.k.isAgg),te.zls with
     |true,[.val .opq .nilFunc]=>some (true,.tup [.inl (.Uu key tab),.inl (.val .bool (memT tab key))],σ.h)
     |_,_=>none
    |_,_,_,_=>none
   |.map kt et,some (.dm kty vty es)=>match toTy kty (ovl σ k),T.get kt,T.get et with
    |some key,some tk,some te=>match zGl tk.k kty,zUh te vty with
     |true,some z=>match ok with
      |true=>some (true,.tup [yDa vty (jP kty z es key),.inl (.val .bool (zXu kty es key))],σ.h)
      |false=>some (true,valTy vty (jP kty z es key),σ.h)
     |_,_=>none
    |_,_,_=>none
   |_,_=>none
  |_,_=>none
 |.mapEntry t m k=>match T.get t,ovl σ m with
  |some ti,.one (.mp id)=>match ti.k,σ.h[id]? with
   |.map kt et,some (.dm kty vty es)=>match toTy kty (ovl σ k),T.get kt,T.get et with
    |some key,some tk,some te=>match zGl tk.k kty,zUh te vty with
     |true,some z=>some (true,.tup [yDa vty (jP kty z es key),.inl (.val (.int .i64) (mIdx kty es key:Nat))],σ.h.set id (.dm kty vty (uV kty es key (jP kty z es key))))
     |_,_=>none
    |_,_,_=>none
   |_,_=>none
  |_,_=>none
 |.entryStore _ m s x=>match ovl σ m,ovl σ s with
  |.one (.mp id),.one (.val (.int .i64) i)=>match σ.h[id]? with
   |some (.dm kty vty es)=>match toTy vty (ovl σ x)with
    |some v=>some (inB i es.length,.tup [],σ.h.set id (.dm kty vty (yWa kty es i v)))
    |none=>none
   |_=>none
  |_,_=>none
 |_=>none
section
variable {β:Nat->Pl}{w:World}{T:Tab}{C:Ctx}
theorem bytes_beq(b c:List UInt8):((⟨b.toArray⟩:ByteArray)==⟨c.toArray⟩)=(b==c):=by
 show(b.toArray==c.toArray)=_;rw[Bool.eq_iff_iff];simp
theorem yEe{d:TypeDesc}{x a:MK}(hx:Kj (TK.of d) x=true)(ha:Kj (TK.of d) a=true):Instr.sameNow d x.v a.v=some (MK.beq x a):=by
 cases d<;>simp only[TK.of,Kj]at hx ha<;>try (cases x<;>simp at hx)
 ·cases a<;>simp at ha
  subst hx ha;simp[Instr.sameNow,MK.v,MK.beq]
 ·cases a<;>simp at ha
  simp only[Instr.sameNow,MK.v,MK.beq,bytes_beq]
theorem zBs:∀ (tab:List (MK × Nat)) (x:MK),memT tab x=(kV tab x).isSome
 |[],_=>rfl
 |(a,f)::r,x=>by
  simp only[memT,kV];cases h:MK.beq x a
  ·simp[zBs r x]
  ·simp
theorem MK.beq_iff{x a:MK}:MK.beq x a=true<->x=a:=by
 cases x<;>cases a<;>simp[MK.beq]
theorem zBt:∀ {tab:List (MK × Nat)}{x:MK}{f:Nat},kV tab x=some f->(x,f)∈tab
 |[],x,f,h=>by simp[kV]at h
 |(a,g)::r,x,f,h=>by
  simp only[kV]at h;split at h
  ·rename_i hb;simp only[aA]at h;rw[MK.beq_iff.1 hb,h];exact qCs ..
  ·exact List.mem_cons_of_mem _ (zBt h)
theorem yAb{tab:List (MK × Nat)}{x y:MK}{f g:Nat}(h:kV tab x=some f):kV (tab++[(y,g)]) x=some f:=by
 induction tab with
 |nil=>simp[kV]at h
 |cons q r ih =>
  obtain⟨a,k⟩:=q;simp only[qCt,kV]at *;split
  ·rename_i hb;rw[if_pos hb]at h;exact h
  ·rename_i hb;rw[if_neg hb]at h;exact ih h
theorem yAc{tab:List (MK × Nat)}{x:MK}{f:Nat}(h:kV tab x=none):kV (tab++[(x,f)]) x=some f:=by
 induction tab with
 |nil=>simp[kV,MK.beq_iff.2 rfl]
 |cons q r ih =>
  obtain⟨a,k⟩:=q;simp only[qCt,kV]at *;split
  ·rename_i hb;rw[if_pos hb]at h;cases h
  ·rename_i hb;rw[if_neg hb]at h;exact ih h
theorem zGm{tk:TK}:∀ {tab:List (MK × Nat)},uK tk tab=true<->∀ q∈tab,Kj tk q.1=true
 |[]=>by simp[uK]
 |(a,f)::r=>by simp[uK,zGm (tab:=r)]
theorem MK.xIs{x y:MK}(h:x.v=y.v):x=y:=by
 cases x<;>cases y<;>simp[MK.v]at h
 ·obtain⟨rfl,rfl⟩:=h;rfl
 ·exact congrArg MK.s h
theorem zUi{d:TypeDesc}{x:MK}(hx:Kj (TK.of d) x=true){tab:List (MK × Nat)}(hk:uK (TK.of d) tab=true):∀ (es:List MapEntry) (i:Nat),(∀ e∈es,∃ x f,e.key=x.v/\e.val=.func (.func f) #[] #[]/\kV tab x=some f) ->
 (∃ j f,Instr.findNow d x.v es i=some (some (j,.func (.func f) #[] #[]))/\kV tab x=some f)\/(Instr.findNow d x.v es i=some none/\∀ e∈es,e.key≠x.v)
 |[],i,_=>.inr ⟨rfl,λe he=>by cases he⟩
 |e::es,i,h=>by
  obtain⟨a,f,h1,h2,h3⟩:=h e (qCs ..);have ha:=zGm.1 hk _ (zBt h3);simp only[Instr.findNow,h1,yEe hx ha];cases hb:MK.beq x a
  ·simp only[qBs,if_false];rcases zUi hx hk es (i+1) (λe he=>h e (List.mem_cons_of_mem _ he))with h4|⟨h4,h5⟩
   ·exact .inl h4
   ·refine .inr ⟨h4,λe' he'=>?_⟩;rcases List.mem_cons.1 he' with rfl|he'
    ·rw[h1];intro hc;rw[MK.beq_iff.2 (MK.xIs hc).symm]at hb;cases hb
    ·exact h5 e' he'
  ·obtain rfl:=MK.beq_iff.1 hb;exact .inl ⟨i,f,by simp only[h2,if_true],h3⟩
theorem zCw{d:TypeDesc}{x:MK}(hx:Kj (TK.of d) x=true){tab:List (MK × Nat)}(hk:uK (TK.of d) tab=true){es:List MapEntry}(hF:Eb tab es):∃ r,Instr.findNow d x.v es 0=some r/\(match kV tab x with|some f=>∃ j,r=some (j,.func (.func f) #[] #[])|none=>r=none):=by
 rcases zUi hx hk es 0 hF.1 with ⟨j,f,h1,h2⟩|⟨h1,h2⟩
 ·exact⟨_,h1,by rw[h2];exact⟨j,rfl⟩⟩
 ·refine⟨none,h1,?_⟩;cases hf:kV tab x with
  |none=>rfl
  |some f =>
   obtain⟨e,he,hk⟩:=hF.2 _ (zBt hf);exact absurd hk (h2 e he)
theorem Yh{P:Program}{t:TypeId}{d:TypeDesc}{x:MK}{b:Bool}{n:Nat}(hu:P.underlying t=some d)(hx:Kj (TK.of d) x=true):(Instr.checkKey b (n+1) t x.v).run P w=.ok () w:=by
 have hr:(underlying t).run P w=.ok d w:=by simp[underlying,hu]
 simp only[Instr.checkKey,jJ,hr,kQ];cases d<;>simp only[TK.of,Kj]at hx<;>try (cases x<;>simp at hx)
 all_goals simp[MK.v]
theorem yAd{v:V}{key:MK}{x:Value}{N:Nat->Nat->Prop}(h:keyOf v=some key)(hr:v.Rel β w N x):x=key.v:=by
 unfold keyOf at h;split at h
 ·simp only[aA]at h;subst h;simp only[V.Rel,L.Rel,Ty.Rel,aL,and_true]at hr;exact hr
 ·simp only[aA]at h;subst h;simp only[V.Rel,L.Rel,Ty.Rel,aL,and_true]at hr;exact hr
 ·cases h
theorem yWb{v:V}{f:Nat}{x:Value}{N:Nat->Nat->Prop}(h:yVz v=some f)(hr:v.Rel β w N x):x=.func (.func f) #[] #[]:=by
 unfold yVz at h;split at h
 ·simp only[aA]at h;subst h;simp only[V.Rel,L.Rel,L.eG]at hr;obtain⟨us,hx,rfl⟩:=hr;simpa [zXo]using hx
 ·cases h
theorem toTy_rel{t:Ty}{v:V}{x:t.den}{u:Value}{N:Nat->Nat->Prop}(h:toTy t v=some x)(hr:v.Rel β w N u):t.bW w N x u:=by
 unfold toTy at h;unfold Ty.bW;cases ha:t.isAgg with
 |true =>
  rw[ha]at h;cases v with
  |agg ls =>
   simp only at h;split at h
   ·rename_i y hy;simp only[aA]at h;subst h;obtain⟨cs,rfl,hr⟩:=hr;obtain⟨c1,c2,e,h1,h2⟩:=vJ hy hr;simp only[aJ]at h2;subst h2;rw[vE]at e;rw[if_pos rfl];exact⟨cs,rfl,by rw[e];exact h1⟩
   ·cases h
  |_=>simp at h
 |false =>
  rw[ha]at h;cases v with
  |one l =>
   simp only at h;rw[if_neg (by simp)];exact L.zNp h hr
  |_=>simp at h
theorem zKl{t:Ty}{x:t.den}{u:Value}{N:Nat->Nat->Prop}(h:t.bW w N x u):jM β w N (yDa t x) u:=by
 unfold yDa;unfold Ty.bW at h;cases ha:t.isAgg with
 |true =>
  rw[ha,if_pos rfl]at h;obtain⟨cs,e,h⟩:=h;exact⟨cs,e,lJ h⟩
 |false =>
  rw[ha,if_neg (by simp)]at h;simp only[jM,L.Rel];exact h
theorem ySk{t:Ty}{x:t.den}{u:Value}{N:Nat->Nat->Prop}(h:t.bW w N x u):(valTy t x).Rel β w N u:=by
 unfold valTy;unfold Ty.bW at h;cases ha:t.isAgg with
 |true =>
  rw[ha,if_pos rfl]at h;obtain⟨cs,e,h⟩:=h;exact⟨cs,e,lJ h⟩
 |false =>
  rw[ha,if_neg (by simp)]at h;simp only[V.Rel,L.Rel];exact h
theorem zUj{P:Program}{et:TypeId}{te:TI}{vt:Ty}{z:vt.den}(hok:rM P et te)(h:zUh te vt=some z)(w:World)(N:Nat->Nat->Prop):∃ u,(zeroValue et).run P w=.ok u w/\vt.bW w N z u:=by
 unfold zUh at h;split at h
 ·rename_i y hag hy;simp only[aA]at h;subst h;obtain⟨i0,u,hi0,his,hib,hz0,tT,hzs,yNr⟩:=hok.i;refine⟨u,by simp[zeroValue,typeInfo,hi0,hz0],?_⟩;obtain⟨c1,c2,e,h1,h2⟩:=vJ hy (tT (λ_=>⟨false,false,0,none,0,0,0,[]⟩) w N);simp only[aJ]at h2;subst h2;rw[vE]at e;have hag:=(beq_iff_eq.1 hag).symm.trans yNr;unfold Ty.bW;rw[hag];cases u<;>simp only[Sr,qBs,if_false,if_true]
  case agg cs=>exact⟨cs.toList,by simp,by simpa [Value.cells]using e ▸ h1⟩
  all_goals (simp only[Value.cells]at e;rw[show([_]:List Value)=c1 from e];exact h1)
 ·cases h
theorem zRl{dk:TypeDesc}{kt:Ty}(hk:zGl (TK.of dk) kt=true){N:Nat->Nat->Prop}{x:kt.den}{u:Value}(h:kt.bW w N x u):(∃ (j:IntKind) (n:Int),kt=.int j/\dk=.int j/\u=.int j n/\HEq x n)\/(∃ s:List UInt8,kt=.str/\dk=.string/\u=.string ⟨s.toArray⟩/\HEq x s):=by
 cases dk<;>simp only[TK.of,zGl]at hk<;>try (cases kt<;>simp at hk)
 ·subst hk;simp only[Ty.bW,Ty.isAgg,qBs,if_false,Ty.Rel,aL,and_true]at h;exact .inl ⟨_,x,rfl,rfl,h,HEq.rfl⟩
 ·simp only[Ty.bW,Ty.isAgg,qBs,if_false,Ty.Rel,aL,and_true]at h;exact .inr ⟨x,rfl,rfl,h,HEq.rfl⟩
theorem zCx{P:Program}{t:TypeId}{dk:TypeDesc}{kt:Ty}{b:Bool}{n:Nat}(hu:P.underlying t=some dk)(hk:zGl (TK.of dk) kt=true){N:Nat->Nat->Prop}{x:kt.den}{u:Value}(h:kt.bW w N x u):(Instr.checkKey b (n+1) t u).run P w=.ok () w:=by
 have hr:(underlying t).run P w=.ok dk w:=by simp[underlying,hu]
 simp only[Instr.checkKey,jJ,hr,kQ];rcases zRl hk h with ⟨j,m,_,rfl,rfl,_⟩|⟨s,_,rfl,rfl,_⟩<;>rfl
theorem yNs{dk:TypeDesc}{kt:Ty}(hk:zGl (TK.of dk) kt=true){N:Nat->Nat->Prop}{x y:kt.den}{u v:Value}(hx:kt.bW w N x u)(hy:kt.bW w N y v):Instr.sameNow dk u v=some (kt.beq x y):=by
 rcases zRl hk hx with ⟨j,m,e,rfl,rfl,hm⟩|⟨s,e,rfl,rfl,hm⟩
 ·subst e;simp only[Ty.bW,Ty.isAgg,qBs,if_false,Ty.Rel,aL,and_true]at hy;obtain rfl:=eq_of_heq hm;subst hy;simp[Instr.sameNow,Ty.beq,Ty.beq.Int.beq']
 ·subst e;simp only[Ty.bW,Ty.isAgg,qBs,if_false,Ty.Rel,aL,and_true]at hy;obtain rfl:=eq_of_heq hm;subst hy;simp only[Instr.sameNow,bytes_beq,Ty.beq,Ty.beq.List.beq']
theorem zQd{dk:TypeDesc}{kt:Ty}(hk:zGl (TK.of dk) kt=true){N:Nat->Nat->Prop}{x y:kt.den}{u v:Value}(hx:kt.bW w N x u)(hy:kt.bW w N y v)(hb:kt.beq x y=true):Instr.sameBits 10000 v u=true:=by
 rcases zRl hk hx with ⟨j,m,e,rfl,rfl,hm⟩|⟨s,e,rfl,rfl,hm⟩
 ·subst e;simp only[Ty.bW,Ty.isAgg,qBs,if_false,Ty.Rel,aL,and_true]at hy;obtain rfl:=eq_of_heq hm;subst hy;simp only[Ty.beq,Ty.beq.Int.beq',beq_iff_eq]at hb;subst hb;simp[Instr.sameBits]
 ·subst e;simp only[Ty.bW,Ty.isAgg,qBs,if_false,Ty.Rel,aL,and_true]at hy;obtain rfl:=eq_of_heq hm;subst hy;simp only[Ty.beq,Ty.beq.List.beq',beq_iff_eq]at hb;subst hb;simp only[Instr.sameBits,bytes_beq,beq_self_eq_true]
theorem Wo{dk:TypeDesc}{kt vt:Ty}(hk:zGl (TK.of dk) kt=true){N:Nat->Nat->Prop}{x:kt.den}{u:Value}(hx:kt.bW w N x u):∀ (es:List (kt.den × vt.den)) (ms:List MapEntry) (i:Nat),bJ (λ(x:kt.den × vt.den) (m:MapEntry)=>kt.bW w N x.1 m.key/\vt.bW w N x.2 m.val) es ms ->
  match fV kt es x with
  |some y=>∃ m e,Instr.findNow dk u ms i=some (some (i+mIdx kt es x,m.val))/\ms[mIdx kt es x]?=some m/\es[mIdx kt es x]?=some e/\e.2=y/\vt.bW w N y m.val/\kt.bW w N e.1 m.key/\kt.beq x e.1=true
  |none=>Instr.findNow dk u ms i=some none
 |[],[],i,_=>by simp[fV,Instr.findNow]
 |[],_::_,_,h=>h.elim
 |_::_,[],_,h=>h.elim
 |e::es,m::ms,i,h=>by
  obtain⟨⟨h1,h2⟩,h3⟩:=h;simp only[fV,mIdx,Instr.findNow,yNs hk hx h1];cases hb:kt.beq x e.1 with
  |true=>exact⟨m,e,rfl,rfl,rfl,rfl,h2,h1,hb⟩
  |false =>
   have ih:=Wo hk hx es ms (i+1) h3;simp only;cases hf:fV kt es x with
   |none=>rw[hf]at ih;exact ih
   |some y =>
    rw[hf]at ih;obtain⟨m',e',g1,g2,g3,g4,g5,g6,g7⟩:=ih;exact⟨m',e',by rw[g1];congr 3;omega,by simpa using g2,by simpa using g3,g4,g5,g6,g7⟩
theorem nZ.size{N:Nat->Nat->Prop}{kt vt:Ty}{es:List (kt.den × vt.den)}{ms:Array MapEntry}(h:nZ w N kt vt es ms):es.length=ms.size:=by
 rw[h.1.length];simp
theorem nZ.push{N:Nat->Nat->Prop}{kt vt:Ty}{es:List (kt.den × vt.den)}{ms:Array MapEntry}{x:kt.den}{y:vt.den}{u v:Value}(h:nZ w N kt vt es ms)(hx:kt.bW w N x u)(hy:vt.bW w N y v):nZ w N kt vt (es++[(x,y)]) (ms.push { key:=u,val:=v,born:=ms.size }):=by
 refine⟨by rw[qCn];exact h.1.append ⟨⟨hx,hy⟩,trivial⟩,λi m hm=>?_⟩;rw[Array.getElem?_push]at hm;split at hm
 ·rename_i e;simp only[aA]at hm;subst hm;exact e.symm
 ·exact h.2 i m hm
theorem nZ.put{N:Nat->Nat->Prop}{kt vt:Ty}{es:List (kt.den × vt.den)}{ms:Array MapEntry}{x:kt.den}{y:vt.den}{i:Nat}{m:MapEntry}{f:MapEntry->MapEntry}(h:nZ w N kt vt es ms)(hm:ms[i]?=some m)(hb:(f m).born=m.born)(hx:kt.bW w N x (f m).key)(hy:vt.bW w N y (f m).val):nZ w N kt vt (es.set i (x,y)) (ms.modify i f):=by
 have hml:(ms.modify i f).toList=ms.toList.set i (f m):=by
  apply qCu;intro j;rw[qCj,qCv,List.getElem?_set];have hi:i<ms.size:=(qCk.1 hm).1;by_cases hij:i=j
  ·subst hij;obtain⟨_,he⟩:=qCk.1 hm;simp[hi,he]
  ·simp[hij]
 refine⟨by rw[hml];exact h.1.set i ⟨hx,hy⟩,λj m' hm'=>?_⟩;rw[qCv]at hm';split at hm'
 ·rename_i e;subst e;rw[hm]at hm';simp only[kU,aA]at hm';subst hm';rw[hb];exact h.2 i m hm
 ·exact h.2 j m' hm'
theorem findIdx_born{ms:Array MapEntry}(hb:∀ (i:Nat) (m:MapEntry),ms[i]?=some m->m.born=i){i:Nat}(hi:i<ms.size):ms.findIdx? (λe=>(e.born:Int)==(i:Int))=some i:=by
 rw[Array.findIdx?_eq_some_iff_getElem];refine⟨hi,?_,λj hj=>?_⟩
 ·have:=hb i ms[i] (by simp[hi]);simp[this]
 ·have:=hb j ms[j] (by simp);simp[this];try omega
def World.nJ (w:World) (b:Nat) (ms:Array MapEntry) (n:Nat):World := { w with heap:=w.heap.setIfInBounds b (.map ms n) }
theorem Ry{b n:Nat}{ms:Array MapEntry}:Keep (λk _=>k=b) w (World.nJ w b ms n):=Keep.mZ (M:=λk=>k=b) (by simp[World.nJ]) (λk _ hn=>by simp only[World.nJ];rw[Array.getElem?_setIfInBounds_ne (λe=>hn e.symm)]) (λ_ _ h=>h)
theorem zKm{b n:Nat}{ms:Array MapEntry}(hb:b<w.heap.size):(World.nJ w b ms n).heap[b]?=some (.map ms n):=by
 simp only[World.nJ];rw[Array.getElem?_setIfInBounds_self_of_lt hb]
theorem Sim.zUk{σ:St}{a:Act}{id b:Nat}{kt vt:Ty}{es es':List (kt.den × vt.den)}{ms ms':Array MapEntry}(hs:Sim C β σ a w)(hob:σ.h[id]?=some (.dm kt vt es))(ho:(β id).blk=some b)(hm:w.heap[b]?=some (.map ms ms.size))(he:nZ w (C.N β σ.h) kt vt es' ms'):Moves β β/\Keep (C.N β σ.h) w (World.nJ w b ms' ms'.size)/\Sim C β { σ with h:=σ.h.set id (.dm kt vt es') } a (World.nJ w b ms' ms'.size):=by
 have hb:b<w.heap.size:=(qCk.1 hm).1;have hO:=hs.heap.obj id _ hob;simp only[Ob.Rel]at hO;obtain⟨o1,o2,_⟩:=hO;have hm0:Moves β (upd β id (β id)):=by rw[vU];exact Moves.refl β
 have hkN:Keep (C.N β σ.h) w (World.nJ w b ms' ms'.size):=Ry.weaken λk j hk=>.inr ⟨id,_,hob,rfl,Ob.mP (by rw[hk];exact ho)⟩
 have Ew:=hs.set (id:=id) (o:=.dm kt vt es') (p:=β id) (w':=World.nJ w b ms' ms'.size) hob (λ_=>rfl) (.inl rfl) (Ry.weaken λk _ hk=>by subst hk;exact⟨ho,rfl⟩) ⟨rfl,rfl,rfl⟩ hm0 (by
  simp only[Ob.Rel];refine⟨o1,o2,b,ms',ho,zKm hb,he.mono hkN λk j _ hn=>?_⟩;exact yL (id:=id) (p:=β id) hob (at_set (λ_=>rfl) (.inl rfl) rfl) (by assumption) hn)
 rw[vU]at Ew;exact⟨Moves.refl β,hkN,Ew⟩
theorem zEl{P:Program}{t kt et:TypeId}{ti:TI}(hok:rM P t ti)(hk:ti.k=.map kt et):P.underlying t=some (.map kt et):=by
 obtain⟨d,hd,hdk⟩:=hok.und;rw[hk]at hdk;cases d<;>simp[TK.of]at hdk
 obtain⟨rfl,rfl⟩:=hdk;exact hd
theorem zUl{σ:St}{a:Act}{m:Operand}{id:Nat}(hs:Sim C β σ a w)(hm:ovl σ m=.one (.mp id)):∃ b,(β id).blk=some b/\a.eval m=.map (some b):=by
 have hmv:=bE hs m;rw[hm]at hmv;simp only[V.Rel,L.Rel]at hmv;obtain⟨_,_,b,e1,e2⟩:=hmv;exact⟨b,e1,by simpa using e2⟩
theorem yEf{σ:St}{a:Act}{o:Oper}{t:TypeId}{m k x:Operand}{v:V}{h':List Ob}(hT:bU C.P T)(hs:Sim C β σ a w)(ho:(execOp a.eval o).run C.P w=(do Instr.mapUpdate t (a.eval m) (a.eval k) (a.eval x);pure Next.skip:Sem Next).run C.P w)(h:zXv T σ t m k x=some (true,v,h')):After C β σ a w o v h':=by
 unfold zXv at h;split at h
 ·rename_i ti id hti hm;obtain⟨b,hbl,e2⟩:=zUl hs hm;split at h
  ·rename_i kt et tab hk hob;split at h
   ·rename_i tk key f htk hkey hf;split at h
    ·rename_i hb;simp only[aD,qCo]at hb;obtain⟨b1,b2,b3⟩:=hb;simp only[aA,aC,true_and]at h;obtain⟨rfl,rfl⟩:=h;have hd:=zEl (hT _ _ hti) hk;obtain⟨dk,Nb,zGn⟩:=(hT _ _ htk).und;have hO:=hs.heap.obj id _ hob;simp only[Ob.Rel]at hO;obtain⟨o1,o2,b',es,n,o3,o4,o5⟩:=hO;rw[hbl]at o3;obtain rfl:=qBc o3;have hkv:=yAd hkey (bE hs k);have hfv:=yWb hf (bE hs x);have hnone:kV tab key=none:=by
      have:=zBs tab key;rw[b3]at this;cases hq:kV tab key with
      |none=>rfl
      |some q=>rw[hq]at this;simp at this
     rw[<- zGn]at b1 b2;obtain⟨r,hr,hr2⟩:=zCw b1 b2 o5;rw[hnone]at hr2;subst hr2;have hb:b<w.heap.size:=(qCk.1 o4).1
     let ne:MapEntry:={ key:=key.v,val:=.func (.func f) #[] #[],born:=n }
     have hu1:(underlying t).run C.P w=.ok (.map kt et) w:=by simp[underlying,hd]
     have hu2:(underlying kt).run C.P w=.ok dk w:=by simp[underlying,Nb]
     have hget:(getObj b).run C.P w=.ok (.map es n) w:=by simp[getObj,Sem.run,o4]
     have hset:(setObj b (.map (es.push ne) (n+1))).run C.P w=.ok () (World.nJ w b (es.push ne) (n+1)):=by simp[setObj,Sem.run,o4,World.nJ]
     have hck:=Yh (w:=w) (b:=false) (n:=9999) Nb b1;have hm0:Moves β (upd β id (β id)):=by rw[vU];exact Moves.refl β
     have Ew:=hs.set (id:=id) (o:=.fm (tab++[(key,f)])) (p:=β id) (w':=World.nJ w b (es.push ne) (n+1)) hob (λ_=>rfl) (.inl rfl) (Ry.weaken λk _ hk=>by subst hk;exact⟨hbl,rfl⟩) ⟨rfl,rfl,rfl⟩ hm0 (by
      simp only[Ob.Rel];refine⟨o1,o2,b,es.push ne,n+1,hbl,zKm hb,λe he=>?_,λq hq=>?_⟩
      ·rw[qCn]at he;rcases qAp.1 he with he|he
       ·obtain⟨x',f',g1,g2,g3⟩:=o5.1 e he;exact⟨x',f',g1,g2,yAb g3⟩
       ·obtain rfl:=qCp.1 he;exact⟨key,f,rfl,rfl,yAc hnone⟩
      ·rw[qCn];rcases qAp.1 hq with hq|hq
       ·obtain⟨e,he,g⟩:=o5.2 q hq;exact⟨e,List.mem_append_left _ he,g⟩
       ·obtain rfl:=qCp.1 hq;exact⟨ne,List.mem_append_right _ (qCp.2 rfl),rfl⟩)
     rw[vU]at Ew;refine⟨β,_,.skip,undef,?_,.inr ⟨rfl,rfl⟩,Moves.refl β,Ry.weaken λk _ hk=>.inr ⟨id,_,hob,rfl,Ob.mP (by rw[hk];exact hbl)⟩,Ew,?_⟩
     ·rw[ho];simp only[e2,hkv,hfv,Instr.mapUpdate,jJ,hu1,kQ,hget,hck,Instr.findKey,hu2,hr,jI,hset,ne]
     ·exact⟨[],rfl,trivial⟩
    ·cases h
   ·cases h
  ·rename_i kt et kty vty es hk hob;split at h
   ·rename_i tk key y htk hkey hy;split at h
    ·rename_i b1;simp only[aA,aC,true_and]at h;obtain⟨rfl,rfl⟩:=h;have hd:=zEl (hT _ _ hti) hk;obtain⟨dk,Nb,zGn⟩:=(hT _ _ htk).und;have hO:=hs.heap.obj id _ hob;simp only[Ob.Rel]at hO;obtain⟨o1,o2,b',ms,o3,o4,o5⟩:=hO;rw[hbl]at o3;obtain rfl:=qBc o3;have hkv:=toTy_rel hkey (bE hs k);have hyv:=toTy_rel hy (bE hs x);rw[<- zGn]at b1;have hu1:(underlying t).run C.P w=.ok (.map kt et) w:=by simp[underlying,hd]
     have hu2:(underlying kt).run C.P w=.ok dk w:=by simp[underlying,Nb]
     have hget:(getObj b).run C.P w=.ok (.map ms ms.size) w:=by simp[getObj,Sem.run,o4]
     have hset:∀ ms' n,(setObj b (.map ms' n)).run C.P w=.ok () (World.nJ w b ms' n):=λms' n=>by simp[setObj,Sem.run,o4,World.nJ]
     have hck:=zCx (b:=false) (n:=9999) Nb b1 hkv;have hfi:=Wo b1 hkv es ms.toList 0 o5.1;unfold uV;cases hq:fV kty es key with
     |none =>
      rw[hq]at hfi;simp only at hfi;have hE:=o5.push hkv hyv;obtain⟨s1,s2,s3⟩:=hs.zUk hob hbl o4 hE;rw[qCw]at s2 s3;refine⟨β,_,.skip,undef,?_,.inr ⟨rfl,rfl⟩,s1,s2,s3,⟨[],rfl,trivial⟩⟩;rw[ho];simp only[e2,Instr.mapUpdate,jJ,hu1,kQ,hget,hck,Instr.findKey,hu2,hfi,jI,hset]
     |some y0 =>
      rw[hq]at hfi;obtain⟨mm,ee,f1,f2,f3,f4,f5,f6,f7⟩:=hfi;rw[yY]at f1;rw[qCj]at f2;have hsb:=zQd b1 hkv f6 f7;have hE:=nZ.put (i:=mIdx kty es key) (x:=key) (y:=y) (m:=mm) (f:=λe=>{ e with key:=a.eval k,val:=a.eval x }) o5 f2 rfl hkv hyv;obtain⟨s1,s2,s3⟩:=hs.zUk hob hbl o4 hE;rw[qCq]at s2 s3;refine⟨β,_,.skip,undef,?_,.inr ⟨rfl,rfl⟩,s1,s2,s3,⟨[],rfl,trivial⟩⟩;rw[ho];simp only[e2,Instr.mapUpdate,jJ,hu1,kQ,hget,hck,Instr.findKey,hu2,f1,jI,Instr.keyThatStays,f2,kU,qCx,hsb,if_true,hset]
    ·cases h
   ·cases h
  ·cases h
 ·cases h
theorem yEg{N:Nat->Nat->Prop}{kt vt:Ty}{z:vt.den}{u zu:Value}{es:List (kt.den × vt.den)}{key:kt.den}(hz:vt.bW w N z zu)(h:match fV kt es key with|some y=>vt.bW w N y u|none=>u=zu):vt.bW w N (jP kt z es key) u:=by
 unfold jP;cases hq:fV kt es key with
 |none=>rw[hq]at h;simp only at h ⊢;rw[h];exact hz
 |some y=>rw[hq]at h;exact h
theorem ySl{σ:St}{a:Act}{o:Oper}{v:V}{h':List Ob}(hT:bU C.P T)(hs:Sim C β σ a w)(h:stepM T σ o=some (true,v,h')):After C β σ a w o v h':=by
 unfold stepM at h;split at h
 ·rename_i t ho;have mk:∀ (ob:Ob),ob.tQ=false->(∀ (p:Pl) (β':Nat->Pl) (N:Nat->Nat->Prop),p=⟨true,true,0,some w.heap.size,0,0,0,[]⟩->ob.Rel β' (w.alloc (.map #[] 0)) N p)->v=.one (.mp σ.h.length)->h'=σ.h++[ob]->After C β σ a w o v h':=by
   rintro ob htip hrel rfl rfl
   let p:Pl:=⟨true,true,0,some w.heap.size,0,0,0,[]⟩
   refine⟨upd β σ.h.length p,w.alloc (.map #[] 0),.value (.map (some w.heap.size)),.map (some w.heap.size),?_,.inl rfl,rY hs.heap p,(dX w _).weaken λ_ _ h=>h.elim,hs.push (p:=p) (.inr ⟨rfl,by simp⟩) (dX w _) (Mw _ _) ?_ (by simp[Ob.plain,htip]),?_⟩
   ·simp only[execOp,ho,Instr.makeMap,Option.map_none,jJ,run_newObj,kQ,jI];rfl
   ·exact hrel p _ _ rfl
   ·simp only[V.Rel,L.Rel,upd_same];exact⟨rfl,rfl,w.heap.size,rfl,rfl⟩
  split at h
  ·split at h
   ·split at h
    ·split at h
     ·simp only[aA,aC,true_and]at h;obtain⟨rfl,rfl⟩:=h;refine mk (.fm []) rfl (λp β' N hp=>?_) rfl rfl;subst hp;simp only[Ob.Rel];exact⟨trivial,trivial,w.heap.size,#[],0,rfl,by rw[heap_alloc_new],(show Eb [] []from ⟨by simp,by simp⟩)⟩
     ·split at h
      ·rename_i kty vty _ _;simp only[aA,aC,true_and]at h;obtain⟨rfl,rfl⟩:=h;refine mk (.dm kty vty []) rfl (λp β' N hp=>?_) rfl rfl;subst hp;simp only[Ob.Rel];exact⟨trivial,trivial,w.heap.size,#[],rfl,by rw[heap_alloc_new];rfl,trivial,λi m hm=>by simp at hm⟩
      ·cases h
    ·cases h
   ·cases h
  ·cases h
 ·rename_i t m k x ho;exact yEf hT hs (by simp only[execOp,ho]) h
 ·rename_i t m k x ho;exact yEf hT hs (by simp only[execOp,ho]) h
 ·rename_i t m k ok ho;split at h
  ·rename_i ti id hti hm;obtain⟨b,hbl,e2⟩:=zUl hs hm;split at h
   ·rename_i kt et tab hk hob;split at h
    ·rename_i key tk te hkey htk hte;split at h
     ·rename_i hb hz;simp only[aD,qCo]at hb;obtain⟨b1,b2,b3⟩:=hb;simp only[aA,aC,true_and]at h;obtain⟨rfl,rfl⟩:=h;have hd:=zEl (hT _ _ hti) hk;obtain⟨dk,Nb,zGn⟩:=(hT _ _ htk).und;have hO:=hs.heap.obj id _ hob;simp only[Ob.Rel]at hO;obtain⟨o1,o2,b',es,n,o3,o4,o5⟩:=hO;rw[hbl]at o3;obtain rfl:=qBc o3;have hkv:=yAd hkey (bE hs k);rw[<- zGn]at b1 b2;obtain⟨r,hr,hr2⟩:=zCw b1 b2 o5;obtain⟨i0,z,hi0,his,hib,hz0,tT,hzs,yNr⟩:=(hT _ _ hte).i;rw[b3]at yNr;have hzr:=tT β w (C.N β σ.h);rw[hz]at hzr;have hzn:z=.nilFunc:=by
       obtain⟨c1,c2,e,r1,r2⟩:=hzr;simp only[aJ]at r2;subst r2;simp only[L.Rel,Ty.Rel]at r1;rw[r1.1,vE]at e;cases z<;>simp[Value.cells,Sr]at e yNr ⊢
      have hu1:(underlying t).run C.P w=.ok (.map kt et) w:=by simp[underlying,hd]
      have hu2:(underlying kt).run C.P w=.ok dk w:=by simp[underlying,Nb]
      have hget:(getObj b).run C.P w=.ok (.map es n) w:=by simp[getObj,Sem.run,o4]
      have hck:=Yh (w:=w) (b:=es.isEmpty) (n:=9999) Nb b1;have hzv:(zeroValue et).run C.P w=.ok .nilFunc w:=by simp[zeroValue,typeInfo,hi0,hz0,hzn]
      refine After.read hs ⟨.tuple #[zTz key tab,.bool (memT tab key)],?_,[_,_],rfl,?_⟩
      ·rw[zBs];unfold zTz;cases hq:kV tab key with
       |none =>
        rw[hq]at hr2;subst hr2;simp only[execOp,ho,e2,hkv,Instr.lookup,jJ,hu1,kQ,hget,hck,Instr.findKey,hu2,hr,jI,hzv];rfl
       |some f =>
        rw[hq]at hr2;obtain⟨j,rfl⟩:=hr2;simp only[execOp,ho,e2,hkv,Instr.lookup,jJ,hu1,kQ,hget,hck,Instr.findKey,hu2,hr,jI];rfl
      ·exact⟨by simp only[jM,L.Rel],by simp only[jM,L.Rel,Ty.Rel],trivial⟩
     ·cases h
    ·cases h
   ·rename_i kt et kty vty es hk hob;split at h
    ·rename_i key tk te hkey htk hte;split at h
     ·rename_i z b1 hz;have hd:=zEl (hT _ _ hti) hk;obtain⟨dk,Nb,zGn⟩:=(hT _ _ htk).und;have hO:=hs.heap.obj id _ hob;simp only[Ob.Rel]at hO;obtain⟨o1,o2,b',ms,o3,o4,o5⟩:=hO;rw[hbl]at o3;obtain rfl:=qBc o3;have hkv:=toTy_rel hkey (bE hs k);rw[<- zGn]at b1;obtain⟨zu,hzv,hzr⟩:=zUj (hT _ _ hte) hz w (C.N β σ.h);have hu1:(underlying t).run C.P w=.ok (.map kt et) w:=by simp[underlying,hd]
      have hu2:(underlying kt).run C.P w=.ok dk w:=by simp[underlying,Nb]
      have hget:(getObj b).run C.P w=.ok (.map ms ms.size) w:=by simp[getObj,Sem.run,o4]
      have hck:=zCx (b:=ms.isEmpty) (n:=9999) Nb b1 hkv;have hfi:=Wo b1 hkv es ms.toList 0 o5.1;have key1:∃ u,(Instr.lookup t (.map (some b)) (a.eval k) ok).run C.P w=.ok (if ok then .tuple #[u,.bool (zXu kty es key)]else u) w/\vty.bW w (C.N β σ.h) (jP kty z es key) u:=by
       unfold zXu;cases hq:fV kty es key with
       |none =>
        rw[hq]at hfi;simp only at hfi;refine⟨zu,?_,yEg hzr (by rw[hq])⟩;simp only[Instr.lookup,jJ,hu1,kQ,hget,hck,Instr.findKey,hu2,hfi,jI,hzv]
       |some y0 =>
        rw[hq]at hfi;obtain⟨mm,ee,f1,f2,f3,f4,f5,f6,f7⟩:=hfi;refine⟨mm.val,?_,yEg hzr (by rw[hq];exact f5)⟩;simp only[Instr.lookup,jJ,hu1,kQ,hget,hck,Instr.findKey,hu2,f1,jI]
      obtain⟨u,k1,k2⟩:=key1;cases ok with
      |true =>
       simp only[aA,aC,true_and]at h;obtain⟨rfl,rfl⟩:=h;refine After.read hs ⟨.tuple #[u,.bool (zXu kty es key)],?_,[_,_],rfl,zKl k2,by simp only[jM,L.Rel,Ty.Rel],trivial⟩;simp only[execOp,ho,e2];rw[fJ k1];rfl
      |false =>
       simp only[aA,aC,true_and]at h;obtain⟨rfl,rfl⟩:=h;refine After.read hs ⟨u,?_,ySk k2⟩;simp only[execOp,ho,e2];rw[fJ k1];rfl
     ·cases h
    ·cases h
   ·cases h
  ·cases h
 ·rename_i t m k ho;split at h
  ·rename_i ti id hti hm;obtain⟨b,hbl,e2⟩:=zUl hs hm;split at h
   ·rename_i kt et kty vty es hk hob;split at h
    ·rename_i key tk te hkey htk hte;split at h
     ·rename_i z b1 hz;simp only[aA,aC,true_and]at h;obtain⟨rfl,rfl⟩:=h;have hd:=zEl (hT _ _ hti) hk;obtain⟨dk,Nb,zGn⟩:=(hT _ _ htk).und;have hO:=hs.heap.obj id _ hob;simp only[Ob.Rel]at hO;obtain⟨o1,o2,b',ms,o3,o4,o5⟩:=hO;rw[hbl]at o3;obtain rfl:=qBc o3;have hkv:=toTy_rel hkey (bE hs k);rw[<- zGn]at b1;obtain⟨zu,hzv,hzr⟩:=zUj (hT _ _ hte) hz w (C.N β σ.h);have hu1:(underlying t).run C.P w=.ok (.map kt et) w:=by simp[underlying,hd]
      have hu2:(underlying kt).run C.P w=.ok dk w:=by simp[underlying,Nb]
      have hget:(getObj b).run C.P w=.ok (.map ms ms.size) w:=by simp[getObj,Sem.run,o4]
      have hset:∀ ms' n,(setObj b (.map ms' n)).run C.P w=.ok () (World.nJ w b ms' n):=λms' n=>by simp[setObj,Sem.run,o4,World.nJ]
      have hck:=zCx (b:=false) (n:=9999) Nb b1 hkv;have hfi:=Wo b1 hkv es ms.toList 0 o5.1;have hNk:∀ {u:Value}{x:vty.den}{w':World}(h2:List Ob),vty.bW w (C.N β σ.h) x u->Keep (C.N β σ.h) w w'->(∀ b j,b<w.heap.size->C.N β h2 b j->C.N β σ.h b j)->vty.bW w' (C.N β h2) x u:=λh2 hv hk hN=>hv.mono hk hN
      have hNo:∀ es',∀ b j,b<w.heap.size->C.N β (σ.h.set id (.dm kty vty es')) b j->C.N β σ.h b j:=λes' b j hlt hn =>
       yL (id:=id) (p:=β id) hob (at_set (λ_=>rfl) (.inl rfl) rfl) hlt (by rw[vU];exact hn)
      unfold uV;cases hq:fV kty es key with
      |none =>
       rw[hq]at hfi;simp only at hfi;have hg:jP kty z es key=z:=by unfold jP;rw[hq]
       have hix:mIdx kty es key=es.length:=by
        have:∀ (l:List (kty.den × vty.den)),fV kty l key=none->mIdx kty l key=l.length:=by
         intro l;induction l with
         |nil=>intro _;rfl
         |cons e l ih =>
          intro hl;simp only[fV]at hl;simp only[mIdx,xI];cases hb:kty.beq key e.1 with
          |true=>rw[hb]at hl;cases hl
          |false =>
           rw[hb]at hl;simp only;rw[ih hl]
        exact this es hq
       have hE:=o5.push hkv (show vty.bW w (C.N β σ.h) (jP kty z es key) zu by rw[hg];exact hzr);obtain⟨s1,s2,s3⟩:=hs.zUk hob hbl o4 hE;rw[qCw]at s2 s3;refine⟨β,_,.value (.tuple #[zu,goInt ms.size]),.tuple #[zu,goInt ms.size],?_,.inl rfl,s1,s2,s3,?_⟩
       ·simp only[execOp,ho,e2,Instr.mapEntry,jJ,hu1,kQ,hget,hck,Instr.findKey,hu2,hfi,jI,hset,hzv]
       ·refine⟨[_,_],rfl,zKl (hNk _ (by rw[hg];exact hzr) s2 (hNo _)),?_,trivial⟩;simp only[jM,L.Rel,Ty.Rel,goInt,hix,o5.size]
      |some y0 =>
       rw[hq]at hfi;obtain⟨mm,ee,f1,f2,f3,f4,f5,f6,f7⟩:=hfi;rw[yY]at f1;rw[qCj]at f2;have hsb:=zQd b1 hkv f6 f7;have hg:jP kty z es key=y0:=by unfold jP;rw[hq]
       have hE:=nZ.put (i:=mIdx kty es key) (x:=key) (y:=jP kty z es key) (m:=mm) (f:=λe=>{ e with key:=a.eval k }) o5 f2 rfl hkv (by rw[hg];exact f5);obtain⟨s1,s2,s3⟩:=hs.zUk hob hbl o4 hE;rw[qCq]at s2 s3;refine⟨β,_,.value (.tuple #[mm.val,goInt (mIdx kty es key)]),.tuple #[mm.val,goInt (mIdx kty es key)],?_,.inl rfl,s1,s2,s3,?_⟩
       ·simp only[execOp,ho,e2,Instr.mapEntry,jJ,hu1,kQ,hget,hck,Instr.findKey,hu2,f1,jI,Instr.keyThatStays,f2,kU,qCx,hsb,if_true,hset,o5.2 _ _ f2]
       ·refine⟨[_,_],rfl,zKl (hNk _ (hg ▸ f5) s2 (hNo _)),?_,trivial⟩;simp only[jM,L.Rel,Ty.Rel,goInt]
     ·cases h
    ·cases h
   ·cases h
  ·cases h
 ·rename_i t m s x ho;split at h
  ·rename_i id i hm hsv;obtain⟨b,hbl,e2⟩:=zUl hs hm;split at h
   ·rename_i kty vty es hob;split at h
    ·rename_i y hy;simp only[aA,aC]at h;obtain⟨hin,rfl,rfl⟩:=h;obtain⟨g1,g2,g3⟩:=Et hin;have hO:=hs.heap.obj id _ hob;simp only[Ob.Rel]at hO;obtain⟨o1,o2,b',ms,o3,o4,o5⟩:=hO;rw[hbl]at o3;obtain rfl:=qBc o3;have hyv:=toTy_rel hy (bE hs x);have hsr:=bE hs s;rw[hsv]at hsr;simp only[V.Rel,L.Rel,Ty.Rel,aL,and_true]at hsr;have hms:i.toNat<ms.size:=by rw[<- o5.size];exact g3
     have hmi:ms[i.toNat]?=some ms[i.toNat]:=by simp[hms]
     have hei:es[i.toNat]?=some es[i.toNat]:=by simp[g3]
     have hrel:=o5.1.get i.toNat g3 (by simpa using hms);simp only[Array.getElem_toList]at hrel;have hget:(getObj b).run C.P w=.ok (.map ms ms.size) w:=by simp[getObj,Sem.run,o4]
     have hset:∀ ms' n,(setObj b (.map ms' n)).run C.P w=.ok () (World.nJ w b ms' n):=λms' n=>by simp[setObj,Sem.run,o4,World.nJ]
     have hE:=nZ.put (i:=i.toNat) (x:=es[i.toNat].1) (y:=y) (m:=ms[i.toNat]) (f:=λe=>{ e with val:=a.eval x }) o5 hmi rfl hrel.1 hyv;obtain⟨s1,s2,s3⟩:=hs.zUk hob hbl o4 hE;rw[qCq]at s2 s3;have hfx:=findIdx_born o5.2 hms;rw[Int.toNat_of_nonneg g1]at hfx;have hpe:yWa kty es i y=es.set i.toNat (es[i.toNat].1,y):=by unfold yWa;rw[hei]
     rw[hpe];refine⟨β,_,.skip,undef,?_,.inr ⟨rfl,rfl⟩,s1,s2,s3,⟨[],rfl,trivial⟩⟩;have hai:(asInt (.int .i64 i)).run C.P w=.ok i w:=rfl;simp only[execOp,ho,e2,hsr,Instr.entryStore,jJ,hget,kQ,hai,hfx,hset,jI]
    ·cases h
   ·cases h
  ·cases h
 ·cases h
end
end Go.Dec
namespace Go.Dec
section
variable {C:Ctx}{T:Tab}
structure Turn (C:Ctx) (S:Nat->Prop) (h h':List Ob) (β β':Nat->Pl) (w w':World):Prop where
 len:h.length<=h'.length
 same:∀ i,i<h.length->¬ S i->h'[i]?=h[i]?/\β' i=β i
 new:∀ i,h.length<=i->i<h'.length->S i
 dead:∀ i,h'.length<=i->(β' i).live=false
 at':∀ i o b j,S i->h'[i]?=some o->b<w.heap.size->o.wr=true->o.at (β' i) b j->∃ i0 o0,S i0/\h[i0]?=some o0/\o0.wr=true/\o0.at (β i0) b j
 blks:∀ i o b,S i->h'[i]?=some o->o.blks (β' i) b->(∃ i0 o0,S i0/\h[i0]?=some o0/\o0.blks (β i0) b)\/(w.heap.size<=b/\b<w'.heap.size)
 apart:∀ i j o o' b,S i->S j->h'[i]?=some o->h'[j]?=some o'->o.blks (β' i) b->o'.blks (β' j) b->i=j
 keep:Keep (λb j=>∃ i o,S i/\h[i]?=some o/\o.at (β i) b j/\o.wr=true) w w'
 os:Same w w'
 moves:Moves β β'
theorem Turn.zBu{S:Nat->Prop}{h h':List Ob}{β β':Nat->Pl}{w w':World}(t:Turn C S h h' β β' w w'):Keep (C.N β h) w w' :=
 t.keep.weaken λ_ _ hb=>by obtain⟨i,o,_,h2,h3,h4⟩:=hb;exact .inr ⟨i,o,h2,h4,h3⟩
theorem Turn.owns{S:Nat->Prop}{h h':List Ob}{β β':Nat->Pl}{w w':World}(t:Turn C S h h' β β' w w'):∀ b j,b<w.heap.size->C.N β' h' b j->C.N β h b j:=λb j hlt hn=>by
 rcases hn with hn|⟨i,o,ho,hw,hbk⟩
 ·exact .inl hn
 ·by_cases hS:S i
  ·obtain⟨i0,o0,_,h2,h3,h4⟩:=t.at' i o b j hS ho hlt hw hbk;exact .inr ⟨i0,o0,h2,h3,h4⟩
  ·have hi:i<h.length:=by
    rcases jF i h.length with h1|h1
    ·exact h1
    ·exact absurd (t.new i h1 (bK.1 ho).1) hS
   obtain⟨e1,e2⟩:=t.same i hi hS;rw[e1]at ho;rw[e2]at hbk;exact .inr ⟨i,o,ho,hw,hbk⟩
theorem fC.re{S:Nat->Prop}{h h':List Ob}{β β':Nat->Pl}{w w':World}(hs:fC C β h w)(t:Turn C S h h' β β' w w')(ho:∀ i o,S i->h'[i]?=some o->o.Rel β' w' (C.N β' h') (β' i)):fC C β' h' w':=by
 have hN:=t.owns;have hkN:=t.zBu;have hcase:∀ {i o},h'[i]?=some o->(S i)\/(¬ S i/\h[i]?=some o/\β' i=β i):=λ{i o} hi=>by
  by_cases hS:S i
  ·exact .inl hS
  ·have hl:i<h.length:=by
    rcases jF i h.length with h1|h1
    ·exact h1
    ·exact absurd (t.new i h1 (bK.1 hi).1) hS
   obtain⟨e1,e2⟩:=t.same i hl hS;exact .inr ⟨hS,by rw[<- e1];exact hi,e2⟩
 refine⟨?_,t.dead,?_,?_,hs.n0,?_,zG hs.size hkN.size,t.os.os.trans hs.os,t.os.tape.trans hs.tape,t.os.output.trans hs.output,λj o hj=>?_⟩
 ·intro i o hi;rcases hcase hi with hS|⟨hS,h1,e⟩
  ·exact ho i o hS hi
  ·rw[e];exact(hs.obj i o h1).mono t.moves hkN hN λb hb=>t.keep.block b (hs.eZ i o b h1 hb).2.1 λj ⟨i0,o0,g1,g2,g3,_⟩=>hS (by rw[hs.kX i i0 o o0 b h1 g2 hb ⟨j,g3⟩];exact g1)
 ·intro i j o1 o2 b h1 h2 hb1 hb2;rcases hcase h1 with hS1|⟨hS1,g1,e1⟩<;>rcases hcase h2 with hS2|⟨hS2,g2,e2⟩
  ·exact t.apart i j o1 o2 b hS1 hS2 h1 h2 hb1 hb2
  ·rw[e2]at hb2;rcases t.blks i o1 b hS1 h1 hb1 with ⟨i0,o0,k1,k2,k3⟩|⟨k1,_⟩
   ·have:=hs.kX i0 j o0 o2 b k2 g2 k3 hb2;subst this;exact absurd k1 hS2
   ·have:=(hs.eZ j o2 b g2 hb2).2.1;omega
  ·rw[e1]at hb1;rcases t.blks j o2 b hS2 h2 hb2 with ⟨i0,o0,k1,k2,k3⟩|⟨k1,_⟩
   ·have:=hs.kX i i0 o1 o0 b g1 k2 hb1 k3;subst this;exact absurd k1 hS1
   ·have:=(hs.eZ i o1 b g1 hb1).2.1;omega
  ·rw[e1]at hb1;rw[e2]at hb2;exact hs.kX i j o1 o2 b g1 g2 hb1 hb2
 ·intro i o b hi hb;rcases hcase hi with hS|⟨hS,h1,e⟩
  ·rcases t.blks i o b hS hi hb with ⟨i0,o0,k1,k2,k3⟩|⟨k1,k2⟩
   ·obtain⟨m1,m2,m3⟩:=hs.eZ i0 o0 b k2 k3;refine⟨m1,wD m2 hkN.size,?_⟩;rcases jF b C.w0.heap.size with hlt|hge
    ·refine .inr λj hw hk=>?_
     obtain⟨i1,o1,_,q2,q3,q4⟩:=t.at' i o b j hS hi m2 hw hk;rcases(hs.eZ i1 o1 b q2 ⟨j,q4⟩).2.2 with q|q
     ·omega
     ·exact q j q3 q4
    ·exact .inl hge
   ·have h0:=hs.size;exact⟨λ_ hn=>by have:=hs.n0 _ _ hn;omega,k2,.inl (by omega)⟩
  ·rw[e]at hb ⊢;obtain⟨m1,m2,m3⟩:=hs.eZ i o b h1 hb;exact⟨m1,wD m2 hkN.size,m3⟩
 ·refine hs.frame.uJ t.keep λb j hb hbb=>?_
  obtain⟨i0,o0,_,g2,g3,g4⟩:=hbb;rcases(hs.eZ i0 o0 b g2 ⟨j,g3⟩).2.2 with h1|h1
  ·omega
  ·exact h1 j g4 g3
 ·obtain⟨k1,k2⟩:=hs.fixed j o hj;refine⟨wD k1 t.len,λb hb=>?_⟩;obtain⟨k3,k4⟩:=k2 b hb;obtain⟨oj,hoj⟩:∃ oj,h[j]?=some oj:=⟨h[j],by simp[k1]⟩;rcases t.moves j (hs.obj j oj hoj).live with e|⟨e,_⟩
  ·rw[e];exact⟨k3,k4⟩
  ·rw[k4]at e;cases e
theorem Sim.re{S:Nat->Prop}{σ:St}{h':List Ob}{β β':Nat->Pl}{w w':World}{a:Act}(hs:Sim C β σ a w)(t:Turn C S σ.h h' β β' w w')(ho:∀ i o,S i->h'[i]?=some o->o.Rel β' w' (C.N β' h') (β' i)):Sim C β' ⟨σ.r,h'⟩ a w' :=
 ⟨hs.heap.re t ho,hs.defers,hs.size,λi v hv=>(hs.reg i v hv).mono t.moves t.zBu t.owns⟩
abbrev FrT:Ty:=.pair (.int .i64) (.pair (.int .i64) (.pair (.slice (.int .i64)) (.pair (.slice (.int .i64)) .unit)))
theorem Jg{e ei:TypeId}{ver:Nat}{rows:List (Int × Int × List Int × List Int × Unit)}{top:Option (List L)}{p:Pl}{bs:List Nat}(hsub:p.sub=bs.map (λq=>(q,0))){b j:Nat}:(Ob.stk e ei ver rows top).at p b j<->(p.blk=some b\/b∈bs):=by
 unfold Ob.at;constructor
 ·rintro(h|⟨_,m,hm,_⟩)
  ·exact .inl h
  ·rw[hsub]at hm;obtain⟨q,hq,e⟩:=qBw.1 hm;simp only[aC]at e;rw[<- e.1];exact .inr hq
 ·rintro(h|h)
  ·exact .inl h
  ·exact .inr ⟨rfl,0,by rw[hsub];exact qBw.2 ⟨b,h,rfl⟩,qAm _⟩
theorem pJ{e ei:TypeId}{ver:Nat}{rows:List (Int × Int × List Int × List Int × Unit)}{top:Option (List L)}{p:Pl}{bs:List Nat}(hsub:p.sub=bs.map (λq=>(q,0))){b:Nat}:(Ob.stk e ei ver rows top).blks p b<->(p.blk=some b\/b∈bs):=
 ⟨λ⟨_,h⟩=>(Jg hsub).1 h,λh=>⟨0,(Jg hsub).2 h⟩⟩
def zUm:V->Bool | .agg [_,_,.aZ,.aZ]=>true | _=>false
theorem ySm{β:Nat->Pl}{w:World}{N:Nat->Nat->Prop}{v:V}{x:Value}{y:Int × Int × List Int × List Int × Unit}{ei:TypeId}(hn:zUm v=true)(hv:v.Rel β w N x)(hy:FrT.Rel w N y x.cells.toList):iZ w ei [y] x.cells.toList []:=by
 unfold zUm at hn;split at hn
 ·obtain⟨cs,rfl,hl⟩:=hv;obtain⟨c1,r1,e1,h1,hl⟩:=hl;obtain⟨c2,r2,e2,h2,hl⟩:=hl;obtain⟨c3,r3,e3,h3,hl⟩:=hl;obtain⟨c4,r4,e4,h4,hl⟩:=hl;simp only[aJ]at hl;simp only[L.Rel]at h3 h4;subst hl h3 h4;simp only[vE]at e4;subst e4;have hc:(Value.agg cs.toArray).cells.toList=cs:=rfl;rw[hc]at hy ⊢;simp only[Ty.Rel]at hy;obtain⟨d1,q1,f1,rfl,d2,q2,f2,rfl,d3,q3,f3,⟨v3,rfl,k3⟩,d4,q4,f4,⟨v4,rfl,k4⟩,rfl⟩:=hy;subst f4 f3 f2;have e:c1++(c2++[Value.slice none 0 0,Value.slice none 0 0])=[.int .i64 y.1,.int .i64 y.2.1,v3,v4]:=by
   have f:=f1;rw[e1,e2,e3]at f;exact f
  have hlen:=congrArg List.length e;simp only[xG,xI,List.length_nil]at hlen;have hd:[Value.slice none 0 0,Value.slice none 0 0]=[v3,v4]:=by
   have:=congrArg (List.drop 2) e;rw[<- List.append_assoc,List.drop_left' (by rw[xG];omega)]at this;exact this
  simp only[aL,and_true]at hd;obtain⟨rfl,rfl⟩:=hd;have nil:∀ {xs:List Int},zNo w N (Ty.int .i64).size (λx c=>(Ty.int .i64).Rel w N x c) xs (.slice none 0 0)->xs=[]:=by
   rintro xs (⟨_,h⟩|⟨b,off,cap,css,h,_⟩|⟨a,cap,h,_⟩)
   ·exact h
   ·simp at h
   ·simp at h
  refine⟨_,_,[],[],[],[],?_,rfl,.inl ⟨rfl,nil k3,rfl⟩,.inl ⟨rfl,nil k4,rfl⟩,rfl,rfl⟩;rw[f1];rfl
 ·cases hn
theorem zUn{β:Nat->Pl}{w:World}{N:Nat->Nat->Prop}{a:Operand->Value}{f:Operand->V}{ei:TypeId}:∀ {ps:List (Nat × Operand)}{ys:List (Int × Int × List Int × List Int × Unit)}(_:∀ p∈ps,zUm (f p.2)=true) (_:∀ p∈ps,(f p.2).Rel β w N (a p.2))
 (_:bJ (λy c=>FrT.Rel w N y c) ys (ps.map λp=>(a p.2).cells.toList)),iZ w ei ys (ps.map λp=>(a p.2).cells.toList).flatten []
 |[],[],_,_,_=>⟨rfl,rfl⟩
 |p::ps,y::ys,h1,h2,h3=>by
  have:=iZ.append (ySm (ei:=ei) (h1 p (.head _)) (h2 p (.head _)) h3.1) (zUn (ps:=ps) (ys:=ys) (λq hq=>h1 q (.tail _ hq)) (λq hq=>h2 q (.tail _ hq)) h3.2);simpa using this
 |[],_::_,_,_,h=>h.elim
 |_::_,[],_,_,h=>h.elim
theorem xEk{β:Nat->Pl}{w:World}{σ:St}{a:Act}{e ei:TypeId}{rows:List (Int × Int × List Int × List Int × Unit)}{cs:Array Value}(hs:Sim C β σ a w)(hr:iZ w ei rows cs.toList [])(hm:rows.length<=maxLen):∃ β',Moves β β'/\Sim C β' { σ with h:=σ.h++[.stk e ei 0 rows none] } a (w.alloc (.cells cs e)) /\
  (L.own σ.h.length 0).Rel β' (w.alloc (.cells cs e)) (C.N β' (σ.h++[.stk e ei 0 rows none])) [.slice (some ⟨w.heap.size,0,none⟩) rows.length rows.length]:=by
 let p:Pl:=⟨true,false,0,some w.heap.size,4,rows.length,rows.length,[]⟩
 have hk:=dX w (.cells cs e);have hlen:=hr.length;have hsz:cs.size=rows.length*4:=by rw[<- qAc];exact hlen
 refine⟨upd β σ.h.length p,rY hs.heap p,hs.zUe (p:=p) (λb hb=>?_) hk (Mw _ _) ?_,?_⟩
 ·rcases(pJ (p:=p) (bs:=[]) rfl).1 hb with h|h
  ·simp only[p,aA]at h;subst h;exact⟨aS _,by simp⟩
  ·cases h
 ·simp only[Ob.Rel];refine⟨rfl,rfl,rfl,rfl,rfl,w.heap.size,cs,cs.toList,[],[],rfl,?_,hsz,aS _,hm,rfl,qCy,qCz,?_,rfl,?_⟩
  ·rw[heap_alloc_new]
  ·exact hr.mono λb hb=>by cases hb
  ·rw[vE];exact List.take_of_length_le (by rw[hlen];exact aS _)
 ·simp only[L.Rel,upd_same];refine⟨rfl,rfl,aS _,_,rfl,rfl,λ_=>?_⟩;unfold eP;simp only[p];refine⟨by omega,0,rfl,.inl (by simp)⟩
theorem yJq{β:Nat->Pl}{w:World}{σ:St}{a:Act}{st e ei:TypeId}{ts ti:TI}{gT gU:List (Int × Int × List Int × List Int × Unit)}{x y:Value}{id1 id2 v1 v2:Nat}(ty:TypeId)(hT:bU C.P T)(hst:T.get st=some ts)(hk:ts.k=.slice e)(hti:T.get e=some ti)(hsz:ti.size=4)(hby:0<ti.bytes)(hroom:(gT.length+gU.length)*ti.bytes<=room)(hs:Sim C β σ a w)(hne:id1≠id2)(ho1:σ.h[id1]?=some (.stk e ei v1 gT none))(ho2:σ.h[id2]?=some (.stk e ei v2 gU none))(hx:eP (β id1) 0 (β id1).len x)(hy:eP (β id2) 0 (β id2).len y):∃ v' w' β',(qBd #[st,st] ty #[x,y]).run C.P w=.ok v' w'/\Moves β β'/\Sim C β' ⟨σ.r,(σ.h.set id1 (.stk e ei (v1+1) (gT++gU) none)).set id2 (.stk e ei (v2+1) [] none)⟩ a w' /\
  (L.own id1 (v1+1)).Rel β' w' (C.N β' ((σ.h.set id1 (.stk e ei (v1+1) (gT++gU) none)).set id2 (.stk e ei (v2+1) [] none))) [v']/\Keep (C.N β σ.h) w w':=by
 have hu:=(hT _ _ hst).slice hk;obtain⟨i,z,hi,his,hib,hz,tT,hzs,_⟩:=(hT _ _ hti).i;have hlen:gT.length+gU.length<=(gT.length+gU.length)*ti.bytes:=Nat.le_mul_of_pos_right _ hby;unfold room at hroom;have Yi:=hs.heap.obj _ _ ho1;have Yj:=hs.heap.obj _ _ ho2;have hap:=λb=>hs.heap.kX id1 id2 _ _ b ho1 ho2
 simp only[Ob.Rel]at Yi Yj;obtain⟨hl1,hx1,hv1,hz1,hn1,b1,yWc,cs1,t1,bs1,hb1,hh1,hc1,hle1,hm1,hs1,hd1,xEl,hf1,ht1,hk1⟩:=Yi;obtain⟨hl2,hx2,hv2,hz2,hn2,b2,xKh,cs2,t2,bs2,hb2,hh2,hc2,hle2,hm2,hs2,hd2,xEm,hf2,ht2,hk2⟩:=Yj;simp only[Yb]at ht1 ht2;subst ht1 ht2;simp only[Ms,Nat.add_zero]at hn1 hn2;rw[vE,hn1]at hk1;rw[vE,hn2]at hk2;unfold eP at hx hy;rw[hb1,hn1]at hx;rw[hb2,hn2]at hy;obtain⟨g1,o1,rfl,g1'⟩:=hx;obtain⟨g2,o2,rfl,g2'⟩:=hy;have e1:o1=0:=by
  rcases g1' with h|h
  ·simpa using h
  ·omega
 have e2:o2=0:=by
  rcases g2' with h|h
  ·simpa using h
  ·omega
 subst e1 e2;rw[qCa,qCa];have yNt:=hf1.length;have zRm:=hf2.length;have hlt1:id1<σ.h.length:=(bK.1 ho1).1;have hlt2:id2<σ.h.length:=(bK.1 ho2).1;have hblk1:∀ b,(Ob.stk e ei v1 gT none).blks (β id1) b<->(b1=b\/b∈bs1):=λb=>by rw[pJ hs1,hb1];simp
 have hblk2:∀ b,(Ob.stk e ei v2 gU none).blks (β id2) b<->(b2=b\/b∈bs2):=λb=>by rw[pJ hs2,hb2];simp
 have zRn:∀ b,(b1=b\/b∈bs1)->(b2=b\/b∈bs2)->False:=λb h1 h2=>hne (hap b ((hblk1 b).2 h1) ((hblk2 b).2 h2))
 have hin1:∀ b,(b1=b\/b∈bs1)->b<w.heap.size:=λb h=>(hs.heap.eZ id1 _ b ho1 ((hblk1 b).2 h)).2.1
 have hin2:∀ b,(b2=b\/b∈bs2)->b<w.heap.size:=λb h=>(hs.heap.eZ id2 _ b ho2 ((hblk2 b).2 h)).2.1
 have xIt:∀ u∈cs2,u.oneCell'=true:=λu hu=>hf2.one u hu
 have fin:∀ (w':World) (bk cap:Nat) (cur:Array Value),(bk=w.heap.size/\w.heap.size<w'.heap.size\/bk=b1)->Keep (λk _=>k=b1) w w'->Same w w'->w'.heap[bk]?=some (.cells cur e (0,0))->(∀ b,b<w.heap.size->b≠b1->w'.heap[b]?=w.heap[b]?) ->
  cur.toList.take ((gT.length+gU.length)*4)=cs1++cs2->cur.size=cap*4->gT.length+gU.length<=cap->cap<=maxLen ->
  ∃ β',Moves β β'/\Sim C β' ⟨σ.r,(σ.h.set id1 (.stk e ei (v1+1) (gT++gU) none)).set id2 (.stk e ei (v2+1) [] none)⟩ a w' /\
   (L.own id1 (v1+1)).Rel β' w' (C.N β' ((σ.h.set id1 (.stk e ei (v1+1) (gT++gU) none)).set id2 (.stk e ei (v2+1) [] none))) [.slice (some ⟨bk,0,none⟩) (gT.length+gU.length) cap]:=by
  intro w' bk cap cur hbk hkeep hsame hheap hold htake hcsz hle hm
  let p1:Pl:=⟨true,false,v1+1,some bk,4,cap,gT.length+gU.length,(bs1++bs2).map λq=>(q,0)⟩
  let p2:Pl:=⟨true,false,v2+1,some b2,4,(β id2).cap,0,[]⟩
  have hp1:upd (upd β id1 p1) id2 p2 id1=p1:=by rw[aY _ _ hne,upd_same]
  have hp2:upd (upd β id1 p1) id2 p2 id2=p2:=upd_same _ _ _;have hpo:∀ j,j≠id1->j≠id2->upd (upd β id1 p1) id2 p2 j=β j:=λj h1 h2=>by rw[aY _ _ h2,aY _ _ h1]
  have hmv:Moves β (upd (upd β id1 p1) id2 p2):=λj hj=>by
   by_cases h1:j=id1
   ·subst h1;rw[hp1];exact .inr ⟨hx1,rfl,rfl,by rw[hv1];exact qBr _⟩
   ·by_cases h2:j=id2
    ·subst h2;rw[hp2];exact .inr ⟨hx2,rfl,rfl,by rw[hv2];exact qBr _⟩
    ·exact .inl (hpo j h1 h2)
  have hg1:∀ o,((σ.h.set id1 (.stk e ei (v1+1) (gT++gU) none)).set id2 (.stk e ei (v2+1) [] none))[id1]?=some o->o=.stk e ei (v1+1) (gT++gU) none:=λo h=>by
   rw[qAw (Ne.symm hne),qAv hlt1]at h;simpa using h.symm
  have hg2:∀ o,((σ.h.set id1 (.stk e ei (v1+1) (gT++gU) none)).set id2 (.stk e ei (v2+1) [] none))[id2]?=some o->o=.stk e ei (v2+1) [] none:=λo h=>by
   rw[qAv (by simpa using hlt2)]at h;simpa using h.symm
  have hB1:∀ b,(Ob.stk e ei (v1+1) (gT++gU) none).blks p1 b<->(bk=b\/b∈bs1++bs2):=λb=>by rw[pJ (p:=p1) rfl];simp[p1]
  have hB2:∀ b,(Ob.stk e ei (v2+1) [] none).blks p2 b<->b2=b:=λb=>by rw[pJ (p:=p2) (bs:=[]) rfl];simp[p2]
  have yWd:∀ b,b1=b\/b∈bs1->∃ i0 o0,(i0=id1\/i0=id2)/\σ.h[i0]?=some o0/\o0.wr=true/\∀ j,o0.at (β i0) b j:=λb h=>⟨id1,_,.inl rfl,ho1,rfl,λj=>(Jg hs1).2 (by rw[hb1];exact h.imp (λh=>by rw[h]) id)⟩
  have xEn:∀ b,b2=b\/b∈bs2->∃ i0 o0,(i0=id1\/i0=id2)/\σ.h[i0]?=some o0/\o0.wr=true/\∀ j,o0.at (β i0) b j:=λb h=>⟨id2,_,.inr rfl,ho2,rfl,λj=>(Jg hs2).2 (by rw[hb2];exact h.imp (λh=>by rw[h]) id)⟩
  have back:∀ i o b,(i=id1\/i=id2)->((σ.h.set id1 (.stk e ei (v1+1) (gT++gU) none)).set id2 (.stk e ei (v2+1) [] none))[i]?=some o->o.blks (upd (upd β id1 p1) id2 p2 i) b ->
   (∃ i0 o0,(i0=id1\/i0=id2)/\σ.h[i0]?=some o0/\o0.wr=true/\∀ j,o0.at (β i0) b j)\/(w.heap.size<=b/\b<w'.heap.size):=λi o b hS ho hb=>by
   rcases hS with rfl|rfl
   ·rw[hg1 o ho,hp1,hB1]at hb;rcases hb with rfl|hb
    ·rcases hbk with ⟨e,h⟩|e
     ·exact .inr ⟨by omega,by omega⟩
     ·exact .inl (yWd _ (.inl e.symm))
    ·rcases qAp.1 hb with hb|hb
     ·exact .inl (yWd _ (.inr hb))
     ·exact .inl (xEn _ (.inr hb))
   ·rw[hg2 o ho,hp2,hB2]at hb;exact .inl (xEn _ (.inl hb))
  have hnk:∀ b,b∈bs1++bs2->b≠bk:=λb hb e=>by
   rcases qAp.1 hb with h|h
   ·rcases hbk with ⟨e',_⟩|e'
    ·have:=hin1 b (.inr h);omega
    ·exact xEl (by rw[<- e',<- e];exact h)
   ·rcases hbk with ⟨e',_⟩|e'
    ·have:=hin2 b (.inr h);omega
    ·exact zRn b (.inl (by omega)) (.inr h)
  have xEo:b2≠bk:=λe=>by
   rcases hbk with ⟨e',_⟩|e'
   ·have:=hin2 b2 (.inl rfl);omega
   ·exact zRn b2 (.inl (by omega)) (.inl rfl)
  have hturn:Turn C (λi=>i=id1\/i=id2) σ.h ((σ.h.set id1 (.stk e ei (v1+1) (gT++gU) none)).set id2 (.stk e ei (v2+1) [] none)) β (upd (upd β id1 p1) id2 p2) w w':=by
   refine⟨by simp,λi _ hS=>?_,λi h1 h2=>?_,λi hi=>?_,?_,?_,?_,?_,hsame,hmv⟩
   ·have h1:i≠id1:=λh=>hS (.inl h)
    have h2:i≠id2:=λh=>hS (.inr h)
    exact⟨by rw[qAw (Ne.symm h2),qAw (Ne.symm h1)],hpo i h1 h2⟩
   ·simp at h2;omega
   ·simp at hi;rw[hpo i (by omega) (by omega)];exact hs.heap.dead i hi
   ·intro i o b j hS ho hlt _ hat;rcases back i o b hS ho ⟨j,hat⟩with ⟨i0,o0,k1,k2,k3,k4⟩|h
    ·exact⟨i0,o0,k1,k2,k3,k4 j⟩
    ·omega
   ·intro i o b hS ho hb;exact(back i o b hS ho hb).imp (λ⟨i0,o0,k1,k2,k3,k4⟩=>⟨i0,o0,k1,k2,0,k4 0⟩) id
   ·intro i j o o' b hSi hSj hoi hoj hbi hbj;rcases hSi with rfl|rfl<;>rcases hSj with rfl|rfl
    ·rfl
    ·exfalso;rw[hg1 o hoi,hp1,hB1]at hbi;rw[hg2 o' hoj,hp2,hB2]at hbj;subst hbj;rcases hbi with h|h
     ·exact xEo h.symm
     ·rcases qAp.1 h with h|h
      ·exact zRn b2 (.inr h) (.inl rfl)
      ·exact xEm h
    ·exfalso;rw[hg2 o hoi,hp2,hB2]at hbi;rw[hg1 o' hoj,hp1,hB1]at hbj;subst hbi;rcases hbj with h|h
     ·exact xEo h.symm
     ·rcases qAp.1 h with h|h
      ·exact zRn b2 (.inr h) (.inl rfl)
      ·exact xEm h
    ·rfl
   ·refine hkeep.weaken λk j hkk=>?_
    obtain⟨i0,o0,k1,k2,k3,k4⟩:=yWd k (.inl hkk.symm);exact⟨i0,o0,k1,k2,k4 j,k3⟩
  refine⟨_,hmv,hs.re hturn λi o hS ho=>?_,?_⟩
  ·rcases hS with rfl|rfl
   ·rw[hg1 o ho,hp1];simp only[Ob.Rel];refine⟨rfl,rfl,rfl,rfl,by simp[p1,Ms],bk,cur,cs1++cs2,[],bs1++bs2,rfl,hheap,hcsz,hle,hm,rfl,?_,λh=>hnk bk h rfl,?_,rfl,by rw[vE];exact htake⟩
    ·exact List.nodup_append.2 ⟨hd1,hd2,λa ha b hb e=>zRn a (.inr ha) (.inr (by rw[e];exact hb))⟩
    ·refine(hf1.mono λb hb=>hold b (hin1 b (.inr hb)) ?_).append (hf2.mono λb hb=>hold b (hin2 b (.inr hb)) ?_)
     ·intro e;exact xEl (by rw[<- e];exact hb)
     ·intro e;exact zRn b (.inl e.symm) (.inr hb)
   ·rw[hg2 o ho,hp2];simp only[Ob.Rel];refine⟨rfl,rfl,rfl,rfl,rfl,b2,xKh,[],[],[],rfl,?_,hc2,qAm _,hm2,rfl,qCy,qCz,⟨rfl,rfl⟩,rfl,by simp[p2]⟩;rw[hold b2 (hin2 b2 (.inl rfl)) λe=>zRn b2 (.inl e.symm) (.inl rfl)];exact hh2
  ·simp only[L.Rel,hp1];refine⟨rfl,rfl,aS _,_,rfl,rfl,λ_=>?_⟩;unfold eP;simp only[p1];exact⟨by omega,0,rfl,.inl (by simp)⟩
 have toK:∀ {w':World},Keep (λk _=>k=b1) w w'->Keep (C.N β σ.h) w w':=λh=>h.weaken λk _ hk=>.inr ⟨id1,_,ho1,rfl,Ob.mP (by rw[hb1,hk])⟩
 have hcell2:∀ j u,cs2[j]?=some u->w.cell? ((⟨b2,0,none⟩:Addr).add j)=some u:=pG (by rw[<- hk2];exact(Cells.of_heap hh2).take _);have hcell1:∀ j u,cs1[j]?=some u->w.cell? ((⟨b1,0,none⟩:Addr).add j)=some u:=pG (by rw[<- hk1];exact(Cells.of_heap hh1).take _);by_cases hr:gT.length+gU.length<=(β id1).cap
 ·have hmul:(gT.length+gU.length)*4<=(β id1).cap*4:=wH _ hr;have hrun:=run_append_room (P:=C.P) w st ty e i hu hi b1 gT.length (β id1).cap yWc hh1 ⟨b2,0,none⟩ gU.length (β id2).cap cs2 (by rw[zRm,his,hsz]) hcell2 xIt hr (by rw[zRm,his,hsz];omega);rw[his,hsz]at hrun;obtain⟨β',q1,q2,q3⟩:=fin _ b1 (β id1).cap (yWc.toList.take (gT.length*4)++cs2++yWc.toList.drop (gT.length*4+cs2.length)).toArray (.inr rfl) nI Cw (setRow_heap w b1 _ _ e _ hh1) (λb _ hb=>setRow_other w b1 b _ hb)
   (by
    rw[hk1];exact qAz (by rw[xG,yNt,zRm];omega))
   (by
    simp only[qBb,xG,List.length_take,List.length_drop,qAc,zRm];omega) hr hm1
  exact⟨_,_,β',hrun,q1,q2,q3,toK nI⟩
 ·have xIp:0<gU.length:=by omega
  have hrun:=run_append_grow (P:=C.P) w st ty e i z hu hi hz ⟨b1,0,none⟩ gT.length (β id1).cap cs1 (by rw[yNt,his,hsz]) hcell1 ⟨b2,0,none⟩ gU.length (β id2).cap cs2 (by rw[zRm,his,hsz]) hcell2 (by omega) (by omega)
   (growslice_fits (by omega) (by rw[hib];exact hroom))
  have hge:=grownCap_ge w (gT.length+gU.length) (β id1).cap e;have hcm:=grownCap_le_maxLen w (gT.length+gU.length) (β id1).cap e (by simp only[maxLen];omega);have hk0:Keep (λ_ _=>False) w (w.drew.alloc (.cells (cs1.toArray++cs2.toArray++qBk z.cells (grownCap w (gT.length+gU.length) (β id1).cap e-(gT.length+gU.length))) e)):=(Aq w).trans (dX w.drew _);have xEp:=hk0.weaken (N':=λk _=>k=b1) λ_ _ h=>h.elim
  obtain⟨β',q1,q2,q3⟩:=fin _ w.heap.size (grownCap w (gT.length+gU.length) (β id1).cap e) (cs1.toArray++cs2.toArray++qBk z.cells (grownCap w (gT.length+gU.length) (β id1).cap e-(gT.length+gU.length))) (.inl ⟨rfl,by simp⟩) xEp ⟨rfl,rfl,rfl⟩ (heap_alloc_new w.drew _) (λb hb _=>hk0.block b hb λ_ h=>h)
   (by
    simp only[qBj];exact qAz (by rw[xG,yNt,zRm];omega))
   (by
    simp only[Array.size_append,qBb,size_zeroCells,hzs,yNt,zRm,his,hsz];omega) hge hcm
  exact⟨_,_,β',hrun,q1,q2,q3,toK xEp⟩
end
end Go.Dec
namespace Go.Dec
open Go.Lib
def tV(σ:St)(te:Ty):List (Nat × Operand)->List te.den->Option (List te.den)
 |[],xs=>some xs
 |(i,x)::r,xs =>
  match (ovl σ x).leaves with
  |some ls =>
   match dS te ls with
   |some (y,[])=>match Nat.blt i xs.length with
    |true=>tV σ te r (xs.set i y)
    |false=>none
   |_=>none
  |none=>none
def zNr(T:Tab)(t:TypeId):Option (TypeId × TypeId × TI):=
 match elemTy T t with
 |some (e,te,ti)=>
  if te=FrT then
   match ti.k with
   |.struct [_,_,(_,t2),_]=>match T.get t2 with
    |some s2=>match s2.k with
     |.slice ei=>some (e,ei,ti)
     |_=>none
    |none=>none
   |_=>none
  else none
 |none=>none
theorem zUo{T:Tab}{t e ei:TypeId}{ti:TI}(h:zNr T t=some (e,ei,ti)):elemTy T t=some (e,FrT,ti):=by
 unfold zNr at h;split at h
 ·rename_i e' te ti' het;split at h
  ·rename_i hte;subst hte;split at h
   ·split at h
    ·split at h
     ·simp only[aA,aC]at h;obtain⟨rfl,_,rfl⟩:=h;exact het
     ·cases h
    ·cases h
   ·cases h
  ·cases h
 ·cases h
def Jh (σ:St):List (Nat×Operand)->Bool | []=>true | p :: r=>zUm (ovl σ p.2)&&Jh σ r
theorem zUp{σ:St}:∀ {ps:List (Nat × Operand)},Jh σ ps=true->∀ p∈ps,zUm (ovl σ p.2)=true
 |_::_,h,_,.head _=>by simp only[Jh,aD]at h;exact h.1
 |_::_,h,p,.tail _ hp=>by simp only[Jh,aD]at h;exact zUp h.2 p hp
def yDb(T:Tab)(σ:St)(t:TypeId)(n:Nat)(parts:Array (Nat × Operand)):Option (Bool × V × List Ob):=
 match zNr T t with
 |some (e,ei,_)=>
  if(vF n parts.size&&qBg (n*4) 16777216)&&Jh σ parts.toList then
   match elems σ FrT 0 parts.toList with
   |some ys=>some (true,.one (.own σ.h.length 0),σ.h++[.stk e ei 0 ys none])
   |none=>none
  else none
 |none=>none
def Xr(T:Tab)(σ:St)(args:Array Operand)(ats:Array TypeId):Option (Bool × V × List Ob):=
 match args.toList,ats.toList with
 |[s,x],[t,_]=>
  match zNr T t,ovl σ s,ovl σ x with
  |some (e,_,ti),.one (.own id1 u1),.one (.own id2 u2)=>
   match σ.h[id1]?,σ.h[id2]? with
   |some (.stk e1 i1 v1 gT none),some (.stk e2 i2 v2 gU none)=>
    if e1=e/\e2=e/\i1=i2/\id1≠id2 then
     some (vF v1 u1&&(vF v2 u2&&qBg ((gT.length+gU.length)*ti.bytes) room),.one (.own id1 (v1+1)),(σ.h.set id1 (.stk e i1 (v1+1) (gT++gU) none)).set id2 (.stk e i1 (v2+1) [] none))
    else none
   |_,_=>none
  |_,_,_=>none
 |_,_=>none
def isX(T:Tab)(o:Oper):Bool :=
 match o.op with
 |.unOp .xor _ _=>true
 |.build t _=>match T.get t with
  |some ti=>match ti.k with|.arr .. => true|_=>false
  |none=>false
 |.index t _ _=>match T.get t with
  |some ti=>match ti.k with|.arr .. => true|_=>false
  |none=>false
 |.convert s d _=>match T.get s,T.get d with
  |some ts,some td=>match ts.k,td.k with
   |.slice _,.str=>true
   |.str,.slice _=>true
   |_,_=>false
  |_,_=>false
 |.field .. => true
 |.makeInterface .. => match T.get o.type with
  |some tt=>match tt.k with|.iface true=>true|_=>false
  |none=>false
 |.typeAssert .. => true
 |_=>false
def isS(T:Tab)(o:Oper):Bool :=
 match o.op with
 |.buildSlice t _ _=>(zNr T t).isSome
 |.call { callee:=.builtin .append,argTypes,.. }=>match argTypes.toList with
  |[t,t']=>vF t t'&&(zNr T t).isSome
  |_=>false
 |_=>false
def Wp(T:Tab)(σ:St)(o:Oper):Option (Bool × V × List Ob):=
 match o.op with
 |.buildSlice t n parts=>yDb T σ t n parts
 |.call { callee:=.builtin .append,args,argTypes }=>match argTypes.toList with
  |[t,t']=>match vF t t' with
   |true=>Xr T σ args argTypes
   |false=>none
  |_=>none
 |_=>none
def isIf (t:TypeId):Value->Bool | .iface u _=>vF u t | _=>false
def yNu (t:TypeId):Value->Bool | .iface _ (.string _)=>true | .iface u _=>!vF u t | .nilIface=>true | _=>false
def yDc(t:TypeId):Value->List UInt8
 |.iface u (.string s)=>if vF u t then s.data.toList else []
 |_=>[]
def yDd(k:IntKind)(t:TypeId):Value->Bool
 |.iface u (.int k' _)=>decide (k'=k)||!vF u t
 |.iface u _=>!vF u t
 |.nilIface=>true
 |_=>false
def yDe(t:TypeId):Value->Int
 |.iface u (.int _ n)=>if vF u t then n else 0
 |_=>0
def xMy(ls:List L):Option (Nat × (te:Ty) × List te.den):=
 match ls with
 |[.val (.arr n te) xs]=>some (n,⟨te,xs⟩)
 |_=>none
def bV (ys:List Int):List UInt8:=ys.map fun n=>UInt8.ofNat n.toNat
def Wq(T:Tab)(σ:St)(o:Oper):Option (Bool × V × List Ob):=
 match o.op with
 |.unOp .xor _ x=>match ovl σ x with
  |.one (.val (.int k) n)=>some (true,.one (.val (.int k) (gJ k .xor (if k.signed then -1 else k.max) n)),σ.h)
  |_=>none
 |.build t parts=>match T.get t with
  |some ti=>match ti.k with
   |.arr n e=>match T.get e,ti.zls with
    |some te,[.val (.arr m ty) xs]=>if te.size=ty.size/\m=n then
     match tV σ ty parts.toList xs with
     |some ys=>some (true,.agg [.val (.arr m ty) ys],σ.h)
     |none=>none
     else none
    |_,_=>none
   |_=>none
  |none=>none
 |.index t x i=>match T.get t,ovl σ x,qW (ovl σ i)with
  |some ti,.agg [.val (.arr m ty) xs],some (_,j)=>match ti.k with
   |.arr n e=>match T.get e with
    |some te=>if te.size=ty.size/\m=n/\te.k.isAgg=ty.isAgg then
     match ty.isAgg with
     |true=>some (inB j n,.agg (explode ty (aM ty.dflt xs j)),σ.h)
     |false=>some (inB j n,.one (.val ty (aM ty.dflt xs j)),σ.h)
     else none
    |none=>none
   |_=>none
  |_,_,_=>none
 |.convert s d x=>match T.get s,T.get d,ovl σ x with
  |some ts,some td,.one l=>match ts.k,td.k with
   |.slice e,.str=>match T.get e with
    |some te=>match te.k with
     |.int .u8=>match rowsOf σ.h (.int .u8) l with
      |some (c,ys)=>some (c,.one (.val .str (bV ys)),σ.h)
      |none=>none
     |_=>none
    |none=>none
   |.str,.slice e=>match T.get e,l with
    |some te,.val .str s=>match te.k with
     |.int .u8=>some (qBg s.length room,.one (.val (.slice (.int .u8)) (eH s)),σ.h)
     |_=>none
    |_,_=>none
   |_,_=>none
  |_,_,_=>none
 |.field s x f=>match T.get s,ovl σ x with
  |some ti,.agg ls=>match ti.k with
   |.struct fs=>match fs[f]? with
    |some (off,ft)=>match T.get ft with
     |some tf=>match Cj ls off tf.size with
      |some c=>match mkV tf.k.isAgg c with
       |some v=>some (true,v,σ.h)
       |none=>none
      |none=>none
     |none=>none
    |none=>none
   |_=>none
  |_,_=>none
 |.makeInterface t x=>match T.get t,T.get o.type,ovl σ x with
  |some ti,some tt,.one (.val .str s)=>match ti.k,tt.k with
   |.str,.iface true=>some (true,.one (.val .opq (.iface t (.string ⟨s.toArray⟩))),σ.h)
   |_,_=>none
  |some ti,some tt,.one (.val (.int k) n)=>match ti.k,tt.k with
   |.int _,.iface true=>some (true,.one (.val .opq (.iface t (.int k n))),σ.h)
   |_,_=>none
  |_,_,_=>none
 |.typeAssert x _ t true=>match T.get t,ovl σ x with
  |some ti,.one (.val .opq v)=>match ti.k,ti.zls with
   |.str,[.val .str []]=>some (yNu t v,.tup [.inl (.val .str (yDc t v)),.inl (.val .bool (isIf t v))],σ.h)
   |.int k,[.val (.int k') 0]=>if k'=k then some (yDd k t v,.tup [.inl (.val (.int k) (yDe t v)),.inl (.val .bool (isIf t v))],σ.h)else none
   |_,_=>none
  |_,_=>none
 |_=>none
def nQ(T:Tab)(σ:St)(o:Oper):Option (Bool × V × List Ob):=
 match isM o with
 |true=>stepM T σ o
 |false =>
  match isX T o with
  |true=>Wq T σ o
  |false=>match isS T o with
   |true=>Wp T σ o
   |false=>gN T σ o
theorem zQe{α:Type}{n:Nat}:∀ (css:List (List α)) (i:Nat) (c:List α),(∀ d∈css,d.length=n)->c.length=n->i<css.length->(css.set i c).flatten=css.flatten.take (i*n)++c++css.flatten.drop (i*n+n)
 |[],i,c,_,_,h=>by simp at h
 |d::css,0,c,hd,hc,_=>by
  have h1:=hd d (.head _);simp only[List.set_cons_zero,xB,qDa,qDb,qDc,yY];rw[List.drop_left' h1]
 |d::css,i+1,c,hd,hc,h=>by
  have h1:=hd d (.head _);have ih:=zQe css i c (λe he=>hd e (.tail _ he)) hc (by simpa using h);simp only[List.set_cons_succ,xB,ih];have e1:(i+1)*n=d.length+i*n:=by rw[h1,wF];omega
  rw[e1,List.take_length_add_append,Nat.add_assoc,List.drop_length_add_append];simp
section
variable {β:Nat->Pl}{w:World}{T:Tab}{C:Ctx}
theorem zIy{σ:St}{a:Act}{te:Ty}(hs:Sim C β σ a w):∀ {ps:List (Nat × Operand)}{xs ys:List te.den}{css:List (List Value)}{cs:Array Value},tV σ te ps xs=some ys ->
 bJ (λx c=>te.Rel w (C.N β σ.h) x c) xs css->cs.toList=css.flatten ->
 ∃ (Yf:List (List Value)) (cs':Array Value),Instr.fill (λi=>some (i*te.size,te.size)) cs (ps.map λp=>(p.1,a.eval p.2))=some cs'/\cs'.toList=Yf.flatten/\bJ (λx c=>te.Rel w (C.N β σ.h) x c) ys Yf/\ys.length=xs.length
 |[],xs,ys,css,cs,h,hr,hc=>by
  simp only[tV,aA]at h;subst h;exact⟨css,cs,rfl,hc,hr,rfl⟩
 |(i,x)::ps,xs,ys,css,cs,h,hr,hc=>by
  simp only[tV]at h;split at h
  ·rename_i ls hls;split at h
   ·rename_i y hy;split at h
    ·rename_i hi;have hi:i<xs.length:=bX hi;have hx:=pI hy (V.Mv hls (bE hs x));have hl:=jO hr;have hcl:css.length=xs.length:=hr.length.symm;have hlen:(a.eval x).cells.size=te.size:=by simpa using hx.length
     have hfl:cs.size=css.length*te.size:=by
      have:cs.toList.length=css.flatten.length:=by rw[hc]
      rw[cZ css hl]at this;simpa using this
     have hfit:i*te.size+te.size<=cs.size:=by
      rw[hfl,<- wF];exact wH _ (by omega)
     have hset:=zQe css i (a.eval x).cells.toList hl (by simpa using hlen) (by omega);obtain⟨Yf,cs',h1,h2,h3,h4⟩:=zIy hs (css:=css.set i (a.eval x).cells.toList) (cs:=(cs.toList.take (i*te.size)++(a.eval x).cells.toList++cs.toList.drop (i*te.size+te.size)).toArray) h (hr.set i hx) (by rw[hset,hc]);refine⟨Yf,cs',?_,h2,h3,by rw[h4,List.length_set]⟩;rw[List.map_cons,zKk _ cs i (i*te.size) te.size _ _ rfl hlen hfit];exact h1
    ·cases h
   ·cases h
  ·cases h
theorem zXw{N:Nat->Nat->Prop}:∀ {ys:List Int}{css:List (List Value)},bJ (λx c=>(Ty.int .u8).Rel w N x c) ys css->css.flatten=ys.map (Value.int .u8)
 |[],[],_=>rfl
 |y::ys,c::css,h=>by
  obtain⟨h1,h2⟩:=h;simp only[Ty.Rel]at h1;subst h1;simp[zXw h2]
 |[],_::_,h=>h.elim
 |_::_,[],h=>h.elim
theorem yWe{P:Program}{N:Nat->Nat->Prop}{t:TypeId}{ti:TI}(h:rM P t ti){off:Nat}{c:List L}{cs:List Value}{v:V}(hl:aJ β w N c ((cs.drop off).take ti.size))(hs:off+ti.size<=cs.length)(hv:mkV ti.k.isAgg c=some v):∃ x,(part t cs.toArray off).run P w=.ok x w/\v.Rel β w N x:=by
 cases ha:ti.k.isAgg with
 |true =>
  rw[ha]at hv;simp only[mkV,aA]at hv;subst hv;refine⟨.agg (cs.toArray.extract off (off+ti.size)),?_,⟨(cs.drop off).take ti.size,?_,hl⟩⟩
  ·simp only[part,jJ,h.isAgg,kQ,ha,if_true,h.sizeOf,jI]
  ·congr 1;apply qBh.1;simp only[qDd,qDe];rw[show off+ti.size-off=ti.size by omega]
 |false =>
  rw[ha]at hv;match c,hv with
  |[l],hv =>
   simp only[mkV,aA]at hv;subst hv;have hone:ti.size=1:=by
    obtain⟨i,z,_,hsz,_,_,_,hz,hag⟩:=h.i;rw[ha]at hag;rw[<- hsz,<- hz];cases z<;>first|rfl|simp[Sr]at hag
   rw[hone]at hl hs;obtain⟨c1,c2,e,h1,h2⟩:=hl;simp only[aJ]at h2;subst h2;rw[vE]at e;have hlt:off<cs.length:=by omega
   have e2:(cs.drop off).take 1=[cs[off]]:=by rw[qDf hlt];rfl
   rw[e2]at e;subst e;refine⟨cs[off],?_,h1⟩;simp only[part,jJ,h.isAgg,kQ,ha,qBs,if_false,qDg,wW hlt,jI]
theorem ySn{σ:St}{a:Act}{o:Oper}{v:V}{h':List Ob}(hT:bU C.P T)(hs:Sim C β σ a w)(h:Wq T σ o=some (true,v,h')):After C β σ a w o v h':=by
 unfold Wq at h;split at h
 ·rename_i _ x ho;have hx:=bE hs x;split at h
  ·rename_i k n hov;rw[hov]at hx;simp only[aA,aC,true_and]at h;obtain⟨rfl,rfl⟩:=h;simp only[V.Rel,L.Rel,Ty.Rel,aL,and_true]at hx;refine After.read hs ⟨.int k (gJ k .xor (if k.signed then -1 else k.max) n),?_,by simp only[V.Rel,L.Rel,Ty.Rel]⟩;simp only[execOp,ho];refine fJ ?_;rw[hx];simp only[Op.unary,Op.intBits,gJ,jI]
  ·cases h
 ·rename_i t parts ho;split at h
  ·rename_i ti hti;split at h
   ·rename_i n e hk;split at h
    ·rename_i tie m ty xs hte hz;split at h
     ·rename_i hc;obtain⟨hsz,rfl⟩:=hc;split at h
      ·rename_i ys hys;simp only[aA,aC,true_and]at h;obtain⟨rfl,rfl⟩:=h;have hok:=hT _ _ hti;have hu:=hok.arr hk;obtain⟨_,z,hi,his,hib,hzz,tT,hzs,yNo⟩:=hok.i;have hz0:=tT β w (C.N β σ.h);rw[hz]at hz0;obtain⟨c1,c2,ec,hr,h0⟩:=hz0;simp only[aJ]at h0;subst h0;rw[vE]at ec;simp only[L.Rel,Ty.Rel]at hr;obtain⟨hxl,css,ec1,hall⟩:=hr;obtain⟨Yf,cs',h1,h2,h3,h4⟩:=zIy hs (cs:=z.cells) hys hall (by rw[ec,ec1]);refine After.read hs ⟨.agg cs',?_,?_⟩
       ·have hzv:(zeroValue t).run C.P w=.ok z w:=by simp[zeroValue,typeInfo,hi,hzz]
        simp only[execOp,ho];refine fJ ?_;simp only[Instr.build,jJ,hzv,kQ,run_underlying hu,(hT _ _ hte).sizeOf,hsz,qBp];rw[h1];rfl
       ·exact⟨cs'.toList,rfl,aJ.xCb (by simp only[L.Rel,Ty.Rel];exact⟨by rw[h4,hxl],Yf,h2,h3⟩)⟩
      ·cases h
     ·cases h
    ·cases h
   ·cases h
  ·cases h
 ·rename_i t x i ho;split at h
  ·rename_i ti m ty xs k j hti hx hi;split at h
   ·rename_i n e hk;split at h
    ·rename_i te hte;split at h
     ·rename_i hc;obtain⟨hsz,rfl,hagg⟩:=hc;have hok:=hT _ _ hti;have hu:=hok.arr hk;have hxr:=bE hs x;rw[hx]at hxr;obtain⟨cs,ex,c1,c2,ec,hr,h0⟩:=hxr;simp only[aJ]at h0;subst h0;rw[vE]at ec;subst ec;simp only[L.Rel,Ty.Rel]at hr;obtain⟨hxl,css,ec1,hall⟩:=hr;have hl:=jO hall;have iv:=iO hi (bE hs i);have key:inB j m=true->∃ (h2:j.toNat<xs.length) (h3:j.toNat<css.length),ty.Rel w (C.N β σ.h) (aM ty.dflt xs j) css[j.toNat]/\(cs.drop (j.toNat*ty.size)).take ty.size=css[j.toNat]/\0<=j/\j<(m:Int)/\j.toNat*ty.size+ty.size<=cs.length:=by
       intro hb;obtain⟨g0,g1,g2⟩:=Et hb;have h2:j.toNat<xs.length:=by omega
       have h3:j.toNat<css.length:=by rw[<- hall.length];exact h2
       refine⟨h2,h3,?_,?_,g0,g1,?_⟩
       ·have:=hall.get j.toNat h2 h3;simpa [aM,wG,h2]using this
       ·rw[ec1,pF css hl,qDf h3,xB,qAz (hl _ (List.getElem_mem h3))]
       ·rw[ec1,cZ css hl,<- wF];exact wH _ (by omega)
      obtain⟨ie,ze,hie,xNf,xNg,xNh,xMz,xNi,xNj⟩:=(hT _ _ hte).i;have ySo:(isAgg e).run C.P w=.ok te.k.isAgg w:=by
       obtain⟨d,hd,hdk⟩:=(hT _ _ hte).und;simp only[isAgg,jJ,run_underlying hd,kQ,<- hdk];cases d<;>rfl
      split at h
      ·rename_i hag;simp only[aA,aC]at h;obtain⟨hb,rfl,rfl⟩:=h;obtain⟨h2,h3,hrel,hcut,g0,g1,g2⟩:=key hb;refine After.read hs ⟨.agg (cs.toArray.extract (j.toNat*ty.size) (j.toNat*ty.size+ty.size)),?_,?_⟩
       ·simp only[execOp,ho];refine fJ ?_;rw[iv,ex];simp only[Instr.index,asIntOf,jJ,jI,kQ,run_underlying hu,g0,g1,and_self,if_true,(hT _ _ hte).sizeOf,part,ySo,hagg,hag,hsz]
       ·refine⟨css[j.toNat],?_,lJ hrel⟩;congr 1;apply qBh.1;simp only[qDd,qDe];rw[show j.toNat*ty.size+ty.size-j.toNat*ty.size=ty.size by omega,hcut]
      ·rename_i hag;simp only[aA,aC]at h;obtain⟨hb,rfl,rfl⟩:=h;obtain⟨h2,h3,hrel,hcut,g0,g1,g2⟩:=key hb;have hone:ty.size=1:=by cases ty<;>first|rfl|cases hag
       have hcl:css[j.toNat].length=1:=by rw[hrel.length,hone]
       obtain⟨u,hu1⟩:∃ u,css[j.toNat]=[u]:=List.length_eq_one_iff.1 hcl;rw[hu1,hone,qBq]at hcut;have hget:cs[j.toNat]?=some u:=by
        have:(cs.drop j.toNat).take 1=[u]:=hcut;have h5:((cs.drop j.toNat).take 1)[0]?=some u:=by rw[this];rfl
        rw[List.getElem?_take,if_pos (by omega),List.getElem?_drop]at h5;simpa using h5
       rw[hu1]at hrel;refine After.read hs ⟨u,?_,by simp only[V.Rel,L.Rel];exact hrel⟩;simp only[execOp,ho];refine fJ ?_;rw[iv,ex];simp only[Instr.index,asIntOf,jJ,jI,kQ,run_underlying hu,g0,g1,and_self,if_true,(hT _ _ hte).sizeOf,part,ySo,hagg,hag,hsz,hone,qBq,qBs,if_false,qDg,hget]
     ·cases h
    ·cases h
   ·cases h
  ·cases h
 ·rename_i s d x ho;split at h
  ·rename_i ts td l hts htd hl;have hx:=bE hs x;rw[hl]at hx;split at h
   ·rename_i e hks hkd;split at h
    ·rename_i te hte;split at h
     ·rename_i hke;split at h
      ·rename_i c ys hys;simp only[aA,aC]at h;obtain⟨rfl,rfl,rfl⟩:=h;have hy:=Gw hs.heap hys (show l.Rel β w (C.N β σ.h) [a.eval x]from hx);have hus:=(hT _ _ hts).slice hks;have hue:=(hT _ _ hte).int hke;have hud:=(hT _ _ htd).str hkd;refine After.read hs ⟨.string ⟨(bV ys).toArray⟩,?_,by simp only[V.Rel,L.Rel,Ty.Rel]⟩;simp only[execOp,ho];refine fJ ?_;have fin:∀ b off cap,a.eval x=.slice (some ⟨b,off,none⟩) ys.length cap->(∀ j u,(ys.map (Value.int .u8))[j]?=some u->w.cell? ⟨b,off+j,none⟩=some u)->(convert s d (a.eval x)).run C.P w=.ok (.string ⟨(bV ys).toArray⟩) w:=by
        intro b off cap hv hcells;rw[hv,run_convert_bytes_arg (P:=C.P) w s e hus hue b off ys.length cap ys rfl (λi hi=>hcells i _ (by simp[wG,hi])) d hud];simp[strOfNums,bV]
       rcases hy with ⟨hv,rfl⟩|⟨b,off,cap,css,hv,_,hall,hcs⟩|⟨a0,cap,hv,rfl⟩
       ·rw[hv,run_convert_bytes_nil (P:=C.P) w s e hus hue 0 0 d hud];rfl
       ·exact fin b off cap hv (by rw[<- zXw hall];exact hcs)
       ·obtain⟨b,off,wk⟩:=a0;rw[hv,run_convert_bytes_string w s d e _ 0 cap hus hue hud];simp[Conv.bytesToString,loadCells,loadCellsFrom,bV];rfl
      ·cases h
     ·cases h
    ·cases h
   ·rename_i e hks hkd;split at h
    ·rename_i te s0 hte;split at h
     ·rename_i hke;simp only[aA,aC]at h;obtain⟨hroom,rfl,rfl⟩:=h;have hus:=(hT _ _ hts).str hks;have hue:=(hT _ _ hte).int hke;have hud:=(hT _ _ htd).slice hkd;simp only[V.Rel,L.Rel,Ty.Rel,aL,and_true]at hx;have hroom:=bX hroom;unfold room at hroom
      let bs:ByteArray:=⟨s0.toArray⟩
      have hbs:bs.size=s0.length:=by simp[bs,ByteArray.size]
      have hge:=grownCap_ge w bs.size 0 e;have hcm:=grownCap_le_maxLen w bs.size 0 e (by simp only[maxLen];omega);have hkk:Keep (λ_ _=>False) w (bytesWorld w e bs):=Keep.mZ (M:=λ_=>False) (by rw[bytesWorld_size];omega) (λb hb _=>bytesWorld_at_old w e bs b hb) (λ_ _ h=>h);have hrun:(convert s d (a.eval x)).run C.P w=.ok (.slice (some ⟨w.heap.size,0,none⟩) bs.size (grownCap w bs.size 0 e)) (bytesWorld w e bs):=by
       rw[hx];exact Go.Lib.run_convert_string_bytes w s d e bs hus hud hue
      have hN:∀ b j,C.N β σ.h b j->b<w.heap.size:=λb j hb=>by
       rcases hb with hb|⟨id,o,ho,_,hbk⟩
       ·exact wD (hs.heap.n0 b j hb) hs.heap.size
       ·exact(hs.heap.eZ id o b ho ⟨j,hbk⟩).2.1
      have hfr:∀ (id:Nat) (o:Ob) (b:Nat),σ.h[id]?=some o->o.blks (β id) b->(bytesWorld w e bs).heap[b]?=w.heap[b]?:=λid o b ho hb=>hkk.block b (hs.heap.eZ id o b ho hb).2.1 (λ_ h=>h)
      refine⟨β,bytesWorld w e bs,_,.slice (some ⟨w.heap.size,0,none⟩) bs.size (grownCap w bs.size 0 e),?_,.inl rfl,Moves.refl β,hkk.weaken λ_ _ h=>h.elim,?_,?_⟩
      ·simp only[execOp,ho,jJ,hrun,kQ,jI]
      ·refine⟨⟨λid o ho=>(hs.heap.obj id o ho).mono (Moves.refl β) (hkk.weaken λ_ _ h=>h.elim) (λ_ _ _ h=>h) λb hb=>hfr id o b ho hb,hs.heap.dead,hs.heap.kX,λid o b ho hb=>?_,hs.heap.n0,hs.heap.frame.uJ hkk λ_ _ _ h=>h.elim,zG hs.heap.size hkk.size,?_,?_,?_,hs.heap.fixed⟩,hs.defers,hs.size,λi u hu=>(hs.reg i u hu).mono (Moves.refl β) (hkk.weaken λ_ _ h=>h.elim) λ_ _ _ h=>h⟩
       ·obtain⟨k1,k2,k3⟩:=hs.heap.eZ id o b ho hb;exact⟨k1,wD k2 hkk.size,k3⟩
       ·exact(show(bytesWorld w e bs).os=w.os from rfl).trans hs.heap.os
       ·exact(show(bytesWorld w e bs).tape=w.tape from rfl).trans hs.heap.tape
       ·exact(show(bytesWorld w e bs).output=w.output from rfl).trans hs.heap.output
      ·simp only[V.Rel,L.Rel,Ty.Rel];have hsl:(eH s0).length=bs.size:=by simp[eH,hbs]
       refine⟨_,rfl,.inr (.inl ⟨w.heap.size,0,grownCap w bs.size 0 e,(eH s0).map λn=>[Value.int .u8 n],by rw[hsl],by rw[bytesWorld_size];omega,λj _ _ hn=>?_,by rw[hsl];exact hge,hcm,?_,?_,?_⟩)⟩
       ·have:=hN _ _ hn;omega
       ·exact yEh (λn=>by simp only) _
       ·intro c hc;obtain⟨n,_,rfl⟩:=qBw.1 hc;rfl
       ·intro j u hj;rw[yY];have hj2:j<s0.length:=by
         have:((eH s0).map λn=>[Value.int .u8 n]).flatten.length=s0.length:=by rw[cZ (n:=1) _ (λc hc=>by obtain⟨n,_,rfl⟩:=qBw.1 hc;rfl)];simp[eH]
         rw[<- this];exact(bK.1 hj).1
        have e1:((eH s0).map λn=>[Value.int .u8 n]).flatten=(eH s0).map (Value.int .u8):=by
         generalize eH s0=l;induction l with
         |nil=>rfl
         |cons a l ih=>simp[ih]
        rw[e1]at hj;rw[bytesWorld_cell w e bs j (by rw[hbs];exact hj2)];simp only[eH,qDh,qBx,wW hj2,kU,aA,Function.comp]at hj;simp[bs,wG,hj2,<- hj]
     ·cases h
    ·cases h
   ·cases h
  ·cases h
 ·rename_i s x f ho;have hx:=bE hs x;split at h
  ·rename_i ti ls hti hl;rw[hl]at hx;split at h
   ·rename_i fs hk;split at h
    ·rename_i off ft hf;split at h
     ·rename_i tf htf;split at h
      ·rename_i c hc;split at h
       ·rename_i v0 hv;simp only[aA,aC,true_and]at h;obtain⟨rfl,rfl⟩:=h;obtain⟨cs,ex,hls⟩:=hx;obtain⟨hr,hle⟩:=xR hc hls;have hok:=hT _ _ hti;have hok2:=hT _ _ htf;obtain⟨ff,hu,hfs⟩:=hok.struct hk;subst hfs;rw[qBx]at hf;cases hfe:ff.toList[f]? with
        |none=>rw[hfe]at hf;cases hf
        |some fe =>
         rw[hfe]at hf;simp only[kU,aA,aC]at hf;obtain⟨rfl,rfl⟩:=hf;have xKi:ff[f]?=some fe:=by rw[<- qCj];exact hfe
         obtain⟨u,h1,h2⟩:=yWe (P:=C.P) hok2 (off:=fe.offset) hr hle hv;refine After.read hs ⟨u,?_,h2⟩;simp only[execOp,ho];refine fJ ?_;rw[ex];simp only[Instr.field,jJ,run_underlying hu,kQ,xKi,asAgg,jI];exact h1
       ·cases h
      ·cases h
     ·cases h
    ·cases h
   ·cases h
  ·cases h
 ·rename_i t x ho;have hx:=bE hs x;split at h
  ·rename_i ti tt s hti htt hl;rw[hl]at hx;split at h
   ·rename_i hk hk2;simp only[aA,aC,true_and]at h;obtain⟨rfl,rfl⟩:=h;have hu:=(hT _ _ hti).str hk;simp only[V.Rel,L.Rel,Ty.Rel,aL,and_true]at hx;refine After.read hs ⟨.iface t (.string ⟨s.toArray⟩),?_,by simp[V.Rel,L.Rel,Ty.Rel,Value.oneCell']⟩;simp only[execOp,ho];refine fJ ?_;rw[hx];simp only[Instr.makeInterface,jJ,run_underlying hu,kQ,jI]
   ·cases h
  ·rename_i ti tt k n hti htt hl;rw[hl]at hx;split at h
   ·rename_i k2 hk hk2;simp only[aA,aC,true_and]at h;obtain⟨rfl,rfl⟩:=h;have hu:=(hT _ _ hti).int hk;simp only[V.Rel,L.Rel,Ty.Rel,aL,and_true]at hx;refine After.read hs ⟨.iface t (.int k n),?_,by simp[V.Rel,L.Rel,Ty.Rel,Value.oneCell']⟩;simp only[execOp,ho];refine fJ ?_;rw[hx];simp only[Instr.makeInterface,jJ,run_underlying hu,kQ,jI]
   ·cases h
  ·cases h
 ·rename_i x xt t ho;have hx:=bE hs x;split at h
  ·rename_i ti v0 hti hl;rw[hl]at hx;simp only[V.Rel,L.Rel,Ty.Rel,aL,and_true]at hx;obtain⟨_,z,hi,his,hib,hzz,tT,hzs,yNo⟩:=(hT _ _ hti).i;have hzv:(zeroValue t).run C.P w=.ok z w:=by simp[zeroValue,typeInfo,hi,hzz]
   have hz0:=tT β w (C.N β σ.h);have hzc:Sr z=false->∀ c,z.cells.toList=[c]->z=c:=λhz c hc=>by
    cases z<;>simp_all[Sr,Value.cells]
   split at h
   ·rename_i hk hz;simp only[aA,aC]at h;obtain⟨hok,rfl,rfl⟩:=h;have hu:=(hT _ _ hti).str hk;rw[hz]at hz0;obtain⟨c1,c2,ec,hr,h0⟩:=hz0;simp only[aJ]at h0;subst h0;simp only[L.Rel,Ty.Rel]at hr;subst hr;obtain rfl:=hzc (by rw[<- yNo,hk];rfl) _ (by simpa using ec);refine After.read hs ⟨.tuple #[.string ⟨(yDc t v0).toArray⟩,.bool (isIf t v0)],?_,⟨[_,_],rfl,by simp only[jM,L.Rel,Ty.Rel],by simp only[jM,L.Rel,Ty.Rel],trivial⟩⟩;simp only[execOp,ho];refine fJ ?_;rw[hx.1];simp only[Instr.typeAssert,jJ,run_underlying hu,kQ];cases v0 with
    |nilIface=>simp only[if_true,jJ,hzv,kQ,jI];try rfl
    |iface u p =>
     simp only;by_cases hut:u=t
     ·subst hut;rw[if_pos rfl];cases p<;>first|(simp[yNu]at hok;done)|skip
      simp only[if_true,jI,yDc,isIf,qDi];try rfl
     ·rw[if_neg hut];have hb:vF u t=false:=by
       cases h:vF u t with
       |false=>rfl
       |true=>exact absurd (aP h) hut
      simp only[if_true,jJ,hzv,kQ,jI,isIf,hb];cases p<;>simp[yDc,hb]
    |_=>simp[yNu]at hok
   ·rename_i k k' hk hz;split at h
    ·rename_i hkk;subst hkk;simp only[aA,aC]at h;obtain⟨hok,rfl,rfl⟩:=h;have hu:=(hT _ _ hti).int hk;rw[hz]at hz0;obtain⟨c1,c2,ec,hr,h0⟩:=hz0;simp only[aJ]at h0;subst h0;simp only[L.Rel,Ty.Rel]at hr;subst hr;obtain rfl:=hzc (by rw[<- yNo,hk];rfl) _ (by simpa using ec);refine After.read hs ⟨.tuple #[.int k' (yDe t v0),.bool (isIf t v0)],?_,⟨[_,_],rfl,by simp only[jM,L.Rel,Ty.Rel],by simp only[jM,L.Rel,Ty.Rel],trivial⟩⟩;simp only[execOp,ho];refine fJ ?_;rw[hx.1];simp only[Instr.typeAssert,jJ,run_underlying hu,kQ];cases v0 with
     |nilIface=>simp only[if_true,jJ,hzv,kQ,jI];try rfl
     |iface u p =>
      simp only;by_cases hut:u=t
      ·subst hut;rw[if_pos rfl];cases p<;>first|(simp[yDd]at hok;done)|skip
       simp[yDd]at hok;subst hok;simp only[if_true,jI,yDe,isIf,qDi]
      ·rw[if_neg hut];have hb:vF u t=false:=by
        cases h:vF u t with
        |false=>rfl
        |true=>exact absurd (aP h) hut
       simp only[if_true,jJ,hzv,kQ,jI,isIf,hb];cases p<;>simp[yDe,hb]
     |_=>simp[yDd]at hok
    ·cases h
   ·cases h
  ·cases h
 ·cases h
where
 aJ.xCb {l:L}{cs:List Value}{N:Nat->Nat->Prop}(h:l.Rel β w N cs):aJ β w N [l] cs:=⟨cs,[],by simp,h,rfl⟩
 yEh {γ δ:Type}{R:γ->δ->Prop}{f:γ->δ}(h:∀ x,R x (f x)):∀ l:List γ,bJ R l (l.map f)
  |[]=>trivial
  |a::l=>⟨h a,yEh h l⟩
theorem ySp{σ:St}{a:Act}{o:Oper}{v:V}{h':List Ob}(hT:bU C.P T)(hs:Sim C β σ a w)(h:Wp T σ o=some (true,v,h')):After C β σ a w o v h':=by
 unfold Wp at h;split at h
 ·rename_i t n parts ho;unfold yDb at h;split at h
  ·rename_i e ei ti hst;have het:=zUo hst;obtain⟨ts,hts,hk,hti,zXt,hsz,hpos,hby⟩:=kC het;split at h
   ·rename_i hc;simp only[aD]at hc;have hn:=aP hc.1.1;have hle:=bX hc.1.2;have hnil:=zUp hc.2;split at h
    ·rename_i ys hys;simp only[aA,aC,true_and]at h;obtain⟨rfl,rfl⟩:=h;obtain⟨css,h1,h2,h3⟩:=zBr hs hys;obtain⟨i,z,hi,his,hib,hz,tT,hzs,_⟩:=(hT _ _ hti).i;have hlc:=jO h1;have hps:∀ p∈parts.toList.map (λp=>(p.1,a.eval p.2)),p.2.cells.size=4:=λp hp=>by
      obtain⟨q,hq,rfl⟩:=qBw.1 hp;have:=hlc (a.eval q.2).cells.toList (by rw[h2];exact qBw.2 ⟨q,hq,rfl⟩);have e4:FrT.size=4:=rfl;rw[e4]at this;simpa using this
     have Na:ys.length=parts.size:=by rw[h1.length,h2];simp
     obtain⟨cs',hf1,hf2⟩:=zGk 4 (parts.toList.map λp=>(p.1,a.eval p.2)) 0 ((qCf (n*4)).map (z.cells[· % z.cells.size]!)) (λj p hp=>by
      simp only[qBx,Option.map_eq_some_iff]at hp;obtain⟨q,hq,rfl⟩:=hp;have:=h3 j q hq;omega) hps (by simp[hn])
     simp only[qDa,qDb,qDc,qDh]at hf2;subst h2;have hfr:=zUn (ei:=ei) (a:=a.eval) (f:=ovl σ) hnil (λp _=>bE hs p.2) h1;obtain⟨β',g1,g2,g3⟩:=xEk (e:=e) (cs:=cs') hs (by rw[hf2];exact hfr) (by
      rw[Na,<- hn];simp only[maxLen];omega)
     refine⟨β',_,_,.slice (some ⟨w.heap.size,0,none⟩) ys.length ys.length,?_,.inl rfl,g1,(dX w _).weaken λ_ _ h=>h.elim,g2,g3⟩;have hu:=(hT _ _ hts).slice hk;have hzv:(zeroValue e).run C.P w=.ok z w:=by simp[zeroValue,typeInfo,hi,hz]
     have hsz:ti.size=4:=hsz;have yEb:¬ (n*4>2 ^ 24):=by omega
     simp only[execOp,ho,Instr.buildSlice,jJ,run_underlying hu,kQ,(hT _ _ hti).sizeOf,hsz,yEb,if_false,jI];by_cases h0:n*4=0
     ·have hn0:n=0:=by omega
      have hpe:parts=#[]:=qBz (by omega);subst hpe;subst hn0;have yEc:ys=[]:=List.eq_nil_of_length_eq_zero (by simpa using Na);subst yEc;have yEd:cs'=#[]:=by simpa using hf2
      subst yEd;simp[Instr.fill,newRow,show qCf 0=#[]from rfl];try rfl
     ·simp only[h0,if_false,jJ,hzv,kQ,jI];rw[qBp,hf1];simp only[jJ,newRow,run_newObj,kQ,jI,Na,hn];rfl
    ·cases h
   ·cases h
  ·cases h
 ·rename_i args ats ho;split at h
  ·rename_i t t' hat;split at h
   ·rename_i hb;have hb:=aP hb;subst hb;unfold Xr at h;split at h
    ·rename_i s x t0 t1 xKj hat';rw[hat]at hat';simp only[aL,and_true]at hat';obtain⟨rfl,rfl⟩:=hat';split at h
     ·rename_i e ei ti id1 u1 id2 u2 hst xKk xKl;have het:=zUo hst;obtain⟨ts,hts,hk,hti,zXt,hsz,hpos,hby⟩:=kC het;split at h
      ·rename_i e1 i1 v1 gT e2 i2 v2 gU ho1 ho2;split at h
       ·rename_i hc;obtain⟨rfl,rfl,rfl,hne⟩:=hc;simp only[aA,aC,aD]at h;obtain⟨⟨hv1,hv2,hroom⟩,rfl,rfl⟩:=h;have hv1:=aP hv1;have hv2:=aP hv2;subst hv1 hv2;have hx:=bE hs s;have hy:=bE hs x;rw[xKk]at hx;rw[xKl]at hy;simp only[V.Rel,L.Rel]at hx hy;obtain⟨_,_,_,c1,hc1,_,k1⟩:=hx;obtain⟨_,_,_,c2,hc2,_,k2⟩:=hy;simp only[aL,and_true]at hc1 hc2;subst hc1 hc2;have Yi:=hs.heap.obj _ _ ho1;have Yj:=hs.heap.obj _ _ ho2;simp only[Ob.Rel]at Yi Yj;obtain⟨v',w',β',h1,h2,h3,h4,h5⟩:=yJq o.type hT hts hk hti hsz hby (bX hroom) hs hne ho1 ho2 (k1 Yi.2.2.1) (k2 Yj.2.2.1);have hargs:args=#[s,x]:=by apply qBh.1;simpa using xKj
        have zGo:ats=#[t,t]:=by apply qBh.1;simpa using hat
        subst hargs zGo;refine⟨β',w',_,v',yM (x:=v') ho ?_,.inl rfl,h2,h5,h3,h4⟩;simp only[builtin,jJ];have h1':(qBd #[t,t] o.type (Array.map a.eval #[s,x])).run C.P w=.ok v' w':=by simpa using h1
        rw[h1'];rfl
       ·cases h
      ·cases h
     ·cases h
    ·cases h
   ·cases h
  ·cases h
 ·cases h
theorem ySq{σ:St}{a:Act}{o:Oper}{v:V}{h':List Ob}(hT:bU C.P T)(hs:Sim C β σ a w)(h:nQ T σ o=some (true,v,h')):After C β σ a w o v h':=by
 unfold nQ at h;split at h
 ·exact ySl hT hs h
 ·split at h
  ·exact ySn hT hs h
  ·split at h
   ·exact ySp hT hs h
   ·exact yNq hT hs h
end
end Go.Dec
namespace Go.Dec
def chk{ρ:Type}(b:Bool)(r:Option ρ):Option ρ:=match b with|true=>r|false=>none
def br{ρ:Type}(b:Bool)(x y:Option ρ):Option ρ:=match b with|true=>x|false=>y
def ob{α ρ:Type}(o:Option α)(k:α->Option ρ):Option ρ:=match o with|some x=>k x|none=>none
theorem iP{ρ:Type}{b:Bool}{x:Option ρ}{r:ρ}(h:chk b x=some r):b=true/\x=some r:=by
 cases b
 ·cases h
 ·exact⟨rfl,h⟩
theorem Xt{ρ:Type}{b:Bool}{x y:Option ρ}{r:ρ}(h:br b x y=some r):(b=true/\x=some r)\/(b=false/\y=some r):=by
 cases b
 ·exact .inr ⟨rfl,h⟩
 ·exact .inl ⟨rfl,h⟩
theorem zNs{α ρ:Type}{o:Option α}{k:α->Option ρ}{r:ρ}(h:ob o k=some r):∃ x,o=some x/\k x=some r:=by
 cases o
 ·cases h
 ·exact⟨_,rfl,h⟩
inductive Out where
 |ret (v:V)
 |pan (t:TypeId) (v:V)
inductive Ex where
 |normal|exit (id:Nat)|goto (l:Nat)|ret|pan (t:TypeId) (v:V)
def xEq (β:Nat->Pl) (w:World) (N:Nat->Nat->Prop):Out->Ending->Prop | .ret v,e => ∃ x,e = .returned x ∧ v.Rel β w N x | .pan t v,e => ∃ x,e = .panicked [{ v := .iface t x,recovered:=false }] ∧ v.Rel β w N x
def Nc (β:Nat->Pl) (w:World) (N:Nat->Nat->Prop):Ex->Exit->Prop | .normal,x=>x = .normal | .exit i,x=>x = .exit i | .goto l,x=>x = .goto l | .ret,x=>x = .ret | .pan t v,x => ∃ y,x = .panic [{ v := .iface t y,recovered:=false }] ∧ v.Rel β w N y
def rO (β:Nat->Pl) (w:World) (N:Nat->Nat->Prop) (vs:List V) (xs:List Value):Prop:=bJ (fun v x=>V.Rel β w N v x) vs xs
def Ed(P:Program)(f:FuncId)(vs:List V)(h:List Ob)(R:Out->List Ob->Prop):Prop :=
 ∀ (C:Ctx) (β:Nat->Pl) (w:World) (xs:List Value),C.P=P->fC C β h w->rO β w (C.N β h) vs xs ->
  Calls P f xs.toArray w λe w'=>∃ out h' β',R out h'/\Moves β β'/\Keep (C.N β h) w w'/\(∀ b j,b<w.heap.size->C.N β' h' b j->C.N β h b j)/\fC C β' h' w'/\xEq β' w' (C.N β' h') out e
theorem Ed.mono{P:Program}{f:FuncId}{vs:List V}{h:List Ob}{R R':Out->List Ob->Prop}(hc:Ed P f vs h R)(hR:∀ o k,R o k->R' o k):Ed P f vs h R':=by
 intro C β w xs hP hs ha;refine(hc C β w xs hP hs ha).mono ?_;rintro e w' ⟨out,h',β',k1,k2⟩;exact⟨out,h',β',hR _ _ k1,k2⟩
def xCc(P:Program)(f:FuncId)(vs:List V)(h:List Ob)(out:Out)(h':List Ob):Prop:=Ed P f vs h λo k=>o=out/\k=h'
def iK (P:Program) (f:FuncId):Bool :=
 match P.funcs[f]? with
 |some fn=>fn.body.isSome&&!(fn.name == "runtime.NumGoroutine")
 |none=>false
def dF {α:Type} (f:α->Bool):List α->Bool | []=>true | x :: r=>f x&&dF f r
def L.isD:L->Bool | .val .. | .jC | .aZ | .rJ ..=>true | .clo _ []=>true | _=>false
def yWf:Sum L (List L)->Bool | .inl l=>l.isD | .inr ls=>dF L.isD ls
def V.isD:V->Bool | .one l=>l.isD | .agg ls=>dF L.isD ls | .tup vs=>dF yWf vs | .cK=>false
structure PE where
 R:Type
 use:Nat
 run:List V->List Ob->Option (Bool × Option R)
 enc:R->List V->List Ob->V × List Ob
structure PE.OK (P:Program) (f:FuncId) (e:PE):Prop where
 body:iK P f=true
 rel:∀ vs h y,e.run vs h=some (true,some y)->xCc P f vs h (.ret (e.enc y vs h).1) (e.enc y vs h).2
 dry:qBg e.use 1=true->∀ vs h h2,dF V.isD vs=true->e.run vs h=e.run vs h2/\∀ y,(e.enc y vs h).1=(e.enc y vs h2).1
 same:qBg e.use 1=true->∀ y vs h,(e.enc y vs h).2=h
 row:e.use=3->∀ vs h h2,dF V.isD vs=true->h2.length=h.length->e.run vs h=e.run vs h2/\∀ y,(e.enc y vs h).1=(e.enc y vs h2).1/\∃ os,(e.enc y vs h).2=h++os/\(e.enc y vs h2).2=h2++os
def pos(i:Nat):List Nat->Nat->Option Nat
 |[],_=>none
 |a::r,n=>match vF a i with
  |true=>some n
  |false=>pos i r (n+1)
mutual
def L.ids:L->List Nat | .ptr id _=>[id] | .fD id _=>[id] | .sK id _ _ _ _=>[id] | .jD id _ _ _=>[id] | .sl id _ _ _=>[id] | .own id _=>[id] | .mp id=>[id] | .clo _ caps=>L.zRo caps | _=>[]
def L.zRo:List L->List Nat | []=>[] | l :: ls=>l.ids++L.zRo ls
end
def V.ids:V->List Nat | .one l=>l.ids | .agg ls=>L.zRo ls | _=>[]
def Ob.ids:Ob->List Nat | .box _ ls=>L.zRo ls | .arr ..=>[] | .fm _=>[] | .dm ..=>[] | .stk _ _ _ _ none=>[] | .stk _ _ _ _ (some ls)=>L.zRo ls
def zKn(acc:List Nat):List Nat->List Nat
 |[]=>acc
 |i::r=>match pos i acc 0 with
  |some _=>zKn acc r
  |none=>zKn (acc++[i]) r
def zNt(h:List Ob):Nat->List Nat->Nat->List Nat
 |0,acc,_=>acc
 |n+1,acc,p =>
  match acc[p]? with
  |none=>acc
  |some i=>match h[i]? with
   |some o=>zNt h n (zKn acc o.ids) (p+1)
   |none=>zNt h n acc (p+1)
def yEi:List V->List Nat | []=>[] | v :: vs=>v.ids++yEi vs
def reach (vs:List V) (h:List Ob):List Nat:=zNt h (h.length+1) (zKn [] (yEi vs)) 0
structure Orc (ρ:Type) where
 pure:FuncId->Option PE
 gen:FuncId->List V->List Ob->(Out->List Ob->Option ρ)->Option ρ
 ids:FuncId->List V->List Ob->List Nat:=λ_=>reach
structure kW (P:Program) {ρ:Type}(Γ:Orc ρ):Prop where
 pure:∀ f e,Γ.pure f=some e->e.OK P f
 gen:∀ f vs h k r,Γ.gen f vs h k=some r->iK P f=true/\Ed P f vs h λout h'=>k out h'=some r/\∀ id,id<h.length->id∉Γ.ids f vs h->h'[id]?=h[id]?
def Orc.call{ρ:Type}(Γ:Orc ρ)(f:FuncId)(vs:List V)(h:List Ob)(k:Out->List Ob->Option ρ):Option ρ :=
 match Γ.pure f with
 |some e =>
  match e.run vs h with
  |some (c,o)=>chk c (ob o λy=>k (.ret (e.enc y vs h).1) (e.enc y vs h).2)
  |none=>none
 |none=>Γ.gen f vs h k
def Orc.quiet {ρ:Type} (Γ:Orc ρ):Orc ρ:=⟨Γ.pure,fun _ _ _ _=>none,Γ.ids⟩
theorem kW.quiet{P:Program}{ρ:Type}{Γ:Orc ρ}(h:kW P Γ):kW P Γ.quiet:=⟨h.pure,λ_ _ _ _ _ h=>by cases h⟩
theorem kW.call{P:Program}{ρ:Type}{Γ:Orc ρ}(h:kW P Γ){f:FuncId}{vs:List V}{hp:List Ob}{k:Out->List Ob->Option ρ}{r:ρ}(hc:Γ.call f vs hp k=some r):iK P f=true/\Ed P f vs hp λout h'=>k out h'=some r:=by
 unfold Orc.call at hc;split at hc
 ·rename_i e he;split at hc
  ·rename_i c o hr;obtain⟨rfl,hc⟩:=iP hc;obtain⟨y,rfl,hc⟩:=zNs hc;have hok:=h.pure f e he;refine⟨hok.body,λC β w xs hP hs ha=>(hok.rel _ _ _ hr C β w xs hP hs ha).mono ?_⟩;rintro e w' ⟨out,h',β',⟨rfl,rfl⟩,hh⟩;exact⟨_,_,β',hc,hh⟩
  ·cases hc
 ·obtain⟨h1,h2⟩:=h.gen _ _ _ _ _ hc;exact⟨h1,h2.mono λ_ _ h=>h.1⟩
def cB(r:List V)(d:Option Tmp)(v:V):List V :=
 match d with
 |some i=>r.set i v
 |none=>r
abbrev K(ρ:Type):=Ex->St->Option ρ
abbrev Kw(ρ:Type):=St->K ρ->Option ρ
section ops
variable {ρ:Type}(Γ:Orc ρ)(T:Tab)
def jQ (σ:St) (xs:List Operand):List V:=xs.map (ovl σ)
def callee(σ:St)(x:Operand)(as:List Operand):Option (FuncId × List V):=
 match ovl σ x with
 |.one (.val .opq (.func (.func f) first cs))=>if first.size=0/\cs.size=0 then some (f,[])else none
 |.one (.clo f [])=>some (f,[])
 |.one (.clo f (c::cs))=>match Nat.blt f 1000000,as with
  |true,_=>some (f,(c::cs).map .one)
  |false,[]=>some (f-1000000,(c::cs).map .one)
  |false,_::_=>none
 |_=>none
def zEm (vs:List V) (h:List Ob) (key:MK) (k:Out->List Ob->Option ρ):List (MK×Nat)->Option ρ | []=>none | (a,f) :: r=>br (MK.beq key a) (Γ.gen f vs h k) (zEm vs h key k r)
def Yk(σ:St)(o:Oper)(k:K ρ):Option ρ :=
 match o.op with
 |.call { callee:=.value x,args,.. }=>
  match callee σ x args.toList with
  |some (f,cs)=>Γ.call f (jQ σ args.toList++cs) σ.h λout h' =>
   match out with
   |.ret v=>k .normal ⟨cB σ.r o.dst v,h'⟩
   |.pan t v=>k (.pan t v) ⟨σ.r,h'⟩
  |none =>
   match ovl σ x with
   |.one (.Uu key tab)=>zEm Γ (jQ σ args.toList) σ.h key (λout h' =>
    match out with
    |.ret v=>k .normal ⟨cB σ.r o.dst v,h'⟩
    |.pan t v=>k (.pan t v) ⟨σ.r,h'⟩) tab
   |_=>none
 |.pick c x y =>
  match ovl σ c with
  |.one (.val .bool b)=>br b (k .normal ⟨cB σ.r o.dst (ovl σ x),σ.h⟩) (k .normal ⟨cB σ.r o.dst (ovl σ y),σ.h⟩)
  |_=>none
 |_ =>
  match nQ T σ o with
  |some (c,v,h')=>chk c (k .normal ⟨cB σ.r o.dst v,h'⟩)
  |none=>none
def Sy (ops:Array Oper) (j:Nat):Option Nat:=(ops[j]?).bind (·.dst)
end ops
section sound
variable {ρ:Type}{Γ:Orc ρ}{T:Tab}{C:Ctx}
theorem Sim.put{β:Nat->Pl}{σ:St}{a:Act}{w:World}(hs:Sim C β σ a w)(d:Option Tmp){v:V}{x:Value}(hv:v.Rel β w (C.N β σ.h) x):Sim C β ⟨cB σ.r d v,σ.h⟩ (a.put d x) w:=by
 cases d with
 |none=>exact⟨hs.heap,hs.defers,hs.size,hs.reg⟩
 |some i =>
  refine⟨hs.heap,hs.defers,by simp[cB,Act.put,hs.size],λj u hu=>?_⟩;simp only[cB]at hu;simp only[Act.put,qCl,Array.getElem?_setIfInBounds];by_cases hij:i=j
  ·subst hij;rcases jF i σ.r.length with hi|hi
   ·rw[qAv hi]at hu;simp only[aA]at hu;subst hu;rw[if_pos rfl,if_pos (by rw[<- hs.size];exact hi)];exact hv
   ·rw[List.getElem?_eq_none (by simpa using hi)]at hu;cases hu
  ·rw[qAw hij]at hu;rw[if_neg hij];have:=hs.reg j u hu
   rwa [qCl]at this
theorem zRp{β:Nat->Pl}{σ:St}{a:Act}{w:World}(hs:Sim C β σ a w):∀ xs:List Operand,rO β w (C.N β σ.h) (jQ σ xs) (xs.map a.eval)
 |[]=>trivial
 |x::xs=>⟨bE hs x,zRp hs xs⟩
theorem Nf{β:Nat->Pl}{w:World}{N:Nat->Nat->Prop}:∀ {cs:List L}{us:List Value},L.eG β w N cs us->rO β w N (cs.map .one) us
 |[],us,h=>by simp only[L.eG]at h;subst h;trivial
 |c::cs,us,h=>by
  simp only[L.eG]at h;obtain⟨u,r,rfl,h1,h2⟩:=h;exact⟨h1,Nf h2⟩
theorem zW{P:Program}{f:FuncId}(h:iK P f=true)(args:Array Value)(w:World):(callFunc f args).run P w=.ok (.enter f args) w:=by
 unfold iK at h;split at h
 ·rename_i fn hf;simp only[aD,qCo]at h;have h1:fn.body.isNone=false:=by cases hb:fn.body<;>simp[hb]at h ⊢
  simp only[callFunc,jJ,run_program,kQ,hf,h.2,h1,qBs,if_false,jI]
 ·cases h
theorem zUq{C:Ctx}{β:Nat->Pl}{σ:St}{a:Act}{w:World}{f:FuncId}{cs:List V}{x:Operand}{args:Array Operand}{ats:Array TypeId}{ty:TypeId}(hc:callee σ x args.toList=some (f,cs))(hs:Sim C β σ a w):∃ as us,(resolve a.eval { callee:=.value x,args,argTypes:=ats } ty).run C.P w=.ok { target:=.fn (.func f) us,args:=as } w/\rO β w (C.N β σ.h) (jQ σ args.toList++cs) (as++us).toList:=by
 have hx:=bE hs x;have hA:rO β w (C.N β σ.h) (jQ σ args.toList) (args.map a.eval).toList:=by
  rw[qBp];exact zRp hs _
 have plain:∀ {us:Array Value},a.eval x=.func (.func f) #[] us->rO β w (C.N β σ.h) cs us.toList ->
  ∃ as us,(resolve a.eval { callee:=.value x,args,argTypes:=ats } ty).run C.P w=.ok { target:=.fn (.func f) us,args:=as } w/\rO β w (C.N β σ.h) (jQ σ args.toList++cs) (as++us).toList:=λ{us} he hr =>
  ⟨args.map a.eval,us,by simp[resolve,he,Deferred.ofValue],by rw[qBj];exact bJ.append hA hr⟩
 unfold callee at hc;split at hc
 ·rename_i f' first cs' hov
  split at hc
  ·rename_i he;simp only[aA,aC]at hc;obtain⟨rfl,rfl⟩:=hc;rw[hov]at hx;simp only[V.Rel,L.Rel,Ty.Rel,aL,and_true]at hx;have e1:first=#[]:=qBz he.1
   have e2:cs'=#[]:=qBz he.2;subst e1 e2;exact plain hx.1 trivial
  ·cases hc
 ·rename_i f' hov;simp only[aA,aC]at hc;obtain⟨rfl,rfl⟩:=hc;rw[hov]at hx;simp only[V.Rel,L.Rel,aL,and_true]at hx;obtain⟨us,hx,hr⟩:=hx;have hr:=Nf hr;cases us with
  |nil=>exact plain (us:=#[]) hx hr
  |cons u us=>exact absurd hr (by simp[rO,bJ])
 ·rename_i f' c cs' hov;rw[hov]at hx;simp only[V.Rel,L.Rel,aL,and_true]at hx;obtain⟨us,hx,hr⟩:=hx;have hr:=Nf hr;split at hc
  ·rename_i hb;simp only[aA,aC]at hc;obtain⟨rfl,rfl⟩:=hc;exact plain (us:=us.toArray) (hx.trans (zEh (by rwa [qDj]at hb) us)) hr
  ·rename_i hb hargs;simp only[aA,aC]at hc;obtain⟨rfl,rfl⟩:=hc;cases us with
   |nil=>exact absurd hr (by simp[rO,bJ])
   |cons u us =>
    have he:a.eval x=.func (.func (f'-1000000)) (u::us).toArray #[]:=by rw[hx,zXp (λh=>by rw[<- qDj,hb]at h;cases h)]
    have ha:args=#[]:=qBh.1 (by rw[hargs]);subst ha;exact⟨(u::us).toArray,#[],by simp[resolve,he,Deferred.ofValue],by simpa [jQ]using hr⟩
  ·cases hc
 ·cases hc
theorem yKy{β:Nat->Pl}{σ:St}{a:Act}{w:World}{o:Oper}{f:FuncId}{cs:List V}{x:Operand}{args:Array Operand}{ats:Array TypeId}{R:Out->List Ob->Prop}{next:Act->World->Prop}{Q:Exit->Act->World->Prop}(ho:o.op=.call { callee:=.value x,args:=args,argTypes:=ats })(hc:callee σ x args.toList=some (f,cs))(hb:iK C.P f=true)(hcall:Ed C.P f (jQ σ args.toList++cs) σ.h R)(hs:Sim C β σ a w)(hn:∀ v h' β' a' w',R (.ret v) h'->Sim C β' ⟨cB σ.r o.dst v,h'⟩ a' w'->next a' w')(hq:∀ t v h' β' w' y,R (.pan t v) h'->Sim C β' ⟨σ.r,h'⟩ a w'->v.Rel β' w' (C.N β' h') y->Q (.panic [{ v:=.iface t y,recovered:=false }]) a w'):o.wp C.P a w next Q:=by
 obtain⟨as,us,hres,hargs⟩:=zUq (ats:=ats) (ty:=o.type) hc hs;have hcl:=hcall C β w _ rfl hs.heap hargs;unfold Oper.wp;have hrun:(execOp a.eval o).run C.P w=.ok (.enter f (as++us)) w:=by
  simp only[execOp,ho,jJ,hres,kQ,invoke,zW hb]
 rw[hrun,Oper.upon_enter];rw[qCr]at hcl;refine hcl.mono ?_;rintro e w' ⟨out,h',β',hk,hm,hkp,hN,hh,hout⟩;have zBv:∀ (i:Nat) (v:V),σ.r[i]?=some v->v.Rel β' w' (C.N β' h') (a.tmps.getD i undef):=λi v hv=>(hs.reg i v hv).mono hm hkp hN
 cases out with
 |ret v =>
  obtain⟨y,rfl,hy⟩:=hout;have hs':Sim C β' ⟨σ.r,h'⟩ a w':=⟨hh,hs.defers,hs.size,zBv⟩;exact hn v h' β' _ w' hk (hs'.put o.dst hy)
 |pan t v =>
  obtain⟨y,rfl,hy⟩:=hout;exact hq t v h' β' w' y hk ⟨hh,hs.defers,hs.size,zBv⟩ hy
theorem zQf{vs:List V}{hp:List Ob}{key:MK}{k:Out->List Ob->Option ρ}{r:ρ}:∀ {tab:List (MK × Nat)},zEm Γ vs hp key k tab=some r->∃ f,kV tab key=some f/\Γ.gen f vs hp k=some r
 |[],h=>by cases h
 |(a,f)::tab,h=>by
  simp only[zEm]at h;simp only[kV];rcases Xt h with ⟨hb,h⟩|⟨hb,h⟩
  ·rw[hb];exact⟨f,rfl,h⟩
  ·rw[hb];exact zQf h
theorem yWg{β:Nat->Pl}{σ:St}{a:Act}{w:World}{o:Oper}{f:FuncId}{x:Operand}{args:Array Operand}{ats:Array TypeId}{R:Out->List Ob->Prop}{next:Act->World->Prop}{Q:Exit->Act->World->Prop}(ho:o.op=.call { callee:=.value x,args:=args,argTypes:=ats })(hx:a.eval x=.func (.func f) #[] #[])(hb:iK C.P f=true)(hcall:Ed C.P f (jQ σ args.toList) σ.h R)(hs:Sim C β σ a w)(hn:∀ v h' β' a' w',R (.ret v) h'->Sim C β' ⟨cB σ.r o.dst v,h'⟩ a' w'->next a' w')(hq:∀ t v h' β' w' y,R (.pan t v) h'->Sim C β' ⟨σ.r,h'⟩ a w'->v.Rel β' w' (C.N β' h') y->Q (.panic [{ v:=.iface t y,recovered:=false }]) a w'):o.wp C.P a w next Q:=by
 have hres:(resolve a.eval { callee:=.value x,args,argTypes:=ats } o.type).run C.P w=.ok { target:=.fn (.func f) #[],args:=args.map a.eval } w:=by simp[resolve,hx,Deferred.ofValue]
 have hargs:rO β w (C.N β σ.h) (jQ σ args.toList) (args.map a.eval++#[]).toList:=by
  simpa using zRp hs args.toList
 have hcl:=hcall C β w _ rfl hs.heap hargs;unfold Oper.wp;have hrun:(execOp a.eval o).run C.P w=.ok (.enter f (args.map a.eval++#[])) w:=by
  simp only[execOp,ho,jJ,hres,kQ,invoke,zW hb]
 rw[hrun,Oper.upon_enter];rw[qCr]at hcl;refine hcl.mono ?_;rintro e w' ⟨out,h',β',hk,hm,hkp,hN,hh,hout⟩;have zBv:∀ (i:Nat) (v:V),σ.r[i]?=some v->v.Rel β' w' (C.N β' h') (a.tmps.getD i undef):=λi v hv=>(hs.reg i v hv).mono hm hkp hN
 cases out with
 |ret v =>
  obtain⟨y,rfl,hy⟩:=hout;have hs':Sim C β' ⟨σ.r,h'⟩ a w':=⟨hh,hs.defers,hs.size,zBv⟩;exact hn v h' β' _ w' hk (hs'.put o.dst hy)
 |pan t v =>
  obtain⟨y,rfl,hy⟩:=hout;exact hq t v h' β' w' y hk ⟨hh,hs.defers,hs.size,zBv⟩ hy
theorem zUr(hT:bU C.P T)(hΓ:kW C.P Γ){β:Nat->Pl}{σ:St}{a:Act}{w:World}{o:Oper}{k:Dec.K ρ}{r:ρ}{next:Act->World->Prop}{Q:Exit->Act->World->Prop}(h:Yk Γ T σ o k=some r)(hs:Sim C β σ a w)(hn:∀ σ' β' a' w',Sim C β' σ' a' w'->k .normal σ'=some r->next a' w')(hq:∀ e x σ' β' a' w',Sim C β' σ' a' w'->e≠.normal->Nc β' w' (C.N β' σ'.h) e x->k e σ'=some r->Q x a' w'):o.wp C.P a w next Q:=by
 unfold Yk at h;split at h
 ·rename_i x args ats ho;split at h
  ·rename_i f cs hc;obtain⟨hb,hcall⟩:=hΓ.call h;obtain⟨as,us,hres,hargs⟩:=zUq (ats:=ats) (ty:=o.type) hc hs;have hcl:=hcall C β w _ rfl hs.heap hargs;unfold Oper.wp;have hrun:(execOp a.eval o).run C.P w=.ok (.enter f (as++us)) w:=by
    simp only[execOp,ho,jJ,hres,kQ,invoke,zW hb]
   rw[hrun,Oper.upon_enter];rw[qCr]at hcl;refine hcl.mono ?_;rintro e w' ⟨out,h',β',hk,hm,hkp,hN,hh,hout⟩;have zBv:∀ (i:Nat) (v:V),σ.r[i]?=some v->v.Rel β' w' (C.N β' h') (a.tmps.getD i undef):=λi v hv=>(hs.reg i v hv).mono hm hkp hN
   cases out with
   |ret v =>
    obtain⟨y,rfl,hy⟩:=hout;have hs':Sim C β' ⟨σ.r,h'⟩ a w':=⟨hh,hs.defers,hs.size,zBv⟩;exact hn _ β' _ w' (hs'.put o.dst hy) hk
   |pan t v =>
    obtain⟨y,rfl,hy⟩:=hout;exact hq (.pan t v) _ ⟨σ.r,h'⟩ β' a w' ⟨hh,hs.defers,hs.size,zBv⟩ (by simp) ⟨y,rfl,hy⟩ hk
  ·split at h
   ·rename_i key tab hov;obtain⟨f,hf,hcl⟩:=zQf h;obtain⟨hb,hcall⟩:=hΓ.gen _ _ _ _ _ hcl;have hcall:=hcall.mono (R':=λout h'=>(match out with|.ret v=>k .normal ⟨cB σ.r o.dst v,h'⟩|.pan t v=>k (.pan t v) ⟨σ.r,h'⟩)=some r) λ_ _ h=>h.1
    have hx:=bE hs x;rw[hov]at hx;simp only[V.Rel,L.Rel,aL,and_true,zTz,hf]at hx;refine yWg ho hx hb hcall hs (λv h' β' a' w' hk hs'=>hn _ β' a' w' hs' hk) (λt v h' β' w' y hk hs' hy=>hq (.pan t v) _ ⟨σ.r,h'⟩ β' a w' hs' (by simp) ⟨y,rfl,hy⟩ hk)
   ·cases h
 ·rename_i c x y ho;split at h
  ·rename_i b hb;have hc:=bE hs c;rw[hb]at hc;simp only[V.Rel,L.Rel,Ty.Rel,aL,and_true]at hc;have hrun:(execOp a.eval o).run C.P w=.ok (.value (if b then a.eval x else a.eval y)) w:=by
    simp only[execOp,ho,hc,asBool,jJ,jI,kQ]
   unfold Oper.wp;rw[hrun,Oper.upon_value];rcases Xt h with ⟨rfl,hk⟩|⟨rfl,hk⟩
   ·exact hn _ β _ w (hs.put o.dst (bE hs x)) hk
   ·exact hn _ β _ w (hs.put o.dst (bE hs y)) hk
  ·cases h
 ·split at h
  ·rename_i c v h' hst;obtain⟨rfl,hk⟩:=iP h;obtain⟨β',w',n,v',hrun,hnv,hm,hkp,hs',hv'⟩:=ySq hT hs hst;unfold Oper.wp;rw[hrun];rcases hnv with rfl|⟨rfl,rfl⟩
   ·rw[Oper.upon_value];exact hn _ β' _ w' (hs'.put o.dst hv') hk
   ·rw[Oper.upon_skip];exact hn _ β' _ w' (hs'.put o.dst hv') hk
  ·cases h
theorem zKo{ops:Array Oper}{tmps:Array Value}{j s:Nat}{b:Bool}(hs:Sy ops j=some s)(ht:tmps.getD s undef=.bool b):yielded ops tmps j=some b:=by
 unfold Sy at hs;cases ho:ops[j]? with
 |none=>rw[ho]at hs;cases hs
 |some o =>
  rw[ho]at hs;simp only[qCm]at hs;have ht':(tmps[s]?).getD undef=.bool b:=by rw[<- qCl];exact ht
  unfold yielded;simp only[ho,qCm,hs];cases h2:tmps[s]? with
  |none=>rw[h2]at ht';simp[undef]at ht'
  |some x=>rw[h2]at ht';simp at ht';subst ht';rfl
theorem zKp{ops:Array Oper}{tmps:Array Value}{j s:Nat}{us:Array Value}(hs:Sy ops j=some s)(ht:tmps.getD s undef=.tuple us):yielded ops tmps j=none:=by
 unfold Sy at hs;cases ho:ops[j]? with
 |none=>rw[ho]at hs;cases hs
 |some o =>
  rw[ho]at hs;simp only[qCm]at hs;have ht':(tmps[s]?).getD undef=.tuple us:=by rw[<- qCl];exact ht
  unfold yielded;simp only[ho,qCm,hs];cases h2:tmps[s]? with
  |none=>rfl
  |some x=>rw[h2]at ht';simp at ht';subst ht';rfl
theorem yKz{r:List V}{s:Nat}{v:V}(h:r.getD s .cK=v)(hne:v≠.cK):r.set s v=r:=by
 have:r[s]?=some v:=by
  rw[wG]at h;cases hr:r[s]? with
  |none=>rw[hr]at h;exact absurd h.symm hne
  |some u=>rw[hr]at h;simp at h;rw[h]
 apply qCu;intro i;by_cases hi:s=i
 ·subst hi;rw[qAv (bK.1 this).1,this]
 ·rw[qAw hi]
end sound
end Go.Dec
