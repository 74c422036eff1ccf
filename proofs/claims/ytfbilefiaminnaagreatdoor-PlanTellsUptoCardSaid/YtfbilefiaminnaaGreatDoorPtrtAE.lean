import Derived.Test.YtfbilefiaminnaaGreatDoorPtrtAC
open Nat renaming ble->qBg,beq->vF,zero_add->yY,lt_trichotomy->qDv,min_self->qDx,succ_ne_zero->qDz,le_trans->zG,sub_self->qEd,add_zero->qAa,le_mul_of_pos_right->qBl,mul_comm->qBy,zero_le->qAm
open List renaming range->qAr,replicate->qAf,getElem?_append_right->yZ,getElem?_cons_zero->qAi,mem_range->qDr,length_append->xG,filterMap_cons->qDs,mem_filterMap->qDt,length_replicate->qCh,length_zip->qDw,getD_eq_getElem?_getD->wG,getElem?_map->qBx,nil_append->qDc,length_cons->xI,getElem?_cons_succ->qEa,getElem?_take_of_lt->qEb,getElem?_set_ne->qAw,getElem?_eq_none->qAu,mem_map->qBw,filterMap_append->qEc,map_cons->qBt,mem_append_left->qAq,append_nil->vE,filterMap_map->qEg,length_drop->yV
open Go.Op renaming operands->qDo
open Go.Oper renaming apart->qDp
open Bool renaming or_eq_true->qDq
open Array renaming length_toList->qAc,getElem?_eq_some_iff->qCk,replicate->qDy,range->qCf,toList_inj->qBh,getElem?_toList->qCj,getD_eq_getD_getElem?->qCl,getElem?_replicate->qEh
open Go.Sem renaming run_bind->jJ,run_pure->jI
open Option renaming map_some->kU
open Go.Region renaming wanted->qDu
open Int renaming toNat_natCast->qCg,le_refl->qEe,natCast_mul->qEf
open Go.Result renaming andThen_ok->kQ
namespace Go.Dec
def dU(o:Oper):Nat :=
 match o.op with
 |.move _|.assign _|.unOp .. |.binOp .. |.extract .. |.pick .. |.build .. |.index .. |.makeFunc .. |.nilCheck _|.field .. => 0
 |.fieldAddr .. |.indexAddr .. |.slice .. |.load .. |.lookup .. => 1
 |.call { callee:=.value _,.. }=>1
 |.call { callee:=.builtin .len,.. }=>1
 |_=>2
def zKu (u:Nat):Bool:=qBg 6 u&&vF (u % 2) 0
def rdB (u:Nat):Bool:=qBg u 1||zKu u
def Gy (N a b:Nat):Bool:=vF a 0||(vF b 0||((rdB a&&rdB b)||((qBg 6 a&&vF b 3)||((vF a 3&&(qBg 6 b&&Nat.blt (b / 2) (N+3)))||(qBg 6 a&&(qBg 6 b&&!vF (a / 2) (b / 2)))))))
def Yo:V->Bool | .one (.val ..)=>true | .one (.rJ ..)=>true | .one .aZ=>true | .one .jC=>true | _=>false
def zRs:V->Bool | .one (.val ..)=>true | .one (.rJ ..)=>true | .one .aZ=>true | .one .jC=>true | .one (.ptr ..)=>true | .one (.sK ..)=>true | .one (.jD ..)=>true | _=>false
def uW(b:Bool):Nat:=match b with|true=>0|false=>1
def L.obj:L->Option Nat | .ptr id _=>some id | .sK id _ _ _ _=>some id | .jD id _ _ _=>some id | _=>none
def zNx(v:V):Nat:=match v with
 |.one l=>(match l.obj with|some id=>6+2*id|none=>uW (Yo (.one l)))
 |v=>uW (Yo v)
def zNy(v:V):Nat:=match v with|.one (.own id _)=>6+2*id|v=>uW (zRs v)
def yDg(σ:St):List Operand->Nat
 |[s,x]=>match ovl σ s,ovl σ x with
  |.one (.own id _),.one (.val (.slice _) _)=>7+2*id
  |_,_=>2
 |_=>2
def yDh(v:V):Nat:=match v with|.one (.ptr id _)=>7+2*id|_=>2
def bP(π:FuncId->Option PE)(σ:St)(o:Oper):Nat :=
 match o.op with
 |.convert _ _ x=>(match ovl σ x with|.one (.val (.int _) _)=>0|_=>2)
 |.fieldAddr _ x _=>uW (zRs (ovl σ x))
 |.indexAddr _ x _=>zNy (ovl σ x)
 |.slice _ x _ _ _=>uW (Yo (ovl σ x))
 |.load _ x=>zNx (ovl σ x)
 |.store _ x _=>yDh (ovl σ x)
 |.buildSlice .. => 3
 |.alloc _=>3
 |.box .. => 3
 |.call { callee:=.value x,args,.. }=>
  match callee σ x args.toList with
  |some (f,cs)=>
   match π f with
   |some e =>
    match qBg e.use 1 with
    |true=>uW (dF V.isD (jQ σ args.toList++cs))
    |false=>match vF e.use 3&&dF V.isD (jQ σ args.toList++cs)with
     |true=>3
     |false=>2
   |none=>2
  |none=>2
 |.call { callee:=.builtin .len,args,.. }=>uW (dF Yo (jQ σ args.toList))
 |.call { callee:=.builtin .append,args,.. }=>yDg σ args.toList
 |_=>dU o
def ahead(ops:Array Oper):Nat->Nat->Nat->Bool
 |0,_,_=>false
 |n+1,i,j =>
  match ops[j]? with
  |some o=>o.after.toList.any λe=>Region.binds .any e&&(vF e.on i||ahead ops n i e.on)
  |none=>false
def yO:List Oper->Nat->Bool | [],_=>true | o :: r,j=>(o.after.toList.all fun e=>!Region.binds .any e||Nat.blt e.on j)&&yO r (j+1)
theorem zIz:∀ {l:List Oper}{k:Nat},yO l k=true->∀ j o,l[j]?=some o->∀ e∈o.after,Region.binds .any e=true->e.on<k+j
 |[],_,_,_,_,h=>by simp at h
 |y::l,k,h,j,o,hj=>by
  simp only[yO,aD]at h;cases j with
  |zero =>
   simp only[qAi,aA]at hj;subst hj;intro e he hb;have:=h.1;rw[List.all_eq_true]at this;have:=this e (Array.mem_toList_iff.2 he);simp only[hb,Bool.not_true,Bool.false_or]at this;exact bX this
  |succ j =>
   have:=zIz h.2 j o (by simpa using hj)
   rwa [show k+1+j=k+(j+1)by omega]at this
def wP(N:Nat)(ops:Array Oper)(j:Nat)(o:Oper)(u:Nat):List Nat->Nat->Bool
 |[],_=>true
 |v::r,i=>(ahead ops ops.size i j||(match ops[i]? with|some x=>qDp ops x o&&Gy N v u|none=>false))&&wP N ops j o u r (i+1)
theorem Gz{N:Nat}{ops:Array Oper}{j:Nat}{o:Oper}{u:Nat}:∀ {l:List Nat}{k:Nat},wP N ops j o u l k=true->∀ (i:Nat) (v:Nat) (x:Oper),l[i]?=some v->ops[k+i]?=some x ->
 (qDp ops x o=true/\Gy N v u=true)\/ahead ops ops.size (k+i) j=true
 |[],_,_,_,_,_,h,_=>by simp at h
 |y::l,k,h,i,v,x,hi,hx=>by
  simp only[wP,aD,qDq]at h;cases i with
  |zero =>
   simp only[qAi,aA]at hi;subst hi;rw[qAa]at hx;rcases h.1 with h1|h1
   ·exact .inr h1
   ·rw[hx]at h1;simp only[aD]at h1;exact .inl h1
  |succ i =>
   have:=Gz h.2 i v x (by simpa using hi) (by rw[show k+1+i=k+(i+1)by omega];exact hx)
   rwa [show k+1+i=k+(i+1)by omega]at this
section
variable {ρ:Type}(Γ:Orc ρ)(T:Tab)
def zKv(σ:St)(o:Oper):Option V :=
 match o.op with
 |.buildSlice t n parts =>
  match elemTy T t with
  |some (_,te,_)=>
   if vF n parts.size&&qBg (n*te.size) 16777216 then
    match elems σ te 0 parts.toList with
    |some ys=>some (.one (.val (.slice te) ys))
    |none=>none
   else none
  |none=>none
 |_=>none
def zYc(σ:St)(o:Oper):Option (Bool × V):=
 match o.op with
 |.makeSlice t l c =>
  match elemTy T t,qW (ovl σ l),qW (ovl σ c)with
  |some (_,te,ti),some (.i64,n),some (.i64,m)=>
   match dS te ti.zls with
   |some (z,[])=>some (decide (0<=n)&&(decide (n=m)&&qBg (n.toNat*ti.bytes) room),.one (.val (.slice te) (qAf n.toNat z)))
   |_=>none
  |_,_,_=>none
 |_=>none
def zGv(σ:St)(o:Oper):Option (Bool × V):=
 match o.op with
 |.call { callee:=.builtin .append,args,argTypes }=>
  match args.toList,argTypes.toList with
  |[s,x],[t,t']=>
   match vF t t',elemTy T t,ovl σ s,ovl σ x with
   |true,some (_,te,ti),.one (.val (.clip t1) xs),.one (.val (.slice t2) ys)=>
    if h:t1=te/\t2=te then some (qBg ((xs.length+ys.length)*ti.bytes) room,.one (.val (.slice te) ((h.1 ▸ xs)++(h.2 ▸ ys))))else none
   |_,_,_,_=>none
  |_,_=>none
 |_=>none
def xEz(σ:St)(o:Oper):Bool :=
 match o.op with
 |.call { callee:=.builtin .append,args,.. }=>
  match args.toList with
  |[s,_]=>match ovl σ s with
   |.one (.val (.clip _) _)=>true
   |_=>false
  |_=>false
 |_=>false
def Yp(σ:St)(o:Oper):Option (Bool × V):=
 match o.op with
 |.makeSlice .. => zYc T σ o
 |.call .. => zGv T σ o
 |_=>match zKv T σ o with
  |some v=>some (true,v)
  |none=>none
def yEq(o:Oper):Bool:=match o.op with
 |.makeSlice .. => true
 |_=>false
def zUu(ops:Array Oper)(o:Oper):Bool :=
 match o.op,o.dst with
 |.buildSlice _ n _,some d=>qBg 1 n&&ops.toList.any λp=>match p.op with
  |.call { callee:=.builtin .append,args,.. }=>(match args.toList with|[_,.tmp e]=>vF e d|_=>false)
  |_=>false
 |.makeSlice ..,_=>qBg 2 (ops.toList.filter yEq).length
 |_,_=>false
def xAm(ops:Array Oper):Option Oper :=
 match ops.toList.filter yEq with
 |_::_::p::_=>some p
 |_=>none
def xIu(ops:Array Oper)(o:Oper):Bool :=
 match xAm ops,o.dst with
 |some p,some d=>yEq o&&(match p.dst with|some e=>vF e d|none=>false)
 |_,_=>false
def xIv(ops:Array Oper):Option Ob :=
 match xAm ops with
 |some p=>match p.op with
  |.makeSlice t _ _=>match elemTy T t with
   |some (e,te,_)=>some (.arr e te 0 [] true)
   |none=>none
  |_=>none
 |none=>none
def Ux(id:Nat)(σ:St)(o:Oper):Option (Bool × V × List Ob):=
 match o.op with
 |.makeSlice t l c =>
  match elemTy T t,qW (ovl σ l),qW (ovl σ c),σ.h[id]? with
  |some (e,te,ti),some (.i64,n),some (.i64,m),some (.arr e' t' v [] true)=>
   if t'=te/\e'=e then
    match dS te ti.zls with
    |some (z,[])=>some (decide (0<=n)&&(decide (n=m)&&qBg (n.toNat*ti.bytes) room),.one (.own id (v+1)),σ.h.set id (.arr e te (v+1) (qAf n.toNat z) true))
    |_=>none
   else none
  |_,_,_,_=>none
 |_=>none
def mF(N:Nat)(ops:Array Oper):List Oper->Nat->List Nat->St->(List Nat->St->Option ρ)->Option ρ
 |[],_,us,σ,k=>k us σ
 |o::rest,j,us,σ,k =>
  match o.guard with
  |none =>
   match xIu ops o with
   |true =>
    match Ux T (N-1) σ o with
    |some (c,v,h')=>
     match wP N ops j o (7+2*(N-1)) us 0 with
     |true=>chk c (mF N ops rest (j+1) (us++[7+2*(N-1)]) ⟨cB σ.r o.dst v,h'⟩ k)
     |false=>none
    |none=>none
   |false =>
    match (zUu ops o&&!isS T o)||xEz σ o with
    |true =>
     match Yp T σ o with
     |some (c,v)=>
      match wP N ops j o 0 us 0 with
      |true=>chk c (mF N ops rest (j+1) (us++[0]) ⟨cB σ.r o.dst v,σ.h⟩ k)
      |false=>none
     |none=>none
    |false =>
     match wP N ops j o (bP Γ.pure σ o) us 0 with
     |true=>Yk Γ T σ o λe σ'=>match e with|.normal=>(match qBg σ.h.length σ'.h.length with|true=>mF N ops rest (j+1) (us++[bP Γ.pure σ o]) σ' k|false=>none)|_=>none
     |false=>none
  |some (g,want)=>
   match Sy ops g with
   |some s =>
    match σ.r.getD s .cK with
    |.one (.val .bool b)=>
     br b
      (match want with
       |true =>
        match wP N ops j o (bP Γ.pure ⟨σ.r.set s (.one (.val .bool true)),σ.h⟩ o) us 0 with
        |true=>Yk Γ T ⟨σ.r.set s (.one (.val .bool true)),σ.h⟩ o λe σ'=>match e with|.normal=>(match qBg σ.h.length σ'.h.length with|true=>mF N ops rest (j+1) (us++[bP Γ.pure ⟨σ.r.set s (.one (.val .bool true)),σ.h⟩ o]) σ' k|false=>none)|_=>none
        |false=>none
       |false =>
        match wP N ops j o 0 us 0 with
        |true=>mF N ops rest (j+1) (us++[0]) ⟨cB (σ.r.set s (.one (.val .bool true))) o.dst (.tup []),σ.h⟩ k
        |false=>none)
      (match want with
       |false =>
        match wP N ops j o (bP Γ.pure ⟨σ.r.set s (.one (.val .bool false)),σ.h⟩ o) us 0 with
        |true=>Yk Γ T ⟨σ.r.set s (.one (.val .bool false)),σ.h⟩ o λe σ'=>match e with|.normal=>(match qBg σ.h.length σ'.h.length with|true=>mF N ops rest (j+1) (us++[bP Γ.pure ⟨σ.r.set s (.one (.val .bool false)),σ.h⟩ o]) σ' k|false=>none)|_=>none
        |false=>none
       |true =>
        match wP N ops j o 0 us 0 with
        |true=>mF N ops rest (j+1) (us++[0]) ⟨cB (σ.r.set s (.one (.val .bool false))) o.dst (.tup []),σ.h⟩ k
        |false=>none)
    |.tup []=>
     match wP N ops j o 0 us 0 with
     |true=>mF N ops rest (j+1) (us++[0]) ⟨cB σ.r o.dst (.tup []),σ.h⟩ k
     |false=>none
    |_=>none
   |none=>none
end
section
variable {ρ:Type}(π:FuncId->Option PE)(T:Tab)
def Goes(σ:St)(o:Oper)(v:V)(h':List Ob):Prop :=
 match o.op with
 |.call { callee:=.value x,args,.. }=>∃ f cs e y,callee σ x args.toList=some (f,cs)/\π f=some e/\e.run (jQ σ args.toList++cs) σ.h=some (true,some y)/\v=(e.enc y (jQ σ args.toList++cs) σ.h).1/\h'=(e.enc y (jQ σ args.toList++cs) σ.h).2
 |.pick c x y=>∃ b,ovl σ c=.one (.val .bool b)/\v=(if b then ovl σ x else ovl σ y)/\h'=σ.h
 |_=>nQ T σ o=some (true,v,h')
def does (want:Bool):V->Option Bool | .one (.val .bool b)=>some (b==want) | .tup []=>some false | _=>none
def iA(ops:Array Oper)(σ:St)(o:Oper)(v:V)(h':List Ob):Prop :=
 match o.guard with
 |none=>Goes π T σ o v h'\/(Yp T σ o=some (true,v)/\h'=σ.h)\/∃ id,Ux T id σ o=some (true,v,h')
 |some (j,want)=>∃ s b,Sy ops j=some s/\does want (σ.r.getD s .cK)=some b/\if b=true then Goes π T σ o v h' else v=.tup []/\h'=σ.h
end
section
variable {ρ:Type}{Γ:Orc ρ}{T:Tab}
theorem yEr{vs:List V}{hp:List Ob}{key:MK}{k:Out->List Ob->Option ρ}(tab:List (MK × Nat)):zEm Γ.quiet vs hp key k tab=none:=by
 induction tab with
 |nil=>rfl
 |cons p tab ih =>
  obtain⟨a,f⟩:=p;show br (MK.beq key a) none (zEm Γ.quiet vs hp key k tab)=none;rw[ih];cases MK.beq key a<;>rfl
theorem xCe{σ:St}{o:Oper}{k:K ρ}{r:ρ}(h:Yk Γ.quiet T σ o k=some r):∃ v h',Goes Γ.pure T σ o v h'/\k .normal ⟨cB σ.r o.dst v,h'⟩=some r:=by
 unfold Yk at h;unfold Goes;split at h
 ·rename_i x args ats ho;split at h
  ·rename_i f cs hc;unfold Orc.call at h;split at h
   ·rename_i e he;split at h
    ·rename_i c y hr;obtain⟨rfl,h⟩:=iP h;obtain⟨y,rfl,h⟩:=zNs h;exact⟨_,_,by simp only[ho];exact⟨f,cs,e,y,hc,he,hr,rfl,rfl⟩,h⟩
    ·cases h
   ·cases h
  ·split at h
   ·rw[yEr]at h;cases h
   ·cases h
 ·rename_i c x y ho;split at h
  ·rename_i b hb;rcases Xt h with ⟨rfl,h⟩|⟨rfl,h⟩
   ·exact⟨ovl σ x,σ.h,by simp only[ho];exact⟨true,hb,rfl,trivial⟩,h⟩
   ·exact⟨ovl σ y,σ.h,by simp only[ho];exact⟨false,hb,rfl,trivial⟩,h⟩
  ·cases h
 ·rename_i hne1 hne2;split at h
  ·rename_i c v h' hst;obtain⟨rfl,h⟩:=iP h;refine⟨v,h',?_,h⟩;split
   ·rename_i x args ats ho;exact absurd ho (hne1 _ _ _)
   ·rename_i c x y ho;exact absurd ho (hne2 _ _ _)
   ·exact hst
  ·cases h
theorem xCf{σ:St}{o:Oper}{v:V}{h':List Ob}(h:Goes Γ.pure T σ o v h')(k:K ρ):Yk Γ.quiet T σ o k=k .normal ⟨cB σ.r o.dst v,h'⟩:=by
 unfold Goes at h;unfold Yk;split at h
 ·rename_i x args ats ho;obtain⟨f,cs,e,y,hc,he,hr,rfl,rfl⟩:=h;simp only[ho,hc,Orc.call,Orc.quiet,he,hr,chk,ob]
 ·rename_i c x y ho;obtain⟨b,hb,rfl,rfl⟩:=h;simp only[ho,hb];cases b<;>rfl
 ·rename_i hne1 hne2;split
  ·rename_i x args ats ho;exact absurd ho (hne1 _ _ _)
  ·rename_i c x y ho;exact absurd ho (hne2 _ _ _)
  ·simp only[h,chk]
theorem ySu{want b:Bool}{v:V}(h:does want v=some b):(∃ c,v=.one (.val .bool c)/\b=(c==want))\/(v=.tup []/\b=false):=by
 unfold does at h;split at h
 ·rename_i c;simp only[aA]at h;exact .inl ⟨c,rfl,h.symm⟩
 ·simp only[aA]at h;exact .inr ⟨rfl,h.symm⟩
 ·cases h
end
section
variable {π:FuncId->Option PE}{T:Tab}
theorem zEo{σ:St}{h2:List Ob}{d:Option Tmp}{v:V}{x:Operand}(h:∀ t,d=some t->x≠.tmp t):ovl ⟨cB σ.r d v,h2⟩ x=ovl σ x:=by
 cases x with
 |tmp t =>
  cases d with
  |none=>rfl
  |some i =>
   have hne:i≠t:=λe=>h i rfl (by rw[e])
   simp only[ovl,cB,wG,qAw hne]
 |_=>rfl
theorem Wu{σ σ':St}:∀ {xs:List Operand},(∀ x∈xs,ovl σ' x=ovl σ x)->caps σ' xs=caps σ xs
 |[],_=>rfl
 |x::r,h=>by simp only[caps,h x (.head _),Wu (xs:=r) λy hy=>h y (.tail _ hy)]
theorem He{σ σ':St}:∀ {xs:List Operand},(∀ x∈xs,ovl σ' x=ovl σ x)->jQ σ' xs=jQ σ xs
 |[],_=>rfl
 |x::r,h=>by
  have:=He (xs:=r) λy hy=>h y (.tail _ hy)
  unfold jQ at *;simp only[qBt,h x (.head _),this]
theorem zGw{σ σ':St}:∀ {xs:List (Nat × Operand)},(∀ p∈xs,ovl σ' p.2=ovl σ p.2)->vals σ' xs=vals σ xs
 |[],_=>rfl
 |(i,x)::r,h=>by simp only[vals,h (i,x) (.head _),zGw (xs:=r) λy hy=>h y (.tail _ hy)]
theorem Jj{σ σ':St}{te:Ty}:∀ {xs:List (Nat × Operand)}{k:Nat},(∀ p∈xs,ovl σ' p.2=ovl σ p.2)->elems σ' te k xs=elems σ te k xs
 |[],_,_=>rfl
 |(i,x)::r,k,h=>by simp only[elems,h (i,x) (.head _),Jj (xs:=r) λy hy=>h y (.tail _ hy)]
theorem yEs{σ σ':St}{o:Oper}(hs:∀ x∈o.op.operands,ovl σ' x=ovl σ x)(hh:σ'.h=σ.h):gN T σ' o=gN T σ o:=by
 obtain⟨dst,op,type,pos,after,guard⟩:=o;cases op<;>simp only[qDo]at hs<;>simp only[gN,hh]
 case slice t x lo hi mx =>
  cases mx with
  |some m =>
   cases lo with
   |some _=>rfl
   |none =>
    cases hi with
    |none=>rfl
    |some y =>
     have hx:=hs x (by simp);have hy:=hs y (by simp);have hm:=hs m (by simp);simp only[hx,hy,hm]
  |none =>
   have hx:=hs x (by simp);have hl:xS σ' lo=xS σ lo:=by cases lo with
    |none=>rfl
    |some y=>simp only[xS,hs y (by simp)]
   have hr:xS σ' hi=xS σ hi:=by cases hi with
    |none=>rfl
    |some y=>simp only[xS,hs y (by cases lo<;>simp)]
   simp only[hx,hl,hr]
 case build t ps=>rw[Sw,Sw,zGw λp hp=>hs p.2 (by simp at hp ⊢;exact⟨p.1,hp⟩)]
 case buildSlice t n ps =>
  have:∀ te,elems σ' te 0 ps.toList=elems σ te 0 ps.toList:=λte=>Jj λp hp=>hs p.2 (by simp at hp ⊢;exact⟨p.1,hp⟩)
  simp only[this]
 case makeFunc fn first cs =>
  cases fn<;>simp only[]
  rw[Wu (xs:=cs.toList) λx hx=>hs x (by simp at hx ⊢;exact .inr hx),Wu (xs:=first.toList) λx hx=>hs x (by simp at hx ⊢;exact .inl hx)]
 case binOp op xt x y yt=>simp only[zRj,hs x (by simp),hs y (by simp)]
 case convert a b x=>simp only[Rx,hs x (by simp)]
 case call c =>
  obtain⟨cl,args,ats⟩:=c;cases cl with
  |builtin b =>
   simp only[Call.operands]at hs;have ha:∀ x∈args.toList,ovl σ' x=ovl σ x:=λx hx=>hs x (by simpa using hx)
   cases b<;>simp only[]
   all_goals first|rfl|(split<;>simp_all[Uw,Qb,zEk];done)|skip
  |_=>rfl
 all_goals first|rfl|(simp_all;done)|skip
theorem Qi{σ σ':St}{te:Ty}:∀ {ps:List (Nat × Operand)}{xs:List te.den},(∀ p∈ps,ovl σ' p.2=ovl σ p.2)->tV σ' te ps xs=tV σ te ps xs
 |[],_,_=>rfl
 |(i,x)::r,xs,h=>by
  simp only[tV,h (i,x) (.head _)];have ih:=λ(zs:List te.den)=>Qi (xs:=zs) (ps:=r) λy hy=>h y (.tail _ hy)
  simp only[ih]
theorem yJr{σ σ':St}{o:Oper}(hs:∀ x∈o.op.operands,ovl σ' x=ovl σ x)(hh:σ'.h=σ.h):Wq T σ' o=Wq T σ o:=by
 obtain⟨dst,op,type,pos,after,guard⟩:=o;cases op<;>simp only[qDo]at hs<;>simp only[Wq,hh]
 case field t x f=>simp only[hs x (by simp)]
 case unOp op t x=>cases op<;>simp only[hs x (by simp)]
 case build t ps =>
  have:∀ te (xs:List te.den),tV σ' te ps.toList xs=tV σ te ps.toList xs:=λte xs=>Qi λp hp=>hs p.2 (by simp at hp ⊢;exact⟨p.1,hp⟩)
  simp only[this]
 case index t x i=>simp only[hs x (by simp),hs i (by simp)]
 case convert a b x=>simp only[hs x (by simp)]
 case makeInterface t x=>simp only[hs x (by simp)]
 case typeAssert x xt t ok=>cases ok<;>first|rfl|simp only[hs x (by simp)]
theorem yOc{σ:St}{o:Oper}{c:Bool}{v:V}{h':List Ob}(h:stepM T σ o=some (c,v,h'))(hu:dU o=1):h'=σ.h:=by
 unfold stepM at h;split at h
 ·rename_i ho;simp[dU,ho]at hu
 ·rename_i ho;simp[dU,ho]at hu
 ·rename_i ho;simp[dU,ho]at hu
 ·repeat' (split at h)
  all_goals first|(cases h;done)|(simp only[aA,aC]at h;exact h.2.2.symm)
 ·rename_i ho;simp[dU,ho]at hu
 ·rename_i ho;simp[dU,ho]at hu
 ·cases h
theorem yJs{σ σ':St}{o:Oper}(hs:∀ x∈o.op.operands,ovl σ' x=ovl σ x)(hh:σ'.h=σ.h):stepM T σ' o=stepM T σ o:=by
 unfold stepM;split
 ·rw[hh]
 ·rename_i t m k x ho;simp only[ho,qDo]at hs;unfold zXv;rw[hs m (by simp),hs k (by simp),hs x (by simp),hh]
 ·rename_i t m k x ho;simp only[ho,qDo]at hs;unfold zXv;rw[hs m (by simp),hs k (by simp),hs x (by simp),hh]
 ·rename_i t m k ok ho;simp only[ho,qDo]at hs;rw[hs m (by simp),hs k (by simp),hh]
 ·rename_i t m k ho;simp only[ho,qDo]at hs;rw[hs m (by simp),hs k (by simp),hh]
 ·rename_i t m s x ho;simp only[ho,qDo]at hs;rw[hs m (by simp),hs s (by simp),hs x (by simp),hh]
 ·rfl
theorem Yq{σ σ':St}:∀ {ps:List (Nat × Operand)},(∀ p∈ps,ovl σ' p.2=ovl σ p.2)->Jh σ' ps=Jh σ ps
 |[],_=>rfl
 |p::r,h=>by simp only[Jh,h p (.head _),Yq (ps:=r) λy hy=>h y (.tail _ hy)]
theorem yJt{σ σ':St}{o:Oper}(hs:∀ x∈o.op.operands,ovl σ' x=ovl σ x)(hh:σ'.h=σ.h):Wp T σ' o=Wp T σ o:=by
 unfold Wp;split
 ·rename_i t n ps ho;simp only[ho,qDo]at hs;have hp:∀ p∈ps.toList,ovl σ' p.2=ovl σ p.2:=λp hp=>hs p.2 (by simp at hp ⊢;exact⟨p.1,hp⟩)
  unfold yDb;rw[Jj hp,Yq hp,hh]
 ·rename_i args ats ho;simp only[ho,qDo,Call.operands]at hs;have ha:∀ x∈args.toList,ovl σ' x=ovl σ x:=λx hx=>hs x (by simpa using hx)
  have hp:Xr T σ' args ats=Xr T σ args ats:=by
   unfold Xr;cases hl:args.toList with
   |nil=>rfl
   |cons s r =>
    cases r with
    |nil=>rfl
    |cons x r2 =>
     cases r2 with
     |cons _ _=>rfl
     |nil =>
      rw[hl]at ha;have h1:=ha s (by simp);have h2:=ha x (by simp);cases ats.toList with
      |nil=>rfl
      |cons t r3 =>
       cases r3 with
       |nil=>rfl
       |cons t2 r4 =>
        cases r4 with
        |cons _ _=>rfl
        |nil=>simp only[h1,h2,hh]
  rw[hp]
 ·rfl
theorem yJu{σ σ':St}{o:Oper}(hs:∀ x∈o.op.operands,ovl σ' x=ovl σ x)(hh:σ'.h=σ.h):nQ T σ' o=nQ T σ o:=by
 unfold nQ;split
 ·exact yJs hs hh
 ·split
  ·exact yJr hs hh
  ·split
   ·exact yJt hs hh
   ·exact yEs hs hh
theorem Goes.congr{σ σ':St}{o:Oper}{v:V}{h':List Ob}(h:Goes π T σ o v h')(hs:∀ x∈o.op.operands,ovl σ' x=ovl σ x)(hh:σ'.h=σ.h):Goes π T σ' o v h':=by
 unfold Goes at *;split at h
 ·rename_i x args ats ho;obtain⟨f,cs,e,y,hc,he,hr,rfl,rfl⟩:=h;simp only[ho,qDo,Call.operands]at hs ⊢;have e1:jQ σ' args.toList=jQ σ args.toList:=He λx hx=>hs x (by simp at hx ⊢;exact .inr hx)
  refine⟨f,cs,e,y,?_,he,?_,by rw[e1,hh],by rw[e1,hh]⟩
  ·rw[<- hc];simp only[callee,hs x (by simp)]
  ·rw[e1,hh];exact hr
 ·rename_i c x y ho;obtain⟨b,hb,rfl,rfl⟩:=h;simp only[ho,qDo]at hs ⊢;exact⟨b,by rw[hs c (by simp)];exact hb,by rw[hs x (by simp),hs y (by simp)],hh.symm⟩
 ·rename_i hne1 hne2;rw[yJu hs hh];exact h
theorem yJv{σ:St}{o:Oper}{c:Bool}{v:V}{h':List Ob}(h:gN T σ o=some (c,v,h'))(hu:dU o=0):h'=σ.h/\∀ h2,gN T ⟨σ.r,h2⟩ o=some (c,v,h2):=by
 obtain⟨dst,op,type,pos,after,guard⟩:=o;have e:∀ h2 x,ovl ⟨σ.r,h2⟩ x=ovl σ x:=λh2 x=>by cases x<;>rfl
 have e1:∀ h2 op xt x y,zRj T ⟨σ.r,h2⟩ op xt x y=zRj T σ op xt x y:=λh2 op xt x y=>by simp only[zRj,e]
 have e2:∀ h2 a b x,Rx T ⟨σ.r,h2⟩ a b x=Rx T σ a b x:=λh2 op xt x=>by simp only[Rx,e]
 have e3:∀ h2 t (ps:List (Nat × Operand)),Sw T ⟨σ.r,h2⟩ t ps=Sw T σ t ps:=λh2 t ps=>by simp only[Sw];rw[zGw (σ:=σ) (σ':=⟨σ.r,h2⟩) λp _=>e h2 p.2]
 have e4:∀ h2 (ps:List Operand),caps ⟨σ.r,h2⟩ ps=caps σ ps:=λh2 ps=>Wu λp _=>e h2 p
 cases op<;>simp only[dU,qDz]at hu<;>simp only[gN,e,e1,e2,e3,e4]at h ⊢
 case call c =>
  obtain⟨cl,args,ats⟩:=c;cases cl with
  |builtin b=>cases b<;>simp only[qDz]at hu
  |_=>cases h
 case makeFunc fn first cs =>
  cases fn
  case func f =>
   simp only[]at h ⊢
   (repeat' split at h)<;>first
    |(cases h;done)
    |(simp only[aA,aC]at h;obtain⟨rfl,rfl,rfl⟩:=h;exact⟨rfl,λh2=>by simp_all⟩)
  all_goals cases h
 all_goals (repeat' split at h)<;>first
  |(cases h;done)
  |(simp only[aA,aC]at h;obtain⟨rfl,rfl,rfl⟩:=h;exact⟨rfl,λh2=>by simp_all⟩)
theorem Aw{b:Bool}(h:uW b=0):b=true:=by
 cases b
 ·cases h
 ·rfl
theorem yOd{v:V}(h:zNx v=0):Yo v=true:=by
 unfold zNx at h;split at h
 ·split at h
  ·omega
  ·exact Aw h
 ·exact Aw h
theorem zQg(v:V):zNx v<=1\/∃ l id,v=.one l/\l.obj=some id/\zNx v=6+2*id:=by
 unfold zNx;split
 ·rename_i l;split
  ·rename_i id hid;exact .inr ⟨_,_,rfl,hid,rfl⟩
  ·left;unfold uW;split<;>omega
 ·rename_i v _;left;unfold uW;split<;>omega
theorem yOe{v:V}(h:zNy v=0):zRs v=true:=by
 unfold zNy at h;split at h
 ·omega
 ·exact Aw h
theorem zQh(v:V):zNy v<=1\/∃ id ver,v=.one (.own id ver)/\zNy v=6+2*id:=by
 unfold zNy;split
 ·exact .inr ⟨_,_,rfl,rfl⟩
 ·rename_i v _;left;unfold uW;split<;>omega
theorem Rz(v:V):yDh v=2\/∃ id off,v=.one (.ptr id off)/\yDh v=7+2*id:=by
 unfold yDh;split
 ·exact .inr ⟨_,_,rfl,rfl⟩
 ·exact .inl rfl
theorem Jk(σ:St)(xs:List Operand):yDg σ xs=2\/∃ y x id ver te ys,xs=[y,x]/\ovl σ y=.one (.own id ver)/\ovl σ x=.one (.val (.slice te) ys)/\yDg σ xs=7+2*id:=by
 unfold yDg;split
 ·rename_i y x;split
  ·rename_i id ver te ys h1 h2;exact .inr ⟨y,x,id,ver,te,ys,rfl,h1,h2,rfl⟩
  ·exact .inl rfl
 ·exact .inl rfl
theorem yEt{l:L}(h:zRs (.one l)=true)(hp:List Ob):l.view hp=l:=by
 cases l<;>first|rfl|cases h
theorem xFa{v:V}(h:Yo v=true):zRs v=true:=by
 unfold Yo at h;split at h<;>first|rfl|cases h
theorem yOf{σ:St}{o:Oper}{c:Bool}{v:V}{h':List Ob}(h:gN T σ o=some (c,v,h'))(hu:bP π σ o=0):h'=σ.h/\∀ h2,gN T ⟨σ.r,h2⟩ o=some (c,v,h2):=by
 have h0:=h;obtain⟨dst,op,type,pos,after,guard⟩:=o;have e:∀ h2 x,ovl ⟨σ.r,h2⟩ x=ovl σ x:=λh2 x=>by cases x<;>rfl
 cases op
 case fieldAddr s x f =>
  simp only[bP]at hu;have hd:=Aw hu;cases hx:ovl σ x with
  |one l =>
   rw[hx]at hd;obtain⟨F,hF⟩:∃ F:Nat->Option (Bool × L),∀ h1 off,Yd h1 l off=F off:=⟨λoff=>Yd [] l off,λh1 off=>by cases l<;>first|rfl|cases hd⟩;simp only[gN,e,hx]at h ⊢
   (repeat' split at h)<;>first
    |(cases h;done)
    |(simp only[aA,aC]at h;obtain⟨rfl,rfl,rfl⟩:=h;exact⟨rfl,λh2=>by simp_all⟩)
  |_=>rw[hx]at hd;cases hd
 case indexAddr t x i =>
  simp only[bP]at hu;have hd:=yOe hu;cases hx:ovl σ x with
  |one l =>
   rw[hx]at hd;obtain⟨F,hF⟩:∃ F:TK->Int->Option (Bool × L),∀ h1 k n,Cv T h1 k l n=F k n:=⟨λk n=>Cv T [] k l n,λh1 k n=>by cases l<;>first|(cases hd;done)|(cases k<;>rfl)|(rename_i t1 x1;cases t1<;>cases k<;>rfl)⟩;have hv:=λhp=>yEt hd hp
   simp only[gN,e,hx]at h ⊢
   (repeat' split at h)<;>first
    |(cases h;done)
    |(simp only[aA,aC]at h;obtain⟨rfl,rfl,rfl⟩:=h;exact⟨rfl,λh2=>by simp_all⟩)
  |_=>rw[hx]at hd;cases hd
 case load t x =>
  simp only[bP]at hu;have hd:=yOd hu;cases hx:ovl σ x with
  |one l =>
   rw[hx]at hd;obtain⟨F,hF⟩:∃ F:Option (Bool × V),∀ h1,loadAt T h1 t l=F:=⟨loadAt T [] t l,λh1=>by cases l<;>first|(cases hd;done)|rfl⟩;simp only[gN,e,hx,hF]at h ⊢
   (repeat' split at h)<;>first
    |(cases h;done)
    |(simp only[aA,aC]at h;obtain⟨rfl,rfl,rfl⟩:=h;exact⟨rfl,λh2=>by simp_all⟩)
  |_=>rw[hx]at hd;cases hd
 case slice t x lo hi mx =>
  simp only[bP]at hu;have hd:=Aw hu;cases mx with
  |some m =>
   cases lo with
   |some _=>cases h
   |none =>
    cases hi with
    |none=>cases h
    |some y =>
     simp only[gN,e]at h ⊢
     (repeat' split at h)<;>first
      |(cases h;done)
      |(simp only[aA,aC]at h;obtain⟨rfl,rfl,rfl⟩:=h;exact⟨rfl,λh2=>by simp_all⟩)
  |none =>
   have eo:∀ h2 x,xS ⟨σ.r,h2⟩ x=xS σ x:=λh2 x=>by cases x with
    |none=>rfl
    |some y=>simp only[xS,e]
   cases hx:ovl σ x with
   |one l =>
    rw[hx]at hd;obtain⟨F,hF⟩:∃ F:TK->Option Int->Option Int->Option (Bool × L),∀ h1 k a b,slice k l a b h1=F k a b:=⟨λk a b=>slice k l a b [],λh1 k a b=>by cases l<;>first|(cases hd;done)|(cases k<;>rfl)|(rename_i t1 x1;cases t1<;>cases k<;>rfl)⟩;have hv:=λhp=>yEt (xFa hd) hp
    simp only[gN,e,eo,hx]at h ⊢;cases l<;>first|(cases hd;done)|skip
    all_goals try simp only[]at h ⊢
    all_goals (repeat' split at h)<;>first
     |(cases h;done)
     |(simp only[aA,aC]at h;obtain⟨rfl,rfl,rfl⟩:=h;exact⟨rfl,λh2=>by simp_all⟩)
   |_=>rw[hx]at hd;cases hd
 case call cc =>
  obtain⟨cl,args,ats⟩:=cc;cases cl with
  |builtin b =>
   cases b
   case len =>
    simp only[bP]at hu;have hd:=Aw hu;simp only[gN]at h ⊢;split at h
    ·rename_i x t _ ha hat;simp only[ha,jQ,qBt,List.map_nil,dF,Bool.and_true]at hd;have key:∀ h2,Uw T ⟨σ.r,h2⟩ t x=Uw T σ t x:=λh2=>by
      simp only[Uw,e];cases hx:ovl σ x with
      |one l =>
       rw[hx]at hd;cases T.get t with
       |none=>rfl
       |some ti=>simp only[];cases l<;>first|(cases hd;done)|rfl|(rename_i t1 x1;cases t1<;>rfl)
      |_=>rw[hx]at hd;cases hd
     simp only[key];split at h
     ·rename_i c1 v1 hl;simp only[aA,aC]at h;obtain⟨rfl,rfl,rfl⟩:=h;exact⟨rfl,λh2=>by simp only⟩
     ·cases h
    all_goals first|(cases h;done)|(simp_all;done)
   case append=>exfalso;simp only[bP]at hu;rcases Jk σ args.toList with h2|⟨_,_,_,_,_,_,_,_,_,h2⟩<;>omega
   all_goals first|(simp only[bP,dU,qDz,OfNat.ofNat_ne_zero]at hu;done)|(exfalso;revert hu;simp[bP,dU];done)
  |_=>cases h
 case convert a b x =>
  have e2:∀ h2,Rx T ⟨σ.r,h2⟩ a b x=Rx T σ a b x:=λh2=>by simp only[Rx,e]
  simp only[gN,e2]at h ⊢;split at h
  ·rename_i c1 v1 hc;simp only[aA,aC]at h;obtain⟨rfl,rfl,rfl⟩:=h;exact⟨rfl,λh2=>by simp only⟩
  ·cases h
 case store t x y =>
  exfalso;simp only[bP]at hu;rcases Rz (ovl σ x)with h2|⟨id,off,_,h2⟩<;>omega
 all_goals first|exact yJv h0 hu|(exfalso;revert hu;simp[bP,dU];done)
theorem ySv{σ:St}{o:Oper}{c:Bool}{v:V}{h':List Ob}(h:Wq T σ o=some (c,v,h'))(hu:bP π σ o=0):h'=σ.h/\∀ h2,Wq T ⟨σ.r,h2⟩ o=some (c,v,h2):=by
 obtain⟨dst,op,type,pos,after,guard⟩:=o;have e:∀ h2 x,ovl ⟨σ.r,h2⟩ x=ovl σ x:=λh2 x=>by cases x<;>rfl
 cases op<;>simp only[Wq,e]at h ⊢
 case unOp op t x =>
  cases op<;>simp only[reduceCtorEq]at h ⊢
  (repeat' split at h)<;>first
   |(cases h;done)
   |(simp only[aA,aC]at h;obtain⟨rfl,rfl,rfl⟩:=h;exact⟨rfl,λh2=>by simp_all⟩)
 case build t ps =>
  have es:∀ h2 te (xs:List te.den),tV ⟨σ.r,h2⟩ te ps.toList xs=tV σ te ps.toList xs:=λh2 te xs=>Qi λp _=>e h2 p.2
  simp only[es]at h ⊢
  (repeat' split at h)<;>first
   |(cases h;done)
   |(simp only[aA,aC]at h;obtain⟨rfl,rfl,rfl⟩:=h;exact⟨rfl,λh2=>by simp_all⟩)
 case field t x f =>
  (repeat' split at h)<;>first
   |(cases h;done)
   |(simp only[aA,aC]at h;obtain⟨rfl,rfl,rfl⟩:=h;exact⟨rfl,λh2=>by simp_all⟩)
 case index t x i =>
  (repeat' split at h)<;>first
   |(cases h;done)
   |(simp only[aA,aC]at h;obtain⟨rfl,rfl,rfl⟩:=h;exact⟨rfl,λh2=>by simp_all⟩)
 case makeInterface t x=>simp[bP,dU]at hu
 case typeAssert x xt t ok=>simp[bP,dU]at hu
 case convert a b x =>
  simp only[bP]at hu;split at hu
  ·rename_i k n hx;exfalso;rw[hx]at h;cases hA:T.get a with
   |none=>simp[hA]at h
   |some ts =>
    cases hB:T.get b with
    |none=>simp[hA,hB]at h
    |some td =>
     simp only[hA,hB]at h;split at h
     ·rename_i e1 hk hd;cases he:T.get e1 with
      |none=>simp[he]at h
      |some te =>
       simp only[he]at h;split at h
       ·simp[rowsOf]at h
       ·cases h
     ·rename_i e1 hk hd;cases he:T.get e1 with
      |none=>simp[he]at h
      |some te=>simp[he]at h
     ·cases h
  ·cases hu
 all_goals cases h
theorem ySw{σ:St}{o:Oper}{c:Bool}{v:V}{h':List Ob}(h:nQ T σ o=some (c,v,h'))(hu:bP π σ o=0):h'=σ.h/\∀ h2,nQ T ⟨σ.r,h2⟩ o=some (c,v,h2):=by
 unfold nQ at h;split at h
 ·rename_i hm;exfalso;unfold isM at hm;split at hm
  ·rename_i ho;simp[bP,dU,ho]at hu
  ·rename_i ho;simp[bP,dU,ho]at hu
  ·rename_i ho;simp[bP,dU,ho]at hu
  ·rename_i ho;simp[bP,dU,ho]at hu
  ·rename_i ho;simp[bP,dU,ho]at hu
  ·rename_i ho;simp[bP,dU,ho]at hu
  ·cases hm
 ·rename_i hm;split at h
  ·rename_i hx;obtain⟨h1,h2⟩:=ySv h hu;exact⟨h1,λh3=>by unfold nQ;rw[hm,hx];exact h2 h3⟩
  ·rename_i hx;split at h
   ·exfalso;unfold Wp at h;split at h
    ·rename_i ho;simp[bP,ho]at hu
    ·rename_i ho;simp only[bP,ho]at hu;rcases Jk σ _ with h1|⟨_,_,id,_,_,_,_,_,_,h1⟩<;>rw[h1]at hu<;>omega
    ·cases h
   ·rename_i hsn;obtain⟨h1,h2⟩:=yOf h hu;exact⟨h1,λh3=>by unfold nQ;rw[hm,hx,hsn];exact h2 h3⟩
theorem Goes.dry{P:Program}(hπ:∀ f e,π f=some e->e.OK P f){σ:St}{o:Oper}{v:V}{h':List Ob}(h:Goes π T σ o v h')(hu:bP π σ o=0):h'=σ.h/\∀ h2,Goes π T ⟨σ.r,h2⟩ o v h2:=by
 unfold Goes at *;split at h
 ·rename_i x args ats ho;obtain⟨f,cs,e,y,hc,he,hr,rfl,rfl⟩:=h;simp only[bP,ho,hc,he]at hu;split at hu
  ·rename_i hle;have hok:=hπ f e he;have hd:=Aw hu;refine⟨hok.same hle _ _ _,λh2=>?_⟩;have ha:jQ ⟨σ.r,h2⟩ args.toList=jQ σ args.toList:=He λx _=>by cases x<;>rfl
   have hcl:callee ⟨σ.r,h2⟩ x args.toList=callee σ x args.toList:=by
    have:ovl ⟨σ.r,h2⟩ x=ovl σ x:=by cases x<;>rfl
    simp only[callee,this]
   refine⟨f,cs,e,y,by rw[hcl];exact hc,he,?_,?_,?_⟩
   ·rw[ha,(hok.dry hle _ h2 σ.h hd).1];exact hr
   ·rw[ha];exact(hok.dry hle _ h2 σ.h hd).2 y ▸ rfl
   ·rw[hok.same hle]
  ·split at hu<;>cases hu
 ·rename_i c x y ho;obtain⟨b,hb,rfl,rfl⟩:=h;exact⟨rfl,λh2=>⟨b,hb,rfl,rfl⟩⟩
 ·exact ySw h hu
theorem yJw{σ:St}{o:Oper}{c:Bool}{v:V}{h':List Ob}(h:gN T σ o=some (c,v,h'))(hu:dU o=1):h'=σ.h:=by
 obtain⟨dst,op,type,pos,after,guard⟩:=o;cases op<;>simp only[dU,Nat.zero_ne_one,reduceCtorEq,Nat.succ.injEq]at hu<;>simp only[gN]at h
 case call c =>
  obtain⟨cl,args,ats⟩:=c;cases cl with
  |builtin b =>
   cases b<;>simp only[Nat.succ.injEq,qDz]at hu
   all_goals try simp only[]at h
   all_goals (repeat' split at h)<;>first
    |(cases h;done)
    |(simp only[aA,aC]at h;obtain⟨rfl,rfl,rfl⟩:=h;rfl)
    |(simp_all;done)
    |(rename_i hz _ _;cases hz)
    |trace_state
  |_=>cases h
 case slice t x lo hi mx =>
  cases mx with
  |some m =>
   cases lo with
   |some _=>cases h
   |none =>
    cases hi with
    |none=>cases h
    |some y =>
     simp only[]at h
     (repeat' split at h)<;>first
      |(cases h;done)
      |(simp only[aA,aC]at h;obtain⟨rfl,rfl,rfl⟩:=h;rfl)
  |none =>
   simp only[]at h
   (repeat' split at h)<;>first
    |(cases h;done)
    |(simp only[aA,aC]at h;obtain⟨rfl,rfl,rfl⟩:=h;rfl)
 all_goals (repeat' split at h)<;>first
  |(cases h;done)
  |(simp only[aA,aC]at h;obtain⟨rfl,rfl,rfl⟩:=h;rfl)
theorem yOg{σ:St}{o:Oper}(hne:∀ x args ats,o.op≠.call { callee:=.value x,args:=args,argTypes:=ats })(h:bP π σ o=1):dU o=1:=by
 obtain⟨dst,op,type,pos,after,guard⟩:=o;cases op
 case call cc =>
  obtain⟨cl,args,ats⟩:=cc;cases cl with
  |value x=>exact absurd rfl (hne x args ats)
  |builtin b =>
   cases b
   case append=>simp only[bP]at h;rcases Jk σ args.toList with h2|⟨_,_,_,_,_,_,_,_,_,h2⟩<;>omega
   all_goals first|exact h|simp[dU]
  |_=>first|exact h|simp[dU]
 case convert a b x =>
  simp only[bP]at h;split at h<;>cases h
 case store t x y =>
  simp only[bP]at h;rcases Rz (ovl σ x)with h2|⟨id,off,_,h2⟩<;>omega
 case buildSlice=>simp only[bP]at h;cases h
 case alloc=>simp only[bP]at h;cases h
 case box=>simp only[bP]at h;cases h
 all_goals first|exact h|simp[dU]
theorem xCg{σ:St}{o:Oper}(h:6<=bP π σ o):(∃ t x l id,o.op=.load t x/\ovl σ x=.one l/\l.obj=some id/\bP π σ o=6+2*id)\/(∃ t x i id ver,o.op=.indexAddr t x i/\ovl σ x=.one (.own id ver)/\bP π σ o=6+2*id)\/(∃ t x y id off,o.op=.store t x y/\ovl σ x=.one (.ptr id off)/\bP π σ o=7+2*id) \/
 ∃ args ats y x id ver te ys,o.op=.call { callee:=.builtin .append,args:=args,argTypes:=ats }/\args.toList=[y,x]/\ovl σ y=.one (.own id ver)/\ovl σ x=.one (.val (.slice te) ys)/\bP π σ o=7+2*id:=by
 obtain⟨dst,op,type,pos,after,guard⟩:=o;cases op
 case load t x =>
  simp only[bP]at h ⊢;rcases zQg (ovl σ x)with h2|⟨l,id,h1,h3,h2⟩
  ·omega
  ·exact .inl ⟨t,x,l,id,rfl,h1,h3,h2⟩
 case indexAddr t x i =>
  simp only[bP]at h ⊢;rcases zQh (ovl σ x)with h2|⟨id,ver,h1,h2⟩
  ·omega
  ·exact .inr (.inl ⟨t,x,i,id,ver,rfl,h1,h2⟩)
 case store t x y =>
  simp only[bP]at h ⊢;rcases Rz (ovl σ x)with h2|⟨id,off,h1,h2⟩
  ·omega
  ·exact .inr (.inr (.inl ⟨t,x,y,id,off,rfl,h1,h2⟩))
 case call cc =>
  obtain⟨cl,args,ats⟩:=cc;cases cl with
  |value x =>
   exfalso;simp only[bP]at h;split at h
   ·split at h
    ·split at h
     ·revert h;generalize dF V.isD _=b;cases b<;>simp[uW]
     ·split at h<;>omega
    ·omega
   ·omega
  |builtin b =>
   cases b
   case append =>
    simp only[bP]at h ⊢;rcases Jk σ args.toList with h2|⟨y,x,id,ver,te,ys,h1,h3,h4,h2⟩
    ·omega
    ·exact .inr (.inr (.inr ⟨args,ats,y,x,id,ver,te,ys,rfl,h1,h3,h4,h2⟩))
   all_goals exfalso
   case len=>revert h;simp only[bP];generalize dF Yo _=b;cases b<;>simp[uW]
   all_goals (revert h;simp[bP,dU])
  |_=>exfalso;revert h;simp[bP,dU]
 case convert a b x =>
  exfalso;simp only[bP]at h;split at h<;>omega
 case fieldAddr s x f=>exfalso;revert h;simp only[bP];generalize zRs _=b;cases b<;>simp[uW]
 case slice t x lo hi mx=>exfalso;revert h;simp only[bP];generalize Yo _=b;cases b<;>simp[uW]
 all_goals (exfalso;revert h;simp[bP,dU])
theorem yWt{σ:St}{o:Oper}(h:bP π σ o=3):(∃ t n ps,o.op=.buildSlice t n ps)\/(∃ t,o.op=.alloc t)\/(∃ t x,o.op=.box t x) \/
 ∃ x args ats f cs e,o.op=.call { callee:=.value x,args:=args,argTypes:=ats }/\callee σ x args.toList=some (f,cs)/\π f=some e/\e.use=3/\dF V.isD (jQ σ args.toList++cs)=true:=by
 obtain⟨dst,op,type,pos,after,guard⟩:=o;cases op
 case buildSlice t n ps=>exact .inl ⟨t,n,ps,rfl⟩
 case alloc t=>exact .inr (.inl ⟨t,rfl⟩)
 case box t x=>exact .inr (.inr (.inl ⟨t,x,rfl⟩))
 case call cc =>
  obtain⟨cl,args,ats⟩:=cc;cases cl with
  |value x =>
   simp only[bP]at h;split at h
   ·rename_i f cs hc;split at h
    ·rename_i e he;split at h
     ·exfalso;revert h;generalize dF V.isD _=b;cases b<;>simp[uW]
     ·split at h
      ·rename_i hb;rw[aD]at hb;exact .inr (.inr (.inr ⟨x,args,ats,f,cs,e,rfl,hc,he,aP hb.1,hb.2⟩))
      ·cases h
    ·cases h
   ·cases h
  |builtin b =>
   exfalso;cases b
   case append=>simp only[bP]at h;rcases Jk σ args.toList with h2|⟨_,_,_,_,_,_,_,_,_,h2⟩<;>omega
   case len=>revert h;simp only[bP];generalize dF Yo _=b;cases b<;>simp[uW]
   all_goals (revert h;simp[bP,dU])
  |_=>exfalso;revert h;simp[bP,dU]
 case convert a b x =>
  exfalso;simp only[bP]at h;split at h<;>cases h
 case load t x =>
  exfalso;simp only[bP]at h;rcases zQg (ovl σ x)with h2|⟨_,id,_,_,h2⟩<;>omega
 case store t x y =>
  exfalso;simp only[bP]at h;rcases Rz (ovl σ x)with h2|⟨id,off,_,h2⟩<;>omega
 case fieldAddr s x f=>exfalso;revert h;simp only[bP];generalize zRs _=b;cases b<;>simp[uW]
 case indexAddr s x f =>
  exfalso;simp only[bP]at h;rcases zQh (ovl σ x)with h2|⟨_,_,_,h2⟩<;>omega
 case slice t x lo hi mx=>exfalso;revert h;simp only[bP];generalize Yo _=b;cases b<;>simp[uW]
 all_goals (exfalso;revert h;simp[bP,dU])
def xD(fo:Option Ob)(id:Nat)(h:List Ob):List Ob:=match fo with|none=>h|some o=>h.set id o
theorem Wv{fo:Option Ob}{id j:Nat}{h:List Ob}(hne:id≠j):(xD fo id h)[j]?=h[j]?:=by
 cases fo with
 |none=>rfl
 |some o=>simp only[xD,qAw hne]
theorem oZ{fo:Option Ob}{id:Nat}{h:List Ob}:(xD fo id h).length=h.length:=by
 cases fo<;>simp[xD]
theorem ySx{f1 f2:Option Ob}{i j:Nat}{h:List Ob}(hne:i≠j):xD f2 j (xD f1 i h)=xD f1 i (xD f2 j h):=by
 cases f1 with
 |none=>rfl
 |some o1=>cases f2 with
  |none=>rfl
  |some o2=>simp only[xD];rw[List.set_comm _ _ hne]
theorem yAg{h h2:List Ob}{t:TypeId}{l:L}{id:Nat}(hl:l.obj=some id)(he:h2[id]?=h[id]?):loadAt T h2 t l=loadAt T h t l:=by
 cases l<;>simp only[L.obj,aA,reduceCtorEq]at hl<;>subst hl<;>simp only[loadAt,he]
theorem zQi{h:List Ob}{t:TypeId}{l:L}{id:Nat}{r:Bool × V}(hl:l.obj=some id)(hr:loadAt T h t l=some r):id<h.length:=by
 rcases jF id h.length with hlt|hge
 ·exact hlt
 ·exfalso;have hn:=qAu hge;unfold loadAt at hr;split at hr
  ·cases hr
  ·cases l<;>simp only[L.obj,aA,reduceCtorEq]at hl<;>subst hl<;>simp only[hn]at hr<;>cases hr
theorem yLc{h h2:List Ob}{id ver:Nat}(he:h2[id]?=h[id]?):L.view h2 (.own id ver)=L.view h (.own id ver):=by
 simp only[L.view,he]
theorem yJx{h h2:List Ob}{k:TK}{id ver:Nat}{n:Int}(he:h2[id]?=h[id]?):Cv T h2 k (L.view h2 (.own id ver)) n=Cv T h k (L.view h (.own id ver)) n:=by
 rw[yLc he];simp only[L.view];split<;>cases k<;>simp only[Cv,he]
theorem yEu{h:List Ob}{k:TK}{id ver:Nat}{n:Int}{r:Bool × L}(hr:Cv T h k (L.view h (.own id ver)) n=some r):id<h.length:=by
 rcases jF id h.length with hlt|hge
 ·exact hlt
 ·exfalso;simp only[L.view,qAu hge]at hr;cases k<;>simp only[Cv]at hr<;>cases hr
theorem yOh{h:List Ob}{t:TypeId}{id off:Nat}{v:V}{c:Bool}{h':List Ob}(hs:storeAt T h t (.ptr id off) v=some (c,h')):id<h.length/\∃ o,h'=h.set id o/\∀ h2,h2[id]?=h[id]?->storeAt T h2 t (.ptr id off) v=some (c,h2.set id o):=by
 unfold storeAt at hs ⊢;split at hs
 ·rename_i ti new hti hnew;split at hs
  ·rename_i hsz;simp only at hs ⊢;split at hs
   ·rename_i e ls ho;cases hm:Mt ls off new with
    |none=>rw[hm]at hs;cases hs
    |some ls' =>
     rw[hm]at hs;simp only[kU,aA,aC]at hs;obtain⟨rfl,rfl⟩:=hs;refine⟨(bK.1 ho).1,_,rfl,λh2 he=>?_⟩;rw[if_pos hsz,he,ho];simp only[hm,kU]
   ·cases hs
  ·cases hs
 ·cases hs
theorem yOi{σ:St}{t:TypeId}{s x:Operand}{id ver:Nat}{ta:Ty}{za:(Ty.slice ta).den}{c:Bool}{v:V}{h':List Ob}(hs:ovl σ s=.one (.own id ver))(hx:ovl σ x=.one (.val (.slice ta) za))(h:Qb T σ t s x=some (c,v,h')):id<σ.h.length/\∃ o',h'=σ.h.set id o'/\∀ h2,h2[id]?=σ.h[id]?->Qb T ⟨σ.r,h2⟩ t s x=some (c,v,h2.set id o'):=by
 have e:∀ h2 y,ovl ⟨σ.r,h2⟩ y=ovl σ y:=λh2 y=>by cases y<;>rfl
 unfold Qb at h ⊢;simp only[e,hs,hx]at h ⊢;split at h
 ·rename_i ee te ti ls lx h1 h2 h3;simp only[V.one.injEq]at h2 h3;subst h2 h3;simp only[h1];have er:∀ h2,rowsOf h2 te (.val (.slice ta) za)=rowsOf σ.h te (.val (.slice ta) za):=λ_=>rfl
  simp only[er];split at h
  ·rename_i c1 ys hr;simp only at h;split at h
   ·rename_i e' t' v' rows ho;split at h
    ·rename_i hc;simp only[aA,aC]at h;obtain⟨rfl,rfl,rfl⟩:=h;refine⟨(bK.1 ho).1,_,rfl,λh2 he=>?_⟩;simp only[he,ho];rw[dif_pos hc]
    ·cases h
   ·cases h
  ·cases h
 ·cases h
theorem Goes.at6{P:Program}{σ:St}{o:Oper}{v:V}{h':List Ob}(h:Goes π T σ o v h')(hu:6<=bP π σ o):∃ (id:Nat) (fo:Option Ob),bP π σ o / 2=id+3/\id<σ.h.length/\(bP π σ o % 2=0->fo=none)/\h'=xD fo id σ.h/\∀ h2,h2[id]?=σ.h[id]?->Goes π T ⟨σ.r,h2⟩ o v (xD fo id h2):=by
 obtain⟨dst,op,type,pos,after,guard⟩:=o;have e:∀ h2 y,ovl ⟨σ.r,h2⟩ y=ovl σ y:=λh2 y=>by cases y<;>rfl
 rcases xCg hu with ⟨t,x,l,id,ho,hx,hob,hq⟩|⟨t,x,i,id,ver,ho,hx,hq⟩|⟨t,x,y,id,off,ho,hx,hq⟩|⟨args,ats,y,x,id,ver,te,ys,ho,hargs,hy,hx,hq⟩
 ·simp only at ho;subst ho;refine⟨id,none,by omega,?_⟩;unfold Goes at h ⊢;simp only[nQ,isM,isX,isS,gN,e,hx]at h ⊢;split at h
  ·rename_i c u hc;simp only[aA,aC]at h;obtain⟨rfl,rfl,rfl⟩:=h;exact⟨zQi hob hc,λ_=>trivial,rfl,λh2 he=>by rw[yAg hob he,hc];rfl⟩
  ·cases h
 ·simp only at ho;subst ho;refine⟨id,none,by omega,?_⟩;unfold Goes at h ⊢;simp only[nQ,isM,isX,isS,gN,e,hx]at h ⊢;split at h
  ·rename_i ti l1 tn n h1 h2 h3;simp only[V.one.injEq]at h2;subst h2;split at h
   ·rename_i c u hc;simp only[aA,aC]at h;obtain⟨rfl,rfl,rfl⟩:=h;exact⟨yEu hc,λ_=>trivial,rfl,λh2 he=>by simp only[h1,h3,yJx he,hc];rfl⟩
   ·cases h
  ·cases h
 ·simp only at ho;subst ho;unfold Goes at h;simp only[nQ,isM,isX,isS,gN,e,hx]at h;split at h
  ·rename_i c h1 hc;simp only[aA,aC]at h;obtain⟨rfl,rfl,rfl⟩:=h;obtain⟨hlt,o',rfl,hall⟩:=yOh hc;refine⟨id,some o',by omega,hlt,λh0=>by omega,rfl,λh2 he=>?_⟩;unfold Goes;simp only[nQ,isM,isX,isS,gN,e,hx,hall h2 he];rfl
  ·cases h
 ·simp only at ho;subst ho;unfold Goes at h ⊢;have hS:isS T ⟨dst,.call { callee:=.builtin .append,args:=args,argTypes:=ats },type,pos,after,guard⟩=false:=by
   cases hS:isS T ⟨dst,.call { callee:=.builtin .append,args:=args,argTypes:=ats },type,pos,after,guard⟩with
   |false=>rfl
   |true =>
    exfalso;simp only[nQ,isM,isX,hS,Wp]at h;split at h
    ·split at h
     ·unfold Xr at h;rw[hargs]at h;split at h
      ·rename_i s0 x0 t0 t1 he0 _;simp only[aL,and_true]at he0;obtain⟨rfl,rfl⟩:=he0;rw[hx]at h;split at h
       ·rename_i h9;simp at h9
       ·cases h
      ·cases h
     ·cases h
    ·cases h
  simp only[nQ,isM,isX,hS,gN,hargs]at h ⊢;cases hts:ats.toList with
  |nil=>rw[hts]at h;cases h
  |cons t1 r1 =>
   cases r1 with
   |nil=>rw[hts]at h;cases h
   |cons t2 r2 =>
    cases r2 with
    |cons _ _=>rw[hts]at h;cases h
    |nil =>
     rw[hts]at h;simp only at h ⊢;split at h
     ·rename_i htt;obtain⟨hlt,o',rfl,hall⟩:=yOi hy hx h;refine⟨id,some o',by omega,hlt,λh0=>by omega,rfl,λh2 he=>?_⟩;rw[if_pos htt];exact hall h2 he
     ·unfold zEk at h;simp only[hy,hx]at h;split at h
      ·rename_i h4;simp at h4
      ·cases h
theorem Goes.row{P:Program}(hπ:∀ f e,π f=some e->e.OK P f){σ:St}{o:Oper}{v:V}{h':List Ob}(h:Goes π T σ o v h')(hu:bP π σ o=3):∃ os,h'=σ.h++os/\∀ h2,h2.length=σ.h.length->Goes π T ⟨σ.r,h2⟩ o v (h2++os):=by
 have key:=yWt hu;obtain⟨dst,op,type,pos,after,guard⟩:=o;have e:∀ h2 y,ovl ⟨σ.r,h2⟩ y=ovl σ y:=λh2 y=>by cases y<;>rfl
 have el:∀ h2 te k ps,elems ⟨σ.r,h2⟩ te k ps=elems σ te k ps:=λh2 te k ps=>Jj λp _=>e h2 p.2
 simp only at key;rcases key with ⟨t,n,ps,ho⟩|⟨t,ho⟩|⟨t,x,ho⟩|⟨x,args,ats,f,cs,pe,ho,hc,he,hu3,hd⟩
 rotate_left 3
 ·subst ho;unfold Goes at h ⊢;obtain⟨f',cs',e',y,hc',he',hr,rfl,rfl⟩:=h;rw[hc]at hc';obtain⟨rfl,rfl⟩:=Prod.mk.inj (Option.some.inj hc');rw[he]at he';obtain rfl:=Option.some.inj he';have hok:=hπ f pe he;obtain⟨os,k1,_⟩:=((hok.row hu3 _ σ.h σ.h hd rfl).2 y).2;refine⟨os,k1,λh2 hl=>?_⟩;obtain⟨r1,r2⟩:=hok.row hu3 _ σ.h h2 hd hl;obtain⟨r3,os',r4,r5⟩:=r2 y;have ho:os'=os:=List.append_cancel_left (r4.symm.trans k1);have ha:jQ ⟨σ.r,h2⟩ args.toList=jQ σ args.toList:=He λx _=>by cases x<;>rfl
  have hcl:callee ⟨σ.r,h2⟩ x args.toList=callee σ x args.toList:=by
   have:ovl ⟨σ.r,h2⟩ x=ovl σ x:=by cases x<;>rfl
   simp only[callee,this]
  refine⟨f,cs,pe,y,by rw[hcl];exact hc,he,?_,?_,?_⟩
  ·rw[ha,<- r1];exact hr
  ·rw[ha];exact r3
  ·rw[ha,r5,ho]
 ·subst ho;unfold Goes at h ⊢;have en:∀ h2 ps,Jh ⟨σ.r,h2⟩ ps=Jh σ ps:=λh2 ps=>Yq λp _=>e h2 p.2
  cases hS:isS T ⟨dst,.buildSlice t n ps,type,pos,after,guard⟩with
  |true =>
   simp only[nQ,isM,isX,hS,Wp,yDb,e,el,en]at h ⊢;split at h
   ·rename_i e1 ei ti h1;split at h
    ·rename_i hc;split at h
     ·rename_i ys hy;simp only[aA,aC]at h;obtain⟨_,rfl,rfl⟩:=h;exact⟨_,rfl,λh2 hl=>by simp only[h1,if_pos hc,hy,hl]⟩
     ·cases h
    ·cases h
   ·cases h
  |false =>
   simp only[nQ,isM,isX,hS,gN,e,el]at h ⊢;split at h
   ·rename_i e1 te ti h1;split at h
    ·rename_i hc;split at h
     ·rename_i ys hy;simp only[aA,aC]at h;obtain⟨_,rfl,rfl⟩:=h;exact⟨_,rfl,λh2 hl=>by simp only[h1,if_pos hc,hy,hl]⟩
     ·cases h
    ·cases h
   ·cases h
 all_goals subst ho<;>unfold Goes at h ⊢ <;> simp only[nQ,isM,isX,isS,gN,e,el]at h ⊢
 ·split at h
  ·rename_i ti h1;simp only[aA,aC]at h;obtain⟨_,rfl,rfl⟩:=h;exact⟨_,rfl,λh2 hl=>by simp only[h1,hl]⟩
  ·cases h
 ·split at h
  ·rename_i ls h1;simp only[aA,aC]at h;obtain⟨_,rfl,rfl⟩:=h;exact⟨_,rfl,λh2 hl=>by simp only[h1,hl]⟩
  ·cases h
theorem yWu{o:Oper}(h:dU o=1):isS T o=false:=by
 obtain⟨dst,op,type,pos,after,guard⟩:=o;cases op<;>first|rfl|(simp[dU]at h;done)|skip
 rename_i c;obtain⟨cl,args,ats⟩:=c;cases cl with
 |builtin b=>cases b<;>first|rfl|(simp[dU]at h;done)
 |_=>rfl
theorem yWv{o:Oper}(h:dU o=1):isX T o=false:=by
 obtain⟨dst,op,type,pos,after,guard⟩:=o;cases op<;>first|rfl|(simp[dU]at h;done)
theorem Goes.xKp{P:Program}(hπ:∀ f e,π f=some e->e.OK P f){σ:St}{o:Oper}{v:V}{h':List Ob}(h:Goes π T σ o v h')(hu:bP π σ o<=1):h'=σ.h:=by
 rcases jF (bP π σ o) 1 with h0|h0
 ·exact(h.dry hπ (by omega)).1
 have hu1:bP π σ o=1:=by omega
 unfold Goes at h;split at h
 ·rename_i x args ats ho;obtain⟨f,cs,e,y,hc,he,hr,rfl,rfl⟩:=h;simp only[bP,ho,hc,he]at hu;split at hu
  ·rename_i hle;exact(hπ f e he).same hle _ _ _
  ·split at hu<;>omega
 ·obtain⟨_,_,_,e⟩:=h;exact e
 ·rename_i hne1 hne2;have hu2:=yOg (λx args ats e=>hne1 x args ats e) hu1;have hx:=yWv (T:=T) hu2;unfold nQ at h;split at h
  ·exact yOc h hu2
  ·rw[hx,yWu hu2]at h;exact yJw h hu2
theorem zKw{r:List V}{x y:Option Tmp}{u v:V}(h:∀ d,x=some d->y≠some d):cB (cB r x u) y v=cB (cB r y v) x u:=by
 cases x with
 |none=>cases y<;>rfl
 |some i =>
  cases y with
  |none=>rfl
  |some j =>
   have hne:i≠j:=λe=>h i rfl (by rw[e])
   simp only[cB];rw[List.set_comm _ _ hne]
theorem yAh{r:List V}{x:Option Tmp}{u:V}{s:Nat}(h:∀ d,x=some d->s≠d):(cB r x u).getD s .cK=r.getD s .cK:=by
 cases x with
 |none=>rfl
 |some i=>simp only[cB,wG,qAw (λe=>h i rfl e.symm)]
theorem yOj{σ σ':St}{o:Oper}(hs:∀ x∈o.op.operands,ovl σ' x=ovl σ x):zKv T σ' o=zKv T σ o:=by
 obtain⟨dst,op,type,pos,after,guard⟩:=o;cases op<;>simp only[qDo]at hs<;>simp only[zKv]
 case buildSlice t n ps =>
  have:∀ te,elems σ' te 0 ps.toList=elems σ te 0 ps.toList:=λte=>Jj λp hp=>hs p.2 (by simp at hp ⊢;exact⟨p.1,hp⟩)
  simp only[this]
theorem yOk{σ σ':St}{o:Oper}(hs:∀ x∈o.op.operands,ovl σ' x=ovl σ x):zYc T σ' o=zYc T σ o:=by
 obtain⟨dst,op,type,pos,after,guard⟩:=o;cases op<;>simp only[qDo]at hs<;>simp only[zYc]
 case makeSlice t l c=>simp only[hs l (by simp),hs c (by simp)]
theorem yJy{σ σ':St}{o:Oper}(hs:∀ x∈o.op.operands,ovl σ' x=ovl σ x):zGv T σ' o=zGv T σ o:=by
 obtain⟨dst,op,type,pos,after,guard⟩:=o;cases op<;>simp only[qDo]at hs<;>simp only[zGv]
 case call c =>
  obtain⟨cl,args,ats⟩:=c;cases cl with
  |builtin b =>
   simp only[Call.operands]at hs;have ha:∀ x∈args.toList,ovl σ' x=ovl σ x:=λx hx=>hs x (by simpa using hx)
   cases b<;>simp only[]
   split
   ·rename_i s x t t' h1 h2;rw[h1]at ha;rw[ha s (by simp),ha x (by simp)]
   ·rfl
  |_=>rfl
theorem zUx{σ σ':St}{o:Oper}(hs:∀ x∈o.op.operands,ovl σ' x=ovl σ x):Yp T σ' o=Yp T σ o:=by
 unfold Yp;rw[yOk hs,yOj hs,yJy hs]
theorem yOl{σ σ':St}{o:Oper}{id:Nat}(hs:∀ x∈o.op.operands,ovl σ' x=ovl σ x)(hh:σ'.h=σ.h):Ux T id σ' o=Ux T id σ o:=by
 obtain⟨dst,op,type,pos,after,guard⟩:=o;cases op<;>simp only[qDo]at hs<;>simp only[Ux]
 case makeSlice t l c=>simp only[hs l (by simp),hs c (by simp),hh]
theorem xCh{σ:St}{o:Oper}{id:Nat}{c:Bool}{v:V}{h':List Ob}(h:Ux T id σ o=some (c,v,h')):id<σ.h.length/\∃ o',h'=σ.h.set id o'/\∀ h2,h2[id]?=σ.h[id]?->Ux T id ⟨σ.r,h2⟩ o=some (c,v,h2.set id o'):=by
 have e:∀ h2 y,ovl ⟨σ.r,h2⟩ y=ovl σ y:=λh2 y=>by cases y<;>rfl
 unfold Ux at h ⊢;split at h
 case h_2=>cases h
 rename_i t l cc ho;split at h
 case h_2=>cases h
 rename_i e1 te ti n m e' t' vv het hn hm hob;split at h
 case isFalse=>cases h
 rename_i hc;split at h
 case h_2=>cases h
 rename_i z hz;simp only[aA,aC]at h;obtain⟨rfl,rfl,rfl⟩:=h;refine⟨(bK.1 hob).1,_,rfl,λh2 he=>?_⟩;simp only[ho,e,het,hn,hm,he,hob,hz];rw[if_pos hc]
theorem iA.move{ops:Array Oper}{σ σ':St}{o:Oper}{v:V}{h':List Ob}(h:iA π T ops σ o v h')(d:Option Tmp)(u:V)(hr:σ'.r=cB σ.r d u\/σ.r=cB σ'.r d u)(hh:σ'.h=σ.h)(ha:∀ t,d=some t->t∉o.looksAt ops):iA π T ops σ' o v h':=by
 have yOm:∀ x∈o.op.operands,ovl σ' x=ovl σ x:=λx hx=>by
  have hne:∀ t,d=some t->x≠.tmp t:=λt ht e=>ha t ht (by
   subst e;exact qAq _ (qDt.2 ⟨.tmp t,by simpa using hx,rfl⟩))
  rcases hr with hr|hr
  ·rw[show σ'=⟨cB σ.r d u,σ'.h⟩by rw[<- hr]];exact zEo hne
  ·rw[show σ=⟨cB σ'.r d u,σ.h⟩by rw[<- hr]];exact(zEo hne).symm
 have xKq:Yp T σ' o=Yp T σ o:=zUx yOm;unfold iA at *;split at h
 ·rcases h with h|h
  ·exact .inl (h.congr yOm hh)
  ·rcases h with h|⟨id,h⟩
   ·exact .inr (.inl ⟨by rw[xKq];exact h.1,by rw[hh];exact h.2⟩)
   ·exact .inr (.inr ⟨id,by rw[yOl yOm hh];exact h⟩)
 ·rename_i j want hg;obtain⟨s,b,hsl,hb,h⟩:=h;have hs:∀ t,d=some t->s≠t:=λt ht e=>ha t ht (by
   subst e;refine List.mem_append_right _ ?_;simp only[hg];unfold Sy at hsl;rw[hsl];simp)
  have e:σ'.r.getD s .cK=σ.r.getD s .cK:=by
   rcases hr with hr|hr
   ·rw[hr];exact yAh hs
   ·rw[hr];exact(yAh hs).symm
  refine⟨s,b,hsl,by rw[e];exact hb,?_⟩;split
  ·rename_i hw;rw[if_pos hw]at h;exact h.congr yOm hh
  ·rename_i hw;rw[if_neg hw]at h;exact⟨h.1,by rw[hh];exact h.2⟩
structure zM (π:FuncId->Option PE) (T:Tab) (ops:Array Oper) (σ:St) (o:Oper) (u:Nat) (v:V) (h':List Ob):Prop where
 goes:iA π T ops σ o v h'
 dry:u=0->h'=σ.h/\∀ h2,iA π T ops ⟨σ.r,h2⟩ o v h2
 same:rdB u=true->h'=σ.h
 at6:6<=u->∃ (id:Nat) (fo:Option Ob),u / 2=id+3/\id<σ.h.length/\(u % 2=0->fo=none)/\h'=xD fo id σ.h/\∀ h2,h2[id]?=σ.h[id]?->iA π T ops ⟨σ.r,h2⟩ o v (xD fo id h2)
 row:u=3->∃ os,h'=σ.h++os/\∀ h2,h2.length=σ.h.length->iA π T ops ⟨σ.r,h2⟩ o v (h2++os)
 grow:σ.h.length<=h'.length
theorem zM.move{ops:Array Oper}{σ σ':St}{o:Oper}{w:Nat}{v:V}{h':List Ob}(h:zM π T ops σ o w v h')(d:Option Tmp)(u:V)(hr:σ'.r=cB σ.r d u\/σ.r=cB σ'.r d u)(hh:σ'.h=σ.h)(ha:∀ t,d=some t->t∉o.looksAt ops):zM π T ops σ' o w v h':=by
 refine⟨h.goes.move d u hr hh ha,λh0=>⟨by rw[hh];exact(h.dry h0).1,λh2=>?_⟩,λh1=>by rw[hh];exact h.same h1,λh6=>?_,λh3=>?_,by rw[hh];exact h.grow⟩
 ·exact((h.dry h0).2 h2).move d u hr rfl ha
 ·obtain⟨id,fo,k1,k2,k3,k4,k5⟩:=h.at6 h6;exact⟨id,fo,k1,by rw[hh];exact k2,k3,by rw[hh];exact k4,λh2 he=>(k5 h2 (by rw[he,hh])).move d u hr rfl ha⟩
 ·obtain⟨os,k1,k2⟩:=h.row h3;exact⟨os,by rw[hh];exact k1,λh2 he=>(k2 h2 (by rw[he,hh])).move d u hr rfl ha⟩
theorem swap{N:Nat}{ops:Array Oper}{σ:St}{x y:Oper}{u1 u2:Nat}{v1 v2:V}{h1 h2:List Ob}(hN:N<=σ.h.length)(ha:qDp ops x y=true)(hu:Gy N u1 u2=true)(g1:zM π T ops σ x u1 v1 h1)(g2:zM π T ops ⟨cB σ.r x.dst v1,h1⟩ y u2 v2 h2):∃ h3,zM π T ops σ y u2 v2 h3/\zM π T ops ⟨cB σ.r y.dst v2,h3⟩ x u1 v1 h2/\cB (cB σ.r y.dst v2) x.dst v1=cB (cB σ.r x.dst v1) y.dst v2:=by
 obtain⟨a1,a2,a3⟩:=Oper.apart_spec ha;have ec:cB (cB σ.r y.dst v2) x.dst v1=cB (cB σ.r x.dst v1) y.dst v2:=(zKw a2).symm;have fo0:∀ {u:Nat}{id:Nat}{fo:Option Ob}{h:List Ob},6<=u->(u % 2=0->fo=none)->rdB u=true->xD fo id h=h:=by
  intro u id fo h h6 k3 hr;have hld:zKu u=true:=by
   simp only[rdB,qDq]at hr;rcases hr with hr|hr
   ·have:=bX hr;omega
   ·exact hr
  simp only[zKu,aD]at hld;obtain rfl:=k3 (aP hld.2);rfl
 simp only[Gy,qDq,aD]at hu;rcases hu with hu|hu|⟨hu,hu'⟩|⟨hu,hu'⟩|⟨hu,hu',hlt⟩|⟨hu,hu',hne⟩
 ·have hu:=aP hu;obtain⟨rfl,k1⟩:=g1.dry hu;refine⟨h2,g2.move x.dst v1 (.inr rfl) rfl a1,?_,ec⟩;have k:∀ h3,iA π T ops ⟨cB σ.r y.dst v2,h3⟩ x v1 h3:=λh3=>(k1 h3).move y.dst v2 (.inl rfl) rfl a3
  exact⟨k h2,λ_=>⟨rfl,k⟩,λ_=>rfl,λh6=>by omega,λh3=>by omega,aS _⟩
 ·have hu:=aP hu;obtain⟨rfl,k2⟩:=g2.dry hu;have k:∀ h3,iA π T ops ⟨σ.r,h3⟩ y v2 h3:=λh3=>(k2 h3).move x.dst v1 (.inr rfl) rfl a1
  exact⟨σ.h,⟨k σ.h,λ_=>⟨rfl,k⟩,λ_=>rfl,λh6=>by omega,λh3=>by omega,aS _⟩,g1.move y.dst v2 (.inl rfl) rfl a3,ec⟩
 ·obtain rfl:=g1.same hu;have:=g2.same hu';simp only at this;subst this;exact⟨_,g2.move x.dst v1 (.inr rfl) rfl a1,g1.move y.dst v2 (.inl rfl) rfl a3,ec⟩
 ·have hu':=aP hu';subst hu';have h6:=bX hu;obtain⟨i,f1,k1,k2,k3,rfl,k5⟩:=g1.at6 h6;obtain⟨os,rfl,m5⟩:=g2.row rfl;simp only at m5;have hget:∀ os:List Ob,(σ.h++os)[i]?=σ.h[i]?:=λos=>fU k2
  have yWw:xD f1 i (σ.h++os)=xD f1 i σ.h++os:=by
   cases f1 with
   |none=>rfl
   |some o1=>simp only[xD];rw[List.set_append_left _ _ k2]
  have hy:zM π T ops ⟨cB σ.r x.dst v1,σ.h⟩ y 3 v2 (σ.h++os):=
   ⟨m5 _ oZ.symm,(λh=>absurd h (by decide)),(λh=>absurd h (by decide)),(λh=>by omega),λ_=>⟨os,rfl,λh2 hl=>m5 h2 (by rw[hl,oZ])⟩,by simp⟩
  refine⟨_,hy.move x.dst v1 (.inr rfl) rfl a1,?_,ec⟩;rw[<- yWw];refine⟨(k5 _ (hget os)).move y.dst v2 (.inl rfl) rfl a3,λh=>by omega,λhr=>fo0 h6 k3 hr,λ_=>⟨i,f1,k1,?_,k3,rfl,λh2 he=>(k5 h2 (he.trans (hget os))).move y.dst v2 (.inl rfl) rfl a3⟩,λh=>by omega,by rw[oZ];exact aS _⟩;simp only[xG];omega
 ·have hu:=aP hu;subst hu;have h6:=bX hu';obtain⟨os,rfl,m5⟩:=g1.row rfl;obtain⟨i,f2,k1,k2,k3,rfl,k5⟩:=g2.at6 h6;have hlt:u2 / 2<N+3:=bX hlt;have hi:i<σ.h.length:=by omega
  simp only at k5;have hget:σ.h[i]?=(σ.h++os)[i]?:=(fU hi).symm;have yWw:xD f2 i (σ.h++os)=xD f2 i σ.h++os:=by
   cases f2 with
   |none=>rfl
   |some o1=>simp only[xD];rw[List.set_append_left _ _ hi]
  have hy:zM π T ops ⟨cB σ.r x.dst v1,σ.h⟩ y u2 v2 (xD f2 i σ.h):=
   ⟨k5 _ hget,λh=>by omega,λhr=>fo0 h6 k3 hr,λ_=>⟨i,f2,k1,hi,k3,rfl,λh2 he=>k5 h2 (he.trans hget)⟩,λh=>by omega,by rw[oZ];exact aS _⟩
  refine⟨_,hy.move x.dst v1 (.inr rfl) rfl a1,?_,ec⟩;rw[yWw];exact⟨(m5 _ oZ).move y.dst v2 (.inl rfl) rfl a3,(λh=>absurd h (by decide)),(λh=>absurd h (by decide)),(λh=>by omega),λ_=>⟨os,rfl,λh2 hl=>(m5 h2 (by rw[hl];exact oZ)).move y.dst v2 (.inl rfl) rfl a3⟩,by simp⟩
 ·have h6:=bX hu;have h6':=bX hu';obtain⟨i,f1,k1,k2,k3,rfl,k5⟩:=g1.at6 h6;obtain⟨j,f2,m1,m2,m3,rfl,m5⟩:=g2.at6 h6';have hne:i≠j:=λe=>by
   subst e;have e2:u1 / 2=u2 / 2:=by omega
   rw[e2,Nat.beq_refl]at hne;cases hne
  have hy:zM π T ops ⟨cB σ.r x.dst v1,σ.h⟩ y u2 v2 (xD f2 j σ.h):=by
   refine⟨m5 _ (Wv hne).symm,λh=>(by omega),λhr=>fo0 h6' m3 hr,λ_=>⟨j,f2,m1,by simpa [oZ]using m2,m3,rfl,λh2 he=>m5 h2 (he.trans (Wv hne).symm)⟩,λh=>(by omega),by rw[oZ];exact aS _⟩
  refine⟨_,hy.move x.dst v1 (.inr rfl) rfl a1,?_,ec⟩;rw[ySx hne];exact⟨(k5 _ (Wv (Ne.symm hne))).move y.dst v2 (.inl rfl) rfl a3,λh=>(by omega),λhr=>fo0 h6 k3 hr,λ_=>⟨i,f1,k1,by simpa [oZ]using k2,k3,rfl,λh2 he=>(k5 h2 (he.trans (Wv (Ne.symm hne)))).move y.dst v2 (.inl rfl) rfl a3⟩,λh=>(by omega),by simp[oZ]⟩
def Run(π:FuncId->Option PE)(T:Tab)(ops:Array Oper):List (Oper × Nat)->St->St->Prop
 |[],σ,σe=>σ=σe
 |(o,u)::r,σ,σe=>∃ v h',zM π T ops σ o u v h'/\Run π T ops r ⟨cB σ.r o.dst v,h'⟩ σe
theorem front{N:Nat}{ops:Array Oper}{y:Oper}{uy:Nat}{σe:St}{L2:List (Oper × Nat)}:∀ {L1:List (Oper × Nat)}{σ:St},N<=σ.h.length->(∀ x∈L1,qDp ops x.1 y=true/\Gy N x.2 uy=true)->Run π T ops (L1++(y,uy)::L2) σ σe ->
 ∃ v h',zM π T ops σ y uy v h'/\Run π T ops (L1++L2) ⟨cB σ.r y.dst v,h'⟩ σe
 |[],σ,_,_,h=>h
 |(x,ux)::L1,σ,hN,hf,h=>by
  obtain⟨v1,h1,g1,h⟩:=h;obtain⟨v2,h2,g2,h⟩:=front (L1:=L1) (zG hN g1.grow) (λz hz=>hf z (.tail _ hz)) h;obtain⟨h3,g3,g4,e⟩:=swap hN (hf (x,ux) (.head _)).1 (hf (x,ux) (.head _)).2 g1 g2;refine⟨v2,h3,g3,v1,h2,g4,?_⟩;rw[e];exact h
end
section
variable {ρ:Type}{Γ:Orc ρ}{T:Tab}
theorem yOn{P:Program}(hΓ:kW P Γ){ops:Array Oper}{σ:St}{o:Oper}{v:V}{h':List Ob}(hgr:σ.h.length<=h'.length)(hg:iA Γ.pure T ops σ o v h')(hdo:Goes Γ.pure T σ o v h')(hd:∀ h2 h3,Goes Γ.pure T ⟨σ.r,h2⟩ o v h3->iA Γ.pure T ops ⟨σ.r,h2⟩ o v h3):zM Γ.pure T ops σ o (bP Γ.pure σ o) v h' :=
 ⟨hg,λh0=>⟨(hdo.dry hΓ.pure h0).1,λh2=>hd h2 h2 ((hdo.dry hΓ.pure h0).2 h2)⟩,λh1=>by
  simp only[rdB,qDq]at h1;rcases h1 with h1|h1
  ·exact hdo.xKp hΓ.pure (bX h1)
  ·simp only[zKu,aD]at h1;obtain⟨id,fo,_,_,k3,k4,_⟩:=hdo.at6 (P:=P) (bX h1.1);rw[k4,k3 (aP h1.2)];rfl,λh6=>by
  obtain⟨id,fo,k1,k2,k3,k4,k5⟩:=hdo.at6 (P:=P) h6;exact⟨id,fo,k1,k2,k3,k4,λh2 he=>hd _ _ (k5 h2 he)⟩,λh3=>by
  obtain⟨os,k1,k2⟩:=hdo.row (P:=P) hΓ.pure h3;exact⟨os,k1,λh2 hl=>hd _ _ (k2 h2 hl)⟩,hgr⟩
theorem Hf{N:Nat}{P:Program}(hΓ:kW P Γ){ops:Array Oper}:∀ {l:List Oper}{j:Nat}{us:List Nat}{σ:St}{k:List Nat->St->Option ρ}{r:ρ},mF Γ.quiet T N ops l j us σ k=some r ->
 ∃ (vs:List Nat) (σe:St),vs.length=l.length/\Run Γ.pure T ops (l.zip vs) σ σe/\k (us++vs) σe=some r/\∀ i o u,l[i]?=some o->vs[i]?=some u->wP N ops (j+i) o u (us++vs.take i) 0=true
 |[],j,us,σ,k,r,h=>⟨[],σ,rfl,rfl,by rw[vE];exact h,by intro i o u hi;simp at hi⟩
 |o::rest,j,us,σ,k,r,h=>by
  have wrap:∀ (u:Nat) (v:V) (h':List Ob),zM Γ.pure T ops σ o u v h'->wP N ops j o u us 0=true->mF Γ.quiet T N ops rest (j+1) (us++[u]) ⟨cB σ.r o.dst v,h'⟩ k=some r ->
   ∃ (vs:List Nat) (σe:St),vs.length=(o::rest).length/\Run Γ.pure T ops ((o::rest).zip vs) σ σe/\k (us++vs) σe=some r/\∀ i o' u,(o::rest)[i]?=some o'->vs[i]?=some u->wP N ops (j+i) o' u (us++vs.take i) 0=true:=by
   intro u v h' g hrow hk;obtain⟨vs,σe,k1,k2,k3,k4⟩:=Hf hΓ hk;refine⟨u::vs,σe,by simp[k1],⟨v,h',g,k2⟩,by simpa using k3,λi o' u' hi hu=>?_⟩;cases i with
   |zero =>
    simp only[qAi,aA]at hi hu;subst hi hu;simpa using hrow
   |succ i =>
    have:=k4 i o' u' (by simpa using hi) (by simpa using hu);rw[show j+1+i=j+(i+1)by omega]at this;simpa using this
  have doing:∀ σ1:St,σ1=σ->(∀ v h2 h3,Goes Γ.pure T ⟨σ.r,h2⟩ o v h3->iA Γ.pure T ops ⟨σ.r,h2⟩ o v h3) ->
   (match wP N ops j o (bP Γ.pure σ1 o) us 0 with|true=>(Yk Γ.quiet T σ1 o λe σ'=>match e with|.normal=>(match qBg σ.h.length σ'.h.length with|true=>mF Γ.quiet T N ops rest (j+1) (us++[bP Γ.pure σ1 o]) σ' k|false=>none)|_=>none)|false=>none)=some r ->
   ∃ (vs:List Nat) (σe:St),vs.length=(o::rest).length/\Run Γ.pure T ops ((o::rest).zip vs) σ σe/\k (us++vs) σe=some r/\∀ i o' u,(o::rest)[i]?=some o'->vs[i]?=some u->wP N ops (j+i) o' u (us++vs.take i) 0=true:=by
   intro σ1 e1 hgg h1;subst e1;split at h1
   ·rename_i hrow;obtain⟨v,h',g,hk⟩:=xCe h1;simp only at hk;split at hk
    case h_2=>cases hk
    rename_i hgr;exact wrap _ v h' (yOn hΓ (bX hgr) (hgg v σ1.h h' g) g λh2 h3 hd=>hgg v h2 h3 hd) hrow hk
   ·cases h1
  have skipping:∀ r1:List V,r1=σ.r->(∀ h2,iA Γ.pure T ops ⟨σ.r,h2⟩ o (.tup []) h2) ->
   (match wP N ops j o 0 us 0 with|true=>mF Γ.quiet T N ops rest (j+1) (us++[0]) ⟨cB r1 o.dst (.tup []),σ.h⟩ k|false=>none)=some r ->
   ∃ (vs:List Nat) (σe:St),vs.length=(o::rest).length/\Run Γ.pure T ops ((o::rest).zip vs) σ σe/\k (us++vs) σe=some r/\∀ i o' u,(o::rest)[i]?=some o'->vs[i]?=some u->wP N ops (j+i) o' u (us++vs.take i) 0=true:=by
   intro r1 e1 hgg h1;subst e1;split at h1
   ·rename_i hrow;exact wrap 0 (.tup []) σ.h ⟨hgg σ.h,λ_=>⟨rfl,hgg⟩,λ_=>rfl,λh=>(by omega),λh=>(by omega),aS _⟩ hrow h1
   ·cases h1
  simp only[mF]at h;split at h
  ·rename_i hg;split at h
   ·split at h
    ·rename_i c v h' hv;split at h
     ·rename_i hrow;obtain⟨rfl,h⟩:=iP h;obtain⟨hlt,o',rfl,hall⟩:=xCh hv;have hgg:∀ h2,h2[N-1]?=σ.h[N-1]?->iA Γ.pure T ops ⟨σ.r,h2⟩ o v (h2.set (N-1) o'):=λh2 he=>by
       unfold iA;simp only[hg];exact .inr (.inr ⟨N-1,hall h2 he⟩)
      refine wrap (7+2*(N-1)) v (σ.h.set (N-1) o') ⟨hgg σ.h rfl,λh=>(by omega),λh=>?_,λ_=>⟨N-1,some o',by omega,hlt,λh=>(by omega),rfl,λh2 he=>hgg h2 he⟩,λh=>(by omega),by simp⟩ hrow h;exfalso;revert h;simp only[rdB,zKu];have h1:qBg (7+2*(N-1)) 1=false:=by
       cases hb:qBg (7+2*(N-1)) 1 with
       |false=>rfl
       |true=>have:=bX hb;omega
      have h2:vF ((7+2*(N-1)) % 2) 0=false:=by
       cases hb:vF ((7+2*(N-1)) % 2) 0 with
       |false=>rfl
       |true=>have:=aP hb;omega
      rw[h1,h2];simp
     ·cases h
    ·cases h
   split at h
   ·split at h
    ·rename_i c v hv;split at h
     ·rename_i hrow;obtain⟨rfl,h⟩:=iP h;have hgg:∀ h2,iA Γ.pure T ops ⟨σ.r,h2⟩ o v h2:=λh2=>by
       unfold iA;simp only[hg];refine .inr (.inl ⟨?_,trivial⟩);rw[<- hv];exact zUx λx _=>by cases x<;>rfl
      exact wrap 0 v σ.h ⟨hgg σ.h,λ_=>⟨rfl,hgg⟩,λ_=>rfl,λh=>(by omega),λh=>(by omega),aS _⟩ hrow h
     ·cases h
    ·cases h
   ·exact doing σ rfl (λv h2 h3 hd=>by unfold iA;simp only[hg];exact .inl hd) h
  ·rename_i g want hg;split at h
   ·rename_i s hsl;split at h
    ·rename_i b hb;have hset:σ.r.set s (.one (.val .bool b))=σ.r:=yKz hb (by simp);have hdo:b=want->∀ v h2 h3,Goes Γ.pure T ⟨σ.r,h2⟩ o v h3->iA Γ.pure T ops ⟨σ.r,h2⟩ o v h3:=λe v h2 h3 hd=>by
      unfold iA;simp only[hg];exact⟨s,true,hsl,by simp only[hb,does,e];simp,by rw[if_pos rfl];exact hd⟩
     have hsk:b≠want->∀ h2,iA Γ.pure T ops ⟨σ.r,h2⟩ o (.tup []) h2:=λe h2=>by
      unfold iA;simp only[hg];exact⟨s,false,hsl,by simp only[hb,does];simpa using e,by simp⟩
     rcases Xt h with ⟨rfl,h1⟩|⟨rfl,h1⟩
     ·cases want with
      |true=>exact doing ⟨σ.r.set s (.one (.val .bool true)),σ.h⟩ (by rw[hset]) (hdo rfl) h1
      |false=>exact skipping _ hset (hsk (by simp)) h1
     ·cases want with
      |false=>exact doing ⟨σ.r.set s (.one (.val .bool false)),σ.h⟩ (by rw[hset]) (hdo rfl) h1
      |true=>exact skipping _ hset (hsk (by simp)) h1
    ·rename_i hb;refine skipping _ rfl (λh2=>?_) h;unfold iA;simp only[hg];exact⟨s,false,hsl,by simp only[hb,does],by simp⟩
    ·cases h
   ·cases h
theorem Sim.alloc{C:Ctx}{β:Nat->Pl}{σ:St}{a:Act}{w:World}(hs:Sim C β σ a w)(ob:Obj):Sim C β σ a (w.alloc ob):=by
 have hold:∀ b:Nat,b<w.heap.size->(w.alloc ob).heap[b]?=w.heap[b]?:=λb hb=>(dX w ob).2 b hb λ_ h=>h
 have hlt:w.heap.size<=(w.alloc ob).heap.size:=(dX w ob).1;have hk:Keep (C.N β σ.h) w (w.alloc ob):=(dX w ob).weaken λ_ _ h=>h.elim
 refine⟨⟨λid o ho=>?_,hs.heap.dead,hs.heap.kX,λid o b ho hb=>?_,hs.heap.n0,hs.heap.frame.uJ (dX w ob) λ_ _ _ h=>h.elim,zG hs.heap.size hlt,hs.heap.os,hs.heap.tape,hs.heap.output,hs.heap.fixed⟩,hs.defers,hs.size,λi v hv=>(hs.reg i v hv).mono (Moves.refl β) hk λ_ _ _ h=>h⟩
 ·exact(hs.heap.obj id o ho).mono (Moves.refl β) hk (λ_ _ _ h=>h) λb hb=>hold b (hs.heap.eZ id o b ho hb).2.1
 ·obtain⟨h1,h2,h3⟩:=hs.heap.eZ id o b ho hb;exact⟨h1,Nat.lt_of_lt_of_le h2 hlt,h3⟩
theorem yLd{C:Ctx}(hT:bU C.P T){β:Nat->Pl}{σ:St}{a:Act}{w:World}{o:Oper}{v:V}(hs:Sim C β σ a w)(h:zKv T σ o=some v):∃ w' v',(execOp a.eval o).run C.P w=.ok (.value v') w'/\Sim C β σ a w'/\v.Rel β w' (C.N β σ.h) v':=by
 unfold zKv at h;split at h
 case h_2=>cases h
 rename_i t n parts ho;split at h
 case h_2=>cases h
 rename_i e te ti het;obtain⟨ts,hts,hk,hti,zXt,hsz,hpos,hby⟩:=kC het;split at h
 case isFalse=>cases h
 rename_i hc;simp only[aD]at hc;have hn:=aP hc.1;have hle:=bX hc.2;split at h
 case h_2=>cases h
 rename_i ys hys;simp only[aA]at h;subst h;obtain⟨css,h1,h2,h3⟩:=zBr hs hys;obtain⟨i,z,hi,his,hib,hz,tT,hzs,_⟩:=(hT _ _ hti).i;have hlc:=jO h1;have hps:∀ p∈parts.toList.map (λp=>(p.1,a.eval p.2)),p.2.cells.size=te.size:=λp hp=>by
  obtain⟨q,hq,rfl⟩:=qBw.1 hp;have:=hlc (a.eval q.2).cells.toList (by rw[h2];exact qBw.2 ⟨q,hq,rfl⟩);simpa using this
 have Na:ys.length=parts.size:=by rw[h1.length,h2];simp
 obtain⟨cs',hf1,hf2⟩:=zGk te.size (parts.toList.map λp=>(p.1,a.eval p.2)) 0 ((qCf (n*te.size)).map (z.cells[· % z.cells.size]!)) (λj p hp=>by
  simp only[qBx,Option.map_eq_some_iff]at hp;obtain⟨q,hq,rfl⟩:=hp;have:=h3 j q hq;omega) hps (by simp[hn])
 simp only[Nat.zero_mul,List.take_zero,qDc,List.map_map]at hf2;have yWx:cs'.toList=css.flatten:=by rw[hf2,h2];rfl
 have hmax:ys.length<=maxLen:=by
  rw[Na,<- hn];have:n*1<=n*te.size:=Nat.mul_le_mul_left _ hpos;simp only[maxLen];omega
 have hs':=hs.alloc (.cells cs' e);have hk2:Keep (C.N β σ.h) w (w.alloc (.cells cs' e)):=(dX w _).weaken λ_ _ h=>h.elim
 refine⟨w.alloc (.cells cs' e),.slice (some ⟨w.heap.size,0,none⟩) ys.length ys.length,?_,hs',?_⟩
 ·have hu:=(hT _ _ hts).slice hk;have hzv:(zeroValue e).run C.P w=.ok z w:=by simp[zeroValue,typeInfo,hi,hz]
  have yEb:¬ (n*te.size>2 ^ 24):=by omega
  simp only[execOp,ho,Instr.buildSlice,jJ,run_underlying hu,kQ,(hT _ _ hti).sizeOf,hsz,yEb,if_false,jI];by_cases h0:n*te.size=0
  ·have hn0:n=0:=by
    rcases Nat.mul_eq_zero.1 h0 with h|h
    ·exact h
    ·omega
   have hpe:parts=#[]:=Array.eq_empty_of_size_eq_zero (by omega);subst hpe;subst hn0;have yEc:ys=[]:=List.eq_nil_of_length_eq_zero (by simpa using Na);subst yEc;have yEd:cs'=#[]:=by simpa using hf2
   subst yEd;simp[Instr.fill,newRow,show qCf 0=#[]from rfl];try rfl
  ·simp only[h0,if_false,jJ,hzv,kQ,jI];rw[Array.toList_map,hf1];simp only[jJ,newRow,run_newObj,kQ,jI,Na,hn];rfl
 ·simp only[V.Rel,L.Rel,Ty.Rel];refine⟨_,rfl,.inr (.inl ⟨w.heap.size,0,ys.length,css,rfl,by simp,?_,aS _,hmax,h1.mono λ_ _ hx=>hx.mono hk2 λ_ _ _ h=>h,λc hc=>(by obtain⟨y,_,hy⟩:=h1.mem_right c hc;exact hy.length),?_⟩)⟩
  ·rintro k _ _ (hn0|⟨j,o',hj,_,hb⟩)
   ·have:=hs.heap.n0 _ _ hn0;have:=hs.heap.size;omega
   ·have:=(hs.heap.eZ j o' _ hj ⟨k,hb⟩).2.1;omega
  ·intro j c hj;have hnew:=heap_alloc_new w (.cells cs' e);rw[yY];unfold World.cell?;simp only[hnew];rw[<- yWx]at hj;simpa using hj
theorem xCi{C:Ctx}(hT:bU C.P T){β:Nat->Pl}{σ:St}{a:Act}{w:World}{o:Oper}{v:V}(hs:Sim C β σ a w)(h:zYc T σ o=some (true,v)):∃ w' v',(execOp a.eval o).run C.P w=.ok (.value v') w'/\Sim C β σ a w'/\v.Rel β w' (C.N β σ.h) v':=by
 unfold zYc at h;split at h
 case h_2=>cases h
 rename_i t l c ho;split at h
 case h_2=>cases h
 rename_i e te ti n m het hn hm;obtain⟨ts,hts,hk,hti,zXt,hsz,hpos,hby⟩:=kC het;split at h
 case h_2=>cases h
 rename_i z0 hz0;simp only[aA,aC,aD]at h;obtain⟨⟨h0,hnm,hroom⟩,rfl⟩:=h;have h0:=of_decide_eq_true h0;have hnm:=of_decide_eq_true hnm;have hroom:=bX hroom;subst hnm;obtain⟨i,z,hi,his,hib,hz,tT,hzs,_⟩:=(hT _ _ hti).i;have hu:=(hT _ _ hts).slice hk;have hrz:=pI hz0 (tT β w (C.N β σ.h));obtain⟨k,rfl⟩:∃ k:Nat,n=k:=⟨n.toNat,by omega⟩;rw[qCg]at hroom ⊢;unfold room at hroom;have hkb:k<=k*ti.bytes:=qBl _ hby;have hrun:=run_make (P:=C.P) w t e i z hu hi hz .i64 .i64 (k:Int) (k:Int) (by omega) (qEe _) (by
  have h:((i.bytes*k:Nat):Int)<=281474976710656:=by rw[hib,qBy];omega
  rwa [qEf]at h) (by omega)
 simp only[qCg]at hrun;have hzz:z.cells.size=te.size:=by rw[hzs,his,hsz]
 have h1:bJ (λx c=>te.Rel w (C.N β σ.h) x c) (qAf k z0) (qAf k z.cells.toList):=bJ.replicate hrz k;have yWx:(madeCells z.cells (k*i.size)).toList=(qAf k z.cells.toList).flatten:=by rw[his,hsz];exact Ik hzz hpos k
 have hmax:(qAf k z0).length<=maxLen:=by simp only[qCh,maxLen];omega
 have hs':=hs.alloc (.cells (madeCells z.cells (k*i.size)) e);have hk2:Keep (C.N β σ.h) w (w.alloc (.cells (madeCells z.cells (k*i.size)) e)):=(dX w _).weaken λ_ _ h=>h.elim
 refine⟨w.alloc (.cells (madeCells z.cells (k*i.size)) e),.slice (some ⟨w.heap.size,0,none⟩) k k,?_,hs',?_⟩
 ·simp only[execOp,ho,iO hn (bE hs l),iO hm (bE hs c),jJ,hrun];rfl
 ·simp only[V.Rel,L.Rel,Ty.Rel];refine⟨_,rfl,.inr (.inl ⟨w.heap.size,0,(qAf k z0).length,qAf k z.cells.toList,by rw[qCh],by simp,?_,aS _,hmax,h1.mono λ_ _ hx=>hx.mono hk2 λ_ _ _ h=>h,λc hc=>(by obtain⟨y,_,hy⟩:=h1.mem_right c hc;exact hy.length),?_⟩)⟩
  ·rintro j0 _ _ (hn0|⟨j,o',hj,_,hb⟩)
   ·have:=hs.heap.n0 _ _ hn0;have:=hs.heap.size;omega
   ·have:=(hs.heap.eZ j o' _ hj ⟨j0,hb⟩).2.1;omega
  ·intro j c hj;have hnew:=heap_alloc_new w (.cells (madeCells z.cells (k*i.size)) e);rw[yY];unfold World.cell?;simp only[hnew];rw[<- yWx]at hj;simpa using hj
theorem ySy{C:Ctx}(hT:bU C.P T){β:Nat->Pl}{σ:St}{a:Act}{w:World}{o:Oper}{v:V}(hs:Sim C β σ a w)(h:zGv T σ o=some (true,v)):∃ w' v',(execOp a.eval o).run C.P w=.ok (.value v') w'/\Sim C β σ a w'/\v.Rel β w' (C.N β σ.h) v':=by
 unfold zGv at h;split at h
 case h_2=>cases h
 rename_i args ats ho;split at h
 case h_2=>cases h
 rename_i s x t t' ha hat;split at h
 case h_2=>cases h
 rename_i e te ti t1 xs t2 ys hb het hls hlx;obtain rfl:=aP hb;obtain⟨ts,hts,hk,hti,_,hsz,hpos,hby⟩:=kC het;split at h
 case isFalse=>cases h
 rename_i hh;obtain⟨e1,e2⟩:=hh;subst e1 e2;simp only[aA,aC]at h;obtain⟨hroom,rfl⟩:=h;have hx:=bE hs x;have hsl:=bE hs s;rw[hls]at hsl;rw[hlx]at hx;have hy:=Gw (h:=σ.h) (x:=.val (.slice _) ys) (ys:=ys) hs.heap (by simp[rowsOf]) hx;simp only[V.Rel,L.Rel]at hsl;obtain⟨v',w',h1,h2,h3,h4⟩:=zEj o.type hT hts hk hti hsz hby (bX hroom) hs hsl hy;refine⟨w',v',?_,h3,by simp only[V.Rel,L.Rel];exact h4⟩;have e1:args=#[s,x]:=by apply qBh.1;simpa using ha
 have e2:ats=#[t,t]:=by apply qBh.1;simpa using hat
 subst e1 e2;refine yM (x:=v') ho ?_;simp only[builtin,jJ];have h1':(Builtin.append_ #[t,t] o.type (Array.map a.eval #[s,x])).run C.P w=.ok v' w':=by simpa using h1
 rw[h1'];rfl
theorem yWy{C:Ctx}(hT:bU C.P T){β:Nat->Pl}{σ:St}{a:Act}{w:World}{o:Oper}{v:V}{h':List Ob}{id:Nat}(hs:Sim C β σ a w)(h:Ux T id σ o=some (true,v,h')):∃ β' w' v',(execOp a.eval o).run C.P w=.ok (.value v') w'/\Sim C β' { σ with h:=h' } a w'/\v.Rel β' w' (C.N β' h') v':=by
 unfold Ux at h;split at h
 case h_2=>cases h
 rename_i t l c ho;split at h
 case h_2=>cases h
 rename_i e te ti n m e' t' vv het hn hm zYb;obtain⟨ts,hts,hk,hti,zXt,hsz,hpos,hby⟩:=kC het;split at h
 case isFalse=>cases h
 rename_i hc;obtain⟨rfl,rfl⟩:=hc;split at h
 case h_2=>cases h
 rename_i z0 hz0;simp only[aA,aC,aD]at h;obtain⟨⟨h0,hnm,hroom⟩,rfl,rfl⟩:=h;have h0:=of_decide_eq_true h0;have hnm:=of_decide_eq_true hnm;have hroom:=bX hroom;subst hnm;obtain⟨i,z,hi,his,hib,hz,tT,hzs,_⟩:=(hT _ _ hti).i;have hu:=(hT _ _ hts).slice hk;have hrz:=pI hz0 (tT β w (C.N β σ.h));obtain⟨k,rfl⟩:∃ k:Nat,n=k:=⟨n.toNat,by omega⟩;rw[qCg]at hroom;unfold room at hroom;have hkb:k<=k*ti.bytes:=qBl _ hby;have hrun:=run_make (P:=C.P) w t e' i z hu hi hz .i64 .i64 (k:Int) (k:Int) (by omega) (qEe _) (by
  have h:((i.bytes*k:Nat):Int)<=281474976710656:=by rw[hib,qBy];omega
  rwa [qEf]at h) (by omega)
 simp only[qCg]at hrun ⊢;have hzz:z.cells.size=t'.size:=by rw[hzs,his,hsz]
 have hal:bJ (λx c=>t'.Rel w (C.N β σ.h) x c) (qAf k z0) (qAf k z.cells.toList):=bJ.replicate hrz k;have hlen:∀ c∈qAf k z.cells.toList,c.length=t'.size:=λc hc=>by
  rw[List.eq_of_mem_replicate hc,qAc,hzz]
 have hfl:(madeCells z.cells (k*i.size)).toList=(qAf k z.cells.toList).flatten:=by rw[his,hsz];exact Ik hzz hpos k
 have hcsz:(madeCells z.cells (k*i.size)).size=k*t'.size:=by
  rw[<- qAc,hfl,cZ _ hlen,qCh]
 have hob:=hs.heap.obj _ _ zYb;simp only[Ob.Rel]at hob;obtain⟨hlive,nH,hpv,hpz,_,hpl,_⟩:=hob
 let p:Pl:=⟨true,false,vv+1,some w.heap.size,t'.size,k,k,[]⟩
 have hmv:Moves β (upd β id p):=λj hj=>by
  by_cases hji:j=id
  ·subst hji;rw[upd_same];exact .inr ⟨nH,rfl,rfl,by rw[hpv];exact Nat.lt_succ_self _⟩
  ·exact .inl (aY _ _ hji)
 have hk0:Keep (λ_ _=>False) w (w.alloc (.cells (madeCells z.cells (k*i.size)) e')):=dX w _;have hk1:Keep (λq _=>(β id).blk=some q/\Ob.wr (.arr e' t' vv [] true)=true) w (w.alloc (.cells (madeCells z.cells (k*i.size)) e')):=hk0.weaken λ_ _ h=>h.elim
 have hpb:p.blk=(β id).blk\/p.blk=none\/(p.blk=some w.heap.size/\w.heap.size<(w.alloc (.cells (madeCells z.cells (k*i.size)) e')).heap.size):=.inr (.inr ⟨rfl,by simp⟩);refine⟨upd β id p,_,.slice (some ⟨w.heap.size,0,none⟩) k k,?_,hs.set (p:=p) zYb (λ_=>rfl) hpb hk1 (Mw _ _) hmv ?_,?_⟩
 ·simp only[execOp,ho,iO hn (bE hs l),iO hm (bE hs c),jJ,hrun];rfl
 ·simp only[Ob.Rel];refine⟨rfl,rfl,rfl,rfl,hpos,by simp[p],.inr ⟨w.heap.size,_,qAf k z.cells.toList,rfl,heap_alloc_new w _,?_,?_,hcsz,by simp[p],by simp only[p,maxLen];omega⟩⟩
  ·exact hal.mono λ_ _ h=>h.mono (hk0.weaken λ_ _ h=>h.elim) λb j hlt hn=>yL (w:=w) zYb (at_set (λ_=>rfl) (hpb.imp (λh=>h) (·.imp (λh=>h) (·.1))) rfl) hlt hn
  ·rw[hfl,qCh];exact List.take_of_length_le (by rw[cZ _ hlen,qCh];exact aS _)
 ·simp only[V.Rel,L.Rel,upd_same];refine⟨rfl,rfl,aS _,_,rfl,rfl,λ_=>?_⟩;unfold eP;simp only[p];exact⟨by omega,0,rfl,.inl (by simp)⟩
theorem yWz{C:Ctx}(hT:bU C.P T){β:Nat->Pl}{σ:St}{a:Act}{w:World}{o:Oper}{v:V}(hs:Sim C β σ a w)(h:Yp T σ o=some (true,v)):∃ w' v',(execOp a.eval o).run C.P w=.ok (.value v') w'/\Sim C β σ a w'/\v.Rel β w' (C.N β σ.h) v':=by
 unfold Yp at h;split at h
 ·exact xCi hT hs h
 ·exact ySy hT hs h
 ·split at h
  ·rename_i v1 hv;simp only[aA,aC,true_and]at h;subst h;exact yLd hT hs hv
  ·cases h
theorem zKx{C:Ctx}(hT:bU C.P T)(hΓ:kW C.P Γ){ops:Array Oper}{i:Nat}{o:Oper}{β:Nat->Pl}{σ:St}{a:Act}{w:World}{v:V}{h':List Ob}{Q:Exit->Act->World->Prop}{Kt:Act->World->Prop}(hi:ops[i]?=some o)(hg:iA Γ.pure T ops σ o v h')(hs:Sim C β σ a w)(hK:∀ β' a' w',Sim C β' ⟨cB σ.r o.dst v,h'⟩ a' w'->Kt a' w'):wpOp C.P ops Q i Kt a w:=by
 let Γ1:Orc St:=⟨Γ.pure,λ_ _ _ _=>none,Γ.ids⟩
 have xKr:kW C.P Γ1:=⟨hΓ.pure,λ_ _ _ _ _ h=>by cases h⟩;have one:Goes Γ.pure T σ o v h'->o.wp C.P a w Kt Q:=λg=>by
  have:=xCf (Γ:=Γ1) g (λe σ'=>match e with|.normal=>some σ'|_=>none);refine zUr hT xKr.quiet this hs ?_ ?_
  ·intro σ' β' a' w' hs' hk;simp only[aA]at hk;subst hk;exact hK β' a' w' hs'
  ·intro e x σ' β' a' w' hs' hne hx hk;cases e<;>first|exact absurd rfl hne|cases hk
 unfold wpOp;simp only[hi];unfold iA at hg;split at hg
 ·rename_i hgd;rw[if_pos (by simp[qDu,hgd])];rcases hg with hg|⟨hv,rfl⟩|⟨id,hv⟩
  ·exact .inl (one hg)
  ·obtain⟨w',v',hrun,hs',hrel⟩:=yWz hT hs hv;refine .inl ?_;unfold Oper.wp;rw[hrun,Oper.upon_value];exact hK β _ w' (hs'.put o.dst hrel)
  ·obtain⟨β',w',v',hrun,hs',hrel⟩:=yWy hT hs hv;refine .inl ?_;unfold Oper.wp;rw[hrun,Oper.upon_value];exact hK β' _ w' (hs'.put o.dst hrel)
 ·rename_i j want hgd;obtain⟨s,d,hsl,hd,hg⟩:=hg;have hwant:qDu o (yielded ops a.tmps)=d:=by
   rcases ySu hd with ⟨b,hb,rfl⟩|⟨hb,rfl⟩
   ·have zRt:∃ v,σ.r[s]?=some v/\v=.one (.val .bool b):=by
     rw[wG]at hb;cases hr:σ.r[s]? with
     |none=>rw[hr]at hb;cases hb
     |some v=>rw[hr]at hb;exact⟨v,rfl,hb⟩
    obtain⟨u,hv,rfl⟩:=zRt;have hval:=hs.reg s _ hv;simp only[V.Rel,L.Rel,Ty.Rel,aL,and_true]at hval;have hy:=zKo hsl hval;simp only[qDu,hgd,hy];cases b<;>cases want<;>rfl
   ·have zRt:σ.r[s]?=some (.tup []):=by
     rw[wG]at hb;cases hr:σ.r[s]? with
     |none=>rw[hr]at hb;cases hb
     |some v=>rw[hr]at hb;simp at hb;rw[hb]
    obtain⟨us,hval,_⟩:=hs.reg s _ zRt;simp only[qDu,hgd,zKp hsl hval];cases want<;>rfl
  split at hg
  ·rename_i hw;rw[if_pos (by rw[hwant,hw])];exact .inl (one hg)
  ·rename_i hw;obtain⟨rfl,rfl⟩:=hg;rw[if_neg (by rw[hwant];exact hw)];exact hK β _ w (hs.put o.dst (v:=.tup []) ⟨[],rfl,trivial⟩)
end
def iB(L:List (Oper × Nat))(listed:Array Bool)(i:Nat):Option (Oper × Nat):=if listed.getD i true then none else L[i]?
def lN (L:List (Oper×Nat)) (listed:Array Bool):List (Oper×Nat):=(qAr L.length).filterMap (iB L listed)
theorem range_split{n i:Nat}(h:i<n):qAr n=qAr i++i::(qAr (n-i-1)).map (λk=>i+1+k):=by
 apply List.ext_getElem
 ·simp;omega
 ·intro k h1 h2;simp at h1;rcases qDv k i with hk|hk|hk
  ·rw[List.getElem_append_left (by simpa using hk)];simp
  ·subst hk;rw[List.getElem_append_right (by simp)];simp
  ·rw[List.getElem_append_right (by simp;omega)];simp only[List.length_range,List.getElem_range];rw[List.getElem_cons];split
   ·omega
   ·simp;omega
theorem iG{α β:Type}{f g:α->Option β}:∀ {l:List α},(∀ x∈l,f x=g x)->l.filterMap f=l.filterMap g
 |[],_=>rfl
 |x::l,h=>by rw[qDs,qDs,h x (.head _),iG λy hy=>h y (.tail _ hy)]
theorem Hg{L:List (Oper × Nat)}{listed:Array Bool}{i:Nat}{o:Oper × Nat}(hi:L[i]?=some o)(hl:listed.getD i true=false):∃ A B,lN L listed=A++o::B/\lN L (listed.setIfInBounds i true)=A++B/\∀ x∈A,∃ j,j<i/\L[j]?=some x/\listed.getD j true=false:=by
 have hlt:i<L.length:=(bK.1 hi).1;have hll:i<listed.size:=by
  rcases jF i listed.size with h|h
  ·exact h
  ·simp[Array.getElem?_eq_none h]at hl
 have hne:∀ j,j≠i->iB L (listed.setIfInBounds i true) j=iB L listed j:=λj hj=>by
  unfold iB;rw[getD_set_ne true (Ne.symm hj)]
 refine⟨(qAr i).filterMap (iB L listed),((qAr (L.length-i-1)).map (λk=>i+1+k)).filterMap (iB L listed),?_,?_,?_⟩
 ·unfold lN;rw[range_split hlt,qEc,qDs];have:iB L listed i=some o:=by unfold iB;rw[hl];simpa using hi
  rw[this]
 ·unfold lN;rw[range_split hlt,qEc,qDs];have:iB L (listed.setIfInBounds i true) i=none:=by unfold iB;simp[hll]
  rw[this];have e1:(qAr i).filterMap (iB L (listed.setIfInBounds i true))=(qAr i).filterMap (iB L listed):=iG λj hj=>hne j (by have:=qDr.1 hj;omega)
  have e2:((qAr (L.length-i-1)).map (λk=>i+1+k)).filterMap (iB L (listed.setIfInBounds i true))=((qAr (L.length-i-1)).map (λk=>i+1+k)).filterMap (iB L listed):=iG λj hj=>hne j (by
   obtain⟨k,_,rfl⟩:=qBw.1 hj;omega)
  rw[e1,e2]
 ·intro x hx;obtain⟨j,hj,he⟩:=qDt.1 hx;unfold iB at he;split at he
  ·cases he
  ·rename_i hn;exact⟨j,qDr.1 hj,he,by simpa using hn⟩
def Closed (ops:Array Oper) (listed:Array Bool):Prop := ∀ j o,ops[j]? = some o->listed.getD j false = true -> ∀ e ∈ o.after,Region.binds .any e = true->listed.getD e.on false = true
theorem nK{ops:Array Oper}{listed:Array Bool}(hc:Closed ops listed):∀ {n i j:Nat},ahead ops n i j=true->(∀ o,ops[j]?=some o->∀ e∈o.after,Region.binds .any e=true->listed.getD e.on false=true)->listed.getD i false=true
 |0,_,_,h,_=>by cases h
 |n+1,i,j,h,hr=>by
  unfold ahead at h;split at h
  ·rename_i o ho;rw[List.any_eq_true]at h;obtain⟨e,he,h⟩:=h;simp only[aD,qDq]at h;obtain⟨hb,h⟩:=h;have hl:=hr o ho e (Array.mem_toList_iff.1 he) hb;rcases h with h|h
   ·rw[<- aP h];exact hl
   ·exact nK hc h λo' ho'=>hc e.on o' ho' hl
  ·cases h
theorem Ay{listed:Array Bool}{n j:Nat}(hs:listed.size=n)(hj:j<n)(h:listed.getD j true=false):listed.getD j false=false:=by
 have:j<listed.size:=by omega
 simpa [this]using h
theorem zGx{ops:Array Oper}{L:List (Oper × Nat)}(hL:∀ i:Nat,ops[i]?=(L[i]?).map (·.1)){listed:Array Bool}(hd:yO ops.toList 0=true)(hsz:listed.size=ops.size)(hne:lN L listed≠[]):Region.ready .any ops listed≠[]:=by
 have hex:∃ j,j<ops.size/\listed.getD j true=false:=by
  cases hr:lN L listed with
  |nil=>exact absurd hr hne
  |cons x xs =>
   have hx:x∈lN L listed:=by rw[hr];exact .head _
   obtain⟨j,hj,he⟩:=qDt.1 hx;unfold iB at he;split at he
   ·cases he
   ·rename_i hn;have hj':ops[j]?=some x.1:=by rw[hL,he];rfl
    exact⟨j,(qCk.1 hj').1,by simpa using hn⟩
 obtain⟨j,hj,hjl⟩:=hex;have key:∀ m j,j<m->j<ops.size->listed.getD j true=false->∃ i,i<ops.size/\listed.getD i true=false/\∀ k,k<i->listed.getD k true=true:=by
  intro m;induction m with
  |zero=>intro j h;omega
  |succ m ih =>
   intro j _ hj hl;by_cases hex:∃ k,k<j/\listed.getD k true=false
   ·obtain⟨k,hk,hkl⟩:=hex;exact ih k (by omega) (by omega) hkl
   ·refine⟨j,hj,hl,λk hk=>?_⟩;cases hb:listed.getD k true with
    |true=>rfl
    |false=>exact absurd ⟨k,hk,hb⟩ hex
 obtain⟨i,hi,hil,hmin⟩:=key (j+1) j (by omega) hj hjl;have hmem:i∈Region.ready .any ops listed:=by
  rw[mem_ready];refine⟨hil,ops[i],Array.getElem?_eq_getElem hi,λe he hb=>?_⟩;have hlt:=zIz hd i ops[i] (by simp[hi]) e he hb;rw[yY]at hlt;have:=hmin e.on hlt;have hlen:e.on<listed.size:=by omega
  simpa [hlen]using this
 intro h0;rw[h0]at hmem;cases hmem
section
variable {ρ:Type}{Γ:Orc ρ}{T:Tab}
theorem zBy{N:Nat}{C:Ctx}(hT:bU C.P T)(hΓ:kW C.P Γ){ops:Array Oper}(hd:yO ops.toList 0=true){L:List (Oper × Nat)}(hL:∀ i:Nat,ops[i]?=(L[i]?).map (·.1))(hrow:∀ j o u,L[j]?=some (o,u)->∀ i x v,i<j->L[i]?=some (x,v)->(qDp ops x o=true/\Gy N v u=true)\/ahead ops ops.size i j=true){σe:St}{Q:Exit->Act->World->Prop}(hq:∀ β' a' w',Sim C β' σe a' w'->Q .normal a' w'):∀ (fuel:Nat) (listed:Array Bool) (β:Nat->Pl) (σ:St) (a:Act) (w:World),listed.size=ops.size->Closed ops listed->(lN L listed).length<=fuel->N<=σ.h.length->Run Γ.pure T ops (lN L listed) σ σe->Sim C β σ a w->wpAny C.P .any ops Q fuel listed a w
 |0,listed,β,σ,a,w,hsz,hcl,hfu,hN,h,hs=>by
  have h0:lN L listed=[]:=List.length_eq_zero_iff.1 (by omega);refine⟨?_,?_⟩
  ·cases hr:Region.ready .any ops listed with
   |nil=>rfl
   |cons i xs =>
    have hi:i∈Region.ready .any ops listed:=by rw[hr];exact .head _
    obtain⟨h1,o,ho,_⟩:=mem_ready.1 hi;rw[hL]at ho;cases hLi:L[i]? with
    |none=>rw[hLi]at ho;cases ho
    |some p =>
     obtain⟨A,B,e,_⟩:=Hg hLi h1;rw[h0]at e;simp at e
  ·rw[h0]at h;obtain rfl:=h;exact hq β a w hs
 |fuel+1,listed,β,σ,a,w,hsz,hcl,hfu,hN,h,hs=>by
  refine⟨λhr=>?_,λi hi=>?_⟩
  ·have h0:lN L listed=[]:=by
    cases hm:lN L listed with
    |nil=>rfl
    |cons x xs=>exact absurd hr (zGx hL hd hsz (by rw[hm];simp))
   rw[h0]at h;obtain rfl:=h;exact hq β a w hs
  ·obtain⟨h1,o,ho,hall⟩:=mem_ready.1 hi;have hlt:i<ops.size:=(qCk.1 ho).1;have ho2:=ho;rw[hL]at ho2;cases hLi:L[i]? with
   |none=>rw[hLi]at ho2;cases ho2
   |some p =>
    obtain⟨o',u⟩:=p;rw[hLi]at ho2;simp only[kU,aA]at ho2;subst ho2;obtain⟨A,B,e1,e2,hA⟩:=Hg hLi h1;have hfree:∀ x∈A,qDp ops x.1 o'=true/\Gy N x.2 u=true:=λx hx=>by
     obtain⟨j,hj,hjo,hjl⟩:=hA x hx;rcases hrow i o' u hLi j x.1 x.2 hj hjo with hf|hf
     ·exact hf
     ·have:=nK hcl hf λo2 ho2=>by
       rw[ho]at ho2;simp only[aA]at ho2;subst ho2;exact hall
      rw[Ay hsz (by omega) hjl]at this;cases this
    rw[e1]at h;obtain⟨v,h',g,h⟩:=front hN hfree h;rw[e1]at hfu;simp at hfu;refine zKx hT hΓ ho g.goes hs λβ' a' w' hs'=>?_
    refine zBy hT hΓ hd hL hrow hq fuel _ β' _ a' w' (by simpa using hsz) ?_ (by rw[e2];simp;omega) (zG hN g.grow) (by rw[e2];exact h) hs';intro j o2 ho2 hl e he hb;by_cases hji:i=j
    ·subst hji;rw[ho]at ho2;simp only[aA]at ho2;subst ho2;exact getD_set_true (hall e he hb)
    ·rw[getD_set_ne false hji]at hl;exact getD_set_true (hcl j o2 ho2 hl e he hb)
theorem Lp{α:Type}:∀ l:List α,(qAr l.length).filterMap (λi=>l[i]?)=l
 |[]=>rfl
 |x::l=>by
  rw[xI,List.range_succ_eq_map,qDs];simp only[qAi];rw[qEg];congr 1;exact Lp l
theorem Sim.drawn{C:Ctx}{β:Nat->Pl}{σ:St}{a:Act}{w:World}(hs:Sim C β σ a w)(n:Nat):Sim C β σ a { w with drawn:=n }:=by
 have hk:Keep (C.N β σ.h) w { w with drawn:=n }:=⟨aS _,λb hb _=>rfl,λ_ _ _ _ _ h=>h⟩;refine⟨⟨λid o ho=>?_,hs.heap.dead,hs.heap.kX,hs.heap.eZ,hs.heap.n0,⟨hs.heap.frame.1,hs.heap.frame.2,hs.heap.frame.3⟩,hs.heap.size,hs.heap.os,hs.heap.tape,hs.heap.output,hs.heap.fixed⟩,hs.defers,hs.size,λi v hv=>(hs.reg i v hv).mono (Moves.refl β) hk λ_ _ _ h=>h⟩;exact(hs.heap.obj id o ho).mono (Moves.refl β) hk (λ_ _ _ h=>h) λb hb=>rfl
theorem xM{α γ:Type}:∀ {l:List α}{m:List γ}{i:Nat}{x:α}{y:γ},(l.zip m)[i]?=some (x,y)->l[i]?=some x/\m[i]?=some y
 |[],_,_,_,_,h=>by simp at h
 |_::_,[],_,_,_,h=>by simp at h
 |a::l,b::m,0,x,y,h=>by
  simp only[List.zip_cons_cons,qAi,aA,aC]at h;exact⟨congrArg some h.1,congrArg some h.2⟩
 |a::l,b::m,i+1,x,y,h=>by simpa using xM (l:=l) (m:=m) (i:=i) (by simpa using h)
theorem zip_fst{α γ:Type}:∀ {l:List α}{m:List γ}(_:m.length=l.length) (i:Nat),((l.zip m)[i]?).map (·.1)=l[i]?
 |[],_,_,_=>by simp
 |_::_,[],h,_=>by cases h
 |a::l,b::m,h,0=>rfl
 |a::l,b::m,h,i+1=>by simpa using zip_fst (l:=l) (m:=m) (by simpa using h) i
def yDi{ρ:Type}(Γ:Orc ρ)(o:Oper):Option (FuncId × Array Operand):=
 match o.op,o.guard with
 |.call { callee:=.value (.func f),args,.. },none=>match Γ.pure f with
  |none=>some (f,args)
  |some _=>none
 |_,_=>none
def zUy{ρ:Type}(Γ:Orc ρ):List Oper->Nat->Option (Nat × Oper × FuncId × Array Operand)
 |[],_=>none
 |o::r,i=>match yDi Γ o with
  |some (f,args)=>some (i,o,f,args)
  |none=>zUy Γ r (i+1)
def Ni(ids:List Nat)(u:Nat):Bool:=vF u 0||(zKu u&&match pos (u / 2-3) ids 0 with|none=>true|some _=>false)
def zNz(ops:Array Oper)(j:Nat)(o:Oper)(ids:List Nat):List Nat->Nat->Bool
 |[],_=>true
 |v::r,i=>(ahead ops ops.size i j||(match ops[i]? with|some x=>qDp ops x o&&Ni ids v|none=>false))&&zNz ops j o ids r (i+1)
def Kz (ops:Array Oper) (j:Nat):Nat->Nat->Bool | 0,_=>true | n+1,i=>ahead ops ops.size j i&&Kz ops j n (i+1)
def zYd{ρ:Type}(Γ:Orc ρ)(T:Tab)(ops:Array Oper)(σ:St)(k:K ρ):Option ρ :=
 match yO ops.toList 0 with
 |true =>
  match zUy Γ ops.toList 0 with
  |none =>
   match xIv T ops with
   |some o=>match o with
    |.arr e te ver rows wr=>if ver=0/\wr=true/\0<te.size/\rows.length=0 then mF Γ.quiet T (σ.h.length+1) ops ops.toList 0 [] ⟨σ.r,σ.h++[.arr e te 0 [] true]⟩ λ_ σ'=>k .normal σ' else none
    |_=>none
   |none=>mF Γ.quiet T σ.h.length ops ops.toList 0 [] σ λ_ σ'=>k .normal σ'
  |some (j,o,f,args)=>
   mF Γ.quiet T 0 ops (ops.toList.take j) 0 [] σ λus σ1 =>
    match Kz ops j (ops.size-(j+1)) (j+1)&&zNz ops j o (Γ.ids f (jQ σ1 args.toList) σ1.h) us 0 with
    |true=>Γ.gen f (jQ σ1 args.toList) σ1.h λout h'=>match out with
     |.ret v=>mF Γ.quiet T 0 ops (ops.toList.drop (j+1)) (j+1) (us++[0]) ⟨cB σ1.r o.dst v,h'⟩ λ_ σ2=>k .normal σ2
     |.pan t v=>k (.pan t v) ⟨σ1.r.map λ_=>.cK,h'⟩
    |false=>none
 |false=>none
theorem zQj{ρ:Type}{Γ:Orc ρ}:∀ {l:List Oper}{i j:Nat}{o:Oper}{f:FuncId}{args:Array Operand},zUy Γ l i=some (j,o,f,args)->∃ m,j=i+m/\l[m]?=some o/\yDi Γ o=some (f,args)
 |[],_,_,_,_,_,h=>by cases h
 |x::r,i,j,o,f,args,h=>by
  simp only[zUy]at h;split at h
  ·rename_i f' args' hx;simp only[aA,aC]at h;obtain⟨rfl,rfl,rfl,rfl⟩:=h;exact⟨0,rfl,rfl,hx⟩
  ·obtain⟨m,h1,h2,h3⟩:=zQj h;exact⟨m+1,by omega,by simpa using h2,h3⟩
theorem yOo{ρ:Type}{Γ:Orc ρ}{o:Oper}{f:FuncId}{args:Array Operand}(h:yDi Γ o=some (f,args)):o.guard=none/\∃ ats,o.op=.call { callee:=.value (.func f),args:=args,argTypes:=ats }:=by
 unfold yDi at h;split at h
 ·rename_i g args' ats ho hg;split at h
  ·simp only[aA,aC]at h;obtain⟨rfl,rfl⟩:=h;exact⟨hg,ats,ho⟩
  ·cases h
 ·cases h
theorem zKy{ops:Array Oper}{j:Nat}{o:Oper}{ids:List Nat}:∀ {l:List Nat}{k:Nat},zNz ops j o ids l k=true->∀ (i:Nat) (v:Nat) (x:Oper),l[i]?=some v->ops[k+i]?=some x ->
 (qDp ops x o=true/\Ni ids v=true)\/ahead ops ops.size (k+i) j=true
 |[],_,_,_,_,_,h,_=>by simp at h
 |y::l,k,h,i,v,x,hi,hx=>by
  simp only[zNz,aD,qDq]at h;cases i with
  |zero =>
   simp only[qAi,aA]at hi;subst hi;rw[qAa]at hx;rcases h.1 with h1|h1
   ·exact .inr h1
   ·rw[hx]at h1;simp only[aD]at h1;exact .inl h1
  |succ i =>
   have:=zKy h.2 i v x (by simpa using hi) (by rw[show k+1+i=k+(i+1)by omega];exact hx)
   rwa [show k+1+i=k+(i+1)by omega]at this
theorem Ck{ops:Array Oper}{j:Nat}:∀ {n i:Nat},Kz ops j n i=true->∀ m,m<n->ahead ops ops.size j (i+m)=true
 |0,_,_,m,hm=>by omega
 |n+1,i,h,m,hm=>by
  simp only[Kz,aD]at h;cases m with
  |zero=>exact h.1
  |succ m =>
   have:=Ck h.2 m (by omega)
   rwa [show i+1+m=i+(m+1)by omega]at this
theorem zGy{π:FuncId->Option PE}{ops:Array Oper}{o:Oper}{ids:List Nat}{v:V}:∀ {L:List (Oper × Nat)}{σ σA:St}{h':List Ob},(∀ x∈L,qDp ops x.1 o=true/\Ni ids x.2=true)->Run π T ops L σ σA ->
 (∀ id,id<σ.h.length->id∉ids->h'[id]?=σ.h[id]?)->σA.h=σ.h/\Run π T ops L ⟨cB σ.r o.dst v,h'⟩ ⟨cB σA.r o.dst v,h'⟩/\∀ y∈o.op.operands,ovl σA y=ovl σ y
 |[],σ,σA,h',_,hr,_=>by
  obtain rfl:=hr;exact⟨rfl,rfl,λ_ _=>rfl⟩
 |(x,u)::L,σ,σA,h',hf,hr,hh=>by
  obtain⟨v1,h1,g,hr⟩:=hr;obtain⟨ha,hu⟩:=hf (x,u) (.head _);obtain⟨a1,a2,a3⟩:=Oper.apart_spec ha;have key:h1=σ.h/\zM π T ops ⟨cB σ.r o.dst v,h'⟩ x u v1 h':=by
   simp only[Ni,qDq,aD]at hu;rcases hu with hu|⟨hu,hp⟩
   ·have hu:=aP hu;obtain⟨e,k1⟩:=g.dry hu;have k:∀ h3,iA π T ops ⟨cB σ.r o.dst v,h3⟩ x v1 h3:=λh3=>(k1 h3).move o.dst v (.inl rfl) rfl a3
    exact⟨e,k h',λ_=>⟨rfl,k⟩,λ_=>rfl,(λh6=>by omega),(λh3=>by omega),aS _⟩
   ·have hrd:rdB u=true:=by simp only[rdB,hu,Bool.or_true]
    simp only[zKu,aD]at hu;have h6:=bX hu.1;have h0:=aP hu.2;obtain⟨id,fo,k1,k2,k3,k4,k5⟩:=g.at6 h6;obtain rfl:=k3 h0;have hid:id∉ids:=by
     intro hm;have e:u / 2-3=id:=by omega
     rw[e]at hp;cases hq:pos id ids 0 with
     |some q=>rw[hq]at hp;cases hp
     |none=>exact zKz hq hm
    have he:=hh id k2 hid;have hlt:id<h'.length:=by
     rcases jF id h'.length with h|h
     ·exact h
     ·rw[qAu h,List.getElem?_eq_getElem k2]at he;cases he
    refine⟨k4,(k5 h' he).move o.dst v (.inl rfl) rfl a3,λh=>by omega,λ_=>rfl,λ_=>⟨id,none,k1,hlt,k3,rfl,λh2 he2=>(k5 h2 (he2.trans he)).move o.dst v (.inl rfl) rfl a3⟩,(λh=>by omega),aS _⟩
  obtain⟨rfl,g2⟩:=key;obtain⟨k1,k2,k3⟩:=zGy (σ:=⟨cB σ.r x.dst v1,σ.h⟩) (h':=h') (λy hy=>hf y (.tail _ hy)) hr hh;refine⟨k1,⟨v1,h',g2,?_⟩,λy hy=>?_⟩
  ·have e:cB (cB σ.r o.dst v) x.dst v1=cB (cB σ.r x.dst v1) o.dst v:=(zKw a2).symm;simp only[e];exact k2
  ·rw[k3 y hy];have hne:∀ t,x.dst=some t->y≠.tmp t:=λt ht e=>a1 t ht (by
    subst e;exact qAq _ (qDt.2 ⟨.tmp t,by simpa using hy,rfl⟩))
   exact zEo hne
where
 zKz {i:Nat}:∀ {l:List Nat}{n:Nat},pos i l n=none->i∉l
  |[],_,_=>by simp
  |a::r,n,h=>by
   simp only[pos]at h;split at h
   ·cases h
   ·rename_i hb;intro hm;cases hm with
    |head=>simp at hb
    |tail _ hm=>exact zKz h hm
theorem Sim.cK{C:Ctx}{β:Nat->Pl}{σ:St}{a:Act}{w:World}(hs:Sim C β σ a w){n:Nat}(hn:σ.r.length=n)(r:List V)(hr:r.length=n):Sim C β ⟨r.map λ_=>.cK,σ.h⟩ a w:=by
 refine⟨hs.heap,hs.defers,by rw[<- hs.size,hn];simpa using hr,λi v hv=>?_⟩;simp only[qBx]at hv;cases h:r[i]? with
 |none=>rw[h]at hv;cases hv
 |some u=>rw[h]at hv;simp at hv;subst hv;trivial
theorem yJz{r:List V}{d:Option Tmp}{v:V}:(cB r d v).length=r.length:=by
 cases d<;>simp[cB]
theorem zGz{π:FuncId->Option PE}{ops:Array Oper}:∀ {L:List (Oper × Nat)}{σ σA:St},Run π T ops L σ σA->σA.r.length=σ.r.length
 |[],σ,σA,h=>by obtain rfl:=h;rfl
 |(x,u)::L,σ,σA,h=>by
  obtain⟨v,h',_,h⟩:=h;rw[zGz h,yJz]
theorem yAi{C:Ctx}(hT:bU C.P T)(hΓ:kW C.P Γ){ops:Array Oper}(hd:yO ops.toList 0=true){j:Nat}{o:Oper}{f:FuncId}{args:Array Operand}(hj:ops[j]?=some o)(hg:o.guard=none){ats:Array TypeId}(hop:o.op=.call { callee:=.value (.func f),args:=args,argTypes:=ats }){LA:List (Oper × Nat)}{σA:St}{r:ρ}{k:Dec.K ρ}{Q:Exit->Act->World->Prop}(hLA:LA.length=j)(hL:∀ i,i<j->ops[i]?=(LA[i]?).map (·.1))(hrow:∀ i o u,LA[i]?=some (o,u)->∀ i' x v,i'<i->LA[i']?=some (x,v)->(qDp ops x o=true/\Gy 0 v u=true)\/ahead ops ops.size i' i=true)(hafter:Kz ops j (ops.size-(j+1)) (j+1)=true)(hfree:∀ i x u,LA[i]?=some (x,u)->(qDp ops x o=true/\Ni (Γ.ids f (jQ σA args.toList) σA.h) u=true)\/ahead ops ops.size i j=true)(hgen:(Γ.gen f (jQ σA args.toList) σA.h λout h'=>match out with
  |.ret v=>mF Γ.quiet T 0 ops (ops.toList.drop (j+1)) (j+1) (LA.map (·.2)++[0]) ⟨cB σA.r o.dst v,h'⟩ λ_ σ2=>k .normal σ2
  |.pan t v=>k (.pan t v) ⟨σA.r.map λ_=>.cK,h'⟩)=some r)(hq:∀ e x σ' β' a' w',Sim C β' σ' a' w'->Nc β' w' (C.N β' σ'.h) e x->k e σ'=some r->Q x a' w'):∀ (fuel:Nat) (listed:Array Bool) (β:Nat->Pl) (σ:St) (a:Act) (w:World),listed.size=ops.size->Closed ops listed->listed.getD j true=false->(lN LA listed).length+(ops.size-j)<=fuel->Run Γ.pure T ops (lN LA listed) σ σA->Sim C β σ a w->wpAny C.P .any ops Q fuel listed a w
 |0,listed,β,σ,a,w,hsz,hcl,hjl,hfu,h,hs=>by
  have hlt:=(qCk.1 hj).1;omega
 |fuel+1,listed,β,σ,a,w,hsz,hcl,hjl,hfu,h,hs=>by
  have hjlt:=(qCk.1 hj).1;have Ww:∀ i,j<i->i<ops.size->listed.getD i false=false:=by
   intro i hji hi;cases hli:listed.getD i false with
   |false=>rfl
   |true =>
    have hah:=Ck hafter (i-(j+1)) (by omega);rw[show j+1+(i-(j+1))=i by omega]at hah;have:=nK hcl hah λo' ho' e he hb=>hcl i o' ho' hli e he hb
    rw[Ay hsz hjlt hjl]at this;cases this
  refine⟨λhr=>?_,λi hi=>?_⟩
  ·exfalso;refine zGx (L:=ops.toList.map λo=>(o,0)) (λi=>by simp only[qBx,qCj];cases ops[i]?<;>rfl) hd hsz ?_ hr;intro h0;obtain⟨A,B,e1,_,_⟩:=Hg (L:=ops.toList.map λo=>(o,0)) (i:=j) (o:=(o,0)) (by simp[hj]) hjl;rw[h0]at e1;simp at e1
  ·obtain⟨h1,o1,ho1,hall⟩:=mem_ready.1 hi;have hlt:i<ops.size:=(qCk.1 ho1).1;have yEv:Closed ops (listed.setIfInBounds i true):=by
    intro m o2 ho2 hl e he hb;by_cases hmi:i=m
    ·subst hmi;rw[ho1]at ho2;simp only[aA]at ho2;subst ho2;exact getD_set_true (hall e he hb)
    ·rw[getD_set_ne false hmi]at hl;exact getD_set_true (hcl m o2 ho2 hl e he hb)
   rcases qDv i j with hij|hij|hij
   ·cases hLi:LA[i]? with
    |none=>rw[hL i hij,hLi]at ho1;cases ho1
    |some p =>
     obtain⟨o',u⟩:=p;rw[hL i hij,hLi]at ho1;simp only[kU,aA]at ho1;subst ho1;obtain⟨A,B,e1,e2,hA⟩:=Hg hLi h1;have hfr:∀ x∈A,qDp ops x.1 o'=true/\Gy 0 x.2 u=true:=λx hx=>by
      obtain⟨m,hm,hmo,hml⟩:=hA x hx;rcases hrow i o' u hLi m x.1 x.2 hm hmo with hf|hf
      ·exact hf
      ·have:=nK hcl hf λo2 ho2=>by
        rw[hL i hij,hLi]at ho2;simp only[kU,aA]at ho2;subst ho2;exact hall
       rw[Ay hsz (by omega) hml]at this;cases this
     rw[e1]at h;obtain⟨v,h',g,h⟩:=front (qAm _) hfr h;rw[e1]at hfu;simp only[xG,xI]at hfu;refine zKx hT hΓ (by rw[hL i hij,hLi];rfl) g.goes hs λβ' a' w' hs'=>?_
     refine yAi hT hΓ hd hj hg hop hLA hL hrow hafter hfree hgen hq fuel _ β' _ a' w' (by simpa using hsz) yEv ?_ (by rw[e2];simp only[xG];omega) (by rw[e2];exact h) hs';rw[getD_set_ne true (by omega)];exact hjl
   ·subst hij;rw[hj]at ho1;simp only[aA]at ho1;subst ho1;have hfr:∀ x∈lN LA listed,qDp ops x.1 o=true/\Ni (Γ.ids f (jQ σA args.toList) σA.h) x.2=true:=λx hx=>by
     obtain⟨m,hm,hme⟩:=qDt.1 hx;unfold iB at hme;split at hme
     ·cases hme
     ·rename_i hml;rcases hfree m x.1 x.2 hme with hf|hf
      ·exact hf
      ·have:=nK hcl hf λo2 ho2=>by
        rw[hj]at ho2;simp only[aA]at ho2;subst ho2;exact hall
       have xNl:=qDr.1 hm;rw[Ay hsz (by omega) (by simpa using hml)]at this;cases this
    obtain⟨eh,_,yXa⟩:=zGy (v:=.cK) (h':=σ.h) hfr h λ_ _ _=>rfl
    have ea:jQ σA args.toList=jQ σ args.toList:=He λy hy=>yXa y (by rw[hop];simp only[qDo,Call.operands];simp at hy ⊢;exact .inr hy)
    rw[ea,eh]at hgen hfr;obtain⟨hb,hcall⟩:=hΓ.gen _ _ _ _ _ hgen;have hlen:=zGz h;unfold wpOp;simp only[hj];rw[if_pos (by simp[qDu,hg])];refine .inl (yKy (cs:=[]) hop (by simp[callee,ovl,zEi]) hb (by rw[vE];exact hcall) hs ?_ ?_)
    ·intro v h' β' a' w' ⟨hk,zLa⟩ hs';obtain⟨vs,σe,l1,l2,l3,l4⟩:=Hf hΓ hk;obtain⟨_,hrA,_⟩:=zGy (v:=v) (h':=h') hfr h zLa;rw[eh]at *
     let L:List (Oper × Nat):=LA++(o,0)::(ops.toList.drop (i+1)).zip vs
     have hLL:∀ m:Nat,ops[m]?=(L[m]?).map (·.1):=λm=>by
      rcases qDv m i with hm|hm|hm
      ·rw[hL m hm];simp only[L];rw[fU (by omega)]
      ·subst hm;simp only[L];rw[yZ (by omega),hLA,qEd];simpa using hj
      ·simp only[L];rw[yZ (by omega),hLA,show m-i=(m-i-1)+1 by omega,qEa,zip_fst l1,List.getElem?_drop,show i+1+(m-i-1)=m by omega];simp
     have yOp:L.length=ops.size:=by
      simp only[L,xG,xI,qDw,l1,qDx,yV,qAc,hLA];omega
     have yEw:lN L (listed.setIfInBounds i true)=lN LA listed++(ops.toList.drop (i+1)).zip vs:=ySz hLA hsz hjlt yOp Ww;refine zBy hT hΓ hd hLL ?_ (λβ2 a2 w2 hs2=>hq .normal .normal σe β2 a2 w2 hs2 rfl l3) fuel _ β' _ a' w' (by simpa using hsz) yEv ?_ (qAm _) ?_ hs'
     ·intro m om u hm i' x v' him hi';rcases qDv m i with hmi|hmi|hmi
      ·have e1:LA[m]?=some (om,u):=by simp only[L]at hm;rwa [fU (by omega)]at hm
       have e2:LA[i']?=some (x,v'):=by simp only[L]at hi';rwa [fU (by omega)]at hi'
       exact hrow m om u e1 i' x v' him e2
      ·subst hmi;simp only[L]at hm hi';rw[yZ (by omega),hLA,qEd,qAi,aA,aC]at hm;obtain⟨rfl,rfl⟩:=hm;rw[fU (by omega)]at hi';rcases hfree i' x v' hi' with hf|hf
       ·exact .inl ⟨hf.1,by simp[Gy]⟩
       ·exact .inr hf
      ·simp only[L]at hm;rw[yZ (by omega),hLA,show m-i=(m-i-1)+1 by omega,qEa]at hm;obtain⟨hm1,hm2⟩:=xM hm;have hrw:=l4 (m-i-1) om u hm1 hm2;rw[show i+1+(m-i-1)=m by omega]at hrw;refine(Gz hrw i' v' x ?_ (by rw[yY,hLL i'];rw[hi'];rfl)).elim .inl (λh=>.inr (by rwa [yY]at h));rcases qDv i' i with h2|h2|h2
       ·simp only[L]at hi';rw[fU (by omega)]at hi';rw[fU (by simp;omega),fU (by simp;omega),qBx,hi'];rfl
       ·subst h2;simp only[L]at hi';rw[yZ (by omega),hLA,qEd,qAi,aA,aC]at hi';obtain⟨rfl,rfl⟩:=hi';rw[fU (by simp;omega),yZ (by simp;omega)];simp[hLA]
       ·simp only[L]at hi';rw[yZ (by omega),hLA,show i'-i=(i'-i-1)+1 by omega,qEa]at hi';obtain⟨_,hi2⟩:=xM hi';rw[yZ (by simp;omega)];simp only[xG,List.length_map,xI,List.length_nil,hLA];rw[show i'-(i+(0+1))=i'-i-1 by omega,qEb (by omega)];exact hi2
     ·have hsl:ops.toList.length=ops.size:=qAc;rw[yEw,xG,qDw,l1,qDx,yV,hsl];omega
     ·rw[yEw];exact zUz hrA l2
    ·intro t v h' β' w' y ⟨hk,_⟩ hs' hy;have:=hs'.cK (n:=σ.r.length) rfl σA.r hlen;exact hq (.pan t v) _ _ β' a w' this ⟨y,rfl,hy⟩ hk
   ·have:=Ww i hij hlt;exfalso;have hah:=Ck hafter (i-(j+1)) (by omega);rw[show j+1+(i-(j+1))=i by omega]at hah;have:=nK hcl hah λo' ho'=>by
     rw[ho1]at ho';simp only[aA]at ho';subst ho';exact hall
    rw[Ay hsz hjlt hjl]at this;cases this
where
 zUz {π:FuncId->Option PE}{ops:Array Oper}:∀ {L M:List (Oper × Nat)}{σ σ1 σ2:St},Run π T ops L σ σ1->Run π T ops M σ1 σ2->Run π T ops (L++M) σ σ2
  |[],M,σ,σ1,σ2,h,h2=>by obtain rfl:=h;exact h2
  |(x,u)::L,M,σ,σ1,σ2,h,h2=>by
   obtain⟨v,h',g,h⟩:=h;exact⟨v,h',g,zUz h h2⟩
 ySz {LA LB:List (Oper × Nat)}{p:Oper × Nat}{listed:Array Bool}{i n:Nat}(hLA:LA.length=i) (hsz:listed.size=n) (hi:i<n) (hlen:(LA++p::LB).length=n) (Ww:∀ m,i<m->m<n->listed.getD m false=false):
  lN (LA++p::LB) (listed.setIfInBounds i true)=lN LA listed++LB:=by
  subst hLA;unfold lN;rw[range_split (i:=LA.length) (by rw[hlen];exact hi),qEc,qDs];have hat:iB (LA++p::LB) (listed.setIfInBounds LA.length true) LA.length=none:=by
   unfold iB;rw[if_pos];have:LA.length<listed.size:=by omega
   simp[this]
  rw[hat];congr 1
  ·refine iG λm hm=>?_
   have hm:=qDr.1 hm;unfold iB;rw[getD_set_ne true (by omega),fU hm]
  ·rw[qEg];have hll:(LA++p::LB).length-LA.length-1=LB.length:=by simp
   rw[hll];have:(qAr LB.length).filterMap (iB (LA++p::LB) (listed.setIfInBounds LA.length true) ∘ λk=>LA.length+1+k)=(qAr LB.length).filterMap (λk=>LB[k]?):=iG λk hk=>by
    have hk:=qDr.1 hk;simp only[Function.comp];unfold iB;have xIw:LA.length+LB.length+1=n:=by rw[<- hlen];simp;omega
    have h1:=Ww (LA.length+1+k) (by omega) (by omega);have h2:listed.getD (LA.length+1+k) true=false:=by
     have:LA.length+1+k<listed.size:=by omega
     simpa [this]using h1
    rw[getD_set_ne true (by omega),h2];rw[yZ (by omega),show LA.length+1+k-LA.length=k+1 by omega,qEa];simp
   rw[this];exact Lp LB
theorem yAj{C:Ctx}(hT:bU C.P T)(hΓ:kW C.P Γ)(hm:C.P.follows .mixedOrders=true){id:Nat}{ops:Array Oper}{r:ρ}{Q:Exit->Act->World->Prop}{k:Dec.K ρ}{β:Nat->Pl}{σ:St}{a:Act}{w:World}(hd:yO ops.toList 0=true)(hq:∀ e x σ' β' a' w',Sim C β' σ' a' w'->Nc β' w' (C.N β' σ'.h) e x->k e σ'=some r->Q x a' w')(h:mF Γ.quiet T σ.h.length ops ops.toList 0 [] σ (λ_ σ'=>k .normal σ')=some r)(hs:Sim C β σ a w):(Code.region id ops true).wp C.P Q a w:=by
 obtain⟨vs,σe,hlen,hrun,hk,hrow⟩:=Hf hΓ h;have hL:∀ i:Nat,ops[i]?=((ops.toList.zip vs)[i]?).map (·.1):=λi=>by
  rw[zip_fst hlen];simp
 refine wp_region_any hm ?_;have e:lN (ops.toList.zip vs) (qDy ops.size false)=ops.toList.zip vs:=by
  unfold lN;have e1:(qAr (ops.toList.zip vs).length).filterMap (iB (ops.toList.zip vs) (qDy ops.size false))=(qAr (ops.toList.zip vs).length).filterMap (λi=>(ops.toList.zip vs)[i]?):=iG λi hi=>by
   unfold iB;have:=qDr.1 hi;rw[qDw,hlen,qDx,qAc]at this;simp[this]
  rw[e1];exact Lp _
 refine zBy hT hΓ hd hL ?_ (λβ' a' w' hs'=>hq .normal .normal σe β' a' w' hs' rfl hk) _ _ β σ a _ (by simp) ?_ (by rw[e,qDw,hlen,qDx,qAc];exact aS _) (aS _) (by rw[e];exact hrun) (hs.drawn _)
 ·intro j o u hj i x v hij hi;obtain⟨hj1,hj2⟩:=xM hj;obtain⟨hi1,hi2⟩:=xM hi;have h1:=hrow j o u hj1 hj2;rw[yY,qDc]at h1;have h2:=Gz h1 i v x (by rw[qEb hij];exact hi2) (by rw[yY];simpa using hi1)
  rwa [yY]at h2
 ·intro j o ho hl;simp only[qCl,qEh]at hl;split at hl<;>cases hl
theorem yXb{C:Ctx}(hT:bU C.P T)(hΓ:kW C.P Γ)(hm:C.P.follows .mixedOrders=true){id:Nat}{ops:Array Oper}{r:ρ}{Q:Exit->Act->World->Prop}{k:Dec.K ρ}{β:Nat->Pl}{σ:St}{a:Act}{w:World}(hq:∀ e x σ' β' a' w',Sim C β' σ' a' w'->Nc β' w' (C.N β' σ'.h) e x->k e σ'=some r->Q x a' w')(h:zYd Γ T ops σ k=some r)(hs:Sim C β σ a w):(Code.region id ops true).wp C.P Q a w:=by
 unfold zYd at h;split at h
 ·rename_i hd;split at h
  case h_2 =>
   rename_i j o f args hgi;obtain⟨m,hm,hget,hgen⟩:=zQj hgi;rw[yY]at hm;subst hm;obtain⟨hg,ats,hop⟩:=yOo hgen;obtain⟨vs,σA,hlen,hrun,hk,hrow⟩:=Hf hΓ h;have hj:ops[j]?=some o:=by rw[<- qCj];exact hget
   have hjlt:=(qCk.1 hj).1;have hvl:vs.length=j:=by rw[hlen,List.length_take,qAc];omega
   have hzl:((ops.toList.take j).zip vs).length=j:=by rw[qDw,hlen,qDx,<- hlen,hvl]
   rw[qDc]at hk;split at hk
   case h_2=>cases hk
   rename_i hc;simp only[aD]at hc;have hL:∀ i,i<j->ops[i]?=(((ops.toList.take j).zip vs)[i]?).map (·.1):=λi hi=>by
    rw[zip_fst hlen,qEb hi];simp
   have hmap:((ops.toList.take j).zip vs).map (·.2)=vs:=List.map_snd_zip (by omega);refine wp_region_any hm ?_;have hj0:(qDy ops.size false).getD j true=false:=by simp[hjlt]
   have e:lN ((ops.toList.take j).zip vs) (qDy ops.size false)=(ops.toList.take j).zip vs:=by
    unfold lN;have e1:(qAr ((ops.toList.take j).zip vs).length).filterMap (iB ((ops.toList.take j).zip vs) (qDy ops.size false))=(qAr ((ops.toList.take j).zip vs).length).filterMap (λi=>((ops.toList.take j).zip vs)[i]?):=iG λi hi=>by
     unfold iB;have:=qDr.1 hi;rw[hzl]at this;simp[show i<ops.size by omega]
    rw[e1];exact Lp _
   refine yAi (LA:=(ops.toList.take j).zip vs) hT hΓ hd hj hg hop hzl hL ?_ hc.1 ?_ (by rw[hmap];exact hk) hq _ _ β σ a _ (by simp) ?_ hj0 (by rw[e,hzl];omega) (by rw[e];exact hrun) (hs.drawn _)
   ·intro i o u hi i' x v hij hi';obtain⟨hi1,hi2⟩:=xM hi;obtain⟨xKs,yXc⟩:=xM hi';have h1:=hrow i o u hi1 hi2;rw[yY,qDc]at h1;have hlt2:i'<j:=by
     have:=(bK.1 hi2).1;omega
    have h2:=Gz h1 i' v x (by rw[qEb hij];exact yXc) (by rw[yY,hL i' hlt2,hi'];rfl)
    rwa [yY]at h2
   ·intro i x u hi;obtain⟨hi1,hi2⟩:=xM hi;have hlt2:i<j:=by
     have:=(bK.1 hi2).1;omega
    have h2:=zKy hc.2 i u x hi2 (by rw[yY,hL i hlt2,hi];rfl)
    rwa [yY]at h2
   ·intro m o2 ho2 hl;simp only[qCl,qEh]at hl;split at hl<;>cases hl
  split at h
  ·split at h
   ·rename_i e te ver rows wr hob;split at h
    ·rename_i hc;obtain⟨rfl,rfl,hpos,hr⟩:=hc;obtain⟨β',_,hs',_⟩:=Sv (e:=e) (t:=te) hs hpos;refine yAj hT hΓ hm hd hq ?_ hs';simpa using h
    ·cases h
   ·cases h
  ·exact yAj hT hΓ hm hd hq h hs
 ·cases h
end
end Go.Dec
