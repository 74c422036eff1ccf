/- Part of a proof over this seat: a library of my own, and what it says of this seat. No statement is proved here. -/
import Derived.Test.YtfbilefiaminnaaGreatDoorPartAF
namespace Go.Dec
def dU(o:Oper):Nat :=
 match o.op with
 |.move _|.assign _|.unOp .. |.binOp .. |.extract .. |.pick .. |.build .. |.index .. |.makeFunc .. |.nilCheck _|.field .. => 0
 |.fieldAddr .. |.indexAddr .. |.slice .. |.load .. |.lookup .. => 1
 |.call { callee:=.value _,.. }=>1
 |.call { callee:=.builtin .len,.. }=>1
 |_=>2
def zHb (u:Nat):Bool:=Nat.ble 6 u&&Nat.beq (u % 2) 0
def rdB (u:Nat):Bool:=Nat.ble u 1||zHb u
def Fg (N a b:Nat):Bool:=Nat.beq a 0||(Nat.beq b 0||((rdB a&&rdB b)||((Nat.ble 6 a&&Nat.beq b 3)||((Nat.beq a 3&&(Nat.ble 6 b&&Nat.blt (b / 2) (N+3)))||(Nat.ble 6 a&&(Nat.ble 6 b&&!Nat.beq (a / 2) (b / 2)))))))
def Vv:V->Bool | .one (.val ..)=>true | .one (.qY ..)=>true | .one .bJ=>true | .one .lF=>true | _=>false
def zMz:V->Bool | .one (.val ..)=>true | .one (.qY ..)=>true | .one .bJ=>true | .one .lF=>true | .one (.ptr ..)=>true | .one (.rY ..)=>true | .one (.iZ ..)=>true | _=>false
def uH(b:Bool):Nat:=match b with|true=>0|false=>1
def L.obj:L->Option Nat | .ptr id _=>some id | .rY id _ _ _ _=>some id | .iZ id _ _ _=>some id | _=>none
def zKb(v:V):Nat:=match v with
 |.one l=>(match l.obj with|some id=>6+2*id|none=>uH (Vv (.one l)))
 |v=>uH (Vv v)
def zKc(v:V):Nat:=match v with|.one (.own id _)=>6+2*id|v=>uH (zMz v)
def zYb(σ:St):List Operand->Nat
 |[s,x]=>match ovl σ s,ovl σ x with
  |.one (.own id _),.one (.val (.slice _) _)=>7+2*id
  |_,_=>2
 |_=>2
def zYc(v:V):Nat:=match v with|.one (.ptr id _)=>7+2*id|_=>2
def bH(π:FuncId->Option PE)(σ:St)(o:Oper):Nat :=
 match o.op with
 |.convert _ _ x=>(match ovl σ x with|.one (.val (.int _) _)=>0|_=>2)
 |.fieldAddr _ x _=>uH (zMz (ovl σ x))
 |.indexAddr _ x _=>zKc (ovl σ x)
 |.slice _ x _ _ _=>uH (Vv (ovl σ x))
 |.load _ x=>zKb (ovl σ x)
 |.store _ x _=>zYc (ovl σ x)
 |.buildSlice .. => 3
 |.alloc _=>3
 |.box .. => 3
 |.call { callee:=.value x,args,.. }=>
  match callee σ x args.toList with
  |some (f,cs)=>
   match π f with
   |some e =>
    match Nat.ble e.use 1 with
    |true=>uH (dA V.isD (jL σ args.toList++cs))
    |false=>match Nat.beq e.use 3&&dA V.isD (jL σ args.toList++cs)with
     |true=>3
     |false=>2
   |none=>2
  |none=>2
 |.call { callee:=.builtin .len,args,.. }=>uH (dA Vv (jL σ args.toList))
 |.call { callee:=.builtin .append,args,.. }=>zYb σ args.toList
 |_=>dU o
def ahead(ops:Array Oper):Nat->Nat->Nat->Bool
 |0,_,_=>false
 |n+1,i,j =>
  match ops[j]? with
  |some o=>o.after.toList.any λe=>Region.binds .any e&&(Nat.beq e.on i||ahead ops n i e.on)
  |none=>false
def xW:List Oper->Nat->Bool | [],_=>true | o :: r,j=>(o.after.toList.all fun e=>!Region.binds .any e||Nat.blt e.on j)&&xW r (j+1)
theorem zFk:∀ {l:List Oper}{k:Nat},xW l k=true->∀ j o,l[j]?=some o->∀ e∈o.after,Region.binds .any e=true->e.on<k+j
 |[],_,_,_,_,h=>by simp at h
 |y::l,k,h,j,o,hj=>by
  simp only[xW,aD]at h;cases j with
  |zero =>
   simp only[List.getElem?_cons_zero,aA]at hj;subst hj;intro e he hb;have:=h.1;rw[List.all_eq_true]at this;have:=this e (Array.mem_toList_iff.2 he);simp only[hb,Bool.not_true,Bool.false_or]at this;exact bR this
  |succ j =>
   have:=zFk h.2 j o (by simpa using hj)
   rwa [show k+1+j=k+(j+1)by omega]at this
def vV(N:Nat)(ops:Array Oper)(j:Nat)(o:Oper)(u:Nat):List Nat->Nat->Bool
 |[],_=>true
 |v::r,i=>(ahead ops ops.size i j||(match ops[i]? with|some x=>Oper.apart ops x o&&Fg N v u|none=>false))&&vV N ops j o u r (i+1)
theorem Fh{N:Nat}{ops:Array Oper}{j:Nat}{o:Oper}{u:Nat}:∀ {l:List Nat}{k:Nat},vV N ops j o u l k=true->∀ (i:Nat) (v:Nat) (x:Oper),l[i]?=some v->ops[k+i]?=some x ->
 (Oper.apart ops x o=true/\Fg N v u=true)\/ahead ops ops.size (k+i) j=true
 |[],_,_,_,_,_,h,_=>by simp at h
 |y::l,k,h,i,v,x,hi,hx=>by
  simp only[vV,aD,Bool.or_eq_true]at h;cases i with
  |zero =>
   simp only[List.getElem?_cons_zero,aA]at hi;subst hi;rw[Nat.add_zero]at hx;rcases h.1 with h1|h1
   ·exact .inr h1
   ·rw[hx]at h1;simp only[aD]at h1;exact .inl h1
  |succ i =>
   have:=Fh h.2 i v x (by simpa using hi) (by rw[show k+1+i=k+(i+1)by omega];exact hx)
   rwa [show k+1+i=k+(i+1)by omega]at this
section
variable {ρ:Type}
variable (Γ:Orc ρ)
variable (T:Tab)
def zHc(σ:St)(o:Oper):Option V :=
 match o.op with
 |.buildSlice t n parts =>
  match elemTy T t with
  |some (_,te,_)=>
   if Nat.beq n parts.size&&Nat.ble (n*te.size) 16777216 then
    match elems σ te 0 parts.toList with
    |some ys=>some (.one (.val (.slice te) ys))
    |none=>none
   else none
  |none=>none
 |_=>none
def zSt(σ:St)(o:Oper):Option (Bool × V):=
 match o.op with
 |.makeSlice t l c =>
  match elemTy T t,qL (ovl σ l),qL (ovl σ c)with
  |some (_,te,ti),some (.i64,n),some (.i64,m)=>
   match dS te ti.zls with
   |some (z,[])=>some (decide (0<=n)&&(decide (n=m)&&Nat.ble (n.toNat*ti.bytes) room),.one (.val (.slice te) (List.replicate n.toNat z)))
   |_=>none
  |_,_,_=>none
 |_=>none
def zDp(σ:St)(o:Oper):Option (Bool × V):=
 match o.op with
 |.call { callee:=.builtin .append,args,argTypes }=>
  match args.toList,argTypes.toList with
  |[s,x],[t,t']=>
   match Nat.beq t t',elemTy T t,ovl σ s,ovl σ x with
   |true,some (_,te,ti),.one (.val (.clip t1) xs),.one (.val (.slice t2) ys)=>
    if h:t1=te/\t2=te then some (Nat.ble ((xs.length+ys.length)*ti.bytes) room,.one (.val (.slice te) ((h.1 ▸ xs)++(h.2 ▸ ys))))else none
   |_,_,_,_=>none
  |_,_=>none
 |_=>none
def yYk(σ:St)(o:Oper):Bool :=
 match o.op with
 |.call { callee:=.builtin .append,args,.. }=>
  match args.toList with
  |[s,_]=>match ovl σ s with
   |.one (.val (.clip _) _)=>true
   |_=>false
  |_=>false
 |_=>false
def Vw(σ:St)(o:Oper):Option (Bool × V):=
 match o.op with
 |.makeSlice .. => zSt T σ o
 |.call .. => zDp T σ o
 |_=>match zHc T σ o with
  |some v=>some (true,v)
  |none=>none
def zZr(o:Oper):Bool:=match o.op with
 |.makeSlice .. => true
 |_=>false
def zPl(ops:Array Oper)(o:Oper):Bool :=
 match o.op,o.dst with
 |.buildSlice _ n _,some d=>Nat.ble 1 n&&ops.toList.any λp=>match p.op with
  |.call { callee:=.builtin .append,args,.. }=>(match args.toList with|[_,.tmp e]=>Nat.beq e d|_=>false)
  |_=>false
 |.makeSlice ..,_=>Nat.ble 2 (ops.toList.filter zZr).length
 |_,_=>false
def yUb(ops:Array Oper):Option Oper :=
 match ops.toList.filter zZr with
 |_::_::p::_=>some p
 |_=>none
def xBw(ops:Array Oper)(o:Oper):Bool :=
 match yUb ops,o.dst with
 |some p,some d=>zZr o&&(match p.dst with|some e=>Nat.beq e d|none=>false)
 |_,_=>false
def xBx(ops:Array Oper):Option Ob :=
 match yUb ops with
 |some p=>match p.op with
  |.makeSlice t _ _=>match elemTy T t with
   |some (e,te,_)=>some (.arr e te 0 [] true)
   |none=>none
  |_=>none
 |none=>none
def Sd(id:Nat)(σ:St)(o:Oper):Option (Bool × V × List Ob):=
 match o.op with
 |.makeSlice t l c =>
  match elemTy T t,qL (ovl σ l),qL (ovl σ c),σ.h[id]? with
  |some (e,te,ti),some (.i64,n),some (.i64,m),some (.arr e' t' v [] true)=>
   if t'=te/\e'=e then
    match dS te ti.zls with
    |some (z,[])=>some (decide (0<=n)&&(decide (n=m)&&Nat.ble (n.toNat*ti.bytes) room),.one (.own id (v+1)),σ.h.set id (.arr e te (v+1) (List.replicate n.toNat z) true))
    |_=>none
   else none
  |_,_,_,_=>none
 |_=>none
def lW(N:Nat)(ops:Array Oper):List Oper->Nat->List Nat->St->(List Nat->St->Option ρ)->Option ρ
 |[],_,us,σ,k=>k us σ
 |o::rest,j,us,σ,k =>
  match o.guard with
  |none =>
   match xBw ops o with
   |true =>
    match Sd T (N-1) σ o with
    |some (c,v,h')=>
     match vV N ops j o (7+2*(N-1)) us 0 with
     |true=>chk c (lW N ops rest (j+1) (us++[7+2*(N-1)]) ⟨bW σ.r o.dst v,h'⟩ k)
     |false=>none
    |none=>none
   |false =>
    match (zPl ops o&&!isS T o)||yYk σ o with
    |true =>
     match Vw T σ o with
     |some (c,v)=>
      match vV N ops j o 0 us 0 with
      |true=>chk c (lW N ops rest (j+1) (us++[0]) ⟨bW σ.r o.dst v,σ.h⟩ k)
      |false=>none
     |none=>none
    |false =>
     match vV N ops j o (bH Γ.pure σ o) us 0 with
     |true=>Vs Γ T σ o λe σ'=>match e with|.normal=>(match Nat.ble σ.h.length σ'.h.length with|true=>lW N ops rest (j+1) (us++[bH Γ.pure σ o]) σ' k|false=>none)|_=>none
     |false=>none
  |some (g,want)=>
   match Qn ops g with
   |some s =>
    match σ.r.getD s .bY with
    |.one (.val .bool b)=>
     br b
      (match want with
       |true =>
        match vV N ops j o (bH Γ.pure ⟨σ.r.set s (.one (.val .bool true)),σ.h⟩ o) us 0 with
        |true=>Vs Γ T ⟨σ.r.set s (.one (.val .bool true)),σ.h⟩ o λe σ'=>match e with|.normal=>(match Nat.ble σ.h.length σ'.h.length with|true=>lW N ops rest (j+1) (us++[bH Γ.pure ⟨σ.r.set s (.one (.val .bool true)),σ.h⟩ o]) σ' k|false=>none)|_=>none
        |false=>none
       |false =>
        match vV N ops j o 0 us 0 with
        |true=>lW N ops rest (j+1) (us++[0]) ⟨bW (σ.r.set s (.one (.val .bool true))) o.dst (.tup []),σ.h⟩ k
        |false=>none)
      (match want with
       |false =>
        match vV N ops j o (bH Γ.pure ⟨σ.r.set s (.one (.val .bool false)),σ.h⟩ o) us 0 with
        |true=>Vs Γ T ⟨σ.r.set s (.one (.val .bool false)),σ.h⟩ o λe σ'=>match e with|.normal=>(match Nat.ble σ.h.length σ'.h.length with|true=>lW N ops rest (j+1) (us++[bH Γ.pure ⟨σ.r.set s (.one (.val .bool false)),σ.h⟩ o]) σ' k|false=>none)|_=>none
        |false=>none
       |true =>
        match vV N ops j o 0 us 0 with
        |true=>lW N ops rest (j+1) (us++[0]) ⟨bW (σ.r.set s (.one (.val .bool false))) o.dst (.tup []),σ.h⟩ k
        |false=>none)
    |.tup []=>
     match vV N ops j o 0 us 0 with
     |true=>lW N ops rest (j+1) (us++[0]) ⟨bW σ.r o.dst (.tup []),σ.h⟩ k
     |false=>none
    |_=>none
   |none=>none
end
section
variable {ρ:Type}
variable (π:FuncId->Option PE)
variable (T:Tab)
def Goes(σ:St)(o:Oper)(v:V)(h':List Ob):Prop :=
 match o.op with
 |.call { callee:=.value x,args,.. }=>∃ f cs e y,callee σ x args.toList=some (f,cs)/\π f=some e/\e.run (jL σ args.toList++cs) σ.h=some (true,some y)/\v=(e.enc y (jL σ args.toList++cs) σ.h).1/\h'=(e.enc y (jL σ args.toList++cs) σ.h).2
 |.pick c x y=>∃ b,ovl σ c=.one (.val .bool b)/\v=(if b then ovl σ x else ovl σ y)/\h'=σ.h
 |_=>nG T σ o=some (true,v,h')
def does (want:Bool):V->Option Bool | .one (.val .bool b)=>some (b==want) | .tup []=>some false | _=>none
def gZ(ops:Array Oper)(σ:St)(o:Oper)(v:V)(h':List Ob):Prop :=
 match o.guard with
 |none=>Goes π T σ o v h'\/(Vw T σ o=some (true,v)/\h'=σ.h)\/∃ id,Sd T id σ o=some (true,v,h')
 |some (j,want)=>∃ s b,Qn ops j=some s/\does want (σ.r.getD s .bY)=some b/\if b=true then Goes π T σ o v h' else v=.tup []/\h'=σ.h
end
section
variable {ρ:Type}
variable {Γ:Orc ρ}
variable {T:Tab}
theorem zZs{vs:List V}{hp:List Ob}{key:MK}{k:Out->List Ob->Option ρ}(tab:List (MK × Nat)):zBf Γ.quiet vs hp key k tab=none:=by
 induction tab with
 |nil=>rfl
 |cons p tab ih =>
  obtain⟨a,f⟩:=p;show br (MK.beq key a) none (zBf Γ.quiet vs hp key k tab)=none;rw[ih];cases MK.beq key a<;>rfl
theorem yVy{σ:St}{o:Oper}{k:K ρ}{r:ρ}(h:Vs Γ.quiet T σ o k=some r):∃ v h',Goes Γ.pure T σ o v h'/\k .normal ⟨bW σ.r o.dst v,h'⟩=some r:=by
 unfold Vs at h;unfold Goes;split at h
 ·rename_i x args ats ho;split at h
  ·rename_i f cs hc;unfold Orc.call at h;split at h
   ·rename_i e he;split at h
    ·rename_i c y hr;obtain⟨rfl,h⟩:=iM h;obtain⟨y,rfl,h⟩:=zJw h;exact⟨_,_,by simp only[ho];exact⟨f,cs,e,y,hc,he,hr,rfl,rfl⟩,h⟩
    ·cases h
   ·cases h
  ·split at h
   ·rw[zZs]at h;cases h
   ·cases h
 ·rename_i c x y ho;split at h
  ·rename_i b hb;rcases Vd h with ⟨rfl,h⟩|⟨rfl,h⟩
   ·exact⟨ovl σ x,σ.h,by simp only[ho];exact⟨true,hb,rfl,trivial⟩,h⟩
   ·exact⟨ovl σ y,σ.h,by simp only[ho];exact⟨false,hb,rfl,trivial⟩,h⟩
  ·cases h
 ·rename_i hne1 hne2;split at h
  ·rename_i c v h' hst;obtain⟨rfl,h⟩:=iM h;refine⟨v,h',?_,h⟩;split
   ·rename_i x args ats ho;exact absurd ho (hne1 _ _ _)
   ·rename_i c x y ho;exact absurd ho (hne2 _ _ _)
   ·exact hst
  ·cases h
theorem yVz{σ:St}{o:Oper}{v:V}{h':List Ob}(h:Goes Γ.pure T σ o v h')(k:K ρ):Vs Γ.quiet T σ o k=k .normal ⟨bW σ.r o.dst v,h'⟩:=by
 unfold Goes at h;unfold Vs;split at h
 ·rename_i x args ats ho;obtain⟨f,cs,e,y,hc,he,hr,rfl,rfl⟩:=h;simp only[ho,hc,Orc.call,Orc.quiet,he,hr,chk,ob]
 ·rename_i c x y ho;obtain⟨b,hb,rfl,rfl⟩:=h;simp only[ho,hb];cases b<;>rfl
 ·rename_i hne1 hne2;split
  ·rename_i x args ats ho;exact absurd ho (hne1 _ _ _)
  ·rename_i c x y ho;exact absurd ho (hne2 _ _ _)
  ·simp only[h,chk]
theorem yMt{want b:Bool}{v:V}(h:does want v=some b):(∃ c,v=.one (.val .bool c)/\b=(c==want))\/(v=.tup []/\b=false):=by
 unfold does at h;split at h
 ·rename_i c;simp only[aA]at h;exact .inl ⟨c,rfl,h.symm⟩
 ·simp only[aA]at h;exact .inr ⟨rfl,h.symm⟩
 ·cases h
end
section
variable {π:FuncId->Option PE}
variable {T:Tab}
theorem zBh{σ:St}{h2:List Ob}{d:Option Tmp}{v:V}{x:Operand}(h:∀ t,d=some t->x≠.tmp t):ovl ⟨bW σ.r d v,h2⟩ x=ovl σ x:=by
 cases x with
 |tmp t =>
  cases d with
  |none=>rfl
  |some i =>
   have hne:i≠t:=λe=>h i rfl (by rw[e])
   simp only[ovl,bW,List.getD_eq_getElem?_getD,List.getElem?_set_ne hne]
 |_=>rfl
theorem Ub{σ σ':St}:∀ {xs:List Operand},(∀ x∈xs,ovl σ' x=ovl σ x)->caps σ' xs=caps σ xs
 |[],_=>rfl
 |x::r,h=>by simp only[caps,h x (.head _),Ub (xs:=r) λy hy=>h y (.tail _ hy)]
theorem Fj{σ σ':St}:∀ {xs:List Operand},(∀ x∈xs,ovl σ' x=ovl σ x)->jL σ' xs=jL σ xs
 |[],_=>rfl
 |x::r,h=>by
  have:=Fj (xs:=r) λy hy=>h y (.tail _ hy)
  unfold jL at *;simp only[List.map_cons,h x (.head _),this]
theorem zDq{σ σ':St}:∀ {xs:List (Nat × Operand)},(∀ p∈xs,ovl σ' p.2=ovl σ p.2)->vals σ' xs=vals σ xs
 |[],_=>rfl
 |(i,x)::r,h=>by simp only[vals,h (i,x) (.head _),zDq (xs:=r) λy hy=>h y (.tail _ hy)]
theorem Hy{σ σ':St}{te:Ty}:∀ {xs:List (Nat × Operand)}{k:Nat},(∀ p∈xs,ovl σ' p.2=ovl σ p.2)->elems σ' te k xs=elems σ te k xs
 |[],_,_=>rfl
 |(i,x)::r,k,h=>by simp only[elems,h (i,x) (.head _),Hy (xs:=r) λy hy=>h y (.tail _ hy)]
theorem zZt{σ σ':St}{o:Oper}(hs:∀ x∈o.op.operands,ovl σ' x=ovl σ x)(hh:σ'.h=σ.h):gL T σ' o=gL T σ o:=by
 obtain⟨dst,op,type,pos,after,guard⟩:=o;cases op<;>simp only[Op.operands]at hs<;>simp only[gL,hh]
 case slice t x lo hi mx =>
  cases mx with
  |some m =>
   cases lo with
   |some _=>rfl
   |none =>
    cases hi with
    |none=>rfl
    |some y =>
     have hx:=hs x (by simp);have hy:=hs y (by simp);have hm:=hs m (by simp);simp only[hx,hy,hm]
  |none =>
   have hx:=hs x (by simp);have hl:wY σ' lo=wY σ lo:=by cases lo with
    |none=>rfl
    |some y=>simp only[wY,hs y (by simp)]
   have hr:wY σ' hi=wY σ hi:=by cases hi with
    |none=>rfl
    |some y=>simp only[wY,hs y (by cases lo<;>simp)]
   simp only[hx,hl,hr]
 case build t ps=>rw[Qm,Qm,zDq λp hp=>hs p.2 (by simp at hp ⊢;exact⟨p.1,hp⟩)]
 case buildSlice t n ps =>
  have:∀ te,elems σ' te 0 ps.toList=elems σ te 0 ps.toList:=λte=>Hy λp hp=>hs p.2 (by simp at hp ⊢;exact⟨p.1,hp⟩)
  simp only[this]
 case makeFunc fn first cs =>
  cases fn<;>simp only[]
  rw[Ub (xs:=cs.toList) λx hx=>hs x (by simp at hx ⊢;exact .inr hx),Ub (xs:=first.toList) λx hx=>hs x (by simp at hx ⊢;exact .inl hx)]
 case binOp op xt x y yt=>simp only[zMq,hs x (by simp),hs y (by simp)]
 case convert a b x=>simp only[Py,hs x (by simp)]
 case call c =>
  obtain⟨cl,args,ats⟩:=c;cases cl with
  |builtin b =>
   simp only[Call.operands]at hs;have ha:∀ x∈args.toList,ovl σ' x=ovl σ x:=λx hx=>hs x (by simpa using hx)
   cases b<;>simp only[]
   all_goals first|rfl|(split<;>simp_all[Sc,Nq,zBd];done)|skip
  |_=>rfl
 all_goals first|rfl|(simp_all;done)|skip
theorem Ny{σ σ':St}{te:Ty}:∀ {ps:List (Nat × Operand)}{xs:List te.den},(∀ p∈ps,ovl σ' p.2=ovl σ p.2)->sW σ' te ps xs=sW σ te ps xs
 |[],_,_=>rfl
 |(i,x)::r,xs,h=>by
  simp only[sW,h (i,x) (.head _)];have ih:=λ(zs:List te.den)=>Ny (xs:=zs) (ps:=r) λy hy=>h y (.tail _ hy)
  simp only[ih]
theorem yEj{σ σ':St}{o:Oper}(hs:∀ x∈o.op.operands,ovl σ' x=ovl σ x)(hh:σ'.h=σ.h):Tx T σ' o=Tx T σ o:=by
 obtain⟨dst,op,type,pos,after,guard⟩:=o;cases op<;>simp only[Op.operands]at hs<;>simp only[Tx,hh]
 case field t x f=>simp only[hs x (by simp)]
 case unOp op t x=>cases op<;>simp only[hs x (by simp)]
 case build t ps =>
  have:∀ te (xs:List te.den),sW σ' te ps.toList xs=sW σ te ps.toList xs:=λte xs=>Ny λp hp=>hs p.2 (by simp at hp ⊢;exact⟨p.1,hp⟩)
  simp only[this]
 case index t x i=>simp only[hs x (by simp),hs i (by simp)]
 case convert a b x=>simp only[hs x (by simp)]
 case makeInterface t x=>simp only[hs x (by simp)]
 case typeAssert x xt t ok=>cases ok<;>first|rfl|simp only[hs x (by simp)]
theorem yIn{σ:St}{o:Oper}{c:Bool}{v:V}{h':List Ob}(h:stepM T σ o=some (c,v,h'))(hu:dU o=1):h'=σ.h:=by
 unfold stepM at h;split at h
 ·rename_i ho;simp[dU,ho]at hu
 ·rename_i ho;simp[dU,ho]at hu
 ·rename_i ho;simp[dU,ho]at hu
 ·repeat' (split at h)
  all_goals first|(cases h;done)|(simp only[aA,aB]at h;exact h.2.2.symm)
 ·rename_i ho;simp[dU,ho]at hu
 ·rename_i ho;simp[dU,ho]at hu
 ·cases h
theorem yEk{σ σ':St}{o:Oper}(hs:∀ x∈o.op.operands,ovl σ' x=ovl σ x)(hh:σ'.h=σ.h):stepM T σ' o=stepM T σ o:=by
 unfold stepM;split
 ·rw[hh]
 ·rename_i t m k x ho;simp only[ho,Op.operands]at hs;unfold zSm;rw[hs m (by simp),hs k (by simp),hs x (by simp),hh]
 ·rename_i t m k x ho;simp only[ho,Op.operands]at hs;unfold zSm;rw[hs m (by simp),hs k (by simp),hs x (by simp),hh]
 ·rename_i t m k ok ho;simp only[ho,Op.operands]at hs;rw[hs m (by simp),hs k (by simp),hh]
 ·rename_i t m k ho;simp only[ho,Op.operands]at hs;rw[hs m (by simp),hs k (by simp),hh]
 ·rename_i t m s x ho;simp only[ho,Op.operands]at hs;rw[hs m (by simp),hs s (by simp),hs x (by simp),hh]
 ·rfl
theorem Vx{σ σ':St}:∀ {ps:List (Nat × Operand)},(∀ p∈ps,ovl σ' p.2=ovl σ p.2)->Hu σ' ps=Hu σ ps
 |[],_=>rfl
 |p::r,h=>by simp only[Hu,h p (.head _),Vx (ps:=r) λy hy=>h y (.tail _ hy)]
theorem yEl{σ σ':St}{o:Oper}(hs:∀ x∈o.op.operands,ovl σ' x=ovl σ x)(hh:σ'.h=σ.h):Tw T σ' o=Tw T σ o:=by
 unfold Tw;split
 ·rename_i t n ps ho;simp only[ho,Op.operands]at hs;have hp:∀ p∈ps.toList,ovl σ' p.2=ovl σ p.2:=λp hp=>hs p.2 (by simp at hp ⊢;exact⟨p.1,hp⟩)
  unfold zXw;rw[Hy hp,Vx hp,hh]
 ·rename_i args ats ho;simp only[ho,Op.operands,Call.operands]at hs;have ha:∀ x∈args.toList,ovl σ' x=ovl σ x:=λx hx=>hs x (by simpa using hx)
  have hp:Vb T σ' args ats=Vb T σ args ats:=by
   unfold Vb;cases hl:args.toList with
   |nil=>rfl
   |cons s r =>
    cases r with
    |nil=>rfl
    |cons x r2 =>
     cases r2 with
     |cons _ _=>rfl
     |nil =>
      rw[hl]at ha;have h1:=ha s (by simp);have h2:=ha x (by simp);cases ats.toList with
      |nil=>rfl
      |cons t r3 =>
       cases r3 with
       |nil=>rfl
       |cons t2 r4 =>
        cases r4 with
        |cons _ _=>rfl
        |nil=>simp only[h1,h2,hh]
  rw[hp]
 ·rfl
theorem yEm{σ σ':St}{o:Oper}(hs:∀ x∈o.op.operands,ovl σ' x=ovl σ x)(hh:σ'.h=σ.h):nG T σ' o=nG T σ o:=by
 unfold nG;split
 ·exact yEk hs hh
 ·split
  ·exact yEj hs hh
  ·split
   ·exact yEl hs hh
   ·exact zZt hs hh
theorem Goes.congr{σ σ':St}{o:Oper}{v:V}{h':List Ob}(h:Goes π T σ o v h')(hs:∀ x∈o.op.operands,ovl σ' x=ovl σ x)(hh:σ'.h=σ.h):Goes π T σ' o v h':=by
 unfold Goes at *;split at h
 ·rename_i x args ats ho;obtain⟨f,cs,e,y,hc,he,hr,rfl,rfl⟩:=h;simp only[ho,Op.operands,Call.operands]at hs ⊢;have e1:jL σ' args.toList=jL σ args.toList:=Fj λx hx=>hs x (by simp at hx ⊢;exact .inr hx)
  refine⟨f,cs,e,y,?_,he,?_,by rw[e1,hh],by rw[e1,hh]⟩
  ·rw[<- hc];simp only[callee,hs x (by simp)]
  ·rw[e1,hh];exact hr
 ·rename_i c x y ho;obtain⟨b,hb,rfl,rfl⟩:=h;simp only[ho,Op.operands]at hs ⊢;exact⟨b,by rw[hs c (by simp)];exact hb,by rw[hs x (by simp),hs y (by simp)],hh.symm⟩
 ·rename_i hne1 hne2;rw[yEm hs hh];exact h
theorem yEn{σ:St}{o:Oper}{c:Bool}{v:V}{h':List Ob}(h:gL T σ o=some (c,v,h'))(hu:dU o=0):h'=σ.h/\∀ h2,gL T ⟨σ.r,h2⟩ o=some (c,v,h2):=by
 obtain⟨dst,op,type,pos,after,guard⟩:=o;have e:∀ h2 x,ovl ⟨σ.r,h2⟩ x=ovl σ x:=λh2 x=>by cases x<;>rfl
 have e1:∀ h2 op xt x y,zMq T ⟨σ.r,h2⟩ op xt x y=zMq T σ op xt x y:=λh2 op xt x y=>by simp only[zMq,e]
 have e2:∀ h2 a b x,Py T ⟨σ.r,h2⟩ a b x=Py T σ a b x:=λh2 op xt x=>by simp only[Py,e]
 have e3:∀ h2 t (ps:List (Nat × Operand)),Qm T ⟨σ.r,h2⟩ t ps=Qm T σ t ps:=λh2 t ps=>by simp only[Qm];rw[zDq (σ:=σ) (σ':=⟨σ.r,h2⟩) λp _=>e h2 p.2]
 have e4:∀ h2 (ps:List Operand),caps ⟨σ.r,h2⟩ ps=caps σ ps:=λh2 ps=>Ub λp _=>e h2 p
 cases op<;>simp only[dU,Nat.succ_ne_zero]at hu<;>simp only[gL,e,e1,e2,e3,e4]at h ⊢
 case call c =>
  obtain⟨cl,args,ats⟩:=c;cases cl with
  |builtin b=>cases b<;>simp only[Nat.succ_ne_zero]at hu
  |_=>cases h
 case makeFunc fn first cs =>
  cases fn
  case func f =>
   simp only[]at h ⊢
   (repeat' split at h)<;>first
    |(cases h;done)
    |(simp only[aA,aB]at h;obtain⟨rfl,rfl,rfl⟩:=h;exact⟨rfl,λh2=>by simp_all⟩)
  all_goals cases h
 all_goals (repeat' split at h)<;>first
  |(cases h;done)
  |(simp only[aA,aB]at h;obtain⟨rfl,rfl,rfl⟩:=h;exact⟨rfl,λh2=>by simp_all⟩)
theorem zX{b:Bool}(h:uH b=0):b=true:=by
 cases b
 ·cases h
 ·rfl
theorem yIo{v:V}(h:zKb v=0):Vv v=true:=by
 unfold zKb at h;split at h
 ·split at h
  ·omega
  ·exact zX h
 ·exact zX h
theorem zLn(v:V):zKb v<=1\/∃ l id,v=.one l/\l.obj=some id/\zKb v=6+2*id:=by
 unfold zKb;split
 ·rename_i l;split
  ·rename_i id hid;exact .inr ⟨_,_,rfl,hid,rfl⟩
  ·left;unfold uH;split<;>omega
 ·rename_i v _;left;unfold uH;split<;>omega
theorem yIp{v:V}(h:zKc v=0):zMz v=true:=by
 unfold zKc at h;split at h
 ·omega
 ·exact zX h
theorem zLo(v:V):zKc v<=1\/∃ id ver,v=.one (.own id ver)/\zKc v=6+2*id:=by
 unfold zKc;split
 ·exact .inr ⟨_,_,rfl,rfl⟩
 ·rename_i v _;left;unfold uH;split<;>omega
theorem Qa(v:V):zYc v=2\/∃ id off,v=.one (.ptr id off)/\zYc v=7+2*id:=by
 unfold zYc;split
 ·exact .inr ⟨_,_,rfl,rfl⟩
 ·exact .inl rfl
theorem Hz(σ:St)(xs:List Operand):zYb σ xs=2\/∃ y x id ver te ys,xs=[y,x]/\ovl σ y=.one (.own id ver)/\ovl σ x=.one (.val (.slice te) ys)/\zYb σ xs=7+2*id:=by
 unfold zYb;split
 ·rename_i y x;split
  ·rename_i id ver te ys h1 h2;exact .inr ⟨y,x,id,ver,te,ys,rfl,h1,h2,rfl⟩
  ·exact .inl rfl
 ·exact .inl rfl
theorem zZu{l:L}(h:zMz (.one l)=true)(hp:List Ob):l.view hp=l:=by
 cases l<;>first|rfl|cases h
theorem yYl{v:V}(h:Vv v=true):zMz v=true:=by
 unfold Vv at h;split at h<;>first|rfl|cases h
theorem yIq{σ:St}{o:Oper}{c:Bool}{v:V}{h':List Ob}(h:gL T σ o=some (c,v,h'))(hu:bH π σ o=0):h'=σ.h/\∀ h2,gL T ⟨σ.r,h2⟩ o=some (c,v,h2):=by
 have h0:=h;obtain⟨dst,op,type,pos,after,guard⟩:=o;have e:∀ h2 x,ovl ⟨σ.r,h2⟩ x=ovl σ x:=λh2 x=>by cases x<;>rfl
 cases op
 case fieldAddr s x f =>
  simp only[bH]at hu;have hd:=zX hu;cases hx:ovl σ x with
  |one l =>
   rw[hx]at hd;obtain⟨F,hF⟩:∃ F:Nat->Option (Bool × L),∀ h1 off,Vl h1 l off=F off:=⟨λoff=>Vl [] l off,λh1 off=>by cases l<;>first|rfl|cases hd⟩;simp only[gL,e,hx]at h ⊢
   (repeat' split at h)<;>first
    |(cases h;done)
    |(simp only[aA,aB]at h;obtain⟨rfl,rfl,rfl⟩:=h;exact⟨rfl,λh2=>by simp_all⟩)
  |_=>rw[hx]at hd;cases hd
 case indexAddr t x i =>
  simp only[bH]at hu;have hd:=yIp hu;cases hx:ovl σ x with
  |one l =>
   rw[hx]at hd;obtain⟨F,hF⟩:∃ F:TK->Int->Option (Bool × L),∀ h1 k n,Bn T h1 k l n=F k n:=⟨λk n=>Bn T [] k l n,λh1 k n=>by cases l<;>first|(cases hd;done)|(cases k<;>rfl)|(rename_i t1 x1;cases t1<;>cases k<;>rfl)⟩;have hv:=λhp=>zZu hd hp
   simp only[gL,e,hx]at h ⊢
   (repeat' split at h)<;>first
    |(cases h;done)
    |(simp only[aA,aB]at h;obtain⟨rfl,rfl,rfl⟩:=h;exact⟨rfl,λh2=>by simp_all⟩)
  |_=>rw[hx]at hd;cases hd
 case load t x =>
  simp only[bH]at hu;have hd:=yIo hu;cases hx:ovl σ x with
  |one l =>
   rw[hx]at hd;obtain⟨F,hF⟩:∃ F:Option (Bool × V),∀ h1,loadAt T h1 t l=F:=⟨loadAt T [] t l,λh1=>by cases l<;>first|(cases hd;done)|rfl⟩;simp only[gL,e,hx,hF]at h ⊢
   (repeat' split at h)<;>first
    |(cases h;done)
    |(simp only[aA,aB]at h;obtain⟨rfl,rfl,rfl⟩:=h;exact⟨rfl,λh2=>by simp_all⟩)
  |_=>rw[hx]at hd;cases hd
 case slice t x lo hi mx =>
  simp only[bH]at hu;have hd:=zX hu;cases mx with
  |some m =>
   cases lo with
   |some _=>cases h
   |none =>
    cases hi with
    |none=>cases h
    |some y =>
     simp only[gL,e]at h ⊢
     (repeat' split at h)<;>first
      |(cases h;done)
      |(simp only[aA,aB]at h;obtain⟨rfl,rfl,rfl⟩:=h;exact⟨rfl,λh2=>by simp_all⟩)
  |none =>
   have eo:∀ h2 x,wY ⟨σ.r,h2⟩ x=wY σ x:=λh2 x=>by cases x with
    |none=>rfl
    |some y=>simp only[wY,e]
   cases hx:ovl σ x with
   |one l =>
    rw[hx]at hd;obtain⟨F,hF⟩:∃ F:TK->Option Int->Option Int->Option (Bool × L),∀ h1 k a b,slice k l a b h1=F k a b:=⟨λk a b=>slice k l a b [],λh1 k a b=>by cases l<;>first|(cases hd;done)|(cases k<;>rfl)|(rename_i t1 x1;cases t1<;>cases k<;>rfl)⟩;have hv:=λhp=>zZu (yYl hd) hp
    simp only[gL,e,eo,hx]at h ⊢;cases l<;>first|(cases hd;done)|skip
    all_goals try simp only[]at h ⊢
    all_goals (repeat' split at h)<;>first
     |(cases h;done)
     |(simp only[aA,aB]at h;obtain⟨rfl,rfl,rfl⟩:=h;exact⟨rfl,λh2=>by simp_all⟩)
   |_=>rw[hx]at hd;cases hd
 case call cc =>
  obtain⟨cl,args,ats⟩:=cc;cases cl with
  |builtin b =>
   cases b
   case len =>
    simp only[bH]at hu;have hd:=zX hu;simp only[gL]at h ⊢;split at h
    ·rename_i x t _ ha hat;simp only[ha,jL,List.map_cons,List.map_nil,dA,Bool.and_true]at hd;have key:∀ h2,Sc T ⟨σ.r,h2⟩ t x=Sc T σ t x:=λh2=>by
      simp only[Sc,e];cases hx:ovl σ x with
      |one l =>
       rw[hx]at hd;cases T.get t with
       |none=>rfl
       |some ti=>simp only[];cases l<;>first|(cases hd;done)|rfl|(rename_i t1 x1;cases t1<;>rfl)
      |_=>rw[hx]at hd;cases hd
     simp only[key];split at h
     ·rename_i c1 v1 hl;simp only[aA,aB]at h;obtain⟨rfl,rfl,rfl⟩:=h;exact⟨rfl,λh2=>by simp only⟩
     ·cases h
    all_goals first|(cases h;done)|(simp_all;done)
   case append=>exfalso;simp only[bH]at hu;rcases Hz σ args.toList with h2|⟨_,_,_,_,_,_,_,_,_,h2⟩<;>omega
   all_goals first|(simp only[bH,dU,Nat.succ_ne_zero,OfNat.ofNat_ne_zero]at hu;done)|(exfalso;revert hu;simp[bH,dU];done)
  |_=>cases h
 case convert a b x =>
  have e2:∀ h2,Py T ⟨σ.r,h2⟩ a b x=Py T σ a b x:=λh2=>by simp only[Py,e]
  simp only[gL,e2]at h ⊢;split at h
  ·rename_i c1 v1 hc;simp only[aA,aB]at h;obtain⟨rfl,rfl,rfl⟩:=h;exact⟨rfl,λh2=>by simp only⟩
  ·cases h
 case store t x y =>
  exfalso;simp only[bH]at hu;rcases Qa (ovl σ x)with h2|⟨id,off,_,h2⟩<;>omega
 all_goals first|exact yEn h0 hu|(exfalso;revert hu;simp[bH,dU];done)
theorem yMu{σ:St}{o:Oper}{c:Bool}{v:V}{h':List Ob}(h:Tx T σ o=some (c,v,h'))(hu:bH π σ o=0):h'=σ.h/\∀ h2,Tx T ⟨σ.r,h2⟩ o=some (c,v,h2):=by
 obtain⟨dst,op,type,pos,after,guard⟩:=o;have e:∀ h2 x,ovl ⟨σ.r,h2⟩ x=ovl σ x:=λh2 x=>by cases x<;>rfl
 cases op<;>simp only[Tx,e]at h ⊢
 case unOp op t x =>
  cases op<;>simp only[reduceCtorEq]at h ⊢
  (repeat' split at h)<;>first
   |(cases h;done)
   |(simp only[aA,aB]at h;obtain⟨rfl,rfl,rfl⟩:=h;exact⟨rfl,λh2=>by simp_all⟩)
 case build t ps =>
  have es:∀ h2 te (xs:List te.den),sW ⟨σ.r,h2⟩ te ps.toList xs=sW σ te ps.toList xs:=λh2 te xs=>Ny λp _=>e h2 p.2
  simp only[es]at h ⊢
  (repeat' split at h)<;>first
   |(cases h;done)
   |(simp only[aA,aB]at h;obtain⟨rfl,rfl,rfl⟩:=h;exact⟨rfl,λh2=>by simp_all⟩)
 case field t x f =>
  (repeat' split at h)<;>first
   |(cases h;done)
   |(simp only[aA,aB]at h;obtain⟨rfl,rfl,rfl⟩:=h;exact⟨rfl,λh2=>by simp_all⟩)
 case index t x i =>
  (repeat' split at h)<;>first
   |(cases h;done)
   |(simp only[aA,aB]at h;obtain⟨rfl,rfl,rfl⟩:=h;exact⟨rfl,λh2=>by simp_all⟩)
 case makeInterface t x=>simp[bH,dU]at hu
 case typeAssert x xt t ok=>simp[bH,dU]at hu
 case convert a b x =>
  simp only[bH]at hu;split at hu
  ·rename_i k n hx;exfalso;rw[hx]at h;cases hA:T.get a with
   |none=>simp[hA]at h
   |some ts =>
    cases hB:T.get b with
    |none=>simp[hA,hB]at h
    |some td =>
     simp only[hA,hB]at h;split at h
     ·rename_i e1 hk hd;cases he:T.get e1 with
      |none=>simp[he]at h
      |some te =>
       simp only[he]at h;split at h
       ·simp[rowsOf]at h
       ·cases h
     ·rename_i e1 hk hd;cases he:T.get e1 with
      |none=>simp[he]at h
      |some te=>simp[he]at h
     ·cases h
  ·cases hu
 all_goals cases h
theorem yMv{σ:St}{o:Oper}{c:Bool}{v:V}{h':List Ob}(h:nG T σ o=some (c,v,h'))(hu:bH π σ o=0):h'=σ.h/\∀ h2,nG T ⟨σ.r,h2⟩ o=some (c,v,h2):=by
 unfold nG at h;split at h
 ·rename_i hm;exfalso;unfold isM at hm;split at hm
  ·rename_i ho;simp[bH,dU,ho]at hu
  ·rename_i ho;simp[bH,dU,ho]at hu
  ·rename_i ho;simp[bH,dU,ho]at hu
  ·rename_i ho;simp[bH,dU,ho]at hu
  ·rename_i ho;simp[bH,dU,ho]at hu
  ·rename_i ho;simp[bH,dU,ho]at hu
  ·cases hm
 ·rename_i hm;split at h
  ·rename_i hx;obtain⟨h1,h2⟩:=yMu h hu;exact⟨h1,λh3=>by unfold nG;rw[hm,hx];exact h2 h3⟩
  ·rename_i hx;split at h
   ·exfalso;unfold Tw at h;split at h
    ·rename_i ho;simp[bH,ho]at hu
    ·rename_i ho;simp only[bH,ho]at hu;rcases Hz σ _ with h1|⟨_,_,id,_,_,_,_,_,_,h1⟩<;>rw[h1]at hu<;>omega
    ·cases h
   ·rename_i hsn;obtain⟨h1,h2⟩:=yIq h hu;exact⟨h1,λh3=>by unfold nG;rw[hm,hx,hsn];exact h2 h3⟩
theorem Goes.dry{P:Program}(hπ:∀ f e,π f=some e->e.OK P f){σ:St}{o:Oper}{v:V}{h':List Ob}(h:Goes π T σ o v h')(hu:bH π σ o=0):h'=σ.h/\∀ h2,Goes π T ⟨σ.r,h2⟩ o v h2:=by
 unfold Goes at *;split at h
 ·rename_i x args ats ho;obtain⟨f,cs,e,y,hc,he,hr,rfl,rfl⟩:=h;simp only[bH,ho,hc,he]at hu;split at hu
  ·rename_i hle;have hok:=hπ f e he;have hd:=zX hu;refine⟨hok.same hle _ _ _,λh2=>?_⟩;have ha:jL ⟨σ.r,h2⟩ args.toList=jL σ args.toList:=Fj λx _=>by cases x<;>rfl
   have hcl:callee ⟨σ.r,h2⟩ x args.toList=callee σ x args.toList:=by
    have:ovl ⟨σ.r,h2⟩ x=ovl σ x:=by cases x<;>rfl
    simp only[callee,this]
   refine⟨f,cs,e,y,by rw[hcl];exact hc,he,?_,?_,?_⟩
   ·rw[ha,(hok.dry hle _ h2 σ.h hd).1];exact hr
   ·rw[ha];exact(hok.dry hle _ h2 σ.h hd).2 y ▸ rfl
   ·rw[hok.same hle]
  ·split at hu<;>cases hu
 ·rename_i c x y ho;obtain⟨b,hb,rfl,rfl⟩:=h;exact⟨rfl,λh2=>⟨b,hb,rfl,rfl⟩⟩
 ·exact yMv h hu
theorem yEo{σ:St}{o:Oper}{c:Bool}{v:V}{h':List Ob}(h:gL T σ o=some (c,v,h'))(hu:dU o=1):h'=σ.h:=by
 obtain⟨dst,op,type,pos,after,guard⟩:=o;cases op<;>simp only[dU,Nat.zero_ne_one,reduceCtorEq,Nat.succ.injEq]at hu<;>simp only[gL]at h
 case call c =>
  obtain⟨cl,args,ats⟩:=c;cases cl with
  |builtin b =>
   cases b<;>simp only[Nat.succ.injEq,Nat.succ_ne_zero]at hu
   all_goals try simp only[]at h
   all_goals (repeat' split at h)<;>first
    |(cases h;done)
    |(simp only[aA,aB]at h;obtain⟨rfl,rfl,rfl⟩:=h;rfl)
    |(simp_all;done)
    |(rename_i hz _ _;cases hz)
    |trace_state
  |_=>cases h
 case slice t x lo hi mx =>
  cases mx with
  |some m =>
   cases lo with
   |some _=>cases h
   |none =>
    cases hi with
    |none=>cases h
    |some y =>
     simp only[]at h
     (repeat' split at h)<;>first
      |(cases h;done)
      |(simp only[aA,aB]at h;obtain⟨rfl,rfl,rfl⟩:=h;rfl)
  |none =>
   simp only[]at h
   (repeat' split at h)<;>first
    |(cases h;done)
    |(simp only[aA,aB]at h;obtain⟨rfl,rfl,rfl⟩:=h;rfl)
 all_goals (repeat' split at h)<;>first
  |(cases h;done)
  |(simp only[aA,aB]at h;obtain⟨rfl,rfl,rfl⟩:=h;rfl)
theorem yIr{σ:St}{o:Oper}(hne:∀ x args ats,o.op≠.call { callee:=.value x,args:=args,argTypes:=ats })(h:bH π σ o=1):dU o=1:=by
 obtain⟨dst,op,type,pos,after,guard⟩:=o;cases op
 case call cc =>
  obtain⟨cl,args,ats⟩:=cc;cases cl with
  |value x=>exact absurd rfl (hne x args ats)
  |builtin b =>
   cases b
   case append=>simp only[bH]at h;rcases Hz σ args.toList with h2|⟨_,_,_,_,_,_,_,_,_,h2⟩<;>omega
   all_goals first|exact h|simp[dU]
  |_=>first|exact h|simp[dU]
 case convert a b x =>
  simp only[bH]at h;split at h<;>cases h
 case store t x y =>
  simp only[bH]at h;rcases Qa (ovl σ x)with h2|⟨id,off,_,h2⟩<;>omega
 case buildSlice=>simp only[bH]at h;cases h
 case alloc=>simp only[bH]at h;cases h
 case box=>simp only[bH]at h;cases h
 all_goals first|exact h|simp[dU]
theorem yWa{σ:St}{o:Oper}(h:6<=bH π σ o):(∃ t x l id,o.op=.load t x/\ovl σ x=.one l/\l.obj=some id/\bH π σ o=6+2*id)\/(∃ t x i id ver,o.op=.indexAddr t x i/\ovl σ x=.one (.own id ver)/\bH π σ o=6+2*id)\/(∃ t x y id off,o.op=.store t x y/\ovl σ x=.one (.ptr id off)/\bH π σ o=7+2*id) \/
 ∃ args ats y x id ver te ys,o.op=.call { callee:=.builtin .append,args:=args,argTypes:=ats }/\args.toList=[y,x]/\ovl σ y=.one (.own id ver)/\ovl σ x=.one (.val (.slice te) ys)/\bH π σ o=7+2*id:=by
 obtain⟨dst,op,type,pos,after,guard⟩:=o;cases op
 case load t x =>
  simp only[bH]at h ⊢;rcases zLn (ovl σ x)with h2|⟨l,id,h1,h3,h2⟩
  ·omega
  ·exact .inl ⟨t,x,l,id,rfl,h1,h3,h2⟩
 case indexAddr t x i =>
  simp only[bH]at h ⊢;rcases zLo (ovl σ x)with h2|⟨id,ver,h1,h2⟩
  ·omega
  ·exact .inr (.inl ⟨t,x,i,id,ver,rfl,h1,h2⟩)
 case store t x y =>
  simp only[bH]at h ⊢;rcases Qa (ovl σ x)with h2|⟨id,off,h1,h2⟩
  ·omega
  ·exact .inr (.inr (.inl ⟨t,x,y,id,off,rfl,h1,h2⟩))
 case call cc =>
  obtain⟨cl,args,ats⟩:=cc;cases cl with
  |value x =>
   exfalso;simp only[bH]at h;split at h
   ·split at h
    ·split at h
     ·revert h;generalize dA V.isD _=b;cases b<;>simp[uH]
     ·split at h<;>omega
    ·omega
   ·omega
  |builtin b =>
   cases b
   case append =>
    simp only[bH]at h ⊢;rcases Hz σ args.toList with h2|⟨y,x,id,ver,te,ys,h1,h3,h4,h2⟩
    ·omega
    ·exact .inr (.inr (.inr ⟨args,ats,y,x,id,ver,te,ys,rfl,h1,h3,h4,h2⟩))
   all_goals exfalso
   case len=>revert h;simp only[bH];generalize dA Vv _=b;cases b<;>simp[uH]
   all_goals (revert h;simp[bH,dU])
  |_=>exfalso;revert h;simp[bH,dU]
 case convert a b x =>
  exfalso;simp only[bH]at h;split at h<;>omega
 case fieldAddr s x f=>exfalso;revert h;simp only[bH];generalize zMz _=b;cases b<;>simp[uH]
 case slice t x lo hi mx=>exfalso;revert h;simp only[bH];generalize Vv _=b;cases b<;>simp[uH]
 all_goals (exfalso;revert h;simp[bH,dU])
theorem yQn{σ:St}{o:Oper}(h:bH π σ o=3):(∃ t n ps,o.op=.buildSlice t n ps)\/(∃ t,o.op=.alloc t)\/(∃ t x,o.op=.box t x) \/
 ∃ x args ats f cs e,o.op=.call { callee:=.value x,args:=args,argTypes:=ats }/\callee σ x args.toList=some (f,cs)/\π f=some e/\e.use=3/\dA V.isD (jL σ args.toList++cs)=true:=by
 obtain⟨dst,op,type,pos,after,guard⟩:=o;cases op
 case buildSlice t n ps=>exact .inl ⟨t,n,ps,rfl⟩
 case alloc t=>exact .inr (.inl ⟨t,rfl⟩)
 case box t x=>exact .inr (.inr (.inl ⟨t,x,rfl⟩))
 case call cc =>
  obtain⟨cl,args,ats⟩:=cc;cases cl with
  |value x =>
   simp only[bH]at h;split at h
   ·rename_i f cs hc;split at h
    ·rename_i e he;split at h
     ·exfalso;revert h;generalize dA V.isD _=b;cases b<;>simp[uH]
     ·split at h
      ·rename_i hb;rw[aD]at hb;exact .inr (.inr (.inr ⟨x,args,ats,f,cs,e,rfl,hc,he,aK hb.1,hb.2⟩))
      ·cases h
    ·cases h
   ·cases h
  |builtin b =>
   exfalso;cases b
   case append=>simp only[bH]at h;rcases Hz σ args.toList with h2|⟨_,_,_,_,_,_,_,_,_,h2⟩<;>omega
   case len=>revert h;simp only[bH];generalize dA Vv _=b;cases b<;>simp[uH]
   all_goals (revert h;simp[bH,dU])
  |_=>exfalso;revert h;simp[bH,dU]
 case convert a b x =>
  exfalso;simp only[bH]at h;split at h<;>cases h
 case load t x =>
  exfalso;simp only[bH]at h;rcases zLn (ovl σ x)with h2|⟨_,id,_,_,h2⟩<;>omega
 case store t x y =>
  exfalso;simp only[bH]at h;rcases Qa (ovl σ x)with h2|⟨id,off,_,h2⟩<;>omega
 case fieldAddr s x f=>exfalso;revert h;simp only[bH];generalize zMz _=b;cases b<;>simp[uH]
 case indexAddr s x f =>
  exfalso;simp only[bH]at h;rcases zLo (ovl σ x)with h2|⟨_,_,_,h2⟩<;>omega
 case slice t x lo hi mx=>exfalso;revert h;simp only[bH];generalize Vv _=b;cases b<;>simp[uH]
 all_goals (exfalso;revert h;simp[bH,dU])
def wL(fo:Option Ob)(id:Nat)(h:List Ob):List Ob:=match fo with|none=>h|some o=>h.set id o
theorem Uc{fo:Option Ob}{id j:Nat}{h:List Ob}(hne:id≠j):(wL fo id h)[j]?=h[j]?:=by
 cases fo with
 |none=>rfl
 |some o=>simp only[wL,List.getElem?_set_ne hne]
theorem oN{fo:Option Ob}{id:Nat}{h:List Ob}:(wL fo id h).length=h.length:=by
 cases fo<;>simp[wL]
theorem yMw{f1 f2:Option Ob}{i j:Nat}{h:List Ob}(hne:i≠j):wL f2 j (wL f1 i h)=wL f1 i (wL f2 j h):=by
 cases f1 with
 |none=>rfl
 |some o1=>cases f2 with
  |none=>rfl
  |some o2=>simp only[wL];rw[List.set_comm _ _ hne]
theorem zUr{h h2:List Ob}{t:TypeId}{l:L}{id:Nat}(hl:l.obj=some id)(he:h2[id]?=h[id]?):loadAt T h2 t l=loadAt T h t l:=by
 cases l<;>simp only[L.obj,aA,reduceCtorEq]at hl<;>subst hl<;>simp only[loadAt,he]
theorem zLp{h:List Ob}{t:TypeId}{l:L}{id:Nat}{r:Bool × V}(hl:l.obj=some id)(hr:loadAt T h t l=some r):id<h.length:=by
 rcases jB id h.length with hlt|hge
 ·exact hlt
 ·exfalso;have hn:=List.getElem?_eq_none hge;unfold loadAt at hr;split at hr
  ·cases hr
  ·cases l<;>simp only[L.obj,aA,reduceCtorEq]at hl<;>subst hl<;>simp only[hn]at hr<;>cases hr
theorem yFp{h h2:List Ob}{id ver:Nat}(he:h2[id]?=h[id]?):L.view h2 (.own id ver)=L.view h (.own id ver):=by
 simp only[L.view,he]
theorem yEp{h h2:List Ob}{k:TK}{id ver:Nat}{n:Int}(he:h2[id]?=h[id]?):Bn T h2 k (L.view h2 (.own id ver)) n=Bn T h k (L.view h (.own id ver)) n:=by
 rw[yFp he];simp only[L.view];split<;>cases k<;>simp only[Bn,he]
theorem zZv{h:List Ob}{k:TK}{id ver:Nat}{n:Int}{r:Bool × L}(hr:Bn T h k (L.view h (.own id ver)) n=some r):id<h.length:=by
 rcases jB id h.length with hlt|hge
 ·exact hlt
 ·exfalso;simp only[L.view,List.getElem?_eq_none hge]at hr;cases k<;>simp only[Bn]at hr<;>cases hr
theorem yIs{h:List Ob}{t:TypeId}{id off:Nat}{v:V}{c:Bool}{h':List Ob}(hs:storeAt T h t (.ptr id off) v=some (c,h')):id<h.length/\∃ o,h'=h.set id o/\∀ h2,h2[id]?=h[id]?->storeAt T h2 t (.ptr id off) v=some (c,h2.set id o):=by
 unfold storeAt at hs ⊢;split at hs
 ·rename_i ti new hti hnew;split at hs
  ·rename_i hsz;simp only at hs ⊢;split at hs
   ·rename_i e ls ho;cases hm:Kr ls off new with
    |none=>rw[hm]at hs;cases hs
    |some ls' =>
     rw[hm]at hs;simp only[Option.map_some,aA,aB]at hs;obtain⟨rfl,rfl⟩:=hs;refine⟨(bE.1 ho).1,_,rfl,λh2 he=>?_⟩;rw[if_pos hsz,he,ho];simp only[hm,Option.map_some]
   ·cases hs
  ·cases hs
 ·cases hs
theorem yIt{σ:St}{t:TypeId}{s x:Operand}{id ver:Nat}{ta:Ty}{za:(Ty.slice ta).den}{c:Bool}{v:V}{h':List Ob}(hs:ovl σ s=.one (.own id ver))(hx:ovl σ x=.one (.val (.slice ta) za))(h:Nq T σ t s x=some (c,v,h')):id<σ.h.length/\∃ o',h'=σ.h.set id o'/\∀ h2,h2[id]?=σ.h[id]?->Nq T ⟨σ.r,h2⟩ t s x=some (c,v,h2.set id o'):=by
 have e:∀ h2 y,ovl ⟨σ.r,h2⟩ y=ovl σ y:=λh2 y=>by cases y<;>rfl
 unfold Nq at h ⊢;simp only[e,hs,hx]at h ⊢;split at h
 ·rename_i ee te ti ls lx h1 h2 h3;simp only[V.one.injEq]at h2 h3;subst h2 h3;simp only[h1];have er:∀ h2,rowsOf h2 te (.val (.slice ta) za)=rowsOf σ.h te (.val (.slice ta) za):=λ_=>rfl
  simp only[er];split at h
  ·rename_i c1 ys hr;simp only at h;split at h
   ·rename_i e' t' v' rows ho;split at h
    ·rename_i hc;simp only[aA,aB]at h;obtain⟨rfl,rfl,rfl⟩:=h;refine⟨(bE.1 ho).1,_,rfl,λh2 he=>?_⟩;simp only[he,ho];rw[dif_pos hc]
    ·cases h
   ·cases h
  ·cases h
 ·cases h
theorem Goes.at6{P:Program}{σ:St}{o:Oper}{v:V}{h':List Ob}(h:Goes π T σ o v h')(hu:6<=bH π σ o):∃ (id:Nat) (fo:Option Ob),bH π σ o / 2=id+3/\id<σ.h.length/\(bH π σ o % 2=0->fo=none)/\h'=wL fo id σ.h/\∀ h2,h2[id]?=σ.h[id]?->Goes π T ⟨σ.r,h2⟩ o v (wL fo id h2):=by
 obtain⟨dst,op,type,pos,after,guard⟩:=o;have e:∀ h2 y,ovl ⟨σ.r,h2⟩ y=ovl σ y:=λh2 y=>by cases y<;>rfl
 rcases yWa hu with ⟨t,x,l,id,ho,hx,hob,hq⟩|⟨t,x,i,id,ver,ho,hx,hq⟩|⟨t,x,y,id,off,ho,hx,hq⟩|⟨args,ats,y,x,id,ver,te,ys,ho,hargs,hy,hx,hq⟩
 ·simp only at ho;subst ho;refine⟨id,none,by omega,?_⟩;unfold Goes at h ⊢;simp only[nG,isM,isX,isS,gL,e,hx]at h ⊢;split at h
  ·rename_i c u hc;simp only[aA,aB]at h;obtain⟨rfl,rfl,rfl⟩:=h;exact⟨zLp hob hc,λ_=>trivial,rfl,λh2 he=>by rw[zUr hob he,hc];rfl⟩
  ·cases h
 ·simp only at ho;subst ho;refine⟨id,none,by omega,?_⟩;unfold Goes at h ⊢;simp only[nG,isM,isX,isS,gL,e,hx]at h ⊢;split at h
  ·rename_i ti l1 tn n h1 h2 h3;simp only[V.one.injEq]at h2;subst h2;split at h
   ·rename_i c u hc;simp only[aA,aB]at h;obtain⟨rfl,rfl,rfl⟩:=h;exact⟨zZv hc,λ_=>trivial,rfl,λh2 he=>by simp only[h1,h3,yEp he,hc];rfl⟩
   ·cases h
  ·cases h
 ·simp only at ho;subst ho;unfold Goes at h;simp only[nG,isM,isX,isS,gL,e,hx]at h;split at h
  ·rename_i c h1 hc;simp only[aA,aB]at h;obtain⟨rfl,rfl,rfl⟩:=h;obtain⟨hlt,o',rfl,hall⟩:=yIs hc;refine⟨id,some o',by omega,hlt,λh0=>by omega,rfl,λh2 he=>?_⟩;unfold Goes;simp only[nG,isM,isX,isS,gL,e,hx,hall h2 he];rfl
  ·cases h
 ·simp only at ho;subst ho;unfold Goes at h ⊢;have hS:isS T ⟨dst,.call { callee:=.builtin .append,args:=args,argTypes:=ats },type,pos,after,guard⟩=false:=by
   cases hS:isS T ⟨dst,.call { callee:=.builtin .append,args:=args,argTypes:=ats },type,pos,after,guard⟩with
   |false=>rfl
   |true =>
    exfalso;simp only[nG,isM,isX,hS,Tw]at h;split at h
    ·split at h
     ·unfold Vb at h;rw[hargs]at h;split at h
      ·rename_i s0 x0 t0 t1 he0 _;simp only[aJ,and_true]at he0;obtain⟨rfl,rfl⟩:=he0;rw[hx]at h;split at h
       ·rename_i h9;simp at h9
       ·cases h
      ·cases h
     ·cases h
    ·cases h
  simp only[nG,isM,isX,hS,gL,hargs]at h ⊢;cases hts:ats.toList with
  |nil=>rw[hts]at h;cases h
  |cons t1 r1 =>
   cases r1 with
   |nil=>rw[hts]at h;cases h
   |cons t2 r2 =>
    cases r2 with
    |cons _ _=>rw[hts]at h;cases h
    |nil =>
     rw[hts]at h;simp only at h ⊢;split at h
     ·rename_i htt;obtain⟨hlt,o',rfl,hall⟩:=yIt hy hx h;refine⟨id,some o',by omega,hlt,λh0=>by omega,rfl,λh2 he=>?_⟩;rw[if_pos htt];exact hall h2 he
     ·unfold zBd at h;simp only[hy,hx]at h;split at h
      ·rename_i h4;simp at h4
      ·cases h
theorem Goes.row{P:Program}(hπ:∀ f e,π f=some e->e.OK P f){σ:St}{o:Oper}{v:V}{h':List Ob}(h:Goes π T σ o v h')(hu:bH π σ o=3):∃ os,h'=σ.h++os/\∀ h2,h2.length=σ.h.length->Goes π T ⟨σ.r,h2⟩ o v (h2++os):=by
 have key:=yQn hu;obtain⟨dst,op,type,pos,after,guard⟩:=o;have e:∀ h2 y,ovl ⟨σ.r,h2⟩ y=ovl σ y:=λh2 y=>by cases y<;>rfl
 have el:∀ h2 te k ps,elems ⟨σ.r,h2⟩ te k ps=elems σ te k ps:=λh2 te k ps=>Hy λp _=>e h2 p.2
 simp only at key;rcases key with ⟨t,n,ps,ho⟩|⟨t,ho⟩|⟨t,x,ho⟩|⟨x,args,ats,f,cs,pe,ho,hc,he,hu3,hd⟩
 rotate_left 3
 ·subst ho;unfold Goes at h ⊢;obtain⟨f',cs',e',y,hc',he',hr,rfl,rfl⟩:=h;rw[hc]at hc';obtain⟨rfl,rfl⟩:=Prod.mk.inj (Option.some.inj hc');rw[he]at he';obtain rfl:=Option.some.inj he';have hok:=hπ f pe he;obtain⟨os,k1,_⟩:=((hok.row hu3 _ σ.h σ.h hd rfl).2 y).2;refine⟨os,k1,λh2 hl=>?_⟩;obtain⟨r1,r2⟩:=hok.row hu3 _ σ.h h2 hd hl;obtain⟨r3,os',r4,r5⟩:=r2 y;have ho:os'=os:=List.append_cancel_left (r4.symm.trans k1);have ha:jL ⟨σ.r,h2⟩ args.toList=jL σ args.toList:=Fj λx _=>by cases x<;>rfl
  have hcl:callee ⟨σ.r,h2⟩ x args.toList=callee σ x args.toList:=by
   have:ovl ⟨σ.r,h2⟩ x=ovl σ x:=by cases x<;>rfl
   simp only[callee,this]
  refine⟨f,cs,pe,y,by rw[hcl];exact hc,he,?_,?_,?_⟩
  ·rw[ha,<- r1];exact hr
  ·rw[ha];exact r3
  ·rw[ha,r5,ho]
 ·subst ho;unfold Goes at h ⊢;have en:∀ h2 ps,Hu ⟨σ.r,h2⟩ ps=Hu σ ps:=λh2 ps=>Vx λp _=>e h2 p.2
  cases hS:isS T ⟨dst,.buildSlice t n ps,type,pos,after,guard⟩with
  |true =>
   simp only[nG,isM,isX,hS,Tw,zXw,e,el,en]at h ⊢;split at h
   ·rename_i e1 ei ti h1;split at h
    ·rename_i hc;split at h
     ·rename_i ys hy;simp only[aA,aB]at h;obtain⟨_,rfl,rfl⟩:=h;exact⟨_,rfl,λh2 hl=>by simp only[h1,if_pos hc,hy,hl]⟩
     ·cases h
    ·cases h
   ·cases h
  |false =>
   simp only[nG,isM,isX,hS,gL,e,el]at h ⊢;split at h
   ·rename_i e1 te ti h1;split at h
    ·rename_i hc;split at h
     ·rename_i ys hy;simp only[aA,aB]at h;obtain⟨_,rfl,rfl⟩:=h;exact⟨_,rfl,λh2 hl=>by simp only[h1,if_pos hc,hy,hl]⟩
     ·cases h
    ·cases h
   ·cases h
 all_goals subst ho<;>unfold Goes at h ⊢ <;> simp only[nG,isM,isX,isS,gL,e,el]at h ⊢
 ·split at h
  ·rename_i ti h1;simp only[aA,aB]at h;obtain⟨_,rfl,rfl⟩:=h;exact⟨_,rfl,λh2 hl=>by simp only[h1,hl]⟩
  ·cases h
 ·split at h
  ·rename_i ls h1;simp only[aA,aB]at h;obtain⟨_,rfl,rfl⟩:=h;exact⟨_,rfl,λh2 hl=>by simp only[h1,hl]⟩
  ·cases h
theorem yQo{o:Oper}(h:dU o=1):isS T o=false:=by
 obtain⟨dst,op,type,pos,after,guard⟩:=o;cases op<;>first|rfl|(simp[dU]at h;done)|skip
 rename_i c;obtain⟨cl,args,ats⟩:=c;cases cl with
 |builtin b=>cases b<;>first|rfl|(simp[dU]at h;done)
 |_=>rfl
theorem yQp{o:Oper}(h:dU o=1):isX T o=false:=by
 obtain⟨dst,op,type,pos,after,guard⟩:=o;cases op<;>first|rfl|(simp[dU]at h;done)
theorem Goes.xDo{P:Program}(hπ:∀ f e,π f=some e->e.OK P f){σ:St}{o:Oper}{v:V}{h':List Ob}(h:Goes π T σ o v h')(hu:bH π σ o<=1):h'=σ.h:=by
 rcases jB (bH π σ o) 1 with h0|h0
 ·exact(h.dry hπ (by omega)).1
 have hu1:bH π σ o=1:=by omega
 unfold Goes at h;split at h
 ·rename_i x args ats ho;obtain⟨f,cs,e,y,hc,he,hr,rfl,rfl⟩:=h;simp only[bH,ho,hc,he]at hu;split at hu
  ·rename_i hle;exact(hπ f e he).same hle _ _ _
  ·split at hu<;>omega
 ·obtain⟨_,_,_,e⟩:=h;exact e
 ·rename_i hne1 hne2;have hu2:=yIr (λx args ats e=>hne1 x args ats e) hu1;have hx:=yQp (T:=T) hu2;unfold nG at h;split at h
  ·exact yIn h hu2
  ·rw[hx,yQo hu2]at h;exact yEo h hu2
theorem zHd{r:List V}{x y:Option Tmp}{u v:V}(h:∀ d,x=some d->y≠some d):bW (bW r x u) y v=bW (bW r y v) x u:=by
 cases x with
 |none=>cases y<;>rfl
 |some i =>
  cases y with
  |none=>rfl
  |some j =>
   have hne:i≠j:=λe=>h i rfl (by rw[e])
   simp only[bW];rw[List.set_comm _ _ hne]
theorem zUs{r:List V}{x:Option Tmp}{u:V}{s:Nat}(h:∀ d,x=some d->s≠d):(bW r x u).getD s .bY=r.getD s .bY:=by
 cases x with
 |none=>rfl
 |some i=>simp only[bW,List.getD_eq_getElem?_getD,List.getElem?_set_ne (λe=>h i rfl e.symm)]
theorem yIu{σ σ':St}{o:Oper}(hs:∀ x∈o.op.operands,ovl σ' x=ovl σ x):zHc T σ' o=zHc T σ o:=by
 obtain⟨dst,op,type,pos,after,guard⟩:=o;cases op<;>simp only[Op.operands]at hs<;>simp only[zHc]
 case buildSlice t n ps =>
  have:∀ te,elems σ' te 0 ps.toList=elems σ te 0 ps.toList:=λte=>Hy λp hp=>hs p.2 (by simp at hp ⊢;exact⟨p.1,hp⟩)
  simp only[this]
theorem yIv{σ σ':St}{o:Oper}(hs:∀ x∈o.op.operands,ovl σ' x=ovl σ x):zSt T σ' o=zSt T σ o:=by
 obtain⟨dst,op,type,pos,after,guard⟩:=o;cases op<;>simp only[Op.operands]at hs<;>simp only[zSt]
 case makeSlice t l c=>simp only[hs l (by simp),hs c (by simp)]
theorem yEq{σ σ':St}{o:Oper}(hs:∀ x∈o.op.operands,ovl σ' x=ovl σ x):zDp T σ' o=zDp T σ o:=by
 obtain⟨dst,op,type,pos,after,guard⟩:=o;cases op<;>simp only[Op.operands]at hs<;>simp only[zDp]
 case call c =>
  obtain⟨cl,args,ats⟩:=c;cases cl with
  |builtin b =>
   simp only[Call.operands]at hs;have ha:∀ x∈args.toList,ovl σ' x=ovl σ x:=λx hx=>hs x (by simpa using hx)
   cases b<;>simp only[]
   split
   ·rename_i s x t t' h1 h2;rw[h1]at ha;rw[ha s (by simp),ha x (by simp)]
   ·rfl
  |_=>rfl
theorem zPo{σ σ':St}{o:Oper}(hs:∀ x∈o.op.operands,ovl σ' x=ovl σ x):Vw T σ' o=Vw T σ o:=by
 unfold Vw;rw[yIv hs,yIu hs,yEq hs]
theorem yIw{σ σ':St}{o:Oper}{id:Nat}(hs:∀ x∈o.op.operands,ovl σ' x=ovl σ x)(hh:σ'.h=σ.h):Sd T id σ' o=Sd T id σ o:=by
 obtain⟨dst,op,type,pos,after,guard⟩:=o;cases op<;>simp only[Op.operands]at hs<;>simp only[Sd]
 case makeSlice t l c=>simp only[hs l (by simp),hs c (by simp),hh]
theorem yWb{σ:St}{o:Oper}{id:Nat}{c:Bool}{v:V}{h':List Ob}(h:Sd T id σ o=some (c,v,h')):id<σ.h.length/\∃ o',h'=σ.h.set id o'/\∀ h2,h2[id]?=σ.h[id]?->Sd T id ⟨σ.r,h2⟩ o=some (c,v,h2.set id o'):=by
 have e:∀ h2 y,ovl ⟨σ.r,h2⟩ y=ovl σ y:=λh2 y=>by cases y<;>rfl
 unfold Sd at h ⊢;split at h
 case h_2=>cases h
 rename_i t l cc ho;split at h
 case h_2=>cases h
 rename_i e1 te ti n m e' t' vv het hn hm hob;split at h
 case isFalse=>cases h
 rename_i hc;split at h
 case h_2=>cases h
 rename_i z hz;simp only[aA,aB]at h;obtain⟨rfl,rfl,rfl⟩:=h;refine⟨(bE.1 hob).1,_,rfl,λh2 he=>?_⟩;simp only[ho,e,het,hn,hm,he,hob,hz];rw[if_pos hc]
theorem gZ.move{ops:Array Oper}{σ σ':St}{o:Oper}{v:V}{h':List Ob}(h:gZ π T ops σ o v h')(d:Option Tmp)(u:V)(hr:σ'.r=bW σ.r d u\/σ.r=bW σ'.r d u)(hh:σ'.h=σ.h)(ha:∀ t,d=some t->t∉o.looksAt ops):gZ π T ops σ' o v h':=by
 have yIx:∀ x∈o.op.operands,ovl σ' x=ovl σ x:=λx hx=>by
  have hne:∀ t,d=some t->x≠.tmp t:=λt ht e=>ha t ht (by
   subst e;exact List.mem_append_left _ (List.mem_filterMap.2 ⟨.tmp t,by simpa using hx,rfl⟩))
  rcases hr with hr|hr
  ·rw[show σ'=⟨bW σ.r d u,σ'.h⟩by rw[<- hr]];exact zBh hne
  ·rw[show σ=⟨bW σ'.r d u,σ.h⟩by rw[<- hr]];exact(zBh hne).symm
 have xDp:Vw T σ' o=Vw T σ o:=zPo yIx;unfold gZ at *;split at h
 ·rcases h with h|h
  ·exact .inl (h.congr yIx hh)
  ·rcases h with h|⟨id,h⟩
   ·exact .inr (.inl ⟨by rw[xDp];exact h.1,by rw[hh];exact h.2⟩)
   ·exact .inr (.inr ⟨id,by rw[yIw yIx hh];exact h⟩)
 ·rename_i j want hg;obtain⟨s,b,hsl,hb,h⟩:=h;have hs:∀ t,d=some t->s≠t:=λt ht e=>ha t ht (by
   subst e;refine List.mem_append_right _ ?_;simp only[hg];unfold Qn at hsl;rw[hsl];simp)
  have e:σ'.r.getD s .bY=σ.r.getD s .bY:=by
   rcases hr with hr|hr
   ·rw[hr];exact zUs hs
   ·rw[hr];exact(zUs hs).symm
  refine⟨s,b,hsl,by rw[e];exact hb,?_⟩;split
  ·rename_i hw;rw[if_pos hw]at h;exact h.congr yIx hh
  ·rename_i hw;rw[if_neg hw]at h;exact⟨h.1,by rw[hh];exact h.2⟩
structure yS (π:FuncId->Option PE) (T:Tab) (ops:Array Oper) (σ:St) (o:Oper) (u:Nat) (v:V) (h':List Ob):Prop where
 goes:gZ π T ops σ o v h'
 dry:u=0->h'=σ.h/\∀ h2,gZ π T ops ⟨σ.r,h2⟩ o v h2
 same:rdB u=true->h'=σ.h
 at6:6<=u->∃ (id:Nat) (fo:Option Ob),u / 2=id+3/\id<σ.h.length/\(u % 2=0->fo=none)/\h'=wL fo id σ.h/\∀ h2,h2[id]?=σ.h[id]?->gZ π T ops ⟨σ.r,h2⟩ o v (wL fo id h2)
 row:u=3->∃ os,h'=σ.h++os/\∀ h2,h2.length=σ.h.length->gZ π T ops ⟨σ.r,h2⟩ o v (h2++os)
 grow:σ.h.length<=h'.length
theorem yS.move{ops:Array Oper}{σ σ':St}{o:Oper}{w:Nat}{v:V}{h':List Ob}(h:yS π T ops σ o w v h')(d:Option Tmp)(u:V)(hr:σ'.r=bW σ.r d u\/σ.r=bW σ'.r d u)(hh:σ'.h=σ.h)(ha:∀ t,d=some t->t∉o.looksAt ops):yS π T ops σ' o w v h':=by
 refine⟨h.goes.move d u hr hh ha,λh0=>⟨by rw[hh];exact(h.dry h0).1,λh2=>?_⟩,λh1=>by rw[hh];exact h.same h1,λh6=>?_,λh3=>?_,by rw[hh];exact h.grow⟩
 ·exact((h.dry h0).2 h2).move d u hr rfl ha
 ·obtain⟨id,fo,k1,k2,k3,k4,k5⟩:=h.at6 h6;exact⟨id,fo,k1,by rw[hh];exact k2,k3,by rw[hh];exact k4,λh2 he=>(k5 h2 (by rw[he,hh])).move d u hr rfl ha⟩
 ·obtain⟨os,k1,k2⟩:=h.row h3;exact⟨os,by rw[hh];exact k1,λh2 he=>(k2 h2 (by rw[he,hh])).move d u hr rfl ha⟩
theorem swap{N:Nat}{ops:Array Oper}{σ:St}{x y:Oper}{u1 u2:Nat}{v1 v2:V}{h1 h2:List Ob}(hN:N<=σ.h.length)(ha:Oper.apart ops x y=true)(hu:Fg N u1 u2=true)(g1:yS π T ops σ x u1 v1 h1)(g2:yS π T ops ⟨bW σ.r x.dst v1,h1⟩ y u2 v2 h2):∃ h3,yS π T ops σ y u2 v2 h3/\yS π T ops ⟨bW σ.r y.dst v2,h3⟩ x u1 v1 h2/\bW (bW σ.r y.dst v2) x.dst v1=bW (bW σ.r x.dst v1) y.dst v2:=by
 obtain⟨a1,a2,a3⟩:=Oper.apart_spec ha;have ec:bW (bW σ.r y.dst v2) x.dst v1=bW (bW σ.r x.dst v1) y.dst v2:=(zHd a2).symm;have fo0:∀ {u:Nat}{id:Nat}{fo:Option Ob}{h:List Ob},6<=u->(u % 2=0->fo=none)->rdB u=true->wL fo id h=h:=by
  intro u id fo h h6 k3 hr;have hld:zHb u=true:=by
   simp only[rdB,Bool.or_eq_true]at hr;rcases hr with hr|hr
   ·have:=bR hr;omega
   ·exact hr
  simp only[zHb,aD]at hld;obtain rfl:=k3 (aK hld.2);rfl
 simp only[Fg,Bool.or_eq_true,aD]at hu;rcases hu with hu|hu|⟨hu,hu'⟩|⟨hu,hu'⟩|⟨hu,hu',hlt⟩|⟨hu,hu',hne⟩
 ·have hu:=aK hu;obtain⟨rfl,k1⟩:=g1.dry hu;refine⟨h2,g2.move x.dst v1 (.inr rfl) rfl a1,?_,ec⟩;have k:∀ h3,gZ π T ops ⟨bW σ.r y.dst v2,h3⟩ x v1 h3:=λh3=>(k1 h3).move y.dst v2 (.inl rfl) rfl a3
  exact⟨k h2,λ_=>⟨rfl,k⟩,λ_=>rfl,λh6=>by omega,λh3=>by omega,aP _⟩
 ·have hu:=aK hu;obtain⟨rfl,k2⟩:=g2.dry hu;have k:∀ h3,gZ π T ops ⟨σ.r,h3⟩ y v2 h3:=λh3=>(k2 h3).move x.dst v1 (.inr rfl) rfl a1
  exact⟨σ.h,⟨k σ.h,λ_=>⟨rfl,k⟩,λ_=>rfl,λh6=>by omega,λh3=>by omega,aP _⟩,g1.move y.dst v2 (.inl rfl) rfl a3,ec⟩
 ·obtain rfl:=g1.same hu;have:=g2.same hu';simp only at this;subst this;exact⟨_,g2.move x.dst v1 (.inr rfl) rfl a1,g1.move y.dst v2 (.inl rfl) rfl a3,ec⟩
 ·have hu':=aK hu';subst hu';have h6:=bR hu;obtain⟨i,f1,k1,k2,k3,rfl,k5⟩:=g1.at6 h6;obtain⟨os,rfl,m5⟩:=g2.row rfl;simp only at m5;have hget:∀ os:List Ob,(σ.h++os)[i]?=σ.h[i]?:=λos=>fV k2
  have yQq:wL f1 i (σ.h++os)=wL f1 i σ.h++os:=by
   cases f1 with
   |none=>rfl
   |some o1=>simp only[wL];rw[List.set_append_left _ _ k2]
  have hy:yS π T ops ⟨bW σ.r x.dst v1,σ.h⟩ y 3 v2 (σ.h++os):=
   ⟨m5 _ oN.symm,(λh=>absurd h (by decide)),(λh=>absurd h (by decide)),(λh=>by omega),λ_=>⟨os,rfl,λh2 hl=>m5 h2 (by rw[hl,oN])⟩,by simp⟩
  refine⟨_,hy.move x.dst v1 (.inr rfl) rfl a1,?_,ec⟩;rw[<- yQq];refine⟨(k5 _ (hget os)).move y.dst v2 (.inl rfl) rfl a3,λh=>by omega,λhr=>fo0 h6 k3 hr,λ_=>⟨i,f1,k1,?_,k3,rfl,λh2 he=>(k5 h2 (he.trans (hget os))).move y.dst v2 (.inl rfl) rfl a3⟩,λh=>by omega,by rw[oN];exact aP _⟩;simp only[List.length_append];omega
 ·have hu:=aK hu;subst hu;have h6:=bR hu';obtain⟨os,rfl,m5⟩:=g1.row rfl;obtain⟨i,f2,k1,k2,k3,rfl,k5⟩:=g2.at6 h6;have hlt:u2 / 2<N+3:=bR hlt;have hi:i<σ.h.length:=by omega
  simp only at k5;have hget:σ.h[i]?=(σ.h++os)[i]?:=(fV hi).symm;have yQq:wL f2 i (σ.h++os)=wL f2 i σ.h++os:=by
   cases f2 with
   |none=>rfl
   |some o1=>simp only[wL];rw[List.set_append_left _ _ hi]
  have hy:yS π T ops ⟨bW σ.r x.dst v1,σ.h⟩ y u2 v2 (wL f2 i σ.h):=
   ⟨k5 _ hget,λh=>by omega,λhr=>fo0 h6 k3 hr,λ_=>⟨i,f2,k1,hi,k3,rfl,λh2 he=>k5 h2 (he.trans hget)⟩,λh=>by omega,by rw[oN];exact aP _⟩
  refine⟨_,hy.move x.dst v1 (.inr rfl) rfl a1,?_,ec⟩;rw[yQq];exact⟨(m5 _ oN).move y.dst v2 (.inl rfl) rfl a3,(λh=>absurd h (by decide)),(λh=>absurd h (by decide)),(λh=>by omega),λ_=>⟨os,rfl,λh2 hl=>(m5 h2 (by rw[hl];exact oN)).move y.dst v2 (.inl rfl) rfl a3⟩,by simp⟩
 ·have h6:=bR hu;have h6':=bR hu';obtain⟨i,f1,k1,k2,k3,rfl,k5⟩:=g1.at6 h6;obtain⟨j,f2,m1,m2,m3,rfl,m5⟩:=g2.at6 h6';have hne:i≠j:=λe=>by
   subst e;have e2:u1 / 2=u2 / 2:=by omega
   rw[e2,Nat.beq_refl]at hne;cases hne
  have hy:yS π T ops ⟨bW σ.r x.dst v1,σ.h⟩ y u2 v2 (wL f2 j σ.h):=by
   refine⟨m5 _ (Uc hne).symm,λh=>(by omega),λhr=>fo0 h6' m3 hr,λ_=>⟨j,f2,m1,by simpa [oN]using m2,m3,rfl,λh2 he=>m5 h2 (he.trans (Uc hne).symm)⟩,λh=>(by omega),by rw[oN];exact aP _⟩
  refine⟨_,hy.move x.dst v1 (.inr rfl) rfl a1,?_,ec⟩;rw[yMw hne];exact⟨(k5 _ (Uc (Ne.symm hne))).move y.dst v2 (.inl rfl) rfl a3,λh=>(by omega),λhr=>fo0 h6 k3 hr,λ_=>⟨i,f1,k1,by simpa [oN]using k2,k3,rfl,λh2 he=>(k5 h2 (he.trans (Uc (Ne.symm hne)))).move y.dst v2 (.inl rfl) rfl a3⟩,λh=>(by omega),by simp[oN]⟩
def Run(π:FuncId->Option PE)(T:Tab)(ops:Array Oper):List (Oper × Nat)->St->St->Prop
 |[],σ,σe=>σ=σe
 |(o,u)::r,σ,σe=>∃ v h',yS π T ops σ o u v h'/\Run π T ops r ⟨bW σ.r o.dst v,h'⟩ σe
theorem front{N:Nat}{ops:Array Oper}{y:Oper}{uy:Nat}{σe:St}{L2:List (Oper × Nat)}:∀ {L1:List (Oper × Nat)}{σ:St},N<=σ.h.length->(∀ x∈L1,Oper.apart ops x.1 y=true/\Fg N x.2 uy=true)->Run π T ops (L1++(y,uy)::L2) σ σe ->
 ∃ v h',yS π T ops σ y uy v h'/\Run π T ops (L1++L2) ⟨bW σ.r y.dst v,h'⟩ σe
 |[],σ,_,_,h=>h
 |(x,ux)::L1,σ,hN,hf,h=>by
  obtain⟨v1,h1,g1,h⟩:=h;obtain⟨v2,h2,g2,h⟩:=front (L1:=L1) (Nat.le_trans hN g1.grow) (λz hz=>hf z (.tail _ hz)) h;obtain⟨h3,g3,g4,e⟩:=swap hN (hf (x,ux) (.head _)).1 (hf (x,ux) (.head _)).2 g1 g2;refine⟨v2,h3,g3,v1,h2,g4,?_⟩;rw[e];exact h
end
section
variable {ρ:Type}
variable {Γ:Orc ρ}
variable {T:Tab}
theorem yIy{P:Program}(hΓ:kQ P Γ){ops:Array Oper}{σ:St}{o:Oper}{v:V}{h':List Ob}(hgr:σ.h.length<=h'.length)(hg:gZ Γ.pure T ops σ o v h')(hdo:Goes Γ.pure T σ o v h')(hd:∀ h2 h3,Goes Γ.pure T ⟨σ.r,h2⟩ o v h3->gZ Γ.pure T ops ⟨σ.r,h2⟩ o v h3):yS Γ.pure T ops σ o (bH Γ.pure σ o) v h' :=
 ⟨hg,λh0=>⟨(hdo.dry hΓ.pure h0).1,λh2=>hd h2 h2 ((hdo.dry hΓ.pure h0).2 h2)⟩,λh1=>by
  simp only[rdB,Bool.or_eq_true]at h1;rcases h1 with h1|h1
  ·exact hdo.xDo hΓ.pure (bR h1)
  ·simp only[zHb,aD]at h1;obtain⟨id,fo,_,_,k3,k4,_⟩:=hdo.at6 (P:=P) (bR h1.1);rw[k4,k3 (aK h1.2)];rfl,λh6=>by
  obtain⟨id,fo,k1,k2,k3,k4,k5⟩:=hdo.at6 (P:=P) h6;exact⟨id,fo,k1,k2,k3,k4,λh2 he=>hd _ _ (k5 h2 he)⟩,λh3=>by
  obtain⟨os,k1,k2⟩:=hdo.row (P:=P) hΓ.pure h3;exact⟨os,k1,λh2 hl=>hd _ _ (k2 h2 hl)⟩,hgr⟩
theorem Fp{N:Nat}{P:Program}(hΓ:kQ P Γ){ops:Array Oper}:∀ {l:List Oper}{j:Nat}{us:List Nat}{σ:St}{k:List Nat->St->Option ρ}{r:ρ},lW Γ.quiet T N ops l j us σ k=some r ->
 ∃ (vs:List Nat) (σe:St),vs.length=l.length/\Run Γ.pure T ops (l.zip vs) σ σe/\k (us++vs) σe=some r/\∀ i o u,l[i]?=some o->vs[i]?=some u->vV N ops (j+i) o u (us++vs.take i) 0=true
 |[],j,us,σ,k,r,h=>⟨[],σ,rfl,rfl,by rw[List.append_nil];exact h,by intro i o u hi;simp at hi⟩
 |o::rest,j,us,σ,k,r,h=>by
  have wrap:∀ (u:Nat) (v:V) (h':List Ob),yS Γ.pure T ops σ o u v h'->vV N ops j o u us 0=true->lW Γ.quiet T N ops rest (j+1) (us++[u]) ⟨bW σ.r o.dst v,h'⟩ k=some r ->
   ∃ (vs:List Nat) (σe:St),vs.length=(o::rest).length/\Run Γ.pure T ops ((o::rest).zip vs) σ σe/\k (us++vs) σe=some r/\∀ i o' u,(o::rest)[i]?=some o'->vs[i]?=some u->vV N ops (j+i) o' u (us++vs.take i) 0=true:=by
   intro u v h' g hrow hk;obtain⟨vs,σe,k1,k2,k3,k4⟩:=Fp hΓ hk;refine⟨u::vs,σe,by simp[k1],⟨v,h',g,k2⟩,by simpa using k3,λi o' u' hi hu=>?_⟩;cases i with
   |zero =>
    simp only[List.getElem?_cons_zero,aA]at hi hu;subst hi hu;simpa using hrow
   |succ i =>
    have:=k4 i o' u' (by simpa using hi) (by simpa using hu);rw[show j+1+i=j+(i+1)by omega]at this;simpa using this
  have doing:∀ σ1:St,σ1=σ->(∀ v h2 h3,Goes Γ.pure T ⟨σ.r,h2⟩ o v h3->gZ Γ.pure T ops ⟨σ.r,h2⟩ o v h3) ->
   (match vV N ops j o (bH Γ.pure σ1 o) us 0 with|true=>(Vs Γ.quiet T σ1 o λe σ'=>match e with|.normal=>(match Nat.ble σ.h.length σ'.h.length with|true=>lW Γ.quiet T N ops rest (j+1) (us++[bH Γ.pure σ1 o]) σ' k|false=>none)|_=>none)|false=>none)=some r ->
   ∃ (vs:List Nat) (σe:St),vs.length=(o::rest).length/\Run Γ.pure T ops ((o::rest).zip vs) σ σe/\k (us++vs) σe=some r/\∀ i o' u,(o::rest)[i]?=some o'->vs[i]?=some u->vV N ops (j+i) o' u (us++vs.take i) 0=true:=by
   intro σ1 e1 hgg h1;subst e1;split at h1
   ·rename_i hrow;obtain⟨v,h',g,hk⟩:=yVy h1;simp only at hk;split at hk
    case h_2=>cases hk
    rename_i hgr;exact wrap _ v h' (yIy hΓ (bR hgr) (hgg v σ1.h h' g) g λh2 h3 hd=>hgg v h2 h3 hd) hrow hk
   ·cases h1
  have skipping:∀ r1:List V,r1=σ.r->(∀ h2,gZ Γ.pure T ops ⟨σ.r,h2⟩ o (.tup []) h2) ->
   (match vV N ops j o 0 us 0 with|true=>lW Γ.quiet T N ops rest (j+1) (us++[0]) ⟨bW r1 o.dst (.tup []),σ.h⟩ k|false=>none)=some r ->
   ∃ (vs:List Nat) (σe:St),vs.length=(o::rest).length/\Run Γ.pure T ops ((o::rest).zip vs) σ σe/\k (us++vs) σe=some r/\∀ i o' u,(o::rest)[i]?=some o'->vs[i]?=some u->vV N ops (j+i) o' u (us++vs.take i) 0=true:=by
   intro r1 e1 hgg h1;subst e1;split at h1
   ·rename_i hrow;exact wrap 0 (.tup []) σ.h ⟨hgg σ.h,λ_=>⟨rfl,hgg⟩,λ_=>rfl,λh=>(by omega),λh=>(by omega),aP _⟩ hrow h1
   ·cases h1
  simp only[lW]at h;split at h
  ·rename_i hg;split at h
   ·split at h
    ·rename_i c v h' hv;split at h
     ·rename_i hrow;obtain⟨rfl,h⟩:=iM h;obtain⟨hlt,o',rfl,hall⟩:=yWb hv;have hgg:∀ h2,h2[N-1]?=σ.h[N-1]?->gZ Γ.pure T ops ⟨σ.r,h2⟩ o v (h2.set (N-1) o'):=λh2 he=>by
       unfold gZ;simp only[hg];exact .inr (.inr ⟨N-1,hall h2 he⟩)
      refine wrap (7+2*(N-1)) v (σ.h.set (N-1) o') ⟨hgg σ.h rfl,λh=>(by omega),λh=>?_,λ_=>⟨N-1,some o',by omega,hlt,λh=>(by omega),rfl,λh2 he=>hgg h2 he⟩,λh=>(by omega),by simp⟩ hrow h;exfalso;revert h;simp only[rdB,zHb];have h1:Nat.ble (7+2*(N-1)) 1=false:=by
       cases hb:Nat.ble (7+2*(N-1)) 1 with
       |false=>rfl
       |true=>have:=bR hb;omega
      have h2:Nat.beq ((7+2*(N-1)) % 2) 0=false:=by
       cases hb:Nat.beq ((7+2*(N-1)) % 2) 0 with
       |false=>rfl
       |true=>have:=aK hb;omega
      rw[h1,h2];simp
     ·cases h
    ·cases h
   split at h
   ·split at h
    ·rename_i c v hv;split at h
     ·rename_i hrow;obtain⟨rfl,h⟩:=iM h;have hgg:∀ h2,gZ Γ.pure T ops ⟨σ.r,h2⟩ o v h2:=λh2=>by
       unfold gZ;simp only[hg];refine .inr (.inl ⟨?_,trivial⟩);rw[<- hv];exact zPo λx _=>by cases x<;>rfl
      exact wrap 0 v σ.h ⟨hgg σ.h,λ_=>⟨rfl,hgg⟩,λ_=>rfl,λh=>(by omega),λh=>(by omega),aP _⟩ hrow h
     ·cases h
    ·cases h
   ·exact doing σ rfl (λv h2 h3 hd=>by unfold gZ;simp only[hg];exact .inl hd) h
  ·rename_i g want hg;split at h
   ·rename_i s hsl;split at h
    ·rename_i b hb;have hset:σ.r.set s (.one (.val .bool b))=σ.r:=yFm hb (by simp);have hdo:b=want->∀ v h2 h3,Goes Γ.pure T ⟨σ.r,h2⟩ o v h3->gZ Γ.pure T ops ⟨σ.r,h2⟩ o v h3:=λe v h2 h3 hd=>by
      unfold gZ;simp only[hg];exact⟨s,true,hsl,by simp only[hb,does,e];simp,by rw[if_pos rfl];exact hd⟩
     have hsk:b≠want->∀ h2,gZ Γ.pure T ops ⟨σ.r,h2⟩ o (.tup []) h2:=λe h2=>by
      unfold gZ;simp only[hg];exact⟨s,false,hsl,by simp only[hb,does];simpa using e,by simp⟩
     rcases Vd h with ⟨rfl,h1⟩|⟨rfl,h1⟩
     ·cases want with
      |true=>exact doing ⟨σ.r.set s (.one (.val .bool true)),σ.h⟩ (by rw[hset]) (hdo rfl) h1
      |false=>exact skipping _ hset (hsk (by simp)) h1
     ·cases want with
      |false=>exact doing ⟨σ.r.set s (.one (.val .bool false)),σ.h⟩ (by rw[hset]) (hdo rfl) h1
      |true=>exact skipping _ hset (hsk (by simp)) h1
    ·rename_i hb;refine skipping _ rfl (λh2=>?_) h;unfold gZ;simp only[hg];exact⟨s,false,hsl,by simp only[hb,does],by simp⟩
    ·cases h
   ·cases h
theorem Sim.alloc{C:Ctx}{β:Nat->Pl}{σ:St}{a:Act}{w:World}(hs:Sim C β σ a w)(ob:Obj):Sim C β σ a (w.alloc ob):=by
 have hold:∀ b:Nat,b<w.heap.size->(w.alloc ob).heap[b]?=w.heap[b]?:=λb hb=>(dX w ob).2 b hb λ_ h=>h
 have hlt:w.heap.size<=(w.alloc ob).heap.size:=(dX w ob).1;have hk:Keep (C.N β σ.h) w (w.alloc ob):=(dX w ob).weaken λ_ _ h=>h.elim
 refine⟨⟨λid o ho=>?_,hs.heap.dead,hs.heap.kR,λid o b ho hb=>?_,hs.heap.n0,hs.heap.frame.tN (dX w ob) λ_ _ _ h=>h.elim,Nat.le_trans hs.heap.size hlt,hs.heap.os,hs.heap.tape,hs.heap.output,hs.heap.fixed⟩,hs.defers,hs.size,λi v hv=>(hs.reg i v hv).mono (Moves.refl β) hk λ_ _ _ h=>h⟩
 ·exact(hs.heap.obj id o ho).mono (Moves.refl β) hk (λ_ _ _ h=>h) λb hb=>hold b (hs.heap.eY id o b ho hb).2.1
 ·obtain⟨h1,h2,h3⟩:=hs.heap.eY id o b ho hb;exact⟨h1,Nat.lt_of_lt_of_le h2 hlt,h3⟩
theorem yFq{C:Ctx}(hT:bM C.P T){β:Nat->Pl}{σ:St}{a:Act}{w:World}{o:Oper}{v:V}(hs:Sim C β σ a w)(h:zHc T σ o=some v):∃ w' v',(execOp a.eval o).run C.P w=.ok (.value v') w'/\Sim C β σ a w'/\v.Rel β w' (C.N β σ.h) v':=by
 unfold zHc at h;split at h
 case h_2=>cases h
 rename_i t n parts ho;split at h
 case h_2=>cases h
 rename_i e te ti het;obtain⟨ts,hts,hk,hti,zSk,hsz,hpos,hby⟩:=jV het;split at h
 case isFalse=>cases h
 rename_i hc;simp only[aD]at hc;have hn:=aK hc.1;have hle:=bR hc.2;split at h
 case h_2=>cases h
 rename_i ys hys;simp only[aA]at h;subst h;obtain⟨css,h1,h2,h3⟩:=Yq hs hys;obtain⟨i,z,hi,his,hib,hz,sV,hzs,_⟩:=(hT _ _ hti).i;have hlc:=jJ h1;have hps:∀ p∈parts.toList.map (λp=>(p.1,a.eval p.2)),p.2.cells.size=te.size:=λp hp=>by
  obtain⟨q,hq,rfl⟩:=List.mem_map.1 hp;have:=hlc (a.eval q.2).cells.toList (by rw[h2];exact List.mem_map.2 ⟨q,hq,rfl⟩);simpa using this
 have Ky:ys.length=parts.size:=by rw[h1.length,h2];simp
 obtain⟨cs',hf1,hf2⟩:=zDd te.size (parts.toList.map λp=>(p.1,a.eval p.2)) 0 ((Array.range (n*te.size)).map (z.cells[· % z.cells.size]!)) (λj p hp=>by
  simp only[List.getElem?_map,Option.map_eq_some_iff]at hp;obtain⟨q,hq,rfl⟩:=hp;have:=h3 j q hq;omega) hps (by simp[hn])
 simp only[Nat.zero_mul,List.take_zero,List.nil_append,List.map_map]at hf2;have yQr:cs'.toList=css.flatten:=by rw[hf2,h2];rfl
 have hmax:ys.length<=maxLen:=by
  rw[Ky,<- hn];have:n*1<=n*te.size:=Nat.mul_le_mul_left _ hpos;simp only[maxLen];omega
 have hs':=hs.alloc (.cells cs' e);have hk2:Keep (C.N β σ.h) w (w.alloc (.cells cs' e)):=(dX w _).weaken λ_ _ h=>h.elim
 refine⟨w.alloc (.cells cs' e),.slice (some ⟨w.heap.size,0,none⟩) ys.length ys.length,?_,hs',?_⟩
 ·have hu:=(hT _ _ hts).slice hk;have hzv:(zeroValue e).run C.P w=.ok z w:=by simp[zeroValue,typeInfo,hi,hz]
  have zZc:¬ (n*te.size>2 ^ 24):=by omega
  simp only[execOp,ho,Instr.buildSlice,Sem.run_bind,run_underlying hu,Result.andThen_ok,(hT _ _ hti).sizeOf,hsz,zZc,if_false,Sem.run_pure];by_cases h0:n*te.size=0
  ·have hn0:n=0:=by
    rcases Nat.mul_eq_zero.1 h0 with h|h
    ·exact h
    ·omega
   have hpe:parts=#[]:=Array.eq_empty_of_size_eq_zero (by omega);subst hpe;subst hn0;have zZd:ys=[]:=List.eq_nil_of_length_eq_zero (by simpa using Ky);subst zZd;have zZe:cs'=#[]:=by simpa using hf2
   subst zZe;simp[Instr.fill,newRow,show Array.range 0=#[]from rfl];try rfl
  ·simp only[h0,if_false,Sem.run_bind,hzv,Result.andThen_ok,Sem.run_pure];rw[Array.toList_map,hf1];simp only[Sem.run_bind,newRow,run_newObj,Result.andThen_ok,Sem.run_pure,Ky,hn];rfl
 ·simp only[V.Rel,L.Rel,Ty.Rel];refine⟨_,rfl,.inr (.inl ⟨w.heap.size,0,ys.length,css,rfl,by simp,?_,aP _,hmax,h1.mono λ_ _ hx=>hx.mono hk2 λ_ _ _ h=>h,λc hc=>(by obtain⟨y,_,hy⟩:=h1.mem_right c hc;exact hy.length),?_⟩)⟩
  ·rintro k _ _ (hn0|⟨j,o',hj,_,hb⟩)
   ·have:=hs.heap.n0 _ _ hn0;have:=hs.heap.size;omega
   ·have:=(hs.heap.eY j o' _ hj ⟨k,hb⟩).2.1;omega
  ·intro j c hj;have hnew:=heap_alloc_new w (.cells cs' e);rw[Nat.zero_add];unfold World.cell?;simp only[hnew];rw[<- yQr]at hj;simpa using hj
theorem yWc{C:Ctx}(hT:bM C.P T){β:Nat->Pl}{σ:St}{a:Act}{w:World}{o:Oper}{v:V}(hs:Sim C β σ a w)(h:zSt T σ o=some (true,v)):∃ w' v',(execOp a.eval o).run C.P w=.ok (.value v') w'/\Sim C β σ a w'/\v.Rel β w' (C.N β σ.h) v':=by
 unfold zSt at h;split at h
 case h_2=>cases h
 rename_i t l c ho;split at h
 case h_2=>cases h
 rename_i e te ti n m het hn hm;obtain⟨ts,hts,hk,hti,zSk,hsz,hpos,hby⟩:=jV het;split at h
 case h_2=>cases h
 rename_i z0 hz0;simp only[aA,aB,aD]at h;obtain⟨⟨h0,hnm,hroom⟩,rfl⟩:=h;have h0:=of_decide_eq_true h0;have hnm:=of_decide_eq_true hnm;have hroom:=bR hroom;subst hnm;obtain⟨i,z,hi,his,hib,hz,sV,hzs,_⟩:=(hT _ _ hti).i;have hu:=(hT _ _ hts).slice hk;have hrz:=oU hz0 (sV β w (C.N β σ.h));obtain⟨k,rfl⟩:∃ k:Nat,n=k:=⟨n.toNat,by omega⟩;rw[Int.toNat_natCast]at hroom ⊢;unfold room at hroom;have hkb:k<=k*ti.bytes:=Nat.le_mul_of_pos_right _ hby;have hrun:=run_make (P:=C.P) w t e i z hu hi hz .i64 .i64 (k:Int) (k:Int) (by omega) (Int.le_refl _) (by
  have h:((i.bytes*k:Nat):Int)<=281474976710656:=by rw[hib,Nat.mul_comm];omega
  rwa [Int.natCast_mul]at h) (by omega)
 simp only[Int.toNat_natCast]at hrun;have hzz:z.cells.size=te.size:=by rw[hzs,his,hsz]
 have h1:bD (λx c=>te.Rel w (C.N β σ.h) x c) (List.replicate k z0) (List.replicate k z.cells.toList):=bD.replicate hrz k;have yQr:(madeCells z.cells (k*i.size)).toList=(List.replicate k z.cells.toList).flatten:=by rw[his,hsz];exact Gr hzz hpos k
 have hmax:(List.replicate k z0).length<=maxLen:=by simp only[List.length_replicate,maxLen];omega
 have hs':=hs.alloc (.cells (madeCells z.cells (k*i.size)) e);have hk2:Keep (C.N β σ.h) w (w.alloc (.cells (madeCells z.cells (k*i.size)) e)):=(dX w _).weaken λ_ _ h=>h.elim
 refine⟨w.alloc (.cells (madeCells z.cells (k*i.size)) e),.slice (some ⟨w.heap.size,0,none⟩) k k,?_,hs',?_⟩
 ·simp only[execOp,ho,iK hn (aY hs l),iK hm (aY hs c),Sem.run_bind,hrun];rfl
 ·simp only[V.Rel,L.Rel,Ty.Rel];refine⟨_,rfl,.inr (.inl ⟨w.heap.size,0,(List.replicate k z0).length,List.replicate k z.cells.toList,by rw[List.length_replicate],by simp,?_,aP _,hmax,h1.mono λ_ _ hx=>hx.mono hk2 λ_ _ _ h=>h,λc hc=>(by obtain⟨y,_,hy⟩:=h1.mem_right c hc;exact hy.length),?_⟩)⟩
  ·rintro j0 _ _ (hn0|⟨j,o',hj,_,hb⟩)
   ·have:=hs.heap.n0 _ _ hn0;have:=hs.heap.size;omega
   ·have:=(hs.heap.eY j o' _ hj ⟨j0,hb⟩).2.1;omega
  ·intro j c hj;have hnew:=heap_alloc_new w (.cells (madeCells z.cells (k*i.size)) e);rw[Nat.zero_add];unfold World.cell?;simp only[hnew];rw[<- yQr]at hj;simpa using hj
theorem yMx{C:Ctx}(hT:bM C.P T){β:Nat->Pl}{σ:St}{a:Act}{w:World}{o:Oper}{v:V}(hs:Sim C β σ a w)(h:zDp T σ o=some (true,v)):∃ w' v',(execOp a.eval o).run C.P w=.ok (.value v') w'/\Sim C β σ a w'/\v.Rel β w' (C.N β σ.h) v':=by
 unfold zDp at h;split at h
 case h_2=>cases h
 rename_i args ats ho;split at h
 case h_2=>cases h
 rename_i s x t t' ha hat;split at h
 case h_2=>cases h
 rename_i e te ti t1 xs t2 ys hb het hls hlx;obtain rfl:=aK hb;obtain⟨ts,hts,hk,hti,_,hsz,hpos,hby⟩:=jV het;split at h
 case isFalse=>cases h
 rename_i hh;obtain⟨e1,e2⟩:=hh;subst e1 e2;simp only[aA,aB]at h;obtain⟨hroom,rfl⟩:=h;have hx:=aY hs x;have hsl:=aY hs s;rw[hls]at hsl;rw[hlx]at hx;have hy:=Fb (h:=σ.h) (x:=.val (.slice _) ys) (ys:=ys) hs.heap (by simp[rowsOf]) hx;simp only[V.Rel,L.Rel]at hsl;obtain⟨v',w',h1,h2,h3,h4⟩:=zBc o.type hT hts hk hti hsz hby (bR hroom) hs hsl hy;refine⟨w',v',?_,h3,by simp only[V.Rel,L.Rel];exact h4⟩;have e1:args=#[s,x]:=by apply Array.toList_inj.1;simpa using ha
 have e2:ats=#[t,t]:=by apply Array.toList_inj.1;simpa using hat
 subst e1 e2;refine xU (x:=v') ho ?_;simp only[builtin,Sem.run_bind];have h1':(Builtin.append_ #[t,t] o.type (Array.map a.eval #[s,x])).run C.P w=.ok v' w':=by simpa using h1
 rw[h1'];rfl
theorem yQs{C:Ctx}(hT:bM C.P T){β:Nat->Pl}{σ:St}{a:Act}{w:World}{o:Oper}{v:V}{h':List Ob}{id:Nat}(hs:Sim C β σ a w)(h:Sd T id σ o=some (true,v,h')):∃ β' w' v',(execOp a.eval o).run C.P w=.ok (.value v') w'/\Sim C β' { σ with h:=h' } a w'/\v.Rel β' w' (C.N β' h') v':=by
 unfold Sd at h;split at h
 case h_2=>cases h
 rename_i t l c ho;split at h
 case h_2=>cases h
 rename_i e te ti n m e' t' vv het hn hm zSs;obtain⟨ts,hts,hk,hti,zSk,hsz,hpos,hby⟩:=jV het;split at h
 case isFalse=>cases h
 rename_i hc;obtain⟨rfl,rfl⟩:=hc;split at h
 case h_2=>cases h
 rename_i z0 hz0;simp only[aA,aB,aD]at h;obtain⟨⟨h0,hnm,hroom⟩,rfl,rfl⟩:=h;have h0:=of_decide_eq_true h0;have hnm:=of_decide_eq_true hnm;have hroom:=bR hroom;subst hnm;obtain⟨i,z,hi,his,hib,hz,sV,hzs,_⟩:=(hT _ _ hti).i;have hu:=(hT _ _ hts).slice hk;have hrz:=oU hz0 (sV β w (C.N β σ.h));obtain⟨k,rfl⟩:∃ k:Nat,n=k:=⟨n.toNat,by omega⟩;rw[Int.toNat_natCast]at hroom;unfold room at hroom;have hkb:k<=k*ti.bytes:=Nat.le_mul_of_pos_right _ hby;have hrun:=run_make (P:=C.P) w t e' i z hu hi hz .i64 .i64 (k:Int) (k:Int) (by omega) (Int.le_refl _) (by
  have h:((i.bytes*k:Nat):Int)<=281474976710656:=by rw[hib,Nat.mul_comm];omega
  rwa [Int.natCast_mul]at h) (by omega)
 simp only[Int.toNat_natCast]at hrun ⊢;have hzz:z.cells.size=t'.size:=by rw[hzs,his,hsz]
 have hal:bD (λx c=>t'.Rel w (C.N β σ.h) x c) (List.replicate k z0) (List.replicate k z.cells.toList):=bD.replicate hrz k;have hlen:∀ c∈List.replicate k z.cells.toList,c.length=t'.size:=λc hc=>by
  rw[List.eq_of_mem_replicate hc,Array.length_toList,hzz]
 have hfl:(madeCells z.cells (k*i.size)).toList=(List.replicate k z.cells.toList).flatten:=by rw[his,hsz];exact Gr hzz hpos k
 have hcsz:(madeCells z.cells (k*i.size)).size=k*t'.size:=by
  rw[<- Array.length_toList,hfl,cB _ hlen,List.length_replicate]
 have hob:=hs.heap.obj _ _ zSs;simp only[Ob.Rel]at hob;obtain⟨hlive,mV,hpv,hpz,_,hpl,_⟩:=hob
 let p:Pl:=⟨true,false,vv+1,some w.heap.size,t'.size,k,k,[]⟩
 have hmv:Moves β (upd β id p):=λj hj=>by
  by_cases hji:j=id
  ·subst hji;rw[upd_same];exact .inr ⟨mV,rfl,rfl,by rw[hpv];exact Nat.lt_succ_self _⟩
  ·exact .inl (aU _ _ hji)
 have hk0:Keep (λ_ _=>False) w (w.alloc (.cells (madeCells z.cells (k*i.size)) e')):=dX w _;have hk1:Keep (λq _=>(β id).blk=some q/\Ob.wr (.arr e' t' vv [] true)=true) w (w.alloc (.cells (madeCells z.cells (k*i.size)) e')):=hk0.weaken λ_ _ h=>h.elim
 have hpb:p.blk=(β id).blk\/p.blk=none\/(p.blk=some w.heap.size/\w.heap.size<(w.alloc (.cells (madeCells z.cells (k*i.size)) e')).heap.size):=.inr (.inr ⟨rfl,by simp⟩);refine⟨upd β id p,_,.slice (some ⟨w.heap.size,0,none⟩) k k,?_,hs.set (p:=p) zSs (λ_=>rfl) hpb hk1 (Kv _ _) hmv ?_,?_⟩
 ·simp only[execOp,ho,iK hn (aY hs l),iK hm (aY hs c),Sem.run_bind,hrun];rfl
 ·simp only[Ob.Rel];refine⟨rfl,rfl,rfl,rfl,hpos,by simp[p],.inr ⟨w.heap.size,_,List.replicate k z.cells.toList,rfl,heap_alloc_new w _,?_,?_,hcsz,by simp[p],by simp only[p,maxLen];omega⟩⟩
  ·exact hal.mono λ_ _ h=>h.mono (hk0.weaken λ_ _ h=>h.elim) λb j hlt hn=>xS (w:=w) zSs (at_set (λ_=>rfl) (hpb.imp (λh=>h) (·.imp (λh=>h) (·.1))) rfl) hlt hn
  ·rw[hfl,List.length_replicate];exact List.take_of_length_le (by rw[cB _ hlen,List.length_replicate];exact aP _)
 ·simp only[V.Rel,L.Rel,upd_same];refine⟨rfl,rfl,aP _,_,rfl,rfl,λ_=>?_⟩;unfold eO;simp only[p];exact⟨by omega,0,rfl,.inl (by simp)⟩
theorem yQt{C:Ctx}(hT:bM C.P T){β:Nat->Pl}{σ:St}{a:Act}{w:World}{o:Oper}{v:V}(hs:Sim C β σ a w)(h:Vw T σ o=some (true,v)):∃ w' v',(execOp a.eval o).run C.P w=.ok (.value v') w'/\Sim C β σ a w'/\v.Rel β w' (C.N β σ.h) v':=by
 unfold Vw at h;split at h
 ·exact yWc hT hs h
 ·exact yMx hT hs h
 ·split at h
  ·rename_i v1 hv;simp only[aA,aB,true_and]at h;subst h;exact yFq hT hs hv
  ·cases h
theorem zHe{C:Ctx}(hT:bM C.P T)(hΓ:kQ C.P Γ){ops:Array Oper}{i:Nat}{o:Oper}{β:Nat->Pl}{σ:St}{a:Act}{w:World}{v:V}{h':List Ob}{Q:Exit->Act->World->Prop}{Kt:Act->World->Prop}(hi:ops[i]?=some o)(hg:gZ Γ.pure T ops σ o v h')(hs:Sim C β σ a w)(hK:∀ β' a' w',Sim C β' ⟨bW σ.r o.dst v,h'⟩ a' w'->Kt a' w'):wpOp C.P ops Q i Kt a w:=by
 let Γ1:Orc St:=⟨Γ.pure,λ_ _ _ _=>none,Γ.ids⟩
 have xDq:kQ C.P Γ1:=⟨hΓ.pure,λ_ _ _ _ _ h=>by cases h⟩;have one:Goes Γ.pure T σ o v h'->o.wp C.P a w Kt Q:=λg=>by
  have:=yVz (Γ:=Γ1) g (λe σ'=>match e with|.normal=>some σ'|_=>none);refine zPi hT xDq.quiet this hs ?_ ?_
  ·intro σ' β' a' w' hs' hk;simp only[aA]at hk;subst hk;exact hK β' a' w' hs'
  ·intro e x σ' β' a' w' hs' hne hx hk;cases e<;>first|exact absurd rfl hne|cases hk
 unfold wpOp;simp only[hi];unfold gZ at hg;split at hg
 ·rename_i hgd;rw[if_pos (by simp[Region.wanted,hgd])];rcases hg with hg|⟨hv,rfl⟩|⟨id,hv⟩
  ·exact .inl (one hg)
  ·obtain⟨w',v',hrun,hs',hrel⟩:=yQt hT hs hv;refine .inl ?_;unfold Oper.wp;rw[hrun,Oper.upon_value];exact hK β _ w' (hs'.put o.dst hrel)
  ·obtain⟨β',w',v',hrun,hs',hrel⟩:=yQs hT hs hv;refine .inl ?_;unfold Oper.wp;rw[hrun,Oper.upon_value];exact hK β' _ w' (hs'.put o.dst hrel)
 ·rename_i j want hgd;obtain⟨s,d,hsl,hd,hg⟩:=hg;have hwant:Region.wanted o (yielded ops a.tmps)=d:=by
   rcases yMt hd with ⟨b,hb,rfl⟩|⟨hb,rfl⟩
   ·have zNa:∃ v,σ.r[s]?=some v/\v=.one (.val .bool b):=by
     rw[List.getD_eq_getElem?_getD]at hb;cases hr:σ.r[s]? with
     |none=>rw[hr]at hb;cases hb
     |some v=>rw[hr]at hb;exact⟨v,rfl,hb⟩
    obtain⟨u,hv,rfl⟩:=zNa;have hval:=hs.reg s _ hv;simp only[V.Rel,L.Rel,Ty.Rel,aJ,and_true]at hval;have hy:=zGv hsl hval;simp only[Region.wanted,hgd,hy];cases b<;>cases want<;>rfl
   ·have zNa:σ.r[s]?=some (.tup []):=by
     rw[List.getD_eq_getElem?_getD]at hb;cases hr:σ.r[s]? with
     |none=>rw[hr]at hb;cases hb
     |some v=>rw[hr]at hb;simp at hb;rw[hb]
    obtain⟨us,hval,_⟩:=hs.reg s _ zNa;simp only[Region.wanted,hgd,zGw hsl hval];cases want<;>rfl
  split at hg
  ·rename_i hw;rw[if_pos (by rw[hwant,hw])];exact .inl (one hg)
  ·rename_i hw;obtain⟨rfl,rfl⟩:=hg;rw[if_neg (by rw[hwant];exact hw)];exact hK β _ w (hs.put o.dst (v:=.tup []) ⟨[],rfl,trivial⟩)
end
def iA(L:List (Oper × Nat))(listed:Array Bool)(i:Nat):Option (Oper × Nat):=if listed.getD i true then none else L[i]?
def lH (L:List (Oper×Nat)) (listed:Array Bool):List (Oper×Nat):=(List.range L.length).filterMap (iA L listed)
theorem range_split{n i:Nat}(h:i<n):List.range n=List.range i++i::(List.range (n-i-1)).map (λk=>i+1+k):=by
 apply List.ext_getElem
 ·simp;omega
 ·intro k h1 h2;simp at h1;rcases Nat.lt_trichotomy k i with hk|hk|hk
  ·rw[List.getElem_append_left (by simpa using hk)];simp
  ·subst hk;rw[List.getElem_append_right (by simp)];simp
  ·rw[List.getElem_append_right (by simp;omega)];simp only[List.length_range,List.getElem_range];rw[List.getElem_cons];split
   ·omega
   ·simp;omega
theorem iE{α β:Type}{f g:α->Option β}:∀ {l:List α},(∀ x∈l,f x=g x)->l.filterMap f=l.filterMap g
 |[],_=>rfl
 |x::l,h=>by rw[List.filterMap_cons,List.filterMap_cons,h x (.head _),iE λy hy=>h y (.tail _ hy)]
theorem Fq{L:List (Oper × Nat)}{listed:Array Bool}{i:Nat}{o:Oper × Nat}(hi:L[i]?=some o)(hl:listed.getD i true=false):∃ A B,lH L listed=A++o::B/\lH L (listed.setIfInBounds i true)=A++B/\∀ x∈A,∃ j,j<i/\L[j]?=some x/\listed.getD j true=false:=by
 have hlt:i<L.length:=(bE.1 hi).1;have hll:i<listed.size:=by
  rcases jB i listed.size with h|h
  ·exact h
  ·simp[Array.getElem?_eq_none h]at hl
 have hne:∀ j,j≠i->iA L (listed.setIfInBounds i true) j=iA L listed j:=λj hj=>by
  unfold iA;rw[getD_set_ne true (Ne.symm hj)]
 refine⟨(List.range i).filterMap (iA L listed),((List.range (L.length-i-1)).map (λk=>i+1+k)).filterMap (iA L listed),?_,?_,?_⟩
 ·unfold lH;rw[range_split hlt,List.filterMap_append,List.filterMap_cons];have:iA L listed i=some o:=by unfold iA;rw[hl];simpa using hi
  rw[this]
 ·unfold lH;rw[range_split hlt,List.filterMap_append,List.filterMap_cons];have:iA L (listed.setIfInBounds i true) i=none:=by unfold iA;simp[hll]
  rw[this];have e1:(List.range i).filterMap (iA L (listed.setIfInBounds i true))=(List.range i).filterMap (iA L listed):=iE λj hj=>hne j (by have:=List.mem_range.1 hj;omega)
  have e2:((List.range (L.length-i-1)).map (λk=>i+1+k)).filterMap (iA L (listed.setIfInBounds i true))=((List.range (L.length-i-1)).map (λk=>i+1+k)).filterMap (iA L listed):=iE λj hj=>hne j (by
   obtain⟨k,_,rfl⟩:=List.mem_map.1 hj;omega)
  rw[e1,e2]
 ·intro x hx;obtain⟨j,hj,he⟩:=List.mem_filterMap.1 hx;unfold iA at he;split at he
  ·cases he
  ·rename_i hn;exact⟨j,List.mem_range.1 hj,he,by simpa using hn⟩
def Closed (ops:Array Oper) (listed:Array Bool):Prop := ∀ j o,ops[j]? = some o->listed.getD j false = true -> ∀ e ∈ o.after,Region.binds .any e = true->listed.getD e.on false = true
theorem mY{ops:Array Oper}{listed:Array Bool}(hc:Closed ops listed):∀ {n i j:Nat},ahead ops n i j=true->(∀ o,ops[j]?=some o->∀ e∈o.after,Region.binds .any e=true->listed.getD e.on false=true)->listed.getD i false=true
 |0,_,_,h,_=>by cases h
 |n+1,i,j,h,hr=>by
  unfold ahead at h;split at h
  ·rename_i o ho;rw[List.any_eq_true]at h;obtain⟨e,he,h⟩:=h;simp only[aD,Bool.or_eq_true]at h;obtain⟨hb,h⟩:=h;have hl:=hr o ho e (Array.mem_toList_iff.1 he) hb;rcases h with h|h
   ·rw[<- aK h];exact hl
   ·exact mY hc h λo' ho'=>hc e.on o' ho' hl
  ·cases h
theorem zY{listed:Array Bool}{n j:Nat}(hs:listed.size=n)(hj:j<n)(h:listed.getD j true=false):listed.getD j false=false:=by
 have:j<listed.size:=by omega
 simpa [this]using h
theorem zDr{ops:Array Oper}{L:List (Oper × Nat)}(hL:∀ i:Nat,ops[i]?=(L[i]?).map (·.1)){listed:Array Bool}(hd:xW ops.toList 0=true)(hsz:listed.size=ops.size)(hne:lH L listed≠[]):Region.ready .any ops listed≠[]:=by
 have hex:∃ j,j<ops.size/\listed.getD j true=false:=by
  cases hr:lH L listed with
  |nil=>exact absurd hr hne
  |cons x xs =>
   have hx:x∈lH L listed:=by rw[hr];exact .head _
   obtain⟨j,hj,he⟩:=List.mem_filterMap.1 hx;unfold iA at he;split at he
   ·cases he
   ·rename_i hn;have hj':ops[j]?=some x.1:=by rw[hL,he];rfl
    exact⟨j,(Array.getElem?_eq_some_iff.1 hj').1,by simpa using hn⟩
 obtain⟨j,hj,hjl⟩:=hex;have key:∀ m j,j<m->j<ops.size->listed.getD j true=false->∃ i,i<ops.size/\listed.getD i true=false/\∀ k,k<i->listed.getD k true=true:=by
  intro m;induction m with
  |zero=>intro j h;omega
  |succ m ih =>
   intro j _ hj hl;by_cases hex:∃ k,k<j/\listed.getD k true=false
   ·obtain⟨k,hk,hkl⟩:=hex;exact ih k (by omega) (by omega) hkl
   ·refine⟨j,hj,hl,λk hk=>?_⟩;cases hb:listed.getD k true with
    |true=>rfl
    |false=>exact absurd ⟨k,hk,hb⟩ hex
 obtain⟨i,hi,hil,hmin⟩:=key (j+1) j (by omega) hj hjl;have hmem:i∈Region.ready .any ops listed:=by
  rw[mem_ready];refine⟨hil,ops[i],Array.getElem?_eq_getElem hi,λe he hb=>?_⟩;have hlt:=zFk hd i ops[i] (by simp[hi]) e he hb;rw[Nat.zero_add]at hlt;have:=hmin e.on hlt;have hlen:e.on<listed.size:=by omega
  simpa [hlen]using this
 intro h0;rw[h0]at hmem;cases hmem
section
variable {ρ:Type}
variable {Γ:Orc ρ}
variable {T:Tab}
theorem Yy{N:Nat}{C:Ctx}(hT:bM C.P T)(hΓ:kQ C.P Γ){ops:Array Oper}(hd:xW ops.toList 0=true){L:List (Oper × Nat)}(hL:∀ i:Nat,ops[i]?=(L[i]?).map (·.1))(hrow:∀ j o u,L[j]?=some (o,u)->∀ i x v,i<j->L[i]?=some (x,v)->(Oper.apart ops x o=true/\Fg N v u=true)\/ahead ops ops.size i j=true){σe:St}{Q:Exit->Act->World->Prop}(hq:∀ β' a' w',Sim C β' σe a' w'->Q .normal a' w'):∀ (fuel:Nat) (listed:Array Bool) (β:Nat->Pl) (σ:St) (a:Act) (w:World),listed.size=ops.size->Closed ops listed->(lH L listed).length<=fuel->N<=σ.h.length->Run Γ.pure T ops (lH L listed) σ σe->Sim C β σ a w->wpAny C.P .any ops Q fuel listed a w
 |0,listed,β,σ,a,w,hsz,hcl,hfu,hN,h,hs=>by
  have h0:lH L listed=[]:=List.length_eq_zero_iff.1 (by omega);refine⟨?_,?_⟩
  ·cases hr:Region.ready .any ops listed with
   |nil=>rfl
   |cons i xs =>
    have hi:i∈Region.ready .any ops listed:=by rw[hr];exact .head _
    obtain⟨h1,o,ho,_⟩:=mem_ready.1 hi;rw[hL]at ho;cases hLi:L[i]? with
    |none=>rw[hLi]at ho;cases ho
    |some p =>
     obtain⟨A,B,e,_⟩:=Fq hLi h1;rw[h0]at e;simp at e
  ·rw[h0]at h;obtain rfl:=h;exact hq β a w hs
 |fuel+1,listed,β,σ,a,w,hsz,hcl,hfu,hN,h,hs=>by
  refine⟨λhr=>?_,λi hi=>?_⟩
  ·have h0:lH L listed=[]:=by
    cases hm:lH L listed with
    |nil=>rfl
    |cons x xs=>exact absurd hr (zDr hL hd hsz (by rw[hm];simp))
   rw[h0]at h;obtain rfl:=h;exact hq β a w hs
  ·obtain⟨h1,o,ho,hall⟩:=mem_ready.1 hi;have hlt:i<ops.size:=(Array.getElem?_eq_some_iff.1 ho).1;have ho2:=ho;rw[hL]at ho2;cases hLi:L[i]? with
   |none=>rw[hLi]at ho2;cases ho2
   |some p =>
    obtain⟨o',u⟩:=p;rw[hLi]at ho2;simp only[Option.map_some,aA]at ho2;subst ho2;obtain⟨A,B,e1,e2,hA⟩:=Fq hLi h1;have hfree:∀ x∈A,Oper.apart ops x.1 o'=true/\Fg N x.2 u=true:=λx hx=>by
     obtain⟨j,hj,hjo,hjl⟩:=hA x hx;rcases hrow i o' u hLi j x.1 x.2 hj hjo with hf|hf
     ·exact hf
     ·have:=mY hcl hf λo2 ho2=>by
       rw[ho]at ho2;simp only[aA]at ho2;subst ho2;exact hall
      rw[zY hsz (by omega) hjl]at this;cases this
    rw[e1]at h;obtain⟨v,h',g,h⟩:=front hN hfree h;rw[e1]at hfu;simp at hfu;refine zHe hT hΓ ho g.goes hs λβ' a' w' hs'=>?_
    refine Yy hT hΓ hd hL hrow hq fuel _ β' _ a' w' (by simpa using hsz) ?_ (by rw[e2];simp;omega) (Nat.le_trans hN g.grow) (by rw[e2];exact h) hs';intro j o2 ho2 hl e he hb;by_cases hji:i=j
    ·subst hji;rw[ho]at ho2;simp only[aA]at ho2;subst ho2;exact getD_set_true (hall e he hb)
    ·rw[getD_set_ne false hji]at hl;exact getD_set_true (hcl j o2 ho2 hl e he hb)
theorem Jw{α:Type}:∀ l:List α,(List.range l.length).filterMap (λi=>l[i]?)=l
 |[]=>rfl
 |x::l=>by
  rw[List.length_cons,List.range_succ_eq_map,List.filterMap_cons];simp only[List.getElem?_cons_zero];rw[List.filterMap_map];congr 1;exact Jw l
theorem Sim.drawn{C:Ctx}{β:Nat->Pl}{σ:St}{a:Act}{w:World}(hs:Sim C β σ a w)(n:Nat):Sim C β σ a { w with drawn:=n }:=by
 have hk:Keep (C.N β σ.h) w { w with drawn:=n }:=⟨aP _,λb hb _=>rfl,λ_ _ _ _ _ h=>h⟩;refine⟨⟨λid o ho=>?_,hs.heap.dead,hs.heap.kR,hs.heap.eY,hs.heap.n0,⟨hs.heap.frame.1,hs.heap.frame.2,hs.heap.frame.3⟩,hs.heap.size,hs.heap.os,hs.heap.tape,hs.heap.output,hs.heap.fixed⟩,hs.defers,hs.size,λi v hv=>(hs.reg i v hv).mono (Moves.refl β) hk λ_ _ _ h=>h⟩;exact(hs.heap.obj id o ho).mono (Moves.refl β) hk (λ_ _ _ h=>h) λb hb=>rfl
theorem wT{α γ:Type}:∀ {l:List α}{m:List γ}{i:Nat}{x:α}{y:γ},(l.zip m)[i]?=some (x,y)->l[i]?=some x/\m[i]?=some y
 |[],_,_,_,_,h=>by simp at h
 |_::_,[],_,_,_,h=>by simp at h
 |a::l,b::m,0,x,y,h=>by
  simp only[List.zip_cons_cons,List.getElem?_cons_zero,aA,aB]at h;exact⟨congrArg some h.1,congrArg some h.2⟩
 |a::l,b::m,i+1,x,y,h=>by simpa using wT (l:=l) (m:=m) (i:=i) (by simpa using h)
theorem zip_fst{α γ:Type}:∀ {l:List α}{m:List γ}(_:m.length=l.length) (i:Nat),((l.zip m)[i]?).map (·.1)=l[i]?
 |[],_,_,_=>by simp
 |_::_,[],h,_=>by cases h
 |a::l,b::m,h,0=>rfl
 |a::l,b::m,h,i+1=>by simpa using zip_fst (l:=l) (m:=m) (by simpa using h) i
def zYd{ρ:Type}(Γ:Orc ρ)(o:Oper):Option (FuncId × Array Operand):=
 match o.op,o.guard with
 |.call { callee:=.value (.func f),args,.. },none=>match Γ.pure f with
  |none=>some (f,args)
  |some _=>none
 |_,_=>none
def zPp{ρ:Type}(Γ:Orc ρ):List Oper->Nat->Option (Nat × Oper × FuncId × Array Operand)
 |[],_=>none
 |o::r,i=>match zYd Γ o with
  |some (f,args)=>some (i,o,f,args)
  |none=>zPp Γ r (i+1)
def Ld(ids:List Nat)(u:Nat):Bool:=Nat.beq u 0||(zHb u&&match pos (u / 2-3) ids 0 with|none=>true|some _=>false)
def zKd(ops:Array Oper)(j:Nat)(o:Oper)(ids:List Nat):List Nat->Nat->Bool
 |[],_=>true
 |v::r,i=>(ahead ops ops.size i j||(match ops[i]? with|some x=>Oper.apart ops x o&&Ld ids v|none=>false))&&zKd ops j o ids r (i+1)
def Jh (ops:Array Oper) (j:Nat):Nat->Nat->Bool | 0,_=>true | n+1,i=>ahead ops ops.size j i&&Jh ops j n (i+1)
def zSu{ρ:Type}(Γ:Orc ρ)(T:Tab)(ops:Array Oper)(σ:St)(k:K ρ):Option ρ :=
 match xW ops.toList 0 with
 |true =>
  match zPp Γ ops.toList 0 with
  |none =>
   match xBx T ops with
   |some o=>match o with
    |.arr e te ver rows wr=>if ver=0/\wr=true/\0<te.size/\rows.length=0 then lW Γ.quiet T (σ.h.length+1) ops ops.toList 0 [] ⟨σ.r,σ.h++[.arr e te 0 [] true]⟩ λ_ σ'=>k .normal σ' else none
    |_=>none
   |none=>lW Γ.quiet T σ.h.length ops ops.toList 0 [] σ λ_ σ'=>k .normal σ'
  |some (j,o,f,args)=>
   lW Γ.quiet T 0 ops (ops.toList.take j) 0 [] σ λus σ1 =>
    match Jh ops j (ops.size-(j+1)) (j+1)&&zKd ops j o (Γ.ids f (jL σ1 args.toList) σ1.h) us 0 with
    |true=>Γ.gen f (jL σ1 args.toList) σ1.h λout h'=>match out with
     |.ret v=>lW Γ.quiet T 0 ops (ops.toList.drop (j+1)) (j+1) (us++[0]) ⟨bW σ1.r o.dst v,h'⟩ λ_ σ2=>k .normal σ2
     |.pan t v=>k (.pan t v) ⟨σ1.r.map λ_=>.bY,h'⟩
    |false=>none
 |false=>none
theorem zLq{ρ:Type}{Γ:Orc ρ}:∀ {l:List Oper}{i j:Nat}{o:Oper}{f:FuncId}{args:Array Operand},zPp Γ l i=some (j,o,f,args)->∃ m,j=i+m/\l[m]?=some o/\zYd Γ o=some (f,args)
 |[],_,_,_,_,_,h=>by cases h
 |x::r,i,j,o,f,args,h=>by
  simp only[zPp]at h;split at h
  ·rename_i f' args' hx;simp only[aA,aB]at h;obtain⟨rfl,rfl,rfl,rfl⟩:=h;exact⟨0,rfl,rfl,hx⟩
  ·obtain⟨m,h1,h2,h3⟩:=zLq h;exact⟨m+1,by omega,by simpa using h2,h3⟩
theorem yIz{ρ:Type}{Γ:Orc ρ}{o:Oper}{f:FuncId}{args:Array Operand}(h:zYd Γ o=some (f,args)):o.guard=none/\∃ ats,o.op=.call { callee:=.value (.func f),args:=args,argTypes:=ats }:=by
 unfold zYd at h;split at h
 ·rename_i g args' ats ho hg;split at h
  ·simp only[aA,aB]at h;obtain⟨rfl,rfl⟩:=h;exact⟨hg,ats,ho⟩
  ·cases h
 ·cases h
theorem zHf{ops:Array Oper}{j:Nat}{o:Oper}{ids:List Nat}:∀ {l:List Nat}{k:Nat},zKd ops j o ids l k=true->∀ (i:Nat) (v:Nat) (x:Oper),l[i]?=some v->ops[k+i]?=some x ->
 (Oper.apart ops x o=true/\Ld ids v=true)\/ahead ops ops.size (k+i) j=true
 |[],_,_,_,_,_,h,_=>by simp at h
 |y::l,k,h,i,v,x,hi,hx=>by
  simp only[zKd,aD,Bool.or_eq_true]at h;cases i with
  |zero =>
   simp only[List.getElem?_cons_zero,aA]at hi;subst hi;rw[Nat.add_zero]at hx;rcases h.1 with h1|h1
   ·exact .inr h1
   ·rw[hx]at h1;simp only[aD]at h1;exact .inl h1
  |succ i =>
   have:=zHf h.2 i v x (by simpa using hi) (by rw[show k+1+i=k+(i+1)by omega];exact hx)
   rwa [show k+1+i=k+(i+1)by omega]at this
theorem Bc{ops:Array Oper}{j:Nat}:∀ {n i:Nat},Jh ops j n i=true->∀ m,m<n->ahead ops ops.size j (i+m)=true
 |0,_,_,m,hm=>by omega
 |n+1,i,h,m,hm=>by
  simp only[Jh,aD]at h;cases m with
  |zero=>exact h.1
  |succ m =>
   have:=Bc h.2 m (by omega)
   rwa [show i+1+m=i+(m+1)by omega]at this
theorem zDs{π:FuncId->Option PE}{ops:Array Oper}{o:Oper}{ids:List Nat}{v:V}:∀ {L:List (Oper × Nat)}{σ σA:St}{h':List Ob},(∀ x∈L,Oper.apart ops x.1 o=true/\Ld ids x.2=true)->Run π T ops L σ σA ->
 (∀ id,id<σ.h.length->id∉ids->h'[id]?=σ.h[id]?)->σA.h=σ.h/\Run π T ops L ⟨bW σ.r o.dst v,h'⟩ ⟨bW σA.r o.dst v,h'⟩/\∀ y∈o.op.operands,ovl σA y=ovl σ y
 |[],σ,σA,h',_,hr,_=>by
  obtain rfl:=hr;exact⟨rfl,rfl,λ_ _=>rfl⟩
 |(x,u)::L,σ,σA,h',hf,hr,hh=>by
  obtain⟨v1,h1,g,hr⟩:=hr;obtain⟨ha,hu⟩:=hf (x,u) (.head _);obtain⟨a1,a2,a3⟩:=Oper.apart_spec ha;have key:h1=σ.h/\yS π T ops ⟨bW σ.r o.dst v,h'⟩ x u v1 h':=by
   simp only[Ld,Bool.or_eq_true,aD]at hu;rcases hu with hu|⟨hu,hp⟩
   ·have hu:=aK hu;obtain⟨e,k1⟩:=g.dry hu;have k:∀ h3,gZ π T ops ⟨bW σ.r o.dst v,h3⟩ x v1 h3:=λh3=>(k1 h3).move o.dst v (.inl rfl) rfl a3
    exact⟨e,k h',λ_=>⟨rfl,k⟩,λ_=>rfl,(λh6=>by omega),(λh3=>by omega),aP _⟩
   ·have hrd:rdB u=true:=by simp only[rdB,hu,Bool.or_true]
    simp only[zHb,aD]at hu;have h6:=bR hu.1;have h0:=aK hu.2;obtain⟨id,fo,k1,k2,k3,k4,k5⟩:=g.at6 h6;obtain rfl:=k3 h0;have hid:id∉ids:=by
     intro hm;have e:u / 2-3=id:=by omega
     rw[e]at hp;cases hq:pos id ids 0 with
     |some q=>rw[hq]at hp;cases hp
     |none=>exact zHg hq hm
    have he:=hh id k2 hid;have hlt:id<h'.length:=by
     rcases jB id h'.length with h|h
     ·exact h
     ·rw[List.getElem?_eq_none h,List.getElem?_eq_getElem k2]at he;cases he
    refine⟨k4,(k5 h' he).move o.dst v (.inl rfl) rfl a3,λh=>by omega,λ_=>rfl,λ_=>⟨id,none,k1,hlt,k3,rfl,λh2 he2=>(k5 h2 (he2.trans he)).move o.dst v (.inl rfl) rfl a3⟩,(λh=>by omega),aP _⟩
  obtain⟨rfl,g2⟩:=key;obtain⟨k1,k2,k3⟩:=zDs (σ:=⟨bW σ.r x.dst v1,σ.h⟩) (h':=h') (λy hy=>hf y (.tail _ hy)) hr hh;refine⟨k1,⟨v1,h',g2,?_⟩,λy hy=>?_⟩
  ·have e:bW (bW σ.r o.dst v) x.dst v1=bW (bW σ.r x.dst v1) o.dst v:=(zHd a2).symm;simp only[e];exact k2
  ·rw[k3 y hy];have hne:∀ t,x.dst=some t->y≠.tmp t:=λt ht e=>a1 t ht (by
    subst e;exact List.mem_append_left _ (List.mem_filterMap.2 ⟨.tmp t,by simpa using hy,rfl⟩))
   exact zBh hne
where
 zHg {i:Nat}:∀ {l:List Nat}{n:Nat},pos i l n=none->i∉l
  |[],_,_=>by simp
  |a::r,n,h=>by
   simp only[pos]at h;split at h
   ·cases h
   ·rename_i hb;intro hm;cases hm with
    |head=>simp at hb
    |tail _ hm=>exact zHg h hm
theorem Sim.bY{C:Ctx}{β:Nat->Pl}{σ:St}{a:Act}{w:World}(hs:Sim C β σ a w){n:Nat}(hn:σ.r.length=n)(r:List V)(hr:r.length=n):Sim C β ⟨r.map λ_=>.bY,σ.h⟩ a w:=by
 refine⟨hs.heap,hs.defers,by rw[<- hs.size,hn];simpa using hr,λi v hv=>?_⟩;simp only[List.getElem?_map]at hv;cases h:r[i]? with
 |none=>rw[h]at hv;cases hv
 |some u=>rw[h]at hv;simp at hv;subst hv;trivial
theorem yEr{r:List V}{d:Option Tmp}{v:V}:(bW r d v).length=r.length:=by
 cases d<;>simp[bW]
theorem zDt{π:FuncId->Option PE}{ops:Array Oper}:∀ {L:List (Oper × Nat)}{σ σA:St},Run π T ops L σ σA->σA.r.length=σ.r.length
 |[],σ,σA,h=>by obtain rfl:=h;rfl
 |(x,u)::L,σ,σA,h=>by
  obtain⟨v,h',_,h⟩:=h;rw[zDt h,yEr]
theorem zUt{C:Ctx}(hT:bM C.P T)(hΓ:kQ C.P Γ){ops:Array Oper}(hd:xW ops.toList 0=true){j:Nat}{o:Oper}{f:FuncId}{args:Array Operand}(hj:ops[j]?=some o)(hg:o.guard=none){ats:Array TypeId}(hop:o.op=.call { callee:=.value (.func f),args:=args,argTypes:=ats }){LA:List (Oper × Nat)}{σA:St}{r:ρ}{k:Dec.K ρ}{Q:Exit->Act->World->Prop}(hLA:LA.length=j)(hL:∀ i,i<j->ops[i]?=(LA[i]?).map (·.1))(hrow:∀ i o u,LA[i]?=some (o,u)->∀ i' x v,i'<i->LA[i']?=some (x,v)->(Oper.apart ops x o=true/\Fg 0 v u=true)\/ahead ops ops.size i' i=true)(hafter:Jh ops j (ops.size-(j+1)) (j+1)=true)(hfree:∀ i x u,LA[i]?=some (x,u)->(Oper.apart ops x o=true/\Ld (Γ.ids f (jL σA args.toList) σA.h) u=true)\/ahead ops ops.size i j=true)(hgen:(Γ.gen f (jL σA args.toList) σA.h λout h'=>match out with
  |.ret v=>lW Γ.quiet T 0 ops (ops.toList.drop (j+1)) (j+1) (LA.map (·.2)++[0]) ⟨bW σA.r o.dst v,h'⟩ λ_ σ2=>k .normal σ2
  |.pan t v=>k (.pan t v) ⟨σA.r.map λ_=>.bY,h'⟩)=some r)(hq:∀ e x σ' β' a' w',Sim C β' σ' a' w'->La β' w' (C.N β' σ'.h) e x->k e σ'=some r->Q x a' w'):∀ (fuel:Nat) (listed:Array Bool) (β:Nat->Pl) (σ:St) (a:Act) (w:World),listed.size=ops.size->Closed ops listed->listed.getD j true=false->(lH LA listed).length+(ops.size-j)<=fuel->Run Γ.pure T ops (lH LA listed) σ σA->Sim C β σ a w->wpAny C.P .any ops Q fuel listed a w
 |0,listed,β,σ,a,w,hsz,hcl,hjl,hfu,h,hs=>by
  have hlt:=(Array.getElem?_eq_some_iff.1 hj).1;omega
 |fuel+1,listed,β,σ,a,w,hsz,hcl,hjl,hfu,h,hs=>by
  have hjlt:=(Array.getElem?_eq_some_iff.1 hj).1;have Ud:∀ i,j<i->i<ops.size->listed.getD i false=false:=by
   intro i hji hi;cases hli:listed.getD i false with
   |false=>rfl
   |true =>
    have hah:=Bc hafter (i-(j+1)) (by omega);rw[show j+1+(i-(j+1))=i by omega]at hah;have:=mY hcl hah λo' ho' e he hb=>hcl i o' ho' hli e he hb
    rw[zY hsz hjlt hjl]at this;cases this
  refine⟨λhr=>?_,λi hi=>?_⟩
  ·exfalso;refine zDr (L:=ops.toList.map λo=>(o,0)) (λi=>by simp only[List.getElem?_map,Array.getElem?_toList];cases ops[i]?<;>rfl) hd hsz ?_ hr;intro h0;obtain⟨A,B,e1,_,_⟩:=Fq (L:=ops.toList.map λo=>(o,0)) (i:=j) (o:=(o,0)) (by simp[hj]) hjl;rw[h0]at e1;simp at e1
  ·obtain⟨h1,o1,ho1,hall⟩:=mem_ready.1 hi;have hlt:i<ops.size:=(Array.getElem?_eq_some_iff.1 ho1).1;have zZw:Closed ops (listed.setIfInBounds i true):=by
    intro m o2 ho2 hl e he hb;by_cases hmi:i=m
    ·subst hmi;rw[ho1]at ho2;simp only[aA]at ho2;subst ho2;exact getD_set_true (hall e he hb)
    ·rw[getD_set_ne false hmi]at hl;exact getD_set_true (hcl m o2 ho2 hl e he hb)
   rcases Nat.lt_trichotomy i j with hij|hij|hij
   ·cases hLi:LA[i]? with
    |none=>rw[hL i hij,hLi]at ho1;cases ho1
    |some p =>
     obtain⟨o',u⟩:=p;rw[hL i hij,hLi]at ho1;simp only[Option.map_some,aA]at ho1;subst ho1;obtain⟨A,B,e1,e2,hA⟩:=Fq hLi h1;have hfr:∀ x∈A,Oper.apart ops x.1 o'=true/\Fg 0 x.2 u=true:=λx hx=>by
      obtain⟨m,hm,hmo,hml⟩:=hA x hx;rcases hrow i o' u hLi m x.1 x.2 hm hmo with hf|hf
      ·exact hf
      ·have:=mY hcl hf λo2 ho2=>by
        rw[hL i hij,hLi]at ho2;simp only[Option.map_some,aA]at ho2;subst ho2;exact hall
       rw[zY hsz (by omega) hml]at this;cases this
     rw[e1]at h;obtain⟨v,h',g,h⟩:=front (Nat.zero_le _) hfr h;rw[e1]at hfu;simp only[List.length_append,List.length_cons]at hfu;refine zHe hT hΓ (by rw[hL i hij,hLi];rfl) g.goes hs λβ' a' w' hs'=>?_
     refine zUt hT hΓ hd hj hg hop hLA hL hrow hafter hfree hgen hq fuel _ β' _ a' w' (by simpa using hsz) zZw ?_ (by rw[e2];simp only[List.length_append];omega) (by rw[e2];exact h) hs';rw[getD_set_ne true (by omega)];exact hjl
   ·subst hij;rw[hj]at ho1;simp only[aA]at ho1;subst ho1;have hfr:∀ x∈lH LA listed,Oper.apart ops x.1 o=true/\Ld (Γ.ids f (jL σA args.toList) σA.h) x.2=true:=λx hx=>by
     obtain⟨m,hm,hme⟩:=List.mem_filterMap.1 hx;unfold iA at hme;split at hme
     ·cases hme
     ·rename_i hml;rcases hfree m x.1 x.2 hme with hf|hf
      ·exact hf
      ·have:=mY hcl hf λo2 ho2=>by
        rw[hj]at ho2;simp only[aA]at ho2;subst ho2;exact hall
       have xGj:=List.mem_range.1 hm;rw[zY hsz (by omega) (by simpa using hml)]at this;cases this
    obtain⟨eh,_,yQu⟩:=zDs (v:=.bY) (h':=σ.h) hfr h λ_ _ _=>rfl
    have ea:jL σA args.toList=jL σ args.toList:=Fj λy hy=>yQu y (by rw[hop];simp only[Op.operands,Call.operands];simp at hy ⊢;exact .inr hy)
    rw[ea,eh]at hgen hfr;obtain⟨hb,hcall⟩:=hΓ.gen _ _ _ _ _ hgen;have hlen:=zDt h;unfold wpOp;simp only[hj];rw[if_pos (by simp[Region.wanted,hg])];refine .inl (yFl (cs:=[]) hop (by simp[callee,ovl,zBb]) hb (by rw[List.append_nil];exact hcall) hs ?_ ?_)
    ·intro v h' β' a' w' ⟨hk,zHh⟩ hs';obtain⟨vs,σe,l1,l2,l3,l4⟩:=Fp hΓ hk;obtain⟨_,hrA,_⟩:=zDs (v:=v) (h':=h') hfr h zHh;rw[eh]at *
     let L:List (Oper × Nat):=LA++(o,0)::(ops.toList.drop (i+1)).zip vs
     have hLL:∀ m:Nat,ops[m]?=(L[m]?).map (·.1):=λm=>by
      rcases Nat.lt_trichotomy m i with hm|hm|hm
      ·rw[hL m hm];simp only[L];rw[fV (by omega)]
      ·subst hm;simp only[L];rw[List.getElem?_append_right (by omega),hLA,Nat.sub_self];simpa using hj
      ·simp only[L];rw[List.getElem?_append_right (by omega),hLA,show m-i=(m-i-1)+1 by omega,List.getElem?_cons_succ,zip_fst l1,List.getElem?_drop,show i+1+(m-i-1)=m by omega];simp
     have yJa:L.length=ops.size:=by
      simp only[L,List.length_append,List.length_cons,List.length_zip,l1,Nat.min_self,List.length_drop,Array.length_toList,hLA];omega
     have zZx:lH L (listed.setIfInBounds i true)=lH LA listed++(ops.toList.drop (i+1)).zip vs:=yMy hLA hsz hjlt yJa Ud;refine Yy hT hΓ hd hLL ?_ (λβ2 a2 w2 hs2=>hq .normal .normal σe β2 a2 w2 hs2 rfl l3) fuel _ β' _ a' w' (by simpa using hsz) zZw ?_ (Nat.zero_le _) ?_ hs'
     ·intro m om u hm i' x v' him hi';rcases Nat.lt_trichotomy m i with hmi|hmi|hmi
      ·have e1:LA[m]?=some (om,u):=by simp only[L]at hm;rwa [fV (by omega)]at hm
       have e2:LA[i']?=some (x,v'):=by simp only[L]at hi';rwa [fV (by omega)]at hi'
       exact hrow m om u e1 i' x v' him e2
      ·subst hmi;simp only[L]at hm hi';rw[List.getElem?_append_right (by omega),hLA,Nat.sub_self,List.getElem?_cons_zero,aA,aB]at hm;obtain⟨rfl,rfl⟩:=hm;rw[fV (by omega)]at hi';rcases hfree i' x v' hi' with hf|hf
       ·exact .inl ⟨hf.1,by simp[Fg]⟩
       ·exact .inr hf
      ·simp only[L]at hm;rw[List.getElem?_append_right (by omega),hLA,show m-i=(m-i-1)+1 by omega,List.getElem?_cons_succ]at hm;obtain⟨hm1,hm2⟩:=wT hm;have hrw:=l4 (m-i-1) om u hm1 hm2;rw[show i+1+(m-i-1)=m by omega]at hrw;refine(Fh hrw i' v' x ?_ (by rw[Nat.zero_add,hLL i'];rw[hi'];rfl)).elim .inl (λh=>.inr (by rwa [Nat.zero_add]at h));rcases Nat.lt_trichotomy i' i with h2|h2|h2
       ·simp only[L]at hi';rw[fV (by omega)]at hi';rw[fV (by simp;omega),fV (by simp;omega),List.getElem?_map,hi'];rfl
       ·subst h2;simp only[L]at hi';rw[List.getElem?_append_right (by omega),hLA,Nat.sub_self,List.getElem?_cons_zero,aA,aB]at hi';obtain⟨rfl,rfl⟩:=hi';rw[fV (by simp;omega),List.getElem?_append_right (by simp;omega)];simp[hLA]
       ·simp only[L]at hi';rw[List.getElem?_append_right (by omega),hLA,show i'-i=(i'-i-1)+1 by omega,List.getElem?_cons_succ]at hi';obtain⟨_,hi2⟩:=wT hi';rw[List.getElem?_append_right (by simp;omega)];simp only[List.length_append,List.length_map,List.length_cons,List.length_nil,hLA];rw[show i'-(i+(0+1))=i'-i-1 by omega,List.getElem?_take_of_lt (by omega)];exact hi2
     ·have hsl:ops.toList.length=ops.size:=Array.length_toList;rw[zZx,List.length_append,List.length_zip,l1,Nat.min_self,List.length_drop,hsl];omega
     ·rw[zZx];exact zPq hrA l2
    ·intro t v h' β' w' y ⟨hk,_⟩ hs' hy;have:=hs'.bY (n:=σ.r.length) rfl σA.r hlen;exact hq (.pan t v) _ _ β' a w' this ⟨y,rfl,hy⟩ hk
   ·have:=Ud i hij hlt;exfalso;have hah:=Bc hafter (i-(j+1)) (by omega);rw[show j+1+(i-(j+1))=i by omega]at hah;have:=mY hcl hah λo' ho'=>by
     rw[ho1]at ho';simp only[aA]at ho';subst ho';exact hall
    rw[zY hsz hjlt hjl]at this;cases this
where
 zPq {π:FuncId->Option PE}{ops:Array Oper}:∀ {L M:List (Oper × Nat)}{σ σ1 σ2:St},Run π T ops L σ σ1->Run π T ops M σ1 σ2->Run π T ops (L++M) σ σ2
  |[],M,σ,σ1,σ2,h,h2=>by obtain rfl:=h;exact h2
  |(x,u)::L,M,σ,σ1,σ2,h,h2=>by
   obtain⟨v,h',g,h⟩:=h;exact⟨v,h',g,zPq h h2⟩
 yMy {LA LB:List (Oper × Nat)}{p:Oper × Nat}{listed:Array Bool}{i n:Nat}(hLA:LA.length=i) (hsz:listed.size=n) (hi:i<n) (hlen:(LA++p::LB).length=n) (Ud:∀ m,i<m->m<n->listed.getD m false=false):
  lH (LA++p::LB) (listed.setIfInBounds i true)=lH LA listed++LB:=by
  subst hLA;unfold lH;rw[range_split (i:=LA.length) (by rw[hlen];exact hi),List.filterMap_append,List.filterMap_cons];have hat:iA (LA++p::LB) (listed.setIfInBounds LA.length true) LA.length=none:=by
   unfold iA;rw[if_pos];have:LA.length<listed.size:=by omega
   simp[this]
  rw[hat];congr 1
  ·refine iE λm hm=>?_
   have hm:=List.mem_range.1 hm;unfold iA;rw[getD_set_ne true (by omega),fV hm]
  ·rw[List.filterMap_map];have hll:(LA++p::LB).length-LA.length-1=LB.length:=by simp
   rw[hll];have:(List.range LB.length).filterMap (iA (LA++p::LB) (listed.setIfInBounds LA.length true) ∘ λk=>LA.length+1+k)=(List.range LB.length).filterMap (λk=>LB[k]?):=iE λk hk=>by
    have hk:=List.mem_range.1 hk;simp only[Function.comp];unfold iA;have xBy:LA.length+LB.length+1=n:=by rw[<- hlen];simp;omega
    have h1:=Ud (LA.length+1+k) (by omega) (by omega);have h2:listed.getD (LA.length+1+k) true=false:=by
     have:LA.length+1+k<listed.size:=by omega
     simpa [this]using h1
    rw[getD_set_ne true (by omega),h2];rw[List.getElem?_append_right (by omega),show LA.length+1+k-LA.length=k+1 by omega,List.getElem?_cons_succ];simp
   rw[this];exact Jw LB
theorem zUu{C:Ctx}(hT:bM C.P T)(hΓ:kQ C.P Γ)(hm:C.P.follows .mixedOrders=true){id:Nat}{ops:Array Oper}{r:ρ}{Q:Exit->Act->World->Prop}{k:Dec.K ρ}{β:Nat->Pl}{σ:St}{a:Act}{w:World}(hd:xW ops.toList 0=true)(hq:∀ e x σ' β' a' w',Sim C β' σ' a' w'->La β' w' (C.N β' σ'.h) e x->k e σ'=some r->Q x a' w')(h:lW Γ.quiet T σ.h.length ops ops.toList 0 [] σ (λ_ σ'=>k .normal σ')=some r)(hs:Sim C β σ a w):(Code.region id ops true).wp C.P Q a w:=by
 obtain⟨vs,σe,hlen,hrun,hk,hrow⟩:=Fp hΓ h;have hL:∀ i:Nat,ops[i]?=((ops.toList.zip vs)[i]?).map (·.1):=λi=>by
  rw[zip_fst hlen];simp
 refine wp_region_any hm ?_;have e:lH (ops.toList.zip vs) (Array.replicate ops.size false)=ops.toList.zip vs:=by
  unfold lH;have e1:(List.range (ops.toList.zip vs).length).filterMap (iA (ops.toList.zip vs) (Array.replicate ops.size false))=(List.range (ops.toList.zip vs).length).filterMap (λi=>(ops.toList.zip vs)[i]?):=iE λi hi=>by
   unfold iA;have:=List.mem_range.1 hi;rw[List.length_zip,hlen,Nat.min_self,Array.length_toList]at this;simp[this]
  rw[e1];exact Jw _
 refine Yy hT hΓ hd hL ?_ (λβ' a' w' hs'=>hq .normal .normal σe β' a' w' hs' rfl hk) _ _ β σ a _ (by simp) ?_ (by rw[e,List.length_zip,hlen,Nat.min_self,Array.length_toList];exact aP _) (aP _) (by rw[e];exact hrun) (hs.drawn _)
 ·intro j o u hj i x v hij hi;obtain⟨hj1,hj2⟩:=wT hj;obtain⟨hi1,hi2⟩:=wT hi;have h1:=hrow j o u hj1 hj2;rw[Nat.zero_add,List.nil_append]at h1;have h2:=Fh h1 i v x (by rw[List.getElem?_take_of_lt hij];exact hi2) (by rw[Nat.zero_add];simpa using hi1)
  rwa [Nat.zero_add]at h2
 ·intro j o ho hl;simp only[Array.getD_eq_getD_getElem?,Array.getElem?_replicate]at hl;split at hl<;>cases hl
theorem yQv{C:Ctx}(hT:bM C.P T)(hΓ:kQ C.P Γ)(hm:C.P.follows .mixedOrders=true){id:Nat}{ops:Array Oper}{r:ρ}{Q:Exit->Act->World->Prop}{k:Dec.K ρ}{β:Nat->Pl}{σ:St}{a:Act}{w:World}(hq:∀ e x σ' β' a' w',Sim C β' σ' a' w'->La β' w' (C.N β' σ'.h) e x->k e σ'=some r->Q x a' w')(h:zSu Γ T ops σ k=some r)(hs:Sim C β σ a w):(Code.region id ops true).wp C.P Q a w:=by
 unfold zSu at h;split at h
 ·rename_i hd;split at h
  case h_2 =>
   rename_i j o f args hgi;obtain⟨m,hm,hget,hgen⟩:=zLq hgi;rw[Nat.zero_add]at hm;subst hm;obtain⟨hg,ats,hop⟩:=yIz hgen;obtain⟨vs,σA,hlen,hrun,hk,hrow⟩:=Fp hΓ h;have hj:ops[j]?=some o:=by rw[<- Array.getElem?_toList];exact hget
   have hjlt:=(Array.getElem?_eq_some_iff.1 hj).1;have hvl:vs.length=j:=by rw[hlen,List.length_take,Array.length_toList];omega
   have hzl:((ops.toList.take j).zip vs).length=j:=by rw[List.length_zip,hlen,Nat.min_self,<- hlen,hvl]
   rw[List.nil_append]at hk;split at hk
   case h_2=>cases hk
   rename_i hc;simp only[aD]at hc;have hL:∀ i,i<j->ops[i]?=(((ops.toList.take j).zip vs)[i]?).map (·.1):=λi hi=>by
    rw[zip_fst hlen,List.getElem?_take_of_lt hi];simp
   have hmap:((ops.toList.take j).zip vs).map (·.2)=vs:=List.map_snd_zip (by omega);refine wp_region_any hm ?_;have hj0:(Array.replicate ops.size false).getD j true=false:=by simp[hjlt]
   have e:lH ((ops.toList.take j).zip vs) (Array.replicate ops.size false)=(ops.toList.take j).zip vs:=by
    unfold lH;have e1:(List.range ((ops.toList.take j).zip vs).length).filterMap (iA ((ops.toList.take j).zip vs) (Array.replicate ops.size false))=(List.range ((ops.toList.take j).zip vs).length).filterMap (λi=>((ops.toList.take j).zip vs)[i]?):=iE λi hi=>by
     unfold iA;have:=List.mem_range.1 hi;rw[hzl]at this;simp[show i<ops.size by omega]
    rw[e1];exact Jw _
   refine zUt (LA:=(ops.toList.take j).zip vs) hT hΓ hd hj hg hop hzl hL ?_ hc.1 ?_ (by rw[hmap];exact hk) hq _ _ β σ a _ (by simp) ?_ hj0 (by rw[e,hzl];omega) (by rw[e];exact hrun) (hs.drawn _)
   ·intro i o u hi i' x v hij hi';obtain⟨hi1,hi2⟩:=wT hi;obtain⟨xDr,yQw⟩:=wT hi';have h1:=hrow i o u hi1 hi2;rw[Nat.zero_add,List.nil_append]at h1;have hlt2:i'<j:=by
     have:=(bE.1 hi2).1;omega
    have h2:=Fh h1 i' v x (by rw[List.getElem?_take_of_lt hij];exact yQw) (by rw[Nat.zero_add,hL i' hlt2,hi'];rfl)
    rwa [Nat.zero_add]at h2
   ·intro i x u hi;obtain⟨hi1,hi2⟩:=wT hi;have hlt2:i<j:=by
     have:=(bE.1 hi2).1;omega
    have h2:=zHf hc.2 i u x hi2 (by rw[Nat.zero_add,hL i hlt2,hi];rfl)
    rwa [Nat.zero_add]at h2
   ·intro m o2 ho2 hl;simp only[Array.getD_eq_getD_getElem?,Array.getElem?_replicate]at hl;split at hl<;>cases hl
  split at h
  ·split at h
   ·rename_i e te ver rows wr hob;split at h
    ·rename_i hc;obtain⟨rfl,rfl,hpos,hr⟩:=hc;obtain⟨β',_,hs',_⟩:=Ql (e:=e) (t:=te) hs hpos;refine zUu hT hΓ hm hd hq ?_ hs';simpa using h
    ·cases h
   ·cases h
  ·exact zUu hT hΓ hm hd hq h hs
 ·cases h
end
end Go.Dec
