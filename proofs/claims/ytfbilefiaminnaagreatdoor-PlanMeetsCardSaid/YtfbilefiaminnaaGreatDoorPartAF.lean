/- Part of a proof over this seat: a library of my own, and what it says of this seat. No statement is proved here. -/
import Derived.Test.YtfbilefiaminnaaGreatDoorPartAE
import Derived.Lib.ConvBytes
import Derived.Lib.AppendStr
import Derived.Laws.BytesArg
import Derived.Tactics
import Derived.Scope
import Derived.Orders
namespace Go.Dec
open Go.Lib
def sW(σ:St)(te:Ty):List (Nat × Operand)->List te.den->Option (List te.den)
 |[],xs=>some xs
 |(i,x)::r,xs =>
  match (ovl σ x).leaves with
  |some ls =>
   match dS te ls with
   |some (y,[])=>match Nat.blt i xs.length with
    |true=>sW σ te r (xs.set i y)
    |false=>none
   |_=>none
  |none=>none
def zJv(T:Tab)(t:TypeId):Option (TypeId × TypeId × TI):=
 match elemTy T t with
 |some (e,te,ti)=>
  if te=FrT then
   match ti.k with
   |.struct [_,_,(_,t2),_]=>match T.get t2 with
    |some s2=>match s2.k with
     |.slice ei=>some (e,ei,ti)
     |_=>none
    |none=>none
   |_=>none
  else none
 |none=>none
theorem zPf{T:Tab}{t e ei:TypeId}{ti:TI}(h:zJv T t=some (e,ei,ti)):elemTy T t=some (e,FrT,ti):=by
 unfold zJv at h;split at h
 ·rename_i e' te ti' het;split at h
  ·rename_i hte;subst hte;split at h
   ·split at h
    ·split at h
     ·simp only[aA,aB]at h;obtain⟨rfl,_,rfl⟩:=h;exact het
     ·cases h
    ·cases h
   ·cases h
  ·cases h
 ·cases h
def Hu (σ:St):List (Nat×Operand)->Bool | []=>true | p :: r=>zPd (ovl σ p.2)&&Hu σ r
theorem zPg{σ:St}:∀ {ps:List (Nat × Operand)},Hu σ ps=true->∀ p∈ps,zPd (ovl σ p.2)=true
 |_::_,h,_,.head _=>by simp only[Hu,aD]at h;exact h.1
 |_::_,h,p,.tail _ hp=>by simp only[Hu,aD]at h;exact zPg h.2 p hp
def zXw(T:Tab)(σ:St)(t:TypeId)(n:Nat)(parts:Array (Nat × Operand)):Option (Bool × V × List Ob):=
 match zJv T t with
 |some (e,ei,_)=>
  if(Nat.beq n parts.size&&Nat.ble (n*4) 16777216)&&Hu σ parts.toList then
   match elems σ FrT 0 parts.toList with
   |some ys=>some (true,.one (.own σ.h.length 0),σ.h++[.stk e ei 0 ys none])
   |none=>none
  else none
 |none=>none
def Vb(T:Tab)(σ:St)(args:Array Operand)(ats:Array TypeId):Option (Bool × V × List Ob):=
 match args.toList,ats.toList with
 |[s,x],[t,_]=>
  match zJv T t,ovl σ s,ovl σ x with
  |some (e,_,ti),.one (.own id1 u1),.one (.own id2 u2)=>
   match σ.h[id1]?,σ.h[id2]? with
   |some (.stk e1 i1 v1 gQ none),some (.stk e2 i2 v2 gT none)=>
    if e1=e/\e2=e/\i1=i2/\id1≠id2 then
     some (Nat.beq v1 u1&&(Nat.beq v2 u2&&Nat.ble ((gQ.length+gT.length)*ti.bytes) room),.one (.own id1 (v1+1)),(σ.h.set id1 (.stk e i1 (v1+1) (gQ++gT) none)).set id2 (.stk e i1 (v2+1) [] none))
    else none
   |_,_=>none
  |_,_,_=>none
 |_,_=>none
def isX(T:Tab)(o:Oper):Bool :=
 match o.op with
 |.unOp .xor _ _=>true
 |.build t _=>match T.get t with
  |some ti=>match ti.k with|.arr .. => true|_=>false
  |none=>false
 |.index t _ _=>match T.get t with
  |some ti=>match ti.k with|.arr .. => true|_=>false
  |none=>false
 |.convert s d _=>match T.get s,T.get d with
  |some ts,some td=>match ts.k,td.k with
   |.slice _,.str=>true
   |.str,.slice _=>true
   |_,_=>false
  |_,_=>false
 |.field .. => true
 |.makeInterface .. => match T.get o.type with
  |some tt=>match tt.k with|.iface true=>true|_=>false
  |none=>false
 |.typeAssert .. => true
 |_=>false
def isS(T:Tab)(o:Oper):Bool :=
 match o.op with
 |.buildSlice t _ _=>(zJv T t).isSome
 |.call { callee:=.builtin .append,argTypes,.. }=>match argTypes.toList with
  |[t,t']=>Nat.beq t t'&&(zJv T t).isSome
  |_=>false
 |_=>false
def Tw(T:Tab)(σ:St)(o:Oper):Option (Bool × V × List Ob):=
 match o.op with
 |.buildSlice t n parts=>zXw T σ t n parts
 |.call { callee:=.builtin .append,args,argTypes }=>match argTypes.toList with
  |[t,t']=>match Nat.beq t t' with
   |true=>Vb T σ args argTypes
   |false=>none
  |_=>none
 |_=>none
def isIf (t:TypeId):Value->Bool | .iface u _=>Nat.beq u t | _=>false
def yIe (t:TypeId):Value->Bool | .iface _ (.string _)=>true | .iface u _=>!Nat.beq u t | .nilIface=>true | _=>false
def zXx(t:TypeId):Value->List UInt8
 |.iface u (.string s)=>if Nat.beq u t then s.data.toList else []
 |_=>[]
def zXy(k:IntKind)(t:TypeId):Value->Bool
 |.iface u (.int k' _)=>decide (k'=k)||!Nat.beq u t
 |.iface u _=>!Nat.beq u t
 |.nilIface=>true
 |_=>false
def zXz(t:TypeId):Value->Int
 |.iface u (.int _ n)=>if Nat.beq u t then n else 0
 |_=>0
def xFw(ls:List L):Option (Nat × (te:Ty) × List te.den):=
 match ls with
 |[.val (.arr n te) xs]=>some (n,⟨te,xs⟩)
 |_=>none
def bN (ys:List Int):List UInt8:=ys.map fun n=>UInt8.ofNat n.toNat
def Tx(T:Tab)(σ:St)(o:Oper):Option (Bool × V × List Ob):=
 match o.op with
 |.unOp .xor _ x=>match ovl σ x with
  |.one (.val (.int k) n)=>some (true,.one (.val (.int k) (gG k .xor (if k.signed then -1 else k.max) n)),σ.h)
  |_=>none
 |.build t parts=>match T.get t with
  |some ti=>match ti.k with
   |.arr n e=>match T.get e,ti.zls with
    |some te,[.val (.arr m ty) xs]=>if te.size=ty.size/\m=n then
     match sW σ ty parts.toList xs with
     |some ys=>some (true,.agg [.val (.arr m ty) ys],σ.h)
     |none=>none
     else none
    |_,_=>none
   |_=>none
  |none=>none
 |.index t x i=>match T.get t,ovl σ x,qL (ovl σ i)with
  |some ti,.agg [.val (.arr m ty) xs],some (_,j)=>match ti.k with
   |.arr n e=>match T.get e with
    |some te=>if te.size=ty.size/\m=n/\te.k.isAgg=ty.isAgg then
     match ty.isAgg with
     |true=>some (inB j n,.agg (explode ty (aV ty.dflt xs j)),σ.h)
     |false=>some (inB j n,.one (.val ty (aV ty.dflt xs j)),σ.h)
     else none
    |none=>none
   |_=>none
  |_,_,_=>none
 |.convert s d x=>match T.get s,T.get d,ovl σ x with
  |some ts,some td,.one l=>match ts.k,td.k with
   |.slice e,.str=>match T.get e with
    |some te=>match te.k with
     |.int .u8=>match rowsOf σ.h (.int .u8) l with
      |some (c,ys)=>some (c,.one (.val .str (bN ys)),σ.h)
      |none=>none
     |_=>none
    |none=>none
   |.str,.slice e=>match T.get e,l with
    |some te,.val .str s=>match te.k with
     |.int .u8=>some (Nat.ble s.length room,.one (.val (.slice (.int .u8)) (eG s)),σ.h)
     |_=>none
    |_,_=>none
   |_,_=>none
  |_,_,_=>none
 |.field s x f=>match T.get s,ovl σ x with
  |some ti,.agg ls=>match ti.k with
   |.struct fs=>match fs[f]? with
    |some (off,ft)=>match T.get ft with
     |some tf=>match Ba ls off tf.size with
      |some c=>match mkV tf.k.isAgg c with
       |some v=>some (true,v,σ.h)
       |none=>none
      |none=>none
     |none=>none
    |none=>none
   |_=>none
  |_,_=>none
 |.makeInterface t x=>match T.get t,T.get o.type,ovl σ x with
  |some ti,some tt,.one (.val .str s)=>match ti.k,tt.k with
   |.str,.iface true=>some (true,.one (.val .opq (.iface t (.string ⟨s.toArray⟩))),σ.h)
   |_,_=>none
  |some ti,some tt,.one (.val (.int k) n)=>match ti.k,tt.k with
   |.int _,.iface true=>some (true,.one (.val .opq (.iface t (.int k n))),σ.h)
   |_,_=>none
  |_,_,_=>none
 |.typeAssert x _ t true=>match T.get t,ovl σ x with
  |some ti,.one (.val .opq v)=>match ti.k,ti.zls with
   |.str,[.val .str []]=>some (yIe t v,.tup [.inl (.val .str (zXx t v)),.inl (.val .bool (isIf t v))],σ.h)
   |.int k,[.val (.int k') 0]=>if k'=k then some (zXy k t v,.tup [.inl (.val (.int k) (zXz t v)),.inl (.val .bool (isIf t v))],σ.h)else none
   |_,_=>none
  |_,_=>none
 |_=>none
def nG(T:Tab)(σ:St)(o:Oper):Option (Bool × V × List Ob):=
 match isM o with
 |true=>stepM T σ o
 |false =>
  match isX T o with
  |true=>Tx T σ o
  |false=>match isS T o with
   |true=>Tw T σ o
   |false=>gL T σ o
theorem zLl{α:Type}{n:Nat}:∀ (css:List (List α)) (i:Nat) (c:List α),(∀ d∈css,d.length=n)->c.length=n->i<css.length->(css.set i c).flatten=css.flatten.take (i*n)++c++css.flatten.drop (i*n+n)
 |[],i,c,_,_,h=>by simp at h
 |d::css,0,c,hd,hc,_=>by
  have h1:=hd d (.head _);simp only[List.set_cons_zero,List.flatten_cons,Nat.zero_mul,List.take_zero,List.nil_append,Nat.zero_add];rw[List.drop_left' h1]
 |d::css,i+1,c,hd,hc,h=>by
  have h1:=hd d (.head _);have ih:=zLl css i c (λe he=>hd e (.tail _ he)) hc (by simpa using h);simp only[List.set_cons_succ,List.flatten_cons,ih];have e1:(i+1)*n=d.length+i*n:=by rw[h1,Nat.succ_mul];omega
  rw[e1,List.take_length_add_append,Nat.add_assoc,List.drop_length_add_append];simp
section
variable {β:Nat->Pl}
variable {w:World}
variable {T:Tab}
variable {C:Ctx}
theorem zFj{σ:St}{a:Act}{te:Ty}(hs:Sim C β σ a w):∀ {ps:List (Nat × Operand)}{xs ys:List te.den}{css:List (List Value)}{cs:Array Value},sW σ te ps xs=some ys ->
 bD (λx c=>te.Rel w (C.N β σ.h) x c) xs css->cs.toList=css.flatten ->
 ∃ (Vn:List (List Value)) (cs':Array Value),Instr.fill (λi=>some (i*te.size,te.size)) cs (ps.map λp=>(p.1,a.eval p.2))=some cs'/\cs'.toList=Vn.flatten/\bD (λx c=>te.Rel w (C.N β σ.h) x c) ys Vn/\ys.length=xs.length
 |[],xs,ys,css,cs,h,hr,hc=>by
  simp only[sW,aA]at h;subst h;exact⟨css,cs,rfl,hc,hr,rfl⟩
 |(i,x)::ps,xs,ys,css,cs,h,hr,hc=>by
  simp only[sW]at h;split at h
  ·rename_i ls hls;split at h
   ·rename_i y hy;split at h
    ·rename_i hi;have hi:i<xs.length:=bR hi;have hx:=oU hy (V.Ku hls (aY hs x));have hl:=jJ hr;have hcl:css.length=xs.length:=hr.length.symm;have hlen:(a.eval x).cells.size=te.size:=by simpa using hx.length
     have hfl:cs.size=css.length*te.size:=by
      have:cs.toList.length=css.flatten.length:=by rw[hc]
      rw[cB css hl]at this;simpa using this
     have hfit:i*te.size+te.size<=cs.size:=by
      rw[hfl,<- Nat.succ_mul];exact Nat.mul_le_mul_right _ (by omega)
     have hset:=zLl css i (a.eval x).cells.toList hl (by simpa using hlen) (by omega);obtain⟨Vn,cs',h1,h2,h3,h4⟩:=zFj hs (css:=css.set i (a.eval x).cells.toList) (cs:=(cs.toList.take (i*te.size)++(a.eval x).cells.toList++cs.toList.drop (i*te.size+te.size)).toArray) h (hr.set i hx) (by rw[hset,hc]);refine⟨Vn,cs',?_,h2,h3,by rw[h4,List.length_set]⟩;rw[List.map_cons,zGr _ cs i (i*te.size) te.size _ _ rfl hlen hfit];exact h1
    ·cases h
   ·cases h
  ·cases h
theorem zSn{N:Nat->Nat->Prop}:∀ {ys:List Int}{css:List (List Value)},bD (λx c=>(Ty.int .u8).Rel w N x c) ys css->css.flatten=ys.map (Value.int .u8)
 |[],[],_=>rfl
 |y::ys,c::css,h=>by
  obtain⟨h1,h2⟩:=h;simp only[Ty.Rel]at h1;subst h1;simp[zSn h2]
 |[],_::_,h=>h.elim
 |_::_,[],h=>h.elim
theorem yPy{P:Program}{N:Nat->Nat->Prop}{t:TypeId}{ti:TI}(h:qZ P t ti){off:Nat}{c:List L}{cs:List Value}{v:V}(hl:aG β w N c ((cs.drop off).take ti.size))(hs:off+ti.size<=cs.length)(hv:mkV ti.k.isAgg c=some v):∃ x,(part t cs.toArray off).run P w=.ok x w/\v.Rel β w N x:=by
 cases ha:ti.k.isAgg with
 |true =>
  rw[ha]at hv;simp only[mkV,aA]at hv;subst hv;refine⟨.agg (cs.toArray.extract off (off+ti.size)),?_,⟨(cs.drop off).take ti.size,?_,hl⟩⟩
  ·simp only[part,Sem.run_bind,h.isAgg,Result.andThen_ok,ha,if_true,h.sizeOf,Sem.run_pure]
  ·congr 1;apply Array.toList_inj.1;simp only[Array.toList_extract,List.extract_eq_take_drop];rw[show off+ti.size-off=ti.size by omega]
 |false =>
  rw[ha]at hv;match c,hv with
  |[l],hv =>
   simp only[mkV,aA]at hv;subst hv;have hone:ti.size=1:=by
    obtain⟨i,z,_,hsz,_,_,_,hz,hag⟩:=h.i;rw[ha]at hag;rw[<- hsz,<- hz];cases z<;>first|rfl|simp[Qk]at hag
   rw[hone]at hl hs;obtain⟨c1,c2,e,h1,h2⟩:=hl;simp only[aG]at h2;subst h2;rw[List.append_nil]at e;have hlt:off<cs.length:=by omega
   have e2:(cs.drop off).take 1=[cs[off]]:=by rw[List.drop_eq_getElem_cons hlt];rfl
   rw[e2]at e;subst e;refine⟨cs[off],?_,h1⟩;simp only[part,Sem.run_bind,h.isAgg,Result.andThen_ok,ha,Bool.false_eq_true,if_false,List.getElem?_toArray,List.getElem?_eq_getElem hlt,Sem.run_pure]
theorem yMm{σ:St}{a:Act}{o:Oper}{v:V}{h':List Ob}(hT:bM C.P T)(hs:Sim C β σ a w)(h:Tx T σ o=some (true,v,h')):After C β σ a w o v h':=by
 unfold Tx at h;split at h
 ·rename_i _ x ho;have hx:=aY hs x;split at h
  ·rename_i k n hov;rw[hov]at hx;simp only[aA,aB,true_and]at h;obtain⟨rfl,rfl⟩:=h;simp only[V.Rel,L.Rel,Ty.Rel,aJ,and_true]at hx;refine After.read hs ⟨.int k (gG k .xor (if k.signed then -1 else k.max) n),?_,by simp only[V.Rel,L.Rel,Ty.Rel]⟩;simp only[execOp,ho];refine fI ?_;rw[hx];simp only[Op.unary,Op.intBits,gG,Sem.run_pure]
  ·cases h
 ·rename_i t parts ho;split at h
  ·rename_i ti hti;split at h
   ·rename_i n e hk;split at h
    ·rename_i tie m ty xs hte hz;split at h
     ·rename_i hc;obtain⟨hsz,rfl⟩:=hc;split at h
      ·rename_i ys hys;simp only[aA,aB,true_and]at h;obtain⟨rfl,rfl⟩:=h;have hok:=hT _ _ hti;have hu:=hok.arr hk;obtain⟨_,z,hi,his,hib,hzz,sV,hzs,yHy⟩:=hok.i;have hz0:=sV β w (C.N β σ.h);rw[hz]at hz0;obtain⟨c1,c2,ec,hr,h0⟩:=hz0;simp only[aG]at h0;subst h0;rw[List.append_nil]at ec;simp only[L.Rel,Ty.Rel]at hr;obtain⟨hxl,css,ec1,hall⟩:=hr;obtain⟨Vn,cs',h1,h2,h3,h4⟩:=zFj hs (cs:=z.cells) hys hall (by rw[ec,ec1]);refine After.read hs ⟨.agg cs',?_,?_⟩
       ·have hzv:(zeroValue t).run C.P w=.ok z w:=by simp[zeroValue,typeInfo,hi,hzz]
        simp only[execOp,ho];refine fI ?_;simp only[Instr.build,Sem.run_bind,hzv,Result.andThen_ok,run_underlying hu,(hT _ _ hte).sizeOf,hsz,Array.toList_map];rw[h1];rfl
       ·exact⟨cs'.toList,rfl,aG.yVv (by simp only[L.Rel,Ty.Rel];exact⟨by rw[h4,hxl],Vn,h2,h3⟩)⟩
      ·cases h
     ·cases h
    ·cases h
   ·cases h
  ·cases h
 ·rename_i t x i ho;split at h
  ·rename_i ti m ty xs k j hti hx hi;split at h
   ·rename_i n e hk;split at h
    ·rename_i te hte;split at h
     ·rename_i hc;obtain⟨hsz,rfl,hagg⟩:=hc;have hok:=hT _ _ hti;have hu:=hok.arr hk;have hxr:=aY hs x;rw[hx]at hxr;obtain⟨cs,ex,c1,c2,ec,hr,h0⟩:=hxr;simp only[aG]at h0;subst h0;rw[List.append_nil]at ec;subst ec;simp only[L.Rel,Ty.Rel]at hr;obtain⟨hxl,css,ec1,hall⟩:=hr;have hl:=jJ hall;have iv:=iK hi (aY hs i);have key:inB j m=true->∃ (h2:j.toNat<xs.length) (h3:j.toNat<css.length),ty.Rel w (C.N β σ.h) (aV ty.dflt xs j) css[j.toNat]/\(cs.drop (j.toNat*ty.size)).take ty.size=css[j.toNat]/\0<=j/\j<(m:Int)/\j.toNat*ty.size+ty.size<=cs.length:=by
       intro hb;obtain⟨g0,g1,g2⟩:=Dm hb;have h2:j.toNat<xs.length:=by omega
       have h3:j.toNat<css.length:=by rw[<- hall.length];exact h2
       refine⟨h2,h3,?_,?_,g0,g1,?_⟩
       ·have:=hall.get j.toNat h2 h3;simpa [aV,List.getD_eq_getElem?_getD,h2]using this
       ·rw[ec1,oP css hl,List.drop_eq_getElem_cons h3,List.flatten_cons,List.take_left' (hl _ (List.getElem_mem h3))]
       ·rw[ec1,cB css hl,<- Nat.succ_mul];exact Nat.mul_le_mul_right _ (by omega)
      obtain⟨ie,ze,hie,xGd,xGe,xGf,xFx,xGg,xGh⟩:=(hT _ _ hte).i;have yMn:(isAgg e).run C.P w=.ok te.k.isAgg w:=by
       obtain⟨d,hd,hdk⟩:=(hT _ _ hte).und;simp only[isAgg,Sem.run_bind,run_underlying hd,Result.andThen_ok,<- hdk];cases d<;>rfl
      split at h
      ·rename_i hag;simp only[aA,aB]at h;obtain⟨hb,rfl,rfl⟩:=h;obtain⟨h2,h3,hrel,hcut,g0,g1,g2⟩:=key hb;refine After.read hs ⟨.agg (cs.toArray.extract (j.toNat*ty.size) (j.toNat*ty.size+ty.size)),?_,?_⟩
       ·simp only[execOp,ho];refine fI ?_;rw[iv,ex];simp only[Instr.index,asIntOf,Sem.run_bind,Sem.run_pure,Result.andThen_ok,run_underlying hu,g0,g1,and_self,if_true,(hT _ _ hte).sizeOf,part,yMn,hagg,hag,hsz]
       ·refine⟨css[j.toNat],?_,lC hrel⟩;congr 1;apply Array.toList_inj.1;simp only[Array.toList_extract,List.extract_eq_take_drop];rw[show j.toNat*ty.size+ty.size-j.toNat*ty.size=ty.size by omega,hcut]
      ·rename_i hag;simp only[aA,aB]at h;obtain⟨hb,rfl,rfl⟩:=h;obtain⟨h2,h3,hrel,hcut,g0,g1,g2⟩:=key hb;have hone:ty.size=1:=by cases ty<;>first|rfl|cases hag
       have hcl:css[j.toNat].length=1:=by rw[hrel.length,hone]
       obtain⟨u,hu1⟩:∃ u,css[j.toNat]=[u]:=List.length_eq_one_iff.1 hcl;rw[hu1,hone,Nat.mul_one]at hcut;have hget:cs[j.toNat]?=some u:=by
        have:(cs.drop j.toNat).take 1=[u]:=hcut;have h5:((cs.drop j.toNat).take 1)[0]?=some u:=by rw[this];rfl
        rw[List.getElem?_take,if_pos (by omega),List.getElem?_drop]at h5;simpa using h5
       rw[hu1]at hrel;refine After.read hs ⟨u,?_,by simp only[V.Rel,L.Rel];exact hrel⟩;simp only[execOp,ho];refine fI ?_;rw[iv,ex];simp only[Instr.index,asIntOf,Sem.run_bind,Sem.run_pure,Result.andThen_ok,run_underlying hu,g0,g1,and_self,if_true,(hT _ _ hte).sizeOf,part,yMn,hagg,hag,hsz,hone,Nat.mul_one,Bool.false_eq_true,if_false,List.getElem?_toArray,hget]
     ·cases h
    ·cases h
   ·cases h
  ·cases h
 ·rename_i s d x ho;split at h
  ·rename_i ts td l hts htd hl;have hx:=aY hs x;rw[hl]at hx;split at h
   ·rename_i e hks hkd;split at h
    ·rename_i te hte;split at h
     ·rename_i hke;split at h
      ·rename_i c ys hys;simp only[aA,aB]at h;obtain⟨rfl,rfl,rfl⟩:=h;have hy:=Fb hs.heap hys (show l.Rel β w (C.N β σ.h) [a.eval x]from hx);have hus:=(hT _ _ hts).slice hks;have hue:=(hT _ _ hte).int hke;have hud:=(hT _ _ htd).str hkd;refine After.read hs ⟨.string ⟨(bN ys).toArray⟩,?_,by simp only[V.Rel,L.Rel,Ty.Rel]⟩;simp only[execOp,ho];refine fI ?_;have fin:∀ b off cap,a.eval x=.slice (some ⟨b,off,none⟩) ys.length cap->(∀ j u,(ys.map (Value.int .u8))[j]?=some u->w.cell? ⟨b,off+j,none⟩=some u)->(convert s d (a.eval x)).run C.P w=.ok (.string ⟨(bN ys).toArray⟩) w:=by
        intro b off cap hv hcells;rw[hv,run_convert_bytes_arg (P:=C.P) w s e hus hue b off ys.length cap ys rfl (λi hi=>hcells i _ (by simp[List.getD_eq_getElem?_getD,hi])) d hud];simp[strOfNums,bN]
       rcases hy with ⟨hv,rfl⟩|⟨b,off,cap,css,hv,_,hall,hcs⟩|⟨a0,cap,hv,rfl⟩
       ·rw[hv,run_convert_bytes_nil (P:=C.P) w s e hus hue 0 0 d hud];rfl
       ·exact fin b off cap hv (by rw[<- zSn hall];exact hcs)
       ·obtain⟨b,off,wk⟩:=a0;rw[hv,run_convert_bytes_string w s d e _ 0 cap hus hue hud];simp[Conv.bytesToString,loadCells,loadCellsFrom,bN];rfl
      ·cases h
     ·cases h
    ·cases h
   ·rename_i e hks hkd;split at h
    ·rename_i te s0 hte;split at h
     ·rename_i hke;simp only[aA,aB]at h;obtain⟨hroom,rfl,rfl⟩:=h;have hus:=(hT _ _ hts).str hks;have hue:=(hT _ _ hte).int hke;have hud:=(hT _ _ htd).slice hkd;simp only[V.Rel,L.Rel,Ty.Rel,aJ,and_true]at hx;have hroom:=bR hroom;unfold room at hroom
      let bs:ByteArray:=⟨s0.toArray⟩
      have hbs:bs.size=s0.length:=by simp[bs,ByteArray.size]
      have hge:=grownCap_ge w bs.size 0 e;have hcm:=grownCap_le_maxLen w bs.size 0 e (by simp only[maxLen];omega);have hkk:Keep (λ_ _=>False) w (bytesWorld w e bs):=Keep.mP (M:=λ_=>False) (by rw[bytesWorld_size];omega) (λb hb _=>bytesWorld_at_old w e bs b hb) (λ_ _ h=>h);have hrun:(convert s d (a.eval x)).run C.P w=.ok (.slice (some ⟨w.heap.size,0,none⟩) bs.size (grownCap w bs.size 0 e)) (bytesWorld w e bs):=by
       rw[hx];exact Go.Lib.run_convert_string_bytes w s d e bs hus hud hue
      have hN:∀ b j,C.N β σ.h b j->b<w.heap.size:=λb j hb=>by
       rcases hb with hb|⟨id,o,ho,_,hbk⟩
       ·exact Nat.lt_of_lt_of_le (hs.heap.n0 b j hb) hs.heap.size
       ·exact(hs.heap.eY id o b ho ⟨j,hbk⟩).2.1
      have hfr:∀ (id:Nat) (o:Ob) (b:Nat),σ.h[id]?=some o->o.blks (β id) b->(bytesWorld w e bs).heap[b]?=w.heap[b]?:=λid o b ho hb=>hkk.block b (hs.heap.eY id o b ho hb).2.1 (λ_ h=>h)
      refine⟨β,bytesWorld w e bs,_,.slice (some ⟨w.heap.size,0,none⟩) bs.size (grownCap w bs.size 0 e),?_,.inl rfl,Moves.refl β,hkk.weaken λ_ _ h=>h.elim,?_,?_⟩
      ·simp only[execOp,ho,Sem.run_bind,hrun,Result.andThen_ok,Sem.run_pure]
      ·refine⟨⟨λid o ho=>(hs.heap.obj id o ho).mono (Moves.refl β) (hkk.weaken λ_ _ h=>h.elim) (λ_ _ _ h=>h) λb hb=>hfr id o b ho hb,hs.heap.dead,hs.heap.kR,λid o b ho hb=>?_,hs.heap.n0,hs.heap.frame.tN hkk λ_ _ _ h=>h.elim,Nat.le_trans hs.heap.size hkk.size,?_,?_,?_,hs.heap.fixed⟩,hs.defers,hs.size,λi u hu=>(hs.reg i u hu).mono (Moves.refl β) (hkk.weaken λ_ _ h=>h.elim) λ_ _ _ h=>h⟩
       ·obtain⟨k1,k2,k3⟩:=hs.heap.eY id o b ho hb;exact⟨k1,Nat.lt_of_lt_of_le k2 hkk.size,k3⟩
       ·exact(show(bytesWorld w e bs).os=w.os from rfl).trans hs.heap.os
       ·exact(show(bytesWorld w e bs).tape=w.tape from rfl).trans hs.heap.tape
       ·exact(show(bytesWorld w e bs).output=w.output from rfl).trans hs.heap.output
      ·simp only[V.Rel,L.Rel,Ty.Rel];have hsl:(eG s0).length=bs.size:=by simp[eG,hbs]
       refine⟨_,rfl,.inr (.inl ⟨w.heap.size,0,grownCap w bs.size 0 e,(eG s0).map λn=>[Value.int .u8 n],by rw[hsl],by rw[bytesWorld_size];omega,λj _ _ hn=>?_,by rw[hsl];exact hge,hcm,?_,?_,?_⟩)⟩
       ·have:=hN _ _ hn;omega
       ·exact zZi (λn=>by simp only) _
       ·intro c hc;obtain⟨n,_,rfl⟩:=List.mem_map.1 hc;rfl
       ·intro j u hj;rw[Nat.zero_add];have hj2:j<s0.length:=by
         have:((eG s0).map λn=>[Value.int .u8 n]).flatten.length=s0.length:=by rw[cB (n:=1) _ (λc hc=>by obtain⟨n,_,rfl⟩:=List.mem_map.1 hc;rfl)];simp[eG]
         rw[<- this];exact(bE.1 hj).1
        have e1:((eG s0).map λn=>[Value.int .u8 n]).flatten=(eG s0).map (Value.int .u8):=by
         generalize eG s0=l;induction l with
         |nil=>rfl
         |cons a l ih=>simp[ih]
        rw[e1]at hj;rw[bytesWorld_cell w e bs j (by rw[hbs];exact hj2)];simp only[eG,List.map_map,List.getElem?_map,List.getElem?_eq_getElem hj2,Option.map_some,aA,Function.comp]at hj;simp[bs,List.getD_eq_getElem?_getD,hj2,<- hj]
     ·cases h
    ·cases h
   ·cases h
  ·cases h
 ·rename_i s x f ho;have hx:=aY hs x;split at h
  ·rename_i ti ls hti hl;rw[hl]at hx;split at h
   ·rename_i fs hk;split at h
    ·rename_i off ft hf;split at h
     ·rename_i tf htf;split at h
      ·rename_i c hc;split at h
       ·rename_i v0 hv;simp only[aA,aB,true_and]at h;obtain⟨rfl,rfl⟩:=h;obtain⟨cs,ex,hls⟩:=hx;obtain⟨hr,hle⟩:=wX hc hls;have hok:=hT _ _ hti;have hok2:=hT _ _ htf;obtain⟨ff,hu,hfs⟩:=hok.struct hk;subst hfs;rw[List.getElem?_map]at hf;cases hfe:ff.toList[f]? with
        |none=>rw[hfe]at hf;cases hf
        |some fe =>
         rw[hfe]at hf;simp only[Option.map_some,aA,aB]at hf;obtain⟨rfl,rfl⟩:=hf;have xDh:ff[f]?=some fe:=by rw[<- Array.getElem?_toList];exact hfe
         obtain⟨u,h1,h2⟩:=yPy (P:=C.P) hok2 (off:=fe.offset) hr hle hv;refine After.read hs ⟨u,?_,h2⟩;simp only[execOp,ho];refine fI ?_;rw[ex];simp only[Instr.field,Sem.run_bind,run_underlying hu,Result.andThen_ok,xDh,asAgg,Sem.run_pure];exact h1
       ·cases h
      ·cases h
     ·cases h
    ·cases h
   ·cases h
  ·cases h
 ·rename_i t x ho;have hx:=aY hs x;split at h
  ·rename_i ti tt s hti htt hl;rw[hl]at hx;split at h
   ·rename_i hk hk2;simp only[aA,aB,true_and]at h;obtain⟨rfl,rfl⟩:=h;have hu:=(hT _ _ hti).str hk;simp only[V.Rel,L.Rel,Ty.Rel,aJ,and_true]at hx;refine After.read hs ⟨.iface t (.string ⟨s.toArray⟩),?_,by simp[V.Rel,L.Rel,Ty.Rel,Value.oneCell']⟩;simp only[execOp,ho];refine fI ?_;rw[hx];simp only[Instr.makeInterface,Sem.run_bind,run_underlying hu,Result.andThen_ok,Sem.run_pure]
   ·cases h
  ·rename_i ti tt k n hti htt hl;rw[hl]at hx;split at h
   ·rename_i k2 hk hk2;simp only[aA,aB,true_and]at h;obtain⟨rfl,rfl⟩:=h;have hu:=(hT _ _ hti).int hk;simp only[V.Rel,L.Rel,Ty.Rel,aJ,and_true]at hx;refine After.read hs ⟨.iface t (.int k n),?_,by simp[V.Rel,L.Rel,Ty.Rel,Value.oneCell']⟩;simp only[execOp,ho];refine fI ?_;rw[hx];simp only[Instr.makeInterface,Sem.run_bind,run_underlying hu,Result.andThen_ok,Sem.run_pure]
   ·cases h
  ·cases h
 ·rename_i x xt t ho;have hx:=aY hs x;split at h
  ·rename_i ti v0 hti hl;rw[hl]at hx;simp only[V.Rel,L.Rel,Ty.Rel,aJ,and_true]at hx;obtain⟨_,z,hi,his,hib,hzz,sV,hzs,yHy⟩:=(hT _ _ hti).i;have hzv:(zeroValue t).run C.P w=.ok z w:=by simp[zeroValue,typeInfo,hi,hzz]
   have hz0:=sV β w (C.N β σ.h);have hzc:Qk z=false->∀ c,z.cells.toList=[c]->z=c:=λhz c hc=>by
    cases z<;>simp_all[Qk,Value.cells]
   split at h
   ·rename_i hk hz;simp only[aA,aB]at h;obtain⟨hok,rfl,rfl⟩:=h;have hu:=(hT _ _ hti).str hk;rw[hz]at hz0;obtain⟨c1,c2,ec,hr,h0⟩:=hz0;simp only[aG]at h0;subst h0;simp only[L.Rel,Ty.Rel]at hr;subst hr;obtain rfl:=hzc (by rw[<- yHy,hk];rfl) _ (by simpa using ec);refine After.read hs ⟨.tuple #[.string ⟨(zXx t v0).toArray⟩,.bool (isIf t v0)],?_,⟨[_,_],rfl,by simp only[jH,L.Rel,Ty.Rel],by simp only[jH,L.Rel,Ty.Rel],trivial⟩⟩;simp only[execOp,ho];refine fI ?_;rw[hx.1];simp only[Instr.typeAssert,Sem.run_bind,run_underlying hu,Result.andThen_ok];cases v0 with
    |nilIface=>simp only[if_true,Sem.run_bind,hzv,Result.andThen_ok,Sem.run_pure];try rfl
    |iface u p =>
     simp only;by_cases hut:u=t
     ·subst hut;rw[if_pos rfl];cases p<;>first|(simp[yIe]at hok;done)|skip
      simp only[if_true,Sem.run_pure,zXx,isIf,Nat.beq_refl];try rfl
     ·rw[if_neg hut];have hb:Nat.beq u t=false:=by
       cases h:Nat.beq u t with
       |false=>rfl
       |true=>exact absurd (aK h) hut
      simp only[if_true,Sem.run_bind,hzv,Result.andThen_ok,Sem.run_pure,isIf,hb];cases p<;>simp[zXx,hb]
    |_=>simp[yIe]at hok
   ·rename_i k k' hk hz;split at h
    ·rename_i hkk;subst hkk;simp only[aA,aB]at h;obtain⟨hok,rfl,rfl⟩:=h;have hu:=(hT _ _ hti).int hk;rw[hz]at hz0;obtain⟨c1,c2,ec,hr,h0⟩:=hz0;simp only[aG]at h0;subst h0;simp only[L.Rel,Ty.Rel]at hr;subst hr;obtain rfl:=hzc (by rw[<- yHy,hk];rfl) _ (by simpa using ec);refine After.read hs ⟨.tuple #[.int k' (zXz t v0),.bool (isIf t v0)],?_,⟨[_,_],rfl,by simp only[jH,L.Rel,Ty.Rel],by simp only[jH,L.Rel,Ty.Rel],trivial⟩⟩;simp only[execOp,ho];refine fI ?_;rw[hx.1];simp only[Instr.typeAssert,Sem.run_bind,run_underlying hu,Result.andThen_ok];cases v0 with
     |nilIface=>simp only[if_true,Sem.run_bind,hzv,Result.andThen_ok,Sem.run_pure];try rfl
     |iface u p =>
      simp only;by_cases hut:u=t
      ·subst hut;rw[if_pos rfl];cases p<;>first|(simp[zXy]at hok;done)|skip
       simp[zXy]at hok;subst hok;simp only[if_true,Sem.run_pure,zXz,isIf,Nat.beq_refl]
      ·rw[if_neg hut];have hb:Nat.beq u t=false:=by
        cases h:Nat.beq u t with
        |false=>rfl
        |true=>exact absurd (aK h) hut
       simp only[if_true,Sem.run_bind,hzv,Result.andThen_ok,Sem.run_pure,isIf,hb];cases p<;>simp[zXz,hb]
     |_=>simp[zXy]at hok
    ·cases h
   ·cases h
  ·cases h
 ·cases h
where
 aG.yVv {l:L}{cs:List Value}{N:Nat->Nat->Prop}(h:l.Rel β w N cs):aG β w N [l] cs:=⟨cs,[],by simp,h,rfl⟩
 zZi {γ δ:Type}{R:γ->δ->Prop}{f:γ->δ}(h:∀ x,R x (f x)):∀ l:List γ,bD R l (l.map f)
  |[]=>trivial
  |a::l=>⟨h a,zZi h l⟩
theorem yMo{σ:St}{a:Act}{o:Oper}{v:V}{h':List Ob}(hT:bM C.P T)(hs:Sim C β σ a w)(h:Tw T σ o=some (true,v,h')):After C β σ a w o v h':=by
 unfold Tw at h;split at h
 ·rename_i t n parts ho;unfold zXw at h;split at h
  ·rename_i e ei ti hst;have het:=zPf hst;obtain⟨ts,hts,hk,hti,zSk,hsz,hpos,hby⟩:=jV het;split at h
   ·rename_i hc;simp only[aD]at hc;have hn:=aK hc.1.1;have hle:=bR hc.1.2;have hnil:=zPg hc.2;split at h
    ·rename_i ys hys;simp only[aA,aB,true_and]at h;obtain⟨rfl,rfl⟩:=h;obtain⟨css,h1,h2,h3⟩:=Yq hs hys;obtain⟨i,z,hi,his,hib,hz,sV,hzs,_⟩:=(hT _ _ hti).i;have hlc:=jJ h1;have hps:∀ p∈parts.toList.map (λp=>(p.1,a.eval p.2)),p.2.cells.size=4:=λp hp=>by
      obtain⟨q,hq,rfl⟩:=List.mem_map.1 hp;have:=hlc (a.eval q.2).cells.toList (by rw[h2];exact List.mem_map.2 ⟨q,hq,rfl⟩);have e4:FrT.size=4:=rfl;rw[e4]at this;simpa using this
     have Ky:ys.length=parts.size:=by rw[h1.length,h2];simp
     obtain⟨cs',hf1,hf2⟩:=zDd 4 (parts.toList.map λp=>(p.1,a.eval p.2)) 0 ((Array.range (n*4)).map (z.cells[· % z.cells.size]!)) (λj p hp=>by
      simp only[List.getElem?_map,Option.map_eq_some_iff]at hp;obtain⟨q,hq,rfl⟩:=hp;have:=h3 j q hq;omega) hps (by simp[hn])
     simp only[Nat.zero_mul,List.take_zero,List.nil_append,List.map_map]at hf2;subst h2;have hfr:=zPe (ei:=ei) (a:=a.eval) (f:=ovl σ) hnil (λp _=>aY hs p.2) h1;obtain⟨β',g1,g2,g3⟩:=yXv (e:=e) (cs:=cs') hs (by rw[hf2];exact hfr) (by
      rw[Ky,<- hn];simp only[maxLen];omega)
     refine⟨β',_,_,.slice (some ⟨w.heap.size,0,none⟩) ys.length ys.length,?_,.inl rfl,g1,(dX w _).weaken λ_ _ h=>h.elim,g2,g3⟩;have hu:=(hT _ _ hts).slice hk;have hzv:(zeroValue e).run C.P w=.ok z w:=by simp[zeroValue,typeInfo,hi,hz]
     have hsz:ti.size=4:=hsz;have zZc:¬ (n*4>2 ^ 24):=by omega
     simp only[execOp,ho,Instr.buildSlice,Sem.run_bind,run_underlying hu,Result.andThen_ok,(hT _ _ hti).sizeOf,hsz,zZc,if_false,Sem.run_pure];by_cases h0:n*4=0
     ·have hn0:n=0:=by omega
      have hpe:parts=#[]:=Array.eq_empty_of_size_eq_zero (by omega);subst hpe;subst hn0;have zZd:ys=[]:=List.eq_nil_of_length_eq_zero (by simpa using Ky);subst zZd;have zZe:cs'=#[]:=by simpa using hf2
      subst zZe;simp[Instr.fill,newRow,show Array.range 0=#[]from rfl];try rfl
     ·simp only[h0,if_false,Sem.run_bind,hzv,Result.andThen_ok,Sem.run_pure];rw[Array.toList_map,hf1];simp only[Sem.run_bind,newRow,run_newObj,Result.andThen_ok,Sem.run_pure,Ky,hn];rfl
    ·cases h
   ·cases h
  ·cases h
 ·rename_i args ats ho;split at h
  ·rename_i t t' hat;split at h
   ·rename_i hb;have hb:=aK hb;subst hb;unfold Vb at h;split at h
    ·rename_i s x t0 t1 xDi hat';rw[hat]at hat';simp only[aJ,and_true]at hat';obtain⟨rfl,rfl⟩:=hat';split at h
     ·rename_i e ei ti id1 u1 id2 u2 hst xDj xDk;have het:=zPf hst;obtain⟨ts,hts,hk,hti,zSk,hsz,hpos,hby⟩:=jV het;split at h
      ·rename_i e1 i1 v1 gQ e2 i2 v2 gT ho1 ho2;split at h
       ·rename_i hc;obtain⟨rfl,rfl,rfl,hne⟩:=hc;simp only[aA,aB,aD]at h;obtain⟨⟨hv1,hv2,hroom⟩,rfl,rfl⟩:=h;have hv1:=aK hv1;have hv2:=aK hv2;subst hv1 hv2;have hx:=aY hs s;have hy:=aY hs x;rw[xDj]at hx;rw[xDk]at hy;simp only[V.Rel,L.Rel]at hx hy;obtain⟨_,_,_,c1,hc1,_,k1⟩:=hx;obtain⟨_,_,_,c2,hc2,_,k2⟩:=hy;simp only[aJ,and_true]at hc1 hc2;subst hc1 hc2;have Vq:=hs.heap.obj _ _ ho1;have Vr:=hs.heap.obj _ _ ho2;simp only[Ob.Rel]at Vq Vr;obtain⟨v',w',β',h1,h2,h3,h4,h5⟩:=yEi o.type hT hts hk hti hsz hby (bR hroom) hs hne ho1 ho2 (k1 Vq.2.2.1) (k2 Vr.2.2.1);have hargs:args=#[s,x]:=by apply Array.toList_inj.1;simpa using xDi
        have zDh:ats=#[t,t]:=by apply Array.toList_inj.1;simpa using hat
        subst hargs zDh;refine⟨β',w',_,v',xU (x:=v') ho ?_,.inl rfl,h2,h5,h3,h4⟩;simp only[builtin,Sem.run_bind];have h1':(Builtin.append_ #[t,t] o.type (Array.map a.eval #[s,x])).run C.P w=.ok v' w':=by simpa using h1
        rw[h1'];rfl
       ·cases h
      ·cases h
     ·cases h
    ·cases h
   ·cases h
  ·cases h
 ·cases h
theorem yMp{σ:St}{a:Act}{o:Oper}{v:V}{h':List Ob}(hT:bM C.P T)(hs:Sim C β σ a w)(h:nG T σ o=some (true,v,h')):After C β σ a w o v h':=by
 unfold nG at h;split at h
 ·exact yMk hT hs h
 ·split at h
  ·exact yMm hT hs h
  ·split at h
   ·exact yMo hT hs h
   ·exact yIa hT hs h
end
end Go.Dec
namespace Go.Dec
def chk{ρ:Type}(b:Bool)(r:Option ρ):Option ρ:=match b with|true=>r|false=>none
def br{ρ:Type}(b:Bool)(x y:Option ρ):Option ρ:=match b with|true=>x|false=>y
def ob{α ρ:Type}(o:Option α)(k:α->Option ρ):Option ρ:=match o with|some x=>k x|none=>none
theorem iM{ρ:Type}{b:Bool}{x:Option ρ}{r:ρ}(h:chk b x=some r):b=true/\x=some r:=by
 cases b
 ·cases h
 ·exact⟨rfl,h⟩
theorem Vd{ρ:Type}{b:Bool}{x y:Option ρ}{r:ρ}(h:br b x y=some r):(b=true/\x=some r)\/(b=false/\y=some r):=by
 cases b
 ·exact .inr ⟨rfl,h⟩
 ·exact .inl ⟨rfl,h⟩
theorem zJw{α ρ:Type}{o:Option α}{k:α->Option ρ}{r:ρ}(h:ob o k=some r):∃ x,o=some x/\k x=some r:=by
 cases o
 ·cases h
 ·exact⟨_,rfl,h⟩
inductive Out where
 |ret (v:V)
 |pan (t:TypeId) (v:V)
inductive Ex where
 |normal|exit (id:Nat)|goto (l:Nat)|ret|pan (t:TypeId) (v:V)
def yYb (β:Nat->Pl) (w:World) (N:Nat->Nat->Prop):Out->Ending->Prop | .ret v,e => ∃ x,e = .returned x ∧ v.Rel β w N x | .pan t v,e => ∃ x,e = .panicked [{ v := .iface t x,recovered:=false }] ∧ v.Rel β w N x
def La (β:Nat->Pl) (w:World) (N:Nat->Nat->Prop):Ex->Exit->Prop | .normal,x=>x = .normal | .exit i,x=>x = .exit i | .goto l,x=>x = .goto l | .ret,x=>x = .ret | .pan t v,x => ∃ y,x = .panic [{ v := .iface t y,recovered:=false }] ∧ v.Rel β w N y
def rA (β:Nat->Pl) (w:World) (N:Nat->Nat->Prop) (vs:List V) (xs:List Value):Prop:=bD (fun v x=>V.Rel β w N v x) vs xs
def Cx(P:Program)(f:FuncId)(vs:List V)(h:List Ob)(R:Out->List Ob->Prop):Prop :=
 ∀ (C:Ctx) (β:Nat->Pl) (w:World) (xs:List Value),C.P=P->fB C β h w->rA β w (C.N β h) vs xs ->
  Calls P f xs.toArray w λe w'=>∃ out h' β',R out h'/\Moves β β'/\Keep (C.N β h) w w'/\(∀ b j,b<w.heap.size->C.N β' h' b j->C.N β h b j)/\fB C β' h' w'/\yYb β' w' (C.N β' h') out e
theorem Cx.mono{P:Program}{f:FuncId}{vs:List V}{h:List Ob}{R R':Out->List Ob->Prop}(hc:Cx P f vs h R)(hR:∀ o k,R o k->R' o k):Cx P f vs h R':=by
 intro C β w xs hP hs ha;refine(hc C β w xs hP hs ha).mono ?_;rintro e w' ⟨out,h',β',k1,k2⟩;exact⟨out,h',β',hR _ _ k1,k2⟩
def yVw(P:Program)(f:FuncId)(vs:List V)(h:List Ob)(out:Out)(h':List Ob):Prop:=Cx P f vs h λo k=>o=out/\k=h'
def iH (P:Program) (f:FuncId):Bool :=
 match P.funcs[f]? with
 |some fn=>fn.body.isSome&&!(fn.name == "runtime.NumGoroutine")
 |none=>false
def dA {α:Type} (f:α->Bool):List α->Bool | []=>true | x :: r=>f x&&dA f r
def L.isD:L->Bool | .val .. | .lF | .bJ | .qY ..=>true | .clo _ []=>true | _=>false
def yPz:Sum L (List L)->Bool | .inl l=>l.isD | .inr ls=>dA L.isD ls
def V.isD:V->Bool | .one l=>l.isD | .agg ls=>dA L.isD ls | .tup vs=>dA yPz vs | .bY=>false
structure PE where
 R:Type
 use:Nat
 run:List V->List Ob->Option (Bool × Option R)
 enc:R->List V->List Ob->V × List Ob
structure PE.OK (P:Program) (f:FuncId) (e:PE):Prop where
 body:iH P f=true
 rel:∀ vs h y,e.run vs h=some (true,some y)->yVw P f vs h (.ret (e.enc y vs h).1) (e.enc y vs h).2
 dry:Nat.ble e.use 1=true->∀ vs h h2,dA V.isD vs=true->e.run vs h=e.run vs h2/\∀ y,(e.enc y vs h).1=(e.enc y vs h2).1
 same:Nat.ble e.use 1=true->∀ y vs h,(e.enc y vs h).2=h
 row:e.use=3->∀ vs h h2,dA V.isD vs=true->h2.length=h.length->e.run vs h=e.run vs h2/\∀ y,(e.enc y vs h).1=(e.enc y vs h2).1/\∃ os,(e.enc y vs h).2=h++os/\(e.enc y vs h2).2=h2++os
def pos(i:Nat):List Nat->Nat->Option Nat
 |[],_=>none
 |a::r,n=>match Nat.beq a i with
  |true=>some n
  |false=>pos i r (n+1)
mutual
def L.ids:L->List Nat | .ptr id _=>[id] | .fC id _=>[id] | .rY id _ _ _ _=>[id] | .iZ id _ _ _=>[id] | .sl id _ _ _=>[id] | .own id _=>[id] | .mp id=>[id] | .clo _ caps=>L.zMv caps | _=>[]
def L.zMv:List L->List Nat | []=>[] | l :: ls=>l.ids++L.zMv ls
end
def V.ids:V->List Nat | .one l=>l.ids | .agg ls=>L.zMv ls | _=>[]
def Ob.ids:Ob->List Nat | .box _ ls=>L.zMv ls | .arr ..=>[] | .fm _=>[] | .dm ..=>[] | .stk _ _ _ _ none=>[] | .stk _ _ _ _ (some ls)=>L.zMv ls
def zGu(acc:List Nat):List Nat->List Nat
 |[]=>acc
 |i::r=>match pos i acc 0 with
  |some _=>zGu acc r
  |none=>zGu (acc++[i]) r
def zJx(h:List Ob):Nat->List Nat->Nat->List Nat
 |0,acc,_=>acc
 |n+1,acc,p =>
  match acc[p]? with
  |none=>acc
  |some i=>match h[i]? with
   |some o=>zJx h n (zGu acc o.ids) (p+1)
   |none=>zJx h n acc (p+1)
def zZj:List V->List Nat | []=>[] | v :: vs=>v.ids++zZj vs
def reach (vs:List V) (h:List Ob):List Nat:=zJx h (h.length+1) (zGu [] (zZj vs)) 0
structure Orc (ρ:Type) where
 pure:FuncId->Option PE
 gen:FuncId->List V->List Ob->(Out->List Ob->Option ρ)->Option ρ
 ids:FuncId->List V->List Ob->List Nat:=λ_=>reach
structure kQ (P:Program) {ρ:Type}(Γ:Orc ρ):Prop where
 pure:∀ f e,Γ.pure f=some e->e.OK P f
 gen:∀ f vs h k r,Γ.gen f vs h k=some r->iH P f=true/\Cx P f vs h λout h'=>k out h'=some r/\∀ id,id<h.length->id∉Γ.ids f vs h->h'[id]?=h[id]?
def Orc.call{ρ:Type}(Γ:Orc ρ)(f:FuncId)(vs:List V)(h:List Ob)(k:Out->List Ob->Option ρ):Option ρ :=
 match Γ.pure f with
 |some e =>
  match e.run vs h with
  |some (c,o)=>chk c (ob o λy=>k (.ret (e.enc y vs h).1) (e.enc y vs h).2)
  |none=>none
 |none=>Γ.gen f vs h k
def Orc.quiet {ρ:Type} (Γ:Orc ρ):Orc ρ:=⟨Γ.pure,fun _ _ _ _=>none,Γ.ids⟩
theorem kQ.quiet{P:Program}{ρ:Type}{Γ:Orc ρ}(h:kQ P Γ):kQ P Γ.quiet:=⟨h.pure,λ_ _ _ _ _ h=>by cases h⟩
theorem kQ.call{P:Program}{ρ:Type}{Γ:Orc ρ}(h:kQ P Γ){f:FuncId}{vs:List V}{hp:List Ob}{k:Out->List Ob->Option ρ}{r:ρ}(hc:Γ.call f vs hp k=some r):iH P f=true/\Cx P f vs hp λout h'=>k out h'=some r:=by
 unfold Orc.call at hc;split at hc
 ·rename_i e he;split at hc
  ·rename_i c o hr;obtain⟨rfl,hc⟩:=iM hc;obtain⟨y,rfl,hc⟩:=zJw hc;have hok:=h.pure f e he;refine⟨hok.body,λC β w xs hP hs ha=>(hok.rel _ _ _ hr C β w xs hP hs ha).mono ?_⟩;rintro e w' ⟨out,h',β',⟨rfl,rfl⟩,hh⟩;exact⟨_,_,β',hc,hh⟩
  ·cases hc
 ·obtain⟨h1,h2⟩:=h.gen _ _ _ _ _ hc;exact⟨h1,h2.mono λ_ _ h=>h.1⟩
def bW(r:List V)(d:Option Tmp)(v:V):List V :=
 match d with
 |some i=>r.set i v
 |none=>r
abbrev K(ρ:Type):=Ex->St->Option ρ
abbrev Jf(ρ:Type):=St->K ρ->Option ρ
section ops
variable {ρ:Type}
variable (Γ:Orc ρ)
variable (T:Tab)
def jL (σ:St) (xs:List Operand):List V:=xs.map (ovl σ)
def callee(σ:St)(x:Operand)(as:List Operand):Option (FuncId × List V):=
 match ovl σ x with
 |.one (.val .opq (.func (.func f) first cs))=>if first.size=0/\cs.size=0 then some (f,[])else none
 |.one (.clo f [])=>some (f,[])
 |.one (.clo f (c::cs))=>match Nat.blt f 1000000,as with
  |true,_=>some (f,(c::cs).map .one)
  |false,[]=>some (f-1000000,(c::cs).map .one)
  |false,_::_=>none
 |_=>none
def zBf (vs:List V) (h:List Ob) (key:MK) (k:Out->List Ob->Option ρ):List (MK×Nat)->Option ρ | []=>none | (a,f) :: r=>br (MK.beq key a) (Γ.gen f vs h k) (zBf vs h key k r)
def Vs(σ:St)(o:Oper)(k:K ρ):Option ρ :=
 match o.op with
 |.call { callee:=.value x,args,.. }=>
  match callee σ x args.toList with
  |some (f,cs)=>Γ.call f (jL σ args.toList++cs) σ.h λout h' =>
   match out with
   |.ret v=>k .normal ⟨bW σ.r o.dst v,h'⟩
   |.pan t v=>k (.pan t v) ⟨σ.r,h'⟩
  |none =>
   match ovl σ x with
   |.one (.Rz key tab)=>zBf Γ (jL σ args.toList) σ.h key (λout h' =>
    match out with
    |.ret v=>k .normal ⟨bW σ.r o.dst v,h'⟩
    |.pan t v=>k (.pan t v) ⟨σ.r,h'⟩) tab
   |_=>none
 |.pick c x y =>
  match ovl σ c with
  |.one (.val .bool b)=>br b (k .normal ⟨bW σ.r o.dst (ovl σ x),σ.h⟩) (k .normal ⟨bW σ.r o.dst (ovl σ y),σ.h⟩)
  |_=>none
 |_ =>
  match nG T σ o with
  |some (c,v,h')=>chk c (k .normal ⟨bW σ.r o.dst v,h'⟩)
  |none=>none
def Qn (ops:Array Oper) (j:Nat):Option Nat:=(ops[j]?).bind (·.dst)
end ops
section sound
variable {ρ:Type}
variable {Γ:Orc ρ}
variable {T:Tab}
variable {C:Ctx}
theorem Sim.put{β:Nat->Pl}{σ:St}{a:Act}{w:World}(hs:Sim C β σ a w)(d:Option Tmp){v:V}{x:Value}(hv:v.Rel β w (C.N β σ.h) x):Sim C β ⟨bW σ.r d v,σ.h⟩ (a.put d x) w:=by
 cases d with
 |none=>exact⟨hs.heap,hs.defers,hs.size,hs.reg⟩
 |some i =>
  refine⟨hs.heap,hs.defers,by simp[bW,Act.put,hs.size],λj u hu=>?_⟩;simp only[bW]at hu;simp only[Act.put,Array.getD_eq_getD_getElem?,Array.getElem?_setIfInBounds];by_cases hij:i=j
  ·subst hij;rcases jB i σ.r.length with hi|hi
   ·rw[List.getElem?_set_self hi]at hu;simp only[aA]at hu;subst hu;rw[if_pos rfl,if_pos (by rw[<- hs.size];exact hi)];exact hv
   ·rw[List.getElem?_eq_none (by simpa using hi)]at hu;cases hu
  ·rw[List.getElem?_set_ne hij]at hu;rw[if_neg hij];have:=hs.reg j u hu
   rwa [Array.getD_eq_getD_getElem?]at this
theorem zMw{β:Nat->Pl}{σ:St}{a:Act}{w:World}(hs:Sim C β σ a w):∀ xs:List Operand,rA β w (C.N β σ.h) (jL σ xs) (xs.map a.eval)
 |[]=>trivial
 |x::xs=>⟨aY hs x,zMw hs xs⟩
theorem Lb{β:Nat->Pl}{w:World}{N:Nat->Nat->Prop}:∀ {cs:List L}{us:List Value},L.eD β w N cs us->rA β w N (cs.map .one) us
 |[],us,h=>by simp only[L.eD]at h;subst h;trivial
 |c::cs,us,h=>by
  simp only[L.eD]at h;obtain⟨u,r,rfl,h1,h2⟩:=h;exact⟨h1,Lb h2⟩
theorem zB{P:Program}{f:FuncId}(h:iH P f=true)(args:Array Value)(w:World):(callFunc f args).run P w=.ok (.enter f args) w:=by
 unfold iH at h;split at h
 ·rename_i fn hf;simp only[aD,Bool.not_eq_true']at h;have h1:fn.body.isNone=false:=by cases hb:fn.body<;>simp[hb]at h ⊢
  simp only[callFunc,Sem.run_bind,run_program,Result.andThen_ok,hf,h.2,h1,Bool.false_eq_true,if_false,Sem.run_pure]
 ·cases h
theorem zPh{C:Ctx}{β:Nat->Pl}{σ:St}{a:Act}{w:World}{f:FuncId}{cs:List V}{x:Operand}{args:Array Operand}{ats:Array TypeId}{ty:TypeId}(hc:callee σ x args.toList=some (f,cs))(hs:Sim C β σ a w):∃ as us,(resolve a.eval { callee:=.value x,args,argTypes:=ats } ty).run C.P w=.ok { target:=.fn (.func f) us,args:=as } w/\rA β w (C.N β σ.h) (jL σ args.toList++cs) (as++us).toList:=by
 have hx:=aY hs x;have hA:rA β w (C.N β σ.h) (jL σ args.toList) (args.map a.eval).toList:=by
  rw[Array.toList_map];exact zMw hs _
 have plain:∀ {us:Array Value},a.eval x=.func (.func f) #[] us->rA β w (C.N β σ.h) cs us.toList ->
  ∃ as us,(resolve a.eval { callee:=.value x,args,argTypes:=ats } ty).run C.P w=.ok { target:=.fn (.func f) us,args:=as } w/\rA β w (C.N β σ.h) (jL σ args.toList++cs) (as++us).toList:=λ{us} he hr =>
  ⟨args.map a.eval,us,by simp[resolve,he,Deferred.ofValue],by rw[Array.toList_append];exact bD.append hA hr⟩
 unfold callee at hc;split at hc
 ·rename_i f' first cs' hov
  split at hc
  ·rename_i he;simp only[aA,aB]at hc;obtain⟨rfl,rfl⟩:=hc;rw[hov]at hx;simp only[V.Rel,L.Rel,Ty.Rel,aJ,and_true]at hx;have e1:first=#[]:=Array.eq_empty_of_size_eq_zero he.1
   have e2:cs'=#[]:=Array.eq_empty_of_size_eq_zero he.2;subst e1 e2;exact plain hx.1 trivial
  ·cases hc
 ·rename_i f' hov;simp only[aA,aB]at hc;obtain⟨rfl,rfl⟩:=hc;rw[hov]at hx;simp only[V.Rel,L.Rel,aJ,and_true]at hx;obtain⟨us,hx,hr⟩:=hx;have hr:=Lb hr;cases us with
  |nil=>exact plain (us:=#[]) hx hr
  |cons u us=>exact absurd hr (by simp[rA,bD])
 ·rename_i f' c cs' hov;rw[hov]at hx;simp only[V.Rel,L.Rel,aJ,and_true]at hx;obtain⟨us,hx,hr⟩:=hx;have hr:=Lb hr;split at hc
  ·rename_i hb;simp only[aA,aB]at hc;obtain⟨rfl,rfl⟩:=hc;exact plain (us:=us.toArray) (hx.trans (zBa (by rwa [Nat.blt_eq]at hb) us)) hr
  ·rename_i hb hargs;simp only[aA,aB]at hc;obtain⟨rfl,rfl⟩:=hc;cases us with
   |nil=>exact absurd hr (by simp[rA,bD])
   |cons u us =>
    have he:a.eval x=.func (.func (f'-1000000)) (u::us).toArray #[]:=by rw[hx,zSg (λh=>by rw[<- Nat.blt_eq,hb]at h;cases h)]
    have ha:args=#[]:=Array.toList_inj.1 (by rw[hargs]);subst ha;exact⟨(u::us).toArray,#[],by simp[resolve,he,Deferred.ofValue],by simpa [jL]using hr⟩
  ·cases hc
 ·cases hc
theorem yFl{β:Nat->Pl}{σ:St}{a:Act}{w:World}{o:Oper}{f:FuncId}{cs:List V}{x:Operand}{args:Array Operand}{ats:Array TypeId}{R:Out->List Ob->Prop}{next:Act->World->Prop}{Q:Exit->Act->World->Prop}(ho:o.op=.call { callee:=.value x,args:=args,argTypes:=ats })(hc:callee σ x args.toList=some (f,cs))(hb:iH C.P f=true)(hcall:Cx C.P f (jL σ args.toList++cs) σ.h R)(hs:Sim C β σ a w)(hn:∀ v h' β' a' w',R (.ret v) h'->Sim C β' ⟨bW σ.r o.dst v,h'⟩ a' w'->next a' w')(hq:∀ t v h' β' w' y,R (.pan t v) h'->Sim C β' ⟨σ.r,h'⟩ a w'->v.Rel β' w' (C.N β' h') y->Q (.panic [{ v:=.iface t y,recovered:=false }]) a w'):o.wp C.P a w next Q:=by
 obtain⟨as,us,hres,hargs⟩:=zPh (ats:=ats) (ty:=o.type) hc hs;have hcl:=hcall C β w _ rfl hs.heap hargs;unfold Oper.wp;have hrun:(execOp a.eval o).run C.P w=.ok (.enter f (as++us)) w:=by
  simp only[execOp,ho,Sem.run_bind,hres,Result.andThen_ok,invoke,zB hb]
 rw[hrun,Oper.upon_enter];rw[Array.toArray_toList]at hcl;refine hcl.mono ?_;rintro e w' ⟨out,h',β',hk,hm,hkp,hN,hh,hout⟩;have Yv:∀ (i:Nat) (v:V),σ.r[i]?=some v->v.Rel β' w' (C.N β' h') (a.tmps.getD i undef):=λi v hv=>(hs.reg i v hv).mono hm hkp hN
 cases out with
 |ret v =>
  obtain⟨y,rfl,hy⟩:=hout;have hs':Sim C β' ⟨σ.r,h'⟩ a w':=⟨hh,hs.defers,hs.size,Yv⟩;exact hn v h' β' _ w' hk (hs'.put o.dst hy)
 |pan t v =>
  obtain⟨y,rfl,hy⟩:=hout;exact hq t v h' β' w' y hk ⟨hh,hs.defers,hs.size,Yv⟩ hy
theorem zLm{vs:List V}{hp:List Ob}{key:MK}{k:Out->List Ob->Option ρ}{r:ρ}:∀ {tab:List (MK × Nat)},zBf Γ vs hp key k tab=some r->∃ f,kP tab key=some f/\Γ.gen f vs hp k=some r
 |[],h=>by cases h
 |(a,f)::tab,h=>by
  simp only[zBf]at h;simp only[kP];rcases Vd h with ⟨hb,h⟩|⟨hb,h⟩
  ·rw[hb];exact⟨f,rfl,h⟩
  ·rw[hb];exact zLm h
theorem yQa{β:Nat->Pl}{σ:St}{a:Act}{w:World}{o:Oper}{f:FuncId}{x:Operand}{args:Array Operand}{ats:Array TypeId}{R:Out->List Ob->Prop}{next:Act->World->Prop}{Q:Exit->Act->World->Prop}(ho:o.op=.call { callee:=.value x,args:=args,argTypes:=ats })(hx:a.eval x=.func (.func f) #[] #[])(hb:iH C.P f=true)(hcall:Cx C.P f (jL σ args.toList) σ.h R)(hs:Sim C β σ a w)(hn:∀ v h' β' a' w',R (.ret v) h'->Sim C β' ⟨bW σ.r o.dst v,h'⟩ a' w'->next a' w')(hq:∀ t v h' β' w' y,R (.pan t v) h'->Sim C β' ⟨σ.r,h'⟩ a w'->v.Rel β' w' (C.N β' h') y->Q (.panic [{ v:=.iface t y,recovered:=false }]) a w'):o.wp C.P a w next Q:=by
 have hres:(resolve a.eval { callee:=.value x,args,argTypes:=ats } o.type).run C.P w=.ok { target:=.fn (.func f) #[],args:=args.map a.eval } w:=by simp[resolve,hx,Deferred.ofValue]
 have hargs:rA β w (C.N β σ.h) (jL σ args.toList) (args.map a.eval++#[]).toList:=by
  simpa using zMw hs args.toList
 have hcl:=hcall C β w _ rfl hs.heap hargs;unfold Oper.wp;have hrun:(execOp a.eval o).run C.P w=.ok (.enter f (args.map a.eval++#[])) w:=by
  simp only[execOp,ho,Sem.run_bind,hres,Result.andThen_ok,invoke,zB hb]
 rw[hrun,Oper.upon_enter];rw[Array.toArray_toList]at hcl;refine hcl.mono ?_;rintro e w' ⟨out,h',β',hk,hm,hkp,hN,hh,hout⟩;have Yv:∀ (i:Nat) (v:V),σ.r[i]?=some v->v.Rel β' w' (C.N β' h') (a.tmps.getD i undef):=λi v hv=>(hs.reg i v hv).mono hm hkp hN
 cases out with
 |ret v =>
  obtain⟨y,rfl,hy⟩:=hout;have hs':Sim C β' ⟨σ.r,h'⟩ a w':=⟨hh,hs.defers,hs.size,Yv⟩;exact hn v h' β' _ w' hk (hs'.put o.dst hy)
 |pan t v =>
  obtain⟨y,rfl,hy⟩:=hout;exact hq t v h' β' w' y hk ⟨hh,hs.defers,hs.size,Yv⟩ hy
theorem zPi(hT:bM C.P T)(hΓ:kQ C.P Γ){β:Nat->Pl}{σ:St}{a:Act}{w:World}{o:Oper}{k:Dec.K ρ}{r:ρ}{next:Act->World->Prop}{Q:Exit->Act->World->Prop}(h:Vs Γ T σ o k=some r)(hs:Sim C β σ a w)(hn:∀ σ' β' a' w',Sim C β' σ' a' w'->k .normal σ'=some r->next a' w')(hq:∀ e x σ' β' a' w',Sim C β' σ' a' w'->e≠.normal->La β' w' (C.N β' σ'.h) e x->k e σ'=some r->Q x a' w'):o.wp C.P a w next Q:=by
 unfold Vs at h;split at h
 ·rename_i x args ats ho;split at h
  ·rename_i f cs hc;obtain⟨hb,hcall⟩:=hΓ.call h;obtain⟨as,us,hres,hargs⟩:=zPh (ats:=ats) (ty:=o.type) hc hs;have hcl:=hcall C β w _ rfl hs.heap hargs;unfold Oper.wp;have hrun:(execOp a.eval o).run C.P w=.ok (.enter f (as++us)) w:=by
    simp only[execOp,ho,Sem.run_bind,hres,Result.andThen_ok,invoke,zB hb]
   rw[hrun,Oper.upon_enter];rw[Array.toArray_toList]at hcl;refine hcl.mono ?_;rintro e w' ⟨out,h',β',hk,hm,hkp,hN,hh,hout⟩;have Yv:∀ (i:Nat) (v:V),σ.r[i]?=some v->v.Rel β' w' (C.N β' h') (a.tmps.getD i undef):=λi v hv=>(hs.reg i v hv).mono hm hkp hN
   cases out with
   |ret v =>
    obtain⟨y,rfl,hy⟩:=hout;have hs':Sim C β' ⟨σ.r,h'⟩ a w':=⟨hh,hs.defers,hs.size,Yv⟩;exact hn _ β' _ w' (hs'.put o.dst hy) hk
   |pan t v =>
    obtain⟨y,rfl,hy⟩:=hout;exact hq (.pan t v) _ ⟨σ.r,h'⟩ β' a w' ⟨hh,hs.defers,hs.size,Yv⟩ (by simp) ⟨y,rfl,hy⟩ hk
  ·split at h
   ·rename_i key tab hov;obtain⟨f,hf,hcl⟩:=zLm h;obtain⟨hb,hcall⟩:=hΓ.gen _ _ _ _ _ hcl;have hcall:=hcall.mono (R':=λout h'=>(match out with|.ret v=>k .normal ⟨bW σ.r o.dst v,h'⟩|.pan t v=>k (.pan t v) ⟨σ.r,h'⟩)=some r) λ_ _ h=>h.1
    have hx:=aY hs x;rw[hov]at hx;simp only[V.Rel,L.Rel,aJ,and_true,zOq,hf]at hx;refine yQa ho hx hb hcall hs (λv h' β' a' w' hk hs'=>hn _ β' a' w' hs' hk) (λt v h' β' w' y hk hs' hy=>hq (.pan t v) _ ⟨σ.r,h'⟩ β' a w' hs' (by simp) ⟨y,rfl,hy⟩ hk)
   ·cases h
 ·rename_i c x y ho;split at h
  ·rename_i b hb;have hc:=aY hs c;rw[hb]at hc;simp only[V.Rel,L.Rel,Ty.Rel,aJ,and_true]at hc;have hrun:(execOp a.eval o).run C.P w=.ok (.value (if b then a.eval x else a.eval y)) w:=by
    simp only[execOp,ho,hc,asBool,Sem.run_bind,Sem.run_pure,Result.andThen_ok]
   unfold Oper.wp;rw[hrun,Oper.upon_value];rcases Vd h with ⟨rfl,hk⟩|⟨rfl,hk⟩
   ·exact hn _ β _ w (hs.put o.dst (aY hs x)) hk
   ·exact hn _ β _ w (hs.put o.dst (aY hs y)) hk
  ·cases h
 ·split at h
  ·rename_i c v h' hst;obtain⟨rfl,hk⟩:=iM h;obtain⟨β',w',n,v',hrun,hnv,hm,hkp,hs',hv'⟩:=yMp hT hs hst;unfold Oper.wp;rw[hrun];rcases hnv with rfl|⟨rfl,rfl⟩
   ·rw[Oper.upon_value];exact hn _ β' _ w' (hs'.put o.dst hv') hk
   ·rw[Oper.upon_skip];exact hn _ β' _ w' (hs'.put o.dst hv') hk
  ·cases h
theorem zGv{ops:Array Oper}{tmps:Array Value}{j s:Nat}{b:Bool}(hs:Qn ops j=some s)(ht:tmps.getD s undef=.bool b):yielded ops tmps j=some b:=by
 unfold Qn at hs;cases ho:ops[j]? with
 |none=>rw[ho]at hs;cases hs
 |some o =>
  rw[ho]at hs;simp only[Option.bind_some]at hs;have ht':(tmps[s]?).getD undef=.bool b:=by rw[<- Array.getD_eq_getD_getElem?];exact ht
  unfold yielded;simp only[ho,Option.bind_some,hs];cases h2:tmps[s]? with
  |none=>rw[h2]at ht';simp[undef]at ht'
  |some x=>rw[h2]at ht';simp at ht';subst ht';rfl
theorem zGw{ops:Array Oper}{tmps:Array Value}{j s:Nat}{us:Array Value}(hs:Qn ops j=some s)(ht:tmps.getD s undef=.tuple us):yielded ops tmps j=none:=by
 unfold Qn at hs;cases ho:ops[j]? with
 |none=>rw[ho]at hs;cases hs
 |some o =>
  rw[ho]at hs;simp only[Option.bind_some]at hs;have ht':(tmps[s]?).getD undef=.tuple us:=by rw[<- Array.getD_eq_getD_getElem?];exact ht
  unfold yielded;simp only[ho,Option.bind_some,hs];cases h2:tmps[s]? with
  |none=>rfl
  |some x=>rw[h2]at ht';simp at ht';subst ht';rfl
theorem yFm{r:List V}{s:Nat}{v:V}(h:r.getD s .bY=v)(hne:v≠.bY):r.set s v=r:=by
 have:r[s]?=some v:=by
  rw[List.getD_eq_getElem?_getD]at h;cases hr:r[s]? with
  |none=>rw[hr]at h;exact absurd h.symm hne
  |some u=>rw[hr]at h;simp at h;rw[h]
 apply List.ext_getElem?;intro i;by_cases hi:s=i
 ·subst hi;rw[List.getElem?_set_self (bE.1 this).1,this]
 ·rw[List.getElem?_set_ne hi]
end sound
end Go.Dec
