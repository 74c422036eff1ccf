/- Part of a proof over this seat: a library of my own, and what it says of this seat. No statement is proved here. -/
import Derived.Test.YtfbilefiaminnaaGreatDoorPartAA
import Derived.Laws.Cells
import Derived.Laws.Slices
namespace Go.Dec
def V.leaves:V->Option (List L) | .one l=>some [l] | .agg ls=>some ls | _=>none
theorem V.Ku{β:Nat->Pl}{w:World}{N:Nat->Nat->Prop}{v:V}{ls:List L}{x:Value}(h:v.leaves=some ls)(hr:v.Rel β w N x):aG β w N ls x.cells.toList:=by
 cases v with
 |one l =>
  simp only[V.leaves,aA]at h;subst h;have h1:=L.Rel.one hr x (by simp);have:x.cells=#[x]:=by cases x<;>first|rfl|simp[Value.oneCell']at h1
  rw[this];exact aG.single hr
 |agg l =>
  simp only[V.leaves,aA]at h;subst h;obtain⟨cs,rfl,hr⟩:=hr;exact hr
 |_=>simp[V.leaves]at h
def mkV(agg:Bool)(ls:List L):Option V :=
 match agg,ls with
 |true,ls=>some (.agg ls)
 |false,[l]=>some (.one l)
 |_,_=>none
def un(op:UnOp)(x:L):Option (Bool × L):=
 match op,x with
 |.not,.val .bool b=>some (true,.val .bool (!b))
 |.neg,.val (.int k) n=>some (true,.val (.int k) (k.wrap (0-n)))
 |_,_=>none
def inB (i:Int) (n:Nat):Bool:=decide (0<=i)&&decide (i<(n:Int))
theorem Dm{i:Int}{n:Nat}(h:inB i n=true):0<=i/\i<(n:Int)/\i.toNat<n:=by
 unfold inB at h;rw[aD]at h;have h1:=of_decide_eq_true h.1;have h2:=of_decide_eq_true h.2;exact⟨h1,h2,by omega⟩
def aV {α:Type} (d:α) (xs:List α) (i:Int):α:=xs.getD i.toNat d
def conv(kd:TK)(ks:TK)(x:L):Option (Bool × L):=
 match kd,ks,x with
 |.int k,_,.val (.int _) n=>some (true,.val (.int k) (k.wrap n))
 |.str,.str,.val .str s=>some (true,.val .str s)
 |.str,.slice _,.val (.slice (.int .u8)) xs=>some (true,.val .str (xs.map λn=>UInt8.ofNat n.toNat))
 |_,_,_=>none
def Vl(_h:List Ob)(l:L)(off:Nat):Option (Bool × L):=
 match l with
 |.ptr id o=>some (true,.ptr id (o+off))
 |.rY id o es i sub=>some (true,.rY id o es i (sub+off))
 |.iZ id ver i o=>some (true,.iZ id ver i (o+off))
 |.qY t x o=>some (true,.qY t x (o+off))
 |_=>none
def L.view(h:List Ob):L->L
 |.own id ver =>
  match h[id]? with
  |some (.arr _ _ _ rows _)=>.sl id ver 0 rows.length
  |some (.stk _ _ _ rows top)=>.sl id ver 0 (rows.length+Kq top)
  |_=>.bad 1
 |l=>l
def zJu(h:List Ob):L->Option (Bool × Int)
 |.val (.slice _) xs=>some (true,(xs.length:Int))
 |.bJ=>some (true,0)
 |.sl id ver _ len =>
  match h[id]? with
  |some (.arr _ _ v _ _)=>some (Nat.beq v ver,(len:Int))
  |some (.stk _ _ v _ _)=>some (Nat.beq v ver,(len:Int))
  |_=>none
 |_=>none
def Bn(T:Tab)(h:List Ob)(k:TK)(x:L)(i:Int):Option (Bool × L):=
 match k,x with
 |.slice e,.val (.slice te) xs =>
  match T.get e with
  |some ti=>if ti.size=te.size then some (inB i xs.length,.qY te (aV te.dflt xs i) 0)else none
  |none=>none
 |.slice e,.sl id ver off len =>
  match h[id]?,T.get e with
  |some (.arr _ t v rows _),some ti=>if ti.size=t.size then some (Nat.beq v ver&&inB i len&&decide (off+len<=rows.length),.iZ id ver (off+i.toNat) 0)else none
  |some (.stk _ _ v rows top),some ti=>if ti.size=4 then some (Nat.beq v ver&&inB i len&&decide (off+len<=rows.length+Kq top),.iZ id ver (off+i.toNat) 0)else none
  |_,_=>none
 |.arr n e,.ptr id off =>
  match T.get e with
  |some ti=>some (inB i n,.rY id off ti.size i.toNat 0)
  |none=>none
 |.arr n e,.qY t0 x0 off =>
  match T.get e with
  |some ti =>
   match Ba (explode t0 x0) off (n*ti.size)with
   |some [.val (.arr m te) xs]=>if m=n/\ti.size=te.size then some (inB i n,.qY te (aV te.dflt xs i) 0)else none
   |_=>none
  |none=>none
 |_,_=>none
def loadAt(T:Tab)(h:List Ob)(t:TypeId)(x:L):Option (Bool × V):=
 match T.get t with
 |none=>none
 |some ti =>
  match x with
  |.ptr id off =>
   match h[id]? with
   |some (.box _ ls)=>
    match Ba ls off ti.size with
    |some c=>(mkV ti.k.isAgg c).map λv=>(true,v)
    |none=>none
   |_=>none
  |.rY id off es i sub =>
   match h[id]? with
   |some (.box _ ls)=>
    match kL ls off with
    |some (_,.val (.arr n te) xs::_)=>
     if te.size=es then
      match Ba (explode te (xs.getD i te.dflt)) sub ti.size with
      |some c=>(mkV ti.k.isAgg c).map λv=>(decide (i<n),v)
      |none=>none
     else none
    |_=>none
   |_=>none
  |.iZ id ver i off =>
   match h[id]? with
   |some (.arr _ te v rows _)=>
    match Ba (explode te (rows.getD i te.dflt)) off ti.size with
    |some c=>(mkV ti.k.isAgg c).map λu=>(Nat.beq v ver&&decide (i<rows.length),u)
    |none=>none
   |some (.stk _ _ v rows (some ls))=>
    match Ba ls off ti.size with
    |some c=>(mkV ti.k.isAgg c).map λu=>(Nat.beq v ver&&decide (i=rows.length),u)
    |none=>none
   |some (.stk _ _ v rows none)=>
    match Ba [.val (.int .i64) (rows.getD i (0,0,[],[],())).1,.val (.int .i64) (rows.getD i (0,0,[],[],())).2.1,.bad 1,.bad 1] off ti.size with
    |some c=>(mkV ti.k.isAgg c).map λu=>(Nat.beq v ver&&decide (i<rows.length),u)
    |none=>none
   |_=>none
  |.qY te y off =>
   match Ba (explode te y) off ti.size with
   |some c=>(mkV ti.k.isAgg c).map λv=>(true,v)
   |none=>none
  |_=>none
def idx(x:V)(i:Int):Option (Bool × V):=
 match x with
 |.one (.val .str s)=>some (inB i s.length,.one (.val (.int .u8) ((aV 0 s i).toNat:Int)))
 |_=>none
def bounds(n:Nat)(lo hi:Option Int):Bool × Nat × Nat :=
 match lo,hi with
 |none,none=>(true,0,n)
 |some l,none=>(decide (0<=l)&&decide (l<=(n:Int)),l.toNat,n)
 |none,some h=>(decide (0<=h)&&decide (h<=(n:Int)),0,h.toNat)
 |some l,some h=>(decide (0<=h)&&decide (h<=(n:Int))&&(decide (0<=l)&&decide (l<=h)),l.toNat,h.toNat)
def cut{α:Type}(xs:List α)(lo hi:Option Int):List α :=
 match lo,hi with
 |none,none=>xs
 |some l,none=>xs.drop l.toNat
 |none,some h=>xs.take h.toNat
 |some l,some h=>(xs.take h.toNat).drop l.toNat
def slice(k:TK)(x:L)(lo hi:Option Int)(hp:List Ob):Option (Bool × L):=
 match k,x with
 |.str,.val .str s=>some ((bounds s.length lo hi).1,.val .str (cut s lo hi))
 |.slice _,.val (.slice te) xs=>some ((bounds xs.length lo hi).1,.val (.slice te) (cut xs lo hi))
 |.slice _,.sl id ver off len =>
  match hp[id]? with
  |some (.arr _ _ v _ _)=>some (Nat.beq v ver&&(bounds len lo hi).1,.sl id ver (off+(bounds len lo hi).2.1) ((bounds len lo hi).2.2-(bounds len lo hi).2.1))
  |some (.stk _ _ v _ _)=>some (Nat.beq v ver&&(bounds len lo hi).1,.sl id ver (off+(bounds len lo hi).2.1) ((bounds len lo hi).2.2-(bounds len lo hi).2.1))
  |_=>none
 |_,_=>none
def build(T:Tab)(fs:List (Nat × TypeId)):List L->List (Nat × V)->Option (List L)
 |ls,[]=>some ls
 |ls,(i,v)::r =>
  match fs[i]?,v.leaves with
  |some (off,ft),some new =>
   match T.get ft with
   |some ti=>if sizes new=ti.size then
    match Kr ls off new with
    |some ls'=>build T fs ls' r
    |none=>none
    else none
   |none=>none
  |_,_=>none
def ext(x:V)(i:Nat):Option V :=
 match x with
 |.tup vs =>
  match vs[i]? with
  |some (.inl l)=>some (.one l)
  |some (.inr ls)=>some (.agg ls)
  |none=>none
 |_=>none
def qL:V->Option (IntKind×Int) | .one (.val (.int k) n)=>some (k,n) | _=>none
def wY(σ:St):Option Operand->Option (Option Int)
 |none=>some none
 |some x=>match qL (ovl σ x) with|some (_,n)=>some (some n)|none=>none
def caps(σ:St):List Operand->Option (List L)
 |[]=>some []
 |x::r =>
  match ovl σ x,caps σ r with
  |.one l,some ls=>some (l::ls)
  |_,_=>none
end Go.Dec
namespace Go.Dec
section
variable {P:Program}
variable {β:Nat->Pl}
variable {w:World}
variable {N:Nat->Nat->Prop}
variable {T:Tab}
theorem qZ.slice{t e:TypeId}{ti:TI}(h:qZ P t ti)(hk:ti.k=.slice e):P.underlying t=some (.slice e):=by
 obtain⟨d,hd,hk'⟩:=h.und;rw[hk]at hk';cases d<;>simp only[TK.of,TK.slice.injEq,reduceCtorEq]at hk'
 subst hk';exact hd
theorem qZ.arr{t e:TypeId}{n:Nat}{ti:TI}(h:qZ P t ti)(hk:ti.k=.arr n e):P.underlying t=some (.array n e):=by
 obtain⟨d,hd,hk'⟩:=h.und;rw[hk]at hk';cases d<;>simp only[TK.of,TK.arr.injEq,reduceCtorEq]at hk'
 obtain⟨rfl,rfl⟩:=hk';exact hd
theorem qZ.str{t:TypeId}{ti:TI}(h:qZ P t ti)(hk:ti.k=.str):P.underlying t=some .string:=by
 obtain⟨d,hd,hk'⟩:=h.und;rw[hk]at hk';cases d<;>simp only[TK.of,reduceCtorEq]at hk'
 exact hd
theorem qZ.bool{t:TypeId}{ti:TI}(h:qZ P t ti)(hk:ti.k=.bool):P.underlying t=some .bool:=by
 obtain⟨d,hd,hk'⟩:=h.und;rw[hk]at hk';cases d<;>simp only[TK.of,reduceCtorEq]at hk'
 exact hd
theorem qZ.int{t:TypeId}{k:IntKind}{ti:TI}(h:qZ P t ti)(hk:ti.k=.int k):P.underlying t=some (.int k):=by
 obtain⟨d,hd,hk'⟩:=h.und;rw[hk]at hk';cases d<;>simp only[TK.of,TK.int.injEq,reduceCtorEq]at hk'
 subst hk';exact hd
theorem qZ.ptr{t e:TypeId}{ti:TI}(h:qZ P t ti)(hk:ti.k=.ptr e):P.underlying t=some (.pointer e):=by
 obtain⟨d,hd,hk'⟩:=h.und;rw[hk]at hk';cases d<;>simp only[TK.of,TK.ptr.injEq,reduceCtorEq]at hk'
 subst hk';exact hd
theorem qZ.iface{t:TypeId}{b:Bool}{ti:TI}(h:qZ P t ti)(hk:ti.k=.iface b):∃ ms,P.underlying t=some (.interface ms):=by
 obtain⟨d,hd,hk'⟩:=h.und;rw[hk]at hk';cases d<;>simp only[TK.of,reduceCtorEq]at hk'
 exact⟨_,hd⟩
theorem qZ.struct{t:TypeId}{fs:List (Nat × TypeId)}{ti:TI}(h:qZ P t ti)(hk:ti.k=.struct fs):∃ ff:Array Field,P.underlying t=some (.struct ff)/\fs=ff.toList.map λf=>(f.offset,f.type):=by
 obtain⟨d,hd,hk'⟩:=h.und;rw[hk]at hk';cases d<;>simp only[TK.of,TK.struct.injEq,reduceCtorEq]at hk'
 exact⟨_,hd,hk'.symm⟩
theorem qZ.sizeOf{t:TypeId}{ti:TI}(h:qZ P t ti):(sizeOf t).run P w=.ok ti.size w:=by
 obtain⟨i,z,hi,hs,_⟩:=h.i;simp[Go.sizeOf,typeInfo,hi,hs]
theorem qZ.isAgg{t:TypeId}{ti:TI}(h:qZ P t ti):(Go.isAgg t).run P w=.ok ti.k.isAgg w:=by
 obtain⟨d,hd,hk⟩:=h.und;rw[<- hk];simp only[Go.isAgg,Sem.run_bind,run_underlying hd,Result.andThen_ok];cases d<;>rfl
theorem zFx{b off:Nat}{cs:List Value}(h:Cells w b off cs):(loadCells ⟨b,off,none⟩ cs.length).run P w=.ok cs.toArray w :=
 run_loadCells_list (P:=P) w ⟨b,off,none⟩ cs λj v hv=>by
  have:=h j v hv;simpa [Addr.add_lit]using this
theorem Np{t:TypeId}{ti:TI}(h:qZ P t ti){b off:Nat}{c:List L}{cs:List Value}{v:V}(hc:Cells w b off cs)(hl:aG β w N c cs)(hs:cs.length=ti.size)(hv:mkV ti.k.isAgg c=some v):∃ x,(loadVar t ⟨b,off,none⟩).run P w=.ok x w/\v.Rel β w N x:=by
 cases ha:ti.k.isAgg with
 |true =>
  rw[ha]at hv;simp only[mkV,aA]at hv;subst hv;refine⟨.agg cs.toArray,?_,⟨cs,rfl,hl⟩⟩;simp only[loadVar,Sem.run_bind,h.isAgg,Result.andThen_ok,ha,if_true,h.sizeOf];rw[<- hs,zFx hc];rfl
 |false =>
  rw[ha]at hv;match c,hv with
  |[l],hv =>
   simp only[mkV,aA]at hv;subst hv;obtain⟨c1,c2,e,h1,h2⟩:=hl;simp only[aG]at h2;subst h2;rw[List.append_nil]at e;subst e;have:ti.size=1:=by
    obtain⟨i,z,_,hsz,_,_,_,hz,hag⟩:=h.i;rw[ha]at hag;rw[<- hsz,<- hz];cases z<;>first|rfl|simp[Qk]at hag
   rw[this]at hs;obtain⟨x,rfl⟩:∃ x,cs=[x]:=by
    match cs,hs with
    |[x],_=>exact⟨x,rfl⟩
   refine⟨x,?_,h1⟩;have:=hc 0 x rfl;simp only[Nat.add_zero]at this;simp[loadVar,Sem.run_bind,h.isAgg,Result.andThen_ok,ha,run_load,this]
theorem Cells.of_heap{b:Nat}{cs:Array Value}{e:TypeId}{f:Nat × Nat}(h:w.heap[b]?=some (.cells cs e f)):Cells w b 0 cs.toList:=λj c hj=>by
 simp only[World.cell?,Nat.zero_add,h];simpa using hj
theorem Cells.sub{b o off n:Nat}{cs:List Value}(h:Cells w b o cs):Cells w b (o+off) ((cs.drop off).take n):=(h.drop off).take n
theorem Tt{C:Ctx}{σh:List Ob}{t:TypeId}{l:L}{v:V}{x:Value}(hT:bM C.P T)(h:loadAt T σh t l=some (true,v))(hh:fB C β σh w)(hl:l.Rel β w (C.N β σh) [x]):∃ y,(Instr.loadAt t x).run C.P w=.ok y w/\v.Rel β w (C.N β σh) y:=by
 unfold loadAt at h;split at h
 ·cases h
 ·rename_i ti hti;have hok:=hT _ _ hti;split at h
  ·rename_i id off;split at h
   ·rename_i e ls ho;split at h
    ·rename_i c hc;cases hv:mkV ti.k.isAgg c with
     |none=>rw[hv]at h;cases h
     |some v' =>
      rw[hv]at h;simp only[Option.map_some,aA,aB,true_and]at h;subst h;have hob:=hh.obj id _ ho;simp only[Ob.Rel]at hob;obtain⟨_,_,b,cs,hb,hls,hheap⟩:=hob;simp only[L.Rel]at hl;obtain⟨_,_,b',hb',hx⟩:=hl;rw[hb]at hb';simp only[aA]at hb';subst hb';simp only[aJ,and_true]at hx;subst hx;obtain⟨hr,hle⟩:=wX hc hls;have hcs:=Cells.of_heap hheap;obtain⟨y,hy,hv'⟩:=Np hok (b:=b) (off:=0+off) (hcs.sub (n:=ti.size)) hr (by simp;omega) hv;rw[Nat.zero_add]at hy;exact⟨y,by simpa [Instr.loadAt,Instr.sureAddr]using hy,hv'⟩
    ·cases h
   ·cases h
  ·rename_i id off es i sub;split at h
   ·rename_i e ls ho;split at h
    ·rename_i n te xs rest hsp;split at h
     ·rename_i hes;split at h
      ·rename_i c hc;cases hv:mkV ti.k.isAgg c with
       |none=>rw[hv]at h;cases h
       |some v' =>
        rw[hv]at h;simp only[Option.map_some,aA,aB]at h;obtain⟨hi,rfl⟩:=h;have hi:=of_decide_eq_true hi;have hob:=hh.obj id _ ho;simp only[Ob.Rel]at hob;obtain⟨_,_,b,cs,hb,hls,hheap⟩:=hob;simp only[L.Rel]at hl;obtain⟨_,_,b',hb',hx⟩:=hl;rw[hb]at hb';simp only[aA]at hb';subst hb';simp only[aJ,and_true]at hx;subst hx;obtain⟨_,hr,_⟩:=xR hsp hls;obtain⟨c1,c2,e1,h1,h2⟩:=hr;simp only[L.Rel,Ty.Rel]at h1;obtain⟨hn,css,e2,hall⟩:=h1;have hlen:∀ c∈css,c.length=es:=λc hc=>by
         obtain⟨y,_,hy⟩:=hall.mem_right c hc;rw[hy.length,hes]
        have hi1:i<css.length:=by rw[<- hall.length,hn];exact hi
        have hrel:=hall.get i (by rw[hn];exact hi) hi1;have hcs:=(Cells.of_heap hheap).drop off;rw[e1,e2]at hcs;have hcs:=hcs.left;have hcs2:Cells w b (0+off+i*es) css[i]:=λj c hj=>by
         have hj':j<es:=by rw[<- hlen css[i] (List.getElem_mem hi1)];exact(bE.1 hj).1
         have:=hcs (i*es+j) c (by rw[Fa css hlen i j hi1 hj',hj])
         rwa [show 0+off+(i*es+j)=0+off+i*es+j by omega]at this
        have hget:xs.getD i te.dflt=xs[i]'(by rw[hn];exact hi):=by
         simp only[List.getD_eq_getElem?_getD];rw[List.getElem?_eq_getElem (by rw[hn];exact hi)];rfl
        rw[hget]at hc;obtain⟨hr,hle⟩:=wX (β:=β) hc (lC hrel);obtain⟨y,hy,hv'⟩:=Np hok (b:=b) (off:=0+off+i*es+sub) (hcs2.sub (n:=ti.size)) hr (by simp;omega) hv;rw[Nat.zero_add]at hy;exact⟨y,by simpa [Instr.loadAt,Instr.sureAddr]using hy,hv'⟩
      ·cases h
     ·cases h
    ·cases h
   ·cases h
  ·rename_i id ver i off;split at h
   ·rename_i e te vv rows wr ho;split at h
    ·rename_i c hc;cases hv:mkV ti.k.isAgg c with
     |none=>rw[hv]at h;cases h
     |some v' =>
      rw[hv]at h;simp only[Option.map_some,aA,aB,aD]at h;obtain⟨⟨kS,hi⟩,rfl⟩:=h;have kS:=aK kS;have hi:=of_decide_eq_true hi;have hob:=hh.obj id _ ho;simp only[Ob.Rel]at hob;obtain⟨_,_,hpv,hpz,hpos,zOt,hob⟩:=hob;simp only[L.Rel]at hl;obtain⟨_,_,_,c0,hc0,_,himp⟩:=hl;obtain⟨b',hb',hx⟩:=himp (by rw[hpv,kS]);simp only[aJ,and_true]at hc0;subst hc0;rcases hob with ⟨hnb,_⟩|⟨b,cur,css,hb,hheap,hall,htake,hcap,_,_⟩
      ·rw[hnb]at hb';cases hb'
      ·rw[hb]at hb';simp only[aA]at hb';subst hb';subst hx;have hlen:∀ c∈css,c.length=te.size:=λc hc=>by
        obtain⟨y,_,hy⟩:=hall.mem_right c hc;exact hy.length
       have hi1:i<css.length:=by rw[<- hall.length];exact hi
       have hrel:=hall.get i hi hi1;have hcs:=(Cells.of_heap hheap).take (rows.length*te.size);rw[htake]at hcs;have hcs2:Cells w b (0+i*te.size) css[i]:=λj c hj=>by
        have hj':j<te.size:=by rw[<- hlen css[i] (List.getElem_mem hi1)];exact(bE.1 hj).1
        have:=hcs (i*te.size+j) c (by rw[Fa css hlen i j hi1 hj',hj])
        rwa [show 0+(i*te.size+j)=0+i*te.size+j by omega]at this
       have hget:rows.getD i te.dflt=rows[i]:=by
        simp only[List.getD_eq_getElem?_getD];rw[List.getElem?_eq_getElem hi];rfl
       rw[hget]at hc;obtain⟨hr,hle⟩:=wX (β:=β) hc (lC hrel);obtain⟨y,hy,hv'⟩:=Np hok (b:=b) (off:=0+i*te.size+off) (hcs2.sub (n:=ti.size)) hr (by simp;omega) hv;rw[Nat.zero_add]at hy;exact⟨y,by simpa [Instr.loadAt,Instr.sureAddr,hpz]using hy,hv'⟩
    ·cases h
   ·rename_i e ei vv rows ls ho;split at h
    ·rename_i c hc;cases hv:mkV ti.k.isAgg c with
     |none=>rw[hv]at h;cases h
     |some v' =>
      rw[hv]at h;simp only[Option.map_some,aA,aB,aD]at h;obtain⟨⟨kS,hi⟩,rfl⟩:=h;have kS:=aK kS;have hi:=of_decide_eq_true hi;subst hi;have hob:=hh.obj id _ ho;simp only[Ob.Rel]at hob;obtain⟨_,_,hpv,hpz,hpl,b,cur,cs,cs2,bs,hb,hheap,hcap,_,_,_,_,_,hfr,htop,htake⟩:=hob;simp only[L.Rel]at hl;obtain⟨_,_,_,c0,hc0,_,himp⟩:=hl;obtain⟨b',hb',hx⟩:=himp (by rw[hpv,kS]);simp only[aJ,and_true]at hc0;subst hc0;rw[hb]at hb';simp only[aA]at hb';subst hb';subst hx;obtain⟨hls,hl4⟩:=htop;have hcs:=(Cells.of_heap hheap).take ((β id).len*4);rw[htake]at hcs;have hcs2:=hcs.right;rw[hfr.length]at hcs2;obtain⟨hr,hle⟩:=wX hc hls;obtain⟨y,hy,hv'⟩:=Np hok (b:=b) (off:=0+rows.length*4+off) (hcs2.sub (n:=ti.size)) hr (by simp;omega) hv;rw[Nat.zero_add]at hy;exact⟨y,by simpa [Instr.loadAt,Instr.sureAddr,hpz]using hy,hv'⟩
    ·cases h
   ·rename_i e ei vv rows ho;split at h
    ·rename_i c hc;cases hv:mkV ti.k.isAgg c with
     |none=>rw[hv]at h;cases h
     |some v' =>
      rw[hv]at h;simp only[Option.map_some,aA,aB,aD]at h;obtain⟨⟨kS,hi⟩,rfl⟩:=h;have kS:=aK kS;have hi:=of_decide_eq_true hi;have hob:=hh.obj id _ ho;simp only[Ob.Rel]at hob;obtain⟨_,_,hpv,hpz,hpl,b,cur,cs,cs2,bs,hb,hheap,hcap,_,_,_,_,_,hfr,htop,htake⟩:=hob;simp only[Vk]at htop;subst htop;simp only[L.Rel]at hl;obtain⟨_,_,_,c0,hc0,_,himp⟩:=hl;obtain⟨b',hb',hx⟩:=himp (by rw[hpv,kS]);simp only[aJ,and_true]at hc0;subst hc0;rw[hb]at hb';simp only[aA]at hb';subst hb';subst hx;have hcs:=(Cells.of_heap hheap).take ((β id).len*4);rw[htake,List.append_nil]at hcs;obtain⟨u1,u2,gg,o1,o2⟩:=hfr.get i rows[i] (by simp[hi]);have hcs2:Cells w b (0+i*4) [.int .i64 rows[i].1,.int .i64 rows[i].2.1,u1,u2]:=by
       rw[<- gg];exact hcs.sub (off:=i*4) (n:=4)
      have hget:rows.getD i (0,0,[],[],())=rows[i]:=by
       simp only[List.getD_eq_getElem?_getD];rw[List.getElem?_eq_getElem hi];rfl
      rw[hget]at hc;have hls:aG β w (C.N β σh) [.val (.int .i64) rows[i].1,.val (.int .i64) rows[i].2.1,.bad 1,.bad 1] [.int .i64 rows[i].1,.int .i64 rows[i].2.1,u1,u2]:=by
       refine⟨[_],_,rfl,by simp only[L.Rel,Ty.Rel],[_],_,rfl,by simp only[L.Rel,Ty.Rel],[u1],[u2],rfl,?_,[u2],[],rfl,?_,rfl⟩
       ·simp only[L.Rel];exact⟨rfl,λc hc=>by simp at hc;subst hc;exact o1⟩
       ·simp only[L.Rel];exact⟨rfl,λc hc=>by simp at hc;subst hc;exact o2⟩
      obtain⟨hr,hle⟩:=wX hc hls;obtain⟨y,hy,hv'⟩:=Np hok (b:=b) (off:=0+i*4+off) (hcs2.sub (n:=ti.size)) hr (by simp at hle ⊢;omega) hv;rw[Nat.zero_add]at hy;exact⟨y,by simpa [Instr.loadAt,Instr.sureAddr,hpz]using hy,hv'⟩
    ·cases h
   ·cases h
  ·rename_i te y off;split at h
   ·rename_i c hc;cases hv:mkV ti.k.isAgg c with
    |none=>rw[hv]at h;cases h
    |some v' =>
     rw[hv]at h;simp only[Option.map_some,aA,aB,true_and]at h;subst h;simp only[L.Rel]at hl;obtain⟨c0,hc0,b,o,cs,rfl,hb,hn,hrel,hcs⟩:=hl;simp only[aJ,and_true]at hc0;subst hc0;obtain⟨hr,hle⟩:=wX (β:=β) hc (lC hrel);obtain⟨y,hy,hv'⟩:=Np hok (b:=b) (off:=o+off) (hcs.sub (n:=ti.size)) hr (by simp;omega) hv;exact⟨y,by simpa [Instr.loadAt,Instr.sureAddr]using hy,hv'⟩
   ·cases h
  ·cases h
end
end Go.Dec
namespace Go.Dec
section
variable {β:Nat->Pl}
variable {w:World}
variable {T:Tab}
variable {C:Ctx}
theorem addr_add(b o n:Nat):(⟨b,o,none⟩:Addr).add n=⟨b,o+n,none⟩:=by
 simp[Addr.add_lit]
theorem zMp{σh:List Ob}{l:L}{cs:List Value}(hh:fB C β σh w)(hl:l.Rel β w (C.N β σh) cs):(l.view σh).Rel β w (C.N β σh) cs:=by
 cases l with
 |own id ver =>
  simp only[L.view];split
  ·rename_i e t v rows wr ho;have hob:=hh.obj _ _ ho;simp only[Ob.Rel]at hob;obtain⟨_,_,_,_,_,hlen,_⟩:=hob;simp only[L.Rel]at hl ⊢
   rwa [hlen]at hl
  ·rename_i e ei v rows top ho;have hob:=hh.obj _ _ ho;simp only[Ob.Rel]at hob;obtain⟨_,_,_,_,hlen,_⟩:=hob;simp only[L.Rel]at hl ⊢
   rwa [hlen]at hl
  ·simp only[L.Rel]at hl ⊢;obtain⟨_,_,_,c,rfl,hc,_⟩:=hl;exact⟨rfl,by intro x hx;simp at hx;subst hx;exact hc⟩
 |_=>exact hl
theorem yEe{σh:List Ob}{t:TypeId}{ti:TI}{l l':L}{x:Value}{k:IntKind}{i:Int}(hT:bM C.P T)(ht:T.get t=some ti)(h:Bn T σh ti.k l i=some (true,l'))(hh:fB C β σh w)(hl:l.Rel β w (C.N β σh) [x]):∃ y,(Instr.indexAt t x (.int k i)).run C.P w=.ok y w/\l'.Rel β w (C.N β σh) [y]:=by
 have hok:=hT _ _ ht;unfold Bn at h;split at h
 ·rename_i e te xs hk;split at h
  ·rename_i tie hte;split at h
   ·rename_i hsz;simp only[aA,aB]at h;obtain⟨hi,rfl⟩:=h;obtain⟨h0,h1,h2⟩:=Dm hi;simp only[L.Rel,Ty.Rel]at hl;obtain⟨x',e1,hs⟩:=hl;simp only[aJ,and_true]at e1;subst e1;rcases hs with ⟨_,rfl⟩|⟨b,off,cap,css,rfl,hb,hn,hlc,hm,hall,hlen,hcs⟩|⟨_,_,_,rfl,_⟩
    rotate_left 2
    ·simp at h2
    ·simp at h2
    ·have hi1:i.toNat<css.length:=by rw[<- hall.length];exact h2
     have hrel:=hall.get i.toNat h2 hi1;have hcs2:Cells w b (off+i.toNat*te.size) css[i.toNat]:=λj c hj=>by
      have hj':j<te.size:=by rw[<- hlen css[i.toNat] (List.getElem_mem hi1)];exact(bE.1 hj).1
      have:=hcs (i.toNat*te.size+j) c (by rw[Fa css hlen i.toNat j hi1 hj',hj])
      rwa [show off+(i.toNat*te.size+j)=off+i.toNat*te.size+j by omega]at this
     have hget:aV te.dflt xs i=xs[i.toNat]:=by
      simp only[aV,List.getD_eq_getElem?_getD];rw[List.getElem?_eq_getElem h2];rfl
     refine⟨.pointer (some ⟨b,off+i.toNat*te.size,none⟩),?_,?_⟩
     ·simp only[Instr.indexAt,asIntOf,Sem.run_bind,Sem.run_pure,Result.andThen_ok,run_underlying (hok.slice hk),h0,h1,and_self,if_true,(hT _ _ hte).sizeOf,addr_add,hsz]
     ·simp only[L.Rel];exact⟨_,rfl,b,off+i.toNat*te.size,css[i.toNat],rfl,hb,λj g1 g2=>hn j (by omega) (by rw[hlen _ (List.getElem_mem hi1)]at g2;have:=zUj (n:=te.size) h2;omega),by rw[hget];exact hrel,hcs2⟩
   ·cases h
  ·cases h
 ·rename_i e id ver off len hk;split at h
  ·rename_i _ _ e' te v rows wr tie ho hte;split at h
   ·rename_i hsz;simp only[aA,aB,aD]at h;obtain⟨⟨⟨kS,hi⟩,hle⟩,rfl⟩:=h;have kS:=aK kS;have hle:=of_decide_eq_true hle;obtain⟨h0,h1,h2⟩:=Dm hi;have hob:=hh.obj id _ ho;simp only[Ob.Rel]at hob;obtain⟨hlive,mV,hpv,hpz,hpos,zOt,hob⟩:=hob;simp only[L.Rel]at hl;obtain⟨_,_,_,c0,hc0,_,himp⟩:=hl;have hsl:=himp (by rw[hpv,kS]);simp only[aJ,and_true]at hc0;subst hc0;unfold eO at hsl;rcases hob with ⟨hnb,hr0,_⟩|⟨b,cur,css,hb,hheap,hall,htake,hcap,_,_⟩
    ·rw[hnb]at hsl;simp only at hsl;omega
    ·rw[hb]at hsl;simp only at hsl;obtain⟨hoff,o,rfl,ho'⟩:=hsl;have ho':o=off*(β id).size:=by
      rcases ho' with h|h
      ·exact h
      ·omega
     refine⟨.pointer (some ⟨b,o+i.toNat*te.size,none⟩),?_,?_⟩
     ·simp only[Instr.indexAt,asIntOf,Sem.run_bind,Sem.run_pure,Result.andThen_ok,run_underlying (hok.slice hk),h0,h1,and_self,if_true,(hT _ _ hte).sizeOf,addr_add,hsz]
     ·simp only[L.Rel];refine⟨hlive,mV,by omega,_,rfl,⟨_,_,rfl⟩,λ_=>⟨b,hb,?_⟩⟩;rw[ho',hpz,Nat.add_mul,Nat.add_zero]
   ·cases h
  ·rename_i _ _ e' ei v rows top tie ho hte;split at h
   ·rename_i hsz;simp only[aA,aB,aD]at h;obtain⟨⟨⟨kS,hi⟩,hle⟩,rfl⟩:=h;have kS:=aK kS;have hle:=of_decide_eq_true hle;obtain⟨h0,h1,h2⟩:=Dm hi;have hob:=hh.obj id _ ho;simp only[Ob.Rel]at hob;obtain⟨hlive,mV,hpv,hpz,zOt,b,cur,cs,cs2,bs,hb,hheap,hcap,hlc,hob⟩:=hob;simp only[L.Rel]at hl;obtain⟨_,_,_,c0,hc0,_,himp⟩:=hl;have hsl:=himp (by rw[hpv,kS]);simp only[aJ,and_true]at hc0;subst hc0;unfold eO at hsl;rw[hb]at hsl;simp only at hsl;obtain⟨hoff,o,rfl,ho'⟩:=hsl;have ho':o=off*(β id).size:=by
     rcases ho' with h|h
     ·exact h
     ·omega
    refine⟨.pointer (some ⟨b,o+i.toNat*4,none⟩),?_,?_⟩
    ·simp only[Instr.indexAt,asIntOf,Sem.run_bind,Sem.run_pure,Result.andThen_ok,run_underlying (hok.slice hk),h0,h1,and_self,if_true,(hT _ _ hte).sizeOf,addr_add,hsz]
    ·simp only[L.Rel];refine⟨hlive,mV,by omega,_,rfl,⟨_,_,rfl⟩,λ_=>⟨b,hb,?_⟩⟩;rw[ho',hpz,Nat.add_mul,Nat.add_zero]
   ·cases h
  ·cases h
 ·rename_i n e id off hk;split at h
  ·rename_i tie hte;simp only[aA,aB]at h;obtain⟨hi,rfl⟩:=h;obtain⟨h0,h1,h2⟩:=Dm hi;simp only[L.Rel]at hl;obtain⟨hlive,mV,b,hb,hx⟩:=hl;simp only[aJ,and_true]at hx;subst hx;refine⟨.pointer (some ⟨b,off+i.toNat*tie.size,none⟩),?_,?_⟩
   ·simp only[Instr.indexAt,asIntOf,Sem.run_bind,Sem.run_pure,Result.andThen_ok,run_underlying (hok.arr hk),Instr.sureAddr,h0,h1,and_self,if_true,(hT _ _ hte).sizeOf,addr_add]
   ·simp only[L.Rel];exact⟨hlive,mV,b,hb,rfl⟩
  ·cases h
 ·rename_i n e t0 x0 off hk;split at h
  ·rename_i tie hte;split at h
   ·rename_i m te xs htk;split at h
    ·rename_i hc;obtain⟨rfl,hsz⟩:=hc;simp only[aA,aB]at h;obtain⟨hi,rfl⟩:=h;obtain⟨h0,h1,h2⟩:=Dm hi;simp only[L.Rel]at hl;obtain⟨c0,hc0,b,o,cs,rfl,hb,hn,hrel,hcs⟩:=hl;simp only[aJ,and_true]at hc0;subst hc0;obtain⟨hr,hle⟩:=wX (β:=β) htk (lC hrel);obtain⟨d1,d2,e1,hr1,hr2⟩:=hr;simp only[aG]at hr2;subst hr2;rw[List.append_nil]at e1;simp only[L.Rel,Ty.Rel]at hr1;obtain⟨hxl,css,e2,hall⟩:=hr1;have hlen:∀ c∈css,c.length=te.size:=λc hc=>by
      obtain⟨y,_,hy⟩:=hall.mem_right c hc;exact hy.length
     have hi0:i.toNat<xs.length:=by rw[hxl];exact h2
     have hi1:i.toNat<css.length:=by rw[<- hall.length];exact hi0
     have xBp:=hall.get i.toNat hi0 hi1;have hcs2:=hcs.sub (off:=off) (n:=m*tie.size);rw[e1,e2]at hcs2;have xDb:Cells w b (o+off+i.toNat*te.size) css[i.toNat]:=λj c hj=>by
      have hj':j<te.size:=by rw[<- hlen css[i.toNat] (List.getElem_mem hi1)];exact(bE.1 hj).1
      have:=hcs2 (i.toNat*te.size+j) c (by rw[Fa css hlen i.toNat j hi1 hj',hj])
      rwa [show o+off+(i.toNat*te.size+j)=o+off+i.toNat*te.size+j by omega]at this
     have hget:aV te.dflt xs i=xs[i.toNat]:=by
      simp only[aV,List.getD_eq_getElem?_getD];rw[List.getElem?_eq_getElem hi0];rfl
     refine⟨.pointer (some ⟨b,o+off+i.toNat*te.size,none⟩),?_,?_⟩
     ·simp only[Instr.indexAt,asIntOf,Sem.run_bind,Sem.run_pure,Result.andThen_ok,run_underlying (hok.arr hk),Instr.sureAddr,h0,h1,and_self,if_true,(hT _ _ hte).sizeOf,addr_add,hsz]
     ·simp only[L.Rel];have hln:css.flatten.length<=cs.length-off:=by
       rw[<- e2,<- e1,List.length_take,List.length_drop];exact Nat.min_le_right _ _
      have hoff:css.flatten.length=xs.length*te.size:=by rw[cB css hlen,<- hall.length]
      exact⟨_,rfl,b,o+off+i.toNat*te.size,css[i.toNat],rfl,hb,λj g1 g2=>hn j (by omega) (by
       rw[hlen _ (List.getElem_mem hi1)]at g2;have:=zUj (n:=te.size) hi0;omega),by rw[hget];exact xBp,xDb⟩
    ·cases h
   ·cases h
  ·cases h
 ·cases h
theorem zYx{σh:List Ob}{s ft:TypeId}{ti tf:TI}{fs:List (Nat × TypeId)}{f off:Nat}{l l':L}{x:Value}(hT:bM C.P T)(ht:T.get s=some ti)(hk:ti.k=.struct fs)(hf:fs[f]?=some (off,ft))(htf:T.get ft=some tf)(hz:0<tf.size)(h:Vl σh l off=some (true,l'))(hh:fB C β σh w)(hl:l.Rel β w (C.N β σh) [x]):∃ y,(Instr.fieldAt s x f).run C.P w=.ok y w/\l'.Rel β w (C.N β σh) [y]:=by
 obtain⟨ff,hu,rfl⟩:=(hT _ _ ht).struct hk;simp only[List.getElem?_map,Option.map_eq_some_iff,aB,Array.getElem?_toList]at hf;obtain⟨fld,xDc,rfl,rfl⟩:=hf;have yXp:∀ (b o:Nat),(fieldPlace ⟨b,o,none⟩ fld).run C.P w=.ok ⟨b,o+fld.offset,none⟩ w:=λb o=>by
  have:¬ tf.size=0:=by omega
  simp only[fieldPlace,Sem.run_bind,(hT _ _ htf).sizeOf,Result.andThen_ok,this,if_false,Sem.run_pure,addr_add]
 have hrun:∀ (b o:Nat),x=.pointer (some ⟨b,o,none⟩)->(Instr.fieldAt s x f).run C.P w=.ok (.pointer (some ⟨b,o+fld.offset,none⟩)) w:=λb o hx=>by
  subst hx;simp only[Instr.fieldAt,Sem.run_bind,run_underlying hu,Result.andThen_ok,xDc,Instr.sureAddr,Sem.run_pure,yXp]
 cases l<;>simp only[Vl,reduceCtorEq,aA,aB,true_and]at h
 ·subst h;simp only[L.Rel]at hl ⊢;obtain⟨h1,h2,b,hb,hx⟩:=hl;simp only[aJ,and_true]at hx;exact⟨_,hrun b _ hx,h1,h2,b,hb,rfl⟩
 ·subst h;simp only[L.Rel]at hl ⊢;obtain⟨h1,h2,b,hb,hx⟩:=hl;simp only[aJ,and_true]at hx;exact⟨_,hrun b _ hx,h1,h2,b,hb,by rw[Nat.add_assoc]⟩
 ·subst h;simp only[L.Rel]at hl ⊢;obtain⟨h1,h2,h3,c0,hc0,⟨q,o,rfl⟩,himp⟩:=hl;simp only[aJ,and_true]at hc0;refine⟨_,hrun q _ hc0,h1,h2,h3,_,rfl,⟨_,_,rfl⟩,λhv=>?_⟩;obtain⟨b,hb,hx⟩:=himp hv;simp only[Value.pointer.injEq,aA,Addr.mk.injEq,and_true]at hx;obtain⟨rfl,rfl⟩:=hx;exact⟨_,hb,by rw[Nat.add_assoc]⟩
 ·subst h;simp only[L.Rel]at hl ⊢;obtain⟨c0,hc0,b,o,cs,hx,hb,hn,hrel,hcs⟩:=hl;simp only[aJ,and_true]at hc0;subst hc0;exact⟨_,hrun b _ hx,_,rfl,b,o,cs,by rw[Nat.add_assoc],hb,hn,hrel,hcs⟩
theorem yVp{σh:List Ob}{t:TypeId}{ti:TI}{v v':V}{x:Value}{k:IntKind}{i:Int}(hT:bM C.P T)(ht:T.get t=some ti)(hk:ti.k=.str)(h:idx v i=some (true,v'))(hl:v.Rel β w (C.N β σh) x):∃ y,(Instr.index t x (.int k i)).run C.P w=.ok y w/\v'.Rel β w (C.N β σh) y:=by
 unfold idx at h;split at h
 ·rename_i s;simp only[aA,aB]at h;obtain⟨hi,rfl⟩:=h;obtain⟨h0,h1,h2⟩:=Dm hi;simp only[V.Rel,L.Rel,Ty.Rel,aJ,and_true]at hl;subst hl;have hget:aV 0 s i=s[i.toNat]:=by
   simp only[aV,List.getD_eq_getElem?_getD];rw[List.getElem?_eq_getElem h2];rfl
  have hb:(ByteArray.mk s.toArray)[i.toNat]?=some s[i.toNat]:=by
   have hsz:i.toNat<(ByteArray.mk s.toArray).size:=by rw[size_mk];exact h2
   rw[getElem?_pos (ByteArray.mk s.toArray) i.toNat hsz];rfl
  refine⟨.int .u8 s[i.toNat].toNat,?_,?_⟩
  ·simp only[Instr.index,asIntOf,Sem.run_bind,Sem.run_pure,Result.andThen_ok,run_underlying ((hT _ _ ht).str hk),h0,if_true,hb]
  ·simp only[V.Rel,L.Rel,Ty.Rel,hget]
 ·cases h
theorem wZ{isSlice:Bool}{n cap:Nat}{lo hi:Option Int}{kl kh:IntKind}(hc:n<=cap)(h:(bounds n lo hi).1=true):(Instr.sliceBounds isSlice n cap (lo.map (.int kl)) (hi.map (.int kh)) none).run C.P w=.ok ((bounds n lo hi).2.1,(bounds n lo hi).2.2,cap) w/\(bounds n lo hi).2.1<=(bounds n lo hi).2.2/\(bounds n lo hi).2.2<=n:=by
 cases lo with
 |none =>
  cases hi with
  |none=>simp[Instr.sliceBounds,bounds]
  |some y =>
   simp only[bounds,aD,decide_eq_true_eq]at h;have hy:y<=(cap:Int):=by omega
   simp only[Instr.sliceBounds,Option.map_none,Option.map_some,Sem.run_bind,Sem.run_pure,Result.andThen_ok,Instr.sliceBound,asIntOf,h.1,hy,and_self,if_true,bounds];exact⟨trivial,by omega,by omega⟩
 |some x =>
  cases hi with
  |none =>
   simp only[bounds,aD,decide_eq_true_eq]at h;simp only[Instr.sliceBounds,Option.map_none,Option.map_some,Sem.run_bind,Sem.run_pure,Result.andThen_ok,Instr.sliceBound,asIntOf,h.1,h.2,and_self,if_true,bounds];exact⟨trivial,by omega,by omega⟩
  |some y =>
   simp only[bounds,aD,decide_eq_true_eq]at h;have hy:y<=(cap:Int):=by omega
   have hx:x<=((y.toNat:Nat):Int):=by omega
   simp only[Instr.sliceBounds,Option.map_some,Sem.run_bind,Sem.run_pure,Result.andThen_ok,Instr.sliceBound,asIntOf,h.1.1,hy,h.2.1,hx,and_self,if_true,bounds];exact⟨trivial,by omega,by omega⟩
theorem zOu{α:Type}(xs:List α)(lo hi:Option Int)(h:(bounds xs.length lo hi).1=true):cut xs lo hi=(xs.take (bounds xs.length lo hi).2.2).drop (bounds xs.length lo hi).2.1:=by
 cases lo<;>cases hi<;>simp[cut,bounds]
theorem extract_mk(s:List UInt8)(a b:Nat):(ByteArray.mk s.toArray).extract a b=ByteArray.mk ((s.take b).drop a).toArray:=by
 apply ByteArray.ext;rw[ByteArray.data_extract];simp[List.extract_eq_take_drop,List.drop_take]
theorem yPp{σh:List Ob}{t e:TypeId}{ti tie:TI}{te:Ty}{xs:List te.den}{x:Value}{k1 k2:IntKind}(hT:bM C.P T)(ht:T.get t=some ti)(hk:ti.k=.slice e)(hte:T.get e=some tie)(hsz:tie.size=te.size)(hl:(L.val (.slice te) xs).Rel β w (C.N β σh) [x]):∃ y,(Instr.sliceAt t x none (some (.int k1 (xs.length:Int))) (some (.int k2 (xs.length:Int)))).run C.P w=.ok y w/\(Ty.clip te).Rel w (C.N β σh) xs [y]:=by
 have hu:=(hT _ _ ht).slice hk;simp only[L.Rel,Ty.Rel]at hl;obtain⟨x',e1,hs⟩:=hl;simp only[aJ,and_true]at e1;subst e1;have run:∀ (ad:Option Addr) (cap:Nat),xs.length<=cap->(Instr.sliceAt t (.slice ad xs.length cap) none (some (.int k1 (xs.length:Int))) (some (.int k2 (xs.length:Int)))).run C.P w=.ok (.slice (if xs.length=0 then ad else ad.map (·.add (0*tie.size))) xs.length xs.length) w:=by
  intro ad cap hc;have hc':(xs.length:Int)<=(cap:Int):=by omega
  have h0:(0:Int)<=(xs.length:Int):=by omega
  simp only[Instr.sliceAt,Instr.slice,Sem.run_bind,run_underlying hu,Result.andThen_ok,Instr.sliceBounds,Instr.sliceBound,asIntOf,Sem.run_pure,hc',h0,Int.le_refl,and_self,if_true,Int.toNat_natCast,(hT _ _ hte).sizeOf,Nat.sub_zero]
 rcases hs with ⟨rfl,rfl⟩|⟨b,off,cap,css,rfl,hb,hn,hlc,hm,hr,hz,hc⟩|⟨ad,cap,rfl,rfl,hm⟩
 ·exact⟨_,run none 0 (aP _),_,rfl,.inl ⟨rfl,rfl⟩,_,_,rfl⟩
 ·refine⟨_,run (some ⟨b,off,none⟩) cap hlc,_,rfl,.inr (.inl ⟨b,off,xs.length,css,?_,hb,hn,aP _,by omega,hr,hz,hc⟩),_,_,rfl⟩;split<;>simp[addr_add]
 ·exact⟨_,run (some ad) cap (Nat.zero_le _),_,rfl,.inr (.inr ⟨ad,0,rfl,rfl,Nat.zero_le _⟩),_,_,rfl⟩
theorem yMd{σh:List Ob}{t:TypeId}{ti:TI}{l l':L}{x:Value}{lo hi:Option Int}{kl kh:IntKind}(hT:bM C.P T)(ht:T.get t=some ti)(h:slice ti.k l lo hi σh=some (true,l'))(hh:fB C β σh w)(hl:l.Rel β w (C.N β σh) [x])(hte:∀ e,ti.k=.slice e->∃ te,T.get e=some te/\(∀ a xs,l=.val (.slice a) xs->a.size=te.size)/\(∀ id ver off len,l=.sl id ver off len->te.size=(β id).size)):∃ y,(Instr.sliceAt t x (lo.map (.int kl)) (hi.map (.int kh)) none).run C.P w=.ok y w/\l'.Rel β w (C.N β σh) [y]:=by
 have hok:=hT _ _ ht;unfold slice at h;split at h
 ·rename_i s hk;simp only[aA,aB]at h;obtain⟨hb,rfl⟩:=h;simp only[L.Rel,Ty.Rel,aJ,and_true]at hl;subst hl;have hu:=hok.str hk;obtain⟨hr,_,_⟩:=wZ (C:=C) (w:=w) (isSlice:=false) (kl:=kl) (kh:=kh) (aP _) hb;refine⟨.string ⟨(cut s lo hi).toArray⟩,?_,by simp only[L.Rel,Ty.Rel]⟩;simp only[Instr.sliceAt,Instr.slice,Sem.run_bind,run_underlying hu,Result.andThen_ok,Option.isSome_none,Bool.false_eq_true,if_false,size_mk,hr,Sem.run_pure,extract_mk,zOu s lo hi hb]
 ·rename_i e te xs hk;simp only[aA,aB]at h;obtain⟨hb,rfl⟩:=h;obtain⟨tie,htie,hsz,_⟩:=hte e hk;have hsz:=hsz te xs rfl;simp only[L.Rel,Ty.Rel]at hl;obtain⟨x',e1,hs⟩:=hl;simp only[aJ,and_true]at e1;subst e1;have hu:=hok.slice hk;rcases hs with ⟨rfl,rfl⟩|⟨b,off,cap,css,rfl,hbl,hn,hlc,hm,hall,hlen,hcs⟩|⟨ad,cap,rfl,rfl,hcm⟩
  rotate_left 2
  ·obtain⟨hr,h3,h4⟩:=wZ (C:=C) (w:=w) (isSlice:=true) (kl:=kl) (kh:=kh) (Nat.zero_le cap) hb;have hcut:cut ([]:List te.den) lo hi=[]:=by rw[zOu _ _ _ hb];simp
   have h5:(bounds 0 lo hi).2.2=0:=by simpa using h4
   have h6:(bounds 0 lo hi).2.1=0:=by omega
   refine⟨.slice (some (if cap=0 then ad else ad.add (0*tie.size))) 0 cap,?_,by simp only[L.Rel,Ty.Rel,hcut];exact⟨_,rfl,.inr (.inr ⟨_,_,rfl,rfl,hcm⟩)⟩⟩;simp only[Instr.sliceAt,Instr.slice,Sem.run_bind,run_underlying hu,Result.andThen_ok,hr,(hT _ _ htie).sizeOf,Sem.run_pure,h5,h6];split<;>rfl
  ·obtain⟨hr,h3,h4⟩:=wZ (C:=C) (w:=w) (isSlice:=true) (kl:=kl) (kh:=kh) (aP 0) hb;have hcut:cut ([]:List te.den) lo hi=[]:=by rw[zOu _ _ _ hb];simp
   have h5:(bounds 0 lo hi).2.2=0:=by simpa using h4
   have h6:(bounds 0 lo hi).2.1=0:=by omega
   refine⟨.slice none 0 0,?_,by simp only[L.Rel,Ty.Rel,hcut];exact⟨_,rfl,.inl ⟨rfl,rfl⟩⟩⟩;simp only[Instr.sliceAt,Instr.slice,Sem.run_bind,run_underlying hu,Result.andThen_ok,hr,(hT _ _ htie).sizeOf,Sem.run_pure,h5,h6];rfl
  ·obtain⟨hr,h3,h4⟩:=wZ (C:=C) (w:=w) (isSlice:=true) (kl:=kl) (kh:=kh) hlc hb;generalize hlo:(bounds xs.length lo hi).2.1=a at *;generalize hhi:(bounds xs.length lo hi).2.2=c at *;have hcut:cut xs lo hi=(xs.take c).drop a:=by rw[zOu _ _ _ hb,hlo,hhi]
   have yHp:((xs.take c).drop a).length=c-a:=by simp;omega
   refine⟨.slice (some (if cap=a then⟨b,off,none⟩else(⟨b,off,none⟩:Addr).add (a*tie.size))) (c-a) (cap-a),?_,?_⟩
   ·simp only[Instr.sliceAt,Instr.slice,Sem.run_bind,run_underlying hu,Result.andThen_ok,hr,(hT _ _ htie).sizeOf,Sem.run_pure];split<;>rfl
   ·simp only[L.Rel,Ty.Rel];refine⟨_,rfl,.inr (.inl ⟨b,if cap=a then off else off+a*tie.size,cap-a,(css.take c).drop a,?_,hbl,?_,?_,by omega,?_,?_,?_⟩)⟩
    rotate_left 1
    ·intro j g1 g2;rw[hcut,yHp]at g2;split at g1
     ·rename_i hca;rw[if_pos hca]at g2;have:c-a=0:=by omega
      rw[this]at g2;omega
     ·rename_i hca;rw[if_neg hca]at g2;rw[<- hsz]at g1 g2;have hc2:c<=xs.length:=by omega
      rcases Nat.le_total a c with hac|hac
      ·have:=yHj (n:=te.size) hc2 hac;exact hn j (by omega) (by omega)
      ·rw[show c-a=0 by omega]at g2;omega
    rotate_left 4
    ·rw[hcut,yHp];split<;>simp[addr_add]
    ·rw[hcut,yHp];omega
    ·rw[hcut];exact(hall.take c).drop a
    ·intro d hd;exact hlen d (List.mem_of_mem_take (List.mem_of_mem_drop hd))
    ·have zXt:=hall.length;split
     ·rename_i hca;have:(css.take c).drop a=[]:=by apply List.drop_eq_nil_of_le;simp;omega
      rw[this];exact Cells.nil
     ·have h1:((css.take c).drop a).flatten=(css.flatten.take (c*te.size)).drop (a*te.size):=by
       rw[rX css hlen,oP (css.take c) λd hd=>hlen d (List.mem_of_mem_take hd)]
      rw[h1,<- hsz];exact(hcs.take _).drop _
 ·rename_i e id ver off len hk;split at h
  ·rename_i e' te v rows wr ho;simp only[aA,aB,aD]at h;obtain⟨⟨kS,hb⟩,rfl⟩:=h;have kS:=aK kS;obtain⟨tie,htie,_,hsz⟩:=hte e hk;have hsz:=hsz id ver off len rfl;have hob:=hh.obj id _ ho;simp only[Ob.Rel]at hob;obtain⟨hlive,mV,hpv,hpz,hpos,zOt,hob⟩:=hob;simp only[L.Rel]at hl;obtain⟨_,_,zYy,c0,hc0,_,himp⟩:=hl;have hsl:=himp (by rw[hpv,kS]);simp only[aJ,and_true]at hc0;subst hc0;have hu:=hok.slice hk;unfold eO at hsl;split at hsl
   ·rename_i hnb;obtain⟨rfl,rfl,rfl⟩:=hsl;obtain⟨hr,h3,h4⟩:=wZ (C:=C) (w:=w) (isSlice:=true) (kl:=kl) (kh:=kh) (aP 0) hb;have h5:(bounds 0 lo hi).2.2=0:=by simpa using h4
    have h6:(bounds 0 lo hi).2.1=0:=by omega
    refine⟨.slice none 0 0,?_,?_⟩
    ·simp only[Instr.sliceAt,Instr.slice,Sem.run_bind,run_underlying hu,Result.andThen_ok,hr,(hT _ _ htie).sizeOf,Sem.run_pure,h5,h6];rfl
    ·simp only[L.Rel];refine⟨hlive,mV,zYy,_,rfl,rfl,λ_=>?_⟩;unfold eO;rw[hnb];simp only[h5,h6];exact⟨trivial,trivial,trivial⟩
   ·rename_i b hbb;obtain⟨hoff,o,rfl,ho'⟩:=hsl;obtain⟨hr,h3,h4⟩:=wZ (C:=C) (w:=w) (isSlice:=true) (kl:=kl) (kh:=kh) (n:=len) (cap:=(β id).cap-off) (by omega) hb;generalize hlo:(bounds len lo hi).2.1=a at *;generalize hhi:(bounds len lo hi).2.2=c at *;refine⟨.slice (some (if(β id).cap-off=a then⟨b,o,none⟩else(⟨b,o,none⟩:Addr).add (a*tie.size))) (c-a) ((β id).cap-off-a),?_,?_⟩
    ·simp only[Instr.sliceAt,Instr.slice,Sem.run_bind,run_underlying hu,Result.andThen_ok,hr,(hT _ _ htie).sizeOf,Sem.run_pure];split<;>rfl
    ·simp only[L.Rel];refine⟨hlive,mV,zYy,_,rfl,rfl,λ_=>?_⟩;unfold eO;rw[hbb];simp only;refine⟨by omega,if(β id).cap-off=a then o else o+a*tie.size,?_,?_⟩
     ·rw[show(β id).cap-off-a=(β id).cap-(off+a)by omega];split<;>simp[addr_add]
     ·split
      ·by_cases h0:off+a=0
       ·left;have h1:off=0:=by omega
        rcases ho' with h|h
        ·rw[h,h0,h1]
        ·omega
       ·right;omega
      ·rcases ho' with h|h
       ·left;rw[h,hsz,Nat.add_mul]
       ·right;omega
  ·rename_i e' ei v rows top ho;simp only[aA,aB,aD]at h;obtain⟨⟨kS,hb⟩,rfl⟩:=h;have kS:=aK kS;obtain⟨tie,htie,_,hsz⟩:=hte e hk;have hsz:=hsz id ver off len rfl;have hob:=hh.obj id _ ho;simp only[Ob.Rel]at hob;obtain⟨hlive,mV,hpv,hpz,zOt,hob⟩:=hob;simp only[L.Rel]at hl;obtain⟨_,_,zYy,c0,hc0,_,himp⟩:=hl;have hsl:=himp (by rw[hpv,kS]);simp only[aJ,and_true]at hc0;subst hc0;have hu:=hok.slice hk;unfold eO at hsl;split at hsl
   ·rename_i hnb;obtain⟨rfl,rfl,rfl⟩:=hsl;obtain⟨hr,h3,h4⟩:=wZ (C:=C) (w:=w) (isSlice:=true) (kl:=kl) (kh:=kh) (aP 0) hb;have h5:(bounds 0 lo hi).2.2=0:=by simpa using h4
    have h6:(bounds 0 lo hi).2.1=0:=by omega
    refine⟨.slice none 0 0,?_,?_⟩
    ·simp only[Instr.sliceAt,Instr.slice,Sem.run_bind,run_underlying hu,Result.andThen_ok,hr,(hT _ _ htie).sizeOf,Sem.run_pure,h5,h6];rfl
    ·simp only[L.Rel];refine⟨hlive,mV,zYy,_,rfl,rfl,λ_=>?_⟩;unfold eO;rw[hnb];simp only[h5,h6];exact⟨trivial,trivial,trivial⟩
   ·rename_i b hbb;obtain⟨hoff,o,rfl,ho'⟩:=hsl;obtain⟨hr,h3,h4⟩:=wZ (C:=C) (w:=w) (isSlice:=true) (kl:=kl) (kh:=kh) (n:=len) (cap:=(β id).cap-off) (by omega) hb;generalize hlo:(bounds len lo hi).2.1=a at *;generalize hhi:(bounds len lo hi).2.2=c at *;refine⟨.slice (some (if(β id).cap-off=a then⟨b,o,none⟩else(⟨b,o,none⟩:Addr).add (a*tie.size))) (c-a) ((β id).cap-off-a),?_,?_⟩
    ·simp only[Instr.sliceAt,Instr.slice,Sem.run_bind,run_underlying hu,Result.andThen_ok,hr,(hT _ _ htie).sizeOf,Sem.run_pure];split<;>rfl
    ·simp only[L.Rel];refine⟨hlive,mV,zYy,_,rfl,rfl,λ_=>?_⟩;unfold eO;rw[hbb];simp only;refine⟨by omega,if(β id).cap-off=a then o else o+a*tie.size,?_,?_⟩
     ·rw[show(β id).cap-off-a=(β id).cap-(off+a)by omega];split<;>simp[addr_add]
     ·split
      ·by_cases h0:off+a=0
       ·left;have h1:off=0:=by omega
        rcases ho' with h|h
        ·rw[h,h0,h1]
        ·omega
       ·right;omega
      ·rcases ho' with h|h
       ·left;rw[h,hsz,Nat.add_mul]
       ·right;omega
  ·cases h
 ·cases h
end
end Go.Dec
namespace Go.Dec
section
variable {β:Nat->Pl}
variable {w w':World}
variable {T:Tab}
variable {C:Ctx}
variable {h:List Ob}
def upd(β:Nat->Pl)(id:Nat)(p:Pl):Nat->Pl:=λi=>if i=id then p else β i
theorem upd_same(β:Nat->Pl)(id:Nat)(p:Pl):upd β id p id=p:=by simp[upd]
theorem aU(β:Nat->Pl){id i:Nat}(p:Pl)(hi:i≠id):upd β id p i=β i:=by simp[upd,hi]
structure Same (w w':World):Prop where
 os:w'.os=w.os
 tape:w'.tape=w.tape
 output:w'.output=w.output
theorem Ob.Rel.mono{N N':Nat->Nat->Prop}{o:Ob}{p:Pl}{β':Nat->Pl}(hr:o.Rel β w N p)(hm:Moves β β')(hk:Keep N w w')(hN:∀ b j,b<w.heap.size->N' b j->N b j)(hb:∀ b,o.blks p b->w'.heap[b]?=w.heap[b]?):o.Rel β' w' N' p:=by
 cases o with
 |box e ls =>
  simp only[Ob.Rel]at *;obtain⟨h1,h2,b,cs,h3,h4,h5⟩:=hr;exact⟨h1,h2,b,cs,h3,h4.mono hm hk hN,by rw[hb b (Ob.wS h3)];exact h5⟩
 |arr e t ver rows wr =>
  simp only[Ob.Rel]at *;obtain⟨h1,h2,h3,h4,h5,h5',h6⟩:=hr;refine⟨h1,h2,h3,h4,h5,h5',?_⟩;rcases h6 with h6|⟨b,cur,css,g1,g2,g3,g4⟩
  ·exact .inl h6
  ·exact .inr ⟨b,cur,css,g1,by rw[hb b (Ob.wS g1)];exact g2,g3.mono λ_ _ hx=>hx.mono hk hN,g4⟩
 |fm tab =>
  simp only[Ob.Rel]at *;obtain⟨h1,h2,b,es,n,h3,h4,h5⟩:=hr;exact⟨h1,h2,b,es,n,h3,by rw[hb b (Ob.wS h3)];exact h4,h5⟩
 |dm kt vt es =>
  simp only[Ob.Rel]at *;obtain⟨h1,h2,b,ms,h3,h4,h5⟩:=hr;exact⟨h1,h2,b,ms,h3,by rw[hb b (Ob.wS h3)];exact h4,h5.mono hk hN⟩
 |stk e ei ver rows top =>
  simp only[Ob.Rel]at *;obtain⟨h1,h2,h3,h4,h5,b,cur,cs,cs2,bs,g1,g2,g3,g4,g5,g6,g7,g8,g9,g10,g11⟩:=hr;refine⟨h1,h2,h3,h4,h5,b,cur,cs,cs2,bs,g1,by rw[hb b (Ob.wS g1)];exact g2,g3,g4,g5,g6,g7,g8,?_,?_,g11⟩
  ·exact g9.mono λq hq=>hb q ⟨0,.inr ⟨rfl,0,by rw[g6];exact List.mem_map.2 ⟨q,hq,rfl⟩,aP _⟩⟩
  ·cases top with
   |none=>exact g10
   |some ls=>exact⟨aG.mono hm hk hN g10.1,g10.2⟩
theorem Ob.Rel.live{N:Nat->Nat->Prop}{o:Ob}{p:Pl}(hr:o.Rel β w N p):p.live=true:=by
 cases o<;>(simp only[Ob.Rel]at hr;exact hr.1)
theorem Ju{o:Ob}{p:Pl}{b j:Nat}(hb:∀ b,o.blks p b->w.heap.size<=b)(hlt:b<w.heap.size)(hn:C.N (upd β h.length p) (h++[o]) b j):C.N β h b j:=by
 rcases hn with hn|⟨id,o',ho',hw,hbk⟩
 ·exact .inl hn
 ·right;by_cases hid:id<h.length
  ·rw[fV hid]at ho';rw[aU _ _ (by omega)]at hbk;exact⟨id,o',ho',hw,hbk⟩
  ·rw[List.getElem?_append_right (by omega)]at ho';have:id=h.length:=by
    rcases jB (id-h.length) 1 with h1|h1
    ·omega
    ·rw[List.getElem?_eq_none (by simpa using h1)]at ho';cases ho'
   subst this;rw[upd_same]at hbk;simp only[Nat.sub_self,List.getElem?_cons_zero,aA]at ho';subst ho';have:=hb b ⟨j,hbk⟩;omega
theorem rP(hs:fB C β h w)(p:Pl):Moves β (upd β h.length p):=λid hl=>by
 left;apply aU;intro e;subst e;rw[hs.dead _ (aP _)]at hl;cases hl
theorem fB.zOv{o:Ob}{p:Pl}(hs:fB C β h w)(hb:∀ b,o.blks p b->w.heap.size<=b/\b<w'.heap.size)(hk:Keep (λ_ _=>False) w w')(hw:Same w w')(ho:o.Rel (upd β h.length p) w' (C.N (upd β h.length p) (h++[o])) p):fB C (upd β h.length p) (h++[o]) w':=by
 have hN:∀ b j,b<w.heap.size->C.N (upd β h.length p) (h++[o]) b j->C.N β h b j:=λb j hlt hn=>Ju (λb h=>(hb b h).1) hlt hn
 have hm:=rP hs p;have hold:∀ id o',(h++[o])[id]?=some o'->(id<h.length/\h[id]?=some o')\/(id=h.length/\o'=o):=λid o' ho'=>by
  by_cases hid:id<h.length
  ·rw[fV hid]at ho';exact .inl ⟨hid,ho'⟩
  ·rw[List.getElem?_append_right (by omega)]at ho';right;rcases jB (id-h.length) 1 with h1|h1
   ·have:id-h.length=0:=by omega
    rw[this]at ho';simp only[List.getElem?_cons_zero,aA]at ho';exact⟨by omega,ho'.symm⟩
   ·rw[List.getElem?_eq_none (by simpa using h1)]at ho';cases ho'
 refine⟨?_,?_,?_,?_,hs.n0,?_,Nat.le_trans hs.size hk.size,hw.os.trans hs.os,hw.tape.trans hs.tape,hw.output.trans hs.output,λj o hj=>by
  obtain⟨k1,k2⟩:=hs.fixed j o hj;exact⟨by simp;omega,λb hb=>by rw[aU _ _ (by omega)];exact k2 b hb⟩⟩
 ·intro id o' ho';rcases hold id o' ho' with ⟨hid,ho'⟩|⟨rfl,rfl⟩
  ·rw[aU _ _ (by omega)];exact(hs.obj id o' ho').mono hm (hk.weaken λ_ _ h=>h.elim) hN λb hb=>hk.block b (hs.eY id o' b ho' hb).2.1 (λ_ h=>h)
  ·rw[upd_same];exact ho
 ·intro id hid;rw[List.length_append,List.length_singleton]at hid;rw[aU _ _ (by omega)];exact hs.dead id (by omega)
 ·intro i j o1 o2 b h1 h2 hb1 hb2;rcases hold i o1 h1 with ⟨hi,k1⟩|⟨rfl,rfl⟩<;>rcases hold j o2 h2 with ⟨hj,k2⟩|⟨rfl,rfl⟩
  ·rw[aU _ _ (by omega)]at hb1 hb2;exact hs.kR i j o1 o2 b k1 k2 hb1 hb2
  ·rw[aU _ _ (by omega)]at hb1;rw[upd_same]at hb2;have:=(hs.eY i o1 b k1 hb1).2.1;have:=(hb b hb2).1;omega
  ·rw[aU _ _ (by omega)]at hb2;rw[upd_same]at hb1;have:=(hs.eY j o2 b k2 hb2).2.1;have:=(hb b hb1).1;omega
  ·rfl
 ·intro id o' b ho' hbk;rcases hold id o' ho' with ⟨hid,ho'⟩|⟨rfl,rfl⟩
  ·rw[aU _ _ (by omega)]at hbk;obtain⟨h1,h2,h3⟩:=hs.eY id o' b ho' hbk;exact⟨h1,Nat.lt_of_lt_of_le h2 hk.size,by rw[aU _ _ (by omega)];exact h3⟩
  ·rw[upd_same]at hbk;obtain⟨e,hlt⟩:=hb b hbk;have h0:=hs.size;exact⟨λ_ hn=>by have:=hs.n0 _ _ hn;omega,hlt,.inl (by omega)⟩
 ·exact hs.frame.tN hk λ_ _ _ h=>h.elim
theorem fB.push{o:Ob}{p:Pl}(hs:fB C β h w)(hb:p.blk=none\/(p.blk=some w.heap.size/\w.heap.size<w'.heap.size))(hk:Keep (λ_ _=>False) w w')(hw:Same w w')(ho:o.Rel (upd β h.length p) w' (C.N (upd β h.length p) (h++[o])) p)(hpl:o.plain=true:=by rfl):fB C (upd β h.length p) (h++[o]) w' :=
 hs.zOv (λb hbb=>by
  have:=Ob.uG hpl hbb;rcases hb with e|⟨e,hlt⟩<;>rw[e]at this
  ·cases this
  ·simp only[aA]at this;omega) hk hw ho
theorem Sim.zOv{σ:St}{a:Act}{o:Ob}{p:Pl}(hs:Sim C β σ a w)(hb:∀ b,o.blks p b->w.heap.size<=b/\b<w'.heap.size)(hk:Keep (λ_ _=>False) w w')(hw:Same w w')(ho:o.Rel (upd β σ.h.length p) w' (C.N (upd β σ.h.length p) (σ.h++[o])) p):Sim C (upd β σ.h.length p) { σ with h:=σ.h++[o] } a w' :=
 ⟨hs.heap.zOv hb hk hw ho,hs.defers,hs.size,λi v hv=>(hs.reg i v hv).mono (rP hs.heap p) (hk.weaken λ_ _ h=>h.elim) λ_ _ hlt hn=>Ju (λb h=>(hb b h).1) hlt hn⟩
theorem zDb{o:Ob}{p:Pl}(hpl:o.plain=true)(hb:p.blk=none\/p.blk=some w.heap.size):∀ b,o.blks p b->w.heap.size<=b:=λb hbb=>by
 have:=Ob.uG hpl hbb;rcases hb with e|e<;>rw[e]at this
 ·cases this
 ·simp only[aA]at this;omega
theorem Sim.push{σ:St}{a:Act}{o:Ob}{p:Pl}(hs:Sim C β σ a w)(hb:p.blk=none\/(p.blk=some w.heap.size/\w.heap.size<w'.heap.size))(hk:Keep (λ_ _=>False) w w')(hw:Same w w')(ho:o.Rel (upd β σ.h.length p) w' (C.N (upd β σ.h.length p) (σ.h++[o])) p)(hpl:o.plain=true:=by rfl):Sim C (upd β σ.h.length p) { σ with h:=σ.h++[o] } a w' :=
 ⟨hs.heap.push hb hk hw ho hpl,hs.defers,hs.size,λi v hv=>(hs.reg i v hv).mono (rP hs.heap p) (hk.weaken λ_ _ h=>h.elim) λ_ _ hlt hn=>Ju (zDb hpl (hb.imp id (·.1))) hlt hn⟩
theorem xS{id:Nat}{o old:Ob}{p:Pl}{b j:Nat}(hold:h[id]?=some old)(hat:∀ b j,b<w.heap.size->o.wr=true->o.at p b j->old.wr=true/\old.at (β id) b j)(hlt:b<w.heap.size)(hn:C.N (upd β id p) (h.set id o) b j):C.N β h b j:=by
 rcases hn with hn|⟨i,o',ho',hw',hbk⟩
 ·exact .inl hn
 ·right;by_cases hid:i=id
  ·subst hid;have hi:i<h.length:=(bE.1 hold).1;rw[List.getElem?_set_self hi]at ho';simp only[aA]at ho';subst ho';rw[upd_same]at hbk;obtain⟨g1,g2⟩:=hat b j hlt hw' hbk;exact⟨i,old,hold,g1,g2⟩
  ·rw[List.getElem?_set_ne (Ne.symm hid)]at ho';rw[aU _ _ hid]at hbk;exact⟨i,o',ho',hw',hbk⟩
theorem fB.yHq{id:Nat}{o old:Ob}{p:Pl}(hs:fB C β h w)(hold:h[id]?=some old)(hat:∀ b j,b<w.heap.size->o.wr=true->o.at p b j->old.wr=true/\old.at (β id) b j)(hbl:∀ b,o.blks p b->old.blks (β id) b\/(w.heap.size<=b/\b<w'.heap.size))(hk:Keep (λb j=>old.at (β id) b j/\old.wr=true) w w')(hw:Same w w')(hm:Moves β (upd β id p))(ho:o.Rel (upd β id p) w' (C.N (upd β id p) (h.set id o)) p):fB C (upd β id p) (h.set id o) w':=by
 have hN:∀ b j,b<w.heap.size->C.N (upd β id p) (h.set id o) b j->C.N β h b j:=λb j hlt hn=>xS hold hat hlt hn
 have hi:id<h.length:=(bE.1 hold).1;have hkN:Keep (C.N β h) w w':=hk.weaken λb j hbb=>.inr ⟨id,old,hold,hbb.2,hbb.1⟩
 have hcase:∀ i o',(h.set id o)[i]?=some o'->(i≠id/\h[i]?=some o')\/(i=id/\o'=o):=λi o' ho'=>by
  by_cases hid:i=id
  ·subst hid;rw[List.getElem?_set_self hi]at ho';simp only[aA]at ho';exact .inr ⟨rfl,ho'.symm⟩
  ·rw[List.getElem?_set_ne (Ne.symm hid)]at ho';exact .inl ⟨hid,ho'⟩
 refine⟨?_,?_,?_,?_,hs.n0,?_,Nat.le_trans hs.size hk.size,hw.os.trans hs.os,hw.tape.trans hs.tape,hw.output.trans hs.output,λj o' hj=>by
  obtain⟨k1,k2⟩:=hs.fixed j o' hj;refine⟨by simpa using k1,λb hb=>?_⟩;obtain⟨k3,k4⟩:=k2 b hb;obtain⟨oj,hoj⟩:∃ oj,h[j]?=some oj:=⟨h[j],by simp[k1]⟩;rcases hm j (hs.obj j oj hoj).live with e|⟨e,_⟩
  ·rw[e];exact⟨k3,k4⟩
  ·rw[k4]at e;cases e⟩
 ·intro i o' ho';rcases hcase i o' ho' with ⟨hne,ho'⟩|⟨rfl,rfl⟩
  ·rw[aU _ _ hne];exact(hs.obj i o' ho').mono hm hkN hN λb hb=>hk.block b (hs.eY i o' b ho' hb).2.1 (λj hbb=>hne (hs.kR i id o' old b ho' hold hb ⟨j,hbb.1⟩))
  ·rw[upd_same];exact ho
 ·intro i hl;rw[List.length_set]at hl;rw[aU _ _ (by omega)];exact hs.dead i hl
 ·intro i j o1 o2 b h1 h2 hb1 hb2;rcases hcase i o1 h1 with ⟨hi1,k1⟩|⟨rfl,rfl⟩<;>rcases hcase j o2 h2 with ⟨hj1,k2⟩|⟨rfl,rfl⟩
  ·rw[aU _ _ hi1]at hb1;rw[aU _ _ hj1]at hb2;exact hs.kR i j o1 o2 b k1 k2 hb1 hb2
  ·rw[aU _ _ hi1]at hb1;rw[upd_same]at hb2;have:=(hs.eY i o1 b k1 hb1).2.1;rcases hbl b hb2 with e|e
   ·exact hs.kR i _ o1 old b k1 hold hb1 e
   ·omega
  ·rw[aU _ _ hj1]at hb2;rw[upd_same]at hb1;have:=(hs.eY j o2 b k2 hb2).2.1;rcases hbl b hb1 with e|e
   ·exact hs.kR _ j old o2 b hold k2 e hb2
   ·omega
  ·rfl
 ·intro i o' b ho' hbk;rcases hcase i o' ho' with ⟨hne,ho'⟩|⟨rfl,rfl⟩
  ·rw[aU _ _ hne]at hbk;obtain⟨h1,h2,h3⟩:=hs.eY i o' b ho' hbk;exact⟨h1,Nat.lt_of_lt_of_le h2 hk.size,by rw[aU _ _ hne];exact h3⟩
  ·rw[upd_same]at hbk;rcases hbl b hbk with e|e
   ·obtain⟨h1,h2,h3⟩:=hs.eY i old b hold e;exact⟨h1,Nat.lt_of_lt_of_le h2 hk.size,h3.imp (λh=>h) λh j g1 g2=>(hat b j h2 g1 (by rwa [upd_same]at g2)).elim λg3 g4=>h j g3 g4⟩
   ·have h0:=hs.size;exact⟨λ_ hn=>by have:=hs.n0 _ _ hn;omega,e.2,.inl (by omega)⟩
 ·refine hs.frame.tN hk λb j hb hbb=>?_
  rcases(hs.eY id old b hold ⟨j,hbb.1⟩).2.2 with h1|h1
  ·omega
  ·exact h1 j hbb.2 hbb.1
theorem Sim.yHq{σ:St}{a:Act}{id:Nat}{o old:Ob}{p:Pl}(hs:Sim C β σ a w)(hold:σ.h[id]?=some old)(hat:∀ b j,b<w.heap.size->o.wr=true->o.at p b j->old.wr=true/\old.at (β id) b j)(hbl:∀ b,o.blks p b->old.blks (β id) b\/(w.heap.size<=b/\b<w'.heap.size))(hk:Keep (λb j=>old.at (β id) b j/\old.wr=true) w w')(hw:Same w w')(hm:Moves β (upd β id p))(ho:o.Rel (upd β id p) w' (C.N (upd β id p) (σ.h.set id o)) p):Sim C (upd β id p) { σ with h:=σ.h.set id o } a w' :=
 ⟨hs.heap.yHq hold hat hbl hk hw hm ho,hs.defers,hs.size,λi v hv=>(hs.reg i v hv).mono hm (hk.weaken λ_ _ hbb=>.inr ⟨id,old,hold,hbb.2,hbb.1⟩)
  λ_ _ hlt hn=>xS hold hat hlt hn⟩
theorem at_set{id:Nat}{o old:Ob}{p:Pl}(hwr:o.wr=true->old.wr=true)(hb:p.blk=(β id).blk\/p.blk=none\/p.blk=some w.heap.size)(hpl:o.plain=true):∀ b j,b<w.heap.size->o.wr=true->o.at p b j->old.wr=true/\old.at (β id) b j:=λb j hlt h1 h2=>by
 have h3:=Ob.zMm hpl h2;refine⟨hwr h1,?_⟩;rcases hb with e|e|e<;>rw[e]at h3
 ·exact Ob.mH h3
 ·cases h3
 ·simp only[aA]at h3;omega
theorem yPq{id:Nat}{o old:Ob}{p:Pl}(hb:p.blk=(β id).blk\/p.blk=none\/(p.blk=some w.heap.size/\w.heap.size<w'.heap.size))(hpl:o.plain=true):∀ b,o.blks p b->old.blks (β id) b\/(w.heap.size<=b/\b<w'.heap.size):=λb h=>by
 have h3:=Ob.uG hpl h;rcases hb with e|e|⟨e,hlt⟩<;>rw[e]at h3
 ·exact .inl (Ob.wS h3)
 ·cases h3
 ·simp only[aA]at h3;right;omega
theorem Sim.set{σ:St}{a:Act}{id:Nat}{o old:Ob}{p:Pl}(hs:Sim C β σ a w)(hold:σ.h[id]?=some old)(hwr:o.wr=true->old.wr=true)(hb:p.blk=(β id).blk\/p.blk=none\/(p.blk=some w.heap.size/\w.heap.size<w'.heap.size))(hk:Keep (λb _=>(β id).blk=some b/\old.wr=true) w w')(hw:Same w w')(hm:Moves β (upd β id p))(ho:o.Rel (upd β id p) w' (C.N (upd β id p) (σ.h.set id o)) p)(hpl:o.plain=true:=by rfl):Sim C (upd β id p) { σ with h:=σ.h.set id o } a w' :=
 hs.yHq hold (at_set hwr (hb.imp (λh=>h) (·.imp (λh=>h) (·.1))) hpl) (yPq hb hpl) (hk.weaken λ_ _ h=>⟨Ob.mH h.1,h.2⟩) hw hm ho
theorem vC(β:Nat->Pl)(id:Nat):upd β id (β id)=β:=by
 funext i;unfold upd;split
 ·rename_i h;rw[h]
 ·rfl
theorem dX(w:World)(o:Obj):Keep (λ_ _=>False) w (w.alloc o):=Keep.mP (M:=λ_=>False) (by simp) (λb hb _=>heap_alloc_old w o b hb) (λ_ _ h=>h)
theorem Kv(w:World)(o:Obj):Same w (w.alloc o):=⟨rfl,rfl,rfl⟩
theorem zT(w:World):Keep (λ_ _=>False) w w.drew:=Keep.mP (M:=λ_=>False) (aP _) (λ_ _ _=>rfl) (λ_ _ h=>h)
theorem yMe{σ:St}{a:Act}{e:TypeId}{ls:List L}{cs:Array Value}(hs:Sim C β σ a w)(hr:aG β w (C.N β σ.h) ls cs.toList):∃ β',Moves β β'/\Sim C β' { σ with h:=σ.h++[.box e ls] } a (w.alloc (.cells cs e))/\(L.ptr σ.h.length 0).Rel β' (w.alloc (.cells cs e)) (C.N β' (σ.h++[.box e ls])) [.pointer (some ⟨w.heap.size,0,none⟩)]:=by
 let p:Pl:=⟨true,true,0,some w.heap.size,0,0,0,[]⟩
 have hk:=dX w (.cells cs e);refine⟨upd β σ.h.length p,rP hs.heap p,hs.push (p:=p) (.inr ⟨rfl,by simp⟩) hk (Kv _ _) ?_,?_⟩
 ·simp only[Ob.Rel];refine⟨rfl,rfl,w.heap.size,cs.toList,rfl,?_,?_⟩
  ·exact hr.mono (rP hs.heap p) (hk.weaken λ_ _ h=>h.elim) λb j hlt hn=>Ju (zDb rfl (.inr rfl)) hlt hn
  ·rw[heap_alloc_new]
 ·simp only[L.Rel,upd_same];exact⟨rfl,rfl,w.heap.size,rfl,rfl⟩
theorem yMf{σ:St}{a:Act}{e:TypeId}{t:Ty}{rows:List t.den}{css:List (List Value)}{cs:Array Value}(hs:Sim C β σ a w)(hpos:0<t.size)(hr:bD (λx c=>t.Rel w (C.N β σ.h) x c) rows css)(hcs:cs.toList=css.flatten)(hm:rows.length<=maxLen):∃ β',Moves β β'/\Sim C β' { σ with h:=σ.h++[.arr e t 0 rows true] } a (w.alloc (.cells cs e)) /\
  (L.own σ.h.length 0).Rel β' (w.alloc (.cells cs e)) (C.N β' (σ.h++[.arr e t 0 rows true])) [.slice (some ⟨w.heap.size,0,none⟩) rows.length rows.length]:=by
 let p:Pl:=⟨true,false,0,some w.heap.size,t.size,rows.length,rows.length,[]⟩
 have hk:=dX w (.cells cs e);have hlen:∀ c∈css,c.length=t.size:=λc hc=>by
  obtain⟨y,_,hy⟩:=hr.mem_right c hc;exact hy.length
 have hsz:cs.size=rows.length*t.size:=by
  rw[<- Array.length_toList,hcs,cB css hlen,hr.length]
 refine⟨upd β σ.h.length p,rP hs.heap p,hs.push (p:=p) (.inr ⟨rfl,by simp⟩) hk (Kv _ _) ?_,?_⟩
 ·simp only[Ob.Rel];refine⟨rfl,rfl,rfl,rfl,hpos,rfl,.inr ⟨w.heap.size,cs,css,rfl,?_,?_,?_,hsz,aP _,hm⟩⟩
  ·rw[heap_alloc_new]
  ·exact hr.mono λ_ _ hx=>hx.mono (hk.weaken λ_ _ h=>h.elim) λb j hlt hn=>Ju (zDb rfl (.inr rfl)) hlt hn
  ·rw[List.take_of_length_le (by rw[Array.length_toList];omega),hcs]
 ·simp only[L.Rel,upd_same];refine⟨rfl,rfl,aP _,_,rfl,rfl,λ_=>?_⟩;unfold eO;simp only[p];refine⟨by omega,0,rfl,.inl (by simp)⟩
end
end Go.Dec
