/- Part of a proof over this seat: a library of my own, and what it says of this seat. No statement is proved here. -/
import Derived.Test.YtfbilefiaminnaaGreatDoorPartAB
import Derived.LaidEql
import Derived.WalkSpells
namespace Go.Dec
section
variable {β:Nat->Pl}
variable {w:World}
variable {T:Tab}
variable {C:Ctx}
def storeAt(T:Tab)(h:List Ob)(t:TypeId)(l:L)(v:V):Option (Bool × List Ob):=
 match T.get t,v.leaves with
 |some ti,some new =>
  if sizes new=ti.size then
   match l with
   |.ptr id off =>
    match h[id]? with
    |some (.box e ls)=>(Kr ls off new).map λls'=>(true,h.set id (.box e ls'))
    |_=>none
   |.rY id off es i sub =>
    match h[id]? with
    |some (.box e ls)=>
     match kL ls off with
     |some (a,.val (.arr n te) xs::rest)=>
      if te.size=es then
       match Kr (explode te (xs.getD i te.dflt)) sub new with
       |some parts =>
        match dS te parts with
        |some (y,[])=>some (decide (i<n),h.set id (.box e (a++.val (.arr n te) (xs.set i y)::rest)))
        |_=>none
       |none=>none
      else none
     |_=>none
    |_=>none
   |.iZ id ver i off =>
    match h[id]? with
    |some (.arr e te v rows true)=>
     match Kr (explode te (rows.getD i te.dflt)) off new with
     |some parts =>
      match dS te parts with
      |some (y,[])=>some (Nat.beq v ver&&decide (i<rows.length),h.set id (.arr e te v (rows.set i y) true))
      |_=>none
     |none=>none
    |some (.stk e ei v rows (some ls))=>(Kr ls off new).map λls'=>(Nat.beq v ver&&decide (i=rows.length),h.set id (.stk e ei v rows (some ls')))
    |_=>none
   |_=>none
  else none
 |_,_=>none
theorem Kw{t:TypeId}{ti:TI}(hok:qZ C.P t ti){b off:Nat}{cur:Array Value}{e:TypeId}{x:Value}(hb:w.heap[b]?=some (.cells cur e (0,0)))(hs:x.cells.size=ti.size)(hfit:off+ti.size<=cur.size)(h1:∀ c∈x.cells.toList,c.oneCell'=true):(storeVar t ⟨b,off,none⟩ x).run C.P w=.ok () (w.setRow b (cur.toList.take off++x.cells.toList++cur.toList.drop (off+ti.size)).toArray):=by
 have hlen:x.cells.toList.length=ti.size:=by simpa using hs
 have:=run_storeCells_at (P:=C.P) b off e x.cells.toList 0 cur w hb (by simp;omega) h1;simp only[storeVar,Sem.run_bind,hok.sizeOf,Result.andThen_ok,hs,ne_eq,not_true_eq_false,if_false];simp only[Nat.add_zero,hlen]at this;simpa using this
theorem mW{b:Nat}{cs:Array Value}:Keep (λk _=>k=b) w (w.setRow b cs):=Keep.mP (M:=λk=>k=b) (by simp) (λk _ hn=>setRow_other w b k cs hn) (λ_ _ h=>h)
theorem Bo{b:Nat}{cs:Array Value}:Same w (w.setRow b cs):=⟨rfl,rfl,rfl⟩
theorem Sim.Vm{σ:St}{a:Act}{id:Nat}{e:TypeId}{ls ls':List L}{b:Nat}{cs cs':List Value}(hs:Sim C β σ a w)(ho:σ.h[id]?=some (.box e ls))(hb:(β id).blk=some b)(hheap:w.heap[b]?=some (.cells cs.toArray e (0,0)))(hr:aG β w (C.N β σ.h) ls' cs'):Sim C β { σ with h:=σ.h.set id (.box e ls') } a (w.setRow b cs'.toArray):=by
 have hob:=hs.heap.obj id _ ho;simp only[Ob.Rel]at hob;obtain⟨hl,hx,_⟩:=hob;have hm:Moves β (upd β id (β id)):=by rw[vC];exact Moves.refl β
 have hk:Keep (λk _=>(β id).blk=some k/\Ob.wr (.box e ls)=true) w (w.setRow b cs'.toArray):=mW.weaken λk _ hk=>by subst hk;exact⟨hb,rfl⟩
 have:=hs.set (id:=id) (o:=.box e ls') (p:=β id) (w':=w.setRow b cs'.toArray) ho (λ_=>rfl) (.inl rfl) hk Bo hm (by
  simp only[Ob.Rel];refine⟨hl,hx,b,cs',hb,?_,setRow_heap w b _ _ e _ hheap⟩;refine hr.mono hm (hk.weaken λk _ hk=>.inr ⟨id,_,ho,rfl,Ob.mH hk.1⟩) λk j hlt hn=>xS (w:=w) ho (at_set (λ_=>rfl) (.inl rfl) rfl) hlt hn)
 rwa [vC]at this
theorem Sim.yXq{σ:St}{a:Act}{id:Nat}{e:TypeId}{t:Ty}{ver:Nat}{rows rows':List t.den}{b:Nat}{cur cur':Array Value}{Vn:List (List Value)}(hs:Sim C β σ a w)(ho:σ.h[id]?=some (.arr e t ver rows true))(hb:(β id).blk=some b)(hheap:w.heap[b]?=some (.cells cur e (0,0)))(hlen:rows'.length=rows.length)(hsz:cur'.size=cur.size)(hr:bD (λx c=>t.Rel w (C.N β σ.h) x c) rows' Vn)(htake:cur'.toList.take (rows'.length*t.size)=Vn.flatten):Sim C β { σ with h:=σ.h.set id (.arr e t ver rows' true) } a (w.setRow b cur'):=by
 have hob:=hs.heap.obj id _ ho;simp only[Ob.Rel]at hob;obtain⟨hl,hx,h3,h4,h5,h6,h7⟩:=hob;have hm:Moves β (upd β id (β id)):=by rw[vC];exact Moves.refl β
 have hk:Keep (λk _=>(β id).blk=some k/\Ob.wr (.arr e t ver rows true)=true) w (w.setRow b cur'):=mW.weaken λk _ hk=>by subst hk;exact⟨hb,rfl⟩
 have:=hs.set (id:=id) (o:=.arr e t ver rows' true) (p:=β id) (w':=w.setRow b cur') ho (λ_=>rfl) (.inl rfl) hk Bo hm (by
  simp only[Ob.Rel];refine⟨hl,hx,h3,h4,h5,by rw[h6,hlen],?_⟩;rcases h7 with ⟨h7,_⟩|⟨b',xDd,css,g1,g2,g3,g4,g5,g6,g7⟩
  ·rw[h7]at hb;cases hb
  ·rw[hb]at g1;simp only[aA]at g1;subst g1;rw[hheap]at g2;simp only[aA,Obj.cells.injEq]at g2;obtain⟨rfl,_⟩:=g2;refine .inr ⟨b,cur',Vn,hb,setRow_heap w b _ _ e _ hheap,?_,htake,by rw[hsz,g5],by rw[hlen];exact g6,g7⟩;exact hr.mono λ_ _ h=>h.mono (hk.weaken λk _ hk=>.inr ⟨id,_,ho,rfl,Ob.mH hk.1⟩) λk j hlt hn=>xS (w:=w) ho (at_set (λ_=>rfl) (.inl rfl) rfl) hlt hn)
 rwa [vC]at this
theorem Sim.yXr{σ:St}{a:Act}{id:Nat}{e ei:TypeId}{ver:Nat}{rows:List (Int × Int × List Int × List Int × Unit)}{ls ls':List L}{b:Nat}{cur cur':Array Value}{cs yHr:List Value}(hs:Sim C β σ a w)(ho:σ.h[id]?=some (.stk e ei ver rows (some ls)))(hb:(β id).blk=some b)(hheap:w.heap[b]?=some (.cells cur e (0,0)))(hsz:cur'.size=cur.size)(hr:aG β w (C.N β σ.h) ls' yHr)(h4:yHr.length=4)(hcs:cs.length=rows.length*4)(htk:cur.toList.take (rows.length*4)=cs)(htake:cur'.toList.take ((β id).len*4)=cs++yHr):Sim C β { σ with h:=σ.h.set id (.stk e ei ver rows (some ls')) } a (w.setRow b cur'):=by
 have hob:=hs.heap.obj id _ ho;simp only[Ob.Rel]at hob;obtain⟨hl,hx,h3,h4',h5,b',xDd,cs0,cs2,bs,g1,g2,g3,g4,g5,g6,g7,g8,g9,g10,g11⟩:=hob;rw[hb]at g1;simp only[aA]at g1;subst g1;rw[hheap]at g2;simp only[aA,Obj.cells.injEq]at g2;obtain⟨rfl,_⟩:=g2;have hl0:=g9.length;have e0:cs0=cs:=by
  have:=congrArg (List.take (rows.length*4)) g11;rw[List.take_left' hl0,List.take_take,Nat.min_eq_left (by rw[h5];simp only[Kq];omega),htk]at this;exact this.symm
 subst e0;have hm:Moves β (upd β id (β id)):=by rw[vC];exact Moves.refl β
 have hat:∀ k j,k<w.heap.size->(Ob.stk e ei ver rows (some ls')).wr=true->(Ob.stk e ei ver rows (some ls')).at (β id) k j->(Ob.stk e ei ver rows (some ls)).wr=true/\(Ob.stk e ei ver rows (some ls)).at (β id) k j:=λk j _ _ h=>⟨rfl,Ob.zA rfl rfl rfl h⟩
 have hk:Keep (λk j=>(Ob.stk e ei ver rows (some ls)).at (β id) k j/\Ob.wr (.stk e ei ver rows (some ls))=true) w (w.setRow b cur'):=mW.weaken λk _ hk=>by subst hk;exact⟨Ob.mH hb,rfl⟩
 have:=hs.yHq (id:=id) (o:=.stk e ei ver rows (some ls')) (p:=β id) (w':=w.setRow b cur') ho hat (λk h=>.inl (Ob.mI rfl rfl rfl h)) hk Bo hm (by
  simp only[Ob.Rel];refine⟨hl,hx,h3,h4',h5,b,cur',cs0,yHr,bs,hb,setRow_heap w b _ _ e _ hheap,by rw[hsz,g3],g4,g5,g6,g7,g8,?_,⟨?_,h4⟩,htake⟩
  ·exact g9.mono λq hq=>setRow_other w b q cur' (λe=>g8 (by rw[<- e];exact hq))
  ·exact hr.mono hm (hk.weaken λk j hk=>.inr ⟨id,_,ho,rfl,hk.1⟩) λk j hlt hn=>xS (w:=w) ho hat hlt hn)
 rwa [vC]at this
theorem Yp{α:Type}(cs:List α)(off n:Nat)(ds:List α)(k m:Nat)(hd:ds.length=m)(h1:off<=k)(h2:k+m<=off+n):cs.take k++ds++cs.drop (k+m)=cs.take off++(((cs.drop off).take n).take (k-off)++(ds++((cs.drop off).take n).drop (k-off+m)))++cs.drop (off+n):=by
 have e1:cs.take k=cs.take off++((cs.drop off).take n).take (k-off):=by
  rw[List.take_take,Nat.min_eq_left (by omega)];have:k=off+(k-off):=by omega
  rw[show cs.take k=cs.take (off+(k-off))by rw[<- this],List.take_add]
 have e2:cs.drop (k+m)=((cs.drop off).take n).drop (k-off+m)++cs.drop (off+n):=by
  rw[List.drop_take,List.drop_drop];have h4:cs.drop (off+n)=(cs.drop (off+(k-off+m))).drop (n-(k-off+m)):=by
   rw[List.drop_drop];congr 1;omega
  rw[h4,List.take_append_drop];congr 1;omega
 rw[e1,e2];simp
theorem zLi{α:Type}(cs:List α)(k m R:Nat)(d:List α)(hd:d.length=m)(h:k+m<=R)(hR:R<=cs.length):(cs.take k++d++cs.drop (k+m)).take R=(cs.take R).take k++d++(cs.take R).drop (k+m):=by
 have e1:(cs.take R).take k=cs.take k:=by rw[List.take_take,Nat.min_eq_left (by omega)]
 have e2:(cs.take R).drop (k+m)=(cs.drop (k+m)).take (R-(k+m)):=List.drop_take ..;rw[e1,e2];have hl:(cs.take k++d).length=k+m:=by simp;omega
 rw[List.take_append,hl,List.take_of_length_le (by omega)]
theorem zLj{t:Ty}{N:Nat->Nat->Prop}{rows:List t.den}{css:List (List Value)}(hall:bD (λx c=>t.Rel w N x c) rows css){i:Nat}(hi:i<rows.length){off:Nat}{new parts:List L}{ds:List Value}{y:t.den}(hset:Kr (explode t (rows.getD i t.dflt)) off new=some parts)(himp:dS t parts=some (y,[]))(hd:aG β w N new ds):∃ c',bD (λx c=>t.Rel w N x c) (rows.set i y) (css.set i c')/\off+ds.length<=t.size /\
  (css.set i c').flatten=css.flatten.take (i*t.size+off)++ds++css.flatten.drop (i*t.size+off+ds.length):=by
 have hi1:i<css.length:=by rw[<- hall.length];exact hi
 have hrel:=hall.get i hi hi1;have hlen:∀ c∈css,c.length=t.size:=λc hc=>by
  obtain⟨y,_,hy⟩:=hall.mem_right c hc;exact hy.length
 have hget:rows.getD i t.dflt=rows[i]:=by
  simp only[List.getD_eq_getElem?_getD];rw[List.getElem?_eq_getElem hi];rfl
 rw[hget]at hset;obtain⟨hp,hle⟩:=Yn (β:=β) hset (lC hrel) hd;obtain⟨c1,c2,e,hy,h2⟩:=uS himp hp;simp only[aG]at h2;subst h2;rw[List.append_nil]at e;have hci:css[i].length=t.size:=hlen _ (List.getElem_mem hi1);refine⟨c1,hall.set i hy,by omega,?_⟩;rw[<- e];have xBq:css.set i (css[i].take off++(ds++css[i].drop (off+ds.length)))=css.take i++(css[i].take off++(ds++css[i].drop (off+ds.length)))::css.drop (i+1):=List.set_eq_take_append_cons_drop .. |>.trans (by rw[if_pos hi1])
 rw[xBq,List.flatten_append,List.flatten_cons];have t1:(css.take i).flatten=css.flatten.take (i*t.size):=(rX css hlen i).symm;have t2:(css.drop (i+1)).flatten=css.flatten.drop ((i+1)*t.size):=(oP css hlen (i+1)).symm;have hfl:css.flatten.length=css.length*t.size:=cB css hlen;have hmul:(i+1)*t.size<=css.length*t.size:=Nat.mul_le_mul_right _ hi1;have hsm:(i+1)*t.size=i*t.size+t.size:=Nat.succ_mul _ _;have t3:(css.flatten.drop (i*t.size)).take t.size=css[i]:=by
  rw[oP css hlen i,List.drop_eq_getElem_cons hi1,List.flatten_cons,<- hci,List.take_left]
 have:=Yp css.flatten (i*t.size) t.size ds (i*t.size+off) ds.length rfl (by omega) (by omega);rw[this,t1,t2,t3,hsm,show i*t.size+off-i*t.size=off by omega];simp
theorem yEf{σ:St}{a:Act}{t:TypeId}{l:L}{v:V}{x y:Value}{h':List Ob}(hT:bM C.P T)(h:storeAt T σ.h t l v=some (true,h'))(hs:Sim C β σ a w)(hl:l.Rel β w (C.N β σ.h) [x])(hv:v.Rel β w (C.N β σ.h) y):∃ w',(Instr.storeAt t x y).run C.P w=.ok () w'/\Sim C β { σ with h:=h' } a w'/\Keep (C.N β σ.h) w w':=by
 unfold storeAt at h;split at h
 ·rename_i ti new hti hnew;have hok:=hT _ _ hti;have hr:=V.Ku hnew hv;split at h
  ·rename_i hsz;have hyl:y.cells.size=ti.size:=by rw[<- hsz,<- hr.length];simp
   have hdl:y.cells.toList.length=ti.size:=by simpa using hyl
   have hone:=hr.one;split at h
   ·rename_i id off;split at h
    ·rename_i e ls ho;cases hset:Kr ls off new with
     |none=>rw[hset]at h;cases h
     |some ls' =>
      rw[hset]at h;simp only[Option.map_some,aA,aB,true_and]at h;subst h;have hob:=hs.heap.obj id _ ho;simp only[Ob.Rel]at hob;obtain⟨_,_,b,cs,hb,hls,hheap⟩:=hob;simp only[L.Rel]at hl;obtain⟨_,_,b',hb',hx⟩:=hl;rw[hb]at hb';simp only[aA]at hb';subst hb';simp only[aJ,and_true]at hx;subst hx;obtain⟨hr',hle⟩:=Yn hset hls hr;have hrun:=Kw hok (off:=off) hheap hyl (by simp;omega) hone;refine⟨_,by simpa only[Instr.storeAt,Instr.sureAddr,Sem.run_bind,Sem.run_pure,Result.andThen_ok]using hrun,?_⟩;rw[hdl]at hr';rw[List.append_assoc];exact⟨hs.Vm ho hb hheap hr',mW.weaken λk _ hk=>.inr ⟨id,_,ho,rfl,Ob.mH (by rw[hk];exact hb)⟩⟩
    ·cases h
   ·rename_i id off es i sub;split at h
    ·rename_i e ls ho;split at h
     ·rename_i a0 n te xs rest hsp;split at h
      ·rename_i hes;subst hes;split at h
       ·rename_i parts hset;split at h
        ·rename_i z himp;simp only[aA,aB]at h;obtain⟨hi,rfl⟩:=h;have hi:=of_decide_eq_true hi;have hob:=hs.heap.obj id _ ho;simp only[Ob.Rel]at hob;obtain⟨_,_,b,cs,hb,hls,hheap⟩:=hob;simp only[L.Rel]at hl;obtain⟨_,_,b',hb',hx⟩:=hl;rw[hb]at hb';simp only[aA]at hb';subst hb';simp only[aJ,and_true]at hx;subst hx;obtain⟨hra,hrb,hoff⟩:=xR hsp hls;obtain⟨c1,c2,e1,h1,h2⟩:=hrb;simp only[L.Rel,Ty.Rel]at h1;obtain⟨hn,css,e2,hall⟩:=h1;have hlen:∀ c∈css,c.length=te.size:=λc hc=>by
          obtain⟨y,_,hy⟩:=hall.mem_right c hc;exact hy.length
         have hi0:i<xs.length:=by rw[hn];exact hi
         obtain⟨c',yHs,hle,hfl⟩:=zLj hall hi0 hset himp hr;have hcl:c1.length=n*te.size:=by rw[e2,cB css hlen,<- hall.length,hn]
         have hcs:cs.length=off+(c1.length+c2.length):=by
          have:=congrArg List.length e1;simp at this;omega
         have hmul:(i+1)*te.size<=n*te.size:=Nat.mul_le_mul_right _ hi;have hsm:(i+1)*te.size=i*te.size+te.size:=Nat.succ_mul _ _;have hrun:=Kw hok (off:=off+i*te.size+sub) (x:=y) hheap hyl (by simp;omega) hone;refine⟨_,by simpa only[Instr.storeAt,Instr.sureAddr,Sem.run_bind,Sem.run_pure,Result.andThen_ok]using hrun,?_⟩;have hrel:aG β w (C.N β σ.h) (a0++.val (.arr n te) (xs.set i z)::rest) (cs.take off++((css.set i c').flatten++c2)):=by
          refine hra.append ⟨_,_,rfl,?_,h2⟩;simp only[L.Rel,Ty.Rel];exact⟨by simpa using hn,_,rfl,yHs⟩
         have heq:cs.take (off+i*te.size+sub)++y.cells.toList++cs.drop (off+i*te.size+sub+ti.size)=cs.take off++((css.set i c').flatten++c2):=by
          have:=Yp cs off c1.length y.cells.toList (off+i*te.size+sub) ti.size hdl (by omega) (by omega);rw[this,show off+i*te.size+sub-off=i*te.size+sub by omega,hfl];have t1:(cs.drop off).take c1.length=c1:=by rw[e1,List.take_left]
          have t2:cs.drop (off+c1.length)=c2:=by rw[<- List.drop_drop,e1,List.drop_left]
          rw[t1,t2,e2,hdl];simp
         rw[heq];exact⟨hs.Vm ho hb hheap hrel,mW.weaken λk _ hk=>.inr ⟨id,_,ho,rfl,Ob.mH (by rw[hk];exact hb)⟩⟩
        ·cases h
       ·cases h
      ·cases h
     ·cases h
    ·cases h
   ·rename_i id ver i off;split at h
    ·rename_i e te vv rows ho;split at h
     ·rename_i parts hset;split at h
      ·rename_i z himp;simp only[aA,aB,aD]at h;obtain⟨⟨kS,hi⟩,rfl⟩:=h;have kS:=aK kS;have hi:=of_decide_eq_true hi;have hob:=hs.heap.obj id _ ho;simp only[Ob.Rel]at hob;obtain⟨_,_,hpv,hpz,hpos,zOt,hob⟩:=hob;simp only[L.Rel]at hl;obtain⟨_,_,_,c0,hc0,_,hb0⟩:=hl;obtain⟨b',hb',hx⟩:=hb0 (by rw[hpv,kS]);simp only[aJ,and_true]at hc0;subst hc0;rcases hob with ⟨hnb,_⟩|⟨b,cur,css,hb,hheap,hall,htake,hcap,hrc,_⟩
       ·rw[hnb]at hb';cases hb'
       ·rw[hb]at hb';simp only[aA]at hb';subst hb';subst hx;have hlen:∀ c∈css,c.length=te.size:=λc hc=>by
         obtain⟨y,_,hy⟩:=hall.mem_right c hc;exact hy.length
        obtain⟨c',yHs,hle,hfl⟩:=zLj hall hi hset himp hr;have hmul:(i+1)*te.size<=rows.length*te.size:=Nat.mul_le_mul_right _ hi;have xFu:rows.length*te.size<=(β id).cap*te.size:=Nat.mul_le_mul_right _ hrc;have hsm:(i+1)*te.size=i*te.size+te.size:=Nat.succ_mul _ _;have hrun:=Kw hok (off:=i*te.size+off) (x:=y) hheap hyl (by omega) hone;refine⟨_,by simpa only[Instr.storeAt,Instr.sureAddr,Sem.run_bind,Sem.run_pure,Result.andThen_ok,hpz]using hrun,?_⟩;refine⟨hs.yXq (Vn:=css.set i c') ho hb hheap (by simp) ?_ yHs ?_,mW.weaken λk _ hk=>.inr ⟨id,_,ho,rfl,Ob.mH (by rw[hk];exact hb)⟩⟩
        ·simp only[List.size_toArray,List.length_append,List.length_take,List.length_drop,Array.length_toList,hdl];omega
        ·rw[hfl,<- htake,hdl];simp only[List.length_set];have hh:cur.toList.length=cur.size:=by simp
         exact zLi _ _ _ _ _ hdl (by omega) (by omega)
      ·cases h
     ·cases h
    ·rename_i e ei vv rows ls ho;cases hset:Kr ls off new with
     |none=>rw[hset]at h;cases h
     |some ls' =>
      rw[hset]at h;simp only[Option.map_some,aA,aB,aD]at h;obtain⟨⟨kS,hi⟩,rfl⟩:=h;have kS:=aK kS;have hi:=of_decide_eq_true hi;subst hi;have hob:=hs.heap.obj id _ ho;simp only[Ob.Rel]at hob;obtain⟨_,_,hpv,hpz,hpl,b,cur,cs,cs2,bs,hb,hheap,hcap,hlc,_,_,_,_,hfr,⟨hls,hl4⟩,htake⟩:=hob;simp only[L.Rel]at hl;obtain⟨_,_,_,c0,hc0,_,hb0⟩:=hl;obtain⟨b',hb',hx⟩:=hb0 (by rw[hpv,kS]);simp only[aJ,and_true]at hc0;subst hc0;rw[hb]at hb';simp only[aA]at hb';subst hb';subst hx;obtain⟨hp,hle⟩:=Yn hset hls hr;have hcl:=hfr.length;have hpl':(β id).len=rows.length+1:=hpl;have hh:cur.toList.length=cur.size:=by simp
      have hcur:cur.toList.take ((rows.length+1)*4)=cs++cs2:=by rw[<- hpl'];exact htake
      have hge:(rows.length+1)*4<=cur.size:=by rw[hcap];exact Nat.mul_le_mul_right _ (by omega)
      have hrun:=Kw hok (off:=rows.length*4+off) (x:=y) hheap hyl (by omega) hone;refine⟨_,by simpa only[Instr.storeAt,Instr.sureAddr,Sem.run_bind,Sem.run_pure,Result.andThen_ok,hpz]using hrun,?_⟩;refine⟨hs.yXr (cs:=cs) ho hb hheap ?_ hp (by simp only[List.length_append,List.length_take,List.length_drop,hdl];omega) hcl ?_ ?_,mW.weaken λk _ hk=>.inr ⟨id,_,ho,rfl,Ob.mH (by rw[hk];exact hb)⟩⟩
      ·simp only[List.size_toArray,List.length_append,List.length_take,List.length_drop,Array.length_toList,hdl];omega
      ·have:=congrArg (List.take (rows.length*4)) hcur
       rwa [List.take_left' hcl,List.take_take,Nat.min_eq_left (by omega)]at this
      ·rw[hpl',zLi _ _ _ _ _ hdl (by omega) (by omega),hcur,List.take_append,List.drop_append,hcl,List.take_of_length_le (by omega),List.drop_of_length_le (by omega),show rows.length*4+off-rows.length*4=off by omega,show rows.length*4+off+ti.size-rows.length*4=off+ti.size by omega,hdl];simp
    ·cases h
   ·cases h
  ·cases h
 ·cases h
end
end Go.Dec
namespace Go.Dec
section
variable {β:Nat->Pl}
variable {w:World}
variable {T:Tab}
variable {C:Ctx}
def rowsOf(h:List Ob)(te:Ty)(x:L):Option (Bool × List te.den):=
 match x with
 |.bJ=>some (true,[])
 |.val (.slice t) ys=>if e:t=te then some (true,e ▸ ys)else none
 |.own id ver =>
  match h[id]? with
  |some (.arr _ t v rows _)=>if e:t=te then some (Nat.beq v ver,e ▸ rows)else none
  |_=>none
 |.sl id ver off len =>
  match h[id]? with
  |some (.arr _ t v rows _)=>if e:t=te then some (Nat.beq v ver&&decide (off+len<=rows.length),e ▸ ((rows.drop off).take len))else none
  |_=>none
 |_=>none
def zXu (w:World) (N:Nat->Nat->Prop) (te:Ty) (ys:List te.den) (v:Value):Prop :=(v = .slice none 0 0 ∧ ys = []) ∨ (∃ b off cap css,v = .slice (some ⟨b,off,none⟩) ys.length cap ∧ ys.length<=cap ∧ bD (fun x c=>te.Rel w N x c) ys css ∧ Cells w b off css.flatten) ∨ ∃ a cap,v = .slice (some a) 0 cap ∧ ys = []
theorem jJ{N:Nat->Nat->Prop}{te:Ty}{ys:List te.den}{css:List (List Value)}(h:bD (λx c=>te.Rel w N x c) ys css):∀ c∈css,c.length=te.size:=λc hc=>by
 obtain⟨y,_,hy⟩:=h.mem_right c hc;exact hy.length
theorem Fb{h:List Ob}{te:Ty}{x:L}{ys:List te.den}{v:Value}(hh:fB C β h w)(hr:rowsOf h te x=some (true,ys))(hx:x.Rel β w (C.N β h) [v]):zXu w (C.N β h) te ys v:=by
 unfold rowsOf at hr;split at hr
 ·simp only[aA,aB,true_and]at hr;simp only[L.Rel,aJ,and_true]at hx;exact .inl ⟨hx,hr.symm⟩
 ·rename_i t zs;split at hr
  ·rename_i e;subst e;simp only[aA,aB,true_and]at hr;subst hr;simp only[L.Rel,Ty.Rel]at hx;obtain⟨v',e1,hs⟩:=hx;simp only[aJ,and_true]at e1;subst e1;rcases hs with hs|⟨b,off,cap,css,h1,h2,h3,h4,h5,h6,h7,h8⟩|⟨a,cap,h1,h2,_⟩
   ·exact .inl hs
   ·exact .inr (.inl ⟨b,off,cap,css,h1,h4,h6,h8⟩)
   ·exact .inr (.inr ⟨a,cap,h1,h2⟩)
  ·cases hr
 ·rename_i id ver;split at hr
  ·rename_i e t vv rows wr ho;split at hr
   ·rename_i e1;subst e1;simp only[aA,aB]at hr;obtain⟨hv,rfl⟩:=hr;have hv:=aK hv;have hob:=hh.obj _ _ ho;simp only[Ob.Rel]at hob;obtain⟨_,_,hpv,hpz,hpos,hpl,hob⟩:=hob;simp only[L.Rel]at hx;obtain⟨_,_,_,c,hc,_,himp⟩:=hx;have hsl:=himp (by rw[hpv,hv]);simp only[aJ,and_true]at hc;subst hc;unfold eO at hsl;rcases hob with ⟨hnb,hr0,_⟩|⟨b,cur,css,hb,hheap,hall,htake,hcap,hrc,_⟩
    ·rw[hnb]at hsl;exact .inl ⟨hsl.1,hr0⟩
    ·rw[hb]at hsl;obtain⟨h1,o,h2,h3⟩:=hsl;rw[hpl]at h2 h1;have ho0:o=0\/rows.length=0:=by
      rcases h3 with h3|h3
      ·left;omega
      ·right;omega
     have hcs:=(Cells.of_heap hheap).take (rows.length*t.size);rw[htake]at hcs;rcases ho0 with rfl|h0
     ·exact .inr (.inl ⟨b,0,_,css,h2,by omega,hall,hcs⟩)
     ·have:rows=[]:=List.eq_nil_of_length_eq_zero h0;subst this;have:css=[]:=by cases css with|nil=>rfl|cons _ _=>exact hall.elim
      subst this;exact .inr (.inl ⟨b,o,_,[],h2,by simp,trivial,Cells.nil⟩)
   ·cases hr
  ·cases hr
 ·rename_i id ver off len;split at hr
  ·rename_i e t vv rows wr ho;split at hr
   ·rename_i e1;subst e1;simp only[aA,aB,aD]at hr;obtain⟨⟨hv,hle⟩,rfl⟩:=hr;have hv:=aK hv;have hle:=of_decide_eq_true hle;have hob:=hh.obj _ _ ho;simp only[Ob.Rel]at hob;obtain⟨_,_,hpv,hpz,hpos,hpl,hob⟩:=hob;simp only[L.Rel]at hx;obtain⟨_,_,_,c,hc,_,himp⟩:=hx;have hsl:=himp (by rw[hpv,hv]);simp only[aJ,and_true]at hc;subst hc;unfold eO at hsl;rcases hob with ⟨hnb,hr0,_⟩|⟨b,cur,css,hb,hheap,hall,htake,hcap,hrc,_⟩
    ·rw[hnb]at hsl;subst hr0;exact .inl ⟨hsl.1,by simp⟩
    ·rw[hb]at hsl;obtain⟨h1,o,h2,h3⟩:=hsl;have hlen:((rows.drop off).take len).length=len:=by simp;omega
     have hcs:=(Cells.of_heap hheap).take (rows.length*t.size);rw[htake]at hcs;have hl:=jJ hall;have hcs2:=(hcs.drop (off*t.size)).take (len*t.size);rw[oP css hl off,rX _ (λc hc=>hl c (List.mem_of_mem_drop hc)) len,Nat.zero_add]at hcs2;rcases h3 with h3|h3
     ·refine .inr (.inl ⟨b,o,_,(css.drop off).take len,by rw[hlen];exact h2,by omega,(hall.drop off).take len,?_⟩);rw[h3,hpz];exact hcs2
     ·have hl0:len=0:=by omega
      subst hl0;exact .inr (.inl ⟨b,o,_,[],by simpa using h2,by simp,by simp[bD],Cells.nil⟩)
   ·cases hr
  ·cases hr
 ·cases hr
def room:Nat:=140737488355328
theorem yVq{σ:St}{a:Act}{e:TypeId}{t:Ty}{rows:List t.den}{css:List (List Value)}{cs:Array Value}{cap:Nat}(hs:Sim C β σ a w)(hpos:0<t.size)(hr:bD (λx c=>t.Rel w (C.N β σ.h) x c) rows css)(hcs:cs.toList.take (rows.length*t.size)=css.flatten)(hsz:cs.size=cap*t.size)(hle:rows.length<=cap)(hm:cap<=maxLen):∃ β',Moves β β'/\Sim C β' { σ with h:=σ.h++[.arr e t 0 rows true] } a (w.drew.alloc (.cells cs e)) /\
  (L.own σ.h.length 0).Rel β' (w.drew.alloc (.cells cs e)) (C.N β' (σ.h++[.arr e t 0 rows true])) [.slice (some ⟨w.heap.size,0,none⟩) rows.length cap]:=by
 let p:Pl:=⟨true,false,0,some w.heap.size,t.size,cap,rows.length,[]⟩
 have hk:Keep (λ_ _=>False) w (w.drew.alloc (.cells cs e)):=(zT w).trans (dX w.drew _);refine⟨upd β σ.h.length p,rP hs.heap p,hs.push (p:=p) (.inr ⟨rfl,by simp⟩) hk ⟨rfl,rfl,rfl⟩ ?_,?_⟩
 ·simp only[Ob.Rel];refine⟨rfl,rfl,rfl,rfl,hpos,rfl,.inr ⟨w.heap.size,cs,css,rfl,?_,?_,hcs,hsz,hle,hm⟩⟩
  ·exact heap_alloc_new w.drew _
  ·exact hr.mono λ_ _ hx=>hx.mono (hk.weaken λ_ _ h=>h.elim) λb j hlt hn=>Ju (zDb rfl (.inr rfl)) hlt hn
 ·simp only[L.Rel,upd_same];refine⟨rfl,rfl,aP _,_,rfl,rfl,λ_=>?_⟩;unfold eO;simp only[p];exact⟨by omega,0,rfl,.inl (by simp)⟩
theorem Ql{σ:St}{a:Act}{e:TypeId}{t:Ty}(hs:Sim C β σ a w)(hpos:0<t.size):∃ β',Moves β β'/\Sim C β' { σ with h:=σ.h++[.arr e t 0 [] true] } a w/\(L.own σ.h.length 0).Rel β' w (C.N β' (σ.h++[.arr e t 0 [] true])) [.slice none 0 0]:=by
 let p:Pl:=⟨true,false,0,none,t.size,0,0,[]⟩
 refine⟨upd β σ.h.length p,rP hs.heap p,hs.push (p:=p) (.inl rfl) (Keep.refl _ w) ⟨rfl,rfl,rfl⟩ ?_,?_⟩
 ·simp only[Ob.Rel];exact⟨rfl,rfl,rfl,rfl,hpos,rfl,.inl ⟨rfl,trivial,rfl⟩⟩
 ·simp only[L.Rel,upd_same];refine⟨rfl,rfl,aP _,_,rfl,rfl,λ_=>?_⟩;unfold eO;simp only[p];exact⟨trivial,trivial,trivial⟩
theorem oQ{b off:Nat}{cs:List Value}(h:Cells w b off cs):∀ j u,cs[j]?=some u->w.cell? ((⟨b,off,none⟩:Addr).add j)=some u:=λj u hu=>by
 rw[addr_add];exact h j u hu
theorem zXb{σ:St}{a:Act}{st e:TypeId}{ts ti:TI}{te:Ty}{ys:List te.den}{y:Value}(ty:TypeId)(hT:bM C.P T)(hst:T.get st=some ts)(hk:ts.k=.slice e)(hti:T.get e=some ti)(hsz:ti.size=te.size)(hpos:0<te.size)(hby:0<ti.bytes)(hroom:ys.length*ti.bytes<=room)(hs:Sim C β σ a w)(hy:zXu w (C.N β σ.h) te ys y):∃ v' w' β',(Builtin.append_ #[st,st] ty #[.slice none 0 0,y]).run C.P w=.ok v' w'/\Moves β β'/\Sim C β' { σ with h:=σ.h++[.arr e te 0 ys true] } a w'/\(L.own σ.h.length 0).Rel β' w' (C.N β' (σ.h++[.arr e te 0 ys true])) [v']/\Keep (C.N β σ.h) w w':=by
 have hu:=(hT _ _ hst).slice hk;obtain⟨i,z,hi,his,hib,hz,sV,hzs,_⟩:=(hT _ _ hti).i;have hlen:ys.length<=ys.length*ti.bytes:=Nat.le_mul_of_pos_right _ hby;unfold room at hroom;have hnil:ys=[]->y=.slice none 0 0\/(∃ a cap,y=.slice (some a) 0 cap)->(Builtin.append_ #[st,st] ty #[.slice none 0 0,y]).run C.P w=.ok (.slice none 0 0) w:=by
  rintro _ (rfl|⟨a,cap,rfl⟩)
  ·simp[Builtin.append_,run_underlying hu,Go.sizeOf,typeInfo,hi,Builtin.lenOf,Builtin.firstCells]
  ·simp[Builtin.append_,run_underlying hu,Go.sizeOf,typeInfo,hi,Builtin.lenOf,Builtin.firstCells,loadCells,loadCellsFrom]
 by_cases h0:ys.length=0
 ·have hys:ys=[]:=List.eq_nil_of_length_eq_zero h0;subst hys;obtain⟨β',h1,h2,h3⟩:=Ql (e:=e) hs hpos;refine⟨_,w,β',hnil rfl ?_,h1,h2,h3,Keep.refl _ w⟩;rcases hy with ⟨hy,_⟩|⟨b,off,cap,css,hy,_⟩|⟨a,cap,hy,_⟩
  ·exact .inl hy
  ·exact .inr ⟨⟨b,off,none⟩,cap,hy⟩
  ·exact .inr ⟨a,cap,hy⟩
 ·rcases hy with ⟨_,hy⟩|⟨b,off,cap,css,rfl,hle,hall,hcs⟩|⟨_,_,_,hy⟩
  rotate_left 2
  ·subst hy;simp at h0
  ·subst hy;simp at h0
  ·have hl:=jJ hall;have hfl:css.flatten.length=ys.length*i.size:=by rw[cB css hl,hall.length,his,hsz]
   have hrun:=run_append_nil (P:=C.P) w st ty e i z hu hi hz ⟨b,off,none⟩ ys.length cap css.flatten hfl (oQ hcs) (by omega) (by omega) (by rw[hib];omega);have hge:=grownCap_ge w ys.length 0 e;have hcm:=grownCap_le_maxLen w ys.length 0 e (by simp only[maxLen];omega);obtain⟨β',h1,h2,h3⟩:=yVq (e:=e) (cs:=css.flatten.toArray++Builtin.zeroCells z.cells (grownCap w ys.length 0 e-ys.length)) (cap:=grownCap w ys.length 0 e) hs hpos hall
    (by simp only[Array.toList_append];rw[List.take_left' (by rw[hfl,his,hsz])])
    (by simp only[Array.size_append,List.size_toArray,size_zeroCells,hzs,hfl,his,hsz,<- Nat.add_mul];congr 1;omega) hge hcm
   exact⟨_,_,β',hrun,h1,h2,h3,((zT w).trans (dX w.drew _)).weaken λ_ _ h=>h.elim⟩
theorem zFi{σ:St}{a:Act}{st e:TypeId}{ts ti:TI}{te:Ty}{rows ys:List te.den}{x y:Value}{id ver n:Nat}(ty:TypeId)(hT:bM C.P T)(hst:T.get st=some ts)(hk:ts.k=.slice e)(hti:T.get e=some ti)(hsz:ti.size=te.size)(hby:0<ti.bytes)(hroom:(n+ys.length)*ti.bytes<=room)(hs:Sim C β σ a w)(ho:σ.h[id]?=some (.arr e te ver rows true))(hn:n<=rows.length)(hx:eO (β id) 0 n x)(hy:zXu w (C.N β σ.h) te ys y):∃ v' w' β',(Builtin.append_ #[st,st] ty #[x,y]).run C.P w=.ok v' w'/\Moves β β'/\Sim C β' { σ with h:=σ.h.set id (.arr e te (ver+1) (rows.take n++ys) true) } a w' /\
  (L.own id (ver+1)).Rel β' w' (C.N β' (σ.h.set id (.arr e te (ver+1) (rows.take n++ys) true))) [v']/\Keep (C.N β σ.h) w w':=by
 have hu:=(hT _ _ hst).slice hk;obtain⟨i,z,hi,his,hib,hz,sV,hzs,_⟩:=(hT _ _ hti).i;have hlen:n+ys.length<=(n+ys.length)*ti.bytes:=Nat.le_mul_of_pos_right _ hby;unfold room at hroom;have hob:=hs.heap.obj _ _ ho;simp only[Ob.Rel]at hob;obtain⟨hlive,mV,hpv,hpz,hpos,hpl,hob⟩:=hob;have hrl:(rows.take n++ys).length=n+ys.length:=by simp;omega
 have fin:∀ (w':World) (bk cap:Nat) (cur:Array Value) (css:List (List Value)),(bk=w.heap.size/\w.heap.size<w'.heap.size\/(β id).blk=some bk)->Keep (λk _=>(β id).blk=some k/\True) w w'->Same w w' ->
  w'.heap[bk]?=some (.cells cur e (0,0))->bD (λx c=>te.Rel w (C.N β σ.h) x c) (rows.take n++ys) css->cur.toList.take ((n+ys.length)*te.size)=css.flatten->cur.size=cap*te.size->n+ys.length<=cap->cap<=maxLen ->
  ∃ β',Moves β β'/\Sim C β' { σ with h:=σ.h.set id (.arr e te (ver+1) (rows.take n++ys) true) } a w' /\
   (L.own id (ver+1)).Rel β' w' (C.N β' (σ.h.set id (.arr e te (ver+1) (rows.take n++ys) true))) [.slice (some ⟨bk,0,none⟩) (n+ys.length) cap]:=by
  intro w' bk cap cur css hbk hkeep hsame hheap hall htake hcsz hle hm
  let p:Pl:=⟨true,false,ver+1,some bk,te.size,cap,n+ys.length,[]⟩
  have hmv:Moves β (upd β id p):=λj hj=>by
   by_cases hji:j=id
   ·subst hji;rw[upd_same];exact .inr ⟨mV,rfl,rfl,by rw[hpv];exact Nat.lt_succ_self _⟩
   ·exact .inl (aU _ _ hji)
  have hpb:p.blk=(β id).blk\/p.blk=none\/(p.blk=some w.heap.size/\w.heap.size<w'.heap.size):=by
   rcases hbk with ⟨e1,h2⟩|e1
   ·right;right;exact⟨by simp only[p,e1],h2⟩
   ·left;simp only[p,e1]
  have hkk:Keep (λk _=>(β id).blk=some k/\Ob.wr (.arr e te ver rows true)=true) w w':=hkeep.weaken λk _ hk=>⟨hk.1,rfl⟩
  refine⟨upd β id p,hmv,hs.set (p:=p) ho (λ_=>rfl) hpb hkk hsame hmv ?_,?_⟩
  ·simp only[Ob.Rel];refine⟨rfl,rfl,rfl,rfl,hpos,hrl.symm,.inr ⟨bk,cur,css,rfl,hheap,?_,by rw[hrl];exact htake,hcsz,by rw[hrl];exact hle,hm⟩⟩;exact hall.mono λ_ _ h=>h.mono (hkk.weaken λk _ hk=>.inr ⟨id,_,ho,rfl,Ob.mH hk.1⟩) λk j hlt hn=>xS (w:=w) ho (at_set (λ_=>rfl) (hpb.imp (λh=>h) (·.imp (λh=>h) (·.1))) rfl) hlt hn
  ·simp only[L.Rel,upd_same];refine⟨rfl,rfl,aP _,_,rfl,rfl,λ_=>?_⟩;unfold eO;simp only[p];exact⟨by omega,0,rfl,.inl (by simp)⟩
 have toK:∀ {w':World},Keep (λk _=>(β id).blk=some k/\True) w w'->Keep (C.N β σ.h) w w':=λh=>h.weaken λk _ hk=>.inr ⟨id,_,ho,rfl,Ob.mH hk.1⟩
 rcases hob with ⟨hnb,hr0,hcap0⟩|⟨b,cur,css,hb,hheap,hall,htake,hcap,hrc,hcm⟩
 ·subst hr0;have hn0:n=0:=by simpa using hn
  subst hn0;unfold eO at hx;rw[hnb]at hx;obtain⟨rfl,_,_⟩:=hx;by_cases h0:ys.length=0
  ·have hys:ys=[]:=List.eq_nil_of_length_eq_zero h0;subst hys;have hrun:(Builtin.append_ #[st,st] ty #[.slice none 0 0,y]).run C.P w=.ok (.slice none 0 0) w:=by
    rcases hy with ⟨rfl,_⟩|⟨b,off,cap,css,rfl,_⟩|⟨_,_,rfl,_⟩
    ·simp[Builtin.append_,run_underlying hu,Go.sizeOf,typeInfo,hi,Builtin.lenOf,Builtin.firstCells]
    ·simp[Builtin.append_,run_underlying hu,Go.sizeOf,typeInfo,hi,Builtin.lenOf,Builtin.firstCells,loadCells,loadCellsFrom]
    ·simp[Builtin.append_,run_underlying hu,Go.sizeOf,typeInfo,hi,Builtin.lenOf,Builtin.firstCells,loadCells,loadCellsFrom]
   let p:Pl:=⟨true,false,ver+1,none,te.size,0,0,[]⟩
   have hmv:Moves β (upd β id p):=λj hj=>by
    by_cases hji:j=id
    ·subst hji;rw[upd_same];exact .inr ⟨mV,rfl,rfl,by rw[hpv];exact Nat.lt_succ_self _⟩
    ·exact .inl (aU _ _ hji)
   refine⟨_,w,upd β id p,hrun,hmv,hs.set (p:=p) ho (λ_=>rfl) (.inr (.inl rfl)) (Keep.refl _ w) ⟨rfl,rfl,rfl⟩ hmv ?_,?_,Keep.refl _ w⟩
   ·simp only[Ob.Rel];exact⟨rfl,rfl,rfl,rfl,hpos,by simp[p],.inl ⟨rfl,by simp,rfl⟩⟩
   ·simp only[L.Rel,upd_same];refine⟨rfl,rfl,aP _,_,rfl,rfl,λ_=>?_⟩;unfold eO;simp only[p];exact⟨trivial,trivial,trivial⟩
  ·rcases hy with ⟨_,hy⟩|⟨b,off,cap,css,rfl,hle,hall,hcs⟩|⟨_,_,_,hy⟩
   rotate_left 2
   ·subst hy;simp at h0
   ·subst hy;simp at h0
   ·have hl:=jJ hall;have hfl:css.flatten.length=ys.length*i.size:=by rw[cB css hl,hall.length,his,hsz]
    have hrun:=run_append_nil (P:=C.P) w st ty e i z hu hi hz ⟨b,off,none⟩ ys.length cap css.flatten hfl (oQ hcs) (by omega) (by omega) (by rw[hib];rw[Nat.zero_add]at hroom;omega);have hge:=grownCap_ge w ys.length 0 e;have hcm:=grownCap_le_maxLen w ys.length 0 e (by simp only[maxLen];omega);have hk0:Keep (λ_ _=>False) w (w.drew.alloc (.cells (css.flatten.toArray++Builtin.zeroCells z.cells (grownCap w ys.length 0 e-ys.length)) e)):=(zT w).trans (dX w.drew _);have hk1:=hk0.weaken (N':=λk _=>(β id).blk=some k/\True) λ_ _ h=>h.elim
    obtain⟨β',h1,h2,h3⟩:=fin _ w.heap.size (grownCap w ys.length 0 e) _ css (.inl ⟨rfl,by simp⟩) hk1 ⟨rfl,rfl,rfl⟩ (heap_alloc_new w.drew _) (by simpa using hall)
     (by simp only[Array.toList_append,Nat.zero_add];rw[List.take_left' (by rw[hfl,his,hsz])])
     (by simp only[Array.size_append,List.size_toArray,size_zeroCells,hzs,hfl,his,hsz,<- Nat.add_mul];congr 1;omega) (by omega) hcm
    rw[Nat.zero_add]at h3;exact⟨_,_,β',hrun,h1,h2,h3,toK hk1⟩
 ·unfold eO at hx;rw[hb]at hx;obtain⟨h1,o,rfl,h3⟩:=hx;have ho0:o=0:=by
   rcases h3 with h3|h3
   ·simpa using h3
   ·omega
  subst ho0;rw[Nat.sub_zero];have hl:=jJ hall;have hlx:=hall.take n;obtain⟨lG,b2,off2,cap2,hrow,yR,yHt⟩:∃ lG b2 off2 cap2,(ys.length=0\/y=.slice (some ⟨b2,off2,none⟩) ys.length cap2)/\bD (λx c=>te.Rel w (C.N β σ.h) x c) ys lG/\Cells w b2 off2 lG.flatten:=by
   rcases hy with ⟨_,hy⟩|⟨b2,off2,cap2,lG,hy,_,hy2,hy3⟩|⟨_,_,_,hy⟩
   ·subst hy;exact⟨[],0,0,0,.inl rfl,trivial,Cells.nil⟩
   ·exact⟨lG,b2,off2,cap2,.inr hy,hy2,hy3⟩
   ·subst hy;exact⟨[],0,0,0,.inl rfl,trivial,Cells.nil⟩
  have hly:=jJ yR;have hfy:lG.flatten.length=ys.length*i.size:=by rw[cB lG hly,yR.length,his,hsz]
  have yXs:cur.toList.take (n*te.size)=(css.take n).flatten:=by
   rw[<- rX css hl n,<- htake,List.take_take,Nat.min_eq_left (Nat.mul_le_mul_right _ hn)]
  have hln:(css.take n).flatten.length=n*te.size:=by
   rw[cB _ (λc hc=>hl c (List.mem_of_mem_take hc)),List.length_take,<- hall.length,Nat.min_eq_left hn]
  have hone:∀ u∈lG.flatten,u.oneCell'=true:=λu hu=>by
   obtain⟨c,hc,huc⟩:=List.mem_flatten.1 hu;obtain⟨q,_,hq⟩:=yR.mem_right c hc;exact hq.one u huc
  by_cases hr:n+ys.length<=(β id).cap
  ·have hmul:(n+ys.length)*te.size<=(β id).cap*te.size:=Nat.mul_le_mul_right _ hr;have hadd:(n+ys.length)*te.size=n*te.size+ys.length*te.size:=Nat.add_mul _ _ _;have hrun:(Builtin.append_ #[st,st] ty #[.slice (some ⟨b,0,none⟩) n (β id).cap,y]).run C.P w =
    .ok (.slice (some ⟨b,0,none⟩) (n+ys.length) (β id).cap) (w.setRow b (cur.toList.take (n*i.size)++lG.flatten++cur.toList.drop (n*i.size+lG.flatten.length)).toArray):=by
    rcases hy with ⟨rfl,hy⟩|⟨b3,xDe,yHu,xFv,rfl,_,hy2,hy3⟩|⟨a3,yHu,rfl,hy⟩
    rotate_left 2
    ·subst hy;have:lG=[]:=by cases lG with|nil=>rfl|cons _ _=>exact yR.elim
     subst this;have zYz:n+0<=(β id).cap:=hr;exact run_append_room (P:=C.P) w st ty e i hu hi b n (β id).cap cur hheap a3 0 yHu [] (by simp) (by simp) (by simp) zYz (by simp;rw[his,hsz];simp at hmul;omega)
    ·subst hy;have:lG=[]:=by cases lG with|nil=>rfl|cons _ _=>exact yR.elim
     subst this;simp only[List.flatten_nil,List.append_nil,List.length_nil,Nat.add_zero,List.take_append_drop,Array.toArray_toList,setRow_self w b cur e (0,0) hheap];simp[Builtin.append_,run_underlying hu,Go.sizeOf,typeInfo,hi,Builtin.lenOf,Builtin.firstCells,storeCells];omega
    ·rcases hrow with h0|hrow
     ·have:ys=[]:=List.eq_nil_of_length_eq_zero h0;subst this;have:lG=[]:=by cases lG with|nil=>rfl|cons _ _=>exact yR.elim
      subst this;have zYz:n+0<=(β id).cap:=hr;exact run_append_room (P:=C.P) w st ty e i hu hi b n (β id).cap cur hheap ⟨b3,xDe,none⟩ 0 yHu [] (by simp) (by simp) (by simp) zYz (by simp;rw[his,hsz];simp at hmul;omega)
     ·simp only[Value.slice.injEq,aA,Addr.mk.injEq,and_true,true_and]at hrow;obtain⟨⟨rfl,rfl⟩,rfl⟩:=hrow;exact run_append_room (P:=C.P) w st ty e i hu hi b n (β id).cap cur hheap _ ys.length yHu lG.flatten hfy (oQ yHt) hone hr (by rw[hfy,his,hsz];omega)
   have hk1:Keep (λk _=>(β id).blk=some k/\True) w (w.setRow b (cur.toList.take (n*i.size)++lG.flatten++cur.toList.drop (n*i.size+lG.flatten.length)).toArray):=mW.weaken λk _ hk=>by subst hk;exact⟨hb,trivial⟩
   obtain⟨β',g1,g2,g3⟩:=fin _ b (β id).cap _ (css.take n++lG) (.inr hb) hk1 Bo (setRow_heap w b _ _ e _ hheap) (hlx.append yR)
    (by
     rw[his,hsz,yXs,List.flatten_append];exact List.take_left' (by rw[List.length_append,hln,hfy,his,hsz,hadd]))
    (by
     simp only[List.size_toArray,List.length_append,List.length_take,List.length_drop,Array.length_toList,hfy,his,hsz];omega) hr hcm
   exact⟨_,_,β',hrun,g1,g2,g3,toK hk1⟩
  ·have xBr:0<ys.length:=by omega
   rcases hrow with h0|rfl
   ·omega
   ·have holds:∀ j u,(css.take n).flatten[j]?=some u->w.cell? ((⟨b,0,none⟩:Addr).add j)=some u:=oQ (by rw[<- yXs];exact(Cells.of_heap hheap).take _);have hrun:=run_append_grow (P:=C.P) w st ty e i z hu hi hz ⟨b,0,none⟩ n (β id).cap (css.take n).flatten (by rw[hln,his,hsz]) holds ⟨b2,off2,none⟩ ys.length cap2 lG.flatten hfy (oQ yHt) (by omega) (by omega)
     (growslice_fits (by omega) (by rw[hib];exact hroom))
    have hge:=grownCap_ge w (n+ys.length) (β id).cap e;have hcm':=grownCap_le_maxLen w (n+ys.length) (β id).cap e (by simp only[maxLen];omega);have hk0:Keep (λ_ _=>False) w (w.drew.alloc (.cells ((css.take n).flatten.toArray++lG.flatten.toArray++Builtin.zeroCells z.cells (grownCap w (n+ys.length) (β id).cap e-(n+ys.length))) e)):=(zT w).trans (dX w.drew _);have hk1:=hk0.weaken (N':=λk _=>(β id).blk=some k/\True) λ_ _ h=>h.elim
    obtain⟨β',g1,g2,g3⟩:=fin _ w.heap.size (grownCap w (n+ys.length) (β id).cap e) _ (css.take n++lG) (.inl ⟨rfl,by simp⟩) hk1 ⟨rfl,rfl,rfl⟩ (heap_alloc_new w.drew _) (hlx.append yR)
     (by
      simp only[Array.toList_append,List.flatten_append];exact List.take_left' (by rw[List.length_append,hln,hfy,his,hsz,<- Nat.add_mul]))
     (by
      simp only[Array.size_append,List.size_toArray,size_zeroCells,hzs,hfy,hln,his,hsz,<- Nat.add_mul];congr 1;omega) hge hcm'
    exact⟨_,_,β',hrun,g1,g2,g3,toK hk1⟩
theorem Sim.grow{σ:St}{a:Act}{w':World}(hs:Sim C β σ a w)(hk0:Keep (λ_ _=>False) w w')(hsm:Same w w'):Sim C β σ a w':=by
 have hold:∀ b:Nat,b<w.heap.size->w'.heap[b]?=w.heap[b]?:=λb hb=>hk0.2 b hb λ_ h=>h
 have hk:Keep (C.N β σ.h) w w':=hk0.weaken λ_ _ h=>h.elim
 refine⟨⟨λid o ho=>?_,hs.heap.dead,hs.heap.kR,λid o b ho hb=>?_,hs.heap.n0,hs.heap.frame.tN hk0 λ_ _ _ h=>h.elim,Nat.le_trans hs.heap.size hk0.1,hsm.os.trans hs.heap.os,hsm.tape.trans hs.heap.tape,hsm.output.trans hs.heap.output,hs.heap.fixed⟩,hs.defers,hs.size,λi v hv=>(hs.reg i v hv).mono (Moves.refl β) hk λ_ _ _ h=>h⟩
 ·exact(hs.heap.obj id o ho).mono (Moves.refl β) hk (λ_ _ _ h=>h) λb hb=>hold b (hs.heap.eY id o b ho hb).2.1
 ·obtain⟨h1,h2,h3⟩:=hs.heap.eY id o b ho hb;exact⟨h1,Nat.lt_of_lt_of_le h2 hk0.1,h3⟩
theorem yMg{h:List Ob}(hs:fB C β h w)(j:Nat):¬ C.N β h w.heap.size j:=by
 rintro(hn|⟨id,o,ho,_,hat⟩)
 ·have:=hs.n0 _ _ hn;have:=hs.size;omega
 ·have:=(hs.eY id o _ ho ⟨j,hat⟩).2.1;omega
theorem zBc{σ:St}{a:Act}{st e:TypeId}{ts ti:TI}{te:Ty}{xs ys:List te.den}{x y:Value}(ty:TypeId)(hT:bM C.P T)(hst:T.get st=some ts)(hk:ts.k=.slice e)(hti:T.get e=some ti)(hsz:ti.size=te.size)(hby:0<ti.bytes)(hroom:(xs.length+ys.length)*ti.bytes<=room)(hs:Sim C β σ a w)(hx:(Ty.clip te).Rel w (C.N β σ.h) xs [x])(hy:zXu w (C.N β σ.h) te ys y):∃ v' w',(Builtin.append_ #[st,st] ty #[x,y]).run C.P w=.ok v' w'/\Keep (C.N β σ.h) w w'/\Sim C β σ a w'/\(Ty.slice te).Rel w' (C.N β σ.h) (xs++ys) [v']:=by
 have hu:=(hT _ _ hst).slice hk;obtain⟨i,z,hi,his,hib,hz,sV,hzs,_⟩:=(hT _ _ hti).i;have hlen:xs.length+ys.length<=(xs.length+ys.length)*ti.bytes:=Nat.le_mul_of_pos_right _ hby;unfold room at hroom;obtain⟨x',e1,hsl,p,n,ht⟩:=hx;simp only[aJ,and_true]at e1;subst e1;have fin:∀ (cur:Array Value) (cap:Nat) (css:List (List Value)),bD (λx c=>te.Rel w (C.N β σ.h) x c) (xs++ys) css->(∃ r,cur.toList=css.flatten++r)->xs.length+ys.length<=cap->cap<=maxLen ->
  Keep (C.N β σ.h) w (w.drew.alloc (.cells cur e))/\Sim C β σ a (w.drew.alloc (.cells cur e))/\(Ty.slice te).Rel (w.drew.alloc (.cells cur e)) (C.N β σ.h) (xs++ys) [.slice (some ⟨w.heap.size,0,none⟩) (xs.length+ys.length) cap]:=by
  intro cur cap css hall hcur hle hm;have hk0:Keep (λ_ _=>False) w (w.drew.alloc (.cells cur e)):=(zT w).trans (dX w.drew _);have hkN:Keep (C.N β σ.h) w (w.drew.alloc (.cells cur e)):=hk0.weaken λ_ _ h=>h.elim
  refine⟨hkN,hs.grow hk0 ⟨rfl,rfl,rfl⟩,_,rfl,.inr (.inl ⟨w.heap.size,0,cap,css,by rw[List.length_append],?_,λj _ _=>yMg hs.heap j,by rw[List.length_append];exact hle,hm,hall.mono λ_ _ h=>h.mono hkN λ_ _ _ h=>h,jJ hall,?_⟩)⟩
  ·have:=heap_alloc_new w.drew (.cells cur e);exact(Array.getElem?_eq_some_iff.1 this).1
  ·obtain⟨r,hcur⟩:=hcur;have h1:=Cells.of_heap (heap_alloc_new w.drew (.cells cur e));rw[hcur]at h1;exact h1.left
 have hnil:xs=[]->x=.slice none 0 0->∃ v' w',(Builtin.append_ #[st,st] ty #[x,y]).run C.P w=.ok v' w'/\Keep (C.N β σ.h) w w'/\Sim C β σ a w'/\(Ty.slice te).Rel w' (C.N β σ.h) (xs++ys) [v']:=by
  rintro rfl rfl;have hemp:ys=[]->(Builtin.append_ #[st,st] ty #[.slice none 0 0,y]).run C.P w=.ok (.slice none 0 0) w:=by
   intro h0;subst h0;rcases hy with ⟨rfl,_⟩|⟨b,off,cap,css,rfl,_⟩|⟨_,_,rfl,_⟩
   ·simp[Builtin.append_,run_underlying hu,Go.sizeOf,typeInfo,hi,Builtin.lenOf,Builtin.firstCells]
   ·simp[Builtin.append_,run_underlying hu,Go.sizeOf,typeInfo,hi,Builtin.lenOf,Builtin.firstCells,loadCells,loadCellsFrom]
   ·simp[Builtin.append_,run_underlying hu,Go.sizeOf,typeInfo,hi,Builtin.lenOf,Builtin.firstCells,loadCells,loadCellsFrom]
  by_cases h0:ys.length=0
  ·have hys:ys=[]:=List.eq_nil_of_length_eq_zero h0;have:=hemp hys;subst hys;exact⟨_,w,this,Keep.refl _ w,hs,_,rfl,.inl ⟨rfl,rfl⟩⟩
  ·rcases hy with ⟨_,hy⟩|⟨b,off,cap,css,rfl,hle,hall,hcs⟩|⟨_,_,_,hy⟩
   rotate_left 2
   ·subst hy;simp at h0
   ·subst hy;simp at h0
   ·have hl:=jJ hall;have hfl:css.flatten.length=ys.length*i.size:=by rw[cB css hl,hall.length,his,hsz]
    simp only[List.length_nil,Nat.zero_add]at hroom hlen;have hrun:=run_append_nil (P:=C.P) w st ty e i z hu hi hz ⟨b,off,none⟩ ys.length cap css.flatten hfl (oQ hcs) (by omega) (by omega) (by rw[hib];omega);have hge:=grownCap_ge w ys.length 0 e;have hcm:=grownCap_le_maxLen w ys.length 0 e (by simp only[maxLen];omega);obtain⟨g1,g2,g3⟩:=fin (css.flatten.toArray++Builtin.zeroCells z.cells (grownCap w ys.length 0 e-ys.length)) (grownCap w ys.length 0 e) css hall ⟨_,by rw[Array.toList_append]⟩ (by simpa using hge) hcm;simp only[List.length_nil,Nat.zero_add]at g3;exact⟨_,_,hrun,g1,g2,g3⟩
 have hsome:∀ (ad:Addr) (csx:List (List Value)),x=.slice (some ad) xs.length xs.length->bD (λx c=>te.Rel w (C.N β σ.h) x c) xs csx->(∀ j u,csx.flatten[j]?=some u->w.cell? (ad.add j)=some u)->(Ty.slice te).Rel w (C.N β σ.h) xs [x] ->
  ∃ v' w',(Builtin.append_ #[st,st] ty #[x,y]).run C.P w=.ok v' w'/\Keep (C.N β σ.h) w w'/\Sim C β σ a w'/\(Ty.slice te).Rel w' (C.N β σ.h) (xs++ys) [v']:=by
  rintro ad csx rfl yHv hcx hself;by_cases h0:ys.length=0
  ·have hys:ys=[]:=List.eq_nil_of_length_eq_zero h0;subst hys;refine⟨.slice (some ad) xs.length xs.length,w,?_,Keep.refl _ w,hs,by rw[List.append_nil];exact hself⟩;rcases hy with ⟨rfl,_⟩|⟨b,off,cap,css,rfl,_⟩|⟨_,_,rfl,_⟩
   ·simp[Builtin.append_,run_underlying hu,Go.sizeOf,typeInfo,hi,Builtin.lenOf,Builtin.firstCells,storeCells]
   ·simp[Builtin.append_,run_underlying hu,Go.sizeOf,typeInfo,hi,Builtin.lenOf,Builtin.firstCells,storeCells,loadCells,loadCellsFrom]
   ·simp[Builtin.append_,run_underlying hu,Go.sizeOf,typeInfo,hi,Builtin.lenOf,Builtin.firstCells,storeCells,loadCells,loadCellsFrom]
  ·rcases hy with ⟨_,hy⟩|⟨b2,off2,cap2,lG,rfl,_,yR,yHt⟩|⟨_,_,_,hy⟩
   rotate_left 2
   ·subst hy;simp at h0
   ·subst hy;simp at h0
   ·have hfx:csx.flatten.length=xs.length*i.size:=by rw[cB csx (jJ yHv),yHv.length,his,hsz]
    have hfy:lG.flatten.length=ys.length*i.size:=by rw[cB lG (jJ yR),yR.length,his,hsz]
    have hrun:=run_append_grow (P:=C.P) w st ty e i z hu hi hz ad xs.length xs.length csx.flatten hfx hcx ⟨b2,off2,none⟩ ys.length cap2 lG.flatten hfy (oQ yHt) (by omega) (by omega)
     (growslice_fits (by omega) (by rw[hib];exact hroom))
    have hge:=grownCap_ge w (xs.length+ys.length) xs.length e;have hcm:=grownCap_le_maxLen w (xs.length+ys.length) xs.length e (by simp only[maxLen];omega);obtain⟨g1,g2,g3⟩:=fin (csx.flatten.toArray++lG.flatten.toArray++Builtin.zeroCells z.cells (grownCap w (xs.length+ys.length) xs.length e-(xs.length+ys.length))) _ (csx++lG) (yHv.append yR) ⟨_,by rw[Array.toList_append,Array.toList_append,List.flatten_append]⟩ hge hcm;exact⟨_,_,hrun,g1,g2,g3⟩
 rcases hsl with ⟨rfl,h2⟩|⟨b,off,cap,css,rfl,hb,hn,hl,hm,hr,hz2,hc⟩|⟨ad,cap,rfl,rfl,hm⟩
 ·exact hnil h2 rfl
 ·simp only[Value.slice.injEq]at ht;obtain⟨_,h2,h3⟩:=ht;have:cap=xs.length:=by omega
  subst this;exact hsome _ css rfl hr (oQ hc) ⟨_,rfl,.inr (.inl ⟨b,off,_,css,rfl,hb,hn,hl,hm,hr,hz2,hc⟩)⟩
 ·simp only[Value.slice.injEq]at ht;obtain⟨_,h2,h3⟩:=ht;have:cap=0:=by omega
  subst this;exact hsome ad [] rfl trivial (λj u hu=>by simp at hu) ⟨_,rfl,.inr (.inr ⟨ad,0,rfl,rfl,hm⟩)⟩
end
end Go.Dec
namespace Go.Dec
def Ty.cmp:Ty->Bool | .unit | .bool | .int _ | .str=>true | .pair a b=>a.cmp&&b.cmp | .arr _ a=>a.cmp | _=>false
def Vo {α:Type} (f:α->α->Bool):List α->List α->Bool | [],[]=>true | x :: xs,y :: ys=>f x y&&Vo f xs ys | _,_=>false
def Ty.beq:(t:Ty)->t.den->t.den->Bool
 |.unit,_,_=>true
 |.bool,a,b=>Bool.beq' a b
 |.int _,a,b=>Int.beq' a b
 |.str,a,b=>List.beq' a b
 |.pair a b,x,y=>a.beq x.1 y.1&&b.beq x.2 y.2
 |.arr _ a,x,y=>Vo (λu v=>a.beq u v) x y
 |_,_,_=>false
where
 Bool.beq' (a b:Bool):Bool:=a==b
 Int.beq' (a b:Int):Bool:=a==b
 List.beq' (a b:List UInt8):Bool:=a==b
def valOf(agg:Bool)(cs:List Value):Value:=if agg then .agg cs.toArray else cs.getD 0 undef
section
variable {P:Program}
variable {w:World}
variable {N:Nat->Nat->Prop}
theorem zOw:∀ {n:Nat}{t:TypeId}{ty:Ty}{d:TypeDesc},jI P n t=some ty->P.underlying t=some d->ty.cmp=true->ty.isAgg=(TK.of d).isAgg
 |0,_,_,_,h,_,_=>by simp[jI]at h
 |n+1,t,ty,d,h,hd,hc=>by
  simp only[jI,hd]at h;cases d<;>simp only[aA,reduceCtorEq,Option.map_eq_some_iff]at h
  case bool=>subst h;rfl
  case int=>subst h;rfl
  case string=>subst h;rfl
  case slice=>obtain⟨a,_,rfl⟩:=h;simp[Ty.cmp]at hc
  case array=>obtain⟨a,_,rfl⟩:=h;rfl
  case func=>subst h;simp[Ty.cmp]at hc
  case interface=>subst h;split at hc<;>simp[Ty.cmp]at hc
  case struct fs =>
   revert h;generalize fs.toList=l;cases l with
   |nil=>intro h;simp at h;subst h;rfl
   |cons f l =>
    intro h;simp only[List.foldr_cons]at h;split at h
    ·simp only[aA]at h;subst h;rfl
    ·cases h
theorem zDc{t:TypeId}{ty:Ty}{n:Nat}{d:TypeDesc}{x:ty.den}{cx:List Value}{all:List Value}{off:Nat}(ht:jI P n t=some ty)(hd:P.underlying t=some d)(hc:ty.cmp=true)(hsz:ty.size=P.cellsOf t)(hx:ty.Rel w N x cx)(hat:(all.drop off).take cx.length=cx):(part t all.toArray off).run P w=.ok (valOf ty.isAgg cx) w:=by
 have hag:=zOw ht hd hc;have hl:=hx.length;have hrun:(isAgg t).run P w=.ok (TK.of d).isAgg w:=by
  simp only[isAgg,Sem.run_bind,run_underlying hd,Result.andThen_ok];cases d<;>rfl
 simp only[part,Sem.run_bind,hrun,Result.andThen_ok];rw[<- hag];cases h:ty.isAgg with
 |true =>
  have hi:∃ i,P.info? t=some i:=by
   unfold Program.underlying at hd;split at hd
   ·rename_i h1;exact⟨_,h1⟩
   ·rename_i i h1;exact⟨_,h1⟩
   ·cases hd
  obtain⟨i,hi⟩:=hi;have hsz2:(sizeOf t).run P w=.ok (P.cellsOf t) w:=by simp[sizeOf,typeInfo,hi,Program.cellsOf]
  simp only[if_true,Sem.run_bind,hsz2,Result.andThen_ok,Sem.run_pure,valOf];congr 2;rw[<- hsz,<- hl];apply Array.toList_inj.1;simp only[Array.toList_extract,List.extract_eq_take_drop];rw[show off+cx.length-off=cx.length by omega];exact hat
 |false =>
  have h1:cx.length=1:=by
   rw[hl];cases ty<;>first|rfl|simp[Ty.isAgg]at h
  match cx,h1 with
  |[c],_ =>
   have hc0:all[off]?=some c:=by
    have:=congrArg (λl=>l[0]?) hat;simp only[List.getElem?_take,List.getElem?_drop,List.length_singleton,Nat.lt_add_one,if_true,Nat.add_zero,List.getElem?_cons_zero]at this;exact this
   simp[valOf,hc0]
theorem zUl{α:Type}(f:α->α->Bool)(w:World)(step:Nat->Option Bool × Unit->Sem (ForInStep (Option Bool × Unit))):∀ (xs ys:List α),xs.length=ys.length->∀ k,
 (∀ i (h:i<xs.length) (h':i<ys.length),(step (k+i) (none,())).run P w=.ok (if f xs[i] ys[i]=true then .yield (none,())else .done (some false,())) w) ->
 (forIn (List.range' k xs.length) (none,()) step).run P w=.ok (if Vo f xs ys=true then(none,())else(some false,())) w
 |[],[],_,k,_=>by simp[Vo]
 |x::xs,y::ys,hl,k,h=>by
  have h0:=h 0 (by simp) (by simp);simp only[Nat.add_zero,List.getElem_cons_zero]at h0;simp only[List.length_cons,List.range'_succ,List.forIn_cons,Sem.run_bind,h0,Result.andThen_ok,Vo];rcases Bool.eq_false_or_eq_true (f x y)with hf|hf
  case inr=>simp[hf]
  case inl =>
   simp only[hf,if_true,Bool.true_and];exact zUl f w step xs ys (by simpa using hl) (k+1) λi h1 h2=>by
    have:=h (i+1) (by simp;omega) (by simp;omega);simpa [Nat.add_assoc,Nat.add_comm 1 i]using this
 |[],_::_,hl,_,_=>by simp at hl
 |_::_,[],hl,_,_=>by simp at hl
def Hr(P:Program)(n:Nat)(fs:List Field):Option Ty:=fs.foldr (λf r=>match jI P n f.type,r with|some a,some b=>some (.pair a b)|_,_=>none) (some .unit)
theorem zGo {n:Nat}(ih:∀ (t:TypeId) (ty:Ty) (x y:ty.den) (cx cy:List Value) (d:Nat),n<=d->jI P n t=some ty->Yo P n t=true->ty.cmp=true->ty.Rel w N x cx->ty.Rel w N y cy ->
 (Op.equalIn d t (valOf ty.isAgg cx) (valOf ty.isAgg cy)).run P w=.ok (ty.beq x y) w) (d:Nat) (hd:n<=d) (ax ay:List Value):
 ∀ (fs:List Field) (off:Nat) (ty:Ty) (x y:ty.den) (cx cy:List Value),Hr P n fs=some ty->eqF P (Yo P n) (jI P n) off fs=true->ty.cmp=true->ty.Rel w N x cx->ty.Rel w N y cy->ax.drop off=cx->ay.drop off=cy ->
  (Op.eqFields d ax.toArray ay.toArray fs).run P w=.ok (ty.beq x y) w
 |[],off,ty,x,y,cx,cy,ht,he,hc,hx,hy,hax,hay=>by
  simp only[Hr,List.foldr_nil,aA]at ht;subst ht;simp[Op.eqFields,Ty.beq]
 |f::fs,off,ty,x,y,cx,cy,ht,he,hc,hx,hy,hax,hay=>by
  simp only[Hr,List.foldr_cons]at ht;split at ht
  ·rename_i _ a b hta htb;simp only[aA]at ht;subst ht;simp only[eqF,aD,hta]at he;obtain⟨⟨⟨⟨h1,h2⟩,h3⟩,h4⟩,h5⟩:=he;have h1:f.offset=off:=by simpa using h1
   have h2:f.name ≠ "_" := by simpa using h2
   have h4:a.size=P.cellsOf f.type:=by simpa using h4
   simp only[Ty.cmp,aD]at hc;obtain⟨c1,c2,e1,hx1,hx2⟩:=hx;obtain⟨d1,d2,e2,hy1,hy2⟩:=hy;obtain⟨dsc,zGp⟩:∃ dsc,P.underlying f.type=some dsc:=by
    cases hu:P.underlying f.type with
    |some d=>exact⟨d,rfl⟩
    |none =>
     cases n with
     |zero=>simp[jI]at hta
     |succ n=>simp[jI,hu]at hta
   have hp1:=zDc (all:=ax) (off:=off) hta zGp hc.1 h4 hx1 (by rw[hax,e1,List.take_left]);have hp2:=zDc (all:=ay) (off:=off) hta zGp hc.1 h4 hy1 (by rw[hay,e2,List.take_left]);have hq:=ih f.type a x.1 y.1 c1 d1 d hd hta h3 hc.1 hx1 hy1;simp only[Op.eqFields,h2,ne_eq,not_false_eq_true,if_true,Sem.run_bind,h1,hp1,hp2,hq,Result.andThen_ok];cases hb:a.beq x.1 y.1 with
   |false=>simp[Ty.beq,hb]
   |true =>
    simp only[Bool.not_true,Bool.false_eq_true,if_false];have:=zGo ih d hd ax ay fs (off+P.cellsOf f.type) b x.2 y.2 c2 d2 htb h5 hc.2 hx2 hy2
     (by rw[<- h4,<- hx1.length,<- List.drop_drop,hax,e1,List.drop_left]) (by rw[<- h4,<- hy1.length,<- List.drop_drop,hay,e2,List.drop_left])
    rw[this];simp[Ty.beq,hb]
  ·cases ht
theorem zGq:∀ (n:Nat) (t:TypeId) (ty:Ty) (x y:ty.den) (cx cy:List Value) (d:Nat),n<=d->jI P n t=some ty->Yo P n t=true->ty.cmp=true->ty.Rel w N x cx->ty.Rel w N y cy ->
 (Op.equalIn d t (valOf ty.isAgg cx) (valOf ty.isAgg cy)).run P w=.ok (ty.beq x y) w
 |0,_,_,_,_,_,_,_,_,h,_,_,_,_=>by simp[jI]at h
 |n+1,t,ty,x,y,cx,cy,0,hd,_,_,_,_,_=>by omega
 |n+1,t,ty,x,y,cx,cy,d+1,hd,ht,he,hc,hx,hy=>by
  simp only[jI]at ht;simp only[Yo]at he;split at ht
  ·rename_i hu;simp only[aA]at ht;subst ht;simp only[Ty.Rel]at hx hy;subst hx hy;simpa [valOf,Ty.isAgg,Ty.beq,Ty.beq.Bool.beq']using run_equalIn_bool' w d t x y hu
  ·rename_i k hu;simp only[aA]at ht;subst ht;simp only[Ty.Rel]at hx hy;subst hx hy;simpa [valOf,Ty.isAgg,Ty.beq,Ty.beq.Int.beq']using run_equalIn_int w d t k k x y hu
  ·rename_i hu;simp only[aA]at ht;subst ht;simp only[Ty.Rel]at hx hy;subst hx hy;have:=run_equalIn_string (P:=P) w d t ⟨x.toArray⟩ ⟨y.toArray⟩ hu;rw[toList_mk,toList_mk]at this;simpa [valOf,Ty.isAgg,Ty.beq,Ty.beq.List.beq']using this
  ·rename_i e hu;cases hte:jI P n e with
   |none=>rw[hte]at ht;cases ht
   |some a=>rw[hte]at ht;simp only[Option.map_some,aA]at ht;subst ht;simp[Ty.cmp]at hc
  ·rename_i k e hu;cases hte:jI P n e with
   |none=>rw[hte]at ht;cases ht
   |some a =>
    rw[hte]at ht;simp only[Option.map_some,aA]at ht;subst ht;simp only[hu,hte,aD,beq_iff_eq]at he;simp only[Ty.cmp]at hc;obtain⟨hxl,yHw,rfl,hax⟩:=hx;obtain⟨hyl,lG,rfl,hay⟩:=hy;have hlx:=jJ hax;have hly:=jJ hay;obtain⟨dsc,zGp⟩:∃ dsc,P.underlying e=some dsc:=by
     cases hu:P.underlying e with
     |some d=>exact⟨d,rfl⟩
     |none =>
      cases n with
      |zero=>simp[jI]at hte
      |succ n=>simp[jI,hu]at hte
    obtain⟨i,hi⟩:∃ i,P.info? e=some i:=by
     unfold Program.underlying at zGp;split at zGp
     ·rename_i h1;exact⟨_,h1⟩
     ·rename_i i h1;exact⟨_,h1⟩
     ·cases zGp
    have hsz2:(sizeOf e).run P w=.ok (P.cellsOf e) w:=by simp[sizeOf,typeInfo,hi,Program.cellsOf]
    have hagg:(Ty.arr k a).isAgg=true:=rfl;simp only[hagg,valOf,if_true,Op.equalIn,Sem.run_bind,run_underlying hu,Result.andThen_ok,hsz2];rw[Std.Legacy.Range.forIn_eq_forIn_range'];have hrange:Std.Legacy.Range.size { stop:=k,step_pos:=Nat.one_pos }=x.length:=by simp[Std.Legacy.Range.size,hxl]
    simp only[hrange];rw[zUl (λu v=>a.beq u v) w _ x y (by rw[hxl,hyl]) 0 (λi h1 h2=>by
     have h1':i<yHw.length:=by rw[<- hax.length];exact h1
     have h2':i<lG.length:=by rw[<- hay.length];exact h2
     have r1:=hax.get i h1 h1';have r2:=hay.get i h2 h2';have seg:∀ (css:List (List Value)) (h:i<css.length),(∀ c∈css,c.length=a.size)->(css.flatten.drop (i*a.size)).take css[i].length=css[i]:=λcss h hl=>by
      rw[oP css hl i,List.drop_eq_getElem_cons h,List.flatten_cons,List.take_left]
     have p1:=zDc (all:=yHw.flatten) (off:=i*a.size) hte zGp hc he.2 r1 (seg yHw h1' hlx);have p2:=zDc (all:=lG.flatten) (off:=i*a.size) hte zGp hc he.2 r2 (seg lG h2' hly);have q:=zGq n e a x[i] y[i] yHw[i] lG[i] d (by omega) hte he.1 hc r1 r2;simp only[Nat.zero_add,Sem.run_bind,<- he.2,p1,p2,Result.andThen_ok,q];rcases Bool.eq_false_or_eq_true (a.beq x[i] y[i])with hb|hb<;>simp[hb])]
    simp only[Ty.beq];rcases Bool.eq_false_or_eq_true (Vo (λu v=>a.beq u v) x y)with hb|hb<;>simp[hb]
  ·rename_i fs hu;have hf:P.fieldsOf t=fs:=by simp[Program.fieldsOf,hu]
   simp only[hu,aD,Bool.not_eq_true']at he;have hagg:ty.isAgg=true:=by
    have:=zOw (n:=n+1) (t:=t) (by simp only[jI,hu];exact ht) hu hc;simpa [TK.of,TK.isAgg]using this
   rw[hagg];simp only[valOf,if_true];rw[run_equalIn_struct w d t _ _ (by rw[hf];exact hu) he.1,hf];exact zGo (zGq n) d (by omega) cx cy fs.toList 0 ty x y cx cy ht he.2 hc hx hy rfl rfl
  ·simp only[aA]at ht;subst ht;split at hc<;>simp[Ty.cmp]at hc
  ·simp only[aA]at ht;subst ht;simp[Ty.cmp]at hc
  ·cases ht
end
end Go.Dec
namespace Go.Dec
def yXt:Operand->Bool | .const (.pointer none) | .const .nilIface | .const .nilFunc | .const (.slice none 0 0)=>true | _=>false
def zZa(k:TK)(x:L)(c:Operand):Option Bool :=
 match k,c,x with
 |.ptr _,.const (.pointer none),.lF=>some true
 |.ptr _,.const (.pointer none),.ptr .. => some false
 |.ptr _,.const (.pointer none),.rY .. => some false
 |.ptr _,.const (.pointer none),.qY .. => some false
 |.iface _,.const .nilIface,.val .err b=>some (!b)
 |.func,.const .nilFunc,.clo .. => some false
 |.slice _,.const (.slice none 0 0),.bJ=>some true
 |_,_,_=>none
def eqV(T:Tab)(xt:TypeId)(a b:List L):Option Bool :=
 match T.get xt with
 |some ti =>
  match ti.ty with
  |some ty =>
   if ti.eqs&&ty.cmp&&ty.isAgg then
    match dS ty a,dS ty b with
    |some (x,[]),some (y,[])=>some (ty.beq x y)
    |_,_=>none
   else none
  |none=>none
 |none=>none
def isEq:BinOp->Bool | .eql | .neq=>true | _=>false
def sgn(op:BinOp)(b:Bool):Bool :=
 match op with
 |.neq=>!b
 |_=>b
def zMq(T:Tab)(σ:St)(op:BinOp)(xt:TypeId)(x y:Operand):Option (Bool × V):=
 if isEq op&&yXt y then
  match ovl σ x,T.get xt with
  |.one l,some ti =>
   match zZa ti.k l y with
   |some b=>some (true,.one (.val .bool (sgn op b)))
   |none=>none
  |_,_=>none
 else
  match ovl σ x,ovl σ y with
  |.one a,.one b =>
   match a,b with
   |.val .bool p,.val .bool q =>
    match T.get xt with
    |some ti=>match ti.k with
     |.bool=>match zXs op p q with
      |some (c,r)=>some (c,.one r)
      |none=>none
     |_=>none
    |none=>none
   |a,b=>match bin op a b with
    |some (c,r)=>some (c,.one r)
    |none=>none
  |.agg a,.agg b =>
   if isEq op then
    match eqV T xt a b with
    |some r=>some (true,.one (.val .bool (sgn op r)))
    |none=>none
   else none
  |_,_=>none
def Py(T:Tab)(σ:St)(s d:TypeId)(x:Operand):Option (Bool × V):=
 match T.get s,T.get d,ovl σ x with
 |some ts,some td,.one l =>
  match td.k,ts.k,l with
  |.int k,.int _,.val (.int _) n=>some (true,.one (.val (.int k) (k.wrap n)))
  |.str,.str,.val .str s=>some (true,.one (.val .str s))
  |_,_,_=>none
 |_,_,_=>none
def vals (σ:St):List (Nat×Operand)->List (Nat×V) | []=>[] | (i,x) :: r=>(i,ovl σ x) :: vals σ r
def Qm(T:Tab)(σ:St)(t:TypeId)(parts:List (Nat × Operand)):Option (Bool × V):=
 match T.get t with
 |some ti =>
  match ti.k with
  |.struct fs =>
   if fs.all λp=>(T.get p.2).isSome then
    match build T fs ti.zls (vals σ parts)with
    |some ls=>some (true,.agg ls)
    |none=>none
   else none
  |_=>none
 |none=>none
def elems(σ:St)(te:Ty):Nat->List (Nat × Operand)->Option (List te.den)
 |_,[]=>some []
 |k,(i,x)::r =>
  if Nat.beq i k then
   match (ovl σ x).leaves with
   |some ls =>
    match dS te ls,elems σ te (k+1) r with
    |some (y,[]),some ys=>some (y::ys)
    |_,_=>none
   |none=>none
  else none
def elemTy(T:Tab)(t:TypeId):Option (TypeId × Ty × TI):=
 match T.get t with
 |some ts =>
  match ts.k with
  |.slice e =>
   match T.get e with
   |some ti =>
    match ti.ty with
    |some te=>if Nat.beq ti.size te.size&&Nat.ble 1 te.size&&Nat.ble 1 ti.bytes then some (e,te,ti)else none
    |none=>none
   |none=>none
  |_=>none
 |none=>none
def Sc(T:Tab)(σ:St)(t:TypeId)(x:Operand):Option (Bool × V):=
 match T.get t,ovl σ x with
 |some ti,.one l =>
  match ti.k with
  |.arr n _=>some (true,.one (.val (.int .i64) (n:Int)))
  |.str=>match l with
   |.val .str s=>some (true,.one (.val (.int .i64) (s.length:Int)))
   |_=>none
  |.slice _=>match zJu σ.h (l.view σ.h)with
   |some (c,n)=>some (c,.one (.val (.int .i64) n))
   |none=>none
  |_=>none
 |_,_=>none
def Nq(T:Tab)(σ:St)(t:TypeId)(s x:Operand):Option (Bool × V × List Ob):=
 match elemTy T t,ovl σ s,ovl σ x with
 |some (e,te,ti),.one ls,.one lx =>
  match rowsOf σ.h te lx with
  |some (c,ys)=>
   match ls with
   |.bJ=>some (c&&Nat.ble (ys.length*ti.bytes) room,.one (.own σ.h.length 0),σ.h++[.arr e te 0 ys true])
   |.own id ver =>
    match σ.h[id]? with
    |some (.arr e' t' v rows true)=>if h:t'=te/\e'=e then
     some (c&&(Nat.beq v ver&&Nat.ble ((rows.length+ys.length)*ti.bytes) room),.one (.own id (ver+1)),σ.h.set id (.arr e te (ver+1) ((h.1 ▸ rows)++ys) true))
     else none
    |_=>none
   |.sl id ver off len =>
    match σ.h[id]? with
    |some (.arr e' t' v rows true)=>if h:t'=te/\e'=e then
     some (c&&(Nat.beq v ver&&(Nat.beq off 0&&(Nat.ble len rows.length&&Nat.ble ((len+ys.length)*ti.bytes) room))),.one (.own id (ver+1)),σ.h.set id (.arr e te (ver+1) ((h.1 ▸ rows).take len++ys) true))
     else none
    |_=>none
   |.val (.clip t') xs=>if h:t'=te then some (c&&Nat.ble ((xs.length+ys.length)*ti.bytes) room,.one (.val (.slice te) ((h ▸ xs)++ys)),σ.h)else none
   |_=>none
  |none=>none
 |_,_,_=>none
def eG (s:List UInt8):List Int:=s.map fun b=>(b.toNat:Int)
def zBd(T:Tab)(σ:St)(t t':TypeId)(s x:Operand):Option (Bool × V × List Ob):=
 match elemTy T t,T.get t',ovl σ s,ovl σ x with
 |some (e,_,ti),some tx,.one (.own id ver),.one (.val .str u)=>
  match tx.k,σ.h[id]? with
  |.str,some (.arr e' (.int .u8) v rows true)=>
   some (Nat.beq e' e&&(Nat.beq ti.size 1&&(Nat.beq v ver&&Nat.ble ((rows.length+u.length)*ti.bytes) room)),.one (.own id (ver+1)),σ.h.set id (.arr e' (.int .u8) (ver+1) (rows++eG u) true))
  |_,_=>none
 |_,_,_,_=>none
def gL(T:Tab)(σ:St)(o:Oper):Option (Bool × V × List Ob):=
 match o.op with
 |.move x=>some (true,ovl σ x,σ.h)
 |.assign x=>some (true,ovl σ x,σ.h)
 |.unOp op _ x =>
  match ovl σ x with
  |.one l=>match un op l with
   |some (c,r)=>some (c,.one r,σ.h)
   |none=>none
  |_=>none
 |.binOp op xt x y _=>match zMq T σ op xt x y with
  |some (c,v)=>some (c,v,σ.h)
  |none=>none
 |.convert s d x=>match Py T σ s d x with
  |some (c,v)=>some (c,v,σ.h)
  |none=>none
 |.fieldAddr s x f =>
  match T.get s,ovl σ x with
  |some ti,.one l =>
   match ti.k with
   |.struct fs =>
    match fs[f]? with
    |some (off,ft)=>
     match T.get ft with
     |some tf=>if Nat.ble 1 tf.size then
      match Vl σ.h l off with
      |some (c,r)=>some (c,.one r,σ.h)
      |none=>none
      else none
     |none=>none
    |none=>none
   |_=>none
  |_,_=>none
 |.indexAddr t x i =>
  match T.get t,ovl σ x,qL (ovl σ i)with
  |some ti,.one l,some (_,n)=>
   match Bn T σ.h ti.k (l.view σ.h) n with
   |some (c,r)=>some (c,.one r,σ.h)
   |none=>none
  |_,_,_=>none
 |.index t x i =>
  match T.get t,qL (ovl σ i)with
  |some ti,some (_,n)=>
   match ti.k with
   |.str=>match idx (ovl σ x) n with
    |some (c,v)=>some (c,v,σ.h)
    |none=>none
   |_=>none
  |_,_=>none
 |.slice t x lo hi none =>
  match T.get t,ovl σ x,wY σ lo,wY σ hi with
  |some ti,.one l,some l0,some h0 =>
   match slice ti.k (l.view σ.h) l0 h0 σ.h with
   |some (c,r)=>
    match ti.k with
    |.slice e =>
     match T.get e with
     |some te =>
      match l.view σ.h with
      |.val (.slice a) _=>if Nat.beq a.size te.size then some (c,.one r,σ.h)else none
      |.sl id _ _ _ =>
       match σ.h[id]? with
       |some (.arr _ a _ _ _)=>if Nat.beq a.size te.size then some (c,.one r,σ.h)else none
       |some (.stk ..)=>if Nat.beq 4 te.size then some (c,.one r,σ.h)else none
       |_=>none
      |_=>none
     |none=>none
    |.str=>some (c,.one r,σ.h)
    |_=>none
   |none=>none
  |_,_,_,_=>none
 |.slice t x none (some hi) (some mx)=>
  match T.get t,ovl σ x,qL (ovl σ hi),qL (ovl σ mx)with
  |some ti,.one (.val (.slice a) xs),some (_,n),some (_,m)=>
   match ti.k with
   |.slice e =>
    match T.get e with
    |some te=>if Nat.beq a.size te.size then some (decide (n=(xs.length:Int))&&decide (m=(xs.length:Int)),.one (.val (.clip a) xs),σ.h)else none
    |none=>none
   |_=>none
  |_,_,_,_=>none
 |.build t parts=>match Qm T σ t parts.toList with
  |some (c,v)=>some (c,v,σ.h)
  |none=>none
 |.extract x i=>match ext (ovl σ x) i with
  |some v=>some (true,v,σ.h)
  |none=>none
 |.load t x =>
  match ovl σ x with
  |.one l=>match loadAt T σ.h t l with
   |some (c,v)=>some (c,v,σ.h)
   |none=>none
  |_=>none
 |.store t x y =>
  match ovl σ x with
  |.one l=>match storeAt T σ.h t l (ovl σ y)with
   |some (c,h)=>some (c,.bY,h)
   |none=>none
  |_=>none
 |.nilCheck x =>
  match ovl σ x with
  |.one (.ptr id off)=>some (true,.one (.ptr id off),σ.h)
  |.one (.rY id off es i sub)=>some (true,.one (.rY id off es i sub),σ.h)
  |.one (.qY t y off)=>some (true,.one (.qY t y off),σ.h)
  |.one (.iZ id ver i off)=>some (true,.one (.iZ id ver i off),σ.h)
  |.one (.clo f cs)=>some (true,.one (.clo f cs),σ.h)
  |.one (.val .opq (.func (.func f) a b))=>some (true,.one (.val .opq (.func (.func f) a b)),σ.h)
  |_=>none
 |.makeFunc (.func f) first cs =>
  match Nat.blt f 1000000 with
  |true =>
   if first.size=0 then
    match caps σ cs.toList with
    |some ls=>some (true,.one (.clo f ls),σ.h)
    |none=>none
   else if cs.size=0 then
    match caps σ first.toList with
    |some (l::ls)=>some (true,.one (.clo (f+1000000) (l::ls)),σ.h)
    |_=>none
   else none
  |false=>none
 |.box e x =>
  match (ovl σ x).leaves with
  |some ls=>some (true,.one (.ptr σ.h.length 0),σ.h++[.box e ls])
  |none=>none
 |.alloc e =>
  match T.get e with
  |some ti=>some (true,.one (.ptr σ.h.length 0),σ.h++[.box e ti.zls])
  |none=>none
 |.buildSlice t n parts =>
  match elemTy T t with
  |some (e,te,_)=>
   if Nat.beq n parts.size&&Nat.ble (n*te.size) 16777216 then
    match elems σ te 0 parts.toList with
    |some ys=>some (true,.one (.own σ.h.length 0),σ.h++[.arr e te 0 ys true])
    |none=>none
   else none
  |none=>none
 |.makeSlice t l c =>
  match elemTy T t,qL (ovl σ l),qL (ovl σ c)with
  |some (e,te,ti),some (.i64,n),some (.i64,m)=>
   match dS te ti.zls with
   |some (z,[])=>some (decide (0<=n)&&(decide (n=m)&&Nat.ble (n.toNat*ti.bytes) room),.one (.own σ.h.length 0),σ.h++[.arr e te 0 (List.replicate n.toNat z) true])
   |_=>none
  |_,_,_=>none
 |.call { callee:=.builtin b,args,argTypes }=>
  match b,args.toList,argTypes.toList with
  |.len,[x],[t]=>match Sc T σ t x with
   |some (c,v)=>some (c,v,σ.h)
   |none=>none
  |.append,[s,x],[t,t']=>if Nat.beq t t' then Nq T σ t s x else zBd T σ t t' s x
  |.min,[x,y],_ =>
   match qL (ovl σ x),qL (ovl σ y)with
   |some (k,a),some (_,b)=>some (true,.one (.val (.int k) (if b<a then b else a)),σ.h)
   |_,_=>none
  |.max,[x,y],_ =>
   match qL (ovl σ x),qL (ovl σ y)with
   |some (k,a),some (_,b)=>some (true,.one (.val (.int k) (if b>a then b else a)),σ.h)
   |_,_=>none
  |_,_,_=>none
 |_=>none
end Go.Dec
