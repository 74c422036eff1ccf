/- Part of a proof over this seat: a library of my own, and what it says of this seat. No statement is proved here. -/
import Derived.Test.YtfbilefiaminnaaGreatDoorPartAC
import Derived.Lib.AppendStr
namespace Go.Dec
section
variable {β:Nat->Pl}
variable {w:World}
variable {T:Tab}
variable {C:Ctx}
theorem iK{N:Nat->Nat->Prop}{v:V}{k:IntKind}{n:Int}{x:Value}(h:qL v=some (k,n))(hr:v.Rel β w N x):x=.int k n:=by
 unfold qL at h;split at h
 ·simp only[aA,aB]at h;obtain⟨rfl,rfl⟩:=h;simp only[V.Rel,L.Rel,Ty.Rel,aJ,and_true]at hr;exact hr
 ·cases h
theorem yXu{N:Nat->Nat->Prop}{op:UnOp}{l r:L}{x:Value}(h:un op l=some (true,r))(hr:l.Rel β w N [x]):∃ y,(Op.unary op x).run C.P w=.ok y w/\r.Rel β w N [y]:=by
 unfold un at h;split at h
 ·simp only[aA,aB,true_and]at h;subst h;simp only[L.Rel,Ty.Rel,aJ,and_true]at hr ⊢;subst hr;exact⟨_,rfl,rfl⟩
 ·simp only[aA,aB,true_and]at h;subst h;simp only[L.Rel,Ty.Rel,aJ,and_true]at hr ⊢;subst hr;exact⟨_,rfl,rfl⟩
 ·cases h
theorem lD{op:BinOp}{t:TypeId}{x y:Operand}{a b:Value}(h1:a≠.nilIface\/b≠.nilIface)(h2:(∀ c,a≠.agg c)\/(∀ c,b≠.agg c)):(eqGuard op t x y a b).run C.P w=.ok () w:=by
 unfold eqGuard;cases op<;>simp only[Bool.not_true,Bool.not_false,Bool.false_eq_true,if_false,if_true,Sem.run_pure]<;>try rfl
 all_goals
  split
  ·simp at h1
  ·rename_i c d;rcases h2 with h2|h2
   ·exact absurd rfl (h2 c)
   ·exact absurd rfl (h2 d)
  ·rfl
theorem oU{N:Nat->Nat->Prop}{ty:Ty}{ls:List L}{x:ty.den}{cs:List Value}(h:dS ty ls=some (x,[]))(hr:aG β w N ls cs):ty.Rel w N x cs:=by
 obtain⟨c1,c2,e,h1,h2⟩:=uS h hr;simp only[aG]at h2;subst h2;rw[List.append_nil]at e;subst e;exact h1
theorem yVr{N:Nat->Nat->Prop}{xt:TypeId}{a b:List L}{r:Bool}{ca cb:List Value}{op:BinOp}{x y:Operand}(hT:bM C.P T)(h:eqV T xt a b=some r)(hop:isEq op=true)(ha:aG β w N a ca)(hb:aG β w N b cb):(eqGuard op xt x y (.agg ca.toArray) (.agg cb.toArray)).run C.P w=.ok () w/\(binOp op xt (.agg ca.toArray) (.agg cb.toArray)).run C.P w=.ok (.bool (sgn op r)) w:=by
 unfold eqV at h;split at h
 ·rename_i ti hti;split at h
  ·rename_i ty hty;split at h
   ·rename_i hc;simp only[aD]at hc;obtain⟨⟨h1,h2⟩,h3⟩:=hc;split at h
    ·rename_i p q hp hq;simp only[aA]at h;subst h;have hok:=hT _ _ hti;obtain⟨hg,he⟩:=hok.eqs h1;have hrp:=oU hp ha;have hrq:=oU hq hb;have hrun:=zGq (P:=C.P) (w:=w) (N:=N) 12 xt ty p q ca cb 10000 (by omega) (hok.ty.trans hty) he h2 hrp hrq;simp only[valOf,h3,if_true]at hrun;refine⟨run_eqGuard_agg w op xt x y _ _ hg,?_⟩;cases op<;>simp only[isEq,Bool.false_eq_true]at hop
     ·rw[run_eql_struct,hrun];rfl
     ·rw[run_neq_struct,hrun];rfl
    ·cases h
   ·cases h
  ·cases h
 ·cases h
theorem Dn{xt:TypeId}{u v:Value}{r:Bool}(d:Nat)(h:(xt∈([]:List Nat))\/(∃ e,C.P.underlying xt=some (.pointer e)/\((u=.pointer none/\v=.pointer none/\r=true)\/(∃ a,u=.pointer (some a)/\v=.pointer none/\r=false))) \/
 (∃ ms,C.P.underlying xt=some (.interface ms)/\((u=.nilIface/\v=.nilIface/\r=true)\/(∃ t x,u=.iface t x/\v=.nilIface/\r=false))) \/
 (∃ ps rs b,C.P.underlying xt=some (.func ps rs b)/\∃ f x y,u=.func f x y/\v=.nilFunc/\r=false) \/
 (∃ e,C.P.underlying xt=some (.slice e)/\u=.slice none 0 0/\v=.slice none 0 0/\r=true)):(Op.equalIn (d+1) xt u v).run C.P w=.ok r w:=by
 rcases h with h|⟨e,hu,⟨rfl,rfl,rfl⟩|⟨a,rfl,rfl,rfl⟩⟩|⟨ms,hu,⟨rfl,rfl,rfl⟩|⟨t,x,rfl,rfl,rfl⟩⟩|⟨ps,rs,b,hu,f,x,y,rfl,rfl,rfl⟩|⟨e,hu,rfl,rfl,rfl⟩
 ·cases h
 all_goals simp only[Op.equalIn,Sem.run_bind,run_underlying hu,Result.andThen_ok,Sem.run_pure,Option.isNone_none]
theorem Dp{xt:TypeId}{u v:Value}{r:Bool}{op:BinOp}{x y:Operand}(hop:isEq op=true)(hg:(eqGuard op xt x y u v).run C.P w=.ok () w)(hs:(∃ a b,u=.pointer a/\v=.pointer b)\/(v=.nilIface)\/(v=.nilFunc)\/(∃ a b c d e f,u=.slice a b c/\v=.slice d e f))(h:∀ d,(Op.equalIn (d+1) xt u v).run C.P w=.ok r w):((do eqGuard op xt x y u v;binOp op xt u v:Sem Value)).run C.P w=.ok (.bool (sgn op r)) w:=by
 rw[Sem.run_bind,hg,Result.andThen_ok];have h':(Op.equal xt u v).run C.P w=.ok r w:=h 9999;cases op<;>simp only[isEq,Bool.false_eq_true]at hop
 all_goals
  rcases hs with ⟨a,b,rfl,rfl⟩|rfl|rfl|⟨a,b,c,d,e,f,rfl,rfl⟩
  ·simp only[binOp,Sem.run_bind,h',Result.andThen_ok,Sem.run_pure,sgn]
  ·cases u<;>simp only[binOp,Sem.run_bind,h',Result.andThen_ok,Sem.run_pure,sgn]
  ·cases u<;>simp only[binOp,Sem.run_bind,h',Result.andThen_ok,Sem.run_pure,sgn]
  ·simp only[binOp,Sem.run_bind,h',Result.andThen_ok,Sem.run_pure,sgn]
theorem yMh{N:Nat->Nat->Prop}{xt:TypeId}{ti:TI}{l:L}{x y:Operand}{ρ:Operand->Value}{op:BinOp}{b:Bool}(hT:bM C.P T)(hti:T.get xt=some ti)(h:zZa ti.k l y=some b)(hop:isEq op=true)(hr:l.Rel β w N [ρ x])(hc:∀ v,ρ (.const v)=v):((do eqGuard op xt x y (ρ x) (ρ y);binOp op xt (ρ x) (ρ y):Sem Value)).run C.P w=.ok (.bool (sgn op b)) w:=by
 have hok:=hT _ _ hti;unfold zZa at h;split at h<;>simp only[aA,reduceCtorEq]at h<;>subst h
 ·rename_i e _ hk;simp only[L.Rel,aJ,and_true]at hr;rw[hr,hc];exact Dp hop (lD (.inl (by simp)) (.inl (by simp))) (.inl ⟨_,_,rfl,rfl⟩) λd=>Dn d (.inr (.inl ⟨_,hok.ptr hk,.inl ⟨rfl,rfl,rfl⟩⟩))
 ·rename_i e id off hk;simp only[L.Rel,aJ,and_true]at hr;obtain⟨_,_,b,_,hr⟩:=hr;rw[hr,hc];exact Dp hop (lD (.inl (by simp)) (.inl (by simp))) (.inl ⟨_,_,rfl,rfl⟩) λd=>Dn d (.inr (.inl ⟨_,hok.ptr hk,.inr ⟨_,rfl,rfl,rfl⟩⟩))
 ·rename_i e id off es i sub hk;simp only[L.Rel,aJ,and_true]at hr;obtain⟨_,_,b,_,hr⟩:=hr;rw[hr,hc];exact Dp hop (lD (.inl (by simp)) (.inl (by simp))) (.inl ⟨_,_,rfl,rfl⟩) λd=>Dn d (.inr (.inl ⟨_,hok.ptr hk,.inr ⟨_,rfl,rfl,rfl⟩⟩))
 ·rename_i e t x off hk;simp only[L.Rel,aJ,and_true]at hr;obtain⟨c,hr,b,o,cs,rfl,_⟩:=hr;rw[hr,hc];exact Dp hop (lD (.inl (by simp)) (.inl (by simp))) (.inl ⟨_,_,rfl,rfl⟩) λd=>Dn d (.inr (.inl ⟨_,hok.ptr hk,.inr ⟨_,rfl,rfl,rfl⟩⟩))
 ·rename_i e bb hk;simp only[L.Rel,Ty.Rel,aJ,and_true]at hr;obtain⟨v,hr,hv⟩:=hr;obtain⟨ms,hu⟩:=hok.iface hk;rcases hv with ⟨rfl,t,x,rfl⟩|⟨rfl,rfl⟩
  ·rw[hr,hc];exact Dp hop (lD (.inl (by simp)) (.inl (by simp))) (.inr (.inl rfl)) λd=>Dn d (.inr (.inr (.inl ⟨_,hu,.inr ⟨_,_,rfl,rfl,rfl⟩⟩)))
  ·rw[hr,hc];exact Dp hop (by cases op<;>simp[isEq]at hop<;>simp[eqGuard]) (.inr (.inl rfl)) λd=>Dn d (.inr (.inr (.inl ⟨_,hu,.inl ⟨rfl,rfl,rfl⟩⟩)))
 ·rename_i f cs hk;simp only[L.Rel,aJ,and_true]at hr;obtain⟨us,hr,_⟩:=hr;obtain⟨g,p,q,e⟩:=zSh f us;rw[e]at hr;obtain⟨d,hd,hk'⟩:=hok.und;rw[hk]at hk';cases d<;>simp only[TK.of,reduceCtorEq]at hk'
  rw[hr,hc];exact Dp hop (lD (.inl (by simp)) (.inl (by simp))) (.inr (.inr (.inl rfl))) λd=>Dn d (.inr (.inr (.inr (.inl ⟨_,_,_,hd,_,_,_,rfl,rfl,rfl⟩))))
 ·rename_i e hk;simp only[L.Rel,aJ,and_true]at hr;rw[hr,hc];exact Dp hop (lD (.inl (by simp)) (.inl (by simp))) (.inr (.inr (.inr ⟨_,_,_,_,_,_,rfl,rfl⟩))) λd=>Dn d (.inr (.inr (.inr (.inr ⟨_,hok.slice hk,rfl,rfl,rfl⟩))))
theorem yVs{N:Nat->Nat->Prop}{op:BinOp}{xt:TypeId}{x y:Operand}{a b r:L}{u v:Value}(hnb:∀ p q,¬ (a=.val .bool p/\b=.val .bool q))(h:bin op a b=some (true,r))(ha:a.Rel β w N [u])(hb:b.Rel β w N [v]):∃ z,((do eqGuard op xt x y u v;binOp op xt u v:Sem Value)).run C.P w=.ok z w/\r.Rel β w N [z]:=by
 unfold bin at h;split at h
 ·simp only[L.Rel,Ty.Rel,aJ,and_true]at ha hb;subst ha hb;rw[Sem.run_bind,lD (.inl (by simp)) (.inl (by simp)),Result.andThen_ok];split at h
  ·exact yHo xt h
  ·rename_i hs;split at h
   ·rename_i hk;subst hk;exact yPm xt (by simpa using hs) h
   ·cases h
 ·simp only[L.Rel,Ty.Rel,aJ,and_true]at ha hb;subst ha hb;rw[Sem.run_bind,lD (.inl (by simp)) (.inl (by simp)),Result.andThen_ok];exact yPn xt h
 ·rename_i p q;exact absurd ⟨rfl,rfl⟩ (hnb p q)
 ·cases h
theorem yPr{σ:St}{a:Act}{op:BinOp}{xt:TypeId}{x y:Operand}{v:V}(hT:bM C.P T)(hs:Sim C β σ a w)(h:zMq T σ op xt x y=some (true,v)):∃ z,((do eqGuard op xt x y (a.eval x) (a.eval y);binOp op xt (a.eval x) (a.eval y):Sem Value)).run C.P w=.ok z w/\v.Rel β w (C.N β σ.h) z:=by
 have hx:=aY hs x;have hy:=aY hs y;unfold zMq at h;split at h
 ·rename_i hc;simp only[aD]at hc;split at h
  ·rename_i l ti hl hti;split at h
   ·rename_i b hb;simp only[aA,aB,true_and]at h;subst h;rw[hl]at hx;exact⟨_,yMh (N:=C.N β σ.h) (ρ:=a.eval) hT hti hb hc.1 hx (λ_=>rfl),by simp only[V.Rel,L.Rel,Ty.Rel]⟩
   ·cases h
  ·cases h
 ·split at h
  ·rename_i p q hp hq;rw[hp]at hx;rw[hq]at hy;split at h
   ·rename_i p q _;split at h
    ·rename_i ti hti;split at h
     ·rename_i hk;split at h
      ·rename_i c r hb;simp only[aA,aB]at h;obtain⟨rfl,rfl⟩:=h;simp only[V.Rel,L.Rel,Ty.Rel,aJ,and_true]at hx hy;rw[hx,hy,Sem.run_bind,lD (.inl (by simp)) (.inl (by simp)),Result.andThen_ok];exact yMc xt ((hT _ _ hti).bool hk) hb
      ·cases h
     ·cases h
    ·cases h
   ·rename_i a1 b1 hnb;split at h
    ·rename_i c r hb;simp only[aA,aB]at h;obtain⟨rfl,rfl⟩:=h;exact yVs (N:=C.N β σ.h) (λp q hpq=>hnb p q hpq.1 hpq.2) hb hx hy
    ·cases h
  ·rename_i p q hp hq;rw[hp]at hx;rw[hq]at hy;split at h
   ·rename_i hop;split at h
    ·rename_i r hr;simp only[aA,aB,true_and]at h;subst h;obtain⟨ca,hca,hra⟩:=hx;obtain⟨cb,hcb,hrb⟩:=hy;rw[hca,hcb];obtain⟨h1,h2⟩:=yVr (x:=x) (y:=y) hT hr hop hra hrb;exact⟨_,by rw[Sem.run_bind,h1,Result.andThen_ok,h2],by simp only[V.Rel,L.Rel,Ty.Rel]⟩
    ·cases h
   ·cases h
  ·cases h
theorem yMi{σ:St}{a:Act}{s d:TypeId}{x:Operand}{v:V}(hT:bM C.P T)(hs:Sim C β σ a w)(h:Py T σ s d x=some (true,v)):∃ z,(convert s d (a.eval x)).run C.P w=.ok z w/\v.Rel β w (C.N β σ.h) z:=by
 have hx:=aY hs x;unfold Py at h;split at h
 ·rename_i ts td l hts htd hl;rw[hl]at hx;split at h
  ·rename_i k ks kn n hkd hks;simp only[aA,aB,true_and]at h;subst h;simp only[V.Rel,L.Rel,Ty.Rel,aJ,and_true]at hx;rw[hx];refine⟨.int k (k.wrap n),?_,by simp only[V.Rel,L.Rel,Ty.Rel]⟩;simp only[convert,Sem.run_bind,run_underlying ((hT _ _ hts).int hks),run_underlying ((hT _ _ htd).int hkd),Result.andThen_ok,Conv.intToInt,Sem.run_pure]
  ·rename_i s0 hkd hks;simp only[aA,aB,true_and]at h;subst h;simp only[V.Rel,L.Rel,Ty.Rel,aJ,and_true]at hx;rw[hx];refine⟨.string ⟨s0.toArray⟩,?_,by simp only[V.Rel,L.Rel,Ty.Rel]⟩;simp only[convert,Sem.run_bind,run_underlying ((hT _ _ hts).str hks),run_underlying ((hT _ _ htd).str hkd),Result.andThen_ok,Sem.run_pure]
  ·cases h
 ·cases h
theorem zGr(places:Nat->Option (Nat × Nat))(cs:Array Value)(i off size:Nat)(v:Value)(rest:List (Nat × Value))(hp:places i=some (off,size))(hsz:v.cells.size=size)(hfit:off+size<=cs.size):Instr.fill places cs ((i,v)::rest)=Instr.fill places (cs.toList.take off++v.cells.toList++cs.toList.drop (off+size)).toArray rest:=by
 simp only[Instr.fill,hp];rw[if_neg (by simp only[Bool.or_eq_true,decide_eq_true_eq,not_or];constructor<;>omega)];congr 1;have key:∀ (vs:List Value) (k:Nat) (cs:Array Value),off+k+vs.length<=cs.size ->
  (vs.zipIdx k).foldl (λ(cs:Array Value) (p:Value × Nat)=>cs.setIfInBounds (off+p.2) p.1) cs=(cs.toList.take (off+k)++vs++cs.toList.drop (off+k+vs.length)).toArray:=by
  intro vs;induction vs with
  |nil=>intro k cs _;simp
  |cons v vs ih =>
   intro k cs hk;simp only[List.zipIdx_cons,List.foldl_cons];rw[ih (k+1) _ (by simp at hk ⊢;omega)];have e:=list_seg_step cs.toList (off+k) v vs (by simp at hk ⊢;omega);congr 1;simpa [Array.toList_setIfInBounds,Nat.add_assoc]using e
 rw[<- Array.foldl_toList];have:=key v.cells.toList 0 cs (by simp;omega);simp only[Nat.add_zero,Array.length_toList,hsz]at this;rw[<- this];simp[Array.toList_zipIdx]
theorem zOx{N:Nat->Nat->Prop}{fs:List (Nat × TypeId)}{places:Nat->Option (Nat × Nat)}(hT:bM C.P T)(hpl:∀ i off ft ti,fs[i]?=some (off,ft)->T.get ft=some ti->places i=some (off,ti.size)):∀ (parts:List (Nat × V)) (vs:List (Nat × Value)) (ls ls':List L) (cs:Array Value),build T fs ls parts=some ls'->aG β w N ls cs.toList->bD (λ(p:Nat × V) (q:Nat × Value)=>p.1=q.1/\p.2.Rel β w N q.2) parts vs ->
  ∃ cs':Array Value,Instr.fill places cs vs=some cs'/\aG β w N ls' cs'.toList
 |[],[],ls,ls',cs,h,hr,_=>by
  simp only[build,aA]at h;subst h;exact⟨cs,rfl,hr⟩
 |(i,v)::parts,(j,x)::vs,ls,ls',cs,h,hr,ha=>by
  obtain⟨⟨e,hv⟩,ha⟩:=ha;simp only at e;subst e;simp only[build]at h;split at h
  ·rename_i off ft new hf hn;split at h
   ·rename_i ti hti;split at h
    ·rename_i hsz;split at h
     ·rename_i ls1 hset;have hrx:=V.Ku hn hv;obtain⟨hr1,hle⟩:=Yn hset hr hrx;have hxs:x.cells.size=ti.size:=by rw[<- hsz,<- hrx.length];simp
      have hxl:x.cells.toList.length=ti.size:=by simpa using hxs
      rw[hxl]at hr1 hle;have hfit:off+ti.size<=cs.size:=by simpa using hle
      rw[zGr places cs i off ti.size x vs (hpl i off ft ti hf hti) hxs hfit];exact zOx hT hpl parts vs ls1 ls' _ h (by simpa [List.append_assoc]using hr1) ha
     ·cases h
    ·cases h
   ·cases h
  ·cases h
 |[],_::_,_,_,_,_,_,ha=>ha.elim
 |_::_,[],_,_,_,_,_,ha=>ha.elim
theorem zZb{σ:St}{a:Act}(hs:Sim C β σ a w):∀ parts:List (Nat × Operand),bD (λ(p:Nat × V) (q:Nat × Value)=>p.1=q.1/\p.2.Rel β w (C.N β σ.h) q.2) (vals σ parts) (parts.map λp=>(p.1,a.eval p.2))
 |[]=>trivial
 |(_i,x)::r=>⟨⟨rfl,aY hs x⟩,zZb hs r⟩
theorem yHx{σ:St}{a:Act}{t:TypeId}{parts:Array (Nat × Operand)}{v:V}(hT:bM C.P T)(hs:Sim C β σ a w)(h:Qm T σ t parts.toList=some (true,v)):∃ z,(Instr.build t (parts.map λp=>(p.1,a.eval p.2))).run C.P w=.ok z w/\v.Rel β w (C.N β σ.h) z:=by
 unfold Qm at h;split at h
 ·rename_i ti hti;split at h
  ·rename_i fs hk;split at h
   case isFalse=>cases h
   rename_i hpl;split at h
   ·rename_i ls hb;simp only[aA,aB,true_and]at h;subst h;have hok:=hT _ _ hti;obtain⟨ff,hu,rfl⟩:=hok.struct hk;obtain⟨_,z,hi,his,hib,hz,sV,hzs,yHy⟩:=hok.i;have hmap:∀ (l:List Field) (_:∀ f∈l,(T.get f.type).isSome=true) (acc:Array (Nat × Nat)),(l.foldlM (λ(acc:Array (Nat × Nat)) f=>do
     let s <- sizeOf f.type
     pure (acc.push (f.offset,s))) acc:Sem (Array (Nat × Nat))).run C.P w=.ok (acc++(l.map λf=>(f.offset,((T.get f.type).map (·.size)).getD 0)).toArray) w:=by
     intro l;induction l with
     |nil=>intro _ acc;simp
     |cons f l ih =>
      intro hl acc;obtain⟨tf,htf⟩:=Option.isSome_iff_exists.1 (hl f (.head _));simp only[List.foldlM_cons,Sem.run_bind,(hT _ _ htf).sizeOf,Result.andThen_ok,Sem.run_pure];rw[ih (λg hg=>hl g (.tail _ hg))];simp[htf]
    have hall:∀ f∈ff.toList,(T.get f.type).isSome=true:=λf hf=>List.all_eq_true.1 hpl (f.offset,f.type) (List.mem_map.2 ⟨f,hf,rfl⟩)
    have yVt:(ff.mapM (λf=>do pure (f.offset,<- sizeOf f.type)):Sem (Array (Nat × Nat))).run C.P w=.ok ((ff.toList.map λf=>(f.offset,((T.get f.type).map (·.size)).getD 0)).toArray) w:=by
     rw[Array.mapM_eq_foldlM,<- Array.foldlM_toList];have:=hmap ff.toList hall #[];simp only[bind_pure_comp]at this ⊢;simpa using this
    have xDf:∀ (i off:Nat) (ft:TypeId) (tf:TI),(ff.toList.map λf=>(f.offset,f.type))[i]?=some (off,ft)->T.get ft=some tf->(((ff.toList.map λf=>(f.offset,((T.get f.type).map (·.size)).getD 0)).toArray)[i]?:Option (Nat × Nat))=some (off,tf.size):=by
     intro i off ft tf h1 h2;simp only[List.getElem?_map,Option.map_eq_some_iff,aB,List.getElem?_toArray]at h1 ⊢;obtain⟨f,hf,rfl,rfl⟩:=h1;exact⟨f,hf,rfl,by simp[h2]⟩
    obtain⟨cs',xBs,hr⟩:=zOx (β:=β) (w:=w) (N:=C.N β σ.h) (places:=λi=>(((ff.toList.map λf=>(f.offset,((T.get f.type).map (·.size)).getD 0)).toArray)[i]?:Option (Nat × Nat))) hT xDf (vals σ parts.toList) (parts.toList.map λp=>(p.1,a.eval p.2)) ti.zls ls z.cells hb (sV _ _ _) (zZb hs _);refine⟨.agg cs',?_,⟨cs'.toList,rfl,hr⟩⟩;have hzv:(zeroValue t).run C.P w=.ok z w:=by simp[zeroValue,typeInfo,hi,hz]
    simp only[Instr.build,Sem.run_bind,hzv,Result.andThen_ok,run_underlying hu,yVt,Array.toList_map];rw[xBs];rfl
   ·cases h
  ·cases h
 ·cases h
theorem yVu{N:Nat->Nat->Prop}{v r:V}{i:Nat}{x:Value}(h:ext v i=some r)(hr:v.Rel β w N x):∃ z,(Instr.extract x i).run C.P w=.ok z w/\r.Rel β w N z:=by
 unfold ext at h;split at h
 ·rename_i vs;obtain⟨us,rfl,hall⟩:=hr;have hi:i<vs.length:=by
   rcases jB i vs.length with h1|h1
   ·exact h1
   ·rw[List.getElem?_eq_none h1]at h;cases h
  have hi1:i<us.length:=by rw[<- hall.length];exact hi
  have hrel:=hall.get i hi hi1;rw[List.getElem?_eq_getElem hi]at h;refine⟨us[i],by simp[Instr.extract,hi1],?_⟩;split at h
  ·rename_i l hl;simp only[aA]at h hl;subst h;rw[hl]at hrel;exact hrel
  ·rename_i ls hl;simp only[aA]at h hl;subst h;rw[hl]at hrel;exact hrel
  ·cases h
 ·cases h
end
end Go.Dec
namespace Go.Dec
section
variable {β:Nat->Pl}
variable {w:World}
variable {T:Tab}
variable {C:Ctx}
theorem yHz(w:World)(N:Nat->Nat->Prop)(l:List Int):bD (λ(x:Int) (c:List Value)=>(Ty.int .u8).Rel w N x c) l (l.map λn=>[Value.int .u8 n]):=by
 induction l with
 |nil=>trivial
 |cons x l ih=>exact⟨rfl,ih⟩
theorem zSj(s:List UInt8):Lib.strCells ⟨s.toArray⟩=((eG s).map λn=>[Value.int .u8 n]).flatten:=by
 simp only[Lib.strCells,eG];induction s with
 |nil=>rfl
 |cons b s ih=>simp at ih ⊢;exact ih
theorem zXc{σ:St}{a:Act}{st sx e:TypeId}{ts tx ti:TI}{rows:List Int}{s:List UInt8}{x:Value}{id ver:Nat}(ty:TypeId)(hT:bM C.P T)(hst:T.get st=some ts)(hk:ts.k=.slice e)(hsx:T.get sx=some tx)(hkx:tx.k=.str)(hti:T.get e=some ti)(hsz:ti.size=1)(hby:0<ti.bytes)(hroom:(rows.length+s.length)*ti.bytes<=room)(hs:Sim C β σ a w)(ho:σ.h[id]?=some (.arr e (.int .u8) ver rows true))(hx:eO (β id) 0 rows.length x):∃ v' w' β',(Builtin.append_ #[st,sx] ty #[x,.string ⟨s.toArray⟩]).run C.P w=.ok v' w'/\Moves β β'/\Sim C β' { σ with h:=σ.h.set id (.arr e (.int .u8) (ver+1) (rows++eG s) true) } a w' /\
  (L.own id (ver+1)).Rel β' w' (C.N β' (σ.h.set id (.arr e (.int .u8) (ver+1) (rows++eG s) true))) [v']/\Keep (C.N β σ.h) w w':=by
 have hu:=(hT _ _ hst).slice hk;obtain⟨i,z,hi,his,hib,hz,sV,hzs,_⟩:=(hT _ _ hti).i;have hlen:rows.length+s.length<=(rows.length+s.length)*ti.bytes:=Nat.le_mul_of_pos_right _ hby;have hus:=(hT _ _ hsx).str hkx;have hss:(⟨s.toArray⟩:ByteArray).size=s.length:=by simp[ByteArray.size]
 unfold room at hroom;have hob:=hs.heap.obj _ _ ho;simp only[Ob.Rel]at hob;obtain⟨hlive,mV,hpv,hpz,hpos,hpl,hob⟩:=hob;have hrl:(rows++eG s).length=rows.length+s.length:=by simp[eG]
 have fin:∀ (w':World) (bk cap:Nat) (cur:Array Value) (css:List (List Value)),(bk=w.heap.size/\w.heap.size<w'.heap.size\/(β id).blk=some bk)->Keep (λk _=>(β id).blk=some k/\True) w w'->Same w w' ->
  w'.heap[bk]?=some (.cells cur e (0,0))->bD (λx c=>(Ty.int .u8).Rel w (C.N β σ.h) x c) (rows++eG s) css->cur.toList.take ((rows.length+s.length)*1)=css.flatten->cur.size=cap*1->rows.length+s.length<=cap->cap<=maxLen ->
  ∃ β',Moves β β'/\Sim C β' { σ with h:=σ.h.set id (.arr e (.int .u8) (ver+1) (rows++eG s) true) } a w' /\
   (L.own id (ver+1)).Rel β' w' (C.N β' (σ.h.set id (.arr e (.int .u8) (ver+1) (rows++eG s) true))) [.slice (some ⟨bk,0,none⟩) (rows.length+s.length) cap]:=by
  intro w' bk cap cur css hbk hkeep hsame hheap hall htake hcsz hle hm
  let p:Pl:=⟨true,false,ver+1,some bk,1,cap,rows.length+s.length,[]⟩
  have hmv:Moves β (upd β id p):=λj hj=>by
   by_cases hji:j=id
   ·subst hji;rw[upd_same];exact .inr ⟨mV,rfl,rfl,by rw[hpv];exact Nat.lt_succ_self _⟩
   ·exact .inl (aU _ _ hji)
  have hpb:p.blk=(β id).blk\/p.blk=none\/(p.blk=some w.heap.size/\w.heap.size<w'.heap.size):=by
   rcases hbk with ⟨e1,h2⟩|e1
   ·right;right;exact⟨by simp only[p,e1],h2⟩
   ·left;simp only[p,e1]
  have hkk:Keep (λk _=>(β id).blk=some k/\Ob.wr (.arr e (.int .u8) ver rows true)=true) w w':=hkeep.weaken λk _ hk=>⟨hk.1,rfl⟩
  refine⟨upd β id p,hmv,hs.set (p:=p) ho (λ_=>rfl) hpb hkk hsame hmv ?_,?_⟩
  ·simp only[Ob.Rel];refine⟨rfl,rfl,rfl,rfl,hpos,hrl.symm,.inr ⟨bk,cur,css,rfl,hheap,?_,by rw[hrl];exact htake,hcsz,by rw[hrl];exact hle,hm⟩⟩;exact hall.mono λ_ _ h=>h.mono (hkk.weaken λk _ hk=>.inr ⟨id,_,ho,rfl,Ob.mH hk.1⟩) λk j hlt hn=>xS (w:=w) ho (at_set (λ_=>rfl) (hpb.imp (λh=>h) (·.imp (λh=>h) (·.1))) rfl) hlt hn
  ·simp only[L.Rel,upd_same];refine⟨rfl,rfl,aP _,_,rfl,rfl,λ_=>?_⟩;unfold eO;simp only[p];exact⟨by omega,0,rfl,.inl (by simp)⟩
 have toK:∀ {w':World},Keep (λk _=>(β id).blk=some k/\True) w w'->Keep (C.N β σ.h) w w':=λh=>h.weaken λk _ hk=>.inr ⟨id,_,ho,rfl,Ob.mH hk.1⟩
 have hcells:=zSj s;have hmul:s.length*ti.bytes<=(rows.length+s.length)*ti.bytes:=Nat.mul_le_mul_right _ (by omega);have hsm:s.length<=140737488355328:=by omega
 have hsb:s.length*ti.bytes<=140737488355328:=by omega
 have yR:bD (λx c=>(Ty.int .u8).Rel w (C.N β σ.h) x c) (eG s) ((eG s).map λn=>[Value.int .u8 n]):=yHz _ _ _;have hsl:(eG s).length=s.length:=by simp[eG]
 have hfy:(Lib.strCells ⟨s.toArray⟩).length=s.length:=by rw[Lib.strCells_length,hss]
 rcases hob with ⟨hnb,hr0,hcap0⟩|⟨b,cur,css,hb,hheap,hall,htake,hcap,hrc,hcm⟩
 ·subst hr0;unfold eO at hx;rw[hnb]at hx;obtain⟨rfl,_,_⟩:=hx;by_cases h0:s.length=0
  ·have hys:s=[]:=List.eq_nil_of_length_eq_zero h0;subst hys;have hrun:(Builtin.append_ #[st,sx] ty #[.slice none 0 0,.string ⟨#[]⟩]).run C.P w=.ok (.slice none 0 0) w:=by
    have h1:ByteArray.size ⟨#[]⟩=0:=rfl;simp[Builtin.append_,run_underlying hu,run_underlying hus,Go.sizeOf,typeInfo,hi,Builtin.lenOf,Builtin.firstCells,h1]
   let p:Pl:=⟨true,false,ver+1,none,1,0,0,[]⟩
   have hmv:Moves β (upd β id p):=λj hj=>by
    by_cases hji:j=id
    ·subst hji;rw[upd_same];exact .inr ⟨mV,rfl,rfl,by rw[hpv];exact Nat.lt_succ_self _⟩
    ·exact .inl (aU _ _ hji)
   refine⟨_,w,upd β id p,hrun,hmv,hs.set (p:=p) ho (λ_=>rfl) (.inr (.inl rfl)) (Keep.refl _ w) ⟨rfl,rfl,rfl⟩ hmv ?_,?_,Keep.refl _ w⟩
   ·simp only[Ob.Rel];exact⟨rfl,rfl,rfl,rfl,hpos,by simp[p,eG],.inl ⟨rfl,by simp[eG],rfl⟩⟩
   ·simp only[L.Rel,upd_same];refine⟨rfl,rfl,aP _,_,rfl,rfl,λ_=>?_⟩;unfold eO;simp only[p];exact⟨trivial,trivial,trivial⟩
  ·have hrun:=run_append_nil_string (P:=C.P) w st sx ty e i z hu hus hi hz ⟨s.toArray⟩ (by omega) (by omega) (by rw[hib,hss];omega);have e1:(s.toArray.map λb:UInt8=>Value.int .u8 b.toNat)=(Lib.strCells ⟨s.toArray⟩).toArray:=by
    apply Array.ext';simp[Lib.strCells]
   rw[hss]at hrun;simp only[e1]at hrun;have hge:=grownCap_ge w s.length 0 e;have hcm:=grownCap_le_maxLen w s.length 0 e (by simp only[maxLen];omega);have hk0:Keep (λ_ _=>False) w (w.drew.alloc (.cells ((Lib.strCells ⟨s.toArray⟩).toArray++Builtin.zeroCells z.cells (grownCap w s.length 0 e-s.length)) e)):=(zT w).trans (dX w.drew _);have hk1:=hk0.weaken (N':=λk _=>(β id).blk=some k/\True) λ_ _ h=>h.elim
   obtain⟨β',h1,h2,h3⟩:=fin _ w.heap.size (grownCap w s.length 0 e) _ _ (.inl ⟨rfl,by simp⟩) hk1 ⟨rfl,rfl,rfl⟩ (heap_alloc_new w.drew _) (by simpa using yR)
    (by rw[<- hcells];simp only[Array.toList_append,List.length_nil,Nat.zero_add,Nat.mul_one];rw[List.take_left' hfy])
    (by simp only[Array.size_append,List.size_toArray,size_zeroCells,hzs,hfy,his,hsz,Nat.mul_one];omega) (by simpa using hge) hcm
   simp only[List.length_nil,Nat.zero_add]at h3;exact⟨_,_,β',hrun,h1,h2,h3,toK hk1⟩
 ·unfold eO at hx;rw[hb]at hx;obtain⟨h1,o,rfl,h3⟩:=hx;have ho0:o=0:=by
   rcases h3 with h3|h3
   ·simpa using h3
   ·omega
  subst ho0;rw[Nat.sub_zero];have hl:=jJ hall;have hcl:css.flatten.length=rows.length:=by rw[cB css hl,<- hall.length];simp[Ty.size]
  have htk:cur.toList.take rows.length=css.flatten:=by simpa [Ty.size]using htake
  have hcs:cur.size=(β id).cap:=by simpa [Ty.size]using hcap
  by_cases hr:rows.length+s.length<=(β id).cap
  ·have hrun:=Lib.run_append_room_string (P:=C.P) w st sx ty e i hu hus hi (by rw[his,hsz]) b rows.length (β id).cap cur hheap ⟨s.toArray⟩ (by rw[hss];exact hr) (by rw[hss];omega);rw[hss]at hrun;have hk1:Keep (λk _=>(β id).blk=some k/\True) w (w.setRow b (cur.toList.take rows.length++Lib.strCells ⟨s.toArray⟩++cur.toList.drop (rows.length+s.length)).toArray):=mW.weaken λk _ hk=>by subst hk;exact⟨hb,trivial⟩
   obtain⟨β',g1,g2,g3⟩:=fin _ b (β id).cap _ _ (.inr hb) hk1 Bo (setRow_heap w b _ _ e _ hheap) (hall.append yR)
    (by
     rw[htk,List.flatten_append,<- hcells];exact List.take_left' (by rw[List.length_append,hcl,hfy,Nat.mul_one]))
    (by
     simp only[List.size_toArray,List.length_append,List.length_take,List.length_drop,Array.length_toList,hfy];omega) hr hcm
   exact⟨_,_,β',hrun,g1,g2,g3,toK hk1⟩
  ·have holds:∀ j u,css.flatten[j]?=some u->w.cell? ((⟨b,0,none⟩:Addr).add j)=some u:=oQ (by rw[<- htk];exact(Cells.of_heap hheap).take _);have hrun:=Lib.run_append_grow_string (P:=C.P) w st sx ty e i z hu hus hi hz ⟨b,0,none⟩ rows.length (β id).cap css.flatten (by rw[hcl,his,hsz,Nat.mul_one]) holds ⟨s.toArray⟩ (by omega) (by omega)
    (growslice_fits (by omega) (by rw[hib,hss];exact hroom))
   rw[hss]at hrun;have hge:=grownCap_ge w (rows.length+s.length) (β id).cap e;have hcm':=grownCap_le_maxLen w (rows.length+s.length) (β id).cap e (by simp only[maxLen];omega);have hk0:Keep (λ_ _=>False) w (w.drew.alloc (.cells (css.flatten.toArray++(Lib.strCells ⟨s.toArray⟩).toArray++Builtin.zeroCells z.cells (grownCap w (rows.length+s.length) (β id).cap e-(rows.length+s.length))) e)):=(zT w).trans (dX w.drew _);have hk1:=hk0.weaken (N':=λk _=>(β id).blk=some k/\True) λ_ _ h=>h.elim
   obtain⟨β',g1,g2,g3⟩:=fin _ w.heap.size (grownCap w (rows.length+s.length) (β id).cap e) _ _ (.inl ⟨rfl,by simp⟩) hk1 ⟨rfl,rfl,rfl⟩ (heap_alloc_new w.drew _) (hall.append yR)
    (by
     simp only[Array.toList_append,List.flatten_append,<- hcells];exact List.take_left' (by rw[List.length_append,hcl,hfy,Nat.mul_one]))
    (by
     simp only[Array.size_append,List.size_toArray,size_zeroCells,hzs,hcl,hfy,his,hsz];omega) hge hcm'
   exact⟨_,_,β',hrun,g1,g2,g3,toK hk1⟩
end
end Go.Dec
namespace Go.Dec
section
variable {β:Nat->Pl}
variable {w:World}
variable {T:Tab}
variable {C:Ctx}
def After(C:Ctx)(β:Nat->Pl)(σ:St)(a:Act)(w:World)(o:Oper)(v:V)(h':List Ob):Prop :=
 ∃ β' w' n v',(execOp a.eval o).run C.P w=.ok n w'/\(n=.value v'\/(n=.skip/\v'=undef))/\Moves β β'/\Keep (C.N β σ.h) w w'/\Sim C β' { σ with h:=h' } a w'/\v.Rel β' w' (C.N β' h') v'
theorem After.read{σ:St}{a:Act}{o:Oper}{v:V}(hs:Sim C β σ a w)(h:∃ v',(execOp a.eval o).run C.P w=.ok (.value v') w/\v.Rel β w (C.N β σ.h) v'):After C β σ a w o v σ.h:=by
 obtain⟨v',h1,h2⟩:=h;exact⟨β,w,_,v',h1,.inl rfl,Moves.refl β,Keep.refl _ w,hs,h2⟩
theorem fI{m:Sem Value}{P:Program}{y:Value}(h:m.run P w=.ok y w):(do pure (Next.value (<- m)):Sem Next).run P w=.ok (.value y) w:=by
 rw[Sem.run_bind,h];rfl
theorem zMr{σ:St}{a:Act}(hs:Sim C β σ a w):∀ {xs:List Operand}{ls:List L},caps σ xs=some ls->L.eD β w (C.N β σ.h) ls (xs.map a.eval)
 |[],ls,h=>by simp only[caps,aA]at h;subst h;simp only[L.eD,List.map_nil]
 |x::xs,ls,h=>by
  simp only[caps]at h;split at h
  ·rename_i l r hl hr;simp only[aA]at h;subst h;simp only[L.eD,List.map_cons];have hx:=aY hs x;rw[hl]at hx;exact⟨_,_,rfl,hx,zMr hs hr⟩
  ·cases h
theorem jV{t e:TypeId}{te:Ty}{ti:TI}(h:elemTy T t=some (e,te,ti)):∃ ts,T.get t=some ts/\ts.k=.slice e/\T.get e=some ti/\ti.ty=some te/\ti.size=te.size/\0<te.size/\0<ti.bytes:=by
 unfold elemTy at h;split at h
 ·rename_i ts hts;split at h
  ·rename_i e' hk;split at h
   ·rename_i ti' hti;split at h
    ·rename_i te' hte;split at h
     ·rename_i hc;simp only[aA,aB]at h;obtain⟨rfl,rfl,rfl⟩:=h;simp only[aD]at hc;obtain⟨⟨h1,h2⟩,h3⟩:=hc;exact⟨ts,hts,hk,hti,hte,aK h1,bR h2,bR h3⟩
     ·cases h
    ·cases h
   ·cases h
  ·cases h
 ·cases h
theorem Yq{σ:St}{a:Act}{te:Ty}(hs:Sim C β σ a w):∀ {k:Nat}{xs:List (Nat × Operand)}{ys:List te.den},elems σ te k xs=some ys ->
 ∃ css,bD (λx c=>te.Rel w (C.N β σ.h) x c) ys css/\css=xs.map (λp=>(a.eval p.2).cells.toList)/\∀ i p,xs[i]?=some p->p.1=k+i
 |k,[],ys,h=>by
  simp only[elems,aA]at h;subst h;exact⟨[],trivial,rfl,by simp⟩
 |k,(i,x)::xs,ys,h=>by
  simp only[elems]at h;split at h
  ·rename_i hi;split at h
   ·rename_i ls hls;split at h
    ·rename_i _ y zs hy hr;simp only[aA]at h;subst h;obtain⟨css,h1,h2,h3⟩:=Yq hs hr;have hx:=V.Ku hls (aY hs x);refine⟨(a.eval x).cells.toList::css,⟨oU hy hx,h1⟩,by rw[h2];rfl,λj p hp=>?_⟩;cases j with
     |zero =>
      simp only[List.getElem?_cons_zero,aA]at hp;subst hp;exact aK hi
     |succ j =>
      have:=h3 j p (by simpa using hp);omega
    ·cases h
   ·cases h
  ·cases h
theorem zDd (size : Nat) : ∀ (ps : List (Nat × Value)) (k : Nat) (cs : Array Value), (∀ i p, ps[i]? = some p -> p.1 = k + i) -> (∀ p ∈ ps, p.2.cells.size = size) -> cs.size = (k + ps.length) * size ->
    ∃ cs' : Array Value, Instr.fill (fun i => some (i * size, size)) cs ps = some cs' ∧ cs'.toList = cs.toList.take (k * size) ++ (ps.map fun p => p.2.cells.toList).flatten
  | [], k, cs, _, _, hs => ⟨cs, rfl, by rw [List.take_of_length_le (by simp at hs ⊢; omega)]; simp⟩
  | (i, v) :: ps, k, cs, h1, h2, hs => by
    have hi : i = k := by have := h1 0 (i, v) rfl; simpa using this
    subst hi;have hv := h2 (i, v) (.head _);have hm : (i + 1 + ps.length) * size <= (i + (ps.length + 1)) * size := Nat.mul_le_mul_right _ (by omega);have hm2 : (i + 1) * size <= (i + (ps.length + 1)) * size := Nat.mul_le_mul_right _ (by omega);have hsm : (i + 1) * size = i * size + size := Nat.succ_mul _ _;simp only [List.length_cons] at hs;rw [zGr _ cs i (i * size) size v ps rfl hv (by omega)];have hvl : v.cells.toList.length = size := by simpa using hv
    obtain ⟨cs', h3, h4⟩ := zDd size ps (i + 1) (cs.toList.take (i * size) ++ v.cells.toList ++ cs.toList.drop (i * size + size)).toArray (fun j p hp => by have := h1 (j + 1) p (by simpa using hp); omega) (fun p hp => h2 p (.tail _ hp))
      (by simp only [List.size_toArray, List.length_append, List.length_take, List.length_drop, Array.length_toList, hvl]
          rw [show i + 1 + ps.length = i + (ps.length + 1) by omega]; omega)
    refine ⟨cs', h3, ?_⟩;rw [h4];simp only [List.map_cons, List.flatten_cons];rw [List.take_left' (by simp only [List.length_append, List.length_take, Array.length_toList, hvl]; omega)];simp
theorem yPs{σ:St}{a:Act}{t:TypeId}{x:Operand}{v:V}(ty:TypeId)(hT:bM C.P T)(hs:Sim C β σ a w)(h:Sc T σ t x=some (true,v)):∃ z,(Builtin.len_ #[t] ty #[a.eval x]).run C.P w=.ok z w/\v.Rel β w (C.N β σ.h) z:=by
 have hx:=aY hs x;unfold Sc at h;split at h
 ·rename_i ti l hti hl;rw[hl]at hx;have hok:=hT _ _ hti;split at h
  ·rename_i n e hk;simp only[aA,aB,true_and]at h;subst h;refine⟨goInt n,?_,by simp only[V.Rel,L.Rel,Ty.Rel,goInt]⟩;have hu:=hok.arr hk;simp[Builtin.len_,run_underlying hu]
  ·rename_i hk;split at h
   ·rename_i s;simp only[aA,aB,true_and]at h;subst h;simp only[V.Rel,L.Rel,Ty.Rel,aJ,and_true]at hx;rw[hx];refine⟨goInt s.length,?_,by simp only[V.Rel,L.Rel,Ty.Rel,goInt]⟩;have hu:=hok.str hk;simp[Builtin.len_,run_underlying hu,size_mk]
   ·cases h
  ·rename_i e hk;split at h
   ·rename_i c n hn;simp only[aA,aB]at h;obtain⟨rfl,rfl⟩:=h;have hu:=hok.slice hk;have hx:=zMp hs.heap (show l.Rel β w (C.N β σ.h) [a.eval x]from hx);generalize l.view σ.h=l' at hx hn;have:∃ b c,a.eval x=.slice b n.toNat c/\0<=n:=by
     unfold zJu at hn;split at hn
     ·rename_i te xs;simp only[aA,aB,true_and]at hn;subst hn;simp only[L.Rel,Ty.Rel]at hx;obtain⟨v',e1,hx⟩:=hx;simp only[aJ,and_true]at e1;rw[e1];rcases hx with ⟨rfl,rfl⟩|⟨b,off,cap,css,rfl,_⟩|⟨ad,cap,rfl,rfl,_⟩
      ·exact⟨none,0,rfl,by simp⟩
      ·exact⟨some ⟨b,off,none⟩,cap,by simp,by omega⟩
      ·exact⟨some ad,cap,by simp,by simp⟩
     ·simp only[aA,aB,true_and]at hn;subst hn;simp only[L.Rel,aJ,and_true]at hx;exact⟨none,0,by simpa using hx,by simp⟩
     ·rename_i id ver off len;split at hn
      ·rename_i e' te vv rows wr ho;simp only[aA,aB]at hn;obtain⟨hv,rfl⟩:=hn;have hv:=aK hv;have hob:=hs.heap.obj _ _ ho;simp only[Ob.Rel]at hob;obtain⟨_,_,hpv,_⟩:=hob;simp only[L.Rel]at hx;obtain⟨_,_,_,c,hc,_,himp⟩:=hx;have hsl:=himp (by rw[hpv,hv]);simp only[aJ,and_true]at hc;subst hc;unfold eO at hsl;split at hsl
       ·exact⟨none,0,by rw[hsl.1,hsl.2.2];rfl,by omega⟩
       ·obtain⟨_,o,hsl,_⟩:=hsl;exact⟨_,_,by rw[hsl];simp;exact⟨rfl,rfl⟩,by omega⟩
      ·rename_i e' ei vv rows top ho;simp only[aA,aB]at hn;obtain⟨hv,rfl⟩:=hn;have hv:=aK hv;have hob:=hs.heap.obj _ _ ho;simp only[Ob.Rel]at hob;obtain⟨_,_,hpv,_⟩:=hob;simp only[L.Rel]at hx;obtain⟨_,_,_,c,hc,_,himp⟩:=hx;have hsl:=himp (by rw[hpv,hv]);simp only[aJ,and_true]at hc;subst hc;unfold eO at hsl;split at hsl
       ·exact⟨none,0,by rw[hsl.1,hsl.2.2];rfl,by omega⟩
       ·obtain⟨_,o,hsl,_⟩:=hsl;exact⟨_,_,by rw[hsl];simp;exact⟨rfl,rfl⟩,by omega⟩
      ·cases hn
     ·cases hn
    obtain⟨b,c,hb,h0⟩:=this;refine⟨goInt n,?_,by simp only[V.Rel,L.Rel,Ty.Rel,goInt]⟩;rw[hb];simp[Builtin.len_,run_underlying hu,Int.toNat_of_nonneg h0]
   ·cases h
  ·cases h
 ·cases h
theorem yEg{σ:St}{a:Act}{t:TypeId}{s x:Operand}{v:V}{h':List Ob}(ty:TypeId)(hT:bM C.P T)(hs:Sim C β σ a w)(h:Nq T σ t s x=some (true,v,h')):∃ β' w' v',(Builtin.append_ #[t,t] ty #[a.eval s,a.eval x]).run C.P w=.ok v' w'/\Moves β β'/\Keep (C.N β σ.h) w w'/\Sim C β' { σ with h:=h' } a w'/\v.Rel β' w' (C.N β' h') v':=by
 have hx:=aY hs x;have hsl:=aY hs s;unfold Nq at h;split at h
 ·rename_i e te ti ls lx het hls hlx;obtain⟨ts,hts,hk,hti,_,hsz,hpos,hby⟩:=jV het;rw[hlx]at hx;rw[hls]at hsl;split at h
  ·rename_i c ys hys;split at h
   ·simp only[aA,aB,aD]at h;obtain⟨⟨rfl,hroom⟩,rfl,rfl⟩:=h;have hy:=Fb hs.heap hys (show lx.Rel β w (C.N β σ.h) [a.eval x]from hx);simp only[V.Rel,L.Rel,aJ,and_true]at hsl;rw[hsl];obtain⟨v',w',β',h1,h2,h3,h4,h5⟩:=zXb ty hT hts hk hti hsz hpos hby (bR hroom) hs hy;exact⟨β',w',v',h1,h2,h5,h3,h4⟩
   ·rename_i id ver;split at h
    ·rename_i e' t' vv rows ho;split at h
     ·rename_i hh;obtain⟨e1,e2⟩:=hh;subst e1 e2;simp only[aA,aB,aD]at h;obtain⟨⟨rfl,hv,hroom⟩,rfl,rfl⟩:=h;have hv:=aK hv;subst hv;have hy:=Fb hs.heap hys (show lx.Rel β w (C.N β σ.h) [a.eval x]from hx);have hob:=hs.heap.obj _ _ ho;simp only[Ob.Rel]at hob;obtain⟨_,_,hpv,_,_,hpl,_⟩:=hob;simp only[V.Rel,L.Rel]at hsl;obtain⟨_,_,_,c,hc,_,himp⟩:=hsl;have hso:=himp hpv;simp only[aJ,and_true]at hc;subst hc;rw[hpl]at hso;obtain⟨v',w',β',h1,h2,h3,h4,h5⟩:=zFi ty hT hts hk hti hsz hby (bR hroom) hs ho (aP _) hso hy;rw[List.take_length]at h3 h4;exact⟨β',w',v',h1,h2,h5,h3,h4⟩
     ·cases h
    ·cases h
   ·rename_i id ver off len;split at h
    ·rename_i e' t' vv rows ho;split at h
     ·rename_i hh;obtain⟨e1,e2⟩:=hh;subst e1 e2;simp only[aA,aB,aD]at h;obtain⟨⟨rfl,hv,hoff,hlen,hroom⟩,rfl,rfl⟩:=h;have hv:=aK hv;have hoff:=aK hoff;subst hv hoff;have hy:=Fb hs.heap hys (show lx.Rel β w (C.N β σ.h) [a.eval x]from hx);have hob:=hs.heap.obj _ _ ho;simp only[Ob.Rel]at hob;obtain⟨_,_,hpv,_,_,hpl,_⟩:=hob;simp only[V.Rel,L.Rel]at hsl;obtain⟨_,_,_,c,hc,_,himp⟩:=hsl;have hso:=himp hpv;simp only[aJ,and_true]at hc;subst hc;obtain⟨v',w',β',h1,h2,h3,h4,h5⟩:=zFi ty hT hts hk hti hsz hby (bR hroom) hs ho (bR hlen) hso hy;exact⟨β',w',v',h1,h2,h5,h3,h4⟩
     ·cases h
    ·cases h
   ·rename_i t' xs;split at h
    ·rename_i e1;subst e1;simp only[aA,aB,aD]at h;obtain⟨⟨rfl,hroom⟩,rfl,rfl⟩:=h;have hy:=Fb hs.heap hys (show lx.Rel β w (C.N β σ.h) [a.eval x]from hx);simp only[V.Rel,L.Rel]at hsl;obtain⟨v',w',h1,h2,h3,h4⟩:=zBc ty hT hts hk hti hsz hby (bR hroom) hs hsl hy;exact⟨β,w',v',h1,Moves.refl β,h2,h3,by simp only[V.Rel,L.Rel];exact h4⟩
    ·cases h
   ·cases h
  ·cases h
 ·cases h
theorem yEh{σ:St}{a:Act}{t t2:TypeId}{s x:Operand}{v:V}{h':List Ob}(ty:TypeId)(hT:bM C.P T)(hs:Sim C β σ a w)(h:zBd T σ t t2 s x=some (true,v,h')):∃ β' w' v',(Builtin.append_ #[t,t2] ty #[a.eval s,a.eval x]).run C.P w=.ok v' w'/\Moves β β'/\Keep (C.N β σ.h) w w'/\Sim C β' { σ with h:=h' } a w'/\v.Rel β' w' (C.N β' h') v':=by
 have hx:=aY hs x;have hsl:=aY hs s;unfold zBd at h;split at h
 ·rename_i e _ ti tx id ver u het htx hls hlx;obtain⟨ts,hts,hk,hti,_,_,_,hby⟩:=jV het;rw[hlx]at hx;rw[hls]at hsl;split at h
  ·rename_i e' vv rows hkx ho;simp only[aA,aB,aD]at h;obtain⟨⟨he,hsz,hv,hroom⟩,rfl,rfl⟩:=h;have he:=aK he;have hsz:=aK hsz;have hv:=aK hv;subst he hv;have hob:=hs.heap.obj _ _ ho;simp only[Ob.Rel]at hob;obtain⟨_,_,hpv,_,_,hpl,_⟩:=hob;simp only[V.Rel,L.Rel]at hsl;obtain⟨_,_,_,c,hc,_,himp⟩:=hsl;have hso:=himp hpv;simp only[aJ,and_true]at hc;subst hc;rw[hpl]at hso;simp only[V.Rel,L.Rel,Ty.Rel,aJ,and_true]at hx;rw[hx];obtain⟨v',w',β',h1,h2,h3,h4,h5⟩:=zXc ty hT hts hk htx hkx hti hsz hby (bR hroom) hs ho hso;exact⟨β',w',v',h1,h2,h5,h3,h4⟩
  ·cases h
 ·cases h
theorem xU{a:Act}{o:Oper}{b:Builtin}{args:Array Operand}{ts:Array TypeId}{x:Value}{w':World}(ho:o.op=.call { callee:=.builtin b,args,argTypes:=ts })(h:(builtin b ts o.type (args.map fun|.const _=>true|_=>false) (args.map a.eval)).run C.P w=.ok (.value x) w'):(execOp a.eval o).run C.P w=.ok (.value x) w':=by
 simp only[execOp,ho,resolve,Sem.run_bind,Sem.run_pure,Result.andThen_ok,invoke];exact h
theorem Gr{z:Array Value}{size:Nat}(hz:z.size=size)(hpos:0<size)(k:Nat):(madeCells z (k*size)).toList=(List.replicate k z.toList).flatten:=by
 have hl:∀ c∈List.replicate k z.toList,c.length=size:=λc hc=>by rw[List.eq_of_mem_replicate hc];simpa using hz
 apply List.ext_getElem?;intro j;by_cases hj:j<k*size
 ·have h1:j / size<k:=Nat.div_lt_of_lt_mul (by rw[Nat.mul_comm];exact hj);have h2:j % size<size:=Nat.mod_lt _ hpos;have h3:=Fa (List.replicate k z.toList) hl (j / size) (j % size) (by simpa using h1) h2;have h4:j / size*size+j % size=j:=by rw[Nat.mul_comm];exact Nat.div_add_mod j size
  rw[h4]at h3;rw[h3];have h5:j % size<z.size:=by omega
  simp only[madeCells,Array.toList_map,List.getElem?_map,Array.getElem?_toList,hz];rw[Array.getElem?_eq_getElem (by simpa using hj)];simp[h5]
 ·have h1:(List.replicate k z.toList).flatten.length=k*size:=by rw[cB _ hl];simp
  have h2:(madeCells z (k*size)).toList.length=k*size:=by simp[size_madeCells]
  rw[List.getElem?_eq_none (by omega),List.getElem?_eq_none (by omega)]
theorem yIa{σ:St}{a:Act}{o:Oper}{v:V}{h':List Ob}(hT:bM C.P T)(hs:Sim C β σ a w)(h:gL T σ o=some (true,v,h')):After C β σ a w o v h':=by
 unfold gL at h;split at h
 ·rename_i x ho;simp only[aA,aB,true_and]at h;obtain⟨rfl,rfl⟩:=h;exact After.read hs ⟨_,by simp only[execOp,ho];rfl,aY hs x⟩
 ·rename_i x ho;simp only[aA,aB,true_and]at h;obtain⟨rfl,rfl⟩:=h;exact After.read hs ⟨_,by simp only[execOp,ho];rfl,aY hs x⟩
 ·rename_i op _ x ho;have hx:=aY hs x;split at h
  ·rename_i l hl;rw[hl]at hx;split at h
   ·rename_i c r hr;simp only[aA,aB]at h;obtain⟨rfl,rfl,rfl⟩:=h;obtain⟨y,h1,h2⟩:=yXu (C:=C) hr hx;exact After.read hs ⟨y,by simp only[execOp,ho];exact fI h1,h2⟩
   ·cases h
  ·cases h
 ·rename_i op xt x y _ ho;split at h
  ·rename_i c r hr;simp only[aA,aB]at h;obtain⟨rfl,rfl,rfl⟩:=h;obtain⟨z,h1,h2⟩:=yPr hT hs hr;exact After.read hs ⟨z,by simp only[execOp,ho];exact fI h1,h2⟩
  ·cases h
 ·rename_i s d x ho;split at h
  ·rename_i c r hr;simp only[aA,aB]at h;obtain⟨rfl,rfl,rfl⟩:=h;obtain⟨z,h1,h2⟩:=yMi hT hs hr;exact After.read hs ⟨z,by simp only[execOp,ho];exact fI h1,h2⟩
  ·cases h
 ·rename_i s x f ho;have hx:=aY hs x;split at h
  ·rename_i ti l hti hl;rw[hl]at hx;split at h
   ·rename_i fs hk;split at h
    ·rename_i off ft hf;split at h
     ·rename_i tf htf;split at h
      ·rename_i hz;split at h
       ·rename_i c r hr;simp only[aA,aB]at h;obtain⟨rfl,rfl,rfl⟩:=h;obtain⟨y,h1,h2⟩:=zYx hT hti hk hf htf (bR hz) hr hs.heap hx;exact After.read hs ⟨y,by simp only[execOp,ho];exact fI h1,h2⟩
       ·cases h
      ·cases h
     ·cases h
    ·cases h
   ·cases h
  ·cases h
 ·rename_i t x i ho;have hx:=aY hs x;split at h
  ·rename_i ti l k n hti hl hn;rw[hl]at hx;split at h
   ·rename_i c r hr;simp only[aA,aB]at h;obtain⟨rfl,rfl,rfl⟩:=h;obtain⟨y,h1,h2⟩:=yEe (k:=k) hT hti hr hs.heap (zMp hs.heap hx);exact After.read hs ⟨y,by simp only[execOp,ho,iK hn (aY hs i)];exact fI h1,h2⟩
   ·cases h
  ·cases h
 ·rename_i t x i ho;split at h
  ·rename_i ti k n hti hn;split at h
   ·rename_i hk;split at h
    ·rename_i c r hr;simp only[aA,aB]at h;obtain⟨rfl,rfl,rfl⟩:=h;obtain⟨y,h1,h2⟩:=yVp (σh:=σ.h) (k:=k) hT hti hk hr (aY hs x);exact After.read hs ⟨y,by simp only[execOp,ho,iK hn (aY hs i)];exact fI h1,h2⟩
    ·cases h
   ·cases h
  ·cases h
 ·rename_i t x lo hi ho;have hx:=aY hs x;split at h
  ·rename_i ti l l0 h0 hti hl hlo hhi;rw[hl]at hx;have hx2:=zMp hs.heap (show l.Rel β w (C.N β σ.h) [a.eval x]from hx);have hb:∀ (q:Option Operand) (m:Option Int),wY σ q=some m->∃ k,q.map a.eval=m.map (.int k):=by
    intro q m hq;cases q with
    |none=>simp only[wY,aA]at hq;subst hq;exact⟨.i64,rfl⟩
    |some q =>
     simp only[wY]at hq;split at hq
     ·rename_i k n hn;simp only[aA]at hq;subst hq;exact⟨k,by simp[iK hn (aY hs q)]⟩
     ·cases hq
   obtain⟨kl,hkl⟩:=hb lo l0 hlo;obtain⟨kh,hkh⟩:=hb hi h0 hhi;split at h
   ·rename_i c r hr;have fin:(∀ e,ti.k=.slice e->∃ te,T.get e=some te/\(∀ a xs,l.view σ.h=.val (.slice a) xs->a.size=te.size)/\(∀ id ver off len,l.view σ.h=.sl id ver off len->te.size=(β id).size))->some (c,V.one r,σ.h)=some (true,v,h')->After C β σ a w o v h':=by
     intro hte h;simp only[aA,aB]at h;obtain⟨rfl,rfl,rfl⟩:=h;obtain⟨y,h1,h2⟩:=yMd (kl:=kl) (kh:=kh) hT hti hr hs.heap hx2 hte;exact After.read hs ⟨y,by simp only[execOp,ho,hkl,hkh,Option.map_none];exact fI h1,h2⟩
    split at h
    ·rename_i e hk;split at h
     ·rename_i te hte;split at h
      ·rename_i a0 xs hv;split at h
       ·rename_i hz;refine fin (λe' he'=>?_) h;rw[hk]at he';simp only[TK.slice.injEq]at he';subst he';refine⟨te,hte,λa1 ys h1=>?_,λid ver off len h1=>?_⟩
        ·rw[hv]at h1;simp only[L.val.injEq,Ty.slice.injEq]at h1;obtain⟨rfl,_⟩:=h1;exact aK hz
        ·rw[hv]at h1;cases h1
       ·cases h
      ·rename_i id0 xFz xGa xGb hv;split at h
       ·rename_i e0 a0 v0 xBt wr0 ho0;split at h
        ·rename_i hz;refine fin (λe' he'=>?_) h;rw[hk]at he';simp only[TK.slice.injEq]at he';subst he';refine⟨te,hte,λa1 ys h1=>?_,λid ver off len h1=>?_⟩
         ·rw[hv]at h1;cases h1
         ·rw[hv]at h1;simp only[L.sl.injEq]at h1;obtain⟨rfl,_⟩:=h1;have hob:=hs.heap.obj _ _ ho0;simp only[Ob.Rel]at hob;obtain⟨_,_,_,hpz,_⟩:=hob;rw[hpz];exact(aK hz).symm
        ·cases h
       ·rename_i e0 ei0 v0 xBt xGc ho0;split at h
        ·rename_i hz;refine fin (λe' he'=>?_) h;rw[hk]at he';simp only[TK.slice.injEq]at he';subst he';refine⟨te,hte,λa1 ys h1=>?_,λid ver off len h1=>?_⟩
         ·rw[hv]at h1;cases h1
         ·rw[hv]at h1;simp only[L.sl.injEq]at h1;obtain⟨rfl,_⟩:=h1;have hob:=hs.heap.obj _ _ ho0;simp only[Ob.Rel]at hob;obtain⟨_,_,_,hpz,_⟩:=hob;rw[hpz];exact(aK hz).symm
        ·cases h
       ·cases h
      ·cases h
     ·cases h
    ·rename_i hk;exact fin (λe he=>by rw[hk]at he;cases he) h
    ·cases h
   ·cases h
  ·cases h
 ·rename_i t x hi mx ho;have hx:=aY hs x;split at h
  ·rename_i ti a0 xs k1 n k2 m hti hl hhi hmx;rw[hl]at hx;have hh:=iK hhi (aY hs hi);have hm:=iK hmx (aY hs mx);split at h
   ·rename_i e hk;split at h
    ·rename_i te hte;split at h
     ·rename_i hz;simp only[aA,aB,aD,decide_eq_true_eq]at h;obtain⟨⟨hn,hm2⟩,rfl,rfl⟩:=h;have hz:=aK hz;have hu:=(hT _ _ hti).slice hk;obtain⟨y,h1,h2⟩:=yPp (C:=C) (t:=t) (k1:=k1) (k2:=k2) hT hti hk hte hz.symm hx;refine After.read hs ⟨y,?_,by simp only[V.Rel,L.Rel];exact h2⟩;simp only[execOp,ho,Option.map_none,Option.map_some,hh,hm,hn,hm2];exact fI h1
     ·cases h
    ·cases h
   ·cases h
  ·cases h
 ·rename_i t parts ho;split at h
  ·rename_i c r hr;simp only[aA,aB]at h;obtain⟨rfl,rfl,rfl⟩:=h;obtain⟨z,h1,h2⟩:=yHx hT hs hr;exact After.read hs ⟨z,by simp only[execOp,ho];exact fI h1,h2⟩
  ·cases h
 ·rename_i x i ho;split at h
  ·rename_i r hr;simp only[aA,aB,true_and]at h;obtain⟨rfl,rfl⟩:=h;obtain⟨z,h1,h2⟩:=yVu (C:=C) hr (aY hs x);exact After.read hs ⟨z,by simp only[execOp,ho];exact fI h1,h2⟩
  ·cases h
 ·rename_i t x ho;have hx:=aY hs x;split at h
  ·rename_i l hl;rw[hl]at hx;split at h
   ·rename_i c r hr;simp only[aA,aB]at h;obtain⟨rfl,rfl,rfl⟩:=h;obtain⟨z,h1,h2⟩:=Tt hT hr hs.heap hx;exact After.read hs ⟨z,by simp only[execOp,ho];exact fI h1,h2⟩
   ·cases h
  ·cases h
 ·rename_i t x y ho;have hx:=aY hs x;split at h
  ·rename_i l hl;rw[hl]at hx;split at h
   ·rename_i c r hr;simp only[aA,aB]at h;obtain⟨rfl,rfl,rfl⟩:=h;obtain⟨w',h1,h2,h3⟩:=yEf hT hr hs hx (aY hs y);exact⟨β,w',.skip,undef,by simp only[execOp,ho,Sem.run_bind,h1,Result.andThen_ok,Sem.run_pure],.inr ⟨rfl,rfl⟩,Moves.refl β,h3,h2,trivial⟩
   ·cases h
  ·cases h
 ·rename_i x ho;have hx:=aY hs x;have fin:∀ l:L,ovl σ x=.one l->(∃ b,a.eval x=.pointer (some b))\/(∃ f p q,a.eval x=.func (.func f) p q)->After C β σ a w o (.one l) σ.h:=by
   intro l hl hp;rw[hl]at hx;refine After.read hs ⟨a.eval x,?_,hx⟩;rcases hp with ⟨b,hb⟩|⟨f,p,q,hb⟩<;>(simp only[execOp,ho,hb];rfl)
  split at h
  ·rename_i id off hl;simp only[aA,aB,true_and]at h;obtain⟨rfl,rfl⟩:=h;refine fin _ hl (.inl ?_);rw[hl]at hx;simp only[V.Rel,L.Rel,aJ,and_true]at hx;obtain⟨_,_,b,_,hx⟩:=hx;exact⟨_,hx⟩
  ·rename_i id off es i sub hl;simp only[aA,aB,true_and]at h;obtain⟨rfl,rfl⟩:=h;refine fin _ hl (.inl ?_);rw[hl]at hx;simp only[V.Rel,L.Rel,aJ,and_true]at hx;obtain⟨_,_,b,_,hx⟩:=hx;exact⟨_,hx⟩
  ·rename_i t y off hl;simp only[aA,aB,true_and]at h;obtain⟨rfl,rfl⟩:=h;refine fin _ hl (.inl ?_);rw[hl]at hx;simp only[V.Rel,L.Rel,aJ,and_true]at hx;obtain⟨c,hx,b,o',cs,rfl,_⟩:=hx;exact⟨_,hx⟩
  ·rename_i id ver i off hl;simp only[aA,aB,true_and]at h;obtain⟨rfl,rfl⟩:=h;refine fin _ hl (.inl ?_);rw[hl]at hx;simp only[V.Rel,L.Rel,aJ,and_true]at hx;obtain⟨_,_,_,c,hx,⟨q,o',rfl⟩,_⟩:=hx;exact⟨_,hx⟩
  ·rename_i f cs hl;simp only[aA,aB,true_and]at h;obtain⟨rfl,rfl⟩:=h;refine fin _ hl (.inr ?_);rw[hl]at hx;simp only[V.Rel,L.Rel,aJ,and_true]at hx;obtain⟨us,hx,_⟩:=hx;obtain⟨g,p,q,e⟩:=zSh f us;exact⟨_,_,_,hx.trans e⟩
  ·rename_i f p q hl;simp only[aA,aB,true_and]at h;obtain⟨rfl,rfl⟩:=h;refine fin _ hl (.inr ?_);rw[hl]at hx;simp only[V.Rel,L.Rel,Ty.Rel,aJ,and_true]at hx;exact⟨_,_,_,hx.1⟩
  ·cases h
 ·rename_i f first cs ho
  split at h
  ·rename_i hlt;split at h
   ·rename_i h0;split at h
    ·rename_i ls hls;simp only[aA,aB,true_and]at h;obtain⟨rfl,rfl⟩:=h;have hr:=zMr hs hls;refine After.read hs ⟨.func (.func f) #[] (cs.map a.eval),?_,?_⟩
     ·have:first=#[]:=Array.eq_empty_of_size_eq_zero h0
      subst this;simp only[execOp,ho,Instr.makeFunc,Array.map_empty];rfl
     ·simp only[V.Rel,L.Rel];exact⟨_,by rw[zBa (by rwa [Nat.blt_eq]at hlt),<- Array.toList_map],hr⟩
    ·cases h
   ·split at h
    ·rename_i h1;split at h
     ·rename_i l ls hls;simp only[aA,aB,true_and]at h;obtain⟨rfl,rfl⟩:=h;have hr:=zMr hs hls;refine After.read hs ⟨.func (.func f) (first.map a.eval) #[],?_,?_⟩
      ·have:cs=#[]:=Array.eq_empty_of_size_eq_zero h1;subst this;simp only[execOp,ho,Instr.makeFunc,Array.map_empty];rfl
      ·simp only[V.Rel,L.Rel];refine⟨_,?_,hr⟩;cases hf:first.toList with
       |nil =>
        rw[hf]at hls;simp[caps]at hls
       |cons x xs =>
        rw[List.map_cons,zOr,<- List.map_cons,<- hf,<- Array.toList_map]
     ·cases h
    ·cases h
  ·cases h
 ·rename_i e x ho;split at h
  ·rename_i ls hls;simp only[aA,aB,true_and]at h;obtain⟨rfl,rfl⟩:=h;have hr:=V.Ku hls (aY hs x);obtain⟨β',h1,h2,h3⟩:=yMe (e:=e) hs hr;refine⟨β',_,_,.pointer (some ⟨w.heap.size,0,none⟩),?_,.inl rfl,h1,(dX w _).weaken λ_ _ h=>h.elim,h2,h3⟩;simp only[execOp,ho,Instr.box,newVar,newRow,Sem.run_bind,run_newObj,Result.andThen_ok,Sem.run_pure];rfl
  ·cases h
 ·rename_i e ho;split at h
  ·rename_i ti hti;simp only[aA,aB,true_and]at h;obtain⟨rfl,rfl⟩:=h;obtain⟨i,z,hi,his,hib,hz,sV,hzs,_⟩:=(hT _ _ hti).i;obtain⟨β',h1,h2,h3⟩:=yMe (e:=e) hs (sV β w (C.N β σ.h));refine⟨β',_,_,.pointer (some ⟨w.heap.size,0,none⟩),?_,.inl rfl,h1,(dX w _).weaken λ_ _ h=>h.elim,h2,h3⟩;have hzv:(zeroValue e).run C.P w=.ok z w:=by simp[zeroValue,typeInfo,hi,hz]
   simp only[execOp,ho,Instr.alloc,Sem.run_bind,hzv,Result.andThen_ok,newVar,newRow,run_newObj,Sem.run_pure];rfl
  ·cases h
 ·rename_i t n parts ho;split at h
  ·rename_i e te ti het;obtain⟨ts,hts,hk,hti,zSk,hsz,hpos,hby⟩:=jV het;split at h
   ·rename_i hc;simp only[aD]at hc;have hn:=aK hc.1;have hle:=bR hc.2;split at h
    ·rename_i ys hys;simp only[aA,aB,true_and]at h;obtain⟨rfl,rfl⟩:=h;obtain⟨css,h1,h2,h3⟩:=Yq hs hys;obtain⟨i,z,hi,his,hib,hz,sV,hzs,_⟩:=(hT _ _ hti).i;have hlc:=jJ h1;have hps:∀ p∈parts.toList.map (λp=>(p.1,a.eval p.2)),p.2.cells.size=te.size:=λp hp=>by
      obtain⟨q,hq,rfl⟩:=List.mem_map.1 hp;have:=hlc (a.eval q.2).cells.toList (by rw[h2];exact List.mem_map.2 ⟨q,hq,rfl⟩);simpa using this
     have Ky:ys.length=parts.size:=by rw[h1.length,h2];simp
     obtain⟨cs',hf1,hf2⟩:=zDd te.size (parts.toList.map λp=>(p.1,a.eval p.2)) 0 ((Array.range (n*te.size)).map (z.cells[· % z.cells.size]!)) (λj p hp=>by
      simp only[List.getElem?_map,Option.map_eq_some_iff]at hp;obtain⟨q,hq,rfl⟩:=hp;have:=h3 j q hq;omega) hps (by simp[hn])
     simp only[Nat.zero_mul,List.take_zero,List.nil_append,List.map_map]at hf2;obtain⟨β',g1,g2,g3⟩:=yMf (e:=e) (cs:=cs') hs hpos h1 (by rw[hf2,h2];rfl) (by
      rw[Ky,<- hn];have:n*1<=n*te.size:=Nat.mul_le_mul_left _ hpos;simp only[maxLen];omega)
     refine⟨β',_,_,.slice (some ⟨w.heap.size,0,none⟩) ys.length ys.length,?_,.inl rfl,g1,(dX w _).weaken λ_ _ h=>h.elim,g2,g3⟩;have hu:=(hT _ _ hts).slice hk;have hzv:(zeroValue e).run C.P w=.ok z w:=by simp[zeroValue,typeInfo,hi,hz]
     have zZc:¬ (n*te.size>2 ^ 24):=by omega
     simp only[execOp,ho,Instr.buildSlice,Sem.run_bind,run_underlying hu,Result.andThen_ok,(hT _ _ hti).sizeOf,hsz,zZc,if_false,Sem.run_pure];by_cases h0:n*te.size=0
     ·have hn0:n=0:=by
       rcases Nat.mul_eq_zero.1 h0 with h|h
       ·exact h
       ·omega
      have hpe:parts=#[]:=Array.eq_empty_of_size_eq_zero (by omega);subst hpe;subst hn0;have zZd:ys=[]:=List.eq_nil_of_length_eq_zero (by simpa using Ky);subst zZd;have zZe:cs'=#[]:=by simpa using hf2
      subst zZe;simp[Instr.fill,newRow,show Array.range 0=#[]from rfl];try rfl
     ·simp only[h0,if_false,Sem.run_bind,hzv,Result.andThen_ok,Sem.run_pure];rw[Array.toList_map,hf1];simp only[Sem.run_bind,newRow,run_newObj,Result.andThen_ok,Sem.run_pure,Ky,hn];rfl
    ·cases h
   ·cases h
  ·cases h
 ·rename_i t l c ho;split at h
  ·rename_i e te ti n m het hn hm;obtain⟨ts,hts,hk,hti,zSk,hsz,hpos,hby⟩:=jV het;split at h
   ·rename_i z0 hz0;simp only[aA,aB,aD]at h;obtain⟨⟨h0,hnm,hroom⟩,rfl,rfl⟩:=h;have h0:=of_decide_eq_true h0;have hnm:=of_decide_eq_true hnm;have hroom:=bR hroom;subst hnm;obtain⟨i,z,hi,his,hib,hz,sV,hzs,_⟩:=(hT _ _ hti).i;have hu:=(hT _ _ hts).slice hk;have hrz:=oU hz0 (sV β w (C.N β σ.h));obtain⟨k,rfl⟩:∃ k:Nat,n=k:=⟨n.toNat,by omega⟩;rw[Int.toNat_natCast]at hroom;unfold room at hroom;have hkb:k<=k*ti.bytes:=Nat.le_mul_of_pos_right _ hby;have hrun:=run_make (P:=C.P) w t e i z hu hi hz .i64 .i64 (k:Int) (k:Int) (by omega) (Int.le_refl _) (by
     have h:((i.bytes*k:Nat):Int)<=281474976710656:=by rw[hib,Nat.mul_comm];omega
     rwa [Int.natCast_mul]at h) (by omega)
    simp only[Int.toNat_natCast]at hrun;have hzz:z.cells.size=te.size:=by rw[hzs,his,hsz]
    have hal:bD (λx c=>te.Rel w (C.N β σ.h) x c) (List.replicate k z0) (List.replicate k z.cells.toList):=bD.replicate hrz k;obtain⟨β',g1,g2,g3⟩:=yMf (e:=e) (cs:=madeCells z.cells (k*i.size)) hs hpos hal (by rw[his,hsz];exact Gr hzz hpos k) (by simp only[List.length_replicate,maxLen];omega);rw[List.length_replicate]at g3;refine⟨β',_,_,.slice (some ⟨w.heap.size,0,none⟩) k k,?_,.inl rfl,g1,(dX w _).weaken λ_ _ h=>h.elim,g2,g3⟩;simp only[execOp,ho,iK hn (aY hs l),iK hm (aY hs c),Sem.run_bind,hrun];rfl
   ·cases h
  ·cases h
 ·rename_i b args ts ho;split at h
  ·rename_i x t hargs hts;split at h
   ·rename_i c r hr;simp only[aA,aB]at h;obtain⟨rfl,rfl,rfl⟩:=h;have e1:args=#[x]:=by apply Array.toList_inj.1;simpa using hargs
    have e2:ts=#[t]:=by apply Array.toList_inj.1;simpa using hts
    subst e1 e2;obtain⟨z,h1,h2⟩:=yPs o.type hT hs hr;exact After.read hs ⟨z,xU ho (fI (by simpa using h1)),h2⟩
   ·cases h
  ·rename_i s x t t' hargs hts;split at h
   ·rename_i htt;have htt:=aK htt;subst htt;have e1:args=#[s,x]:=by apply Array.toList_inj.1;simpa using hargs
    have e2:ts=#[t,t]:=by apply Array.toList_inj.1;simpa using hts
    subst e1 e2;obtain⟨β',w',v',h1,h2,h3,h4,h5⟩:=yEg o.type hT hs h;refine⟨β',w',_,v',xU (x:=v') ho ?_,.inl rfl,h2,h3,h4,h5⟩;simp only[builtin,Sem.run_bind];have h1':(Builtin.append_ #[t,t] o.type (Array.map a.eval #[s,x])).run C.P w=.ok v' w':=by simpa using h1
    rw[h1'];rfl
   ·have e1:args=#[s,x]:=by apply Array.toList_inj.1;simpa using hargs
    have e2:ts=#[t,t']:=by apply Array.toList_inj.1;simpa using hts
    subst e1 e2;obtain⟨β',w',v',h1,h2,h3,h4,h5⟩:=yEh o.type hT hs h;refine⟨β',w',_,v',xU (x:=v') ho ?_,.inl rfl,h2,h3,h4,h5⟩;simp only[builtin,Sem.run_bind];have h1':(Builtin.append_ #[t,t'] o.type (Array.map a.eval #[s,x])).run C.P w=.ok v' w':=by simpa using h1
    rw[h1'];rfl
  ·rename_i x y hargs;split at h
   ·rename_i k p k2 q hp hq;simp only[aA,aB,true_and]at h;obtain⟨rfl,rfl⟩:=h;have e1:args=#[x,y]:=by apply Array.toList_inj.1;simpa using hargs
    subst e1;have hx:=iK hp (aY hs x);have hy:=iK hq (aY hs y);refine After.read hs ⟨.int k (if q<p then q else p),xU ho ?_,by simp only[V.Rel,L.Rel,Ty.Rel]⟩;simp[builtin,Builtin.min_,Builtin.min2,hx,hy]
   ·cases h
  ·rename_i x y hargs;split at h
   ·rename_i k p k2 q hp hq;simp only[aA,aB,true_and]at h;obtain⟨rfl,rfl⟩:=h;have e1:args=#[x,y]:=by apply Array.toList_inj.1;simpa using hargs
    subst e1;have hx:=iK hp (aY hs x);have hy:=iK hq (aY hs y);refine After.read hs ⟨.int k (if q>p then q else p),xU ho ?_,by simp only[V.Rel,L.Rel,Ty.Rel]⟩;simp[builtin,Builtin.max_,Builtin.max2,hx,hy]
   ·cases h
  ·cases h
 ·cases h
end
end Go.Dec
