/- Part of a proof over this seat: a library of my own, and what it says of this seat. No statement is proved here. -/
import Derived.Test.YtdgneppobefaoaaGreatDoorPartAI
import Derived.WalkKit
import Derived.OwnWalkIn
import Derived.TacticsInMore
import Derived.Lib.SliceRun
namespace Go.Dec
open Go.RowKit
theorem Sn {F:Fence} {n:Nat} {P:Program} (w:World) {ops:Array Oper} {rest:List Oper} {o:Oper} {a:Act} {Q:Exit->Act->World->Prop}
  (hg:o.guard=none) (s x:Operand) (t:TypeId) (hop:o.op=Op.call { callee:=Callee.builtin Builtin.append,args:=#[s,x],argTypes:=#[t,t] }) {v':Value} {w':World} {u y:Value} (hs:a.eval s=u) (hx:a.eval x=y)
  (hrun:(Builtin.append_ #[t,t] o.type #[u,y]).run P w=.ok v' w') (hK:wpListIn F n P ops Q rest (a.put o.dst v') w'):wpListIn F n P ops Q (o :: rest) a w:=by
 refine wpListIn_plain hg fun K hK'=>?_
 unfold Oper.wpIn
 refine ⟨?_,?_⟩
 ·simp [Oper.about,hop,resolve,Target.leads,Sem.run_pure]
 ·rw [Oper.semAt_plain F _ _ (by rw [hop]; intro c hc'; cases hc')]
  simp [execOp,hop,resolve,invoke,builtin,hs,hx,hrun,Result.andThen]
  exact hK' _ _ hK
def Az (t tb:TypeId) (p0 p1 p2 p3 p4 p5 p6 p7:String):Code :=
 .seq (.region 0 #[{ dst:=some 2,op:=.assign (.const (.slice none 0 0)),type:=t,pos:=p0,after:=#[],guard:=none }] false)
 (.seq (.seq (.region 1 #[{ dst:=some 3,op:=.move (.tmp 0),type:=t,pos:=p1,after:=#[],guard:=none },
   { dst:=some 4,op:=.binOp .eql t (.tmp 3) (.const (.slice none 0 0)) t,type:=tb,pos:=p2,after:=#[{ on:=0,ground:=.data }],guard:=none }] false)
  (.cond (.tmp 4) (.seq (.region 2 #[{ dst:=some 2,op:=.assign (.const (.slice none 0 0)),type:=t,pos:=p3,after:=#[],guard:=none }] false) .ret) .skip))
 (.seq (.region 3 #[{ dst:=some 5,op:=.buildSlice t 0 #[],type:=t,pos:=p4,after:=#[],guard:=none },
   { dst:=some 6,op:=.move (.tmp 0),type:=t,pos:=p5,after:=#[],guard:=none },
   { dst:=some 7,op:=.call { callee:=.builtin .append,args:=#[.tmp 5,.tmp 6],argTypes:=#[t,t] },type:=t,pos:=p6,after:=#[{ on:=0,ground:=.data },{ on:=1,ground:=.data }],guard:=none },
   { dst:=some 2,op:=.assign (.tmp 7),type:=t,pos:=p7,after:=#[{ on:=2,ground:=.data },{ on:=2,ground:=.chain },{ on:=0,ground:=.phase },{ on:=1,ground:=.phase },{ on:=2,ground:=.phase }],guard:=none }] false) .ret))
section
variable {P:Program} {f:FuncId} {fn:Func} {t tb e:TypeId} {p0 p1 p2 p3 p4 p5 p6 p7:String}
set_option maxHeartbeats 1000000 in
set_option maxRecDepth 100000 in
theorem yBj (hf:P.funcs[f]?=some fn) (hb:fn.body=some (Az t tb p0 p1 p2 p3 p4 p5 p6 p7)) (hn:fn.ntmps=8) (hr:fn.results=#[.tmp 2]) (hu:P.underlying t=some (.slice e)) (w:World) :
  Calls P f #[.slice none 0 0] w fun e w'=>e=.returned (.slice none 0 0)∧w'=w:=by
 have u1:=run_underlying hu
 refine (callsIn_wide (n:=1)).1 ?_
 refine callsIn_of_wp hf hb trivial ?_ rfl
 unfold Az
 simp only [hn,List.size_toArray,List.length_cons,List.length_nil,Nat.reduceAdd,Nat.reduceSub,Array.replicate_succ,Array.replicate_zero,List.push_toArray,List.append_toArray,List.nil_append,List.cons_append]
 gi_wp2
 rw [Lib.run_eql_slice_nil w t e none 0 0 0 0 hu]
 gi_wp2
 refine bodyPost_ret (results_tmp hr _ _ _) rfl ?_
 exact ⟨rfl,rfl⟩
set_option maxHeartbeats 1000000 in
set_option maxRecDepth 100000 in
theorem zXa (hf:P.funcs[f]?=some fn) (hb:fn.body=some (Az t tb p0 p1 p2 p3 p4 p5 p6 p7)) (hn:fn.ntmps=8) (hr:fn.results=#[.tmp 2]) (hu:P.underlying t=some (.slice e)) (w:World) (ad:Addr) (k c:Nat) {v':Value} {w':World}
  {sz:Nat} (hz:∀ w,(Go.sizeOf e).run P w=.ok sz w)
  (hrun:(Builtin.append_ #[t,t] t #[.slice (some ⟨w.heap.size,0,none⟩) 0 0,.slice (some ad) k c]).run P (w.alloc (.cells #[] e))=.ok v' w') :
  Calls P f #[.slice (some ad) k c] w fun e W=>e=.returned v'∧W=w':=by
 have u1:=run_underlying hu
 refine (callsIn_wide (n:=1)).1 ?_
 refine callsIn_of_wp hf hb trivial ?_ rfl
 unfold Az
 simp only [hn,List.size_toArray,List.length_cons,List.length_nil,Nat.reduceAdd,Nat.reduceSub,Array.replicate_succ,Array.replicate_zero,List.push_toArray,List.append_toArray,List.nil_append,List.cons_append]
 gi_wp2
 rw [Lib.run_eql_slice_nil w t e (some ad) k c 0 0 hu]
 gi_wp2_with (gi_at_builtin; refine Sn _ rfl _ _ t rfl rfl rfl hrun ?_)
 refine bodyPost_ret (results_tmp hr _ _ _) rfl ?_
 exact ⟨rfl,rfl⟩
abbrev Ba (te:Ty):Sh:=⟨1,[⟨0,false,[.v (.slice te)]⟩],[]⟩
abbrev vD (e:TypeId) (te:Ty):Sh:=⟨1,[⟨0,false,[.own 0]⟩],[.row e te]⟩
def Gj {α:Type} (bytes:Nat) (x:List α × Unit):Option (List α × Unit):=chk (Nat.ble (x.1.length * bytes) room) (some x)
theorem qX {T:Tab} {te:Ty} {ts ti:TI} (hf:P.funcs[f]?=some fn) (hb:fn.body=some (Az t tb p0 p1 p2 p3 p4 p5 p6 p7)) (hn:fn.ntmps=8) (hr:fn.results=#[.tmp 2]) (hu:P.underlying t=some (.slice e)) (hh:gF P f=true)
  (hT:bK P T) (hts:T.get t=some ts) (hk:ts.k=.slice e) (hti:T.get e=some ti) (hsz:ti.size=te.size) (hpos:0 < te.size) (hby:0 < ti.bytes)
  (hen:∀ rows:List te.den,enter T (vD e te) [.gc [0]] ⟨[.one (.own 0 1)],[.arr e te 1 rows true]⟩ (fun y=>some y)=some (rows,())) :
  dP P f (Ba te) (vD e te) (Gj (α:=te.den) ti.bytes):=by
 refine ⟨hh,fun x y hF C β w xs hP hkf hs=>?_⟩
 obtain ⟨hroom,hy⟩:=fD hF
 obtain rfl:=Option.some.inj hy
 obtain ⟨rows,x0⟩:=x
 have hroom:=bM hroom
 simp only at hroom
 have hE:(Ba te).enc (rows,x0)=⟨[.one (.val (.slice te) rows)],[]⟩:=rfl
 have hE2:(vD e te).enc (rows,x0)=⟨[.one (.own 0 0)],[.arr e te 0 rows true]⟩:=rfl
 rw [hE] at hs
 subst hP
 have hrg:=hs.reg 0 _ rfl
 have hsize:=hs.size
 obtain ⟨u,rfl⟩:∃ u,xs=[u]:=List.length_eq_one_iff.1 (by simpa using hsize.symm)
 have yRs:Wy w (C.N β []) te rows u:=nD (h:=[]) (te:=te) (x:=.val (.slice te) rows) (ys:=rows) hs.heap (by simp [rowsOf]) hrg
 have one:∀ {β':Nat->Pl} {W:World} {v:Value} {k:Nat},dS C β' [.arr e te k rows true] W->(L.own 0 k).Rel β' W (C.N β' [.arr e te k rows true]) [v]->Sim C β' ⟨[.one (.own 0 k)],[.arr e te k rows true]⟩ { tmps:=#[v],defers:=[] } W:=fun h1 h2=>⟨h1,rfl,rfl,fun i q hq=>by
  match i,hq with
  | 0,hq=>obtain rfl:=Option.some.inj hq; exact h2
  | i+1,hq=>simp at hq⟩
 rw [hE2]
 have fin:∀ (ad:Addr) (k c:Nat),u=.slice (some ad) k c->Calls C.P f #[u] w fun e' w'=>∃ us β',e'=Ending.returned (lQ us)∧Sim C β' ⟨[.one (.own 0 0)],[.arr e te 0 rows true]⟩ { tmps:=us.toArray,defers:=[] } w':=by
  rintro ad k c rfl
  obtain ⟨β1,m1,s1,r1⟩:=zMo (e:=e) (t:=te) (rows:=[]) (css:=[]) (cs:=#[]) hs hpos trivial rfl (Nat.zero_le _)
  simp only [List.nil_append,List.length_nil] at s1 r1
  have hob:=s1.heap.obj 0 _ rfl
  simp only [Ob.Rel] at hob
  obtain ⟨q1,q2,q3,q4,q5,q6,_⟩:=hob
  simp only [L.Rel] at r1
  obtain ⟨_,_,_,c1,hc1,_,himp⟩:=r1
  have hso:=himp q3
  simp only [aL,and_true] at hc1
  subst hc1
  rw [q6] at hso
  have yPl:Wy (w.alloc (.cells #[] e)) (C.N β1 [.arr e te 0 [] true]) te rows (.slice (some ad) k c):=nD (te:=te) (x:=.val (.slice te) rows) (ys:=rows) s1.heap (by simp [rowsOf]) (s1.reg 0 _ rfl)
  obtain ⟨v',w',β2,g1,g2,g3,g4,g5⟩:=Cj (te:=te) (ys:=rows) (n:=0) t hT hts hk hti hsz hby (by simpa using hroom) s1 rfl (aJ _) hso yPl
  refine (zXa hf hb hn hr hu w ad k c (sz:=te.size) (fun w=>by rw [<- hsz]; exact (hT _ _ hti).sizeOf) g1).mono ?_
  rintro e' W ⟨rfl,rfl⟩
  obtain ⟨β3,_,x3,s4,hx⟩:=wW (sh:=vD e te) (co:=[.gc [0]]) (g:=fun y=>some y) (r:=(rows,x0)) hT hkf rfl (hen rows) (one g3.heap g4)
  obtain rfl:=Option.some.inj hx
  exact ⟨[_],β3,rfl,s4⟩
 rcases yRs with ⟨rfl,rfl⟩ | ⟨b,off,cap,css,rfl,hle,hall,hcs⟩ | ⟨ad,cap,rfl,rfl⟩
 ·refine (yBj hf hb hn hr hu w).mono ?_
  rintro e' w' ⟨rfl,rfl⟩
  obtain ⟨β',h1,h2,h3⟩:=wU (e:=e) (t:=te) hs hpos
  exact ⟨[_],β',rfl,one h2.heap h3⟩
 ·exact fin _ _ _ rfl
 ·exact fin _ _ _ rfl
end
end Go.Dec
namespace Go.Dec
section
variable {C:Ctx} {β:Nat->Pl} {w w1:World} {h:List Ob} {σ:St} {a:Act}
end
end Go.Dec
