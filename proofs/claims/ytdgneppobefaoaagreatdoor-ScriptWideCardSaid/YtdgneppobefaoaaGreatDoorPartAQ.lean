/- Part of a proof over this seat: a library of my own, and what it says of this seat. No statement is proved here. -/
import Derived.Test.YtdgneppobefaoaaGreatDoorPartAP
namespace Go.Ce
section
variable {P:Program} {lo:Nat} {β:Bt} {A:W} {w:World} {I:T CI} {evf:Operand->Option AV} {ρ:Operand->Value}
theorem Nl (n:Nat):(askRoom n).run P w=.ok () w:=by
 unfold askRoom
 split <;> rfl
theorem zJg (hI:TOK P I) (hW:aX lo β A w) {e:TypeId} {ei:CI} {A':W} (he:I.get e=some ei) (h:cnd (zIu ei.k ei.zero) (rT A (.typed e ei.zero)) (sO A ei.zero)=some A'):Gives P lo β A w (Instr.alloc e true (.tuple #[])) (.pt A.nx 0) A':=by
 obtain ⟨z,hz,hzr,_⟩:=(hI _ _ he).zero (w:=w)
 cases hb:zIu ei.k ei.zero with
 | false =>
  rw [hb] at h
  refine ⟨_,_,_,?_,wD hW h z.cells e (hzr β),w.heap.size,0,_,upd_same _ _ _,rfl⟩
  simp [Instr.alloc,hz,newVar,newRow]
 | true =>
  rw [hb] at h
  obtain ⟨h1,h2,h3⟩:=iE w (.cells z.cells e)
  refine ⟨_,_,_,?_,qF hW h (n:=z.cells.size) h1 h2 ⟨rfl,z.cells,h3,rfl,by rw [(hzr β).length]; simp,fun i v hi=>?_⟩ rfl rfl rfl,w.heap.size,0,_,upd_same _ _ _,rfl⟩
  ·simp [Instr.alloc,hz,newVar,newRow]
  ·obtain ⟨x,hx,hrel⟩:=(hzr β).get hi
   exact ⟨x,by simpa using hx,hrel.mono (kS hW _)⟩
theorem zPz (hW:aX lo β A w) {e:TypeId} {v:AV} {u:Value} {A':W} (hu:v.Rel β u) (h1:jH v.cells=true) (h:cnd (zPr v) (rT A (.typed e v.cells)) (sO A v.cells)=some A'):Gives P lo β A w (Instr.box e u) (.pt A.nx 0) A':=by
 cases hb:zPr v with
 | false =>
  rw [hb] at h
  refine ⟨_,_,_,?_,wD hW h u.cells e (Bh hu h1),w.heap.size,0,_,upd_same _ _ _,rfl⟩
  simp [Instr.box,newVar,newRow]
 | true =>
  rw [hb] at h
  have hr:=Bh hu h1
  obtain ⟨k1,k2,k3⟩:=iE w (.cells u.cells e)
  refine ⟨_,_,_,?_,qF hW h (n:=u.cells.size) k1 k2 ⟨rfl,u.cells,k3,rfl,by rw [hr.length]; simp,fun i v hi=>?_⟩ rfl rfl rfl,w.heap.size,0,_,upd_same _ _ _,rfl⟩
  ·simp [Instr.box,newVar,newRow]
  ·obtain ⟨x,hx,hrel⟩:=hr.get hi
   exact ⟨x,by simpa using hx,hrel.mono (kS hW _)⟩
theorem zBz (hW:aX lo β A w) {t:TypeId} {A':W} (h:rT A (.map [] 0)=some A'):Gives P lo β A w (Instr.makeMap t none) (.mp A.nx) A':=by
 obtain ⟨h1,h2,h3⟩:=iE w (.map #[] 0)
 refine ⟨_,_,_,?_,qF (n:=0) hW h h1 h2 ⟨rfl,[],h3,rfl⟩ rfl rfl rfl,w.heap.size,0,upd_same _ _ _,rfl⟩
 simp [Instr.makeMap]
theorem Pk (hI:TOK P I) (hW:aX lo β A w) (he:tF β evf ρ) {t:TypeId} {n:Nat} {ps:List (Nat × Operand)} {v:AV} {A':W} (h:Ca I evf A t n ps=some (v,A')) :
  Gives P lo β A w (Instr.buildSlice t n (ps.map fun p=>(p.1,ρ p.2)).toArray) v A':=by
 unfold Ca at h
 replace h:=aC h; obtain ⟨ti,hti,h⟩:=h
 have ok:=hI _ _ hti
 split at h
 ·rename_i e hk
  replace h:=aC h; obtain ⟨ei,hei,h⟩:=h
  replace h:=aM h; obtain ⟨hc,h⟩:=h
  replace h:=aC h; obtain ⟨cs,hcs,h⟩:=h
  replace h:=aC h; obtain ⟨A1,hA,h⟩:=h
  simp only [aA,aB] at h
  obtain ⟨rfl,rfl⟩:=h
  rw [aF,Nat.ble_eq,Nat.blt_eq] at hc
  obtain ⟨z,hz,hzr,_,hzl,hzs,_⟩:=(hI _ _ hei).zero (w:=w)
  have hs:=(hI _ _ hei).sizeOf (w:=w)
  have hz':∃ zs:Array Value,(if n * ei.size=0 then pure #[] else do pure (<- zeroValue e).cells:Sem (Array Value)).run P w=.ok zs w∧AV.aN β (rep n ei.zero) ((Array.range (n * ei.size)).map fun i=>zs[i % zs.size]!).toList:=by
   by_cases h0:n * ei.size=0
   ·refine ⟨#[],by simp [h0],?_⟩
    have:n=0:=by
     rcases Nat.mul_eq_zero.1 h0 with h | h
     ·exact h
     ·omega
    subst this
    simp [rep,AV.aN]
   ·refine ⟨z.cells,by simp [h0,hz],?_⟩
    have:=Ka (hzr β) n
    rw [show n * z.cells.size=n * ei.size by rw [hzs]] at this
    exact this
  obtain ⟨zs,yP,nV⟩:=hz'
  obtain ⟨vs',k1,k2,k3⟩:=yO he (places:=fun i=>some (i * ei.size,ei.size)) (fun i p h=>h) hcs nV
  have hvs:vs'.size=n * ei.size:=by rw [k3]; simp
  have hle:n <= n * ei.size:=Nat.le_mul_of_pos_right n hc.2
  refine ⟨.slice (some ⟨w.heap.size,0,none⟩) n n,_,_,?_,wD hW hA vs' e k2,w.heap.size,0,vs'.size,n,upd_same _ _ _,rfl,rfl,aI _,by simp only [maxLen]; omega,by rw [hvs]; omega⟩
  have h24:¬ (n * ei.size > 2 ^ 24):=by omega
  by_cases h0:n * ei.size=0
  ·have e0:zs=#[]:=by
    simp only [h0,if_true,Sem.run_pure,Result.ok.injEq,and_true] at yP
    exact yP.symm
   subst e0
   rw [h0] at k1
   simp only [Instr.buildSlice,Sem.run_bind,run_underlying (ok.slice hk),Result.andThen_ok,hs,h0,if_true,Sem.run_pure,Nat.zero_le,gt_iff_lt,Nat.not_lt_zero,if_false,k1]
   simp [newRow]
  ·have e0:zs=z.cells:=by
    simp only [h0,if_false,Sem.run_bind,hz,Result.andThen_ok,Sem.run_pure,Result.ok.injEq,and_true] at yP
    exact yP.symm
   subst e0
   simp only [Instr.buildSlice,Sem.run_bind,run_underlying (ok.slice hk),Result.andThen_ok,hs,h24,h0,if_false,hz,Sem.run_pure,k1]
   simp [newRow]
 ·cases h
theorem Sm (hI:TOK P I) (hW:aX lo β A w) {t:TypeId} {l c v:AV} {A':W} {lv cv:Value} (h:Fh I A t l c=some (v,A')) (hl:l.Rel β lv) (hc:c.Rel β cv):Gives P lo β A w (Instr.makeSlice t lv cv) v A':=by
 unfold Fh at h
 replace h:=aC h; obtain ⟨ti,hti,h⟩:=h
 replace h:=aC h; obtain ⟨ln,hln,h⟩:=h
 replace h:=aC h; obtain ⟨cn,hcn,h⟩:=h
 have ok:=hI _ _ hti
 split at h
 ·rename_i e hk
  replace h:=aC h; obtain ⟨ei,hei,h⟩:=h
  replace h:=aM h; obtain ⟨hcc,h⟩:=h
  replace h:=aC h; obtain ⟨A1,hA,h⟩:=h
  simp only [aA,aB] at h
  obtain ⟨rfl,rfl⟩:=h
  simp only [aF,Nat.ble_eq,Nat.blt_eq] at hcc
  obtain ⟨⟨⟨⟨c1,c2⟩,c3⟩,c4⟩,c5⟩:=hcc
  obtain ⟨kl,rfl⟩:=fC hln hl
  obtain ⟨kc,rfl⟩:=fC hcn hc
  obtain ⟨z,hz,hzr,_,hzl,hzs,_⟩:=(hI _ _ hei).zero (w:=w)
  obtain ⟨ii,zz,hi1,hi2,hi3,_⟩:=(hI _ _ hei).i
  have hs:=(hI _ _ hei).sizeOf (w:=w)
  have wr:∀ k:Nat,k <= 1000000->IntKind.i64.wrap (k:Int)=(k:Int):=fun k hk=>by
   rw [IntKind.wrap_i64]; omega
  have hz':∃ zs:Array Value,(if cn * ei.size=0 then pure #[] else do pure (<- zeroValue e).cells:Sem (Array Value)).run P w=.ok zs w∧AV.aN β (rep cn ei.zero) ((Array.range (cn * ei.size)).map fun i=>zs[i % zs.size]!).toList:=by
   by_cases h0:cn * ei.size=0
   ·refine ⟨#[],by simp [h0],?_⟩
    have:cn=0:=by
     rcases Nat.mul_eq_zero.1 h0 with h | h
     ·exact h
     ·omega
    subst this
    simp [rep,AV.aN]
   ·refine ⟨z.cells,by simp [h0,hz],?_⟩
    have:=Ka (hzr β) cn
    rw [show cn * z.cells.size=cn * ei.size by rw [hzs]] at this
    exact this
  obtain ⟨zs,yP,nV⟩:=hz'
  have hvs:((Array.range (cn * ei.size)).map fun i=>zs[i % zs.size]!).size=cn * ei.size:=by simp
  refine ⟨.slice (some ⟨w.heap.size,0,none⟩) ln cn,_,_,?_,wD hW hA _ e nV,w.heap.size,0,_,cn,upd_same _ _ _,rfl,rfl,c1,by simp only [maxLen]; omega,by rw [hvs]; omega⟩
  have e1:(↑cn:Int).toNat=cn:=by simp
  have e2:(↑ln:Int).toNat=ln:=by simp
  have b1:¬ ((ei.bytes:Int) * (cn:Int) > 2 ^ 48):=by
   have:(ei.bytes:Int) * (cn:Int)=((cn * ei.bytes:Nat):Int):=by push_cast; exact Int.mul_comm _ _
   omega
  have b2:¬ ((cn:Int) < 0):=by omega
  have b3:¬ ((ln:Int) < 0):=by omega
  have b4:¬ ((ln:Int) > (cn:Int)):=by omega
  by_cases h0:cn * ei.size=0
  ·have e0:zs=#[]:=by
    simp only [h0,if_true,Sem.run_pure,Result.ok.injEq,and_true] at yP
    exact yP.symm
   subst e0
   simp only [Instr.makeSlice,Sem.run_bind,run_underlying (ok.slice hk),Result.andThen_ok,asInt,asIntOf,Sem.run_pure,typeInfo,run_program,hi1,hi3,wr cn (by omega),wr ln (by omega),b1,b2,b3,b4,decide_false,Bool.or_false,Bool.false_eq_true,if_false,Nl,hs,e1,e2,h0,if_true]
   simp [newRow]
  ·have e0:zs=z.cells:=by
    simp only [h0,if_false,Sem.run_bind,hz,Result.andThen_ok,Sem.run_pure,Result.ok.injEq,and_true] at yP
    exact yP.symm
   subst e0
   simp only [Instr.makeSlice,Sem.run_bind,run_underlying (ok.slice hk),Result.andThen_ok,asInt,asIntOf,Sem.run_pure,typeInfo,run_program,hi1,hi3,wr cn (by omega),wr ln (by omega),b1,b2,b3,b4,decide_false,Bool.or_false,Bool.false_eq_true,if_false,Nl,hs,e1,e2,h0,hz]
   simp [newRow]
 ·cases h
theorem zMo (hI:TOK P I) (hW:aX lo β A w) {t ty:TypeId} {x v:AV} {u:Value} (h:zPu I A t x=some v) (hu:x.Rel β u):∃ y,(Builtin.len_ #[t] ty #[u]).run P w=.ok y w∧v.Rel β y:=by
 unfold zPu at h
 replace h:=aC h; obtain ⟨ti,hti,h⟩:=h
 have ok:=hI _ _ hti
 split at h
 ·rename_i s hk
  rw [eD] at h
  simp only [aA] at h
  subst h
  obtain ⟨ba,rfl,rfl⟩:=hu
  refine ⟨goInt ba.size,by simp [Builtin.len_,run_underlying (ok.str hk)],?_⟩
  rw [len_eq,List.length_map,<- zJ]
  rfl
 ·rename_i e hk
  simp only [aA] at h
  subst h
  simp only [AV.Rel] at hu
  subst hu
  exact ⟨goInt 0,by simp [Builtin.len_,run_underlying (ok.slice hk)],rfl⟩
 ·rename_i e id off n c sz ex hk
  simp only [aA] at h
  subst h
  obtain ⟨_,_,_,_,_,rfl,_⟩:=hu
  exact ⟨goInt n,by simp [Builtin.len_,run_underlying (ok.slice hk)],rfl⟩
 ·rename_i e z hk
  simp only [aA] at h
  subst h
  obtain ⟨_,_,rfl,_⟩:=hu
  exact ⟨goInt 0,by simp [Builtin.len_,run_underlying (ok.slice hk)],rfl⟩
 ·rename_i n e hk
  simp only [aA] at h
  subst h
  exact ⟨goInt n,by simp [Builtin.len_,run_underlying (ok.arr hk)],rfl⟩
 ·rename_i hk
  simp only [aA] at h
  subst h
  simp only [AV.Rel] at hu
  subst hu
  exact ⟨goInt 0,by simp [Builtin.len_,run_underlying (ok.map hk)],rfl⟩
 ·rename_i id hk
  split at h
  ·rename_i es clk hB
   rw [eD] at h
   simp only [aA] at h
   subst h
   obtain ⟨b,o,n,hb,hlt,_,ms,hm,hr⟩:=hW.blk _ _ hB
   obtain ⟨b',n',hb',rfl⟩:=hu
   rw [hb] at hb'
   simp only [aA,aB] at hb'
   obtain ⟨rfl,_⟩:=hb'
   have hl:∀ {es:List (AV × AV × Nat)} {ms:List MapEntry},aW β es ms->es.length=ms.length:=by
    intro es
    induction es with
    | nil=>intro ms h; simp only [aW] at h; subst h; rfl
    | cons e es ih=>intro ms h; obtain ⟨x,xs,rfl,_,_,_,h⟩:=h; simp [ih h]
   refine ⟨goInt ms.length,by simp [Builtin.len_,run_underlying (ok.map hk),getObj,Sem.run,hm],?_⟩
   rw [len_eq,hl hr]
   rfl
  ·cases h
 ·cases h
theorem zMp (hI:TOK P I) {t ty:TypeId} {x v:AV} {u:Value} (h:zPv I t x=some v) (hu:x.Rel β u):∃ y,(Builtin.cap_ #[t] ty #[u]).run P w=.ok y w∧v.Rel β y:=by
 unfold zPv at h
 replace h:=aC h; obtain ⟨ti,hti,h⟩:=h
 have ok:=hI _ _ hti
 split at h
 ·rename_i e hk
  simp only [aA] at h
  subst h
  simp only [AV.Rel] at hu
  subst hu
  exact ⟨goInt 0,by simp [Builtin.cap_,run_underlying (ok.slice hk)],rfl⟩
 ·rename_i e hk
  simp only [aA] at h
  subst h
  obtain ⟨_,c,rfl,_,hz⟩:=hu
  have:=hz rfl
  subst this
  exact ⟨goInt 0,by simp [Builtin.cap_,run_underlying (ok.slice hk)],rfl⟩
 ·rename_i e id off n c sz hk
  simp only [aA] at h
  subst h
  obtain ⟨_,_,_,C,_,rfl,hc,_⟩:=hu
  simp only [Ez] at hc
  subst hc
  exact ⟨goInt C,by simp [Builtin.cap_,run_underlying (ok.slice hk)],rfl⟩
 ·cases h
end
end Go.Ce
namespace Go.Ce
section
variable {P:Program} {lo:Nat} {β:Bt} {A:W} {w:World} {I:T CI}
theorem Sn (hI:TOK P I) (hW:aX lo β A w) {tx:TypeId} {xi:CI} {size:Nat} {x:AV} {n:Nat} {l:List AV} {u:Value} (hx:I.get tx=some xi) (hk:Dk xi.k x=true) (h:Zi A size x=some (n,l)) (hu:x.Rel β u) :
  ∃ news,Src P size tx u n news w∧AV.aN β l news∧jH l=true:=by
 have ok:=hI _ _ hx
 have hsl:(∀ s,x ≠ .st s)->∃ e,P.underlying tx=some (.slice e):=fun hne=>by
  unfold Dk at hk
  split at hk
  ·rename_i e he; exact ⟨e,ok.slice he⟩
  ·rename_i e _ he; exact ⟨e,ok.slice he⟩
  ·rename_i e _ _ _ _ _ _ he; exact ⟨e,ok.slice he⟩
  ·exact absurd rfl (hne _)
  ·cases hk
 unfold Zi at h
 split at h
 ·simp only [aA,aB] at h
  obtain ⟨rfl,rfl⟩:=h
  simp only [AV.Rel] at hu
  subst hu
  obtain ⟨e,he⟩:=hsl (by simp)
  exact ⟨[],Src.ofNil w he 0,rfl,rfl⟩
 ·simp only [aA,aB] at h
  obtain ⟨rfl,rfl⟩:=h
  obtain ⟨a,c,rfl,_⟩:=hu
  obtain ⟨e,he⟩:=hsl (by simp)
  exact ⟨[],Src.ofSlice w he a 0 c [] (by simp) (fun j u h=>by simp at h) (fun u h=>by cases h),rfl,rfl⟩
 ·rename_i id off k c sz ex
  replace h:=aC h; obtain ⟨cs,hcs,h⟩:=h
  replace h:=aM h; obtain ⟨h1,h⟩:=h
  simp only [aA,aB] at h
  obtain ⟨rfl,rfl⟩:=h
  obtain ⟨b,o,N,C,hb,rfl,_⟩:=hu
  obtain ⟨b',o',N',vs,hb',_,hlen,hrel,hcell,_⟩:=zZ hW hcs
  rw [hb] at hb'
  simp only [aA,aB] at hb'
  obtain ⟨rfl,rfl,rfl⟩:=hb'
  obtain ⟨e,he⟩:=hsl (by simp)
  exact ⟨vs,Src.ofSlice w he _ k C vs (by rw [<- hrel.length,hlen]) (fun j u h=>by rw [Addr.add_lit]; exact hcell j u h) (zBv h1 hrel),hrel,h1⟩
 ·rename_i s
  replace h:=aM h; obtain ⟨h1,h⟩:=h
  have h1:=aG h1
  subst h1
  simp only [aA,aB] at h
  obtain ⟨rfl,rfl⟩:=h
  obtain ⟨ba,rfl,rfl⟩:=hu
  have hstr:P.underlying tx=some .string:=by
   unfold Dk at hk
   split at hk
   ·rename_i hh; cases hh
   ·rename_i hh; cases hh
   ·rename_i hh; cases hh
   ·rename_i he _; exact ok.str he
   ·cases hk
  refine ⟨byteCells ba,?_,Sj _,zJc _⟩
  rw [len_eq,List.length_map,<- zJ]
  exact Src.ofString w hstr ba
 ·cases h
theorem Cg {t tx ty e:TypeId} {i:TypeInfo} {base:Option Addr} {sLen sCap:Nat} {x:Value} {news:List Value} (ht:P.underlying t=some (.slice e)) (hi:P.info? e=some i) (hs:Src P i.size tx x 0 news w) (hc:sLen <= sCap) :
  (Builtin.append_ #[t,tx] ty #[.slice base sLen sCap,x]).run P w=.ok (.slice base sLen sCap) w:=by
 have hn:news=[]:=List.eq_nil_of_length_eq_zero (by rw [hs.newsLen]; simp)
 subst hn
 have hcells:=hs.cells
 rcases hs.kind with ⟨e',hk⟩ | hk <;> cases base <;> simp [Builtin.append_,run_underlying ht,run_underlying hk,sizeOf,typeInfo,hi,hs.len,hc,hcells,storeCells]
theorem Gg (hW:aX lo β A w) {t tx ty e:TypeId} {i:TypeInfo} {z:Value} {base:Option Addr} {sLen sCap n:Nat} {x:Value} {olds news:List Value} {l:List AV} {A':W} (ht:P.underlying t=some (.slice e)) (hi:P.info? e=some i) (hz:i.zero=some z)
  (hzs:z.cells.size=i.size) (hold:(Builtin.firstCells i.size sLen (.slice base sLen sCap)).run P w.drew=.ok olds.toArray w.drew) (zXn:olds.length=sLen * i.size) (hs:Src P i.size tx x n news w) (hg:sCap < sLen+n)
  (hmax:sLen+n <= 1000000) (hbytes:(sLen+n) * i.bytes <= 1000000000) (hl:AV.aN β l (olds++news)) (hA:yN A e l=some A') :
  Gives P lo β A w (Builtin.append_ #[t,tx] ty #[.slice base sLen sCap,x]) (.sl A.nx 0 (sLen+n) (sLen+n) i.size false) A':=by
 have hr:=run_append_grow_src (P:=P) w t tx ty e i z ht hi hz base sLen sCap olds hold x n news hs hg (by omega) (growslice_fits hg (by omega))
 have hge:=grownCap_ge w (sLen+n) sCap e
 have hcm:=grownCap_le_maxLen w (sLen+n) sCap e (by simp only [maxLen]; omega)
 have hsz:((olds++news).toArray++Builtin.zeroCells z.cells (grownCap w (sLen+n) sCap e - (sLen+n))).size=grownCap w (sLen+n) sCap e * i.size:=by
  simp only [Array.size_append,List.size_toArray,List.length_append,size_zeroCells,hzs,zXn,hs.newsLen,<- Nat.add_mul]
  congr 1
  omega
 obtain ⟨f1,f2,f3⟩:=iE w.drew (.cells ((olds++news).toArray++Builtin.zeroCells z.cells (grownCap w (sLen+n) sCap e - (sLen+n))) e)
 refine ⟨_,_,_,hr,Si hW hA f1 f2 f3 (fun i _ h=>by omega) (vs:=olds++news) (rest:=(Builtin.zeroCells z.cells (grownCap w (sLen+n) sCap e - (sLen+n))).toList) (by simp) hl rfl rfl rfl,w.heap.size,0,_,_,upd_same _ _ _,rfl,hge,hge,hcm,?_⟩
 rw [hsz]
 omega
theorem Bl {size sCap:Nat} {base:Option Addr} {w:World}:(Builtin.firstCells size 0 (.slice base 0 sCap)).run P w=.ok ([]:List Value).toArray w:=by
 cases base <;> simp [Builtin.firstCells,loadCells,loadCellsFrom]
theorem zCa (hI : TOK P I) (hW : aX lo β A w) {t tx ty : TypeId} {s x v : AV} {sv xv : Value} {A' : W} (h : Uy lo I A t tx s x = some (v, A')) (hs : s.Rel β sv) (hx : x.Rel β xv) :
    Gives P lo β A w (Builtin.append_ #[t, tx] ty #[sv, xv]) v A' := by
  unfold Uy at h
  replace h := aC h; obtain ⟨ti, hti, h⟩ := h
  replace h := aC h; obtain ⟨xi, hxi, h⟩ := h
  have ok := hI _ _ hti
  split at h
  · rename_i e hk
    replace h := aC h; obtain ⟨ei, hei, h⟩ := h
    replace h := aM h; obtain ⟨hc, h⟩ := h
    replace h := aC h; obtain ⟨p, hp, h⟩ := h
    obtain ⟨n, l⟩ := p
    rw [aF, Nat.blt_eq] at hc
    have ht := ok.slice hk
    obtain ⟨i, z, hi, hsz, hby, hz, _, hzs, _⟩ := (hI _ _ hei).i
    obtain ⟨news, hsrc, hnr, hone⟩ := Sn hI hW hxi hc.1 hp hx
    rw [<- hsz] at hsrc
    have hll : l.length = n * i.size := by rw [hnr.length, hsrc.newsLen]
    unfold cnd at h
    split at h
    · rename_i hn0
      have hn0 := aG hn0
      simp only at hn0
      subst hn0
      split at h
      · simp only [aA, aB] at h
        obtain ⟨rfl, rfl⟩ := h
        simp only [AV.Rel] at hs
        subst hs
        exact Gives.pure hW ⟨_, Cg ht hi hsrc (aI _), rfl⟩
      · simp only [aA, aB] at h
        obtain ⟨rfl, rfl⟩ := h
        obtain ⟨b, o, N, C, hb, rfl, h1, h2, h3⟩ := hs
        exact Gives.pure hW ⟨_, Cg ht hi hsrc h2, b, o, N, C, hb, rfl, h1, h2, h3⟩
      · simp only [aA, aB] at h
        obtain ⟨rfl, rfl⟩ := h
        obtain ⟨a, c, rfl, h1⟩ := hs
        exact Gives.pure hW ⟨_, Cg ht hi hsrc (Nat.zero_le _), a, c, rfl, h1⟩
      · cases h
    · rename_i hn0
      have hn : 0 < n := by
        rcases Nat.eq_zero_or_pos n with h0 | h0
        · subst h0; cases hn0
        · exact h0
      simp only at h
      split at h
      ·
        replace h := aM h; obtain ⟨hc2, h⟩ := h
        replace h := aC h; obtain ⟨A1, hA, h⟩ := h
        rw [eD] at h
        simp only [aA, aB] at h
        obtain ⟨rfl, rfl⟩ := h
        rw [aF, Nat.ble_eq, Nat.ble_eq, <- hby] at hc2
        obtain ⟨a, c, rfl, _, hz0⟩ := hs
        have := hz0 rfl
        subst this
        have := Gg hW (ty := ty) (olds := []) (sLen := 0) ht hi hz hzs (Bl (base := some a) (sCap := 0)) (by simp) hsrc (by omega) (by omega) (by rw [Nat.zero_add]; exact hc2.2) (by simpa using hnr) hA
        rw [<- hsz]
        simpa using this
      · replace h := aM h; obtain ⟨hc2, h⟩ := h
        replace h := aC h; obtain ⟨A1, hA, h⟩ := h
        rw [eD] at h
        simp only [aA, aB] at h
        obtain ⟨rfl, rfl⟩ := h
        rw [aF, Nat.ble_eq, Nat.ble_eq, <- hby] at hc2
        simp only [AV.Rel] at hs
        subst hs
        have := Gg hW (ty := ty) (olds := []) (sLen := 0) ht hi hz hzs (Bl (base := none) (sCap := 0)) (by simp) hsrc (by omega) (by omega) (by rw [Nat.zero_add]; exact hc2.2) (by simpa using hnr) hA
        rw [<- hsz]
        simpa using this
      · rename_i id off k c sz ex
        replace h := aM h; obtain ⟨hse, h⟩ := h
        have hse := aG hse
        rw [eD] at h
        have hsi : i.size = sz := by rw [hsz, hse]
        subst hsi
        obtain ⟨b, o, N, C, hb, rfl, hcap, hkC, hCm, hfit⟩ := hs
        have hcC : c <= C := by
          unfold Ez at hcap
          split at hcap <;> omega
        split at h
        ·
          rename_i hroom
          rw [Nat.ble_eq] at hroom
          replace h := aC h; obtain ⟨A1, hA, h⟩ := h
          simp only [aA, aB] at h
          obtain ⟨rfl, rfl⟩ := h
          obtain ⟨b', o', N', hb', hcell, hfz, hgo⟩ := Pg hW hA hnr
          rw [hb] at hb'
          simp only [aA, aB] at hb'
          obtain ⟨rfl, rfl, rfl⟩ := hb'
          have hr := run_append_room_src (P := P) w t tx ty e i ht hi b (o + off) k C xv n news hsrc (by omega) (fun j hj => by have := hcell j hj; rwa [show o + (off + k * i.size) + j = o + off + k * i.size + j by omega] at this)
            (fun j hj => by have := hfz j hj; rwa [show o + (off + k * i.size) + j = o + off + k * i.size + j by omega] at this)
          rw [show o + (off + k * i.size) = o + off + k * i.size by omega] at hgo
          exact ⟨_, _, _, hr, hgo, b, o, N, C, hb, rfl, hcap, by omega, hCm, hfit⟩
        · rename_i hroom
          have hroom : c < k + n := by
            rcases aY c (k + n) with h4 | h4
            · exact h4
            · rw [Nat.ble_eq_true_of_le h4] at hroom; cases hroom
          replace h := aM h; obtain ⟨hc2, h⟩ := h
          replace h := aC h; obtain ⟨ol, hol, h⟩ := h
          replace h := aM h; obtain ⟨yAf, h⟩ := h
          rw [aF, Nat.ble_eq, Nat.ble_eq, <- hby] at hc2
          obtain ⟨b', o', N', olds, hb', hblt, zVf, zQa, zFo, _⟩ := zZ hW hol
          rw [hb] at hb'
          simp only [aA, aB] at hb'
          obtain ⟨rfl, rfl, rfl⟩ := hb'
          have zJh : olds.length = k * i.size := by rw [<- zQa.length, zVf]
          have hfc : (Builtin.firstCells i.size k (.slice (some ⟨b, o + off, none⟩) k C)).run P w.drew = .ok olds.toArray w.drew :=
            run_firstCells_some w.drew i.size k _ k C olds zJh fun j u hj => by
              rw [Addr.add_lit]
              have := zFo j u hj
              simpa using this
          split at h
          ·
            replace h := aC h; obtain ⟨A1, hA, h⟩ := h
            simp only [aA, aB] at h
            obtain ⟨rfl, rfl⟩ := h
            simp only [Ez] at hcap
            subst hcap
            exact Gg hW ht hi hz hzs hfc zJh hsrc hroom hc2.1 hc2.2 (zQa.append hnr) hA
          ·
            split at h
            · rename_i cs cls shr hB
              replace h := aM h; obtain ⟨hc3, h⟩ := h
              rw [eD] at h
              simp only [aA, aB] at h
              obtain ⟨rfl, rfl⟩ := h
              simp only [aF, Nat.ble_eq, Nat.blt_eq] at hc3
              obtain ⟨⟨⟨hlo, hbig⟩, htail⟩, hty⟩ := hc3
              have htail := aG htail
              rw [len_eq] at htail
              obtain ⟨b', o', N', hb', hlt, c0, e0, fz0, g1, ⟨g2, gk⟩, g3, g4⟩ := hW.blk id _ hB
              rw [hb] at hb'
              simp only [aA, aB] at hb'
              obtain ⟨rfl, rfl, rfl⟩ := hb'
              have hall := zQa.append hnr
              by_cases hin : k + n <= C
              ·
                have zZo : o + off + k * i.size + n * i.size <= c0.size := by
                  have e1 : (k + n) * i.size <= C * i.size := Nat.mul_le_mul_right _ hin
                  rw [Nat.add_mul] at e1
                  omega
                have hr := run_append_room_src (P := P) w t tx ty e i ht hi b (o + off) k C xv n news hsrc hin
                  (fun j hj => by
                    rw [hsrc.newsLen] at hj
                    simp only [World.cell?, g1]
                    simp; omega)
                  (fun j hj => by
                    rw [hsrc.newsLen] at hj
                    simp only [World.frozen?, g1]
                    have := g3 rfl (o + off + k * i.size + j) (by omega)
                    simp only [Bool.and_eq_false_iff, decide_eq_false_iff_not]
                    by_cases h7 : fz0.1 <= o + off + k * i.size + j
                    · right; intro h8; exact this ⟨h7, h8⟩
                    · exact .inl h7)
                obtain ⟨s1, s2, s3, s4, s5, s6⟩ := sQ b news (o + off + k * i.size) w
                obtain ⟨c', k1, k2, k3⟩ := s6 c0 e0 fz0 g1
                refine ⟨_, _, _, hr, Go.grow hW hbig hB hlo hb (.inl ⟨rfl, s1, s2⟩) (b' := b) (o' := o + off) (n' := c0.size) ?_ ?_ s3 s4 s5, b, o + off, c0.size, C, upd_same _ _ _, rfl, hin, hin, hCm, by omega⟩
                · refine ⟨c', e0, fz0, k1, ⟨k2.trans g2, gk⟩, (fun h => by cases h), fun j a ha => ?_⟩
                  have hj : j < off + k * i.size := by rw [<- htail]; exact (aS.1 ha).1
                  obtain ⟨y, hy, hyr⟩ := g4 j a ha
                  exact ⟨y, by rw [k3, if_neg (by omega)]; exact hy, hyr⟩
                · refine ⟨c', e0, fz0, k1, ⟨k2, gk⟩, fun _ j hj => g3 rfl j (by rw [<- k2]; exact hj), fun j a ha => ?_⟩
                  obtain ⟨y, hy, hyr⟩ := hall.get ha
                  refine ⟨y, ?_, hyr.mono (kS hW _)⟩
                  rcases aY j olds.length with hj | hj
                  · rw [dG hj] at hy
                    have := zFo j y hy
                    simp only [World.cell?, g1] at this
                    rw [k3, if_neg (by omega)]
                    simpa using this
                  · rw [List.getElem?_append_right hj, zJh] at hy
                    have hj2 := (aS.1 hy).1
                    have hnl := hsrc.newsLen
                    rw [k3, if_pos (by omega)]
                    rw [show o + off + j - (o + off + k * i.size) = j - k * i.size by omega]
                    exact hy
              ·
                have hg : C < k + n := by omega
                have hr := run_append_grow_src (P := P) w t tx ty e i z ht hi hz (some ⟨b, o + off, none⟩) k C olds hfc xv n news hsrc hg (by omega) (growslice_fits hg (by omega))
                have hge := grownCap_ge w (k + n) C e
                have hcm := grownCap_le_maxLen w (k + n) C e (by simp only [maxLen]; omega)
                have hsz2 : ((olds ++ news).toArray ++ Builtin.zeroCells z.cells (grownCap w (k + n) C e - (k + n))).size = grownCap w (k + n) C e * i.size := by
                  simp only [Array.size_append, List.size_toArray, List.length_append, size_zeroCells, hzs, zJh, hsrc.newsLen, <- Nat.add_mul]
                  congr 1
                  omega
                obtain ⟨f1, f2, f3⟩ := iE w.drew (.cells ((olds ++ news).toArray ++ Builtin.zeroCells z.cells (grownCap w (k + n) C e - (k + n))) e)
                refine ⟨_, _, _, hr, Go.grow hW hbig hB hlo hb (.inr ⟨rfl, f1, f2⟩) (b' := w.heap.size) (o' := 0) (n' := grownCap w (k + n) C e * i.size) ?_ ?_ rfl rfl rfl, w.heap.size, 0, _, _, upd_same _ _ _, rfl, hge, hge, hcm, by omega⟩
                · have hkeep : (w.drew.alloc (.cells ((olds ++ news).toArray ++ Builtin.zeroCells z.cells (grownCap w (k + n) C e - (k + n))) e)).heap[b]? = w.heap[b]? := f2 b hlt
                  exact ⟨c0, e0, fz0, by rw [hkeep, g1], ⟨g2, gk⟩, (fun h => by cases h), g4⟩
                · refine ⟨_, e, (0, 0), f3, ⟨hsz2, zMh hty⟩, (fun _ j _ h => by omega), fun j a ha => ?_⟩
                  obtain ⟨y, hy, hyr⟩ := hall.get ha
                  refine ⟨y, ?_, hyr.mono (kS hW _)⟩
                  rw [Nat.zero_add, Array.getElem?_append_left (by simpa using (aS.1 hy).1)]
                  simpa using hy
            · cases h
      · cases h
  · cases h
theorem Yj (hI:TOK P I) (hW:aX lo β A w) {t tx ty:TypeId} {s x v:AV} {sv xv:Value} {A':W} (h:Ow I A t tx s x=some (v,A')) (hs:s.Rel β sv) (hx:x.Rel β xv) :
  Gives P lo β A w (Builtin.append_ #[t,tx] ty #[sv,xv]) v A':=by
 unfold Ow at h
 replace h:=aC h; obtain ⟨ti,hti,h⟩:=h
 replace h:=aC h; obtain ⟨xi,hxi,h⟩:=h
 have ok:=hI _ _ hti
 split at h
 ·rename_i e kx hk hkx
  replace h:=aC h; obtain ⟨ei,hei,h⟩:=h
  replace h:=aC h; obtain ⟨n,hn,h⟩:=h
  replace h:=aM h; obtain ⟨hc,h⟩:=h
  replace h:=aC h; obtain ⟨A1,hA,h⟩:=h
  simp only [aA,aB] at h
  obtain ⟨rfl,rfl⟩:=h
  simp only [aF,Nat.ble_eq,Nat.blt_eq] at hc
  obtain ⟨⟨⟨c1,c2⟩,c3⟩,c4⟩:=hc
  obtain ⟨k,rfl⟩:=fC hn hx
  simp only [AV.Rel] at hs
  subst hs
  have ht:=ok.slice hk
  obtain ⟨i,z,hi,hsz,hby,hz,_,hzs,_⟩:=(hI _ _ hei).i
  obtain ⟨z',hz',hzr,_,hzl,hzs',_⟩:=(hI _ _ hei).zero (w:=w)
  have hzz:z'=z:=by
   simp only [zeroValue,Sem.run_bind,typeInfo,run_program,hi,Result.andThen_ok,hz,Sem.run_pure,Result.ok.injEq,and_true] at hz'
   exact hz'.symm
  subst hzz
  have hxu:=(hI _ _ hxi).int hkx
  have wr:IntKind.i64.wrap (n:Int)=(n:Int):=by rw [IntKind.wrap_i64]; omega
  have hg:0 < n:=c2
  have hge:=grownCap_ge w n 0 e
  have hcm:=grownCap_le_maxLen w n 0 e (by simp only [maxLen]; omega)
  have hn0:¬ n <= 0:=by omega
  have b1:¬ ((n:Int) < 0):=by omega
  have b2:¬ ((n:Int) * (i.bytes:Int) > 2 ^ 48):=by
   have:(n:Int) * (i.bytes:Int)=((n * i.bytes:Nat):Int):=by push_cast; rfl
   rw [hby] at this ⊢
   omega
  have h48:=growslice_fits (need:=n) (old:=0) (bytes:=i.bytes) hg (by rw [hby]; omega)
  have hns:¬ n * i.size=0:=by
   rw [hsz]
   intro h0
   rcases Nat.mul_eq_zero.1 h0 with h | h <;> omega
  have hzc:(Builtin.zeroCells z'.cells n).size=n * i.size:=by rw [size_zeroCells,hzs]
  have hsz2:(Builtin.zeroCells z'.cells n++Builtin.zeroCells z'.cells (grownCap w n 0 e - n)).size=grownCap w n 0 e * i.size:=by
   simp only [Array.size_append,size_zeroCells,hzs,<- Nat.add_mul]
   congr 1
   omega
  have nV:AV.aN β (rep n ei.zero) (Builtin.zeroCells z'.cells n).toList:=Ka (hzr β) n
  obtain ⟨f1,f2,f3⟩:=iE w.drew (.cells (Builtin.zeroCells z'.cells n++Builtin.zeroCells z'.cells (grownCap w n 0 e - n)) e)
  refine ⟨.slice (some ⟨w.heap.size,0,none⟩) n (grownCap w n 0 e),_,_,?_,Gb hW hA f1 f2 f3 (fun i _ h=>by omega) (vs:=(Builtin.zeroCells z'.cells n).toList) (rest:=(Builtin.zeroCells z'.cells (grownCap w n 0 e - n)).toList) (by simp) nV rfl rfl rfl,w.heap.size,0,_,_,upd_same _ _ _,rfl,hge,hge,hcm,by rw [hsz2,hsz]; omega⟩
  have e1:((n:Nat):Int).toNat=n:=by simp
  have h63:¬ (9223372036854775807 < (n:Int)):=by omega
  have h48':¬ (281474976710656 < Builtin.nextslicecap n 0 * i.bytes):=by omega
  have b2':¬ (281474976710656 < (n:Int) * (i.bytes:Int)):=by simpa using b2
  simp [Builtin.append_,run_underlying ht,run_underlying hxu,sizeOf,typeInfo,zeroValue,hi,hz,asInt,asIntOf,wr,b1,b2',hn0,h63,h48',Question.forced,Builtin.firstCells,hns,newRow,grownCap,Nat.pos_iff_ne_zero.1 hg]
 ·cases h
theorem zJi (hI:TOK P I) (hW:aX lo β A w) {t tx ty:TypeId} {s x v:AV} {sv xv:Value} {A':W} (h:zIy lo I A t tx s x=some (v,A')) (hs:s.Rel β sv) (hx:x.Rel β xv):Gives P lo β A w (Builtin.copy_ #[t,tx] ty #[sv,xv]) v A':=by
 unfold zIy at h
 replace h:=aC h; obtain ⟨ti,hti,h⟩:=h
 replace h:=aC h; obtain ⟨xi,hxi,h⟩:=h
 split at h
 ·rename_i e hk
  replace h:=aC h; obtain ⟨ei,hei,h⟩:=h
  replace h:=aM h; obtain ⟨hsk,h⟩:=h
  replace h:=aC h; obtain ⟨⟨n,l⟩,hp,h⟩:=h
  have ht:=(hI _ _ hti).slice hk
  obtain ⟨i,z,hi,hsz,_,_,_,_⟩:=(hI _ _ hei).i
  obtain ⟨news,hsrc,hnr,h1⟩:=Sn hI hW hxi hsk hp hx
  split at h
  ·rename_i id off k c sz ex
   replace h:=aM h; obtain ⟨hc,h⟩:=h
   rw [aF,Nat.ble_eq] at hc
   obtain ⟨hse,hle⟩:=hc
   have hle:n <= k:=hle
   obtain ⟨b,o,N,C,hb,rfl,hcap,hkC,hCm,hfit⟩:=hs
   have hmin:Nat.min n k=n:=Nat.min_eq_left hle
   have hcells:=hsrc.cells
   have hlen:=hsrc.len w
   have hnl:=hsrc.newsLen
   rw [<- hsz] at hcells hnl
   have hdo:∀ w',(storeCells ⟨b,o+off,none⟩ news 0).run P w=.ok () w'->(Builtin.copy_ #[t,tx] ty #[.slice (some ⟨b,o+off,none⟩) k C,xv]).run P w=.ok (.int .i64 n) w':=fun w' hst=>by
    simp [Builtin.copy_,run_underlying ht,sizeOf,typeInfo,hi,hlen,hmin,hcells,hst,goInt]
   unfold cnd at h
   split at h
   ·rename_i h0
    have h0:n=0:=aG h0
    subst h0
    simp only [aA,aB] at h
    obtain ⟨rfl,rfl⟩:=h
    have hn:news=[]:=List.eq_nil_of_length_eq_zero (by rw [hnl]; simp)
    subst hn
    exact ⟨_,_,_,hdo w rfl,.refl hW,rfl⟩
   ·replace h:=aC h; obtain ⟨A1,hA,h⟩:=h
    rw [eD] at h
    simp only [aA,aB] at h
    obtain ⟨rfl,rfl⟩:=h
    obtain ⟨b',o',N',hb',hcell,hfz,hgo⟩:=Pg hW hA hnr
    rw [hb] at hb'
    simp only [aA,aB] at hb'
    obtain ⟨rfl,rfl,rfl⟩:=hb'
    have hst:=run_storeCells_cells (P:=P) b (o+off) news 0 w (by simpa using hcell) (by simpa using hfz) hsrc.one
    exact ⟨_,_,_,hdo _ hst,hgo,rfl⟩
  ·cases h
 ·cases h
end
end Go.Ce
namespace Go.Ce
section
variable {P:Program} {lo:Nat} {β:Bt} {A:W} {w:World} {I:T CI}
theorem aW.length:∀ {es:List (AV × AV × Nat)} {ms:List MapEntry},aW β es ms->es.length=ms.length
 | [],_,h=>by simp only [aW] at h; subst h; rfl
 | _ :: _,_,⟨_,_,e,_,_,_,h⟩=>by subst e; simp [aW.length h]
theorem aW.get:∀ {es:List (AV × AV × Nat)} {ms:List MapEntry},aW β es ms->∀ {i:Nat} {e:AV × AV × Nat},es[i]?=some e->∃ m,ms[i]?=some m∧e.1.Rel β m.key∧e.2.1.Rel β m.val∧e.2.2=m.born
 | [],_,_,_,_,h=>by simp at h
 | _ :: _,_,⟨x,xs,e,h1,h2,h3,h4⟩,0,a,h=>by
  subst e
  simp only [List.getElem?_cons_zero,aA] at h
  subst h
  exact ⟨x,rfl,h1,h2,h3⟩
 | _ :: _,_,⟨x,xs,e,h1,h2,h3,h4⟩,i+1,a,h=>by
  subst e
  simp only [List.getElem?_cons_succ] at h
  simpa using aW.get h4 h
theorem aW.append:∀ {es fs:List (AV × AV × Nat)} {ms ns:List MapEntry},aW β es ms->aW β fs ns->aW β (es++fs) (ms++ns)
 | [],_,_,_,h,h'=>by simp only [aW] at h; subst h; exact h'
 | _ :: _,_,_,_,⟨x,xs,e,h1,h2,h3,h4⟩,h'=>by subst e; exact ⟨x,_,rfl,h1,h2,h3,aW.append h4 h'⟩
theorem aW.set:∀ {es:List (AV × AV × Nat)} {ms:List MapEntry},aW β es ms->∀ {i:Nat} {v:AV} {u:Value} {f:MapEntry->MapEntry},v.Rel β u->(∀ m,ms[i]?=some m->(f m).key=m.key∧(f m).val=u∧(f m).born=m.born)->aW β (zBq v es i) (ms.modify i f)
 | [],_,h,_,_,_,_,_,_=>by simp only [aW] at h; subst h; simp [zBq,aW]
 | e :: es,_,⟨x,xs,hx,h1,h2,h3,h4⟩,0,v,u,f,hv,hf=>by
  subst hx
  obtain ⟨k1,k2,k3⟩:=hf x rfl
  exact ⟨f x,xs,by simp,by rw [k1]; exact h1,by rw [k2]; exact hv,by rw [k3]; exact h3,h4⟩
 | e :: es,_,⟨x,xs,hx,h1,h2,h3,h4⟩,i+1,v,u,f,hv,hf=>by
  subst hx
  exact ⟨x,xs.modify i f,by simp,h1,h2,h3,aW.set h4 hv fun m hm=>hf m (by simpa using hm)⟩
theorem Sq (a b:ByteArray):(a == b)=(a.data.toList == b.data.toList):=by
 show (a.data == b.data)=_
 rw [Bool.eq_iff_iff]
 simp
theorem qG {b:Nat} {ms:Array MapEntry} {clk:Nat} (h:w.heap[b]?=some (.map ms clk)):(getObj b).run P w=.ok (.map ms clk) w:=by simp [getObj,Sem.run,h]
def zMq (d:TypeDesc):Prop:=(∃ k,d=.int k)∨d=.string∨d=.bool
theorem xJ {t:TypeId} {ci:CI} (ok:gH P t ci) {key:AV} (h:jQ ci.k key=true):∃ d,P.underlying t=some d∧CK.of d=ci.k∧zMq d:=by
 obtain ⟨d,hd,hk⟩:=ok.und
 refine ⟨d,hd,hk,?_⟩
 rw [<- hk] at h
 cases d <;> simp only [CK.of,jQ,Bool.false_eq_true] at h
 ·exact .inr (.inr rfl)
 ·exact .inl ⟨_,rfl⟩
 ·exact .inr (.inl rfl)
theorem kQ {t:TypeId} {d:TypeDesc} (hd:P.underlying t=some d) (hp:zMq d) (b:Bool) (n:Nat) (u:Value):(Instr.checkKey b (n+1) t u).run P w=.ok () w:=by
 rcases hp with ⟨k,rfl⟩ | rfl | rfl <;> simp [Instr.checkKey,run_underlying hd]
theorem Gh {d:TypeDesc} {a b:AV} {u v:Value} {r:Bool} (hf:jQ (CK.of d) a=true) (h:Lp a b=some r) (hu:a.Rel β u) (hv:b.Rel β v):Instr.sameNow d u v=some r∧(r=true->u=v)∧∀ n,Instr.sameBits n u u=true:=by
 unfold Lp at h
 split at h
 ·rename_i k x k' y
  split at h
  ·rename_i hk
   have hk:=of_decide_eq_true hk
   subst hk
   simp only [aA] at h
   subst h
   simp only [AV.Rel] at hu hv
   subst hu hv
   cases d <;> simp only [CK.of,jQ,Bool.false_eq_true] at hf
   refine ⟨?_,fun h=>by rw [of_decide_eq_true h],fun n=>by cases n <;> simp [Instr.sameBits]⟩
   simp only [Instr.sameNow,if_true,aA]
   rw [Bool.eq_iff_iff]; simp
  ·cases h
 ·rename_i x y
  simp only [aA] at h
  subst h
  obtain ⟨ba,rfl,rfl⟩:=hu
  obtain ⟨bb,rfl,rfl⟩:=hv
  cases d <;> simp only [CK.of,jQ,Bool.false_eq_true] at hf
  rw [Jw]
  refine ⟨?_,fun h=>?_,fun n=>by cases n <;> simp [Instr.sameBits,Sq]⟩
  ·simp only [Instr.sameNow,Sq]
  ·have:=beq_iff_eq.1 h
   have:ba.data=bb.data:=Array.toList_inj.1 this
   cases ba; cases bb; simp only at this; rw [this]
 ·simp only [aA] at h
  subst h
  simp only [AV.Rel] at hu hv
  subst hu hv
  cases d <;> simp only [CK.of,jQ,Bool.false_eq_true] at hf
  exact ⟨rfl,fun h=>by rw [beq_iff_eq.1 h],fun n=>by cases n <;> simp [Instr.sameBits]⟩
 ·cases h
theorem yQ {d:TypeDesc} {key:AV} {u:Value} (hf:jQ (CK.of d) key=true) (hu:key.Rel β u):∀ {es:List (AV × AV × Nat)} {ms:List MapEntry} {i:Nat} {r:Option (Nat × AV)},Fj key es i=some r->aW β es ms ->
  (r=none∧Instr.findNow d u ms i=some none)∨∃ j v m,r=some (i+j,v)∧ms[j]?=some m∧v.Rel β m.val∧m.key=u∧Instr.findNow d u ms i=some (some (i+j,m.val))∧es[j]?.map (·.2.1)=some v
 | [],ms,i,r,h,hr=>by
  simp only [Fj,aA] at h
  simp only [aW] at hr
  subst h hr
  exact .inl ⟨rfl,rfl⟩
 | e :: es,ms,i,r,h,hr=>by
  obtain ⟨x,xs,rfl,h1,h2,h3,h4⟩:=hr
  simp only [Fj] at h
  split at h
  ·rename_i hs
   simp only [aA] at h
   subst h
   obtain ⟨k1,k2,_⟩:=Gh hf hs hu h1
   exact .inr ⟨0,e.2.1,x,rfl,rfl,h2,(k2 rfl).symm,by simp [Instr.findNow,k1],rfl⟩
  ·rename_i hs
   obtain ⟨k1,_,_⟩:=Gh hf hs hu h1
   rcases yQ hf hu h h4 with ⟨rfl,h5⟩ | ⟨j,v,m,rfl,h5,h6,h7,h8,h9⟩
   ·exact .inl ⟨rfl,by simp [Instr.findNow,k1,h5]⟩
   ·refine .inr ⟨j+1,v,m,by rw [Nat.add_assoc,Nat.add_comm 1 j],by simpa using h5,h6,h7,?_,by simpa using h9⟩
    simp only [Instr.findNow,k1]
    rw [h8,Nat.add_assoc,Nat.add_comm 1 j]
  ·cases h
theorem Aa {d:TypeDesc} {k:IntKind} {n:Nat} (hf:jQ (CK.of d) (.it k (.ofNat n))=true):∀ (ms:List MapEntry) (i:Nat),(∀ e ∈ ms,∃ m:Nat,e.key=.int k (Int.ofNat m)) ->
  (Instr.findNow d (.int k (Int.ofNat n)) ms i=some none∧∀ e ∈ ms,e.key ≠ .int k (Int.ofNat n))∨∃ j e,Instr.findNow d (.int k (Int.ofNat n)) ms i=some (some (i+j,e.val))∧ms[j]?=some e∧e.key=.int k (Int.ofNat n)
 | [],i,_=>.inl ⟨rfl,fun e h=>by cases h⟩
 | e :: ms,i,h=>by
  obtain ⟨m,hm⟩:=h e (.head _)
  have hs:∃ r,Lp (.it k (Int.ofNat n)) (.it k (Int.ofNat m))=some r:=by simp [Lp]
  obtain ⟨r,hs⟩:=hs
  obtain ⟨k1,k2,_⟩:=Gh (β:=fun _=>none) (u:=.int k (Int.ofNat n)) (v:=.int k (Int.ofNat m)) hf hs rfl rfl
  cases r with
  | true =>
   refine .inr ⟨0,e,?_,rfl,by rw [hm]; exact (k2 rfl).symm⟩
   simp only [Instr.findNow,hm,k1,Nat.add_zero]
  | false =>
   have hne:e.key ≠ .int k (Int.ofNat n):=fun he=>by
    rw [hm] at he
    simp only [Value.int.injEq,true_and] at he
    rw [he] at hs
    simp [Lp] at hs
   rcases Aa hf ms (i+1) (fun x hx=>h x (.tail _ hx)) with ⟨h1,h2⟩ | ⟨j,x,h1,h2,h3⟩
   ·refine .inl ⟨by simp only [Instr.findNow,hm,k1,h1],fun x hx=>?_⟩
    cases hx with
    | head=>exact hne
    | tail _ hx=>exact h2 x hx
   ·refine .inr ⟨j+1,x,?_,by simpa using h2,h3⟩
    simp only [Instr.findNow,hm,k1,h1]
    rw [Nat.add_assoc,Nat.add_comm 1 j]
theorem Kc (hW:aX lo β A w) {id:Nat} {es:List (AV × AV × Nat)} {clk:Nat} {u:Value} (hB:A.H.get id=some (.map es clk)) (hu:(AV.mp id).Rel β u) :
  ∃ b n ms,β id=some (b,0,n)∧u=.map (some b)∧w.heap[b]?=some (.map ms.toArray clk)∧aW β es ms:=by
 obtain ⟨b,o,n,hb,hlt,rfl,ms,hm,hr⟩:=hW.blk _ _ hB
 obtain ⟨b',n',hb',rfl⟩:=hu
 rw [hb] at hb'
 simp only [aA,aB] at hb'
 obtain ⟨rfl,_,rfl⟩:=hb'
 exact ⟨b,n,ms,hb,rfl,hm,hr⟩
theorem Gi {t:TypeId} {ci:CI} (ok:gH P t ci) {z:AV} (h:zG ci.k.isAgg ci.zero=some z):∃ u,(zeroValue t).run P w=.ok u w∧z.Rel β u:=by
 obtain ⟨u,hu,hr,_,_,_,hagg⟩:=ok.zero (w:=w)
 refine ⟨u,hu,?_⟩
 unfold zG at h
 split at h
 ·rename_i ha
  simp only [aA] at h
  subst h
  rw [ha] at hagg
  cases u <;> simp only [lJ,reduceCtorEq,Bool.true_eq,Bool.false_eq_true] at hagg
  exact ⟨_,by simp [Value.cells]; rfl,by simpa [Value.cells] using hr β⟩
 ·rename_i x ha hz
  simp only [aA] at h
  subst h
  have hr:=hr β
  rw [hz] at hr
  obtain ⟨y,ys,e,h1,h2⟩:=hr
  simp only [AV.aN] at h2
  subst h2
  rw [ha] at hagg
  have:u=y:=by
   cases u <;> first | (simp [lJ] at hagg; done) | (simp [Value.cells] at e; exact e)
  rw [this]; exact h1
 ·cases h
theorem zJj (hW:aX lo β A w) {d:TypeDesc} {m key:AV} {mv kv:Value} {r:Option AV} (hf:jQ (CK.of d) key=true) (h:zIz A m key=some r) (hm:m.Rel β mv) (hk:key.Rel β kv) :
  ∃ ms:List MapEntry,((mv=.map none∧ms=[])∨∃ b clk,mv=.map (some b)∧w.heap[b]?=some (.map ms.toArray clk)) ∧
   ((r=none∧Instr.findNow d kv ms 0=some none)∨∃ v j u,r=some v∧Instr.findNow d kv ms 0=some (some (j,u))∧v.Rel β u):=by
 unfold zIz at h
 split at h
 ·simp only [aA] at h
  subst h
  simp only [AV.Rel] at hm
  exact ⟨[],.inl ⟨hm,rfl⟩,.inl ⟨rfl,rfl⟩⟩
 ·rename_i id
  split at h
  ·rename_i es clk hB
   replace h:=aC h; obtain ⟨r0,hr,h⟩:=h
   obtain ⟨b,n,ms,_,e,hb,hrel⟩:=Kc hW hB hm
   refine ⟨ms,.inr ⟨b,clk,e,hb⟩,?_⟩
   rcases yQ hf hk hr hrel with ⟨rfl,hfn⟩ | ⟨j,v',e,rfl,hj,hv',_,hfn,_⟩
   ·simp only [aA] at h
    exact .inl ⟨h.symm,hfn⟩
   ·simp only [aA] at h
    exact .inr ⟨v',_,_,h.symm,hfn,hv'⟩
  ·rename_i k es qE hB
   split at h
   ·rename_i j n
    replace h:=aM h; obtain ⟨hjk,h⟩:=h
    have hjk:=of_decide_eq_true hjk
    subst hjk
    simp only [AV.Rel] at hk
    subst hk
    obtain ⟨b,o,n',hb,hlt,rfl,ms,clk,hms,h1,h2⟩:=hW.blk _ _ hB
    obtain ⟨b',n2,hb',rfl⟩:=hm
    rw [hb] at hb'
    simp only [aA,aB] at hb'
    obtain ⟨rfl,_,rfl⟩:=hb'
    refine ⟨ms,.inr ⟨b,clk,rfl,hms⟩,?_⟩
    have hfi:=Aa hf ms 0 (fun e he=>by obtain ⟨m,v,e1,_⟩:=h1 e he; exact ⟨m,e1⟩)
    split at h
    ·rename_i v hv
     replace h:=aM h; obtain ⟨hp,h⟩:=h
     simp only [aA] at h
     have hmem:∀ {l:List Nat},tC n l=true->n ∈ l:=by
      intro l
      induction l with
      | nil=>intro h; simp [tC] at h
      | cons a l ih =>
       intro h
       simp only [tC,Bool.or_eq_true] at h
       rcases h with h | h
       ·rw [aG h]; exact .head _
       ·exact .tail _ (ih h)
     obtain ⟨e,he,hek⟩:=h2 n (hmem hp)
     rcases hfi with ⟨_,h3⟩ | ⟨j,e',h3,h4,h5⟩
     ·exact absurd hek (h3 e he)
     ·obtain ⟨m,v',e1,e2,e3⟩:=h1 e' (List.mem_of_getElem? h4)
      rw [h5] at e1
      simp only [Value.int.injEq,true_and] at e1
      cases e1
      rw [hv] at e2
      cases e2
      exact .inr ⟨v,_,_,h.symm,h3,e3⟩
    ·rename_i hv
     simp only [aA] at h
     rcases hfi with ⟨h3,_⟩ | ⟨j,e',h3,h4,h5⟩
     ·exact .inl ⟨h.symm,h3⟩
     ·obtain ⟨m,v',e1,e2,e3⟩:=h1 e' (List.mem_of_getElem? h4)
      rw [h5] at e1
      simp only [Value.int.injEq,true_and] at e1
      cases e1
      rw [hv] at e2
      cases e2
   ·cases h
  ·cases h
 ·cases h
theorem zCb (hI:TOK P I) (hW:aX lo β A w) {t:TypeId} {m key v:AV} {ok:Bool} {mv kv:Value} (h:Uz I A t m key ok=some v) (hm:m.Rel β mv) (hk:key.Rel β kv):∃ y,(Instr.lookup t mv kv ok).run P w=.ok y w∧v.Rel β y:=by
 unfold Uz at h
 replace h:=aC h; obtain ⟨ti,hti,h⟩:=h
 split at h
 ·rename_i kt et hk0
  replace h:=aC h; obtain ⟨ki,hki,h⟩:=h
  replace h:=aC h; obtain ⟨ei,hei,h⟩:=h
  replace h:=aM h; obtain ⟨hf,h⟩:=h
  replace h:=aC h; obtain ⟨r,hr,h⟩:=h
  obtain ⟨d,hd,hdk,hp⟩:=xJ (hI _ _ hki) hf
  rw [<- hdk] at hf
  have hmap:=(hI _ _ hti).map hk0
  obtain ⟨ms,hms,hcase⟩:=zJj hW hf hr hm hk
  have hrun:∀ (r:Option (Nat × Value)),Instr.findNow d kv ms 0=some r->(Instr.lookup t mv kv ok).run P w=((match r with | some (_,v)=>pure (v,true) | none=>do pure (<- zeroValue et,false):Sem (Value × Bool)).run P w).andThen fun p w'=>.ok (if ok then .tuple #[p.1,.bool p.2] else p.1) w':=fun r hr=>by
   have c1:∀ b,(Instr.checkKey b 10000 kt kv).run P w=.ok () w:=fun b=>kQ (w:=w) hd hp b 9999 kv
   have c2:(Instr.findKey kt kv ms).run P w=.ok r w:=by simp [Instr.findKey,run_underlying hd,hr]
   rcases hms with ⟨rfl,rfl⟩ | ⟨b,clk,rfl,hb⟩
   ·simp only [Instr.lookup,Sem.run_bind,run_underlying hmap,Result.andThen_ok,Sem.run_pure,c1,c2]
    cases r <;> simp <;> try (cases (zeroValue et).run P w <;> rfl)
   ·simp only [Instr.lookup,Sem.run_bind,run_underlying hmap,Result.andThen_ok,Sem.run_pure,qG hb,c1,c2]
    cases r <;> simp <;> try (cases (zeroValue et).run P w <;> rfl)
  rcases hcase with ⟨rfl,hfn⟩ | ⟨v',j,u,rfl,hfn,hv'⟩
  ·simp only at h
   replace h:=aC h; obtain ⟨z,hz,h⟩:=h
   simp only [aA] at h
   subst h
   obtain ⟨zv,hzr,nV⟩:=Gi (w:=w) (β:=β) (hI _ _ hei) hz
   refine ⟨if ok then .tuple #[zv,.bool false] else zv,?_,?_⟩
   ·rw [hrun _ hfn]
    simp [hzr]
   ·cases ok
    ·exact nV
    ·exact ⟨[zv,.bool false],rfl,_,_,rfl,nV,_,_,rfl,rfl,rfl⟩
  ·simp only [aA] at h
   subst h
   refine ⟨if ok then .tuple #[u,.bool true] else u,?_,?_⟩
   ·rw [hrun _ hfn]
    simp
   ·cases ok
    ·exact hv'
    ·exact ⟨[u,.bool true],rfl,_,_,rfl,hv',_,_,rfl,rfl,rfl⟩
 ·cases h
theorem lN (w:World) (b:Nat) (o:Obj) (h:b < w.heap.size):let w':World:={ w with heap:=w.heap.setIfInBounds b o }
  w'.heap.size=w.heap.size∧(∀ k,k ≠ b->w'.heap[k]?=w.heap[k]?)∧w'.heap[b]?=some o :=
 ⟨by simp,fun k hk=>by simp [Array.getElem?_setIfInBounds_ne (Ne.symm hk)],by simp [h]⟩
theorem nW {b:Nat} {ms:Array MapEntry} {clk:Nat} (o:Obj) (h:w.heap[b]?=some (.map ms clk)):(setObj b o).run P w=.ok () { w with heap:=w.heap.setIfInBounds b o }:=by simp [setObj,Sem.run,h]
theorem Pm {old new:Value} (h:Instr.sameBits 10000 old new=true):(Instr.keyThatStays old new).run P w=.ok new w:=by simp [Instr.keyThatStays,h]
theorem Bn {ms:List MapEntry} {i:Nat} {f:MapEntry->MapEntry}:ms.toArray.modify i f=(ms.modify i f).toArray:=by
 apply Array.ext'
 simp
theorem Ke (hI:TOK P I) (hW:aX lo β A w) {t:TypeId} {m key v:AV} {mv kv vv:Value} {A':W} (h:Va lo I A t m key v=some A') (hm:m.Rel β mv) (hk:key.Rel β kv) (hv:v.Rel β vv) :
  ∃ w',(Instr.mapUpdate t mv kv vv).run P w=.ok () w'∧Go lo β A w β A' w':=by
 unfold Va at h
 replace h:=aC h; obtain ⟨ti,hti,h⟩:=h
 split at h
 ·rename_i kt et id hk0
  replace h:=aC h; obtain ⟨ki,hki,h⟩:=h
  replace h:=aM h; obtain ⟨hc,h⟩:=h
  simp only [aF,Nat.ble_eq,Nat.blt_eq] at hc
  obtain ⟨⟨hf,hlo⟩,hbig⟩:=hc
  obtain ⟨d,hd,hdk,hp⟩:=xJ (hI _ _ hki) hf
  rw [<- hdk] at hf
  have hmap:=(hI _ _ hti).map hk0
  split at h
  ·rename_i es clk hB
   replace h:=aC h; obtain ⟨r,hr,h⟩:=h
   obtain ⟨b,n,ms,hb,rfl,hmb,hrel⟩:=Kc hW hB hm
   have hlt:=hW.here _ _ _ _ hb
   have c1:(Instr.checkKey false 10000 kt kv).run P w=.ok () w:=kQ (w:=w) hd hp false 9999 kv
   rcases yQ hf hk hr hrel with ⟨rfl,hfn⟩ | ⟨j,v',e,rfl,hj,hv',hkey,hfn,_⟩
   ·rw [eD] at h
    simp only [aA] at h
    subst h
    have c2:(Instr.findKey kt kv ms).run P w=.ok none w:=by simp [Instr.findKey,run_underlying hd,hfn]
    obtain ⟨p1,p2,p3⟩:=lN w b (.map (ms++[({ key:=kv,val:=vv,born:=clk }:MapEntry)]).toArray (clk+1)) hlt
    refine ⟨{ w with heap:=w.heap.setIfInBounds b (.map (ms++[({ key:=kv,val:=vv,born:=clk }:MapEntry)]).toArray (clk+1)) },?_,Go.obj hW hB (fun B2 h=>by cases B2 <;> exact h) hlo hbig hb p1 p2 ⟨rfl,_,p3,hrel.append ⟨_,[],rfl,hk,hv,rfl,rfl⟩⟩ rfl rfl rfl⟩
    simp only [Instr.mapUpdate,Sem.run_bind,run_underlying hmap,Result.andThen_ok,qG hmb,c1,c2,nW _ hmb]
    simp
   ·simp only [aA] at h
    subst h
    have c2:(Instr.findKey kt kv ms).run P w=.ok (some (0+j,e.val)) w:=by simp [Instr.findKey,run_underlying hd,hfn]
    have hj':ms.toArray[0+j]?=some e:=by simpa using hj
    have hsb:Instr.sameBits 10000 kv kv=true:=by
     unfold jQ at hf
     split at hf
     ·simp only [AV.Rel] at hk; subst hk; simp [Instr.sameBits]
     ·obtain ⟨ba,rfl,_⟩:=hk; simp [Instr.sameBits,Sq]
     ·simp only [AV.Rel] at hk; subst hk; simp [Instr.sameBits]
     ·cases hf
    have c3:(Instr.keyThatStays e.key kv).run P w=.ok kv w:=Pm (by rw [hkey]; exact hsb)
    obtain ⟨p1,p2,p3⟩:=lN w b (.map (ms.modify (0+j) fun e=>{ e with key:=kv,val:=vv }).toArray clk) hlt
    refine ⟨{ w with heap:=w.heap.setIfInBounds b (.map (ms.modify (0+j) fun e=>{ e with key:=kv,val:=vv }).toArray clk) },?_,Go.obj hW hB (fun B2 h=>by cases B2 <;> exact h) hlo hbig hb p1 p2 ⟨rfl,_,p3,hrel.set hv fun m hm=>?_⟩ rfl rfl rfl⟩
    ·simp only [Instr.mapUpdate,Sem.run_bind,run_underlying hmap,Result.andThen_ok,qG hmb,c1,c2,hj',Option.map_some,Option.getD_some,c3,nW _ hmb,Bn]
    ·rw [Nat.zero_add] at hm
     rw [hj] at hm
     simp only [aA] at hm
     subst hm
     exact ⟨hkey.symm,rfl,rfl⟩
  ·rename_i k es qE hB
   split at h
   ·rename_i j n
    replace h:=aM h; obtain ⟨hjk,h⟩:=h
    have hjk:=of_decide_eq_true hjk
    subst hjk
    replace h:=aC h; obtain ⟨u0,hu0,h⟩:=h
    replace h:=aC h; obtain ⟨f,hff,h⟩:=h
    replace h:=aC h; obtain ⟨g,hgg,h⟩:=h
    replace h:=aM h; obtain ⟨hfg,h⟩:=h
    have hfg:=aG hfg
    subst hfg
    simp only [aA] at h
    subst h
    have Dr:∀ {x:AV} {f:FuncId},isFn x=some f->x=.fn (.func f) [] []:=by
     intro x f hx
     unfold isFn at hx
     split at hx
     ·simp only [aA] at hx; subst hx; rfl
     ·cases hx
    have hvu:v=u0:=by rw [Dr hff,Dr hgg]
    subst hvu
    simp only [AV.Rel] at hk
    subst hk
    obtain ⟨b,o,n',hb,hlt,rfl,ms,clk,hms,h1,h2⟩:=hW.blk _ _ hB
    obtain ⟨b',n2,hb',rfl⟩:=hm
    rw [hb] at hb'
    simp only [aA,aB] at hb'
    obtain ⟨rfl,_,rfl⟩:=hb'
    have c1:(Instr.checkKey false 10000 kt (.int j (Int.ofNat n))).run P w=.ok () w:=kQ (w:=w) hd hp false 9999 _
    rcases Aa hf ms 0 (fun e he=>by obtain ⟨m,v,e1,_⟩:=h1 e he; exact ⟨m,e1⟩) with ⟨h3,_⟩ | ⟨i,e,h3,h4,h5⟩
    ·have c2:(Instr.findKey kt (.int j (Int.ofNat n)) ms).run P w=.ok none w:=by simp only [Instr.findKey,Sem.run_bind,run_underlying hd,Result.andThen_ok,h3,Sem.run_pure]
     obtain ⟨p1,p2,p3⟩:=lN w b (.map (ms++[({ key:=.int j (Int.ofNat n),val:=vv,born:=clk }:MapEntry)]).toArray (clk+1)) hlt
     refine ⟨{ w with heap:=w.heap.setIfInBounds b (.map (ms++[({ key:=.int j (Int.ofNat n),val:=vv,born:=clk }:MapEntry)]).toArray (clk+1)) },?_,Go.obj hW hB (fun B2 h=>by cases B2 <;> exact h) hlo hbig hb p1 p2 ⟨rfl,_,_,p3,fun e he=>?_,fun m hm=>?_⟩ rfl rfl rfl⟩
     ·simp only [Instr.mapUpdate,Sem.run_bind,run_underlying hmap,Result.andThen_ok,qG hms,c1,c2,nW _ hms]
      simp
     ·rcases List.mem_append.1 he with he | he
      ·exact h1 e he
      ·simp only [List.mem_singleton] at he
       subst he
       exact ⟨n,v,rfl,hu0,hv⟩
     ·cases hm with
      | head=>exact ⟨_,List.mem_append_right _ (.head _),rfl⟩
      | tail _ hm =>
       obtain ⟨e,he,hek⟩:=h2 m hm
       exact ⟨e,List.mem_append_left _ he,hek⟩
    ·have c2:(Instr.findKey kt (.int j (Int.ofNat n)) ms).run P w=.ok (some (0+i,e.val)) w:=by simp only [Instr.findKey,Sem.run_bind,run_underlying hd,Result.andThen_ok,h3,Sem.run_pure]
     have hj':ms.toArray[0+i]?=some e:=by simpa using h4
     have c3:(Instr.keyThatStays e.key (.int j (Int.ofNat n))).run P w=.ok (.int j (Int.ofNat n)) w:=Pm (by rw [h5]; simp [Instr.sameBits])
     obtain ⟨p1,p2,p3⟩:=lN w b (.map (ms.modify (0+i) fun e=>{ e with key:=.int j (Int.ofNat n),val:=vv }).toArray clk) hlt
     have hmod:∀ x,x ∈ ms.modify (0+i) (fun e=>{ e with key:=.int j (Int.ofNat n),val:=vv })->(x ∈ ms∨(x.key=.int j (Int.ofNat n)∧x.val=vv)):=fun x hx=>by
      obtain ⟨q,hq⟩:=List.mem_iff_getElem?.1 hx
      rw [List.getElem?_modify] at hq
      cases hmq:ms[q]? with
      | none=>rw [hmq] at hq; simp at hq
      | some y =>
       rw [hmq] at hq
       simp only [Option.map_eq_map,Option.map_some,aA] at hq
       split at hq
       ·subst hq; exact .inr ⟨rfl,rfl⟩
       ·subst hq; exact .inl (List.mem_of_getElem? hmq)
     have hat:(ms.modify (0+i) (fun e=>{ e with key:=.int j (Int.ofNat n),val:=vv }))[i]?=some { e with key:=.int j (Int.ofNat n),val:=vv }:=by
      rw [List.getElem?_modify,h4]; simp
     refine ⟨{ w with heap:=w.heap.setIfInBounds b (.map (ms.modify (0+i) fun e=>{ e with key:=.int j (Int.ofNat n),val:=vv }).toArray clk) },?_,Go.obj hW hB (fun B2 h=>by cases B2 <;> exact h) hlo hbig hb p1 p2 ⟨rfl,_,_,p3,fun x hx=>?_,fun m hm=>?_⟩ rfl rfl rfl⟩
     ·simp only [Instr.mapUpdate,Sem.run_bind,run_underlying hmap,Result.andThen_ok,qG hms,c1,c2,hj',Option.map_some,Option.getD_some,c3,nW _ hms,Bn]
     ·rcases hmod x hx with hx | ⟨hx1,hx2⟩
      ·exact h1 x hx
      ·exact ⟨n,v,hx1,hu0,by rw [hx2]; exact hv⟩
     ·cases hm with
      | head=>exact ⟨_,List.mem_of_getElem? hat,rfl⟩
      | tail _ hm =>
       obtain ⟨y,hy,hyk⟩:=h2 m hm
       obtain ⟨q,hq⟩:=List.mem_iff_getElem?.1 hy
       by_cases hqi:i=q
       ·subst hqi
        rw [h4] at hq
        cases hq
        exact ⟨_,List.mem_of_getElem? hat,by rw [<- hyk,h5]⟩
       ·exact ⟨y,List.mem_of_getElem? (i:=q) (by rw [List.getElem?_modify,hq]; simp [hqi]),hyk⟩
   ·cases h
  ·cases h
 ·cases h
theorem Ve (hI:TOK P I) (hW:aX lo β A w) {t:TypeId} {m key v:AV} {mv kv:Value} {A':W} (h:Jt lo I A t m key=some (v,A')) (hm:m.Rel β mv) (hk:key.Rel β kv) :
  Gives P lo β A w (Instr.mapEntry t mv kv) v A':=by
 unfold Jt at h
 replace h:=aC h; obtain ⟨ti,hti,h⟩:=h
 split at h
 ·rename_i kt et id hk0
  replace h:=aC h; obtain ⟨ki,hki,h⟩:=h
  replace h:=aC h; obtain ⟨ei,hei,h⟩:=h
  replace h:=aM h; obtain ⟨hc,h⟩:=h
  simp only [aF,Nat.ble_eq,Nat.blt_eq] at hc
  obtain ⟨⟨hf,hlo⟩,hbig⟩:=hc
  obtain ⟨d,hd,hdk,hp⟩:=xJ (hI _ _ hki) hf
  rw [<- hdk] at hf
  have hmap:=(hI _ _ hti).map hk0
  split at h
  ·rename_i es clk hB
   replace h:=aC h; obtain ⟨r,hr,h⟩:=h
   obtain ⟨b,n,ms,hb,rfl,hmb,hrel⟩:=Kc hW hB hm
   have hlt:=hW.here _ _ _ _ hb
   have c1:(Instr.checkKey false 10000 kt kv).run P w=.ok () w:=kQ (w:=w) hd hp false 9999 kv
   rcases yQ hf hk hr hrel with ⟨rfl,hfn⟩ | ⟨j,v',e,rfl,hj,hv',hkey,hfn,_⟩
   ·simp only at h
    replace h:=aC h; obtain ⟨z,hz,h⟩:=h
    rw [eD] at h
    simp only [aA,aB] at h
    obtain ⟨rfl,rfl⟩:=h
    obtain ⟨zv,hzr,nV⟩:=Gi (w:=w) (β:=β) (hI _ _ hei) hz
    have c2:(Instr.findKey kt kv ms).run P w=.ok none w:=by simp [Instr.findKey,run_underlying hd,hfn]
    obtain ⟨p1,p2,p3⟩:=lN w b (.map (ms++[({ key:=kv,val:=zv,born:=clk }:MapEntry)]).toArray (clk+1)) hlt
    refine ⟨.tuple #[zv,goInt clk],β,{ w with heap:=w.heap.setIfInBounds b (.map (ms++[({ key:=kv,val:=zv,born:=clk }:MapEntry)]).toArray (clk+1)) },?_,Go.obj hW hB (fun B2 h=>by cases B2 <;> exact h) hlo hbig hb p1 p2 ⟨rfl,_,p3,hrel.append ⟨_,[],rfl,hk,nV,rfl,rfl⟩⟩ rfl rfl rfl,
     [zv,goInt clk],rfl,_,_,rfl,nV,_,_,rfl,rfl,rfl⟩
    simp only [Instr.mapEntry,Sem.run_bind,run_underlying hmap,Result.andThen_ok,qG hmb,c1,c2,hzr,nW _ hmb]
    simp
   ·replace h:=aC h; obtain ⟨e',he',h⟩:=h
    simp only [aA,aB] at h
    obtain ⟨rfl,rfl⟩:=h
    have c2:(Instr.findKey kt kv ms).run P w=.ok (some (0+j,e.val)) w:=by simp [Instr.findKey,run_underlying hd,hfn]
    have hj':ms.toArray[0+j]?=some e:=by simpa using hj
    have hsb:Instr.sameBits 10000 kv kv=true:=by
     unfold jQ at hf
     split at hf
     ·simp only [AV.Rel] at hk; subst hk; simp [Instr.sameBits]
     ·obtain ⟨ba,rfl,_⟩:=hk; simp [Instr.sameBits,Sq]
     ·simp only [AV.Rel] at hk; subst hk; simp [Instr.sameBits]
     ·cases hf
    have c3:(Instr.keyThatStays e.key kv).run P w=.ok kv w:=Pm (by rw [hkey]; exact hsb)
    obtain ⟨m2,hm2,_,_,hborn⟩:=hrel.get he'
    rw [Nat.zero_add,hj] at hm2
    simp only [aA] at hm2
    subst hm2
    have hsame:w.heap.setIfInBounds b (.map (ms.modify (0+j) fun e=>{ e with key:=kv }).toArray clk)=w.heap:=by
     have e1:ms.modify (0+j) (fun e=>{ e with key:=kv })=ms:=by
      apply List.ext_getElem?
      intro i
      rw [List.getElem?_modify]
      by_cases hi:0+j=i
      ·subst hi
       rw [Nat.zero_add,hj]
       simp [<- hkey]
      ·rw [Nat.zero_add] at hi
       simp [hi]
     rw [e1]
     apply Array.ext (by simp)
     intro i h1 h2
     rw [Array.getElem_setIfInBounds]
     split
     ·rename_i hi
      subst hi
      obtain ⟨h3,h4⟩:=Array.getElem?_eq_some_iff.1 hmb
      exact h4.symm
     ·rfl
    refine ⟨.tuple #[e.val,goInt e.born],β,{ w with heap:=w.heap.setIfInBounds b (.map (ms.modify (0+j) fun e=>{ e with key:=kv }).toArray clk) },?_,Go.same hW hsame rfl rfl rfl,[e.val,goInt e.born],rfl,_,_,rfl,hv',_,_,rfl,by rw [hborn]; rfl,rfl⟩
    simp only [Instr.mapEntry,Sem.run_bind,run_underlying hmap,Result.andThen_ok,qG hmb,c1,c2,hj',Option.map_some,Option.getD_some,c3,nW _ hmb,Bn]
    rfl
  ·cases h
 ·cases h
theorem Sr {n:Nat}:∀ {es:List (AV × AV × Nat)} {ms:List MapEntry} {i k:Nat},Rx n es i=some k->aW β es ms->∃ j,k=i+j∧ms.findIdx? (fun e=>(e.born:Int) == (n:Int))=some j
 | [],_,_,_,h,_=>by simp [Rx] at h
 | e :: es,ms,i,k,h,hr=>by
  obtain ⟨x,xs,rfl,h1,h2,h3,h4⟩:=hr
  simp only [Rx,cnd] at h
  split at h
  ·rename_i hb
   simp only [aA] at h
   subst h
   have hb:=aG hb
   refine ⟨0,rfl,?_⟩
   rw [List.findIdx?_cons]
   simp [<- h3,hb]
  ·rename_i hb
   obtain ⟨j,rfl,hj⟩:=Sr h h4
   refine ⟨j+1,by omega,?_⟩
   have hne:¬ x.born=n:=by
    intro e1
    rw [<- h3] at e1
    rw [e1,Nat.beq_refl] at hb
    cases hb
   rw [List.findIdx?_cons,hj]
   have:((x.born:Int) == (n:Int))=false:=by
    rw [beq_eq_false_iff_ne]; intro h; exact hne (by omega)
   simp [this]
theorem Pn (hW:aX lo β A w) {t:TypeId} {m s v:AV} {mv sv vv:Value} {A':W} (h:Cb lo A m s v=some A') (hm:m.Rel β mv) (hs:s.Rel β sv) (hv:v.Rel β vv) :
  ∃ w',(Instr.entryStore t mv sv vv).run P w=.ok () w'∧Go lo β A w β A' w':=by
 unfold Cb at h
 split at h
 ·rename_i id
  replace h:=aC h; obtain ⟨n,hn,h⟩:=h
  replace h:=aM h; obtain ⟨hc,h⟩:=h
  simp only [aF,Nat.ble_eq,Nat.blt_eq] at hc
  split at h
  ·rename_i es clk hB
   replace h:=aC h; obtain ⟨i,hi,h⟩:=h
   simp only [aA] at h
   subst h
   obtain ⟨b,k,ms,hb,rfl,hmb,hrel⟩:=Kc hW hB hm
   have hlt:=hW.here _ _ _ _ hb
   obtain ⟨j,rfl,hj⟩:=Sr hi hrel
   obtain ⟨kk,rfl⟩:=fC hn hs
   rw [Nat.zero_add]
   have hidx:ms.toArray.findIdx? (fun e=>(e.born:Int) == (n:Int))=some j:=by simpa using hj
   obtain ⟨p1,p2,p3⟩:=lN w b (.map (ms.modify j fun e=>{ e with val:=vv }).toArray clk) hlt
   refine ⟨{ w with heap:=w.heap.setIfInBounds b (.map (ms.modify j fun e=>{ e with val:=vv }).toArray clk) },?_,Go.obj hW hB (fun B2 h=>by cases B2 <;> exact h) hc.1 hc.2 hb p1 p2 ⟨rfl,_,p3,hrel.set hv fun m hm=>⟨rfl,rfl,rfl⟩⟩ rfl rfl rfl⟩
   simp only [Instr.entryStore,Sem.run_bind,Result.andThen_ok,qG hmb,asInt,asIntOf,Sem.run_pure,hidx,nW _ hmb,Bn]
  ·cases h
 ·cases h
end
end Go.Ce
namespace Go.Ce
section
variable {P:Program} {lo:Nat} {β:Bt} {A:W} {w:World} {I:T CI} {evf:Operand->Option AV} {ρ:Operand->Value}
theorem zEq (hI:TOK P I) (hW:aX lo β A w) {t:TypeId} {x v:AV} {u:Value} {A':W} (h:zBr I A t x=some (v,A')) (hu:x.Rel β u):Gives P lo β A w (Instr.range t u) v A':=by
 unfold zBr at h
 replace h:=aC h; obtain ⟨ti,hti,h⟩:=h
 have ok:=hI _ _ hti
 split at h
 ·rename_i kt et id hk
  split at h
  ·rename_i es clk hB
   replace h:=aC h; obtain ⟨A1,hA,h⟩:=h
   simp only [aA,aB] at h
   obtain ⟨rfl,rfl⟩:=h
   obtain ⟨b,n,ms,hb,rfl,hmb,_⟩:=Kc hW hB hu
   obtain ⟨f1,f2,f3⟩:=iE w (.mapIter (some b) clk #[] clk)
   refine ⟨.pointer (some ⟨w.heap.size,0,none⟩),_,_,?_,qF (n:=0) hW hA f1 f2 ⟨rfl,b,n,kS hW _ _ _ hb,f3⟩ rfl rfl rfl,w.heap.size,0,0,upd_same _ _ _,rfl⟩
   simp [Instr.range,run_underlying (ok.map hk),qG hmb]
  ·cases h
 ·rename_i s hk
  replace h:=aC h; obtain ⟨A1,hA,h⟩:=h
  simp only [aA,aB] at h
  obtain ⟨rfl,rfl⟩:=h
  obtain ⟨ba,rfl,hba⟩:=hu
  obtain ⟨f1,f2,f3⟩:=iE w (.stringIter ba 0)
  refine ⟨.pointer (some ⟨w.heap.size,0,none⟩),_,_,?_,qF (n:=0) hW hA f1 f2 ⟨rfl,ba,hba,f3⟩ rfl rfl rfl,w.heap.size,0,0,upd_same _ _ _,rfl⟩
  simp [Instr.range,run_underlying (ok.str hk)]
 ·cases h
theorem Sv:∀ {es:List (AV × AV × Nat)} {ms:List MapEntry} {seen:List Nat},aW β es ms->aW β (Ry seen es) (ms.filter fun e=>!seen.reverse.toArray.contains e.born)
 | [],_,_,h=>by simp only [aW] at h; subst h; rfl
 | e :: es,_,seen,⟨x,xs,hx,h1,h2,h3,h4⟩=>by
  subst hx
  have ih:=Sv (seen:=seen) h4
  have hm:∀ (n:Nat) (l:List Nat),tC n l=l.contains n:=fun n l=>by
   induction l with
   | nil=>rfl
   | cons a l ih =>
    simp only [tC,ih,List.contains_cons]
    congr 1
    rw [Bool.eq_iff_iff]; simp [Nat.beq_eq]
  simp only [Ry,cnd,hm,h3]
  cases hc:seen.contains x.born with
  | true =>
   simp only [List.filter_cons]
   have:(!seen.reverse.toArray.contains x.born)=false:=by simpa using hc
   rw [this]
   simpa using ih
  | false =>
   simp only [List.filter_cons]
   have:(!seen.reverse.toArray.contains x.born)=true:=by simpa using hc
   rw [this]
   exact ⟨x,_,rfl,h1,h2,h3,ih⟩
theorem zJk {st:Nat} {seen:List Nat} {es:List (AV × AV × Nat)} {ms:List MapEntry} (hr:aW β es ms) (h:Lr st seen es=true):(!seen.reverse.toArray.isEmpty && !ms.toArray.isEmpty && ms.toArray.all (fun x=>decide (x.born ≥ st)))=false:=by
 unfold Lr at h
 split at h
 ·simp
 ·simp only [aW] at hr; subst hr; simp
 ·have key:∀ {es:List (AV × AV × Nat)} {ms:List MapEntry},aW β es ms->Lr.go st es=true->∃ m ∈ ms,m.born < st:=by
   intro es
   induction es with
   | nil=>intro ms _ h; simp [Lr.go] at h
   | cons e es ih =>
    intro ms hr h
    obtain ⟨x,xs,rfl,_,_,h3,h4⟩:=hr
    simp only [Lr.go,Bool.or_eq_true,Nat.blt_eq] at h
    rcases h with h | h
    ·exact ⟨x,.head _,by omega⟩
    ·obtain ⟨m,hm,hlt⟩:=ih h4 h
     exact ⟨m,.tail _ hm,hlt⟩
  obtain ⟨m,hm,hlt⟩:=key hr h
  have:ms.toArray.all (fun x=>decide (x.born ≥ st))=false:=by
   rw [Bool.eq_false_iff]
   intro h
   rw [Array.all_eq_true_iff_forall_mem] at h
   have:=h m (by simpa using hm)
   simp at this
   omega
  rw [this]; simp
theorem zJl (hW:aX lo β A w) {ty:TypeId} {x v:AV} {b:Bool} {u:Value} {A':W} (h:zJa lo A x b=some (v,A')) (hu:x.Rel β u):Gives P lo β A w (Instr.next u b ty) v A':=by
 unfold zJa at h
 split at h
 ·rename_i id
  split at h
  ·rename_i l pos hB
   replace h:=aM h; obtain ⟨hc,h⟩:=h
   simp only [aF,Nat.ble_eq,Nat.blt_eq] at hc
   obtain ⟨bl,o,n,hb,hlt,rfl,ba,hba,hit⟩:=hW.blk _ _ hB
   obtain ⟨b',o',n',hb',rfl⟩:=hu
   rw [hb] at hb'
   simp only [aA,aB] at hb'
   obtain ⟨rfl,rfl,rfl⟩:=hb'
   have hget:(getObj bl).run P w=.ok (.stringIter ba pos) w:=by simp [getObj,Sem.run,hit]
   rw [wT] at h
   split at h
   ·rename_i hd
    simp only [aA,aB] at h
    obtain ⟨rfl,rfl⟩:=h
    have hlen:¬ pos < ba.size:=by
     have:=congrArg List.length hd
     rw [List.length_drop,<- hba,List.length_map,<- zJ] at this
     simp at this
     omega
    refine Gives.pure hW ⟨.tuple #[.bool false],?_,[.bool false],rfl,_,_,rfl,rfl,rfl⟩
    simp [Instr.next,hget,hlen]
   ·rename_i c r hd
    replace h:=aM h; obtain ⟨hc2,h⟩:=h
    rw [Nat.blt_eq] at hc2
    rw [eD] at h
    simp only [aA,aB] at h
    obtain ⟨rfl,rfl⟩:=h
    have hlen:pos < ba.size:=by
     have:=congrArg List.length hd
     rw [List.length_drop,<- hba,List.length_map,<- zJ] at this
     simp at this
     omega
    have hg:(ba.data.toList.map UInt8.toNat)[pos]?=some c:=by
     rw [hba]
     have:=congrArg List.head? hd
     rwa [List.head?_drop,List.head?_cons] at this
    rw [List.getElem?_map,Option.map_eq_some_iff] at hg
    obtain ⟨d,hd1,rfl⟩:=hg
    have hdec:Utf8.decode ba pos=(d.toNat,1):=by
     have:(ba.get! pos)=d:=by
      rw [Array.getElem?_toList] at hd1
      obtain ⟨h1,h2⟩:=Array.getElem?_eq_some_iff.1 hd1
      have:ba.get! pos=ba.data[pos]! := rfl
      rw [this,getElem!_def,Array.getElem?_eq_getElem h1]
      exact h2
     unfold Utf8.decode
     simp only [Nat.add_zero,this]
     rw [if_pos hc2]
    obtain ⟨p1,p2,p3⟩:=lN w bl (.stringIter ba (pos+1)) hlt
    refine ⟨.tuple #[.bool true,goInt pos,.int .i32 d.toNat],β,{ w with heap:=w.heap.setIfInBounds bl (.stringIter ba (pos+1)) },?_,Go.obj hW hB (fun B2 h=>by cases B2 <;> exact h) hc.1 hc.2 hb p1 p2 ⟨rfl,ba,hba,p3⟩ rfl rfl rfl,_,rfl,_,_,rfl,rfl,_,_,rfl,rfl,_,_,rfl,rfl,rfl⟩
    have hset:(setObj bl (.stringIter ba (pos+1))).run P w=.ok () { w with heap:=w.heap.setIfInBounds bl (.stringIter ba (pos+1)) }:=by simp [setObj,Sem.run,hit]
    simp [Instr.next,hget,hlen,hdec,hset]
  ·cases h
 ·rename_i id
  split at h
  ·rename_i m since seen st hB
   split at h
   ·rename_i es clk hM
    replace h:=aM h; obtain ⟨hc,h⟩:=h
    simp only [aF,Nat.ble_eq,Nat.blt_eq] at hc
    obtain ⟨⟨⟨hcs,hlo⟩,hbig⟩,hany⟩:=hc
    have hcs:=aG hcs
    subst hcs
    obtain ⟨bl,o,n,hb,hlt,rfl,bm,nm,hbm,hit⟩:=hW.blk _ _ hB
    obtain ⟨b',o',n',hb',rfl⟩:=hu
    rw [hb] at hb'
    simp only [aA,aB] at hb'
    obtain ⟨rfl,rfl,rfl⟩:=hb'
    obtain ⟨bm',o2,n2,hb2,hlt2,rfl,ms,hm,hrel⟩:=hW.blk _ _ hM
    rw [hbm] at hb2
    simp only [aA,aB] at hb2
    obtain ⟨rfl,_,rfl⟩:=hb2
    have hget:(getObj bl).run P w=.ok (.mapIter (some bm) clk seen.reverse.toArray st) w:=by simp [getObj,Sem.run,hit]
    have hgm:=qG (P:=P) hm
    have zRo:=zJk hrel hany
    have hleft:=Sv (seen:=seen) hrel
    split at h
    ·rename_i hl
     simp only [aA,aB] at h
     obtain ⟨rfl,rfl⟩:=h
     rw [hl] at hleft
     simp only [aW] at hleft
     have hf:ms.toArray.filter (fun e=>!seen.reverse.toArray.contains e.born)=#[]:=by rw [List.filter_toArray,hleft]
     refine Gives.pure hW ⟨.tuple #[.bool false],?_,[.bool false],rfl,_,_,rfl,rfl,rfl⟩
     simp only [Instr.next,Sem.run_bind,Nat.add_zero,hget,Result.andThen_ok,hgm,zRo,Bool.false_eq_true,if_false,hf]
     simp [choose,Sem.run,Question.forced]
    ·rename_i e hl
     replace h:=aM h; obtain ⟨hlt3,h⟩:=h
     rw [Nat.blt_eq] at hlt3
     simp only [aA,aB] at h
     obtain ⟨rfl,rfl⟩:=h
     rw [hl] at hleft
     obtain ⟨y,ys,hy,h1,h2,h3,h4⟩:=hleft
     simp only [aW] at h4
     subst h4
     have hf:ms.toArray.filter (fun e=>!seen.reverse.toArray.contains e.born)=#[y]:=by rw [List.filter_toArray,hy]
     have zIq:y.born < clk:=by omega
     obtain ⟨p1,p2,p3⟩:=lN w bl (.mapIter (some bm) clk (e.2.2 :: seen).reverse.toArray clk) hlt
     refine ⟨.tuple #[.bool true,y.key,y.val],β,{ w with heap:=w.heap.setIfInBounds bl (.mapIter (some bm) clk (e.2.2 :: seen).reverse.toArray clk) },?_,Go.obj hW hB (fun B2 h=>by cases B2 <;> exact h) hlo hbig hb p1 p2 ⟨rfl,bm,nm,hbm,p3⟩ rfl rfl rfl,_,rfl,_,_,rfl,rfl,_,_,rfl,h1,_,_,rfl,h2,rfl⟩
     have hset:(setObj bl (.mapIter (some bm) clk (seen.reverse.toArray.push y.born) clk)).run P w=.ok () { w with heap:=w.heap.setIfInBounds bl (.mapIter (some bm) clk (e.2.2 :: seen).reverse.toArray clk) }:=by
      rw [h3]; simp [setObj,Sem.run,hit]
     simp only [Instr.next,Sem.run_bind,Nat.add_zero,hget,Result.andThen_ok,hgm,zRo,Bool.false_eq_true,if_false,hf]
     have hfo:(#[y]:Array MapEntry).filter (fun x=>decide (x.born < clk))=#[y]:=by simp [zIq]
     have hfn:(#[y]:Array MapEntry).filter (fun x=>decide (x.born ≥ clk))=#[]:=by simp [zIq]
     simp only [hfo,hfn]
     have hch:(Sem.choose (.mapNext 1) Sem.pure:Sem Nat).run P w=.ok 0 w:=by simp [Sem.run,Question.forced]
     simp only [List.push_toArray] at hset
     simp [choose,hch,hset]
    ·cases h
   ·cases h
  ·cases h
 ·cases h
end
end Go.Ce
