/- Part of a proof over this seat: a library of my own, and what it says of this seat. No statement is proved here. -/
import Derived.Test.YtdgneppobefaoaaGreatDoorPartAH
namespace Go.Dec
@[reducible] def bG:List Ty->Type
 | []=>Unit
 | [t]=>t.den
 | t :: u :: r=>t.den × bG (u :: r)
def kX:List Value->Value
 | [u]=>u
 | us=>.tuple us.toArray
def yIc (bor:Bool) (N:Nat->Nat->Prop):Nat->Nat->Prop :=
 match bor with
 | true=>fun _ _=>False
 | false=>N
def Ty.gZ (w:World) (N:Nat->Nat->Prop) (t:Ty) (x:t.den) (u:Value):Prop :=
 if t.isAgg then ∃ cs:List Value,u=.agg cs.toArray∧t.Rel w N x cs else t.Rel w N x [u]
def DensRel (w:World) (N:Nat->Nat->Prop):(ts:List Ty)->bG ts->List Value->Prop
 | [],_,us=>us=[]
 | [t],x,us=>∃ u,us=[u]∧t.gZ w N x u
 | t :: s :: r,x,us=>∃ u us',us=u :: us'∧t.gZ w N x.1 u∧DensRel w N (s :: r) x.2 us'
def vOf (t:Ty) (x:t.den):V :=
 match t.isAgg with
 | true=>.agg (explode t x)
 | false=>.one (.val t x)
def sOf (t:Ty) (x:t.den):Sum L (List L) :=
 match t.isAgg with
 | true=>.inr (explode t x)
 | false=>.inl (.val t x)
def rX:(ts:List Ty)->bG ts->List V
 | [],_=>[]
 | [t],x=>[vOf t x]
 | t :: s :: r,x=>vOf t x.1 :: rX (s :: r) x.2
def zTf:(ts:List Ty)->bG ts->List (Sum L (List L))
 | [],_=>[]
 | [t],x=>[sOf t x]
 | t :: s :: r,x=>sOf t x.1 :: zTf (s :: r) x.2
def zTg (t:Ty) (ls:List L):Option t.den :=
 match bP t ls with
 | some (x,[])=>some x
 | _=>none
def zDu (t:Ty) (s:Sum L (List L)):Option t.den :=
 match t.isAgg,s with
 | true,.inr ls=>zTg t ls
 | false,.inl l=>l.asT t
 | _,_=>none
def Ib:(ts:List Ty)->List (Sum L (List L))->Option (bG ts)
 | [],[]=>some ()
 | [t],[s]=>zDu t s
 | t :: u :: r,s :: ss =>
  match zDu t s,Ib (u :: r) ss with
  | some x,some y=>some (x,y)
  | _,_=>none
 | _,_=>none
def V.sum:V->Option (Sum L (List L))
 | .one l=>some (.inl l)
 | .agg ls=>some (.inr ls)
 | _=>none
def Ya (bor:Bool) (h:List Ob) (t:Ty) (v:V):Option (Bool × t.den) :=
 match bor with
 | true =>
  match v.deep h with
  | some (c,u) =>
   match u.sum with
   | some s=>match zDu t s with
    | some x=>some (c,x)
    | none=>none
   | none=>none
  | none=>none
 | false =>
  match v.isD,v.sum with
  | true,some s=>match zDu t s with
   | some x=>some (true,x)
   | none=>none
  | _,_=>none
def fJ (bor:Bool) (h:List Ob):(ts:List Ty)->List V->Option (Bool × bG ts)
 | [],[]=>some (true,())
 | [t],[v]=>Ya bor h t v
 | t :: u :: r,v :: vs =>
  match Ya bor h t v,fJ bor h (u :: r) vs with
  | some (c,x),some (d,y)=>some (c && d,(x,y))
  | _,_=>none
 | _,_=>none
def Ty.flat:Ty->Bool
 | .pair a b=>a.flat && b.flat
 | .arr _ a=>a.flat
 | .slice _=>false
 | .clip _=>false
 | .opq=>false
 | _=>true
section
variable {β:Nat->Pl} {w:World} {N:Nat->Nat->Prop}
theorem zQj {t:Ty} {x:t.den} {u:Value} (h:t.gZ w N x u):(vOf t x).Rel β w N u:=by
 unfold vOf
 unfold Ty.gZ at h
 cases ha:t.isAgg with
 | true =>
  rw [ha,if_pos rfl] at h
  obtain ⟨cs,e,h⟩:=h
  exact ⟨cs,e,gW h⟩
 | false =>
  rw [ha,if_neg (by simp)] at h
  simp only [V.Rel,L.Rel]
  exact h
theorem zY:∀ {ts:List Ty} {x:bG ts} {us:List Value},DensRel w N ts x us->lW β w N (rX ts x) us
 | [],_,_,h=>by simp only [DensRel] at h; subst h; trivial
 | [t],x,_,h=>by obtain ⟨u,rfl,h⟩:=h; exact ⟨zQj h,trivial⟩
 | t :: s :: r,x,_,h=>by
  obtain ⟨u,us,rfl,h,h2⟩:=h
  exact ⟨zQj h,zY h2⟩
theorem zQk {t:Ty} {x:t.den} {u:Value} (h:t.gZ w N x u):gM β w N (sOf t x) u:=by
 unfold sOf
 unfold Ty.gZ at h
 cases ha:t.isAgg with
 | true =>
  rw [ha,if_pos rfl] at h
  obtain ⟨cs,e,h⟩:=h
  exact ⟨cs,e,gW h⟩
 | false =>
  rw [ha,if_neg (by simp)] at h
  simp only [gM,L.Rel]
  exact h
theorem zGn:∀ {ts:List Ty} {x:bG ts} {us:List Value},DensRel w N ts x us->aN (gM β w N) (zTf ts x) us
 | [],_,_,h=>by simp only [DensRel] at h; subst h; trivial
 | [t],x,_,h=>by obtain ⟨u,rfl,h⟩:=h; exact ⟨zQk h,trivial⟩
 | t :: s :: r,x,_,h=>by
  obtain ⟨u,us,rfl,h,h2⟩:=h
  exact ⟨zQk h,zGn h2⟩
theorem zXg {t:Ty} {ls:List L} {x:t.den} {cs:List Value} (h:zTg t ls=some x) (hr:aH β w N ls cs):t.Rel w N x cs:=by
 unfold zTg at h
 split at h
 ·rename_i y hi
  simp only [Option.some.injEq] at h
  subst h
  obtain ⟨c1,c2,e,h1,h2⟩:=pO hi hr
  simp only [aH] at h2
  subst h2
  rw [List.append_nil] at e
  subst e
  exact h1
 ·cases h
theorem Nl {t:Ty} {s:Sum L (List L)} {x:t.den} {u:Value} (h:zDu t s=some x) (hr:gM β w N s u):t.gZ w N x u:=by
 unfold zDu at h
 unfold Ty.gZ
 split at h
 ·rename_i ls ha
  rw [ha,if_pos rfl]
  obtain ⟨cs,e,hr⟩:=hr
  exact ⟨cs,e,zXg h hr⟩
 ·rename_i l ha
  rw [ha,if_neg (by simp)]
  exact L.zDe h hr
 ·cases h
theorem zGo:∀ {ts:List Ty} {ss:List (Sum L (List L))} {x:bG ts} {us:List Value},Ib ts ss=some x->aN (gM β w N) ss us->DensRel w N ts x us
 | [],[],_,[],_,_=>rfl
 | [t],[s],x,[u],h,hr=>⟨u,rfl,Nl h hr.1⟩
 | t :: u :: r,s :: ss,x,v :: vs,h,hr=>by
  simp only [Ib] at h
  split at h
  ·rename_i y z h1 h2
   simp only [Option.some.injEq] at h
   subst h
   exact ⟨v,vs,rfl,Nl h1 hr.1,zGo h2 hr.2⟩
  ·cases h
 | [],[],_,_ :: _,_,hr=>hr.elim
 | [],_ :: _,_,_,h,_=>by simp [Ib] at h
 | [t],[],_,_,h,_=>by simp [Ib] at h
 | [t],[s],_,[],_,hr=>hr.elim
 | [t],[s],_,_ :: _ :: _,_,hr=>hr.2.elim
 | [t],_ :: _ :: _,_,_,h,_=>by simp [Ib] at h
 | t :: u :: r,[],_,_,h,_=>by simp [Ib] at h
 | t :: u :: r,s :: ss,_,[],_,hr=>hr.elim
theorem V.zDv {v:V} {s:Sum L (List L)} {u:Value} (h:v.sum=some s) (hr:v.Rel β w N u):gM β w N s u:=by
 cases v <;> simp only [V.sum,Option.some.injEq,reduceCtorEq] at h <;> subst h <;> exact hr
theorem Ty.gZ.mono {w':World} {N':Nat->Nat->Prop} (hk:Keep N w w') (hN:∀ b j,b < w.heap.size->N' b j->N b j) {t:Ty} {x:t.den} {u:Value} (h:t.gZ w N x u):t.gZ w' N' x u:=by
 unfold Ty.gZ at *
 split
 ·rename_i ha
  rw [if_pos ha] at h
  obtain ⟨cs,e,h⟩:=h
  exact ⟨cs,e,h.mono hk hN⟩
 ·rename_i ha
  rw [if_neg ha] at h
  exact h.mono hk hN
theorem DensRel.mono {w':World} {N':Nat->Nat->Prop} (hk:Keep N w w') (hN:∀ b j,b < w.heap.size->N' b j->N b j):∀ {ts:List Ty} {x:bG ts} {us:List Value},DensRel w N ts x us->DensRel w' N' ts x us
 | [],_,_,h=>h
 | [t],x,_,h=>by obtain ⟨u,e,h⟩:=h; exact ⟨u,e,h.mono hk hN⟩
 | t :: s :: r,x,_,h=>by obtain ⟨u,us,e,h,h2⟩:=h; exact ⟨u,us,e,h.mono hk hN,h2.mono hk hN⟩
theorem Ty.Rel.flat {N':Nat->Nat->Prop} {w':World}:∀ {t:Ty} {x:t.den} {cs:List Value},t.flat=true->t.Rel w N x cs->t.Rel w' N' x cs
 | .unit,_,_,_,h=>h
 | .bool,_,_,_,h=>h
 | .int _,_,_,_,h=>h
 | .str,_,_,_,h=>h
 | .err,_,_,_,h=>h
 | .opq,_,_,hf,_=>by cases hf
 | .slice _,_,_,hf,_=>by cases hf
 | .clip _,_,_,hf,_=>by cases hf
 | .pair a b,_,_,hf,h=>by
  simp only [Ty.flat,Bool.and_eq_true] at hf
  obtain ⟨c1,c2,e,h1,h2⟩:=h
  exact ⟨c1,c2,e,Ty.Rel.flat hf.1 h1,Ty.Rel.flat hf.2 h2⟩
 | .arr n a,_,_,hf,h=>by
  simp only [Ty.flat] at hf
  obtain ⟨h0,css,e,h1⟩:=h
  exact ⟨h0,css,e,h1.mono fun x c hx=>Ty.Rel.flat hf hx⟩
theorem Ty.gZ.flat {N':Nat->Nat->Prop} {w':World} {t:Ty} {x:t.den} {u:Value} (hf:t.flat=true) (h:t.gZ w N x u):t.gZ w' N' x u:=by
 unfold Ty.gZ at *
 split
 ·rename_i ha
  rw [if_pos ha] at h
  obtain ⟨cs,e,h⟩:=h
  exact ⟨cs,e,h.flat hf⟩
 ·rename_i ha
  rw [if_neg ha] at h
  exact h.flat hf
theorem DensRel.flat {N':Nat->Nat->Prop} {w':World}:∀ {ts:List Ty} {x:bG ts} {us:List Value},bC Ty.flat ts=true->DensRel w N ts x us->DensRel w' N' ts x us
 | [],_,_,_,h=>h
 | [t],x,_,hf,h=>by
  simp only [bC,Bool.and_true] at hf
  obtain ⟨u,e,h⟩:=h; exact ⟨u,e,h.flat hf⟩
 | t :: s :: r,x,_,hf,h=>by
  simp only [bC,Bool.and_eq_true] at hf
  obtain ⟨u,us,e,h,h2⟩:=h
  exact ⟨u,us,e,h.flat hf.1,DensRel.flat (by simp only [bC,Bool.and_eq_true]; exact hf.2) h2⟩
end
def Pure (P:Program) (f:FuncId) (as rs:List Ty) (F:bG as->Option (bG rs)):Prop :=
 fA P f=true∧∀ x y,F x=some y->∀ (w:World) (N:Nat->Nat->Prop) (xs:List Value),Glob P w->(∀ b j,N b j->b < w.heap.size)->DensRel w N as x xs ->
  Calls P f xs.toArray w fun e w'=>∃ us:List Value,e=.returned (kX us)∧w'.os=w.os∧w'.tape=w.tape∧w'.output=w.output∧Keep (fun _ _=>False) w w'∧DensRel w' N rs y us
def zTh (T:Tab) (res:List ResultVar) (rs:List Ty) (σ:St):Option (bG rs) :=
 match Vf T σ res with
 | some (c,vs) =>
  match Ib rs vs with
  | some y=>chk c (some y)
  | none=>none
 | none=>none
def zTi (T:Tab) (res:List ResultVar) (rs:List Ty):K (bG rs):=fun e σ =>
 match e with
 | .normal=>zTh T res rs σ
 | .ret=>zTh T res rs σ
 | _=>none
section
variable {T:Tab} {P:Program}
theorem zKk {C:Ctx} {β β':Nat->Pl} {w:World} {σ:St} {a:Act} {fn:Func} {vs:List (Sum L (List L))} {N':Nat->Nat->Prop} (hT:aY C.P T) (hs:Sim C β σ a w) (hN:∀ b j,b < w.heap.size->N' b j->C.N0 b j) (h:Vf T σ fn.results.toList=some (true,vs)) :
  ∃ us:List Value,(results fn a.tmps).run C.P w=.ok (kX us) w∧aN (gM β' w N') vs us:=by
 obtain ⟨us,h1,h2,_⟩:=zGm (β':=β') hT hs hN h #[]
 refine ⟨us,?_,h2⟩
 have e0:results fn a.tmps=(do let vs <- fn.results.mapM (oD a.tmps); pure (if h:vs.size=1 then vs[0] else .tuple vs)):=by
  unfold results
  congr 1
 have hm:(fn.results.mapM (oD a.tmps):Sem (Array Value)).run C.P w=.ok us.toArray w:=by
  rw [Array.mapM_eq_foldlM,<- Array.foldlM_toList]
  have e:(fun (acc:Array Value) rv=>do let v <- oD a.tmps rv; pure (acc.push v):Array Value->ResultVar->Sem (Array Value))=(fun (acc:Array Value) rv=>acc.push <$> oD a.tmps rv):=by
   funext acc rv
   rfl
  rw [e] at h1
  simpa using h1
 rw [e0]
 simp only [Sem.run_bind,hm,Result.andThen_ok,Sem.run_pure]
 match us with
 | []=>rfl
 | [u]=>rfl
 | u :: v :: us=>simp [kX]
theorem Rx:∀ cs:List Co,bC (Co.fx 0) cs=true
 | []=>rfl
 | c :: cs=>by
  simp only [bC,Rx cs,Bool.and_true]
  cases c <;> first | rfl | simp [Co.fx]
theorem zZ {ρ:Type}:∀ an:An ρ,an.fx 0=true
 | .nil=>rfl
 | .mk l r c=>by simp only [An.fx,zZ l,zZ r,Rx,Bool.and_self]
 | .loop _ c0 c1 _ a=>by simp only [An.fx,zZ a,Rx,Bool.and_self]
 | .scope _ a b=>by simp only [An.fx,zZ a,zZ b,Bool.and_self]
 | .sem _=>rfl
 | .co c a=>by simp only [An.fx,zZ a,Rx,Bool.and_self]
 | .join _ c a=>by simp only [An.fx,zZ a,Rx,Bool.and_self]
theorem dR {f:FuncId} {fn:Func} {c:Code} {as rs:List Ty} {F:bG as->Option (bG rs)} {Γ:Orc (bG rs)} {an:An (bG rs)} (hf:P.funcs[f]?=some fn) (hb:fn.body=some c) (hh:fA P f=true) (hT:aY P T) (hΓ:gN P Γ) (hm:P.follows .mixedOrders=true) (ha:zKg P 0 c an)
  (h:∀ x,ev Γ T c an ⟨Ia (rX as x) fn.ntmps,[]⟩ (zTi T fn.results.toList rs)=F x):Pure P f as rs F:=by
 refine ⟨hh,fun x y hF w N xs hG hN hx=>?_⟩
 rw [<- h x] at hF
 let C:Ctx:={ P:=P,N0:=N,w0:=w,Ej:=fun _ _=>False,glob:=fun w' h=>hG.keep fun b hb=>h.block b hb (fun _ h=>h),fix:=[] }
 let β0:Nat->Pl:=fun _=>⟨false,false,0,none,0,0,0,[]⟩
 have hargs:lW β0 w N (rX as x) xs:=zY hx
 have hxl:(rX as x).length=xs.length:=hargs.length
 have zDj:Sim C β0 ⟨Ia (rX as x) fn.ntmps,[]⟩ { tmps:=xs.toArray++Array.replicate (fn.ntmps - xs.toArray.size) undef,defers:=[] } w:=by
  refine ⟨⟨by simp,fun _ _=>rfl,by simp,by simp,hN,Keep.refl _ _,Nat.le_refl _,rfl,rfl,rfl,fun j o hj=>by cases hj⟩,rfl,by simp [Ia,hxl],?_⟩
  intro i u hu
  simp only [Ia] at hu
  by_cases hi:i < (rX as x).length
  ·rw [List.getElem?_append_left hi] at hu
   have hi':i < xs.length:=by rw [<- hxl]; exact hi
   have hr:=hargs.get i hi hi'
   rw [List.getElem?_eq_getElem hi] at hu
   simp only [Option.some.injEq] at hu
   subst hu
   have:(xs.toArray++Array.replicate (fn.ntmps - xs.toArray.size) undef).getD i undef=xs[i]:=by
    rw [Array.getD_eq_getD_getElem?,Array.getElem?_append_left (by simpa using hi')]
    simp [hi']
   rw [this]
   refine hr.mono (Moves.refl β0) (Keep.refl _ w) (fun b j _ hb=>?_)
   rcases hb with hb | ⟨id,o,ho,_⟩
   ·exact hb
   ·simp at ho
  ·rw [List.getElem?_append_right (by omega),List.getElem?_replicate] at hu
   split at hu
   ·simp only [Option.some.injEq] at hu; subst hu; trivial
   ·cases hu
 refine calls_of_wp hf hb ?_
 refine zKi (P:=P) hT hΓ hm c an ha (zZ an) _ _ y hF C β0 _ w _ rfl (Nat.le_refl _) zDj ?_
 intro e x' σ' β' a' w' hs' hx' hk
 have fin:zTh T fn.results.toList rs σ'=some y->x'=.ret∨x'=.normal->bodyPost P fn (fun e w'=>∃ us:List Value,e=.returned (kX us)∧w'.os=w.os∧w'.tape=w.tape∧w'.output=w.output∧Keep (fun _ _=>False) w w'∧DensRel w' N rs y us) x' a' w':=by
  intro hk hx'
  unfold zTh at hk
  split at hk
  ·rename_i cc ss hrs
   split at hk
   ·rename_i y' hd
    obtain ⟨rfl,hk⟩:=iV hk
    obtain rfl:=Option.some.inj hk
    obtain ⟨us,h1,h2⟩:=zKk (C:=C) (β':=β0) (N':=N) (fn:=fn) hT hs' (fun _ _ _ hb=>hb) hrs
    have hkeep:Keep (fun _ _=>False) w w':=hs'.heap.frame
    have hR:=zGo hd h2
    rcases hx' with rfl | rfl
    ·exact ⟨hs'.defers,_,h1,us,rfl,hs'.heap.os,hs'.heap.tape,hs'.heap.output,hkeep,hR⟩
    ·exact ⟨hs'.defers,_,h1,us,rfl,hs'.heap.os,hs'.heap.tape,hs'.heap.output,hkeep,hR⟩
   ·cases hk
  ·cases hk
 cases e with
 | normal=>obtain rfl:=hx'; exact fin hk (.inr rfl)
 | ret=>obtain rfl:=hx'; exact fin hk (.inl rfl)
 | exit i=>simp [zTi] at hk
 | goto l=>simp [zTi] at hk
 | pan t u=>simp [zTi] at hk
def eP (as rs:List Ty) (F:bG as->Option (bG rs)):PE where
 R:=bG rs
 use:=1
 run vs h:=match fJ (bC Ty.flat rs) h as vs with
  | some (c,x)=>some (c,F x)
  | none=>none
 enc y _ h:=(yAp (zTf rs y),h)
theorem zKl {C:Ctx} {β:Nat->Pl} {h:List Ob} {w:World} {bor:Bool} {t:Ty} {v:V} {x:t.den} {u:Value} (hd:Ya bor h t v=some (true,x)) (hs:dF C β h w) (hr:v.Rel β w (C.N β h) u) :
  t.gZ w (yIc bor (C.N β h)) x u:=by
 unfold Ya at hd
 cases bor with
 | true =>
  simp only at hd ⊢
  split at hd
  ·rename_i c v' hv
   split at hd
   ·rename_i s hsum
    split at hd
    ·rename_i y hy
     simp only [Option.some.injEq,Prod.mk.injEq] at hd
     obtain ⟨rfl,rfl⟩:=hd
     obtain ⟨h1,_⟩:=V.qV (β':=β) (N':=fun _ _=>False) hv hs (fun _ _ _ h=>h.elim) hr
     exact Nl hy (V.zDv hsum h1)
    ·cases hd
   ·cases hd
  ·cases hd
 | false =>
  simp only at hd ⊢
  split at hd
  ·rename_i s hD hsum
   split at hd
   ·rename_i y hy
    simp only [Option.some.injEq,Prod.mk.injEq,true_and] at hd
    subst hd
    exact Nl hy (V.zDv hsum hr)
   ·cases hd
  ·cases hd
theorem Aa {C:Ctx} {β:Nat->Pl} {h:List Ob} {w:World} {bor:Bool} (hs:dF C β h w):∀ {ts:List Ty} {vs:List V} {x:bG ts} {us:List Value},fJ bor h ts vs=some (true,x)->lW β w (C.N β h) vs us ->
  DensRel w (yIc bor (C.N β h)) ts x us
 | [],[],_,[],_,_=>rfl
 | [t],[v],x,[u],hd,hr=>⟨u,rfl,zKl hd hs hr.1⟩
 | t :: s :: r,v :: vs,x,u :: us,hd,hr=>by
  simp only [fJ] at hd
  split at hd
  ·rename_i c y d z h1 h2
   simp only [Option.some.injEq,Prod.mk.injEq,Bool.and_eq_true] at hd
   obtain ⟨⟨rfl,rfl⟩,rfl⟩:=hd
   exact ⟨u,us,rfl,zKl h1 hs hr.1,Aa hs h2 hr.2⟩
  ·cases hd
 | [],[],_,_ :: _,_,hr=>hr.elim
 | [],_ :: _,_,_,h,_=>by simp [fJ] at h
 | [t],[],_,_,h,_=>by simp [fJ] at h
 | [t],[s],_,[],_,hr=>hr.elim
 | [t],[s],_,_ :: _ :: _,_,hr=>hr.2.elim
 | [t],_ :: _ :: _,_,_,h,_=>by simp [fJ] at h
 | t :: u :: r,[],_,_,h,_=>by simp [fJ] at h
 | t :: u :: r,s :: ss,_,[],_,hr=>hr.elim
theorem zKm {h:List Ob}:∀ {l:L},l.isD=true->l.deep h=some (true,l)
 | .val ..,_=>rfl
 | .jJ,_=>rfl
 | .aO,_=>rfl
 | .iU ..,_=>rfl
 | .clo f [],_=>rfl
 | .clo f (_ :: _),h=>by cases h
 | .ptr ..,h=>by cases h
 | .jI ..,h=>by cases h
 | .eZ ..,h=>by cases h
 | .sl ..,h=>by cases h
 | .own ..,h=>by cases h
 | .bad _,h=>by cases h
 | .bU ..,h=>by cases h
theorem zGp {h:List Ob}:∀ {ls:List L},bC L.isD ls=true->Nj h ls=some (true,ls)
 | [],_=>rfl
 | l :: ls,hd=>by
  simp only [bC,Bool.and_eq_true] at hd
  simp only [Nj,zKm hd.1,zGp hd.2,Bool.and_self]
theorem zKn {bor:Bool} {t:Ty} {v:V} (hd:v.isD=true) (h h2:List Ob):Ya bor h t v=Ya bor h2 t v:=by
 cases bor with
 | false=>rfl
 | true =>
  unfold Ya
  cases v with
  | one l=>simp only [V.deep,zKm (show l.isD=true from hd)]
  | agg ls=>simp only [V.deep,zGp (show bC L.isD ls=true from hd)]
  | _=>rfl
theorem zGq {bor:Bool}:∀ {ts:List Ty} {vs:List V} (_:bC V.isD vs=true) (h h2:List Ob),fJ bor h ts vs=fJ bor h2 ts vs
 | [],[],_,_,_=>rfl
 | [t],[v],hd,h,h2=>by
  simp only [bC,Bool.and_true] at hd
  simp only [fJ,zKn hd h h2]
 | t :: s :: r,v :: vs,hd,h,h2=>by
  simp only [bC,Bool.and_eq_true] at hd
  simp only [fJ,zKn hd.1 h h2,zGq (ts:=s :: r) hd.2 h h2]
 | [],_ :: _,_,_,_=>rfl
 | [t],[],_,_,_=>rfl
 | [t],_ :: _ :: _,_,_,_=>rfl
 | t :: s :: r,[],_,_,_=>rfl
theorem zKo {β:Nat->Pl} {w:World} {N:Nat->Nat->Prop} {ss:List (Sum L (List L))} {us:List Value} (h:aN (gM β w N) ss us):(yAp ss).Rel β w N (kX us):=by
 match ss,us,h with
 | [],[],_=>exact ⟨[],rfl,trivial⟩
 | [.inl l],[u],h=>exact h.1
 | [.inr ls],[u],h=>exact h.1
 | s :: t :: ss,u :: v :: us,h=>cases s <;> exact ⟨_,rfl,h⟩
theorem bR {f:FuncId} {as rs:List Ty} {F:bG as->Option (bG rs)} (h:Pure P f as rs F):(eP as rs F).OK P f:=by
 refine ⟨h.1,fun vs hp y hr C β w xs hP hs ha=>?_,fun _ vs h1 h2 hd=>⟨by simp only [eP]; rw [zGq hd h1 h2],fun _=>rfl⟩,fun _ _ _ _=>rfl,fun h=>by cases h⟩
 subst hP
 simp only [eP] at hr
 split at hr
 ·rename_i c x hd
  simp only [Option.some.injEq,Prod.mk.injEq] at hr
  obtain ⟨rfl,hF⟩:=hr
  have hx:=Aa hs hd ha
  have hn:∀ b j,C.N β hp b j->b < w.heap.size:=fun b j hb=>by
   rcases hb with hb | ⟨id,o,ho,_,hbk⟩
   ·exact Nat.lt_of_lt_of_le (hs.n0 b j hb) hs.size
   ·exact (hs.eD id o b ho ⟨j,hbk⟩).2.1
  refine (h.2 x y hF w _ xs (C.glob w hs.frame) (fun b j hb=>?_) hx).mono ?_
  ·cases hfl:bC Ty.flat rs with
   | true=>rw [hfl] at hb; exact hb.elim
   | false=>rw [hfl] at hb; exact hn b j hb
  ·rintro e w' ⟨us,rfl,ho,ht,hop,hk,hy⟩
   have hy':DensRel w' (C.N β hp) rs y us:=by
    cases hfl:bC Ty.flat rs with
    | true=>exact hy.flat hfl
    | false=>rw [hfl] at hy; exact hy
   refine ⟨_,_,β,⟨rfl,rfl⟩,Moves.refl β,hk.weaken fun _ _ h=>h.elim,fun _ _ _ h=>h,?_,_,rfl,zKo (zGn hy')⟩
   refine ⟨fun id o hob=>(hs.obj id o hob).mono (Moves.refl β) (hk.weaken fun _ _ h=>h.elim) (fun _ _ _ h=>h) fun b hb=>hk.block b (hs.eD id o b hob hb).2.1 (fun _ h=>h),hs.dead,hs.kG,?_,hs.n0,hs.frame.wM hk fun _ _ _ h=>h.elim,Nat.le_trans hs.size hk.size,ho.trans hs.os,ht.trans hs.tape,hop.trans hs.output,hs.fixed⟩
   ·intro id o b hob hb
    obtain ⟨k1,k2,k3⟩:=hs.eD id o b hob hb
    exact ⟨k1,Nat.lt_of_lt_of_le k2 hk.size,k3⟩
 ·cases hr
def pes:List (FuncId × PE)->FuncId->Option PE
 | [],_=>none
 | (g,e) :: r,f=>match Nat.beq g f with
  | true=>some e
  | false=>pes r f
def orc (ρ:Type) (l:List (FuncId × PE)):Orc ρ:=⟨pes l,fun _ _ _ _=>none⟩
theorem yId {ρ:Type}:∀ {l:List (FuncId × PE)},(∀ p ∈ l,p.2.OK P p.1)->gN P (orc ρ l):=by
 intro l h
 refine ⟨fun f e he=>?_,fun _ _ _ _ _ h=>by cases h⟩
 simp only [orc] at he
 induction l with
 | nil=>cases he
 | cons p r ih =>
  obtain ⟨g,e'⟩:=p
  simp only [pes] at he
  split at he
  ·rename_i hb
   have:=Nat.eq_of_beq_eq_true hb
   subst this
   simp only [Option.some.injEq] at he
   subst he
   exact h _ (.head _)
  ·exact ih (fun p hp=>h p (.tail _ hp)) he
theorem all_nil {Q:FuncId × PE->Prop}:∀ p ∈ ([]:List (FuncId × PE)),Q p:=fun _ h=>by cases h
theorem all_cons {Q:FuncId × PE->Prop} {p:FuncId × PE} {l:List (FuncId × PE)} (h:Q p) (hl:∀ q ∈ l,Q q):∀ q ∈ p :: l,Q q:=fun q hq=>by
 cases hq with
 | head=>exact h
 | tail _ hq=>exact hl q hq
end
end Go.Dec
namespace Go.Dec
mutual
def L.back (f v:Nat->Nat):L->L
 | .ptr id o=>.ptr (f id) o
 | .bU id o=>.bU (f id) o
 | .jI id o es i sub=>.jI (f id) o es i sub
 | .eZ id u i o=>.eZ (f id) (u+v id) i o
 | .sl id u i n=>.sl (f id) (u+v id) i n
 | .own id u=>.own (f id) (u+v id)
 | .clo g caps=>.clo g (L.backs f v caps)
 | .mp id=>.mp (f id)
 | l=>l
def L.backs (f v:Nat->Nat):List L->List L
 | []=>[]
 | l :: ls=>l.back f v :: L.backs f v ls
end
def V.back (f v:Nat->Nat):V->V
 | .one l=>.one (l.back f v)
 | .agg ls=>.agg (L.backs f v ls)
 | _=>.bE
def Ob.back (f v:Nat->Nat) (id:Nat):Ob->Ob
 | .box e ls=>.box e (L.backs f v ls)
 | .arr e t u rows wr=>.arr e t (u+v id) rows wr
 | .fm tab=>.fm tab
section
variable {β β':Nat->Pl} {w:World} {N N':Nat->Nat->Prop}
structure Ry (p q:Pl) (v:Nat):Prop where
 live:q.live=p.live
 box:q.box=p.box
 blk:q.blk=p.blk
 row:p.box=false->q.ver=p.ver+v∧q.size=p.size∧q.cap=p.cap∧q.len=p.len
theorem Ry.yDj {p q:Pl} {v:Nat} (h:Ry p q v) (hb:p.box=false) {off len:Nat} {c:Value}:dM q off len c <-> dM p off len c:=by
 obtain ⟨_,h2,h3,_⟩:=h.row hb
 unfold dM
 rw [h.blk,h2,h3]
mutual
theorem L.Rel.back {f v:Nat->Nat} (hβ:∀ j,(β j).live=true->Ry (β j) (β' (f j)) (v j)) (hN:∀ b j,b < w.heap.size->N' b j->N b j):∀ {l:L} {cs:List Value},l.Rel β w N cs->(l.back f v).Rel β' w N' cs
 | .val t x,cs,h=>by simp only [L.back,L.Rel] at *; exact Ty.Rel.mono (Keep.refl _ w) hN h
 | .ptr id off,cs,h=>by
  simp only [L.back,L.Rel] at *
  obtain ⟨h1,h2,h3⟩:=h
  have:=hβ id h1
  exact ⟨this.live ▸ h1,this.box ▸ h2,by rw [this.blk]; exact h3⟩
 | .jI id off es i sub,cs,h=>by
  simp only [L.back,L.Rel] at *
  obtain ⟨h1,h2,h3⟩:=h
  have:=hβ id h1
  exact ⟨this.live ▸ h1,this.box ▸ h2,by rw [this.blk]; exact h3⟩
 | .jJ,cs,h=>by simp only [L.back,L.Rel] at *; exact h
 | .bU id off,cs,h=>by
  simp only [L.back,L.Rel] at *
  obtain ⟨c,e,h⟩:=h
  refine ⟨c,e,?_⟩
  rcases h with h | ⟨h1,h2,h3⟩
  ·exact .inl h
  ·have:=hβ id h1
   exact .inr ⟨this.live ▸ h1,this.box ▸ h2,by rw [this.blk]; exact h3⟩
 | .eZ id u i off,cs,h=>by
  simp only [L.back,L.Rel] at *
  obtain ⟨h1,h2,h3,c,h4,h5,h6⟩:=h
  have:=hβ id h1
  obtain ⟨g1,g2,g3,g4⟩:=this.row h2
  refine ⟨this.live ▸ h1,this.box ▸ h2,by omega,c,h4,h5,fun hv=>?_⟩
  rw [this.blk,g2]
  exact h6 (by omega)
 | .iU t x off,cs,h=>by simp only [L.back,L.Rel] at *; obtain ⟨c,hc,hr⟩:=h; exact ⟨c,hc,hr.mono (Keep.refl _ w) hN⟩
 | .sl id u off len,cs,h=>by
  simp only [L.back,L.Rel] at *
  obtain ⟨h1,h2,h3,c,h4,h5,h6⟩:=h
  have:=hβ id h1
  obtain ⟨g1,g2,g3,g4⟩:=this.row h2
  exact ⟨this.live ▸ h1,this.box ▸ h2,by omega,c,h4,h5,fun hv=>(this.yDj h2).2 (h6 (by omega))⟩
 | .own id u,cs,h=>by
  simp only [L.back,L.Rel] at *
  obtain ⟨h1,h2,h3,c,h4,h5,h6⟩:=h
  have:=hβ id h1
  obtain ⟨g1,g2,g3,g4⟩:=this.row h2
  exact ⟨this.live ▸ h1,this.box ▸ h2,by omega,c,h4,h5,fun hv=>by rw [g4]; exact (this.yDj h2).2 (h6 (by omega))⟩
 | .aO,cs,h=>by simp only [L.back,L.Rel] at *; exact h
 | .clo g caps,cs,h=>by
  simp only [L.back,L.Rel] at *
  obtain ⟨us,hc,hr⟩:=h
  exact ⟨us,hc,L.bS.back hβ hN hr⟩
 | .bad n,cs,h=>by simp only [L.back,L.Rel] at *; exact h
 | .Bc x tab,cs,h=>by simp only [L.back,L.Rel] at *; exact h
 | .mp id,cs,h=>by
  simp only [L.back,L.Rel] at *
  obtain ⟨h1,h2,h3⟩:=h
  have:=hβ id h1
  exact ⟨this.live ▸ h1,this.box ▸ h2,by rw [this.blk]; exact h3⟩
theorem L.bS.back {f v:Nat->Nat} (hβ:∀ j,(β j).live=true->Ry (β j) (β' (f j)) (v j)) (hN:∀ b j,b < w.heap.size->N' b j->N b j):∀ {ls:List L} {us:List Value},L.bS β w N ls us->L.bS β' w N' (L.backs f v ls) us
 | [],us,h=>by simp only [L.backs,L.bS] at *; exact h
 | l :: ls,us,h=>by
  simp only [L.backs,L.bS] at *
  obtain ⟨u,r,e,h1,h2⟩:=h
  exact ⟨u,r,e,L.Rel.back hβ hN h1,L.bS.back hβ hN h2⟩
end
theorem aH.back {f v:Nat->Nat} (hβ:∀ j,(β j).live=true->Ry (β j) (β' (f j)) (v j)) (hN:∀ b j,b < w.heap.size->N' b j->N b j):∀ {ls:List L} {cs:List Value},aH β w N ls cs->aH β' w N' (L.backs f v ls) cs
 | [],_,h=>h
 | _l :: _ls,_,⟨c1,c2,e,h1,h2⟩=>⟨c1,c2,e,h1.back hβ hN,aH.back hβ hN h2⟩
theorem V.Rel.back {f v:Nat->Nat} (hβ:∀ j,(β j).live=true->Ry (β j) (β' (f j)) (v j)) (hN:∀ b j,b < w.heap.size->N' b j->N b j) {x:V} {u:Value} (h:x.Rel β w N u):(x.back f v).Rel β' w N' u:=by
 cases x with
 | one l=>exact L.Rel.back hβ hN h
 | agg ls=>obtain ⟨cs,e,h⟩:=h; exact ⟨cs,e,h.back hβ hN⟩
 | _=>trivial
theorem Ob.Rel.back {f v:Nat->Nat} (hβ:∀ j,(β j).live=true->Ry (β j) (β' (f j)) (v j)) (hN:∀ b j,b < w.heap.size->N' b j->N b j) {id:Nat} {o:Ob} (h:o.Rel β w N (β id)):(o.back f v id).Rel β' w N' (β' (f id)):=by
 cases o with
 | box e ls =>
  simp only [Ob.back,Ob.Rel] at *
  obtain ⟨h1,h2,b,cs,h3,h4,h5⟩:=h
  have:=hβ id h1
  exact ⟨this.live ▸ h1,this.box ▸ h2,b,cs,this.blk ▸ h3,h4.back hβ hN,h5⟩
 | arr e t u rows wr =>
  simp only [Ob.back,Ob.Rel] at *
  obtain ⟨h1,h2,h3,h4,h5,h6,h7⟩:=h
  have:=hβ id h1
  obtain ⟨g1,g2,g3,g4⟩:=this.row h2
  refine ⟨this.live ▸ h1,this.box ▸ h2,by omega,by rw [g2,h4],h5,by rw [g4,h6],?_⟩
  rw [this.blk,g3]
  rcases h7 with h7 | ⟨b,cur,css,k1,k2,k3,k4⟩
  ·exact .inl h7
  ·exact .inr ⟨b,cur,css,k1,k2,k3.mono fun _ _ h=>h.mono (Keep.refl _ w) hN,k4⟩
 | fm tab =>
  simp only [Ob.back,Ob.Rel] at *
  obtain ⟨h1,h2,b,es,n,h3,h4⟩:=h
  have:=hβ id h1
  exact ⟨this.live ▸ h1,this.box ▸ h2,b,es,n,this.blk ▸ h3,h4⟩
end
def cZ (P:Program) (f:FuncId) (si so:Sh) (F:si.X->Option so.X):Prop :=
 fA P f=true∧∀ x y,F x=some y->∀ (C:Ctx) (β:Nat->Pl) (w:World) (xs:List Value),C.P=P->C.fix.length <= si.os.length->Sim C β (si.enc x) { tmps:=xs.toArray,defers:=[] } w ->
  Calls P f xs.toArray w fun e w'=>∃ (us:List Value) (β':Nat->Pl),e=.returned (kX us)∧Sim C β' (so.enc y) { tmps:=us.toArray,defers:=[] } w'
def zAh:List V->Option (List (Sum L (List L)))
 | []=>some []
 | v :: r=>match v.sum,zAh r with
  | some s,some ss=>some (s :: ss)
  | _,_=>none
def yAr (vs:List V):V :=
 match zAh vs with
 | some ss=>yAp ss
 | none=>.bE
def Nn (g:Nat->Option Ob):Nat->List Ob->List Ob
 | _,[]=>[]
 | i,o :: r=>(match g i with | some o'=>o' | none=>o) :: Nn g (i+1) r
def oF (f v:Nat->Nat):Nat->List Ob->List Ob
 | _,[]=>[]
 | j,o :: r=>o.back f v j :: oF f v (j+1) r
def yG:List Ob->List OS->Bool
 | [],_=>true
 | .box .. :: r,_ :: s=>yG r s
 | .fm .. :: r,_ :: s=>yG r s
 | .arr .. :: r,.row .. :: s=>yG r s
 | _,_=>false
def jN (ρ:List Nat) (n:Nat) (j:Nat):Nat:=match ρ[j]? with | some i=>i | none=>n+(j - ρ.length)
def iW (ρ:List Nat) (h:List Ob) (j:Nat):Nat:=match ρ[j]? with
 | some i=>(match h[i]? with | some (.arr _ _ u _ _)=>u+1 | _=>0)
 | none=>0
def jV (ρ:List Nat) (h hy:List Ob):List Ob :=
 Nn (fun i=>match pos i ρ 0 with | some j=>(match hy[j]? with | some o=>some (o.back (jN ρ h.length) (iW ρ h) j) | none=>none) | none=>none) 0 h++oF (jN ρ h.length) (iW ρ h) ρ.length (hy.drop ρ.length)
def zKp (ρ:List Nat) (h:List Ob) (si so:Sh):Bool :=
 nodupB ρ && (bC (fun i=>Nat.blt i h.length) ρ && (Nat.beq ρ.length si.os.length && (bC Ob.wr (inH ρ h) && yG (inH ρ h) so.os)))
def peM (si so:Sh) (F:si.X->Option so.X):PE where
 R:=so.X
 use:=3
 run vs h:=match si.dec ⟨vs.map (V.ren (reach vs h) h),inH (reach vs h) h⟩ with
  | some x=>some (zKp (reach vs h) h si so,F x)
  | none=>none
 enc y vs h:=(yAr ((so.enc y).r.map (V.back (jN (reach vs h) h.length) (iW (reach vs h) h))),jV (reach vs h) h (so.enc y).h)
theorem zKq {g:Nat->Option Ob}:∀ {h:List Ob} {n i:Nat},(Nn g n h)[i]?=(h[i]?).map fun o=>(match g (n+i) with | some o'=>o' | none=>o)
 | [],n,i=>by simp [Nn]
 | o :: r,n,0=>by simp [Nn]
 | o :: r,n,i+1=>by
  simp only [Nn,List.getElem?_cons_succ]
  rw [zKq (h:=r),show n+1+i=n+(i+1) by omega]
theorem tX {g:Nat->Option Ob}:∀ {h:List Ob} {n:Nat},(Nn g n h).length=h.length
 | [],_=>rfl
 | _ :: r,n=>congrArg (· + 1) (tX (h:=r) (n:=n+1))
theorem Rz {f v:Nat->Nat}:∀ {h:List Ob} {n i:Nat},(oF f v n h)[i]?=(h[i]?).map fun o=>o.back f v (n+i)
 | [],n,i=>by simp [oF]
 | o :: r,n,0=>by simp [oF]
 | o :: r,n,i+1=>by
  simp only [oF,List.getElem?_cons_succ]
  rw [Rz (h:=r),show n+1+i=n+(i+1) by omega]
theorem Ic {f v:Nat->Nat}:∀ {h:List Ob} {n:Nat},(oF f v n h).length=h.length
 | [],_=>rfl
 | _ :: r,n=>congrArg (· + 1) (Ic (h:=r) (n:=n+1))
theorem Ob.Sb {f v:Nat->Nat} {j:Nat} (o:Ob):(o.back f v j).kF=o.kF:=by cases o <;> rfl
theorem Ob.yH {f v:Nat->Nat} {j:Nat} (o:Ob):(o.back f v j).wr=o.wr:=by cases o <;> rfl
theorem zI:∀ {hc:List Ob} {os:List OS} {j:Nat} {e:TypeId} {t:Ty} {u:Nat} {rows:List t.den} {wr:Bool},yG hc os=true->hc[j]?=some (.arr e t u rows wr)->∃ e' t',os[j]?=some (.row e' t')
 | [],_,j,_,_,_,_,_,_,h=>by simp at h
 | .box .. :: r,[],j,_,_,_,_,_,hk,_=>by cases hk
 | .box .. :: r,s :: os,0,_,_,_,_,_,_,h=>by simp at h
 | .box .. :: r,s :: os,j+1,_,_,_,_,_,hk,h=>by
  obtain ⟨e',t',h'⟩:=zI (hc:=r) (os:=os) (j:=j) hk (by simpa using h)
  exact ⟨e',t',by simpa using h'⟩
 | .fm .. :: r,[],j,_,_,_,_,_,hk,_=>by cases hk
 | .fm .. :: r,s :: os,0,_,_,_,_,_,_,h=>by simp at h
 | .fm .. :: r,s :: os,j+1,_,_,_,_,_,hk,h=>by
  obtain ⟨e',t',h'⟩:=zI (hc:=r) (os:=os) (j:=j) hk (by simpa using h)
  exact ⟨e',t',by simpa using h'⟩
 | .arr .. :: r,.fm .. :: os,j,_,_,_,_,_,hk,_=>by cases hk
 | .arr .. :: r,[],j,_,_,_,_,_,hk,_=>by cases hk
 | .arr .. :: r,.box .. :: os,j,_,_,_,_,_,hk,_=>by cases hk
 | .arr .. :: r,.row e t :: os,0,_,_,_,_,_,_,_=>⟨e,t,rfl⟩
 | .arr .. :: r,.row e t :: os,j+1,_,_,_,_,_,hk,h=>by
  obtain ⟨e',t',h'⟩:=zI (hc:=r) (os:=os) (j:=j) hk (by simpa using h)
  exact ⟨e',t',by simpa using h'⟩
theorem Ie {A:Type}:∀ {os:List OS} {x:OTs os A} {j:Nat} {e:TypeId} {t:Ty},os[j]?=some (.row e t)->∃ rows,(gP os x).1[j]?=some (.arr e t 0 rows true)
 | [],_,j,_,_,h=>by simp at h
 | .box e0 ls :: r,x,0,_,_,h=>by simp at h
 | .box e0 ls :: r,x,j+1,e,t,h=>by
  obtain ⟨rows,h'⟩:=Ie (os:=r) (x:=(cO ls x).2) (j:=j) (by simpa using h)
  exact ⟨rows,by simpa [gP] using h'⟩
 | .fm tab :: r,x,0,_,_,h=>by simp at h
 | .fm tab :: r,x,j+1,e,t,h=>by
  obtain ⟨rows,h'⟩:=Ie (os:=r) (x:=x) (j:=j) (by simpa using h)
  exact ⟨rows,by simpa [gP] using h'⟩
 | .row e0 t0 :: r,x,0,e,t,h=>by
  simp only [List.getElem?_cons_zero,Option.some.injEq,OS.row.injEq] at h
  obtain ⟨rfl,rfl⟩:=h
  exact ⟨x.1,rfl⟩
 | .row e0 t0 :: r,x,j+1,e,t,h=>by
  obtain ⟨rows,h'⟩:=Ie (os:=r) (x:=x.2) (j:=j) (by simpa using h)
  exact ⟨rows,by simpa [gP] using h'⟩
theorem Np {A:Type}:∀ {os:List OS} {x:OTs os A} {j:Nat} {o:Ob},(gP os x).1[j]?=some o->o.wr=true
 | [],_,j,_,h=>by simp [gP] at h
 | .box e0 ls :: r,x,0,_,h=>by simp only [gP,List.getElem?_cons_zero,Option.some.injEq] at h; subst h; rfl
 | .box e0 ls :: r,x,j+1,o,h=>Np (os:=r) (x:=(cO ls x).2) (j:=j) (by simpa [gP] using h)
 | .fm tab :: r,x,0,_,h=>by simp only [gP,List.getElem?_cons_zero,Option.some.injEq] at h; subst h; rfl
 | .fm tab :: r,x,j+1,o,h=>Np (os:=r) (x:=x) (j:=j) (by simpa [gP] using h)
 | .row e0 t0 :: r,x,0,_,h=>by simp only [gP,List.getElem?_cons_zero,Option.some.injEq] at h; subst h; rfl
 | .row e0 t0 :: r,x,j+1,o,h=>Np (os:=r) (x:=x.2) (j:=j) (by simpa [gP] using h)
theorem zGr {β:Nat->Pl} {w:World} {N:Nat->Nat->Prop}:∀ {vs:List V} {us:List Value} {ss:List (Sum L (List L))},zAh vs=some ss->aN (fun v u=>V.Rel β w N v u) vs us->aN (gM β w N) ss us
 | [],[],ss,h,_=>by simp only [zAh,Option.some.injEq] at h; subst h; trivial
 | v :: vs,u :: us,ss,h,hr=>by
  simp only [zAh] at h
  split at h
  ·rename_i s ss' h1 h2
   simp only [Option.some.injEq] at h
   subst h
   exact ⟨V.zDv h1 hr.1,zGr h2 hr.2⟩
  ·cases h
 | [],_ :: _,_,_,hr=>hr.elim
 | _ :: _,[],_,_,hr=>hr.elim
theorem yAs {β:Nat->Pl} {w:World} {N:Nat->Nat->Prop} {vs:List V} {us:List Value} (hr:aN (fun v u=>V.Rel β w N v u) vs us):(yAr vs).Rel β w N (kX us):=by
 unfold yAr
 split
 ·rename_i ss h
  exact zKo (zGr h hr)
 ·trivial
theorem zQl {α γ:Type} {R:α->γ->Prop}:∀ {x:List α} {y:List γ},x.length=y.length->(∀ (i:Nat) (a:α) (b:γ),x[i]?=some a->y[i]?=some b->R a b)->aN R x y
 | [],[],_,_=>trivial
 | a :: x,b :: y,hl,h=>⟨h 0 a b rfl rfl,zQl (by simpa using hl) fun i c d hc hd=>h (i+1) c d (by simpa using hc) (by simpa using hd)⟩
 | [],_ :: _,hl,_=>by simp at hl
 | _ :: _,[],hl,_=>by simp at hl
end Go.Dec
namespace Go.Dec
section
variable {P:Program} {f:FuncId} {si so:Sh} {F:si.X->Option so.X}
theorem zOz {ρ:List Nat} {h:List Ob} (hc:zKp ρ h si so=true):nodupB ρ=true∧(∀ i ∈ ρ,i < h.length)∧ρ.length=si.os.length∧(∀ (j:Nat) (o:Ob),(inH ρ h)[j]?=some o->o.wr=true)∧yG (inH ρ h) so.os=true:=by
 simp only [zKp,Bool.and_eq_true] at hc
 obtain ⟨h1,h2,h3,h4,h5⟩:=hc
 refine ⟨h1,fun i hi=>?_,Nat.eq_of_beq_eq_true h3,fun j o ho=>qQ h4 j o ho,h5⟩
 obtain ⟨n,hn⟩:=List.getElem?_of_mem hi
 exact Nat.le_of_ble_eq_true (qQ h2 n i hn)
def uQ:Ob->Bool
 | .box .. => true
 | .arr .. => false
 | .fm _=>true
def Ig (β:Nat->Pl) (h:List Ob) (i:Nat):Option Nat:=match uQ (Nf h i) with | true=>(β i).blk | false=>none
def inC (C:Ctx) (β:Nat->Pl) (h:List Ob) (w:World) (ρ:List Nat) (hs:dF C β h w):Ctx where
 P:=C.P
 N0 b j:=C.N β h b j∧∀ i ∈ ρ,∀ o,h[i]?=some o->¬ o.blks (β i) b
 w0:=w
 Ej b j:=∃ (i:Nat) (o:Ob),i ∈ ρ∧h[i]?=some o∧o.wr=true∧o.at (β i) b j
 glob w' hw:=C.glob w' (hs.frame.wM hw fun b j hb hm=>by
  obtain ⟨i,o,_,ho,hwo,hbk⟩:=hm
  rcases (hs.eD i o b ho ⟨j,hbk⟩).2.2 with h1 | h1
  ·omega
  ·exact h1 j hwo hbk)
 fix:=ρ.map (Ig β h)
theorem yIe {C:Ctx} {β:Nat->Pl} {w:World} {h:List Ob} {ρ:List Nat} {vs:List V} {xs:List Value} (hs:dF C β h w) (ha:lW β w (C.N β h) vs xs) (hnd:nodupB ρ=true) (hlt:∀ i ∈ ρ,i < h.length) :
  Sim (inC C β h w ρ hs) (yE β ρ) ⟨vs.map (V.ren ρ h),inH ρ h⟩ { tmps:=xs.toArray,defers:=[] } w:=by
 have zKc:=zKb hs hlt
 have hget:∀ i ∈ ρ,∃ o,h[i]?=some o:=fun i hi=>⟨h[i]'(hlt i hi),by simp [hlt i hi]⟩
 have hβ:∀ {j i:Nat},ρ[j]?=some i->yE β ρ j={ β i with ver:=0 }:=fun hi=>by simp only [yE,hi]
 have hNw:∀ b j,C.N β h b j->b < w.heap.size:=fun b j hb=>by
  rcases hb with hb | ⟨id,o,ho,_,hbk⟩
  ·exact Nat.lt_of_lt_of_le (hs.n0 b j hb) hs.size
  ·exact (hs.eD id o b ho ⟨j,hbk⟩).2.1
 have hN:∀ b j,b < w.heap.size->(inC C β h w ρ hs).N (yE β ρ) (inH ρ h) b j->C.N β h b j:=fun b k _ hb=>by
  rcases hb with hb | ⟨j,o,ho,hw,hbk⟩
  ·exact hb.1
  ·obtain ⟨i,hi,rfl⟩:=pU ho
   obtain ⟨o',ho'⟩:=hget i (List.mem_of_getElem? hi)
   rw [dX ho',Ob.Ru] at hw
   rw [dX ho',hβ hi] at hbk
   exact .inr ⟨i,o',ho',hw,Ob.rU (Ob.nZ ρ h o') rfl rfl hbk⟩
 refine ⟨⟨?_,?_,?_,?_,fun b j hb=>hNw b j hb.1,Keep.refl _ _,Nat.le_refl _,rfl,rfl,rfl,?_⟩,rfl,by simpa using aN.length ha,?_⟩
 ·intro j o ho
  obtain ⟨i,hi,rfl⟩:=pU ho
  obtain ⟨o',ho'⟩:=hget i (List.mem_of_getElem? hi)
  rw [dX ho',hβ hi]
  have hob:=hs.obj i o' ho'
  cases o' with
  | box e ls =>
   simp only [Ob.ren,Ob.Rel] at *
   obtain ⟨h1,h2,b,cs,h3,h4,h5⟩:=hob
   exact ⟨h1,h2,b,cs,h3,h4.wR zKc hN,h5⟩
  | arr e t v rows wr =>
   simp only [Ob.ren,Ob.Rel] at *
   obtain ⟨h1,h2,h3,h4,h5,h6,h7⟩:=hob
   refine ⟨h1,h2,trivial,h4,h5,h6,?_⟩
   rcases h7 with h7 | ⟨b,cur,css,k1,k2,k3,k4⟩
   ·exact .inl h7
   ·exact .inr ⟨b,cur,css,k1,k2,k3.mono fun _ _ h=>h.mono (Keep.refl _ w) hN,k4⟩
  | fm tab=>simp only [Ob.ren,Ob.Rel] at *; exact hob
 ·intro j hj
  simp only [inH,List.length_map] at hj
  simp only [yE,List.getElem?_eq_none hj]
 ·intro i j o1 o2 b h1 h2 hb1 hb2
  obtain ⟨i',hi,rfl⟩:=pU h1
  obtain ⟨j',hj,rfl⟩:=pU h2
  obtain ⟨o1',ho1⟩:=hget i' (List.mem_of_getElem? hi)
  obtain ⟨o2',ho2⟩:=hget j' (List.mem_of_getElem? hj)
  rw [hβ hi,dX ho1] at hb1
  rw [hβ hj,dX ho2] at hb2
  have:=hs.kG i' j' o1' o2' b ho1 ho2 (Ob.iJ (Ob.nZ ρ h o1') rfl rfl hb1) (Ob.iJ (Ob.nZ ρ h o2') rfl rfl hb2)
  subst this
  exact Da hnd hi hj
 ·intro j o b ho hb
  obtain ⟨i,hi,rfl⟩:=pU ho
  obtain ⟨o',ho'⟩:=hget i (List.mem_of_getElem? hi)
  rw [dX ho',hβ hi] at hb ⊢
  have hb':=Ob.iJ (o':=o') (p':=β i) (Ob.nZ ρ h o') rfl rfl hb
  exact ⟨fun k hn=>hn.2 i (List.mem_of_getElem? hi) o' ho' hb',(hs.eD i o' b ho' hb').2.1,.inr fun k hw hk=>⟨i,o',List.mem_of_getElem? hi,ho',by rw [Ob.Ru] at hw; exact hw,Ob.rU (Ob.nZ ρ h o') rfl rfl hk⟩⟩
 ·intro j o hj
  simp only [inC,List.getElem?_map,Option.map_eq_some_iff] at hj
  obtain ⟨i,hi,rfl⟩:=hj
  refine ⟨by simpa [inH] using (List.getElem?_eq_some_iff.1 hi).1,fun b hb=>?_⟩
  obtain ⟨o',ho'⟩:=hget i (List.mem_of_getElem? hi)
  have hob:=hs.obj i o' ho'
  rw [hβ hi]
  unfold Ig at hb
  rw [dX ho'] at hb
  cases o' with
  | box e ls =>
   simp only [Ob.Rel] at hob
   exact ⟨hb,hob.2.1⟩
  | arr e t v rows wr=>cases hb
  | fm tab =>
   simp only [Ob.Rel] at hob
   exact ⟨hb,hob.2.1⟩
 ·intro i v hv
  simp only [List.getElem?_map,Option.map_eq_some_iff] at hv
  obtain ⟨v0,hv0,rfl⟩:=hv
  have hl:i < xs.length:=by rw [<- aN.length ha]; exact (List.getElem?_eq_some_iff.1 hv0).1
  have hr:=ha.get i (List.getElem?_eq_some_iff.1 hv0).1 hl
  have e:vs[i]'(List.getElem?_eq_some_iff.1 hv0).1=v0:=(List.getElem?_eq_some_iff.1 hv0).2
  rw [e] at hr
  have e2:(xs.toArray).getD i undef=xs[i]:=by simp [hl]
  simp only [e2]
  exact hr.wR zKc hN
def iL (β β':Nat->Pl) (ρ:List Nat) (h:List Ob):Nat->Pl:=fun i =>
 match pos i ρ 0 with
 | some j=>match uQ (Nf h i) with
  | true=>β i
  | false=>{ β' j with ver:=(β' j).ver+iW ρ h j }
 | none=>if i < h.length then β i else β' (i - h.length+ρ.length)
theorem Je {ρ:List Nat} {h hy:List Ob} (hk:ρ.length <= hy.length) {id:Nat} {o:Ob} (ho:(jV ρ h hy)[id]?=some o) :
  (id < h.length∧pos id ρ 0=none∧h[id]?=some o)∨(∃ j ob oy,id < h.length∧ρ[j]?=some id∧pos id ρ 0=some j∧h[id]?=some ob∧hy[j]?=some oy∧o=oy.back (jN ρ h.length) (iW ρ h) j) ∨
   ∃ j oy,ρ.length <= j∧id=h.length+(j - ρ.length)∧hy[j]?=some oy∧o=oy.back (jN ρ h.length) (iW ρ h) j:=by
 unfold jV at ho
 by_cases hid:id < h.length
 ·rw [List.getElem?_append_left (by rw [tX]; exact hid),zKq,Nat.zero_add] at ho
  obtain ⟨ob,hob⟩:∃ ob,h[id]?=some ob:=⟨h[id],by simp [hid]⟩
  rw [hob] at ho
  simp only [Option.map_some,Option.some.injEq] at ho
  cases hp:pos id ρ 0 with
  | none =>
   rw [hp] at ho
   simp only at ho
   exact .inl ⟨hid,rfl,by rw [hob,ho]⟩
  | some j =>
   obtain ⟨m,hm,hi⟩:=yA hp
   rw [Nat.zero_add] at hm
   subst hm
   have hj:j < hy.length:=Nat.lt_of_lt_of_le (List.getElem?_eq_some_iff.1 hi).1 hk
   have hyj:hy[j]?=some hy[j]:=by simp [hj]
   rw [hp] at ho
   simp only [hyj] at ho
   exact .inr (.inl ⟨j,ob,hy[j],hid,hi,rfl,hob,hyj,ho.symm⟩)
 ·rw [List.getElem?_append_right (by rw [tX]; omega),tX,Rz,List.getElem?_drop] at ho
  simp only [Option.map_eq_some_iff] at ho
  obtain ⟨oy,h1,h2⟩:=ho
  exact .inr (.inr ⟨ρ.length+(id - h.length),oy,by omega,by omega,h1,h2.symm⟩)
theorem Kr {ρ:List Nat} {h hy:List Ob}:(jV ρ h hy).length=h.length+(hy.length - ρ.length):=by
 simp [jV,tX,Ic]
theorem yAt {C:Ctx} {β:Nat->Pl} {h:List Ob} {w w':World} {ρ:List Nat} (hs:dF C β h w) (hnd:nodupB ρ=true) (hlt:∀ i ∈ ρ,i < h.length) (hwr:∀ (j:Nat) (o:Ob),(inH ρ h)[j]?=some o->o.wr=true) (zKr:yG (inH ρ h) so.os=true)
  {y:so.X} {us:List Value} {β':Nat->Pl} (hs':Sim (inC C β h w ρ hs) β' (so.enc y) { tmps:=us.toArray,defers:=[] } w') :
  ∃ β2,Moves β β2∧Keep (C.N β h) w w'∧(∀ b j,b < w.heap.size->C.N β2 (jV ρ h (so.enc y).h) b j->C.N β h b j)∧dF C β2 (jV ρ h (so.enc y).h) w' ∧
   aN (fun v u=>V.Rel β2 w' (C.N β2 (jV ρ h (so.enc y).h)) v u) ((so.enc y).r.map (V.back (jN ρ h.length) (iW ρ h))) us:=by
 generalize hhy:(so.enc y).h=hy at *
 have hget:∀ i ∈ ρ,∃ o,h[i]?=some o:=fun i hi=>⟨h[i]'(hlt i hi),by simp [hlt i hi]⟩
 have hfix:∀ {j i:Nat},ρ[j]?=some i->j < hy.length∧∀ b,Ig β h i=some b->(β' j).blk=some b∧(β' j).box=true:=fun {j i} hi=>by
  have:=hs'.heap.fixed j (Ig β h i) (by simp [inC,hi])
  rw [hhy] at this
  exact this
 have hk:ρ.length <= hy.length:=by
  rcases Nat.lt_or_ge hy.length ρ.length with h1 | h1
  ·have:=(hfix (j:=hy.length) (i:=ρ[hy.length]) (by simp [h1])).1
   omega
  ·exact h1
 have yPc:∀ i ∈ ρ,∀ o,h[i]?=some o->o.wr=true:=fun i hi o ho=>by
  obtain ⟨n,hn⟩:=List.getElem?_of_mem hi
  have:=hwr n ((Nf h i).ren ρ h) (by simp [inH,hn])
  rw [Ob.Ru,dX ho] at this
  exact this
 have hrow:∀ {j i:Nat} {o:Ob},ρ[j]?=some i->h[i]?=some o->uQ o=false->∃ oy,hy[j]?=some oy∧uQ oy=false:=fun {j i o} hi ho hb=>by
  cases o with
  | box e ls=>cases hb
  | fm tab=>cases hb
  | arr e t u rows wr =>
   obtain ⟨e',t',hrw⟩:=zI (j:=j) (e:=e) (t:=t) (u:=0) (rows:=rows) (wr:=wr) zKr (by simp [inH,hi,dX ho,Ob.ren])
   obtain ⟨rows',hr'⟩:=Ie (A:=Unit) (x:=(Hy so.rs (List.replicate so.n .bE) y).2) hrw
   exact ⟨_,by rw [<- hhy]; exact hr',rfl⟩
 have zDw:=hs'.heap.obj
 rw [hhy] at zDw
 have zXh:∀ j,hy.length <= j->(β' j).live=false:=fun j hj=>hs'.heap.dead j (by rw [hhy]; exact hj)
 have Ku:=hs'.heap.eD
 rw [hhy] at Ku
 have zQm:=hs'.heap.kG
 rw [hhy] at zQm
 have zTj:∀ {j i:Nat} {o:Ob},ρ[j]?=some i->h[i]?=some o->uQ o=true->(β' j).box=true∧(β' j).blk=(β i).blk∧(β i).box=true∧(β i).live=true∧(β' j).live=true:=fun {j i o} hi ho hb=>by
  have hob:=hs.obj i o ho
  obtain ⟨hj,hfx⟩:=hfix hi
  cases o with
  | arr=>cases hb
  | fm tab =>
   simp only [Ob.Rel] at hob
   obtain ⟨k1,k2,b,es,n,k3,_⟩:=hob
   have hfo:Ig β h i=some b:=by simp only [Ig,dX ho,uQ,k3]
   obtain ⟨g1,g2⟩:=hfx b hfo
   exact ⟨g2,by rw [g1,k3],k2,k1,(zDw j hy[j] (by simp [hj])).live⟩
  | box e ls =>
   simp only [Ob.Rel] at hob
   obtain ⟨k1,k2,b,cs,k3,_⟩:=hob
   have hfo:Ig β h i=some b:=by simp only [Ig,dX ho,uQ,k3]
   obtain ⟨g1,g2⟩:=hfx b hfo
   exact ⟨g2,by rw [g1,k3],k2,k1,(zDw j hy[j] (by simp [hj])).live⟩
 have yAu:∀ {j i:Nat} {o:Ob},ρ[j]?=some i->h[i]?=some o->uQ o=true->iL β β' ρ h i=β i:=fun hi ho hb=>by
  simp only [iL,zQe hnd hi,dX ho,hb]
 have yAv:∀ {j i:Nat} {o:Ob},ρ[j]?=some i->h[i]?=some o->uQ o=false->iL β β' ρ h i={ β' j with ver:=(β' j).ver+iW ρ h j }:=fun hi ho hb=>by
  simp only [iL,zQe hnd hi,dX ho,hb]
 have zTk:∀ {i:Nat},pos i ρ 0=none->i < h.length->iL β β' ρ h i=β i:=fun hp hi=>by
  simp only [iL,hp,if_pos hi]
 have yDk:∀ {i:Nat},h.length <= i->pos i ρ 0=none:=fun {i} hi=>by
  cases hp:pos i ρ 0 with
  | none=>rfl
  | some j =>
   obtain ⟨m,_,hm⟩:=yA hp
   have:=hlt i (List.mem_of_getElem? hm)
   omega
 have yIf:∀ {j:Nat},ρ.length <= j->iL β β' ρ h (h.length+(j - ρ.length))=β' j:=fun {j} hj=>by
  simp only [iL,yDk (Nat.le_add_right _ _)]
  rw [if_neg (by omega)]
  congr 1
  omega
 have eF:∀ {j i:Nat},ρ[j]?=some i->jN ρ h.length j=i:=fun hi=>by simp only [jN,hi]
 have eF2:∀ {j:Nat},ρ.length <= j->jN ρ h.length j=h.length+(j - ρ.length):=fun hj=>by simp only [jN,List.getElem?_eq_none hj]
 have eU2:∀ {j:Nat},ρ.length <= j->iW ρ h j=0:=fun hj=>by simp only [iW,List.getElem?_eq_none hj]
 have hpl:∀ j,(β' j).live=true->Ry (β' j) (iL β β' ρ h (jN ρ h.length j)) (iW ρ h j):=fun j hl=>by
  have hj:j < hy.length:=by
   rcases Nat.lt_or_ge j hy.length with h1 | h1
   ·exact h1
   ·rw [zXh j h1] at hl; cases hl
  cases hi:ρ[j]? with
  | some i =>
   rw [eF hi]
   obtain ⟨o,ho⟩:=hget i (List.mem_of_getElem? hi)
   cases hb:uQ o with
   | true =>
    obtain ⟨g1,g2,g3,g4,g5⟩:=zTj hi ho hb
    rw [yAu hi ho hb]
    exact ⟨by rw [g4,hl],by rw [g3,g1],g2.symm,fun h=>by rw [g1] at h; cases h⟩
   | false =>
    rw [yAv hi ho hb]
    exact ⟨rfl,rfl,rfl,fun _=>⟨rfl,rfl,rfl,rfl⟩⟩
  | none =>
   have hge:ρ.length <= j:=List.getElem?_eq_none_iff.1 hi
   rw [eF2 hge,yIf hge,eU2 hge]
   exact ⟨rfl,rfl,rfl,fun _=>⟨rfl,rfl,rfl,rfl⟩⟩
 have hown:∀ {b k:Nat},(inC C β h w ρ hs).Ej b k->∃ (i:Nat) (o:Ob),i ∈ ρ∧h[i]?=some o∧o.wr=true∧o.at (β i) b k:=fun {b k} hb=>hb
 have hkeep:Keep (C.N β h) w w':=hs'.heap.frame.weaken fun k j ho=>by
  obtain ⟨i,o,_,h2,h3,h4⟩:=hown ho
  exact .inr ⟨i,o,h2,h3,h4⟩
 have hat:∀ {id j:Nat} {ob oy:Ob},ρ[j]?=some id->h[id]?=some ob->hy[j]?=some oy->∀ b k,(oy.back (jN ρ h.length) (iW ρ h) j).at (iL β β' ρ h id) b k->oy.at (β' j) b k:=fun {id j ob oy} hi hob hoy b k hbk=>by
  cases hb2:uQ ob with
  | true =>
   have hp:oy.kF=false:=(zDw j oy hoy).zZk (zTj hi hob hb2).1
   rw [yAu hi hob hb2] at hbk
   have:=Ob.Xm (by simp [Ob.plain,Ob.Sb,hp]) hbk
   exact Ob.mV (by rw [(zTj hi hob hb2).2.1]; exact this)
  | false =>
   rw [yAv hi hob hb2] at hbk
   exact Ob.rU (Ob.Sb oy) rfl rfl hbk
 have yAw:∀ {j:Nat} {oy:Ob},ρ.length <= j->∀ b k,(oy.back (jN ρ h.length) (iW ρ h) j).at (iL β β' ρ h (h.length+(j - ρ.length))) b k->oy.at (β' j) b k:=fun {j oy} hj b k hbk=>by
  rw [yIf hj] at hbk
  exact Ob.rU (Ob.Sb oy) rfl rfl hbk
 have zKs:Moves β (iL β β' ρ h):=fun id hl=>by
  have hid:id < h.length:=by
   rcases Nat.lt_or_ge id h.length with h1 | h1
   ·exact h1
   ·rw [hs.dead id h1] at hl; cases hl
  cases hp:pos id ρ 0 with
  | none=>exact .inl (zTk hp hid)
  | some j =>
   obtain ⟨m,hm,hi⟩:=yA hp
   rw [Nat.zero_add] at hm
   subst hm
   obtain ⟨o,ho⟩:=hget id (List.mem_of_getElem? hi)
   cases hb:uQ o with
   | true=>exact .inl (yAu hi ho hb)
   | false =>
    obtain ⟨oy,hoy,hby⟩:=hrow hi ho hb
    have hY:=zDw j oy hoy
    have hO:=hs.obj id o ho
    rw [yAv hi ho hb]
    cases o with
    | box=>cases hb
    | fm=>cases hb
    | arr e t u rows wr =>
     cases oy with
     | box=>cases hby
     | fm=>cases hby
     | arr e' t' u' rows' wr' =>
      simp only [Ob.Rel] at hY hO
      refine .inr ⟨hO.2.1,hY.1,hY.2.1,?_⟩
      simp only [iW,hi,ho]
      have:=hO.2.2.1
      omega
 have hbl:∀ {b k:Nat},b < w.heap.size->w.heap.size <= b∨(inC C β h w ρ hs).Ej b k->C.N β h b k:=fun {b k} hb ho=>by
  rcases ho with ho | ho
  ·omega
  ·obtain ⟨i,o,_,h2,h3,h4⟩:=hown ho
   exact .inr ⟨i,o,h2,h3,h4⟩
 have yDl:∀ b j,b < w.heap.size->C.N (iL β β' ρ h) (jV ρ h hy) b j->C.N β h b j:=fun b k hb hn=>by
  rcases hn with hn | ⟨id,o,ho,hw,hbk⟩
  ·exact .inl hn
  ·rcases Je hk ho with ⟨hid,hp,ho⟩ | ⟨j,ob,oy,hid,hi,hp,hob,hoy,rfl⟩ | ⟨j,oy,hj,rfl,hoy,rfl⟩
   ·rw [zTk hp hid] at hbk
    exact .inr ⟨id,o,ho,hw,hbk⟩
   ·rw [Ob.yH] at hw
    have hbk:=hat hi hob hoy b k hbk
    exact hbl hb ((Ku j oy b hoy ⟨k,hbk⟩).2.2.imp (fun h=>h) fun h=>h k hw hbk)
   ·rw [Ob.yH] at hw
    have hbk:=yAw hj b k hbk
    exact hbl hb ((Ku j oy b hoy ⟨k,hbk⟩).2.2.imp (fun h=>h) fun h=>h k hw hbk)
 have yDm:∀ b j,b < w'.heap.size->C.N (iL β β' ρ h) (jV ρ h hy) b j->(inC C β h w ρ hs).N β' (so.enc y).h b j:=fun b k _ hn=>by
  rw [hhy]
  rcases hn with hn | ⟨id,o,ho,hw,hbk⟩
  ·exact .inl ⟨.inl hn,fun i hi o ho hbk=>(hs.eD i o b ho hbk).1 k hn⟩
  ·rcases Je hk ho with ⟨hid,hp,ho⟩ | ⟨j,ob,oy,hid,hi,hp,hob,hoy,rfl⟩ | ⟨j,oy,hj,rfl,hoy,rfl⟩
   ·rw [zTk hp hid] at hbk
    refine .inl ⟨.inr ⟨id,o,ho,hw,hbk⟩,fun i hi oi hoi hbi=>?_⟩
    have:=hs.kG id i o oi b ho hoi ⟨k,hbk⟩ hbi
    subst this
    exact Ew hp hi
   ·rw [Ob.yH] at hw
    exact .inr ⟨j,oy,hoy,hw,hat hi hob hoy b k hbk⟩
   ·rw [Ob.yH] at hw
    exact .inr ⟨j,oy,hoy,hw,yAw hj b k hbk⟩
 have zDp:∀ {id:Nat} {o:Ob} {b:Nat},pos id ρ 0=none->h[id]?=some o->o.blks (β id) b->b < w.heap.size∧∀ k,¬ (inC C β h w ρ hs).Ej b k:=fun {id o b} hp ho hb=>by
  refine ⟨(hs.eD id o b ho hb).2.1,fun k hw=>?_⟩
  obtain ⟨i,oi,h1,h2,_,h4⟩:=hown hw
  have:=hs.kG id i o oi b ho h2 hb ⟨k,h4⟩
  subst this
  exact Ew hp h1
 have hcls:∀ {id:Nat} {o:Ob},(jV ρ h hy)[id]?=some o->(pos id ρ 0=none∧h[id]?=some o∧iL β β' ρ h id=β id)∨∃ j oy,hy[j]?=some oy∧id=jN ρ h.length j∧o=oy.back (jN ρ h.length) (iW ρ h) j∧∀ b k,o.at (iL β β' ρ h id) b k->oy.at (β' j) b k:=fun {id o} ho=>by
  rcases Je hk ho with ⟨hid,hp,ho⟩ | ⟨j,ob,oy,hid,hi,hp,hob,hoy,rfl⟩ | ⟨j,oy,hj,rfl,hoy,rfl⟩
  ·exact .inl ⟨hp,ho,zTk hp hid⟩
  ·exact .inr ⟨j,oy,hoy,(eF hi).symm,rfl,hat hi hob hoy⟩
  ·exact .inr ⟨j,oy,hoy,(eF2 hj).symm,rfl,yAw hj⟩
 have yIg:∀ {j:Nat} {oy:Ob},hy[j]?=some oy->(oy.back (jN ρ h.length) (iW ρ h) j).wr=true:=fun {j oy} hoy=>by
  rw [Ob.yH,<- hhy] at *
  exact Np hoy
 have yIh:∀ {j id:Nat} {oy:Ob} {b:Nat},hy[j]?=some oy->(∀ b k,(oy.back (jN ρ h.length) (iW ρ h) j).at (iL β β' ρ h id) b k->oy.at (β' j) b k)->(oy.back (jN ρ h.length) (iW ρ h) j).blks (iL β β' ρ h id) b->b < w.heap.size->(∀ k,¬ (inC C β h w ρ hs).Ej b k)->False:=fun {j id oy b} hoy eb hb g1 g2=>by
  obtain ⟨q,hb⟩:=hb
  rcases (Ku j oy b hoy ⟨q,eb b q hb⟩).2.2 with h3 | h3
  ·have h3:w.heap.size <= b:=h3
   omega
  ·have hw:=yIg hoy
   rw [Ob.yH] at hw
   exact g2 q (h3 q hw (eb b q hb))
 have hHS:dF C (iL β β' ρ h) (jV ρ h hy) w':=by
  refine ⟨?_,?_,?_,?_,hs.n0,?_,Nat.le_trans hs.size hs'.heap.size,hs'.heap.os.trans hs.os,hs'.heap.tape.trans hs.tape,hs'.heap.output.trans hs.output,?_⟩
  ·intro id o ho
   rcases hcls ho with ⟨hp,ho,eb⟩ | ⟨j,oy,hoy,rfl,rfl,_⟩
   ·rw [eb]
    exact (hs.obj id o ho).mono zKs hkeep yDl fun b hb=>hs'.heap.frame.block b (zDp hp ho hb).1 (zDp hp ho hb).2
   ·have hY:=zDw j oy hoy
    rw [<- hhy] at hY
    exact Ob.Rel.back (f:=jN ρ h.length) (v:=iW ρ h) hpl yDm hY
  ·intro id hid
   rw [Kr] at hid
   have hp:=yDk (i:=id) (by omega)
   simp only [iL,hp]
   rw [if_neg (by omega)]
   exact zXh _ (by omega)
  ·intro i j o1 o2 b h1 h2 hb1 hb2
   rcases hcls h1 with ⟨hp1,ho1,eb1⟩ | ⟨j1,oy1,yIi,rfl,rfl,eb1⟩ <;> rcases hcls h2 with ⟨hp2,ho2,eb2⟩ | ⟨j2,oy2,yIj,rfl,rfl,eb2⟩
   ·rw [eb1] at hb1
    rw [eb2] at hb2
    exact hs.kG i j o1 o2 b ho1 ho2 hb1 hb2
   ·exfalso
    rw [eb1] at hb1
    obtain ⟨g1,g2⟩:=zDp hp1 ho1 hb1
    exact yIh yIj eb2 hb2 g1 g2
   ·exfalso
    rw [eb2] at hb2
    obtain ⟨g1,g2⟩:=zDp hp2 ho2 hb2
    exact yIh yIi eb1 hb1 g1 g2
   ·obtain ⟨q1,hb1⟩:=hb1
    obtain ⟨q2,hb2⟩:=hb2
    rw [zQm j1 j2 oy1 oy2 b yIi yIj ⟨q1,eb1 b q1 hb1⟩ ⟨q2,eb2 b q2 hb2⟩]
  ·intro id o b ho hb
   rcases hcls ho with ⟨hp,ho,eb⟩ | ⟨j,oy,hoy,rfl,rfl,eb⟩
   ·rw [eb] at hb ⊢
    obtain ⟨k1,k2,k3⟩:=hs.eD id o b ho hb
    exact ⟨k1,Nat.lt_of_lt_of_le k2 hs'.heap.size,k3⟩
   ·obtain ⟨q,hb⟩:=hb
    obtain ⟨k1,k2,k3⟩:=Ku j oy b hoy ⟨q,eb b q hb⟩
    rcases Nat.lt_or_ge b w.heap.size with hlt | hge
    ·have hold:∀ k,(oy.back (jN ρ h.length) (iW ρ h) j).wr=true->(oy.back (jN ρ h.length) (iW ρ h) j).at (iL β β' ρ h (jN ρ h.length j)) b k->∃ (i:Nat) (o:Ob),i ∈ ρ∧h[i]?=some o∧o.wr=true∧o.at (β i) b k:=fun k hw hk=>by
      rw [Ob.yH] at hw
      rcases k3 with k3 | k3
      ·have k3:w.heap.size <= b:=k3
       omega
      ·exact hown (k3 k hw (eb b k hk))
     have hwy:(oy.back (jN ρ h.length) (iW ρ h) j).wr=true:=yIg hoy
     obtain ⟨i,oi,h1,h2,h3,h4⟩:=hold q hwy hb
     obtain ⟨g1,g2,g3⟩:=hs.eD i oi b h2 ⟨q,h4⟩
     refine ⟨g1,k2,?_⟩
     rcases g3 with g3 | g3
     ·exact .inl g3
     ·right
      intro k hw hk
      obtain ⟨i2,oi2,f1,f2,f3,f4⟩:=hold k hw hk
      rcases (hs.eD i2 oi2 b f2 ⟨k,f4⟩).2.2 with g5 | g5
      ·have:=hs.kG i i2 oi oi2 b h2 f2 ⟨q,h4⟩ ⟨k,f4⟩
       subst this
       rw [h2] at f2
       simp only [Option.some.injEq] at f2
       subst f2
       exact g3 k f3 f4
      ·exact g5 k f3 f4
    ·have h0:=hs.size
     exact ⟨fun _ hn=>by have:=hs.n0 b _ hn; omega,k2,.inl (by omega)⟩
  ·refine hs.frame.wM hs'.heap.frame fun b j hb ho=>?_
   obtain ⟨i,oi,h1,h2,h3,h4⟩:=hown ho
   rcases (hs.eD i oi b h2 ⟨j,h4⟩).2.2 with h5 | h5
   ·omega
   ·exact h5 j h3 h4
  ·intro j o hj
   obtain ⟨k1,k2⟩:=hs.fixed j o hj
   refine ⟨by rw [Kr]; omega,fun b hb=>?_⟩
   obtain ⟨k3,k4⟩:=k2 b hb
   have hoj:h[j]?=some h[j]:=by simp [k1]
   rcases zKs j (hs.obj j _ hoj).live with e | ⟨e,_⟩
   ·rw [e]; exact ⟨k3,k4⟩
   ·rw [k4] at e; cases e
 refine ⟨iL β β' ρ h,zKs,hkeep,yDl,hHS,?_⟩
 refine zQl (by have:=hs'.size; simpa using this) fun i v u hv hu=>?_
 simp only [List.getElem?_map,Option.map_eq_some_iff] at hv
 obtain ⟨v0,hv0,rfl⟩:=hv
 have hr:=hs'.reg i v0 hv0
 have e:(us.toArray).getD i undef=u:=by
  rw [Array.getD_eq_getD_getElem?]
  simp [hu]
 simp only [e] at hr
 exact hr.back (f:=jN ρ h.length) (v:=iW ρ h) hpl yDm
theorem yDn {l:L} (h:l.isD=true):l.ids=[]:=by
 cases l <;> first | rfl | (cases h; done) | (rename_i f cs; cases cs <;> first | rfl | cases h)
theorem zXi:∀ {ls:List L},bC L.isD ls=true->L.xY ls=[]
 | [],_=>rfl
 | l :: ls,h=>by
  simp only [bC,Bool.and_eq_true] at h
  simp only [L.xY,yDn h.1,zXi h.2,List.append_nil]
theorem zXj:∀ {vs:List V},bC V.isD vs=true->zJu vs=[]
 | [],_=>rfl
 | v :: vs,h=>by
  simp only [bC,Bool.and_eq_true] at h
  have h1:v.ids=[]:=by
   cases v with
   | one l=>exact yDn h.1
   | agg ls=>exact zXi h.1
   | _=>rfl
  simp only [zJu,h1,zXj h.2,List.append_nil]
theorem Vg {vs:List V} {h:List Ob} (hd:bC V.isD vs=true):reach vs h=[]:=by
 unfold reach
 rw [zXj hd]
 rfl
theorem yDo {ρ:List Nat} {h h2:List Ob} {l:L} (hd:l.isD=true):l.ren ρ h=l.ren ρ h2:=by
 cases l <;> first | rfl | (cases hd; done) | (rename_i f cs; cases cs <;> first | rfl | cases hd)
theorem zXk {ρ:List Nat} {h h2:List Ob}:∀ {ls:List L},bC L.isD ls=true->L.qP ρ h ls=L.qP ρ h2 ls
 | [],_=>rfl
 | l :: ls,hd=>by
  simp only [bC,Bool.and_eq_true] at hd
  simp only [L.qP,yDo (h:=h) (h2:=h2) hd.1,zXk (h:=h) (h2:=h2) hd.2]
theorem zXl {ρ:List Nat} {h h2:List Ob}:∀ {vs:List V},bC V.isD vs=true->vs.map (V.ren ρ h)=vs.map (V.ren ρ h2)
 | [],_=>rfl
 | v :: vs,hd=>by
  simp only [bC,Bool.and_eq_true] at hd
  have h1:V.ren ρ h v=V.ren ρ h2 v:=by
   cases v with
   | one l=>simp only [V.ren,yDo (h:=h) (h2:=h2) hd.1]
   | agg ls=>simp only [V.ren,zXk (h:=h) (h2:=h2) hd.1]
   | _=>rfl
  simp only [List.map_cons,h1,zXl (h:=h) (h2:=h2) hd.2]
theorem zGs:∀ {h:List Ob} {n:Nat},Nn (fun _=>none) n h=h
 | [],_=>rfl
 | o :: r,n=>by simp only [Nn,zGs]
theorem Xa (h hy:List Ob):jV [] h hy=h++oF (jN [] h.length) (iW [] h) 0 hy:=by
 unfold jV
 simp only [pos,List.length_nil,List.drop_zero,zGs]
theorem yFl {vs:List V} {h h2:List Ob} (hd:bC V.isD vs=true) (hl:h2.length=h.length) :
  (peM si so F).run vs h=(peM si so F).run vs h2∧∀ y,((peM si so F).enc y vs h).1=((peM si so F).enc y vs h2).1∧∃ os,((peM si so F).enc y vs h).2=h++os∧((peM si so F).enc y vs h2).2=h2++os:=by
 have e1:vs.map (V.ren [] h)=vs.map (V.ren [] h2):=zXl hd
 have e2:iW [] h=iW [] h2:=rfl
 refine ⟨?_,fun y=>⟨?_,oF (jN [] h.length) (iW [] h) 0 (so.enc y).h,?_,?_⟩⟩
 ·simp only [peM,Vg hd,e1]
  rfl
 ·simp only [peM,Vg hd,hl,e2]
 ·simp only [peM,Vg hd,Xa]
 ·simp only [peM,Vg hd,Xa,hl,e2]
theorem bJ (hM:cZ P f si so F):(peM si so F).OK P f:=by
 refine ⟨hM.1,fun vs h y hr C β w xs hP hs ha=>?_,fun h=>(by cases h),fun h=>(by cases h),fun _ vs h h2 hd hl=>yFl hd hl⟩
 subst hP
 simp only [peM] at hr
 split at hr
 case h_2=>cases hr
 rename_i x hx
 simp only [Option.some.injEq,Prod.mk.injEq] at hr
 obtain ⟨hok,hF⟩:=hr
 obtain ⟨hnd,hlt,hlen,hwr,zKr⟩:=zOz hok
 have zDj:=zQg hx (yIe hs ha hnd hlt)
 refine (hM.2 x y hF (inC C β h w _ hs) _ w xs rfl (by simp [inC,hlen]) zDj).mono ?_
 rintro e w' ⟨us,β',rfl,hs'⟩
 obtain ⟨β2,h1,h2,h3,h4,h5⟩:=yAt hs hnd hlt hwr zKr hs'
 exact ⟨_,_,β2,⟨rfl,rfl⟩,h1,h2,h3,h4,_,rfl,yAs h5⟩
end
end Go.Dec
namespace Go.Dec
section
variable {T:Tab} {C:Ctx} {β:Nat->Pl} {w:World}
def Yb (T:Tab) (σ:St):ResultVar->Option (Bool × V)
 | .tmp t=>some (true,σ.r.getD t .bE)
 | .cell t ty =>
  match σ.r.getD t .bE with
  | .one l=>loadAt T σ.h ty l
  | _=>none
def kN (T:Tab) (σ:St):List ResultVar->Option (Bool × List V)
 | []=>some (true,[])
 | x :: r =>
  match Yb T σ x,kN T σ r with
  | some (c,l),some (d,ls)=>some (c && d,l :: ls)
  | _,_=>none
theorem yAx {σ:St} {a:Act} {rv:ResultVar} {v:V} (hT:aY C.P T) (hs:Sim C β σ a w) (h:Yb T σ rv=some (true,v)) :
  ∃ x,(oD a.tmps rv).run C.P w=.ok x w∧v.Rel β w (C.N β σ.h) x:=by
 cases rv with
 | tmp t =>
  simp only [Yb,Option.some.injEq,Prod.mk.injEq,true_and] at h
  subst h
  exact ⟨a.tmps.getD t undef,rfl,Nk hs t⟩
 | cell t ty =>
  simp only [Yb] at h
  have hr:=Nk hs t
  split at h
  ·rename_i l hl
   rw [hl] at hr
   obtain ⟨y,h1,h2⟩:=Cn hT h hs.heap hr
   obtain ⟨ad,h3,h4⟩:=Jd h1
   refine ⟨y,?_,h2⟩
   simp only [oD,h3,asAddr,Sem.run_bind,Sem.run_pure,Result.andThen_ok,h4]
  ·cases h
theorem zGt {σ:St} {a:Act} (hT:aY C.P T) (hs:Sim C β σ a w):∀ {rs:List ResultVar} {vs:List V},kN T σ rs=some (true,vs) ->
  ∀ acc:Array Value,∃ us:List Value,(rs.foldlM (fun (acc:Array Value) rv=>do let v <- oD a.tmps rv; pure (acc.push v)) acc).run C.P w=.ok (acc++us.toArray) w∧aN (fun v u=>V.Rel β w (C.N β σ.h) v u) vs us
 | [],vs,h,acc=>by
  simp only [kN,Option.some.injEq,Prod.mk.injEq,true_and] at h
  subst h
  exact ⟨[],by simp,trivial⟩
 | rv :: rs,vs,h,acc=>by
  simp only [kN] at h
  split at h
  ·rename_i c s d r h1 h2
   simp only [Option.some.injEq,Prod.mk.injEq,Bool.and_eq_true] at h
   obtain ⟨⟨rfl,rfl⟩,rfl⟩:=h
   obtain ⟨x,g1,g2⟩:=yAx hT hs h1
   obtain ⟨us,g4,g5⟩:=zGt hT hs h2 (acc.push x)
   refine ⟨x :: us,?_,⟨g2,g5⟩⟩
   simp only [List.foldlM_cons,Sem.run_bind,g1,Result.andThen_ok,Sem.run_pure,g4]
   simp
  ·cases h
theorem zKt {σ:St} {a:Act} {fn:Func} {vs:List V} (hT:aY C.P T) (hs:Sim C β σ a w) (h:kN T σ fn.results.toList=some (true,vs)) :
  ∃ us:List Value,(results fn a.tmps).run C.P w=.ok (kX us) w∧aN (fun v u=>V.Rel β w (C.N β σ.h) v u) vs us:=by
 obtain ⟨us,h1,h2⟩:=zGt hT hs h #[]
 refine ⟨us,?_,h2⟩
 have e0:results fn a.tmps=(do let vs <- fn.results.mapM (oD a.tmps); pure (if h:vs.size=1 then vs[0] else .tuple vs)):=by
  unfold results
  congr 1
 have hm:(fn.results.mapM (oD a.tmps):Sem (Array Value)).run C.P w=.ok us.toArray w:=by
  rw [Array.mapM_eq_foldlM,<- Array.foldlM_toList]
  have e:(fun (acc:Array Value) rv=>do let v <- oD a.tmps rv; pure (acc.push v):Array Value->ResultVar->Sem (Array Value))=(fun (acc:Array Value) rv=>acc.push <$> oD a.tmps rv):=by
   funext acc rv
   rfl
  rw [e] at h1
  simpa using h1
 rw [e0]
 simp only [Sem.run_bind,hm,Result.andThen_ok,Sem.run_pure]
 match us with
 | []=>rfl
 | [u]=>rfl
 | u :: v :: us=>simp [kX]
theorem yAy {σ:St} {a:Act} {vs:List V} {us:List Value} (hs:Sim C β σ a w) (h:aN (fun v u=>V.Rel β w (C.N β σ.h) v u) vs us):Sim C β ⟨vs,σ.h⟩ { tmps:=us.toArray,defers:=[] } w:=by
 refine ⟨hs.heap,rfl,by simpa using h.length,fun i v hv=>?_⟩
 have hl:i < us.length:=by rw [<- h.length]; exact (List.getElem?_eq_some_iff.1 hv).1
 have hr:=h.get i (List.getElem?_eq_some_iff.1 hv).1 hl
 rw [(List.getElem?_eq_some_iff.1 hv).2] at hr
 have e2:(us.toArray).getD i undef=us[i]:=by simp [hl]
 simp only [e2]
 exact hr
def zKu (T:Tab) {ρ:Type} (res:List ResultVar) (so:Sh) (co:List Co) (σ:St) (g:so.X->Option ρ):Option ρ :=
 match kN T σ res with
 | some (c,vs)=>chk c (enter T so co ⟨vs,σ.h⟩ g)
 | none=>none
def zTl (T:Tab) (res:List ResultVar) (so:Sh) (co:List Co):K so.X:=fun e σ =>
 match e with
 | .normal=>zKu T res so co σ some
 | .ret=>zKu T res so co σ some
 | _=>none
theorem yAz {σ:St} {a:Act} {fn:Func} {so:Sh} {co:List Co} {ρ:Type} {g:so.X->Option ρ} {r:ρ} {kf:Nat} (hT:aY C.P T) (hkf:C.fix.length <= kf) (hfx:bC (Co.fx kf) co=true) (hs:Sim C β σ a w) (h:zKu T fn.results.toList so co σ g=some r) :
  ∃ (us:List Value) (β':Nat->Pl) (y:so.X),(results fn a.tmps).run C.P w=.ok (kX us) w∧Sim C β' (so.enc y) { tmps:=us.toArray,defers:=[] } w∧g y=some r:=by
 unfold zKu at h
 split at h
 ·rename_i c vs hvs
  obtain ⟨rfl,h⟩:=iV h
  obtain ⟨us,h1,h2⟩:=zKt hT hs hvs
  obtain ⟨β',_,y,h3,h4⟩:=vW hT hkf hfx h (yAy hs h2)
  exact ⟨us,β',y,h1,h3,h4⟩
 ·cases h
end
section
variable {P:Program} {T:Tab} {f:FuncId} {fn:Func} {c:Code} {si so sp:Sh}
theorem zXm {C:Ctx} {β:Nat->Pl} {w:World} {σ:St} {xs:List Value} (n:Nat) (hs:Sim C β σ { tmps:=xs.toArray,defers:=[] } w) :
  Sim C β ⟨Ia σ.r n,σ.h⟩ { tmps:=xs.toArray++Array.replicate (n - xs.toArray.size) undef,defers:=[] } w:=by
 have hl:σ.r.length=xs.length:=by simpa using hs.size
 refine ⟨hs.heap,rfl,by simp [Ia,hl],fun i u hu=>?_⟩
 simp only [Ia] at hu
 by_cases hi:i < σ.r.length
 ·rw [List.getElem?_append_left hi] at hu
  have hr:=hs.reg i u hu
  have e:(xs.toArray++Array.replicate (n - xs.toArray.size) undef).getD i undef=(xs.toArray).getD i undef:=by
   rw [Array.getD_eq_getD_getElem?,Array.getD_eq_getD_getElem?,Array.getElem?_append_left (by simpa using by omega)]
  rw [e]
  exact hr
 ·rw [List.getElem?_append_right (by omega),List.getElem?_replicate] at hu
  split at hu
  ·simp only [Option.some.injEq] at hu; subst hu; trivial
  ·cases hu
theorem bL {F:si.X->Option so.X} {Γ:Orc so.X} {an:An so.X} {co:List Co} (hf:P.funcs[f]?=some fn) (hb:fn.body=some c) (hh:fA P f=true) (hT:aY P T) (hΓ:gN P Γ) (hm:P.follows .mixedOrders=true)
  (ha:zKg P si.os.length c an) (hfx:an.fx si.os.length=true) (hco:bC (Co.fx si.os.length) co=true)
  (h:∀ x,ev Γ T c an ⟨Ia (si.enc x).r fn.ntmps,(si.enc x).h⟩ (zTl T fn.results.toList so co)=F x):cZ P f si so F:=by
 refine ⟨hh,fun x y hF C β w xs hP hkf hs=>?_⟩
 rw [<- h x] at hF
 refine calls_of_wp hf hb ?_
 refine zKi (P:=P) hT hΓ hm c an ha hfx _ _ y hF C β _ w _ hP hkf (zXm fn.ntmps hs) ?_
 intro e x' σ' β' a' w' hs' hx' hk
 have fin:zKu T fn.results.toList so co σ' some=some y->x'=.ret∨x'=.normal->bodyPost P fn (fun e w'=>∃ (us:List Value) (β':Nat->Pl),e=.returned (kX us)∧Sim C β' (so.enc y) { tmps:=us.toArray,defers:=[] } w') x' a' w':=by
  intro hk hx'
  subst hP
  obtain ⟨us,β2,y',h1,h2,h3⟩:=yAz (fn:=fn) hT hkf hco hs' hk
  obtain rfl:=Option.some.inj h3
  rcases hx' with rfl | rfl
  ·exact ⟨hs'.defers,_,h1,us,β2,rfl,h2⟩
  ·exact ⟨hs'.defers,_,h1,us,β2,rfl,h2⟩
 cases e with
 | normal=>obtain rfl:=hx'; exact fin hk (.inr rfl)
 | ret=>obtain rfl:=hx'; exact fin hk (.inl rfl)
 | exit i=>simp [zTl] at hk
 | goto l=>simp [zTl] at hk
 | pan t u=>simp [zTl] at hk
structure GE (ρ:Type) where
 f:FuncId
 run:List V->List Ob->(Out->List Ob->Option ρ)->Option ρ
structure GE.OK (P:Program) {ρ:Type} (g:GE ρ):Prop where
 ok:∀ vs h k r,g.run vs h k=some r->fA P g.f=true∧Cu P g.f vs h fun out h'=>k out h'=some r∧∀ id,id < h.length->id ∉ reach vs h->h'[id]?=h[id]?
def yBa {ρ:Type}:List (GE ρ)->FuncId->List V->List Ob->(Out->List Ob->Option ρ)->Option ρ
 | [],_,_,_,_=>none
 | g :: r,f,vs,h,k=>match Nat.beq g.f f with
  | true=>g.run vs h k
  | false=>yBa r f vs h k
def bX (ρ:Type) (l:List (FuncId × PE)) (m:List (GE ρ)):Orc ρ:=⟨pes l,yBa m⟩
theorem aR {ρ:Type} {l:List (FuncId × PE)} {m:List (GE ρ)} (h:∀ p ∈ l,p.2.OK P p.1) (hm:∀ g ∈ m,g.OK P):gN P (bX ρ l m):=by
 refine ⟨(yId (ρ:=ρ) h).pure,fun f vs hp k r hr=>?_⟩
 simp only [bX] at hr
 induction m with
 | nil=>cases hr
 | cons g m ih =>
  simp only [yBa] at hr
  split at hr
  ·rename_i hb
   have:=Nat.eq_of_beq_eq_true hb
   subst this
   exact (hm g (.head _)).ok vs hp k r hr
  ·exact ih (fun g hg=>hm g (.tail _ hg)) hr
theorem aS {ρ:Type}:∀ g ∈ ([]:List (GE ρ)),g.OK P:=fun _ h=>by cases h
end
end Go.Dec
