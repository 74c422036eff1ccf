/- Part of a proof over this seat: a library of my own, and what it says of this seat. No statement is proved here. -/
import Derived.Test.YtdgneppobefaoaaGreatDoorPartAH
namespace Go.Dec
@[reducible] def bW:List Ty->Type
 | []=>Unit
 | [t]=>t.den
 | t :: u :: r=>t.den × bW (u :: r)
def nD:List Value->Value
 | [u]=>u
 | us=>.tuple us.toArray
def yNr (bor:Bool) (N:Nat->Nat->Prop):Nat->Nat->Prop :=
 match bor with
 | true=>fun _ _=>False
 | false=>N
def Ty.jO (w:World) (N:Nat->Nat->Prop) (t:Ty) (x:t.den) (u:Value):Prop :=
 if t.isAgg then ∃ cs:List Value,u=.agg cs.toArray∧t.Rel w N x cs else t.Rel w N x [u]
def DensRel (w:World) (N:Nat->Nat->Prop):(ts:List Ty)->bW ts->List Value->Prop
 | [],_,us=>us=[]
 | [t],x,us=>∃ u,us=[u]∧t.jO w N x u
 | t :: s :: r,x,us=>∃ u us',us=u :: us'∧t.jO w N x.1 u∧DensRel w N (s :: r) x.2 us'
def vOf (t:Ty) (x:t.den):V :=
 match t.isAgg with
 | true=>.agg (explode t x)
 | false=>.one (.val t x)
def sOf (t:Ty) (x:t.den):Sum L (List L) :=
 match t.isAgg with
 | true=>.inr (explode t x)
 | false=>.inl (.val t x)
def vK:(ts:List Ty)->bW ts->List V
 | [],_=>[]
 | [t],x=>[vOf t x]
 | t :: s :: r,x=>vOf t x.1 :: vK (s :: r) x.2
def zWp:(ts:List Ty)->bW ts->List (Sum L (List L))
 | [],_=>[]
 | [t],x=>[sOf t x]
 | t :: s :: r,x=>sOf t x.1 :: zWp (s :: r) x.2
def zWq (t:Ty) (ls:List L):Option t.den :=
 match dD t ls with
 | some (x,[])=>some x
 | _=>none
def zGv (t:Ty) (s:Sum L (List L)):Option t.den :=
 match t.isAgg,s with
 | true,.inr ls=>zWq t ls
 | false,.inl l=>l.asT t
 | _,_=>none
def Lp:(ts:List Ty)->List (Sum L (List L))->Option (bW ts)
 | [],[]=>some ()
 | [t],[s]=>zGv t s
 | t :: u :: r,s :: ss =>
  match zGv t s,Lp (u :: r) ss with
  | some x,some y=>some (x,y)
  | _,_=>none
 | _,_=>none
def V.sum:V->Option (Sum L (List L))
 | .one l=>some (.inl l)
 | .agg ls=>some (.inr ls)
 | _=>none
def zAx (bor:Bool) (h:List Ob) (t:Ty) (v:V):Option (Bool × t.den) :=
 match bor with
 | true =>
  match v.deep h with
  | some (c,u) =>
   match u.sum with
   | some s=>match zGv t s with
    | some x=>some (c,x)
    | none=>none
   | none=>none
  | none=>none
 | false =>
  match v.isD,v.sum with
  | true,some s=>match zGv t s with
   | some x=>some (true,x)
   | none=>none
  | _,_=>none
def gX (bor:Bool) (h:List Ob):(ts:List Ty)->List V->Option (Bool × bW ts)
 | [],[]=>some (true,())
 | [t],[v]=>zAx bor h t v
 | t :: u :: r,v :: vs =>
  match zAx bor h t v,gX bor h (u :: r) vs with
  | some (c,x),some (d,y)=>some (c && d,(x,y))
  | _,_=>none
 | _,_=>none
def Ty.flat:Ty->Bool
 | .pair a b=>a.flat && b.flat
 | .arr _ a=>a.flat
 | .slice _=>false
 | .clip _=>false
 | .opq=>false
 | _=>true
section
variable {β:Nat->Pl} {w:World} {N:Nat->Nat->Prop}
theorem zTh {t:Ty} {x:t.den} {u:Value} (h:t.jO w N x u):(vOf t x).Rel β w N u:=by
 unfold vOf
 unfold Ty.jO at h
 cases ha:t.isAgg with
 | true =>
  rw [ha,if_pos rfl] at h
  obtain ⟨cs,e,h⟩:=h
  exact ⟨cs,e,iZ h⟩
 | false =>
  rw [ha,if_neg (by simp)] at h
  simp only [V.Rel,L.Rel]
  exact h
theorem Dl:∀ {ts:List Ty} {x:bW ts} {us:List Value},DensRel w N ts x us->oG β w N (vK ts x) us
 | [],_,_,h=>by simp only [DensRel] at h; subst h; trivial
 | [t],x,_,h=>by obtain ⟨u,rfl,h⟩:=h; exact ⟨zTh h,trivial⟩
 | t :: s :: r,x,_,h=>by
  obtain ⟨u,us,rfl,h,h2⟩:=h
  exact ⟨zTh h,Dl h2⟩
theorem zTi {t:Ty} {x:t.den} {u:Value} (h:t.jO w N x u):iT β w N (sOf t x) u:=by
 unfold sOf
 unfold Ty.jO at h
 cases ha:t.isAgg with
 | true =>
  rw [ha,if_pos rfl] at h
  obtain ⟨cs,e,h⟩:=h
  exact ⟨cs,e,iZ h⟩
 | false =>
  rw [ha,if_neg (by simp)] at h
  simp only [iT,L.Rel]
  exact h
theorem zIv:∀ {ts:List Ty} {x:bW ts} {us:List Value},DensRel w N ts x us->aV (iT β w N) (zWp ts x) us
 | [],_,_,h=>by simp only [DensRel] at h; subst h; trivial
 | [t],x,_,h=>by obtain ⟨u,rfl,h⟩:=h; exact ⟨zTi h,trivial⟩
 | t :: s :: r,x,_,h=>by
  obtain ⟨u,us,rfl,h,h2⟩:=h
  exact ⟨zTi h,zIv h2⟩
theorem yAw {t:Ty} {ls:List L} {x:t.den} {cs:List Value} (h:zWq t ls=some x) (hr:aN β w N ls cs):t.Rel w N x cs:=by
 unfold zWq at h
 split at h
 ·rename_i y hi
  simp only [aA] at h
  subst h
  obtain ⟨c1,c2,e,h1,h2⟩:=sP hi hr
  simp only [aN] at h2
  subst h2
  rw [List.append_nil] at e
  subst e
  exact h1
 ·cases h
theorem Qw {t:Ty} {s:Sum L (List L)} {x:t.den} {u:Value} (h:zGv t s=some x) (hr:iT β w N s u):t.jO w N x u:=by
 unfold zGv at h
 unfold Ty.jO
 split at h
 ·rename_i ls ha
  rw [ha,if_pos rfl]
  obtain ⟨cs,e,hr⟩:=hr
  exact ⟨cs,e,yAw h hr⟩
 ·rename_i l ha
  rw [ha,if_neg (by simp)]
  exact L.zGf h hr
 ·cases h
theorem zIw:∀ {ts:List Ty} {ss:List (Sum L (List L))} {x:bW ts} {us:List Value},Lp ts ss=some x->aV (iT β w N) ss us->DensRel w N ts x us
 | [],[],_,[],_,_=>rfl
 | [t],[s],x,[u],h,hr=>⟨u,rfl,Qw h hr.1⟩
 | t :: u :: r,s :: ss,x,v :: vs,h,hr=>by
  simp only [Lp] at h
  split at h
  ·rename_i y z h1 h2
   simp only [aA] at h
   subst h
   exact ⟨v,vs,rfl,Qw h1 hr.1,zIw h2 hr.2⟩
  ·cases h
 | [],[],_,_ :: _,_,hr=>hr.elim
 | [],_ :: _,_,_,h,_=>by simp [Lp] at h
 | [t],[],_,_,h,_=>by simp [Lp] at h
 | [t],[s],_,[],_,hr=>hr.elim
 | [t],[s],_,_ :: _ :: _,_,hr=>hr.2.elim
 | [t],_ :: _ :: _,_,_,h,_=>by simp [Lp] at h
 | t :: u :: r,[],_,_,h,_=>by simp [Lp] at h
 | t :: u :: r,s :: ss,_,[],_,hr=>hr.elim
theorem V.zGw {v:V} {s:Sum L (List L)} {u:Value} (h:v.sum=some s) (hr:v.Rel β w N u):iT β w N s u:=by
 cases v <;> simp only [V.sum,aA,reduceCtorEq] at h <;> subst h <;> exact hr
theorem Ty.jO.mono {w':World} {N':Nat->Nat->Prop} (hk:Keep N w w') (hN:∀ b j,b < w.heap.size->N' b j->N b j) {t:Ty} {x:t.den} {u:Value} (h:t.jO w N x u):t.jO w' N' x u:=by
 unfold Ty.jO at *
 split
 ·rename_i ha
  rw [if_pos ha] at h
  obtain ⟨cs,e,h⟩:=h
  exact ⟨cs,e,h.mono hk hN⟩
 ·rename_i ha
  rw [if_neg ha] at h
  exact h.mono hk hN
theorem DensRel.mono {w':World} {N':Nat->Nat->Prop} (hk:Keep N w w') (hN:∀ b j,b < w.heap.size->N' b j->N b j):∀ {ts:List Ty} {x:bW ts} {us:List Value},DensRel w N ts x us->DensRel w' N' ts x us
 | [],_,_,h=>h
 | [t],x,_,h=>by obtain ⟨u,e,h⟩:=h; exact ⟨u,e,h.mono hk hN⟩
 | t :: s :: r,x,_,h=>by obtain ⟨u,us,e,h,h2⟩:=h; exact ⟨u,us,e,h.mono hk hN,h2.mono hk hN⟩
theorem Ty.Rel.flat {N':Nat->Nat->Prop} {w':World}:∀ {t:Ty} {x:t.den} {cs:List Value},t.flat=true->t.Rel w N x cs->t.Rel w' N' x cs
 | .unit,_,_,_,h=>h
 | .bool,_,_,_,h=>h
 | .int _,_,_,_,h=>h
 | .str,_,_,_,h=>h
 | .err,_,_,_,h=>h
 | .opq,_,_,hf,_=>by cases hf
 | .slice _,_,_,hf,_=>by cases hf
 | .clip _,_,_,hf,_=>by cases hf
 | .pair a b,_,_,hf,h=>by
  simp only [Ty.flat,aG] at hf
  obtain ⟨c1,c2,e,h1,h2⟩:=h
  exact ⟨c1,c2,e,Ty.Rel.flat hf.1 h1,Ty.Rel.flat hf.2 h2⟩
 | .arr n a,_,_,hf,h=>by
  simp only [Ty.flat] at hf
  obtain ⟨h0,css,e,h1⟩:=h
  exact ⟨h0,css,e,h1.mono fun x c hx=>Ty.Rel.flat hf hx⟩
theorem Ty.jO.flat {N':Nat->Nat->Prop} {w':World} {t:Ty} {x:t.den} {u:Value} (hf:t.flat=true) (h:t.jO w N x u):t.jO w' N' x u:=by
 unfold Ty.jO at *
 split
 ·rename_i ha
  rw [if_pos ha] at h
  obtain ⟨cs,e,h⟩:=h
  exact ⟨cs,e,h.flat hf⟩
 ·rename_i ha
  rw [if_neg ha] at h
  exact h.flat hf
theorem DensRel.flat {N':Nat->Nat->Prop} {w':World}:∀ {ts:List Ty} {x:bW ts} {us:List Value},bQ Ty.flat ts=true->DensRel w N ts x us->DensRel w' N' ts x us
 | [],_,_,_,h=>h
 | [t],x,_,hf,h=>by
  simp only [bQ,Bool.and_true] at hf
  obtain ⟨u,e,h⟩:=h; exact ⟨u,e,h.flat hf⟩
 | t :: s :: r,x,_,hf,h=>by
  simp only [bQ,aG] at hf
  obtain ⟨u,us,e,h,h2⟩:=h
  exact ⟨u,us,e,h.flat hf.1,DensRel.flat (by simp only [bQ,aG]; exact hf.2) h2⟩
end
def Pure (P:Program) (f:FuncId) (as rs:List Ty) (F:bW as->Option (bW rs)):Prop :=
 gK P f=true∧∀ x y,F x=some y->∀ (w:World) (N:Nat->Nat->Prop) (xs:List Value),Glob P w->(∀ b j,N b j->b < w.heap.size)->DensRel w N as x xs ->
  Calls P f xs.toArray w fun e w'=>∃ us:List Value,e=.returned (nD us)∧w'.os=w.os∧w'.tape=w.tape∧w'.output=w.output∧Keep (fun _ _=>False) w w'∧DensRel w' N rs y us
def zWr (T:Tab) (res:List ResultVar) (rs:List Ty) (σ:St):Option (bW rs) :=
 match Yl T σ res with
 | some (c,vs) =>
  match Lp rs vs with
  | some y=>chk c (some y)
  | none=>none
 | none=>none
def zWs (T:Tab) (res:List ResultVar) (rs:List Ty):K (bW rs):=fun e σ =>
 match e with
 | .normal=>zWr T res rs σ
 | .ret=>zWr T res rs σ
 | _=>none
section
variable {T:Tab} {P:Program}
theorem zMq {C:Ctx} {β β':Nat->Pl} {w:World} {σ:St} {a:Act} {fn:Func} {vs:List (Sum L (List L))} {N':Nat->Nat->Prop} (hT:bI C.P T) (hs:Sim C β σ a w) (hN:∀ b j,b < w.heap.size->N' b j->C.N0 b j) (h:Yl T σ fn.results.toList=some (true,vs)) :
  ∃ us:List Value,(results fn a.tmps).run C.P w=.ok (nD us) w∧aV (iT β' w N') vs us:=by
 obtain ⟨us,h1,h2,_⟩:=zIu (β':=β') hT hs hN h #[]
 refine ⟨us,?_,h2⟩
 have e0:results fn a.tmps=(do let vs <- fn.results.mapM (qY a.tmps); pure (if h:vs.size=1 then vs[0] else .tuple vs)):=by
  unfold results
  congr 1
 have hm:(fn.results.mapM (qY a.tmps):Sem (Array Value)).run C.P w=.ok us.toArray w:=by
  rw [Array.mapM_eq_foldlM,<- Array.foldlM_toList]
  have e:(fun (acc:Array Value) rv=>do let v <- qY a.tmps rv; pure (acc.push v):Array Value->ResultVar->Sem (Array Value))=(fun (acc:Array Value) rv=>acc.push <$> qY a.tmps rv):=by
   funext acc rv
   rfl
  rw [e] at h1
  simpa using h1
 rw [e0]
 simp only [Sem.run_bind,hm,Result.andThen_ok,Sem.run_pure]
 match us with
 | []=>rfl
 | [u]=>rfl
 | u :: v :: us=>simp [nD]
theorem Vk:∀ cs:List Co,bQ (Co.fx 0) cs=true
 | []=>rfl
 | c :: cs=>by
  simp only [bQ,Vk cs,Bool.and_true]
  cases c <;> first | rfl | simp [Co.fx]
theorem Dm {ρ:Type}:∀ an:An ρ,an.fx 0=true
 | .nil=>rfl
 | .mk l r c=>by simp only [An.fx,Dm l,Dm r,Vk,Bool.and_self]
 | .loop _ c0 c1 _ a=>by simp only [An.fx,Dm a,Vk,Bool.and_self]
 | .scope _ a b=>by simp only [An.fx,Dm a,Dm b,Bool.and_self]
 | .sem _=>rfl
 | .co c a=>by simp only [An.fx,Dm a,Vk,Bool.and_self]
 | .join _ c a=>by simp only [An.fx,Dm a,Vk,Bool.and_self]
theorem fJ {f:FuncId} {fn:Func} {c:Code} {as rs:List Ty} {F:bW as->Option (bW rs)} {Γ:Orc (bW rs)} {an:An (bW rs)} (hf:P.funcs[f]?=some fn) (hb:fn.body=some c) (hh:gK P f=true) (hT:bI P T) (hΓ:iU P Γ) (hm:P.follows .mixedOrders=true) (ha:zMm P 0 c an)
  (h:∀ x,ev Γ T c an ⟨Lm (vK as x) fn.ntmps,[]⟩ (zWs T fn.results.toList rs)=F x):Pure P f as rs F:=by
 refine ⟨hh,fun x y hF w N xs hG hN hx=>?_⟩
 rw [<- h x] at hF
 let C:Ctx:={ P:=P,N0:=N,w0:=w,Il:=fun _ _=>False,glob:=fun w' h=>hG.keep fun b hb=>h.block b hb (fun _ h=>h),fix:=[] }
 let β0:Nat->Pl:=fun _=>⟨false,false,0,none,0,0,0,[]⟩
 have hargs:oG β0 w N (vK as x) xs:=Dl hx
 have hxl:(vK as x).length=xs.length:=hargs.length
 have zGk:Sim C β0 ⟨Lm (vK as x) fn.ntmps,[]⟩ { tmps:=xs.toArray++Array.replicate (fn.ntmps - xs.toArray.size) undef,defers:=[] } w:=by
  refine ⟨⟨by simp,fun _ _=>rfl,by simp,by simp,hN,Keep.refl _ _,aK _,rfl,rfl,rfl,fun j o hj=>by cases hj⟩,rfl,by simp [Lm,hxl],?_⟩
  intro i u hu
  simp only [Lm] at hu
  by_cases hi:i < (vK as x).length
  ·rw [eO hi] at hu
   have hi':i < xs.length:=by rw [<- hxl]; exact hi
   have hr:=hargs.get i hi hi'
   rw [List.getElem?_eq_getElem hi] at hu
   simp only [aA] at hu
   subst hu
   have:(xs.toArray++Array.replicate (fn.ntmps - xs.toArray.size) undef).getD i undef=xs[i]:=by
    rw [Array.getD_eq_getD_getElem?,Array.getElem?_append_left (by simpa using hi')]
    simp [hi']
   rw [this]
   refine hr.mono (Moves.refl β0) (Keep.refl _ w) (fun b j _ hb=>?_)
   rcases hb with hb | ⟨id,o,ho,_⟩
   ·exact hb
   ·simp at ho
  ·rw [List.getElem?_append_right (by omega),List.getElem?_replicate] at hu
   split at hu
   ·simp only [aA] at hu; subst hu; trivial
   ·cases hu
 refine calls_of_wp hf hb ?_
 refine zMo (P:=P) hT hΓ hm c an ha (Dm an) _ _ y hF C β0 _ w _ rfl (aK _) zGk ?_
 intro e x' σ' β' a' w' hs' hx' hk
 have fin:zWr T fn.results.toList rs σ'=some y->x'=.ret∨x'=.normal->bodyPost P fn (fun e w'=>∃ us:List Value,e=.returned (nD us)∧w'.os=w.os∧w'.tape=w.tape∧w'.output=w.output∧Keep (fun _ _=>False) w w'∧DensRel w' N rs y us) x' a' w':=by
  intro hk hx'
  unfold zWr at hk
  split at hk
  ·rename_i cc ss hrs
   split at hk
   ·rename_i y' hd
    obtain ⟨rfl,hk⟩:=jX hk
    obtain rfl:=Option.some.inj hk
    obtain ⟨us,h1,h2⟩:=zMq (C:=C) (β':=β0) (N':=N) (fn:=fn) hT hs' (fun _ _ _ hb=>hb) hrs
    have hkeep:Keep (fun _ _=>False) w w':=hs'.heap.frame
    have hR:=zIw hd h2
    rcases hx' with rfl | rfl
    ·exact ⟨hs'.defers,_,h1,us,rfl,hs'.heap.os,hs'.heap.tape,hs'.heap.output,hkeep,hR⟩
    ·exact ⟨hs'.defers,_,h1,us,rfl,hs'.heap.os,hs'.heap.tape,hs'.heap.output,hkeep,hR⟩
   ·cases hk
  ·cases hk
 cases e with
 | normal=>obtain rfl:=hx'; exact fin hk (.inr rfl)
 | ret=>obtain rfl:=hx'; exact fin hk (.inl rfl)
 | exit i=>simp [zWs] at hk
 | goto l=>simp [zWs] at hk
 | pan t u=>simp [zWs] at hk
def gL (as rs:List Ty) (F:bW as->Option (bW rs)):PE where
 R:=bW rs
 use:=1
 run vs h:=match gX (bQ Ty.flat rs) h as vs with
  | some (c,x)=>some (c,F x)
  | none=>none
 enc y _ h:=(yEl (zWp rs y),h)
theorem zMr {C:Ctx} {β:Nat->Pl} {h:List Ob} {w:World} {bor:Bool} {t:Ty} {v:V} {x:t.den} {u:Value} (hd:zAx bor h t v=some (true,x)) (hs:eB C β h w) (hr:v.Rel β w (C.N β h) u) :
  t.jO w (yNr bor (C.N β h)) x u:=by
 unfold zAx at hd
 cases bor with
 | true =>
  simp only at hd ⊢
  split at hd
  ·rename_i c v' hv
   split at hd
   ·rename_i s hsum
    split at hd
    ·rename_i y hy
     simp only [aA,aB] at hd
     obtain ⟨rfl,rfl⟩:=hd
     obtain ⟨h1,_⟩:=V.uL (β':=β) (N':=fun _ _=>False) hv hs (fun _ _ _ h=>h.elim) hr
     exact Qw hy (V.zGw hsum h1)
    ·cases hd
   ·cases hd
  ·cases hd
 | false =>
  simp only at hd ⊢
  split at hd
  ·rename_i s hD hsum
   split at hd
   ·rename_i y hy
    simp only [aA,aB,true_and] at hd
    subst hd
    exact Qw hy (V.zGw hsum hr)
   ·cases hd
  ·cases hd
theorem Dn {C:Ctx} {β:Nat->Pl} {h:List Ob} {w:World} {bor:Bool} (hs:eB C β h w):∀ {ts:List Ty} {vs:List V} {x:bW ts} {us:List Value},gX bor h ts vs=some (true,x)->oG β w (C.N β h) vs us ->
  DensRel w (yNr bor (C.N β h)) ts x us
 | [],[],_,[],_,_=>rfl
 | [t],[v],x,[u],hd,hr=>⟨u,rfl,zMr hd hs hr.1⟩
 | t :: s :: r,v :: vs,x,u :: us,hd,hr=>by
  simp only [gX] at hd
  split at hd
  ·rename_i c y d z h1 h2
   simp only [aA,aB,aG] at hd
   obtain ⟨⟨rfl,rfl⟩,rfl⟩:=hd
   exact ⟨u,us,rfl,zMr h1 hs hr.1,Dn hs h2 hr.2⟩
  ·cases hd
 | [],[],_,_ :: _,_,hr=>hr.elim
 | [],_ :: _,_,_,h,_=>by simp [gX] at h
 | [t],[],_,_,h,_=>by simp [gX] at h
 | [t],[s],_,[],_,hr=>hr.elim
 | [t],[s],_,_ :: _ :: _,_,hr=>hr.2.elim
 | [t],_ :: _ :: _,_,_,h,_=>by simp [gX] at h
 | t :: u :: r,[],_,_,h,_=>by simp [gX] at h
 | t :: u :: r,s :: ss,_,[],_,hr=>hr.elim
theorem zMs {h:List Ob}:∀ {l:L},l.isD=true->l.deep h=some (true,l)
 | .val ..,_=>rfl
 | .kS,_=>rfl
 | .bE,_=>rfl
 | .jW ..,_=>rfl
 | .clo f [],_=>rfl
 | .clo f (_ :: _),h=>by cases h
 | .ptr ..,h=>by cases h
 | .kR ..,h=>by cases h
 | .gI ..,h=>by cases h
 | .sl ..,h=>by cases h
 | .own ..,h=>by cases h
 | .bad _,h=>by cases h
 | .dF ..,h=>by cases h
theorem zIx {h:List Ob}:∀ {ls:List L},bQ L.isD ls=true->Qu h ls=some (true,ls)
 | [],_=>rfl
 | l :: ls,hd=>by
  simp only [bQ,aG] at hd
  simp only [Qu,zMs hd.1,zIx hd.2,Bool.and_self]
theorem zMt {bor:Bool} {t:Ty} {v:V} (hd:v.isD=true) (h h2:List Ob):zAx bor h t v=zAx bor h2 t v:=by
 cases bor with
 | false=>rfl
 | true =>
  unfold zAx
  cases v with
  | one l=>simp only [V.deep,zMs (show l.isD=true from hd)]
  | agg ls=>simp only [V.deep,zIx (show bQ L.isD ls=true from hd)]
  | _=>rfl
theorem zIy {bor:Bool}:∀ {ts:List Ty} {vs:List V} (_:bQ V.isD vs=true) (h h2:List Ob),gX bor h ts vs=gX bor h2 ts vs
 | [],[],_,_,_=>rfl
 | [t],[v],hd,h,h2=>by
  simp only [bQ,Bool.and_true] at hd
  simp only [gX,zMt hd h h2]
 | t :: s :: r,v :: vs,hd,h,h2=>by
  simp only [bQ,aG] at hd
  simp only [gX,zMt hd.1 h h2,zIy (ts:=s :: r) hd.2 h h2]
 | [],_ :: _,_,_,_=>rfl
 | [t],[],_,_,_=>rfl
 | [t],_ :: _ :: _,_,_,_=>rfl
 | t :: s :: r,[],_,_,_=>rfl
theorem zMu {β:Nat->Pl} {w:World} {N:Nat->Nat->Prop} {ss:List (Sum L (List L))} {us:List Value} (h:aV (iT β w N) ss us):(yEl ss).Rel β w N (nD us):=by
 match ss,us,h with
 | [],[],_=>exact ⟨[],rfl,trivial⟩
 | [.inl l],[u],h=>exact h.1
 | [.inr ls],[u],h=>exact h.1
 | s :: t :: ss,u :: v :: us,h=>cases s <;> exact ⟨_,rfl,h⟩
theorem dO {f:FuncId} {as rs:List Ty} {F:bW as->Option (bW rs)} (h:Pure P f as rs F):(gL as rs F).OK P f:=by
 refine ⟨h.1,fun vs hp y hr C β w xs hP hs ha=>?_,fun _ vs h1 h2 hd=>⟨by simp only [gL]; rw [zIy hd h1 h2],fun _=>rfl⟩,fun _ _ _ _=>rfl,fun h=>by cases h⟩
 subst hP
 simp only [gL] at hr
 split at hr
 ·rename_i c x hd
  simp only [aA,aB] at hr
  obtain ⟨rfl,hF⟩:=hr
  have hx:=Dn hs hd ha
  have hn:∀ b j,C.N β hp b j->b < w.heap.size:=fun b j hb=>by
   rcases hb with hb | ⟨id,o,ho,_,hbk⟩
   ·exact Nat.lt_of_lt_of_le (hs.n0 b j hb) hs.size
   ·exact (hs.fP id o b ho ⟨j,hbk⟩).2.1
  refine (h.2 x y hF w _ xs (C.glob w hs.frame) (fun b j hb=>?_) hx).mono ?_
  ·cases hfl:bQ Ty.flat rs with
   | true=>rw [hfl] at hb; exact hb.elim
   | false=>rw [hfl] at hb; exact hn b j hb
  ·rintro e w' ⟨us,rfl,ho,ht,hop,hk,hy⟩
   have hy':DensRel w' (C.N β hp) rs y us:=by
    cases hfl:bQ Ty.flat rs with
    | true=>exact hy.flat hfl
    | false=>rw [hfl] at hy; exact hy
   refine ⟨_,_,β,⟨rfl,rfl⟩,Moves.refl β,hk.weaken fun _ _ h=>h.elim,fun _ _ _ h=>h,?_,_,rfl,zMu (zIv hy')⟩
   refine ⟨fun id o hob=>(hs.obj id o hob).mono (Moves.refl β) (hk.weaken fun _ _ h=>h.elim) (fun _ _ _ h=>h) fun b hb=>hk.block b (hs.fP id o b hob hb).2.1 (fun _ h=>h),hs.dead,hs.mD,?_,hs.n0,hs.frame.zB hk fun _ _ _ h=>h.elim,Nat.le_trans hs.size hk.size,ho.trans hs.os,ht.trans hs.tape,hop.trans hs.output,hs.fixed⟩
   ·intro id o b hob hb
    obtain ⟨k1,k2,k3⟩:=hs.fP id o b hob hb
    exact ⟨k1,Nat.lt_of_lt_of_le k2 hk.size,k3⟩
 ·cases hr
def pes:List (FuncId × PE)->FuncId->Option PE
 | [],_=>none
 | (g,e) :: r,f=>match Nat.beq g f with
  | true=>some e
  | false=>pes r f
def orc (ρ:Type) (l:List (FuncId × PE)):Orc ρ:=⟨pes l,fun _ _ _ _=>none⟩
theorem yNs {ρ:Type}:∀ {l:List (FuncId × PE)},(∀ p ∈ l,p.2.OK P p.1)->iU P (orc ρ l):=by
 intro l h
 refine ⟨fun f e he=>?_,fun _ _ _ _ _ h=>by cases h⟩
 simp only [orc] at he
 induction l with
 | nil=>cases he
 | cons p r ih =>
  obtain ⟨g,e'⟩:=p
  simp only [pes] at he
  split at he
  ·rename_i hb
   have:=aI hb
   subst this
   simp only [aA] at he
   subst he
   exact h _ (.head _)
  ·exact ih (fun p hp=>h p (.tail _ hp)) he
theorem all_nil {Q:FuncId × PE->Prop}:∀ p ∈ ([]:List (FuncId × PE)),Q p:=fun _ h=>by cases h
theorem all_cons {Q:FuncId × PE->Prop} {p:FuncId × PE} {l:List (FuncId × PE)} (h:Q p) (hl:∀ q ∈ l,Q q):∀ q ∈ p :: l,Q q:=fun q hq=>by
 cases hq with
 | head=>exact h
 | tail _ hq=>exact hl q hq
end
end Go.Dec
namespace Go.Dec
mutual
def L.back (f v:Nat->Nat):L->L
 | .ptr id o=>.ptr (f id) o
 | .dF id o=>.dF (f id) o
 | .kR id o es i sub=>.kR (f id) o es i sub
 | .gI id u i o=>.gI (f id) (u+v id) i o
 | .sl id u i n=>.sl (f id) (u+v id) i n
 | .own id u=>.own (f id) (u+v id)
 | .clo g caps=>.clo g (L.backs f v caps)
 | .mp id=>.mp (f id)
 | l=>l
def L.backs (f v:Nat->Nat):List L->List L
 | []=>[]
 | l :: ls=>l.back f v :: L.backs f v ls
end
def V.back (f v:Nat->Nat):V->V
 | .one l=>.one (l.back f v)
 | .agg ls=>.agg (L.backs f v ls)
 | _=>.bU
def Ob.back (f v:Nat->Nat) (id:Nat):Ob->Ob
 | .box e ls=>.box e (L.backs f v ls)
 | .arr e t u rows wr=>.arr e t (u+v id) rows wr
 | .fm tab=>.fm tab
section
variable {β β':Nat->Pl} {w:World} {N N':Nat->Nat->Prop}
structure Vl (p q:Pl) (v:Nat):Prop where
 live:q.live=p.live
 box:q.box=p.box
 blk:q.blk=p.blk
 row:p.box=false->q.ver=p.ver+v∧q.size=p.size∧q.cap=p.cap∧q.len=p.len
theorem Vl.yIn {p q:Pl} {v:Nat} (h:Vl p q v) (hb:p.box=false) {off len:Nat} {c:Value}:eZ q off len c <-> eZ p off len c:=by
 obtain ⟨_,h2,h3,_⟩:=h.row hb
 unfold eZ
 rw [h.blk,h2,h3]
mutual
theorem L.Rel.back {f v:Nat->Nat} (hβ:∀ j,(β j).live=true->Vl (β j) (β' (f j)) (v j)) (hN:∀ b j,b < w.heap.size->N' b j->N b j):∀ {l:L} {cs:List Value},l.Rel β w N cs->(l.back f v).Rel β' w N' cs
 | .val t x,cs,h=>by simp only [L.back,L.Rel] at *; exact Ty.Rel.mono (Keep.refl _ w) hN h
 | .ptr id off,cs,h=>by
  simp only [L.back,L.Rel] at *
  obtain ⟨h1,h2,h3⟩:=h
  have:=hβ id h1
  exact ⟨this.live ▸ h1,this.box ▸ h2,by rw [this.blk]; exact h3⟩
 | .kR id off es i sub,cs,h=>by
  simp only [L.back,L.Rel] at *
  obtain ⟨h1,h2,h3⟩:=h
  have:=hβ id h1
  exact ⟨this.live ▸ h1,this.box ▸ h2,by rw [this.blk]; exact h3⟩
 | .kS,cs,h=>by simp only [L.back,L.Rel] at *; exact h
 | .dF id off,cs,h=>by
  simp only [L.back,L.Rel] at *
  obtain ⟨c,e,h⟩:=h
  refine ⟨c,e,?_⟩
  rcases h with h | ⟨h1,h2,h3⟩
  ·exact .inl h
  ·have:=hβ id h1
   exact .inr ⟨this.live ▸ h1,this.box ▸ h2,by rw [this.blk]; exact h3⟩
 | .gI id u i off,cs,h=>by
  simp only [L.back,L.Rel] at *
  obtain ⟨h1,h2,h3,c,h4,h5,h6⟩:=h
  have:=hβ id h1
  obtain ⟨g1,g2,g3,g4⟩:=this.row h2
  refine ⟨this.live ▸ h1,this.box ▸ h2,by omega,c,h4,h5,fun hv=>?_⟩
  rw [this.blk,g2]
  exact h6 (by omega)
 | .jW t x off,cs,h=>by simp only [L.back,L.Rel] at *; obtain ⟨c,hc,hr⟩:=h; exact ⟨c,hc,hr.mono (Keep.refl _ w) hN⟩
 | .sl id u off len,cs,h=>by
  simp only [L.back,L.Rel] at *
  obtain ⟨h1,h2,h3,c,h4,h5,h6⟩:=h
  have:=hβ id h1
  obtain ⟨g1,g2,g3,g4⟩:=this.row h2
  exact ⟨this.live ▸ h1,this.box ▸ h2,by omega,c,h4,h5,fun hv=>(this.yIn h2).2 (h6 (by omega))⟩
 | .own id u,cs,h=>by
  simp only [L.back,L.Rel] at *
  obtain ⟨h1,h2,h3,c,h4,h5,h6⟩:=h
  have:=hβ id h1
  obtain ⟨g1,g2,g3,g4⟩:=this.row h2
  exact ⟨this.live ▸ h1,this.box ▸ h2,by omega,c,h4,h5,fun hv=>by rw [g4]; exact (this.yIn h2).2 (h6 (by omega))⟩
 | .bE,cs,h=>by simp only [L.back,L.Rel] at *; exact h
 | .clo g caps,cs,h=>by
  simp only [L.back,L.Rel] at *
  obtain ⟨us,hc,hr⟩:=h
  exact ⟨us,hc,L.dJ.back hβ hN hr⟩
 | .bad n,cs,h=>by simp only [L.back,L.Rel] at *; exact h
 | .Er x tab,cs,h=>by simp only [L.back,L.Rel] at *; exact h
 | .mp id,cs,h=>by
  simp only [L.back,L.Rel] at *
  obtain ⟨h1,h2,h3⟩:=h
  have:=hβ id h1
  exact ⟨this.live ▸ h1,this.box ▸ h2,by rw [this.blk]; exact h3⟩
theorem L.dJ.back {f v:Nat->Nat} (hβ:∀ j,(β j).live=true->Vl (β j) (β' (f j)) (v j)) (hN:∀ b j,b < w.heap.size->N' b j->N b j):∀ {ls:List L} {us:List Value},L.dJ β w N ls us->L.dJ β' w N' (L.backs f v ls) us
 | [],us,h=>by simp only [L.backs,L.dJ] at *; exact h
 | l :: ls,us,h=>by
  simp only [L.backs,L.dJ] at *
  obtain ⟨u,r,e,h1,h2⟩:=h
  exact ⟨u,r,e,L.Rel.back hβ hN h1,L.dJ.back hβ hN h2⟩
end
theorem aN.back {f v:Nat->Nat} (hβ:∀ j,(β j).live=true->Vl (β j) (β' (f j)) (v j)) (hN:∀ b j,b < w.heap.size->N' b j->N b j):∀ {ls:List L} {cs:List Value},aN β w N ls cs->aN β' w N' (L.backs f v ls) cs
 | [],_,h=>h
 | _l :: _ls,_,⟨c1,c2,e,h1,h2⟩=>⟨c1,c2,e,h1.back hβ hN,aN.back hβ hN h2⟩
theorem V.Rel.back {f v:Nat->Nat} (hβ:∀ j,(β j).live=true->Vl (β j) (β' (f j)) (v j)) (hN:∀ b j,b < w.heap.size->N' b j->N b j) {x:V} {u:Value} (h:x.Rel β w N u):(x.back f v).Rel β' w N' u:=by
 cases x with
 | one l=>exact L.Rel.back hβ hN h
 | agg ls=>obtain ⟨cs,e,h⟩:=h; exact ⟨cs,e,h.back hβ hN⟩
 | _=>trivial
theorem Ob.Rel.back {f v:Nat->Nat} (hβ:∀ j,(β j).live=true->Vl (β j) (β' (f j)) (v j)) (hN:∀ b j,b < w.heap.size->N' b j->N b j) {id:Nat} {o:Ob} (h:o.Rel β w N (β id)):(o.back f v id).Rel β' w N' (β' (f id)):=by
 cases o with
 | box e ls =>
  simp only [Ob.back,Ob.Rel] at *
  obtain ⟨h1,h2,b,cs,h3,h4,h5⟩:=h
  have:=hβ id h1
  exact ⟨this.live ▸ h1,this.box ▸ h2,b,cs,this.blk ▸ h3,h4.back hβ hN,h5⟩
 | arr e t u rows wr =>
  simp only [Ob.back,Ob.Rel] at *
  obtain ⟨h1,h2,h3,h4,h5,h6,h7⟩:=h
  have:=hβ id h1
  obtain ⟨g1,g2,g3,g4⟩:=this.row h2
  refine ⟨this.live ▸ h1,this.box ▸ h2,by omega,by rw [g2,h4],h5,by rw [g4,h6],?_⟩
  rw [this.blk,g3]
  rcases h7 with h7 | ⟨b,cur,css,k1,k2,k3,k4⟩
  ·exact .inl h7
  ·exact .inr ⟨b,cur,css,k1,k2,k3.mono fun _ _ h=>h.mono (Keep.refl _ w) hN,k4⟩
 | fm tab =>
  simp only [Ob.back,Ob.Rel] at *
  obtain ⟨h1,h2,b,es,n,h3,h4⟩:=h
  have:=hβ id h1
  exact ⟨this.live ▸ h1,this.box ▸ h2,b,es,n,this.blk ▸ h3,h4⟩
end
def dK (P:Program) (f:FuncId) (si so:Sh) (F:si.X->Option so.X):Prop :=
 gK P f=true∧∀ x y,F x=some y->∀ (C:Ctx) (β:Nat->Pl) (w:World) (xs:List Value),C.P=P->C.fix.length <= si.os.length->Sim C β (si.enc x) { tmps:=xs.toArray,defers:=[] } w ->
  Calls P f xs.toArray w fun e w'=>∃ (us:List Value) (β':Nat->Pl),e=.returned (nD us)∧Sim C β' (so.enc y) { tmps:=us.toArray,defers:=[] } w'
def zDl:List V->Option (List (Sum L (List L)))
 | []=>some []
 | v :: r=>match v.sum,zDl r with
  | some s,some ss=>some (s :: ss)
  | _,_=>none
def yEn (vs:List V):V :=
 match zDl vs with
 | some ss=>yEl ss
 | none=>.bU
def Qx (g:Nat->Option Ob):Nat->List Ob->List Ob
 | _,[]=>[]
 | i,o :: r=>(match g i with | some o'=>o' | none=>o) :: Qx g (i+1) r
def qZ (f v:Nat->Nat):Nat->List Ob->List Ob
 | _,[]=>[]
 | j,o :: r=>o.back f v j :: qZ f v (j+1) r
def Bc:List Ob->List OS->Bool
 | [],_=>true
 | .box .. :: r,_ :: s=>Bc r s
 | .fm .. :: r,_ :: s=>Bc r s
 | .arr .. :: r,.row .. :: s=>Bc r s
 | _,_=>false
def kW (ρ:List Nat) (n:Nat) (j:Nat):Nat:=match ρ[j]? with | some i=>i | none=>n+(j - ρ.length)
def jY (ρ:List Nat) (h:List Ob) (j:Nat):Nat:=match ρ[j]? with
 | some i=>(match h[i]? with | some (.arr _ _ u _ _)=>u+1 | _=>0)
 | none=>0
def lF (ρ:List Nat) (h hy:List Ob):List Ob :=
 Qx (fun i=>match pos i ρ 0 with | some j=>(match hy[j]? with | some o=>some (o.back (kW ρ h.length) (jY ρ h) j) | none=>none) | none=>none) 0 h++qZ (kW ρ h.length) (jY ρ h) ρ.length (hy.drop ρ.length)
def zMv (ρ:List Nat) (h:List Ob) (si so:Sh):Bool :=
 nodupB ρ && (bQ (fun i=>Nat.blt i h.length) ρ && (Nat.beq ρ.length si.os.length && (bQ Ob.wr (inH ρ h) && Bc (inH ρ h) so.os)))
def peM (si so:Sh) (F:si.X->Option so.X):PE where
 R:=so.X
 use:=3
 run vs h:=match si.dec ⟨vs.map (V.ren (reach vs h) h),inH (reach vs h) h⟩ with
  | some x=>some (zMv (reach vs h) h si so,F x)
  | none=>none
 enc y vs h:=(yEn ((so.enc y).r.map (V.back (kW (reach vs h) h.length) (jY (reach vs h) h))),lF (reach vs h) h (so.enc y).h)
theorem zMw {g:Nat->Option Ob}:∀ {h:List Ob} {n i:Nat},(Qx g n h)[i]?=(h[i]?).map fun o=>(match g (n+i) with | some o'=>o' | none=>o)
 | [],n,i=>by simp [Qx]
 | o :: r,n,0=>by simp [Qx]
 | o :: r,n,i+1=>by
  simp only [Qx,List.getElem?_cons_succ]
  rw [zMw (h:=r),show n+1+i=n+(i+1) by omega]
theorem xB {g:Nat->Option Ob}:∀ {h:List Ob} {n:Nat},(Qx g n h).length=h.length
 | [],_=>rfl
 | _ :: r,n=>congrArg (· + 1) (xB (h:=r) (n:=n+1))
theorem Vm {f v:Nat->Nat}:∀ {h:List Ob} {n i:Nat},(qZ f v n h)[i]?=(h[i]?).map fun o=>o.back f v (n+i)
 | [],n,i=>by simp [qZ]
 | o :: r,n,0=>by simp [qZ]
 | o :: r,n,i+1=>by
  simp only [qZ,List.getElem?_cons_succ]
  rw [Vm (h:=r),show n+1+i=n+(i+1) by omega]
theorem Lr {f v:Nat->Nat}:∀ {h:List Ob} {n:Nat},(qZ f v n h).length=h.length
 | [],_=>rfl
 | _ :: r,n=>congrArg (· + 1) (Lr (h:=r) (n:=n+1))
theorem Ob.Vn {f v:Nat->Nat} {j:Nat} (o:Ob):(o.back f v j).lZ=o.lZ:=by cases o <;> rfl
theorem Ob.Bf {f v:Nat->Nat} {j:Nat} (o:Ob):(o.back f v j).wr=o.wr:=by cases o <;> rfl
theorem Cm:∀ {hc:List Ob} {os:List OS} {j:Nat} {e:TypeId} {t:Ty} {u:Nat} {rows:List t.den} {wr:Bool},Bc hc os=true->hc[j]?=some (.arr e t u rows wr)->∃ e' t',os[j]?=some (.row e' t')
 | [],_,j,_,_,_,_,_,_,h=>by simp at h
 | .box .. :: r,[],j,_,_,_,_,_,hk,_=>by cases hk
 | .box .. :: r,s :: os,0,_,_,_,_,_,_,h=>by simp at h
 | .box .. :: r,s :: os,j+1,_,_,_,_,_,hk,h=>by
  obtain ⟨e',t',h'⟩:=Cm (hc:=r) (os:=os) (j:=j) hk (by simpa using h)
  exact ⟨e',t',by simpa using h'⟩
 | .fm .. :: r,[],j,_,_,_,_,_,hk,_=>by cases hk
 | .fm .. :: r,s :: os,0,_,_,_,_,_,_,h=>by simp at h
 | .fm .. :: r,s :: os,j+1,_,_,_,_,_,hk,h=>by
  obtain ⟨e',t',h'⟩:=Cm (hc:=r) (os:=os) (j:=j) hk (by simpa using h)
  exact ⟨e',t',by simpa using h'⟩
 | .arr .. :: r,.fm .. :: os,j,_,_,_,_,_,hk,_=>by cases hk
 | .arr .. :: r,[],j,_,_,_,_,_,hk,_=>by cases hk
 | .arr .. :: r,.box .. :: os,j,_,_,_,_,_,hk,_=>by cases hk
 | .arr .. :: r,.row e t :: os,0,_,_,_,_,_,_,_=>⟨e,t,rfl⟩
 | .arr .. :: r,.row e t :: os,j+1,_,_,_,_,_,hk,h=>by
  obtain ⟨e',t',h'⟩:=Cm (hc:=r) (os:=os) (j:=j) hk (by simpa using h)
  exact ⟨e',t',by simpa using h'⟩
theorem Ls {A:Type}:∀ {os:List OS} {x:OTs os A} {j:Nat} {e:TypeId} {t:Ty},os[j]?=some (.row e t)->∃ rows,(iV os x).1[j]?=some (.arr e t 0 rows true)
 | [],_,j,_,_,h=>by simp at h
 | .box e0 ls :: r,x,0,_,_,h=>by simp at h
 | .box e0 ls :: r,x,j+1,e,t,h=>by
  obtain ⟨rows,h'⟩:=Ls (os:=r) (x:=(dU ls x).2) (j:=j) (by simpa using h)
  exact ⟨rows,by simpa [iV] using h'⟩
 | .fm tab :: r,x,0,_,_,h=>by simp at h
 | .fm tab :: r,x,j+1,e,t,h=>by
  obtain ⟨rows,h'⟩:=Ls (os:=r) (x:=x) (j:=j) (by simpa using h)
  exact ⟨rows,by simpa [iV] using h'⟩
 | .row e0 t0 :: r,x,0,e,t,h=>by
  simp only [List.getElem?_cons_zero,aA,OS.row.injEq] at h
  obtain ⟨rfl,rfl⟩:=h
  exact ⟨x.1,rfl⟩
 | .row e0 t0 :: r,x,j+1,e,t,h=>by
  obtain ⟨rows,h'⟩:=Ls (os:=r) (x:=x.2) (j:=j) (by simpa using h)
  exact ⟨rows,by simpa [iV] using h'⟩
theorem Qy {A:Type}:∀ {os:List OS} {x:OTs os A} {j:Nat} {o:Ob},(iV os x).1[j]?=some o->o.wr=true
 | [],_,j,_,h=>by simp [iV] at h
 | .box e0 ls :: r,x,0,_,h=>by simp only [iV,List.getElem?_cons_zero,aA] at h; subst h; rfl
 | .box e0 ls :: r,x,j+1,o,h=>Qy (os:=r) (x:=(dU ls x).2) (j:=j) (by simpa [iV] using h)
 | .fm tab :: r,x,0,_,h=>by simp only [iV,List.getElem?_cons_zero,aA] at h; subst h; rfl
 | .fm tab :: r,x,j+1,o,h=>Qy (os:=r) (x:=x) (j:=j) (by simpa [iV] using h)
 | .row e0 t0 :: r,x,0,_,h=>by simp only [iV,List.getElem?_cons_zero,aA] at h; subst h; rfl
 | .row e0 t0 :: r,x,j+1,o,h=>Qy (os:=r) (x:=x.2) (j:=j) (by simpa [iV] using h)
theorem zIz {β:Nat->Pl} {w:World} {N:Nat->Nat->Prop}:∀ {vs:List V} {us:List Value} {ss:List (Sum L (List L))},zDl vs=some ss->aV (fun v u=>V.Rel β w N v u) vs us->aV (iT β w N) ss us
 | [],[],ss,h,_=>by simp only [zDl,aA] at h; subst h; trivial
 | v :: vs,u :: us,ss,h,hr=>by
  simp only [zDl] at h
  split at h
  ·rename_i s ss' h1 h2
   simp only [aA] at h
   subst h
   exact ⟨V.zGw h1 hr.1,zIz h2 hr.2⟩
  ·cases h
 | [],_ :: _,_,_,hr=>hr.elim
 | _ :: _,[],_,_,hr=>hr.elim
theorem yEo {β:Nat->Pl} {w:World} {N:Nat->Nat->Prop} {vs:List V} {us:List Value} (hr:aV (fun v u=>V.Rel β w N v u) vs us):(yEn vs).Rel β w N (nD us):=by
 unfold yEn
 split
 ·rename_i ss h
  exact zMu (zIz h hr)
 ·trivial
theorem zTj {α γ:Type} {R:α->γ->Prop}:∀ {x:List α} {y:List γ},x.length=y.length->(∀ (i:Nat) (a:α) (b:γ),x[i]?=some a->y[i]?=some b->R a b)->aV R x y
 | [],[],_,_=>trivial
 | a :: x,b :: y,hl,h=>⟨h 0 a b rfl rfl,zTj (by simpa using hl) fun i c d hc hd=>h (i+1) c d (by simpa using hc) (by simpa using hd)⟩
 | [],_ :: _,hl,_=>by simp at hl
 | _ :: _,[],hl,_=>by simp at hl
end Go.Dec
namespace Go.Dec
section
variable {P:Program} {f:FuncId} {si so:Sh} {F:si.X->Option so.X}
theorem zRi {ρ:List Nat} {h:List Ob} (hc:zMv ρ h si so=true):nodupB ρ=true∧(∀ i ∈ ρ,i < h.length)∧ρ.length=si.os.length∧(∀ (j:Nat) (o:Ob),(inH ρ h)[j]?=some o->o.wr=true)∧Bc (inH ρ h) so.os=true:=by
 simp only [zMv,aG] at hc
 obtain ⟨h1,h2,h3,h4,h5⟩:=hc
 refine ⟨h1,fun i hi=>?_,aI h3,fun j o ho=>uI h4 j o ho,h5⟩
 obtain ⟨n,hn⟩:=List.getElem?_of_mem hi
 exact bP (uI h2 n i hn)
def xR:Ob->Bool
 | .box .. => true
 | .arr .. => false
 | .fm _=>true
def Lu (β:Nat->Pl) (h:List Ob) (i:Nat):Option Nat:=match xR (Qq h i) with | true=>(β i).blk | false=>none
def inC (C:Ctx) (β:Nat->Pl) (h:List Ob) (w:World) (ρ:List Nat) (hs:eB C β h w):Ctx where
 P:=C.P
 N0 b j:=C.N β h b j∧∀ i ∈ ρ,∀ o,h[i]?=some o->¬ o.blks (β i) b
 w0:=w
 Il b j:=∃ (i:Nat) (o:Ob),i ∈ ρ∧h[i]?=some o∧o.wr=true∧o.at (β i) b j
 glob w' hw:=C.glob w' (hs.frame.zB hw fun b j hb hm=>by
  obtain ⟨i,o,_,ho,hwo,hbk⟩:=hm
  rcases (hs.fP i o b ho ⟨j,hbk⟩).2.2 with h1 | h1
  ·omega
  ·exact h1 j hwo hbk)
 fix:=ρ.map (Lu β h)
theorem yNt {C:Ctx} {β:Nat->Pl} {w:World} {h:List Ob} {ρ:List Nat} {vs:List V} {xs:List Value} (hs:eB C β h w) (ha:oG β w (C.N β h) vs xs) (hnd:nodupB ρ=true) (hlt:∀ i ∈ ρ,i < h.length) :
  Sim (inC C β h w ρ hs) (Az β ρ) ⟨vs.map (V.ren ρ h),inH ρ h⟩ { tmps:=xs.toArray,defers:=[] } w:=by
 have zMi:=zMh hs hlt
 have hget:∀ i ∈ ρ,∃ o,h[i]?=some o:=fun i hi=>⟨h[i]'(hlt i hi),by simp [hlt i hi]⟩
 have hβ:∀ {j i:Nat},ρ[j]?=some i->Az β ρ j={ β i with ver:=0 }:=fun hi=>by simp only [Az,hi]
 have hNw:∀ b j,C.N β h b j->b < w.heap.size:=fun b j hb=>by
  rcases hb with hb | ⟨id,o,ho,_,hbk⟩
  ·exact Nat.lt_of_lt_of_le (hs.n0 b j hb) hs.size
  ·exact (hs.fP id o b ho ⟨j,hbk⟩).2.1
 have hN:∀ b j,b < w.heap.size->(inC C β h w ρ hs).N (Az β ρ) (inH ρ h) b j->C.N β h b j:=fun b k _ hb=>by
  rcases hb with hb | ⟨j,o,ho,hw,hbk⟩
  ·exact hb.1
  ·obtain ⟨i,hi,rfl⟩:=sU ho
   obtain ⟨o',ho'⟩:=hget i (List.mem_of_getElem? hi)
   rw [fK ho',Ob.Vh] at hw
   rw [fK ho',hβ hi] at hbk
   exact .inr ⟨i,o',ho',hw,Ob.vH (Ob.qW ρ h o') rfl rfl hbk⟩
 refine ⟨⟨?_,?_,?_,?_,fun b j hb=>hNw b j hb.1,Keep.refl _ _,aK _,rfl,rfl,rfl,?_⟩,rfl,by simpa using aV.length ha,?_⟩
 ·intro j o ho
  obtain ⟨i,hi,rfl⟩:=sU ho
  obtain ⟨o',ho'⟩:=hget i (List.mem_of_getElem? hi)
  rw [fK ho',hβ hi]
  have hob:=hs.obj i o' ho'
  cases o' with
  | box e ls =>
   simp only [Ob.ren,Ob.Rel] at *
   obtain ⟨h1,h2,b,cs,h3,h4,h5⟩:=hob
   exact ⟨h1,h2,b,cs,h3,h4.zH zMi hN,h5⟩
  | arr e t v rows wr =>
   simp only [Ob.ren,Ob.Rel] at *
   obtain ⟨h1,h2,h3,h4,h5,h6,h7⟩:=hob
   refine ⟨h1,h2,trivial,h4,h5,h6,?_⟩
   rcases h7 with h7 | ⟨b,cur,css,k1,k2,k3,k4⟩
   ·exact .inl h7
   ·exact .inr ⟨b,cur,css,k1,k2,k3.mono fun _ _ h=>h.mono (Keep.refl _ w) hN,k4⟩
  | fm tab=>simp only [Ob.ren,Ob.Rel] at *; exact hob
 ·intro j hj
  simp only [inH,List.length_map] at hj
  simp only [Az,List.getElem?_eq_none hj]
 ·intro i j o1 o2 b h1 h2 hb1 hb2
  obtain ⟨i',hi,rfl⟩:=sU h1
  obtain ⟨j',hj,rfl⟩:=sU h2
  obtain ⟨o1',ho1⟩:=hget i' (List.mem_of_getElem? hi)
  obtain ⟨o2',ho2⟩:=hget j' (List.mem_of_getElem? hj)
  rw [hβ hi,fK ho1] at hb1
  rw [hβ hj,fK ho2] at hb2
  have:=hs.mD i' j' o1' o2' b ho1 ho2 (Ob.jM (Ob.qW ρ h o1') rfl rfl hb1) (Ob.jM (Ob.qW ρ h o2') rfl rfl hb2)
  subst this
  exact Gr hnd hi hj
 ·intro j o b ho hb
  obtain ⟨i,hi,rfl⟩:=sU ho
  obtain ⟨o',ho'⟩:=hget i (List.mem_of_getElem? hi)
  rw [fK ho',hβ hi] at hb ⊢
  have hb':=Ob.jM (o':=o') (p':=β i) (Ob.qW ρ h o') rfl rfl hb
  exact ⟨fun k hn=>hn.2 i (List.mem_of_getElem? hi) o' ho' hb',(hs.fP i o' b ho' hb').2.1,.inr fun k hw hk=>⟨i,o',List.mem_of_getElem? hi,ho',by rw [Ob.Vh] at hw; exact hw,Ob.vH (Ob.qW ρ h o') rfl rfl hk⟩⟩
 ·intro j o hj
  simp only [inC,List.getElem?_map,Option.map_eq_some_iff] at hj
  obtain ⟨i,hi,rfl⟩:=hj
  refine ⟨by simpa [inH] using (bB.1 hi).1,fun b hb=>?_⟩
  obtain ⟨o',ho'⟩:=hget i (List.mem_of_getElem? hi)
  have hob:=hs.obj i o' ho'
  rw [hβ hi]
  unfold Lu at hb
  rw [fK ho'] at hb
  cases o' with
  | box e ls =>
   simp only [Ob.Rel] at hob
   exact ⟨hb,hob.2.1⟩
  | arr e t v rows wr=>cases hb
  | fm tab =>
   simp only [Ob.Rel] at hob
   exact ⟨hb,hob.2.1⟩
 ·intro i v hv
  simp only [List.getElem?_map,Option.map_eq_some_iff] at hv
  obtain ⟨v0,hv0,rfl⟩:=hv
  have hl:i < xs.length:=by rw [<- aV.length ha]; exact (bB.1 hv0).1
  have hr:=ha.get i (bB.1 hv0).1 hl
  have e:vs[i]'(bB.1 hv0).1=v0:=(bB.1 hv0).2
  rw [e] at hr
  have e2:(xs.toArray).getD i undef=xs[i]:=by simp [hl]
  simp only [e2]
  exact hr.zH zMi hN
def jP (β β':Nat->Pl) (ρ:List Nat) (h:List Ob):Nat->Pl:=fun i =>
 match pos i ρ 0 with
 | some j=>match xR (Qq h i) with
  | true=>β i
  | false=>{ β' j with ver:=(β' j).ver+jY ρ h j }
 | none=>if i < h.length then β i else β' (i - h.length+ρ.length)
theorem Nc {ρ:List Nat} {h hy:List Ob} (hk:ρ.length <= hy.length) {id:Nat} {o:Ob} (ho:(lF ρ h hy)[id]?=some o) :
  (id < h.length∧pos id ρ 0=none∧h[id]?=some o)∨(∃ j ob oy,id < h.length∧ρ[j]?=some id∧pos id ρ 0=some j∧h[id]?=some ob∧hy[j]?=some oy∧o=oy.back (kW ρ h.length) (jY ρ h) j) ∨
   ∃ j oy,ρ.length <= j∧id=h.length+(j - ρ.length)∧hy[j]?=some oy∧o=oy.back (kW ρ h.length) (jY ρ h) j:=by
 unfold lF at ho
 by_cases hid:id < h.length
 ·rw [eO (by rw [xB]; exact hid),zMw,Nat.zero_add] at ho
  obtain ⟨ob,hob⟩:∃ ob,h[id]?=some ob:=⟨h[id],by simp [hid]⟩
  rw [hob] at ho
  simp only [Option.map_some,aA] at ho
  cases hp:pos id ρ 0 with
  | none =>
   rw [hp] at ho
   simp only at ho
   exact .inl ⟨hid,rfl,by rw [hob,ho]⟩
  | some j =>
   obtain ⟨m,hm,hi⟩:=Au hp
   rw [Nat.zero_add] at hm
   subst hm
   have hj:j < hy.length:=Nat.lt_of_lt_of_le (bB.1 hi).1 hk
   have hyj:hy[j]?=some hy[j]:=by simp [hj]
   rw [hp] at ho
   simp only [hyj] at ho
   exact .inr (.inl ⟨j,ob,hy[j],hid,hi,rfl,hob,hyj,ho.symm⟩)
 ·rw [List.getElem?_append_right (by rw [xB]; omega),xB,Vm,List.getElem?_drop] at ho
  simp only [Option.map_eq_some_iff] at ho
  obtain ⟨oy,h1,h2⟩:=ho
  exact .inr (.inr ⟨ρ.length+(id - h.length),oy,by omega,by omega,h1,h2.symm⟩)
theorem Om {ρ:List Nat} {h hy:List Ob}:(lF ρ h hy).length=h.length+(hy.length - ρ.length):=by
 simp [lF,xB,Lr]
theorem yEp {C:Ctx} {β:Nat->Pl} {h:List Ob} {w w':World} {ρ:List Nat} (hs:eB C β h w) (hnd:nodupB ρ=true) (hlt:∀ i ∈ ρ,i < h.length) (hwr:∀ (j:Nat) (o:Ob),(inH ρ h)[j]?=some o->o.wr=true) (zMx:Bc (inH ρ h) so.os=true)
  {y:so.X} {us:List Value} {β':Nat->Pl} (hs':Sim (inC C β h w ρ hs) β' (so.enc y) { tmps:=us.toArray,defers:=[] } w') :
  ∃ β2,Moves β β2∧Keep (C.N β h) w w'∧(∀ b j,b < w.heap.size->C.N β2 (lF ρ h (so.enc y).h) b j->C.N β h b j)∧eB C β2 (lF ρ h (so.enc y).h) w' ∧
   aV (fun v u=>V.Rel β2 w' (C.N β2 (lF ρ h (so.enc y).h)) v u) ((so.enc y).r.map (V.back (kW ρ h.length) (jY ρ h))) us:=by
 generalize hhy:(so.enc y).h=hy at *
 have hget:∀ i ∈ ρ,∃ o,h[i]?=some o:=fun i hi=>⟨h[i]'(hlt i hi),by simp [hlt i hi]⟩
 have hfix:∀ {j i:Nat},ρ[j]?=some i->j < hy.length∧∀ b,Lu β h i=some b->(β' j).blk=some b∧(β' j).box=true:=fun {j i} hi=>by
  have:=hs'.heap.fixed j (Lu β h i) (by simp [inC,hi])
  rw [hhy] at this
  exact this
 have hk:ρ.length <= hy.length:=by
  rcases bG hy.length ρ.length with h1 | h1
  ·have:=(hfix (j:=hy.length) (i:=ρ[hy.length]) (by simp [h1])).1
   omega
  ·exact h1
 have yWp:∀ i ∈ ρ,∀ o,h[i]?=some o->o.wr=true:=fun i hi o ho=>by
  obtain ⟨n,hn⟩:=List.getElem?_of_mem hi
  have:=hwr n ((Qq h i).ren ρ h) (by simp [inH,hn])
  rw [Ob.Vh,fK ho] at this
  exact this
 have hrow:∀ {j i:Nat} {o:Ob},ρ[j]?=some i->h[i]?=some o->xR o=false->∃ oy,hy[j]?=some oy∧xR oy=false:=fun {j i o} hi ho hb=>by
  cases o with
  | box e ls=>cases hb
  | fm tab=>cases hb
  | arr e t u rows wr =>
   obtain ⟨e',t',hrw⟩:=Cm (j:=j) (e:=e) (t:=t) (u:=0) (rows:=rows) (wr:=wr) zMx (by simp [inH,hi,fK ho,Ob.ren])
   obtain ⟨rows',hr'⟩:=Ls (A:=Unit) (x:=(Lj so.rs (List.replicate so.n .bU) y).2) hrw
   exact ⟨_,by rw [<- hhy]; exact hr',rfl⟩
 have zGx:=hs'.heap.obj
 rw [hhy] at zGx
 have yAx:∀ j,hy.length <= j->(β' j).live=false:=fun j hj=>hs'.heap.dead j (by rw [hhy]; exact hj)
 have Oo:=hs'.heap.fP
 rw [hhy] at Oo
 have zTk:=hs'.heap.mD
 rw [hhy] at zTk
 have zWt:∀ {j i:Nat} {o:Ob},ρ[j]?=some i->h[i]?=some o->xR o=true->(β' j).box=true∧(β' j).blk=(β i).blk∧(β i).box=true∧(β i).live=true∧(β' j).live=true:=fun {j i o} hi ho hb=>by
  have hob:=hs.obj i o ho
  obtain ⟨hj,hfx⟩:=hfix hi
  cases o with
  | arr=>cases hb
  | fm tab =>
   simp only [Ob.Rel] at hob
   obtain ⟨k1,k2,b,es,n,k3,_⟩:=hob
   have hfo:Lu β h i=some b:=by simp only [Lu,fK ho,xR,k3]
   obtain ⟨g1,g2⟩:=hfx b hfo
   exact ⟨g2,by rw [g1,k3],k2,k1,(zGx j hy[j] (by simp [hj])).live⟩
  | box e ls =>
   simp only [Ob.Rel] at hob
   obtain ⟨k1,k2,b,cs,k3,_⟩:=hob
   have hfo:Lu β h i=some b:=by simp only [Lu,fK ho,xR,k3]
   obtain ⟨g1,g2⟩:=hfx b hfo
   exact ⟨g2,by rw [g1,k3],k2,k1,(zGx j hy[j] (by simp [hj])).live⟩
 have yEq:∀ {j i:Nat} {o:Ob},ρ[j]?=some i->h[i]?=some o->xR o=true->jP β β' ρ h i=β i:=fun hi ho hb=>by
  simp only [jP,zTc hnd hi,fK ho,hb]
 have yEr:∀ {j i:Nat} {o:Ob},ρ[j]?=some i->h[i]?=some o->xR o=false->jP β β' ρ h i={ β' j with ver:=(β' j).ver+jY ρ h j }:=fun hi ho hb=>by
  simp only [jP,zTc hnd hi,fK ho,hb]
 have zWu:∀ {i:Nat},pos i ρ 0=none->i < h.length->jP β β' ρ h i=β i:=fun hp hi=>by
  simp only [jP,hp,if_pos hi]
 have yIo:∀ {i:Nat},h.length <= i->pos i ρ 0=none:=fun {i} hi=>by
  cases hp:pos i ρ 0 with
  | none=>rfl
  | some j =>
   obtain ⟨m,_,hm⟩:=Au hp
   have:=hlt i (List.mem_of_getElem? hm)
   omega
 have yNu:∀ {j:Nat},ρ.length <= j->jP β β' ρ h (h.length+(j - ρ.length))=β' j:=fun {j} hj=>by
  simp only [jP,yIo (Nat.le_add_right _ _)]
  rw [if_neg (by omega)]
  congr 1
  omega
 have eF:∀ {j i:Nat},ρ[j]?=some i->kW ρ h.length j=i:=fun hi=>by simp only [kW,hi]
 have eF2:∀ {j:Nat},ρ.length <= j->kW ρ h.length j=h.length+(j - ρ.length):=fun hj=>by simp only [kW,List.getElem?_eq_none hj]
 have eU2:∀ {j:Nat},ρ.length <= j->jY ρ h j=0:=fun hj=>by simp only [jY,List.getElem?_eq_none hj]
 have hpl:∀ j,(β' j).live=true->Vl (β' j) (jP β β' ρ h (kW ρ h.length j)) (jY ρ h j):=fun j hl=>by
  have hj:j < hy.length:=by
   rcases bG j hy.length with h1 | h1
   ·exact h1
   ·rw [yAx j h1] at hl; cases hl
  cases hi:ρ[j]? with
  | some i =>
   rw [eF hi]
   obtain ⟨o,ho⟩:=hget i (List.mem_of_getElem? hi)
   cases hb:xR o with
   | true =>
    obtain ⟨g1,g2,g3,g4,g5⟩:=zWt hi ho hb
    rw [yEq hi ho hb]
    exact ⟨by rw [g4,hl],by rw [g3,g1],g2.symm,fun h=>by rw [g1] at h; cases h⟩
   | false =>
    rw [yEr hi ho hb]
    exact ⟨rfl,rfl,rfl,fun _=>⟨rfl,rfl,rfl,rfl⟩⟩
  | none =>
   have hge:ρ.length <= j:=List.getElem?_eq_none_iff.1 hi
   rw [eF2 hge,yNu hge,eU2 hge]
   exact ⟨rfl,rfl,rfl,fun _=>⟨rfl,rfl,rfl,rfl⟩⟩
 have hown:∀ {b k:Nat},(inC C β h w ρ hs).Il b k->∃ (i:Nat) (o:Ob),i ∈ ρ∧h[i]?=some o∧o.wr=true∧o.at (β i) b k:=fun {b k} hb=>hb
 have hkeep:Keep (C.N β h) w w':=hs'.heap.frame.weaken fun k j ho=>by
  obtain ⟨i,o,_,h2,h3,h4⟩:=hown ho
  exact .inr ⟨i,o,h2,h3,h4⟩
 have hat:∀ {id j:Nat} {ob oy:Ob},ρ[j]?=some id->h[id]?=some ob->hy[j]?=some oy->∀ b k,(oy.back (kW ρ h.length) (jY ρ h) j).at (jP β β' ρ h id) b k->oy.at (β' j) b k:=fun {id j ob oy} hi hob hoy b k hbk=>by
  cases hb2:xR ob with
  | true =>
   have hp:oy.lZ=false:=(zGx j oy hoy).yDg (zWt hi hob hb2).1
   rw [yEq hi hob hb2] at hbk
   have:=Ob.zAk (by simp [Ob.plain,Ob.Vn,hp]) hbk
   exact Ob.pO (by rw [(zWt hi hob hb2).2.1]; exact this)
  | false =>
   rw [yEr hi hob hb2] at hbk
   exact Ob.vH (Ob.Vn oy) rfl rfl hbk
 have yEs:∀ {j:Nat} {oy:Ob},ρ.length <= j->∀ b k,(oy.back (kW ρ h.length) (jY ρ h) j).at (jP β β' ρ h (h.length+(j - ρ.length))) b k->oy.at (β' j) b k:=fun {j oy} hj b k hbk=>by
  rw [yNu hj] at hbk
  exact Ob.vH (Ob.Vn oy) rfl rfl hbk
 have zMy:Moves β (jP β β' ρ h):=fun id hl=>by
  have hid:id < h.length:=by
   rcases bG id h.length with h1 | h1
   ·exact h1
   ·rw [hs.dead id h1] at hl; cases hl
  cases hp:pos id ρ 0 with
  | none=>exact .inl (zWu hp hid)
  | some j =>
   obtain ⟨m,hm,hi⟩:=Au hp
   rw [Nat.zero_add] at hm
   subst hm
   obtain ⟨o,ho⟩:=hget id (List.mem_of_getElem? hi)
   cases hb:xR o with
   | true=>exact .inl (yEq hi ho hb)
   | false =>
    obtain ⟨oy,hoy,hby⟩:=hrow hi ho hb
    have hY:=zGx j oy hoy
    have hO:=hs.obj id o ho
    rw [yEr hi ho hb]
    cases o with
    | box=>cases hb
    | fm=>cases hb
    | arr e t u rows wr =>
     cases oy with
     | box=>cases hby
     | fm=>cases hby
     | arr e' t' u' rows' wr' =>
      simp only [Ob.Rel] at hY hO
      refine .inr ⟨hO.2.1,hY.1,hY.2.1,?_⟩
      simp only [jY,hi,ho]
      have:=hO.2.2.1
      omega
 have hbl:∀ {b k:Nat},b < w.heap.size->w.heap.size <= b∨(inC C β h w ρ hs).Il b k->C.N β h b k:=fun {b k} hb ho=>by
  rcases ho with ho | ho
  ·omega
  ·obtain ⟨i,o,_,h2,h3,h4⟩:=hown ho
   exact .inr ⟨i,o,h2,h3,h4⟩
 have yIp:∀ b j,b < w.heap.size->C.N (jP β β' ρ h) (lF ρ h hy) b j->C.N β h b j:=fun b k hb hn=>by
  rcases hn with hn | ⟨id,o,ho,hw,hbk⟩
  ·exact .inl hn
  ·rcases Nc hk ho with ⟨hid,hp,ho⟩ | ⟨j,ob,oy,hid,hi,hp,hob,hoy,rfl⟩ | ⟨j,oy,hj,rfl,hoy,rfl⟩
   ·rw [zWu hp hid] at hbk
    exact .inr ⟨id,o,ho,hw,hbk⟩
   ·rw [Ob.Bf] at hw
    have hbk:=hat hi hob hoy b k hbk
    exact hbl hb ((Oo j oy b hoy ⟨k,hbk⟩).2.2.imp (fun h=>h) fun h=>h k hw hbk)
   ·rw [Ob.Bf] at hw
    have hbk:=yEs hj b k hbk
    exact hbl hb ((Oo j oy b hoy ⟨k,hbk⟩).2.2.imp (fun h=>h) fun h=>h k hw hbk)
 have yIq:∀ b j,b < w'.heap.size->C.N (jP β β' ρ h) (lF ρ h hy) b j->(inC C β h w ρ hs).N β' (so.enc y).h b j:=fun b k _ hn=>by
  rw [hhy]
  rcases hn with hn | ⟨id,o,ho,hw,hbk⟩
  ·exact .inl ⟨.inl hn,fun i hi o ho hbk=>(hs.fP i o b ho hbk).1 k hn⟩
  ·rcases Nc hk ho with ⟨hid,hp,ho⟩ | ⟨j,ob,oy,hid,hi,hp,hob,hoy,rfl⟩ | ⟨j,oy,hj,rfl,hoy,rfl⟩
   ·rw [zWu hp hid] at hbk
    refine .inl ⟨.inr ⟨id,o,ho,hw,hbk⟩,fun i hi oi hoi hbi=>?_⟩
    have:=hs.mD id i o oi b ho hoi ⟨k,hbk⟩ hbi
    subst this
    exact Jb hp hi
   ·rw [Ob.Bf] at hw
    exact .inr ⟨j,oy,hoy,hw,hat hi hob hoy b k hbk⟩
   ·rw [Ob.Bf] at hw
    exact .inr ⟨j,oy,hoy,hw,yEs hj b k hbk⟩
 have zGq:∀ {id:Nat} {o:Ob} {b:Nat},pos id ρ 0=none->h[id]?=some o->o.blks (β id) b->b < w.heap.size∧∀ k,¬ (inC C β h w ρ hs).Il b k:=fun {id o b} hp ho hb=>by
  refine ⟨(hs.fP id o b ho hb).2.1,fun k hw=>?_⟩
  obtain ⟨i,oi,h1,h2,_,h4⟩:=hown hw
  have:=hs.mD id i o oi b ho h2 hb ⟨k,h4⟩
  subst this
  exact Jb hp h1
 have hcls:∀ {id:Nat} {o:Ob},(lF ρ h hy)[id]?=some o->(pos id ρ 0=none∧h[id]?=some o∧jP β β' ρ h id=β id)∨∃ j oy,hy[j]?=some oy∧id=kW ρ h.length j∧o=oy.back (kW ρ h.length) (jY ρ h) j∧∀ b k,o.at (jP β β' ρ h id) b k->oy.at (β' j) b k:=fun {id o} ho=>by
  rcases Nc hk ho with ⟨hid,hp,ho⟩ | ⟨j,ob,oy,hid,hi,hp,hob,hoy,rfl⟩ | ⟨j,oy,hj,rfl,hoy,rfl⟩
  ·exact .inl ⟨hp,ho,zWu hp hid⟩
  ·exact .inr ⟨j,oy,hoy,(eF hi).symm,rfl,hat hi hob hoy⟩
  ·exact .inr ⟨j,oy,hoy,(eF2 hj).symm,rfl,yEs hj⟩
 have yNv:∀ {j:Nat} {oy:Ob},hy[j]?=some oy->(oy.back (kW ρ h.length) (jY ρ h) j).wr=true:=fun {j oy} hoy=>by
  rw [Ob.Bf,<- hhy] at *
  exact Qy hoy
 have yNw:∀ {j id:Nat} {oy:Ob} {b:Nat},hy[j]?=some oy->(∀ b k,(oy.back (kW ρ h.length) (jY ρ h) j).at (jP β β' ρ h id) b k->oy.at (β' j) b k)->(oy.back (kW ρ h.length) (jY ρ h) j).blks (jP β β' ρ h id) b->b < w.heap.size->(∀ k,¬ (inC C β h w ρ hs).Il b k)->False:=fun {j id oy b} hoy eb hb g1 g2=>by
  obtain ⟨q,hb⟩:=hb
  rcases (Oo j oy b hoy ⟨q,eb b q hb⟩).2.2 with h3 | h3
  ·have h3:w.heap.size <= b:=h3
   omega
  ·have hw:=yNv hoy
   rw [Ob.Bf] at hw
   exact g2 q (h3 q hw (eb b q hb))
 have hHS:eB C (jP β β' ρ h) (lF ρ h hy) w':=by
  refine ⟨?_,?_,?_,?_,hs.n0,?_,Nat.le_trans hs.size hs'.heap.size,hs'.heap.os.trans hs.os,hs'.heap.tape.trans hs.tape,hs'.heap.output.trans hs.output,?_⟩
  ·intro id o ho
   rcases hcls ho with ⟨hp,ho,eb⟩ | ⟨j,oy,hoy,rfl,rfl,_⟩
   ·rw [eb]
    exact (hs.obj id o ho).mono zMy hkeep yIp fun b hb=>hs'.heap.frame.block b (zGq hp ho hb).1 (zGq hp ho hb).2
   ·have hY:=zGx j oy hoy
    rw [<- hhy] at hY
    exact Ob.Rel.back (f:=kW ρ h.length) (v:=jY ρ h) hpl yIq hY
  ·intro id hid
   rw [Om] at hid
   have hp:=yIo (i:=id) (by omega)
   simp only [jP,hp]
   rw [if_neg (by omega)]
   exact yAx _ (by omega)
  ·intro i j o1 o2 b h1 h2 hb1 hb2
   rcases hcls h1 with ⟨hp1,ho1,eb1⟩ | ⟨j1,oy1,yNx,rfl,rfl,eb1⟩ <;> rcases hcls h2 with ⟨hp2,ho2,eb2⟩ | ⟨j2,oy2,yNy,rfl,rfl,eb2⟩
   ·rw [eb1] at hb1
    rw [eb2] at hb2
    exact hs.mD i j o1 o2 b ho1 ho2 hb1 hb2
   ·exfalso
    rw [eb1] at hb1
    obtain ⟨g1,g2⟩:=zGq hp1 ho1 hb1
    exact yNw yNy eb2 hb2 g1 g2
   ·exfalso
    rw [eb2] at hb2
    obtain ⟨g1,g2⟩:=zGq hp2 ho2 hb2
    exact yNw yNx eb1 hb1 g1 g2
   ·obtain ⟨q1,hb1⟩:=hb1
    obtain ⟨q2,hb2⟩:=hb2
    rw [zTk j1 j2 oy1 oy2 b yNx yNy ⟨q1,eb1 b q1 hb1⟩ ⟨q2,eb2 b q2 hb2⟩]
  ·intro id o b ho hb
   rcases hcls ho with ⟨hp,ho,eb⟩ | ⟨j,oy,hoy,rfl,rfl,eb⟩
   ·rw [eb] at hb ⊢
    obtain ⟨k1,k2,k3⟩:=hs.fP id o b ho hb
    exact ⟨k1,Nat.lt_of_lt_of_le k2 hs'.heap.size,k3⟩
   ·obtain ⟨q,hb⟩:=hb
    obtain ⟨k1,k2,k3⟩:=Oo j oy b hoy ⟨q,eb b q hb⟩
    rcases bG b w.heap.size with hlt | hge
    ·have hold:∀ k,(oy.back (kW ρ h.length) (jY ρ h) j).wr=true->(oy.back (kW ρ h.length) (jY ρ h) j).at (jP β β' ρ h (kW ρ h.length j)) b k->∃ (i:Nat) (o:Ob),i ∈ ρ∧h[i]?=some o∧o.wr=true∧o.at (β i) b k:=fun k hw hk=>by
      rw [Ob.Bf] at hw
      rcases k3 with k3 | k3
      ·have k3:w.heap.size <= b:=k3
       omega
      ·exact hown (k3 k hw (eb b k hk))
     have hwy:(oy.back (kW ρ h.length) (jY ρ h) j).wr=true:=yNv hoy
     obtain ⟨i,oi,h1,h2,h3,h4⟩:=hold q hwy hb
     obtain ⟨g1,g2,g3⟩:=hs.fP i oi b h2 ⟨q,h4⟩
     refine ⟨g1,k2,?_⟩
     rcases g3 with g3 | g3
     ·exact .inl g3
     ·right
      intro k hw hk
      obtain ⟨i2,oi2,f1,f2,f3,f4⟩:=hold k hw hk
      rcases (hs.fP i2 oi2 b f2 ⟨k,f4⟩).2.2 with g5 | g5
      ·have:=hs.mD i i2 oi oi2 b h2 f2 ⟨q,h4⟩ ⟨k,f4⟩
       subst this
       rw [h2] at f2
       simp only [aA] at f2
       subst f2
       exact g3 k f3 f4
      ·exact g5 k f3 f4
    ·have h0:=hs.size
     exact ⟨fun _ hn=>by have:=hs.n0 b _ hn; omega,k2,.inl (by omega)⟩
  ·refine hs.frame.zB hs'.heap.frame fun b j hb ho=>?_
   obtain ⟨i,oi,h1,h2,h3,h4⟩:=hown ho
   rcases (hs.fP i oi b h2 ⟨j,h4⟩).2.2 with h5 | h5
   ·omega
   ·exact h5 j h3 h4
  ·intro j o hj
   obtain ⟨k1,k2⟩:=hs.fixed j o hj
   refine ⟨by rw [Om]; omega,fun b hb=>?_⟩
   obtain ⟨k3,k4⟩:=k2 b hb
   have hoj:h[j]?=some h[j]:=by simp [k1]
   rcases zMy j (hs.obj j _ hoj).live with e | ⟨e,_⟩
   ·rw [e]; exact ⟨k3,k4⟩
   ·rw [k4] at e; cases e
 refine ⟨jP β β' ρ h,zMy,hkeep,yIp,hHS,?_⟩
 refine zTj (by have:=hs'.size; simpa using this) fun i v u hv hu=>?_
 simp only [List.getElem?_map,Option.map_eq_some_iff] at hv
 obtain ⟨v0,hv0,rfl⟩:=hv
 have hr:=hs'.reg i v0 hv0
 have e:(us.toArray).getD i undef=u:=by
  rw [Array.getD_eq_getD_getElem?]
  simp [hu]
 simp only [e] at hr
 exact hr.back (f:=kW ρ h.length) (v:=jY ρ h) hpl yIq
theorem yIr {l:L} (h:l.isD=true):l.ids=[]:=by
 cases l <;> first | rfl | (cases h; done) | (rename_i f cs; cases cs <;> first | rfl | cases h)
theorem yAy:∀ {ls:List L},bQ L.isD ls=true->L.Aq ls=[]
 | [],_=>rfl
 | l :: ls,h=>by
  simp only [bQ,aG] at h
  simp only [L.Aq,yIr h.1,yAy h.2,List.append_nil]
theorem yAz:∀ {vs:List V},bQ V.isD vs=true->zMa vs=[]
 | [],_=>rfl
 | v :: vs,h=>by
  simp only [bQ,aG] at h
  have h1:v.ids=[]:=by
   cases v with
   | one l=>exact yIr h.1
   | agg ls=>exact yAy h.1
   | _=>rfl
  simp only [zMa,h1,yAz h.2,List.append_nil]
theorem Ym {vs:List V} {h:List Ob} (hd:bQ V.isD vs=true):reach vs h=[]:=by
 unfold reach
 rw [yAz hd]
 rfl
theorem yIs {ρ:List Nat} {h h2:List Ob} {l:L} (hd:l.isD=true):l.ren ρ h=l.ren ρ h2:=by
 cases l <;> first | rfl | (cases hd; done) | (rename_i f cs; cases cs <;> first | rfl | cases hd)
theorem yBa {ρ:List Nat} {h h2:List Ob}:∀ {ls:List L},bQ L.isD ls=true->L.uH ρ h ls=L.uH ρ h2 ls
 | [],_=>rfl
 | l :: ls,hd=>by
  simp only [bQ,aG] at hd
  simp only [L.uH,yIs (h:=h) (h2:=h2) hd.1,yBa (h:=h) (h2:=h2) hd.2]
theorem yBb {ρ:List Nat} {h h2:List Ob}:∀ {vs:List V},bQ V.isD vs=true->vs.map (V.ren ρ h)=vs.map (V.ren ρ h2)
 | [],_=>rfl
 | v :: vs,hd=>by
  simp only [bQ,aG] at hd
  have h1:V.ren ρ h v=V.ren ρ h2 v:=by
   cases v with
   | one l=>simp only [V.ren,yIs (h:=h) (h2:=h2) hd.1]
   | agg ls=>simp only [V.ren,yBa (h:=h) (h2:=h2) hd.1]
   | _=>rfl
  simp only [List.map_cons,h1,yBb (h:=h) (h2:=h2) hd.2]
theorem zJa:∀ {h:List Ob} {n:Nat},Qx (fun _=>none) n h=h
 | [],_=>rfl
 | o :: r,n=>by simp only [Qx,zJa]
theorem Zw (h hy:List Ob):lF [] h hy=h++qZ (kW [] h.length) (jY [] h) 0 hy:=by
 unfold lF
 simp only [pos,List.length_nil,List.drop_zero,zJa]
theorem yKp {vs:List V} {h h2:List Ob} (hd:bQ V.isD vs=true) (hl:h2.length=h.length) :
  (peM si so F).run vs h=(peM si so F).run vs h2∧∀ y,((peM si so F).enc y vs h).1=((peM si so F).enc y vs h2).1∧∃ os,((peM si so F).enc y vs h).2=h++os∧((peM si so F).enc y vs h2).2=h2++os:=by
 have e1:vs.map (V.ren [] h)=vs.map (V.ren [] h2):=yBb hd
 have e2:jY [] h=jY [] h2:=rfl
 refine ⟨?_,fun y=>⟨?_,qZ (kW [] h.length) (jY [] h) 0 (so.enc y).h,?_,?_⟩⟩
 ·simp only [peM,Ym hd,e1]
  rfl
 ·simp only [peM,Ym hd,hl,e2]
 ·simp only [peM,Ym hd,Zw]
 ·simp only [peM,Ym hd,Zw,hl,e2]
theorem bA (hM:dK P f si so F):(peM si so F).OK P f:=by
 refine ⟨hM.1,fun vs h y hr C β w xs hP hs ha=>?_,fun h=>(by cases h),fun h=>(by cases h),fun _ vs h h2 hd hl=>yKp hd hl⟩
 subst hP
 simp only [peM] at hr
 split at hr
 case h_2=>cases hr
 rename_i x hx
 simp only [aA,aB] at hr
 obtain ⟨hok,hF⟩:=hr
 obtain ⟨hnd,hlt,hlen,hwr,zMx⟩:=zRi hok
 have zGk:=zTe hx (yNt hs ha hnd hlt)
 refine (hM.2 x y hF (inC C β h w _ hs) _ w xs rfl (by simp [inC,hlen]) zGk).mono ?_
 rintro e w' ⟨us,β',rfl,hs'⟩
 obtain ⟨β2,h1,h2,h3,h4,h5⟩:=yEp hs hnd hlt hwr zMx hs'
 exact ⟨_,_,β2,⟨rfl,rfl⟩,h1,h2,h3,h4,_,rfl,yEo h5⟩
end
end Go.Dec
namespace Go.Dec
section
variable {T:Tab} {C:Ctx} {β:Nat->Pl} {w:World}
def zAy (T:Tab) (σ:St):ResultVar->Option (Bool × V)
 | .tmp t=>some (true,σ.r.getD t .bU)
 | .cell t ty =>
  match σ.r.getD t .bU with
  | .one l=>loadAt T σ.h ty l
  | _=>none
def mK (T:Tab) (σ:St):List ResultVar->Option (Bool × List V)
 | []=>some (true,[])
 | x :: r =>
  match zAy T σ x,mK T σ r with
  | some (c,l),some (d,ls)=>some (c && d,l :: ls)
  | _,_=>none
theorem yEt {σ:St} {a:Act} {rv:ResultVar} {v:V} (hT:bI C.P T) (hs:Sim C β σ a w) (h:zAy T σ rv=some (true,v)) :
  ∃ x,(qY a.tmps rv).run C.P w=.ok x w∧v.Rel β w (C.N β σ.h) x:=by
 cases rv with
 | tmp t =>
  simp only [zAy,aA,aB,true_and] at h
  subst h
  exact ⟨a.tmps.getD t undef,rfl,Qv hs t⟩
 | cell t ty =>
  simp only [zAy] at h
  have hr:=Qv hs t
  split at h
  ·rename_i l hl
   rw [hl] at hr
   obtain ⟨y,h1,h2⟩:=Gg hT h hs.heap hr
   obtain ⟨ad,h3,h4⟩:=Nb h1
   refine ⟨y,?_,h2⟩
   simp only [qY,h3,asAddr,Sem.run_bind,Sem.run_pure,Result.andThen_ok,h4]
  ·cases h
theorem zJb {σ:St} {a:Act} (hT:bI C.P T) (hs:Sim C β σ a w):∀ {rs:List ResultVar} {vs:List V},mK T σ rs=some (true,vs) ->
  ∀ acc:Array Value,∃ us:List Value,(rs.foldlM (fun (acc:Array Value) rv=>do let v <- qY a.tmps rv; pure (acc.push v)) acc).run C.P w=.ok (acc++us.toArray) w∧aV (fun v u=>V.Rel β w (C.N β σ.h) v u) vs us
 | [],vs,h,acc=>by
  simp only [mK,aA,aB,true_and] at h
  subst h
  exact ⟨[],by simp,trivial⟩
 | rv :: rs,vs,h,acc=>by
  simp only [mK] at h
  split at h
  ·rename_i c s d r h1 h2
   simp only [aA,aB,aG] at h
   obtain ⟨⟨rfl,rfl⟩,rfl⟩:=h
   obtain ⟨x,g1,g2⟩:=yEt hT hs h1
   obtain ⟨us,g4,g5⟩:=zJb hT hs h2 (acc.push x)
   refine ⟨x :: us,?_,⟨g2,g5⟩⟩
   simp only [List.foldlM_cons,Sem.run_bind,g1,Result.andThen_ok,Sem.run_pure,g4]
   simp
  ·cases h
theorem zMz {σ:St} {a:Act} {fn:Func} {vs:List V} (hT:bI C.P T) (hs:Sim C β σ a w) (h:mK T σ fn.results.toList=some (true,vs)) :
  ∃ us:List Value,(results fn a.tmps).run C.P w=.ok (nD us) w∧aV (fun v u=>V.Rel β w (C.N β σ.h) v u) vs us:=by
 obtain ⟨us,h1,h2⟩:=zJb hT hs h #[]
 refine ⟨us,?_,h2⟩
 have e0:results fn a.tmps=(do let vs <- fn.results.mapM (qY a.tmps); pure (if h:vs.size=1 then vs[0] else .tuple vs)):=by
  unfold results
  congr 1
 have hm:(fn.results.mapM (qY a.tmps):Sem (Array Value)).run C.P w=.ok us.toArray w:=by
  rw [Array.mapM_eq_foldlM,<- Array.foldlM_toList]
  have e:(fun (acc:Array Value) rv=>do let v <- qY a.tmps rv; pure (acc.push v):Array Value->ResultVar->Sem (Array Value))=(fun (acc:Array Value) rv=>acc.push <$> qY a.tmps rv):=by
   funext acc rv
   rfl
  rw [e] at h1
  simpa using h1
 rw [e0]
 simp only [Sem.run_bind,hm,Result.andThen_ok,Sem.run_pure]
 match us with
 | []=>rfl
 | [u]=>rfl
 | u :: v :: us=>simp [nD]
theorem yEu {σ:St} {a:Act} {vs:List V} {us:List Value} (hs:Sim C β σ a w) (h:aV (fun v u=>V.Rel β w (C.N β σ.h) v u) vs us):Sim C β ⟨vs,σ.h⟩ { tmps:=us.toArray,defers:=[] } w:=by
 refine ⟨hs.heap,rfl,by simpa using h.length,fun i v hv=>?_⟩
 have hl:i < us.length:=by rw [<- h.length]; exact (bB.1 hv).1
 have hr:=h.get i (bB.1 hv).1 hl
 rw [(bB.1 hv).2] at hr
 have e2:(us.toArray).getD i undef=us[i]:=by simp [hl]
 simp only [e2]
 exact hr
def zNa (T:Tab) {ρ:Type} (res:List ResultVar) (so:Sh) (co:List Co) (σ:St) (g:so.X->Option ρ):Option ρ :=
 match mK T σ res with
 | some (c,vs)=>chk c (enter T so co ⟨vs,σ.h⟩ g)
 | none=>none
def zWv (T:Tab) (res:List ResultVar) (so:Sh) (co:List Co):K so.X:=fun e σ =>
 match e with
 | .normal=>zNa T res so co σ some
 | .ret=>zNa T res so co σ some
 | _=>none
theorem yEv {σ:St} {a:Act} {fn:Func} {so:Sh} {co:List Co} {ρ:Type} {g:so.X->Option ρ} {r:ρ} {kf:Nat} (hT:bI C.P T) (hkf:C.fix.length <= kf) (hfx:bQ (Co.fx kf) co=true) (hs:Sim C β σ a w) (h:zNa T fn.results.toList so co σ g=some r) :
  ∃ (us:List Value) (β':Nat->Pl) (y:so.X),(results fn a.tmps).run C.P w=.ok (nD us) w∧Sim C β' (so.enc y) { tmps:=us.toArray,defers:=[] } w∧g y=some r:=by
 unfold zNa at h
 split at h
 ·rename_i c vs hvs
  obtain ⟨rfl,h⟩:=jX h
  obtain ⟨us,h1,h2⟩:=zMz hT hs hvs
  obtain ⟨β',_,y,h3,h4⟩:=yS hT hkf hfx h (yEu hs h2)
  exact ⟨us,β',y,h1,h3,h4⟩
 ·cases h
end
section
variable {P:Program} {T:Tab} {f:FuncId} {fn:Func} {c:Code} {si so sp:Sh}
theorem yBc {C:Ctx} {β:Nat->Pl} {w:World} {σ:St} {xs:List Value} (n:Nat) (hs:Sim C β σ { tmps:=xs.toArray,defers:=[] } w) :
  Sim C β ⟨Lm σ.r n,σ.h⟩ { tmps:=xs.toArray++Array.replicate (n - xs.toArray.size) undef,defers:=[] } w:=by
 have hl:σ.r.length=xs.length:=by simpa using hs.size
 refine ⟨hs.heap,rfl,by simp [Lm,hl],fun i u hu=>?_⟩
 simp only [Lm] at hu
 by_cases hi:i < σ.r.length
 ·rw [eO hi] at hu
  have hr:=hs.reg i u hu
  have e:(xs.toArray++Array.replicate (n - xs.toArray.size) undef).getD i undef=(xs.toArray).getD i undef:=by
   rw [Array.getD_eq_getD_getElem?,Array.getD_eq_getD_getElem?,Array.getElem?_append_left (by simpa using by omega)]
  rw [e]
  exact hr
 ·rw [List.getElem?_append_right (by omega),List.getElem?_replicate] at hu
  split at hu
  ·simp only [aA] at hu; subst hu; trivial
  ·cases hu
theorem bS {F:si.X->Option so.X} {Γ:Orc so.X} {an:An so.X} {co:List Co} (hf:P.funcs[f]?=some fn) (hb:fn.body=some c) (hh:gK P f=true) (hT:bI P T) (hΓ:iU P Γ) (hm:P.follows .mixedOrders=true)
  (ha:zMm P si.os.length c an) (hfx:an.fx si.os.length=true) (hco:bQ (Co.fx si.os.length) co=true)
  (h:∀ x,ev Γ T c an ⟨Lm (si.enc x).r fn.ntmps,(si.enc x).h⟩ (zWv T fn.results.toList so co)=F x):dK P f si so F:=by
 refine ⟨hh,fun x y hF C β w xs hP hkf hs=>?_⟩
 rw [<- h x] at hF
 refine calls_of_wp hf hb ?_
 refine zMo (P:=P) hT hΓ hm c an ha hfx _ _ y hF C β _ w _ hP hkf (yBc fn.ntmps hs) ?_
 intro e x' σ' β' a' w' hs' hx' hk
 have fin:zNa T fn.results.toList so co σ' some=some y->x'=.ret∨x'=.normal->bodyPost P fn (fun e w'=>∃ (us:List Value) (β':Nat->Pl),e=.returned (nD us)∧Sim C β' (so.enc y) { tmps:=us.toArray,defers:=[] } w') x' a' w':=by
  intro hk hx'
  subst hP
  obtain ⟨us,β2,y',h1,h2,h3⟩:=yEv (fn:=fn) hT hkf hco hs' hk
  obtain rfl:=Option.some.inj h3
  rcases hx' with rfl | rfl
  ·exact ⟨hs'.defers,_,h1,us,β2,rfl,h2⟩
  ·exact ⟨hs'.defers,_,h1,us,β2,rfl,h2⟩
 cases e with
 | normal=>obtain rfl:=hx'; exact fin hk (.inr rfl)
 | ret=>obtain rfl:=hx'; exact fin hk (.inl rfl)
 | exit i=>simp [zWv] at hk
 | goto l=>simp [zWv] at hk
 | pan t u=>simp [zWv] at hk
structure GE (ρ:Type) where
 f:FuncId
 run:List V->List Ob->(Out->List Ob->Option ρ)->Option ρ
structure GE.OK (P:Program) {ρ:Type} (g:GE ρ):Prop where
 ok:∀ vs h k r,g.run vs h k=some r->gK P g.f=true∧Gl P g.f vs h fun out h'=>k out h'=some r∧∀ id,id < h.length->id ∉ reach vs h->h'[id]?=h[id]?
def yEw {ρ:Type}:List (GE ρ)->FuncId->List V->List Ob->(Out->List Ob->Option ρ)->Option ρ
 | [],_,_,_,_=>none
 | g :: r,f,vs,h,k=>match Nat.beq g.f f with
  | true=>g.run vs h k
  | false=>yEw r f vs h k
def dG (ρ:Type) (l:List (FuncId × PE)) (m:List (GE ρ)):Orc ρ:=⟨pes l,yEw m⟩
theorem aW {ρ:Type} {l:List (FuncId × PE)} {m:List (GE ρ)} (h:∀ p ∈ l,p.2.OK P p.1) (hm:∀ g ∈ m,g.OK P):iU P (dG ρ l m):=by
 refine ⟨(yNs (ρ:=ρ) h).pure,fun f vs hp k r hr=>?_⟩
 simp only [dG] at hr
 induction m with
 | nil=>cases hr
 | cons g m ih =>
  simp only [yEw] at hr
  split at hr
  ·rename_i hb
   have:=aI hb
   subst this
   exact (hm g (.head _)).ok vs hp k r hr
  ·exact ih (fun g hg=>hm g (.tail _ hg)) hr
theorem aX {ρ:Type}:∀ g ∈ ([]:List (GE ρ)),g.OK P:=fun _ h=>by cases h
end
end Go.Dec
