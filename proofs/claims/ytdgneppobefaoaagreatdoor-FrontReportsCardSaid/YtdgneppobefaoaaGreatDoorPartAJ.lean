/- Part of a proof over this seat: a library of my own, and what it says of this seat. No statement is proved here. -/
import Derived.Test.YtdgneppobefaoaaGreatDoorPartAI
namespace Go.Dec
@[reducible] def bP:List Ty->Type
 | []=>Unit
 | [t]=>t.den
 | t :: u :: r=>t.den × bP (u :: r)
def jY:List Value->Value
 | [u]=>u
 | us=>.tuple us.toArray
def zQy (bor:Bool) (N:Nat->Nat->Prop):Nat->Nat->Prop :=
 match bor with
 | true=>fun _ _=>False
 | false=>N
def DensRel (w:World) (N:Nat->Nat->Prop):(ts:List Ty)->bP ts->List Value->Prop
 | [],_,us=>us=[]
 | [t],x,us=>∃ u,us=[u]∧t.bH w N x u
 | t :: s :: r,x,us=>∃ u us',us=u :: us'∧t.bH w N x.1 u∧DensRel w N (s :: r) x.2 us'
def vOf (t:Ty) (x:t.den):V :=
 match t.isAgg with
 | true=>.agg (explode t x)
 | false=>.one (.val t x)
def sOf (t:Ty) (x:t.den):Sum L (List L) :=
 match t.isAgg with
 | true=>.inr (explode t x)
 | false=>.inl (.val t x)
def nV:(ts:List Ty)->bP ts->List V
 | [],_=>[]
 | [t],x=>[vOf t x]
 | t :: s :: r,x=>vOf t x.1 :: nV (s :: r) x.2
def zFf:(ts:List Ty)->bP ts->List (Sum L (List L))
 | [],_=>[]
 | [t],x=>[sOf t x]
 | t :: s :: r,x=>sOf t x.1 :: zFf (s :: r) x.2
def zFg (t:Ty) (ls:List L):Option t.den :=
 match bI t ls with
 | some (x,[])=>some x
 | _=>none
def Rx (t:Ty) (s:Sum L (List L)):Option t.den :=
 match t.isAgg,s with
 | true,.inr ls=>zFg t ls
 | false,.inl l=>l.asT t
 | _,_=>none
def xO:(ts:List Ty)->List (Sum L (List L))->Option (bP ts)
 | [],[]=>some ()
 | [t],[s]=>Rx t s
 | t :: u :: r,s :: ss =>
  match Rx t s,xO (u :: r) ss with
  | some x,some y=>some (x,y)
  | _,_=>none
 | _,_=>none
def V.sum:V->Option (Sum L (List L))
 | .one l=>some (.inl l)
 | .agg ls=>some (.inr ls)
 | _=>none
def Jr (bor:Bool) (h:List Ob) (t:Ty) (v:V):Option (Bool × t.den) :=
 match bor with
 | true =>
  match v.deep h with
  | some (c,u) =>
   match u.sum with
   | some s=>match Rx t s with
    | some x=>some (c,x)
    | none=>none
   | none=>none
  | none=>none
 | false =>
  match v.isD,v.sum with
  | true,some s=>match Rx t s with
   | some x=>some (true,x)
   | none=>none
  | _,_=>none
def eU (bor:Bool) (h:List Ob):(ts:List Ty)->List V->Option (Bool × bP ts)
 | [],[]=>some (true,())
 | [t],[v]=>Jr bor h t v
 | t :: u :: r,v :: vs =>
  match Jr bor h t v,eU bor h (u :: r) vs with
  | some (c,x),some (d,y)=>some (c && d,(x,y))
  | _,_=>none
 | _,_=>none
def Ty.flat:Ty->Bool
 | .pair a b=>a.flat && b.flat
 | .arr _ a=>a.flat
 | .slice _=>false
 | .clip _=>false
 | .opq=>false
 | _=>true
section
variable {β:Nat->Pl} {w:World} {N:Nat->Nat->Prop}
theorem zCt {t:Ty} {x:t.den} {u:Value} (h:t.bH w N x u):(vOf t x).Rel β w N u:=by
 unfold vOf
 unfold Ty.bH at h
 cases ha:t.isAgg with
 | true =>
  rw [ha,if_pos rfl] at h
  obtain ⟨cs,e,h⟩:=h
  exact ⟨cs,e,dZ h⟩
 | false =>
  rw [ha,if_neg (by simp)] at h
  simp only [V.Rel,L.Rel]
  exact h
theorem tK:∀ {ts:List Ty} {x:bP ts} {us:List Value},DensRel w N ts x us->iM β w N (nV ts x) us
 | [],_,_,h=>by simp only [DensRel] at h; subst h; trivial
 | [t],x,_,h=>by obtain ⟨u,rfl,h⟩:=h; exact ⟨zCt h,trivial⟩
 | t :: s :: r,x,_,h=>by
  obtain ⟨u,us,rfl,h,h2⟩:=h
  exact ⟨zCt h,tK h2⟩
theorem zCu {t:Ty} {x:t.den} {u:Value} (h:t.bH w N x u):cZ β w N (sOf t x) u:=by
 unfold sOf
 unfold Ty.bH at h
 cases ha:t.isAgg with
 | true =>
  rw [ha,if_pos rfl] at h
  obtain ⟨cs,e,h⟩:=h
  exact ⟨cs,e,dZ h⟩
 | false =>
  rw [ha,if_neg (by simp)] at h
  simp only [cZ,L.Rel]
  exact h
theorem Uh:∀ {ts:List Ty} {x:bP ts} {us:List Value},DensRel w N ts x us->aP (cZ β w N) (zFf ts x) us
 | [],_,_,h=>by simp only [DensRel] at h; subst h; trivial
 | [t],x,_,h=>by obtain ⟨u,rfl,h⟩:=h; exact ⟨zCu h,trivial⟩
 | t :: s :: r,x,_,h=>by
  obtain ⟨u,us,rfl,h,h2⟩:=h
  exact ⟨zCu h,Uh h2⟩
theorem zIt {t:Ty} {ls:List L} {x:t.den} {cs:List Value} (h:zFg t ls=some x) (hr:aI β w N ls cs):t.Rel w N x cs:=by
 unfold zFg at h
 split at h
 ·rename_i y hi
  simp only [aA] at h
  subst h
  obtain ⟨c1,c2,e,h1,h2⟩:=jG hi hr
  simp only [aI] at h2
  subst h2
  rw [List.append_nil] at e
  subst e
  exact h1
 ·cases h
theorem Ae {t:Ty} {s:Sum L (List L)} {x:t.den} {u:Value} (h:Rx t s=some x) (hr:cZ β w N s u):t.bH w N x u:=by
 unfold Rx at h
 unfold Ty.bH
 split at h
 ·rename_i ls ha
  rw [ha,if_pos rfl]
  obtain ⟨cs,e,hr⟩:=hr
  exact ⟨cs,e,zIt h hr⟩
 ·rename_i l ha
  rw [ha,if_neg (by simp)]
  exact L.Gc h hr
 ·cases h
theorem Ui:∀ {ts:List Ty} {ss:List (Sum L (List L))} {x:bP ts} {us:List Value},xO ts ss=some x->aP (cZ β w N) ss us->DensRel w N ts x us
 | [],[],_,[],_,_=>rfl
 | [t],[s],x,[u],h,hr=>⟨u,rfl,Ae h hr.1⟩
 | t :: u :: r,s :: ss,x,v :: vs,h,hr=>by
  simp only [xO] at h
  split at h
  ·rename_i y z h1 h2
   simp only [aA] at h
   subst h
   exact ⟨v,vs,rfl,Ae h1 hr.1,Ui h2 hr.2⟩
  ·cases h
 | [],[],_,_ :: _,_,hr=>hr.elim
 | [],_ :: _,_,_,h,_=>by simp [xO] at h
 | [t],[],_,_,h,_=>by simp [xO] at h
 | [t],[s],_,[],_,hr=>hr.elim
 | [t],[s],_,_ :: _ :: _,_,hr=>hr.2.elim
 | [t],_ :: _ :: _,_,_,h,_=>by simp [xO] at h
 | t :: u :: r,[],_,_,h,_=>by simp [xO] at h
 | t :: u :: r,s :: ss,_,[],_,hr=>hr.elim
theorem V.Ry {v:V} {s:Sum L (List L)} {u:Value} (h:v.sum=some s) (hr:v.Rel β w N u):cZ β w N s u:=by
 cases v <;> simp only [V.sum,aA,reduceCtorEq] at h <;> subst h <;> exact hr
theorem DensRel.mono {w':World} {N':Nat->Nat->Prop} (hk:Keep N w w') (hN:∀ b j,b < w.heap.size->N' b j->N b j):∀ {ts:List Ty} {x:bP ts} {us:List Value},DensRel w N ts x us->DensRel w' N' ts x us
 | [],_,_,h=>h
 | [t],x,_,h=>by obtain ⟨u,e,h⟩:=h; exact ⟨u,e,h.mono hk hN⟩
 | t :: s :: r,x,_,h=>by obtain ⟨u,us,e,h,h2⟩:=h; exact ⟨u,us,e,h.mono hk hN,h2.mono hk hN⟩
theorem Ty.Rel.flat {N':Nat->Nat->Prop} {w':World}:∀ {t:Ty} {x:t.den} {cs:List Value},t.flat=true->t.Rel w N x cs->t.Rel w' N' x cs
 | .unit,_,_,_,h=>h
 | .bool,_,_,_,h=>h
 | .int _,_,_,_,h=>h
 | .str,_,_,_,h=>h
 | .err,_,_,_,h=>h
 | .opq,_,_,hf,_=>by cases hf
 | .slice _,_,_,hf,_=>by cases hf
 | .clip _,_,_,hf,_=>by cases hf
 | .pair a b,_,_,hf,h=>by
  simp only [Ty.flat,aD] at hf
  obtain ⟨c1,c2,e,h1,h2⟩:=h
  exact ⟨c1,c2,e,Ty.Rel.flat hf.1 h1,Ty.Rel.flat hf.2 h2⟩
 | .arr n a,_,_,hf,h=>by
  simp only [Ty.flat] at hf
  obtain ⟨h0,css,e,h1⟩:=h
  exact ⟨h0,css,e,h1.mono fun x c hx=>Ty.Rel.flat hf hx⟩
theorem Ty.bH.flat {N':Nat->Nat->Prop} {w':World} {t:Ty} {x:t.den} {u:Value} (hf:t.flat=true) (h:t.bH w N x u):t.bH w' N' x u:=by
 unfold Ty.bH at *
 split
 ·rename_i ha
  rw [if_pos ha] at h
  obtain ⟨cs,e,h⟩:=h
  exact ⟨cs,e,h.flat hf⟩
 ·rename_i ha
  rw [if_neg ha] at h
  exact h.flat hf
theorem DensRel.flat {N':Nat->Nat->Prop} {w':World}:∀ {ts:List Ty} {x:bP ts} {us:List Value},aY Ty.flat ts=true->DensRel w N ts x us->DensRel w' N' ts x us
 | [],_,_,_,h=>h
 | [t],x,_,hf,h=>by
  simp only [aY,Bool.and_true] at hf
  obtain ⟨u,e,h⟩:=h; exact ⟨u,e,h.flat hf⟩
 | t :: s :: r,x,_,hf,h=>by
  simp only [aY,aD] at hf
  obtain ⟨u,us,e,h,h2⟩:=h
  exact ⟨u,us,e,h.flat hf.1,DensRel.flat (by simp only [aY,aD]; exact hf.2) h2⟩
end
def Pure (P:Program) (f:FuncId) (as rs:List Ty) (F:bP as->Option (bP rs)):Prop :=
 eH P f=true∧∀ x y,F x=some y->∀ (w:World) (N:Nat->Nat->Prop) (xs:List Value),Glob P w->(∀ b j,N b j->b < w.heap.size)->DensRel w N as x xs ->
  Calls P f xs.toArray w fun e w'=>∃ us:List Value,e=.returned (jY us)∧w'.os=w.os∧w'.tape=w.tape∧w'.output=w.output∧Keep (fun _ _=>False) w w'∧DensRel w' N rs y us
def zFh (T:Tab) (res:List ResultVar) (rs:List Ty) (σ:St):Option (bP rs) :=
 match Gp T σ res with
 | some (c,vs) =>
  match xO rs vs with
  | some y=>chk c (some y)
  | none=>none
 | none=>none
def zFi (T:Tab) (res:List ResultVar) (rs:List Ty):K (bP rs):=fun e σ =>
 match e with
 | .normal=>zFh T res rs σ
 | .ret=>zFh T res rs σ
 | _=>none
section
variable {T:Tab} {P:Program}
theorem Xw {C:Ctx} {β β':Nat->Pl} {w:World} {σ:St} {a:Act} {fn:Func} {vs:List (Sum L (List L))} {N':Nat->Nat->Prop} (hT:aV C.P T) (hs:Sim C β σ a w) (hN:∀ b j,b < w.heap.size->N' b j->C.N0 b j) (h:Gp T σ fn.results.toList=some (true,vs)) :
  ∃ us:List Value,(results fn a.tmps).run C.P w=.ok (jY us) w∧aP (cZ β' w N') vs us:=by
 obtain ⟨us,h1,h2,_⟩:=Ug (β':=β') hT hs hN h #[]
 refine ⟨us,?_,h2⟩
 have e0:results fn a.tmps=(do let vs <- fn.results.mapM (lM a.tmps); pure (if h:vs.size=1 then vs[0] else .tuple vs)):=by
  unfold results
  congr 1
 have hm:(fn.results.mapM (lM a.tmps):Sem (Array Value)).run C.P w=.ok us.toArray w:=by
  rw [Array.mapM_eq_foldlM,<- Array.foldlM_toList]
  have e:(fun (acc:Array Value) rv=>do let v <- lM a.tmps rv; pure (acc.push v):Array Value->ResultVar->Sem (Array Value))=(fun (acc:Array Value) rv=>acc.push <$> lM a.tmps rv):=by
   funext acc rv
   rfl
  rw [e] at h1
  simpa using h1
 rw [e0]
 simp only [Sem.run_bind,hm,Result.andThen_ok,Sem.run_pure]
 match us with
 | []=>rfl
 | [u]=>rfl
 | u :: v :: us=>simp [jY]
theorem Ea:∀ cs:List Co,aY (Co.fx 0) cs=true
 | []=>rfl
 | c :: cs=>by
  simp only [aY,Ea cs,Bool.and_true]
  cases c <;> first | rfl | simp [Co.fx]
theorem tL {ρ:Type}:∀ an:An ρ,an.fx 0=true
 | .nil=>rfl
 | .mk l r c=>by simp only [An.fx,tL l,tL r,Ea,Bool.and_self]
 | .loop _ c0 c1 _ a=>by simp only [An.fx,tL a,Ea,Bool.and_self]
 | .scope _ a b=>by simp only [An.fx,tL a,tL b,Bool.and_self]
 | .sem _=>rfl
 | .co c a=>by simp only [An.fx,tL a,Ea,Bool.and_self]
 | .join _ c a=>by simp only [An.fx,tL a,Ea,Bool.and_self]
theorem kU {f:FuncId} {fn:Func} {c:Code} {as rs:List Ty} {F:bP as->Option (bP rs)} {Γ:Orc (bP rs)} {an:An (bP rs)} (hf:P.funcs[f]?=some fn) (hb:fn.body=some c) (hh:eH P f=true) (hT:aV P T) (hΓ:fO P Γ) (hm:P.follows .mixedOrders=true) (ha:Xr P 0 c an)
  (h:∀ x,ev Γ T c an ⟨xM (nV as x) fn.ntmps,[]⟩ (zFi T fn.results.toList rs)=F x):Pure P f as rs F:=by
 refine ⟨hh,fun x y hF w N xs hG hN hx=>?_⟩
 rw [<- h x] at hF
 let C:Ctx:={ P:=P,N0:=N,w0:=w,vX:=fun _ _=>False,glob:=fun w' h=>hG.keep fun b hb=>h.block b hb (fun _ h=>h),fix:=[] }
 let β0:Nat->Pl:=fun _=>⟨false,false,0,none,0,0,0,[]⟩
 have hargs:iM β0 w N (nV as x) xs:=tK hx
 have hxl:(nV as x).length=xs.length:=hargs.length
 have zS:Sim C β0 ⟨xM (nV as x) fn.ntmps,[]⟩ { tmps:=xs.toArray++Array.replicate (fn.ntmps - xs.toArray.size) undef,defers:=[] } w:=by
  refine ⟨⟨by simp,fun _ _=>rfl,by simp,by simp,hN,Keep.refl _ _,aG _,rfl,rfl,rfl,fun j o hj=>by cases hj⟩,rfl,by simp [xM,hxl],?_⟩
  intro i u hu
  simp only [xM] at hu
  by_cases hi:i < (nV as x).length
  ·rw [bY hi] at hu
   have hi':i < xs.length:=by rw [<- hxl]; exact hi
   have hr:=hargs.get i hi hi'
   rw [List.getElem?_eq_getElem hi] at hu
   simp only [aA] at hu
   subst hu
   have:(xs.toArray++Array.replicate (fn.ntmps - xs.toArray.size) undef).getD i undef=xs[i]:=by
    rw [Array.getD_eq_getD_getElem?,Array.getElem?_append_left (by simpa using hi')]
    simp [hi']
   rw [this]
   refine hr.mono (Moves.refl β0) (Keep.refl _ w) (fun b j _ hb=>?_)
   rcases hb with hb | ⟨id,o,ho,_⟩
   ·exact hb
   ·simp at ho
  ·rw [List.getElem?_append_right (by omega),List.getElem?_replicate] at hu
   split at hu
   ·simp only [aA] at hu; subst hu; trivial
   ·cases hu
 refine calls_of_wp hf hb ?_
 refine Xu (P:=P) hT hΓ hm c an ha (tL an) _ _ y hF C β0 _ w _ rfl (aG _) zS ?_
 intro e x' σ' β' a' w' hs' hx' hk
 have fin:zFh T fn.results.toList rs σ'=some y->x'=.ret∨x'=.normal->bodyPost P fn (fun e w'=>∃ us:List Value,e=.returned (jY us)∧w'.os=w.os∧w'.tape=w.tape∧w'.output=w.output∧Keep (fun _ _=>False) w w'∧DensRel w' N rs y us) x' a' w':=by
  intro hk hx'
  unfold zFh at hk
  split at hk
  ·rename_i cc ss hrs
   split at hk
   ·rename_i y' hd
    obtain ⟨rfl,hk⟩:=gQ hk
    obtain rfl:=Option.some.inj hk
    obtain ⟨us,h1,h2⟩:=Xw (C:=C) (β':=β0) (N':=N) (fn:=fn) hT hs' (fun _ _ _ hb=>hb) hrs
    have hkeep:Keep (fun _ _=>False) w w':=hs'.heap.frame
    have hR:=Ui hd h2
    rcases hx' with rfl | rfl
    ·exact ⟨hs'.defers,_,h1,us,rfl,hs'.heap.os,hs'.heap.tape,hs'.heap.output,hkeep,hR⟩
    ·exact ⟨hs'.defers,_,h1,us,rfl,hs'.heap.os,hs'.heap.tape,hs'.heap.output,hkeep,hR⟩
   ·cases hk
  ·cases hk
 cases e with
 | normal=>obtain rfl:=hx'; exact fin hk (.inr rfl)
 | ret=>obtain rfl:=hx'; exact fin hk (.inl rfl)
 | exit i=>simp [zFi] at hk
 | goto l=>simp [zFi] at hk
 | pan t u=>simp [zFi] at hk
def mM (as rs:List Ty) (F:bP as->Option (bP rs)):PE where
 R:=bP rs
 use:=1
 run vs h:=match eU (aY Ty.flat rs) h as vs with
  | some (c,x)=>some (c,F x)
  | none=>none
 enc y _ h:=(zLk (zFf rs y),h)
theorem Xx {C:Ctx} {β:Nat->Pl} {h:List Ob} {w:World} {bor:Bool} {t:Ty} {v:V} {x:t.den} {u:Value} (hd:Jr bor h t v=some (true,x)) (hs:bV C β h w) (hr:v.Rel β w (C.N β h) u) :
  t.bH w (zQy bor (C.N β h)) x u:=by
 unfold Jr at hd
 cases bor with
 | true =>
  simp only at hd ⊢
  split at hd
  ·rename_i c v' hv
   split at hd
   ·rename_i s hsum
    split at hd
    ·rename_i y hy
     simp only [aA,aB] at hd
     obtain ⟨rfl,rfl⟩:=hd
     obtain ⟨h1,_⟩:=V.nE (β':=β) (N':=fun _ _=>False) hv hs (fun _ _ _ h=>h.elim) hr
     exact Ae hy (V.Ry hsum h1)
    ·cases hd
   ·cases hd
  ·cases hd
 | false =>
  simp only at hd ⊢
  split at hd
  ·rename_i s hD hsum
   split at hd
   ·rename_i y hy
    simp only [aA,aB,true_and] at hd
    subst hd
    exact Ae hy (V.Ry hsum hr)
   ·cases hd
  ·cases hd
theorem tN {C:Ctx} {β:Nat->Pl} {h:List Ob} {w:World} {bor:Bool} (hs:bV C β h w):∀ {ts:List Ty} {vs:List V} {x:bP ts} {us:List Value},eU bor h ts vs=some (true,x)->iM β w (C.N β h) vs us ->
  DensRel w (zQy bor (C.N β h)) ts x us
 | [],[],_,[],_,_=>rfl
 | [t],[v],x,[u],hd,hr=>⟨u,rfl,Xx hd hs hr.1⟩
 | t :: s :: r,v :: vs,x,u :: us,hd,hr=>by
  simp only [eU] at hd
  split at hd
  ·rename_i c y d z h1 h2
   simp only [aA,aB,aD] at hd
   obtain ⟨⟨rfl,rfl⟩,rfl⟩:=hd
   exact ⟨u,us,rfl,Xx h1 hs hr.1,tN hs h2 hr.2⟩
  ·cases hd
 | [],[],_,_ :: _,_,hr=>hr.elim
 | [],_ :: _,_,_,h,_=>by simp [eU] at h
 | [t],[],_,_,h,_=>by simp [eU] at h
 | [t],[s],_,[],_,hr=>hr.elim
 | [t],[s],_,_ :: _ :: _,_,hr=>hr.2.elim
 | [t],_ :: _ :: _,_,_,h,_=>by simp [eU] at h
 | t :: u :: r,[],_,_,h,_=>by simp [eU] at h
 | t :: u :: r,s :: ss,_,[],_,hr=>hr.elim
theorem Xy {h:List Ob}:∀ {l:L},l.isD=true->l.deep h=some (true,l)
 | .val ..,_=>rfl
 | .iY,_=>rfl
 | .bU,_=>rfl
 | .gN ..,_=>rfl
 | .clo f [],_=>rfl
 | .clo f (_ :: _),h=>by cases h
 | .ptr ..,h=>by cases h
 | .gZ ..,h=>by cases h
 | .dV ..,h=>by cases h
 | .sl ..,h=>by cases h
 | .own ..,h=>by cases h
 | .bad _,h=>by cases h
 | .bF ..,h=>by cases h
theorem Uj {h:List Ob}:∀ {ls:List L},aY L.isD ls=true->Ac h ls=some (true,ls)
 | [],_=>rfl
 | l :: ls,hd=>by
  simp only [aY,aD] at hd
  simp only [Ac,Xy hd.1,Uj hd.2,Bool.and_self]
theorem Xz {bor:Bool} {t:Ty} {v:V} (hd:v.isD=true) (h h2:List Ob):Jr bor h t v=Jr bor h2 t v:=by
 cases bor with
 | false=>rfl
 | true =>
  unfold Jr
  cases v with
  | one l=>simp only [V.deep,Xy (show l.isD=true from hd)]
  | agg ls=>simp only [V.deep,Uj (show aY L.isD ls=true from hd)]
  | _=>rfl
theorem Uk {bor:Bool}:∀ {ts:List Ty} {vs:List V} (_:aY V.isD vs=true) (h h2:List Ob),eU bor h ts vs=eU bor h2 ts vs
 | [],[],_,_,_=>rfl
 | [t],[v],hd,h,h2=>by
  simp only [aY,Bool.and_true] at hd
  simp only [eU,Xz hd h h2]
 | t :: s :: r,v :: vs,hd,h,h2=>by
  simp only [aY,aD] at hd
  simp only [eU,Xz hd.1 h h2,Uk (ts:=s :: r) hd.2 h h2]
 | [],_ :: _,_,_,_=>rfl
 | [t],[],_,_,_=>rfl
 | [t],_ :: _ :: _,_,_,_=>rfl
 | t :: s :: r,[],_,_,_=>rfl
theorem Ya {β:Nat->Pl} {w:World} {N:Nat->Nat->Prop} {ss:List (Sum L (List L))} {us:List Value} (h:aP (cZ β w N) ss us):(zLk ss).Rel β w N (jY us):=by
 match ss,us,h with
 | [],[],_=>exact ⟨[],rfl,trivial⟩
 | [.inl l],[u],h=>exact h.1
 | [.inr ls],[u],h=>exact h.1
 | s :: t :: ss,u :: v :: us,h=>cases s <;> exact ⟨_,rfl,h⟩
theorem gT {f:FuncId} {as rs:List Ty} {F:bP as->Option (bP rs)} (h:Pure P f as rs F):(mM as rs F).OK P f:=by
 refine ⟨h.1,fun vs hp y hr C β w xs hP hs ha=>?_,fun _ vs h1 h2 hd=>⟨by simp only [mM]; rw [Uk hd h1 h2],fun _=>rfl⟩,fun _ _ _ _=>rfl,fun h=>by cases h⟩
 subst hP
 simp only [mM] at hr
 split at hr
 ·rename_i c x hd
  simp only [aA,aB] at hr
  obtain ⟨rfl,hF⟩:=hr
  have hx:=tN hs hd ha
  have hn:∀ b j,C.N β hp b j->b < w.heap.size:=fun b j hb=>by
   rcases hb with hb | ⟨id,o,ho,_,hbk⟩
   ·exact Nat.lt_of_lt_of_le (hs.n0 b j hb) hs.size
   ·exact (hs.dM id o b ho ⟨j,hbk⟩).2.1
  refine (h.2 x y hF w _ xs (C.glob w hs.frame) (fun b j hb=>?_) hx).mono ?_
  ·cases hfl:aY Ty.flat rs with
   | true=>rw [hfl] at hb; exact hb.elim
   | false=>rw [hfl] at hb; exact hn b j hb
  ·rintro e w' ⟨us,rfl,ho,ht,hop,hk,hy⟩
   have hy':DensRel w' (C.N β hp) rs y us:=by
    cases hfl:aY Ty.flat rs with
    | true=>exact hy.flat hfl
    | false=>rw [hfl] at hy; exact hy
   refine ⟨_,_,β,⟨rfl,rfl⟩,Moves.refl β,hk.weaken fun _ _ h=>h.elim,fun _ _ _ h=>h,?_,_,rfl,Ya (Uh hy')⟩
   refine ⟨fun id o hob=>(hs.obj id o hob).mono (Moves.refl β) (hk.weaken fun _ _ h=>h.elim) (fun _ _ _ h=>h) fun b hb=>hk.block b (hs.dM id o b hob hb).2.1 (fun _ h=>h),hs.dead,hs.iZ,?_,hs.n0,hs.frame.pY hk fun _ _ _ h=>h.elim,Nat.le_trans hs.size hk.size,ho.trans hs.os,ht.trans hs.tape,hop.trans hs.output,hs.fixed⟩
   ·intro id o b hob hb
    obtain ⟨k1,k2,k3⟩:=hs.dM id o b hob hb
    exact ⟨k1,Nat.lt_of_lt_of_le k2 hk.size,k3⟩
 ·cases hr
def pes:List (FuncId × PE)->FuncId->Option PE
 | [],_=>none
 | (g,e) :: r,f=>match Nat.beq g f with
  | true=>some e
  | false=>pes r f
def orc (ρ:Type) (l:List (FuncId × PE)):Orc ρ:=⟨pes l,fun _ _ _ _=>none⟩
theorem zQz {ρ:Type}:∀ {l:List (FuncId × PE)},(∀ p ∈ l,p.2.OK P p.1)->fO P (orc ρ l):=by
 intro l h
 refine ⟨fun f e he=>?_,fun _ _ _ _ _ h=>by cases h⟩
 simp only [orc] at he
 induction l with
 | nil=>cases he
 | cons p r ih =>
  obtain ⟨g,e'⟩:=p
  simp only [pes] at he
  split at he
  ·rename_i hb
   have:=aF hb
   subst this
   simp only [aA] at he
   subst he
   exact h _ (.head _)
  ·exact ih (fun p hp=>h p (.tail _ hp)) he
theorem all_nil {Q:FuncId × PE->Prop}:∀ p ∈ ([]:List (FuncId × PE)),Q p:=fun _ h=>by cases h
theorem all_cons {Q:FuncId × PE->Prop} {p:FuncId × PE} {l:List (FuncId × PE)} (h:Q p) (hl:∀ q ∈ l,Q q):∀ q ∈ p :: l,Q q:=fun q hq=>by
 cases hq with
 | head=>exact h
 | tail _ hq=>exact hl q hq
end
end Go.Dec
namespace Go.Dec
mutual
def L.back (f v:Nat->Nat):L->L
 | .ptr id o=>.ptr (f id) o
 | .bF id o=>.bF (f id) o
 | .gZ id o es i sub=>.gZ (f id) o es i sub
 | .dV id u i o=>.dV (f id) (u+v id) i o
 | .sl id u i n=>.sl (f id) (u+v id) i n
 | .own id u=>.own (f id) (u+v id)
 | .clo g caps=>.clo g (L.backs f v caps)
 | .mp id=>.mp (f id)
 | l=>l
def L.backs (f v:Nat->Nat):List L->List L
 | []=>[]
 | l :: ls=>l.back f v :: L.backs f v ls
end
def V.back (f v:Nat->Nat):V->V
 | .one l=>.one (l.back f v)
 | .agg ls=>.agg (L.backs f v ls)
 | _=>.bA
def Ob.back (f v:Nat->Nat) (id:Nat):Ob->Ob
 | .box e ls=>.box e (L.backs f v ls)
 | .arr e t u rows wr=>.arr e t (u+v id) rows wr
 | .fm tab=>.fm tab
 | .dm kt vt es=>.dm kt vt es
section
variable {β β':Nat->Pl} {w:World} {N N':Nat->Nat->Prop}
structure Eb (p q:Pl) (v:Nat):Prop where
 live:q.live=p.live
 box:q.box=p.box
 blk:q.blk=p.blk
 row:p.box=false->q.ver=p.ver+v∧q.size=p.size∧q.cap=p.cap∧q.len=p.len
theorem Eb.zNv {p q:Pl} {v:Nat} (h:Eb p q v) (hb:p.box=false) {off len:Nat} {c:Value}:cK q off len c <-> cK p off len c:=by
 obtain ⟨_,h2,h3,_⟩:=h.row hb
 unfold cK
 rw [h.blk,h2,h3]
mutual
theorem L.Rel.back {f v:Nat->Nat} (hβ:∀ j,(β j).live=true->Eb (β j) (β' (f j)) (v j)) (hN:∀ b j,b < w.heap.size->N' b j->N b j):∀ {l:L} {cs:List Value},l.Rel β w N cs->(l.back f v).Rel β' w N' cs
 | .val t x,cs,h=>by simp only [L.back,L.Rel] at *; exact Ty.Rel.mono (Keep.refl _ w) hN h
 | .ptr id off,cs,h=>by
  simp only [L.back,L.Rel] at *
  obtain ⟨h1,h2,h3⟩:=h
  have:=hβ id h1
  exact ⟨this.live ▸ h1,this.box ▸ h2,by rw [this.blk]; exact h3⟩
 | .gZ id off es i sub,cs,h=>by
  simp only [L.back,L.Rel] at *
  obtain ⟨h1,h2,h3⟩:=h
  have:=hβ id h1
  exact ⟨this.live ▸ h1,this.box ▸ h2,by rw [this.blk]; exact h3⟩
 | .iY,cs,h=>by simp only [L.back,L.Rel] at *; exact h
 | .bF id off,cs,h=>by
  simp only [L.back,L.Rel] at *
  obtain ⟨c,e,h⟩:=h
  refine ⟨c,e,?_⟩
  rcases h with h | ⟨h1,h2,h3⟩
  ·exact .inl h
  ·have:=hβ id h1
   exact .inr ⟨this.live ▸ h1,this.box ▸ h2,by rw [this.blk]; exact h3⟩
 | .dV id u i off,cs,h=>by
  simp only [L.back,L.Rel] at *
  obtain ⟨h1,h2,h3,c,h4,h5,h6⟩:=h
  have:=hβ id h1
  obtain ⟨g1,g2,g3,g4⟩:=this.row h2
  refine ⟨this.live ▸ h1,this.box ▸ h2,by omega,c,h4,h5,fun hv=>?_⟩
  rw [this.blk,g2]
  exact h6 (by omega)
 | .gN t x off,cs,h=>by simp only [L.back,L.Rel] at *; obtain ⟨c,hc,hr⟩:=h; exact ⟨c,hc,hr.mono (Keep.refl _ w) hN⟩
 | .sl id u off len,cs,h=>by
  simp only [L.back,L.Rel] at *
  obtain ⟨h1,h2,h3,c,h4,h5,h6⟩:=h
  have:=hβ id h1
  obtain ⟨g1,g2,g3,g4⟩:=this.row h2
  exact ⟨this.live ▸ h1,this.box ▸ h2,by omega,c,h4,h5,fun hv=>(this.zNv h2).2 (h6 (by omega))⟩
 | .own id u,cs,h=>by
  simp only [L.back,L.Rel] at *
  obtain ⟨h1,h2,h3,c,h4,h5,h6⟩:=h
  have:=hβ id h1
  obtain ⟨g1,g2,g3,g4⟩:=this.row h2
  exact ⟨this.live ▸ h1,this.box ▸ h2,by omega,c,h4,h5,fun hv=>by rw [g4]; exact (this.zNv h2).2 (h6 (by omega))⟩
 | .bU,cs,h=>by simp only [L.back,L.Rel] at *; exact h
 | .clo g caps,cs,h=>by
  simp only [L.back,L.Rel] at *
  obtain ⟨us,hc,hr⟩:=h
  exact ⟨us,hc,L.bL.back hβ hN hr⟩
 | .bad n,cs,h=>by simp only [L.back,L.Rel] at *; exact h
 | .uF x tab,cs,h=>by simp only [L.back,L.Rel] at *; exact h
 | .mp id,cs,h=>by
  simp only [L.back,L.Rel] at *
  obtain ⟨h1,h2,h3⟩:=h
  have:=hβ id h1
  exact ⟨this.live ▸ h1,this.box ▸ h2,by rw [this.blk]; exact h3⟩
theorem L.bL.back {f v:Nat->Nat} (hβ:∀ j,(β j).live=true->Eb (β j) (β' (f j)) (v j)) (hN:∀ b j,b < w.heap.size->N' b j->N b j):∀ {ls:List L} {us:List Value},L.bL β w N ls us->L.bL β' w N' (L.backs f v ls) us
 | [],us,h=>by simp only [L.backs,L.bL] at *; exact h
 | l :: ls,us,h=>by
  simp only [L.backs,L.bL] at *
  obtain ⟨u,r,e,h1,h2⟩:=h
  exact ⟨u,r,e,L.Rel.back hβ hN h1,L.bL.back hβ hN h2⟩
end
theorem aI.back {f v:Nat->Nat} (hβ:∀ j,(β j).live=true->Eb (β j) (β' (f j)) (v j)) (hN:∀ b j,b < w.heap.size->N' b j->N b j):∀ {ls:List L} {cs:List Value},aI β w N ls cs->aI β' w N' (L.backs f v ls) cs
 | [],_,h=>h
 | _l :: _ls,_,⟨c1,c2,e,h1,h2⟩=>⟨c1,c2,e,h1.back hβ hN,aI.back hβ hN h2⟩
theorem V.Rel.back {f v:Nat->Nat} (hβ:∀ j,(β j).live=true->Eb (β j) (β' (f j)) (v j)) (hN:∀ b j,b < w.heap.size->N' b j->N b j) {x:V} {u:Value} (h:x.Rel β w N u):(x.back f v).Rel β' w N' u:=by
 cases x with
 | one l=>exact L.Rel.back hβ hN h
 | agg ls=>obtain ⟨cs,e,h⟩:=h; exact ⟨cs,e,h.back hβ hN⟩
 | _=>trivial
theorem Ob.Rel.back {f v:Nat->Nat} (hβ:∀ j,(β j).live=true->Eb (β j) (β' (f j)) (v j)) (hN:∀ b j,b < w.heap.size->N' b j->N b j) {id:Nat} {o:Ob} (h:o.Rel β w N (β id)):(o.back f v id).Rel β' w N' (β' (f id)):=by
 cases o with
 | box e ls =>
  simp only [Ob.back,Ob.Rel] at *
  obtain ⟨h1,h2,b,cs,h3,h4,h5⟩:=h
  have:=hβ id h1
  exact ⟨this.live ▸ h1,this.box ▸ h2,b,cs,this.blk ▸ h3,h4.back hβ hN,h5⟩
 | arr e t u rows wr =>
  simp only [Ob.back,Ob.Rel] at *
  obtain ⟨h1,h2,h3,h4,h5,h6,h7⟩:=h
  have:=hβ id h1
  obtain ⟨g1,g2,g3,g4⟩:=this.row h2
  refine ⟨this.live ▸ h1,this.box ▸ h2,by omega,by rw [g2,h4],h5,by rw [g4,h6],?_⟩
  rw [this.blk,g3]
  rcases h7 with h7 | ⟨b,cur,css,k1,k2,k3,k4⟩
  ·exact .inl h7
  ·exact .inr ⟨b,cur,css,k1,k2,k3.mono fun _ _ h=>h.mono (Keep.refl _ w) hN,k4⟩
 | fm tab =>
  simp only [Ob.back,Ob.Rel] at *
  obtain ⟨h1,h2,b,es,n,h3,h4⟩:=h
  have:=hβ id h1
  exact ⟨this.live ▸ h1,this.box ▸ h2,b,es,n,this.blk ▸ h3,h4⟩
 | dm kt vt es =>
  simp only [Ob.back,Ob.Rel] at *
  obtain ⟨h1,h2,b,ms,h3,h4,h5⟩:=h
  have:=hβ id h1
  exact ⟨this.live ▸ h1,this.box ▸ h2,b,ms,this.blk ▸ h3,h4,h5.mono (Keep.refl _ w) hN⟩
end
def Af (P:Program) (f:FuncId) (si so:Sh) (F:si.X->Option so.X):Prop :=
 eH P f=true∧∀ x y,F x=some y->∀ (C:Ctx) (β:Nat->Pl) (w:World) (xs:List Value),C.P=P->C.fix.length <= si.os.length->Sim C β (si.enc x) { tmps:=xs.toArray,defers:=[] } w ->
  Calls P f xs.toArray w fun e w'=>∃ (us:List Value) (β':Nat->Pl),e=.returned (jY us)∧Sim C β' (so.enc y) { tmps:=us.toArray,defers:=[] } w'
def Oi:List V->Option (List (Sum L (List L)))
 | []=>some []
 | v :: r=>match v.sum,Oi r with
  | some s,some ss=>some (s :: ss)
  | _,_=>none
def zLm (vs:List V):V :=
 match Oi vs with
 | some ss=>zLk ss
 | none=>.bA
def Ag (g:Nat->Option Ob):Nat->List Ob->List Ob
 | _,[]=>[]
 | i,o :: r=>(match g i with | some o'=>o' | none=>o) :: Ag g (i+1) r
def lN (f v:Nat->Nat):Nat->List Ob->List Ob
 | _,[]=>[]
 | j,o :: r=>o.back f v j :: lN f v (j+1) r
def pV:List Ob->List OS->Bool
 | [],_=>true
 | .box .. :: r,_ :: s=>pV r s
 | .fm .. :: r,_ :: s=>pV r s
 | .dm .. :: r,_ :: s=>pV r s
 | .arr .. :: r,.row .. :: s=>pV r s
 | _,_=>false
def iD (ρ:List Nat) (n:Nat) (j:Nat):Nat:=match ρ[j]? with | some i=>i | none=>n+(j - ρ.length)
def gU (ρ:List Nat) (h:List Ob) (j:Nat):Nat:=match ρ[j]? with
 | some i=>(match h[i]? with | some (.arr _ _ u _ _)=>u+1 | _=>0)
 | none=>0
def iN (ρ:List Nat) (h hy:List Ob):List Ob :=
 Ag (fun i=>match pos i ρ 0 with | some j=>(match hy[j]? with | some o=>some (o.back (iD ρ h.length) (gU ρ h) j) | none=>none) | none=>none) 0 h++lN (iD ρ h.length) (gU ρ h) ρ.length (hy.drop ρ.length)
def Yb (ρ:List Nat) (h:List Ob) (si so:Sh):Bool :=
 nodupB ρ && (aY (fun i=>Nat.blt i h.length) ρ && (Nat.beq ρ.length si.os.length && (aY Ob.wr (inH ρ h) && pV (inH ρ h) so.os)))
def peM (si so:Sh) (F:si.X->Option so.X):PE where
 R:=so.X
 use:=3
 run vs h:=match si.dec ⟨vs.map (V.ren (reach vs h) h),inH (reach vs h) h⟩ with
  | some x=>some (Yb (reach vs h) h si so,F x)
  | none=>none
 enc y vs h:=(zLm ((so.enc y).r.map (V.back (iD (reach vs h) h.length) (gU (reach vs h) h))),iN (reach vs h) h (so.enc y).h)
theorem Yc {g:Nat->Option Ob}:∀ {h:List Ob} {n i:Nat},(Ag g n h)[i]?=(h[i]?).map fun o=>(match g (n+i) with | some o'=>o' | none=>o)
 | [],n,i=>by simp [Ag]
 | o :: r,n,0=>by simp [Ag]
 | o :: r,n,i+1=>by
  simp only [Ag,List.getElem?_cons_succ]
  rw [Yc (h:=r),show n+1+i=n+(i+1) by omega]
theorem oK {g:Nat->Option Ob}:∀ {h:List Ob} {n:Nat},(Ag g n h).length=h.length
 | [],_=>rfl
 | _ :: r,n=>congrArg (· + 1) (oK (h:=r) (n:=n+1))
theorem Ec {f v:Nat->Nat}:∀ {h:List Ob} {n i:Nat},(lN f v n h)[i]?=(h[i]?).map fun o=>o.back f v (n+i)
 | [],n,i=>by simp [lN]
 | o :: r,n,0=>by simp [lN]
 | o :: r,n,i+1=>by
  simp only [lN,List.getElem?_cons_succ]
  rw [Ec (h:=r),show n+1+i=n+(i+1) by omega]
theorem xP {f v:Nat->Nat}:∀ {h:List Ob} {n:Nat},(lN f v n h).length=h.length
 | [],_=>rfl
 | _ :: r,n=>congrArg (· + 1) (xP (h:=r) (n:=n+1))
theorem Ob.Ed {f v:Nat->Nat} {j:Nat} (o:Ob):(o.back f v j).iR=o.iR:=by cases o <;> rfl
theorem Ob.rH {f v:Nat->Nat} {j:Nat} (o:Ob):(o.back f v j).wr=o.wr:=by cases o <;> rfl
theorem oL:∀ {hc:List Ob} {os:List OS} {j:Nat} {e:TypeId} {t:Ty} {u:Nat} {rows:List t.den} {wr:Bool},pV hc os=true->hc[j]?=some (.arr e t u rows wr)->∃ e' t',os[j]?=some (.row e' t')
 | [],_,j,_,_,_,_,_,_,h=>by simp at h
 | .box .. :: r,[],j,_,_,_,_,_,hk,_=>by cases hk
 | .box .. :: r,s :: os,0,_,_,_,_,_,_,h=>by simp at h
 | .box .. :: r,s :: os,j+1,_,_,_,_,_,hk,h=>by
  obtain ⟨e',t',h'⟩:=oL (hc:=r) (os:=os) (j:=j) hk (by simpa using h)
  exact ⟨e',t',by simpa using h'⟩
 | .fm .. :: r,[],j,_,_,_,_,_,hk,_=>by cases hk
 | .fm .. :: r,s :: os,0,_,_,_,_,_,_,h=>by simp at h
 | .fm .. :: r,s :: os,j+1,_,_,_,_,_,hk,h=>by
  obtain ⟨e',t',h'⟩:=oL (hc:=r) (os:=os) (j:=j) hk (by simpa using h)
  exact ⟨e',t',by simpa using h'⟩
 | .dm .. :: r,[],j,_,_,_,_,_,hk,_=>by cases hk
 | .dm .. :: r,s :: os,0,_,_,_,_,_,_,h=>by simp at h
 | .dm .. :: r,s :: os,j+1,_,_,_,_,_,hk,h=>by
  obtain ⟨e',t',h'⟩:=oL (hc:=r) (os:=os) (j:=j) hk (by simpa using h)
  exact ⟨e',t',by simpa using h'⟩
 | .arr .. :: r,.fm .. :: os,j,_,_,_,_,_,hk,_=>by cases hk
 | .arr .. :: r,.dm .. :: os,j,_,_,_,_,_,hk,_=>by cases hk
 | .arr .. :: r,[],j,_,_,_,_,_,hk,_=>by cases hk
 | .arr .. :: r,.box .. :: os,j,_,_,_,_,_,hk,_=>by cases hk
 | .arr .. :: r,.row e t :: os,0,_,_,_,_,_,_,_=>⟨e,t,rfl⟩
 | .arr .. :: r,.row e t :: os,j+1,_,_,_,_,_,hk,h=>by
  obtain ⟨e',t',h'⟩:=oL (hc:=r) (os:=os) (j:=j) hk (by simpa using h)
  exact ⟨e',t',by simpa using h'⟩
theorem tO {A:Type}:∀ {os:List OS} {x:OTs os A} {j:Nat} {e:TypeId} {t:Ty},os[j]?=some (.row e t)->∃ rows,(dO os x).1[j]?=some (.arr e t 0 rows true)
 | [],_,j,_,_,h=>by simp at h
 | .box e0 ls :: r,x,0,_,_,h=>by simp at h
 | .box e0 ls :: r,x,j+1,e,t,h=>by
  obtain ⟨rows,h'⟩:=tO (os:=r) (x:=(bR ls x).2) (j:=j) (by simpa using h)
  exact ⟨rows,by simpa [dO] using h'⟩
 | .fm tab :: r,x,0,_,_,h=>by simp at h
 | .fm tab :: r,x,j+1,e,t,h=>by
  obtain ⟨rows,h'⟩:=tO (os:=r) (x:=x) (j:=j) (by simpa using h)
  exact ⟨rows,by simpa [dO] using h'⟩
 | .dm kt vt :: r,x,0,_,_,h=>by simp at h
 | .dm kt vt :: r,x,j+1,e,t,h=>by
  obtain ⟨rows,h'⟩:=tO (os:=r) (x:=x.2) (j:=j) (by simpa using h)
  exact ⟨rows,by simpa [dO] using h'⟩
 | .row e0 t0 :: r,x,0,e,t,h=>by
  simp only [List.getElem?_cons_zero,aA,OS.row.injEq] at h
  obtain ⟨rfl,rfl⟩:=h
  exact ⟨x.1,rfl⟩
 | .row e0 t0 :: r,x,j+1,e,t,h=>by
  obtain ⟨rows,h'⟩:=tO (os:=r) (x:=x.2) (j:=j) (by simpa using h)
  exact ⟨rows,by simpa [dO] using h'⟩
theorem wL {A:Type}:∀ {os:List OS} {x:OTs os A} {j:Nat} {o:Ob},(dO os x).1[j]?=some o->o.wr=true
 | [],_,j,_,h=>by simp [dO] at h
 | .box e0 ls :: r,x,0,_,h=>by simp only [dO,List.getElem?_cons_zero,aA] at h; subst h; rfl
 | .box e0 ls :: r,x,j+1,o,h=>wL (os:=r) (x:=(bR ls x).2) (j:=j) (by simpa [dO] using h)
 | .fm tab :: r,x,0,_,h=>by simp only [dO,List.getElem?_cons_zero,aA] at h; subst h; rfl
 | .fm tab :: r,x,j+1,o,h=>wL (os:=r) (x:=x) (j:=j) (by simpa [dO] using h)
 | .dm kt vt :: r,x,0,_,h=>by simp only [dO,List.getElem?_cons_zero,aA] at h; subst h; rfl
 | .dm kt vt :: r,x,j+1,o,h=>wL (os:=r) (x:=x.2) (j:=j) (by simpa [dO] using h)
 | .row e0 t0 :: r,x,0,_,h=>by simp only [dO,List.getElem?_cons_zero,aA] at h; subst h; rfl
 | .row e0 t0 :: r,x,j+1,o,h=>wL (os:=r) (x:=x.2) (j:=j) (by simpa [dO] using h)
theorem Ul {β:Nat->Pl} {w:World} {N:Nat->Nat->Prop}:∀ {vs:List V} {us:List Value} {ss:List (Sum L (List L))},Oi vs=some ss->aP (fun v u=>V.Rel β w N v u) vs us->aP (cZ β w N) ss us
 | [],[],ss,h,_=>by simp only [Oi,aA] at h; subst h; trivial
 | v :: vs,u :: us,ss,h,hr=>by
  simp only [Oi] at h
  split at h
  ·rename_i s ss' h1 h2
   simp only [aA] at h
   subst h
   exact ⟨V.Ry h1 hr.1,Ul h2 hr.2⟩
  ·cases h
 | [],_ :: _,_,_,hr=>hr.elim
 | _ :: _,[],_,_,hr=>hr.elim
theorem zLn {β:Nat->Pl} {w:World} {N:Nat->Nat->Prop} {vs:List V} {us:List Value} (hr:aP (fun v u=>V.Rel β w N v u) vs us):(zLm vs).Rel β w N (jY us):=by
 unfold zLm
 split
 ·rename_i ss h
  exact Ya (Ul h hr)
 ·trivial
theorem zCv {α γ:Type} {R:α->γ->Prop}:∀ {x:List α} {y:List γ},x.length=y.length->(∀ (i:Nat) (a:α) (b:γ),x[i]?=some a->y[i]?=some b->R a b)->aP R x y
 | [],[],_,_=>trivial
 | a :: x,b :: y,hl,h=>⟨h 0 a b rfl rfl,zCv (by simpa using hl) fun i c d hc hd=>h (i+1) c d (by simpa using hc) (by simpa using hd)⟩
 | [],_ :: _,hl,_=>by simp at hl
 | _ :: _,[],hl,_=>by simp at hl
end Go.Dec
namespace Go.Dec
section
variable {P:Program} {f:FuncId} {si so:Sh} {F:si.X->Option so.X}
theorem zBt {ρ:List Nat} {h:List Ob} (hc:Yb ρ h si so=true):nodupB ρ=true∧(∀ i ∈ ρ,i < h.length)∧ρ.length=si.os.length∧(∀ (j:Nat) (o:Ob),(inH ρ h)[j]?=some o->o.wr=true)∧pV (inH ρ h) so.os=true:=by
 simp only [Yb,aD] at hc
 obtain ⟨h1,h2,h3,h4,h5⟩:=hc
 refine ⟨h1,fun i hi=>?_,aF h3,fun j o ho=>nA h4 j o ho,h5⟩
 obtain ⟨n,hn⟩:=List.getElem?_of_mem hi
 exact aX (nA h2 n i hn)
def nW:Ob->Bool
 | .box .. => true
 | .arr .. => false
 | .fm _=>true
 | .dm .. => true
def sI (β:Nat->Pl) (h:List Ob) (i:Nat):Option Nat:=match nW (zY h i) with | true=>(β i).blk | false=>none
def inC (C:Ctx) (β:Nat->Pl) (h:List Ob) (w:World) (ρ:List Nat) (hs:bV C β h w):Ctx where
 P:=C.P
 N0 b j:=C.N β h b j∧∀ i ∈ ρ,∀ o,h[i]?=some o->¬ o.blks (β i) b
 w0:=w
 vX b j:=∃ (i:Nat) (o:Ob),i ∈ ρ∧h[i]?=some o∧o.wr=true∧o.at (β i) b j
 glob w' hw:=C.glob w' (hs.frame.pY hw fun b j hb hm=>by
  obtain ⟨i,o,_,ho,hwo,hbk⟩:=hm
  rcases (hs.dM i o b ho ⟨j,hbk⟩).2.2 with h1 | h1
  ·omega
  ·exact h1 j hwo hbk)
 fix:=ρ.map (sI β h)
theorem zRa {C:Ctx} {β:Nat->Pl} {w:World} {h:List Ob} {ρ:List Nat} {vs:List V} {xs:List Value} (hs:bV C β h w) (ha:iM β w (C.N β h) vs xs) (hnd:nodupB ρ=true) (hlt:∀ i ∈ ρ,i < h.length) :
  Sim (inC C β h w ρ hs) (rF β ρ) ⟨vs.map (V.ren ρ h),inH ρ h⟩ { tmps:=xs.toArray,defers:=[] } w:=by
 have Xn:=Xm hs hlt
 have hget:∀ i ∈ ρ,∃ o,h[i]?=some o:=fun i hi=>⟨h[i]'(hlt i hi),by simp [hlt i hi]⟩
 have hβ:∀ {j i:Nat},ρ[j]?=some i->rF β ρ j={ β i with ver:=0 }:=fun hi=>by simp only [rF,hi]
 have hNw:∀ b j,C.N β h b j->b < w.heap.size:=fun b j hb=>by
  rcases hb with hb | ⟨id,o,ho,_,hbk⟩
  ·exact Nat.lt_of_lt_of_le (hs.n0 b j hb) hs.size
  ·exact (hs.dM id o b ho ⟨j,hbk⟩).2.1
 have hN:∀ b j,b < w.heap.size->(inC C β h w ρ hs).N (rF β ρ) (inH ρ h) b j->C.N β h b j:=fun b k _ hb=>by
  rcases hb with hb | ⟨j,o,ho,hw,hbk⟩
  ·exact hb.1
  ·obtain ⟨i,hi,rfl⟩:=mJ ho
   obtain ⟨o',ho'⟩:=hget i (List.mem_of_getElem? hi)
   rw [dF ho',Ob.Dx] at hw
   rw [dF ho',hβ hi] at hbk
   exact .inr ⟨i,o',ho',hw,Ob.nR (Ob.lJ ρ h o') rfl rfl hbk⟩
 refine ⟨⟨?_,?_,?_,?_,fun b j hb=>hNw b j hb.1,Keep.refl _ _,aG _,rfl,rfl,rfl,?_⟩,rfl,by simpa using aP.length ha,?_⟩
 ·intro j o ho
  obtain ⟨i,hi,rfl⟩:=mJ ho
  obtain ⟨o',ho'⟩:=hget i (List.mem_of_getElem? hi)
  rw [dF ho',hβ hi]
  have hob:=hs.obj i o' ho'
  cases o' with
  | box e ls =>
   simp only [Ob.ren,Ob.Rel] at *
   obtain ⟨h1,h2,b,cs,h3,h4,h5⟩:=hob
   exact ⟨h1,h2,b,cs,h3,h4.qE Xn hN,h5⟩
  | arr e t v rows wr =>
   simp only [Ob.ren,Ob.Rel] at *
   obtain ⟨h1,h2,h3,h4,h5,h6,h7⟩:=hob
   refine ⟨h1,h2,trivial,h4,h5,h6,?_⟩
   rcases h7 with h7 | ⟨b,cur,css,k1,k2,k3,k4⟩
   ·exact .inl h7
   ·exact .inr ⟨b,cur,css,k1,k2,k3.mono fun _ _ h=>h.mono (Keep.refl _ w) hN,k4⟩
  | fm tab=>simp only [Ob.ren,Ob.Rel] at *; exact hob
  | dm kt vt es =>
   simp only [Ob.ren,Ob.Rel] at *
   obtain ⟨h1,h2,b,ms,h3,h4,h5⟩:=hob
   exact ⟨h1,h2,b,ms,h3,h4,h5.mono (Keep.refl _ w) hN⟩
 ·intro j hj
  simp only [inH,List.length_map] at hj
  simp only [rF,List.getElem?_eq_none hj]
 ·intro i j o1 o2 b h1 h2 hb1 hb2
  obtain ⟨i',hi,rfl⟩:=mJ h1
  obtain ⟨j',hj,rfl⟩:=mJ h2
  obtain ⟨o1',ho1⟩:=hget i' (List.mem_of_getElem? hi)
  obtain ⟨o2',ho2⟩:=hget j' (List.mem_of_getElem? hj)
  rw [hβ hi,dF ho1] at hb1
  rw [hβ hj,dF ho2] at hb2
  have:=hs.iZ i' j' o1' o2' b ho1 ho2 (Ob.gH (Ob.lJ ρ h o1') rfl rfl hb1) (Ob.gH (Ob.lJ ρ h o2') rfl rfl hb2)
  subst this
  exact vC hnd hi hj
 ·intro j o b ho hb
  obtain ⟨i,hi,rfl⟩:=mJ ho
  obtain ⟨o',ho'⟩:=hget i (List.mem_of_getElem? hi)
  rw [dF ho',hβ hi] at hb ⊢
  have hb':=Ob.gH (o':=o') (p':=β i) (Ob.lJ ρ h o') rfl rfl hb
  exact ⟨fun k hn=>hn.2 i (List.mem_of_getElem? hi) o' ho' hb',(hs.dM i o' b ho' hb').2.1,.inr fun k hw hk=>⟨i,o',List.mem_of_getElem? hi,ho',by rw [Ob.Dx] at hw; exact hw,Ob.nR (Ob.lJ ρ h o') rfl rfl hk⟩⟩
 ·intro j o hj
  simp only [inC,List.getElem?_map,Option.map_eq_some_iff] at hj
  obtain ⟨i,hi,rfl⟩:=hj
  refine ⟨by simpa [inH] using (aR.1 hi).1,fun b hb=>?_⟩
  obtain ⟨o',ho'⟩:=hget i (List.mem_of_getElem? hi)
  have hob:=hs.obj i o' ho'
  rw [hβ hi]
  unfold sI at hb
  rw [dF ho'] at hb
  cases o' with
  | box e ls =>
   simp only [Ob.Rel] at hob
   exact ⟨hb,hob.2.1⟩
  | arr e t v rows wr=>cases hb
  | fm tab =>
   simp only [Ob.Rel] at hob
   exact ⟨hb,hob.2.1⟩
  | dm kt vt es =>
   simp only [Ob.Rel] at hob
   exact ⟨hb,hob.2.1⟩
 ·intro i v hv
  simp only [List.getElem?_map,Option.map_eq_some_iff] at hv
  obtain ⟨v0,hv0,rfl⟩:=hv
  have hl:i < xs.length:=by rw [<- aP.length ha]; exact (aR.1 hv0).1
  have hr:=ha.get i (aR.1 hv0).1 hl
  have e:vs[i]'(aR.1 hv0).1=v0:=(aR.1 hv0).2
  rw [e] at hr
  have e2:(xs.toArray).getD i undef=xs[i]:=by simp [hl]
  simp only [e2]
  exact hr.qE Xn hN
def gK (β β':Nat->Pl) (ρ:List Nat) (h:List Ob):Nat->Pl:=fun i =>
 match pos i ρ 0 with
 | some j=>match nW (zY h i) with
  | true=>β i
  | false=>{ β' j with ver:=(β' j).ver+gU ρ h j }
 | none=>if i < h.length then β i else β' (i - h.length+ρ.length)
theorem yC {ρ:List Nat} {h hy:List Ob} (hk:ρ.length <= hy.length) {id:Nat} {o:Ob} (ho:(iN ρ h hy)[id]?=some o) :
  (id < h.length∧pos id ρ 0=none∧h[id]?=some o)∨(∃ j ob oy,id < h.length∧ρ[j]?=some id∧pos id ρ 0=some j∧h[id]?=some ob∧hy[j]?=some oy∧o=oy.back (iD ρ h.length) (gU ρ h) j) ∨
   ∃ j oy,ρ.length <= j∧id=h.length+(j - ρ.length)∧hy[j]?=some oy∧o=oy.back (iD ρ h.length) (gU ρ h) j:=by
 unfold iN at ho
 by_cases hid:id < h.length
 ·rw [bY (by rw [oK]; exact hid),Yc,Nat.zero_add] at ho
  obtain ⟨ob,hob⟩:∃ ob,h[id]?=some ob:=⟨h[id],by simp [hid]⟩
  rw [hob] at ho
  simp only [Option.map_some,aA] at ho
  cases hp:pos id ρ 0 with
  | none =>
   rw [hp] at ho
   simp only at ho
   exact .inl ⟨hid,rfl,by rw [hob,ho]⟩
  | some j =>
   obtain ⟨m,hm,hi⟩:=rA hp
   rw [Nat.zero_add] at hm
   subst hm
   have hj:j < hy.length:=Nat.lt_of_lt_of_le (aR.1 hi).1 hk
   have hyj:hy[j]?=some hy[j]:=by simp [hj]
   rw [hp] at ho
   simp only [hyj] at ho
   exact .inr (.inl ⟨j,ob,hy[j],hid,hi,rfl,hob,hyj,ho.symm⟩)
 ·rw [List.getElem?_append_right (by rw [oK]; omega),oK,Ec,List.getElem?_drop] at ho
  simp only [Option.map_eq_some_iff] at ho
  obtain ⟨oy,h1,h2⟩:=ho
  exact .inr (.inr ⟨ρ.length+(id - h.length),oy,by omega,by omega,h1,h2.symm⟩)
theorem yV {ρ:List Nat} {h hy:List Ob}:(iN ρ h hy).length=h.length+(hy.length - ρ.length):=by
 simp [iN,oK,xP]
theorem zLo {C:Ctx} {β:Nat->Pl} {h:List Ob} {w w':World} {ρ:List Nat} (hs:bV C β h w) (hnd:nodupB ρ=true) (hlt:∀ i ∈ ρ,i < h.length) (hwr:∀ (j:Nat) (o:Ob),(inH ρ h)[j]?=some o->o.wr=true) (Yd:pV (inH ρ h) so.os=true)
  {y:so.X} {us:List Value} {β':Nat->Pl} (hs':Sim (inC C β h w ρ hs) β' (so.enc y) { tmps:=us.toArray,defers:=[] } w') :
  ∃ β2,Moves β β2∧Keep (C.N β h) w w'∧(∀ b j,b < w.heap.size->C.N β2 (iN ρ h (so.enc y).h) b j->C.N β h b j)∧bV C β2 (iN ρ h (so.enc y).h) w' ∧
   aP (fun v u=>V.Rel β2 w' (C.N β2 (iN ρ h (so.enc y).h)) v u) ((so.enc y).r.map (V.back (iD ρ h.length) (gU ρ h))) us:=by
 generalize hhy:(so.enc y).h=hy at *
 have hget:∀ i ∈ ρ,∃ o,h[i]?=some o:=fun i hi=>⟨h[i]'(hlt i hi),by simp [hlt i hi]⟩
 have hfix:∀ {j i:Nat},ρ[j]?=some i->j < hy.length∧∀ b,sI β h i=some b->(β' j).blk=some b∧(β' j).box=true:=fun {j i} hi=>by
  have:=hs'.heap.fixed j (sI β h i) (by simp [inC,hi])
  rw [hhy] at this
  exact this
 have hk:ρ.length <= hy.length:=by
  rcases aT hy.length ρ.length with h1 | h1
  ·have:=(hfix (j:=hy.length) (i:=ρ[hy.length]) (by simp [h1])).1
   omega
  ·exact h1
 have zVe:∀ i ∈ ρ,∀ o,h[i]?=some o->o.wr=true:=fun i hi o ho=>by
  obtain ⟨n,hn⟩:=List.getElem?_of_mem hi
  have:=hwr n ((zY h i).ren ρ h) (by simp [inH,hn])
  rw [Ob.Dx,dF ho] at this
  exact this
 have hrow:∀ {j i:Nat} {o:Ob},ρ[j]?=some i->h[i]?=some o->nW o=false->∃ oy,hy[j]?=some oy∧nW oy=false:=fun {j i o} hi ho hb=>by
  cases o with
  | box e ls=>cases hb
  | fm tab=>cases hb
  | dm=>cases hb
  | arr e t u rows wr =>
   obtain ⟨e',t',hrw⟩:=oL (j:=j) (e:=e) (t:=t) (u:=0) (rows:=rows) (wr:=wr) Yd (by simp [inH,hi,dF ho,Ob.ren])
   obtain ⟨rows',hr'⟩:=tO (A:=Unit) (x:=(xL so.rs (List.replicate so.n .bA) y).2) hrw
   exact ⟨_,by rw [<- hhy]; exact hr',rfl⟩
 have Js:=hs'.heap.obj
 rw [hhy] at Js
 have zIu:∀ j,hy.length <= j->(β' j).live=false:=fun j hj=>hs'.heap.dead j (by rw [hhy]; exact hj)
 have yX:=hs'.heap.dM
 rw [hhy] at yX
 have zCw:=hs'.heap.iZ
 rw [hhy] at zCw
 have zFj:∀ {j i:Nat} {o:Ob},ρ[j]?=some i->h[i]?=some o->nW o=true->(β' j).box=true∧(β' j).blk=(β i).blk∧(β i).box=true∧(β i).live=true∧(β' j).live=true:=fun {j i o} hi ho hb=>by
  have hob:=hs.obj i o ho
  obtain ⟨hj,hfx⟩:=hfix hi
  cases o with
  | arr=>cases hb
  | dm kt vt es =>
   simp only [Ob.Rel] at hob
   obtain ⟨k1,k2,b,ms,k3,_⟩:=hob
   have hfo:sI β h i=some b:=by simp only [sI,dF ho,nW,k3]
   obtain ⟨g1,g2⟩:=hfx b hfo
   exact ⟨g2,by rw [g1,k3],k2,k1,(Js j hy[j] (by simp [hj])).live⟩
  | fm tab =>
   simp only [Ob.Rel] at hob
   obtain ⟨k1,k2,b,es,n,k3,_⟩:=hob
   have hfo:sI β h i=some b:=by simp only [sI,dF ho,nW,k3]
   obtain ⟨g1,g2⟩:=hfx b hfo
   exact ⟨g2,by rw [g1,k3],k2,k1,(Js j hy[j] (by simp [hj])).live⟩
  | box e ls =>
   simp only [Ob.Rel] at hob
   obtain ⟨k1,k2,b,cs,k3,_⟩:=hob
   have hfo:sI β h i=some b:=by simp only [sI,dF ho,nW,k3]
   obtain ⟨g1,g2⟩:=hfx b hfo
   exact ⟨g2,by rw [g1,k3],k2,k1,(Js j hy[j] (by simp [hj])).live⟩
 have zLp:∀ {j i:Nat} {o:Ob},ρ[j]?=some i->h[i]?=some o->nW o=true->gK β β' ρ h i=β i:=fun hi ho hb=>by
  simp only [gK,zCo hnd hi,dF ho,hb]
 have zLq:∀ {j i:Nat} {o:Ob},ρ[j]?=some i->h[i]?=some o->nW o=false->gK β β' ρ h i={ β' j with ver:=(β' j).ver+gU ρ h j }:=fun hi ho hb=>by
  simp only [gK,zCo hnd hi,dF ho,hb]
 have zFk:∀ {i:Nat},pos i ρ 0=none->i < h.length->gK β β' ρ h i=β i:=fun hp hi=>by
  simp only [gK,hp,if_pos hi]
 have zNw:∀ {i:Nat},h.length <= i->pos i ρ 0=none:=fun {i} hi=>by
  cases hp:pos i ρ 0 with
  | none=>rfl
  | some j =>
   obtain ⟨m,_,hm⟩:=rA hp
   have:=hlt i (List.mem_of_getElem? hm)
   omega
 have zRb:∀ {j:Nat},ρ.length <= j->gK β β' ρ h (h.length+(j - ρ.length))=β' j:=fun {j} hj=>by
  simp only [gK,zNw (Nat.le_add_right _ _)]
  rw [if_neg (by omega)]
  congr 1
  omega
 have eF:∀ {j i:Nat},ρ[j]?=some i->iD ρ h.length j=i:=fun hi=>by simp only [iD,hi]
 have eF2:∀ {j:Nat},ρ.length <= j->iD ρ h.length j=h.length+(j - ρ.length):=fun hj=>by simp only [iD,List.getElem?_eq_none hj]
 have eU2:∀ {j:Nat},ρ.length <= j->gU ρ h j=0:=fun hj=>by simp only [gU,List.getElem?_eq_none hj]
 have hpl:∀ j,(β' j).live=true->Eb (β' j) (gK β β' ρ h (iD ρ h.length j)) (gU ρ h j):=fun j hl=>by
  have hj:j < hy.length:=by
   rcases aT j hy.length with h1 | h1
   ·exact h1
   ·rw [zIu j h1] at hl; cases hl
  cases hi:ρ[j]? with
  | some i =>
   rw [eF hi]
   obtain ⟨o,ho⟩:=hget i (List.mem_of_getElem? hi)
   cases hb:nW o with
   | true =>
    obtain ⟨g1,g2,g3,g4,g5⟩:=zFj hi ho hb
    rw [zLp hi ho hb]
    exact ⟨by rw [g4,hl],by rw [g3,g1],g2.symm,fun h=>by rw [g1] at h; cases h⟩
   | false =>
    rw [zLq hi ho hb]
    exact ⟨rfl,rfl,rfl,fun _=>⟨rfl,rfl,rfl,rfl⟩⟩
  | none =>
   have hge:ρ.length <= j:=List.getElem?_eq_none_iff.1 hi
   rw [eF2 hge,zRb hge,eU2 hge]
   exact ⟨rfl,rfl,rfl,fun _=>⟨rfl,rfl,rfl,rfl⟩⟩
 have hown:∀ {b k:Nat},(inC C β h w ρ hs).vX b k->∃ (i:Nat) (o:Ob),i ∈ ρ∧h[i]?=some o∧o.wr=true∧o.at (β i) b k:=fun {b k} hb=>hb
 have hkeep:Keep (C.N β h) w w':=hs'.heap.frame.weaken fun k j ho=>by
  obtain ⟨i,o,_,h2,h3,h4⟩:=hown ho
  exact .inr ⟨i,o,h2,h3,h4⟩
 have hat:∀ {id j:Nat} {ob oy:Ob},ρ[j]?=some id->h[id]?=some ob->hy[j]?=some oy->∀ b k,(oy.back (iD ρ h.length) (gU ρ h) j).at (gK β β' ρ h id) b k->oy.at (β' j) b k:=fun {id j ob oy} hi hob hoy b k hbk=>by
  cases hb2:nW ob with
  | true =>
   have hp:oy.iR=false:=(Js j oy hoy).zKf (zFj hi hob hb2).1
   rw [zLp hi hob hb2] at hbk
   have:=Ob.Jb (by simp [Ob.plain,Ob.Ed,hp]) hbk
   exact Ob.jU (by rw [(zFj hi hob hb2).2.1]; exact this)
  | false =>
   rw [zLq hi hob hb2] at hbk
   exact Ob.nR (Ob.Ed oy) rfl rfl hbk
 have zLr:∀ {j:Nat} {oy:Ob},ρ.length <= j->∀ b k,(oy.back (iD ρ h.length) (gU ρ h) j).at (gK β β' ρ h (h.length+(j - ρ.length))) b k->oy.at (β' j) b k:=fun {j oy} hj b k hbk=>by
  rw [zRb hj] at hbk
  exact Ob.nR (Ob.Ed oy) rfl rfl hbk
 have Ye:Moves β (gK β β' ρ h):=fun id hl=>by
  have hid:id < h.length:=by
   rcases aT id h.length with h1 | h1
   ·exact h1
   ·rw [hs.dead id h1] at hl; cases hl
  cases hp:pos id ρ 0 with
  | none=>exact .inl (zFk hp hid)
  | some j =>
   obtain ⟨m,hm,hi⟩:=rA hp
   rw [Nat.zero_add] at hm
   subst hm
   obtain ⟨o,ho⟩:=hget id (List.mem_of_getElem? hi)
   cases hb:nW o with
   | true=>exact .inl (zLp hi ho hb)
   | false =>
    obtain ⟨oy,hoy,hby⟩:=hrow hi ho hb
    have hY:=Js j oy hoy
    have hO:=hs.obj id o ho
    rw [zLq hi ho hb]
    cases o with
    | box=>cases hb
    | fm=>cases hb
    | dm=>cases hb
    | arr e t u rows wr =>
     cases oy with
     | box=>cases hby
     | fm=>cases hby
     | dm=>cases hby
     | arr e' t' u' rows' wr' =>
      simp only [Ob.Rel] at hY hO
      refine .inr ⟨hO.2.1,hY.1,hY.2.1,?_⟩
      simp only [gU,hi,ho]
      have:=hO.2.2.1
      omega
 have hbl:∀ {b k:Nat},b < w.heap.size->w.heap.size <= b∨(inC C β h w ρ hs).vX b k->C.N β h b k:=fun {b k} hb ho=>by
  rcases ho with ho | ho
  ·omega
  ·obtain ⟨i,o,_,h2,h3,h4⟩:=hown ho
   exact .inr ⟨i,o,h2,h3,h4⟩
 have zNx:∀ b j,b < w.heap.size->C.N (gK β β' ρ h) (iN ρ h hy) b j->C.N β h b j:=fun b k hb hn=>by
  rcases hn with hn | ⟨id,o,ho,hw,hbk⟩
  ·exact .inl hn
  ·rcases yC hk ho with ⟨hid,hp,ho⟩ | ⟨j,ob,oy,hid,hi,hp,hob,hoy,rfl⟩ | ⟨j,oy,hj,rfl,hoy,rfl⟩
   ·rw [zFk hp hid] at hbk
    exact .inr ⟨id,o,ho,hw,hbk⟩
   ·rw [Ob.rH] at hw
    have hbk:=hat hi hob hoy b k hbk
    exact hbl hb ((yX j oy b hoy ⟨k,hbk⟩).2.2.imp (fun h=>h) fun h=>h k hw hbk)
   ·rw [Ob.rH] at hw
    have hbk:=zLr hj b k hbk
    exact hbl hb ((yX j oy b hoy ⟨k,hbk⟩).2.2.imp (fun h=>h) fun h=>h k hw hbk)
 have zNy:∀ b j,b < w'.heap.size->C.N (gK β β' ρ h) (iN ρ h hy) b j->(inC C β h w ρ hs).N β' (so.enc y).h b j:=fun b k _ hn=>by
  rw [hhy]
  rcases hn with hn | ⟨id,o,ho,hw,hbk⟩
  ·exact .inl ⟨.inl hn,fun i hi o ho hbk=>(hs.dM i o b ho hbk).1 k hn⟩
  ·rcases yC hk ho with ⟨hid,hp,ho⟩ | ⟨j,ob,oy,hid,hi,hp,hob,hoy,rfl⟩ | ⟨j,oy,hj,rfl,hoy,rfl⟩
   ·rw [zFk hp hid] at hbk
    refine .inl ⟨.inr ⟨id,o,ho,hw,hbk⟩,fun i hi oi hoi hbi=>?_⟩
    have:=hs.iZ id i o oi b ho hoi ⟨k,hbk⟩ hbi
    subst this
    exact wK hp hi
   ·rw [Ob.rH] at hw
    exact .inr ⟨j,oy,hoy,hw,hat hi hob hoy b k hbk⟩
   ·rw [Ob.rH] at hw
    exact .inr ⟨j,oy,hoy,hw,zLr hj b k hbk⟩
 have Rs:∀ {id:Nat} {o:Ob} {b:Nat},pos id ρ 0=none->h[id]?=some o->o.blks (β id) b->b < w.heap.size∧∀ k,¬ (inC C β h w ρ hs).vX b k:=fun {id o b} hp ho hb=>by
  refine ⟨(hs.dM id o b ho hb).2.1,fun k hw=>?_⟩
  obtain ⟨i,oi,h1,h2,_,h4⟩:=hown hw
  have:=hs.iZ id i o oi b ho h2 hb ⟨k,h4⟩
  subst this
  exact wK hp h1
 have hcls:∀ {id:Nat} {o:Ob},(iN ρ h hy)[id]?=some o->(pos id ρ 0=none∧h[id]?=some o∧gK β β' ρ h id=β id)∨∃ j oy,hy[j]?=some oy∧id=iD ρ h.length j∧o=oy.back (iD ρ h.length) (gU ρ h) j∧∀ b k,o.at (gK β β' ρ h id) b k->oy.at (β' j) b k:=fun {id o} ho=>by
  rcases yC hk ho with ⟨hid,hp,ho⟩ | ⟨j,ob,oy,hid,hi,hp,hob,hoy,rfl⟩ | ⟨j,oy,hj,rfl,hoy,rfl⟩
  ·exact .inl ⟨hp,ho,zFk hp hid⟩
  ·exact .inr ⟨j,oy,hoy,(eF hi).symm,rfl,hat hi hob hoy⟩
  ·exact .inr ⟨j,oy,hoy,(eF2 hj).symm,rfl,zLr hj⟩
 have zRc:∀ {j:Nat} {oy:Ob},hy[j]?=some oy->(oy.back (iD ρ h.length) (gU ρ h) j).wr=true:=fun {j oy} hoy=>by
  rw [Ob.rH,<- hhy] at *
  exact wL hoy
 have zRd:∀ {j id:Nat} {oy:Ob} {b:Nat},hy[j]?=some oy->(∀ b k,(oy.back (iD ρ h.length) (gU ρ h) j).at (gK β β' ρ h id) b k->oy.at (β' j) b k)->(oy.back (iD ρ h.length) (gU ρ h) j).blks (gK β β' ρ h id) b->b < w.heap.size->(∀ k,¬ (inC C β h w ρ hs).vX b k)->False:=fun {j id oy b} hoy eb hb g1 g2=>by
  obtain ⟨q,hb⟩:=hb
  rcases (yX j oy b hoy ⟨q,eb b q hb⟩).2.2 with h3 | h3
  ·have h3:w.heap.size <= b:=h3
   omega
  ·have hw:=zRc hoy
   rw [Ob.rH] at hw
   exact g2 q (h3 q hw (eb b q hb))
 have hHS:bV C (gK β β' ρ h) (iN ρ h hy) w':=by
  refine ⟨?_,?_,?_,?_,hs.n0,?_,Nat.le_trans hs.size hs'.heap.size,hs'.heap.os.trans hs.os,hs'.heap.tape.trans hs.tape,hs'.heap.output.trans hs.output,?_⟩
  ·intro id o ho
   rcases hcls ho with ⟨hp,ho,eb⟩ | ⟨j,oy,hoy,rfl,rfl,_⟩
   ·rw [eb]
    exact (hs.obj id o ho).mono Ye hkeep zNx fun b hb=>hs'.heap.frame.block b (Rs hp ho hb).1 (Rs hp ho hb).2
   ·have hY:=Js j oy hoy
    rw [<- hhy] at hY
    exact Ob.Rel.back (f:=iD ρ h.length) (v:=gU ρ h) hpl zNy hY
  ·intro id hid
   rw [yV] at hid
   have hp:=zNw (i:=id) (by omega)
   simp only [gK,hp]
   rw [if_neg (by omega)]
   exact zIu _ (by omega)
  ·intro i j o1 o2 b h1 h2 hb1 hb2
   rcases hcls h1 with ⟨hp1,ho1,eb1⟩ | ⟨j1,oy1,zRe,rfl,rfl,eb1⟩ <;> rcases hcls h2 with ⟨hp2,ho2,eb2⟩ | ⟨j2,oy2,zRf,rfl,rfl,eb2⟩
   ·rw [eb1] at hb1
    rw [eb2] at hb2
    exact hs.iZ i j o1 o2 b ho1 ho2 hb1 hb2
   ·exfalso
    rw [eb1] at hb1
    obtain ⟨g1,g2⟩:=Rs hp1 ho1 hb1
    exact zRd zRf eb2 hb2 g1 g2
   ·exfalso
    rw [eb2] at hb2
    obtain ⟨g1,g2⟩:=Rs hp2 ho2 hb2
    exact zRd zRe eb1 hb1 g1 g2
   ·obtain ⟨q1,hb1⟩:=hb1
    obtain ⟨q2,hb2⟩:=hb2
    rw [zCw j1 j2 oy1 oy2 b zRe zRf ⟨q1,eb1 b q1 hb1⟩ ⟨q2,eb2 b q2 hb2⟩]
  ·intro id o b ho hb
   rcases hcls ho with ⟨hp,ho,eb⟩ | ⟨j,oy,hoy,rfl,rfl,eb⟩
   ·rw [eb] at hb ⊢
    obtain ⟨k1,k2,k3⟩:=hs.dM id o b ho hb
    exact ⟨k1,Nat.lt_of_lt_of_le k2 hs'.heap.size,k3⟩
   ·obtain ⟨q,hb⟩:=hb
    obtain ⟨k1,k2,k3⟩:=yX j oy b hoy ⟨q,eb b q hb⟩
    rcases aT b w.heap.size with hlt | hge
    ·have hold:∀ k,(oy.back (iD ρ h.length) (gU ρ h) j).wr=true->(oy.back (iD ρ h.length) (gU ρ h) j).at (gK β β' ρ h (iD ρ h.length j)) b k->∃ (i:Nat) (o:Ob),i ∈ ρ∧h[i]?=some o∧o.wr=true∧o.at (β i) b k:=fun k hw hk=>by
      rw [Ob.rH] at hw
      rcases k3 with k3 | k3
      ·have k3:w.heap.size <= b:=k3
       omega
      ·exact hown (k3 k hw (eb b k hk))
     have hwy:(oy.back (iD ρ h.length) (gU ρ h) j).wr=true:=zRc hoy
     obtain ⟨i,oi,h1,h2,h3,h4⟩:=hold q hwy hb
     obtain ⟨g1,g2,g3⟩:=hs.dM i oi b h2 ⟨q,h4⟩
     refine ⟨g1,k2,?_⟩
     rcases g3 with g3 | g3
     ·exact .inl g3
     ·right
      intro k hw hk
      obtain ⟨i2,oi2,f1,f2,f3,f4⟩:=hold k hw hk
      rcases (hs.dM i2 oi2 b f2 ⟨k,f4⟩).2.2 with g5 | g5
      ·have:=hs.iZ i i2 oi oi2 b h2 f2 ⟨q,h4⟩ ⟨k,f4⟩
       subst this
       rw [h2] at f2
       simp only [aA] at f2
       subst f2
       exact g3 k f3 f4
      ·exact g5 k f3 f4
    ·have h0:=hs.size
     exact ⟨fun _ hn=>by have:=hs.n0 b _ hn; omega,k2,.inl (by omega)⟩
  ·refine hs.frame.pY hs'.heap.frame fun b j hb ho=>?_
   obtain ⟨i,oi,h1,h2,h3,h4⟩:=hown ho
   rcases (hs.dM i oi b h2 ⟨j,h4⟩).2.2 with h5 | h5
   ·omega
   ·exact h5 j h3 h4
  ·intro j o hj
   obtain ⟨k1,k2⟩:=hs.fixed j o hj
   refine ⟨by rw [yV]; omega,fun b hb=>?_⟩
   obtain ⟨k3,k4⟩:=k2 b hb
   have hoj:h[j]?=some h[j]:=by simp [k1]
   rcases Ye j (hs.obj j _ hoj).live with e | ⟨e,_⟩
   ·rw [e]; exact ⟨k3,k4⟩
   ·rw [k4] at e; cases e
 refine ⟨gK β β' ρ h,Ye,hkeep,zNx,hHS,?_⟩
 refine zCv (by have:=hs'.size; simpa using this) fun i v u hv hu=>?_
 simp only [List.getElem?_map,Option.map_eq_some_iff] at hv
 obtain ⟨v0,hv0,rfl⟩:=hv
 have hr:=hs'.reg i v0 hv0
 have e:(us.toArray).getD i undef=u:=by
  rw [Array.getD_eq_getD_getElem?]
  simp [hu]
 simp only [e] at hr
 exact hr.back (f:=iD ρ h.length) (v:=gU ρ h) hpl zNy
theorem zNz {l:L} (h:l.isD=true):l.ids=[]:=by
 cases l <;> first | rfl | (cases h; done) | (rename_i f cs; cases cs <;> first | rfl | cases h)
theorem zIv:∀ {ls:List L},aY L.isD ls=true->L.qY ls=[]
 | [],_=>rfl
 | l :: ls,h=>by
  simp only [aY,aD] at h
  simp only [L.qY,zNz h.1,zIv h.2,List.append_nil]
theorem zIw:∀ {vs:List V},aY V.isD vs=true->Xf vs=[]
 | [],_=>rfl
 | v :: vs,h=>by
  simp only [aY,aD] at h
  have h1:v.ids=[]:=by
   cases v with
   | one l=>exact zNz h.1
   | agg ls=>exact zIv h.1
   | _=>rfl
  simp only [Xf,h1,zIw h.2,List.append_nil]
theorem Gq {vs:List V} {h:List Ob} (hd:aY V.isD vs=true):reach vs h=[]:=by
 unfold reach
 rw [zIw hd]
 rfl
theorem zOa {ρ:List Nat} {h h2:List Ob} {l:L} (hd:l.isD=true):l.ren ρ h=l.ren ρ h2:=by
 cases l <;> first | rfl | (cases hd; done) | (rename_i f cs; cases cs <;> first | rfl | cases hd)
theorem zIx {ρ:List Nat} {h h2:List Ob}:∀ {ls:List L},aY L.isD ls=true->L.mZ ρ h ls=L.mZ ρ h2 ls
 | [],_=>rfl
 | l :: ls,hd=>by
  simp only [aY,aD] at hd
  simp only [L.mZ,zOa (h:=h) (h2:=h2) hd.1,zIx (h:=h) (h2:=h2) hd.2]
theorem zIy {ρ:List Nat} {h h2:List Ob}:∀ {vs:List V},aY V.isD vs=true->vs.map (V.ren ρ h)=vs.map (V.ren ρ h2)
 | [],_=>rfl
 | v :: vs,hd=>by
  simp only [aY,aD] at hd
  have h1:V.ren ρ h v=V.ren ρ h2 v:=by
   cases v with
   | one l=>simp only [V.ren,zOa (h:=h) (h2:=h2) hd.1]
   | agg ls=>simp only [V.ren,zIx (h:=h) (h2:=h2) hd.1]
   | _=>rfl
  simp only [List.map_cons,h1,zIy (h:=h) (h2:=h2) hd.2]
theorem Um:∀ {h:List Ob} {n:Nat},Ag (fun _=>none) n h=h
 | [],_=>rfl
 | o :: r,n=>by simp only [Ag,Um]
theorem Ij (h hy:List Ob):iN [] h hy=h++lN (iD [] h.length) (gU [] h) 0 hy:=by
 unfold iN
 simp only [pos,List.length_nil,List.drop_zero,Um]
theorem zPj {vs:List V} {h h2:List Ob} (hd:aY V.isD vs=true) (hl:h2.length=h.length) :
  (peM si so F).run vs h=(peM si so F).run vs h2∧∀ y,((peM si so F).enc y vs h).1=((peM si so F).enc y vs h2).1∧∃ os,((peM si so F).enc y vs h).2=h++os∧((peM si so F).enc y vs h2).2=h2++os:=by
 have e1:vs.map (V.ren [] h)=vs.map (V.ren [] h2):=zIy hd
 have e2:gU [] h=gU [] h2:=rfl
 refine ⟨?_,fun y=>⟨?_,lN (iD [] h.length) (gU [] h) 0 (so.enc y).h,?_,?_⟩⟩
 ·simp only [peM,Gq hd,e1]
  rfl
 ·simp only [peM,Gq hd,hl,e2]
 ·simp only [peM,Gq hd,Ij]
 ·simp only [peM,Gq hd,Ij,hl,e2]
theorem tQ (hM:Af P f si so F):(peM si so F).OK P f:=by
 refine ⟨hM.1,fun vs h y hr C β w xs hP hs ha=>?_,fun h=>(by cases h),fun h=>(by cases h),fun _ vs h h2 hd hl=>zPj hd hl⟩
 subst hP
 simp only [peM] at hr
 split at hr
 case h_2=>cases hr
 rename_i x hx
 simp only [aA,aB] at hr
 obtain ⟨hok,hF⟩:=hr
 obtain ⟨hnd,hlt,hlen,hwr,Yd⟩:=zBt hok
 have zS:=zCq hx (zRa hs ha hnd hlt)
 refine (hM.2 x y hF (inC C β h w _ hs) _ w xs rfl (by simp [inC,hlen]) zS).mono ?_
 rintro e w' ⟨us,β',rfl,hs'⟩
 obtain ⟨β2,h1,h2,h3,h4,h5⟩:=zLo hs hnd hlt hwr Yd hs'
 exact ⟨_,_,β2,⟨rfl,rfl⟩,h1,h2,h3,h4,_,rfl,zLn h5⟩
end
end Go.Dec
