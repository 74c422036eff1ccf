/- Part of a proof over this seat: a library of my own, and what it says of this seat. No statement is proved here. -/
import Derived.Test.YtfpipcafiocdoaaGreatDoorPartAH
namespace Go.Dec
@[reducible] def bG:List Ty->Type
 | []=>Unit
 | [t]=>t.den
 | t :: u :: r=>t.den × bG (u :: r)
def jJ:List Value->Value
 | [u]=>u
 | us=>.tuple us.toArray
def zVj (bor:Bool) (N:Nat->Nat->Prop):Nat->Nat->Prop :=
 match bor with
 | true=>fun _ _=>False
 | false=>N
def Ty.iR (w:World) (N:Nat->Nat->Prop) (t:Ty) (x:t.den) (u:Value):Prop :=
 if t.isAgg then ∃ cs:List Value,u=.agg cs.toArray∧t.Rel w N x cs else t.Rel w N x [u]
def DensRel (w:World) (N:Nat->Nat->Prop):(ts:List Ty)->bG ts->List Value->Prop
 | [],_,us=>us=[]
 | [t],x,us=>∃ u,us=[u]∧t.iR w N x u
 | t :: s :: r,x,us=>∃ u us',us=u :: us'∧t.iR w N x.1 u∧DensRel w N (s :: r) x.2 us'
def vOf (t:Ty) (x:t.den):V :=
 match t.isAgg with
 | true=>.agg (explode t x)
 | false=>.one (.val t x)
def sOf (t:Ty) (x:t.den):Sum L (List L) :=
 match t.isAgg with
 | true=>.inr (explode t x)
 | false=>.inl (.val t x)
def oF:(ts:List Ty)->bG ts->List V
 | [],_=>[]
 | [t],x=>[vOf t x]
 | t :: s :: r,x=>vOf t x.1 :: oF (s :: r) x.2
def zGr:(ts:List Ty)->bG ts->List (Sum L (List L))
 | [],_=>[]
 | [t],x=>[sOf t x]
 | t :: s :: r,x=>sOf t x.1 :: zGr (s :: r) x.2
def zGs (t:Ty) (ls:List L):Option t.den :=
 match bB t ls with
 | some (x,[])=>some x
 | _=>none
def Sz (t:Ty) (s:Sum L (List L)):Option t.den :=
 match t.isAgg,s with
 | true,.inr ls=>zGs t ls
 | false,.inl l=>l.asT t
 | _,_=>none
def yZ:(ts:List Ty)->List (Sum L (List L))->Option (bG ts)
 | [],[]=>some ()
 | [t],[s]=>Sz t s
 | t :: u :: r,s :: ss =>
  match Sz t s,yZ (u :: r) ss with
  | some x,some y=>some (x,y)
  | _,_=>none
 | _,_=>none
def V.sum:V->Option (Sum L (List L))
 | .one l=>some (.inl l)
 | .agg ls=>some (.inr ls)
 | _=>none
def Mj (bor:Bool) (h:List Ob) (t:Ty) (v:V):Option (Bool × t.den) :=
 match bor with
 | true =>
  match v.deep h with
  | some (c,u) =>
   match u.sum with
   | some s=>match Sz t s with
    | some x=>some (c,x)
    | none=>none
   | none=>none
  | none=>none
 | false =>
  match v.isD,v.sum with
  | true,some s=>match Sz t s with
   | some x=>some (true,x)
   | none=>none
  | _,_=>none
def eD (bor:Bool) (h:List Ob):(ts:List Ty)->List V->Option (Bool × bG ts)
 | [],[]=>some (true,())
 | [t],[v]=>Mj bor h t v
 | t :: u :: r,v :: vs =>
  match Mj bor h t v,eD bor h (u :: r) vs with
  | some (c,x),some (d,y)=>some (c && d,(x,y))
  | _,_=>none
 | _,_=>none
def Ty.flat:Ty->Bool
 | .pair a b=>a.flat && b.flat
 | .arr _ a=>a.flat
 | .slice _=>false
 | .clip _=>false
 | .opq=>false
 | _=>true
section
variable {β:Nat->Pl} {w:World} {N:Nat->Nat->Prop}
theorem zEf {t:Ty} {x:t.den} {u:Value} (h:t.iR w N x u):(vOf t x).Rel β w N u:=by
 unfold vOf
 unfold Ty.iR at h
 cases ha:t.isAgg with
 | true =>
  rw [ha,if_pos rfl] at h
  obtain ⟨cs,e,h⟩:=h
  exact ⟨cs,e,fT h⟩
 | false =>
  rw [ha,if_neg (by simp)] at h
  simp only [V.Rel,L.Rel]
  exact h
theorem uY:∀ {ts:List Ty} {x:bG ts} {us:List Value},DensRel w N ts x us->jX β w N (oF ts x) us
 | [],_,_,h=>by simp only [DensRel] at h; subst h; trivial
 | [t],x,_,h=>by obtain ⟨u,rfl,h⟩:=h; exact ⟨zEf h,trivial⟩
 | t :: s :: r,x,_,h=>by
  obtain ⟨u,us,rfl,h,h2⟩:=h
  exact ⟨zEf h,uY h2⟩
theorem zEg {t:Ty} {x:t.den} {u:Value} (h:t.iR w N x u):fJ β w N (sOf t x) u:=by
 unfold sOf
 unfold Ty.iR at h
 cases ha:t.isAgg with
 | true =>
  rw [ha,if_pos rfl] at h
  obtain ⟨cs,e,h⟩:=h
  exact ⟨cs,e,fT h⟩
 | false =>
  rw [ha,if_neg (by simp)] at h
  simp only [fJ,L.Rel]
  exact h
theorem Uy:∀ {ts:List Ty} {x:bG ts} {us:List Value},DensRel w N ts x us->aL (fJ β w N) (zGr ts x) us
 | [],_,_,h=>by simp only [DensRel] at h; subst h; trivial
 | [t],x,_,h=>by obtain ⟨u,rfl,h⟩:=h; exact ⟨zEg h,trivial⟩
 | t :: s :: r,x,_,h=>by
  obtain ⟨u,us,rfl,h,h2⟩:=h
  exact ⟨zEg h,Uy h2⟩
theorem zKm {t:Ty} {ls:List L} {x:t.den} {cs:List Value} (h:zGs t ls=some x) (hr:aG β w N ls cs):t.Rel w N x cs:=by
 unfold zGs at h
 split at h
 ·rename_i y hi
  simp only [Option.some.injEq] at h
  subst h
  obtain ⟨c1,c2,e,h1,h2⟩:=mK hi hr
  simp only [aG] at h2
  subst h2
  rw [List.append_nil] at e
  subst e
  exact h1
 ·cases h
theorem Cw {t:Ty} {s:Sum L (List L)} {x:t.den} {u:Value} (h:Sz t s=some x) (hr:fJ β w N s u):t.iR w N x u:=by
 unfold Sz at h
 unfold Ty.iR
 split at h
 ·rename_i ls ha
  rw [ha,if_pos rfl]
  obtain ⟨cs,e,hr⟩:=hr
  exact ⟨cs,e,zKm h hr⟩
 ·rename_i l ha
  rw [ha,if_neg (by simp)]
  exact L.Ry h hr
 ·cases h
theorem Uz:∀ {ts:List Ty} {ss:List (Sum L (List L))} {x:bG ts} {us:List Value},yZ ts ss=some x->aL (fJ β w N) ss us->DensRel w N ts x us
 | [],[],_,[],_,_=>rfl
 | [t],[s],x,[u],h,hr=>⟨u,rfl,Cw h hr.1⟩
 | t :: u :: r,s :: ss,x,v :: vs,h,hr=>by
  simp only [yZ] at h
  split at h
  ·rename_i y z h1 h2
   simp only [Option.some.injEq] at h
   subst h
   exact ⟨v,vs,rfl,Cw h1 hr.1,Uz h2 hr.2⟩
  ·cases h
 | [],[],_,_ :: _,_,hr=>hr.elim
 | [],_ :: _,_,_,h,_=>by simp [yZ] at h
 | [t],[],_,_,h,_=>by simp [yZ] at h
 | [t],[s],_,[],_,hr=>hr.elim
 | [t],[s],_,_ :: _ :: _,_,hr=>hr.2.elim
 | [t],_ :: _ :: _,_,_,h,_=>by simp [yZ] at h
 | t :: u :: r,[],_,_,h,_=>by simp [yZ] at h
 | t :: u :: r,s :: ss,_,[],_,hr=>hr.elim
theorem V.Ta {v:V} {s:Sum L (List L)} {u:Value} (h:v.sum=some s) (hr:v.Rel β w N u):fJ β w N s u:=by
 cases v <;> simp only [V.sum,Option.some.injEq,reduceCtorEq] at h <;> subst h <;> exact hr
theorem Ty.iR.mono {w':World} {N':Nat->Nat->Prop} (hk:Keep N w w') (hN:∀ b j,b < w.heap.size->N' b j->N b j) {t:Ty} {x:t.den} {u:Value} (h:t.iR w N x u):t.iR w' N' x u:=by
 unfold Ty.iR at *
 split
 ·rename_i ha
  rw [if_pos ha] at h
  obtain ⟨cs,e,h⟩:=h
  exact ⟨cs,e,h.mono hk hN⟩
 ·rename_i ha
  rw [if_neg ha] at h
  exact h.mono hk hN
theorem DensRel.mono {w':World} {N':Nat->Nat->Prop} (hk:Keep N w w') (hN:∀ b j,b < w.heap.size->N' b j->N b j):∀ {ts:List Ty} {x:bG ts} {us:List Value},DensRel w N ts x us->DensRel w' N' ts x us
 | [],_,_,h=>h
 | [t],x,_,h=>by obtain ⟨u,e,h⟩:=h; exact ⟨u,e,h.mono hk hN⟩
 | t :: s :: r,x,_,h=>by obtain ⟨u,us,e,h,h2⟩:=h; exact ⟨u,us,e,h.mono hk hN,h2.mono hk hN⟩
theorem Ty.Rel.flat {N':Nat->Nat->Prop} {w':World}:∀ {t:Ty} {x:t.den} {cs:List Value},t.flat=true->t.Rel w N x cs->t.Rel w' N' x cs
 | .unit,_,_,_,h=>h
 | .bool,_,_,_,h=>h
 | .int _,_,_,_,h=>h
 | .str,_,_,_,h=>h
 | .err,_,_,_,h=>h
 | .opq,_,_,hf,_=>by cases hf
 | .slice _,_,_,hf,_=>by cases hf
 | .clip _,_,_,hf,_=>by cases hf
 | .pair a b,_,_,hf,h=>by
  simp only [Ty.flat,Bool.and_eq_true] at hf
  obtain ⟨c1,c2,e,h1,h2⟩:=h
  exact ⟨c1,c2,e,Ty.Rel.flat hf.1 h1,Ty.Rel.flat hf.2 h2⟩
 | .arr n a,_,_,hf,h=>by
  simp only [Ty.flat] at hf
  obtain ⟨h0,css,e,h1⟩:=h
  exact ⟨h0,css,e,h1.mono fun x c hx=>Ty.Rel.flat hf hx⟩
theorem Ty.iR.flat {N':Nat->Nat->Prop} {w':World} {t:Ty} {x:t.den} {u:Value} (hf:t.flat=true) (h:t.iR w N x u):t.iR w' N' x u:=by
 unfold Ty.iR at *
 split
 ·rename_i ha
  rw [if_pos ha] at h
  obtain ⟨cs,e,h⟩:=h
  exact ⟨cs,e,h.flat hf⟩
 ·rename_i ha
  rw [if_neg ha] at h
  exact h.flat hf
theorem DensRel.flat {N':Nat->Nat->Prop} {w':World}:∀ {ts:List Ty} {x:bG ts} {us:List Value},bA Ty.flat ts=true->DensRel w N ts x us->DensRel w' N' ts x us
 | [],_,_,_,h=>h
 | [t],x,_,hf,h=>by
  simp only [bA,Bool.and_true] at hf
  obtain ⟨u,e,h⟩:=h; exact ⟨u,e,h.flat hf⟩
 | t :: s :: r,x,_,hf,h=>by
  simp only [bA,Bool.and_eq_true] at hf
  obtain ⟨u,us,e,h,h2⟩:=h
  exact ⟨u,us,e,h.flat hf.1,DensRel.flat (by simp only [bA,Bool.and_eq_true]; exact hf.2) h2⟩
end
def Pure (P:Program) (f:FuncId) (as rs:List Ty) (F:bG as->Option (bG rs)):Prop :=
 dY P f=true∧∀ x y,F x=some y->∀ (w:World) (N:Nat->Nat->Prop) (xs:List Value),Glob P w->(∀ b j,N b j->b < w.heap.size)->DensRel w N as x xs ->
  Calls P f xs.toArray w fun e w'=>∃ us:List Value,e=.returned (jJ us)∧w'.os=w.os∧w'.tape=w.tape∧w'.output=w.output∧Keep (fun _ _=>False) w w'∧DensRel w' N rs y us
def zGt (T:Tab) (res:List ResultVar) (rs:List Ty) (σ:St):Option (bG rs) :=
 match Jm T σ res with
 | some (c,vs) =>
  match yZ rs vs with
  | some y=>chk c (some y)
  | none=>none
 | none=>none
def zGu (T:Tab) (res:List ResultVar) (rs:List Ty):K (bG rs):=fun e σ =>
 match e with
 | .normal=>zGt T res rs σ
 | .ret=>zGt T res rs σ
 | _=>none
section
variable {T:Tab} {P:Program}
theorem Zi {C:Ctx} {β β':Nat->Pl} {w:World} {σ:St} {a:Act} {fn:Func} {vs:List (Sum L (List L))} {N':Nat->Nat->Prop} (hT:aP C.P T) (hs:Sim C β σ a w) (hN:∀ b j,b < w.heap.size->N' b j->C.N0 b j) (h:Jm T σ fn.results.toList=some (true,vs)) :
  ∃ us:List Value,(results fn a.tmps).run C.P w=.ok (jJ us) w∧aL (fJ β' w N') vs us:=by
 obtain ⟨us,h1,h2,_⟩:=Ux (β':=β') hT hs hN h #[]
 refine ⟨us,?_,h2⟩
 have e0:results fn a.tmps=(do let vs <- fn.results.mapM (lQ a.tmps); pure (if h:vs.size=1 then vs[0] else .tuple vs)):=by
  unfold results
  congr 1
 have hm:(fn.results.mapM (lQ a.tmps):Sem (Array Value)).run C.P w=.ok us.toArray w:=by
  rw [Array.mapM_eq_foldlM,<- Array.foldlM_toList]
  have e:(fun (acc:Array Value) rv=>do let v <- lQ a.tmps rv; pure (acc.push v):Array Value->ResultVar->Sem (Array Value))=(fun (acc:Array Value) rv=>acc.push <$> lQ a.tmps rv):=by
   funext acc rv
   rfl
  rw [e] at h1
  simpa using h1
 rw [e0]
 simp only [Sem.run_bind,hm,Result.andThen_ok,Sem.run_pure]
 match us with
 | []=>rfl
 | [u]=>rfl
 | u :: v :: us=>simp [jJ]
theorem Gu:∀ cs:List Co,bA (Co.fx 0) cs=true
 | []=>rfl
 | c :: cs=>by
  simp only [bA,Gu cs,Bool.and_true]
  cases c <;> first | rfl | simp [Co.fx]
theorem uZ {ρ:Type}:∀ an:An ρ,an.fx 0=true
 | .nil=>rfl
 | .mk l r c=>by simp only [An.fx,uZ l,uZ r,Gu,Bool.and_self]
 | .loop _ c0 c1 _ a=>by simp only [An.fx,uZ a,Gu,Bool.and_self]
 | .scope _ a b=>by simp only [An.fx,uZ a,uZ b,Bool.and_self]
 | .sem _=>rfl
 | .co c a=>by simp only [An.fx,uZ a,Gu,Bool.and_self]
 | .join _ c a=>by simp only [An.fx,uZ a,Gu,Bool.and_self]
theorem iH {f:FuncId} {fn:Func} {c:Code} {as rs:List Ty} {F:bG as->Option (bG rs)} {Γ:Orc (bG rs)} {an:An (bG rs)} (hf:P.funcs[f]?=some fn) (hb:fn.body=some c) (hh:dY P f=true) (hT:aP P T) (hΓ:fK P Γ) (hm:P.follows .mixedOrders=true) (ha:Ze P 0 c an)
  (h:∀ x,ev Γ T c an ⟨yY (oF as x) fn.ntmps,[]⟩ (zGu T fn.results.toList rs)=F x):Pure P f as rs F:=by
 refine ⟨hh,fun x y hF w N xs hG hN hx=>?_⟩
 rw [<- h x] at hF
 let C:Ctx:={ P:=P,N0:=N,w0:=w,xK:=fun _ _=>False,glob:=fun w' h=>hG.keep fun b hb=>h.block b hb (fun _ h=>h),fix:=[] }
 let β0:Nat->Pl:=fun _=>⟨false,false,0,none,0,0,0,[]⟩
 have hargs:jX β0 w N (oF as x) xs:=uY hx
 have hxl:(oF as x).length=xs.length:=hargs.length
 have Si:Sim C β0 ⟨yY (oF as x) fn.ntmps,[]⟩ { tmps:=xs.toArray++Array.replicate (fn.ntmps - xs.toArray.size) undef,defers:=[] } w:=by
  refine ⟨⟨by simp,fun _ _=>rfl,by simp,by simp,hN,Keep.refl _ _,Nat.le_refl _,rfl,rfl,rfl,fun j o hj=>by cases hj⟩,rfl,by simp [yY,hxl],?_⟩
  intro i u hu
  simp only [yY] at hu
  by_cases hi:i < (oF as x).length
  ·rw [List.getElem?_append_left hi] at hu
   have hi':i < xs.length:=by rw [<- hxl]; exact hi
   have hr:=hargs.get i hi hi'
   rw [List.getElem?_eq_getElem hi] at hu
   simp only [Option.some.injEq] at hu
   subst hu
   have:(xs.toArray++Array.replicate (fn.ntmps - xs.toArray.size) undef).getD i undef=xs[i]:=by
    rw [Array.getD_eq_getD_getElem?,Array.getElem?_append_left (by simpa using hi')]
    simp [hi']
   rw [this]
   refine hr.mono (Moves.refl β0) (Keep.refl _ w) (fun b j _ hb=>?_)
   rcases hb with hb | ⟨id,o,ho,_⟩
   ·exact hb
   ·simp at ho
  ·rw [List.getElem?_append_right (by omega),List.getElem?_replicate] at hu
   split at hu
   ·simp only [Option.some.injEq] at hu; subst hu; trivial
   ·cases hu
 refine calls_of_wp hf hb ?_
 refine Zg (P:=P) hT hΓ hm c an ha (uZ an) _ _ y hF C β0 _ w _ rfl (Nat.le_refl _) Si ?_
 intro e x' σ' β' a' w' hs' hx' hk
 have fin:zGt T fn.results.toList rs σ'=some y->x'=.ret∨x'=.normal->bodyPost P fn (fun e w'=>∃ us:List Value,e=.returned (jJ us)∧w'.os=w.os∧w'.tape=w.tape∧w'.output=w.output∧Keep (fun _ _=>False) w w'∧DensRel w' N rs y us) x' a' w':=by
  intro hk hx'
  unfold zGt at hk
  split at hk
  ·rename_i cc ss hrs
   split at hk
   ·rename_i y' hd
    obtain ⟨rfl,hk⟩:=jI hk
    obtain rfl:=Option.some.inj hk
    obtain ⟨us,h1,h2⟩:=Zi (C:=C) (β':=β0) (N':=N) (fn:=fn) hT hs' (fun _ _ _ hb=>hb) hrs
    have hkeep:Keep (fun _ _=>False) w w':=hs'.heap.frame
    have hR:=Uz hd h2
    rcases hx' with rfl | rfl
    ·exact ⟨hs'.defers,_,h1,us,rfl,hs'.heap.os,hs'.heap.tape,hs'.heap.output,hkeep,hR⟩
    ·exact ⟨hs'.defers,_,h1,us,rfl,hs'.heap.os,hs'.heap.tape,hs'.heap.output,hkeep,hR⟩
   ·cases hk
  ·cases hk
 cases e with
 | normal=>obtain rfl:=hx'; exact fin hk (.inr rfl)
 | ret=>obtain rfl:=hx'; exact fin hk (.inl rfl)
 | exit i=>simp [zGu] at hk
 | goto l=>simp [zGu] at hk
 | pan t u=>simp [zGu] at hk
def lS (as rs:List Ty) (F:bG as->Option (bG rs)):PE where
 R:=bG rs
 use:=1
 run vs h:=match eD (bA Ty.flat rs) h as vs with
  | some (c,x)=>some (c,F x)
  | none=>none
 enc y _ h:=(zNo (zGr rs y),h)
theorem Zj {C:Ctx} {β:Nat->Pl} {h:List Ob} {w:World} {bor:Bool} {t:Ty} {v:V} {x:t.den} {u:Value} (hd:Mj bor h t v=some (true,x)) (hs:bK C β h w) (hr:v.Rel β w (C.N β h) u) :
  t.iR w (zVj bor (C.N β h)) x u:=by
 unfold Mj at hd
 cases bor with
 | true =>
  simp only at hd ⊢
  split at hd
  ·rename_i c v' hv
   split at hd
   ·rename_i s hsum
    split at hd
    ·rename_i y hy
     simp only [Option.some.injEq,Prod.mk.injEq] at hd
     obtain ⟨rfl,rfl⟩:=hd
     obtain ⟨h1,_⟩:=V.nI (β':=β) (N':=fun _ _=>False) hv hs (fun _ _ _ h=>h.elim) hr
     exact Cw hy (V.Ta hsum h1)
    ·cases hd
   ·cases hd
  ·cases hd
 | false =>
  simp only at hd ⊢
  split at hd
  ·rename_i s hD hsum
   split at hd
   ·rename_i y hy
    simp only [Option.some.injEq,Prod.mk.injEq,true_and] at hd
    subst hd
    exact Cw hy (V.Ta hsum hr)
   ·cases hd
  ·cases hd
theorem vB {C:Ctx} {β:Nat->Pl} {h:List Ob} {w:World} {bor:Bool} (hs:bK C β h w):∀ {ts:List Ty} {vs:List V} {x:bG ts} {us:List Value},eD bor h ts vs=some (true,x)->jX β w (C.N β h) vs us ->
  DensRel w (zVj bor (C.N β h)) ts x us
 | [],[],_,[],_,_=>rfl
 | [t],[v],x,[u],hd,hr=>⟨u,rfl,Zj hd hs hr.1⟩
 | t :: s :: r,v :: vs,x,u :: us,hd,hr=>by
  simp only [eD] at hd
  split at hd
  ·rename_i c y d z h1 h2
   simp only [Option.some.injEq,Prod.mk.injEq,Bool.and_eq_true] at hd
   obtain ⟨⟨rfl,rfl⟩,rfl⟩:=hd
   exact ⟨u,us,rfl,Zj h1 hs hr.1,vB hs h2 hr.2⟩
  ·cases hd
 | [],[],_,_ :: _,_,hr=>hr.elim
 | [],_ :: _,_,_,h,_=>by simp [eD] at h
 | [t],[],_,_,h,_=>by simp [eD] at h
 | [t],[s],_,[],_,hr=>hr.elim
 | [t],[s],_,_ :: _ :: _,_,hr=>hr.2.elim
 | [t],_ :: _ :: _,_,_,h,_=>by simp [eD] at h
 | t :: u :: r,[],_,_,h,_=>by simp [eD] at h
 | t :: u :: r,s :: ss,_,[],_,hr=>hr.elim
theorem Zk {h:List Ob}:∀ {l:L},l.isD=true->l.deep h=some (true,l)
 | .val ..,_=>rfl
 | .iO,_=>rfl
 | .aS,_=>rfl
 | .gP ..,_=>rfl
 | .clo f [],_=>rfl
 | .clo f (_ :: _),h=>by cases h
 | .ptr ..,h=>by cases h
 | .iN ..,h=>by cases h
 | .dS ..,h=>by cases h
 | .sl ..,h=>by cases h
 | .own ..,h=>by cases h
 | .bad _,h=>by cases h
 | .bE ..,h=>by cases h
theorem Va {h:List Ob}:∀ {ls:List L},bA L.isD ls=true->Cu h ls=some (true,ls)
 | [],_=>rfl
 | l :: ls,hd=>by
  simp only [bA,Bool.and_eq_true] at hd
  simp only [Cu,Zk hd.1,Va hd.2,Bool.and_self]
theorem Zl {bor:Bool} {t:Ty} {v:V} (hd:v.isD=true) (h h2:List Ob):Mj bor h t v=Mj bor h2 t v:=by
 cases bor with
 | false=>rfl
 | true =>
  unfold Mj
  cases v with
  | one l=>simp only [V.deep,Zk (show l.isD=true from hd)]
  | agg ls=>simp only [V.deep,Va (show bA L.isD ls=true from hd)]
  | _=>rfl
theorem Vb {bor:Bool}:∀ {ts:List Ty} {vs:List V} (_:bA V.isD vs=true) (h h2:List Ob),eD bor h ts vs=eD bor h2 ts vs
 | [],[],_,_,_=>rfl
 | [t],[v],hd,h,h2=>by
  simp only [bA,Bool.and_true] at hd
  simp only [eD,Zl hd h h2]
 | t :: s :: r,v :: vs,hd,h,h2=>by
  simp only [bA,Bool.and_eq_true] at hd
  simp only [eD,Zl hd.1 h h2,Vb (ts:=s :: r) hd.2 h h2]
 | [],_ :: _,_,_,_=>rfl
 | [t],[],_,_,_=>rfl
 | [t],_ :: _ :: _,_,_,_=>rfl
 | t :: s :: r,[],_,_,_=>rfl
theorem Zm {β:Nat->Pl} {w:World} {N:Nat->Nat->Prop} {ss:List (Sum L (List L))} {us:List Value} (h:aL (fJ β w N) ss us):(zNo ss).Rel β w N (jJ us):=by
 match ss,us,h with
 | [],[],_=>exact ⟨[],rfl,trivial⟩
 | [.inl l],[u],h=>exact h.1
 | [.inr ls],[u],h=>exact h.1
 | s :: t :: ss,u :: v :: us,h=>cases s <;> exact ⟨_,rfl,h⟩
theorem gG {f:FuncId} {as rs:List Ty} {F:bG as->Option (bG rs)} (h:Pure P f as rs F):(lS as rs F).OK P f:=by
 refine ⟨h.1,fun vs hp y hr C β w xs hP hs ha=>?_,fun _ vs h1 h2 hd=>⟨by simp only [lS]; rw [Vb hd h1 h2],fun _=>rfl⟩,fun _ _ _ _=>rfl⟩
 subst hP
 simp only [lS] at hr
 split at hr
 ·rename_i c x hd
  simp only [Option.some.injEq,Prod.mk.injEq] at hr
  obtain ⟨rfl,hF⟩:=hr
  have hx:=vB hs hd ha
  have hn:∀ b j,C.N β hp b j->b < w.heap.size:=fun b j hb=>by
   rcases hb with hb | ⟨id,o,ho,_,hbk⟩
   ·exact Nat.lt_of_lt_of_le (hs.n0 b j hb) hs.size
   ·exact (hs.dF id o b ho ⟨j,hbk⟩).2.1
  refine (h.2 x y hF w _ xs (C.glob w hs.frame) (fun b j hb=>?_) hx).mono ?_
  ·cases hfl:bA Ty.flat rs with
   | true=>rw [hfl] at hb; exact hb.elim
   | false=>rw [hfl] at hb; exact hn b j hb
  ·rintro e w' ⟨us,rfl,ho,ht,hop,hk,hy⟩
   have hy':DensRel w' (C.N β hp) rs y us:=by
    cases hfl:bA Ty.flat rs with
    | true=>exact hy.flat hfl
    | false=>rw [hfl] at hy; exact hy
   refine ⟨_,_,β,⟨rfl,rfl⟩,Moves.refl β,hk.weaken fun _ _ h=>h.elim,fun _ _ _ h=>h,?_,_,rfl,Zm (Uy hy')⟩
   refine ⟨fun id o hob=>(hs.obj id o hob).mono (Moves.refl β) (hk.weaken fun _ _ h=>h.elim) (fun _ _ _ h=>h) fun b hb=>hk.block b (hs.dF id o b hob hb).2.1 (fun _ h=>h),hs.dead,hs.iW,?_,hs.n0,hs.frame.rH hk fun _ _ _ h=>h.elim,Nat.le_trans hs.size hk.size,ho.trans hs.os,ht.trans hs.tape,hop.trans hs.output,hs.fixed⟩
   ·intro id o b hob hb
    obtain ⟨k1,k2,k3⟩:=hs.dF id o b hob hb
    exact ⟨k1,Nat.lt_of_lt_of_le k2 hk.size,k3⟩
 ·cases hr
def pes:List (FuncId × PE)->FuncId->Option PE
 | [],_=>none
 | (g,e) :: r,f=>match Nat.beq g f with
  | true=>some e
  | false=>pes r f
def orc (ρ:Type) (l:List (FuncId × PE)):Orc ρ:=⟨pes l,fun _ _ _ _=>none⟩
theorem zVk {ρ:Type}:∀ {l:List (FuncId × PE)},(∀ p ∈ l,p.2.OK P p.1)->fK P (orc ρ l):=by
 intro l h
 refine ⟨fun f e he=>?_,fun _ _ _ _ _ h=>by cases h⟩
 simp only [orc] at he
 induction l with
 | nil=>cases he
 | cons p r ih =>
  obtain ⟨g,e'⟩:=p
  simp only [pes] at he
  split at he
  ·rename_i hb
   have:=Nat.eq_of_beq_eq_true hb
   subst this
   simp only [Option.some.injEq] at he
   subst he
   exact h _ (.head _)
  ·exact ih (fun p hp=>h p (.tail _ hp)) he
theorem all_nil {Q:FuncId × PE->Prop}:∀ p ∈ ([]:List (FuncId × PE)),Q p:=fun _ h=>by cases h
theorem all_cons {Q:FuncId × PE->Prop} {p:FuncId × PE} {l:List (FuncId × PE)} (h:Q p) (hl:∀ q ∈ l,Q q):∀ q ∈ p :: l,Q q:=fun q hq=>by
 cases hq with
 | head=>exact h
 | tail _ hq=>exact hl q hq
end
end Go.Dec
namespace Go.Dec
mutual
def L.back (f v:Nat->Nat):L->L
 | .ptr id o=>.ptr (f id) o
 | .bE id o=>.bE (f id) o
 | .iN id o es i sub=>.iN (f id) o es i sub
 | .dS id u i o=>.dS (f id) (u+v id) i o
 | .sl id u i n=>.sl (f id) (u+v id) i n
 | .own id u=>.own (f id) (u+v id)
 | .clo g caps=>.clo g (L.backs f v caps)
 | .mp id=>.mp (f id)
 | l=>l
def L.backs (f v:Nat->Nat):List L->List L
 | []=>[]
 | l :: ls=>l.back f v :: L.backs f v ls
end
def V.back (f v:Nat->Nat):V->V
 | .one l=>.one (l.back f v)
 | .agg ls=>.agg (L.backs f v ls)
 | _=>.aW
def Ob.back (f v:Nat->Nat) (id:Nat):Ob->Ob
 | .box e ls=>.box e (L.backs f v ls)
 | .arr e t u rows wr=>.arr e t (u+v id) rows wr
 | .fm tab=>.fm tab
section
variable {β β':Nat->Pl} {w:World} {N N':Nat->Nat->Prop}
structure Gw (p q:Pl) (v:Nat):Prop where
 live:q.live=p.live
 box:q.box=p.box
 blk:q.blk=p.blk
 row:p.box=false->q.ver=p.ver+v∧q.size=p.size∧q.cap=p.cap∧q.len=p.len
theorem Gw.zPx {p q:Pl} {v:Nat} (h:Gw p q v) (hb:p.box=false) {off len:Nat} {c:Value}:bV q off len c <-> bV p off len c:=by
 obtain ⟨_,h2,h3,_⟩:=h.row hb
 unfold bV
 rw [h.blk,h2,h3]
mutual
theorem L.Rel.back {f v:Nat->Nat} (hβ:∀ j,(β j).live=true->Gw (β j) (β' (f j)) (v j)) (hN:∀ b j,b < w.heap.size->N' b j->N b j):∀ {l:L} {cs:List Value},l.Rel β w N cs->(l.back f v).Rel β' w N' cs
 | .val t x,cs,h=>by simp only [L.back,L.Rel] at *; exact Ty.Rel.mono (Keep.refl _ w) hN h
 | .ptr id off,cs,h=>by
  simp only [L.back,L.Rel] at *
  obtain ⟨h1,h2,h3⟩:=h
  have:=hβ id h1
  exact ⟨this.live ▸ h1,this.box ▸ h2,by rw [this.blk]; exact h3⟩
 | .iN id off es i sub,cs,h=>by
  simp only [L.back,L.Rel] at *
  obtain ⟨h1,h2,h3⟩:=h
  have:=hβ id h1
  exact ⟨this.live ▸ h1,this.box ▸ h2,by rw [this.blk]; exact h3⟩
 | .iO,cs,h=>by simp only [L.back,L.Rel] at *; exact h
 | .bE id off,cs,h=>by
  simp only [L.back,L.Rel] at *
  obtain ⟨c,e,h⟩:=h
  refine ⟨c,e,?_⟩
  rcases h with h | ⟨h1,h2,h3⟩
  ·exact .inl h
  ·have:=hβ id h1
   exact .inr ⟨this.live ▸ h1,this.box ▸ h2,by rw [this.blk]; exact h3⟩
 | .dS id u i off,cs,h=>by
  simp only [L.back,L.Rel] at *
  obtain ⟨h1,h2,h3,c,h4,h5,h6⟩:=h
  have:=hβ id h1
  obtain ⟨g1,g2,g3,g4⟩:=this.row h2
  refine ⟨this.live ▸ h1,this.box ▸ h2,by omega,c,h4,h5,fun hv=>?_⟩
  rw [this.blk,g2]
  exact h6 (by omega)
 | .gP t x off,cs,h=>by simp only [L.back,L.Rel] at *; obtain ⟨c,hc,hr⟩:=h; exact ⟨c,hc,hr.mono (Keep.refl _ w) hN⟩
 | .sl id u off len,cs,h=>by
  simp only [L.back,L.Rel] at *
  obtain ⟨h1,h2,h3,c,h4,h5,h6⟩:=h
  have:=hβ id h1
  obtain ⟨g1,g2,g3,g4⟩:=this.row h2
  exact ⟨this.live ▸ h1,this.box ▸ h2,by omega,c,h4,h5,fun hv=>(this.zPx h2).2 (h6 (by omega))⟩
 | .own id u,cs,h=>by
  simp only [L.back,L.Rel] at *
  obtain ⟨h1,h2,h3,c,h4,h5,h6⟩:=h
  have:=hβ id h1
  obtain ⟨g1,g2,g3,g4⟩:=this.row h2
  exact ⟨this.live ▸ h1,this.box ▸ h2,by omega,c,h4,h5,fun hv=>by rw [g4]; exact (this.zPx h2).2 (h6 (by omega))⟩
 | .aS,cs,h=>by simp only [L.back,L.Rel] at *; exact h
 | .clo g caps,cs,h=>by
  simp only [L.back,L.Rel] at *
  obtain ⟨us,hc,hr⟩:=h
  exact ⟨us,hc,L.bC.back hβ hN hr⟩
 | .bad n,cs,h=>by simp only [L.back,L.Rel] at *; exact h
 | .vQ x tab,cs,h=>by simp only [L.back,L.Rel] at *; exact h
 | .mp id,cs,h=>by
  simp only [L.back,L.Rel] at *
  obtain ⟨h1,h2,h3⟩:=h
  have:=hβ id h1
  exact ⟨this.live ▸ h1,this.box ▸ h2,by rw [this.blk]; exact h3⟩
theorem L.bC.back {f v:Nat->Nat} (hβ:∀ j,(β j).live=true->Gw (β j) (β' (f j)) (v j)) (hN:∀ b j,b < w.heap.size->N' b j->N b j):∀ {ls:List L} {us:List Value},L.bC β w N ls us->L.bC β' w N' (L.backs f v ls) us
 | [],us,h=>by simp only [L.backs,L.bC] at *; exact h
 | l :: ls,us,h=>by
  simp only [L.backs,L.bC] at *
  obtain ⟨u,r,e,h1,h2⟩:=h
  exact ⟨u,r,e,L.Rel.back hβ hN h1,L.bC.back hβ hN h2⟩
end
theorem aG.back {f v:Nat->Nat} (hβ:∀ j,(β j).live=true->Gw (β j) (β' (f j)) (v j)) (hN:∀ b j,b < w.heap.size->N' b j->N b j):∀ {ls:List L} {cs:List Value},aG β w N ls cs->aG β' w N' (L.backs f v ls) cs
 | [],_,h=>h
 | _l :: _ls,_,⟨c1,c2,e,h1,h2⟩=>⟨c1,c2,e,h1.back hβ hN,aG.back hβ hN h2⟩
theorem V.Rel.back {f v:Nat->Nat} (hβ:∀ j,(β j).live=true->Gw (β j) (β' (f j)) (v j)) (hN:∀ b j,b < w.heap.size->N' b j->N b j) {x:V} {u:Value} (h:x.Rel β w N u):(x.back f v).Rel β' w N' u:=by
 cases x with
 | one l=>exact L.Rel.back hβ hN h
 | agg ls=>obtain ⟨cs,e,h⟩:=h; exact ⟨cs,e,h.back hβ hN⟩
 | _=>trivial
theorem Ob.Rel.back {f v:Nat->Nat} (hβ:∀ j,(β j).live=true->Gw (β j) (β' (f j)) (v j)) (hN:∀ b j,b < w.heap.size->N' b j->N b j) {id:Nat} {o:Ob} (h:o.Rel β w N (β id)):(o.back f v id).Rel β' w N' (β' (f id)):=by
 cases o with
 | box e ls =>
  simp only [Ob.back,Ob.Rel] at *
  obtain ⟨h1,h2,b,cs,h3,h4,h5⟩:=h
  have:=hβ id h1
  exact ⟨this.live ▸ h1,this.box ▸ h2,b,cs,this.blk ▸ h3,h4.back hβ hN,h5⟩
 | arr e t u rows wr =>
  simp only [Ob.back,Ob.Rel] at *
  obtain ⟨h1,h2,h3,h4,h5,h6,h7⟩:=h
  have:=hβ id h1
  obtain ⟨g1,g2,g3,g4⟩:=this.row h2
  refine ⟨this.live ▸ h1,this.box ▸ h2,by omega,by rw [g2,h4],h5,by rw [g4,h6],?_⟩
  rw [this.blk,g3]
  rcases h7 with h7 | ⟨b,cur,css,k1,k2,k3,k4⟩
  ·exact .inl h7
  ·exact .inr ⟨b,cur,css,k1,k2,k3.mono fun _ _ h=>h.mono (Keep.refl _ w) hN,k4⟩
 | fm tab =>
  simp only [Ob.back,Ob.Rel] at *
  obtain ⟨h1,h2,b,es,n,h3,h4⟩:=h
  have:=hβ id h1
  exact ⟨this.live ▸ h1,this.box ▸ h2,b,es,n,this.blk ▸ h3,h4⟩
end
def jS (P:Program) (f:FuncId) (si so:Sh) (F:si.X->Option so.X):Prop :=
 dY P f=true∧∀ x y,F x=some y->∀ (C:Ctx) (β:Nat->Pl) (w:World) (xs:List Value),C.P=P->C.fix.length <= si.os.length->Sim C β (si.enc x) { tmps:=xs.toArray,defers:=[] } w ->
  Calls P f xs.toArray w fun e w'=>∃ (us:List Value) (β':Nat->Pl),e=.returned (jJ us)∧Sim C β' (so.enc y) { tmps:=us.toArray,defers:=[] } w'
def Oz:List V->Option (List (Sum L (List L)))
 | []=>some []
 | v :: r=>match v.sum,Oz r with
  | some s,some ss=>some (s :: ss)
  | _,_=>none
def zNq (vs:List V):V :=
 match Oz vs with
 | some ss=>zNo ss
 | none=>.aW
def Mk (g:Nat->Option Ob):Nat->List Ob->List Ob
 | _,[]=>[]
 | i,o :: r=>(match g i with | some o'=>o' | none=>o) :: Mk g (i+1) r
def qE (f v:Nat->Nat):Nat->List Ob->List Ob
 | _,[]=>[]
 | j,o :: r=>o.back f v j :: qE f v (j+1) r
def tC:List Ob->List OS->Bool
 | [],_=>true
 | .box .. :: r,_ :: s=>tC r s
 | .fm .. :: r,_ :: s=>tC r s
 | .arr .. :: r,.row .. :: s=>tC r s
 | _,_=>false
def jB (ρ:List Nat) (n:Nat) (j:Nat):Nat:=match ρ[j]? with | some i=>i | none=>n+(j - ρ.length)
def jK (ρ:List Nat) (h:List Ob) (j:Nat):Nat:=match ρ[j]? with
 | some i=>(match h[i]? with | some (.arr _ _ u _ _)=>u+1 | _=>0)
 | none=>0
def jY (ρ:List Nat) (h hy:List Ob):List Ob :=
 Mk (fun i=>match pos i ρ 0 with | some j=>(match hy[j]? with | some o=>some (o.back (jB ρ h.length) (jK ρ h) j) | none=>none) | none=>none) 0 h++qE (jB ρ h.length) (jK ρ h) ρ.length (hy.drop ρ.length)
def Zn (ρ:List Nat) (h:List Ob) (si so:Sh):Bool :=
 nodupB ρ && (bA (fun i=>Nat.blt i h.length) ρ && (Nat.beq ρ.length si.os.length && (bA Ob.wr (inH ρ h) && tC (inH ρ h) so.os)))
def peM (si so:Sh) (F:si.X->Option so.X):PE where
 R:=so.X
 use:=2
 run vs h:=match si.dec ⟨vs.map (V.ren (reach vs h) h),inH (reach vs h) h⟩ with
  | some x=>some (Zn (reach vs h) h si so,F x)
  | none=>none
 enc y vs h:=(zNq ((so.enc y).r.map (V.back (jB (reach vs h) h.length) (jK (reach vs h) h))),jY (reach vs h) h (so.enc y).h)
theorem Zo {g:Nat->Option Ob}:∀ {h:List Ob} {n i:Nat},(Mk g n h)[i]?=(h[i]?).map fun o=>(match g (n+i) with | some o'=>o' | none=>o)
 | [],n,i=>by simp [Mk]
 | o :: r,n,0=>by simp [Mk]
 | o :: r,n,i+1=>by
  simp only [Mk,List.getElem?_cons_succ]
  rw [Zo (h:=r),show n+1+i=n+(i+1) by omega]
theorem pI {g:Nat->Option Ob}:∀ {h:List Ob} {n:Nat},(Mk g n h).length=h.length
 | [],_=>rfl
 | _ :: r,n=>congrArg (· + 1) (pI (h:=r) (n:=n+1))
theorem Gx {f v:Nat->Nat}:∀ {h:List Ob} {n i:Nat},(qE f v n h)[i]?=(h[i]?).map fun o=>o.back f v (n+i)
 | [],n,i=>by simp [qE]
 | o :: r,n,0=>by simp [qE]
 | o :: r,n,i+1=>by
  simp only [qE,List.getElem?_cons_succ]
  rw [Gx (h:=r),show n+1+i=n+(i+1) by omega]
theorem zA {f v:Nat->Nat}:∀ {h:List Ob} {n:Nat},(qE f v n h).length=h.length
 | [],_=>rfl
 | _ :: r,n=>congrArg (· + 1) (zA (h:=r) (n:=n+1))
theorem Ob.Gy {f v:Nat->Nat} {j:Nat} (o:Ob):(o.back f v j).iV=o.iV:=by cases o <;> rfl
theorem Ob.tF {f v:Nat->Nat} {j:Nat} (o:Ob):(o.back f v j).wr=o.wr:=by cases o <;> rfl
theorem uL:∀ {hc:List Ob} {os:List OS} {j:Nat} {e:TypeId} {t:Ty} {u:Nat} {rows:List t.den} {wr:Bool},tC hc os=true->hc[j]?=some (.arr e t u rows wr)->∃ e' t',os[j]?=some (.row e' t')
 | [],_,j,_,_,_,_,_,_,h=>by simp at h
 | .box .. :: r,[],j,_,_,_,_,_,hk,_=>by cases hk
 | .box .. :: r,s :: os,0,_,_,_,_,_,_,h=>by simp at h
 | .box .. :: r,s :: os,j+1,_,_,_,_,_,hk,h=>by
  obtain ⟨e',t',h'⟩:=uL (hc:=r) (os:=os) (j:=j) hk (by simpa using h)
  exact ⟨e',t',by simpa using h'⟩
 | .fm .. :: r,[],j,_,_,_,_,_,hk,_=>by cases hk
 | .fm .. :: r,s :: os,0,_,_,_,_,_,_,h=>by simp at h
 | .fm .. :: r,s :: os,j+1,_,_,_,_,_,hk,h=>by
  obtain ⟨e',t',h'⟩:=uL (hc:=r) (os:=os) (j:=j) hk (by simpa using h)
  exact ⟨e',t',by simpa using h'⟩
 | .arr .. :: r,.fm .. :: os,j,_,_,_,_,_,hk,_=>by cases hk
 | .arr .. :: r,[],j,_,_,_,_,_,hk,_=>by cases hk
 | .arr .. :: r,.box .. :: os,j,_,_,_,_,_,hk,_=>by cases hk
 | .arr .. :: r,.row e t :: os,0,_,_,_,_,_,_,_=>⟨e,t,rfl⟩
 | .arr .. :: r,.row e t :: os,j+1,_,_,_,_,_,hk,h=>by
  obtain ⟨e',t',h'⟩:=uL (hc:=r) (os:=os) (j:=j) hk (by simpa using h)
  exact ⟨e',t',by simpa using h'⟩
theorem zB {A:Type}:∀ {os:List OS} {x:OTs os A} {j:Nat} {e:TypeId} {t:Ty},os[j]?=some (.row e t)->∃ rows,(fM os x).1[j]?=some (.arr e t 0 rows true)
 | [],_,j,_,_,h=>by simp at h
 | .box e0 ls :: r,x,0,_,_,h=>by simp at h
 | .box e0 ls :: r,x,j+1,e,t,h=>by
  obtain ⟨rows,h'⟩:=zB (os:=r) (x:=(bI ls x).2) (j:=j) (by simpa using h)
  exact ⟨rows,by simpa [fM] using h'⟩
 | .fm tab :: r,x,0,_,_,h=>by simp at h
 | .fm tab :: r,x,j+1,e,t,h=>by
  obtain ⟨rows,h'⟩:=zB (os:=r) (x:=x) (j:=j) (by simpa using h)
  exact ⟨rows,by simpa [fM] using h'⟩
 | .row e0 t0 :: r,x,0,e,t,h=>by
  simp only [List.getElem?_cons_zero,Option.some.injEq,OS.row.injEq] at h
  obtain ⟨rfl,rfl⟩:=h
  exact ⟨x.1,rfl⟩
 | .row e0 t0 :: r,x,j+1,e,t,h=>by
  obtain ⟨rows,h'⟩:=zB (os:=r) (x:=x.2) (j:=j) (by simpa using h)
  exact ⟨rows,by simpa [fM] using h'⟩
theorem Cy {A:Type}:∀ {os:List OS} {x:OTs os A} {j:Nat} {o:Ob},(fM os x).1[j]?=some o->o.wr=true
 | [],_,j,_,h=>by simp [fM] at h
 | .box e0 ls :: r,x,0,_,h=>by simp only [fM,List.getElem?_cons_zero,Option.some.injEq] at h; subst h; rfl
 | .box e0 ls :: r,x,j+1,o,h=>Cy (os:=r) (x:=(bI ls x).2) (j:=j) (by simpa [fM] using h)
 | .fm tab :: r,x,0,_,h=>by simp only [fM,List.getElem?_cons_zero,Option.some.injEq] at h; subst h; rfl
 | .fm tab :: r,x,j+1,o,h=>Cy (os:=r) (x:=x) (j:=j) (by simpa [fM] using h)
 | .row e0 t0 :: r,x,0,_,h=>by simp only [fM,List.getElem?_cons_zero,Option.some.injEq] at h; subst h; rfl
 | .row e0 t0 :: r,x,j+1,o,h=>Cy (os:=r) (x:=x.2) (j:=j) (by simpa [fM] using h)
theorem Vd {β:Nat->Pl} {w:World} {N:Nat->Nat->Prop}:∀ {vs:List V} {us:List Value} {ss:List (Sum L (List L))},Oz vs=some ss->aL (fun v u=>V.Rel β w N v u) vs us->aL (fJ β w N) ss us
 | [],[],ss,h,_=>by simp only [Oz,Option.some.injEq] at h; subst h; trivial
 | v :: vs,u :: us,ss,h,hr=>by
  simp only [Oz] at h
  split at h
  ·rename_i s ss' h1 h2
   simp only [Option.some.injEq] at h
   subst h
   exact ⟨V.Ta h1 hr.1,Vd h2 hr.2⟩
  ·cases h
 | [],_ :: _,_,_,hr=>hr.elim
 | _ :: _,[],_,_,hr=>hr.elim
theorem zNr {β:Nat->Pl} {w:World} {N:Nat->Nat->Prop} {vs:List V} {us:List Value} (hr:aL (fun v u=>V.Rel β w N v u) vs us):(zNq vs).Rel β w N (jJ us):=by
 unfold zNq
 split
 ·rename_i ss h
  exact Zm (Vd h hr)
 ·trivial
theorem zEh {α γ:Type} {R:α->γ->Prop}:∀ {x:List α} {y:List γ},x.length=y.length->(∀ (i:Nat) (a:α) (b:γ),x[i]?=some a->y[i]?=some b->R a b)->aL R x y
 | [],[],_,_=>trivial
 | a :: x,b :: y,hl,h=>⟨h 0 a b rfl rfl,zEh (by simpa using hl) fun i c d hc hd=>h (i+1) c d (by simpa using hc) (by simpa using hd)⟩
 | [],_ :: _,hl,_=>by simp at hl
 | _ :: _,[],hl,_=>by simp at hl
end Go.Dec
namespace Go.Dec
section
variable {P:Program} {f:FuncId} {si so:Sh} {F:si.X->Option so.X}
theorem zDc {ρ:List Nat} {h:List Ob} (hc:Zn ρ h si so=true):nodupB ρ=true∧(∀ i ∈ ρ,i < h.length)∧ρ.length=si.os.length∧(∀ (j:Nat) (o:Ob),(inH ρ h)[j]?=some o->o.wr=true)∧tC (inH ρ h) so.os=true:=by
 simp only [Zn,Bool.and_eq_true] at hc
 obtain ⟨h1,h2,h3,h4,h5⟩:=hc
 refine ⟨h1,fun i hi=>?_,Nat.eq_of_beq_eq_true h3,fun j o ho=>nE h4 j o ho,h5⟩
 obtain ⟨n,hn⟩:=List.getElem?_of_mem hi
 exact Nat.le_of_ble_eq_true (nE h2 n i hn)
def pV:Ob->Bool
 | .box .. => true
 | .arr .. => false
 | .fm _=>true
def zC (β:Nat->Pl) (h:List Ob) (i:Nat):Option Nat:=match pV (Cn h i) with | true=>(β i).blk | false=>none
def inC (C:Ctx) (β:Nat->Pl) (h:List Ob) (w:World) (ρ:List Nat) (hs:bK C β h w):Ctx where
 P:=C.P
 N0 b j:=C.N β h b j∧∀ i ∈ ρ,∀ o,h[i]?=some o->¬ o.blks (β i) b
 w0:=w
 xK b j:=∃ (i:Nat) (o:Ob),i ∈ ρ∧h[i]?=some o∧o.wr=true∧o.at (β i) b j
 glob w' hw:=C.glob w' (hs.frame.rH hw fun b j hb hm=>by
  obtain ⟨i,o,_,ho,hwo,hbk⟩:=hm
  rcases (hs.dF i o b ho ⟨j,hbk⟩).2.2 with h1 | h1
  ·omega
  ·exact h1 j hwo hbk)
 fix:=ρ.map (zC β h)
theorem zVl {C:Ctx} {β:Nat->Pl} {w:World} {h:List Ob} {ρ:List Nat} {vs:List V} {xs:List Value} (hs:bK C β h w) (ha:jX β w (C.N β h) vs xs) (hnd:nodupB ρ=true) (hlt:∀ i ∈ ρ,i < h.length) :
  Sim (inC C β h w ρ hs) (sW β ρ) ⟨vs.map (V.ren ρ h),inH ρ h⟩ { tmps:=xs.toArray,defers:=[] } w:=by
 have Za:=Yz hs hlt
 have hget:∀ i ∈ ρ,∃ o,h[i]?=some o:=fun i hi=>⟨h[i]'(hlt i hi),by simp [hlt i hi]⟩
 have hβ:∀ {j i:Nat},ρ[j]?=some i->sW β ρ j={ β i with ver:=0 }:=fun hi=>by simp only [sW,hi]
 have hNw:∀ b j,C.N β h b j->b < w.heap.size:=fun b j hb=>by
  rcases hb with hb | ⟨id,o,ho,_,hbk⟩
  ·exact Nat.lt_of_lt_of_le (hs.n0 b j hb) hs.size
  ·exact (hs.dF id o b ho ⟨j,hbk⟩).2.1
 have hN:∀ b j,b < w.heap.size->(inC C β h w ρ hs).N (sW β ρ) (inH ρ h) b j->C.N β h b j:=fun b k _ hb=>by
  rcases hb with hb | ⟨j,o,ho,hw,hbk⟩
  ·exact hb.1
  ·obtain ⟨i,hi,rfl⟩:=mO ho
   obtain ⟨o',ho'⟩:=hget i (List.mem_of_getElem? hi)
   rw [dD ho',Ob.Gr] at hw
   rw [dD ho',hβ hi] at hbk
   exact .inr ⟨i,o',ho',hw,Ob.nY (Ob.lM ρ h o') rfl rfl hbk⟩
 refine ⟨⟨?_,?_,?_,?_,fun b j hb=>hNw b j hb.1,Keep.refl _ _,Nat.le_refl _,rfl,rfl,rfl,?_⟩,rfl,by simpa using aL.length ha,?_⟩
 ·intro j o ho
  obtain ⟨i,hi,rfl⟩:=mO ho
  obtain ⟨o',ho'⟩:=hget i (List.mem_of_getElem? hi)
  rw [dD ho',hβ hi]
  have hob:=hs.obj i o' ho'
  cases o' with
  | box e ls =>
   simp only [Ob.ren,Ob.Rel] at *
   obtain ⟨h1,h2,b,cs,h3,h4,h5⟩:=hob
   exact ⟨h1,h2,b,cs,h3,h4.rQ Za hN,h5⟩
  | arr e t v rows wr =>
   simp only [Ob.ren,Ob.Rel] at *
   obtain ⟨h1,h2,h3,h4,h5,h6,h7⟩:=hob
   refine ⟨h1,h2,trivial,h4,h5,h6,?_⟩
   rcases h7 with h7 | ⟨b,cur,css,k1,k2,k3,k4⟩
   ·exact .inl h7
   ·exact .inr ⟨b,cur,css,k1,k2,k3.mono fun _ _ h=>h.mono (Keep.refl _ w) hN,k4⟩
  | fm tab=>simp only [Ob.ren,Ob.Rel] at *; exact hob
 ·intro j hj
  simp only [inH,List.length_map] at hj
  simp only [sW,List.getElem?_eq_none hj]
 ·intro i j o1 o2 b h1 h2 hb1 hb2
  obtain ⟨i',hi,rfl⟩:=mO h1
  obtain ⟨j',hj,rfl⟩:=mO h2
  obtain ⟨o1',ho1⟩:=hget i' (List.mem_of_getElem? hi)
  obtain ⟨o2',ho2⟩:=hget j' (List.mem_of_getElem? hj)
  rw [hβ hi,dD ho1] at hb1
  rw [hβ hj,dD ho2] at hb2
  have:=hs.iW i' j' o1' o2' b ho1 ho2 (Ob.gH (Ob.lM ρ h o1') rfl rfl hb1) (Ob.gH (Ob.lM ρ h o2') rfl rfl hb2)
  subst this
  exact wK hnd hi hj
 ·intro j o b ho hb
  obtain ⟨i,hi,rfl⟩:=mO ho
  obtain ⟨o',ho'⟩:=hget i (List.mem_of_getElem? hi)
  rw [dD ho',hβ hi] at hb ⊢
  have hb':=Ob.gH (o':=o') (p':=β i) (Ob.lM ρ h o') rfl rfl hb
  exact ⟨fun k hn=>hn.2 i (List.mem_of_getElem? hi) o' ho' hb',(hs.dF i o' b ho' hb').2.1,.inr fun k hw hk=>⟨i,o',List.mem_of_getElem? hi,ho',by rw [Ob.Gr] at hw; exact hw,Ob.nY (Ob.lM ρ h o') rfl rfl hk⟩⟩
 ·intro j o hj
  simp only [inC,List.getElem?_map,Option.map_eq_some_iff] at hj
  obtain ⟨i,hi,rfl⟩:=hj
  refine ⟨by simpa [inH] using (List.getElem?_eq_some_iff.1 hi).1,fun b hb=>?_⟩
  obtain ⟨o',ho'⟩:=hget i (List.mem_of_getElem? hi)
  have hob:=hs.obj i o' ho'
  rw [hβ hi]
  unfold zC at hb
  rw [dD ho'] at hb
  cases o' with
  | box e ls =>
   simp only [Ob.Rel] at hob
   exact ⟨hb,hob.2.1⟩
  | arr e t v rows wr=>cases hb
  | fm tab =>
   simp only [Ob.Rel] at hob
   exact ⟨hb,hob.2.1⟩
 ·intro i v hv
  simp only [List.getElem?_map,Option.map_eq_some_iff] at hv
  obtain ⟨v0,hv0,rfl⟩:=hv
  have hl:i < xs.length:=by rw [<- aL.length ha]; exact (List.getElem?_eq_some_iff.1 hv0).1
  have hr:=ha.get i (List.getElem?_eq_some_iff.1 hv0).1 hl
  have e:vs[i]'(List.getElem?_eq_some_iff.1 hv0).1=v0:=(List.getElem?_eq_some_iff.1 hv0).2
  rw [e] at hr
  have e2:(xs.toArray).getD i undef=xs[i]:=by simp [hl]
  simp only [e2]
  exact hr.rQ Za hN
def gK (β β':Nat->Pl) (ρ:List Nat) (h:List Ob):Nat->Pl:=fun i =>
 match pos i ρ 0 with
 | some j=>match pV (Cn h i) with
  | true=>β i
  | false=>{ β' j with ver:=(β' j).ver+jK ρ h j }
 | none=>if i < h.length then β i else β' (i - h.length+ρ.length)
theorem zS {ρ:List Nat} {h hy:List Ob} (hk:ρ.length <= hy.length) {id:Nat} {o:Ob} (ho:(jY ρ h hy)[id]?=some o) :
  (id < h.length∧pos id ρ 0=none∧h[id]?=some o)∨(∃ j ob oy,id < h.length∧ρ[j]?=some id∧pos id ρ 0=some j∧h[id]?=some ob∧hy[j]?=some oy∧o=oy.back (jB ρ h.length) (jK ρ h) j) ∨
   ∃ j oy,ρ.length <= j∧id=h.length+(j - ρ.length)∧hy[j]?=some oy∧o=oy.back (jB ρ h.length) (jK ρ h) j:=by
 unfold jY at ho
 by_cases hid:id < h.length
 ·rw [List.getElem?_append_left (by rw [pI]; exact hid),Zo,Nat.zero_add] at ho
  obtain ⟨ob,hob⟩:∃ ob,h[id]?=some ob:=⟨h[id],by simp [hid]⟩
  rw [hob] at ho
  simp only [Option.map_some,Option.some.injEq] at ho
  cases hp:pos id ρ 0 with
  | none =>
   rw [hp] at ho
   simp only at ho
   exact .inl ⟨hid,rfl,by rw [hob,ho]⟩
  | some j =>
   obtain ⟨m,hm,hi⟩:=sQ hp
   rw [Nat.zero_add] at hm
   subst hm
   have hj:j < hy.length:=Nat.lt_of_lt_of_le (List.getElem?_eq_some_iff.1 hi).1 hk
   have hyj:hy[j]?=some hy[j]:=by simp [hj]
   rw [hp] at ho
   simp only [hyj] at ho
   exact .inr (.inl ⟨j,ob,hy[j],hid,hi,rfl,hob,hyj,ho.symm⟩)
 ·rw [List.getElem?_append_right (by rw [pI]; omega),pI,Gx,List.getElem?_drop] at ho
  simp only [Option.map_eq_some_iff] at ho
  obtain ⟨oy,h1,h2⟩:=ho
  exact .inr (.inr ⟨ρ.length+(id - h.length),oy,by omega,by omega,h1,h2.symm⟩)
theorem Am {ρ:List Nat} {h hy:List Ob}:(jY ρ h hy).length=h.length+(hy.length - ρ.length):=by
 simp [jY,pI,zA]
theorem zNs {C:Ctx} {β:Nat->Pl} {h:List Ob} {w w':World} {ρ:List Nat} (hs:bK C β h w) (hnd:nodupB ρ=true) (hlt:∀ i ∈ ρ,i < h.length) (hwr:∀ (j:Nat) (o:Ob),(inH ρ h)[j]?=some o->o.wr=true) (Zp:tC (inH ρ h) so.os=true)
  {y:so.X} {us:List Value} {β':Nat->Pl} (hs':Sim (inC C β h w ρ hs) β' (so.enc y) { tmps:=us.toArray,defers:=[] } w') :
  ∃ β2,Moves β β2∧Keep (C.N β h) w w'∧(∀ b j,b < w.heap.size->C.N β2 (jY ρ h (so.enc y).h) b j->C.N β h b j)∧bK C β2 (jY ρ h (so.enc y).h) w' ∧
   aL (fun v u=>V.Rel β2 w' (C.N β2 (jY ρ h (so.enc y).h)) v u) ((so.enc y).r.map (V.back (jB ρ h.length) (jK ρ h))) us:=by
 generalize hhy:(so.enc y).h=hy at *
 have hget:∀ i ∈ ρ,∃ o,h[i]?=some o:=fun i hi=>⟨h[i]'(hlt i hi),by simp [hlt i hi]⟩
 have hfix:∀ {j i:Nat},ρ[j]?=some i->j < hy.length∧∀ b,zC β h i=some b->(β' j).blk=some b∧(β' j).box=true:=fun {j i} hi=>by
  have:=hs'.heap.fixed j (zC β h i) (by simp [inC,hi])
  rw [hhy] at this
  exact this
 have hk:ρ.length <= hy.length:=by
  rcases Nat.lt_or_ge hy.length ρ.length with h1 | h1
  ·have:=(hfix (j:=hy.length) (i:=ρ[hy.length]) (by simp [h1])).1
   omega
  ·exact h1
 have yEx:∀ i ∈ ρ,∀ o,h[i]?=some o->o.wr=true:=fun i hi o ho=>by
  obtain ⟨n,hn⟩:=List.getElem?_of_mem hi
  have:=hwr n ((Cn h i).ren ρ h) (by simp [inH,hn])
  rw [Ob.Gr,dD ho] at this
  exact this
 have hrow:∀ {j i:Nat} {o:Ob},ρ[j]?=some i->h[i]?=some o->pV o=false->∃ oy,hy[j]?=some oy∧pV oy=false:=fun {j i o} hi ho hb=>by
  cases o with
  | box e ls=>cases hb
  | fm tab=>cases hb
  | arr e t u rows wr =>
   obtain ⟨e',t',hrw⟩:=uL (j:=j) (e:=e) (t:=t) (u:=0) (rows:=rows) (wr:=wr) Zp (by simp [inH,hi,dD ho,Ob.ren])
   obtain ⟨rows',hr'⟩:=zB (A:=Unit) (x:=(yV so.rs (List.replicate so.n .aW) y).2) hrw
   exact ⟨_,by rw [<- hhy]; exact hr',rfl⟩
 have Tc:=hs'.heap.obj
 rw [hhy] at Tc
 have zKn:∀ j,hy.length <= j->(β' j).live=false:=fun j hj=>hs'.heap.dead j (by rw [hhy]; exact hj)
 have Ao:=hs'.heap.dF
 rw [hhy] at Ao
 have zEi:=hs'.heap.iW
 rw [hhy] at zEi
 have zGv:∀ {j i:Nat} {o:Ob},ρ[j]?=some i->h[i]?=some o->pV o=true->(β' j).box=true∧(β' j).blk=(β i).blk∧(β i).box=true∧(β i).live=true∧(β' j).live=true:=fun {j i o} hi ho hb=>by
  have hob:=hs.obj i o ho
  obtain ⟨hj,hfx⟩:=hfix hi
  cases o with
  | arr=>cases hb
  | fm tab =>
   simp only [Ob.Rel] at hob
   obtain ⟨k1,k2,b,es,n,k3,_⟩:=hob
   have hfo:zC β h i=some b:=by simp only [zC,dD ho,pV,k3]
   obtain ⟨g1,g2⟩:=hfx b hfo
   exact ⟨g2,by rw [g1,k3],k2,k1,(Tc j hy[j] (by simp [hj])).live⟩
  | box e ls =>
   simp only [Ob.Rel] at hob
   obtain ⟨k1,k2,b,cs,k3,_⟩:=hob
   have hfo:zC β h i=some b:=by simp only [zC,dD ho,pV,k3]
   obtain ⟨g1,g2⟩:=hfx b hfo
   exact ⟨g2,by rw [g1,k3],k2,k1,(Tc j hy[j] (by simp [hj])).live⟩
 have zNt:∀ {j i:Nat} {o:Ob},ρ[j]?=some i->h[i]?=some o->pV o=true->gK β β' ρ h i=β i:=fun hi ho hb=>by
  simp only [gK,zEa hnd hi,dD ho,hb]
 have zNu:∀ {j i:Nat} {o:Ob},ρ[j]?=some i->h[i]?=some o->pV o=false->gK β β' ρ h i={ β' j with ver:=(β' j).ver+jK ρ h j }:=fun hi ho hb=>by
  simp only [gK,zEa hnd hi,dD ho,hb]
 have zGw:∀ {i:Nat},pos i ρ 0=none->i < h.length->gK β β' ρ h i=β i:=fun hp hi=>by
  simp only [gK,hp,if_pos hi]
 have zPy:∀ {i:Nat},h.length <= i->pos i ρ 0=none:=fun {i} hi=>by
  cases hp:pos i ρ 0 with
  | none=>rfl
  | some j =>
   obtain ⟨m,_,hm⟩:=sQ hp
   have:=hlt i (List.mem_of_getElem? hm)
   omega
 have zVm:∀ {j:Nat},ρ.length <= j->gK β β' ρ h (h.length+(j - ρ.length))=β' j:=fun {j} hj=>by
  simp only [gK,zPy (Nat.le_add_right _ _)]
  rw [if_neg (by omega)]
  congr 1
  omega
 have eF:∀ {j i:Nat},ρ[j]?=some i->jB ρ h.length j=i:=fun hi=>by simp only [jB,hi]
 have eF2:∀ {j:Nat},ρ.length <= j->jB ρ h.length j=h.length+(j - ρ.length):=fun hj=>by simp only [jB,List.getElem?_eq_none hj]
 have eU2:∀ {j:Nat},ρ.length <= j->jK ρ h j=0:=fun hj=>by simp only [jK,List.getElem?_eq_none hj]
 have hpl:∀ j,(β' j).live=true->Gw (β' j) (gK β β' ρ h (jB ρ h.length j)) (jK ρ h j):=fun j hl=>by
  have hj:j < hy.length:=by
   rcases Nat.lt_or_ge j hy.length with h1 | h1
   ·exact h1
   ·rw [zKn j h1] at hl; cases hl
  cases hi:ρ[j]? with
  | some i =>
   rw [eF hi]
   obtain ⟨o,ho⟩:=hget i (List.mem_of_getElem? hi)
   cases hb:pV o with
   | true =>
    obtain ⟨g1,g2,g3,g4,g5⟩:=zGv hi ho hb
    rw [zNt hi ho hb]
    exact ⟨by rw [g4,hl],by rw [g3,g1],g2.symm,fun h=>by rw [g1] at h; cases h⟩
   | false =>
    rw [zNu hi ho hb]
    exact ⟨rfl,rfl,rfl,fun _=>⟨rfl,rfl,rfl,rfl⟩⟩
  | none =>
   have hge:ρ.length <= j:=List.getElem?_eq_none_iff.1 hi
   rw [eF2 hge,zVm hge,eU2 hge]
   exact ⟨rfl,rfl,rfl,fun _=>⟨rfl,rfl,rfl,rfl⟩⟩
 have hown:∀ {b k:Nat},(inC C β h w ρ hs).xK b k->∃ (i:Nat) (o:Ob),i ∈ ρ∧h[i]?=some o∧o.wr=true∧o.at (β i) b k:=fun {b k} hb=>hb
 have hkeep:Keep (C.N β h) w w':=hs'.heap.frame.weaken fun k j ho=>by
  obtain ⟨i,o,_,h2,h3,h4⟩:=hown ho
  exact .inr ⟨i,o,h2,h3,h4⟩
 have hat:∀ {id j:Nat} {ob oy:Ob},ρ[j]?=some id->h[id]?=some ob->hy[j]?=some oy->∀ b k,(oy.back (jB ρ h.length) (jK ρ h) j).at (gK β β' ρ h id) b k->oy.at (β' j) b k:=fun {id j ob oy} hi hob hoy b k hbk=>by
  cases hb2:pV ob with
  | true =>
   have hp:oy.iV=false:=(Tc j oy hoy).zMh (zGv hi hob hb2).1
   rw [zNt hi hob hb2] at hbk
   have:=Ob.Lr (by simp [Ob.plain,Ob.Gy,hp]) hbk
   exact Ob.kS (by rw [(zGv hi hob hb2).2.1]; exact this)
  | false =>
   rw [zNu hi hob hb2] at hbk
   exact Ob.nY (Ob.Gy oy) rfl rfl hbk
 have zNv:∀ {j:Nat} {oy:Ob},ρ.length <= j->∀ b k,(oy.back (jB ρ h.length) (jK ρ h) j).at (gK β β' ρ h (h.length+(j - ρ.length))) b k->oy.at (β' j) b k:=fun {j oy} hj b k hbk=>by
  rw [zVm hj] at hbk
  exact Ob.nY (Ob.Gy oy) rfl rfl hbk
 have Zq:Moves β (gK β β' ρ h):=fun id hl=>by
  have hid:id < h.length:=by
   rcases Nat.lt_or_ge id h.length with h1 | h1
   ·exact h1
   ·rw [hs.dead id h1] at hl; cases hl
  cases hp:pos id ρ 0 with
  | none=>exact .inl (zGw hp hid)
  | some j =>
   obtain ⟨m,hm,hi⟩:=sQ hp
   rw [Nat.zero_add] at hm
   subst hm
   obtain ⟨o,ho⟩:=hget id (List.mem_of_getElem? hi)
   cases hb:pV o with
   | true=>exact .inl (zNt hi ho hb)
   | false =>
    obtain ⟨oy,hoy,hby⟩:=hrow hi ho hb
    have hY:=Tc j oy hoy
    have hO:=hs.obj id o ho
    rw [zNu hi ho hb]
    cases o with
    | box=>cases hb
    | fm=>cases hb
    | arr e t u rows wr =>
     cases oy with
     | box=>cases hby
     | fm=>cases hby
     | arr e' t' u' rows' wr' =>
      simp only [Ob.Rel] at hY hO
      refine .inr ⟨hO.2.1,hY.1,hY.2.1,?_⟩
      simp only [jK,hi,ho]
      have:=hO.2.2.1
      omega
 have hbl:∀ {b k:Nat},b < w.heap.size->w.heap.size <= b∨(inC C β h w ρ hs).xK b k->C.N β h b k:=fun {b k} hb ho=>by
  rcases ho with ho | ho
  ·omega
  ·obtain ⟨i,o,_,h2,h3,h4⟩:=hown ho
   exact .inr ⟨i,o,h2,h3,h4⟩
 have zPz:∀ b j,b < w.heap.size->C.N (gK β β' ρ h) (jY ρ h hy) b j->C.N β h b j:=fun b k hb hn=>by
  rcases hn with hn | ⟨id,o,ho,hw,hbk⟩
  ·exact .inl hn
  ·rcases zS hk ho with ⟨hid,hp,ho⟩ | ⟨j,ob,oy,hid,hi,hp,hob,hoy,rfl⟩ | ⟨j,oy,hj,rfl,hoy,rfl⟩
   ·rw [zGw hp hid] at hbk
    exact .inr ⟨id,o,ho,hw,hbk⟩
   ·rw [Ob.tF] at hw
    have hbk:=hat hi hob hoy b k hbk
    exact hbl hb ((Ao j oy b hoy ⟨k,hbk⟩).2.2.imp (fun h=>h) fun h=>h k hw hbk)
   ·rw [Ob.tF] at hw
    have hbk:=zNv hj b k hbk
    exact hbl hb ((Ao j oy b hoy ⟨k,hbk⟩).2.2.imp (fun h=>h) fun h=>h k hw hbk)
 have zQa:∀ b j,b < w'.heap.size->C.N (gK β β' ρ h) (jY ρ h hy) b j->(inC C β h w ρ hs).N β' (so.enc y).h b j:=fun b k _ hn=>by
  rw [hhy]
  rcases hn with hn | ⟨id,o,ho,hw,hbk⟩
  ·exact .inl ⟨.inl hn,fun i hi o ho hbk=>(hs.dF i o b ho hbk).1 k hn⟩
  ·rcases zS hk ho with ⟨hid,hp,ho⟩ | ⟨j,ob,oy,hid,hi,hp,hob,hoy,rfl⟩ | ⟨j,oy,hj,rfl,hoy,rfl⟩
   ·rw [zGw hp hid] at hbk
    refine .inl ⟨.inr ⟨id,o,ho,hw,hbk⟩,fun i hi oi hoi hbi=>?_⟩
    have:=hs.iW id i o oi b ho hoi ⟨k,hbk⟩ hbi
    subst this
    exact xX hp hi
   ·rw [Ob.tF] at hw
    exact .inr ⟨j,oy,hoy,hw,hat hi hob hoy b k hbk⟩
   ·rw [Ob.tF] at hw
    exact .inr ⟨j,oy,hoy,hw,zNv hj b k hbk⟩
 have Sq:∀ {id:Nat} {o:Ob} {b:Nat},pos id ρ 0=none->h[id]?=some o->o.blks (β id) b->b < w.heap.size∧∀ k,¬ (inC C β h w ρ hs).xK b k:=fun {id o b} hp ho hb=>by
  refine ⟨(hs.dF id o b ho hb).2.1,fun k hw=>?_⟩
  obtain ⟨i,oi,h1,h2,_,h4⟩:=hown hw
  have:=hs.iW id i o oi b ho h2 hb ⟨k,h4⟩
  subst this
  exact xX hp h1
 have hcls:∀ {id:Nat} {o:Ob},(jY ρ h hy)[id]?=some o->(pos id ρ 0=none∧h[id]?=some o∧gK β β' ρ h id=β id)∨∃ j oy,hy[j]?=some oy∧id=jB ρ h.length j∧o=oy.back (jB ρ h.length) (jK ρ h) j∧∀ b k,o.at (gK β β' ρ h id) b k->oy.at (β' j) b k:=fun {id o} ho=>by
  rcases zS hk ho with ⟨hid,hp,ho⟩ | ⟨j,ob,oy,hid,hi,hp,hob,hoy,rfl⟩ | ⟨j,oy,hj,rfl,hoy,rfl⟩
  ·exact .inl ⟨hp,ho,zGw hp hid⟩
  ·exact .inr ⟨j,oy,hoy,(eF hi).symm,rfl,hat hi hob hoy⟩
  ·exact .inr ⟨j,oy,hoy,(eF2 hj).symm,rfl,zNv hj⟩
 have zVn:∀ {j:Nat} {oy:Ob},hy[j]?=some oy->(oy.back (jB ρ h.length) (jK ρ h) j).wr=true:=fun {j oy} hoy=>by
  rw [Ob.tF,<- hhy] at *
  exact Cy hoy
 have zVo:∀ {j id:Nat} {oy:Ob} {b:Nat},hy[j]?=some oy->(∀ b k,(oy.back (jB ρ h.length) (jK ρ h) j).at (gK β β' ρ h id) b k->oy.at (β' j) b k)->(oy.back (jB ρ h.length) (jK ρ h) j).blks (gK β β' ρ h id) b->b < w.heap.size->(∀ k,¬ (inC C β h w ρ hs).xK b k)->False:=fun {j id oy b} hoy eb hb g1 g2=>by
  obtain ⟨q,hb⟩:=hb
  rcases (Ao j oy b hoy ⟨q,eb b q hb⟩).2.2 with h3 | h3
  ·have h3:w.heap.size <= b:=h3
   omega
  ·have hw:=zVn hoy
   rw [Ob.tF] at hw
   exact g2 q (h3 q hw (eb b q hb))
 have hHS:bK C (gK β β' ρ h) (jY ρ h hy) w':=by
  refine ⟨?_,?_,?_,?_,hs.n0,?_,Nat.le_trans hs.size hs'.heap.size,hs'.heap.os.trans hs.os,hs'.heap.tape.trans hs.tape,hs'.heap.output.trans hs.output,?_⟩
  ·intro id o ho
   rcases hcls ho with ⟨hp,ho,eb⟩ | ⟨j,oy,hoy,rfl,rfl,_⟩
   ·rw [eb]
    exact (hs.obj id o ho).mono Zq hkeep zPz fun b hb=>hs'.heap.frame.block b (Sq hp ho hb).1 (Sq hp ho hb).2
   ·have hY:=Tc j oy hoy
    rw [<- hhy] at hY
    exact Ob.Rel.back (f:=jB ρ h.length) (v:=jK ρ h) hpl zQa hY
  ·intro id hid
   rw [Am] at hid
   have hp:=zPy (i:=id) (by omega)
   simp only [gK,hp]
   rw [if_neg (by omega)]
   exact zKn _ (by omega)
  ·intro i j o1 o2 b h1 h2 hb1 hb2
   rcases hcls h1 with ⟨hp1,ho1,eb1⟩ | ⟨j1,oy1,zVp,rfl,rfl,eb1⟩ <;> rcases hcls h2 with ⟨hp2,ho2,eb2⟩ | ⟨j2,oy2,zVq,rfl,rfl,eb2⟩
   ·rw [eb1] at hb1
    rw [eb2] at hb2
    exact hs.iW i j o1 o2 b ho1 ho2 hb1 hb2
   ·exfalso
    rw [eb1] at hb1
    obtain ⟨g1,g2⟩:=Sq hp1 ho1 hb1
    exact zVo zVq eb2 hb2 g1 g2
   ·exfalso
    rw [eb2] at hb2
    obtain ⟨g1,g2⟩:=Sq hp2 ho2 hb2
    exact zVo zVp eb1 hb1 g1 g2
   ·obtain ⟨q1,hb1⟩:=hb1
    obtain ⟨q2,hb2⟩:=hb2
    rw [zEi j1 j2 oy1 oy2 b zVp zVq ⟨q1,eb1 b q1 hb1⟩ ⟨q2,eb2 b q2 hb2⟩]
  ·intro id o b ho hb
   rcases hcls ho with ⟨hp,ho,eb⟩ | ⟨j,oy,hoy,rfl,rfl,eb⟩
   ·rw [eb] at hb ⊢
    obtain ⟨k1,k2,k3⟩:=hs.dF id o b ho hb
    exact ⟨k1,Nat.lt_of_lt_of_le k2 hs'.heap.size,k3⟩
   ·obtain ⟨q,hb⟩:=hb
    obtain ⟨k1,k2,k3⟩:=Ao j oy b hoy ⟨q,eb b q hb⟩
    rcases Nat.lt_or_ge b w.heap.size with hlt | hge
    ·have hold:∀ k,(oy.back (jB ρ h.length) (jK ρ h) j).wr=true->(oy.back (jB ρ h.length) (jK ρ h) j).at (gK β β' ρ h (jB ρ h.length j)) b k->∃ (i:Nat) (o:Ob),i ∈ ρ∧h[i]?=some o∧o.wr=true∧o.at (β i) b k:=fun k hw hk=>by
      rw [Ob.tF] at hw
      rcases k3 with k3 | k3
      ·have k3:w.heap.size <= b:=k3
       omega
      ·exact hown (k3 k hw (eb b k hk))
     have hwy:(oy.back (jB ρ h.length) (jK ρ h) j).wr=true:=zVn hoy
     obtain ⟨i,oi,h1,h2,h3,h4⟩:=hold q hwy hb
     obtain ⟨g1,g2,g3⟩:=hs.dF i oi b h2 ⟨q,h4⟩
     refine ⟨g1,k2,?_⟩
     rcases g3 with g3 | g3
     ·exact .inl g3
     ·right
      intro k hw hk
      obtain ⟨i2,oi2,f1,f2,f3,f4⟩:=hold k hw hk
      rcases (hs.dF i2 oi2 b f2 ⟨k,f4⟩).2.2 with g5 | g5
      ·have:=hs.iW i i2 oi oi2 b h2 f2 ⟨q,h4⟩ ⟨k,f4⟩
       subst this
       rw [h2] at f2
       simp only [Option.some.injEq] at f2
       subst f2
       exact g3 k f3 f4
      ·exact g5 k f3 f4
    ·have h0:=hs.size
     exact ⟨fun _ hn=>by have:=hs.n0 b _ hn; omega,k2,.inl (by omega)⟩
  ·refine hs.frame.rH hs'.heap.frame fun b j hb ho=>?_
   obtain ⟨i,oi,h1,h2,h3,h4⟩:=hown ho
   rcases (hs.dF i oi b h2 ⟨j,h4⟩).2.2 with h5 | h5
   ·omega
   ·exact h5 j h3 h4
  ·intro j o hj
   obtain ⟨k1,k2⟩:=hs.fixed j o hj
   refine ⟨by rw [Am]; omega,fun b hb=>?_⟩
   obtain ⟨k3,k4⟩:=k2 b hb
   have hoj:h[j]?=some h[j]:=by simp [k1]
   rcases Zq j (hs.obj j _ hoj).live with e | ⟨e,_⟩
   ·rw [e]; exact ⟨k3,k4⟩
   ·rw [k4] at e; cases e
 refine ⟨gK β β' ρ h,Zq,hkeep,zPz,hHS,?_⟩
 refine zEh (by have:=hs'.size; simpa using this) fun i v u hv hu=>?_
 simp only [List.getElem?_map,Option.map_eq_some_iff] at hv
 obtain ⟨v0,hv0,rfl⟩:=hv
 have hr:=hs'.reg i v0 hv0
 have e:(us.toArray).getD i undef=u:=by
  rw [Array.getD_eq_getD_getElem?]
  simp [hu]
 simp only [e] at hr
 exact hr.back (f:=jB ρ h.length) (v:=jK ρ h) hpl zQa
theorem fH (hM:jS P f si so F):(peM si so F).OK P f:=by
 refine ⟨hM.1,fun vs h y hr C β w xs hP hs ha=>?_,fun h=>(by cases h),fun h=>(by cases h)⟩
 subst hP
 simp only [peM] at hr
 split at hr
 case h_2=>cases hr
 rename_i x hx
 simp only [Option.some.injEq,Prod.mk.injEq] at hr
 obtain ⟨hok,hF⟩:=hr
 obtain ⟨hnd,hlt,hlen,hwr,Zp⟩:=zDc hok
 have Si:=zEc hx (zVl hs ha hnd hlt)
 refine (hM.2 x y hF (inC C β h w _ hs) _ w xs rfl (by simp [inC,hlen]) Si).mono ?_
 rintro e w' ⟨us,β',rfl,hs'⟩
 obtain ⟨β2,h1,h2,h3,h4,h5⟩:=zNs hs hnd hlt hwr Zp hs'
 exact ⟨_,_,β2,⟨rfl,rfl⟩,h1,h2,h3,h4,_,rfl,zNr h5⟩
end
end Go.Dec
namespace Go.Dec
section
variable {T:Tab} {C:Ctx} {β:Nat->Pl} {w:World}
def Ml (T:Tab) (σ:St):ResultVar->Option (Bool × V)
 | .tmp t=>some (true,σ.r.getD t .aW)
 | .cell t ty =>
  match σ.r.getD t .aW with
  | .one l=>loadAt T σ.h ty l
  | _=>none
def jC (T:Tab) (σ:St):List ResultVar->Option (Bool × List V)
 | []=>some (true,[])
 | x :: r =>
  match Ml T σ x,jC T σ r with
  | some (c,l),some (d,ls)=>some (c && d,l :: ls)
  | _,_=>none
theorem zNw {σ:St} {a:Act} {rv:ResultVar} {v:V} (hT:aP C.P T) (hs:Sim C β σ a w) (h:Ml T σ rv=some (true,v)) :
  ∃ x,(lQ a.tmps rv).run C.P w=.ok x w∧v.Rel β w (C.N β σ.h) x:=by
 cases rv with
 | tmp t =>
  simp only [Ml,Option.some.injEq,Prod.mk.injEq,true_and] at h
  subst h
  exact ⟨a.tmps.getD t undef,rfl,Cv hs t⟩
 | cell t ty =>
  simp only [Ml] at h
  have hr:=Cv hs t
  split at h
  ·rename_i l hl
   rw [hl] at hr
   obtain ⟨y,h1,h2⟩:=vZ hT h hs.heap hr
   obtain ⟨ad,h3,h4⟩:=zR h1
   refine ⟨y,?_,h2⟩
   simp only [lQ,h3,asAddr,Sem.run_bind,Sem.run_pure,Result.andThen_ok,h4]
  ·cases h
theorem Ve {σ:St} {a:Act} (hT:aP C.P T) (hs:Sim C β σ a w):∀ {rs:List ResultVar} {vs:List V},jC T σ rs=some (true,vs) ->
  ∀ acc:Array Value,∃ us:List Value,(rs.foldlM (fun (acc:Array Value) rv=>do let v <- lQ a.tmps rv; pure (acc.push v)) acc).run C.P w=.ok (acc++us.toArray) w∧aL (fun v u=>V.Rel β w (C.N β σ.h) v u) vs us
 | [],vs,h,acc=>by
  simp only [jC,Option.some.injEq,Prod.mk.injEq,true_and] at h
  subst h
  exact ⟨[],by simp,trivial⟩
 | rv :: rs,vs,h,acc=>by
  simp only [jC] at h
  split at h
  ·rename_i c s d r h1 h2
   simp only [Option.some.injEq,Prod.mk.injEq,Bool.and_eq_true] at h
   obtain ⟨⟨rfl,rfl⟩,rfl⟩:=h
   obtain ⟨x,g1,g2⟩:=zNw hT hs h1
   obtain ⟨us,g4,g5⟩:=Ve hT hs h2 (acc.push x)
   refine ⟨x :: us,?_,⟨g2,g5⟩⟩
   simp only [List.foldlM_cons,Sem.run_bind,g1,Result.andThen_ok,Sem.run_pure,g4]
   simp
  ·cases h
theorem Zr {σ:St} {a:Act} {fn:Func} {vs:List V} (hT:aP C.P T) (hs:Sim C β σ a w) (h:jC T σ fn.results.toList=some (true,vs)) :
  ∃ us:List Value,(results fn a.tmps).run C.P w=.ok (jJ us) w∧aL (fun v u=>V.Rel β w (C.N β σ.h) v u) vs us:=by
 obtain ⟨us,h1,h2⟩:=Ve hT hs h #[]
 refine ⟨us,?_,h2⟩
 have e0:results fn a.tmps=(do let vs <- fn.results.mapM (lQ a.tmps); pure (if h:vs.size=1 then vs[0] else .tuple vs)):=by
  unfold results
  congr 1
 have hm:(fn.results.mapM (lQ a.tmps):Sem (Array Value)).run C.P w=.ok us.toArray w:=by
  rw [Array.mapM_eq_foldlM,<- Array.foldlM_toList]
  have e:(fun (acc:Array Value) rv=>do let v <- lQ a.tmps rv; pure (acc.push v):Array Value->ResultVar->Sem (Array Value))=(fun (acc:Array Value) rv=>acc.push <$> lQ a.tmps rv):=by
   funext acc rv
   rfl
  rw [e] at h1
  simpa using h1
 rw [e0]
 simp only [Sem.run_bind,hm,Result.andThen_ok,Sem.run_pure]
 match us with
 | []=>rfl
 | [u]=>rfl
 | u :: v :: us=>simp [jJ]
theorem zNx {σ:St} {a:Act} {vs:List V} {us:List Value} (hs:Sim C β σ a w) (h:aL (fun v u=>V.Rel β w (C.N β σ.h) v u) vs us):Sim C β ⟨vs,σ.h⟩ { tmps:=us.toArray,defers:=[] } w:=by
 refine ⟨hs.heap,rfl,by simpa using h.length,fun i v hv=>?_⟩
 have hl:i < us.length:=by rw [<- h.length]; exact (List.getElem?_eq_some_iff.1 hv).1
 have hr:=h.get i (List.getElem?_eq_some_iff.1 hv).1 hl
 rw [(List.getElem?_eq_some_iff.1 hv).2] at hr
 have e2:(us.toArray).getD i undef=us[i]:=by simp [hl]
 simp only [e2]
 exact hr
def Zt (T:Tab) {ρ:Type} (res:List ResultVar) (so:Sh) (co:List Co) (σ:St) (g:so.X->Option ρ):Option ρ :=
 match jC T σ res with
 | some (c,vs)=>chk c (enter T so co ⟨vs,σ.h⟩ g)
 | none=>none
def zGx (T:Tab) (res:List ResultVar) (so:Sh) (co:List Co):K so.X:=fun e σ =>
 match e with
 | .normal=>Zt T res so co σ some
 | .ret=>Zt T res so co σ some
 | _=>none
theorem zNy {σ:St} {a:Act} {fn:Func} {so:Sh} {co:List Co} {ρ:Type} {g:so.X->Option ρ} {r:ρ} {kf:Nat} (hT:aP C.P T) (hkf:C.fix.length <= kf) (hfx:bA (Co.fx kf) co=true) (hs:Sim C β σ a w) (h:Zt T fn.results.toList so co σ g=some r) :
  ∃ (us:List Value) (β':Nat->Pl) (y:so.X),(results fn a.tmps).run C.P w=.ok (jJ us) w∧Sim C β' (so.enc y) { tmps:=us.toArray,defers:=[] } w∧g y=some r:=by
 unfold Zt at h
 split at h
 ·rename_i c vs hvs
  obtain ⟨rfl,h⟩:=jI h
  obtain ⟨us,h1,h2⟩:=Zr hT hs hvs
  obtain ⟨β',_,y,h3,h4⟩:=qY hT hkf hfx h (zNx hs h2)
  exact ⟨us,β',y,h1,h3,h4⟩
 ·cases h
end
section
variable {P:Program} {T:Tab} {f:FuncId} {fn:Func} {c:Code} {si so sp:Sh}
theorem zKo {C:Ctx} {β:Nat->Pl} {w:World} {σ:St} {xs:List Value} (n:Nat) (hs:Sim C β σ { tmps:=xs.toArray,defers:=[] } w) :
  Sim C β ⟨yY σ.r n,σ.h⟩ { tmps:=xs.toArray++Array.replicate (n - xs.toArray.size) undef,defers:=[] } w:=by
 have hl:σ.r.length=xs.length:=by simpa using hs.size
 refine ⟨hs.heap,rfl,by simp [yY,hl],fun i u hu=>?_⟩
 simp only [yY] at hu
 by_cases hi:i < σ.r.length
 ·rw [List.getElem?_append_left hi] at hu
  have hr:=hs.reg i u hu
  have e:(xs.toArray++Array.replicate (n - xs.toArray.size) undef).getD i undef=(xs.toArray).getD i undef:=by
   rw [Array.getD_eq_getD_getElem?,Array.getD_eq_getD_getElem?,Array.getElem?_append_left (by simpa using by omega)]
  rw [e]
  exact hr
 ·rw [List.getElem?_append_right (by omega),List.getElem?_replicate] at hu
  split at hu
  ·simp only [Option.some.injEq] at hu; subst hu; trivial
  ·cases hu
theorem iT {F:si.X->Option so.X} {Γ:Orc so.X} {an:An so.X} {co:List Co} (hf:P.funcs[f]?=some fn) (hb:fn.body=some c) (hh:dY P f=true) (hT:aP P T) (hΓ:fK P Γ) (hm:P.follows .mixedOrders=true)
  (ha:Ze P si.os.length c an) (hfx:an.fx si.os.length=true) (hco:bA (Co.fx si.os.length) co=true)
  (h:∀ x,ev Γ T c an ⟨yY (si.enc x).r fn.ntmps,(si.enc x).h⟩ (zGx T fn.results.toList so co)=F x):jS P f si so F:=by
 refine ⟨hh,fun x y hF C β w xs hP hkf hs=>?_⟩
 rw [<- h x] at hF
 refine calls_of_wp hf hb ?_
 refine Zg (P:=P) hT hΓ hm c an ha hfx _ _ y hF C β _ w _ hP hkf (zKo fn.ntmps hs) ?_
 intro e x' σ' β' a' w' hs' hx' hk
 have fin:Zt T fn.results.toList so co σ' some=some y->x'=.ret∨x'=.normal->bodyPost P fn (fun e w'=>∃ (us:List Value) (β':Nat->Pl),e=.returned (jJ us)∧Sim C β' (so.enc y) { tmps:=us.toArray,defers:=[] } w') x' a' w':=by
  intro hk hx'
  subst hP
  obtain ⟨us,β2,y',h1,h2,h3⟩:=zNy (fn:=fn) hT hkf hco hs' hk
  obtain rfl:=Option.some.inj h3
  rcases hx' with rfl | rfl
  ·exact ⟨hs'.defers,_,h1,us,β2,rfl,h2⟩
  ·exact ⟨hs'.defers,_,h1,us,β2,rfl,h2⟩
 cases e with
 | normal=>obtain rfl:=hx'; exact fin hk (.inr rfl)
 | ret=>obtain rfl:=hx'; exact fin hk (.inl rfl)
 | exit i=>simp [zGx] at hk
 | goto l=>simp [zGx] at hk
 | pan t u=>simp [zGx] at hk
structure GE (ρ:Type) where
 f:FuncId
 run:List V->List Ob->(Out->List Ob->Option ρ)->Option ρ
structure GE.OK (P:Program) {ρ:Type} (g:GE ρ):Prop where
 ok:∀ vs h k r,g.run vs h k=some r->dY P g.f=true∧wE P g.f vs h fun out h'=>k out h'=some r∧∀ id,id < h.length->id ∉ reach vs h->h'[id]?=h[id]?
def zNz {ρ:Type}:List (GE ρ)->FuncId->List V->List Ob->(Out->List Ob->Option ρ)->Option ρ
 | [],_,_,_,_=>none
 | g :: r,f,vs,h,k=>match Nat.beq g.f f with
  | true=>g.run vs h k
  | false=>zNz r f vs h k
def gJ (ρ:Type) (l:List (FuncId × PE)) (m:List (GE ρ)):Orc ρ:=⟨pes l,zNz m⟩
theorem bM {ρ:Type} {l:List (FuncId × PE)} {m:List (GE ρ)} (h:∀ p ∈ l,p.2.OK P p.1) (hm:∀ g ∈ m,g.OK P):fK P (gJ ρ l m):=by
 refine ⟨(zVk (ρ:=ρ) h).pure,fun f vs hp k r hr=>?_⟩
 simp only [gJ] at hr
 induction m with
 | nil=>cases hr
 | cons g m ih =>
  simp only [zNz] at hr
  split at hr
  ·rename_i hb
   have:=Nat.eq_of_beq_eq_true hb
   subst this
   exact (hm g (.head _)).ok vs hp k r hr
  ·exact ih (fun g hg=>hm g (.tail _ hg)) hr
theorem bP {ρ:Type}:∀ g ∈ ([]:List (GE ρ)),g.OK P:=fun _ h=>by cases h
end
end Go.Dec
