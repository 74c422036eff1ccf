/- Part of a proof over this seat: a library of my own, and what it says of this seat. No statement is proved here. -/
import Derived.Test.YtmpoakdpdflfgaaGreatDoorPnrtAH
namespace Go.Dec
@[reducible] def bQ:List Ty->Type
 | []=>Unit
 | [t]=>t.den
 | t :: u :: r=>t.den × bQ (u :: r)
def mD:List Value->Value
 | [u]=>u
 | us=>.tuple us.toArray
def zWp (bor:Bool) (N:Nat->Nat->Prop):Nat->Nat->Prop :=
 match bor with
 | true=>fun _ _=>False
 | false=>N
def Ty.iR (w:World) (N:Nat->Nat->Prop) (t:Ty) (x:t.den) (u:Value):Prop :=
 if t.isAgg then ∃ cs:List Value,u=.agg cs.toArray∧t.Rel w N x cs else t.Rel w N x [u]
def DensRel (w:World) (N:Nat->Nat->Prop):(ts:List Ty)->bQ ts->List Value->Prop
 | [],_,us=>us=[]
 | [t],x,us=>∃ u,us=[u]∧t.iR w N x u
 | t :: s :: r,x,us=>∃ u us',us=u :: us'∧t.iR w N x.1 u∧DensRel w N (s :: r) x.2 us'
def vOf (t:Ty) (x:t.den):V :=
 match t.isAgg with
 | true=>.agg (explode t x)
 | false=>.one (.val t x)
def sOf (t:Ty) (x:t.den):Sum L (List L) :=
 match t.isAgg with
 | true=>.inr (explode t x)
 | false=>.inl (.val t x)
def Dy:(ts:List Ty)->bQ ts->List V
 | [],_=>[]
 | [t],x=>[vOf t x]
 | t :: s :: r,x=>vOf t x.1 :: Dy (s :: r) x.2
def zJl:(ts:List Ty)->bQ ts->List (Sum L (List L))
 | [],_=>[]
 | [t],x=>[sOf t x]
 | t :: s :: r,x=>sOf t x.1 :: zJl (s :: r) x.2
def zJm (t:Ty) (ls:List L):Option t.den :=
 match bK t ls with
 | some (x,[])=>some x
 | _=>none
def Va (t:Ty) (s:Sum L (List L)):Option t.den :=
 match t.isAgg,s with
 | true,.inr ls=>zJm t ls
 | false,.inl l=>l.asT t
 | _,_=>none
def zP:(ts:List Ty)->List (Sum L (List L))->Option (bQ ts)
 | [],[]=>some ()
 | [t],[s]=>Va t s
 | t :: u :: r,s :: ss =>
  match Va t s,zP (u :: r) ss with
  | some x,some y=>some (x,y)
  | _,_=>none
 | _,_=>none
def V.sum:V->Option (Sum L (List L))
 | .one l=>some (.inl l)
 | .agg ls=>some (.inr ls)
 | _=>none
def Oe (bor:Bool) (h:List Ob) (t:Ty) (v:V):Option (Bool × t.den) :=
 match bor with
 | true =>
  match v.deep h with
  | some (c,u) =>
   match u.sum with
   | some s=>match Va t s with
    | some x=>some (c,x)
    | none=>none
   | none=>none
  | none=>none
 | false =>
  match v.isD,v.sum with
  | true,some s=>match Va t s with
   | some x=>some (true,x)
   | none=>none
  | _,_=>none
def oZ (bor:Bool) (h:List Ob):(ts:List Ty)->List V->Option (Bool × bQ ts)
 | [],[]=>some (true,())
 | [t],[v]=>Oe bor h t v
 | t :: u :: r,v :: vs =>
  match Oe bor h t v,oZ bor h (u :: r) vs with
  | some (c,x),some (d,y)=>some (c && d,(x,y))
  | _,_=>none
 | _,_=>none
def Ty.flat:Ty->Bool
 | .pair a b=>a.flat && b.flat
 | .arr _ a=>a.flat
 | .slice _=>false
 | .opq=>false
 | _=>true
section
variable {β:Nat->Pl} {w:World} {N:Nat->Nat->Prop}
theorem zGs {t:Ty} {x:t.den} {u:Value} (h:t.iR w N x u):(vOf t x).Rel β w N u:=by
 unfold vOf
 unfold Ty.iR at h
 cases ha:t.isAgg with
 | true =>
  rw [ha,if_pos rfl] at h
  obtain ⟨cs,e,h⟩:=h
  exact ⟨cs,e,fV h⟩
 | false =>
  rw [ha,if_neg (by simp)] at h
  simp only [V.Rel,L.Rel]
  exact h
theorem Wy:∀ {ts:List Ty} {x:bQ ts} {us:List Value},DensRel w N ts x us->jY β w N (Dy ts x) us
 | [],_,_,h=>by simp only [DensRel] at h; subst h; trivial
 | [t],x,_,h=>by obtain ⟨u,rfl,h⟩:=h; exact ⟨zGs h,trivial⟩
 | t :: s :: r,x,_,h=>by
  obtain ⟨u,us,rfl,h,h2⟩:=h
  exact ⟨zGs h,Wy h2⟩
theorem zGt {t:Ty} {x:t.den} {u:Value} (h:t.iR w N x u):fP β w N (sOf t x) u:=by
 unfold sOf
 unfold Ty.iR at h
 cases ha:t.isAgg with
 | true =>
  rw [ha,if_pos rfl] at h
  obtain ⟨cs,e,h⟩:=h
  exact ⟨cs,e,fV h⟩
 | false =>
  rw [ha,if_neg (by simp)] at h
  simp only [fP,L.Rel]
  exact h
theorem Wz:∀ {ts:List Ty} {x:bQ ts} {us:List Value},DensRel w N ts x us->aI (fP β w N) (zJl ts x) us
 | [],_,_,h=>by simp only [DensRel] at h; subst h; trivial
 | [t],x,_,h=>by obtain ⟨u,rfl,h⟩:=h; exact ⟨zGt h,trivial⟩
 | t :: s :: r,x,_,h=>by
  obtain ⟨u,us,rfl,h,h2⟩:=h
  exact ⟨zGt h,Wz h2⟩
theorem zMz {t:Ty} {ls:List L} {x:t.den} {cs:List Value} (h:zJm t ls=some x) (hr:aC β w N ls cs):t.Rel w N x cs:=by
 unfold zJm at h
 split at h
 ·rename_i y hi
  simp only [Option.some.injEq] at h
  subst h
  obtain ⟨c1,c2,e,h1,h2⟩:=mG hi hr
  simp only [aC] at h2
  subst h2
  rw [List.append_nil] at e
  subst e
  exact h1
 ·cases h
theorem Dz {t:Ty} {s:Sum L (List L)} {x:t.den} {u:Value} (h:Va t s=some x) (hr:fP β w N s u):t.iR w N x u:=by
 unfold Va at h
 unfold Ty.iR
 split at h
 ·rename_i ls ha
  rw [ha,if_pos rfl]
  obtain ⟨cs,e,hr⟩:=hr
  exact ⟨cs,e,zMz h hr⟩
 ·rename_i l ha
  rw [ha,if_neg (by simp)]
  exact L.Ui h hr
 ·cases h
theorem Xa:∀ {ts:List Ty} {ss:List (Sum L (List L))} {x:bQ ts} {us:List Value},zP ts ss=some x->aI (fP β w N) ss us->DensRel w N ts x us
 | [],[],_,[],_,_=>rfl
 | [t],[s],x,[u],h,hr=>⟨u,rfl,Dz h hr.1⟩
 | t :: u :: r,s :: ss,x,v :: vs,h,hr=>by
  simp only [zP] at h
  split at h
  ·rename_i y z h1 h2
   simp only [Option.some.injEq] at h
   subst h
   exact ⟨v,vs,rfl,Dz h1 hr.1,Xa h2 hr.2⟩
  ·cases h
 | [],[],_,_ :: _,_,hr=>hr.elim
 | [],_ :: _,_,_,h,_=>by simp [zP] at h
 | [t],[],_,_,h,_=>by simp [zP] at h
 | [t],[s],_,[],_,hr=>hr.elim
 | [t],[s],_,_ :: _ :: _,_,hr=>hr.2.elim
 | [t],_ :: _ :: _,_,_,h,_=>by simp [zP] at h
 | t :: u :: r,[],_,_,h,_=>by simp [zP] at h
 | t :: u :: r,s :: ss,_,[],_,hr=>hr.elim
theorem V.Vb {v:V} {s:Sum L (List L)} {u:Value} (h:v.sum=some s) (hr:v.Rel β w N u):fP β w N s u:=by
 cases v <;> simp only [V.sum,Option.some.injEq,reduceCtorEq] at h <;> subst h <;> exact hr
theorem Ty.iR.mono {w':World} {N':Nat->Nat->Prop} (hk:Keep N w w') (hN:∀ b j,b < w.heap.size->N' b j->N b j) {t:Ty} {x:t.den} {u:Value} (h:t.iR w N x u):t.iR w' N' x u:=by
 unfold Ty.iR at *
 split
 ·rename_i ha
  rw [if_pos ha] at h
  obtain ⟨cs,e,h⟩:=h
  exact ⟨cs,e,h.mono hk hN⟩
 ·rename_i ha
  rw [if_neg ha] at h
  exact h.mono hk hN
theorem DensRel.mono {w':World} {N':Nat->Nat->Prop} (hk:Keep N w w') (hN:∀ b j,b < w.heap.size->N' b j->N b j):∀ {ts:List Ty} {x:bQ ts} {us:List Value},DensRel w N ts x us->DensRel w' N' ts x us
 | [],_,_,h=>h
 | [t],x,_,h=>by obtain ⟨u,e,h⟩:=h; exact ⟨u,e,h.mono hk hN⟩
 | t :: s :: r,x,_,h=>by obtain ⟨u,us,e,h,h2⟩:=h; exact ⟨u,us,e,h.mono hk hN,h2.mono hk hN⟩
theorem Ty.Rel.flat {N':Nat->Nat->Prop} {w':World}:∀ {t:Ty} {x:t.den} {cs:List Value},t.flat=true->t.Rel w N x cs->t.Rel w' N' x cs
 | .unit,_,_,_,h=>h
 | .bool,_,_,_,h=>h
 | .int _,_,_,_,h=>h
 | .str,_,_,_,h=>h
 | .err,_,_,_,h=>h
 | .opq,_,_,hf,_=>by cases hf
 | .slice _,_,_,hf,_=>by cases hf
 | .pair a b,_,_,hf,h=>by
  simp only [Ty.flat,Bool.and_eq_true] at hf
  obtain ⟨c1,c2,e,h1,h2⟩:=h
  exact ⟨c1,c2,e,Ty.Rel.flat hf.1 h1,Ty.Rel.flat hf.2 h2⟩
 | .arr n a,_,_,hf,h=>by
  simp only [Ty.flat] at hf
  obtain ⟨h0,css,e,h1⟩:=h
  exact ⟨h0,css,e,h1.mono fun x c hx=>Ty.Rel.flat hf hx⟩
theorem Ty.iR.flat {N':Nat->Nat->Prop} {w':World} {t:Ty} {x:t.den} {u:Value} (hf:t.flat=true) (h:t.iR w N x u):t.iR w' N' x u:=by
 unfold Ty.iR at *
 split
 ·rename_i ha
  rw [if_pos ha] at h
  obtain ⟨cs,e,h⟩:=h
  exact ⟨cs,e,h.flat hf⟩
 ·rename_i ha
  rw [if_neg ha] at h
  exact h.flat hf
theorem DensRel.flat {N':Nat->Nat->Prop} {w':World}:∀ {ts:List Ty} {x:bQ ts} {us:List Value},bC Ty.flat ts=true->DensRel w N ts x us->DensRel w' N' ts x us
 | [],_,_,_,h=>h
 | [t],x,_,hf,h=>by
  simp only [bC,Bool.and_true] at hf
  obtain ⟨u,e,h⟩:=h; exact ⟨u,e,h.flat hf⟩
 | t :: s :: r,x,_,hf,h=>by
  simp only [bC,Bool.and_eq_true] at hf
  obtain ⟨u,us,e,h,h2⟩:=h
  exact ⟨u,us,e,h.flat hf.1,DensRel.flat (by simp only [bC,Bool.and_eq_true]; exact hf.2) h2⟩
end
def Pure (P:Program) (f:FuncId) (as rs:List Ty) (F:bQ as->Option (bQ rs)):Prop :=
 gQ P f=true∧∀ x y,F x=some y->∀ (w:World) (N:Nat->Nat->Prop) (xs:List Value),Glob P w->(∀ b j,N b j->b < w.heap.size)->DensRel w N as x xs ->
  Calls P f xs.toArray w fun e w'=>∃ us:List Value,e=.returned (mD us)∧w'.os=w.os∧w'.tape=w.tape∧w'.output=w.output∧Keep (fun _ _=>False) w w'∧DensRel w' N rs y us
def zJn (T:Tab) (res:List ResultVar) (rs:List Ty) (σ:St):Option (bQ rs) :=
 match Lg T σ res with
 | some (c,vs) =>
  match zP rs vs with
  | some y=>chk c (some y)
  | none=>none
 | none=>none
def zJo (T:Tab) (res:List ResultVar) (rs:List Ty):K (bQ rs):=fun e σ =>
 match e with
 | .normal=>zJn T res rs σ
 | .ret=>zJn T res rs σ
 | _=>none
section
variable {T:Tab} {P:Program}
theorem zBg {C:Ctx} {β β':Nat->Pl} {w:World} {σ:St} {a:Act} {fn:Func} {vs:List (Sum L (List L))} {N':Nat->Nat->Prop} (hT:aT C.P T) (hs:Sim C β σ a w) (hN:∀ b j,b < w.heap.size->N' b j->C.N0 b j) (h:Lg T σ fn.results.toList=some (true,vs)) :
  ∃ us:List Value,(results fn a.tmps).run C.P w=.ok (mD us) w∧aI (fP β' w N') vs us:=by
 obtain ⟨us,h1,h2,_⟩:=Wx (β':=β') hT hs hN h #[]
 refine ⟨us,?_,h2⟩
 have e0:results fn a.tmps=(do let vs <- fn.results.mapM (lS a.tmps); pure (if h:vs.size=1 then vs[0] else .tuple vs)):=by
  unfold results
  congr 1
 have hm:(fn.results.mapM (lS a.tmps):Sem (Array Value)).run C.P w=.ok us.toArray w:=by
  rw [Array.mapM_eq_foldlM,<- Array.foldlM_toList]
  have e:(fun (acc:Array Value) rv=>do let v <- lS a.tmps rv; pure (acc.push v):Array Value->ResultVar->Sem (Array Value))=(fun (acc:Array Value) rv=>acc.push <$> lS a.tmps rv):=by
   funext acc rv
   rfl
  rw [e] at h1
  simpa using h1
 rw [e0]
 simp only [Sem.run_bind,hm,Result.andThen_ok,Sem.run_pure]
 match us with
 | []=>rfl
 | [u]=>rfl
 | u :: v :: us=>simp [mD]
theorem Iu:∀ cs:List Co,bC (Co.fx 0) cs=true
 | []=>rfl
 | c :: cs=>by
  simp only [bC,Iu cs,Bool.and_true]
  cases c <;> first | rfl | simp [Co.fx]
theorem uU {ρ:Type}:∀ an:An ρ,an.fx 0=true
 | .nil=>rfl
 | .mk l r c=>by simp only [An.fx,uU l,uU r,Iu,Bool.and_self]
 | .loop _ c0 c1 _ a=>by simp only [An.fx,uU a,Iu,Bool.and_self]
 | .scope _ a b=>by simp only [An.fx,uU a,uU b,Bool.and_self]
 | .sem _=>rfl
 | .co c a=>by simp only [An.fx,uU a,Iu,Bool.and_self]
 | .join _ c a=>by simp only [An.fx,uU a,Iu,Bool.and_self]
theorem dV {f:FuncId} {fn:Func} {c:Code} {as rs:List Ty} {F:bQ as->Option (bQ rs)} {Γ:Orc (bQ rs)} {an:An (bQ rs)} (hf:P.funcs[f]?=some fn) (hb:fn.body=some c) (hh:gQ P f=true) (hT:aT P T) (hΓ:gG P Γ) (hm:P.follows .mixedOrders=true) (ha:zBc P 0 c an)
  (h:∀ x,ev Γ T c an ⟨zO (Dy as x) fn.ntmps,[]⟩ (zJo T fn.results.toList rs)=F x):Pure P f as rs F:=by
 refine ⟨hh,fun x y hF w N xs hG hN hx=>?_⟩
 rw [<- h x] at hF
 let C:Ctx:={ P:=P,N0:=N,w0:=w,xD:=fun _ _=>False,glob:=fun w' h=>hG.keep fun b hb=>h.block b hb (fun _ h=>h),fix:=[] }
 let β0:Nat->Pl:=fun _=>⟨false,false,0,none,0,0,0,[]⟩
 have hargs:jY β0 w N (Dy as x) xs:=Wy hx
 have hxl:(Dy as x).length=xs.length:=hargs.length
 have Un:Sim C β0 ⟨zO (Dy as x) fn.ntmps,[]⟩ { tmps:=xs.toArray++Array.replicate (fn.ntmps - xs.toArray.size) undef,defers:=[] } w:=by
  refine ⟨⟨by simp,fun _ _=>rfl,by simp,by simp,hN,Keep.refl _ _,Nat.le_refl _,rfl,rfl,rfl,fun j o hj=>by cases hj⟩,rfl,by simp [zO,hxl],?_⟩
  intro i u hu
  simp only [zO] at hu
  by_cases hi:i < (Dy as x).length
  ·rw [List.getElem?_append_left hi] at hu
   have hi':i < xs.length:=by rw [<- hxl]; exact hi
   have hr:=hargs.get i hi hi'
   rw [List.getElem?_eq_getElem hi] at hu
   simp only [Option.some.injEq] at hu
   subst hu
   have:(xs.toArray++Array.replicate (fn.ntmps - xs.toArray.size) undef).getD i undef=xs[i]:=by
    rw [Array.getD_eq_getD_getElem?,Array.getElem?_append_left (by simpa using hi')]
    simp [hi']
   rw [this]
   refine hr.mono (Moves.refl β0) (Keep.refl _ w) (fun b j _ hb=>?_)
   rcases hb with hb | ⟨id,o,ho,_⟩
   ·exact hb
   ·simp at ho
  ·rw [List.getElem?_append_right (by omega),List.getElem?_replicate] at hu
   split at hu
   ·simp only [Option.some.injEq] at hu; subst hu; trivial
   ·cases hu
 refine calls_of_wp hf hb ?_
 refine zBe (P:=P) hT hΓ hm c an ha (uU an) _ _ y hF C β0 _ w _ rfl (Nat.le_refl _) Un ?_
 intro e x' σ' β' a' w' hs' hx' hk
 have fin:zJn T fn.results.toList rs σ'=some y->x'=.ret∨x'=.normal->bodyPost P fn (fun e w'=>∃ us:List Value,e=.returned (mD us)∧w'.os=w.os∧w'.tape=w.tape∧w'.output=w.output∧Keep (fun _ _=>False) w w'∧DensRel w' N rs y us) x' a' w':=by
  intro hk hx'
  unfold zJn at hk
  split at hk
  ·rename_i cc ss hrs
   split at hk
   ·rename_i y' hd
    obtain ⟨rfl,hk⟩:=jO hk
    obtain rfl:=Option.some.inj hk
    obtain ⟨us,h1,h2⟩:=zBg (C:=C) (β':=β0) (N':=N) (fn:=fn) hT hs' (fun _ _ _ hb=>hb) hrs
    have hkeep:Keep (fun _ _=>False) w w':=hs'.heap.frame
    have hR:=Xa hd h2
    rcases hx' with rfl | rfl
    ·exact ⟨hs'.defers,_,h1,us,rfl,hs'.heap.os,hs'.heap.tape,hs'.heap.output,hkeep,hR⟩
    ·exact ⟨hs'.defers,_,h1,us,rfl,hs'.heap.os,hs'.heap.tape,hs'.heap.output,hkeep,hR⟩
   ·cases hk
  ·cases hk
 cases e with
 | normal=>obtain rfl:=hx'; exact fin hk (.inr rfl)
 | ret=>obtain rfl:=hx'; exact fin hk (.inl rfl)
 | exit i=>simp [zJo] at hk
 | goto l=>simp [zJo] at hk
 | pan t u=>simp [zJo] at hk
def dU (as rs:List Ty) (F:bQ as->Option (bQ rs)):PE where
 R:=bQ rs
 use:=1
 run vs h:=match oZ (bC Ty.flat rs) h as vs with
  | some (c,x)=>some (c,F x)
  | none=>none
 enc y _ h:=(zPu (zJl rs y),h)
theorem zBh {C:Ctx} {β:Nat->Pl} {h:List Ob} {w:World} {bor:Bool} {t:Ty} {v:V} {x:t.den} {u:Value} (hd:Oe bor h t v=some (true,x)) (hs:bR C β h w) (hr:v.Rel β w (C.N β h) u) :
  t.iR w (zWp bor (C.N β h)) x u:=by
 unfold Oe at hd
 cases bor with
 | true =>
  simp only at hd ⊢
  split at hd
  ·rename_i c v' hv
   split at hd
   ·rename_i s hsum
    split at hd
    ·rename_i y hy
     simp only [Option.some.injEq,Prod.mk.injEq] at hd
     obtain ⟨rfl,rfl⟩:=hd
     obtain ⟨h1,_⟩:=V.nA (β':=β) (N':=fun _ _=>False) hv hs (fun _ _ _ h=>h.elim) hr
     exact Dz hy (V.Vb hsum h1)
    ·cases hd
   ·cases hd
  ·cases hd
 | false =>
  simp only at hd ⊢
  split at hd
  ·rename_i s hD hsum
   split at hd
   ·rename_i y hy
    simp only [Option.some.injEq,Prod.mk.injEq,true_and] at hd
    subst hd
    exact Dz hy (V.Vb hsum hr)
   ·cases hd
  ·cases hd
theorem Xb {C:Ctx} {β:Nat->Pl} {h:List Ob} {w:World} {bor:Bool} (hs:bR C β h w):∀ {ts:List Ty} {vs:List V} {x:bQ ts} {us:List Value},oZ bor h ts vs=some (true,x)->jY β w (C.N β h) vs us ->
  DensRel w (zWp bor (C.N β h)) ts x us
 | [],[],_,[],_,_=>rfl
 | [t],[v],x,[u],hd,hr=>⟨u,rfl,zBh hd hs hr.1⟩
 | t :: s :: r,v :: vs,x,u :: us,hd,hr=>by
  simp only [oZ] at hd
  split at hd
  ·rename_i c y d z h1 h2
   simp only [Option.some.injEq,Prod.mk.injEq,Bool.and_eq_true] at hd
   obtain ⟨⟨rfl,rfl⟩,rfl⟩:=hd
   exact ⟨u,us,rfl,zBh h1 hs hr.1,Xb hs h2 hr.2⟩
  ·cases hd
 | [],[],_,_ :: _,_,hr=>hr.elim
 | [],_ :: _,_,_,h,_=>by simp [oZ] at h
 | [t],[],_,_,h,_=>by simp [oZ] at h
 | [t],[s],_,[],_,hr=>hr.elim
 | [t],[s],_,_ :: _ :: _,_,hr=>hr.2.elim
 | [t],_ :: _ :: _,_,_,h,_=>by simp [oZ] at h
 | t :: u :: r,[],_,_,h,_=>by simp [oZ] at h
 | t :: u :: r,s :: ss,_,[],_,hr=>hr.elim
theorem zBi {h:List Ob}:∀ {l:L},l.isD=true->l.deep h=some (true,l)
 | .val ..,_=>rfl
 | .iO,_=>rfl
 | .aL,_=>rfl
 | .gP ..,_=>rfl
 | .clo f [],_=>rfl
 | .clo f (_ :: _),h=>by cases h
 | .ptr ..,h=>by cases h
 | .iN ..,h=>by cases h
 | .dX ..,h=>by cases h
 | .sl ..,h=>by cases h
 | .own ..,h=>by cases h
 | .bad _,h=>by cases h
 | .bJ ..,h=>by cases h
theorem Xc {h:List Ob}:∀ {ls:List L},bC L.isD ls=true->Dw h ls=some (true,ls)
 | [],_=>rfl
 | l :: ls,hd=>by
  simp only [bC,Bool.and_eq_true] at hd
  simp only [Dw,zBi hd.1,Xc hd.2,Bool.and_self]
theorem zBj {bor:Bool} {t:Ty} {v:V} (hd:v.isD=true) (h h2:List Ob):Oe bor h t v=Oe bor h2 t v:=by
 cases bor with
 | false=>rfl
 | true =>
  unfold Oe
  cases v with
  | one l=>simp only [V.deep,zBi (show l.isD=true from hd)]
  | agg ls=>simp only [V.deep,Xc (show bC L.isD ls=true from hd)]
  | _=>rfl
theorem Xd {bor:Bool}:∀ {ts:List Ty} {vs:List V} (_:bC V.isD vs=true) (h h2:List Ob),oZ bor h ts vs=oZ bor h2 ts vs
 | [],[],_,_,_=>rfl
 | [t],[v],hd,h,h2=>by
  simp only [bC,Bool.and_true] at hd
  simp only [oZ,zBj hd h h2]
 | t :: s :: r,v :: vs,hd,h,h2=>by
  simp only [bC,Bool.and_eq_true] at hd
  simp only [oZ,zBj hd.1 h h2,Xd (ts:=s :: r) hd.2 h h2]
 | [],_ :: _,_,_,_=>rfl
 | [t],[],_,_,_=>rfl
 | [t],_ :: _ :: _,_,_,_=>rfl
 | t :: s :: r,[],_,_,_=>rfl
theorem zBk {β:Nat->Pl} {w:World} {N:Nat->Nat->Prop} {ss:List (Sum L (List L))} {us:List Value} (h:aI (fP β w N) ss us):(zPu ss).Rel β w N (mD us):=by
 match ss,us,h with
 | [],[],_=>exact ⟨[],rfl,trivial⟩
 | [.inl l],[u],h=>exact h.1
 | [.inr ls],[u],h=>exact h.1
 | s :: t :: ss,u :: v :: us,h=>cases s <;> exact ⟨_,rfl,h⟩
theorem bI {f:FuncId} {as rs:List Ty} {F:bQ as->Option (bQ rs)} (h:Pure P f as rs F):(dU as rs F).OK P f:=by
 refine ⟨h.1,fun vs hp y hr C β w xs hP hs ha=>?_,fun _ vs h1 h2 hd=>⟨by simp only [dU]; rw [Xd hd h1 h2],fun _=>rfl⟩,fun _ _ _ _=>rfl⟩
 subst hP
 simp only [dU] at hr
 split at hr
 ·rename_i c x hd
  simp only [Option.some.injEq,Prod.mk.injEq] at hr
  obtain ⟨rfl,hF⟩:=hr
  have hx:=Xb hs hd ha
  have hn:∀ b j,C.N β hp b j->b < w.heap.size:=fun b j hb=>by
   rcases hb with hb | ⟨id,o,ho,_,hbk⟩
   ·exact Nat.lt_of_lt_of_le (hs.n0 b j hb) hs.size
   ·exact (hs.dY id o b ho ⟨j,hbk⟩).2.1
  refine (h.2 x y hF w _ xs (C.glob w hs.frame) (fun b j hb=>?_) hx).mono ?_
  ·cases hfl:bC Ty.flat rs with
   | true=>rw [hfl] at hb; exact hb.elim
   | false=>rw [hfl] at hb; exact hn b j hb
  ·rintro e w' ⟨us,rfl,ho,ht,hop,hk,hy⟩
   have hy':DensRel w' (C.N β hp) rs y us:=by
    cases hfl:bC Ty.flat rs with
    | true=>exact hy.flat hfl
    | false=>rw [hfl] at hy; exact hy
   refine ⟨_,_,β,⟨rfl,rfl⟩,Moves.refl β,hk.weaken fun _ _ h=>h.elim,fun _ _ _ h=>h,?_,_,rfl,zBk (Wz hy')⟩
   refine ⟨fun id o hob=>(hs.obj id o hob).mono (Moves.refl β) (hk.weaken fun _ _ h=>h.elim) (fun _ _ _ h=>h) fun b hb=>hk.block b (hs.dY id o b hob hb).2.1 (fun _ h=>h),hs.dead,hs.jL,?_,hs.n0,hs.frame.uN hk fun _ _ _ h=>h.elim,Nat.le_trans hs.size hk.size,ho.trans hs.os,ht.trans hs.tape,hop.trans hs.output,hs.fixed⟩
   ·intro id o b hob hb
    obtain ⟨k1,k2,k3⟩:=hs.dY id o b hob hb
    exact ⟨k1,Nat.lt_of_lt_of_le k2 hk.size,k3⟩
 ·cases hr
def pes:List (FuncId × PE)->FuncId->Option PE
 | [],_=>none
 | (g,e) :: r,f=>match Nat.beq g f with
  | true=>some e
  | false=>pes r f
def orc (ρ:Type) (l:List (FuncId × PE)):Orc ρ:=⟨pes l,fun _ _ _ _=>none⟩
theorem zWq {ρ:Type}:∀ {l:List (FuncId × PE)},(∀ p ∈ l,p.2.OK P p.1)->gG P (orc ρ l):=by
 intro l h
 refine ⟨fun f e he=>?_,fun _ _ _ _ _ h=>by cases h⟩
 simp only [orc] at he
 induction l with
 | nil=>cases he
 | cons p r ih =>
  obtain ⟨g,e'⟩:=p
  simp only [pes] at he
  split at he
  ·rename_i hb
   have:=Nat.eq_of_beq_eq_true hb
   subst this
   simp only [Option.some.injEq] at he
   subst he
   exact h _ (.head _)
  ·exact ih (fun p hp=>h p (.tail _ hp)) he
theorem all_nil {Q:FuncId × PE->Prop}:∀ p ∈ ([]:List (FuncId × PE)),Q p:=fun _ h=>by cases h
theorem all_cons {Q:FuncId × PE->Prop} {p:FuncId × PE} {l:List (FuncId × PE)} (h:Q p) (hl:∀ q ∈ l,Q q):∀ q ∈ p :: l,Q q:=fun q hq=>by
 cases hq with
 | head=>exact h
 | tail _ hq=>exact hl q hq
end
end Go.Dec
namespace Go.Dec
mutual
def L.back (f v:Nat->Nat):L->L
 | .ptr id o=>.ptr (f id) o
 | .bJ id o=>.bJ (f id) o
 | .iN id o es i sub=>.iN (f id) o es i sub
 | .dX id u i o=>.dX (f id) (u+v id) i o
 | .sl id u i n=>.sl (f id) (u+v id) i n
 | .own id u=>.own (f id) (u+v id)
 | .clo g caps=>.clo g (L.backs f v caps)
 | .mp id=>.mp (f id)
 | l=>l
def L.backs (f v:Nat->Nat):List L->List L
 | []=>[]
 | l :: ls=>l.back f v :: L.backs f v ls
end
def V.back (f v:Nat->Nat):V->V
 | .one l=>.one (l.back f v)
 | .agg ls=>.agg (L.backs f v ls)
 | _=>.aX
def Ob.back (f v:Nat->Nat) (id:Nat):Ob->Ob
 | .box e ls=>.box e (L.backs f v ls)
 | .arr e t u rows wr=>.arr e t (u+v id) rows wr
 | .fm tab=>.fm tab
section
variable {β β':Nat->Pl} {w:World} {N N':Nat->Nat->Prop}
structure Iw (p q:Pl) (v:Nat):Prop where
 live:q.live=p.live
 box:q.box=p.box
 blk:q.blk=p.blk
 row:p.box=false->q.ver=p.ver+v∧q.size=p.size∧q.cap=p.cap∧q.len=p.len
theorem Iw.zSc {p q:Pl} {v:Nat} (h:Iw p q v) (hb:p.box=false) {off len:Nat} {c:Value}:dD q off len c <-> dD p off len c:=by
 obtain ⟨_,h2,h3,_⟩:=h.row hb
 unfold dD
 rw [h.blk,h2,h3]
mutual
theorem L.Rel.back {f v:Nat->Nat} (hβ:∀ j,(β j).live=true->Iw (β j) (β' (f j)) (v j)) (hN:∀ b j,b < w.heap.size->N' b j->N b j):∀ {l:L} {cs:List Value},l.Rel β w N cs->(l.back f v).Rel β' w N' cs
 | .val t x,cs,h=>by simp only [L.back,L.Rel] at *; exact Ty.Rel.mono (Keep.refl _ w) hN h
 | .ptr id off,cs,h=>by
  simp only [L.back,L.Rel] at *
  obtain ⟨h1,h2,h3⟩:=h
  have:=hβ id h1
  exact ⟨this.live ▸ h1,this.box ▸ h2,by rw [this.blk]; exact h3⟩
 | .iN id off es i sub,cs,h=>by
  simp only [L.back,L.Rel] at *
  obtain ⟨h1,h2,h3⟩:=h
  have:=hβ id h1
  exact ⟨this.live ▸ h1,this.box ▸ h2,by rw [this.blk]; exact h3⟩
 | .iO,cs,h=>by simp only [L.back,L.Rel] at *; exact h
 | .bJ id off,cs,h=>by
  simp only [L.back,L.Rel] at *
  obtain ⟨c,e,h⟩:=h
  refine ⟨c,e,?_⟩
  rcases h with h | ⟨h1,h2,h3⟩
  ·exact .inl h
  ·have:=hβ id h1
   exact .inr ⟨this.live ▸ h1,this.box ▸ h2,by rw [this.blk]; exact h3⟩
 | .dX id u i off,cs,h=>by
  simp only [L.back,L.Rel] at *
  obtain ⟨h1,h2,h3,c,h4,h5,h6⟩:=h
  have:=hβ id h1
  obtain ⟨g1,g2,g3,g4⟩:=this.row h2
  refine ⟨this.live ▸ h1,this.box ▸ h2,by omega,c,h4,h5,fun hv=>?_⟩
  rw [this.blk,g2]
  exact h6 (by omega)
 | .gP t x off,cs,h=>by simp only [L.back,L.Rel] at *; obtain ⟨c,hc,hr⟩:=h; exact ⟨c,hc,hr.mono (Keep.refl _ w) hN⟩
 | .sl id u off len,cs,h=>by
  simp only [L.back,L.Rel] at *
  obtain ⟨h1,h2,h3,c,h4,h5,h6⟩:=h
  have:=hβ id h1
  obtain ⟨g1,g2,g3,g4⟩:=this.row h2
  exact ⟨this.live ▸ h1,this.box ▸ h2,by omega,c,h4,h5,fun hv=>(this.zSc h2).2 (h6 (by omega))⟩
 | .own id u,cs,h=>by
  simp only [L.back,L.Rel] at *
  obtain ⟨h1,h2,h3,c,h4,h5,h6⟩:=h
  have:=hβ id h1
  obtain ⟨g1,g2,g3,g4⟩:=this.row h2
  exact ⟨this.live ▸ h1,this.box ▸ h2,by omega,c,h4,h5,fun hv=>by rw [g4]; exact (this.zSc h2).2 (h6 (by omega))⟩
 | .aL,cs,h=>by simp only [L.back,L.Rel] at *; exact h
 | .clo g caps,cs,h=>by
  simp only [L.back,L.Rel] at *
  obtain ⟨us,hc,hr⟩:=h
  exact ⟨us,hc,L.bH.back hβ hN hr⟩
 | .bad n,cs,h=>by simp only [L.back,L.Rel] at *; exact h
 | .vH x tab,cs,h=>by simp only [L.back,L.Rel] at *; exact h
 | .mp id,cs,h=>by
  simp only [L.back,L.Rel] at *
  obtain ⟨h1,h2,h3⟩:=h
  have:=hβ id h1
  exact ⟨this.live ▸ h1,this.box ▸ h2,by rw [this.blk]; exact h3⟩
theorem L.bH.back {f v:Nat->Nat} (hβ:∀ j,(β j).live=true->Iw (β j) (β' (f j)) (v j)) (hN:∀ b j,b < w.heap.size->N' b j->N b j):∀ {ls:List L} {us:List Value},L.bH β w N ls us->L.bH β' w N' (L.backs f v ls) us
 | [],us,h=>by simp only [L.backs,L.bH] at *; exact h
 | l :: ls,us,h=>by
  simp only [L.backs,L.bH] at *
  obtain ⟨u,r,e,h1,h2⟩:=h
  exact ⟨u,r,e,L.Rel.back hβ hN h1,L.bH.back hβ hN h2⟩
end
theorem aC.back {f v:Nat->Nat} (hβ:∀ j,(β j).live=true->Iw (β j) (β' (f j)) (v j)) (hN:∀ b j,b < w.heap.size->N' b j->N b j):∀ {ls:List L} {cs:List Value},aC β w N ls cs->aC β' w N' (L.backs f v ls) cs
 | [],_,h=>h
 | _l :: _ls,_,⟨c1,c2,e,h1,h2⟩=>⟨c1,c2,e,h1.back hβ hN,aC.back hβ hN h2⟩
theorem V.Rel.back {f v:Nat->Nat} (hβ:∀ j,(β j).live=true->Iw (β j) (β' (f j)) (v j)) (hN:∀ b j,b < w.heap.size->N' b j->N b j) {x:V} {u:Value} (h:x.Rel β w N u):(x.back f v).Rel β' w N' u:=by
 cases x with
 | one l=>exact L.Rel.back hβ hN h
 | agg ls=>obtain ⟨cs,e,h⟩:=h; exact ⟨cs,e,h.back hβ hN⟩
 | _=>trivial
theorem Ob.Rel.back {f v:Nat->Nat} (hβ:∀ j,(β j).live=true->Iw (β j) (β' (f j)) (v j)) (hN:∀ b j,b < w.heap.size->N' b j->N b j) {id:Nat} {o:Ob} (h:o.Rel β w N (β id)):(o.back f v id).Rel β' w N' (β' (f id)):=by
 cases o with
 | box e ls =>
  simp only [Ob.back,Ob.Rel] at *
  obtain ⟨h1,h2,b,cs,h3,h4,h5⟩:=h
  have:=hβ id h1
  exact ⟨this.live ▸ h1,this.box ▸ h2,b,cs,this.blk ▸ h3,h4.back hβ hN,h5⟩
 | arr e t u rows wr =>
  simp only [Ob.back,Ob.Rel] at *
  obtain ⟨h1,h2,h3,h4,h5,h6,h7⟩:=h
  have:=hβ id h1
  obtain ⟨g1,g2,g3,g4⟩:=this.row h2
  refine ⟨this.live ▸ h1,this.box ▸ h2,by omega,by rw [g2,h4],h5,by rw [g4,h6],?_⟩
  rw [this.blk,g3]
  rcases h7 with h7 | ⟨b,cur,css,k1,k2,k3,k4⟩
  ·exact .inl h7
  ·exact .inr ⟨b,cur,css,k1,k2,k3.mono fun _ _ h=>h.mono (Keep.refl _ w) hN,k4⟩
 | fm tab =>
  simp only [Ob.back,Ob.Rel] at *
  obtain ⟨h1,h2,b,es,n,h3,h4⟩:=h
  have:=hβ id h1
  exact ⟨this.live ▸ h1,this.box ▸ h2,b,es,n,this.blk ▸ h3,h4⟩
end
def jB (P:Program) (f:FuncId) (si so:Sh) (F:si.X->Option so.X):Prop :=
 gQ P f=true∧∀ x y,F x=some y->∀ (C:Ctx) (β:Nat->Pl) (w:World) (xs:List Value),C.P=P->C.fix.length <= si.os.length->Sim C β (si.enc x) { tmps:=xs.toArray,defers:=[] } w ->
  Calls P f xs.toArray w fun e w'=>∃ (us:List Value) (β':Nat->Pl),e=.returned (mD us)∧Sim C β' (so.enc y) { tmps:=us.toArray,defers:=[] } w'
def Qs:List V->Option (List (Sum L (List L)))
 | []=>some []
 | v :: r=>match v.sum,Qs r with
  | some s,some ss=>some (s :: ss)
  | _,_=>none
def zPw (vs:List V):V :=
 match Qs vs with
 | some ss=>zPu ss
 | none=>.aX
def Og (g:Nat->Option Ob):Nat->List Ob->List Ob
 | _,[]=>[]
 | i,o :: r=>(match g i with | some o'=>o' | none=>o) :: Og g (i+1) r
def pR (f v:Nat->Nat):Nat->List Ob->List Ob
 | _,[]=>[]
 | j,o :: r=>o.back f v j :: pR f v (j+1) r
def sN:List Ob->List OS->Bool
 | [],_=>true
 | .box .. :: r,_ :: s=>sN r s
 | .fm .. :: r,_ :: s=>sN r s
 | .arr .. :: r,.row .. :: s=>sN r s
 | _,_=>false
def jC (ρ:List Nat) (n:Nat) (j:Nat):Nat:=match ρ[j]? with | some i=>i | none=>n+(j - ρ.length)
def jP (ρ:List Nat) (h:List Ob) (j:Nat):Nat:=match ρ[j]? with
 | some i=>(match h[i]? with | some (.arr _ _ u _ _)=>u+1 | _=>0)
 | none=>0
def jZ (ρ:List Nat) (h hy:List Ob):List Ob :=
 Og (fun i=>match pos i ρ 0 with | some j=>(match hy[j]? with | some o=>some (o.back (jC ρ h.length) (jP ρ h) j) | none=>none) | none=>none) 0 h++pR (jC ρ h.length) (jP ρ h) ρ.length (hy.drop ρ.length)
def zBl (ρ:List Nat) (h:List Ob) (si so:Sh):Bool :=
 nodupB ρ && (bC (fun i=>Nat.blt i h.length) ρ && (Nat.beq ρ.length si.os.length && (bC Ob.wr (inH ρ h) && sN (inH ρ h) so.os)))
def peM (si so:Sh) (F:si.X->Option so.X):PE where
 R:=so.X
 use:=2
 run vs h:=match si.dec ⟨vs.map (V.ren (reach vs h) h),inH (reach vs h) h⟩ with
  | some x=>some (zBl (reach vs h) h si so,F x)
  | none=>none
 enc y vs h:=(zPw ((so.enc y).r.map (V.back (jC (reach vs h) h.length) (jP (reach vs h) h))),jZ (reach vs h) h (so.enc y).h)
theorem zBm {g:Nat->Option Ob}:∀ {h:List Ob} {n i:Nat},(Og g n h)[i]?=(h[i]?).map fun o=>(match g (n+i) with | some o'=>o' | none=>o)
 | [],n,i=>by simp [Og]
 | o :: r,n,0=>by simp [Og]
 | o :: r,n,i+1=>by
  simp only [Og,List.getElem?_cons_succ]
  rw [zBm (h:=r),show n+1+i=n+(i+1) by omega]
theorem oN {g:Nat->Option Ob}:∀ {h:List Ob} {n:Nat},(Og g n h).length=h.length
 | [],_=>rfl
 | _ :: r,n=>congrArg (· + 1) (oN (h:=r) (n:=n+1))
theorem Iy {f v:Nat->Nat}:∀ {h:List Ob} {n i:Nat},(pR f v n h)[i]?=(h[i]?).map fun o=>o.back f v (n+i)
 | [],n,i=>by simp [pR]
 | o :: r,n,0=>by simp [pR]
 | o :: r,n,i+1=>by
  simp only [pR,List.getElem?_cons_succ]
  rw [Iy (h:=r),show n+1+i=n+(i+1) by omega]
theorem zQ {f v:Nat->Nat}:∀ {h:List Ob} {n:Nat},(pR f v n h).length=h.length
 | [],_=>rfl
 | _ :: r,n=>congrArg (· + 1) (zQ (h:=r) (n:=n+1))
theorem Ob.Iz {f v:Nat->Nat} {j:Nat} (o:Ob):(o.back f v j).iX=o.iX:=by cases o <;> rfl
theorem Ob.sO {f v:Nat->Nat} {j:Nat} (o:Ob):(o.back f v j).wr=o.wr:=by cases o <;> rfl
theorem tX:∀ {hc:List Ob} {os:List OS} {j:Nat} {e:TypeId} {t:Ty} {u:Nat} {rows:List t.den} {wr:Bool},sN hc os=true->hc[j]?=some (.arr e t u rows wr)->∃ e' t',os[j]?=some (.row e' t')
 | [],_,j,_,_,_,_,_,_,h=>by simp at h
 | .box .. :: r,[],j,_,_,_,_,_,hk,_=>by cases hk
 | .box .. :: r,s :: os,0,_,_,_,_,_,_,h=>by simp at h
 | .box .. :: r,s :: os,j+1,_,_,_,_,_,hk,h=>by
  obtain ⟨e',t',h'⟩:=tX (hc:=r) (os:=os) (j:=j) hk (by simpa using h)
  exact ⟨e',t',by simpa using h'⟩
 | .fm .. :: r,[],j,_,_,_,_,_,hk,_=>by cases hk
 | .fm .. :: r,s :: os,0,_,_,_,_,_,_,h=>by simp at h
 | .fm .. :: r,s :: os,j+1,_,_,_,_,_,hk,h=>by
  obtain ⟨e',t',h'⟩:=tX (hc:=r) (os:=os) (j:=j) hk (by simpa using h)
  exact ⟨e',t',by simpa using h'⟩
 | .arr .. :: r,.fm .. :: os,j,_,_,_,_,_,hk,_=>by cases hk
 | .arr .. :: r,[],j,_,_,_,_,_,hk,_=>by cases hk
 | .arr .. :: r,.box .. :: os,j,_,_,_,_,_,hk,_=>by cases hk
 | .arr .. :: r,.row e t :: os,0,_,_,_,_,_,_,_=>⟨e,t,rfl⟩
 | .arr .. :: r,.row e t :: os,j+1,_,_,_,_,_,hk,h=>by
  obtain ⟨e',t',h'⟩:=tX (hc:=r) (os:=os) (j:=j) hk (by simpa using h)
  exact ⟨e',t',by simpa using h'⟩
theorem zR {A:Type}:∀ {os:List OS} {x:OTs os A} {j:Nat} {e:TypeId} {t:Ty},os[j]?=some (.row e t)->∃ rows,(fQ os x).1[j]?=some (.arr e t 0 rows true)
 | [],_,j,_,_,h=>by simp at h
 | .box e0 ls :: r,x,0,_,_,h=>by simp at h
 | .box e0 ls :: r,x,j+1,e,t,h=>by
  obtain ⟨rows,h'⟩:=zR (os:=r) (x:=(bM ls x).2) (j:=j) (by simpa using h)
  exact ⟨rows,by simpa [fQ] using h'⟩
 | .fm tab :: r,x,0,_,_,h=>by simp at h
 | .fm tab :: r,x,j+1,e,t,h=>by
  obtain ⟨rows,h'⟩:=zR (os:=r) (x:=x) (j:=j) (by simpa using h)
  exact ⟨rows,by simpa [fQ] using h'⟩
 | .row e0 t0 :: r,x,0,e,t,h=>by
  simp only [List.getElem?_cons_zero,Option.some.injEq,OS.row.injEq] at h
  obtain ⟨rfl,rfl⟩:=h
  exact ⟨x.1,rfl⟩
 | .row e0 t0 :: r,x,j+1,e,t,h=>by
  obtain ⟨rows,h'⟩:=zR (os:=r) (x:=x.2) (j:=j) (by simpa using h)
  exact ⟨rows,by simpa [fQ] using h'⟩
theorem Ea {A:Type}:∀ {os:List OS} {x:OTs os A} {j:Nat} {o:Ob},(fQ os x).1[j]?=some o->o.wr=true
 | [],_,j,_,h=>by simp [fQ] at h
 | .box e0 ls :: r,x,0,_,h=>by simp only [fQ,List.getElem?_cons_zero,Option.some.injEq] at h; subst h; rfl
 | .box e0 ls :: r,x,j+1,o,h=>Ea (os:=r) (x:=(bM ls x).2) (j:=j) (by simpa [fQ] using h)
 | .fm tab :: r,x,0,_,h=>by simp only [fQ,List.getElem?_cons_zero,Option.some.injEq] at h; subst h; rfl
 | .fm tab :: r,x,j+1,o,h=>Ea (os:=r) (x:=x) (j:=j) (by simpa [fQ] using h)
 | .row e0 t0 :: r,x,0,_,h=>by simp only [fQ,List.getElem?_cons_zero,Option.some.injEq] at h; subst h; rfl
 | .row e0 t0 :: r,x,j+1,o,h=>Ea (os:=r) (x:=x.2) (j:=j) (by simpa [fQ] using h)
theorem Xe {β:Nat->Pl} {w:World} {N:Nat->Nat->Prop}:∀ {vs:List V} {us:List Value} {ss:List (Sum L (List L))},Qs vs=some ss->aI (fun v u=>V.Rel β w N v u) vs us->aI (fP β w N) ss us
 | [],[],ss,h,_=>by simp only [Qs,Option.some.injEq] at h; subst h; trivial
 | v :: vs,u :: us,ss,h,hr=>by
  simp only [Qs] at h
  split at h
  ·rename_i s ss' h1 h2
   simp only [Option.some.injEq] at h
   subst h
   exact ⟨V.Vb h1 hr.1,Xe h2 hr.2⟩
  ·cases h
 | [],_ :: _,_,_,hr=>hr.elim
 | _ :: _,[],_,_,hr=>hr.elim
theorem zPx {β:Nat->Pl} {w:World} {N:Nat->Nat->Prop} {vs:List V} {us:List Value} (hr:aI (fun v u=>V.Rel β w N v u) vs us):(zPw vs).Rel β w N (mD us):=by
 unfold zPw
 split
 ·rename_i ss h
  exact zBk (Xe h hr)
 ·trivial
theorem zGu {α γ:Type} {R:α->γ->Prop}:∀ {x:List α} {y:List γ},x.length=y.length->(∀ (i:Nat) (a:α) (b:γ),x[i]?=some a->y[i]?=some b->R a b)->aI R x y
 | [],[],_,_=>trivial
 | a :: x,b :: y,hl,h=>⟨h 0 a b rfl rfl,zGu (by simpa using hl) fun i c d hc hd=>h (i+1) c d (by simpa using hc) (by simpa using hd)⟩
 | [],_ :: _,hl,_=>by simp at hl
 | _ :: _,[],hl,_=>by simp at hl
end Go.Dec
namespace Go.Dec
section
variable {P:Program} {f:FuncId} {si so:Sh} {F:si.X->Option so.X}
theorem zFm {ρ:List Nat} {h:List Ob} (hc:zBl ρ h si so=true):nodupB ρ=true∧(∀ i ∈ ρ,i < h.length)∧ρ.length=si.os.length∧(∀ (j:Nat) (o:Ob),(inH ρ h)[j]?=some o->o.wr=true)∧sN (inH ρ h) so.os=true:=by
 simp only [zBl,Bool.and_eq_true] at hc
 obtain ⟨h1,h2,h3,h4,h5⟩:=hc
 refine ⟨h1,fun i hi=>?_,Nat.eq_of_beq_eq_true h3,fun j o ho=>mX h4 j o ho,h5⟩
 obtain ⟨n,hn⟩:=List.getElem?_of_mem hi
 exact Nat.le_of_ble_eq_true (mX h2 n i hn)
def pE:Ob->Bool
 | .box .. => true
 | .arr .. => false
 | .fm _=>true
def zS (β:Nat->Pl) (h:List Ob) (i:Nat):Option Nat:=match pE (Dr h i) with | true=>(β i).blk | false=>none
def inC (C:Ctx) (β:Nat->Pl) (h:List Ob) (w:World) (ρ:List Nat) (hs:bR C β h w):Ctx where
 P:=C.P
 N0 b j:=C.N β h b j∧∀ i ∈ ρ,∀ o,h[i]?=some o->¬ o.blks (β i) b
 w0:=w
 xD b j:=∃ (i:Nat) (o:Ob),i ∈ ρ∧h[i]?=some o∧o.wr=true∧o.at (β i) b j
 glob w' hw:=C.glob w' (hs.frame.uN hw fun b j hb hm=>by
  obtain ⟨i,o,_,ho,hwo,hbk⟩:=hm
  rcases (hs.dY i o b ho ⟨j,hbk⟩).2.2 with h1 | h1
  ·omega
  ·exact h1 j hwo hbk)
 fix:=ρ.map (zS β h)
theorem zWr {C:Ctx} {β:Nat->Pl} {w:World} {h:List Ob} {ρ:List Nat} {vs:List V} {xs:List Value} (hs:bR C β h w) (ha:jY β w (C.N β h) vs xs) (hnd:nodupB ρ=true) (hlt:∀ i ∈ ρ,i < h.length) :
  Sim (inC C β h w ρ hs) (sK β ρ) ⟨vs.map (V.ren ρ h),inH ρ h⟩ { tmps:=xs.toArray,defers:=[] } w:=by
 have zAy:=zAx hs hlt
 have hget:∀ i ∈ ρ,∃ o,h[i]?=some o:=fun i hi=>⟨h[i]'(hlt i hi),by simp [hlt i hi]⟩
 have hβ:∀ {j i:Nat},ρ[j]?=some i->sK β ρ j={ β i with ver:=0 }:=fun hi=>by simp only [sK,hi]
 have hNw:∀ b j,C.N β h b j->b < w.heap.size:=fun b j hb=>by
  rcases hb with hb | ⟨id,o,ho,_,hbk⟩
  ·exact Nat.lt_of_lt_of_le (hs.n0 b j hb) hs.size
  ·exact (hs.dY id o b ho ⟨j,hbk⟩).2.1
 have hN:∀ b j,b < w.heap.size->(inC C β h w ρ hs).N (sK β ρ) (inH ρ h) b j->C.N β h b j:=fun b k _ hb=>by
  rcases hb with hb | ⟨j,o,ho,hw,hbk⟩
  ·exact hb.1
  ·obtain ⟨i,hi,rfl⟩:=mH ho
   obtain ⟨o',ho'⟩:=hget i (List.mem_of_getElem? hi)
   rw [dK ho',Ob.Ip] at hw
   rw [dK ho',hβ hi] at hbk
   exact .inr ⟨i,o',ho',hw,Ob.nS (Ob.lN ρ h o') rfl rfl hbk⟩
 refine ⟨⟨?_,?_,?_,?_,fun b j hb=>hNw b j hb.1,Keep.refl _ _,Nat.le_refl _,rfl,rfl,rfl,?_⟩,rfl,by simpa using aI.length ha,?_⟩
 ·intro j o ho
  obtain ⟨i,hi,rfl⟩:=mH ho
  obtain ⟨o',ho'⟩:=hget i (List.mem_of_getElem? hi)
  rw [dK ho',hβ hi]
  have hob:=hs.obj i o' ho'
  cases o' with
  | box e ls =>
   simp only [Ob.ren,Ob.Rel] at *
   obtain ⟨h1,h2,b,cs,h3,h4,h5⟩:=hob
   exact ⟨h1,h2,b,cs,h3,h4.qR zAy hN,h5⟩
  | arr e t v rows wr =>
   simp only [Ob.ren,Ob.Rel] at *
   obtain ⟨h1,h2,h3,h4,h5,h6,h7⟩:=hob
   refine ⟨h1,h2,trivial,h4,h5,h6,?_⟩
   rcases h7 with h7 | ⟨b,cur,css,k1,k2,k3,k4⟩
   ·exact .inl h7
   ·exact .inr ⟨b,cur,css,k1,k2,k3.mono fun _ _ h=>h.mono (Keep.refl _ w) hN,k4⟩
  | fm tab=>simp only [Ob.ren,Ob.Rel] at *; exact hob
 ·intro j hj
  simp only [inH,List.length_map] at hj
  simp only [sK,List.getElem?_eq_none hj]
 ·intro i j o1 o2 b h1 h2 hb1 hb2
  obtain ⟨i',hi,rfl⟩:=mH h1
  obtain ⟨j',hj,rfl⟩:=mH h2
  obtain ⟨o1',ho1⟩:=hget i' (List.mem_of_getElem? hi)
  obtain ⟨o2',ho2⟩:=hget j' (List.mem_of_getElem? hj)
  rw [hβ hi,dK ho1] at hb1
  rw [hβ hj,dK ho2] at hb2
  have:=hs.jL i' j' o1' o2' b ho1 ho2 (Ob.gK (Ob.lN ρ h o1') rfl rfl hb1) (Ob.gK (Ob.lN ρ h o2') rfl rfl hb2)
  subst this
  exact wI hnd hi hj
 ·intro j o b ho hb
  obtain ⟨i,hi,rfl⟩:=mH ho
  obtain ⟨o',ho'⟩:=hget i (List.mem_of_getElem? hi)
  rw [dK ho',hβ hi] at hb ⊢
  have hb':=Ob.gK (o':=o') (p':=β i) (Ob.lN ρ h o') rfl rfl hb
  exact ⟨fun k hn=>hn.2 i (List.mem_of_getElem? hi) o' ho' hb',(hs.dY i o' b ho' hb').2.1,.inr fun k hw hk=>⟨i,o',List.mem_of_getElem? hi,ho',by rw [Ob.Ip] at hw; exact hw,Ob.nS (Ob.lN ρ h o') rfl rfl hk⟩⟩
 ·intro j o hj
  simp only [inC,List.getElem?_map,Option.map_eq_some_iff] at hj
  obtain ⟨i,hi,rfl⟩:=hj
  refine ⟨by simpa [inH] using (List.getElem?_eq_some_iff.1 hi).1,fun b hb=>?_⟩
  obtain ⟨o',ho'⟩:=hget i (List.mem_of_getElem? hi)
  have hob:=hs.obj i o' ho'
  rw [hβ hi]
  unfold zS at hb
  rw [dK ho'] at hb
  cases o' with
  | box e ls =>
   simp only [Ob.Rel] at hob
   exact ⟨hb,hob.2.1⟩
  | arr e t v rows wr=>cases hb
  | fm tab =>
   simp only [Ob.Rel] at hob
   exact ⟨hb,hob.2.1⟩
 ·intro i v hv
  simp only [List.getElem?_map,Option.map_eq_some_iff] at hv
  obtain ⟨v0,hv0,rfl⟩:=hv
  have hl:i < xs.length:=by rw [<- aI.length ha]; exact (List.getElem?_eq_some_iff.1 hv0).1
  have hr:=ha.get i (List.getElem?_eq_some_iff.1 hv0).1 hl
  have e:vs[i]'(List.getElem?_eq_some_iff.1 hv0).1=v0:=(List.getElem?_eq_some_iff.1 hv0).2
  rw [e] at hr
  have e2:(xs.toArray).getD i undef=xs[i]:=by simp [hl]
  simp only [e2]
  exact hr.qR zAy hN
def gN (β β':Nat->Pl) (ρ:List Nat) (h:List Ob):Nat->Pl:=fun i =>
 match pos i ρ 0 with
 | some j=>match pE (Dr h i) with
  | true=>β i
  | false=>{ β' j with ver:=(β' j).ver+jP ρ h j }
 | none=>if i < h.length then β i else β' (i - h.length+ρ.length)
theorem Al {ρ:List Nat} {h hy:List Ob} (hk:ρ.length <= hy.length) {id:Nat} {o:Ob} (ho:(jZ ρ h hy)[id]?=some o) :
  (id < h.length∧pos id ρ 0=none∧h[id]?=some o)∨(∃ j ob oy,id < h.length∧ρ[j]?=some id∧pos id ρ 0=some j∧h[id]?=some ob∧hy[j]?=some oy∧o=oy.back (jC ρ h.length) (jP ρ h) j) ∨
   ∃ j oy,ρ.length <= j∧id=h.length+(j - ρ.length)∧hy[j]?=some oy∧o=oy.back (jC ρ h.length) (jP ρ h) j:=by
 unfold jZ at ho
 by_cases hid:id < h.length
 ·rw [List.getElem?_append_left (by rw [oN]; exact hid),zBm,Nat.zero_add] at ho
  obtain ⟨ob,hob⟩:∃ ob,h[id]?=some ob:=⟨h[id],by simp [hid]⟩
  rw [hob] at ho
  simp only [Option.map_some,Option.some.injEq] at ho
  cases hp:pos id ρ 0 with
  | none =>
   rw [hp] at ho
   simp only at ho
   exact .inl ⟨hid,rfl,by rw [hob,ho]⟩
  | some j =>
   obtain ⟨m,hm,hi⟩:=sG hp
   rw [Nat.zero_add] at hm
   subst hm
   have hj:j < hy.length:=Nat.lt_of_lt_of_le (List.getElem?_eq_some_iff.1 hi).1 hk
   have hyj:hy[j]?=some hy[j]:=by simp [hj]
   rw [hp] at ho
   simp only [hyj] at ho
   exact .inr (.inl ⟨j,ob,hy[j],hid,hi,rfl,hob,hyj,ho.symm⟩)
 ·rw [List.getElem?_append_right (by rw [oN]; omega),oN,Iy,List.getElem?_drop] at ho
  simp only [Option.map_eq_some_iff] at ho
  obtain ⟨oy,h1,h2⟩:=ho
  exact .inr (.inr ⟨ρ.length+(id - h.length),oy,by omega,by omega,h1,h2.symm⟩)
theorem Br {ρ:List Nat} {h hy:List Ob}:(jZ ρ h hy).length=h.length+(hy.length - ρ.length):=by
 simp [jZ,oN,zQ]
theorem zPy {C:Ctx} {β:Nat->Pl} {h:List Ob} {w w':World} {ρ:List Nat} (hs:bR C β h w) (hnd:nodupB ρ=true) (hlt:∀ i ∈ ρ,i < h.length) (hwr:∀ (j:Nat) (o:Ob),(inH ρ h)[j]?=some o->o.wr=true) (zBn:sN (inH ρ h) so.os=true)
  {y:so.X} {us:List Value} {β':Nat->Pl} (hs':Sim (inC C β h w ρ hs) β' (so.enc y) { tmps:=us.toArray,defers:=[] } w') :
  ∃ β2,Moves β β2∧Keep (C.N β h) w w'∧(∀ b j,b < w.heap.size->C.N β2 (jZ ρ h (so.enc y).h) b j->C.N β h b j)∧bR C β2 (jZ ρ h (so.enc y).h) w' ∧
   aI (fun v u=>V.Rel β2 w' (C.N β2 (jZ ρ h (so.enc y).h)) v u) ((so.enc y).r.map (V.back (jC ρ h.length) (jP ρ h))) us:=by
 generalize hhy:(so.enc y).h=hy at *
 have hget:∀ i ∈ ρ,∃ o,h[i]?=some o:=fun i hi=>⟨h[i]'(hlt i hi),by simp [hlt i hi]⟩
 have hfix:∀ {j i:Nat},ρ[j]?=some i->j < hy.length∧∀ b,zS β h i=some b->(β' j).blk=some b∧(β' j).box=true:=fun {j i} hi=>by
  have:=hs'.heap.fixed j (zS β h i) (by simp [inC,hi])
  rw [hhy] at this
  exact this
 have hk:ρ.length <= hy.length:=by
  rcases Nat.lt_or_ge hy.length ρ.length with h1 | h1
  ·have:=(hfix (j:=hy.length) (i:=ρ[hy.length]) (by simp [h1])).1
   omega
  ·exact h1
 have yCp:∀ i ∈ ρ,∀ o,h[i]?=some o->o.wr=true:=fun i hi o ho=>by
  obtain ⟨n,hn⟩:=List.getElem?_of_mem hi
  have:=hwr n ((Dr h i).ren ρ h) (by simp [inH,hn])
  rw [Ob.Ip,dK ho] at this
  exact this
 have hrow:∀ {j i:Nat} {o:Ob},ρ[j]?=some i->h[i]?=some o->pE o=false->∃ oy,hy[j]?=some oy∧pE oy=false:=fun {j i o} hi ho hb=>by
  cases o with
  | box e ls=>cases hb
  | fm tab=>cases hb
  | arr e t u rows wr =>
   obtain ⟨e',t',hrw⟩:=tX (j:=j) (e:=e) (t:=t) (u:=0) (rows:=rows) (wr:=wr) zBn (by simp [inH,hi,dK ho,Ob.ren])
   obtain ⟨rows',hr'⟩:=zR (A:=Unit) (x:=(zM so.rs (List.replicate so.n .aX) y).2) hrw
   exact ⟨_,by rw [<- hhy]; exact hr',rfl⟩
 have Vd:=hs'.heap.obj
 rw [hhy] at Vd
 have zNa:∀ j,hy.length <= j->(β' j).live=false:=fun j hj=>hs'.heap.dead j (by rw [hhy]; exact hj)
 have Bu:=hs'.heap.dY
 rw [hhy] at Bu
 have zGv:=hs'.heap.jL
 rw [hhy] at zGv
 have zJp:∀ {j i:Nat} {o:Ob},ρ[j]?=some i->h[i]?=some o->pE o=true->(β' j).box=true∧(β' j).blk=(β i).blk∧(β i).box=true∧(β i).live=true∧(β' j).live=true:=fun {j i o} hi ho hb=>by
  have hob:=hs.obj i o ho
  obtain ⟨hj,hfx⟩:=hfix hi
  cases o with
  | arr=>cases hb
  | fm tab =>
   simp only [Ob.Rel] at hob
   obtain ⟨k1,k2,b,es,n,k3,_⟩:=hob
   have hfo:zS β h i=some b:=by simp only [zS,dK ho,pE,k3]
   obtain ⟨g1,g2⟩:=hfx b hfo
   exact ⟨g2,by rw [g1,k3],k2,k1,(Vd j hy[j] (by simp [hj])).live⟩
  | box e ls =>
   simp only [Ob.Rel] at hob
   obtain ⟨k1,k2,b,cs,k3,_⟩:=hob
   have hfo:zS β h i=some b:=by simp only [zS,dK ho,pE,k3]
   obtain ⟨g1,g2⟩:=hfx b hfo
   exact ⟨g2,by rw [g1,k3],k2,k1,(Vd j hy[j] (by simp [hj])).live⟩
 have zPz:∀ {j i:Nat} {o:Ob},ρ[j]?=some i->h[i]?=some o->pE o=true->gN β β' ρ h i=β i:=fun hi ho hb=>by
  simp only [gN,zGn hnd hi,dK ho,hb]
 have zQa:∀ {j i:Nat} {o:Ob},ρ[j]?=some i->h[i]?=some o->pE o=false->gN β β' ρ h i={ β' j with ver:=(β' j).ver+jP ρ h j }:=fun hi ho hb=>by
  simp only [gN,zGn hnd hi,dK ho,hb]
 have zJq:∀ {i:Nat},pos i ρ 0=none->i < h.length->gN β β' ρ h i=β i:=fun hp hi=>by
  simp only [gN,hp,if_pos hi]
 have zSd:∀ {i:Nat},h.length <= i->pos i ρ 0=none:=fun {i} hi=>by
  cases hp:pos i ρ 0 with
  | none=>rfl
  | some j =>
   obtain ⟨m,_,hm⟩:=sG hp
   have:=hlt i (List.mem_of_getElem? hm)
   omega
 have zWs:∀ {j:Nat},ρ.length <= j->gN β β' ρ h (h.length+(j - ρ.length))=β' j:=fun {j} hj=>by
  simp only [gN,zSd (Nat.le_add_right _ _)]
  rw [if_neg (by omega)]
  congr 1
  omega
 have eF:∀ {j i:Nat},ρ[j]?=some i->jC ρ h.length j=i:=fun hi=>by simp only [jC,hi]
 have eF2:∀ {j:Nat},ρ.length <= j->jC ρ h.length j=h.length+(j - ρ.length):=fun hj=>by simp only [jC,List.getElem?_eq_none hj]
 have eU2:∀ {j:Nat},ρ.length <= j->jP ρ h j=0:=fun hj=>by simp only [jP,List.getElem?_eq_none hj]
 have hpl:∀ j,(β' j).live=true->Iw (β' j) (gN β β' ρ h (jC ρ h.length j)) (jP ρ h j):=fun j hl=>by
  have hj:j < hy.length:=by
   rcases Nat.lt_or_ge j hy.length with h1 | h1
   ·exact h1
   ·rw [zNa j h1] at hl; cases hl
  cases hi:ρ[j]? with
  | some i =>
   rw [eF hi]
   obtain ⟨o,ho⟩:=hget i (List.mem_of_getElem? hi)
   cases hb:pE o with
   | true =>
    obtain ⟨g1,g2,g3,g4,g5⟩:=zJp hi ho hb
    rw [zPz hi ho hb]
    exact ⟨by rw [g4,hl],by rw [g3,g1],g2.symm,fun h=>by rw [g1] at h; cases h⟩
   | false =>
    rw [zQa hi ho hb]
    exact ⟨rfl,rfl,rfl,fun _=>⟨rfl,rfl,rfl,rfl⟩⟩
  | none =>
   have hge:ρ.length <= j:=List.getElem?_eq_none_iff.1 hi
   rw [eF2 hge,zWs hge,eU2 hge]
   exact ⟨rfl,rfl,rfl,fun _=>⟨rfl,rfl,rfl,rfl⟩⟩
 have hown:∀ {b k:Nat},(inC C β h w ρ hs).xD b k->∃ (i:Nat) (o:Ob),i ∈ ρ∧h[i]?=some o∧o.wr=true∧o.at (β i) b k:=fun {b k} hb=>hb
 have hkeep:Keep (C.N β h) w w':=hs'.heap.frame.weaken fun k j ho=>by
  obtain ⟨i,o,_,h2,h3,h4⟩:=hown ho
  exact .inr ⟨i,o,h2,h3,h4⟩
 have hat:∀ {id j:Nat} {ob oy:Ob},ρ[j]?=some id->h[id]?=some ob->hy[j]?=some oy->∀ b k,(oy.back (jC ρ h.length) (jP ρ h) j).at (gN β β' ρ h id) b k->oy.at (β' j) b k:=fun {id j ob oy} hi hob hoy b k hbk=>by
  cases hb2:pE ob with
  | true =>
   have hp:oy.iX=false:=(Vd j oy hoy).zOp (zJp hi hob hb2).1
   rw [zPz hi hob hb2] at hbk
   have:=Ob.Nr (by simp [Ob.plain,Ob.Iz,hp]) hbk
   exact Ob.kU (by rw [(zJp hi hob hb2).2.1]; exact this)
  | false =>
   rw [zQa hi hob hb2] at hbk
   exact Ob.nS (Ob.Iz oy) rfl rfl hbk
 have zQb:∀ {j:Nat} {oy:Ob},ρ.length <= j->∀ b k,(oy.back (jC ρ h.length) (jP ρ h) j).at (gN β β' ρ h (h.length+(j - ρ.length))) b k->oy.at (β' j) b k:=fun {j oy} hj b k hbk=>by
  rw [zWs hj] at hbk
  exact Ob.nS (Ob.Iz oy) rfl rfl hbk
 have zBo:Moves β (gN β β' ρ h):=fun id hl=>by
  have hid:id < h.length:=by
   rcases Nat.lt_or_ge id h.length with h1 | h1
   ·exact h1
   ·rw [hs.dead id h1] at hl; cases hl
  cases hp:pos id ρ 0 with
  | none=>exact .inl (zJq hp hid)
  | some j =>
   obtain ⟨m,hm,hi⟩:=sG hp
   rw [Nat.zero_add] at hm
   subst hm
   obtain ⟨o,ho⟩:=hget id (List.mem_of_getElem? hi)
   cases hb:pE o with
   | true=>exact .inl (zPz hi ho hb)
   | false =>
    obtain ⟨oy,hoy,hby⟩:=hrow hi ho hb
    have hY:=Vd j oy hoy
    have hO:=hs.obj id o ho
    rw [zQa hi ho hb]
    cases o with
    | box=>cases hb
    | fm=>cases hb
    | arr e t u rows wr =>
     cases oy with
     | box=>cases hby
     | fm=>cases hby
     | arr e' t' u' rows' wr' =>
      simp only [Ob.Rel] at hY hO
      refine .inr ⟨hO.2.1,hY.1,hY.2.1,?_⟩
      simp only [jP,hi,ho]
      have:=hO.2.2.1
      omega
 have hbl:∀ {b k:Nat},b < w.heap.size->w.heap.size <= b∨(inC C β h w ρ hs).xD b k->C.N β h b k:=fun {b k} hb ho=>by
  rcases ho with ho | ho
  ·omega
  ·obtain ⟨i,o,_,h2,h3,h4⟩:=hown ho
   exact .inr ⟨i,o,h2,h3,h4⟩
 have zSe:∀ b j,b < w.heap.size->C.N (gN β β' ρ h) (jZ ρ h hy) b j->C.N β h b j:=fun b k hb hn=>by
  rcases hn with hn | ⟨id,o,ho,hw,hbk⟩
  ·exact .inl hn
  ·rcases Al hk ho with ⟨hid,hp,ho⟩ | ⟨j,ob,oy,hid,hi,hp,hob,hoy,rfl⟩ | ⟨j,oy,hj,rfl,hoy,rfl⟩
   ·rw [zJq hp hid] at hbk
    exact .inr ⟨id,o,ho,hw,hbk⟩
   ·rw [Ob.sO] at hw
    have hbk:=hat hi hob hoy b k hbk
    exact hbl hb ((Bu j oy b hoy ⟨k,hbk⟩).2.2.imp (fun h=>h) fun h=>h k hw hbk)
   ·rw [Ob.sO] at hw
    have hbk:=zQb hj b k hbk
    exact hbl hb ((Bu j oy b hoy ⟨k,hbk⟩).2.2.imp (fun h=>h) fun h=>h k hw hbk)
 have zSf:∀ b j,b < w'.heap.size->C.N (gN β β' ρ h) (jZ ρ h hy) b j->(inC C β h w ρ hs).N β' (so.enc y).h b j:=fun b k _ hn=>by
  rw [hhy]
  rcases hn with hn | ⟨id,o,ho,hw,hbk⟩
  ·exact .inl ⟨.inl hn,fun i hi o ho hbk=>(hs.dY i o b ho hbk).1 k hn⟩
  ·rcases Al hk ho with ⟨hid,hp,ho⟩ | ⟨j,ob,oy,hid,hi,hp,hob,hoy,rfl⟩ | ⟨j,oy,hj,rfl,hoy,rfl⟩
   ·rw [zJq hp hid] at hbk
    refine .inl ⟨.inr ⟨id,o,ho,hw,hbk⟩,fun i hi oi hoi hbi=>?_⟩
    have:=hs.jL id i o oi b ho hoi ⟨k,hbk⟩ hbi
    subst this
    exact xR hp hi
   ·rw [Ob.sO] at hw
    exact .inr ⟨j,oy,hoy,hw,hat hi hob hoy b k hbk⟩
   ·rw [Ob.sO] at hw
    exact .inr ⟨j,oy,hoy,hw,zQb hj b k hbk⟩
 have Uu:∀ {id:Nat} {o:Ob} {b:Nat},pos id ρ 0=none->h[id]?=some o->o.blks (β id) b->b < w.heap.size∧∀ k,¬ (inC C β h w ρ hs).xD b k:=fun {id o b} hp ho hb=>by
  refine ⟨(hs.dY id o b ho hb).2.1,fun k hw=>?_⟩
  obtain ⟨i,oi,h1,h2,_,h4⟩:=hown hw
  have:=hs.jL id i o oi b ho h2 hb ⟨k,h4⟩
  subst this
  exact xR hp h1
 have hcls:∀ {id:Nat} {o:Ob},(jZ ρ h hy)[id]?=some o->(pos id ρ 0=none∧h[id]?=some o∧gN β β' ρ h id=β id)∨∃ j oy,hy[j]?=some oy∧id=jC ρ h.length j∧o=oy.back (jC ρ h.length) (jP ρ h) j∧∀ b k,o.at (gN β β' ρ h id) b k->oy.at (β' j) b k:=fun {id o} ho=>by
  rcases Al hk ho with ⟨hid,hp,ho⟩ | ⟨j,ob,oy,hid,hi,hp,hob,hoy,rfl⟩ | ⟨j,oy,hj,rfl,hoy,rfl⟩
  ·exact .inl ⟨hp,ho,zJq hp hid⟩
  ·exact .inr ⟨j,oy,hoy,(eF hi).symm,rfl,hat hi hob hoy⟩
  ·exact .inr ⟨j,oy,hoy,(eF2 hj).symm,rfl,zQb hj⟩
 have zWt:∀ {j:Nat} {oy:Ob},hy[j]?=some oy->(oy.back (jC ρ h.length) (jP ρ h) j).wr=true:=fun {j oy} hoy=>by
  rw [Ob.sO,<- hhy] at *
  exact Ea hoy
 have zWu:∀ {j id:Nat} {oy:Ob} {b:Nat},hy[j]?=some oy->(∀ b k,(oy.back (jC ρ h.length) (jP ρ h) j).at (gN β β' ρ h id) b k->oy.at (β' j) b k)->(oy.back (jC ρ h.length) (jP ρ h) j).blks (gN β β' ρ h id) b->b < w.heap.size->(∀ k,¬ (inC C β h w ρ hs).xD b k)->False:=fun {j id oy b} hoy eb hb g1 g2=>by
  obtain ⟨q,hb⟩:=hb
  rcases (Bu j oy b hoy ⟨q,eb b q hb⟩).2.2 with h3 | h3
  ·have h3:w.heap.size <= b:=h3
   omega
  ·have hw:=zWt hoy
   rw [Ob.sO] at hw
   exact g2 q (h3 q hw (eb b q hb))
 have hHS:bR C (gN β β' ρ h) (jZ ρ h hy) w':=by
  refine ⟨?_,?_,?_,?_,hs.n0,?_,Nat.le_trans hs.size hs'.heap.size,hs'.heap.os.trans hs.os,hs'.heap.tape.trans hs.tape,hs'.heap.output.trans hs.output,?_⟩
  ·intro id o ho
   rcases hcls ho with ⟨hp,ho,eb⟩ | ⟨j,oy,hoy,rfl,rfl,_⟩
   ·rw [eb]
    exact (hs.obj id o ho).mono zBo hkeep zSe fun b hb=>hs'.heap.frame.block b (Uu hp ho hb).1 (Uu hp ho hb).2
   ·have hY:=Vd j oy hoy
    rw [<- hhy] at hY
    exact Ob.Rel.back (f:=jC ρ h.length) (v:=jP ρ h) hpl zSf hY
  ·intro id hid
   rw [Br] at hid
   have hp:=zSd (i:=id) (by omega)
   simp only [gN,hp]
   rw [if_neg (by omega)]
   exact zNa _ (by omega)
  ·intro i j o1 o2 b h1 h2 hb1 hb2
   rcases hcls h1 with ⟨hp1,ho1,eb1⟩ | ⟨j1,oy1,zWv,rfl,rfl,eb1⟩ <;> rcases hcls h2 with ⟨hp2,ho2,eb2⟩ | ⟨j2,oy2,zWw,rfl,rfl,eb2⟩
   ·rw [eb1] at hb1
    rw [eb2] at hb2
    exact hs.jL i j o1 o2 b ho1 ho2 hb1 hb2
   ·exfalso
    rw [eb1] at hb1
    obtain ⟨g1,g2⟩:=Uu hp1 ho1 hb1
    exact zWu zWw eb2 hb2 g1 g2
   ·exfalso
    rw [eb2] at hb2
    obtain ⟨g1,g2⟩:=Uu hp2 ho2 hb2
    exact zWu zWv eb1 hb1 g1 g2
   ·obtain ⟨q1,hb1⟩:=hb1
    obtain ⟨q2,hb2⟩:=hb2
    rw [zGv j1 j2 oy1 oy2 b zWv zWw ⟨q1,eb1 b q1 hb1⟩ ⟨q2,eb2 b q2 hb2⟩]
  ·intro id o b ho hb
   rcases hcls ho with ⟨hp,ho,eb⟩ | ⟨j,oy,hoy,rfl,rfl,eb⟩
   ·rw [eb] at hb ⊢
    obtain ⟨k1,k2,k3⟩:=hs.dY id o b ho hb
    exact ⟨k1,Nat.lt_of_lt_of_le k2 hs'.heap.size,k3⟩
   ·obtain ⟨q,hb⟩:=hb
    obtain ⟨k1,k2,k3⟩:=Bu j oy b hoy ⟨q,eb b q hb⟩
    rcases Nat.lt_or_ge b w.heap.size with hlt | hge
    ·have hold:∀ k,(oy.back (jC ρ h.length) (jP ρ h) j).wr=true->(oy.back (jC ρ h.length) (jP ρ h) j).at (gN β β' ρ h (jC ρ h.length j)) b k->∃ (i:Nat) (o:Ob),i ∈ ρ∧h[i]?=some o∧o.wr=true∧o.at (β i) b k:=fun k hw hk=>by
      rw [Ob.sO] at hw
      rcases k3 with k3 | k3
      ·have k3:w.heap.size <= b:=k3
       omega
      ·exact hown (k3 k hw (eb b k hk))
     have hwy:(oy.back (jC ρ h.length) (jP ρ h) j).wr=true:=zWt hoy
     obtain ⟨i,oi,h1,h2,h3,h4⟩:=hold q hwy hb
     obtain ⟨g1,g2,g3⟩:=hs.dY i oi b h2 ⟨q,h4⟩
     refine ⟨g1,k2,?_⟩
     rcases g3 with g3 | g3
     ·exact .inl g3
     ·right
      intro k hw hk
      obtain ⟨i2,oi2,f1,f2,f3,f4⟩:=hold k hw hk
      rcases (hs.dY i2 oi2 b f2 ⟨k,f4⟩).2.2 with g5 | g5
      ·have:=hs.jL i i2 oi oi2 b h2 f2 ⟨q,h4⟩ ⟨k,f4⟩
       subst this
       rw [h2] at f2
       simp only [Option.some.injEq] at f2
       subst f2
       exact g3 k f3 f4
      ·exact g5 k f3 f4
    ·have h0:=hs.size
     exact ⟨fun _ hn=>by have:=hs.n0 b _ hn; omega,k2,.inl (by omega)⟩
  ·refine hs.frame.uN hs'.heap.frame fun b j hb ho=>?_
   obtain ⟨i,oi,h1,h2,h3,h4⟩:=hown ho
   rcases (hs.dY i oi b h2 ⟨j,h4⟩).2.2 with h5 | h5
   ·omega
   ·exact h5 j h3 h4
  ·intro j o hj
   obtain ⟨k1,k2⟩:=hs.fixed j o hj
   refine ⟨by rw [Br]; omega,fun b hb=>?_⟩
   obtain ⟨k3,k4⟩:=k2 b hb
   have hoj:h[j]?=some h[j]:=by simp [k1]
   rcases zBo j (hs.obj j _ hoj).live with e | ⟨e,_⟩
   ·rw [e]; exact ⟨k3,k4⟩
   ·rw [k4] at e; cases e
 refine ⟨gN β β' ρ h,zBo,hkeep,zSe,hHS,?_⟩
 refine zGu (by have:=hs'.size; simpa using this) fun i v u hv hu=>?_
 simp only [List.getElem?_map,Option.map_eq_some_iff] at hv
 obtain ⟨v0,hv0,rfl⟩:=hv
 have hr:=hs'.reg i v0 hv0
 have e:(us.toArray).getD i undef=u:=by
  rw [Array.getD_eq_getD_getElem?]
  simp [hu]
 simp only [e] at hr
 exact hr.back (f:=jC ρ h.length) (v:=jP ρ h) hpl zSf
theorem iB (hM:jB P f si so F):(peM si so F).OK P f:=by
 refine ⟨hM.1,fun vs h y hr C β w xs hP hs ha=>?_,fun h=>(by cases h),fun h=>(by cases h)⟩
 subst hP
 simp only [peM] at hr
 split at hr
 case h_2=>cases hr
 rename_i x hx
 simp only [Option.some.injEq,Prod.mk.injEq] at hr
 obtain ⟨hok,hF⟩:=hr
 obtain ⟨hnd,hlt,hlen,hwr,zBn⟩:=zFm hok
 have Un:=zGp hx (zWr hs ha hnd hlt)
 refine (hM.2 x y hF (inC C β h w _ hs) _ w xs rfl (by simp [inC,hlen]) Un).mono ?_
 rintro e w' ⟨us,β',rfl,hs'⟩
 obtain ⟨β2,h1,h2,h3,h4,h5⟩:=zPy hs hnd hlt hwr zBn hs'
 exact ⟨_,_,β2,⟨rfl,rfl⟩,h1,h2,h3,h4,_,rfl,zPx h5⟩
end
end Go.Dec
namespace Go.Dec
section
variable {T:Tab} {C:Ctx} {β:Nat->Pl} {w:World}
def Oh (T:Tab) (σ:St):ResultVar->Option (Bool × V)
 | .tmp t=>some (true,σ.r.getD t .aX)
 | .cell t ty =>
  match σ.r.getD t .aX with
  | .one l=>loadAt T σ.h ty l
  | _=>none
def jD (T:Tab) (σ:St):List ResultVar->Option (Bool × List V)
 | []=>some (true,[])
 | x :: r =>
  match Oh T σ x,jD T σ r with
  | some (c,l),some (d,ls)=>some (c && d,l :: ls)
  | _,_=>none
theorem zQc {σ:St} {a:Act} {rv:ResultVar} {v:V} (hT:aT C.P T) (hs:Sim C β σ a w) (h:Oh T σ rv=some (true,v)) :
  ∃ x,(lS a.tmps rv).run C.P w=.ok x w∧v.Rel β w (C.N β σ.h) x:=by
 cases rv with
 | tmp t =>
  simp only [Oh,Option.some.injEq,Prod.mk.injEq,true_and] at h
  subst h
  exact ⟨a.tmps.getD t undef,rfl,Dx hs t⟩
 | cell t ty =>
  simp only [Oh] at h
  have hr:=Dx hs t
  split at h
  ·rename_i l hl
   rw [hl] at hr
   obtain ⟨y,h1,h2⟩:=vX hT h hs.heap hr
   obtain ⟨ad,h3,h4⟩:=Ak h1
   refine ⟨y,?_,h2⟩
   simp only [lS,h3,asAddr,Sem.run_bind,Sem.run_pure,Result.andThen_ok,h4]
  ·cases h
theorem Xf {σ:St} {a:Act} (hT:aT C.P T) (hs:Sim C β σ a w):∀ {rs:List ResultVar} {vs:List V},jD T σ rs=some (true,vs) ->
  ∀ acc:Array Value,∃ us:List Value,(rs.foldlM (fun (acc:Array Value) rv=>do let v <- lS a.tmps rv; pure (acc.push v)) acc).run C.P w=.ok (acc++us.toArray) w∧aI (fun v u=>V.Rel β w (C.N β σ.h) v u) vs us
 | [],vs,h,acc=>by
  simp only [jD,Option.some.injEq,Prod.mk.injEq,true_and] at h
  subst h
  exact ⟨[],by simp,trivial⟩
 | rv :: rs,vs,h,acc=>by
  simp only [jD] at h
  split at h
  ·rename_i c s d r h1 h2
   simp only [Option.some.injEq,Prod.mk.injEq,Bool.and_eq_true] at h
   obtain ⟨⟨rfl,rfl⟩,rfl⟩:=h
   obtain ⟨x,g1,g2⟩:=zQc hT hs h1
   obtain ⟨us,g4,g5⟩:=Xf hT hs h2 (acc.push x)
   refine ⟨x :: us,?_,⟨g2,g5⟩⟩
   simp only [List.foldlM_cons,Sem.run_bind,g1,Result.andThen_ok,Sem.run_pure,g4]
   simp
  ·cases h
theorem zBp {σ:St} {a:Act} {fn:Func} {vs:List V} (hT:aT C.P T) (hs:Sim C β σ a w) (h:jD T σ fn.results.toList=some (true,vs)) :
  ∃ us:List Value,(results fn a.tmps).run C.P w=.ok (mD us) w∧aI (fun v u=>V.Rel β w (C.N β σ.h) v u) vs us:=by
 obtain ⟨us,h1,h2⟩:=Xf hT hs h #[]
 refine ⟨us,?_,h2⟩
 have e0:results fn a.tmps=(do let vs <- fn.results.mapM (lS a.tmps); pure (if h:vs.size=1 then vs[0] else .tuple vs)):=by
  unfold results
  congr 1
 have hm:(fn.results.mapM (lS a.tmps):Sem (Array Value)).run C.P w=.ok us.toArray w:=by
  rw [Array.mapM_eq_foldlM,<- Array.foldlM_toList]
  have e:(fun (acc:Array Value) rv=>do let v <- lS a.tmps rv; pure (acc.push v):Array Value->ResultVar->Sem (Array Value))=(fun (acc:Array Value) rv=>acc.push <$> lS a.tmps rv):=by
   funext acc rv
   rfl
  rw [e] at h1
  simpa using h1
 rw [e0]
 simp only [Sem.run_bind,hm,Result.andThen_ok,Sem.run_pure]
 match us with
 | []=>rfl
 | [u]=>rfl
 | u :: v :: us=>simp [mD]
theorem zQd {σ:St} {a:Act} {vs:List V} {us:List Value} (hs:Sim C β σ a w) (h:aI (fun v u=>V.Rel β w (C.N β σ.h) v u) vs us):Sim C β ⟨vs,σ.h⟩ { tmps:=us.toArray,defers:=[] } w:=by
 refine ⟨hs.heap,rfl,by simpa using h.length,fun i v hv=>?_⟩
 have hl:i < us.length:=by rw [<- h.length]; exact (List.getElem?_eq_some_iff.1 hv).1
 have hr:=h.get i (List.getElem?_eq_some_iff.1 hv).1 hl
 rw [(List.getElem?_eq_some_iff.1 hv).2] at hr
 have e2:(us.toArray).getD i undef=us[i]:=by simp [hl]
 simp only [e2]
 exact hr
def zBq (T:Tab) {ρ:Type} (res:List ResultVar) (so:Sh) (co:List Co) (σ:St) (g:so.X->Option ρ):Option ρ :=
 match jD T σ res with
 | some (c,vs)=>chk c (enter T so co ⟨vs,σ.h⟩ g)
 | none=>none
def zJr (T:Tab) (res:List ResultVar) (so:Sh) (co:List Co):K so.X:=fun e σ =>
 match e with
 | .normal=>zBq T res so co σ some
 | .ret=>zBq T res so co σ some
 | _=>none
theorem zQe {σ:St} {a:Act} {fn:Func} {so:Sh} {co:List Co} {ρ:Type} {g:so.X->Option ρ} {r:ρ} {kf:Nat} (hT:aT C.P T) (hkf:C.fix.length <= kf) (hfx:bC (Co.fx kf) co=true) (hs:Sim C β σ a w) (h:zBq T fn.results.toList so co σ g=some r) :
  ∃ (us:List Value) (β':Nat->Pl) (y:so.X),(results fn a.tmps).run C.P w=.ok (mD us) w∧Sim C β' (so.enc y) { tmps:=us.toArray,defers:=[] } w∧g y=some r:=by
 unfold zBq at h
 split at h
 ·rename_i c vs hvs
  obtain ⟨rfl,h⟩:=jO h
  obtain ⟨us,h1,h2⟩:=zBp hT hs hvs
  obtain ⟨β',_,y,h3,h4⟩:=uT hT hkf hfx h (zQd hs h2)
  exact ⟨us,β',y,h1,h3,h4⟩
 ·cases h
end
section
variable {P:Program} {T:Tab} {f:FuncId} {fn:Func} {c:Code} {si so sp:Sh}
theorem zNb {C:Ctx} {β:Nat->Pl} {w:World} {σ:St} {xs:List Value} (n:Nat) (hs:Sim C β σ { tmps:=xs.toArray,defers:=[] } w) :
  Sim C β ⟨zO σ.r n,σ.h⟩ { tmps:=xs.toArray++Array.replicate (n - xs.toArray.size) undef,defers:=[] } w:=by
 have hl:σ.r.length=xs.length:=by simpa using hs.size
 refine ⟨hs.heap,rfl,by simp [zO,hl],fun i u hu=>?_⟩
 simp only [zO] at hu
 by_cases hi:i < σ.r.length
 ·rw [List.getElem?_append_left hi] at hu
  have hr:=hs.reg i u hu
  have e:(xs.toArray++Array.replicate (n - xs.toArray.size) undef).getD i undef=(xs.toArray).getD i undef:=by
   rw [Array.getD_eq_getD_getElem?,Array.getD_eq_getD_getElem?,Array.getElem?_append_left (by simpa using by omega)]
  rw [e]
  exact hr
 ·rw [List.getElem?_append_right (by omega),List.getElem?_replicate] at hu
  split at hu
  ·simp only [Option.some.injEq] at hu; subst hu; trivial
  ·cases hu
theorem fH {F:si.X->Option so.X} {Γ:Orc so.X} {an:An so.X} {co:List Co} (hf:P.funcs[f]?=some fn) (hb:fn.body=some c) (hh:gQ P f=true) (hT:aT P T) (hΓ:gG P Γ) (hm:P.follows .mixedOrders=true)
  (ha:zBc P si.os.length c an) (hfx:an.fx si.os.length=true) (hco:bC (Co.fx si.os.length) co=true)
  (h:∀ x,ev Γ T c an ⟨zO (si.enc x).r fn.ntmps,(si.enc x).h⟩ (zJr T fn.results.toList so co)=F x):jB P f si so F:=by
 refine ⟨hh,fun x y hF C β w xs hP hkf hs=>?_⟩
 rw [<- h x] at hF
 refine calls_of_wp hf hb ?_
 refine zBe (P:=P) hT hΓ hm c an ha hfx _ _ y hF C β _ w _ hP hkf (zNb fn.ntmps hs) ?_
 intro e x' σ' β' a' w' hs' hx' hk
 have fin:zBq T fn.results.toList so co σ' some=some y->x'=.ret∨x'=.normal->bodyPost P fn (fun e w'=>∃ (us:List Value) (β':Nat->Pl),e=.returned (mD us)∧Sim C β' (so.enc y) { tmps:=us.toArray,defers:=[] } w') x' a' w':=by
  intro hk hx'
  subst hP
  obtain ⟨us,β2,y',h1,h2,h3⟩:=zQe (fn:=fn) hT hkf hco hs' hk
  obtain rfl:=Option.some.inj h3
  rcases hx' with rfl | rfl
  ·exact ⟨hs'.defers,_,h1,us,β2,rfl,h2⟩
  ·exact ⟨hs'.defers,_,h1,us,β2,rfl,h2⟩
 cases e with
 | normal=>obtain rfl:=hx'; exact fin hk (.inr rfl)
 | ret=>obtain rfl:=hx'; exact fin hk (.inl rfl)
 | exit i=>simp [zJr] at hk
 | goto l=>simp [zJr] at hk
 | pan t u=>simp [zJr] at hk
structure GE (ρ:Type) where
 f:FuncId
 run:List V->List Ob->(Out->List Ob->Option ρ)->Option ρ
structure GE.OK (P:Program) {ρ:Type} (g:GE ρ):Prop where
 ok:∀ vs h k r,g.run vs h k=some r->gQ P g.f=true∧wC P g.f vs h fun out h'=>k out h'=some r∧∀ id,id < h.length->id ∉ reach vs h->h'[id]?=h[id]?
def zQf {ρ:Type}:List (GE ρ)->FuncId->List V->List Ob->(Out->List Ob->Option ρ)->Option ρ
 | [],_,_,_,_=>none
 | g :: r,f,vs,h,k=>match Nat.beq g.f f with
  | true=>g.run vs h k
  | false=>zQf r f vs h k
def dP (ρ:Type) (l:List (FuncId × PE)) (m:List (GE ρ)):Orc ρ:=⟨pes l,zQf m⟩
theorem bF {ρ:Type} {l:List (FuncId × PE)} {m:List (GE ρ)} (h:∀ p ∈ l,p.2.OK P p.1) (hm:∀ g ∈ m,g.OK P):gG P (dP ρ l m):=by
 refine ⟨(zWq (ρ:=ρ) h).pure,fun f vs hp k r hr=>?_⟩
 simp only [dP] at hr
 induction m with
 | nil=>cases hr
 | cons g m ih =>
  simp only [zQf] at hr
  split at hr
  ·rename_i hb
   have:=Nat.eq_of_beq_eq_true hb
   subst this
   exact (hm g (.head _)).ok vs hp k r hr
  ·exact ih (fun g hg=>hm g (.tail _ hg)) hr
theorem bG {ρ:Type}:∀ g ∈ ([]:List (GE ρ)),g.OK P:=fun _ h=>by cases h
end
end Go.Dec
