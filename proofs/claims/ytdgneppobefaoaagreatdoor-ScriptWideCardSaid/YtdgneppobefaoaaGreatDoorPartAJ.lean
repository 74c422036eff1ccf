/- Part of a proof over this seat: a library of my own, and what it says of this seat. No statement is proved here. -/
import Derived.Test.YtdgneppobefaoaaGreatDoorPartAI
namespace Go.Dec
@[reducible] def dD:List Ty->Type
 | []=>Unit
 | [t]=>t.den
 | t :: u :: r=>t.den × dD (u :: r)
def lM:List Value->Value
 | [u]=>u
 | us=>.tuple us.toArray
def zUv (bor:Bool) (N:Nat->Nat->Prop):Nat->Nat->Prop :=
 match bor with
 | true=>fun _ _=>False
 | false=>N
def DensRel (w:World) (N:Nat->Nat->Prop):(ts:List Ty)->dD ts->List Value->Prop
 | [],_,us=>us=[]
 | [t],x,us=>∃ u,us=[u]∧t.bK w N x u
 | t :: s :: r,x,us=>∃ u us',us=u :: us'∧t.bK w N x.1 u∧DensRel w N (s :: r) x.2 us'
def vOf (t:Ty) (x:t.den):V :=
 match t.isAgg with
 | true=>.agg (explode t x)
 | false=>.one (.val t x)
def sOf (t:Ty) (x:t.den):Sum L (List L) :=
 match t.isAgg with
 | true=>.inr (explode t x)
 | false=>.inl (.val t x)
def sN:(ts:List Ty)->dD ts->List V
 | [],_=>[]
 | [t],x=>[vOf t x]
 | t :: s :: r,x=>vOf t x.1 :: sN (s :: r) x.2
def zIe:(ts:List Ty)->dD ts->List (Sum L (List L))
 | [],_=>[]
 | [t],x=>[sOf t x]
 | t :: s :: r,x=>sOf t x.1 :: zIe (s :: r) x.2
def zIf (t:Ty) (ls:List L):Option t.den :=
 match bJ t ls with
 | some (x,[])=>some x
 | _=>none
def Uv (t:Ty) (s:Sum L (List L)):Option t.den :=
 match t.isAgg,s with
 | true,.inr ls=>zIf t ls
 | false,.inl l=>l.asT t
 | _,_=>none
def Az:(ts:List Ty)->List (Sum L (List L))->Option (dD ts)
 | [],[]=>some ()
 | [t],[s]=>Uv t s
 | t :: u :: r,s :: ss =>
  match Uv t s,Az (u :: r) ss with
  | some x,some y=>some (x,y)
  | _,_=>none
 | _,_=>none
def V.sum:V->Option (Sum L (List L))
 | .one l=>some (.inl l)
 | .agg ls=>some (.inr ls)
 | _=>none
def Om (bor:Bool) (h:List Ob) (t:Ty) (v:V):Option (Bool × t.den) :=
 match bor with
 | true =>
  match v.deep h with
  | some (c,u) =>
   match u.sum with
   | some s=>match Uv t s with
    | some x=>some (c,x)
    | none=>none
   | none=>none
  | none=>none
 | false =>
  match v.isD,v.sum with
  | true,some s=>match Uv t s with
   | some x=>some (true,x)
   | none=>none
  | _,_=>none
def jO (bor:Bool) (h:List Ob):(ts:List Ty)->List V->Option (Bool × dD ts)
 | [],[]=>some (true,())
 | [t],[v]=>Om bor h t v
 | t :: u :: r,v :: vs =>
  match Om bor h t v,jO bor h (u :: r) vs with
  | some (c,x),some (d,y)=>some (c && d,(x,y))
  | _,_=>none
 | _,_=>none
def Ty.flat:Ty->Bool
 | .pair a b=>a.flat && b.flat
 | .arr _ a=>a.flat
 | .slice _=>false
 | .clip _=>false
 | .opq=>false
 | _=>true
section
variable {β:Nat->Pl} {w:World} {N:Nat->Nat->Prop}
theorem zFg {t:Ty} {x:t.den} {u:Value} (h:t.bK w N x u):(vOf t x).Rel β w N u:=by
 unfold vOf
 unfold Ty.bK at h
 cases ha:t.isAgg with
 | true =>
  rw [ha,if_pos rfl] at h
  obtain ⟨cs,e,h⟩:=h
  exact ⟨cs,e,fE h⟩
 | false =>
  rw [ha,if_neg (by simp)] at h
  simp only [V.Rel,L.Rel]
  exact h
theorem Ba:∀ {ts:List Ty} {x:dD ts} {us:List Value},DensRel w N ts x us->jN β w N (sN ts x) us
 | [],_,_,h=>by simp only [DensRel] at h; subst h; trivial
 | [t],x,_,h=>by obtain ⟨u,rfl,h⟩:=h; exact ⟨zFg h,trivial⟩
 | t :: s :: r,x,_,h=>by
  obtain ⟨u,us,rfl,h,h2⟩:=h
  exact ⟨zFg h,Ba h2⟩
theorem zFh {t:Ty} {x:t.den} {u:Value} (h:t.bK w N x u):dP β w N (sOf t x) u:=by
 unfold sOf
 unfold Ty.bK at h
 cases ha:t.isAgg with
 | true =>
  rw [ha,if_pos rfl] at h
  obtain ⟨cs,e,h⟩:=h
  exact ⟨cs,e,fE h⟩
 | false =>
  rw [ha,if_neg (by simp)] at h
  simp only [dP,L.Rel]
  exact h
theorem Xj:∀ {ts:List Ty} {x:dD ts} {us:List Value},DensRel w N ts x us->aQ (dP β w N) (zIe ts x) us
 | [],_,_,h=>by simp only [DensRel] at h; subst h; trivial
 | [t],x,_,h=>by obtain ⟨u,rfl,h⟩:=h; exact ⟨zFh h,trivial⟩
 | t :: s :: r,x,_,h=>by
  obtain ⟨u,us,rfl,h,h2⟩:=h
  exact ⟨zFh h,Xj h2⟩
theorem zLz {t:Ty} {ls:List L} {x:t.den} {cs:List Value} (h:zIf t ls=some x) (hr:aL β w N ls cs):t.Rel w N x cs:=by
 unfold zIf at h
 split at h
 ·rename_i y hi
  simp only [aA] at h
  subst h
  obtain ⟨c1,c2,e,h1,h2⟩:=kK hi hr
  simp only [aL] at h2
  subst h2
  rw [List.append_nil] at e
  subst e
  exact h1
 ·cases h
theorem Eu {t:Ty} {s:Sum L (List L)} {x:t.den} {u:Value} (h:Uv t s=some x) (hr:dP β w N s u):t.bK w N x u:=by
 unfold Uv at h
 unfold Ty.bK
 split at h
 ·rename_i ls ha
  rw [ha,if_pos rfl]
  obtain ⟨cs,e,hr⟩:=hr
  exact ⟨cs,e,zLz h hr⟩
 ·rename_i l ha
  rw [ha,if_neg (by simp)]
  exact L.Kw h hr
 ·cases h
theorem Xk:∀ {ts:List Ty} {ss:List (Sum L (List L))} {x:dD ts} {us:List Value},Az ts ss=some x->aQ (dP β w N) ss us->DensRel w N ts x us
 | [],[],_,[],_,_=>rfl
 | [t],[s],x,[u],h,hr=>⟨u,rfl,Eu h hr.1⟩
 | t :: u :: r,s :: ss,x,v :: vs,h,hr=>by
  simp only [Az] at h
  split at h
  ·rename_i y z h1 h2
   simp only [aA] at h
   subst h
   exact ⟨v,vs,rfl,Eu h1 hr.1,Xk h2 hr.2⟩
  ·cases h
 | [],[],_,_ :: _,_,hr=>hr.elim
 | [],_ :: _,_,_,h,_=>by simp [Az] at h
 | [t],[],_,_,h,_=>by simp [Az] at h
 | [t],[s],_,[],_,hr=>hr.elim
 | [t],[s],_,_ :: _ :: _,_,hr=>hr.2.elim
 | [t],_ :: _ :: _,_,_,h,_=>by simp [Az] at h
 | t :: u :: r,[],_,_,h,_=>by simp [Az] at h
 | t :: u :: r,s :: ss,_,[],_,hr=>hr.elim
theorem V.Uw {v:V} {s:Sum L (List L)} {u:Value} (h:v.sum=some s) (hr:v.Rel β w N u):dP β w N s u:=by
 cases v <;> simp only [V.sum,aA,reduceCtorEq] at h <;> subst h <;> exact hr
theorem DensRel.mono {w':World} {N':Nat->Nat->Prop} (hk:Keep N w w') (hN:∀ b j,b < w.heap.size->N' b j->N b j):∀ {ts:List Ty} {x:dD ts} {us:List Value},DensRel w N ts x us->DensRel w' N' ts x us
 | [],_,_,h=>h
 | [t],x,_,h=>by obtain ⟨u,e,h⟩:=h; exact ⟨u,e,h.mono hk hN⟩
 | t :: s :: r,x,_,h=>by obtain ⟨u,us,e,h,h2⟩:=h; exact ⟨u,us,e,h.mono hk hN,h2.mono hk hN⟩
theorem Ty.Rel.flat {N':Nat->Nat->Prop} {w':World}:∀ {t:Ty} {x:t.den} {cs:List Value},t.flat=true->t.Rel w N x cs->t.Rel w' N' x cs
 | .unit,_,_,_,h=>h
 | .bool,_,_,_,h=>h
 | .int _,_,_,_,h=>h
 | .str,_,_,_,h=>h
 | .err,_,_,_,h=>h
 | .opq,_,_,hf,_=>by cases hf
 | .slice _,_,_,hf,_=>by cases hf
 | .clip _,_,_,hf,_=>by cases hf
 | .pair a b,_,_,hf,h=>by
  simp only [Ty.flat,aF] at hf
  obtain ⟨c1,c2,e,h1,h2⟩:=h
  exact ⟨c1,c2,e,Ty.Rel.flat hf.1 h1,Ty.Rel.flat hf.2 h2⟩
 | .arr n a,_,_,hf,h=>by
  simp only [Ty.flat] at hf
  obtain ⟨h0,css,e,h1⟩:=h
  exact ⟨h0,css,e,h1.mono fun x c hx=>Ty.Rel.flat hf hx⟩
theorem Ty.bK.flat {N':Nat->Nat->Prop} {w':World} {t:Ty} {x:t.den} {u:Value} (hf:t.flat=true) (h:t.bK w N x u):t.bK w' N' x u:=by
 unfold Ty.bK at *
 split
 ·rename_i ha
  rw [if_pos ha] at h
  obtain ⟨cs,e,h⟩:=h
  exact ⟨cs,e,h.flat hf⟩
 ·rename_i ha
  rw [if_neg ha] at h
  exact h.flat hf
theorem DensRel.flat {N':Nat->Nat->Prop} {w':World}:∀ {ts:List Ty} {x:dD ts} {us:List Value},aZ Ty.flat ts=true->DensRel w N ts x us->DensRel w' N' ts x us
 | [],_,_,_,h=>h
 | [t],x,_,hf,h=>by
  simp only [aZ,Bool.and_true] at hf
  obtain ⟨u,e,h⟩:=h; exact ⟨u,e,h.flat hf⟩
 | t :: s :: r,x,_,hf,h=>by
  simp only [aZ,aF] at hf
  obtain ⟨u,us,e,h,h2⟩:=h
  exact ⟨u,us,e,h.flat hf.1,DensRel.flat (by simp only [aZ,aF]; exact hf.2) h2⟩
end
def Pure (P:Program) (f:FuncId) (as rs:List Ty) (F:dD as->Option (dD rs)):Prop :=
 fK P f=true∧∀ x y,F x=some y->∀ (w:World) (N:Nat->Nat->Prop) (xs:List Value),Glob P w->(∀ b j,N b j->b < w.heap.size)->DensRel w N as x xs ->
  Calls P f xs.toArray w fun e w'=>∃ us:List Value,e=.returned (lM us)∧w'.os=w.os∧w'.tape=w.tape∧w'.output=w.output∧Keep (fun _ _=>False) w w'∧DensRel w' N rs y us
def zIg (T:Tab) (res:List ResultVar) (rs:List Ty) (σ:St):Option (dD rs) :=
 match Li T σ res with
 | some (c,vs) =>
  match Az rs vs with
  | some y=>chk c (some y)
  | none=>none
 | none=>none
def zIh (T:Tab) (res:List ResultVar) (rs:List Ty):K (dD rs):=fun e σ =>
 match e with
 | .normal=>zIg T res rs σ
 | .ret=>zIg T res rs σ
 | _=>none
section
variable {T:Tab} {P:Program}
theorem zAw {C:Ctx} {β β':Nat->Pl} {w:World} {σ:St} {a:Act} {fn:Func} {vs:List (Sum L (List L))} {N':Nat->Nat->Prop} (hT:aU C.P T) (hs:Sim C β σ a w) (hN:∀ b j,b < w.heap.size->N' b j->C.N0 b j) (h:Li T σ fn.results.toList=some (true,vs)) :
  ∃ us:List Value,(results fn a.tmps).run C.P w=.ok (lM us) w∧aQ (dP β' w N') vs us:=by
 obtain ⟨us,h1,h2,_⟩:=Xi (β':=β') hT hs hN h #[]
 refine ⟨us,?_,h2⟩
 have e0:results fn a.tmps=(do let vs <- fn.results.mapM (nS a.tmps); pure (if h:vs.size=1 then vs[0] else .tuple vs)):=by
  unfold results
  congr 1
 have hm:(fn.results.mapM (nS a.tmps):Sem (Array Value)).run C.P w=.ok us.toArray w:=by
  rw [Array.mapM_eq_foldlM,<- Array.foldlM_toList]
  have e:(fun (acc:Array Value) rv=>do let v <- nS a.tmps rv; pure (acc.push v):Array Value->ResultVar->Sem (Array Value))=(fun (acc:Array Value) rv=>acc.push <$> nS a.tmps rv):=by
   funext acc rv
   rfl
  rw [e] at h1
  simpa using h1
 rw [e0]
 simp only [Sem.run_bind,hm,Result.andThen_ok,Sem.run_pure]
 match us with
 | []=>rfl
 | [u]=>rfl
 | u :: v :: us=>simp [lM]
theorem Ji:∀ cs:List Co,aZ (Co.fx 0) cs=true
 | []=>rfl
 | c :: cs=>by
  simp only [aZ,Ji cs,Bool.and_true]
  cases c <;> first | rfl | simp [Co.fx]
theorem wP {ρ:Type}:∀ an:An ρ,an.fx 0=true
 | .nil=>rfl
 | .mk l r c=>by simp only [An.fx,wP l,wP r,Ji,Bool.and_self]
 | .loop _ c0 c1 _ a=>by simp only [An.fx,wP a,Ji,Bool.and_self]
 | .scope _ a b=>by simp only [An.fx,wP a,wP b,Bool.and_self]
 | .sem _=>rfl
 | .co c a=>by simp only [An.fx,wP a,Ji,Bool.and_self]
 | .join _ c a=>by simp only [An.fx,wP a,Ji,Bool.and_self]
theorem jP {f:FuncId} {fn:Func} {c:Code} {as rs:List Ty} {F:dD as->Option (dD rs)} {Γ:Orc (dD rs)} {an:An (dD rs)} (hf:P.funcs[f]?=some fn) (hb:fn.body=some c) (hh:fK P f=true) (hT:aU P T) (hΓ:gM P Γ) (hm:P.follows .mixedOrders=true) (ha:Ut P 0 c an)
  (h:∀ x,ev Γ T c an ⟨yK (sN as x) fn.ntmps,[]⟩ (zIh T fn.results.toList rs)=F x):Pure P f as rs F:=by
 refine ⟨hh,fun x y hF w N xs hG hN hx=>?_⟩
 rw [<- h x] at hF
 let C:Ctx:={ P:=P,N0:=N,w0:=w,xG:=fun _ _=>False,glob:=fun w' h=>hG.keep fun b hb=>h.block b hb (fun _ h=>h),fix:=[] }
 let β0:Nat->Pl:=fun _=>⟨false,false,0,none,0,0,0,[]⟩
 have hargs:jN β0 w N (sN as x) xs:=Ba hx
 have hxl:(sN as x).length=xs.length:=hargs.length
 have uT:Sim C β0 ⟨yK (sN as x) fn.ntmps,[]⟩ { tmps:=xs.toArray++Array.replicate (fn.ntmps - xs.toArray.size) undef,defers:=[] } w:=by
  refine ⟨⟨by simp,fun _ _=>rfl,by simp,by simp,hN,Keep.refl _ _,aI _,rfl,rfl,rfl,fun j o hj=>by cases hj⟩,rfl,by simp [yK,hxl],?_⟩
  intro i u hu
  simp only [yK] at hu
  by_cases hi:i < (sN as x).length
  ·rw [dG hi] at hu
   have hi':i < xs.length:=by rw [<- hxl]; exact hi
   have hr:=hargs.get i hi hi'
   rw [List.getElem?_eq_getElem hi] at hu
   simp only [aA] at hu
   subst hu
   have:(xs.toArray++Array.replicate (fn.ntmps - xs.toArray.size) undef).getD i undef=xs[i]:=by
    rw [Array.getD_eq_getD_getElem?,Array.getElem?_append_left (by simpa using hi')]
    simp [hi']
   rw [this]
   refine hr.mono (Moves.refl β0) (Keep.refl _ w) (fun b j _ hb=>?_)
   rcases hb with hb | ⟨id,o,ho,_⟩
   ·exact hb
   ·simp at ho
  ·rw [List.getElem?_append_right (by omega),List.getElem?_replicate] at hu
   split at hu
   ·simp only [aA] at hu; subst hu; trivial
   ·cases hu
 refine calls_of_wp hf hb ?_
 refine Ol (P:=P) hT hΓ hm c an ha (wP an) _ _ y hF C β0 _ w _ rfl (aI _) uT ?_
 intro e x' σ' β' a' w' hs' hx' hk
 have fin:zIg T fn.results.toList rs σ'=some y->x'=.ret∨x'=.normal->bodyPost P fn (fun e w'=>∃ us:List Value,e=.returned (lM us)∧w'.os=w.os∧w'.tape=w.tape∧w'.output=w.output∧Keep (fun _ _=>False) w w'∧DensRel w' N rs y us) x' a' w':=by
  intro hk hx'
  unfold zIg at hk
  split at hk
  ·rename_i cc ss hrs
   split at hk
   ·rename_i y' hd
    obtain ⟨rfl,hk⟩:=lZ hk
    obtain rfl:=Option.some.inj hk
    obtain ⟨us,h1,h2⟩:=zAw (C:=C) (β':=β0) (N':=N) (fn:=fn) hT hs' (fun _ _ _ hb=>hb) hrs
    have hkeep:Keep (fun _ _=>False) w w':=hs'.heap.frame
    have hR:=Xk hd h2
    rcases hx' with rfl | rfl
    ·exact ⟨hs'.defers,_,h1,us,rfl,hs'.heap.os,hs'.heap.tape,hs'.heap.output,hkeep,hR⟩
    ·exact ⟨hs'.defers,_,h1,us,rfl,hs'.heap.os,hs'.heap.tape,hs'.heap.output,hkeep,hR⟩
   ·cases hk
  ·cases hk
 cases e with
 | normal=>obtain rfl:=hx'; exact fin hk (.inr rfl)
 | ret=>obtain rfl:=hx'; exact fin hk (.inl rfl)
 | exit i=>simp [zIh] at hk
 | goto l=>simp [zIh] at hk
 | pan t u=>simp [zIh] at hk
def lF (as rs:List Ty) (F:dD as->Option (dD rs)):PE where
 R:=dD rs
 use:=1
 run vs h:=match jO (aZ Ty.flat rs) h as vs with
  | some (c,x)=>some (c,F x)
  | none=>none
 enc y _ h:=(zPh (zIe rs y),h)
theorem zAx {C:Ctx} {β:Nat->Pl} {h:List Ob} {w:World} {bor:Bool} {t:Ty} {v:V} {x:t.den} {u:Value} (hd:Om bor h t v=some (true,x)) (hs:dB C β h w) (hr:v.Rel β w (C.N β h) u) :
  t.bK w (zUv bor (C.N β h)) x u:=by
 unfold Om at hd
 cases bor with
 | true =>
  simp only at hd ⊢
  split at hd
  ·rename_i c v' hv
   split at hd
   ·rename_i s hsum
    split at hd
    ·rename_i y hy
     simp only [aA,aB] at hd
     obtain ⟨rfl,rfl⟩:=hd
     obtain ⟨h1,_⟩:=V.qB (β':=β) (N':=fun _ _=>False) hv hs (fun _ _ _ h=>h.elim) hr
     exact Eu hy (V.Uw hsum h1)
    ·cases hd
   ·cases hd
  ·cases hd
 | false =>
  simp only at hd ⊢
  split at hd
  ·rename_i s hD hsum
   split at hd
   ·rename_i y hy
    simp only [aA,aB,true_and] at hd
    subst hd
    exact Eu hy (V.Uw hsum hr)
   ·cases hd
  ·cases hd
theorem Bc {C:Ctx} {β:Nat->Pl} {h:List Ob} {w:World} {bor:Bool} (hs:dB C β h w):∀ {ts:List Ty} {vs:List V} {x:dD ts} {us:List Value},jO bor h ts vs=some (true,x)->jN β w (C.N β h) vs us ->
  DensRel w (zUv bor (C.N β h)) ts x us
 | [],[],_,[],_,_=>rfl
 | [t],[v],x,[u],hd,hr=>⟨u,rfl,zAx hd hs hr.1⟩
 | t :: s :: r,v :: vs,x,u :: us,hd,hr=>by
  simp only [jO] at hd
  split at hd
  ·rename_i c y d z h1 h2
   simp only [aA,aB,aF] at hd
   obtain ⟨⟨rfl,rfl⟩,rfl⟩:=hd
   exact ⟨u,us,rfl,zAx h1 hs hr.1,Bc hs h2 hr.2⟩
  ·cases hd
 | [],[],_,_ :: _,_,hr=>hr.elim
 | [],_ :: _,_,_,h,_=>by simp [jO] at h
 | [t],[],_,_,h,_=>by simp [jO] at h
 | [t],[s],_,[],_,hr=>hr.elim
 | [t],[s],_,_ :: _ :: _,_,hr=>hr.2.elim
 | [t],_ :: _ :: _,_,_,h,_=>by simp [jO] at h
 | t :: u :: r,[],_,_,h,_=>by simp [jO] at h
 | t :: u :: r,s :: ss,_,[],_,hr=>hr.elim
theorem zAy {h:List Ob}:∀ {l:L},l.isD=true->l.deep h=some (true,l)
 | .val ..,_=>rfl
 | .kD,_=>rfl
 | .bV,_=>rfl
 | .iV ..,_=>rfl
 | .clo f [],_=>rfl
 | .clo f (_ :: _),h=>by cases h
 | .ptr ..,h=>by cases h
 | .jB ..,h=>by cases h
 | .eU ..,h=>by cases h
 | .sl ..,h=>by cases h
 | .own ..,h=>by cases h
 | .bad _,h=>by cases h
 | .dZ ..,h=>by cases h
theorem Xl {h:List Ob}:∀ {ls:List L},aZ L.isD ls=true->Es h ls=some (true,ls)
 | [],_=>rfl
 | l :: ls,hd=>by
  simp only [aZ,aF] at hd
  simp only [Es,zAy hd.1,Xl hd.2,Bool.and_self]
theorem zAz {bor:Bool} {t:Ty} {v:V} (hd:v.isD=true) (h h2:List Ob):Om bor h t v=Om bor h2 t v:=by
 cases bor with
 | false=>rfl
 | true =>
  unfold Om
  cases v with
  | one l=>simp only [V.deep,zAy (show l.isD=true from hd)]
  | agg ls=>simp only [V.deep,Xl (show aZ L.isD ls=true from hd)]
  | _=>rfl
theorem Xm {bor:Bool}:∀ {ts:List Ty} {vs:List V} (_:aZ V.isD vs=true) (h h2:List Ob),jO bor h ts vs=jO bor h2 ts vs
 | [],[],_,_,_=>rfl
 | [t],[v],hd,h,h2=>by
  simp only [aZ,Bool.and_true] at hd
  simp only [jO,zAz hd h h2]
 | t :: s :: r,v :: vs,hd,h,h2=>by
  simp only [aZ,aF] at hd
  simp only [jO,zAz hd.1 h h2,Xm (ts:=s :: r) hd.2 h h2]
 | [],_ :: _,_,_,_=>rfl
 | [t],[],_,_,_=>rfl
 | [t],_ :: _ :: _,_,_,_=>rfl
 | t :: s :: r,[],_,_,_=>rfl
theorem zBa {β:Nat->Pl} {w:World} {N:Nat->Nat->Prop} {ss:List (Sum L (List L))} {us:List Value} (h:aQ (dP β w N) ss us):(zPh ss).Rel β w N (lM us):=by
 match ss,us,h with
 | [],[],_=>exact ⟨[],rfl,trivial⟩
 | [.inl l],[u],h=>exact h.1
 | [.inr ls],[u],h=>exact h.1
 | s :: t :: ss,u :: v :: us,h=>cases s <;> exact ⟨_,rfl,h⟩
theorem fQ {f:FuncId} {as rs:List Ty} {F:dD as->Option (dD rs)} (h:Pure P f as rs F):(lF as rs F).OK P f:=by
 refine ⟨h.1,fun vs hp y hr C β w xs hP hs ha=>?_,fun _ vs h1 h2 hd=>⟨by simp only [lF]; rw [Xm hd h1 h2],fun _=>rfl⟩,fun _ _ _ _=>rfl,fun h=>by cases h⟩
 subst hP
 simp only [lF] at hr
 split at hr
 ·rename_i c x hd
  simp only [aA,aB] at hr
  obtain ⟨rfl,hF⟩:=hr
  have hx:=Bc hs hd ha
  have hn:∀ b j,C.N β hp b j->b < w.heap.size:=fun b j hb=>by
   rcases hb with hb | ⟨id,o,ho,_,hbk⟩
   ·exact Nat.lt_of_lt_of_le (hs.n0 b j hb) hs.size
   ·exact (hs.dH id o b ho ⟨j,hbk⟩).2.1
  refine (h.2 x y hF w _ xs (C.glob w hs.frame) (fun b j hb=>?_) hx).mono ?_
  ·cases hfl:aZ Ty.flat rs with
   | true=>rw [hfl] at hb; exact hb.elim
   | false=>rw [hfl] at hb; exact hn b j hb
  ·rintro e w' ⟨us,rfl,ho,ht,hop,hk,hy⟩
   have hy':DensRel w' (C.N β hp) rs y us:=by
    cases hfl:aZ Ty.flat rs with
    | true=>exact hy.flat hfl
    | false=>rw [hfl] at hy; exact hy
   refine ⟨_,_,β,⟨rfl,rfl⟩,Moves.refl β,hk.weaken fun _ _ h=>h.elim,fun _ _ _ h=>h,?_,_,rfl,zBa (Xj hy')⟩
   refine ⟨fun id o hob=>(hs.obj id o hob).mono (Moves.refl β) (hk.weaken fun _ _ h=>h.elim) (fun _ _ _ h=>h) fun b hb=>hk.block b (hs.dH id o b hob hb).2.1 (fun _ h=>h),hs.dead,hs.jT,?_,hs.n0,hs.frame.mQ hk fun _ _ _ h=>h.elim,Nat.le_trans hs.size hk.size,ho.trans hs.os,ht.trans hs.tape,hop.trans hs.output,hs.fixed⟩
   ·intro id o b hob hb
    obtain ⟨k1,k2,k3⟩:=hs.dH id o b hob hb
    exact ⟨k1,Nat.lt_of_lt_of_le k2 hk.size,k3⟩
 ·cases hr
def pes:List (FuncId × PE)->FuncId->Option PE
 | [],_=>none
 | (g,e) :: r,f=>match Nat.beq g f with
  | true=>some e
  | false=>pes r f
def orc (ρ:Type) (l:List (FuncId × PE)):Orc ρ:=⟨pes l,fun _ _ _ _=>none⟩
theorem zUw {ρ:Type}:∀ {l:List (FuncId × PE)},(∀ p ∈ l,p.2.OK P p.1)->gM P (orc ρ l):=by
 intro l h
 refine ⟨fun f e he=>?_,fun _ _ _ _ _ h=>by cases h⟩
 simp only [orc] at he
 induction l with
 | nil=>cases he
 | cons p r ih =>
  obtain ⟨g,e'⟩:=p
  simp only [pes] at he
  split at he
  ·rename_i hb
   have:=aG hb
   subst this
   simp only [aA] at he
   subst he
   exact h _ (.head _)
  ·exact ih (fun p hp=>h p (.tail _ hp)) he
theorem all_nil {Q:FuncId × PE->Prop}:∀ p ∈ ([]:List (FuncId × PE)),Q p:=fun _ h=>by cases h
theorem all_cons {Q:FuncId × PE->Prop} {p:FuncId × PE} {l:List (FuncId × PE)} (h:Q p) (hl:∀ q ∈ l,Q q):∀ q ∈ p :: l,Q q:=fun q hq=>by
 cases hq with
 | head=>exact h
 | tail _ hq=>exact hl q hq
end
end Go.Dec
namespace Go.Dec
mutual
def L.back (f v:Nat->Nat):L->L
 | .ptr id o=>.ptr (f id) o
 | .dZ id o=>.dZ (f id) o
 | .jB id o es i sub=>.jB (f id) o es i sub
 | .eU id u i o=>.eU (f id) (u+v id) i o
 | .sl id u i n=>.sl (f id) (u+v id) i n
 | .own id u=>.own (f id) (u+v id)
 | .clo g caps=>.clo g (L.backs f v caps)
 | .mp id=>.mp (f id)
 | l=>l
def L.backs (f v:Nat->Nat):List L->List L
 | []=>[]
 | l :: ls=>l.back f v :: L.backs f v ls
end
def V.back (f v:Nat->Nat):V->V
 | .one l=>.one (l.back f v)
 | .agg ls=>.agg (L.backs f v ls)
 | _=>.bB
def Ob.back (f v:Nat->Nat) (id:Nat):Ob->Ob
 | .box e ls=>.box e (L.backs f v ls)
 | .arr e t u rows wr=>.arr e t (u+v id) rows wr
 | .fm tab=>.fm tab
 | .dm kt vt es=>.dm kt vt es
section
variable {β β':Nat->Pl} {w:World} {N N':Nat->Nat->Prop}
structure Jj (p q:Pl) (v:Nat):Prop where
 live:q.live=p.live
 box:q.box=p.box
 blk:q.blk=p.blk
 row:p.box=false->q.ver=p.ver+v∧q.size=p.size∧q.cap=p.cap∧q.len=p.len
theorem Jj.zRf {p q:Pl} {v:Nat} (h:Jj p q v) (hb:p.box=false) {off len:Nat} {c:Value}:dU q off len c <-> dU p off len c:=by
 obtain ⟨_,h2,h3,_⟩:=h.row hb
 unfold dU
 rw [h.blk,h2,h3]
mutual
theorem L.Rel.back {f v:Nat->Nat} (hβ:∀ j,(β j).live=true->Jj (β j) (β' (f j)) (v j)) (hN:∀ b j,b < w.heap.size->N' b j->N b j):∀ {l:L} {cs:List Value},l.Rel β w N cs->(l.back f v).Rel β' w N' cs
 | .val t x,cs,h=>by simp only [L.back,L.Rel] at *; exact Ty.Rel.mono (Keep.refl _ w) hN h
 | .ptr id off,cs,h=>by
  simp only [L.back,L.Rel] at *
  obtain ⟨h1,h2,h3⟩:=h
  have:=hβ id h1
  exact ⟨this.live ▸ h1,this.box ▸ h2,by rw [this.blk]; exact h3⟩
 | .jB id off es i sub,cs,h=>by
  simp only [L.back,L.Rel] at *
  obtain ⟨h1,h2,h3⟩:=h
  have:=hβ id h1
  exact ⟨this.live ▸ h1,this.box ▸ h2,by rw [this.blk]; exact h3⟩
 | .kD,cs,h=>by simp only [L.back,L.Rel] at *; exact h
 | .dZ id off,cs,h=>by
  simp only [L.back,L.Rel] at *
  obtain ⟨c,e,h⟩:=h
  refine ⟨c,e,?_⟩
  rcases h with h | ⟨h1,h2,h3⟩
  ·exact .inl h
  ·have:=hβ id h1
   exact .inr ⟨this.live ▸ h1,this.box ▸ h2,by rw [this.blk]; exact h3⟩
 | .eU id u i off,cs,h=>by
  simp only [L.back,L.Rel] at *
  obtain ⟨h1,h2,h3,c,h4,h5,h6⟩:=h
  have:=hβ id h1
  obtain ⟨g1,g2,g3,g4⟩:=this.row h2
  refine ⟨this.live ▸ h1,this.box ▸ h2,by omega,c,h4,h5,fun hv=>?_⟩
  rw [this.blk,g2]
  exact h6 (by omega)
 | .iV t x off,cs,h=>by simp only [L.back,L.Rel] at *; obtain ⟨c,hc,hr⟩:=h; exact ⟨c,hc,hr.mono (Keep.refl _ w) hN⟩
 | .sl id u off len,cs,h=>by
  simp only [L.back,L.Rel] at *
  obtain ⟨h1,h2,h3,c,h4,h5,h6⟩:=h
  have:=hβ id h1
  obtain ⟨g1,g2,g3,g4⟩:=this.row h2
  exact ⟨this.live ▸ h1,this.box ▸ h2,by omega,c,h4,h5,fun hv=>(this.zRf h2).2 (h6 (by omega))⟩
 | .own id u,cs,h=>by
  simp only [L.back,L.Rel] at *
  obtain ⟨h1,h2,h3,c,h4,h5,h6⟩:=h
  have:=hβ id h1
  obtain ⟨g1,g2,g3,g4⟩:=this.row h2
  exact ⟨this.live ▸ h1,this.box ▸ h2,by omega,c,h4,h5,fun hv=>by rw [g4]; exact (this.zRf h2).2 (h6 (by omega))⟩
 | .bV,cs,h=>by simp only [L.back,L.Rel] at *; exact h
 | .clo g caps,cs,h=>by
  simp only [L.back,L.Rel] at *
  obtain ⟨us,hc,hr⟩:=h
  exact ⟨us,hc,L.bP.back hβ hN hr⟩
 | .bad n,cs,h=>by simp only [L.back,L.Rel] at *; exact h
 | .xE x tab,cs,h=>by simp only [L.back,L.Rel] at *; exact h
 | .mp id,cs,h=>by
  simp only [L.back,L.Rel] at *
  obtain ⟨h1,h2,h3⟩:=h
  have:=hβ id h1
  exact ⟨this.live ▸ h1,this.box ▸ h2,by rw [this.blk]; exact h3⟩
theorem L.bP.back {f v:Nat->Nat} (hβ:∀ j,(β j).live=true->Jj (β j) (β' (f j)) (v j)) (hN:∀ b j,b < w.heap.size->N' b j->N b j):∀ {ls:List L} {us:List Value},L.bP β w N ls us->L.bP β' w N' (L.backs f v ls) us
 | [],us,h=>by simp only [L.backs,L.bP] at *; exact h
 | l :: ls,us,h=>by
  simp only [L.backs,L.bP] at *
  obtain ⟨u,r,e,h1,h2⟩:=h
  exact ⟨u,r,e,L.Rel.back hβ hN h1,L.bP.back hβ hN h2⟩
end
theorem aL.back {f v:Nat->Nat} (hβ:∀ j,(β j).live=true->Jj (β j) (β' (f j)) (v j)) (hN:∀ b j,b < w.heap.size->N' b j->N b j):∀ {ls:List L} {cs:List Value},aL β w N ls cs->aL β' w N' (L.backs f v ls) cs
 | [],_,h=>h
 | _l :: _ls,_,⟨c1,c2,e,h1,h2⟩=>⟨c1,c2,e,h1.back hβ hN,aL.back hβ hN h2⟩
theorem V.Rel.back {f v:Nat->Nat} (hβ:∀ j,(β j).live=true->Jj (β j) (β' (f j)) (v j)) (hN:∀ b j,b < w.heap.size->N' b j->N b j) {x:V} {u:Value} (h:x.Rel β w N u):(x.back f v).Rel β' w N' u:=by
 cases x with
 | one l=>exact L.Rel.back hβ hN h
 | agg ls=>obtain ⟨cs,e,h⟩:=h; exact ⟨cs,e,h.back hβ hN⟩
 | _=>trivial
theorem Ob.Rel.back {f v:Nat->Nat} (hβ:∀ j,(β j).live=true->Jj (β j) (β' (f j)) (v j)) (hN:∀ b j,b < w.heap.size->N' b j->N b j) {id:Nat} {o:Ob} (h:o.Rel β w N (β id)):(o.back f v id).Rel β' w N' (β' (f id)):=by
 cases o with
 | box e ls =>
  simp only [Ob.back,Ob.Rel] at *
  obtain ⟨h1,h2,b,cs,h3,h4,h5⟩:=h
  have:=hβ id h1
  exact ⟨this.live ▸ h1,this.box ▸ h2,b,cs,this.blk ▸ h3,h4.back hβ hN,h5⟩
 | arr e t u rows wr =>
  simp only [Ob.back,Ob.Rel] at *
  obtain ⟨h1,h2,h3,h4,h5,h6,h7⟩:=h
  have:=hβ id h1
  obtain ⟨g1,g2,g3,g4⟩:=this.row h2
  refine ⟨this.live ▸ h1,this.box ▸ h2,by omega,by rw [g2,h4],h5,by rw [g4,h6],?_⟩
  rw [this.blk,g3]
  rcases h7 with h7 | ⟨b,cur,css,k1,k2,k3,k4⟩
  ·exact .inl h7
  ·exact .inr ⟨b,cur,css,k1,k2,k3.mono fun _ _ h=>h.mono (Keep.refl _ w) hN,k4⟩
 | fm tab =>
  simp only [Ob.back,Ob.Rel] at *
  obtain ⟨h1,h2,b,es,n,h3,h4⟩:=h
  have:=hβ id h1
  exact ⟨this.live ▸ h1,this.box ▸ h2,b,es,n,this.blk ▸ h3,h4⟩
 | dm kt vt es =>
  simp only [Ob.back,Ob.Rel] at *
  obtain ⟨h1,h2,b,ms,h3,h4,h5⟩:=h
  have:=hβ id h1
  exact ⟨this.live ▸ h1,this.box ▸ h2,b,ms,this.blk ▸ h3,h4,h5.mono (Keep.refl _ w) hN⟩
end
def rA (P:Program) (f:FuncId) (si so:Sh) (F:si.X->Option so.X):Prop :=
 fK P f=true∧∀ x y,F x=some y->∀ (C:Ctx) (β:Nat->Pl) (w:World) (xs:List Value),C.P=P->C.fix.length <= si.os.length->Sim C β (si.enc x) { tmps:=xs.toArray,defers:=[] } w ->
  Calls P f xs.toArray w fun e w'=>∃ (us:List Value) (β':Nat->Pl),e=.returned (lM us)∧Sim C β' (so.enc y) { tmps:=us.toArray,defers:=[] } w'
def Rm:List V->Option (List (Sum L (List L)))
 | []=>some []
 | v :: r=>match v.sum,Rm r with
  | some s,some ss=>some (s :: ss)
  | _,_=>none
def zIi (vs:List V):V :=
 match Rm vs with
 | some ss=>zPh ss
 | none=>.bB
def zV (g:Nat->Option Ob):Nat->List Ob->List Ob
 | _,[]=>[]
 | i,o :: r=>(match g i with | some o'=>o' | none=>o) :: zV g (i+1) r
def nT (f v:Nat->Nat):Nat->List Ob->List Ob
 | _,[]=>[]
 | j,o :: r=>o.back f v j :: nT f v (j+1) r
def rC:List Ob->List OS->Bool
 | [],_=>true
 | .box .. :: r,_ :: s=>rC r s
 | .fm .. :: r,_ :: s=>rC r s
 | .dm .. :: r,_ :: s=>rC r s
 | .arr .. :: r,.row .. :: s=>rC r s
 | _,_=>false
def iJ (ρ:List Nat) (n:Nat) (j:Nat):Nat:=match ρ[j]? with | some i=>i | none=>n+(j - ρ.length)
def gZ (ρ:List Nat) (h:List Ob) (j:Nat):Nat:=match ρ[j]? with
 | some i=>(match h[i]? with | some (.arr _ _ u _ _)=>u+1 | _=>0)
 | none=>0
def gF (ρ:List Nat) (h hy:List Ob):List Ob :=
 zV (fun i=>match pos i ρ 0 with | some j=>(match hy[j]? with | some o=>some (o.back (iJ ρ h.length) (gZ ρ h) j) | none=>none) | none=>none) 0 h++nT (iJ ρ h.length) (gZ ρ h) ρ.length (hy.drop ρ.length)
def Rn (ρ:List Nat) (h:List Ob) (si so:Sh):Bool :=
 nodupB ρ && (aZ (fun i=>Nat.blt i h.length) ρ && (Nat.beq ρ.length si.os.length && (aZ Ob.wr (inH ρ h) && rC (inH ρ h) so.os)))
def peM (si so:Sh) (F:si.X->Option so.X):PE where
 R:=so.X
 use:=3
 run vs h:=match si.dec ⟨vs.map (V.ren (reach vs h) h),inH (reach vs h) h⟩ with
  | some x=>some (Rn (reach vs h) h si so,F x)
  | none=>none
 enc y vs h:=(zIi ((so.enc y).r.map (V.back (iJ (reach vs h) h.length) (gZ (reach vs h) h))),gF (reach vs h) h (so.enc y).h)
theorem Oo {g:Nat->Option Ob}:∀ {h:List Ob} {n i:Nat},(zV g n h)[i]?=(h[i]?).map fun o=>(match g (n+i) with | some o'=>o' | none=>o)
 | [],n,i=>by simp [zV]
 | o :: r,n,0=>by simp [zV]
 | o :: r,n,i+1=>by
  simp only [zV,List.getElem?_cons_succ]
  rw [Oo (h:=r),show n+1+i=n+(i+1) by omega]
theorem rZ {g:Nat->Option Ob}:∀ {h:List Ob} {n:Nat},(zV g n h).length=h.length
 | [],_=>rfl
 | _ :: r,n=>congrArg (· + 1) (rZ (h:=r) (n:=n+1))
theorem Jk {f v:Nat->Nat}:∀ {h:List Ob} {n i:Nat},(nT f v n h)[i]?=(h[i]?).map fun o=>o.back f v (n+i)
 | [],n,i=>by simp [nT]
 | o :: r,n,0=>by simp [nT]
 | o :: r,n,i+1=>by
  simp only [nT,List.getElem?_cons_succ]
  rw [Jk (h:=r),show n+1+i=n+(i+1) by omega]
theorem Bf {f v:Nat->Nat}:∀ {h:List Ob} {n:Nat},(nT f v n h).length=h.length
 | [],_=>rfl
 | _ :: r,n=>congrArg (· + 1) (Bf (h:=r) (n:=n+1))
theorem Ob.Jl {f v:Nat->Nat} {j:Nat} (o:Ob):(o.back f v j).jS=o.jS:=by cases o <;> rfl
theorem Ob.vC {f v:Nat->Nat} {j:Nat} (o:Ob):(o.back f v j).wr=o.wr:=by cases o <;> rfl
theorem sD:∀ {hc:List Ob} {os:List OS} {j:Nat} {e:TypeId} {t:Ty} {u:Nat} {rows:List t.den} {wr:Bool},rC hc os=true->hc[j]?=some (.arr e t u rows wr)->∃ e' t',os[j]?=some (.row e' t')
 | [],_,j,_,_,_,_,_,_,h=>by simp at h
 | .box .. :: r,[],j,_,_,_,_,_,hk,_=>by cases hk
 | .box .. :: r,s :: os,0,_,_,_,_,_,_,h=>by simp at h
 | .box .. :: r,s :: os,j+1,_,_,_,_,_,hk,h=>by
  obtain ⟨e',t',h'⟩:=sD (hc:=r) (os:=os) (j:=j) hk (by simpa using h)
  exact ⟨e',t',by simpa using h'⟩
 | .fm .. :: r,[],j,_,_,_,_,_,hk,_=>by cases hk
 | .fm .. :: r,s :: os,0,_,_,_,_,_,_,h=>by simp at h
 | .fm .. :: r,s :: os,j+1,_,_,_,_,_,hk,h=>by
  obtain ⟨e',t',h'⟩:=sD (hc:=r) (os:=os) (j:=j) hk (by simpa using h)
  exact ⟨e',t',by simpa using h'⟩
 | .dm .. :: r,[],j,_,_,_,_,_,hk,_=>by cases hk
 | .dm .. :: r,s :: os,0,_,_,_,_,_,_,h=>by simp at h
 | .dm .. :: r,s :: os,j+1,_,_,_,_,_,hk,h=>by
  obtain ⟨e',t',h'⟩:=sD (hc:=r) (os:=os) (j:=j) hk (by simpa using h)
  exact ⟨e',t',by simpa using h'⟩
 | .arr .. :: r,.fm .. :: os,j,_,_,_,_,_,hk,_=>by cases hk
 | .arr .. :: r,.dm .. :: os,j,_,_,_,_,_,hk,_=>by cases hk
 | .arr .. :: r,[],j,_,_,_,_,_,hk,_=>by cases hk
 | .arr .. :: r,.box .. :: os,j,_,_,_,_,_,hk,_=>by cases hk
 | .arr .. :: r,.row e t :: os,0,_,_,_,_,_,_,_=>⟨e,t,rfl⟩
 | .arr .. :: r,.row e t :: os,j+1,_,_,_,_,_,hk,h=>by
  obtain ⟨e',t',h'⟩:=sD (hc:=r) (os:=os) (j:=j) hk (by simpa using h)
  exact ⟨e',t',by simpa using h'⟩
theorem wQ {A:Type}:∀ {os:List OS} {x:OTs os A} {j:Nat} {e:TypeId} {t:Ty},os[j]?=some (.row e t)->∃ rows,(eB os x).1[j]?=some (.arr e t 0 rows true)
 | [],_,j,_,_,h=>by simp at h
 | .box e0 ls :: r,x,0,_,_,h=>by simp at h
 | .box e0 ls :: r,x,j+1,e,t,h=>by
  obtain ⟨rows,h'⟩:=wQ (os:=r) (x:=(bZ ls x).2) (j:=j) (by simpa using h)
  exact ⟨rows,by simpa [eB] using h'⟩
 | .fm tab :: r,x,0,_,_,h=>by simp at h
 | .fm tab :: r,x,j+1,e,t,h=>by
  obtain ⟨rows,h'⟩:=wQ (os:=r) (x:=x) (j:=j) (by simpa using h)
  exact ⟨rows,by simpa [eB] using h'⟩
 | .dm kt vt :: r,x,0,_,_,h=>by simp at h
 | .dm kt vt :: r,x,j+1,e,t,h=>by
  obtain ⟨rows,h'⟩:=wQ (os:=r) (x:=x.2) (j:=j) (by simpa using h)
  exact ⟨rows,by simpa [eB] using h'⟩
 | .row e0 t0 :: r,x,0,e,t,h=>by
  simp only [List.getElem?_cons_zero,aA,OS.row.injEq] at h
  obtain ⟨rfl,rfl⟩:=h
  exact ⟨x.1,rfl⟩
 | .row e0 t0 :: r,x,j+1,e,t,h=>by
  obtain ⟨rows,h'⟩:=wQ (os:=r) (x:=x.2) (j:=j) (by simpa using h)
  exact ⟨rows,by simpa [eB] using h'⟩
theorem zW {A:Type}:∀ {os:List OS} {x:OTs os A} {j:Nat} {o:Ob},(eB os x).1[j]?=some o->o.wr=true
 | [],_,j,_,h=>by simp [eB] at h
 | .box e0 ls :: r,x,0,_,h=>by simp only [eB,List.getElem?_cons_zero,aA] at h; subst h; rfl
 | .box e0 ls :: r,x,j+1,o,h=>zW (os:=r) (x:=(bZ ls x).2) (j:=j) (by simpa [eB] using h)
 | .fm tab :: r,x,0,_,h=>by simp only [eB,List.getElem?_cons_zero,aA] at h; subst h; rfl
 | .fm tab :: r,x,j+1,o,h=>zW (os:=r) (x:=x) (j:=j) (by simpa [eB] using h)
 | .dm kt vt :: r,x,0,_,h=>by simp only [eB,List.getElem?_cons_zero,aA] at h; subst h; rfl
 | .dm kt vt :: r,x,j+1,o,h=>zW (os:=r) (x:=x.2) (j:=j) (by simpa [eB] using h)
 | .row e0 t0 :: r,x,0,_,h=>by simp only [eB,List.getElem?_cons_zero,aA] at h; subst h; rfl
 | .row e0 t0 :: r,x,j+1,o,h=>zW (os:=r) (x:=x.2) (j:=j) (by simpa [eB] using h)
theorem Xn {β:Nat->Pl} {w:World} {N:Nat->Nat->Prop}:∀ {vs:List V} {us:List Value} {ss:List (Sum L (List L))},Rm vs=some ss->aQ (fun v u=>V.Rel β w N v u) vs us->aQ (dP β w N) ss us
 | [],[],ss,h,_=>by simp only [Rm,aA] at h; subst h; trivial
 | v :: vs,u :: us,ss,h,hr=>by
  simp only [Rm] at h
  split at h
  ·rename_i s ss' h1 h2
   simp only [aA] at h
   subst h
   exact ⟨V.Uw h1 hr.1,Xn h2 hr.2⟩
  ·cases h
 | [],_ :: _,_,_,hr=>hr.elim
 | _ :: _,[],_,_,hr=>hr.elim
theorem zBb {β:Nat->Pl} {w:World} {N:Nat->Nat->Prop} {vs:List V} {us:List Value} (hr:aQ (fun v u=>V.Rel β w N v u) vs us):(zIi vs).Rel β w N (lM us):=by
 unfold zIi
 split
 ·rename_i ss h
  exact zBa (Xn h hr)
 ·trivial
theorem zFi {α γ:Type} {R:α->γ->Prop}:∀ {x:List α} {y:List γ},x.length=y.length->(∀ (i:Nat) (a:α) (b:γ),x[i]?=some a->y[i]?=some b->R a b)->aQ R x y
 | [],[],_,_=>trivial
 | a :: x,b :: y,hl,h=>⟨h 0 a b rfl rfl,zFi (by simpa using hl) fun i c d hc hd=>h (i+1) c d (by simpa using hc) (by simpa using hd)⟩
 | [],_ :: _,hl,_=>by simp at hl
 | _ :: _,[],hl,_=>by simp at hl
end Go.Dec
namespace Go.Dec
section
variable {P:Program} {f:FuncId} {si so:Sh} {F:si.X->Option so.X}
theorem Nc {ρ:List Nat} {h:List Ob} (hc:Rn ρ h si so=true):nodupB ρ=true∧(∀ i ∈ ρ,i < h.length)∧ρ.length=si.os.length∧(∀ (j:Nat) (o:Ob),(inH ρ h)[j]?=some o->o.wr=true)∧rC (inH ρ h) so.os=true:=by
 simp only [Rn,aF] at hc
 obtain ⟨h1,h2,h3,h4,h5⟩:=hc
 refine ⟨h1,fun i hi=>?_,aG h3,fun j o ho=>pX h4 j o ho,h5⟩
 obtain ⟨n,hn⟩:=List.getElem?_of_mem hi
 exact bA (pX h2 n i hn)
def rD:Ob->Bool
 | .box .. => true
 | .arr .. => false
 | .fm _=>true
 | .dm .. => true
def vX (β:Nat->Pl) (h:List Ob) (i:Nat):Option Nat:=match rD (En h i) with | true=>(β i).blk | false=>none
def inC (C:Ctx) (β:Nat->Pl) (h:List Ob) (w:World) (ρ:List Nat) (hs:dB C β h w):Ctx where
 P:=C.P
 N0 b j:=C.N β h b j∧∀ i ∈ ρ,∀ o,h[i]?=some o->¬ o.blks (β i) b
 w0:=w
 xG b j:=∃ (i:Nat) (o:Ob),i ∈ ρ∧h[i]?=some o∧o.wr=true∧o.at (β i) b j
 glob w' hw:=C.glob w' (hs.frame.mQ hw fun b j hb hm=>by
  obtain ⟨i,o,_,ho,hwo,hbk⟩:=hm
  rcases (hs.dH i o b ho ⟨j,hbk⟩).2.2 with h1 | h1
  ·omega
  ·exact h1 j hwo hbk)
 fix:=ρ.map (vX β h)
theorem zMa {C:Ctx} {β:Nat->Pl} {w:World} {h:List Ob} {ρ:List Nat} {vs:List V} {xs:List Value} (hs:dB C β h w) (ha:jN β w (C.N β h) vs xs) (hnd:nodupB ρ=true) (hlt:∀ i ∈ ρ,i < h.length) :
  Sim (inC C β h w ρ hs) (uZ β ρ) ⟨vs.map (V.ren ρ h),inH ρ h⟩ { tmps:=xs.toArray,defers:=[] } w:=by
 have zAq:=zAp hs hlt
 have hget:∀ i ∈ ρ,∃ o,h[i]?=some o:=fun i hi=>⟨h[i]'(hlt i hi),by simp [hlt i hi]⟩
 have hβ:∀ {j i:Nat},ρ[j]?=some i->uZ β ρ j={ β i with ver:=0 }:=fun hi=>by simp only [uZ,hi]
 have hNw:∀ b j,C.N β h b j->b < w.heap.size:=fun b j hb=>by
  rcases hb with hb | ⟨id,o,ho,_,hbk⟩
  ·exact Nat.lt_of_lt_of_le (hs.n0 b j hb) hs.size
  ·exact (hs.dH id o b ho ⟨j,hbk⟩).2.1
 have hN:∀ b j,b < w.heap.size->(inC C β h w ρ hs).N (uZ β ρ) (inH ρ h) b j->C.N β h b j:=fun b k _ hb=>by
  rcases hb with hb | ⟨j,o,ho,hw,hbk⟩
  ·exact hb.1
  ·obtain ⟨i,hi,rfl⟩:=oU ho
   obtain ⟨o',ho'⟩:=hget i (List.mem_of_getElem? hi)
   rw [dS ho',Ob.Jf] at hw
   rw [dS ho',hβ hi] at hbk
   exact .inr ⟨i,o',ho',hw,Ob.qW (Ob.nQ ρ h o') rfl rfl hbk⟩
 refine ⟨⟨?_,?_,?_,?_,fun b j hb=>hNw b j hb.1,Keep.refl _ _,aI _,rfl,rfl,rfl,?_⟩,rfl,by simpa using aQ.length ha,?_⟩
 ·intro j o ho
  obtain ⟨i,hi,rfl⟩:=oU ho
  obtain ⟨o',ho'⟩:=hget i (List.mem_of_getElem? hi)
  rw [dS ho',hβ hi]
  have hob:=hs.obj i o' ho'
  cases o' with
  | box e ls =>
   simp only [Ob.ren,Ob.Rel] at *
   obtain ⟨h1,h2,b,cs,h3,h4,h5⟩:=hob
   exact ⟨h1,h2,b,cs,h3,h4.uF zAq hN,h5⟩
  | arr e t v rows wr =>
   simp only [Ob.ren,Ob.Rel] at *
   obtain ⟨h1,h2,h3,h4,h5,h6,h7⟩:=hob
   refine ⟨h1,h2,trivial,h4,h5,h6,?_⟩
   rcases h7 with h7 | ⟨b,cur,css,k1,k2,k3,k4⟩
   ·exact .inl h7
   ·exact .inr ⟨b,cur,css,k1,k2,k3.mono fun _ _ h=>h.mono (Keep.refl _ w) hN,k4⟩
  | fm tab=>simp only [Ob.ren,Ob.Rel] at *; exact hob
  | dm kt vt es =>
   simp only [Ob.ren,Ob.Rel] at *
   obtain ⟨h1,h2,b,ms,h3,h4,h5⟩:=hob
   exact ⟨h1,h2,b,ms,h3,h4,h5.mono (Keep.refl _ w) hN⟩
 ·intro j hj
  simp only [inH,List.length_map] at hj
  simp only [uZ,List.getElem?_eq_none hj]
 ·intro i j o1 o2 b h1 h2 hb1 hb2
  obtain ⟨i',hi,rfl⟩:=oU h1
  obtain ⟨j',hj,rfl⟩:=oU h2
  obtain ⟨o1',ho1⟩:=hget i' (List.mem_of_getElem? hi)
  obtain ⟨o2',ho2⟩:=hget j' (List.mem_of_getElem? hj)
  rw [hβ hi,dS ho1] at hb1
  rw [hβ hj,dS ho2] at hb2
  have:=hs.jT i' j' o1' o2' b ho1 ho2 (Ob.iN (Ob.nQ ρ h o1') rfl rfl hb1) (Ob.iN (Ob.nQ ρ h o2') rfl rfl hb2)
  subst this
  exact yI hnd hi hj
 ·intro j o b ho hb
  obtain ⟨i,hi,rfl⟩:=oU ho
  obtain ⟨o',ho'⟩:=hget i (List.mem_of_getElem? hi)
  rw [dS ho',hβ hi] at hb ⊢
  have hb':=Ob.iN (o':=o') (p':=β i) (Ob.nQ ρ h o') rfl rfl hb
  exact ⟨fun k hn=>hn.2 i (List.mem_of_getElem? hi) o' ho' hb',(hs.dH i o' b ho' hb').2.1,.inr fun k hw hk=>⟨i,o',List.mem_of_getElem? hi,ho',by rw [Ob.Jf] at hw; exact hw,Ob.qW (Ob.nQ ρ h o') rfl rfl hk⟩⟩
 ·intro j o hj
  simp only [inC,List.getElem?_map,Option.map_eq_some_iff] at hj
  obtain ⟨i,hi,rfl⟩:=hj
  refine ⟨by simpa [inH] using (aS.1 hi).1,fun b hb=>?_⟩
  obtain ⟨o',ho'⟩:=hget i (List.mem_of_getElem? hi)
  have hob:=hs.obj i o' ho'
  rw [hβ hi]
  unfold vX at hb
  rw [dS ho'] at hb
  cases o' with
  | box e ls =>
   simp only [Ob.Rel] at hob
   exact ⟨hb,hob.2.1⟩
  | arr e t v rows wr=>cases hb
  | fm tab =>
   simp only [Ob.Rel] at hob
   exact ⟨hb,hob.2.1⟩
  | dm kt vt es =>
   simp only [Ob.Rel] at hob
   exact ⟨hb,hob.2.1⟩
 ·intro i v hv
  simp only [List.getElem?_map,Option.map_eq_some_iff] at hv
  obtain ⟨v0,hv0,rfl⟩:=hv
  have hl:i < xs.length:=by rw [<- aQ.length ha]; exact (aS.1 hv0).1
  have hr:=ha.get i (aS.1 hv0).1 hl
  have e:vs[i]'(aS.1 hv0).1=v0:=(aS.1 hv0).2
  rw [e] at hr
  have e2:(xs.toArray).getD i undef=xs[i]:=by simp [hl]
  simp only [e2]
  exact hr.uF zAq hN
def iO (β β':Nat->Pl) (ρ:List Nat) (h:List Ob):Nat->Pl:=fun i =>
 match pos i ρ 0 with
 | some j=>match rD (En h i) with
  | true=>β i
  | false=>{ β' j with ver:=(β' j).ver+gZ ρ h j }
 | none=>if i < h.length then β i else β' (i - h.length+ρ.length)
theorem Bz {ρ:List Nat} {h hy:List Ob} (hk:ρ.length <= hy.length) {id:Nat} {o:Ob} (ho:(gF ρ h hy)[id]?=some o) :
  (id < h.length∧pos id ρ 0=none∧h[id]?=some o)∨(∃ j ob oy,id < h.length∧ρ[j]?=some id∧pos id ρ 0=some j∧h[id]?=some ob∧hy[j]?=some oy∧o=oy.back (iJ ρ h.length) (gZ ρ h) j) ∨
   ∃ j oy,ρ.length <= j∧id=h.length+(j - ρ.length)∧hy[j]?=some oy∧o=oy.back (iJ ρ h.length) (gZ ρ h) j:=by
 unfold gF at ho
 by_cases hid:id < h.length
 ·rw [dG (by rw [rZ]; exact hid),Oo,Nat.zero_add] at ho
  obtain ⟨ob,hob⟩:∃ ob,h[id]?=some ob:=⟨h[id],by simp [hid]⟩
  rw [hob] at ho
  simp only [Option.map_some,aA] at ho
  cases hp:pos id ρ 0 with
  | none =>
   rw [hp] at ho
   simp only at ho
   exact .inl ⟨hid,rfl,by rw [hob,ho]⟩
  | some j =>
   obtain ⟨m,hm,hi⟩:=sZ hp
   rw [Nat.zero_add] at hm
   subst hm
   have hj:j < hy.length:=Nat.lt_of_lt_of_le (aS.1 hi).1 hk
   have hyj:hy[j]?=some hy[j]:=by simp [hj]
   rw [hp] at ho
   simp only [hyj] at ho
   exact .inr (.inl ⟨j,ob,hy[j],hid,hi,rfl,hob,hyj,ho.symm⟩)
 ·rw [List.getElem?_append_right (by rw [rZ]; omega),rZ,Jk,List.getElem?_drop] at ho
  simp only [Option.map_eq_some_iff] at ho
  obtain ⟨oy,h1,h2⟩:=ho
  exact .inr (.inr ⟨ρ.length+(id - h.length),oy,by omega,by omega,h1,h2.symm⟩)
theorem Dh {ρ:List Nat} {h hy:List Ob}:(gF ρ h hy).length=h.length+(hy.length - ρ.length):=by
 simp [gF,rZ,Bf]
theorem Oq {C:Ctx} {β:Nat->Pl} {h:List Ob} {w w':World} {ρ:List Nat} (hs:dB C β h w) (hnd:nodupB ρ=true) (hlt:∀ i ∈ ρ,i < h.length) (hwr:∀ (j:Nat) (o:Ob),(inH ρ h)[j]?=some o->o.wr=true) (Jm:rC (inH ρ h) so.os=true)
  {y:so.X} {us:List Value} {β':Nat->Pl} (hs':Sim (inC C β h w ρ hs) β' (so.enc y) { tmps:=us.toArray,defers:=[] } w') :
  ∃ β2,Moves β β2∧Keep (C.N β h) w w'∧(∀ b j,b < w.heap.size->C.N β2 (gF ρ h (so.enc y).h) b j->C.N β h b j)∧dB C β2 (gF ρ h (so.enc y).h) w' ∧
   aQ (fun v u=>V.Rel β2 w' (C.N β2 (gF ρ h (so.enc y).h)) v u) ((so.enc y).r.map (V.back (iJ ρ h.length) (gZ ρ h))) us:=by
 generalize hhy:(so.enc y).h=hy at *
 have hget:∀ i ∈ ρ,∃ o,h[i]?=some o:=fun i hi=>⟨h[i]'(hlt i hi),by simp [hlt i hi]⟩
 have hfix:∀ {j i:Nat},ρ[j]?=some i->j < hy.length∧∀ b,vX β h i=some b->(β' j).blk=some b∧(β' j).box=true:=fun {j i} hi=>by
  have:=hs'.heap.fixed j (vX β h i) (by simp [inC,hi])
  rw [hhy] at this
  exact this
 have hk:ρ.length <= hy.length:=by
  rcases aY hy.length ρ.length with h1 | h1
  ·have:=(hfix (j:=hy.length) (i:=ρ[hy.length]) (by simp [h1])).1
   omega
  ·exact h1
 have yAb:∀ i ∈ ρ,∀ o,h[i]?=some o->o.wr=true:=fun i hi o ho=>by
  obtain ⟨n,hn⟩:=List.getElem?_of_mem hi
  have:=hwr n ((En h i).ren ρ h) (by simp [inH,hn])
  rw [Ob.Jf,dS ho] at this
  exact this
 have hrow:∀ {j i:Nat} {o:Ob},ρ[j]?=some i->h[i]?=some o->rD o=false->∃ oy,hy[j]?=some oy∧rD oy=false:=fun {j i o} hi ho hb=>by
  cases o with
  | box e ls=>cases hb
  | fm tab=>cases hb
  | dm=>cases hb
  | arr e t u rows wr =>
   obtain ⟨e',t',hrw⟩:=sD (j:=j) (e:=e) (t:=t) (u:=0) (rows:=rows) (wr:=wr) Jm (by simp [inH,hi,dS ho,Ob.ren])
   obtain ⟨rows',hr'⟩:=wQ (A:=Unit) (x:=(Ay so.rs (List.replicate so.n .bB) y).2) hrw
   exact ⟨_,by rw [<- hhy]; exact hr',rfl⟩
 have Ot:=hs'.heap.obj
 rw [hhy] at Ot
 have zMb:∀ j,hy.length <= j->(β' j).live=false:=fun j hj=>hs'.heap.dead j (by rw [hhy]; exact hj)
 have Di:=hs'.heap.dH
 rw [hhy] at Di
 have zFj:=hs'.heap.jT
 rw [hhy] at zFj
 have zIj:∀ {j i:Nat} {o:Ob},ρ[j]?=some i->h[i]?=some o->rD o=true->(β' j).box=true∧(β' j).blk=(β i).blk∧(β i).box=true∧(β i).live=true∧(β' j).live=true:=fun {j i o} hi ho hb=>by
  have hob:=hs.obj i o ho
  obtain ⟨hj,hfx⟩:=hfix hi
  cases o with
  | arr=>cases hb
  | dm kt vt es =>
   simp only [Ob.Rel] at hob
   obtain ⟨k1,k2,b,ms,k3,_⟩:=hob
   have hfo:vX β h i=some b:=by simp only [vX,dS ho,rD,k3]
   obtain ⟨g1,g2⟩:=hfx b hfo
   exact ⟨g2,by rw [g1,k3],k2,k1,(Ot j hy[j] (by simp [hj])).live⟩
  | fm tab =>
   simp only [Ob.Rel] at hob
   obtain ⟨k1,k2,b,es,n,k3,_⟩:=hob
   have hfo:vX β h i=some b:=by simp only [vX,dS ho,rD,k3]
   obtain ⟨g1,g2⟩:=hfx b hfo
   exact ⟨g2,by rw [g1,k3],k2,k1,(Ot j hy[j] (by simp [hj])).live⟩
  | box e ls =>
   simp only [Ob.Rel] at hob
   obtain ⟨k1,k2,b,cs,k3,_⟩:=hob
   have hfo:vX β h i=some b:=by simp only [vX,dS ho,rD,k3]
   obtain ⟨g1,g2⟩:=hfx b hfo
   exact ⟨g2,by rw [g1,k3],k2,k1,(Ot j hy[j] (by simp [hj])).live⟩
 have zPj:∀ {j i:Nat} {o:Ob},ρ[j]?=some i->h[i]?=some o->rD o=true->iO β β' ρ h i=β i:=fun hi ho hb=>by
  simp only [iO,zFc hnd hi,dS ho,hb]
 have zPk:∀ {j i:Nat} {o:Ob},ρ[j]?=some i->h[i]?=some o->rD o=false->iO β β' ρ h i={ β' j with ver:=(β' j).ver+gZ ρ h j }:=fun hi ho hb=>by
  simp only [iO,zFc hnd hi,dS ho,hb]
 have zIk:∀ {i:Nat},pos i ρ 0=none->i < h.length->iO β β' ρ h i=β i:=fun hp hi=>by
  simp only [iO,hp,if_pos hi]
 have zRg:∀ {i:Nat},h.length <= i->pos i ρ 0=none:=fun {i} hi=>by
  cases hp:pos i ρ 0 with
  | none=>rfl
  | some j =>
   obtain ⟨m,_,hm⟩:=sZ hp
   have:=hlt i (List.mem_of_getElem? hm)
   omega
 have zUx:∀ {j:Nat},ρ.length <= j->iO β β' ρ h (h.length+(j - ρ.length))=β' j:=fun {j} hj=>by
  simp only [iO,zRg (Nat.le_add_right _ _)]
  rw [if_neg (by omega)]
  congr 1
  omega
 have eF:∀ {j i:Nat},ρ[j]?=some i->iJ ρ h.length j=i:=fun hi=>by simp only [iJ,hi]
 have eF2:∀ {j:Nat},ρ.length <= j->iJ ρ h.length j=h.length+(j - ρ.length):=fun hj=>by simp only [iJ,List.getElem?_eq_none hj]
 have eU2:∀ {j:Nat},ρ.length <= j->gZ ρ h j=0:=fun hj=>by simp only [gZ,List.getElem?_eq_none hj]
 have hpl:∀ j,(β' j).live=true->Jj (β' j) (iO β β' ρ h (iJ ρ h.length j)) (gZ ρ h j):=fun j hl=>by
  have hj:j < hy.length:=by
   rcases aY j hy.length with h1 | h1
   ·exact h1
   ·rw [zMb j h1] at hl; cases hl
  cases hi:ρ[j]? with
  | some i =>
   rw [eF hi]
   obtain ⟨o,ho⟩:=hget i (List.mem_of_getElem? hi)
   cases hb:rD o with
   | true =>
    obtain ⟨g1,g2,g3,g4,g5⟩:=zIj hi ho hb
    rw [zPj hi ho hb]
    exact ⟨by rw [g4,hl],by rw [g3,g1],g2.symm,fun h=>by rw [g1] at h; cases h⟩
   | false =>
    rw [zPk hi ho hb]
    exact ⟨rfl,rfl,rfl,fun _=>⟨rfl,rfl,rfl,rfl⟩⟩
  | none =>
   have hge:ρ.length <= j:=List.getElem?_eq_none_iff.1 hi
   rw [eF2 hge,zUx hge,eU2 hge]
   exact ⟨rfl,rfl,rfl,fun _=>⟨rfl,rfl,rfl,rfl⟩⟩
 have hown:∀ {b k:Nat},(inC C β h w ρ hs).xG b k->∃ (i:Nat) (o:Ob),i ∈ ρ∧h[i]?=some o∧o.wr=true∧o.at (β i) b k:=fun {b k} hb=>hb
 have hkeep:Keep (C.N β h) w w':=hs'.heap.frame.weaken fun k j ho=>by
  obtain ⟨i,o,_,h2,h3,h4⟩:=hown ho
  exact .inr ⟨i,o,h2,h3,h4⟩
 have hat:∀ {id j:Nat} {ob oy:Ob},ρ[j]?=some id->h[id]?=some ob->hy[j]?=some oy->∀ b k,(oy.back (iJ ρ h.length) (gZ ρ h) j).at (iO β β' ρ h id) b k->oy.at (β' j) b k:=fun {id j ob oy} hi hob hoy b k hbk=>by
  cases hb2:rD ob with
  | true =>
   have hp:oy.jS=false:=(Ot j oy hoy).zOd (zIj hi hob hb2).1
   rw [zPj hi hob hb2] at hbk
   have:=Ob.Ns (by simp [Ob.plain,Ob.Jl,hp]) hbk
   exact Ob.lI (by rw [(zIj hi hob hb2).2.1]; exact this)
  | false =>
   rw [zPk hi hob hb2] at hbk
   exact Ob.qW (Ob.Jl oy) rfl rfl hbk
 have zPl:∀ {j:Nat} {oy:Ob},ρ.length <= j->∀ b k,(oy.back (iJ ρ h.length) (gZ ρ h) j).at (iO β β' ρ h (h.length+(j - ρ.length))) b k->oy.at (β' j) b k:=fun {j oy} hj b k hbk=>by
  rw [zUx hj] at hbk
  exact Ob.qW (Ob.Jl oy) rfl rfl hbk
 have zBc:Moves β (iO β β' ρ h):=fun id hl=>by
  have hid:id < h.length:=by
   rcases aY id h.length with h1 | h1
   ·exact h1
   ·rw [hs.dead id h1] at hl; cases hl
  cases hp:pos id ρ 0 with
  | none=>exact .inl (zIk hp hid)
  | some j =>
   obtain ⟨m,hm,hi⟩:=sZ hp
   rw [Nat.zero_add] at hm
   subst hm
   obtain ⟨o,ho⟩:=hget id (List.mem_of_getElem? hi)
   cases hb:rD o with
   | true=>exact .inl (zPj hi ho hb)
   | false =>
    obtain ⟨oy,hoy,hby⟩:=hrow hi ho hb
    have hY:=Ot j oy hoy
    have hO:=hs.obj id o ho
    rw [zPk hi ho hb]
    cases o with
    | box=>cases hb
    | fm=>cases hb
    | dm=>cases hb
    | arr e t u rows wr =>
     cases oy with
     | box=>cases hby
     | fm=>cases hby
     | dm=>cases hby
     | arr e' t' u' rows' wr' =>
      simp only [Ob.Rel] at hY hO
      refine .inr ⟨hO.2.1,hY.1,hY.2.1,?_⟩
      simp only [gZ,hi,ho]
      have:=hO.2.2.1
      omega
 have hbl:∀ {b k:Nat},b < w.heap.size->w.heap.size <= b∨(inC C β h w ρ hs).xG b k->C.N β h b k:=fun {b k} hb ho=>by
  rcases ho with ho | ho
  ·omega
  ·obtain ⟨i,o,_,h2,h3,h4⟩:=hown ho
   exact .inr ⟨i,o,h2,h3,h4⟩
 have zRh:∀ b j,b < w.heap.size->C.N (iO β β' ρ h) (gF ρ h hy) b j->C.N β h b j:=fun b k hb hn=>by
  rcases hn with hn | ⟨id,o,ho,hw,hbk⟩
  ·exact .inl hn
  ·rcases Bz hk ho with ⟨hid,hp,ho⟩ | ⟨j,ob,oy,hid,hi,hp,hob,hoy,rfl⟩ | ⟨j,oy,hj,rfl,hoy,rfl⟩
   ·rw [zIk hp hid] at hbk
    exact .inr ⟨id,o,ho,hw,hbk⟩
   ·rw [Ob.vC] at hw
    have hbk:=hat hi hob hoy b k hbk
    exact hbl hb ((Di j oy b hoy ⟨k,hbk⟩).2.2.imp (fun h=>h) fun h=>h k hw hbk)
   ·rw [Ob.vC] at hw
    have hbk:=zPl hj b k hbk
    exact hbl hb ((Di j oy b hoy ⟨k,hbk⟩).2.2.imp (fun h=>h) fun h=>h k hw hbk)
 have zRi:∀ b j,b < w'.heap.size->C.N (iO β β' ρ h) (gF ρ h hy) b j->(inC C β h w ρ hs).N β' (so.enc y).h b j:=fun b k _ hn=>by
  rw [hhy]
  rcases hn with hn | ⟨id,o,ho,hw,hbk⟩
  ·exact .inl ⟨.inl hn,fun i hi o ho hbk=>(hs.dH i o b ho hbk).1 k hn⟩
  ·rcases Bz hk ho with ⟨hid,hp,ho⟩ | ⟨j,ob,oy,hid,hi,hp,hob,hoy,rfl⟩ | ⟨j,oy,hj,rfl,hoy,rfl⟩
   ·rw [zIk hp hid] at hbk
    refine .inl ⟨.inr ⟨id,o,ho,hw,hbk⟩,fun i hi oi hoi hbi=>?_⟩
    have:=hs.jT id i o oi b ho hoi ⟨k,hbk⟩ hbi
    subst this
    exact zU hp hi
   ·rw [Ob.vC] at hw
    exact .inr ⟨j,oy,hoy,hw,hat hi hob hoy b k hbk⟩
   ·rw [Ob.vC] at hw
    exact .inr ⟨j,oy,hoy,hw,zPl hj b k hbk⟩
 have Un:∀ {id:Nat} {o:Ob} {b:Nat},pos id ρ 0=none->h[id]?=some o->o.blks (β id) b->b < w.heap.size∧∀ k,¬ (inC C β h w ρ hs).xG b k:=fun {id o b} hp ho hb=>by
  refine ⟨(hs.dH id o b ho hb).2.1,fun k hw=>?_⟩
  obtain ⟨i,oi,h1,h2,_,h4⟩:=hown hw
  have:=hs.jT id i o oi b ho h2 hb ⟨k,h4⟩
  subst this
  exact zU hp h1
 have hcls:∀ {id:Nat} {o:Ob},(gF ρ h hy)[id]?=some o->(pos id ρ 0=none∧h[id]?=some o∧iO β β' ρ h id=β id)∨∃ j oy,hy[j]?=some oy∧id=iJ ρ h.length j∧o=oy.back (iJ ρ h.length) (gZ ρ h) j∧∀ b k,o.at (iO β β' ρ h id) b k->oy.at (β' j) b k:=fun {id o} ho=>by
  rcases Bz hk ho with ⟨hid,hp,ho⟩ | ⟨j,ob,oy,hid,hi,hp,hob,hoy,rfl⟩ | ⟨j,oy,hj,rfl,hoy,rfl⟩
  ·exact .inl ⟨hp,ho,zIk hp hid⟩
  ·exact .inr ⟨j,oy,hoy,(eF hi).symm,rfl,hat hi hob hoy⟩
  ·exact .inr ⟨j,oy,hoy,(eF2 hj).symm,rfl,zPl hj⟩
 have zUy:∀ {j:Nat} {oy:Ob},hy[j]?=some oy->(oy.back (iJ ρ h.length) (gZ ρ h) j).wr=true:=fun {j oy} hoy=>by
  rw [Ob.vC,<- hhy] at *
  exact zW hoy
 have zUz:∀ {j id:Nat} {oy:Ob} {b:Nat},hy[j]?=some oy->(∀ b k,(oy.back (iJ ρ h.length) (gZ ρ h) j).at (iO β β' ρ h id) b k->oy.at (β' j) b k)->(oy.back (iJ ρ h.length) (gZ ρ h) j).blks (iO β β' ρ h id) b->b < w.heap.size->(∀ k,¬ (inC C β h w ρ hs).xG b k)->False:=fun {j id oy b} hoy eb hb g1 g2=>by
  obtain ⟨q,hb⟩:=hb
  rcases (Di j oy b hoy ⟨q,eb b q hb⟩).2.2 with h3 | h3
  ·have h3:w.heap.size <= b:=h3
   omega
  ·have hw:=zUy hoy
   rw [Ob.vC] at hw
   exact g2 q (h3 q hw (eb b q hb))
 have hHS:dB C (iO β β' ρ h) (gF ρ h hy) w':=by
  refine ⟨?_,?_,?_,?_,hs.n0,?_,Nat.le_trans hs.size hs'.heap.size,hs'.heap.os.trans hs.os,hs'.heap.tape.trans hs.tape,hs'.heap.output.trans hs.output,?_⟩
  ·intro id o ho
   rcases hcls ho with ⟨hp,ho,eb⟩ | ⟨j,oy,hoy,rfl,rfl,_⟩
   ·rw [eb]
    exact (hs.obj id o ho).mono zBc hkeep zRh fun b hb=>hs'.heap.frame.block b (Un hp ho hb).1 (Un hp ho hb).2
   ·have hY:=Ot j oy hoy
    rw [<- hhy] at hY
    exact Ob.Rel.back (f:=iJ ρ h.length) (v:=gZ ρ h) hpl zRi hY
  ·intro id hid
   rw [Dh] at hid
   have hp:=zRg (i:=id) (by omega)
   simp only [iO,hp]
   rw [if_neg (by omega)]
   exact zMb _ (by omega)
  ·intro i j o1 o2 b h1 h2 hb1 hb2
   rcases hcls h1 with ⟨hp1,ho1,eb1⟩ | ⟨j1,oy1,zVa,rfl,rfl,eb1⟩ <;> rcases hcls h2 with ⟨hp2,ho2,eb2⟩ | ⟨j2,oy2,zVb,rfl,rfl,eb2⟩
   ·rw [eb1] at hb1
    rw [eb2] at hb2
    exact hs.jT i j o1 o2 b ho1 ho2 hb1 hb2
   ·exfalso
    rw [eb1] at hb1
    obtain ⟨g1,g2⟩:=Un hp1 ho1 hb1
    exact zUz zVb eb2 hb2 g1 g2
   ·exfalso
    rw [eb2] at hb2
    obtain ⟨g1,g2⟩:=Un hp2 ho2 hb2
    exact zUz zVa eb1 hb1 g1 g2
   ·obtain ⟨q1,hb1⟩:=hb1
    obtain ⟨q2,hb2⟩:=hb2
    rw [zFj j1 j2 oy1 oy2 b zVa zVb ⟨q1,eb1 b q1 hb1⟩ ⟨q2,eb2 b q2 hb2⟩]
  ·intro id o b ho hb
   rcases hcls ho with ⟨hp,ho,eb⟩ | ⟨j,oy,hoy,rfl,rfl,eb⟩
   ·rw [eb] at hb ⊢
    obtain ⟨k1,k2,k3⟩:=hs.dH id o b ho hb
    exact ⟨k1,Nat.lt_of_lt_of_le k2 hs'.heap.size,k3⟩
   ·obtain ⟨q,hb⟩:=hb
    obtain ⟨k1,k2,k3⟩:=Di j oy b hoy ⟨q,eb b q hb⟩
    rcases aY b w.heap.size with hlt | hge
    ·have hold:∀ k,(oy.back (iJ ρ h.length) (gZ ρ h) j).wr=true->(oy.back (iJ ρ h.length) (gZ ρ h) j).at (iO β β' ρ h (iJ ρ h.length j)) b k->∃ (i:Nat) (o:Ob),i ∈ ρ∧h[i]?=some o∧o.wr=true∧o.at (β i) b k:=fun k hw hk=>by
      rw [Ob.vC] at hw
      rcases k3 with k3 | k3
      ·have k3:w.heap.size <= b:=k3
       omega
      ·exact hown (k3 k hw (eb b k hk))
     have hwy:(oy.back (iJ ρ h.length) (gZ ρ h) j).wr=true:=zUy hoy
     obtain ⟨i,oi,h1,h2,h3,h4⟩:=hold q hwy hb
     obtain ⟨g1,g2,g3⟩:=hs.dH i oi b h2 ⟨q,h4⟩
     refine ⟨g1,k2,?_⟩
     rcases g3 with g3 | g3
     ·exact .inl g3
     ·right
      intro k hw hk
      obtain ⟨i2,oi2,f1,f2,f3,f4⟩:=hold k hw hk
      rcases (hs.dH i2 oi2 b f2 ⟨k,f4⟩).2.2 with g5 | g5
      ·have:=hs.jT i i2 oi oi2 b h2 f2 ⟨q,h4⟩ ⟨k,f4⟩
       subst this
       rw [h2] at f2
       simp only [aA] at f2
       subst f2
       exact g3 k f3 f4
      ·exact g5 k f3 f4
    ·have h0:=hs.size
     exact ⟨fun _ hn=>by have:=hs.n0 b _ hn; omega,k2,.inl (by omega)⟩
  ·refine hs.frame.mQ hs'.heap.frame fun b j hb ho=>?_
   obtain ⟨i,oi,h1,h2,h3,h4⟩:=hown ho
   rcases (hs.dH i oi b h2 ⟨j,h4⟩).2.2 with h5 | h5
   ·omega
   ·exact h5 j h3 h4
  ·intro j o hj
   obtain ⟨k1,k2⟩:=hs.fixed j o hj
   refine ⟨by rw [Dh]; omega,fun b hb=>?_⟩
   obtain ⟨k3,k4⟩:=k2 b hb
   have hoj:h[j]?=some h[j]:=by simp [k1]
   rcases zBc j (hs.obj j _ hoj).live with e | ⟨e,_⟩
   ·rw [e]; exact ⟨k3,k4⟩
   ·rw [k4] at e; cases e
 refine ⟨iO β β' ρ h,zBc,hkeep,zRh,hHS,?_⟩
 refine zFi (by have:=hs'.size; simpa using this) fun i v u hv hu=>?_
 simp only [List.getElem?_map,Option.map_eq_some_iff] at hv
 obtain ⟨v0,hv0,rfl⟩:=hv
 have hr:=hs'.reg i v0 hv0
 have e:(us.toArray).getD i undef=u:=by
  rw [Array.getD_eq_getD_getElem?]
  simp [hu]
 simp only [e] at hr
 exact hr.back (f:=iJ ρ h.length) (v:=gZ ρ h) hpl zRi
theorem zRj {l:L} (h:l.isD=true):l.ids=[]:=by
 cases l <;> first | rfl | (cases h; done) | (rename_i f cs; cases cs <;> first | rfl | cases h)
theorem zMc:∀ {ls:List L},aZ L.isD ls=true->L.uU ls=[]
 | [],_=>rfl
 | l :: ls,h=>by
  simp only [aZ,aF] at h
  simp only [L.uU,zRj h.1,zMc h.2,List.append_nil]
theorem zMd:∀ {vs:List V},aZ V.isD vs=true->zAi vs=[]
 | [],_=>rfl
 | v :: vs,h=>by
  simp only [aZ,aF] at h
  have h1:v.ids=[]:=by
   cases v with
   | one l=>exact zRj h.1
   | agg ls=>exact zMc h.1
   | _=>rfl
  simp only [zAi,h1,zMd h.2,List.append_nil]
theorem Lj {vs:List V} {h:List Ob} (hd:aZ V.isD vs=true):reach vs h=[]:=by
 unfold reach
 rw [zMd hd]
 rfl
theorem zRk {ρ:List Nat} {h h2:List Ob} {l:L} (hd:l.isD=true):l.ren ρ h=l.ren ρ h2:=by
 cases l <;> first | rfl | (cases hd; done) | (rename_i f cs; cases cs <;> first | rfl | cases hd)
theorem zMe {ρ:List Nat} {h h2:List Ob}:∀ {ls:List L},aZ L.isD ls=true->L.pW ρ h ls=L.pW ρ h2 ls
 | [],_=>rfl
 | l :: ls,hd=>by
  simp only [aZ,aF] at hd
  simp only [L.pW,zRk (h:=h) (h2:=h2) hd.1,zMe (h:=h) (h2:=h2) hd.2]
theorem zMf {ρ:List Nat} {h h2:List Ob}:∀ {vs:List V},aZ V.isD vs=true->vs.map (V.ren ρ h)=vs.map (V.ren ρ h2)
 | [],_=>rfl
 | v :: vs,hd=>by
  simp only [aZ,aF] at hd
  have h1:V.ren ρ h v=V.ren ρ h2 v:=by
   cases v with
   | one l=>simp only [V.ren,zRk (h:=h) (h2:=h2) hd.1]
   | agg ls=>simp only [V.ren,zMe (h:=h) (h2:=h2) hd.1]
   | _=>rfl
  simp only [List.map_cons,h1,zMf (h:=h) (h2:=h2) hd.2]
theorem Xo:∀ {h:List Ob} {n:Nat},zV (fun _=>none) n h=h
 | [],_=>rfl
 | o :: r,n=>by simp only [zV,Xo]
theorem Nf (h hy:List Ob):gF [] h hy=h++nT (iJ [] h.length) (gZ [] h) 0 hy:=by
 unfold gF
 simp only [pos,List.length_nil,List.drop_zero,Xo]
theorem zTf {vs:List V} {h h2:List Ob} (hd:aZ V.isD vs=true) (hl:h2.length=h.length) :
  (peM si so F).run vs h=(peM si so F).run vs h2∧∀ y,((peM si so F).enc y vs h).1=((peM si so F).enc y vs h2).1∧∃ os,((peM si so F).enc y vs h).2=h++os∧((peM si so F).enc y vs h2).2=h2++os:=by
 have e1:vs.map (V.ren [] h)=vs.map (V.ren [] h2):=zMf hd
 have e2:gZ [] h=gZ [] h2:=rfl
 refine ⟨?_,fun y=>⟨?_,nT (iJ [] h.length) (gZ [] h) 0 (so.enc y).h,?_,?_⟩⟩
 ·simp only [peM,Lj hd,e1]
  rfl
 ·simp only [peM,Lj hd,hl,e2]
 ·simp only [peM,Lj hd,Nf]
 ·simp only [peM,Lj hd,Nf,hl,e2]
theorem iK (hM:rA P f si so F):(peM si so F).OK P f:=by
 refine ⟨hM.1,fun vs h y hr C β w xs hP hs ha=>?_,fun h=>(by cases h),fun h=>(by cases h),fun _ vs h h2 hd hl=>zTf hd hl⟩
 subst hP
 simp only [peM] at hr
 split at hr
 case h_2=>cases hr
 rename_i x hx
 simp only [aA,aB] at hr
 obtain ⟨hok,hF⟩:=hr
 obtain ⟨hnd,hlt,hlen,hwr,Jm⟩:=Nc hok
 have uT:=Ur hx (zMa hs ha hnd hlt)
 refine (hM.2 x y hF (inC C β h w _ hs) _ w xs rfl (by simp [inC,hlen]) uT).mono ?_
 rintro e w' ⟨us,β',rfl,hs'⟩
 obtain ⟨β2,h1,h2,h3,h4,h5⟩:=Oq hs hnd hlt hwr Jm hs'
 exact ⟨_,_,β2,⟨rfl,rfl⟩,h1,h2,h3,h4,_,rfl,zBb h5⟩
def mW (P:Program) (f:FuncId) (si so:Sh) (tp:TypeId) (sp:Sh) (F:si.X->Option (Sum so.X sp.X)):Prop :=
 fK P f=true∧∀ x y,F x=some y->∀ (C:Ctx) (β:Nat->Pl) (w:World) (xs:List Value),C.P=P->C.fix.length <= si.os.length->Sim C β (si.enc x) { tmps:=xs.toArray,defers:=[] } w ->
  Calls P f xs.toArray w fun e w'=>(∃ (z:so.X) (us:List Value) (β':Nat->Pl),y=.inl z∧e=.returned (lM us)∧Sim C β' (so.enc z) { tmps:=us.toArray,defers:=[] } w') ∨
   ∃ (z:sp.X) (u:Value) (β':Nat->Pl),y=.inr z∧e=.panicked [{ v:=.iface tp u,recovered:=false }]∧Sim C β' (sp.enc z) { tmps:=#[u],defers:=[] } w'
def zYr (vs:List V):V :=
 match vs with
 | [v]=>v
 | _=>.bB
def ob2 {α γ ρ:Type} (o:Option (Sum α γ)) (k:α->Option ρ) (k':γ->Option ρ):Option ρ :=
 match o with
 | some (.inl x)=>k x
 | some (.inr x)=>k' x
 | none=>none
theorem Ng {ρ:List Nat} {h hy:List Ob} {id:Nat} (hid:id < h.length) (hn:id ∉ ρ):(gF ρ h hy)[id]?=h[id]?:=by
 unfold gF
 have hl:∀ {g:Nat->Option Ob} {h:List Ob} {n:Nat},(zV g n h).length=h.length:=by
  intro g h
  induction h with
  | nil=>intro n; rfl
  | cons o r ih=>intro n; simp [zV,ih]
 rw [dG (by rw [hl]; exact hid),Oo,List.getElem?_eq_getElem hid]
 have hp:pos id ρ 0=none:=by
  cases hp:pos id ρ 0 with
  | none=>rfl
  | some j =>
   obtain ⟨m,_,hm⟩:=sZ hp
   exact absurd (List.mem_of_getElem? hm) hn
 simp only [Nat.zero_add,hp,Option.map_some]
def zPm {ρ:Type} (si so:Sh) (tp:TypeId) (sp:Sh) (F:si.X->Option (Sum so.X sp.X)) (vs:List V) (h:List Ob) (k:Out->List Ob->Option ρ):Option ρ :=
 match si.dec ⟨vs.map (V.ren (reach vs h) h),inH (reach vs h) h⟩ with
 | some x=>chk (Rn (reach vs h) h si so && rC (inH (reach vs h) h) sp.os) (ob2 (F x)
   (fun y=>k (.ret (zIi ((so.enc y).r.map (V.back (iJ (reach vs h) h.length) (gZ (reach vs h) h))))) (gF (reach vs h) h (so.enc y).h))
   (fun z=>k (.pan tp (zYr ((sp.enc z).r.map (V.back (iJ (reach vs h) h.length) (gZ (reach vs h) h))))) (gF (reach vs h) h (sp.enc z).h)))
 | none=>none
theorem zTg {ρ:Type} {tp:TypeId} {sp:Sh} {F:si.X->Option (Sum so.X sp.X)} (hM:mW P f si so tp sp F) {vs:List V} {h:List Ob} {k:Out->List Ob->Option ρ} {r:ρ} (hr:zPm si so tp sp F vs h k=some r) :
  fK P f=true∧vS P f vs h fun out h'=>k out h'=some r∧∀ id,id < h.length->id ∉ reach vs h->h'[id]?=h[id]?:=by
 refine ⟨hM.1,fun C β w xs hP hs ha=>?_⟩
 subst hP
 unfold zPm at hr
 split at hr
 case h_2=>cases hr
 rename_i x hx
 obtain ⟨hok,hF⟩:=lZ hr
 simp only [aF] at hok
 obtain ⟨hnd,hlt,hlen,hwr,Jm⟩:=Nc hok.1
 have uT:=Ur hx (zMa hs ha hnd hlt)
 cases hy:F x with
 | none=>rw [hy] at hF; cases hF
 | some y =>
  rw [hy] at hF
  refine (hM.2 x y hy (inC C β h w _ hs) _ w xs rfl (by simp [inC,hlen]) uT).mono ?_
  rintro e w' (⟨z,us,β',rfl,rfl,hs'⟩ | ⟨z,u,β',rfl,rfl,hs'⟩)
  ·obtain ⟨β2,h1,h2,h3,h4,h5⟩:=Oq hs hnd hlt hwr Jm hs'
   exact ⟨_,_,β2,⟨hF,fun id hid hn=>Ng hid hn⟩,h1,h2,h3,h4,_,rfl,zBb h5⟩
  ·obtain ⟨β2,h1,h2,h3,h4,h5⟩:=Oq (us:=[u]) hs hnd hlt hwr hok.2 hs'
   refine ⟨_,_,β2,⟨hF,fun id hid hn=>Ng hid hn⟩,h1,h2,h3,h4,u,rfl,?_⟩
   cases hv:(sp.enc z).r.map (V.back (iJ (reach vs h) h.length) (gZ (reach vs h) h)) with
   | nil=>rw [hv] at h5; exact h5.elim
   | cons v l =>
    rw [hv] at h5
    cases l with
    | nil=>exact h5.1
    | cons v2 l=>exact h5.2.elim
end
end Go.Dec
