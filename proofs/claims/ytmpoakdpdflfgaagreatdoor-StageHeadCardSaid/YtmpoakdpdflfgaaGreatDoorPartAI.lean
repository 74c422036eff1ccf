/- Part of a proof over this seat: a library of my own, and what it says of this seat. No statement is proved here. -/
import Derived.Test.YtmpoakdpdflfgaaGreatDoorPartAH
namespace Go.Dec
@[reducible] def bG:List Ty->Type
 | []=>Unit
 | [t]=>t.den
 | t :: u :: r=>t.den × bG (u :: r)
def jN:List Value->Value
 | [u]=>u
 | us=>.tuple us.toArray
def yBg (bor:Bool) (N:Nat->Nat->Prop):Nat->Nat->Prop :=
 match bor with
 | true=>fun _ _=>False
 | false=>N
def Ty.iB (w:World) (N:Nat->Nat->Prop) (t:Ty) (x:t.den) (u:Value):Prop :=
 if t.isAgg then ∃ cs:List Value,u=.agg cs.toArray∧t.Rel w N x cs else t.Rel w N x [u]
def DensRel (w:World) (N:Nat->Nat->Prop):(ts:List Ty)->bG ts->List Value->Prop
 | [],_,us=>us=[]
 | [t],x,us=>∃ u,us=[u]∧t.iB w N x u
 | t :: s :: r,x,us=>∃ u us',us=u :: us'∧t.iB w N x.1 u∧DensRel w N (s :: r) x.2 us'
def vOf (t:Ty) (x:t.den):V :=
 match t.isAgg with
 | true=>.agg (explode t x)
 | false=>.one (.val t x)
def sOf (t:Ty) (x:t.den):Sum L (List L) :=
 match t.isAgg with
 | true=>.inr (explode t x)
 | false=>.inl (.val t x)
def oZ:(ts:List Ty)->bG ts->List V
 | [],_=>[]
 | [t],x=>[vOf t x]
 | t :: s :: r,x=>vOf t x.1 :: oZ (s :: r) x.2
def zLd:(ts:List Ty)->bG ts->List (Sum L (List L))
 | [],_=>[]
 | [t],x=>[sOf t x]
 | t :: s :: r,x=>sOf t x.1 :: zLd (s :: r) x.2
def zLe (t:Ty) (ls:List L):Option t.den :=
 match bH t ls with
 | some (x,[])=>some x
 | _=>none
def Xn (t:Ty) (s:Sum L (List L)):Option t.den :=
 match t.isAgg,s with
 | true,.inr ls=>zLe t ls
 | false,.inl l=>l.asT t
 | _,_=>none
def Aw:(ts:List Ty)->List (Sum L (List L))->Option (bG ts)
 | [],[]=>some ()
 | [t],[s]=>Xn t s
 | t :: u :: r,s :: ss =>
  match Xn t s,Aw (u :: r) ss with
  | some x,some y=>some (x,y)
  | _,_=>none
 | _,_=>none
def V.sum:V->Option (Sum L (List L))
 | .one l=>some (.inl l)
 | .agg ls=>some (.inr ls)
 | _=>none
def Qp (bor:Bool) (h:List Ob) (t:Ty) (v:V):Option (Bool × t.den) :=
 match bor with
 | true =>
  match v.deep h with
  | some (c,u) =>
   match u.sum with
   | some s=>match Xn t s with
    | some x=>some (c,x)
    | none=>none
   | none=>none
  | none=>none
 | false =>
  match v.isD,v.sum with
  | true,some s=>match Xn t s with
   | some x=>some (true,x)
   | none=>none
  | _,_=>none
def dY (bor:Bool) (h:List Ob):(ts:List Ty)->List V->Option (Bool × bG ts)
 | [],[]=>some (true,())
 | [t],[v]=>Qp bor h t v
 | t :: u :: r,v :: vs =>
  match Qp bor h t v,dY bor h (u :: r) vs with
  | some (c,x),some (d,y)=>some (c && d,(x,y))
  | _,_=>none
 | _,_=>none
def Ty.flat:Ty->Bool
 | .pair a b=>a.flat && b.flat
 | .arr _ a=>a.flat
 | .slice _=>false
 | .opq=>false
 | _=>true
section
variable {β:Nat->Pl} {w:World} {N:Nat->Nat->Prop}
theorem zIy {t:Ty} {x:t.den} {u:Value} (h:t.iB w N x u):(vOf t x).Rel β w N u:=by
 unfold vOf
 unfold Ty.iB at h
 cases ha:t.isAgg with
 | true =>
  rw [ha,if_pos rfl] at h
  obtain ⟨cs,e,h⟩:=h
  exact ⟨cs,e,fO h⟩
 | false =>
  rw [ha,if_neg (by simp)] at h
  simp only [V.Rel,L.Rel]
  exact h
theorem wJ:∀ {ts:List Ty} {x:bG ts} {us:List Value},DensRel w N ts x us->jZ β w N (oZ ts x) us
 | [],_,_,h=>by simp only [DensRel] at h; subst h; trivial
 | [t],x,_,h=>by obtain ⟨u,rfl,h⟩:=h; exact ⟨zIy h,trivial⟩
 | t :: s :: r,x,_,h=>by
  obtain ⟨u,us,rfl,h,h2⟩:=h
  exact ⟨zIy h,wJ h2⟩
theorem zIz {t:Ty} {x:t.den} {u:Value} (h:t.iB w N x u):fG β w N (sOf t x) u:=by
 unfold sOf
 unfold Ty.iB at h
 cases ha:t.isAgg with
 | true =>
  rw [ha,if_pos rfl] at h
  obtain ⟨cs,e,h⟩:=h
  exact ⟨cs,e,fO h⟩
 | false =>
  rw [ha,if_neg (by simp)] at h
  simp only [fG,L.Rel]
  exact h
theorem Zn:∀ {ts:List Ty} {x:bG ts} {us:List Value},DensRel w N ts x us->aJ (fG β w N) (zLd ts x) us
 | [],_,_,h=>by simp only [DensRel] at h; subst h; trivial
 | [t],x,_,h=>by obtain ⟨u,rfl,h⟩:=h; exact ⟨zIz h,trivial⟩
 | t :: s :: r,x,_,h=>by
  obtain ⟨u,us,rfl,h,h2⟩:=h
  exact ⟨zIz h,Zn h2⟩
theorem zPf {t:Ty} {ls:List L} {x:t.den} {cs:List Value} (h:zLe t ls=some x) (hr:aD β w N ls cs):t.Rel w N x cs:=by
 unfold zLe at h
 split at h
 ·rename_i y hi
  simp only [Option.some.injEq] at h
  subst h
  obtain ⟨c1,c2,e,h1,h2⟩:=mX hi hr
  simp only [aD] at h2
  subst h2
  rw [List.append_nil] at e
  subst e
  exact h1
 ·cases h
theorem Gd {t:Ty} {s:Sum L (List L)} {x:t.den} {u:Value} (h:Xn t s=some x) (hr:fG β w N s u):t.iB w N x u:=by
 unfold Xn at h
 unfold Ty.iB
 split at h
 ·rename_i ls ha
  rw [ha,if_pos rfl]
  obtain ⟨cs,e,hr⟩:=hr
  exact ⟨cs,e,zPf h hr⟩
 ·rename_i l ha
  rw [ha,if_neg (by simp)]
  exact L.Wy h hr
 ·cases h
theorem Zo:∀ {ts:List Ty} {ss:List (Sum L (List L))} {x:bG ts} {us:List Value},Aw ts ss=some x->aJ (fG β w N) ss us->DensRel w N ts x us
 | [],[],_,[],_,_=>rfl
 | [t],[s],x,[u],h,hr=>⟨u,rfl,Gd h hr.1⟩
 | t :: u :: r,s :: ss,x,v :: vs,h,hr=>by
  simp only [Aw] at h
  split at h
  ·rename_i y z h1 h2
   simp only [Option.some.injEq] at h
   subst h
   exact ⟨v,vs,rfl,Gd h1 hr.1,Zo h2 hr.2⟩
  ·cases h
 | [],[],_,_ :: _,_,hr=>hr.elim
 | [],_ :: _,_,_,h,_=>by simp [Aw] at h
 | [t],[],_,_,h,_=>by simp [Aw] at h
 | [t],[s],_,[],_,hr=>hr.elim
 | [t],[s],_,_ :: _ :: _,_,hr=>hr.2.elim
 | [t],_ :: _ :: _,_,_,h,_=>by simp [Aw] at h
 | t :: u :: r,[],_,_,h,_=>by simp [Aw] at h
 | t :: u :: r,s :: ss,_,[],_,hr=>hr.elim
theorem V.Xo {v:V} {s:Sum L (List L)} {u:Value} (h:v.sum=some s) (hr:v.Rel β w N u):fG β w N s u:=by
 cases v <;> simp only [V.sum,Option.some.injEq,reduceCtorEq] at h <;> subst h <;> exact hr
theorem Ty.iB.mono {w':World} {N':Nat->Nat->Prop} (hk:Keep N w w') (hN:∀ b j,b < w.heap.size->N' b j->N b j) {t:Ty} {x:t.den} {u:Value} (h:t.iB w N x u):t.iB w' N' x u:=by
 unfold Ty.iB at *
 split
 ·rename_i ha
  rw [if_pos ha] at h
  obtain ⟨cs,e,h⟩:=h
  exact ⟨cs,e,h.mono hk hN⟩
 ·rename_i ha
  rw [if_neg ha] at h
  exact h.mono hk hN
theorem DensRel.mono {w':World} {N':Nat->Nat->Prop} (hk:Keep N w w') (hN:∀ b j,b < w.heap.size->N' b j->N b j):∀ {ts:List Ty} {x:bG ts} {us:List Value},DensRel w N ts x us->DensRel w' N' ts x us
 | [],_,_,h=>h
 | [t],x,_,h=>by obtain ⟨u,e,h⟩:=h; exact ⟨u,e,h.mono hk hN⟩
 | t :: s :: r,x,_,h=>by obtain ⟨u,us,e,h,h2⟩:=h; exact ⟨u,us,e,h.mono hk hN,h2.mono hk hN⟩
theorem Ty.Rel.flat {N':Nat->Nat->Prop} {w':World}:∀ {t:Ty} {x:t.den} {cs:List Value},t.flat=true->t.Rel w N x cs->t.Rel w' N' x cs
 | .unit,_,_,_,h=>h
 | .bool,_,_,_,h=>h
 | .int _,_,_,_,h=>h
 | .str,_,_,_,h=>h
 | .err,_,_,_,h=>h
 | .opq,_,_,hf,_=>by cases hf
 | .slice _,_,_,hf,_=>by cases hf
 | .pair a b,_,_,hf,h=>by
  simp only [Ty.flat,Bool.and_eq_true] at hf
  obtain ⟨c1,c2,e,h1,h2⟩:=h
  exact ⟨c1,c2,e,Ty.Rel.flat hf.1 h1,Ty.Rel.flat hf.2 h2⟩
 | .arr n a,_,_,hf,h=>by
  simp only [Ty.flat] at hf
  obtain ⟨h0,css,e,h1⟩:=h
  exact ⟨h0,css,e,h1.mono fun x c hx=>Ty.Rel.flat hf hx⟩
theorem Ty.iB.flat {N':Nat->Nat->Prop} {w':World} {t:Ty} {x:t.den} {u:Value} (hf:t.flat=true) (h:t.iB w N x u):t.iB w' N' x u:=by
 unfold Ty.iB at *
 split
 ·rename_i ha
  rw [if_pos ha] at h
  obtain ⟨cs,e,h⟩:=h
  exact ⟨cs,e,h.flat hf⟩
 ·rename_i ha
  rw [if_neg ha] at h
  exact h.flat hf
theorem DensRel.flat {N':Nat->Nat->Prop} {w':World}:∀ {ts:List Ty} {x:bG ts} {us:List Value},bA Ty.flat ts=true->DensRel w N ts x us->DensRel w' N' ts x us
 | [],_,_,_,h=>h
 | [t],x,_,hf,h=>by
  simp only [bA,Bool.and_true] at hf
  obtain ⟨u,e,h⟩:=h; exact ⟨u,e,h.flat hf⟩
 | t :: s :: r,x,_,hf,h=>by
  simp only [bA,Bool.and_eq_true] at hf
  obtain ⟨u,us,e,h,h2⟩:=h
  exact ⟨u,us,e,h.flat hf.1,DensRel.flat (by simp only [bA,Bool.and_eq_true]; exact hf.2) h2⟩
end
def Pure (P:Program) (f:FuncId) (as rs:List Ty) (F:bG as->Option (bG rs)):Prop :=
 dW P f=true∧∀ x y,F x=some y->∀ (w:World) (N:Nat->Nat->Prop) (xs:List Value),Glob P w->(∀ b j,N b j->b < w.heap.size)->DensRel w N as x xs ->
  Calls P f xs.toArray w fun e w'=>∃ us:List Value,e=.returned (jN us)∧w'.os=w.os∧w'.tape=w.tape∧w'.output=w.output∧Keep (fun _ _=>False) w w'∧DensRel w' N rs y us
def zLf (T:Tab) (res:List ResultVar) (rs:List Ty) (σ:St):Option (bG rs) :=
 match Nk T σ res with
 | some (c,vs) =>
  match Aw rs vs with
  | some y=>chk c (some y)
  | none=>none
 | none=>none
def zLg (T:Tab) (res:List ResultVar) (rs:List Ty):K (bG rs):=fun e σ =>
 match e with
 | .normal=>zLf T res rs σ
 | .ret=>zLf T res rs σ
 | _=>none
section
variable {T:Tab} {P:Program}
theorem zDr {C:Ctx} {β β':Nat->Pl} {w:World} {σ:St} {a:Act} {fn:Func} {vs:List (Sum L (List L))} {N':Nat->Nat->Prop} (hT:aV C.P T) (hs:Sim C β σ a w) (hN:∀ b j,b < w.heap.size->N' b j->C.N0 b j) (h:Nk T σ fn.results.toList=some (true,vs)) :
  ∃ us:List Value,(results fn a.tmps).run C.P w=.ok (jN us) w∧aJ (fG β' w N') vs us:=by
 obtain ⟨us,h1,h2,_⟩:=Zm (β':=β') hT hs hN h #[]
 refine ⟨us,?_,h2⟩
 have e0:results fn a.tmps=(do let vs <- fn.results.mapM (mF a.tmps); pure (if h:vs.size=1 then vs[0] else .tuple vs)):=by
  unfold results
  congr 1
 have hm:(fn.results.mapM (mF a.tmps):Sem (Array Value)).run C.P w=.ok us.toArray w:=by
  rw [Array.mapM_eq_foldlM,<- Array.foldlM_toList]
  have e:(fun (acc:Array Value) rv=>do let v <- mF a.tmps rv; pure (acc.push v):Array Value->ResultVar->Sem (Array Value))=(fun (acc:Array Value) rv=>acc.push <$> mF a.tmps rv):=by
   funext acc rv
   rfl
  rw [e] at h1
  simpa using h1
 rw [e0]
 simp only [Sem.run_bind,hm,Result.andThen_ok,Sem.run_pure]
 match us with
 | []=>rfl
 | [u]=>rfl
 | u :: v :: us=>simp [jN]
theorem Kh:∀ cs:List Co,bA (Co.fx 0) cs=true
 | []=>rfl
 | c :: cs=>by
  simp only [bA,Kh cs,Bool.and_true]
  cases c <;> first | rfl | simp [Co.fx]
theorem wK {ρ:Type}:∀ an:An ρ,an.fx 0=true
 | .nil=>rfl
 | .mk l r c=>by simp only [An.fx,wK l,wK r,Kh,Bool.and_self]
 | .loop _ c0 c1 _ a=>by simp only [An.fx,wK a,Kh,Bool.and_self]
 | .scope _ a b=>by simp only [An.fx,wK a,wK b,Bool.and_self]
 | .sem _=>rfl
 | .co c a=>by simp only [An.fx,wK a,Kh,Bool.and_self]
 | .join _ c a=>by simp only [An.fx,wK a,Kh,Bool.and_self]
theorem jF {f:FuncId} {fn:Func} {c:Code} {as rs:List Ty} {F:bG as->Option (bG rs)} {Γ:Orc (bG rs)} {an:An (bG rs)} (hf:P.funcs[f]?=some fn) (hb:fn.body=some c) (hh:dW P f=true) (hT:aV P T) (hΓ:fV P Γ) (hm:P.follows .mixedOrders=true) (ha:zDn P 0 c an)
  (h:∀ x,ev Γ T c an ⟨Av (oZ as x) fn.ntmps,[]⟩ (zLg T fn.results.toList rs)=F x):Pure P f as rs F:=by
 refine ⟨hh,fun x y hF w N xs hG hN hx=>?_⟩
 rw [<- h x] at hF
 let C:Ctx:={ P:=P,N0:=N,w0:=w,zA:=fun _ _=>False,glob:=fun w' h=>hG.keep fun b hb=>h.block b hb (fun _ h=>h),fix:=[] }
 let β0:Nat->Pl:=fun _=>⟨false,false,0,none,0,0,0,[]⟩
 have hargs:jZ β0 w N (oZ as x) xs:=wJ hx
 have hxl:(oZ as x).length=xs.length:=hargs.length
 have Xd:Sim C β0 ⟨Av (oZ as x) fn.ntmps,[]⟩ { tmps:=xs.toArray++Array.replicate (fn.ntmps - xs.toArray.size) undef,defers:=[] } w:=by
  refine ⟨⟨by simp,fun _ _=>rfl,by simp,by simp,hN,Keep.refl _ _,Nat.le_refl _,rfl,rfl,rfl,fun j o hj=>by cases hj⟩,rfl,by simp [Av,hxl],?_⟩
  intro i u hu
  simp only [Av] at hu
  by_cases hi:i < (oZ as x).length
  ·rw [List.getElem?_append_left hi] at hu
   have hi':i < xs.length:=by rw [<- hxl]; exact hi
   have hr:=hargs.get i hi hi'
   rw [List.getElem?_eq_getElem hi] at hu
   simp only [Option.some.injEq] at hu
   subst hu
   have:(xs.toArray++Array.replicate (fn.ntmps - xs.toArray.size) undef).getD i undef=xs[i]:=by
    rw [Array.getD_eq_getD_getElem?,Array.getElem?_append_left (by simpa using hi')]
    simp [hi']
   rw [this]
   refine hr.mono (Moves.refl β0) (Keep.refl _ w) (fun b j _ hb=>?_)
   rcases hb with hb | ⟨id,o,ho,_⟩
   ·exact hb
   ·simp at ho
  ·rw [List.getElem?_append_right (by omega),List.getElem?_replicate] at hu
   split at hu
   ·simp only [Option.some.injEq] at hu; subst hu; trivial
   ·cases hu
 refine calls_of_wp hf hb ?_
 refine zDp (P:=P) hT hΓ hm c an ha (wK an) _ _ y hF C β0 _ w _ rfl (Nat.le_refl _) Xd ?_
 intro e x' σ' β' a' w' hs' hx' hk
 have fin:zLf T fn.results.toList rs σ'=some y->x'=.ret∨x'=.normal->bodyPost P fn (fun e w'=>∃ us:List Value,e=.returned (jN us)∧w'.os=w.os∧w'.tape=w.tape∧w'.output=w.output∧Keep (fun _ _=>False) w w'∧DensRel w' N rs y us) x' a' w':=by
  intro hk hx'
  unfold zLf at hk
  split at hk
  ·rename_i cc ss hrs
   split at hk
   ·rename_i y' hd
    obtain ⟨rfl,hk⟩:=jM hk
    obtain rfl:=Option.some.inj hk
    obtain ⟨us,h1,h2⟩:=zDr (C:=C) (β':=β0) (N':=N) (fn:=fn) hT hs' (fun _ _ _ hb=>hb) hrs
    have hkeep:Keep (fun _ _=>False) w w':=hs'.heap.frame
    have hR:=Zo hd h2
    rcases hx' with rfl | rfl
    ·exact ⟨hs'.defers,_,h1,us,rfl,hs'.heap.os,hs'.heap.tape,hs'.heap.output,hkeep,hR⟩
    ·exact ⟨hs'.defers,_,h1,us,rfl,hs'.heap.os,hs'.heap.tape,hs'.heap.output,hkeep,hR⟩
   ·cases hk
  ·cases hk
 cases e with
 | normal=>obtain rfl:=hx'; exact fin hk (.inr rfl)
 | ret=>obtain rfl:=hx'; exact fin hk (.inl rfl)
 | exit i=>simp [zLg] at hk
 | goto l=>simp [zLg] at hk
 | pan t u=>simp [zLg] at hk
def jO (as rs:List Ty) (F:bG as->Option (bG rs)):PE where
 R:=bG rs
 use:=1
 run vs h:=match dY (bA Ty.flat rs) h as vs with
  | some (c,x)=>some (c,F x)
  | none=>none
 enc y _ h:=(zSq (zLd rs y),h)
theorem zDs {C:Ctx} {β:Nat->Pl} {h:List Ob} {w:World} {bor:Bool} {t:Ty} {v:V} {x:t.den} {u:Value} (hd:Qp bor h t v=some (true,x)) (hs:bM C β h w) (hr:v.Rel β w (C.N β h) u) :
  t.iB w (yBg bor (C.N β h)) x u:=by
 unfold Qp at hd
 cases bor with
 | true =>
  simp only at hd ⊢
  split at hd
  ·rename_i c v' hv
   split at hd
   ·rename_i s hsum
    split at hd
    ·rename_i y hy
     simp only [Option.some.injEq,Prod.mk.injEq] at hd
     obtain ⟨rfl,rfl⟩:=hd
     obtain ⟨h1,_⟩:=V.nQ (β':=β) (N':=fun _ _=>False) hv hs (fun _ _ _ h=>h.elim) hr
     exact Gd hy (V.Xo hsum h1)
    ·cases hd
   ·cases hd
  ·cases hd
 | false =>
  simp only at hd ⊢
  split at hd
  ·rename_i s hD hsum
   split at hd
   ·rename_i y hy
    simp only [Option.some.injEq,Prod.mk.injEq,true_and] at hd
    subst hd
    exact Gd hy (V.Xo hsum hr)
   ·cases hd
  ·cases hd
theorem wL {C:Ctx} {β:Nat->Pl} {h:List Ob} {w:World} {bor:Bool} (hs:bM C β h w):∀ {ts:List Ty} {vs:List V} {x:bG ts} {us:List Value},dY bor h ts vs=some (true,x)->jZ β w (C.N β h) vs us ->
  DensRel w (yBg bor (C.N β h)) ts x us
 | [],[],_,[],_,_=>rfl
 | [t],[v],x,[u],hd,hr=>⟨u,rfl,zDs hd hs hr.1⟩
 | t :: s :: r,v :: vs,x,u :: us,hd,hr=>by
  simp only [dY] at hd
  split at hd
  ·rename_i c y d z h1 h2
   simp only [Option.some.injEq,Prod.mk.injEq,Bool.and_eq_true] at hd
   obtain ⟨⟨rfl,rfl⟩,rfl⟩:=hd
   exact ⟨u,us,rfl,zDs h1 hs hr.1,wL hs h2 hr.2⟩
  ·cases hd
 | [],[],_,_ :: _,_,hr=>hr.elim
 | [],_ :: _,_,_,h,_=>by simp [dY] at h
 | [t],[],_,_,h,_=>by simp [dY] at h
 | [t],[s],_,[],_,hr=>hr.elim
 | [t],[s],_,_ :: _ :: _,_,hr=>hr.2.elim
 | [t],_ :: _ :: _,_,_,h,_=>by simp [dY] at h
 | t :: u :: r,[],_,_,h,_=>by simp [dY] at h
 | t :: u :: r,s :: ss,_,[],_,hr=>hr.elim
theorem zDt {h:List Ob}:∀ {l:L},l.isD=true->l.deep h=some (true,l)
 | .val ..,_=>rfl
 | .iM,_=>rfl
 | .aW,_=>rfl
 | .gN ..,_=>rfl
 | .clo f [],_=>rfl
 | .clo f (_ :: _),h=>by cases h
 | .ptr ..,h=>by cases h
 | .iL ..,h=>by cases h
 | .dQ ..,h=>by cases h
 | .sl ..,h=>by cases h
 | .own ..,h=>by cases h
 | .bad _,h=>by cases h
 | .bB ..,h=>by cases h
theorem Zp {h:List Ob}:∀ {ls:List L},bA L.isD ls=true->Gb h ls=some (true,ls)
 | [],_=>rfl
 | l :: ls,hd=>by
  simp only [bA,Bool.and_eq_true] at hd
  simp only [Gb,zDt hd.1,Zp hd.2,Bool.and_self]
theorem zDu {bor:Bool} {t:Ty} {v:V} (hd:v.isD=true) (h h2:List Ob):Qp bor h t v=Qp bor h2 t v:=by
 cases bor with
 | false=>rfl
 | true =>
  unfold Qp
  cases v with
  | one l=>simp only [V.deep,zDt (show l.isD=true from hd)]
  | agg ls=>simp only [V.deep,Zp (show bA L.isD ls=true from hd)]
  | _=>rfl
theorem Zq {bor:Bool}:∀ {ts:List Ty} {vs:List V} (_:bA V.isD vs=true) (h h2:List Ob),dY bor h ts vs=dY bor h2 ts vs
 | [],[],_,_,_=>rfl
 | [t],[v],hd,h,h2=>by
  simp only [bA,Bool.and_true] at hd
  simp only [dY,zDu hd h h2]
 | t :: s :: r,v :: vs,hd,h,h2=>by
  simp only [bA,Bool.and_eq_true] at hd
  simp only [dY,zDu hd.1 h h2,Zq (ts:=s :: r) hd.2 h h2]
 | [],_ :: _,_,_,_=>rfl
 | [t],[],_,_,_=>rfl
 | [t],_ :: _ :: _,_,_,_=>rfl
 | t :: s :: r,[],_,_,_=>rfl
theorem zDv {β:Nat->Pl} {w:World} {N:Nat->Nat->Prop} {ss:List (Sum L (List L))} {us:List Value} (h:aJ (fG β w N) ss us):(zSq ss).Rel β w N (jN us):=by
 match ss,us,h with
 | [],[],_=>exact ⟨[],rfl,trivial⟩
 | [.inl l],[u],h=>exact h.1
 | [.inr ls],[u],h=>exact h.1
 | s :: t :: ss,u :: v :: us,h=>cases s <;> exact ⟨_,rfl,h⟩
theorem dP {f:FuncId} {as rs:List Ty} {F:bG as->Option (bG rs)} (h:Pure P f as rs F):(jO as rs F).OK P f:=by
 refine ⟨h.1,fun vs hp y hr C β w xs hP hs ha=>?_,fun _ vs h1 h2 hd=>⟨by simp only [jO]; rw [Zq hd h1 h2],fun _=>rfl⟩,fun _ _ _ _=>rfl⟩
 subst hP
 simp only [jO] at hr
 split at hr
 ·rename_i c x hd
  simp only [Option.some.injEq,Prod.mk.injEq] at hr
  obtain ⟨rfl,hF⟩:=hr
  have hx:=wL hs hd ha
  have hn:∀ b j,C.N β hp b j->b < w.heap.size:=fun b j hb=>by
   rcases hb with hb | ⟨id,o,ho,_,hbk⟩
   ·exact Nat.lt_of_lt_of_le (hs.n0 b j hb) hs.size
   ·exact (hs.dV id o b ho ⟨j,hbk⟩).2.1
  refine (h.2 x y hF w _ xs (C.glob w hs.frame) (fun b j hb=>?_) hx).mono ?_
  ·cases hfl:bA Ty.flat rs with
   | true=>rw [hfl] at hb; exact hb.elim
   | false=>rw [hfl] at hb; exact hn b j hb
  ·rintro e w' ⟨us,rfl,ho,ht,hop,hk,hy⟩
   have hy':DensRel w' (C.N β hp) rs y us:=by
    cases hfl:bA Ty.flat rs with
    | true=>exact hy.flat hfl
    | false=>rw [hfl] at hy; exact hy
   refine ⟨_,_,β,⟨rfl,rfl⟩,Moves.refl β,hk.weaken fun _ _ h=>h.elim,fun _ _ _ h=>h,?_,_,rfl,zDv (Zn hy')⟩
   refine ⟨fun id o hob=>(hs.obj id o hob).mono (Moves.refl β) (hk.weaken fun _ _ h=>h.elim) (fun _ _ _ h=>h) fun b hb=>hk.block b (hs.dV id o b hob hb).2.1 (fun _ h=>h),hs.dead,hs.jJ,?_,hs.n0,hs.frame.wD hk fun _ _ _ h=>h.elim,Nat.le_trans hs.size hk.size,ho.trans hs.os,ht.trans hs.tape,hop.trans hs.output,hs.fixed⟩
   ·intro id o b hob hb
    obtain ⟨k1,k2,k3⟩:=hs.dV id o b hob hb
    exact ⟨k1,Nat.lt_of_lt_of_le k2 hk.size,k3⟩
 ·cases hr
def pes:List (FuncId × PE)->FuncId->Option PE
 | [],_=>none
 | (g,e) :: r,f=>match Nat.beq g f with
  | true=>some e
  | false=>pes r f
def orc (ρ:Type) (l:List (FuncId × PE)):Orc ρ:=⟨pes l,fun _ _ _ _=>none⟩
theorem yBh {ρ:Type}:∀ {l:List (FuncId × PE)},(∀ p ∈ l,p.2.OK P p.1)->fV P (orc ρ l):=by
 intro l h
 refine ⟨fun f e he=>?_,fun _ _ _ _ _ h=>by cases h⟩
 simp only [orc] at he
 induction l with
 | nil=>cases he
 | cons p r ih =>
  obtain ⟨g,e'⟩:=p
  simp only [pes] at he
  split at he
  ·rename_i hb
   have:=Nat.eq_of_beq_eq_true hb
   subst this
   simp only [Option.some.injEq] at he
   subst he
   exact h _ (.head _)
  ·exact ih (fun p hp=>h p (.tail _ hp)) he
theorem all_nil {Q:FuncId × PE->Prop}:∀ p ∈ ([]:List (FuncId × PE)),Q p:=fun _ h=>by cases h
theorem all_cons {Q:FuncId × PE->Prop} {p:FuncId × PE} {l:List (FuncId × PE)} (h:Q p) (hl:∀ q ∈ l,Q q):∀ q ∈ p :: l,Q q:=fun q hq=>by
 cases hq with
 | head=>exact h
 | tail _ hq=>exact hl q hq
end
end Go.Dec
namespace Go.Dec
mutual
def L.back (f v:Nat->Nat):L->L
 | .ptr id o=>.ptr (f id) o
 | .bB id o=>.bB (f id) o
 | .iL id o es i sub=>.iL (f id) o es i sub
 | .dQ id u i o=>.dQ (f id) (u+v id) i o
 | .sl id u i n=>.sl (f id) (u+v id) i n
 | .own id u=>.own (f id) (u+v id)
 | .clo g caps=>.clo g (L.backs f v caps)
 | .mp id=>.mp (f id)
 | l=>l
def L.backs (f v:Nat->Nat):List L->List L
 | []=>[]
 | l :: ls=>l.back f v :: L.backs f v ls
end
def V.back (f v:Nat->Nat):V->V
 | .one l=>.one (l.back f v)
 | .agg ls=>.agg (L.backs f v ls)
 | _=>.aU
def Ob.back (f v:Nat->Nat) (id:Nat):Ob->Ob
 | .box e ls=>.box e (L.backs f v ls)
 | .arr e t u rows wr=>.arr e t (u+v id) rows wr
 | .fm tab=>.fm tab
section
variable {β β':Nat->Pl} {w:World} {N N':Nat->Nat->Prop}
structure Ki (p q:Pl) (v:Nat):Prop where
 live:q.live=p.live
 box:q.box=p.box
 blk:q.blk=p.blk
 row:p.box=false->q.ver=p.ver+v∧q.size=p.size∧q.cap=p.cap∧q.len=p.len
theorem Ki.zWx {p q:Pl} {v:Nat} (h:Ki p q v) (hb:p.box=false) {off len:Nat} {c:Value}:bW q off len c <-> bW p off len c:=by
 obtain ⟨_,h2,h3,_⟩:=h.row hb
 unfold bW
 rw [h.blk,h2,h3]
mutual
theorem L.Rel.back {f v:Nat->Nat} (hβ:∀ j,(β j).live=true->Ki (β j) (β' (f j)) (v j)) (hN:∀ b j,b < w.heap.size->N' b j->N b j):∀ {l:L} {cs:List Value},l.Rel β w N cs->(l.back f v).Rel β' w N' cs
 | .val t x,cs,h=>by simp only [L.back,L.Rel] at *; exact Ty.Rel.mono (Keep.refl _ w) hN h
 | .ptr id off,cs,h=>by
  simp only [L.back,L.Rel] at *
  obtain ⟨h1,h2,h3⟩:=h
  have:=hβ id h1
  exact ⟨this.live ▸ h1,this.box ▸ h2,by rw [this.blk]; exact h3⟩
 | .iL id off es i sub,cs,h=>by
  simp only [L.back,L.Rel] at *
  obtain ⟨h1,h2,h3⟩:=h
  have:=hβ id h1
  exact ⟨this.live ▸ h1,this.box ▸ h2,by rw [this.blk]; exact h3⟩
 | .iM,cs,h=>by simp only [L.back,L.Rel] at *; exact h
 | .bB id off,cs,h=>by
  simp only [L.back,L.Rel] at *
  obtain ⟨c,e,h⟩:=h
  refine ⟨c,e,?_⟩
  rcases h with h | ⟨h1,h2,h3⟩
  ·exact .inl h
  ·have:=hβ id h1
   exact .inr ⟨this.live ▸ h1,this.box ▸ h2,by rw [this.blk]; exact h3⟩
 | .dQ id u i off,cs,h=>by
  simp only [L.back,L.Rel] at *
  obtain ⟨h1,h2,h3,c,h4,h5,h6⟩:=h
  have:=hβ id h1
  obtain ⟨g1,g2,g3,g4⟩:=this.row h2
  refine ⟨this.live ▸ h1,this.box ▸ h2,by omega,c,h4,h5,fun hv=>?_⟩
  rw [this.blk,g2]
  exact h6 (by omega)
 | .gN t x off,cs,h=>by simp only [L.back,L.Rel] at *; obtain ⟨c,hc,hr⟩:=h; exact ⟨c,hc,hr.mono (Keep.refl _ w) hN⟩
 | .sl id u off len,cs,h=>by
  simp only [L.back,L.Rel] at *
  obtain ⟨h1,h2,h3,c,h4,h5,h6⟩:=h
  have:=hβ id h1
  obtain ⟨g1,g2,g3,g4⟩:=this.row h2
  exact ⟨this.live ▸ h1,this.box ▸ h2,by omega,c,h4,h5,fun hv=>(this.zWx h2).2 (h6 (by omega))⟩
 | .own id u,cs,h=>by
  simp only [L.back,L.Rel] at *
  obtain ⟨h1,h2,h3,c,h4,h5,h6⟩:=h
  have:=hβ id h1
  obtain ⟨g1,g2,g3,g4⟩:=this.row h2
  exact ⟨this.live ▸ h1,this.box ▸ h2,by omega,c,h4,h5,fun hv=>by rw [g4]; exact (this.zWx h2).2 (h6 (by omega))⟩
 | .aW,cs,h=>by simp only [L.back,L.Rel] at *; exact h
 | .clo g caps,cs,h=>by
  simp only [L.back,L.Rel] at *
  obtain ⟨us,hc,hr⟩:=h
  exact ⟨us,hc,L.bE.back hβ hN hr⟩
 | .bad n,cs,h=>by simp only [L.back,L.Rel] at *; exact h
 | .wW x tab,cs,h=>by simp only [L.back,L.Rel] at *; exact h
 | .mp id,cs,h=>by
  simp only [L.back,L.Rel] at *
  obtain ⟨h1,h2,h3⟩:=h
  have:=hβ id h1
  exact ⟨this.live ▸ h1,this.box ▸ h2,by rw [this.blk]; exact h3⟩
theorem L.bE.back {f v:Nat->Nat} (hβ:∀ j,(β j).live=true->Ki (β j) (β' (f j)) (v j)) (hN:∀ b j,b < w.heap.size->N' b j->N b j):∀ {ls:List L} {us:List Value},L.bE β w N ls us->L.bE β' w N' (L.backs f v ls) us
 | [],us,h=>by simp only [L.backs,L.bE] at *; exact h
 | l :: ls,us,h=>by
  simp only [L.backs,L.bE] at *
  obtain ⟨u,r,e,h1,h2⟩:=h
  exact ⟨u,r,e,L.Rel.back hβ hN h1,L.bE.back hβ hN h2⟩
end
theorem aD.back {f v:Nat->Nat} (hβ:∀ j,(β j).live=true->Ki (β j) (β' (f j)) (v j)) (hN:∀ b j,b < w.heap.size->N' b j->N b j):∀ {ls:List L} {cs:List Value},aD β w N ls cs->aD β' w N' (L.backs f v ls) cs
 | [],_,h=>h
 | _l :: _ls,_,⟨c1,c2,e,h1,h2⟩=>⟨c1,c2,e,h1.back hβ hN,aD.back hβ hN h2⟩
theorem V.Rel.back {f v:Nat->Nat} (hβ:∀ j,(β j).live=true->Ki (β j) (β' (f j)) (v j)) (hN:∀ b j,b < w.heap.size->N' b j->N b j) {x:V} {u:Value} (h:x.Rel β w N u):(x.back f v).Rel β' w N' u:=by
 cases x with
 | one l=>exact L.Rel.back hβ hN h
 | agg ls=>obtain ⟨cs,e,h⟩:=h; exact ⟨cs,e,h.back hβ hN⟩
 | _=>trivial
theorem Ob.Rel.back {f v:Nat->Nat} (hβ:∀ j,(β j).live=true->Ki (β j) (β' (f j)) (v j)) (hN:∀ b j,b < w.heap.size->N' b j->N b j) {id:Nat} {o:Ob} (h:o.Rel β w N (β id)):(o.back f v id).Rel β' w N' (β' (f id)):=by
 cases o with
 | box e ls =>
  simp only [Ob.back,Ob.Rel] at *
  obtain ⟨h1,h2,b,cs,h3,h4,h5⟩:=h
  have:=hβ id h1
  exact ⟨this.live ▸ h1,this.box ▸ h2,b,cs,this.blk ▸ h3,h4.back hβ hN,h5⟩
 | arr e t u rows wr =>
  simp only [Ob.back,Ob.Rel] at *
  obtain ⟨h1,h2,h3,h4,h5,h6,h7⟩:=h
  have:=hβ id h1
  obtain ⟨g1,g2,g3,g4⟩:=this.row h2
  refine ⟨this.live ▸ h1,this.box ▸ h2,by omega,by rw [g2,h4],h5,by rw [g4,h6],?_⟩
  rw [this.blk,g3]
  rcases h7 with h7 | ⟨b,cur,css,k1,k2,k3,k4⟩
  ·exact .inl h7
  ·exact .inr ⟨b,cur,css,k1,k2,k3.mono fun _ _ h=>h.mono (Keep.refl _ w) hN,k4⟩
 | fm tab =>
  simp only [Ob.back,Ob.Rel] at *
  obtain ⟨h1,h2,b,es,n,h3,h4⟩:=h
  have:=hβ id h1
  exact ⟨this.live ▸ h1,this.box ▸ h2,b,es,n,this.blk ▸ h3,h4⟩
end
def gB (P:Program) (f:FuncId) (si so:Sh) (F:si.X->Option so.X):Prop :=
 dW P f=true∧∀ x y,F x=some y->∀ (C:Ctx) (β:Nat->Pl) (w:World) (xs:List Value),C.P=P->C.fix.length <= si.os.length->Sim C β (si.enc x) { tmps:=xs.toArray,defers:=[] } w ->
  Calls P f xs.toArray w fun e w'=>∃ (us:List Value) (β':Nat->Pl),e=.returned (jN us)∧Sim C β' (so.enc y) { tmps:=us.toArray,defers:=[] } w'
def Tq:List V->Option (List (Sum L (List L)))
 | []=>some []
 | v :: r=>match v.sum,Tq r with
  | some s,some ss=>some (s :: ss)
  | _,_=>none
def zSs (vs:List V):V :=
 match Tq vs with
 | some ss=>zSq ss
 | none=>.aU
def Qq (g:Nat->Option Ob):Nat->List Ob->List Ob
 | _,[]=>[]
 | i,o :: r=>(match g i with | some o'=>o' | none=>o) :: Qq g (i+1) r
def rG (f v:Nat->Nat):Nat->List Ob->List Ob
 | _,[]=>[]
 | j,o :: r=>o.back f v j :: rG f v (j+1) r
def uX:List Ob->List OS->Bool
 | [],_=>true
 | .box .. :: r,_ :: s=>uX r s
 | .fm .. :: r,_ :: s=>uX r s
 | .arr .. :: r,.row .. :: s=>uX r s
 | _,_=>false
def iZ (ρ:List Nat) (n:Nat) (j:Nat):Nat:=match ρ[j]? with | some i=>i | none=>n+(j - ρ.length)
def jP (ρ:List Nat) (h:List Ob) (j:Nat):Nat:=match ρ[j]? with
 | some i=>(match h[i]? with | some (.arr _ _ u _ _)=>u+1 | _=>0)
 | none=>0
def kC (ρ:List Nat) (h hy:List Ob):List Ob :=
 Qq (fun i=>match pos i ρ 0 with | some j=>(match hy[j]? with | some o=>some (o.back (iZ ρ h.length) (jP ρ h) j) | none=>none) | none=>none) 0 h++rG (iZ ρ h.length) (jP ρ h) ρ.length (hy.drop ρ.length)
def zDw (ρ:List Nat) (h:List Ob) (si so:Sh):Bool :=
 nodupB ρ && (bA (fun i=>Nat.blt i h.length) ρ && (Nat.beq ρ.length si.os.length && (bA Ob.wr (inH ρ h) && uX (inH ρ h) so.os)))
def peM (si so:Sh) (F:si.X->Option so.X):PE where
 R:=so.X
 use:=2
 run vs h:=match si.dec ⟨vs.map (V.ren (reach vs h) h),inH (reach vs h) h⟩ with
  | some x=>some (zDw (reach vs h) h si so,F x)
  | none=>none
 enc y vs h:=(zSs ((so.enc y).r.map (V.back (iZ (reach vs h) h.length) (jP (reach vs h) h))),kC (reach vs h) h (so.enc y).h)
theorem zDx {g:Nat->Option Ob}:∀ {h:List Ob} {n i:Nat},(Qq g n h)[i]?=(h[i]?).map fun o=>(match g (n+i) with | some o'=>o' | none=>o)
 | [],n,i=>by simp [Qq]
 | o :: r,n,0=>by simp [Qq]
 | o :: r,n,i+1=>by
  simp only [Qq,List.getElem?_cons_succ]
  rw [zDx (h:=r),show n+1+i=n+(i+1) by omega]
theorem qK {g:Nat->Option Ob}:∀ {h:List Ob} {n:Nat},(Qq g n h).length=h.length
 | [],_=>rfl
 | _ :: r,n=>congrArg (· + 1) (qK (h:=r) (n:=n+1))
theorem Kj {f v:Nat->Nat}:∀ {h:List Ob} {n i:Nat},(rG f v n h)[i]?=(h[i]?).map fun o=>o.back f v (n+i)
 | [],n,i=>by simp [rG]
 | o :: r,n,0=>by simp [rG]
 | o :: r,n,i+1=>by
  simp only [rG,List.getElem?_cons_succ]
  rw [Kj (h:=r),show n+1+i=n+(i+1) by omega]
theorem Ay {f v:Nat->Nat}:∀ {h:List Ob} {n:Nat},(rG f v n h).length=h.length
 | [],_=>rfl
 | _ :: r,n=>congrArg (· + 1) (Ay (h:=r) (n:=n+1))
theorem Ob.Kk {f v:Nat->Nat} {j:Nat} (o:Ob):(o.back f v j).iV=o.iV:=by cases o <;> rfl
theorem Ob.uY {f v:Nat->Nat} {j:Nat} (o:Ob):(o.back f v j).wr=o.wr:=by cases o <;> rfl
theorem vU:∀ {hc:List Ob} {os:List OS} {j:Nat} {e:TypeId} {t:Ty} {u:Nat} {rows:List t.den} {wr:Bool},uX hc os=true->hc[j]?=some (.arr e t u rows wr)->∃ e' t',os[j]?=some (.row e' t')
 | [],_,j,_,_,_,_,_,_,h=>by simp at h
 | .box .. :: r,[],j,_,_,_,_,_,hk,_=>by cases hk
 | .box .. :: r,s :: os,0,_,_,_,_,_,_,h=>by simp at h
 | .box .. :: r,s :: os,j+1,_,_,_,_,_,hk,h=>by
  obtain ⟨e',t',h'⟩:=vU (hc:=r) (os:=os) (j:=j) hk (by simpa using h)
  exact ⟨e',t',by simpa using h'⟩
 | .fm .. :: r,[],j,_,_,_,_,_,hk,_=>by cases hk
 | .fm .. :: r,s :: os,0,_,_,_,_,_,_,h=>by simp at h
 | .fm .. :: r,s :: os,j+1,_,_,_,_,_,hk,h=>by
  obtain ⟨e',t',h'⟩:=vU (hc:=r) (os:=os) (j:=j) hk (by simpa using h)
  exact ⟨e',t',by simpa using h'⟩
 | .arr .. :: r,.fm .. :: os,j,_,_,_,_,_,hk,_=>by cases hk
 | .arr .. :: r,[],j,_,_,_,_,_,hk,_=>by cases hk
 | .arr .. :: r,.box .. :: os,j,_,_,_,_,_,hk,_=>by cases hk
 | .arr .. :: r,.row e t :: os,0,_,_,_,_,_,_,_=>⟨e,t,rfl⟩
 | .arr .. :: r,.row e t :: os,j+1,_,_,_,_,_,hk,h=>by
  obtain ⟨e',t',h'⟩:=vU (hc:=r) (os:=os) (j:=j) hk (by simpa using h)
  exact ⟨e',t',by simpa using h'⟩
theorem Az {A:Type}:∀ {os:List OS} {x:OTs os A} {j:Nat} {e:TypeId} {t:Ty},os[j]?=some (.row e t)->∃ rows,(fH os x).1[j]?=some (.arr e t 0 rows true)
 | [],_,j,_,_,h=>by simp at h
 | .box e0 ls :: r,x,0,_,_,h=>by simp at h
 | .box e0 ls :: r,x,j+1,e,t,h=>by
  obtain ⟨rows,h'⟩:=Az (os:=r) (x:=(bJ ls x).2) (j:=j) (by simpa using h)
  exact ⟨rows,by simpa [fH] using h'⟩
 | .fm tab :: r,x,0,_,_,h=>by simp at h
 | .fm tab :: r,x,j+1,e,t,h=>by
  obtain ⟨rows,h'⟩:=Az (os:=r) (x:=x) (j:=j) (by simpa using h)
  exact ⟨rows,by simpa [fH] using h'⟩
 | .row e0 t0 :: r,x,0,e,t,h=>by
  simp only [List.getElem?_cons_zero,Option.some.injEq,OS.row.injEq] at h
  obtain ⟨rfl,rfl⟩:=h
  exact ⟨x.1,rfl⟩
 | .row e0 t0 :: r,x,j+1,e,t,h=>by
  obtain ⟨rows,h'⟩:=Az (os:=r) (x:=x.2) (j:=j) (by simpa using h)
  exact ⟨rows,by simpa [fH] using h'⟩
theorem Gf {A:Type}:∀ {os:List OS} {x:OTs os A} {j:Nat} {o:Ob},(fH os x).1[j]?=some o->o.wr=true
 | [],_,j,_,h=>by simp [fH] at h
 | .box e0 ls :: r,x,0,_,h=>by simp only [fH,List.getElem?_cons_zero,Option.some.injEq] at h; subst h; rfl
 | .box e0 ls :: r,x,j+1,o,h=>Gf (os:=r) (x:=(bJ ls x).2) (j:=j) (by simpa [fH] using h)
 | .fm tab :: r,x,0,_,h=>by simp only [fH,List.getElem?_cons_zero,Option.some.injEq] at h; subst h; rfl
 | .fm tab :: r,x,j+1,o,h=>Gf (os:=r) (x:=x) (j:=j) (by simpa [fH] using h)
 | .row e0 t0 :: r,x,0,_,h=>by simp only [fH,List.getElem?_cons_zero,Option.some.injEq] at h; subst h; rfl
 | .row e0 t0 :: r,x,j+1,o,h=>Gf (os:=r) (x:=x.2) (j:=j) (by simpa [fH] using h)
theorem Zr {β:Nat->Pl} {w:World} {N:Nat->Nat->Prop}:∀ {vs:List V} {us:List Value} {ss:List (Sum L (List L))},Tq vs=some ss->aJ (fun v u=>V.Rel β w N v u) vs us->aJ (fG β w N) ss us
 | [],[],ss,h,_=>by simp only [Tq,Option.some.injEq] at h; subst h; trivial
 | v :: vs,u :: us,ss,h,hr=>by
  simp only [Tq] at h
  split at h
  ·rename_i s ss' h1 h2
   simp only [Option.some.injEq] at h
   subst h
   exact ⟨V.Xo h1 hr.1,Zr h2 hr.2⟩
  ·cases h
 | [],_ :: _,_,_,hr=>hr.elim
 | _ :: _,[],_,_,hr=>hr.elim
theorem zSt {β:Nat->Pl} {w:World} {N:Nat->Nat->Prop} {vs:List V} {us:List Value} (hr:aJ (fun v u=>V.Rel β w N v u) vs us):(zSs vs).Rel β w N (jN us):=by
 unfold zSs
 split
 ·rename_i ss h
  exact zDv (Zr h hr)
 ·trivial
theorem zJa {α γ:Type} {R:α->γ->Prop}:∀ {x:List α} {y:List γ},x.length=y.length->(∀ (i:Nat) (a:α) (b:γ),x[i]?=some a->y[i]?=some b->R a b)->aJ R x y
 | [],[],_,_=>trivial
 | a :: x,b :: y,hl,h=>⟨h 0 a b rfl rfl,zJa (by simpa using hl) fun i c d hc hd=>h (i+1) c d (by simpa using hc) (by simpa using hd)⟩
 | [],_ :: _,hl,_=>by simp at hl
 | _ :: _,[],hl,_=>by simp at hl
end Go.Dec
namespace Go.Dec
section
variable {P:Program} {f:FuncId} {si so:Sh} {F:si.X->Option so.X}
theorem zHu {ρ:List Nat} {h:List Ob} (hc:zDw ρ h si so=true):nodupB ρ=true∧(∀ i ∈ ρ,i < h.length)∧ρ.length=si.os.length∧(∀ (j:Nat) (o:Ob),(inH ρ h)[j]?=some o->o.wr=true)∧uX (inH ρ h) so.os=true:=by
 simp only [zDw,Bool.and_eq_true] at hc
 obtain ⟨h1,h2,h3,h4,h5⟩:=hc
 refine ⟨h1,fun i hi=>?_,Nat.eq_of_beq_eq_true h3,fun j o ho=>nN h4 j o ho,h5⟩
 obtain ⟨n,hn⟩:=List.getElem?_of_mem hi
 exact Nat.le_of_ble_eq_true (nN h2 n i hn)
def qX:Ob->Bool
 | .box .. => true
 | .arr .. => false
 | .fm _=>true
def Ba (β:Nat->Pl) (h:List Ob) (i:Nat):Option Nat:=match qX (Fq h i) with | true=>(β i).blk | false=>none
def inC (C:Ctx) (β:Nat->Pl) (h:List Ob) (w:World) (ρ:List Nat) (hs:bM C β h w):Ctx where
 P:=C.P
 N0 b j:=C.N β h b j∧∀ i ∈ ρ,∀ o,h[i]?=some o->¬ o.blks (β i) b
 w0:=w
 zA b j:=∃ (i:Nat) (o:Ob),i ∈ ρ∧h[i]?=some o∧o.wr=true∧o.at (β i) b j
 glob w' hw:=C.glob w' (hs.frame.wD hw fun b j hb hm=>by
  obtain ⟨i,o,_,ho,hwo,hbk⟩:=hm
  rcases (hs.dV i o b ho ⟨j,hbk⟩).2.2 with h1 | h1
  ·omega
  ·exact h1 j hwo hbk)
 fix:=ρ.map (Ba β h)
theorem yBi {C:Ctx} {β:Nat->Pl} {w:World} {h:List Ob} {ρ:List Nat} {vs:List V} {xs:List Value} (hs:bM C β h w) (ha:jZ β w (C.N β h) vs xs) (hnd:nodupB ρ=true) (hlt:∀ i ∈ ρ,i < h.length) :
  Sim (inC C β h w ρ hs) (uV β ρ) ⟨vs.map (V.ren ρ h),inH ρ h⟩ { tmps:=xs.toArray,defers:=[] } w:=by
 have zDj:=zDi hs hlt
 have hget:∀ i ∈ ρ,∃ o,h[i]?=some o:=fun i hi=>⟨h[i]'(hlt i hi),by simp [hlt i hi]⟩
 have hβ:∀ {j i:Nat},ρ[j]?=some i->uV β ρ j={ β i with ver:=0 }:=fun hi=>by simp only [uV,hi]
 have hNw:∀ b j,C.N β h b j->b < w.heap.size:=fun b j hb=>by
  rcases hb with hb | ⟨id,o,ho,_,hbk⟩
  ·exact Nat.lt_of_lt_of_le (hs.n0 b j hb) hs.size
  ·exact (hs.dV id o b ho ⟨j,hbk⟩).2.1
 have hN:∀ b j,b < w.heap.size->(inC C β h w ρ hs).N (uV β ρ) (inH ρ h) b j->C.N β h b j:=fun b k _ hb=>by
  rcases hb with hb | ⟨j,o,ho,hw,hbk⟩
  ·exact hb.1
  ·obtain ⟨i,hi,rfl⟩:=mY ho
   obtain ⟨o',ho'⟩:=hget i (List.mem_of_getElem? hi)
   rw [dD ho',Ob.Kc] at hw
   rw [dD ho',hβ hi] at hbk
   exact .inr ⟨i,o',ho',hw,Ob.oO (Ob.mD ρ h o') rfl rfl hbk⟩
 refine ⟨⟨?_,?_,?_,?_,fun b j hb=>hNw b j hb.1,Keep.refl _ _,Nat.le_refl _,rfl,rfl,rfl,?_⟩,rfl,by simpa using aJ.length ha,?_⟩
 ·intro j o ho
  obtain ⟨i,hi,rfl⟩:=mY ho
  obtain ⟨o',ho'⟩:=hget i (List.mem_of_getElem? hi)
  rw [dD ho',hβ hi]
  have hob:=hs.obj i o' ho'
  cases o' with
  | box e ls =>
   simp only [Ob.ren,Ob.Rel] at *
   obtain ⟨h1,h2,b,cs,h3,h4,h5⟩:=hob
   exact ⟨h1,h2,b,cs,h3,h4.sZ zDj hN,h5⟩
  | arr e t v rows wr =>
   simp only [Ob.ren,Ob.Rel] at *
   obtain ⟨h1,h2,h3,h4,h5,h6,h7⟩:=hob
   refine ⟨h1,h2,trivial,h4,h5,h6,?_⟩
   rcases h7 with h7 | ⟨b,cur,css,k1,k2,k3,k4⟩
   ·exact .inl h7
   ·exact .inr ⟨b,cur,css,k1,k2,k3.mono fun _ _ h=>h.mono (Keep.refl _ w) hN,k4⟩
  | fm tab=>simp only [Ob.ren,Ob.Rel] at *; exact hob
 ·intro j hj
  simp only [inH,List.length_map] at hj
  simp only [uV,List.getElem?_eq_none hj]
 ·intro i j o1 o2 b h1 h2 hb1 hb2
  obtain ⟨i',hi,rfl⟩:=mY h1
  obtain ⟨j',hj,rfl⟩:=mY h2
  obtain ⟨o1',ho1⟩:=hget i' (List.mem_of_getElem? hi)
  obtain ⟨o2',ho2⟩:=hget j' (List.mem_of_getElem? hj)
  rw [hβ hi,dD ho1] at hb1
  rw [hβ hj,dD ho2] at hb2
  have:=hs.jJ i' j' o1' o2' b ho1 ho2 (Ob.gJ (Ob.mD ρ h o1') rfl rfl hb1) (Ob.gJ (Ob.mD ρ h o2') rfl rfl hb2)
  subst this
  exact xY hnd hi hj
 ·intro j o b ho hb
  obtain ⟨i,hi,rfl⟩:=mY ho
  obtain ⟨o',ho'⟩:=hget i (List.mem_of_getElem? hi)
  rw [dD ho',hβ hi] at hb ⊢
  have hb':=Ob.gJ (o':=o') (p':=β i) (Ob.mD ρ h o') rfl rfl hb
  exact ⟨fun k hn=>hn.2 i (List.mem_of_getElem? hi) o' ho' hb',(hs.dV i o' b ho' hb').2.1,.inr fun k hw hk=>⟨i,o',List.mem_of_getElem? hi,ho',by rw [Ob.Kc] at hw; exact hw,Ob.oO (Ob.mD ρ h o') rfl rfl hk⟩⟩
 ·intro j o hj
  simp only [inC,List.getElem?_map,Option.map_eq_some_iff] at hj
  obtain ⟨i,hi,rfl⟩:=hj
  refine ⟨by simpa [inH] using (List.getElem?_eq_some_iff.1 hi).1,fun b hb=>?_⟩
  obtain ⟨o',ho'⟩:=hget i (List.mem_of_getElem? hi)
  have hob:=hs.obj i o' ho'
  rw [hβ hi]
  unfold Ba at hb
  rw [dD ho'] at hb
  cases o' with
  | box e ls =>
   simp only [Ob.Rel] at hob
   exact ⟨hb,hob.2.1⟩
  | arr e t v rows wr=>cases hb
  | fm tab =>
   simp only [Ob.Rel] at hob
   exact ⟨hb,hob.2.1⟩
 ·intro i v hv
  simp only [List.getElem?_map,Option.map_eq_some_iff] at hv
  obtain ⟨v0,hv0,rfl⟩:=hv
  have hl:i < xs.length:=by rw [<- aJ.length ha]; exact (List.getElem?_eq_some_iff.1 hv0).1
  have hr:=ha.get i (List.getElem?_eq_some_iff.1 hv0).1 hl
  have e:vs[i]'(List.getElem?_eq_some_iff.1 hv0).1=v0:=(List.getElem?_eq_some_iff.1 hv0).2
  rw [e] at hr
  have e2:(xs.toArray).getD i undef=xs[i]:=by simp [hl]
  simp only [e2]
  exact hr.sZ zDj hN
def gM (β β':Nat->Pl) (ρ:List Nat) (h:List Ob):Nat->Pl:=fun i =>
 match pos i ρ 0 with
 | some j=>match qX (Fq h i) with
  | true=>β i
  | false=>{ β' j with ver:=(β' j).ver+jP ρ h j }
 | none=>if i < h.length then β i else β' (i - h.length+ρ.length)
theorem Cg {ρ:List Nat} {h hy:List Ob} (hk:ρ.length <= hy.length) {id:Nat} {o:Ob} (ho:(kC ρ h hy)[id]?=some o) :
  (id < h.length∧pos id ρ 0=none∧h[id]?=some o)∨(∃ j ob oy,id < h.length∧ρ[j]?=some id∧pos id ρ 0=some j∧h[id]?=some ob∧hy[j]?=some oy∧o=oy.back (iZ ρ h.length) (jP ρ h) j) ∨
   ∃ j oy,ρ.length <= j∧id=h.length+(j - ρ.length)∧hy[j]?=some oy∧o=oy.back (iZ ρ h.length) (jP ρ h) j:=by
 unfold kC at ho
 by_cases hid:id < h.length
 ·rw [List.getElem?_append_left (by rw [qK]; exact hid),zDx,Nat.zero_add] at ho
  obtain ⟨ob,hob⟩:∃ ob,h[id]?=some ob:=⟨h[id],by simp [hid]⟩
  rw [hob] at ho
  simp only [Option.map_some,Option.some.injEq] at ho
  cases hp:pos id ρ 0 with
  | none =>
   rw [hp] at ho
   simp only at ho
   exact .inl ⟨hid,rfl,by rw [hob,ho]⟩
  | some j =>
   obtain ⟨m,hm,hi⟩:=uR hp
   rw [Nat.zero_add] at hm
   subst hm
   have hj:j < hy.length:=Nat.lt_of_lt_of_le (List.getElem?_eq_some_iff.1 hi).1 hk
   have hyj:hy[j]?=some hy[j]:=by simp [hj]
   rw [hp] at ho
   simp only [hyj] at ho
   exact .inr (.inl ⟨j,ob,hy[j],hid,hi,rfl,hob,hyj,ho.symm⟩)
 ·rw [List.getElem?_append_right (by rw [qK]; omega),qK,Kj,List.getElem?_drop] at ho
  simp only [Option.map_eq_some_iff] at ho
  obtain ⟨oy,h1,h2⟩:=ho
  exact .inr (.inr ⟨ρ.length+(id - h.length),oy,by omega,by omega,h1,h2.symm⟩)
theorem Dj {ρ:List Nat} {h hy:List Ob}:(kC ρ h hy).length=h.length+(hy.length - ρ.length):=by
 simp [kC,qK,Ay]
theorem zSu {C:Ctx} {β:Nat->Pl} {h:List Ob} {w w':World} {ρ:List Nat} (hs:bM C β h w) (hnd:nodupB ρ=true) (hlt:∀ i ∈ ρ,i < h.length) (hwr:∀ (j:Nat) (o:Ob),(inH ρ h)[j]?=some o->o.wr=true) (zDy:uX (inH ρ h) so.os=true)
  {y:so.X} {us:List Value} {β':Nat->Pl} (hs':Sim (inC C β h w ρ hs) β' (so.enc y) { tmps:=us.toArray,defers:=[] } w') :
  ∃ β2,Moves β β2∧Keep (C.N β h) w w'∧(∀ b j,b < w.heap.size->C.N β2 (kC ρ h (so.enc y).h) b j->C.N β h b j)∧bM C β2 (kC ρ h (so.enc y).h) w' ∧
   aJ (fun v u=>V.Rel β2 w' (C.N β2 (kC ρ h (so.enc y).h)) v u) ((so.enc y).r.map (V.back (iZ ρ h.length) (jP ρ h))) us:=by
 generalize hhy:(so.enc y).h=hy at *
 have hget:∀ i ∈ ρ,∃ o,h[i]?=some o:=fun i hi=>⟨h[i]'(hlt i hi),by simp [hlt i hi]⟩
 have hfix:∀ {j i:Nat},ρ[j]?=some i->j < hy.length∧∀ b,Ba β h i=some b->(β' j).blk=some b∧(β' j).box=true:=fun {j i} hi=>by
  have:=hs'.heap.fixed j (Ba β h i) (by simp [inC,hi])
  rw [hhy] at this
  exact this
 have hk:ρ.length <= hy.length:=by
  rcases Nat.lt_or_ge hy.length ρ.length with h1 | h1
  ·have:=(hfix (j:=hy.length) (i:=ρ[hy.length]) (by simp [h1])).1
   omega
  ·exact h1
 have yIi:∀ i ∈ ρ,∀ o,h[i]?=some o->o.wr=true:=fun i hi o ho=>by
  obtain ⟨n,hn⟩:=List.getElem?_of_mem hi
  have:=hwr n ((Fq h i).ren ρ h) (by simp [inH,hn])
  rw [Ob.Kc,dD ho] at this
  exact this
 have hrow:∀ {j i:Nat} {o:Ob},ρ[j]?=some i->h[i]?=some o->qX o=false->∃ oy,hy[j]?=some oy∧qX oy=false:=fun {j i o} hi ho hb=>by
  cases o with
  | box e ls=>cases hb
  | fm tab=>cases hb
  | arr e t u rows wr =>
   obtain ⟨e',t',hrw⟩:=vU (j:=j) (e:=e) (t:=t) (u:=0) (rows:=rows) (wr:=wr) zDy (by simp [inH,hi,dD ho,Ob.ren])
   obtain ⟨rows',hr'⟩:=Az (A:=Unit) (x:=(Ar so.rs (List.replicate so.n .aU) y).2) hrw
   exact ⟨_,by rw [<- hhy]; exact hr',rfl⟩
 have Xp:=hs'.heap.obj
 rw [hhy] at Xp
 have zPg:∀ j,hy.length <= j->(β' j).live=false:=fun j hj=>hs'.heap.dead j (by rw [hhy]; exact hj)
 have Dk:=hs'.heap.dV
 rw [hhy] at Dk
 have zJb:=hs'.heap.jJ
 rw [hhy] at zJb
 have zLh:∀ {j i:Nat} {o:Ob},ρ[j]?=some i->h[i]?=some o->qX o=true->(β' j).box=true∧(β' j).blk=(β i).blk∧(β i).box=true∧(β i).live=true∧(β' j).live=true:=fun {j i o} hi ho hb=>by
  have hob:=hs.obj i o ho
  obtain ⟨hj,hfx⟩:=hfix hi
  cases o with
  | arr=>cases hb
  | fm tab =>
   simp only [Ob.Rel] at hob
   obtain ⟨k1,k2,b,es,n,k3,_⟩:=hob
   have hfo:Ba β h i=some b:=by simp only [Ba,dD ho,qX,k3]
   obtain ⟨g1,g2⟩:=hfx b hfo
   exact ⟨g2,by rw [g1,k3],k2,k1,(Xp j hy[j] (by simp [hj])).live⟩
  | box e ls =>
   simp only [Ob.Rel] at hob
   obtain ⟨k1,k2,b,cs,k3,_⟩:=hob
   have hfo:Ba β h i=some b:=by simp only [Ba,dD ho,qX,k3]
   obtain ⟨g1,g2⟩:=hfx b hfo
   exact ⟨g2,by rw [g1,k3],k2,k1,(Xp j hy[j] (by simp [hj])).live⟩
 have zSv:∀ {j i:Nat} {o:Ob},ρ[j]?=some i->h[i]?=some o->qX o=true->gM β β' ρ h i=β i:=fun hi ho hb=>by
  simp only [gM,zIt hnd hi,dD ho,hb]
 have zSw:∀ {j i:Nat} {o:Ob},ρ[j]?=some i->h[i]?=some o->qX o=false->gM β β' ρ h i={ β' j with ver:=(β' j).ver+jP ρ h j }:=fun hi ho hb=>by
  simp only [gM,zIt hnd hi,dD ho,hb]
 have zLi:∀ {i:Nat},pos i ρ 0=none->i < h.length->gM β β' ρ h i=β i:=fun hp hi=>by
  simp only [gM,hp,if_pos hi]
 have zWy:∀ {i:Nat},h.length <= i->pos i ρ 0=none:=fun {i} hi=>by
  cases hp:pos i ρ 0 with
  | none=>rfl
  | some j =>
   obtain ⟨m,_,hm⟩:=uR hp
   have:=hlt i (List.mem_of_getElem? hm)
   omega
 have yBj:∀ {j:Nat},ρ.length <= j->gM β β' ρ h (h.length+(j - ρ.length))=β' j:=fun {j} hj=>by
  simp only [gM,zWy (Nat.le_add_right _ _)]
  rw [if_neg (by omega)]
  congr 1
  omega
 have eF:∀ {j i:Nat},ρ[j]?=some i->iZ ρ h.length j=i:=fun hi=>by simp only [iZ,hi]
 have eF2:∀ {j:Nat},ρ.length <= j->iZ ρ h.length j=h.length+(j - ρ.length):=fun hj=>by simp only [iZ,List.getElem?_eq_none hj]
 have eU2:∀ {j:Nat},ρ.length <= j->jP ρ h j=0:=fun hj=>by simp only [jP,List.getElem?_eq_none hj]
 have hpl:∀ j,(β' j).live=true->Ki (β' j) (gM β β' ρ h (iZ ρ h.length j)) (jP ρ h j):=fun j hl=>by
  have hj:j < hy.length:=by
   rcases Nat.lt_or_ge j hy.length with h1 | h1
   ·exact h1
   ·rw [zPg j h1] at hl; cases hl
  cases hi:ρ[j]? with
  | some i =>
   rw [eF hi]
   obtain ⟨o,ho⟩:=hget i (List.mem_of_getElem? hi)
   cases hb:qX o with
   | true =>
    obtain ⟨g1,g2,g3,g4,g5⟩:=zLh hi ho hb
    rw [zSv hi ho hb]
    exact ⟨by rw [g4,hl],by rw [g3,g1],g2.symm,fun h=>by rw [g1] at h; cases h⟩
   | false =>
    rw [zSw hi ho hb]
    exact ⟨rfl,rfl,rfl,fun _=>⟨rfl,rfl,rfl,rfl⟩⟩
  | none =>
   have hge:ρ.length <= j:=List.getElem?_eq_none_iff.1 hi
   rw [eF2 hge,yBj hge,eU2 hge]
   exact ⟨rfl,rfl,rfl,fun _=>⟨rfl,rfl,rfl,rfl⟩⟩
 have hown:∀ {b k:Nat},(inC C β h w ρ hs).zA b k->∃ (i:Nat) (o:Ob),i ∈ ρ∧h[i]?=some o∧o.wr=true∧o.at (β i) b k:=fun {b k} hb=>hb
 have hkeep:Keep (C.N β h) w w':=hs'.heap.frame.weaken fun k j ho=>by
  obtain ⟨i,o,_,h2,h3,h4⟩:=hown ho
  exact .inr ⟨i,o,h2,h3,h4⟩
 have hat:∀ {id j:Nat} {ob oy:Ob},ρ[j]?=some id->h[id]?=some ob->hy[j]?=some oy->∀ b k,(oy.back (iZ ρ h.length) (jP ρ h) j).at (gM β β' ρ h id) b k->oy.at (β' j) b k:=fun {id j ob oy} hi hob hoy b k hbk=>by
  cases hb2:qX ob with
  | true =>
   have hp:oy.iV=false:=(Xp j oy hoy).zRm (zLh hi hob hb2).1
   rw [zSv hi hob hb2] at hbk
   have:=Ob.Qg (by simp [Ob.plain,Ob.Kk,hp]) hbk
   exact Ob.lF (by rw [(zLh hi hob hb2).2.1]; exact this)
  | false =>
   rw [zSw hi hob hb2] at hbk
   exact Ob.oO (Ob.Kk oy) rfl rfl hbk
 have zSx:∀ {j:Nat} {oy:Ob},ρ.length <= j->∀ b k,(oy.back (iZ ρ h.length) (jP ρ h) j).at (gM β β' ρ h (h.length+(j - ρ.length))) b k->oy.at (β' j) b k:=fun {j oy} hj b k hbk=>by
  rw [yBj hj] at hbk
  exact Ob.oO (Ob.Kk oy) rfl rfl hbk
 have zDz:Moves β (gM β β' ρ h):=fun id hl=>by
  have hid:id < h.length:=by
   rcases Nat.lt_or_ge id h.length with h1 | h1
   ·exact h1
   ·rw [hs.dead id h1] at hl; cases hl
  cases hp:pos id ρ 0 with
  | none=>exact .inl (zLi hp hid)
  | some j =>
   obtain ⟨m,hm,hi⟩:=uR hp
   rw [Nat.zero_add] at hm
   subst hm
   obtain ⟨o,ho⟩:=hget id (List.mem_of_getElem? hi)
   cases hb:qX o with
   | true=>exact .inl (zSv hi ho hb)
   | false =>
    obtain ⟨oy,hoy,hby⟩:=hrow hi ho hb
    have hY:=Xp j oy hoy
    have hO:=hs.obj id o ho
    rw [zSw hi ho hb]
    cases o with
    | box=>cases hb
    | fm=>cases hb
    | arr e t u rows wr =>
     cases oy with
     | box=>cases hby
     | fm=>cases hby
     | arr e' t' u' rows' wr' =>
      simp only [Ob.Rel] at hY hO
      refine .inr ⟨hO.2.1,hY.1,hY.2.1,?_⟩
      simp only [jP,hi,ho]
      have:=hO.2.2.1
      omega
 have hbl:∀ {b k:Nat},b < w.heap.size->w.heap.size <= b∨(inC C β h w ρ hs).zA b k->C.N β h b k:=fun {b k} hb ho=>by
  rcases ho with ho | ho
  ·omega
  ·obtain ⟨i,o,_,h2,h3,h4⟩:=hown ho
   exact .inr ⟨i,o,h2,h3,h4⟩
 have zWz:∀ b j,b < w.heap.size->C.N (gM β β' ρ h) (kC ρ h hy) b j->C.N β h b j:=fun b k hb hn=>by
  rcases hn with hn | ⟨id,o,ho,hw,hbk⟩
  ·exact .inl hn
  ·rcases Cg hk ho with ⟨hid,hp,ho⟩ | ⟨j,ob,oy,hid,hi,hp,hob,hoy,rfl⟩ | ⟨j,oy,hj,rfl,hoy,rfl⟩
   ·rw [zLi hp hid] at hbk
    exact .inr ⟨id,o,ho,hw,hbk⟩
   ·rw [Ob.uY] at hw
    have hbk:=hat hi hob hoy b k hbk
    exact hbl hb ((Dk j oy b hoy ⟨k,hbk⟩).2.2.imp (fun h=>h) fun h=>h k hw hbk)
   ·rw [Ob.uY] at hw
    have hbk:=zSx hj b k hbk
    exact hbl hb ((Dk j oy b hoy ⟨k,hbk⟩).2.2.imp (fun h=>h) fun h=>h k hw hbk)
 have zXa:∀ b j,b < w'.heap.size->C.N (gM β β' ρ h) (kC ρ h hy) b j->(inC C β h w ρ hs).N β' (so.enc y).h b j:=fun b k _ hn=>by
  rw [hhy]
  rcases hn with hn | ⟨id,o,ho,hw,hbk⟩
  ·exact .inl ⟨.inl hn,fun i hi o ho hbk=>(hs.dV i o b ho hbk).1 k hn⟩
  ·rcases Cg hk ho with ⟨hid,hp,ho⟩ | ⟨j,ob,oy,hid,hi,hp,hob,hoy,rfl⟩ | ⟨j,oy,hj,rfl,hoy,rfl⟩
   ·rw [zLi hp hid] at hbk
    refine .inl ⟨.inr ⟨id,o,ho,hw,hbk⟩,fun i hi oi hoi hbi=>?_⟩
    have:=hs.jJ id i o oi b ho hoi ⟨k,hbk⟩ hbi
    subst this
    exact zM hp hi
   ·rw [Ob.uY] at hw
    exact .inr ⟨j,oy,hoy,hw,hat hi hob hoy b k hbk⟩
   ·rw [Ob.uY] at hw
    exact .inr ⟨j,oy,hoy,hw,zSx hj b k hbk⟩
 have Xi:∀ {id:Nat} {o:Ob} {b:Nat},pos id ρ 0=none->h[id]?=some o->o.blks (β id) b->b < w.heap.size∧∀ k,¬ (inC C β h w ρ hs).zA b k:=fun {id o b} hp ho hb=>by
  refine ⟨(hs.dV id o b ho hb).2.1,fun k hw=>?_⟩
  obtain ⟨i,oi,h1,h2,_,h4⟩:=hown hw
  have:=hs.jJ id i o oi b ho h2 hb ⟨k,h4⟩
  subst this
  exact zM hp h1
 have hcls:∀ {id:Nat} {o:Ob},(kC ρ h hy)[id]?=some o->(pos id ρ 0=none∧h[id]?=some o∧gM β β' ρ h id=β id)∨∃ j oy,hy[j]?=some oy∧id=iZ ρ h.length j∧o=oy.back (iZ ρ h.length) (jP ρ h) j∧∀ b k,o.at (gM β β' ρ h id) b k->oy.at (β' j) b k:=fun {id o} ho=>by
  rcases Cg hk ho with ⟨hid,hp,ho⟩ | ⟨j,ob,oy,hid,hi,hp,hob,hoy,rfl⟩ | ⟨j,oy,hj,rfl,hoy,rfl⟩
  ·exact .inl ⟨hp,ho,zLi hp hid⟩
  ·exact .inr ⟨j,oy,hoy,(eF hi).symm,rfl,hat hi hob hoy⟩
  ·exact .inr ⟨j,oy,hoy,(eF2 hj).symm,rfl,zSx hj⟩
 have yBk:∀ {j:Nat} {oy:Ob},hy[j]?=some oy->(oy.back (iZ ρ h.length) (jP ρ h) j).wr=true:=fun {j oy} hoy=>by
  rw [Ob.uY,<- hhy] at *
  exact Gf hoy
 have yBl:∀ {j id:Nat} {oy:Ob} {b:Nat},hy[j]?=some oy->(∀ b k,(oy.back (iZ ρ h.length) (jP ρ h) j).at (gM β β' ρ h id) b k->oy.at (β' j) b k)->(oy.back (iZ ρ h.length) (jP ρ h) j).blks (gM β β' ρ h id) b->b < w.heap.size->(∀ k,¬ (inC C β h w ρ hs).zA b k)->False:=fun {j id oy b} hoy eb hb g1 g2=>by
  obtain ⟨q,hb⟩:=hb
  rcases (Dk j oy b hoy ⟨q,eb b q hb⟩).2.2 with h3 | h3
  ·have h3:w.heap.size <= b:=h3
   omega
  ·have hw:=yBk hoy
   rw [Ob.uY] at hw
   exact g2 q (h3 q hw (eb b q hb))
 have hHS:bM C (gM β β' ρ h) (kC ρ h hy) w':=by
  refine ⟨?_,?_,?_,?_,hs.n0,?_,Nat.le_trans hs.size hs'.heap.size,hs'.heap.os.trans hs.os,hs'.heap.tape.trans hs.tape,hs'.heap.output.trans hs.output,?_⟩
  ·intro id o ho
   rcases hcls ho with ⟨hp,ho,eb⟩ | ⟨j,oy,hoy,rfl,rfl,_⟩
   ·rw [eb]
    exact (hs.obj id o ho).mono zDz hkeep zWz fun b hb=>hs'.heap.frame.block b (Xi hp ho hb).1 (Xi hp ho hb).2
   ·have hY:=Xp j oy hoy
    rw [<- hhy] at hY
    exact Ob.Rel.back (f:=iZ ρ h.length) (v:=jP ρ h) hpl zXa hY
  ·intro id hid
   rw [Dj] at hid
   have hp:=zWy (i:=id) (by omega)
   simp only [gM,hp]
   rw [if_neg (by omega)]
   exact zPg _ (by omega)
  ·intro i j o1 o2 b h1 h2 hb1 hb2
   rcases hcls h1 with ⟨hp1,ho1,eb1⟩ | ⟨j1,oy1,yBm,rfl,rfl,eb1⟩ <;> rcases hcls h2 with ⟨hp2,ho2,eb2⟩ | ⟨j2,oy2,yBn,rfl,rfl,eb2⟩
   ·rw [eb1] at hb1
    rw [eb2] at hb2
    exact hs.jJ i j o1 o2 b ho1 ho2 hb1 hb2
   ·exfalso
    rw [eb1] at hb1
    obtain ⟨g1,g2⟩:=Xi hp1 ho1 hb1
    exact yBl yBn eb2 hb2 g1 g2
   ·exfalso
    rw [eb2] at hb2
    obtain ⟨g1,g2⟩:=Xi hp2 ho2 hb2
    exact yBl yBm eb1 hb1 g1 g2
   ·obtain ⟨q1,hb1⟩:=hb1
    obtain ⟨q2,hb2⟩:=hb2
    rw [zJb j1 j2 oy1 oy2 b yBm yBn ⟨q1,eb1 b q1 hb1⟩ ⟨q2,eb2 b q2 hb2⟩]
  ·intro id o b ho hb
   rcases hcls ho with ⟨hp,ho,eb⟩ | ⟨j,oy,hoy,rfl,rfl,eb⟩
   ·rw [eb] at hb ⊢
    obtain ⟨k1,k2,k3⟩:=hs.dV id o b ho hb
    exact ⟨k1,Nat.lt_of_lt_of_le k2 hs'.heap.size,k3⟩
   ·obtain ⟨q,hb⟩:=hb
    obtain ⟨k1,k2,k3⟩:=Dk j oy b hoy ⟨q,eb b q hb⟩
    rcases Nat.lt_or_ge b w.heap.size with hlt | hge
    ·have hold:∀ k,(oy.back (iZ ρ h.length) (jP ρ h) j).wr=true->(oy.back (iZ ρ h.length) (jP ρ h) j).at (gM β β' ρ h (iZ ρ h.length j)) b k->∃ (i:Nat) (o:Ob),i ∈ ρ∧h[i]?=some o∧o.wr=true∧o.at (β i) b k:=fun k hw hk=>by
      rw [Ob.uY] at hw
      rcases k3 with k3 | k3
      ·have k3:w.heap.size <= b:=k3
       omega
      ·exact hown (k3 k hw (eb b k hk))
     have hwy:(oy.back (iZ ρ h.length) (jP ρ h) j).wr=true:=yBk hoy
     obtain ⟨i,oi,h1,h2,h3,h4⟩:=hold q hwy hb
     obtain ⟨g1,g2,g3⟩:=hs.dV i oi b h2 ⟨q,h4⟩
     refine ⟨g1,k2,?_⟩
     rcases g3 with g3 | g3
     ·exact .inl g3
     ·right
      intro k hw hk
      obtain ⟨i2,oi2,f1,f2,f3,f4⟩:=hold k hw hk
      rcases (hs.dV i2 oi2 b f2 ⟨k,f4⟩).2.2 with g5 | g5
      ·have:=hs.jJ i i2 oi oi2 b h2 f2 ⟨q,h4⟩ ⟨k,f4⟩
       subst this
       rw [h2] at f2
       simp only [Option.some.injEq] at f2
       subst f2
       exact g3 k f3 f4
      ·exact g5 k f3 f4
    ·have h0:=hs.size
     exact ⟨fun _ hn=>by have:=hs.n0 b _ hn; omega,k2,.inl (by omega)⟩
  ·refine hs.frame.wD hs'.heap.frame fun b j hb ho=>?_
   obtain ⟨i,oi,h1,h2,h3,h4⟩:=hown ho
   rcases (hs.dV i oi b h2 ⟨j,h4⟩).2.2 with h5 | h5
   ·omega
   ·exact h5 j h3 h4
  ·intro j o hj
   obtain ⟨k1,k2⟩:=hs.fixed j o hj
   refine ⟨by rw [Dj]; omega,fun b hb=>?_⟩
   obtain ⟨k3,k4⟩:=k2 b hb
   have hoj:h[j]?=some h[j]:=by simp [k1]
   rcases zDz j (hs.obj j _ hoj).live with e | ⟨e,_⟩
   ·rw [e]; exact ⟨k3,k4⟩
   ·rw [k4] at e; cases e
 refine ⟨gM β β' ρ h,zDz,hkeep,zWz,hHS,?_⟩
 refine zJa (by have:=hs'.size; simpa using this) fun i v u hv hu=>?_
 simp only [List.getElem?_map,Option.map_eq_some_iff] at hv
 obtain ⟨v0,hv0,rfl⟩:=hv
 have hr:=hs'.reg i v0 hv0
 have e:(us.toArray).getD i undef=u:=by
  rw [Array.getD_eq_getD_getElem?]
  simp [hu]
 simp only [e] at hr
 exact hr.back (f:=iZ ρ h.length) (v:=jP ρ h) hpl zXa
theorem dH (hM:gB P f si so F):(peM si so F).OK P f:=by
 refine ⟨hM.1,fun vs h y hr C β w xs hP hs ha=>?_,fun h=>(by cases h),fun h=>(by cases h)⟩
 subst hP
 simp only [peM] at hr
 split at hr
 case h_2=>cases hr
 rename_i x hx
 simp only [Option.some.injEq,Prod.mk.injEq] at hr
 obtain ⟨hok,hF⟩:=hr
 obtain ⟨hnd,hlt,hlen,hwr,zDy⟩:=zHu hok
 have Xd:=zIv hx (yBi hs ha hnd hlt)
 refine (hM.2 x y hF (inC C β h w _ hs) _ w xs rfl (by simp [inC,hlen]) Xd).mono ?_
 rintro e w' ⟨us,β',rfl,hs'⟩
 obtain ⟨β2,h1,h2,h3,h4,h5⟩:=zSu hs hnd hlt hwr zDy hs'
 exact ⟨_,_,β2,⟨rfl,rfl⟩,h1,h2,h3,h4,_,rfl,zSt h5⟩
end
end Go.Dec
namespace Go.Dec
section
variable {T:Tab} {C:Ctx} {β:Nat->Pl} {w:World}
def Qr (T:Tab) (σ:St):ResultVar->Option (Bool × V)
 | .tmp t=>some (true,σ.r.getD t .aU)
 | .cell t ty =>
  match σ.r.getD t .aU with
  | .one l=>loadAt T σ.h ty l
  | _=>none
def jA (T:Tab) (σ:St):List ResultVar->Option (Bool × List V)
 | []=>some (true,[])
 | x :: r =>
  match Qr T σ x,jA T σ r with
  | some (c,l),some (d,ls)=>some (c && d,l :: ls)
  | _,_=>none
theorem zSy {σ:St} {a:Act} {rv:ResultVar} {v:V} (hT:aV C.P T) (hs:Sim C β σ a w) (h:Qr T σ rv=some (true,v)) :
  ∃ x,(mF a.tmps rv).run C.P w=.ok x w∧v.Rel β w (C.N β σ.h) x:=by
 cases rv with
 | tmp t =>
  simp only [Qr,Option.some.injEq,Prod.mk.injEq,true_and] at h
  subst h
  exact ⟨a.tmps.getD t undef,rfl,Gc hs t⟩
 | cell t ty =>
  simp only [Qr] at h
  have hr:=Gc hs t
  split at h
  ·rename_i l hl
   rw [hl] at hr
   obtain ⟨y,h1,h2⟩:=xO hT h hs.heap hr
   obtain ⟨ad,h3,h4⟩:=Cc h1
   refine ⟨y,?_,h2⟩
   simp only [mF,h3,asAddr,Sem.run_bind,Sem.run_pure,Result.andThen_ok,h4]
  ·cases h
theorem Zt {σ:St} {a:Act} (hT:aV C.P T) (hs:Sim C β σ a w):∀ {rs:List ResultVar} {vs:List V},jA T σ rs=some (true,vs) ->
  ∀ acc:Array Value,∃ us:List Value,(rs.foldlM (fun (acc:Array Value) rv=>do let v <- mF a.tmps rv; pure (acc.push v)) acc).run C.P w=.ok (acc++us.toArray) w∧aJ (fun v u=>V.Rel β w (C.N β σ.h) v u) vs us
 | [],vs,h,acc=>by
  simp only [jA,Option.some.injEq,Prod.mk.injEq,true_and] at h
  subst h
  exact ⟨[],by simp,trivial⟩
 | rv :: rs,vs,h,acc=>by
  simp only [jA] at h
  split at h
  ·rename_i c s d r h1 h2
   simp only [Option.some.injEq,Prod.mk.injEq,Bool.and_eq_true] at h
   obtain ⟨⟨rfl,rfl⟩,rfl⟩:=h
   obtain ⟨x,g1,g2⟩:=zSy hT hs h1
   obtain ⟨us,g4,g5⟩:=Zt hT hs h2 (acc.push x)
   refine ⟨x :: us,?_,⟨g2,g5⟩⟩
   simp only [List.foldlM_cons,Sem.run_bind,g1,Result.andThen_ok,Sem.run_pure,g4]
   simp
  ·cases h
theorem zEa {σ:St} {a:Act} {fn:Func} {vs:List V} (hT:aV C.P T) (hs:Sim C β σ a w) (h:jA T σ fn.results.toList=some (true,vs)) :
  ∃ us:List Value,(results fn a.tmps).run C.P w=.ok (jN us) w∧aJ (fun v u=>V.Rel β w (C.N β σ.h) v u) vs us:=by
 obtain ⟨us,h1,h2⟩:=Zt hT hs h #[]
 refine ⟨us,?_,h2⟩
 have e0:results fn a.tmps=(do let vs <- fn.results.mapM (mF a.tmps); pure (if h:vs.size=1 then vs[0] else .tuple vs)):=by
  unfold results
  congr 1
 have hm:(fn.results.mapM (mF a.tmps):Sem (Array Value)).run C.P w=.ok us.toArray w:=by
  rw [Array.mapM_eq_foldlM,<- Array.foldlM_toList]
  have e:(fun (acc:Array Value) rv=>do let v <- mF a.tmps rv; pure (acc.push v):Array Value->ResultVar->Sem (Array Value))=(fun (acc:Array Value) rv=>acc.push <$> mF a.tmps rv):=by
   funext acc rv
   rfl
  rw [e] at h1
  simpa using h1
 rw [e0]
 simp only [Sem.run_bind,hm,Result.andThen_ok,Sem.run_pure]
 match us with
 | []=>rfl
 | [u]=>rfl
 | u :: v :: us=>simp [jN]
theorem zSz {σ:St} {a:Act} {vs:List V} {us:List Value} (hs:Sim C β σ a w) (h:aJ (fun v u=>V.Rel β w (C.N β σ.h) v u) vs us):Sim C β ⟨vs,σ.h⟩ { tmps:=us.toArray,defers:=[] } w:=by
 refine ⟨hs.heap,rfl,by simpa using h.length,fun i v hv=>?_⟩
 have hl:i < us.length:=by rw [<- h.length]; exact (List.getElem?_eq_some_iff.1 hv).1
 have hr:=h.get i (List.getElem?_eq_some_iff.1 hv).1 hl
 rw [(List.getElem?_eq_some_iff.1 hv).2] at hr
 have e2:(us.toArray).getD i undef=us[i]:=by simp [hl]
 simp only [e2]
 exact hr
def zEb (T:Tab) {ρ:Type} (res:List ResultVar) (so:Sh) (co:List Co) (σ:St) (g:so.X->Option ρ):Option ρ :=
 match jA T σ res with
 | some (c,vs)=>chk c (enter T so co ⟨vs,σ.h⟩ g)
 | none=>none
def zLj (T:Tab) (res:List ResultVar) (so:Sh) (co:List Co):K so.X:=fun e σ =>
 match e with
 | .normal=>zEb T res so co σ some
 | .ret=>zEb T res so co σ some
 | _=>none
theorem zTa {σ:St} {a:Act} {fn:Func} {so:Sh} {co:List Co} {ρ:Type} {g:so.X->Option ρ} {r:ρ} {kf:Nat} (hT:aV C.P T) (hkf:C.fix.length <= kf) (hfx:bA (Co.fx kf) co=true) (hs:Sim C β σ a w) (h:zEb T fn.results.toList so co σ g=some r) :
  ∃ (us:List Value) (β':Nat->Pl) (y:so.X),(results fn a.tmps).run C.P w=.ok (jN us) w∧Sim C β' (so.enc y) { tmps:=us.toArray,defers:=[] } w∧g y=some r:=by
 unfold zEb at h
 split at h
 ·rename_i c vs hvs
  obtain ⟨rfl,h⟩:=jM h
  obtain ⟨us,h1,h2⟩:=zEa hT hs hvs
  obtain ⟨β',_,y,h3,h4⟩:=sG hT hkf hfx h (zSz hs h2)
  exact ⟨us,β',y,h1,h3,h4⟩
 ·cases h
end
section
variable {P:Program} {T:Tab} {f:FuncId} {fn:Func} {c:Code} {si so sp:Sh}
theorem zPh {C:Ctx} {β:Nat->Pl} {w:World} {σ:St} {xs:List Value} (n:Nat) (hs:Sim C β σ { tmps:=xs.toArray,defers:=[] } w) :
  Sim C β ⟨Av σ.r n,σ.h⟩ { tmps:=xs.toArray++Array.replicate (n - xs.toArray.size) undef,defers:=[] } w:=by
 have hl:σ.r.length=xs.length:=by simpa using hs.size
 refine ⟨hs.heap,rfl,by simp [Av,hl],fun i u hu=>?_⟩
 simp only [Av] at hu
 by_cases hi:i < σ.r.length
 ·rw [List.getElem?_append_left hi] at hu
  have hr:=hs.reg i u hu
  have e:(xs.toArray++Array.replicate (n - xs.toArray.size) undef).getD i undef=(xs.toArray).getD i undef:=by
   rw [Array.getD_eq_getD_getElem?,Array.getD_eq_getD_getElem?,Array.getElem?_append_left (by simpa using by omega)]
  rw [e]
  exact hr
 ·rw [List.getElem?_append_right (by omega),List.getElem?_replicate] at hu
  split at hu
  ·simp only [Option.some.injEq] at hu; subst hu; trivial
  ·cases hu
theorem eG {F:si.X->Option so.X} {Γ:Orc so.X} {an:An so.X} {co:List Co} (hf:P.funcs[f]?=some fn) (hb:fn.body=some c) (hh:dW P f=true) (hT:aV P T) (hΓ:fV P Γ) (hm:P.follows .mixedOrders=true)
  (ha:zDn P si.os.length c an) (hfx:an.fx si.os.length=true) (hco:bA (Co.fx si.os.length) co=true)
  (h:∀ x,ev Γ T c an ⟨Av (si.enc x).r fn.ntmps,(si.enc x).h⟩ (zLj T fn.results.toList so co)=F x):gB P f si so F:=by
 refine ⟨hh,fun x y hF C β w xs hP hkf hs=>?_⟩
 rw [<- h x] at hF
 refine calls_of_wp hf hb ?_
 refine zDp (P:=P) hT hΓ hm c an ha hfx _ _ y hF C β _ w _ hP hkf (zPh fn.ntmps hs) ?_
 intro e x' σ' β' a' w' hs' hx' hk
 have fin:zEb T fn.results.toList so co σ' some=some y->x'=.ret∨x'=.normal->bodyPost P fn (fun e w'=>∃ (us:List Value) (β':Nat->Pl),e=.returned (jN us)∧Sim C β' (so.enc y) { tmps:=us.toArray,defers:=[] } w') x' a' w':=by
  intro hk hx'
  subst hP
  obtain ⟨us,β2,y',h1,h2,h3⟩:=zTa (fn:=fn) hT hkf hco hs' hk
  obtain rfl:=Option.some.inj h3
  rcases hx' with rfl | rfl
  ·exact ⟨hs'.defers,_,h1,us,β2,rfl,h2⟩
  ·exact ⟨hs'.defers,_,h1,us,β2,rfl,h2⟩
 cases e with
 | normal=>obtain rfl:=hx'; exact fin hk (.inr rfl)
 | ret=>obtain rfl:=hx'; exact fin hk (.inl rfl)
 | exit i=>simp [zLj] at hk
 | goto l=>simp [zLj] at hk
 | pan t u=>simp [zLj] at hk
structure GE (ρ:Type) where
 f:FuncId
 run:List V->List Ob->(Out->List Ob->Option ρ)->Option ρ
structure GE.OK (P:Program) {ρ:Type} (g:GE ρ):Prop where
 ok:∀ vs h k r,g.run vs h k=some r->dW P g.f=true∧xR P g.f vs h fun out h'=>k out h'=some r∧∀ id,id < h.length->id ∉ reach vs h->h'[id]?=h[id]?
def zTb {ρ:Type}:List (GE ρ)->FuncId->List V->List Ob->(Out->List Ob->Option ρ)->Option ρ
 | [],_,_,_,_=>none
 | g :: r,f,vs,h,k=>match Nat.beq g.f f with
  | true=>g.run vs h k
  | false=>zTb r f vs h k
def fC (ρ:Type) (l:List (FuncId × PE)) (m:List (GE ρ)):Orc ρ:=⟨pes l,zTb m⟩
theorem bK {ρ:Type} {l:List (FuncId × PE)} {m:List (GE ρ)} (h:∀ p ∈ l,p.2.OK P p.1) (hm:∀ g ∈ m,g.OK P):fV P (fC ρ l m):=by
 refine ⟨(yBh (ρ:=ρ) h).pure,fun f vs hp k r hr=>?_⟩
 simp only [fC] at hr
 induction m with
 | nil=>cases hr
 | cons g m ih =>
  simp only [zTb] at hr
  split at hr
  ·rename_i hb
   have:=Nat.eq_of_beq_eq_true hb
   subst this
   exact (hm g (.head _)).ok vs hp k r hr
  ·exact ih (fun g hg=>hm g (.tail _ hg)) hr
theorem bL {ρ:Type}:∀ g ∈ ([]:List (GE ρ)),g.OK P:=fun _ h=>by cases h
end
end Go.Dec
