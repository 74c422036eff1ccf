/- Part of a proof over this seat: a library of my own, and what it says of this seat. No statement is proved here. -/
import Derived.Test.YtdgneppobefaoaaGreatDoorPartAE
import Derived.Tactics
import Derived.Scope
import Derived.Orders
namespace Go.Dec
def chk {ρ:Type} (b:Bool) (r:Option ρ):Option ρ:=match b with | true=>r | false=>none
def br {ρ:Type} (b:Bool) (x y:Option ρ):Option ρ:=match b with | true=>x | false=>y
def ob {α ρ:Type} (o:Option α) (k:α->Option ρ):Option ρ:=match o with | some x=>k x | none=>none
theorem lZ {ρ:Type} {b:Bool} {x:Option ρ} {r:ρ} (h:chk b x=some r):b=true∧x=some r:=by
 cases b
 ·cases h
 ·exact ⟨rfl,h⟩
theorem zB {ρ:Type} {b:Bool} {x y:Option ρ} {r:ρ} (h:br b x y=some r):(b=true∧x=some r)∨(b=false∧y=some r):=by
 cases b
 ·exact .inr ⟨rfl,h⟩
 ·exact .inl ⟨rfl,h⟩
theorem aC {α ρ:Type} {o:Option α} {k:α->Option ρ} {r:ρ} (h:ob o k=some r):∃ x,o=some x∧k x=some r:=by
 cases o
 ·cases h
 ·exact ⟨_,rfl,h⟩
inductive Out where
 | ret (v:V)
 | pan (t:TypeId) (v:V)
inductive Ex where
 | normal | exit (id:Nat) | goto (l:Nat) | ret | pan (t:TypeId) (v:V)
def zO (β:Nat->Pl) (w:World) (N:Nat->Nat->Prop):Out->Ending->Prop
 | .ret v,e=>∃ x,e=.returned x∧v.Rel β w N x
 | .pan t v,e=>∃ x,e=.panicked [{ v:=.iface t x,recovered:=false }]∧v.Rel β w N x
def fJ (β:Nat->Pl) (w:World) (N:Nat->Nat->Prop):Ex->Exit->Prop
 | .normal,x=>x=.normal
 | .exit i,x=>x=.exit i
 | .goto l,x=>x=.goto l
 | .ret,x=>x=.ret
 | .pan t v,x=>∃ y,x=.panic [{ v:=.iface t y,recovered:=false }]∧v.Rel β w N y
def jN (β:Nat->Pl) (w:World) (N:Nat->Nat->Prop) (vs:List V) (xs:List Value):Prop:=aQ (fun v x=>V.Rel β w N v x) vs xs
def vS (P:Program) (f:FuncId) (vs:List V) (h:List Ob) (R:Out->List Ob->Prop):Prop :=
 ∀ (C:Ctx) (β:Nat->Pl) (w:World) (xs:List Value),C.P=P->dB C β h w->jN β w (C.N β h) vs xs ->
  Calls P f xs.toArray w fun e w'=>∃ out h' β',R out h'∧Moves β β'∧Keep (C.N β h) w w'∧(∀ b j,b < w.heap.size->C.N β' h' b j->C.N β h b j)∧dB C β' h' w'∧zO β' w' (C.N β' h') out e
theorem vS.mono {P:Program} {f:FuncId} {vs:List V} {h:List Ob} {R R':Out->List Ob->Prop} (hc:vS P f vs h R) (hR:∀ o k,R o k->R' o k):vS P f vs h R':=by
 intro C β w xs hP hs ha
 refine (hc C β w xs hP hs ha).mono ?_
 rintro e w' ⟨out,h',β',k1,k2⟩
 exact ⟨out,h',β',hR _ _ k1,k2⟩
def zSw (P:Program) (f:FuncId) (vs:List V) (h:List Ob) (out:Out) (h':List Ob):Prop:=vS P f vs h fun o k=>o=out∧k=h'
def fK (P:Program) (f:FuncId):Bool :=
 match P.funcs[f]? with
 | some fn=>fn.body.isSome && !(fn.name == "runtime.NumGoroutine")
 | none=>false
def aZ {α:Type} (f:α->Bool):List α->Bool
 | []=>true
 | x :: r=>f x && aZ f r
def L.isD:L->Bool
 | .val .. | .kD | .bV | .iV .. => true
 | .clo _ []=>true
 | _=>false
def zHl:Sum L (List L)->Bool
 | .inl l=>l.isD
 | .inr ls=>aZ L.isD ls
def V.isD:V->Bool
 | .one l=>l.isD
 | .agg ls=>aZ L.isD ls
 | .tup vs=>aZ zHl vs
 | .bB=>false
structure PE where
 R:Type
 use:Nat
 run:List V->List Ob->Option (Bool × Option R)
 enc:R->List V->List Ob->V × List Ob
structure PE.OK (P:Program) (f:FuncId) (e:PE):Prop where
 body:fK P f=true
 rel:∀ vs h y,e.run vs h=some (true,some y)->zSw P f vs h (.ret (e.enc y vs h).1) (e.enc y vs h).2
 dry:Nat.ble e.use 1=true->∀ vs h h2,aZ V.isD vs=true->e.run vs h=e.run vs h2∧∀ y,(e.enc y vs h).1=(e.enc y vs h2).1
 same:Nat.ble e.use 1=true->∀ y vs h,(e.enc y vs h).2=h
 row:e.use=3->∀ vs h h2,aZ V.isD vs=true->h2.length=h.length->e.run vs h=e.run vs h2∧∀ y,(e.enc y vs h).1=(e.enc y vs h2).1∧∃ os,(e.enc y vs h).2=h++os∧(e.enc y vs h2).2=h2++os
def pos (i:Nat):List Nat->Nat->Option Nat
 | [],_=>none
 | a :: r,n=>match Nat.beq a i with
  | true=>some n
  | false=>pos i r (n+1)
mutual
def L.ids:L->List Nat
 | .ptr id _=>[id]
 | .dZ id _=>[id]
 | .jB id _ _ _ _=>[id]
 | .eU id _ _ _=>[id]
 | .sl id _ _ _=>[id]
 | .own id _=>[id]
 | .mp id=>[id]
 | .clo _ caps=>L.uU caps
 | _=>[]
def L.uU:List L->List Nat
 | []=>[]
 | l :: ls=>l.ids++L.uU ls
end
def V.ids:V->List Nat
 | .one l=>l.ids
 | .agg ls=>L.uU ls
 | _=>[]
def Ob.ids:Ob->List Nat
 | .box _ ls=>L.uU ls
 | .arr .. => []
 | .fm _=>[]
 | .dm .. => []
def Ja (acc:List Nat):List Nat->List Nat
 | []=>acc
 | i :: r=>match pos i acc 0 with
  | some _=>Ja acc r
  | none=>Ja (acc++[i]) r
def Ky (h:List Ob):Nat->List Nat->Nat->List Nat
 | 0,acc,_=>acc
 | n+1,acc,p =>
  match acc[p]? with
  | none=>acc
  | some i=>match h[i]? with
   | some o=>Ky h n (Ja acc o.ids) (p+1)
   | none=>Ky h n acc (p+1)
def zAi:List V->List Nat
 | []=>[]
 | v :: vs=>v.ids++zAi vs
def reach (vs:List V) (h:List Ob):List Nat:=Ky h (h.length+1) (Ja [] (zAi vs)) 0
structure Orc (ρ:Type) where
 pure:FuncId->Option PE
 gen:FuncId->List V->List Ob->(Out->List Ob->Option ρ)->Option ρ
structure gM (P:Program) {ρ:Type} (Γ:Orc ρ):Prop where
 pure:∀ f e,Γ.pure f=some e->e.OK P f
 gen:∀ f vs h k r,Γ.gen f vs h k=some r->fK P f=true∧vS P f vs h fun out h'=>k out h'=some r∧∀ id,id < h.length->id ∉ reach vs h->h'[id]?=h[id]?
def Orc.call {ρ:Type} (Γ:Orc ρ) (f:FuncId) (vs:List V) (h:List Ob) (k:Out->List Ob->Option ρ):Option ρ :=
 match Γ.pure f with
 | some e =>
  match e.run vs h with
  | some (c,o)=>chk c (ob o fun y=>k (.ret (e.enc y vs h).1) (e.enc y vs h).2)
  | none=>none
 | none=>Γ.gen f vs h k
def Orc.quiet {ρ:Type} (Γ:Orc ρ):Orc ρ:=⟨Γ.pure,fun _ _ _ _=>none⟩
theorem gM.quiet {P:Program} {ρ:Type} {Γ:Orc ρ} (h:gM P Γ):gM P Γ.quiet:=⟨h.pure,fun _ _ _ _ _ h=>by cases h⟩
theorem gM.call {P:Program} {ρ:Type} {Γ:Orc ρ} (h:gM P Γ) {f:FuncId} {vs:List V} {hp:List Ob} {k:Out->List Ob->Option ρ} {r:ρ} (hc:Γ.call f vs hp k=some r) :
  fK P f=true∧vS P f vs hp fun out h'=>k out h'=some r:=by
 unfold Orc.call at hc
 split at hc
 ·rename_i e he
  split at hc
  ·rename_i c o hr
   obtain ⟨rfl,hc⟩:=lZ hc
   obtain ⟨y,rfl,hc⟩:=aC hc
   have hok:=h.pure f e he
   refine ⟨hok.body,fun C β w xs hP hs ha=>(hok.rel _ _ _ hr C β w xs hP hs ha).mono ?_⟩
   rintro e w' ⟨out,h',β',⟨rfl,rfl⟩,hh⟩
   exact ⟨_,_,β',hc,hh⟩
  ·cases hc
 ·obtain ⟨h1,h2⟩:=h.gen _ _ _ _ _ hc
  exact ⟨h1,h2.mono fun _ _ h=>h.1⟩
def bE (r:List V) (d:Option Tmp) (v:V):List V :=
 match d with
 | some i=>r.set i v
 | none=>r
abbrev K (ρ:Type):=Ex->St->Option ρ
abbrev sW (ρ:Type):=St->K ρ->Option ρ
section ops
variable {ρ:Type} (Γ:Orc ρ) (T:Tab)
def fM (σ:St) (xs:List Operand):List V:=xs.map (ovl σ)
def callee (σ:St) (x:Operand) (as:List Operand):Option (FuncId × List V) :=
 match ovl σ x with
 | .one (.val .opq (.func (.func f) first cs))=>if first.size=0∧cs.size=0 then some (f,[]) else none
 | .one (.clo f [])=>some (f,[])
 | .one (.clo f (c :: cs))=>match Nat.blt f 1000000,as with
  | true,_=>some (f,(c :: cs).map .one)
  | false,[]=>some (f - 1000000,(c :: cs).map .one)
  | false,_ :: _=>none
 | _=>none
def Da (vs:List V) (h:List Ob) (key:MK) (k:Out->List Ob->Option ρ):List (MK × Nat)->Option ρ
 | []=>none
 | (a,f) :: r=>br (MK.beq key a) (Γ.gen f vs h k) (Da vs h key k r)
def zP (σ:St) (o:Oper) (k:K ρ):Option ρ :=
 match o.op with
 | .call { callee:=.value x,args,.. } =>
  match callee σ x args.toList with
  | some (f,cs)=>Γ.call f (fM σ args.toList++cs) σ.h fun out h' =>
    match out with
    | .ret v=>k .normal ⟨bE σ.r o.dst v,h'⟩
    | .pan t v=>k (.pan t v) ⟨σ.r,h'⟩
  | none =>
   match ovl σ x with
   | .one (.xE key tab)=>Da Γ (fM σ args.toList) σ.h key (fun out h' =>
     match out with
     | .ret v=>k .normal ⟨bE σ.r o.dst v,h'⟩
     | .pan t v=>k (.pan t v) ⟨σ.r,h'⟩) tab
   | _=>none
 | .pick c x y =>
  match ovl σ c with
  | .one (.val .bool b)=>br b (k .normal ⟨bE σ.r o.dst (ovl σ x),σ.h⟩) (k .normal ⟨bE σ.r o.dst (ovl σ y),σ.h⟩)
  | _=>none
 | _ =>
  match kG T σ o with
  | some (c,v,h')=>chk c (k .normal ⟨bE σ.r o.dst v,h'⟩)
  | none=>none
def bG (ops:Array Oper) (j:Nat):Option Nat:=(ops[j]?).bind (·.dst)
end ops
section sound
variable {ρ:Type} {Γ:Orc ρ} {T:Tab} {C:Ctx}
theorem Sim.put {β:Nat->Pl} {σ:St} {a:Act} {w:World} (hs:Sim C β σ a w) (d:Option Tmp) {v:V} {x:Value} (hv:v.Rel β w (C.N β σ.h) x):Sim C β ⟨bE σ.r d v,σ.h⟩ (a.put d x) w:=by
 cases d with
 | none=>exact ⟨hs.heap,hs.defers,hs.size,hs.reg⟩
 | some i =>
  refine ⟨hs.heap,hs.defers,by simp [bE,Act.put,hs.size],fun j u hu=>?_⟩
  simp only [bE] at hu
  simp only [Act.put,Array.getD_eq_getD_getElem?,Array.getElem?_setIfInBounds]
  by_cases hij:i=j
  ·subst hij
   rcases aY i σ.r.length with hi | hi
   ·rw [List.getElem?_set_self hi] at hu
    simp only [aA] at hu
    subst hu
    rw [if_pos rfl,if_pos (by rw [<- hs.size]; exact hi)]
    exact hv
   ·rw [List.getElem?_eq_none (by simpa using hi)] at hu; cases hu
  ·rw [List.getElem?_set_ne hij] at hu
   rw [if_neg hij]
   have:=hs.reg j u hu
   rwa [Array.getD_eq_getD_getElem?] at this
theorem Od {β:Nat->Pl} {σ:St} {a:Act} {w:World} (hs:Sim C β σ a w):∀ xs:List Operand,jN β w (C.N β σ.h) (fM σ xs) (xs.map a.eval)
 | []=>trivial
 | x :: xs=>⟨aP hs x,Od hs xs⟩
theorem yC {β:Nat->Pl} {w:World} {N:Nat->Nat->Prop}:∀ {cs:List L} {us:List Value},L.bP β w N cs us->jN β w N (cs.map .one) us
 | [],us,h=>by simp only [L.bP] at h; subst h; trivial
 | c :: cs,us,h=>by
  simp only [L.bP] at h
  obtain ⟨u,r,rfl,h1,h2⟩:=h
  exact ⟨h1,yC h2⟩
theorem pU {P:Program} {f:FuncId} (h:fK P f=true) (args:Array Value) (w:World):(callFunc f args).run P w=.ok (.enter f args) w:=by
 unfold fK at h
 split at h
 ·rename_i fn hf
  simp only [aF,Bool.not_eq_true'] at h
  have h1:fn.body.isNone=false:=by cases hb:fn.body <;> simp [hb] at h ⊢
  simp only [callFunc,Sem.run_bind,run_program,Result.andThen_ok,hf,h.2,h1,Bool.false_eq_true,if_false,Sem.run_pure]
 ·cases h
theorem Qy {C:Ctx} {β:Nat->Pl} {σ:St} {a:Act} {w:World} {f:FuncId} {cs:List V} {x:Operand} {args:Array Operand} {ats:Array TypeId} {ty:TypeId} (hc:callee σ x args.toList=some (f,cs)) (hs:Sim C β σ a w) :
  ∃ as us,(resolve a.eval { callee:=.value x,args,argTypes:=ats } ty).run C.P w=.ok { target:=.fn (.func f) us,args:=as } w∧jN β w (C.N β σ.h) (fM σ args.toList++cs) (as++us).toList:=by
 have hx:=aP hs x
 have hA:jN β w (C.N β σ.h) (fM σ args.toList) (args.map a.eval).toList:=by
  rw [Array.toList_map]
  exact Od hs _
 have plain:∀ {us:Array Value},a.eval x=.func (.func f) #[] us->jN β w (C.N β σ.h) cs us.toList ->
   ∃ as us,(resolve a.eval { callee:=.value x,args,argTypes:=ats } ty).run C.P w=.ok { target:=.fn (.func f) us,args:=as } w∧jN β w (C.N β σ.h) (fM σ args.toList++cs) (as++us).toList:=fun {us} he hr =>
  ⟨args.map a.eval,us,by simp [resolve,he,Deferred.ofValue],by rw [Array.toList_append]; exact aQ.append hA hr⟩
 unfold callee at hc
 split at hc
 ·rename_i f' first cs' hov
  split at hc
  ·rename_i he
   simp only [aA,aB] at hc
   obtain ⟨rfl,rfl⟩:=hc
   rw [hov] at hx
   simp only [V.Rel,L.Rel,Ty.Rel,aK,and_true] at hx
   have e1:first=#[]:=Array.eq_empty_of_size_eq_zero he.1
   have e2:cs'=#[]:=Array.eq_empty_of_size_eq_zero he.2
   subst e1 e2
   exact plain hx.1 trivial
  ·cases hc
 ·rename_i f' hov
  simp only [aA,aB] at hc
  obtain ⟨rfl,rfl⟩:=hc
  rw [hov] at hx
  simp only [V.Rel,L.Rel,aK,and_true] at hx
  obtain ⟨us,hx,hr⟩:=hx
  have hr:=yC hr
  cases us with
  | nil=>exact plain (us:=#[]) hx hr
  | cons u us=>exact absurd hr (by simp [jN,aQ])
 ·rename_i f' c cs' hov
  rw [hov] at hx
  simp only [V.Rel,L.Rel,aK,and_true] at hx
  obtain ⟨us,hx,hr⟩:=hx
  have hr:=yC hr
  split at hc
  ·rename_i hb
   simp only [aA,aB] at hc
   obtain ⟨rfl,rfl⟩:=hc
   exact plain (us:=us.toArray) (hx.trans (Uc (by rwa [Nat.blt_eq] at hb) us)) hr
  ·rename_i hb hargs
   simp only [aA,aB] at hc
   obtain ⟨rfl,rfl⟩:=hc
   cases us with
   | nil=>exact absurd hr (by simp [jN,aQ])
   | cons u us =>
    have he:a.eval x=.func (.func (f' - 1000000)) (u :: us).toArray #[]:=by rw [hx,Ud (fun h=>by rw [<- Nat.blt_eq,hb] at h; cases h)]
    have ha:args=#[]:=Array.toList_inj.1 (by rw [hargs])
    subst ha
    exact ⟨(u :: us).toArray,#[],by simp [resolve,he,Deferred.ofValue],by simpa [fM] using hr⟩
  ·cases hc
 ·cases hc
theorem Db {β:Nat->Pl} {σ:St} {a:Act} {w:World} {o:Oper} {f:FuncId} {cs:List V} {x:Operand} {args:Array Operand} {ats:Array TypeId} {R:Out->List Ob->Prop} {next:Act->World->Prop} {Q:Exit->Act->World->Prop}
  (ho:o.op=.call { callee:=.value x,args:=args,argTypes:=ats }) (hc:callee σ x args.toList=some (f,cs)) (hb:fK C.P f=true) (hcall:vS C.P f (fM σ args.toList++cs) σ.h R) (hs:Sim C β σ a w)
  (hn:∀ v h' β' a' w',R (.ret v) h'->Sim C β' ⟨bE σ.r o.dst v,h'⟩ a' w'->next a' w')
  (hq:∀ t v h' β' w' y,R (.pan t v) h'->Sim C β' ⟨σ.r,h'⟩ a w'->v.Rel β' w' (C.N β' h') y->Q (.panic [{ v:=.iface t y,recovered:=false }]) a w'):o.wp C.P a w next Q:=by
 obtain ⟨as,us,hres,hargs⟩:=Qy (ats:=ats) (ty:=o.type) hc hs
 have hcl:=hcall C β w _ rfl hs.heap hargs
 unfold Oper.wp
 have hrun:(execOp a.eval o).run C.P w=.ok (.enter f (as++us)) w:=by
  simp only [execOp,ho,Sem.run_bind,hres,Result.andThen_ok,invoke,pU hb]
 rw [hrun,Oper.upon_enter]
 rw [Array.toArray_toList] at hcl
 refine hcl.mono ?_
 rintro e w' ⟨out,h',β',hk,hm,hkp,hN,hh,hout⟩
 have Au:∀ (i:Nat) (v:V),σ.r[i]?=some v->v.Rel β' w' (C.N β' h') (a.tmps.getD i undef):=fun i v hv=>(hs.reg i v hv).mono hm hkp hN
 cases out with
 | ret v =>
  obtain ⟨y,rfl,hy⟩:=hout
  have hs':Sim C β' ⟨σ.r,h'⟩ a w':=⟨hh,hs.defers,hs.size,Au⟩
  exact hn v h' β' _ w' hk (hs'.put o.dst hy)
 | pan t v =>
  obtain ⟨y,rfl,hy⟩:=hout
  exact hq t v h' β' w' y hk ⟨hh,hs.defers,hs.size,Au⟩ hy
theorem Mw {vs:List V} {hp:List Ob} {key:MK} {k:Out->List Ob->Option ρ} {r:ρ}:∀ {tab:List (MK × Nat)},Da Γ vs hp key k tab=some r->∃ f,fG tab key=some f∧Γ.gen f vs hp k=some r
 | [],h=>by cases h
 | (a,f) :: tab,h=>by
  simp only [Da] at h
  simp only [fG]
  rcases zB h with ⟨hb,h⟩ | ⟨hb,h⟩
  ·rw [hb]; exact ⟨f,rfl,h⟩
  ·rw [hb]; exact Mw h
theorem zOt {β:Nat->Pl} {σ:St} {a:Act} {w:World} {o:Oper} {f:FuncId} {x:Operand} {args:Array Operand} {ats:Array TypeId} {R:Out->List Ob->Prop} {next:Act->World->Prop} {Q:Exit->Act->World->Prop}
  (ho:o.op=.call { callee:=.value x,args:=args,argTypes:=ats }) (hx:a.eval x=.func (.func f) #[] #[]) (hb:fK C.P f=true) (hcall:vS C.P f (fM σ args.toList) σ.h R) (hs:Sim C β σ a w)
  (hn:∀ v h' β' a' w',R (.ret v) h'->Sim C β' ⟨bE σ.r o.dst v,h'⟩ a' w'->next a' w')
  (hq:∀ t v h' β' w' y,R (.pan t v) h'->Sim C β' ⟨σ.r,h'⟩ a w'->v.Rel β' w' (C.N β' h') y->Q (.panic [{ v:=.iface t y,recovered:=false }]) a w'):o.wp C.P a w next Q:=by
 have hres:(resolve a.eval { callee:=.value x,args,argTypes:=ats } o.type).run C.P w=.ok { target:=.fn (.func f) #[],args:=args.map a.eval } w:=by simp [resolve,hx,Deferred.ofValue]
 have hargs:jN β w (C.N β σ.h) (fM σ args.toList) (args.map a.eval++#[]).toList:=by
  simpa using Od hs args.toList
 have hcl:=hcall C β w _ rfl hs.heap hargs
 unfold Oper.wp
 have hrun:(execOp a.eval o).run C.P w=.ok (.enter f (args.map a.eval++#[])) w:=by
  simp only [execOp,ho,Sem.run_bind,hres,Result.andThen_ok,invoke,pU hb]
 rw [hrun,Oper.upon_enter]
 rw [Array.toArray_toList] at hcl
 refine hcl.mono ?_
 rintro e w' ⟨out,h',β',hk,hm,hkp,hN,hh,hout⟩
 have Au:∀ (i:Nat) (v:V),σ.r[i]?=some v->v.Rel β' w' (C.N β' h') (a.tmps.getD i undef):=fun i v hv=>(hs.reg i v hv).mono hm hkp hN
 cases out with
 | ret v =>
  obtain ⟨y,rfl,hy⟩:=hout
  have hs':Sim C β' ⟨σ.r,h'⟩ a w':=⟨hh,hs.defers,hs.size,Au⟩
  exact hn v h' β' _ w' hk (hs'.put o.dst hy)
 | pan t v =>
  obtain ⟨y,rfl,hy⟩:=hout
  exact hq t v h' β' w' y hk ⟨hh,hs.defers,hs.size,Au⟩ hy
theorem Qz (hT : aU C.P T) (hΓ : gM C.P Γ) {β : Nat -> Pl} {σ : St} {a : Act} {w : World} {o : Oper} {k : Dec.K ρ} {r : ρ} {next : Act -> World -> Prop} {Q : Exit -> Act -> World -> Prop} (h : zP Γ T σ o k = some r) (hs : Sim C β σ a w)
    (hn : ∀ σ' β' a' w', Sim C β' σ' a' w' -> k .normal σ' = some r -> next a' w')
    (hq : ∀ e x σ' β' a' w', Sim C β' σ' a' w' -> e ≠ .normal -> fJ β' w' (C.N β' σ'.h) e x -> k e σ' = some r -> Q x a' w') : o.wp C.P a w next Q := by
  unfold zP at h
  split at h
  ·
    rename_i x args ats ho
    split at h
    · rename_i f cs hc
      obtain ⟨hb, hcall⟩ := hΓ.call h
      obtain ⟨as, us, hres, hargs⟩ := Qy (ats := ats) (ty := o.type) hc hs
      have hcl := hcall C β w _ rfl hs.heap hargs
      unfold Oper.wp
      have hrun : (execOp a.eval o).run C.P w = .ok (.enter f (as ++ us)) w := by
        simp only [execOp, ho, Sem.run_bind, hres, Result.andThen_ok, invoke, pU hb]
      rw [hrun, Oper.upon_enter]
      rw [Array.toArray_toList] at hcl
      refine hcl.mono ?_
      rintro e w' ⟨out, h', β', hk, hm, hkp, hN, hh, hout⟩
      have Au : ∀ (i : Nat) (v : V), σ.r[i]? = some v -> v.Rel β' w' (C.N β' h') (a.tmps.getD i undef) := fun i v hv => (hs.reg i v hv).mono hm hkp hN
      cases out with
      | ret v =>
        obtain ⟨y, rfl, hy⟩ := hout
        have hs' : Sim C β' ⟨σ.r, h'⟩ a w' := ⟨hh, hs.defers, hs.size, Au⟩
        exact hn _ β' _ w' (hs'.put o.dst hy) hk
      | pan t v =>
        obtain ⟨y, rfl, hy⟩ := hout
        exact hq (.pan t v) _ ⟨σ.r, h'⟩ β' a w' ⟨hh, hs.defers, hs.size, Au⟩ (by simp) ⟨y, rfl, hy⟩ hk
    · split at h
      · rename_i key tab hov
        obtain ⟨f, hf, hcl⟩ := Mw h
        obtain ⟨hb, hcall⟩ := hΓ.gen _ _ _ _ _ hcl
        have hcall := hcall.mono (R' := fun out h' => (match out with | .ret v => k .normal ⟨bE σ.r o.dst v, h'⟩ | .pan t v => k (.pan t v) ⟨σ.r, h'⟩) = some r) fun _ _ h => h.1
        have hx := aP hs x
        rw [hov] at hx
        simp only [V.Rel, L.Rel, aK, and_true, Ql, hf] at hx
        refine zOt ho hx hb hcall hs (fun v h' β' a' w' hk hs' => hn _ β' a' w' hs' hk) (fun t v h' β' w' y hk hs' hy => hq (.pan t v) _ ⟨σ.r, h'⟩ β' a w' hs' (by simp) ⟨y, rfl, hy⟩ hk)
      · cases h
  ·
    rename_i c x y ho
    split at h
    · rename_i b hb
      have hc := aP hs c
      rw [hb] at hc
      simp only [V.Rel, L.Rel, Ty.Rel, aK, and_true] at hc
      have hrun : (execOp a.eval o).run C.P w = .ok (.value (if b then a.eval x else a.eval y)) w := by
        simp only [execOp, ho, hc, asBool, Sem.run_bind, Sem.run_pure, Result.andThen_ok]
      unfold Oper.wp
      rw [hrun, Oper.upon_value]
      rcases zB h with ⟨rfl, hk⟩ | ⟨rfl, hk⟩
      · exact hn _ β _ w (hs.put o.dst (aP hs x)) hk
      · exact hn _ β _ w (hs.put o.dst (aP hs y)) hk
    · cases h
  · split at h
    · rename_i c v h' hst
      obtain ⟨rfl, hk⟩ := lZ h
      obtain ⟨β', w', n, v', hrun, hnv, hm, hkp, hs', hv'⟩ := zLp hT hs hst
      unfold Oper.wp
      rw [hrun]
      rcases hnv with rfl | ⟨rfl, rfl⟩
      · rw [Oper.upon_value]
        exact hn _ β' _ w' (hs'.put o.dst hv') hk
      · rw [Oper.upon_skip]
        exact hn _ β' _ w' (hs'.put o.dst hv') hk
    · cases h
theorem Jb {ops:Array Oper} {tmps:Array Value} {j s:Nat} {b:Bool} (hs:bG ops j=some s) (ht:tmps.getD s undef=.bool b):yielded ops tmps j=some b:=by
 unfold bG at hs
 cases ho:ops[j]? with
 | none=>rw [ho] at hs; cases hs
 | some o =>
  rw [ho] at hs
  simp only [Option.bind_some] at hs
  have ht':(tmps[s]?).getD undef=.bool b:=by rw [<- Array.getD_eq_getD_getElem?]; exact ht
  unfold yielded
  simp only [ho,Option.bind_some,hs]
  cases h2:tmps[s]? with
  | none=>rw [h2] at ht'; simp [undef] at ht'
  | some x=>rw [h2] at ht'; simp at ht'; subst ht'; rfl
theorem Jc {ops:Array Oper} {tmps:Array Value} {j s:Nat} {us:Array Value} (hs:bG ops j=some s) (ht:tmps.getD s undef=.tuple us):yielded ops tmps j=none:=by
 unfold bG at hs
 cases ho:ops[j]? with
 | none=>rw [ho] at hs; cases hs
 | some o =>
  rw [ho] at hs
  simp only [Option.bind_some] at hs
  have ht':(tmps[s]?).getD undef=.tuple us:=by rw [<- Array.getD_eq_getD_getElem?]; exact ht
  unfold yielded
  simp only [ho,Option.bind_some,hs]
  cases h2:tmps[s]? with
  | none=>rfl
  | some x=>rw [h2] at ht'; simp at ht'; subst ht'; rfl
theorem zFa {r:List V} {s:Nat} {v:V} (h:r.getD s .bB=v) (hne:v ≠ .bB):r.set s v=r:=by
 have:r[s]?=some v:=by
  rw [List.getD_eq_getElem?_getD] at h
  cases hr:r[s]? with
  | none=>rw [hr] at h; exact absurd h.symm hne
  | some u=>rw [hr] at h; simp at h; rw [h]
 apply List.ext_getElem?
 intro i
 by_cases hi:s=i
 ·subst hi
  rw [List.getElem?_set_self (aS.1 this).1,this]
 ·rw [List.getElem?_set_ne hi]
end sound
end Go.Dec
