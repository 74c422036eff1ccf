/- Part of a proof over this seat: a library of my own, and what it says of this seat. No statement is proved here. -/
import Derived.Test.YtdgneppobefaoaaGreatDoorPartAJ
import Derived.WalkKit
import Derived.OwnWalkIn
import Derived.TacticsInMore
import Derived.Lib.SliceRun
namespace Go.Dec
section
variable {T:Tab} {C:Ctx} {β:Nat->Pl} {w:World}
def Ou (T:Tab) (σ:St):ResultVar->Option (Bool × V)
 | .tmp t=>some (true,σ.r.getD t .bB)
 | .cell t ty =>
  match σ.r.getD t .bB with
  | .one l=>loadAt T σ.h ty l
  | _=>none
def kJ (T:Tab) (σ:St):List ResultVar->Option (Bool × List V)
 | []=>some (true,[])
 | x :: r =>
  match Ou T σ x,kJ T σ r with
  | some (c,l),some (d,ls)=>some (c && d,l :: ls)
  | _,_=>none
theorem zPn {σ:St} {a:Act} {rv:ResultVar} {v:V} (hT:aU C.P T) (hs:Sim C β σ a w) (h:Ou T σ rv=some (true,v)) :
  ∃ x,(nS a.tmps rv).run C.P w=.ok x w∧v.Rel β w (C.N β σ.h) x:=by
 cases rv with
 | tmp t =>
  simp only [Ou,aA,aB,true_and] at h
  subst h
  exact ⟨a.tmps.getD t undef,rfl,Et hs t⟩
 | cell t ty =>
  simp only [Ou] at h
  have hr:=Et hs t
  split at h
  ·rename_i l hl
   rw [hl] at hr
   obtain ⟨y,h1,h2⟩:=xY hT h hs.heap hr
   obtain ⟨ad,h3,h4⟩:=Bw h1
   refine ⟨y,?_,h2⟩
   simp only [nS,h3,asAddr,Sem.run_bind,Sem.run_pure,Result.andThen_ok,h4]
  ·cases h
theorem Xp {σ:St} {a:Act} (hT:aU C.P T) (hs:Sim C β σ a w):∀ {rs:List ResultVar} {vs:List V},kJ T σ rs=some (true,vs) ->
  ∀ acc:Array Value,∃ us:List Value,(rs.foldlM (fun (acc:Array Value) rv=>do let v <- nS a.tmps rv; pure (acc.push v)) acc).run C.P w=.ok (acc++us.toArray) w∧aQ (fun v u=>V.Rel β w (C.N β σ.h) v u) vs us
 | [],vs,h,acc=>by
  simp only [kJ,aA,aB,true_and] at h
  subst h
  exact ⟨[],by simp,trivial⟩
 | rv :: rs,vs,h,acc=>by
  simp only [kJ] at h
  split at h
  ·rename_i c s d r h1 h2
   simp only [aA,aB,aF] at h
   obtain ⟨⟨rfl,rfl⟩,rfl⟩:=h
   obtain ⟨x,g1,g2⟩:=zPn hT hs h1
   obtain ⟨us,g4,g5⟩:=Xp hT hs h2 (acc.push x)
   refine ⟨x :: us,?_,⟨g2,g5⟩⟩
   simp only [List.foldlM_cons,Sem.run_bind,g1,Result.andThen_ok,Sem.run_pure,g4]
   simp
  ·cases h
theorem zBd {σ:St} {a:Act} {fn:Func} {vs:List V} (hT:aU C.P T) (hs:Sim C β σ a w) (h:kJ T σ fn.results.toList=some (true,vs)) :
  ∃ us:List Value,(results fn a.tmps).run C.P w=.ok (lM us) w∧aQ (fun v u=>V.Rel β w (C.N β σ.h) v u) vs us:=by
 obtain ⟨us,h1,h2⟩:=Xp hT hs h #[]
 refine ⟨us,?_,h2⟩
 have e0:results fn a.tmps=(do let vs <- fn.results.mapM (nS a.tmps); pure (if h:vs.size=1 then vs[0] else .tuple vs)):=by
  unfold results
  congr 1
 have hm:(fn.results.mapM (nS a.tmps):Sem (Array Value)).run C.P w=.ok us.toArray w:=by
  rw [Array.mapM_eq_foldlM,<- Array.foldlM_toList]
  have e:(fun (acc:Array Value) rv=>do let v <- nS a.tmps rv; pure (acc.push v):Array Value->ResultVar->Sem (Array Value))=(fun (acc:Array Value) rv=>acc.push <$> nS a.tmps rv):=by
   funext acc rv
   rfl
  rw [e] at h1
  simpa using h1
 rw [e0]
 simp only [Sem.run_bind,hm,Result.andThen_ok,Sem.run_pure]
 match us with
 | []=>rfl
 | [u]=>rfl
 | u :: v :: us=>simp [lM]
theorem zBe {σ:St} {a:Act} {vs:List V} {us:List Value} (hs:Sim C β σ a w) (h:aQ (fun v u=>V.Rel β w (C.N β σ.h) v u) vs us):Sim C β ⟨vs,σ.h⟩ { tmps:=us.toArray,defers:=[] } w:=by
 refine ⟨hs.heap,rfl,by simpa using h.length,fun i v hv=>?_⟩
 have hl:i < us.length:=by rw [<- h.length]; exact (aS.1 hv).1
 have hr:=h.get i (aS.1 hv).1 hl
 rw [(aS.1 hv).2] at hr
 have e2:(us.toArray).getD i undef=us[i]:=by simp [hl]
 simp only [e2]
 exact hr
def Jo (T:Tab) {ρ:Type} (res:List ResultVar) (so:Sh) (co:List Co) (σ:St) (g:so.X->Option ρ):Option ρ :=
 match kJ T σ res with
 | some (c,vs)=>chk c (enter T so co ⟨vs,σ.h⟩ g)
 | none=>none
def zIl (T:Tab) (res:List ResultVar) (so:Sh) (co:List Co):K so.X:=fun e σ =>
 match e with
 | .normal=>Jo T res so co σ some
 | .ret=>Jo T res so co σ some
 | _=>none
def zIm (T:Tab) (res:List ResultVar) (so:Sh) (co:List Co) (tp:TypeId) (sp:Sh) (cp:List Co):K (Sum so.X sp.X):=fun e σ =>
 match e with
 | .normal=>Jo T res so co σ fun y=>some (.inl y)
 | .ret=>Jo T res so co σ fun y=>some (.inl y)
 | .pan t v=>match Nat.beq t tp with
  | true=>enter T sp cp ⟨[v],σ.h⟩ fun z=>some (.inr z)
  | false=>none
 | _=>none
theorem zBf {σ:St} {a:Act} {fn:Func} {so:Sh} {co:List Co} {ρ:Type} {g:so.X->Option ρ} {r:ρ} {kf:Nat} (hT:aU C.P T) (hkf:C.fix.length <= kf) (hfx:aZ (Co.fx kf) co=true) (hs:Sim C β σ a w) (h:Jo T fn.results.toList so co σ g=some r) :
  ∃ (us:List Value) (β':Nat->Pl) (y:so.X),(results fn a.tmps).run C.P w=.ok (lM us) w∧Sim C β' (so.enc y) { tmps:=us.toArray,defers:=[] } w∧g y=some r:=by
 unfold Jo at h
 split at h
 ·rename_i c vs hvs
  obtain ⟨rfl,h⟩:=lZ h
  obtain ⟨us,h1,h2⟩:=zBd hT hs hvs
  obtain ⟨β',_,y,h3,h4⟩:=tO hT hkf hfx h (zBe hs h2)
  exact ⟨us,β',y,h1,h3,h4⟩
 ·cases h
end
section
variable {P:Program} {T:Tab} {f:FuncId} {fn:Func} {c:Code} {si so sp:Sh}
theorem Xq {C:Ctx} {β:Nat->Pl} {w:World} {σ:St} {xs:List Value} (n:Nat) (hs:Sim C β σ { tmps:=xs.toArray,defers:=[] } w) :
  Sim C β ⟨yK σ.r n,σ.h⟩ { tmps:=xs.toArray++Array.replicate (n - xs.toArray.size) undef,defers:=[] } w:=by
 have hl:σ.r.length=xs.length:=by simpa using hs.size
 refine ⟨hs.heap,rfl,by simp [yK,hl],fun i u hu=>?_⟩
 simp only [yK] at hu
 by_cases hi:i < σ.r.length
 ·rw [dG hi] at hu
  have hr:=hs.reg i u hu
  have e:(xs.toArray++Array.replicate (n - xs.toArray.size) undef).getD i undef=(xs.toArray).getD i undef:=by
   rw [Array.getD_eq_getD_getElem?,Array.getD_eq_getD_getElem?,Array.getElem?_append_left (by simpa using by omega)]
  rw [e]
  exact hr
 ·rw [List.getElem?_append_right (by omega),List.getElem?_replicate] at hu
  split at hu
  ·simp only [aA] at hu; subst hu; trivial
  ·cases hu
theorem qC {F:si.X->Option so.X} {Γ:Orc so.X} {an:An so.X} {co:List Co} (hf:P.funcs[f]?=some fn) (hb:fn.body=some c) (hh:fK P f=true) (hT:aU P T) (hΓ:gM P Γ) (hm:P.follows .mixedOrders=true)
  (ha:Ut P si.os.length c an) (hfx:an.fx si.os.length=true) (hco:aZ (Co.fx si.os.length) co=true)
  (h:∀ x,ev Γ T c an ⟨yK (si.enc x).r fn.ntmps,(si.enc x).h⟩ (zIl T fn.results.toList so co)=F x):rA P f si so F:=by
 refine ⟨hh,fun x y hF C β w xs hP hkf hs=>?_⟩
 rw [<- h x] at hF
 refine calls_of_wp hf hb ?_
 refine Ol (P:=P) hT hΓ hm c an ha hfx _ _ y hF C β _ w _ hP hkf (Xq fn.ntmps hs) ?_
 intro e x' σ' β' a' w' hs' hx' hk
 have fin:Jo T fn.results.toList so co σ' some=some y->x'=.ret∨x'=.normal->bodyPost P fn (fun e w'=>∃ (us:List Value) (β':Nat->Pl),e=.returned (lM us)∧Sim C β' (so.enc y) { tmps:=us.toArray,defers:=[] } w') x' a' w':=by
  intro hk hx'
  subst hP
  obtain ⟨us,β2,y',h1,h2,h3⟩:=zBf (fn:=fn) hT hkf hco hs' hk
  obtain rfl:=Option.some.inj h3
  rcases hx' with rfl | rfl
  ·exact ⟨hs'.defers,_,h1,us,β2,rfl,h2⟩
  ·exact ⟨hs'.defers,_,h1,us,β2,rfl,h2⟩
 cases e with
 | normal=>obtain rfl:=hx'; exact fin hk (.inr rfl)
 | ret=>obtain rfl:=hx'; exact fin hk (.inl rfl)
 | exit i=>simp [zIl] at hk
 | goto l=>simp [zIl] at hk
 | pan t u=>simp [zIl] at hk
theorem qD {tp:TypeId} {F:si.X->Option (Sum so.X sp.X)} {Γ:Orc (Sum so.X sp.X)} {an:An (Sum so.X sp.X)} {co cp:List Co} (hf:P.funcs[f]?=some fn) (hb:fn.body=some c) (hh:fK P f=true) (hT:aU P T) (hΓ:gM P Γ) (hm:P.follows .mixedOrders=true)
  (ha:Ut P si.os.length c an) (hfx:an.fx si.os.length=true) (hco:aZ (Co.fx si.os.length) co=true) (hcp:aZ (Co.fx si.os.length) cp=true)
  (h:∀ x,ev Γ T c an ⟨yK (si.enc x).r fn.ntmps,(si.enc x).h⟩ (zIm T fn.results.toList so co tp sp cp)=F x):mW P f si so tp sp F:=by
 refine ⟨hh,fun x y hF C β w xs hP hkf hs=>?_⟩
 rw [<- h x] at hF
 refine calls_of_wp hf hb ?_
 refine Ol (P:=P) hT hΓ hm c an ha hfx _ _ y hF C β _ w _ hP hkf (Xq fn.ntmps hs) ?_
 intro e x' σ' β' a' w' hs' hx' hk
 subst hP
 have fin:(Jo T fn.results.toList so co σ' fun y=>some (.inl y))=some y->x'=.ret∨x'=.normal->bodyPost C.P fn (fun e w'=>(∃ (z:so.X) (us:List Value) (β':Nat->Pl),y=.inl z∧e=.returned (lM us)∧Sim C β' (so.enc z) { tmps:=us.toArray,defers:=[] } w') ∨
   ∃ (z:sp.X) (u:Value) (β':Nat->Pl),y=.inr z∧e=.panicked [{ v:=.iface tp u,recovered:=false }]∧Sim C β' (sp.enc z) { tmps:=#[u],defers:=[] } w') x' a' w':=by
  intro hk hx'
  obtain ⟨us,β2,y',h1,h2,h3⟩:=zBf (fn:=fn) hT hkf hco hs' hk
  obtain rfl:=Option.some.inj h3
  rcases hx' with rfl | rfl
  ·exact ⟨hs'.defers,_,h1,.inl ⟨y',us,β2,rfl,rfl,h2⟩⟩
  ·exact ⟨hs'.defers,_,h1,.inl ⟨y',us,β2,rfl,rfl,h2⟩⟩
 cases e with
 | normal=>obtain rfl:=hx'; exact fin hk (.inr rfl)
 | ret=>obtain rfl:=hx'; exact fin hk (.inl rfl)
 | exit i=>simp [zIm] at hk
 | goto l=>simp [zIm] at hk
 | pan t u =>
  simp only [zIm] at hk
  split at hk
  ·rename_i hb
   have:=aG hb
   subst this
   obtain ⟨x0,rfl,hx0⟩:=hx'
   obtain ⟨β2,_,z,h3,h4⟩:=tO hT hkf hcp hk (zBe (vs:=[u]) (us:=[x0]) hs' ⟨hx0,trivial⟩)
   obtain rfl:=Option.some.inj h4
   exact ⟨hs'.defers,.inr ⟨z,x0,β2,rfl,rfl,h3⟩⟩
  ·cases hk
structure GE (ρ:Type) where
 f:FuncId
 run:List V->List Ob->(Out->List Ob->Option ρ)->Option ρ
structure GE.OK (P:Program) {ρ:Type} (g:GE ρ):Prop where
 ok:∀ vs h k r,g.run vs h k=some r->fK P g.f=true∧vS P g.f vs h fun out h'=>k out h'=some r∧∀ id,id < h.length->id ∉ reach vs h->h'[id]?=h[id]?
def zPo {ρ:Type}:List (GE ρ)->FuncId->List V->List Ob->(Out->List Ob->Option ρ)->Option ρ
 | [],_,_,_,_=>none
 | g :: r,f,vs,h,k=>match Nat.beq g.f f with
  | true=>g.run vs h k
  | false=>zPo r f vs h k
def gT (ρ:Type) (l:List (FuncId × PE)) (m:List (GE ρ)):Orc ρ:=⟨pes l,zPo m⟩
theorem cK {ρ:Type} {l:List (FuncId × PE)} {m:List (GE ρ)} (h:∀ p ∈ l,p.2.OK P p.1) (hm:∀ g ∈ m,g.OK P):gM P (gT ρ l m):=by
 refine ⟨(zUw (ρ:=ρ) h).pure,fun f vs hp k r hr=>?_⟩
 simp only [gT] at hr
 induction m with
 | nil=>cases hr
 | cons g m ih =>
  simp only [zPo] at hr
  split at hr
  ·rename_i hb
   have:=aG hb
   subst this
   exact (hm g (.head _)).ok vs hp k r hr
  ·exact ih (fun g hg=>hm g (.tail _ hg)) hr
def geP {ρ:Type} (f:FuncId) (si so:Sh) (tp:TypeId) (sp:Sh) (F:si.X->Option (Sum so.X sp.X)):GE ρ:=⟨f,zPm si so tp sp F⟩
theorem oL {ρ:Type} {tp:TypeId} {F:si.X->Option (Sum so.X sp.X)} (h:mW P f si so tp sp F):(geP (ρ:=ρ) f si so tp sp F).OK P:=⟨fun _ _ _ _ hr=>zTg h hr⟩
theorem cO {ρ:Type}:∀ g ∈ ([]:List (GE ρ)),g.OK P:=fun _ h=>by cases h
theorem jV {ρ:Type} {g:GE ρ} {m:List (GE ρ)} (h:g.OK P) (hm:∀ g ∈ m,g.OK P):∀ x ∈ g :: m,x.OK P:=fun x hx=>by
 cases hx with
 | head=>exact h
 | tail _ hx=>exact hm x hx
end
end Go.Dec
namespace Go.Dec
open Go.RowKit
section
variable {P:Program} {f:FuncId} {fn:Func} {t tb e:TypeId} {p0 p1 p2 p3 p4 p5 p6 p7:String}
end
end Go.Dec
namespace Go.Dec
section
variable {C:Ctx} {β:Nat->Pl} {w w1:World} {h:List Ob} {σ:St} {a:Act}
def Ev (C:Ctx) (β:Nat->Pl) (h:List Ob) (w w1:World) (N:Nat) (hs:dB C β h w) (hk:Keep (fun _ _=>False) w w1):Ctx where
 P:=C.P
 N0 b j:=C.N0 b j∨b=N
 w0:=w1
 xG b j:=∃ (i:Nat) (o:Ob),h[i]?=some o∧o.wr=true∧o.at (β i) b j
 glob w' hw:=C.glob w' ((hs.frame.mQ hk fun _ _ _ h=>h.elim).mQ hw fun b j hb hm=>by
  obtain ⟨i,o,ho,hwo,hbk⟩:=hm
  rcases (hs.dH i o b ho ⟨j,hbk⟩).2.2 with h1 | h1
  ·omega
  ·exact h1 j hwo hbk)
 fix:=C.fix
theorem Sim.inN {N:Nat} (hs:Sim C β σ a w) (hk:Keep (fun _ _=>False) w w1) (hN:w.heap.size <= N) (hN1:N < w1.heap.size):Sim (Ev C β σ.h w w1 N hs.heap hk) β σ a w1:=by
 have hsub:∀ b j,b < w.heap.size->(Ev C β σ.h w w1 N hs.heap hk).N β σ.h b j->C.N β σ.h b j:=fun b j hb h=>by
  rcases h with h | h
  ·rcases h with h | h
   ·exact .inl h
   ·omega
  ·exact .inr h
 have hkw:Keep (C.N β σ.h) w w1:=hk.weaken fun _ _ h=>h.elim
 refine ⟨⟨fun id o ho=>(hs.heap.obj id o ho).mono (Moves.refl β) hkw hsub fun b hb=>hk.block b (hs.heap.dH id o b ho hb).2.1 (fun _ h=>h),hs.heap.dead,hs.heap.jT,fun id o b ho hb=>?_,fun b j hb=>?_,Keep.refl _ _,aI _,rfl,rfl,rfl,hs.heap.fixed⟩,hs.defers,hs.size,fun i u hu=>(hs.reg i u hu).mono (Moves.refl β) hkw hsub⟩
 ·obtain ⟨k1,k2,k3⟩:=hs.heap.dH id o b ho hb
  refine ⟨fun j h=>?_,Nat.lt_of_lt_of_le k2 hk.size,.inr fun j g1 g2=>⟨id,o,ho,g1,g2⟩⟩
  rcases h with h | h
  ·exact k1 j h
  ·omega
 ·rcases hb with hb | rfl
  ·exact Nat.lt_of_lt_of_le (Nat.lt_of_lt_of_le (hs.heap.n0 b j hb) hs.heap.size) hk.size
  ·exact hN1
theorem Sim.zVc {N:Nat} {hs:dB C β h w} {hk:Keep (fun _ _=>False) w w1} {β':Nat->Pl} {σ':St} {a':Act} {w2 w3:World} (hN:w.heap.size <= N) (hN1:N < w1.heap.size)
  (h2:Sim (Ev C β h w w1 N hs hk) β' σ' a' w2) (h3:Keep (fun b _=>b=N) w2 w3) (ho:w3.os=C.w0.os) (ht:w3.tape=C.w0.tape) (hout:w3.output=C.w0.output):Sim C β' σ' a' w3:=by
 have hsub:∀ b j,b < w2.heap.size->C.N β' σ'.h b j->(Ev C β h w w1 N hs hk).N β' σ'.h b j:=fun b j _ h=>by
  rcases h with h | h
  ·exact .inl (.inl h)
  ·exact .inr h
 have hNn:∀ j,(Ev C β h w w1 N hs hk).N β' σ'.h N j:=fun j=>.inl (.inr rfl)
 have hkw:Keep ((Ev C β h w w1 N hs hk).N β' σ'.h) w2 w3:=h3.weaken fun b j hb=>by subst hb; exact hNn j
 have hbk:∀ (id:Nat) (o:Ob) (b:Nat),σ'.h[id]?=some o->o.blks (β' id) b->b ≠ N:=fun id o b ho hb e=>(h2.heap.dH id o b ho hb).1 0 (.inr e)
 refine ⟨⟨fun id o ho=>(h2.heap.obj id o ho).mono (Moves.refl β') hkw hsub fun b hb=>h3.block b (h2.heap.dH id o b ho hb).2.1 (fun _=>hbk id o b ho hb),h2.heap.dead,h2.heap.jT,fun id o b ho hb=>?_,hs.n0,?_,?_,ho,ht,hout,h2.heap.fixed⟩,h2.defers,h2.size,fun i u hu=>(h2.reg i u hu).mono (Moves.refl β') hkw hsub⟩
 ·obtain ⟨k1,k2,k3⟩:=h2.heap.dH id o b ho hb
  refine ⟨fun j h=>k1 j (.inl h),Nat.lt_of_lt_of_le k2 h3.size,?_⟩
  by_cases hlt:C.w0.heap.size <= b
  ·exact .inl hlt
  ·right
   rcases k3 with k3 | k3
   ·have k3:w1.heap.size <= b:=k3
    have:=hs.size
    have:=hk.size
    omega
   ·intro j g1 g2
    obtain ⟨i,o',ho',hw',hb'⟩:=k3 j g1 g2
    rcases (hs.dH i o' b ho' ⟨j,hb'⟩).2.2 with h1 | h1
    ·exact absurd h1 hlt
    ·exact h1 j hw' hb'
 ·refine ((hs.frame.mQ hk fun _ _ _ h=>h.elim).mQ h2.heap.frame fun b j hb hm=>?_).mQ h3 fun b j hb hm=>?_
  ·obtain ⟨i,o',ho',hw',hb'⟩:=hm
   rcases (hs.dH i o' b ho' ⟨j,hb'⟩).2.2 with h1 | h1
   ·omega
   ·exact h1 j hw' hb'
  ·have:=hs.size
   omega
 ·exact Nat.le_trans (Nat.le_trans (Nat.le_trans hs.size hk.size) h2.heap.size) h3.size
end
end Go.Dec
