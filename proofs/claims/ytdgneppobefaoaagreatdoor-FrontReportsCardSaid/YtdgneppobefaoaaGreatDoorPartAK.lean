/- Part of a proof over this seat: a library of my own, and what it says of this seat. No statement is proved here. -/
import Derived.Test.YtdgneppobefaoaaGreatDoorPartAJ
import Derived.WalkKit
import Derived.OwnWalkIn
import Derived.TacticsInMore
import Derived.Lib.SliceRun
namespace Go.Dec
section
variable {T:Tab} {C:Ctx} {β:Nat->Pl} {w:World}
def Jt (T:Tab) (σ:St):ResultVar->Option (Bool × V)
 | .tmp t=>some (true,σ.r.getD t .bA)
 | .cell t ty =>
  match σ.r.getD t .bA with
  | .one l=>loadAt T σ.h ty l
  | _=>none
def jF (T:Tab) (σ:St):List ResultVar->Option (Bool × List V)
 | []=>some (true,[])
 | x :: r =>
  match Jt T σ x,jF T σ r with
  | some (c,l),some (d,ls)=>some (c && d,l :: ls)
  | _,_=>none
theorem zLs {σ:St} {a:Act} {rv:ResultVar} {v:V} (hT:aV C.P T) (hs:Sim C β σ a w) (h:Jt T σ rv=some (true,v)) :
  ∃ x,(lM a.tmps rv).run C.P w=.ok x w∧v.Rel β w (C.N β σ.h) x:=by
 cases rv with
 | tmp t =>
  simp only [Jt,aA,aB,true_and] at h
  subst h
  exact ⟨a.tmps.getD t undef,rfl,Ad hs t⟩
 | cell t ty =>
  simp only [Jt] at h
  have hr:=Ad hs t
  split at h
  ·rename_i l hl
   rw [hl] at hr
   obtain ⟨y,h1,h2⟩:=uR hT h hs.heap hr
   obtain ⟨ad,h3,h4⟩:=yB h1
   refine ⟨y,?_,h2⟩
   simp only [lM,h3,asAddr,Sem.run_bind,Sem.run_pure,Result.andThen_ok,h4]
  ·cases h
theorem Un {σ:St} {a:Act} (hT:aV C.P T) (hs:Sim C β σ a w):∀ {rs:List ResultVar} {vs:List V},jF T σ rs=some (true,vs) ->
  ∀ acc:Array Value,∃ us:List Value,(rs.foldlM (fun (acc:Array Value) rv=>do let v <- lM a.tmps rv; pure (acc.push v)) acc).run C.P w=.ok (acc++us.toArray) w∧aP (fun v u=>V.Rel β w (C.N β σ.h) v u) vs us
 | [],vs,h,acc=>by
  simp only [jF,aA,aB,true_and] at h
  subst h
  exact ⟨[],by simp,trivial⟩
 | rv :: rs,vs,h,acc=>by
  simp only [jF] at h
  split at h
  ·rename_i c s d r h1 h2
   simp only [aA,aB,aD] at h
   obtain ⟨⟨rfl,rfl⟩,rfl⟩:=h
   obtain ⟨x,g1,g2⟩:=zLs hT hs h1
   obtain ⟨us,g4,g5⟩:=Un hT hs h2 (acc.push x)
   refine ⟨x :: us,?_,⟨g2,g5⟩⟩
   simp only [List.foldlM_cons,Sem.run_bind,g1,Result.andThen_ok,Sem.run_pure,g4]
   simp
  ·cases h
theorem Yf {σ:St} {a:Act} {fn:Func} {vs:List V} (hT:aV C.P T) (hs:Sim C β σ a w) (h:jF T σ fn.results.toList=some (true,vs)) :
  ∃ us:List Value,(results fn a.tmps).run C.P w=.ok (jY us) w∧aP (fun v u=>V.Rel β w (C.N β σ.h) v u) vs us:=by
 obtain ⟨us,h1,h2⟩:=Un hT hs h #[]
 refine ⟨us,?_,h2⟩
 have e0:results fn a.tmps=(do let vs <- fn.results.mapM (lM a.tmps); pure (if h:vs.size=1 then vs[0] else .tuple vs)):=by
  unfold results
  congr 1
 have hm:(fn.results.mapM (lM a.tmps):Sem (Array Value)).run C.P w=.ok us.toArray w:=by
  rw [Array.mapM_eq_foldlM,<- Array.foldlM_toList]
  have e:(fun (acc:Array Value) rv=>do let v <- lM a.tmps rv; pure (acc.push v):Array Value->ResultVar->Sem (Array Value))=(fun (acc:Array Value) rv=>acc.push <$> lM a.tmps rv):=by
   funext acc rv
   rfl
  rw [e] at h1
  simpa using h1
 rw [e0]
 simp only [Sem.run_bind,hm,Result.andThen_ok,Sem.run_pure]
 match us with
 | []=>rfl
 | [u]=>rfl
 | u :: v :: us=>simp [jY]
theorem zLt {σ:St} {a:Act} {vs:List V} {us:List Value} (hs:Sim C β σ a w) (h:aP (fun v u=>V.Rel β w (C.N β σ.h) v u) vs us):Sim C β ⟨vs,σ.h⟩ { tmps:=us.toArray,defers:=[] } w:=by
 refine ⟨hs.heap,rfl,by simpa using h.length,fun i v hv=>?_⟩
 have hl:i < us.length:=by rw [<- h.length]; exact (aR.1 hv).1
 have hr:=h.get i (aR.1 hv).1 hl
 rw [(aR.1 hv).2] at hr
 have e2:(us.toArray).getD i undef=us[i]:=by simp [hl]
 simp only [e2]
 exact hr
def Yg (T:Tab) {ρ:Type} (res:List ResultVar) (so:Sh) (co:List Co) (σ:St) (g:so.X->Option ρ):Option ρ :=
 match jF T σ res with
 | some (c,vs)=>chk c (enter T so co ⟨vs,σ.h⟩ g)
 | none=>none
def zFl (T:Tab) (res:List ResultVar) (so:Sh) (co:List Co):K so.X:=fun e σ =>
 match e with
 | .normal=>Yg T res so co σ some
 | .ret=>Yg T res so co σ some
 | _=>none
theorem zLu {σ:St} {a:Act} {fn:Func} {so:Sh} {co:List Co} {ρ:Type} {g:so.X->Option ρ} {r:ρ} {kf:Nat} (hT:aV C.P T) (hkf:C.fix.length <= kf) (hfx:aY (Co.fx kf) co=true) (hs:Sim C β σ a w) (h:Yg T fn.results.toList so co σ g=some r) :
  ∃ (us:List Value) (β':Nat->Pl) (y:so.X),(results fn a.tmps).run C.P w=.ok (jY us) w∧Sim C β' (so.enc y) { tmps:=us.toArray,defers:=[] } w∧g y=some r:=by
 unfold Yg at h
 split at h
 ·rename_i c vs hvs
  obtain ⟨rfl,h⟩:=gQ h
  obtain ⟨us,h1,h2⟩:=Yf hT hs hvs
  obtain ⟨β',_,y,h3,h4⟩:=tJ hT hkf hfx h (zLt hs h2)
  exact ⟨us,β',y,h1,h3,h4⟩
 ·cases h
end
section
variable {P:Program} {T:Tab} {f:FuncId} {fn:Func} {c:Code} {si so sp:Sh}
theorem zIz {C:Ctx} {β:Nat->Pl} {w:World} {σ:St} {xs:List Value} (n:Nat) (hs:Sim C β σ { tmps:=xs.toArray,defers:=[] } w) :
  Sim C β ⟨xM σ.r n,σ.h⟩ { tmps:=xs.toArray++Array.replicate (n - xs.toArray.size) undef,defers:=[] } w:=by
 have hl:σ.r.length=xs.length:=by simpa using hs.size
 refine ⟨hs.heap,rfl,by simp [xM,hl],fun i u hu=>?_⟩
 simp only [xM] at hu
 by_cases hi:i < σ.r.length
 ·rw [bY hi] at hu
  have hr:=hs.reg i u hu
  have e:(xs.toArray++Array.replicate (n - xs.toArray.size) undef).getD i undef=(xs.toArray).getD i undef:=by
   rw [Array.getD_eq_getD_getElem?,Array.getD_eq_getD_getElem?,Array.getElem?_append_left (by simpa using by omega)]
  rw [e]
  exact hr
 ·rw [List.getElem?_append_right (by omega),List.getElem?_replicate] at hu
  split at hu
  ·simp only [aA] at hu; subst hu; trivial
  ·cases hu
theorem Ju {F:si.X->Option so.X} {Γ:Orc so.X} {an:An so.X} {co:List Co} (hf:P.funcs[f]?=some fn) (hb:fn.body=some c) (hh:eH P f=true) (hT:aV P T) (hΓ:fO P Γ) (hm:P.follows .mixedOrders=true)
  (ha:Xr P si.os.length c an) (hfx:an.fx si.os.length=true) (hco:aY (Co.fx si.os.length) co=true)
  (h:∀ x,ev Γ T c an ⟨xM (si.enc x).r fn.ntmps,(si.enc x).h⟩ (zFl T fn.results.toList so co)=F x):Af P f si so F:=by
 refine ⟨hh,fun x y hF C β w xs hP hkf hs=>?_⟩
 rw [<- h x] at hF
 refine calls_of_wp hf hb ?_
 refine Xu (P:=P) hT hΓ hm c an ha hfx _ _ y hF C β _ w _ hP hkf (zIz fn.ntmps hs) ?_
 intro e x' σ' β' a' w' hs' hx' hk
 have fin:Yg T fn.results.toList so co σ' some=some y->x'=.ret∨x'=.normal->bodyPost P fn (fun e w'=>∃ (us:List Value) (β':Nat->Pl),e=.returned (jY us)∧Sim C β' (so.enc y) { tmps:=us.toArray,defers:=[] } w') x' a' w':=by
  intro hk hx'
  subst hP
  obtain ⟨us,β2,y',h1,h2,h3⟩:=zLu (fn:=fn) hT hkf hco hs' hk
  obtain rfl:=Option.some.inj h3
  rcases hx' with rfl | rfl
  ·exact ⟨hs'.defers,_,h1,us,β2,rfl,h2⟩
  ·exact ⟨hs'.defers,_,h1,us,β2,rfl,h2⟩
 cases e with
 | normal=>obtain rfl:=hx'; exact fin hk (.inr rfl)
 | ret=>obtain rfl:=hx'; exact fin hk (.inl rfl)
 | exit i=>simp [zFl] at hk
 | goto l=>simp [zFl] at hk
 | pan t u=>simp [zFl] at hk
structure GE (ρ:Type) where
 f:FuncId
 run:List V->List Ob->(Out->List Ob->Option ρ)->Option ρ
structure GE.OK (P:Program) {ρ:Type} (g:GE ρ):Prop where
 ok:∀ vs h k r,g.run vs h k=some r->eH P g.f=true∧uV P g.f vs h fun out h'=>k out h'=some r∧∀ id,id < h.length->id ∉ reach vs h->h'[id]?=h[id]?
def zLv {ρ:Type}:List (GE ρ)->FuncId->List V->List Ob->(Out->List Ob->Option ρ)->Option ρ
 | [],_,_,_,_=>none
 | g :: r,f,vs,h,k=>match Nat.beq g.f f with
  | true=>g.run vs h k
  | false=>zLv r f vs h k
def oG (ρ:Type) (l:List (FuncId × PE)) (m:List (GE ρ)):Orc ρ:=⟨pes l,zLv m⟩
theorem iO {ρ:Type} {l:List (FuncId × PE)} {m:List (GE ρ)} (h:∀ p ∈ l,p.2.OK P p.1) (hm:∀ g ∈ m,g.OK P):fO P (oG ρ l m):=by
 refine ⟨(zQz (ρ:=ρ) h).pure,fun f vs hp k r hr=>?_⟩
 simp only [oG] at hr
 induction m with
 | nil=>cases hr
 | cons g m ih =>
  simp only [zLv] at hr
  split at hr
  ·rename_i hb
   have:=aF hb
   subst this
   exact (hm g (.head _)).ok vs hp k r hr
  ·exact ih (fun g hg=>hm g (.tail _ hg)) hr
theorem iP {ρ:Type}:∀ g ∈ ([]:List (GE ρ)),g.OK P:=fun _ h=>by cases h
end
def zLw {α ρ:Type} (B:Nat->(α->Option ρ)->α->Option ρ):Nat->α->Option ρ
 | 0,_=>none
 | n+1,x=>B n (zLw B n) x
theorem zPk {P:Program} {f:FuncId} {as rs:List Ty} (hh:eH P f=true):Pure P f as rs (fun _=>none):=⟨hh,fun _ _ h=>by cases h⟩
theorem Yh {P:Program} {f:FuncId} {as rs:List Ty} {B:Nat->(bP as->Option (bP rs))->bP as->Option (bP rs)} (hh:eH P f=true) (h:∀ n r,Pure P f as rs r->Pure P f as rs (B n r)):∀ n,Pure P f as rs (zLw B n)
 | 0=>zPk hh
 | n+1=>h n _ (Yh hh h n)
end Go.Dec
namespace Go.Dec
open Go.RowKit
section
variable {P:Program} {f:FuncId} {fn:Func} {t tb e:TypeId} {p0 p1 p2 p3 p4 p5 p6 p7:String}
end
end Go.Dec
namespace Go.Dec
section
variable {C:Ctx} {β:Nat->Pl} {w w1:World} {h:List Ob} {σ:St} {a:Act}
end
end Go.Dec
