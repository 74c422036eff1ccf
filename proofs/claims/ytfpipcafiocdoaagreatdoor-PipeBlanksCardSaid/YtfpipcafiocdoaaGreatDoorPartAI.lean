/- Part of a proof over this seat: a library of my own, and what it says of this seat. No statement is proved here. -/
import Derived.Test.YtfpipcafiocdoaaGreatDoorPartAH
namespace Go.Dec
@[reducible] def dJ : List Ty -> Type
 | [] => Unit
 | [t] => t.den
 | t :: u :: r => t.den × dJ (u :: r)
def kZ : List Value -> Value
 | [u] => u
 | us => .tuple us.toArray
def zPc (bor : Bool) (N : Nat -> Nat -> Prop) : Nat -> Nat -> Prop :=
 match bor with
 | true => fun _ _ => False
 | false => N
def Ty.fU (w : World) (N : Nat -> Nat -> Prop) (t : Ty) (x : t.den) (u : Value) : Prop :=
 if t.isAgg then ∃ cs : List Value,u = .agg cs.toArray ∧ t.Rel w N x cs else t.Rel w N x [u]
def DensRel (w : World) (N : Nat -> Nat -> Prop) : (ts : List Ty) -> dJ ts -> List Value -> Prop
 | [],_,us => us = []
 | [t],x,us => ∃ u,us = [u] ∧ t.fU w N x u
 | t :: s :: r,x,us => ∃ u us',us = u :: us' ∧ t.fU w N x.1 u ∧ DensRel w N (s :: r) x.2 us'
def vOf (t : Ty) (x : t.den) : V :=
 match t.isAgg with
 | true => .agg (explode t x)
 | false => .one (.val t x)
def sOf (t : Ty) (x : t.den) : Sum L (List L) :=
 match t.isAgg with
 | true => .inr (explode t x)
 | false => .inl (.val t x)
def zF : (ts : List Ty) -> dJ ts -> List V
 | [],_ => []
 | [t],x => [vOf t x]
 | t :: s :: r,x => vOf t x.1 :: zF (s :: r) x.2
def zCj : (ts : List Ty) -> dJ ts -> List (Sum L (List L))
 | [],_ => []
 | [t],x => [sOf t x]
 | t :: s :: r,x => sOf t x.1 :: zCj (s :: r) x.2
def zCk (t : Ty) (ls : List L) : Option t.den :=
 match bE t ls with
 | some (x,[]) => some x
 | _ => none
def Om (t : Ty) (s : Sum L (List L)) : Option t.den :=
 match t.isAgg,s with
 | true,.inr ls => zCk t ls
 | false,.inl l => l.asT t
 | _,_ => none
def wF : (ts : List Ty) -> List (Sum L (List L)) -> Option (dJ ts)
 | [],[] => some ()
 | [t],[s] => Om t s
 | t :: u :: r,s :: ss =>
  match Om t s,wF (u :: r) ss with
  | some x,some y => some (x,y)
  | _,_ => none
 | _,_ => none
def V.sum : V -> Option (Sum L (List L))
 | .one l => some (.inl l)
 | .agg ls => some (.inr ls)
 | _ => none
def Ic (bor : Bool) (h : List Ob) (t : Ty) (v : V) : Option (Bool × t.den) :=
 match bor with
 | true =>
  match v.deep h with
  | some (c,u) =>
   match u.sum with
   | some s => match Om t s with
    | some x => some (c,x)
    | none => none
   | none => none
  | none => none
 | false =>
  match v.isD,v.sum with
  | true,some s => match Om t s with
   | some x => some (true,x)
   | none => none
  | _,_ => none
def nL (bor : Bool) (h : List Ob) : (ts : List Ty) -> List V -> Option (Bool × dJ ts)
 | [],[] => some (true,())
 | [t],[v] => Ic bor h t v
 | t :: u :: r,v :: vs =>
  match Ic bor h t v,nL bor h (u :: r) vs with
  | some (c,x),some (d,y) => some (c && d,(x,y))
  | _,_ => none
 | _,_ => none
def Ty.flat : Ty -> Bool
 | .pair a b => a.flat && b.flat
 | .arr _ a => a.flat
 | .slice _ => false
 | .opq => false
 | _ => true
section
variable {β : Nat -> Pl} {w : World} {N : Nat -> Nat -> Prop}
theorem zAf {t : Ty} {x : t.den} {u : Value} (h : t.fU w N x u) : (vOf t x).Rel β w N u:=by
 unfold vOf
 unfold Ty.fU at h
 cases ha : t.isAgg with
 | true =>
  rw [ha,if_pos rfl] at h
  obtain ⟨cs,e,h⟩:=h
  exact ⟨cs,e,fC h⟩
 | false =>
  rw [ha,if_neg (by simp)] at h
  simp only [V.Rel,L.Rel]
  exact h
theorem Rl : ∀ {ts : List Ty} {x : dJ ts} {us : List Value},DensRel w N ts x us -> jI β w N (zF ts x) us
 | [],_,_,h => by simp only [DensRel] at h; subst h; trivial
 | [t],x,_,h => by obtain ⟨u,rfl,h⟩:=h; exact ⟨zAf h,trivial⟩
 | t :: s :: r,x,_,h => by
  obtain ⟨u,us,rfl,h,h2⟩:=h
  exact ⟨zAf h,Rl h2⟩
theorem zAg {t : Ty} {x : t.den} {u : Value} (h : t.fU w N x u) : eX β w N (sOf t x) u:=by
 unfold sOf
 unfold Ty.fU at h
 cases ha : t.isAgg with
 | true =>
  rw [ha,if_pos rfl] at h
  obtain ⟨cs,e,h⟩:=h
  exact ⟨cs,e,fC h⟩
 | false =>
  rw [ha,if_neg (by simp)] at h
  simp only [eX,L.Rel]
  exact h
theorem Rm : ∀ {ts : List Ty} {x : dJ ts} {us : List Value},DensRel w N ts x us -> aJ (eX β w N) (zCj ts x) us
 | [],_,_,h => by simp only [DensRel] at h; subst h; trivial
 | [t],x,_,h => by obtain ⟨u,rfl,h⟩:=h; exact ⟨zAg h,trivial⟩
 | t :: s :: r,x,_,h => by
  obtain ⟨u,us,rfl,h,h2⟩:=h
  exact ⟨zAg h,Rm h2⟩
theorem zFq {t : Ty} {ls : List L} {x : t.den} {cs : List Value} (h : zCk t ls = some x) (hr : aF β w N ls cs) : t.Rel w N x cs:=by
 unfold zCk at h
 split at h
 ·rename_i y hi
  simp only [Option.some.injEq] at h
  subst h
  obtain ⟨c1,c2,e,h1,h2⟩:=lF hi hr
  simp only [aF] at h2
  subst h2
  rw [List.append_nil] at e
  subst e
  exact h1
 ·cases h
theorem zG {t : Ty} {s : Sum L (List L)} {x : t.den} {u : Value} (h : Om t s = some x) (hr : eX β w N s u) : t.fU w N x u:=by
 unfold Om at h
 unfold Ty.fU
 split at h
 ·rename_i ls ha
  rw [ha,if_pos rfl]
  obtain ⟨cs,e,hr⟩:=hr
  exact ⟨cs,e,zFq h hr⟩
 ·rename_i l ha
  rw [ha,if_neg (by simp)]
  exact L.Nt h hr
 ·cases h
theorem Rn : ∀ {ts : List Ty} {ss : List (Sum L (List L))} {x : dJ ts} {us : List Value},wF ts ss = some x -> aJ (eX β w N) ss us -> DensRel w N ts x us
 | [],[],_,[],_,_ => rfl
 | [t],[s],x,[u],h,hr => ⟨u,rfl,zG h hr.1⟩
 | t :: u :: r,s :: ss,x,v :: vs,h,hr => by
  simp only [wF] at h
  split at h
  ·rename_i y z h1 h2
   simp only [Option.some.injEq] at h
   subst h
   exact ⟨v,vs,rfl,zG h1 hr.1,Rn h2 hr.2⟩
  ·cases h
 | [],[],_,_ :: _,_,hr => hr.elim
 | [],_ :: _,_,_,h,_ => by simp [wF] at h
 | [t],[],_,_,h,_ => by simp [wF] at h
 | [t],[s],_,[],_,hr => hr.elim
 | [t],[s],_,_ :: _ :: _,_,hr => hr.2.elim
 | [t],_ :: _ :: _,_,_,h,_ => by simp [wF] at h
 | t :: u :: r,[],_,_,h,_ => by simp [wF] at h
 | t :: u :: r,s :: ss,_,[],_,hr => hr.elim
theorem V.Oo {v : V} {s : Sum L (List L)} {u : Value} (h : v.sum = some s) (hr : v.Rel β w N u) : eX β w N s u:=by
 cases v <;> simp only [V.sum,Option.some.injEq,reduceCtorEq] at h <;> subst h <;> exact hr
theorem Ty.fU.mono {w' : World} {N' : Nat -> Nat -> Prop} (hk : Keep N w w') (hN : ∀ b j,b < w.heap.size -> N' b j -> N b j) {t : Ty} {x : t.den} {u : Value} (h : t.fU w N x u) : t.fU w' N' x u:=by
 unfold Ty.fU at *
 split
 ·rename_i ha
  rw [if_pos ha] at h
  obtain ⟨cs,e,h⟩:=h
  exact ⟨cs,e,h.mono hk hN⟩
 ·rename_i ha
  rw [if_neg ha] at h
  exact h.mono hk hN
theorem DensRel.mono {w' : World} {N' : Nat -> Nat -> Prop} (hk : Keep N w w') (hN : ∀ b j,b < w.heap.size -> N' b j -> N b j) : ∀ {ts : List Ty} {x : dJ ts} {us : List Value},DensRel w N ts x us -> DensRel w' N' ts x us
 | [],_,_,h => h
 | [t],x,_,h => by obtain ⟨u,e,h⟩:=h; exact ⟨u,e,h.mono hk hN⟩
 | t :: s :: r,x,_,h => by obtain ⟨u,us,e,h,h2⟩:=h; exact ⟨u,us,e,h.mono hk hN,h2.mono hk hN⟩
theorem Ty.Rel.flat {N' : Nat -> Nat -> Prop} {w' : World} : ∀ {t : Ty} {x : t.den} {cs : List Value},t.flat = true -> t.Rel w N x cs -> t.Rel w' N' x cs
 | .unit,_,_,_,h => h
 | .bool,_,_,_,h => h
 | .int _,_,_,_,h => h
 | .str,_,_,_,h => h
 | .err,_,_,_,h => h
 | .opq,_,_,hf,_ => by cases hf
 | .slice _,_,_,hf,_ => by cases hf
 | .pair a b,_,_,hf,h => by
  simp only [Ty.flat,Bool.and_eq_true] at hf
  obtain ⟨c1,c2,e,h1,h2⟩:=h
  exact ⟨c1,c2,e,Ty.Rel.flat hf.1 h1,Ty.Rel.flat hf.2 h2⟩
 | .arr n a,_,_,hf,h => by
  simp only [Ty.flat] at hf
  obtain ⟨h0,css,e,h1⟩:=h
  exact ⟨h0,css,e,h1.mono fun x c hx => Ty.Rel.flat hf hx⟩
theorem Ty.fU.flat {N' : Nat -> Nat -> Prop} {w' : World} {t : Ty} {x : t.den} {u : Value} (hf : t.flat = true) (h : t.fU w N x u) : t.fU w' N' x u:=by
 unfold Ty.fU at *
 split
 ·rename_i ha
  rw [if_pos ha] at h
  obtain ⟨cs,e,h⟩:=h
  exact ⟨cs,e,h.flat hf⟩
 ·rename_i ha
  rw [if_neg ha] at h
  exact h.flat hf
theorem DensRel.flat {N' : Nat -> Nat -> Prop} {w' : World} : ∀ {ts : List Ty} {x : dJ ts} {us : List Value},aZ Ty.flat ts = true -> DensRel w N ts x us -> DensRel w' N' ts x us
 | [],_,_,_,h => h
 | [t],x,_,hf,h => by
  simp only [aZ,Bool.and_true] at hf
  obtain ⟨u,e,h⟩:=h; exact ⟨u,e,h.flat hf⟩
 | t :: s :: r,x,_,hf,h => by
  simp only [aZ,Bool.and_eq_true] at hf
  obtain ⟨u,us,e,h,h2⟩:=h
  exact ⟨u,us,e,h.flat hf.1,DensRel.flat (by simp only [aZ,Bool.and_eq_true]; exact hf.2) h2⟩
end
def Pure (P : Program) (f : FuncId) (as rs : List Ty) (F : dJ as -> Option (dJ rs)) : Prop :=
 iE P f = true ∧ ∀ x y,F x = some y -> ∀ (w : World) (N : Nat -> Nat -> Prop) (xs : List Value),Glob P w -> (∀ b j,N b j -> b < w.heap.size) -> DensRel w N as x xs ->
  Calls P f xs.toArray w fun e w' => ∃ us : List Value,e = .returned (kZ us) ∧ w'.os = w.os ∧ w'.tape = w.tape ∧ w'.output = w.output ∧ Keep (fun _ _ => False) w w' ∧ DensRel w' N rs y us
def zCl (T : Tab) (res : List ResultVar) (rs : List Ty) (σ : St) : Option (dJ rs) :=
 match Eu T σ res with
 | some (c,vs) =>
  match wF rs vs with
  | some y => chk c (some y)
  | none => none
 | none => none
def zCm (T : Tab) (res : List ResultVar) (rs : List Ty) : K (dJ rs):=fun e σ =>
 match e with
 | .normal => zCl T res rs σ
 | .ret => zCl T res rs σ
 | _ => none
section
variable {T : Tab} {P : Program}
theorem Vp {C : Ctx} {β β' : Nat -> Pl} {w : World} {σ : St} {a : Act} {fn : Func} {vs : List (Sum L (List L))} {N' : Nat -> Nat -> Prop} (hT : aV C.P T) (hs : Sim C β σ a w) (hN : ∀ b j,b < w.heap.size -> N' b j -> C.N0 b j) (h : Eu T σ fn.results.toList = some (true,vs)) :
  ∃ us : List Value,(results fn a.tmps).run C.P w = .ok (kZ us) w ∧ aJ (eX β' w N') vs us:=by
 obtain ⟨us,h1,h2,_⟩:=Rk (β':=β') hT hs hN h #[]
 refine ⟨us,?_,h2⟩
 have e0 : results fn a.tmps = (do let vs <- fn.results.mapM (kP a.tmps); pure (if h : vs.size = 1 then vs[0] else .tuple vs)):=by
  unfold results
  congr 1
 have hm : (fn.results.mapM (kP a.tmps) : Sem (Array Value)).run C.P w = .ok us.toArray w:=by
  rw [Array.mapM_eq_foldlM,<- Array.foldlM_toList]
  have e : (fun (acc : Array Value) rv => do let v <- kP a.tmps rv; pure (acc.push v) : Array Value -> ResultVar -> Sem (Array Value)) = (fun (acc : Array Value) rv => acc.push <$> kP a.tmps rv):=by
   funext acc rv
   rfl
  rw [e] at h1
  simpa using h1
 rw [e0]
 simp only [Sem.run_bind,hm,Result.andThen_ok,Sem.run_pure]
 match us with
 | [] => rfl
 | [u] => rfl
 | u :: v :: us => simp [kZ]
theorem Cv : ∀ cs : List Co,aZ (Co.fx 0) cs = true
 | [] => rfl
 | c :: cs => by
  simp only [aZ,Cv cs,Bool.and_true]
  cases c <;> first | rfl | simp [Co.fx]
theorem rZ {ρ : Type} : ∀ an : An ρ,an.fx 0 = true
 | .nil => rfl
 | .mk l r c => by simp only [An.fx,rZ l,rZ r,Cv,Bool.and_self]
 | .loop _ c0 c1 _ a => by simp only [An.fx,rZ a,Cv,Bool.and_self]
 | .scope _ a b => by simp only [An.fx,rZ a,rZ b,Bool.and_self]
 | .sem _ => rfl
 | .co c a => by simp only [An.fx,rZ a,Cv,Bool.and_self]
 | .join _ c a => by simp only [An.fx,rZ a,Cv,Bool.and_self]
theorem oJ {f : FuncId} {fn : Func} {c : Code} {as rs : List Ty} {F : dJ as -> Option (dJ rs)} {Γ : Orc (dJ rs)} {an : An (dJ rs)} (hf : P.funcs[f]? = some fn) (hb : fn.body = some c) (hh : iE P f = true) (hT : aV P T) (hΓ : fJ P Γ) (hm : P.follows .mixedOrders = true) (ha : Vl P 0 c an)
  (h : ∀ x,ev Γ T c an ⟨wE (zF as x) fn.ntmps,[]⟩ (zCm T fn.results.toList rs) = F x) : Pure P f as rs F:=by
 refine ⟨hh,fun x y hF w N xs hG hN hx => ?_⟩
 rw [<- h x] at hF
 let C : Ctx:={ P:=P,N0:=N,w0:=w,uV:=fun _ _ => False,glob:=fun w' h => hG.keep fun b hb => h.block b hb (fun _ h => h),fix:=[] }
 let β0 : Nat -> Pl:=fun _ => ⟨false,false,0,none,0,0,0,[]⟩
 have hargs : jI β0 w N (zF as x) xs:=Rl hx
 have hxl : (zF as x).length = xs.length:=hargs.length
 have Nz : Sim C β0 ⟨wE (zF as x) fn.ntmps,[]⟩ { tmps:=xs.toArray ++ Array.replicate (fn.ntmps - xs.toArray.size) undef,defers:=[] } w:=by
  refine ⟨⟨by simp,fun _ _ => rfl,by simp,by simp,hN,Keep.refl _ _,Nat.le_refl _,rfl,rfl,rfl,fun j o hj => by cases hj⟩,rfl,by simp [wE,hxl],?_⟩
  intro i u hu
  simp only [wE] at hu
  by_cases hi : i < (zF as x).length
  ·rw [List.getElem?_append_left hi] at hu
   have hi' : i < xs.length:=by rw [<- hxl]; exact hi
   have hr:=hargs.get i hi hi'
   rw [List.getElem?_eq_getElem hi] at hu
   simp only [Option.some.injEq] at hu
   subst hu
   have : (xs.toArray ++ Array.replicate (fn.ntmps - xs.toArray.size) undef).getD i undef = xs[i]:=by
    rw [Array.getD_eq_getD_getElem?,Array.getElem?_append_left (by simpa using hi')]
    simp [hi']
   rw [this]
   refine hr.mono (Moves.refl β0) (Keep.refl _ w) (fun b j _ hb => ?_)
   rcases hb with hb | ⟨id,o,ho,_⟩
   ·exact hb
   ·simp at ho
  ·rw [List.getElem?_append_right (by omega),List.getElem?_replicate] at hu
   split at hu
   ·simp only [Option.some.injEq] at hu; subst hu; trivial
   ·cases hu
 refine calls_of_wp hf hb ?_
 refine Vn (P:=P) hT hΓ hm c an ha (rZ an) _ _ y hF C β0 _ w _ rfl (Nat.le_refl _) Nz ?_
 intro e x' σ' β' a' w' hs' hx' hk
 have fin : zCl T fn.results.toList rs σ' = some y -> x' = .ret ∨ x' = .normal -> bodyPost P fn (fun e w' => ∃ us : List Value,e = .returned (kZ us) ∧ w'.os = w.os ∧ w'.tape = w.tape ∧ w'.output = w.output ∧ Keep (fun _ _ => False) w w' ∧ DensRel w' N rs y us) x' a' w':=by
  intro hk hx'
  unfold zCl at hk
  split at hk
  ·rename_i cc ss hrs
   split at hk
   ·rename_i y' hd
    obtain ⟨rfl,hk⟩:=jW hk
    obtain rfl:=Option.some.inj hk
    obtain ⟨us,h1,h2⟩:=Vp (C:=C) (β':=β0) (N':=N) (fn:=fn) hT hs' (fun _ _ _ hb => hb) hrs
    have hkeep : Keep (fun _ _ => False) w w':=hs'.heap.frame
    have hR:=Rn hd h2
    rcases hx' with rfl | rfl
    ·exact ⟨hs'.defers,_,h1,us,rfl,hs'.heap.os,hs'.heap.tape,hs'.heap.output,hkeep,hR⟩
    ·exact ⟨hs'.defers,_,h1,us,rfl,hs'.heap.os,hs'.heap.tape,hs'.heap.output,hkeep,hR⟩
   ·cases hk
  ·cases hk
 cases e with
 | normal => obtain rfl:=hx'; exact fin hk (.inr rfl)
 | ret => obtain rfl:=hx'; exact fin hk (.inl rfl)
 | exit i => simp [zCm] at hk
 | goto l => simp [zCm] at hk
 | pan t u => simp [zCm] at hk
def lI (as rs : List Ty) (F : dJ as -> Option (dJ rs)) : PE where
 R:=dJ rs
 use:=1
 run vs h:=match nL (aZ Ty.flat rs) h as vs with
  | some (c,x) => some (c,F x)
  | none => none
 enc y _ h:=(zIe (zCj rs y),h)
theorem Vq {C : Ctx} {β : Nat -> Pl} {h : List Ob} {w : World} {bor : Bool} {t : Ty} {v : V} {x : t.den} {u : Value} (hd : Ic bor h t v = some (true,x)) (hs : bL C β h w) (hr : v.Rel β w (C.N β h) u) :
  t.fU w (zPc bor (C.N β h)) x u:=by
 unfold Ic at hd
 cases bor with
 | true =>
  simp only at hd ⊢
  split at hd
  ·rename_i c v' hv
   split at hd
   ·rename_i s hsum
    split at hd
    ·rename_i y hy
     simp only [Option.some.injEq,Prod.mk.injEq] at hd
     obtain ⟨rfl,rfl⟩:=hd
     obtain ⟨h1,_⟩:=V.lX (β':=β) (N':=fun _ _ => False) hv hs (fun _ _ _ h => h.elim) hr
     exact zG hy (V.Oo hsum h1)
    ·cases hd
   ·cases hd
  ·cases hd
 | false =>
  simp only at hd ⊢
  split at hd
  ·rename_i s hD hsum
   split at hd
   ·rename_i y hy
    simp only [Option.some.injEq,Prod.mk.injEq,true_and] at hd
    subst hd
    exact zG hy (V.Oo hsum hr)
   ·cases hd
  ·cases hd
theorem Ro {C : Ctx} {β : Nat -> Pl} {h : List Ob} {w : World} {bor : Bool} (hs : bL C β h w) : ∀ {ts : List Ty} {vs : List V} {x : dJ ts} {us : List Value},nL bor h ts vs = some (true,x) -> jI β w (C.N β h) vs us ->
  DensRel w (zPc bor (C.N β h)) ts x us
 | [],[],_,[],_,_ => rfl
 | [t],[v],x,[u],hd,hr => ⟨u,rfl,Vq hd hs hr.1⟩
 | t :: s :: r,v :: vs,x,u :: us,hd,hr => by
  simp only [nL] at hd
  split at hd
  ·rename_i c y d z h1 h2
   simp only [Option.some.injEq,Prod.mk.injEq,Bool.and_eq_true] at hd
   obtain ⟨⟨rfl,rfl⟩,rfl⟩:=hd
   exact ⟨u,us,rfl,Vq h1 hs hr.1,Ro hs h2 hr.2⟩
  ·cases hd
 | [],[],_,_ :: _,_,hr => hr.elim
 | [],_ :: _,_,_,h,_ => by simp [nL] at h
 | [t],[],_,_,h,_ => by simp [nL] at h
 | [t],[s],_,[],_,hr => hr.elim
 | [t],[s],_,_ :: _ :: _,_,hr => hr.2.elim
 | [t],_ :: _ :: _,_,_,h,_ => by simp [nL] at h
 | t :: u :: r,[],_,_,h,_ => by simp [nL] at h
 | t :: u :: r,s :: ss,_,[],_,hr => hr.elim
theorem Vr {h : List Ob} : ∀ {l : L},l.isD = true -> l.deep h = some (true,l)
 | .val ..,_ => rfl
 | .jF,_ => rfl
 | .bI,_ => rfl
 | .gD ..,_ => rfl
 | .clo f [],_ => rfl
 | .clo f (_ :: _),h => by cases h
 | .ptr ..,h => by cases h
 | .iG ..,h => by cases h
 | .dL ..,h => by cases h
 | .sl ..,h => by cases h
 | .own ..,h => by cases h
 | .bad _,h => by cases h
 | .cK ..,h => by cases h
theorem Rp {h : List Ob} : ∀ {ls : List L},aZ L.isD ls = true -> zC h ls = some (true,ls)
 | [],_ => rfl
 | l :: ls,hd => by
  simp only [aZ,Bool.and_eq_true] at hd
  simp only [zC,Vr hd.1,Rp hd.2,Bool.and_self]
theorem Vs {bor : Bool} {t : Ty} {v : V} (hd : v.isD = true) (h h2 : List Ob) : Ic bor h t v = Ic bor h2 t v:=by
 cases bor with
 | false => rfl
 | true =>
  unfold Ic
  cases v with
  | one l => simp only [V.deep,Vr (show l.isD = true from hd)]
  | agg ls => simp only [V.deep,Rp (show aZ L.isD ls = true from hd)]
  | _ => rfl
theorem Rq {bor : Bool} : ∀ {ts : List Ty} {vs : List V} (_ : aZ V.isD vs = true) (h h2 : List Ob),nL bor h ts vs = nL bor h2 ts vs
 | [],[],_,_,_ => rfl
 | [t],[v],hd,h,h2 => by
  simp only [aZ,Bool.and_true] at hd
  simp only [nL,Vs hd h h2]
 | t :: s :: r,v :: vs,hd,h,h2 => by
  simp only [aZ,Bool.and_eq_true] at hd
  simp only [nL,Vs hd.1 h h2,Rq (ts:=s :: r) hd.2 h h2]
 | [],_ :: _,_,_,_ => rfl
 | [t],[],_,_,_ => rfl
 | [t],_ :: _ :: _,_,_,_ => rfl
 | t :: s :: r,[],_,_,_ => rfl
theorem Vt {β : Nat -> Pl} {w : World} {N : Nat -> Nat -> Prop} {ss : List (Sum L (List L))} {us : List Value} (h : aJ (eX β w N) ss us) : (zIe ss).Rel β w N (kZ us):=by
 match ss,us,h with
 | [],[],_ => exact ⟨[],rfl,trivial⟩
 | [.inl l],[u],h => exact h.1
 | [.inr ls],[u],h => exact h.1
 | s :: t :: ss,u :: v :: us,h => cases s <;> exact ⟨_,rfl,h⟩
theorem gG {f : FuncId} {as rs : List Ty} {F : dJ as -> Option (dJ rs)} (h : Pure P f as rs F) : (lI as rs F).OK P f:=by
 refine ⟨h.1,fun vs hp y hr C β w xs hP hs ha => ?_,fun _ vs h1 h2 hd => ⟨by simp only [lI]; rw [Rq hd h1 h2],fun _ => rfl⟩,fun _ _ _ _ => rfl⟩
 subst hP
 simp only [lI] at hr
 split at hr
 ·rename_i c x hd
  simp only [Option.some.injEq,Prod.mk.injEq] at hr
  obtain ⟨rfl,hF⟩:=hr
  have hx:=Ro hs hd ha
  have hn : ∀ b j,C.N β hp b j -> b < w.heap.size:=fun b j hb => by
   rcases hb with hb | ⟨id,o,ho,_,hbk⟩
   ·exact Nat.lt_of_lt_of_le (hs.n0 b j hb) hs.size
   ·exact (hs.dU id o b ho ⟨j,hbk⟩).2.1
  refine (h.2 x y hF w _ xs (C.glob w hs.frame) (fun b j hb => ?_) hx).mono ?_
  ·cases hfl : aZ Ty.flat rs with
   | true => rw [hfl] at hb; exact hb.elim
   | false => rw [hfl] at hb; exact hn b j hb
  ·rintro e w' ⟨us,rfl,ho,ht,hop,hk,hy⟩
   have hy' : DensRel w' (C.N β hp) rs y us:=by
    cases hfl : aZ Ty.flat rs with
    | true => exact hy.flat hfl
    | false => rw [hfl] at hy; exact hy
   refine ⟨_,_,β,⟨rfl,rfl⟩,Moves.refl β,hk.weaken fun _ _ h => h.elim,fun _ _ _ h => h,?_,_,rfl,Vt (Rm hy')⟩
   refine ⟨fun id o hob => (hs.obj id o hob).mono (Moves.refl β) (hk.weaken fun _ _ h => h.elim) (fun _ _ _ h => h) fun b hb => hk.block b (hs.dU id o b hob hb).2.1 (fun _ h => h),hs.dead,hs.jG,?_,hs.n0,hs.frame.uU hk fun _ _ _ h => h.elim,Nat.le_trans hs.size hk.size,ho.trans hs.os,ht.trans hs.tape,hop.trans hs.output,hs.fixed⟩
   ·intro id o b hob hb
    obtain ⟨k1,k2,k3⟩:=hs.dU id o b hob hb
    exact ⟨k1,Nat.lt_of_lt_of_le k2 hk.size,k3⟩
 ·cases hr
def pes : List (FuncId × PE) -> FuncId -> Option PE
 | [],_ => none
 | (g,e) :: r,f => match Nat.beq g f with
  | true => some e
  | false => pes r f
def orc (ρ : Type) (l : List (FuncId × PE)) : Orc ρ:=⟨pes l,fun _ _ _ _ => none⟩
theorem zPd {ρ : Type} : ∀ {l : List (FuncId × PE)},(∀ p ∈ l,p.2.OK P p.1) -> fJ P (orc ρ l):=by
 intro l h
 refine ⟨fun f e he => ?_,fun _ _ _ _ _ h => by cases h⟩
 simp only [orc] at he
 induction l with
 | nil => cases he
 | cons p r ih =>
  obtain ⟨g,e'⟩:=p
  simp only [pes] at he
  split at he
  ·rename_i hb
   have:=Nat.eq_of_beq_eq_true hb
   subst this
   simp only [Option.some.injEq] at he
   subst he
   exact h _ (.head _)
  ·exact ih (fun p hp => h p (.tail _ hp)) he
theorem all_nil {Q : FuncId × PE -> Prop} : ∀ p ∈ ([] : List (FuncId × PE)),Q p:=fun _ h => by cases h
theorem all_cons {Q : FuncId × PE -> Prop} {p : FuncId × PE} {l : List (FuncId × PE)} (h : Q p) (hl : ∀ q ∈ l,Q q) : ∀ q ∈ p :: l,Q q:=fun q hq => by
 cases hq with
 | head => exact h
 | tail _ hq => exact hl q hq
end
end Go.Dec
namespace Go.Dec
mutual
def L.back (f v : Nat -> Nat) : L -> L
 | .ptr id o => .ptr (f id) o
 | .cK id o => .cK (f id) o
 | .iG id o es i sub => .iG (f id) o es i sub
 | .dL id u i o => .dL (f id) (u + v id) i o
 | .sl id u i n => .sl (f id) (u + v id) i n
 | .own id u => .own (f id) (u + v id)
 | .clo g caps => .clo g (L.backs f v caps)
 | .mp id => .mp (f id)
 | l => l
def L.backs (f v : Nat -> Nat) : List L -> List L
 | [] => []
 | l :: ls => l.back f v :: L.backs f v ls
end
def V.back (f v : Nat -> Nat) : V -> V
 | .one l => .one (l.back f v)
 | .agg ls => .agg (L.backs f v ls)
 | _ => .aU
def Ob.back (f v : Nat -> Nat) (id : Nat) : Ob -> Ob
 | .box e ls => .box e (L.backs f v ls)
 | .arr e t u rows wr => .arr e t (u + v id) rows wr
 | .fm tab => .fm tab
section
variable {β β' : Nat -> Pl} {w : World} {N N' : Nat -> Nat -> Prop}
structure Cw (p q : Pl) (v : Nat) : Prop where
 live : q.live = p.live
 box : q.box = p.box
 blk : q.blk = p.blk
 row : p.box = false -> q.ver = p.ver + v ∧ q.size = p.size ∧ q.cap = p.cap ∧ q.len = p.len
theorem Cw.zKi {p q : Pl} {v : Nat} (h : Cw p q v) (hb : p.box = false) {off len : Nat} {c : Value} : cO q off len c <-> cO p off len c:=by
 obtain ⟨_,h2,h3,_⟩:=h.row hb
 unfold cO
 rw [h.blk,h2,h3]
mutual
theorem L.Rel.back {f v : Nat -> Nat} (hβ : ∀ j,(β j).live = true -> Cw (β j) (β' (f j)) (v j)) (hN : ∀ b j,b < w.heap.size -> N' b j -> N b j) : ∀ {l : L} {cs : List Value},l.Rel β w N cs -> (l.back f v).Rel β' w N' cs
 | .val t x,cs,h => by simp only [L.back,L.Rel] at *; exact Ty.Rel.mono (Keep.refl _ w) hN h
 | .ptr id off,cs,h => by
  simp only [L.back,L.Rel] at *
  obtain ⟨h1,h2,h3⟩:=h
  have:=hβ id h1
  exact ⟨this.live ▸ h1,this.box ▸ h2,by rw [this.blk]; exact h3⟩
 | .iG id off es i sub,cs,h => by
  simp only [L.back,L.Rel] at *
  obtain ⟨h1,h2,h3⟩:=h
  have:=hβ id h1
  exact ⟨this.live ▸ h1,this.box ▸ h2,by rw [this.blk]; exact h3⟩
 | .jF,cs,h => by simp only [L.back,L.Rel] at *; exact h
 | .cK id off,cs,h => by
  simp only [L.back,L.Rel] at *
  obtain ⟨c,e,h⟩:=h
  refine ⟨c,e,?_⟩
  rcases h with h | ⟨h1,h2,h3⟩
  ·exact .inl h
  ·have:=hβ id h1
   exact .inr ⟨this.live ▸ h1,this.box ▸ h2,by rw [this.blk]; exact h3⟩
 | .dL id u i off,cs,h => by
  simp only [L.back,L.Rel] at *
  obtain ⟨h1,h2,h3,c,h4,h5,h6⟩:=h
  have:=hβ id h1
  obtain ⟨g1,g2,g3,g4⟩:=this.row h2
  refine ⟨this.live ▸ h1,this.box ▸ h2,by omega,c,h4,h5,fun hv => ?_⟩
  rw [this.blk,g2]
  exact h6 (by omega)
 | .gD t x off,cs,h => by simp only [L.back,L.Rel] at *; obtain ⟨c,hc,hr⟩:=h; exact ⟨c,hc,hr.mono (Keep.refl _ w) hN⟩
 | .sl id u off len,cs,h => by
  simp only [L.back,L.Rel] at *
  obtain ⟨h1,h2,h3,c,h4,h5,h6⟩:=h
  have:=hβ id h1
  obtain ⟨g1,g2,g3,g4⟩:=this.row h2
  exact ⟨this.live ▸ h1,this.box ▸ h2,by omega,c,h4,h5,fun hv => (this.zKi h2).2 (h6 (by omega))⟩
 | .own id u,cs,h => by
  simp only [L.back,L.Rel] at *
  obtain ⟨h1,h2,h3,c,h4,h5,h6⟩:=h
  have:=hβ id h1
  obtain ⟨g1,g2,g3,g4⟩:=this.row h2
  exact ⟨this.live ▸ h1,this.box ▸ h2,by omega,c,h4,h5,fun hv => by rw [g4]; exact (this.zKi h2).2 (h6 (by omega))⟩
 | .bI,cs,h => by simp only [L.back,L.Rel] at *; exact h
 | .clo g caps,cs,h => by
  simp only [L.back,L.Rel] at *
  obtain ⟨us,hc,hr⟩:=h
  exact ⟨us,hc,L.bB.back hβ hN hr⟩
 | .bad n,cs,h => by simp only [L.back,L.Rel] at *; exact h
 | .sK x tab,cs,h => by simp only [L.back,L.Rel] at *; exact h
 | .mp id,cs,h => by
  simp only [L.back,L.Rel] at *
  obtain ⟨h1,h2,h3⟩:=h
  have:=hβ id h1
  exact ⟨this.live ▸ h1,this.box ▸ h2,by rw [this.blk]; exact h3⟩
theorem L.bB.back {f v : Nat -> Nat} (hβ : ∀ j,(β j).live = true -> Cw (β j) (β' (f j)) (v j)) (hN : ∀ b j,b < w.heap.size -> N' b j -> N b j) : ∀ {ls : List L} {us : List Value},L.bB β w N ls us -> L.bB β' w N' (L.backs f v ls) us
 | [],us,h => by simp only [L.backs,L.bB] at *; exact h
 | l :: ls,us,h => by
  simp only [L.backs,L.bB] at *
  obtain ⟨u,r,e,h1,h2⟩:=h
  exact ⟨u,r,e,L.Rel.back hβ hN h1,L.bB.back hβ hN h2⟩
end
theorem aF.back {f v : Nat -> Nat} (hβ : ∀ j,(β j).live = true -> Cw (β j) (β' (f j)) (v j)) (hN : ∀ b j,b < w.heap.size -> N' b j -> N b j) : ∀ {ls : List L} {cs : List Value},aF β w N ls cs -> aF β' w N' (L.backs f v ls) cs
 | [],_,h => h
 | _l :: _ls,_,⟨c1,c2,e,h1,h2⟩ => ⟨c1,c2,e,h1.back hβ hN,aF.back hβ hN h2⟩
theorem V.Rel.back {f v : Nat -> Nat} (hβ : ∀ j,(β j).live = true -> Cw (β j) (β' (f j)) (v j)) (hN : ∀ b j,b < w.heap.size -> N' b j -> N b j) {x : V} {u : Value} (h : x.Rel β w N u) : (x.back f v).Rel β' w N' u:=by
 cases x with
 | one l => exact L.Rel.back hβ hN h
 | agg ls => obtain ⟨cs,e,h⟩:=h; exact ⟨cs,e,h.back hβ hN⟩
 | _ => trivial
theorem Ob.Rel.back {f v : Nat -> Nat} (hβ : ∀ j,(β j).live = true -> Cw (β j) (β' (f j)) (v j)) (hN : ∀ b j,b < w.heap.size -> N' b j -> N b j) {id : Nat} {o : Ob} (h : o.Rel β w N (β id)) : (o.back f v id).Rel β' w N' (β' (f id)):=by
 cases o with
 | box e ls =>
  simp only [Ob.back,Ob.Rel] at *
  obtain ⟨h1,h2,b,cs,h3,h4,h5⟩:=h
  have:=hβ id h1
  exact ⟨this.live ▸ h1,this.box ▸ h2,b,cs,this.blk ▸ h3,h4.back hβ hN,h5⟩
 | arr e t u rows wr =>
  simp only [Ob.back,Ob.Rel] at *
  obtain ⟨h1,h2,h3,h4,h5,h6,h7⟩:=h
  have:=hβ id h1
  obtain ⟨g1,g2,g3,g4⟩:=this.row h2
  refine ⟨this.live ▸ h1,this.box ▸ h2,by omega,by rw [g2,h4],h5,by rw [g4,h6],?_⟩
  rw [this.blk,g3]
  rcases h7 with h7 | ⟨b,cur,css,k1,k2,k3,k4⟩
  ·exact .inl h7
  ·exact .inr ⟨b,cur,css,k1,k2,k3.mono fun _ _ h => h.mono (Keep.refl _ w) hN,k4⟩
 | fm tab =>
  simp only [Ob.back,Ob.Rel] at *
  obtain ⟨h1,h2,b,es,n,h3,h4⟩:=h
  have:=hβ id h1
  exact ⟨this.live ▸ h1,this.box ▸ h2,b,es,n,this.blk ▸ h3,h4⟩
end
def Ev (P : Program) (f : FuncId) (si so : Sh) (F : si.X -> Option so.X) : Prop :=
 iE P f = true ∧ ∀ x y,F x = some y -> ∀ (C : Ctx) (β : Nat -> Pl) (w : World) (xs : List Value),C.P = P -> C.fix.length <= si.os.length -> Sim C β (si.enc x) { tmps:=xs.toArray,defers:=[] } w ->
  Calls P f xs.toArray w fun e w' => ∃ (us : List Value) (β' : Nat -> Pl),e = .returned (kZ us) ∧ Sim C β' (so.enc y) { tmps:=us.toArray,defers:=[] } w'
def Ku : List V -> Option (List (Sum L (List L)))
 | [] => some []
 | v :: r => match v.sum,Ku r with
  | some s,some ss => some (s :: ss)
  | _,_ => none
def zIg (vs : List V) : V :=
 match Ku vs with
 | some ss => zIe ss
 | none => .aU
def Ie (g : Nat -> Option Ob) : Nat -> List Ob -> List Ob
 | _,[] => []
 | i,o :: r => (match g i with | some o' => o' | none => o) :: Ie g (i + 1) r
def nU (f v : Nat -> Nat) : Nat -> List Ob -> List Ob
 | _,[] => []
 | j,o :: r => o.back f v j :: nU f v (j + 1) r
def qM : List Ob -> List OS -> Bool
 | [],_ => true
 | .box .. :: r,_ :: s => qM r s
 | .fm .. :: r,_ :: s => qM r s
 | .arr .. :: r,.row .. :: s => qM r s
 | _,_ => false
def iP (ρ : List Nat) (n : Nat) (j : Nat) : Nat:=match ρ[j]? with | some i => i | none => n + (j - ρ.length)
def iY (ρ : List Nat) (h : List Ob) (j : Nat) : Nat:=match ρ[j]? with
 | some i => (match h[i]? with | some (.arr _ _ u _ _) => u + 1 | _ => 0)
 | none => 0
def jJ (ρ : List Nat) (h hy : List Ob) : List Ob :=
 Ie (fun i => match pos i ρ 0 with | some j => (match hy[j]? with | some o => some (o.back (iP ρ h.length) (iY ρ h) j) | none => none) | none => none) 0 h ++ nU (iP ρ h.length) (iY ρ h) ρ.length (hy.drop ρ.length)
def Vu (ρ : List Nat) (h : List Ob) (si so : Sh) : Bool :=
 nodupB ρ && (aZ (fun i => Nat.blt i h.length) ρ && (Nat.beq ρ.length si.os.length && (aZ Ob.wr (inH ρ h) && qM (inH ρ h) so.os)))
def peM (si so : Sh) (F : si.X -> Option so.X) : PE where
 R:=so.X
 use:=2
 run vs h:=match si.dec ⟨vs.map (V.ren (reach vs h) h),inH (reach vs h) h⟩ with
  | some x => some (Vu (reach vs h) h si so,F x)
  | none => none
 enc y vs h:=(zIg ((so.enc y).r.map (V.back (iP (reach vs h) h.length) (iY (reach vs h) h))),jJ (reach vs h) h (so.enc y).h)
theorem Vv {g : Nat -> Option Ob} : ∀ {h : List Ob} {n i : Nat},(Ie g n h)[i]? = (h[i]?).map fun o => (match g (n + i) with | some o' => o' | none => o)
 | [],n,i => by simp [Ie]
 | o :: r,n,0 => by simp [Ie]
 | o :: r,n,i + 1 => by
  simp only [Ie,List.getElem?_cons_succ]
  rw [Vv (h:=r),show n + 1 + i = n + (i + 1) by omega]
theorem nH {g : Nat -> Option Ob} : ∀ {h : List Ob} {n : Nat},(Ie g n h).length = h.length
 | [],_ => rfl
 | _ :: r,n => congrArg (· + 1) (nH (h:=r) (n:=n + 1))
theorem Cy {f v : Nat -> Nat} : ∀ {h : List Ob} {n i : Nat},(nU f v n h)[i]? = (h[i]?).map fun o => o.back f v (n + i)
 | [],n,i => by simp [nU]
 | o :: r,n,0 => by simp [nU]
 | o :: r,n,i + 1 => by
  simp only [nU,List.getElem?_cons_succ]
  rw [Cy (h:=r),show n + 1 + i = n + (i + 1) by omega]
theorem wG {f v : Nat -> Nat} : ∀ {h : List Ob} {n : Nat},(nU f v n h).length = h.length
 | [],_ => rfl
 | _ :: r,n => congrArg (· + 1) (wG (h:=r) (n:=n + 1))
theorem Ob.Cz {f v : Nat -> Nat} {j : Nat} (o : Ob) : (o.back f v j).iL = o.iL:=by cases o <;> rfl
theorem Ob.qN {f v : Nat -> Nat} {j : Nat} (o : Ob) : (o.back f v j).wr = o.wr:=by cases o <;> rfl
theorem rE : ∀ {hc : List Ob} {os : List OS} {j : Nat} {e : TypeId} {t : Ty} {u : Nat} {rows : List t.den} {wr : Bool},qM hc os = true -> hc[j]? = some (.arr e t u rows wr) -> ∃ e' t',os[j]? = some (.row e' t')
 | [],_,j,_,_,_,_,_,_,h => by simp at h
 | .box .. :: r,[],j,_,_,_,_,_,hk,_ => by cases hk
 | .box .. :: r,s :: os,0,_,_,_,_,_,_,h => by simp at h
 | .box .. :: r,s :: os,j + 1,_,_,_,_,_,hk,h => by
  obtain ⟨e',t',h'⟩:=rE (hc:=r) (os:=os) (j:=j) hk (by simpa using h)
  exact ⟨e',t',by simpa using h'⟩
 | .fm .. :: r,[],j,_,_,_,_,_,hk,_ => by cases hk
 | .fm .. :: r,s :: os,0,_,_,_,_,_,_,h => by simp at h
 | .fm .. :: r,s :: os,j + 1,_,_,_,_,_,hk,h => by
  obtain ⟨e',t',h'⟩:=rE (hc:=r) (os:=os) (j:=j) hk (by simpa using h)
  exact ⟨e',t',by simpa using h'⟩
 | .arr .. :: r,.fm .. :: os,j,_,_,_,_,_,hk,_ => by cases hk
 | .arr .. :: r,[],j,_,_,_,_,_,hk,_ => by cases hk
 | .arr .. :: r,.box .. :: os,j,_,_,_,_,_,hk,_ => by cases hk
 | .arr .. :: r,.row e t :: os,0,_,_,_,_,_,_,_ => ⟨e,t,rfl⟩
 | .arr .. :: r,.row e t :: os,j + 1,_,_,_,_,_,hk,h => by
  obtain ⟨e',t',h'⟩:=rE (hc:=r) (os:=os) (j:=j) hk (by simpa using h)
  exact ⟨e',t',by simpa using h'⟩
theorem wH {A : Type} : ∀ {os : List OS} {x : OTs os A} {j : Nat} {e : TypeId} {t : Ty},os[j]? = some (.row e t) -> ∃ rows,(eY os x).1[j]? = some (.arr e t 0 rows true)
 | [],_,j,_,_,h => by simp at h
 | .box e0 ls :: r,x,0,_,_,h => by simp at h
 | .box e0 ls :: r,x,j + 1,e,t,h => by
  obtain ⟨rows,h'⟩:=wH (os:=r) (x:=(bF ls x).2) (j:=j) (by simpa using h)
  exact ⟨rows,by simpa [eY] using h'⟩
 | .fm tab :: r,x,0,_,_,h => by simp at h
 | .fm tab :: r,x,j + 1,e,t,h => by
  obtain ⟨rows,h'⟩:=wH (os:=r) (x:=x) (j:=j) (by simpa using h)
  exact ⟨rows,by simpa [eY] using h'⟩
 | .row e0 t0 :: r,x,0,e,t,h => by
  simp only [List.getElem?_cons_zero,Option.some.injEq,OS.row.injEq] at h
  obtain ⟨rfl,rfl⟩:=h
  exact ⟨x.1,rfl⟩
 | .row e0 t0 :: r,x,j + 1,e,t,h => by
  obtain ⟨rows,h'⟩:=wH (os:=r) (x:=x.2) (j:=j) (by simpa using h)
  exact ⟨rows,by simpa [eY] using h'⟩
theorem zH {A : Type} : ∀ {os : List OS} {x : OTs os A} {j : Nat} {o : Ob},(eY os x).1[j]? = some o -> o.wr = true
 | [],_,j,_,h => by simp [eY] at h
 | .box e0 ls :: r,x,0,_,h => by simp only [eY,List.getElem?_cons_zero,Option.some.injEq] at h; subst h; rfl
 | .box e0 ls :: r,x,j + 1,o,h => zH (os:=r) (x:=(bF ls x).2) (j:=j) (by simpa [eY] using h)
 | .fm tab :: r,x,0,_,h => by simp only [eY,List.getElem?_cons_zero,Option.some.injEq] at h; subst h; rfl
 | .fm tab :: r,x,j + 1,o,h => zH (os:=r) (x:=x) (j:=j) (by simpa [eY] using h)
 | .row e0 t0 :: r,x,0,_,h => by simp only [eY,List.getElem?_cons_zero,Option.some.injEq] at h; subst h; rfl
 | .row e0 t0 :: r,x,j + 1,o,h => zH (os:=r) (x:=x.2) (j:=j) (by simpa [eY] using h)
theorem Rs {β : Nat -> Pl} {w : World} {N : Nat -> Nat -> Prop} : ∀ {vs : List V} {us : List Value} {ss : List (Sum L (List L))},Ku vs = some ss -> aJ (fun v u => V.Rel β w N v u) vs us -> aJ (eX β w N) ss us
 | [],[],ss,h,_ => by simp only [Ku,Option.some.injEq] at h; subst h; trivial
 | v :: vs,u :: us,ss,h,hr => by
  simp only [Ku] at h
  split at h
  ·rename_i s ss' h1 h2
   simp only [Option.some.injEq] at h
   subst h
   exact ⟨V.Oo h1 hr.1,Rs h2 hr.2⟩
  ·cases h
 | [],_ :: _,_,_,hr => hr.elim
 | _ :: _,[],_,_,hr => hr.elim
theorem zIh {β : Nat -> Pl} {w : World} {N : Nat -> Nat -> Prop} {vs : List V} {us : List Value} (hr : aJ (fun v u => V.Rel β w N v u) vs us) : (zIg vs).Rel β w N (kZ us):=by
 unfold zIg
 split
 ·rename_i ss h
  exact Vt (Rs h hr)
 ·trivial
theorem zAh {α γ : Type} {R : α -> γ -> Prop} : ∀ {x : List α} {y : List γ},x.length = y.length -> (∀ (i : Nat) (a : α) (b : γ),x[i]? = some a -> y[i]? = some b -> R a b) -> aJ R x y
 | [],[],_,_ => trivial
 | a :: x,b :: y,hl,h => ⟨h 0 a b rfl rfl,zAh (by simpa using hl) fun i c d hc hd => h (i + 1) c d (by simpa using hc) (by simpa using hd)⟩
 | [],_ :: _,hl,_ => by simp at hl
 | _ :: _,[],hl,_ => by simp at hl
end Go.Dec
namespace Go.Dec
section
variable {P : Program} {f : FuncId} {si so : Sh} {F : si.X -> Option so.X}
theorem Zh {ρ : List Nat} {h : List Ob} (hc : Vu ρ h si so = true) : nodupB ρ = true ∧ (∀ i ∈ ρ,i < h.length) ∧ ρ.length = si.os.length ∧ (∀ (j : Nat) (o : Ob),(inH ρ h)[j]? = some o -> o.wr = true) ∧ qM (inH ρ h) so.os = true:=by
 simp only [Vu,Bool.and_eq_true] at hc
 obtain ⟨h1,h2,h3,h4,h5⟩:=hc
 refine ⟨h1,fun i hi => ?_,Nat.eq_of_beq_eq_true h3,fun j o ho => lU h4 j o ho,h5⟩
 obtain ⟨n,hn⟩:=List.getElem?_of_mem hi
 exact Nat.le_of_ble_eq_true (lU h2 n i hn)
def nM : Ob -> Bool
 | .box .. => true
 | .arr .. => false
 | .fm _ => true
def wI (β : Nat -> Pl) (h : List Ob) (i : Nat) : Option Nat:=match nM (yY h i) with | true => (β i).blk | false => none
def inC (C : Ctx) (β : Nat -> Pl) (h : List Ob) (w : World) (ρ : List Nat) (hs : bL C β h w) : Ctx where
 P:=C.P
 N0 b j:=C.N β h b j ∧ ∀ i ∈ ρ,∀ o,h[i]? = some o -> ¬ o.blks (β i) b
 w0:=w
 uV b j:=∃ (i : Nat) (o : Ob),i ∈ ρ ∧ h[i]? = some o ∧ o.wr = true ∧ o.at (β i) b j
 glob w' hw:=C.glob w' (hs.frame.uU hw fun b j hb hm => by
  obtain ⟨i,o,_,ho,hwo,hbk⟩:=hm
  rcases (hs.dU i o b ho ⟨j,hbk⟩).2.2 with h1 | h1
  ·omega
  ·exact h1 j hwo hbk)
 fix:=ρ.map (wI β h)
theorem zPe {C : Ctx} {β : Nat -> Pl} {w : World} {h : List Ob} {ρ : List Nat} {vs : List V} {xs : List Value} (hs : bL C β h w) (ha : jI β w (C.N β h) vs xs) (hnd : nodupB ρ = true) (hlt : ∀ i ∈ ρ,i < h.length) :
  Sim (inC C β h w ρ hs) (qK β ρ) ⟨vs.map (V.ren ρ h),inH ρ h⟩ { tmps:=xs.toArray,defers:=[] } w:=by
 have Vh:=Vg hs hlt
 have hget : ∀ i ∈ ρ,∃ o,h[i]? = some o:=fun i hi => ⟨h[i]'(hlt i hi),by simp [hlt i hi]⟩
 have hβ : ∀ {j i : Nat},ρ[j]? = some i -> qK β ρ j = { β i with ver:=0 }:=fun hi => by simp only [qK,hi]
 have hNw : ∀ b j,C.N β h b j -> b < w.heap.size:=fun b j hb => by
  rcases hb with hb | ⟨id,o,ho,_,hbk⟩
  ·exact Nat.lt_of_lt_of_le (hs.n0 b j hb) hs.size
  ·exact (hs.dU id o b ho ⟨j,hbk⟩).2.1
 have hN : ∀ b j,b < w.heap.size -> (inC C β h w ρ hs).N (qK β ρ) (inH ρ h) b j -> C.N β h b j:=fun b k _ hb => by
  rcases hb with hb | ⟨j,o,ho,hw,hbk⟩
  ·exact hb.1
  ·obtain ⟨i,hi,rfl⟩:=lG ho
   obtain ⟨o',ho'⟩:=hget i (List.mem_of_getElem? hi)
   rw [cZ ho',Ob.Cr] at hw
   rw [cZ ho',hβ hi] at hbk
   exact .inr ⟨i,o',ho',hw,Ob.mJ (Ob.kM ρ h o') rfl rfl hbk⟩
 refine ⟨⟨?_,?_,?_,?_,fun b j hb => hNw b j hb.1,Keep.refl _ _,Nat.le_refl _,rfl,rfl,rfl,?_⟩,rfl,by simpa using aJ.length ha,?_⟩
 ·intro j o ho
  obtain ⟨i,hi,rfl⟩:=lG ho
  obtain ⟨o',ho'⟩:=hget i (List.mem_of_getElem? hi)
  rw [cZ ho',hβ hi]
  have hob:=hs.obj i o' ho'
  cases o' with
  | box e ls =>
   simp only [Ob.ren,Ob.Rel] at *
   obtain ⟨h1,h2,b,cs,h3,h4,h5⟩:=hob
   exact ⟨h1,h2,b,cs,h3,h4.oV Vh hN,h5⟩
  | arr e t v rows wr =>
   simp only [Ob.ren,Ob.Rel] at *
   obtain ⟨h1,h2,h3,h4,h5,h6,h7⟩:=hob
   refine ⟨h1,h2,trivial,h4,h5,h6,?_⟩
   rcases h7 with h7 | ⟨b,cur,css,k1,k2,k3,k4⟩
   ·exact .inl h7
   ·exact .inr ⟨b,cur,css,k1,k2,k3.mono fun _ _ h => h.mono (Keep.refl _ w) hN,k4⟩
  | fm tab => simp only [Ob.ren,Ob.Rel] at *; exact hob
 ·intro j hj
  simp only [inH,List.length_map] at hj
  simp only [qK,List.getElem?_eq_none hj]
 ·intro i j o1 o2 b h1 h2 hb1 hb2
  obtain ⟨i',hi,rfl⟩:=lG h1
  obtain ⟨j',hj,rfl⟩:=lG h2
  obtain ⟨o1',ho1⟩:=hget i' (List.mem_of_getElem? hi)
  obtain ⟨o2',ho2⟩:=hget j' (List.mem_of_getElem? hj)
  rw [hβ hi,cZ ho1] at hb1
  rw [hβ hj,cZ ho2] at hb2
  have:=hs.jG i' j' o1' o2' b ho1 ho2 (Ob.fO (Ob.kM ρ h o1') rfl rfl hb1) (Ob.fO (Ob.kM ρ h o2') rfl rfl hb2)
  subst this
  exact tZ hnd hi hj
 ·intro j o b ho hb
  obtain ⟨i,hi,rfl⟩:=lG ho
  obtain ⟨o',ho'⟩:=hget i (List.mem_of_getElem? hi)
  rw [cZ ho',hβ hi] at hb ⊢
  have hb':=Ob.fO (o':=o') (p':=β i) (Ob.kM ρ h o') rfl rfl hb
  exact ⟨fun k hn => hn.2 i (List.mem_of_getElem? hi) o' ho' hb',(hs.dU i o' b ho' hb').2.1,.inr fun k hw hk => ⟨i,o',List.mem_of_getElem? hi,ho',by rw [Ob.Cr] at hw; exact hw,Ob.mJ (Ob.kM ρ h o') rfl rfl hk⟩⟩
 ·intro j o hj
  simp only [inC,List.getElem?_map,Option.map_eq_some_iff] at hj
  obtain ⟨i,hi,rfl⟩:=hj
  refine ⟨by simpa [inH] using (List.getElem?_eq_some_iff.1 hi).1,fun b hb => ?_⟩
  obtain ⟨o',ho'⟩:=hget i (List.mem_of_getElem? hi)
  have hob:=hs.obj i o' ho'
  rw [hβ hi]
  unfold wI at hb
  rw [cZ ho'] at hb
  cases o' with
  | box e ls =>
   simp only [Ob.Rel] at hob
   exact ⟨hb,hob.2.1⟩
  | arr e t v rows wr => cases hb
  | fm tab =>
   simp only [Ob.Rel] at hob
   exact ⟨hb,hob.2.1⟩
 ·intro i v hv
  simp only [List.getElem?_map,Option.map_eq_some_iff] at hv
  obtain ⟨v0,hv0,rfl⟩:=hv
  have hl : i < xs.length:=by rw [<- aJ.length ha]; exact (List.getElem?_eq_some_iff.1 hv0).1
  have hr:=ha.get i (List.getElem?_eq_some_iff.1 hv0).1 hl
  have e : vs[i]'(List.getElem?_eq_some_iff.1 hv0).1 = v0:=(List.getElem?_eq_some_iff.1 hv0).2
  rw [e] at hr
  have e2 : (xs.toArray).getD i undef = xs[i]:=by simp [hl]
  simp only [e2]
  exact hr.oV Vh hN
def fV (β β' : Nat -> Pl) (ρ : List Nat) (h : List Ob) : Nat -> Pl:=fun i =>
 match pos i ρ 0 with
 | some j => match nM (yY h i) with
  | true => β i
  | false => { β' j with ver:=(β' j).ver + iY ρ h j }
 | none => if i < h.length then β i else β' (i - h.length + ρ.length)
theorem xA {ρ : List Nat} {h hy : List Ob} (hk : ρ.length <= hy.length) {id : Nat} {o : Ob} (ho : (jJ ρ h hy)[id]? = some o) :
  (id < h.length ∧ pos id ρ 0 = none ∧ h[id]? = some o) ∨ (∃ j ob oy,id < h.length ∧ ρ[j]? = some id ∧ pos id ρ 0 = some j ∧ h[id]? = some ob ∧ hy[j]? = some oy ∧ o = oy.back (iP ρ h.length) (iY ρ h) j) ∨
   ∃ j oy,ρ.length <= j ∧ id = h.length + (j - ρ.length) ∧ hy[j]? = some oy ∧ o = oy.back (iP ρ h.length) (iY ρ h) j:=by
 unfold jJ at ho
 by_cases hid : id < h.length
 ·rw [List.getElem?_append_left (by rw [nH]; exact hid),Vv,Nat.zero_add] at ho
  obtain ⟨ob,hob⟩ : ∃ ob,h[id]? = some ob:=⟨h[id],by simp [hid]⟩
  rw [hob] at ho
  simp only [Option.map_some,Option.some.injEq] at ho
  cases hp : pos id ρ 0 with
  | none =>
   rw [hp] at ho
   simp only at ho
   exact .inl ⟨hid,rfl,by rw [hob,ho]⟩
  | some j =>
   obtain ⟨m,hm,hi⟩:=qG hp
   rw [Nat.zero_add] at hm
   subst hm
   have hj : j < hy.length:=Nat.lt_of_lt_of_le (List.getElem?_eq_some_iff.1 hi).1 hk
   have hyj : hy[j]? = some hy[j]:=by simp [hj]
   rw [hp] at ho
   simp only [hyj] at ho
   exact .inr (.inl ⟨j,ob,hy[j],hid,hi,rfl,hob,hyj,ho.symm⟩)
 ·rw [List.getElem?_append_right (by rw [nH]; omega),nH,Cy,List.getElem?_drop] at ho
  simp only [Option.map_eq_some_iff] at ho
  obtain ⟨oy,h1,h2⟩:=ho
  exact .inr (.inr ⟨ρ.length + (id - h.length),oy,by omega,by omega,h1,h2.symm⟩)
theorem xU {ρ : List Nat} {h hy : List Ob} : (jJ ρ h hy).length = h.length + (hy.length - ρ.length):=by
 simp [jJ,nH,wG]
theorem zIi {C : Ctx} {β : Nat -> Pl} {h : List Ob} {w w' : World} {ρ : List Nat} (hs : bL C β h w) (hnd : nodupB ρ = true) (hlt : ∀ i ∈ ρ,i < h.length) (hwr : ∀ (j : Nat) (o : Ob),(inH ρ h)[j]? = some o -> o.wr = true) (Vw : qM (inH ρ h) so.os = true)
  {y : so.X} {us : List Value} {β' : Nat -> Pl} (hs' : Sim (inC C β h w ρ hs) β' (so.enc y) { tmps:=us.toArray,defers:=[] } w') :
  ∃ β2,Moves β β2 ∧ Keep (C.N β h) w w' ∧ (∀ b j,b < w.heap.size -> C.N β2 (jJ ρ h (so.enc y).h) b j -> C.N β h b j) ∧ bL C β2 (jJ ρ h (so.enc y).h) w' ∧
   aJ (fun v u => V.Rel β2 w' (C.N β2 (jJ ρ h (so.enc y).h)) v u) ((so.enc y).r.map (V.back (iP ρ h.length) (iY ρ h))) us:=by
 generalize hhy : (so.enc y).h = hy at *
 have hget : ∀ i ∈ ρ,∃ o,h[i]? = some o:=fun i hi => ⟨h[i]'(hlt i hi),by simp [hlt i hi]⟩
 have hfix : ∀ {j i : Nat},ρ[j]? = some i -> j < hy.length ∧ ∀ b,wI β h i = some b -> (β' j).blk = some b ∧ (β' j).box = true:=fun {j i} hi => by
  have:=hs'.heap.fixed j (wI β h i) (by simp [inC,hi])
  rw [hhy] at this
  exact this
 have hk : ρ.length <= hy.length:=by
  rcases Nat.lt_or_ge hy.length ρ.length with h1 | h1
  ·have:=(hfix (j:=hy.length) (i:=ρ[hy.length]) (by simp [h1])).1
   omega
  ·exact h1
 have zXz : ∀ i ∈ ρ,∀ o,h[i]? = some o -> o.wr = true:=fun i hi o ho => by
  obtain ⟨n,hn⟩:=List.getElem?_of_mem hi
  have:=hwr n ((yY h i).ren ρ h) (by simp [inH,hn])
  rw [Ob.Cr,cZ ho] at this
  exact this
 have hrow : ∀ {j i : Nat} {o : Ob},ρ[j]? = some i -> h[i]? = some o -> nM o = false -> ∃ oy,hy[j]? = some oy ∧ nM oy = false:=fun {j i o} hi ho hb => by
  cases o with
  | box e ls => cases hb
  | fm tab => cases hb
  | arr e t u rows wr =>
   obtain ⟨e',t',hrw⟩:=rE (j:=j) (e:=e) (t:=t) (u:=0) (rows:=rows) (wr:=wr) Vw (by simp [inH,hi,cZ ho,Ob.ren])
   obtain ⟨rows',hr'⟩:=wH (A:=Unit) (x:=(wC so.rs (List.replicate so.n .aU) y).2) hrw
   exact ⟨_,by rw [<- hhy]; exact hr',rfl⟩
 have Oq:=hs'.heap.obj
 rw [hhy] at Oq
 have zFr : ∀ j,hy.length <= j -> (β' j).live = false:=fun j hj => hs'.heap.dead j (by rw [hhy]; exact hj)
 have xV:=hs'.heap.dU
 rw [hhy] at xV
 have zAi:=hs'.heap.jG
 rw [hhy] at zAi
 have zCn : ∀ {j i : Nat} {o : Ob},ρ[j]? = some i -> h[i]? = some o -> nM o = true -> (β' j).box = true ∧ (β' j).blk = (β i).blk ∧ (β i).box = true ∧ (β i).live = true ∧ (β' j).live = true:=fun {j i o} hi ho hb => by
  have hob:=hs.obj i o ho
  obtain ⟨hj,hfx⟩:=hfix hi
  cases o with
  | arr => cases hb
  | fm tab =>
   simp only [Ob.Rel] at hob
   obtain ⟨k1,k2,b,es,n,k3,_⟩:=hob
   have hfo : wI β h i = some b:=by simp only [wI,cZ ho,nM,k3]
   obtain ⟨g1,g2⟩:=hfx b hfo
   exact ⟨g2,by rw [g1,k3],k2,k1,(Oq j hy[j] (by simp [hj])).live⟩
  | box e ls =>
   simp only [Ob.Rel] at hob
   obtain ⟨k1,k2,b,cs,k3,_⟩:=hob
   have hfo : wI β h i = some b:=by simp only [wI,cZ ho,nM,k3]
   obtain ⟨g1,g2⟩:=hfx b hfo
   exact ⟨g2,by rw [g1,k3],k2,k1,(Oq j hy[j] (by simp [hj])).live⟩
 have zIj : ∀ {j i : Nat} {o : Ob},ρ[j]? = some i -> h[i]? = some o -> nM o = true -> fV β β' ρ h i = β i:=fun hi ho hb => by
  simp only [fV,zAa hnd hi,cZ ho,hb]
 have zIk : ∀ {j i : Nat} {o : Ob},ρ[j]? = some i -> h[i]? = some o -> nM o = false -> fV β β' ρ h i = { β' j with ver:=(β' j).ver + iY ρ h j }:=fun hi ho hb => by
  simp only [fV,zAa hnd hi,cZ ho,hb]
 have zCo : ∀ {i : Nat},pos i ρ 0 = none -> i < h.length -> fV β β' ρ h i = β i:=fun hp hi => by
  simp only [fV,hp,if_pos hi]
 have zKj : ∀ {i : Nat},h.length <= i -> pos i ρ 0 = none:=fun {i} hi => by
  cases hp : pos i ρ 0 with
  | none => rfl
  | some j =>
   obtain ⟨m,_,hm⟩:=qG hp
   have:=hlt i (List.mem_of_getElem? hm)
   omega
 have zPf : ∀ {j : Nat},ρ.length <= j -> fV β β' ρ h (h.length + (j - ρ.length)) = β' j:=fun {j} hj => by
  simp only [fV,zKj (Nat.le_add_right _ _)]
  rw [if_neg (by omega)]
  congr 1
  omega
 have eF : ∀ {j i : Nat},ρ[j]? = some i -> iP ρ h.length j = i:=fun hi => by simp only [iP,hi]
 have eF2 : ∀ {j : Nat},ρ.length <= j -> iP ρ h.length j = h.length + (j - ρ.length):=fun hj => by simp only [iP,List.getElem?_eq_none hj]
 have eU2 : ∀ {j : Nat},ρ.length <= j -> iY ρ h j = 0:=fun hj => by simp only [iY,List.getElem?_eq_none hj]
 have hpl : ∀ j,(β' j).live = true -> Cw (β' j) (fV β β' ρ h (iP ρ h.length j)) (iY ρ h j):=fun j hl => by
  have hj : j < hy.length:=by
   rcases Nat.lt_or_ge j hy.length with h1 | h1
   ·exact h1
   ·rw [zFr j h1] at hl; cases hl
  cases hi : ρ[j]? with
  | some i =>
   rw [eF hi]
   obtain ⟨o,ho⟩:=hget i (List.mem_of_getElem? hi)
   cases hb : nM o with
   | true =>
    obtain ⟨g1,g2,g3,g4,g5⟩:=zCn hi ho hb
    rw [zIj hi ho hb]
    exact ⟨by rw [g4,hl],by rw [g3,g1],g2.symm,fun h => by rw [g1] at h; cases h⟩
   | false =>
    rw [zIk hi ho hb]
    exact ⟨rfl,rfl,rfl,fun _ => ⟨rfl,rfl,rfl,rfl⟩⟩
  | none =>
   have hge : ρ.length <= j:=List.getElem?_eq_none_iff.1 hi
   rw [eF2 hge,zPf hge,eU2 hge]
   exact ⟨rfl,rfl,rfl,fun _ => ⟨rfl,rfl,rfl,rfl⟩⟩
 have hown : ∀ {b k : Nat},(inC C β h w ρ hs).uV b k -> ∃ (i : Nat) (o : Ob),i ∈ ρ ∧ h[i]? = some o ∧ o.wr = true ∧ o.at (β i) b k:=fun {b k} hb => hb
 have hkeep : Keep (C.N β h) w w':=hs'.heap.frame.weaken fun k j ho => by
  obtain ⟨i,o,_,h2,h3,h4⟩:=hown ho
  exact .inr ⟨i,o,h2,h3,h4⟩
 have hat : ∀ {id j : Nat} {ob oy : Ob},ρ[j]? = some id -> h[id]? = some ob -> hy[j]? = some oy -> ∀ b k,(oy.back (iP ρ h.length) (iY ρ h) j).at (fV β β' ρ h id) b k -> oy.at (β' j) b k:=fun {id j ob oy} hi hob hoy b k hbk => by
  cases hb2 : nM ob with
  | true =>
   have hp : oy.iL = false:=(Oq j oy hoy).zHb (zCn hi hob hb2).1
   rw [zIj hi hob hb2] at hbk
   have:=Ob.Ho (by simp [Ob.plain,Ob.Cz,hp]) hbk
   exact Ob.kC (by rw [(zCn hi hob hb2).2.1]; exact this)
  | false =>
   rw [zIk hi hob hb2] at hbk
   exact Ob.mJ (Ob.Cz oy) rfl rfl hbk
 have zIl : ∀ {j : Nat} {oy : Ob},ρ.length <= j -> ∀ b k,(oy.back (iP ρ h.length) (iY ρ h) j).at (fV β β' ρ h (h.length + (j - ρ.length))) b k -> oy.at (β' j) b k:=fun {j oy} hj b k hbk => by
  rw [zPf hj] at hbk
  exact Ob.mJ (Ob.Cz oy) rfl rfl hbk
 have Vx : Moves β (fV β β' ρ h):=fun id hl => by
  have hid : id < h.length:=by
   rcases Nat.lt_or_ge id h.length with h1 | h1
   ·exact h1
   ·rw [hs.dead id h1] at hl; cases hl
  cases hp : pos id ρ 0 with
  | none => exact .inl (zCo hp hid)
  | some j =>
   obtain ⟨m,hm,hi⟩:=qG hp
   rw [Nat.zero_add] at hm
   subst hm
   obtain ⟨o,ho⟩:=hget id (List.mem_of_getElem? hi)
   cases hb : nM o with
   | true => exact .inl (zIj hi ho hb)
   | false =>
    obtain ⟨oy,hoy,hby⟩:=hrow hi ho hb
    have hY:=Oq j oy hoy
    have hO:=hs.obj id o ho
    rw [zIk hi ho hb]
    cases o with
    | box => cases hb
    | fm => cases hb
    | arr e t u rows wr =>
     cases oy with
     | box => cases hby
     | fm => cases hby
     | arr e' t' u' rows' wr' =>
      simp only [Ob.Rel] at hY hO
      refine .inr ⟨hO.2.1,hY.1,hY.2.1,?_⟩
      simp only [iY,hi,ho]
      have:=hO.2.2.1
      omega
 have hbl : ∀ {b k : Nat},b < w.heap.size -> w.heap.size <= b ∨ (inC C β h w ρ hs).uV b k -> C.N β h b k:=fun {b k} hb ho => by
  rcases ho with ho | ho
  ·omega
  ·obtain ⟨i,o,_,h2,h3,h4⟩:=hown ho
   exact .inr ⟨i,o,h2,h3,h4⟩
 have zKk : ∀ b j,b < w.heap.size -> C.N (fV β β' ρ h) (jJ ρ h hy) b j -> C.N β h b j:=fun b k hb hn => by
  rcases hn with hn | ⟨id,o,ho,hw,hbk⟩
  ·exact .inl hn
  ·rcases xA hk ho with ⟨hid,hp,ho⟩ | ⟨j,ob,oy,hid,hi,hp,hob,hoy,rfl⟩ | ⟨j,oy,hj,rfl,hoy,rfl⟩
   ·rw [zCo hp hid] at hbk
    exact .inr ⟨id,o,ho,hw,hbk⟩
   ·rw [Ob.qN] at hw
    have hbk:=hat hi hob hoy b k hbk
    exact hbl hb ((xV j oy b hoy ⟨k,hbk⟩).2.2.imp (fun h => h) fun h => h k hw hbk)
   ·rw [Ob.qN] at hw
    have hbk:=zIl hj b k hbk
    exact hbl hb ((xV j oy b hoy ⟨k,hbk⟩).2.2.imp (fun h => h) fun h => h k hw hbk)
 have zKl : ∀ b j,b < w'.heap.size -> C.N (fV β β' ρ h) (jJ ρ h hy) b j -> (inC C β h w ρ hs).N β' (so.enc y).h b j:=fun b k _ hn => by
  rw [hhy]
  rcases hn with hn | ⟨id,o,ho,hw,hbk⟩
  ·exact .inl ⟨.inl hn,fun i hi o ho hbk => (hs.dU i o b ho hbk).1 k hn⟩
  ·rcases xA hk ho with ⟨hid,hp,ho⟩ | ⟨j,ob,oy,hid,hi,hp,hob,hoy,rfl⟩ | ⟨j,oy,hj,rfl,hoy,rfl⟩
   ·rw [zCo hp hid] at hbk
    refine .inl ⟨.inr ⟨id,o,ho,hw,hbk⟩,fun i hi oi hoi hbi => ?_⟩
    have:=hs.jG id i o oi b ho hoi ⟨k,hbk⟩ hbi
    subst this
    exact vH hp hi
   ·rw [Ob.qN] at hw
    exact .inr ⟨j,oy,hoy,hw,hat hi hob hoy b k hbk⟩
   ·rw [Ob.qN] at hw
    exact .inr ⟨j,oy,hoy,hw,zIl hj b k hbk⟩
 have Oe : ∀ {id : Nat} {o : Ob} {b : Nat},pos id ρ 0 = none -> h[id]? = some o -> o.blks (β id) b -> b < w.heap.size ∧ ∀ k,¬ (inC C β h w ρ hs).uV b k:=fun {id o b} hp ho hb => by
  refine ⟨(hs.dU id o b ho hb).2.1,fun k hw => ?_⟩
  obtain ⟨i,oi,h1,h2,_,h4⟩:=hown hw
  have:=hs.jG id i o oi b ho h2 hb ⟨k,h4⟩
  subst this
  exact vH hp h1
 have hcls : ∀ {id : Nat} {o : Ob},(jJ ρ h hy)[id]? = some o -> (pos id ρ 0 = none ∧ h[id]? = some o ∧ fV β β' ρ h id = β id) ∨ ∃ j oy,hy[j]? = some oy ∧ id = iP ρ h.length j ∧ o = oy.back (iP ρ h.length) (iY ρ h) j ∧ ∀ b k,o.at (fV β β' ρ h id) b k -> oy.at (β' j) b k:=fun {id o} ho => by
  rcases xA hk ho with ⟨hid,hp,ho⟩ | ⟨j,ob,oy,hid,hi,hp,hob,hoy,rfl⟩ | ⟨j,oy,hj,rfl,hoy,rfl⟩
  ·exact .inl ⟨hp,ho,zCo hp hid⟩
  ·exact .inr ⟨j,oy,hoy,(eF hi).symm,rfl,hat hi hob hoy⟩
  ·exact .inr ⟨j,oy,hoy,(eF2 hj).symm,rfl,zIl hj⟩
 have zPg : ∀ {j : Nat} {oy : Ob},hy[j]? = some oy -> (oy.back (iP ρ h.length) (iY ρ h) j).wr = true:=fun {j oy} hoy => by
  rw [Ob.qN,<- hhy] at *
  exact zH hoy
 have zPh : ∀ {j id : Nat} {oy : Ob} {b : Nat},hy[j]? = some oy -> (∀ b k,(oy.back (iP ρ h.length) (iY ρ h) j).at (fV β β' ρ h id) b k -> oy.at (β' j) b k) -> (oy.back (iP ρ h.length) (iY ρ h) j).blks (fV β β' ρ h id) b -> b < w.heap.size -> (∀ k,¬ (inC C β h w ρ hs).uV b k) -> False:=fun {j id oy b} hoy eb hb g1 g2 => by
  obtain ⟨q,hb⟩:=hb
  rcases (xV j oy b hoy ⟨q,eb b q hb⟩).2.2 with h3 | h3
  ·have h3 : w.heap.size <= b:=h3
   omega
  ·have hw:=zPg hoy
   rw [Ob.qN] at hw
   exact g2 q (h3 q hw (eb b q hb))
 have hHS : bL C (fV β β' ρ h) (jJ ρ h hy) w':=by
  refine ⟨?_,?_,?_,?_,hs.n0,?_,Nat.le_trans hs.size hs'.heap.size,hs'.heap.os.trans hs.os,hs'.heap.tape.trans hs.tape,hs'.heap.output.trans hs.output,?_⟩
  ·intro id o ho
   rcases hcls ho with ⟨hp,ho,eb⟩ | ⟨j,oy,hoy,rfl,rfl,_⟩
   ·rw [eb]
    exact (hs.obj id o ho).mono Vx hkeep zKk fun b hb => hs'.heap.frame.block b (Oe hp ho hb).1 (Oe hp ho hb).2
   ·have hY:=Oq j oy hoy
    rw [<- hhy] at hY
    exact Ob.Rel.back (f:=iP ρ h.length) (v:=iY ρ h) hpl zKl hY
  ·intro id hid
   rw [xU] at hid
   have hp:=zKj (i:=id) (by omega)
   simp only [fV,hp]
   rw [if_neg (by omega)]
   exact zFr _ (by omega)
  ·intro i j o1 o2 b h1 h2 hb1 hb2
   rcases hcls h1 with ⟨hp1,ho1,eb1⟩ | ⟨j1,oy1,zPi,rfl,rfl,eb1⟩ <;> rcases hcls h2 with ⟨hp2,ho2,eb2⟩ | ⟨j2,oy2,zPj,rfl,rfl,eb2⟩
   ·rw [eb1] at hb1
    rw [eb2] at hb2
    exact hs.jG i j o1 o2 b ho1 ho2 hb1 hb2
   ·exfalso
    rw [eb1] at hb1
    obtain ⟨g1,g2⟩:=Oe hp1 ho1 hb1
    exact zPh zPj eb2 hb2 g1 g2
   ·exfalso
    rw [eb2] at hb2
    obtain ⟨g1,g2⟩:=Oe hp2 ho2 hb2
    exact zPh zPi eb1 hb1 g1 g2
   ·obtain ⟨q1,hb1⟩:=hb1
    obtain ⟨q2,hb2⟩:=hb2
    rw [zAi j1 j2 oy1 oy2 b zPi zPj ⟨q1,eb1 b q1 hb1⟩ ⟨q2,eb2 b q2 hb2⟩]
  ·intro id o b ho hb
   rcases hcls ho with ⟨hp,ho,eb⟩ | ⟨j,oy,hoy,rfl,rfl,eb⟩
   ·rw [eb] at hb ⊢
    obtain ⟨k1,k2,k3⟩:=hs.dU id o b ho hb
    exact ⟨k1,Nat.lt_of_lt_of_le k2 hs'.heap.size,k3⟩
   ·obtain ⟨q,hb⟩:=hb
    obtain ⟨k1,k2,k3⟩:=xV j oy b hoy ⟨q,eb b q hb⟩
    rcases Nat.lt_or_ge b w.heap.size with hlt | hge
    ·have hold : ∀ k,(oy.back (iP ρ h.length) (iY ρ h) j).wr = true -> (oy.back (iP ρ h.length) (iY ρ h) j).at (fV β β' ρ h (iP ρ h.length j)) b k -> ∃ (i : Nat) (o : Ob),i ∈ ρ ∧ h[i]? = some o ∧ o.wr = true ∧ o.at (β i) b k:=fun k hw hk => by
      rw [Ob.qN] at hw
      rcases k3 with k3 | k3
      ·have k3 : w.heap.size <= b:=k3
       omega
      ·exact hown (k3 k hw (eb b k hk))
     have hwy : (oy.back (iP ρ h.length) (iY ρ h) j).wr = true:=zPg hoy
     obtain ⟨i,oi,h1,h2,h3,h4⟩:=hold q hwy hb
     obtain ⟨g1,g2,g3⟩:=hs.dU i oi b h2 ⟨q,h4⟩
     refine ⟨g1,k2,?_⟩
     rcases g3 with g3 | g3
     ·exact .inl g3
     ·right
      intro k hw hk
      obtain ⟨i2,oi2,f1,f2,f3,f4⟩:=hold k hw hk
      rcases (hs.dU i2 oi2 b f2 ⟨k,f4⟩).2.2 with g5 | g5
      ·have:=hs.jG i i2 oi oi2 b h2 f2 ⟨q,h4⟩ ⟨k,f4⟩
       subst this
       rw [h2] at f2
       simp only [Option.some.injEq] at f2
       subst f2
       exact g3 k f3 f4
      ·exact g5 k f3 f4
    ·have h0:=hs.size
     exact ⟨fun _ hn => by have:=hs.n0 b _ hn; omega,k2,.inl (by omega)⟩
  ·refine hs.frame.uU hs'.heap.frame fun b j hb ho => ?_
   obtain ⟨i,oi,h1,h2,h3,h4⟩:=hown ho
   rcases (hs.dU i oi b h2 ⟨j,h4⟩).2.2 with h5 | h5
   ·omega
   ·exact h5 j h3 h4
  ·intro j o hj
   obtain ⟨k1,k2⟩:=hs.fixed j o hj
   refine ⟨by rw [xU]; omega,fun b hb => ?_⟩
   obtain ⟨k3,k4⟩:=k2 b hb
   have hoj : h[j]? = some h[j]:=by simp [k1]
   rcases Vx j (hs.obj j _ hoj).live with e | ⟨e,_⟩
   ·rw [e]; exact ⟨k3,k4⟩
   ·rw [k4] at e; cases e
 refine ⟨fV β β' ρ h,Vx,hkeep,zKk,hHS,?_⟩
 refine zAh (by have:=hs'.size; simpa using this) fun i v u hv hu => ?_
 simp only [List.getElem?_map,Option.map_eq_some_iff] at hv
 obtain ⟨v0,hv0,rfl⟩:=hv
 have hr:=hs'.reg i v0 hv0
 have e : (us.toArray).getD i undef = u:=by
  rw [Array.getD_eq_getD_getElem?]
  simp [hu]
 simp only [e] at hr
 exact hr.back (f:=iP ρ h.length) (v:=iY ρ h) hpl zKl
theorem Kv (hM : Ev P f si so F) : (peM si so F).OK P f:=by
 refine ⟨hM.1,fun vs h y hr C β w xs hP hs ha => ?_,fun h => (by cases h),fun h => (by cases h)⟩
 subst hP
 simp only [peM] at hr
 split at hr
 case h_2 => cases hr
 rename_i x hx
 simp only [Option.some.injEq,Prod.mk.injEq] at hr
 obtain ⟨hok,hF⟩:=hr
 obtain ⟨hnd,hlt,hlen,hwr,Vw⟩:=Zh hok
 have Nz:=zAc hx (zPe hs ha hnd hlt)
 refine (hM.2 x y hF (inC C β h w _ hs) _ w xs rfl (by simp [inC,hlen]) Nz).mono ?_
 rintro e w' ⟨us,β',rfl,hs'⟩
 obtain ⟨β2,h1,h2,h3,h4,h5⟩:=zIi hs hnd hlt hwr Vw hs'
 exact ⟨_,_,β2,⟨rfl,rfl⟩,h1,h2,h3,h4,_,rfl,zIh h5⟩
end
end Go.Dec
namespace Go.Dec
section
variable {T : Tab} {C : Ctx} {β : Nat -> Pl} {w : World}
def Ig (T : Tab) (σ : St) : ResultVar -> Option (Bool × V)
 | .tmp t => some (true,σ.r.getD t .aU)
 | .cell t ty =>
  match σ.r.getD t .aU with
  | .one l => loadAt T σ.h ty l
  | _ => none
def iQ (T : Tab) (σ : St) : List ResultVar -> Option (Bool × List V)
 | [] => some (true,[])
 | x :: r =>
  match Ig T σ x,iQ T σ r with
  | some (c,l),some (d,ls) => some (c && d,l :: ls)
  | _,_ => none
theorem zIm {σ : St} {a : Act} {rv : ResultVar} {v : V} (hT : aV C.P T) (hs : Sim C β σ a w) (h : Ig T σ rv = some (true,v)) :
  ∃ x,(kP a.tmps rv).run C.P w = .ok x w ∧ v.Rel β w (C.N β σ.h) x:=by
 cases rv with
 | tmp t =>
  simp only [Ig,Option.some.injEq,Prod.mk.injEq,true_and] at h
  subst h
  exact ⟨a.tmps.getD t undef,rfl,zD hs t⟩
 | cell t ty =>
  simp only [Ig] at h
  have hr:=zD hs t
  split at h
  ·rename_i l hl
   rw [hl] at hr
   obtain ⟨y,h1,h2⟩:=tJ hT h hs.heap hr
   obtain ⟨ad,h3,h4⟩:=wZ h1
   refine ⟨y,?_,h2⟩
   simp only [kP,h3,asAddr,Sem.run_bind,Sem.run_pure,Result.andThen_ok,h4]
  ·cases h
theorem Rt {σ : St} {a : Act} (hT : aV C.P T) (hs : Sim C β σ a w) : ∀ {rs : List ResultVar} {vs : List V},iQ T σ rs = some (true,vs) ->
  ∀ acc : Array Value,∃ us : List Value,(rs.foldlM (fun (acc : Array Value) rv => do let v <- kP a.tmps rv; pure (acc.push v)) acc).run C.P w = .ok (acc ++ us.toArray) w ∧ aJ (fun v u => V.Rel β w (C.N β σ.h) v u) vs us
 | [],vs,h,acc => by
  simp only [iQ,Option.some.injEq,Prod.mk.injEq,true_and] at h
  subst h
  exact ⟨[],by simp,trivial⟩
 | rv :: rs,vs,h,acc => by
  simp only [iQ] at h
  split at h
  ·rename_i c s d r h1 h2
   simp only [Option.some.injEq,Prod.mk.injEq,Bool.and_eq_true] at h
   obtain ⟨⟨rfl,rfl⟩,rfl⟩:=h
   obtain ⟨x,g1,g2⟩:=zIm hT hs h1
   obtain ⟨us,g4,g5⟩:=Rt hT hs h2 (acc.push x)
   refine ⟨x :: us,?_,⟨g2,g5⟩⟩
   simp only [List.foldlM_cons,Sem.run_bind,g1,Result.andThen_ok,Sem.run_pure,g4]
   simp
  ·cases h
theorem Vy {σ : St} {a : Act} {fn : Func} {vs : List V} (hT : aV C.P T) (hs : Sim C β σ a w) (h : iQ T σ fn.results.toList = some (true,vs)) :
  ∃ us : List Value,(results fn a.tmps).run C.P w = .ok (kZ us) w ∧ aJ (fun v u => V.Rel β w (C.N β σ.h) v u) vs us:=by
 obtain ⟨us,h1,h2⟩:=Rt hT hs h #[]
 refine ⟨us,?_,h2⟩
 have e0 : results fn a.tmps = (do let vs <- fn.results.mapM (kP a.tmps); pure (if h : vs.size = 1 then vs[0] else .tuple vs)):=by
  unfold results
  congr 1
 have hm : (fn.results.mapM (kP a.tmps) : Sem (Array Value)).run C.P w = .ok us.toArray w:=by
  rw [Array.mapM_eq_foldlM,<- Array.foldlM_toList]
  have e : (fun (acc : Array Value) rv => do let v <- kP a.tmps rv; pure (acc.push v) : Array Value -> ResultVar -> Sem (Array Value)) = (fun (acc : Array Value) rv => acc.push <$> kP a.tmps rv):=by
   funext acc rv
   rfl
  rw [e] at h1
  simpa using h1
 rw [e0]
 simp only [Sem.run_bind,hm,Result.andThen_ok,Sem.run_pure]
 match us with
 | [] => rfl
 | [u] => rfl
 | u :: v :: us => simp [kZ]
theorem zIn {σ : St} {a : Act} {vs : List V} {us : List Value} (hs : Sim C β σ a w) (h : aJ (fun v u => V.Rel β w (C.N β σ.h) v u) vs us) : Sim C β ⟨vs,σ.h⟩ { tmps:=us.toArray,defers:=[] } w:=by
 refine ⟨hs.heap,rfl,by simpa using h.length,fun i v hv => ?_⟩
 have hl : i < us.length:=by rw [<- h.length]; exact (List.getElem?_eq_some_iff.1 hv).1
 have hr:=h.get i (List.getElem?_eq_some_iff.1 hv).1 hl
 rw [(List.getElem?_eq_some_iff.1 hv).2] at hr
 have e2 : (us.toArray).getD i undef = us[i]:=by simp [hl]
 simp only [e2]
 exact hr
def Vz (T : Tab) {ρ : Type} (res : List ResultVar) (so : Sh) (co : List Co) (σ : St) (g : so.X -> Option ρ) : Option ρ :=
 match iQ T σ res with
 | some (c,vs) => chk c (enter T so co ⟨vs,σ.h⟩ g)
 | none => none
def zCp (T : Tab) (res : List ResultVar) (so : Sh) (co : List Co) : K so.X:=fun e σ =>
 match e with
 | .normal => Vz T res so co σ some
 | .ret => Vz T res so co σ some
 | _ => none
theorem zIo {σ : St} {a : Act} {fn : Func} {so : Sh} {co : List Co} {ρ : Type} {g : so.X -> Option ρ} {r : ρ} {kf : Nat} (hT : aV C.P T) (hkf : C.fix.length <= kf) (hfx : aZ (Co.fx kf) co = true) (hs : Sim C β σ a w) (h : Vz T fn.results.toList so co σ g = some r) :
  ∃ (us : List Value) (β' : Nat -> Pl) (y : so.X),(results fn a.tmps).run C.P w = .ok (kZ us) w ∧ Sim C β' (so.enc y) { tmps:=us.toArray,defers:=[] } w ∧ g y = some r:=by
 unfold Vz at h
 split at h
 ·rename_i c vs hvs
  obtain ⟨rfl,h⟩:=jW h
  obtain ⟨us,h1,h2⟩:=Vy hT hs hvs
  obtain ⟨β',_,y,h3,h4⟩:=rY hT hkf hfx h (zIn hs h2)
  exact ⟨us,β',y,h1,h3,h4⟩
 ·cases h
end
section
variable {P : Program} {T : Tab} {f : FuncId} {fn : Func} {c : Code} {si so sp : Sh}
theorem zFs {C : Ctx} {β : Nat -> Pl} {w : World} {σ : St} {xs : List Value} (n : Nat) (hs : Sim C β σ { tmps:=xs.toArray,defers:=[] } w) :
  Sim C β ⟨wE σ.r n,σ.h⟩ { tmps:=xs.toArray ++ Array.replicate (n - xs.toArray.size) undef,defers:=[] } w:=by
 have hl : σ.r.length = xs.length:=by simpa using hs.size
 refine ⟨hs.heap,rfl,by simp [wE,hl],fun i u hu => ?_⟩
 simp only [wE] at hu
 by_cases hi : i < σ.r.length
 ·rw [List.getElem?_append_left hi] at hu
  have hr:=hs.reg i u hu
  have e : (xs.toArray ++ Array.replicate (n - xs.toArray.size) undef).getD i undef = (xs.toArray).getD i undef:=by
   rw [Array.getD_eq_getD_getElem?,Array.getD_eq_getD_getElem?,Array.getElem?_append_left (by simpa using by omega)]
  rw [e]
  exact hr
 ·rw [List.getElem?_append_right (by omega),List.getElem?_replicate] at hu
  split at hu
  ·simp only [Option.some.injEq] at hu; subst hu; trivial
  ·cases hu
theorem zI {F : si.X -> Option so.X} {Γ : Orc so.X} {an : An so.X} {co : List Co} (hf : P.funcs[f]? = some fn) (hb : fn.body = some c) (hh : iE P f = true) (hT : aV P T) (hΓ : fJ P Γ) (hm : P.follows .mixedOrders = true)
  (ha : Vl P si.os.length c an) (hfx : an.fx si.os.length = true) (hco : aZ (Co.fx si.os.length) co = true)
  (h : ∀ x,ev Γ T c an ⟨wE (si.enc x).r fn.ntmps,(si.enc x).h⟩ (zCp T fn.results.toList so co) = F x) : Ev P f si so F:=by
 refine ⟨hh,fun x y hF C β w xs hP hkf hs => ?_⟩
 rw [<- h x] at hF
 refine calls_of_wp hf hb ?_
 refine Vn (P:=P) hT hΓ hm c an ha hfx _ _ y hF C β _ w _ hP hkf (zFs fn.ntmps hs) ?_
 intro e x' σ' β' a' w' hs' hx' hk
 have fin : Vz T fn.results.toList so co σ' some = some y -> x' = .ret ∨ x' = .normal -> bodyPost P fn (fun e w' => ∃ (us : List Value) (β' : Nat -> Pl),e = .returned (kZ us) ∧ Sim C β' (so.enc y) { tmps:=us.toArray,defers:=[] } w') x' a' w':=by
  intro hk hx'
  subst hP
  obtain ⟨us,β2,y',h1,h2,h3⟩:=zIo (fn:=fn) hT hkf hco hs' hk
  obtain rfl:=Option.some.inj h3
  rcases hx' with rfl | rfl
  ·exact ⟨hs'.defers,_,h1,us,β2,rfl,h2⟩
  ·exact ⟨hs'.defers,_,h1,us,β2,rfl,h2⟩
 cases e with
 | normal => obtain rfl:=hx'; exact fin hk (.inr rfl)
 | ret => obtain rfl:=hx'; exact fin hk (.inl rfl)
 | exit i => simp [zCp] at hk
 | goto l => simp [zCp] at hk
 | pan t u => simp [zCp] at hk
structure GE (ρ : Type) where
 f : FuncId
 run : List V -> List Ob -> (Out -> List Ob -> Option ρ) -> Option ρ
structure GE.OK (P : Program) {ρ : Type} (g : GE ρ) : Prop where
 ok : ∀ vs h k r,g.run vs h k = some r -> iE P g.f = true ∧ tO P g.f vs h fun out h' => k out h' = some r ∧ ∀ id,id < h.length -> id ∉ reach vs h -> h'[id]? = h[id]?
def zIp {ρ : Type} : List (GE ρ) -> FuncId -> List V -> List Ob -> (Out -> List Ob -> Option ρ) -> Option ρ
 | [],_,_,_,_ => none
 | g :: r,f,vs,h,k => match Nat.beq g.f f with
  | true => g.run vs h k
  | false => zIp r f vs h k
def pE (ρ : Type) (l : List (FuncId × PE)) (m : List (GE ρ)) : Orc ρ:=⟨pes l,zIp m⟩
theorem jK {ρ : Type} {l : List (FuncId × PE)} {m : List (GE ρ)} (h : ∀ p ∈ l,p.2.OK P p.1) (hm : ∀ g ∈ m,g.OK P) : fJ P (pE ρ l m):=by
 refine ⟨(zPd (ρ:=ρ) h).pure,fun f vs hp k r hr => ?_⟩
 simp only [pE] at hr
 induction m with
 | nil => cases hr
 | cons g m ih =>
  simp only [zIp] at hr
  split at hr
  ·rename_i hb
   have:=Nat.eq_of_beq_eq_true hb
   subst this
   exact (hm g (.head _)).ok vs hp k r hr
  ·exact ih (fun g hg => hm g (.tail _ hg)) hr
theorem jL {ρ : Type} : ∀ g ∈ ([] : List (GE ρ)),g.OK P:=fun _ h => by cases h
end
end Go.Dec
