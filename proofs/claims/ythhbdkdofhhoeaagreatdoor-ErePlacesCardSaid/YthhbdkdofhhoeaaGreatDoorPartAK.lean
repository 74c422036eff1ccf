/- Part of a proof over this seat: a library of my own, and what it says of this seat. No statement is proved here. -/
import Derived.Test.YthhbdkdofhhoeaaGreatDoorPartAJ
namespace Go.Dec
mutual
def L.back (f v:Nat->Nat):L->L
 | .ptr id o=>.ptr (f id) o
 | .fM id o=>.fM (f id) o
 | .kP id o es i sub=>.kP (f id) o es i sub
 | .fC id u i o=>.fC (f id) (u+v id) i o
 | .sl id u i n=>.sl (f id) (u+v id) i n
 | .own id u=>.own (f id) (u+v id)
 | .clo g caps=>.clo g (L.backs f v caps)
 | .mp id=>.mp (f id)
 | l=>l
def L.backs (f v:Nat->Nat):List L->List L
 | []=>[]
 | l :: ls=>l.back f v :: L.backs f v ls
end
def V.back (f v:Nat->Nat):V->V
 | .one l=>.one (l.back f v)
 | .agg ls=>.agg (L.backs f v ls)
 | _=>.bL
def Ob.back (f v:Nat->Nat) (id:Nat):Ob->Ob
 | .box e ls=>.box e (L.backs f v ls)
 | .arr e t u rows wr=>.arr e t (u+v id) rows wr
 | .fm tab=>.fm tab
 | .dm kt vt es=>.dm kt vt es
 | .stk e ei u rows top=>.stk e ei (u+v id) rows (top.map (L.backs f v))
section
variable {β β':Nat->Pl} {w:World} {N N':Nat->Nat->Prop}
structure Mj (p q:Pl) (v:Nat):Prop where
 live:q.live=p.live
 box:q.box=p.box
 blk:q.blk=p.blk
 row:p.box=false->q.ver=p.ver+v∧q.size=p.size∧q.cap=p.cap∧q.len=p.len
 sub:p.box=false->q.sub=p.sub
theorem Mj.zTt {p q:Pl} {v:Nat} (h:Mj p q v) (hb:p.box=false) {off len:Nat} {c:Value}:cZ q off len c <-> cZ p off len c:=by
 obtain ⟨_,h2,h3,_⟩:=h.row hb
 unfold cZ
 rw [h.blk,h2,h3]
mutual
theorem L.Rel.back {f v:Nat->Nat} (hβ:∀ j,(β j).live=true->Mj (β j) (β' (f j)) (v j)) (hN:∀ b j,b < w.heap.size->N' b j->N b j):∀ {l:L} {cs:List Value},l.Rel β w N cs->(l.back f v).Rel β' w N' cs
 | .val t x,cs,h=>by simp only [L.back,L.Rel] at *; exact Ty.Rel.mono (Keep.refl _ w) hN h
 | .ptr id off,cs,h=>by
  simp only [L.back,L.Rel] at *
  obtain ⟨h1,h2,h3⟩:=h
  have:=hβ id h1
  exact ⟨this.live ▸ h1,this.box ▸ h2,by rw [this.blk]; exact h3⟩
 | .kP id off es i sub,cs,h=>by
  simp only [L.back,L.Rel] at *
  obtain ⟨h1,h2,h3⟩:=h
  have:=hβ id h1
  exact ⟨this.live ▸ h1,this.box ▸ h2,by rw [this.blk]; exact h3⟩
 | .jX,cs,h=>by simp only [L.back,L.Rel] at *; exact h
 | .fM id off,cs,h=>by
  simp only [L.back,L.Rel] at *
  obtain ⟨c,e,h⟩:=h
  refine ⟨c,e,?_⟩
  rcases h with h | ⟨h1,h2,h3⟩
  ·exact .inl h
  ·have:=hβ id h1
   exact .inr ⟨this.live ▸ h1,this.box ▸ h2,by rw [this.blk]; exact h3⟩
 | .fC id u i off,cs,h=>by
  simp only [L.back,L.Rel] at *
  obtain ⟨h1,h2,h3,c,h4,h5,h6⟩:=h
  have:=hβ id h1
  obtain ⟨g1,g2,g3,g4⟩:=this.row h2
  refine ⟨this.live ▸ h1,this.box ▸ h2,by omega,c,h4,h5,fun hv=>?_⟩
  rw [this.blk,g2]
  exact h6 (by omega)
 | .jY t x off,cs,h=>by simp only [L.back,L.Rel] at *; obtain ⟨c,hc,hr⟩:=h; exact ⟨c,hc,hr.mono (Keep.refl _ w) hN⟩
 | .sl id u off len,cs,h=>by
  simp only [L.back,L.Rel] at *
  obtain ⟨h1,h2,h3,c,h4,h5,h6⟩:=h
  have:=hβ id h1
  obtain ⟨g1,g2,g3,g4⟩:=this.row h2
  exact ⟨this.live ▸ h1,this.box ▸ h2,by omega,c,h4,h5,fun hv=>(this.zTt h2).2 (h6 (by omega))⟩
 | .own id u,cs,h=>by
  simp only [L.back,L.Rel] at *
  obtain ⟨h1,h2,h3,c,h4,h5,h6⟩:=h
  have:=hβ id h1
  obtain ⟨g1,g2,g3,g4⟩:=this.row h2
  exact ⟨this.live ▸ h1,this.box ▸ h2,by omega,c,h4,h5,fun hv=>by rw [g4]; exact (this.zTt h2).2 (h6 (by omega))⟩
 | .bV,cs,h=>by simp only [L.back,L.Rel] at *; exact h
 | .clo g caps,cs,h=>by
  simp only [L.back,L.Rel] at *
  obtain ⟨us,hc,hr⟩:=h
  exact ⟨us,hc,L.dA.back hβ hN hr⟩
 | .bad n,cs,h=>by simp only [L.back,L.Rel] at *; exact h
 | .Am x tab,cs,h=>by simp only [L.back,L.Rel] at *; exact h
 | .mp id,cs,h=>by
  simp only [L.back,L.Rel] at *
  obtain ⟨h1,h2,h3⟩:=h
  have:=hβ id h1
  exact ⟨this.live ▸ h1,this.box ▸ h2,by rw [this.blk]; exact h3⟩
theorem L.dA.back {f v:Nat->Nat} (hβ:∀ j,(β j).live=true->Mj (β j) (β' (f j)) (v j)) (hN:∀ b j,b < w.heap.size->N' b j->N b j):∀ {ls:List L} {us:List Value},L.dA β w N ls us->L.dA β' w N' (L.backs f v ls) us
 | [],us,h=>by simp only [L.backs,L.dA] at *; exact h
 | l :: ls,us,h=>by
  simp only [L.backs,L.dA] at *
  obtain ⟨u,r,e,h1,h2⟩:=h
  exact ⟨u,r,e,L.Rel.back hβ hN h1,L.dA.back hβ hN h2⟩
end
theorem aH.back {f v:Nat->Nat} (hβ:∀ j,(β j).live=true->Mj (β j) (β' (f j)) (v j)) (hN:∀ b j,b < w.heap.size->N' b j->N b j):∀ {ls:List L} {cs:List Value},aH β w N ls cs->aH β' w N' (L.backs f v ls) cs
 | [],_,h=>h
 | _l :: _ls,_,⟨c1,c2,e,h1,h2⟩=>⟨c1,c2,e,h1.back hβ hN,aH.back hβ hN h2⟩
theorem V.Rel.back {f v:Nat->Nat} (hβ:∀ j,(β j).live=true->Mj (β j) (β' (f j)) (v j)) (hN:∀ b j,b < w.heap.size->N' b j->N b j) {x:V} {u:Value} (h:x.Rel β w N u):(x.back f v).Rel β' w N' u:=by
 cases x with
 | one l=>exact L.Rel.back hβ hN h
 | agg ls=>obtain ⟨cs,e,h⟩:=h; exact ⟨cs,e,h.back hβ hN⟩
 | _=>trivial
theorem Ob.Rel.back {f v:Nat->Nat} (hβ:∀ j,(β j).live=true->Mj (β j) (β' (f j)) (v j)) (hN:∀ b j,b < w.heap.size->N' b j->N b j) {id:Nat} {o:Ob} (h:o.Rel β w N (β id)):(o.back f v id).Rel β' w N' (β' (f id)):=by
 cases o with
 | box e ls =>
  simp only [Ob.back,Ob.Rel] at *
  obtain ⟨h1,h2,b,cs,h3,h4,h5⟩:=h
  have:=hβ id h1
  exact ⟨this.live ▸ h1,this.box ▸ h2,b,cs,this.blk ▸ h3,h4.back hβ hN,h5⟩
 | arr e t u rows wr =>
  simp only [Ob.back,Ob.Rel] at *
  obtain ⟨h1,h2,h3,h4,h5,h6,h7⟩:=h
  have:=hβ id h1
  obtain ⟨g1,g2,g3,g4⟩:=this.row h2
  refine ⟨this.live ▸ h1,this.box ▸ h2,by omega,by rw [g2,h4],h5,by rw [g4,h6],?_⟩
  rw [this.blk,g3]
  rcases h7 with h7 | ⟨b,cur,css,k1,k2,k3,k4⟩
  ·exact .inl h7
  ·exact .inr ⟨b,cur,css,k1,k2,k3.mono fun _ _ h=>h.mono (Keep.refl _ w) hN,k4⟩
 | fm tab =>
  simp only [Ob.back,Ob.Rel] at *
  obtain ⟨h1,h2,b,es,n,h3,h4⟩:=h
  have:=hβ id h1
  exact ⟨this.live ▸ h1,this.box ▸ h2,b,es,n,this.blk ▸ h3,h4⟩
 | dm kt vt es =>
  simp only [Ob.back,Ob.Rel] at *
  obtain ⟨h1,h2,b,ms,h3,h4,h5⟩:=h
  have:=hβ id h1
  exact ⟨this.live ▸ h1,this.box ▸ h2,b,ms,this.blk ▸ h3,h4,h5.mono (Keep.refl _ w) hN⟩
 | stk e ei u rows top =>
  simp only [Ob.back,Ob.Rel] at *
  obtain ⟨h1,h2,h3,h4,h5,b,cur,cs,cs2,bs,k1,k2,k3,k4,k5,k6,k7,k8,k9,k10,k11⟩:=h
  have:=hβ id h1
  obtain ⟨g1,g2,g3,g4⟩:=this.row h2
  exact ⟨this.live ▸ h1,this.box ▸ h2,by omega,by rw [g2,h4],by rw [g4,h5,Ip],b,cur,cs,cs2,bs,this.blk ▸ k1,k2,by rw [g3]; exact k3,by rw [g3,g4]; exact k4,by rw [g3]; exact k5,by rw [this.sub h2]; exact k6,k7,k8,k9,k10.imp _ fun ls cs _ hl=>hl.back hβ hN,by rw [g4]; exact k11⟩
end
def fT (P:Program) (f:FuncId) (si so:Sh) (F:si.X->Option so.X):Prop :=
 gQ P f=true∧∀ x y,F x=some y->∀ (C:Ctx) (β:Nat->Pl) (w:World) (xs:List Value),C.P=P->C.fix.length <= si.os.length->Sim C β (si.enc x) { tmps:=xs.toArray,defers:=[] } w ->
  Calls P f xs.toArray w fun e w'=>∃ (us:List Value) (β':Nat->Pl),e=.returned (mP us)∧Sim C β' (so.enc y) { tmps:=us.toArray,defers:=[] } w'
def Wp:List V->Option (List (Sum L (List L)))
 | []=>some []
 | v :: r=>match v.sum,Wp r with
  | some s,some ss=>some (s :: ss)
  | _,_=>none
def zFg (vs:List V):V :=
 match Wp vs with
 | some ss=>zRu ss
 | none=>.bL
def Dj (g:Nat->Option Ob):Nat->List Ob->List Ob
 | _,[]=>[]
 | i,o :: r=>(match g i with | some o'=>o' | none=>o) :: Dj g (i+1) r
def pY (f v:Nat->Nat):Nat->List Ob->List Ob
 | _,[]=>[]
 | j,o :: r=>o.back f v j :: pY f v (j+1) r
def oW:List Ob->List OS->Bool
 | [],_=>true
 | .box .. :: r,_ :: s=>oW r s
 | .fm .. :: r,_ :: s=>oW r s
 | .dm .. :: r,_ :: s=>oW r s
 | .arr .. :: r,.row .. :: s=>oW r s
 | .stk .. :: r,.stk .. :: s=>oW r s
 | _,_=>false
def iZ (ρ:List Nat) (n:Nat) (j:Nat):Nat:=match ρ[j]? with | some i=>i | none=>n+(j - ρ.length)
def iD (ρ:List Nat) (h:List Ob) (j:Nat):Nat:=match ρ[j]? with
 | some i=>(match h[i]? with | some (.arr _ _ u _ _)=>u+1 | some (.stk _ _ u _ _)=>u+1 | _=>0)
 | none=>0
def gH (ρ:List Nat) (h hy:List Ob):List Ob :=
 Dj (fun i=>match pos i ρ 0 with | some j=>(match hy[j]? with | some o=>some (o.back (iZ ρ h.length) (iD ρ h) j) | none=>none) | none=>none) 0 h++pY (iZ ρ h.length) (iD ρ h) ρ.length (hy.drop ρ.length)
def Mk (ρ:List Nat) (h:List Ob) (si so:Sh):Bool :=
 nodupB ρ && (bH (fun i=>Nat.blt i h.length) ρ && (Nat.beq ρ.length si.os.length && (bH Ob.wr (inH ρ h) && oW (inH ρ h) so.os)))
def peM (si so:Sh) (F:si.X->Option so.X):PE where
 R:=so.X
 use:=3
 run vs h:=match si.dec ⟨vs.map (V.ren (reach vs h) h),inH (reach vs h) h⟩ with
  | some x=>some (Mk (reach vs h) h si so,F x)
  | none=>none
 enc y vs h:=(zFg ((so.enc y).r.map (V.back (iZ (reach vs h) h.length) (iD (reach vs h) h))),gH (reach vs h) h (so.enc y).h)
theorem Tt {g:Nat->Option Ob}:∀ {h:List Ob} {n i:Nat},(Dj g n h)[i]?=(h[i]?).map fun o=>(match g (n+i) with | some o'=>o' | none=>o)
 | [],n,i=>by simp [Dj]
 | o :: r,n,0=>by simp [Dj]
 | o :: r,n,i+1=>by
  simp only [Dj,List.getElem?_cons_succ]
  rw [Tt (h:=r),show n+1+i=n+(i+1) by omega]
theorem uS {g:Nat->Option Ob}:∀ {h:List Ob} {n:Nat},(Dj g n h).length=h.length
 | [],_=>rfl
 | _ :: r,n=>congrArg (· + 1) (uS (h:=r) (n:=n+1))
theorem Ml {f v:Nat->Nat}:∀ {h:List Ob} {n i:Nat},(pY f v n h)[i]?=(h[i]?).map fun o=>o.back f v (n+i)
 | [],n,i=>by simp [pY]
 | o :: r,n,0=>by simp [pY]
 | o :: r,n,i+1=>by
  simp only [pY,List.getElem?_cons_succ]
  rw [Ml (h:=r),show n+1+i=n+(i+1) by omega]
theorem Er {f v:Nat->Nat}:∀ {h:List Ob} {n:Nat},(pY f v n h).length=h.length
 | [],_=>rfl
 | _ :: r,n=>congrArg (· + 1) (Er (h:=r) (n:=n+1))
theorem Ob.Mq {f v:Nat->Nat} {j:Nat} (o:Ob):(o.back f v j).lD=o.lD:=by cases o <;> rfl
theorem Ob.yM {f v:Nat->Nat} {j:Nat} (o:Ob):(o.back f v j).wr=o.wr:=by cases o <;> rfl
theorem qQ:∀ {hc:List Ob} {os:List OS} {j:Nat} {e:TypeId} {t:Ty} {u:Nat} {rows:List t.den} {wr:Bool},oW hc os=true->hc[j]?=some (.arr e t u rows wr)->∃ e' t',os[j]?=some (.row e' t')
 | [],_,j,_,_,_,_,_,_,h=>by simp at h
 | .box .. :: r,[],j,_,_,_,_,_,hk,_=>by cases hk
 | .box .. :: r,s :: os,0,_,_,_,_,_,_,h=>by simp at h
 | .box .. :: r,s :: os,j+1,_,_,_,_,_,hk,h=>by
  obtain ⟨e',t',h'⟩:=qQ (hc:=r) (os:=os) (j:=j) hk (by simpa using h)
  exact ⟨e',t',by simpa using h'⟩
 | .fm .. :: r,[],j,_,_,_,_,_,hk,_=>by cases hk
 | .fm .. :: r,s :: os,0,_,_,_,_,_,_,h=>by simp at h
 | .fm .. :: r,s :: os,j+1,_,_,_,_,_,hk,h=>by
  obtain ⟨e',t',h'⟩:=qQ (hc:=r) (os:=os) (j:=j) hk (by simpa using h)
  exact ⟨e',t',by simpa using h'⟩
 | .dm .. :: r,[],j,_,_,_,_,_,hk,_=>by cases hk
 | .dm .. :: r,s :: os,0,_,_,_,_,_,_,h=>by simp at h
 | .dm .. :: r,s :: os,j+1,_,_,_,_,_,hk,h=>by
  obtain ⟨e',t',h'⟩:=qQ (hc:=r) (os:=os) (j:=j) hk (by simpa using h)
  exact ⟨e',t',by simpa using h'⟩
 | .stk .. :: r,[],j,_,_,_,_,_,hk,_=>by cases hk
 | .stk .. :: r,.box .. :: os,j,_,_,_,_,_,hk,_=>by cases hk
 | .stk .. :: r,.row .. :: os,j,_,_,_,_,_,hk,_=>by cases hk
 | .stk .. :: r,.fm .. :: os,j,_,_,_,_,_,hk,_=>by cases hk
 | .stk .. :: r,.dm .. :: os,j,_,_,_,_,_,hk,_=>by cases hk
 | .stk .. :: r,.stk .. :: os,0,_,_,_,_,_,_,h=>by simp at h
 | .stk .. :: r,.stk .. :: os,j+1,_,_,_,_,_,hk,h=>by
  obtain ⟨e',t',h'⟩:=qQ (hc:=r) (os:=os) (j:=j) hk (by simpa using h)
  exact ⟨e',t',by simpa using h'⟩
 | .arr .. :: r,.stk .. :: os,j,_,_,_,_,_,hk,_=>by cases hk
 | .arr .. :: r,.fm .. :: os,j,_,_,_,_,_,hk,_=>by cases hk
 | .arr .. :: r,.dm .. :: os,j,_,_,_,_,_,hk,_=>by cases hk
 | .arr .. :: r,[],j,_,_,_,_,_,hk,_=>by cases hk
 | .arr .. :: r,.box .. :: os,j,_,_,_,_,_,hk,_=>by cases hk
 | .arr .. :: r,.row e t :: os,0,_,_,_,_,_,_,_=>⟨e,t,rfl⟩
 | .arr .. :: r,.row e t :: os,j+1,_,_,_,_,_,hk,h=>by
  obtain ⟨e',t',h'⟩:=qQ (hc:=r) (os:=os) (j:=j) hk (by simpa using h)
  exact ⟨e',t',by simpa using h'⟩
theorem wB {A:Type}:∀ {os:List OS} {x:OTs os A} {j:Nat} {e:TypeId} {t:Ty},os[j]?=some (.row e t)->∃ rows,(dO os x).1[j]?=some (.arr e t 0 rows true)
 | [],_,j,_,_,h=>by simp at h
 | .box e0 ls :: r,x,0,_,_,h=>by simp at h
 | .box e0 ls :: r,x,j+1,e,t,h=>by
  obtain ⟨rows,h'⟩:=wB (os:=r) (x:=(dM ls x).2) (j:=j) (by simpa using h)
  exact ⟨rows,by simpa [dO] using h'⟩
 | .fm tab :: r,x,0,_,_,h=>by simp at h
 | .fm tab :: r,x,j+1,e,t,h=>by
  obtain ⟨rows,h'⟩:=wB (os:=r) (x:=x) (j:=j) (by simpa using h)
  exact ⟨rows,by simpa [dO] using h'⟩
 | .dm kt vt :: r,x,0,_,_,h=>by simp at h
 | .dm kt vt :: r,x,j+1,e,t,h=>by
  obtain ⟨rows,h'⟩:=wB (os:=r) (x:=x.2) (j:=j) (by simpa using h)
  exact ⟨rows,by simpa [dO] using h'⟩
 | .stk e0 ei :: r,x,0,_,_,h=>by simp at h
 | .stk e0 ei :: r,x,j+1,e,t,h=>by
  obtain ⟨rows,h'⟩:=wB (os:=r) (x:=x.2) (j:=j) (by simpa using h)
  exact ⟨rows,by simpa [dO] using h'⟩
 | .row e0 t0 :: r,x,0,e,t,h=>by
  simp only [List.getElem?_cons_zero,aA,OS.row.injEq] at h
  obtain ⟨rfl,rfl⟩:=h
  exact ⟨x.1,rfl⟩
 | .row e0 t0 :: r,x,j+1,e,t,h=>by
  obtain ⟨rows,h'⟩:=wB (os:=r) (x:=x.2) (j:=j) (by simpa using h)
  exact ⟨rows,by simpa [dO] using h'⟩
theorem qR:∀ {hc:List Ob} {os:List OS} {j:Nat} {e ei:TypeId} {u:Nat} {rows:List (Int × Int × List Int × List Int × Unit)} {top:Option (List L)},oW hc os=true->hc[j]?=some (.stk e ei u rows top)->∃ e' ei',os[j]?=some (.stk e' ei')
 | [],_,j,_,_,_,_,_,_,h=>by simp at h
 | .box .. :: r,[],j,_,_,_,_,_,hk,_=>by cases hk
 | .box .. :: r,s :: os,0,_,_,_,_,_,_,h=>by simp at h
 | .box .. :: r,s :: os,j+1,_,_,_,_,_,hk,h=>by
  obtain ⟨e',t',h'⟩:=qR (hc:=r) (os:=os) (j:=j) hk (by simpa using h)
  exact ⟨e',t',by simpa using h'⟩
 | .fm .. :: r,[],j,_,_,_,_,_,hk,_=>by cases hk
 | .fm .. :: r,s :: os,0,_,_,_,_,_,_,h=>by simp at h
 | .fm .. :: r,s :: os,j+1,_,_,_,_,_,hk,h=>by
  obtain ⟨e',t',h'⟩:=qR (hc:=r) (os:=os) (j:=j) hk (by simpa using h)
  exact ⟨e',t',by simpa using h'⟩
 | .dm .. :: r,[],j,_,_,_,_,_,hk,_=>by cases hk
 | .dm .. :: r,s :: os,0,_,_,_,_,_,_,h=>by simp at h
 | .dm .. :: r,s :: os,j+1,_,_,_,_,_,hk,h=>by
  obtain ⟨e',t',h'⟩:=qR (hc:=r) (os:=os) (j:=j) hk (by simpa using h)
  exact ⟨e',t',by simpa using h'⟩
 | .arr .. :: r,[],j,_,_,_,_,_,hk,_=>by cases hk
 | .arr .. :: r,.box .. :: os,j,_,_,_,_,_,hk,_=>by cases hk
 | .arr .. :: r,.fm .. :: os,j,_,_,_,_,_,hk,_=>by cases hk
 | .arr .. :: r,.dm .. :: os,j,_,_,_,_,_,hk,_=>by cases hk
 | .arr .. :: r,.stk .. :: os,j,_,_,_,_,_,hk,_=>by cases hk
 | .stk .. :: r,[],j,_,_,_,_,_,hk,_=>by cases hk
 | .stk .. :: r,.box .. :: os,j,_,_,_,_,_,hk,_=>by cases hk
 | .stk .. :: r,.row .. :: os,j,_,_,_,_,_,hk,_=>by cases hk
 | .stk .. :: r,.fm .. :: os,j,_,_,_,_,_,hk,_=>by cases hk
 | .stk .. :: r,.dm .. :: os,j,_,_,_,_,_,hk,_=>by cases hk
 | .arr .. :: r,.row .. :: os,0,_,_,_,_,_,_,h=>by simp at h
 | .arr .. :: r,.row .. :: os,j+1,_,_,_,_,_,hk,h=>by
  obtain ⟨e',t',h'⟩:=qR (hc:=r) (os:=os) (j:=j) hk (by simpa using h)
  exact ⟨e',t',by simpa using h'⟩
 | .stk .. :: r,.stk e ei :: os,0,_,_,_,_,_,_,_=>⟨e,ei,rfl⟩
 | .stk .. :: r,.stk .. :: os,j+1,_,_,_,_,_,hk,h=>by
  obtain ⟨e',t',h'⟩:=qR (hc:=r) (os:=os) (j:=j) hk (by simpa using h)
  exact ⟨e',t',by simpa using h'⟩
theorem wC {A:Type}:∀ {os:List OS} {x:OTs os A} {j:Nat} {e ei:TypeId},os[j]?=some (.stk e ei)->∃ rows,(dO os x).1[j]?=some (.stk e ei 0 rows none)
 | [],_,j,_,_,h=>by simp at h
 | .box e0 ls :: r,x,0,_,_,h=>by simp at h
 | .box e0 ls :: r,x,j+1,e,t,h=>by
  obtain ⟨rows,h'⟩:=wC (os:=r) (x:=(dM ls x).2) (j:=j) (by simpa using h)
  exact ⟨rows,by simpa [dO] using h'⟩
 | .fm tab :: r,x,0,_,_,h=>by simp at h
 | .fm tab :: r,x,j+1,e,t,h=>by
  obtain ⟨rows,h'⟩:=wC (os:=r) (x:=x) (j:=j) (by simpa using h)
  exact ⟨rows,by simpa [dO] using h'⟩
 | .dm kt vt :: r,x,0,_,_,h=>by simp at h
 | .dm kt vt :: r,x,j+1,e,t,h=>by
  obtain ⟨rows,h'⟩:=wC (os:=r) (x:=x.2) (j:=j) (by simpa using h)
  exact ⟨rows,by simpa [dO] using h'⟩
 | .row e0 t0 :: r,x,0,_,_,h=>by simp at h
 | .row e0 t0 :: r,x,j+1,e,t,h=>by
  obtain ⟨rows,h'⟩:=wC (os:=r) (x:=x.2) (j:=j) (by simpa using h)
  exact ⟨rows,by simpa [dO] using h'⟩
 | .stk e0 t0 :: r,x,0,e,t,h=>by
  simp only [List.getElem?_cons_zero,aA,OS.stk.injEq] at h
  obtain ⟨rfl,rfl⟩:=h
  exact ⟨x.1,rfl⟩
 | .stk e0 t0 :: r,x,j+1,e,t,h=>by
  obtain ⟨rows,h'⟩:=wC (os:=r) (x:=x.2) (j:=j) (by simpa using h)
  exact ⟨rows,by simpa [dO] using h'⟩
theorem yN {A:Type}:∀ {os:List OS} {x:OTs os A} {j:Nat} {o:Ob},(dO os x).1[j]?=some o->o.wr=true
 | [],_,j,_,h=>by simp [dO] at h
 | .box e0 ls :: r,x,0,_,h=>by simp only [dO,List.getElem?_cons_zero,aA] at h; subst h; rfl
 | .box e0 ls :: r,x,j+1,o,h=>yN (os:=r) (x:=(dM ls x).2) (j:=j) (by simpa [dO] using h)
 | .fm tab :: r,x,0,_,h=>by simp only [dO,List.getElem?_cons_zero,aA] at h; subst h; rfl
 | .fm tab :: r,x,j+1,o,h=>yN (os:=r) (x:=x) (j:=j) (by simpa [dO] using h)
 | .dm kt vt :: r,x,0,_,h=>by simp only [dO,List.getElem?_cons_zero,aA] at h; subst h; rfl
 | .dm kt vt :: r,x,j+1,o,h=>yN (os:=r) (x:=x.2) (j:=j) (by simpa [dO] using h)
 | .stk e0 ei :: r,x,0,_,h=>by simp only [dO,List.getElem?_cons_zero,aA] at h; subst h; rfl
 | .stk e0 ei :: r,x,j+1,o,h=>yN (os:=r) (x:=x.2) (j:=j) (by simpa [dO] using h)
 | .row e0 t0 :: r,x,0,_,h=>by simp only [dO,List.getElem?_cons_zero,aA] at h; subst h; rfl
 | .row e0 t0 :: r,x,j+1,o,h=>yN (os:=r) (x:=x.2) (j:=j) (by simpa [dO] using h)
theorem zBg {β:Nat->Pl} {w:World} {N:Nat->Nat->Prop}:∀ {vs:List V} {us:List Value} {ss:List (Sum L (List L))},Wp vs=some ss->aU (fun v u=>V.Rel β w N v u) vs us->aU (fA β w N) ss us
 | [],[],ss,h,_=>by simp only [Wp,aA] at h; subst h; trivial
 | v :: vs,u :: us,ss,h,hr=>by
  simp only [Wp] at h
  split at h
  ·rename_i s ss' h1 h2
   simp only [aA] at h
   subst h
   exact ⟨V.Ze h1 hr.1,zBg h2 hr.2⟩
  ·cases h
 | [],_ :: _,_,_,hr=>hr.elim
 | _ :: _,[],_,_,hr=>hr.elim
theorem Tv {β:Nat->Pl} {w:World} {N:Nat->Nat->Prop} {vs:List V} {us:List Value} (hr:aU (fun v u=>V.Rel β w N v u) vs us):(zFg vs).Rel β w N (mP us):=by
 unfold zFg
 split
 ·rename_i ss h
  exact zFf (zBg h hr)
 ·trivial
theorem zJn {α γ:Type} {R:α->γ->Prop}:∀ {x:List α} {y:List γ},x.length=y.length->(∀ (i:Nat) (a:α) (b:γ),x[i]?=some a->y[i]?=some b->R a b)->aU R x y
 | [],[],_,_=>trivial
 | a :: x,b :: y,hl,h=>⟨h 0 a b rfl rfl,zJn (by simpa using hl) fun i c d hc hd=>h (i+1) c d (by simpa using hc) (by simpa using hd)⟩
 | [],_ :: _,hl,_=>by simp at hl
 | _ :: _,[],hl,_=>by simp at hl
end Go.Dec
namespace Go.Dec
section
variable {P:Program} {f:FuncId} {si so:Sh} {F:si.X->Option so.X}
theorem Fp {ρ:List Nat} {h:List Ob} (hc:Mk ρ h si so=true):nodupB ρ=true∧(∀ i ∈ ρ,i < h.length)∧ρ.length=si.os.length∧(∀ (j:Nat) (o:Ob),(inH ρ h)[j]?=some o->o.wr=true)∧oW (inH ρ h) so.os=true:=by
 simp only [Mk,aD] at hc
 obtain ⟨h1,h2,h3,h4,h5⟩:=hc
 refine ⟨h1,fun i hi=>?_,aL h3,fun j o ho=>oH h4 j o ho,h5⟩
 obtain ⟨n,hn⟩:=List.getElem?_of_mem hi
 exact bJ (oH h2 n i hn)
def rF:Ob->Bool
 | .box .. => true
 | .arr .. => false
 | .fm _=>true
 | .dm .. => true
 | .stk .. => false
def wV (β:Nat->Pl) (h:List Ob) (i:Nat):Option Nat:=match rF (Jb h i) with | true=>(β i).blk | false=>none
def inC (C:Ctx) (β:Nat->Pl) (h:List Ob) (w:World) (ρ:List Nat) (hs:dJ C β h w):Ctx where
 P:=C.P
 N0 b j:=C.N β h b j∧∀ i ∈ ρ,∀ o,h[i]?=some o->¬ o.blks (β i) b
 w0:=w
 Ao b j:=∃ (i:Nat) (o:Ob),i ∈ ρ∧h[i]?=some o∧o.wr=true∧o.at (β i) b j
 glob w' hw:=C.glob w' (hs.frame.mK hw fun b j hb hm=>by
  obtain ⟨i,o,_,ho,hwo,hbk⟩:=hm
  rcases (hs.dK i o b ho ⟨j,hbk⟩).2.2 with h1 | h1
  ·omega
  ·exact h1 j hwo hbk)
 fix:=ρ.map (wV β h)
theorem zFh {C:Ctx} {β:Nat->Pl} {w:World} {h:List Ob} {ρ:List Nat} {vs:List V} {xs:List Value} (hs:dJ C β h w) (ha:kC β w (C.N β h) vs xs) (hnd:nodupB ρ=true) (hlt:∀ i ∈ ρ,i < h.length) :
  Sim (inC C β h w ρ hs) (yK β ρ) ⟨vs.map (V.ren ρ h),inH ρ h⟩ { tmps:=xs.toArray,defers:=[] } w:=by
 have Tn:=zEv hs hlt
 have hget:∀ i ∈ ρ,∃ o,h[i]?=some o:=fun i hi=>⟨h[i]'(hlt i hi),by simp [hlt i hi]⟩
 have hβ:∀ {j i:Nat},ρ[j]?=some i->yK β ρ j={ β i with ver:=0 }:=fun hi=>by simp only [yK,hi]
 have hNw:∀ b j,C.N β h b j->b < w.heap.size:=fun b j hb=>by
  rcases hb with hb | ⟨id,o,ho,_,hbk⟩
  ·exact Nat.lt_of_lt_of_le (hs.n0 b j hb) hs.size
  ·exact (hs.dK id o b ho ⟨j,hbk⟩).2.1
 have hN:∀ b j,b < w.heap.size->(inC C β h w ρ hs).N (yK β ρ) (inH ρ h) b j->C.N β h b j:=fun b k _ hb=>by
  rcases hb with hb | ⟨j,o,ho,hw,hbk⟩
  ·exact hb.1
  ·obtain ⟨i,hi,rfl⟩:=qO ho
   obtain ⟨o',ho'⟩:=hget i (List.mem_of_getElem? hi)
   rw [eP ho',Ob.Md] at hw
   rw [eP ho',hβ hi] at hbk
   exact .inr ⟨i,o',ho',hw,Ob.oQ (Ob.pV ρ h o') rfl rfl hbk⟩
 refine ⟨⟨?_,?_,?_,?_,fun b j hb=>hNw b j hb.1,Keep.refl _ _,aR _,rfl,rfl,rfl,?_⟩,rfl,by simpa using aU.length ha,?_⟩
 ·intro j o ho
  obtain ⟨i,hi,rfl⟩:=qO ho
  obtain ⟨o',ho'⟩:=hget i (List.mem_of_getElem? hi)
  rw [eP ho',hβ hi]
  have hob:=hs.obj i o' ho'
  cases o' with
  | box e ls =>
   simp only [Ob.ren,Ob.Rel] at *
   obtain ⟨h1,h2,b,cs,h3,h4,h5⟩:=hob
   exact ⟨h1,h2,b,cs,h3,h4.uD Tn hN,h5⟩
  | arr e t v rows wr =>
   simp only [Ob.ren,Ob.Rel] at *
   obtain ⟨h1,h2,h3,h4,h5,h6,h7⟩:=hob
   refine ⟨h1,h2,trivial,h4,h5,h6,?_⟩
   rcases h7 with h7 | ⟨b,cur,css,k1,k2,k3,k4⟩
   ·exact .inl h7
   ·exact .inr ⟨b,cur,css,k1,k2,k3.mono fun _ _ h=>h.mono (Keep.refl _ w) hN,k4⟩
  | fm tab=>simp only [Ob.ren,Ob.Rel] at *; exact hob
  | dm kt vt es =>
   simp only [Ob.ren,Ob.Rel] at *
   obtain ⟨h1,h2,b,ms,h3,h4,h5⟩:=hob
   exact ⟨h1,h2,b,ms,h3,h4,h5.mono (Keep.refl _ w) hN⟩
  | stk e ei v rows top =>
   simp only [Ob.ren,Ob.Rel] at *
   obtain ⟨g1,g2,g3,g4,g5,b,cur,cs,cs2,bs,k1,k2,k3,k4,k5,k6,k7,k8,k9,k10,k11⟩:=hob
   exact ⟨g1,g2,trivial,g4,by rw [Ip]; exact g5,b,cur,cs,cs2,bs,k1,k2,k3,k4,k5,k6,k7,k8,k9,k10.imp _ fun ls cs _ hl=>hl.uD Tn hN,k11⟩
 ·intro j hj
  simp only [inH,List.length_map] at hj
  simp only [yK,List.getElem?_eq_none hj]
 ·intro i j o1 o2 b h1 h2 hb1 hb2
  obtain ⟨i',hi,rfl⟩:=qO h1
  obtain ⟨j',hj,rfl⟩:=qO h2
  obtain ⟨o1',ho1⟩:=hget i' (List.mem_of_getElem? hi)
  obtain ⟨o2',ho2⟩:=hget j' (List.mem_of_getElem? hj)
  rw [hβ hi,eP ho1] at hb1
  rw [hβ hj,eP ho2] at hb2
  have:=hs.iG i' j' o1' o2' b ho1 ho2 (Ob.iI (Ob.pV ρ h o1') rfl rfl hb1) (Ob.iI (Ob.pV ρ h o2') rfl rfl hb2)
  subst this
  exact Bt hnd hi hj
 ·intro j o b ho hb
  obtain ⟨i,hi,rfl⟩:=qO ho
  obtain ⟨o',ho'⟩:=hget i (List.mem_of_getElem? hi)
  rw [eP ho',hβ hi] at hb ⊢
  have hb':=Ob.iI (o':=o') (p':=β i) (Ob.pV ρ h o') rfl rfl hb
  exact ⟨fun k hn=>hn.2 i (List.mem_of_getElem? hi) o' ho' hb',(hs.dK i o' b ho' hb').2.1,.inr fun k hw hk=>⟨i,o',List.mem_of_getElem? hi,ho',by rw [Ob.Md] at hw; exact hw,Ob.oQ (Ob.pV ρ h o') rfl rfl hk⟩⟩
 ·intro j o hj
  simp only [inC,List.getElem?_map,Option.map_eq_some_iff] at hj
  obtain ⟨i,hi,rfl⟩:=hj
  refine ⟨by simpa [inH] using (bB.1 hi).1,fun b hb=>?_⟩
  obtain ⟨o',ho'⟩:=hget i (List.mem_of_getElem? hi)
  have hob:=hs.obj i o' ho'
  rw [hβ hi]
  unfold wV at hb
  rw [eP ho'] at hb
  cases o' with
  | box e ls =>
   simp only [Ob.Rel] at hob
   exact ⟨hb,hob.2.1⟩
  | arr e t v rows wr=>cases hb
  | stk e ei v rows top=>cases hb
  | fm tab =>
   simp only [Ob.Rel] at hob
   exact ⟨hb,hob.2.1⟩
  | dm kt vt es =>
   simp only [Ob.Rel] at hob
   exact ⟨hb,hob.2.1⟩
 ·intro i v hv
  simp only [List.getElem?_map,Option.map_eq_some_iff] at hv
  obtain ⟨v0,hv0,rfl⟩:=hv
  have hl:i < xs.length:=by rw [<- aU.length ha]; exact (bB.1 hv0).1
  have hr:=ha.get i (bB.1 hv0).1 hl
  have e:vs[i]'(bB.1 hv0).1=v0:=(bB.1 hv0).2
  rw [e] at hr
  have e2:(xs.toArray).getD i undef=xs[i]:=by simp [hl]
  simp only [e2]
  exact hr.uD Tn hN
def jS (β β':Nat->Pl) (ρ:List Nat) (h:List Ob):Nat->Pl:=fun i =>
 match pos i ρ 0 with
 | some j=>match rF (Jb h i) with
  | true=>β i
  | false=>{ β' j with ver:=(β' j).ver+iD ρ h j }
 | none=>if i < h.length then β i else β' (i - h.length+ρ.length)
theorem Fq {ρ:List Nat} {h hy:List Ob} (hk:ρ.length <= hy.length) {id:Nat} {o:Ob} (ho:(gH ρ h hy)[id]?=some o) :
  (id < h.length∧pos id ρ 0=none∧h[id]?=some o)∨(∃ j ob oy,id < h.length∧ρ[j]?=some id∧pos id ρ 0=some j∧h[id]?=some ob∧hy[j]?=some oy∧o=oy.back (iZ ρ h.length) (iD ρ h) j) ∨
   ∃ j oy,ρ.length <= j∧id=h.length+(j - ρ.length)∧hy[j]?=some oy∧o=oy.back (iZ ρ h.length) (iD ρ h) j:=by
 unfold gH at ho
 by_cases hid:id < h.length
 ·rw [gM (by rw [uS]; exact hid),Tt,Nat.zero_add] at ho
  obtain ⟨ob,hob⟩:∃ ob,h[id]?=some ob:=⟨h[id],by simp [hid]⟩
  rw [hob] at ho
  simp only [Option.map_some,aA] at ho
  cases hp:pos id ρ 0 with
  | none =>
   rw [hp] at ho
   simp only at ho
   exact .inl ⟨hid,rfl,by rw [hob,ho]⟩
  | some j =>
   obtain ⟨m,hm,hi⟩:=vM hp
   rw [Nat.zero_add] at hm
   subst hm
   have hj:j < hy.length:=Nat.lt_of_lt_of_le (bB.1 hi).1 hk
   have hyj:hy[j]?=some hy[j]:=by simp [hj]
   rw [hp] at ho
   simp only [hyj] at ho
   exact .inr (.inl ⟨j,ob,hy[j],hid,hi,rfl,hob,hyj,ho.symm⟩)
 ·rw [List.getElem?_append_right (by rw [uS]; omega),uS,Ml,List.getElem?_drop] at ho
  simp only [Option.map_eq_some_iff] at ho
  obtain ⟨oy,h1,h2⟩:=ho
  exact .inr (.inr ⟨ρ.length+(id - h.length),oy,by omega,by omega,h1,h2.symm⟩)
theorem Gy {ρ:List Nat} {h hy:List Ob}:(gH ρ h hy).length=h.length+(hy.length - ρ.length):=by
 simp [gH,uS,Er]
theorem Jk {C:Ctx} {β:Nat->Pl} {h:List Ob} {w w':World} {ρ:List Nat} (hs:dJ C β h w) (hnd:nodupB ρ=true) (hlt:∀ i ∈ ρ,i < h.length) (hwr:∀ (j:Nat) (o:Ob),(inH ρ h)[j]?=some o->o.wr=true) (Ac:oW (inH ρ h) so.os=true)
  {y:so.X} {us:List Value} {β':Nat->Pl} (hs':Sim (inC C β h w ρ hs) β' (so.enc y) { tmps:=us.toArray,defers:=[] } w') :
  ∃ β2,Moves β β2∧Keep (C.N β h) w w'∧(∀ b j,b < w.heap.size->C.N β2 (gH ρ h (so.enc y).h) b j->C.N β h b j)∧dJ C β2 (gH ρ h (so.enc y).h) w' ∧
   aU (fun v u=>V.Rel β2 w' (C.N β2 (gH ρ h (so.enc y).h)) v u) ((so.enc y).r.map (V.back (iZ ρ h.length) (iD ρ h))) us:=by
 generalize hhy:(so.enc y).h=hy at *
 have hget:∀ i ∈ ρ,∃ o,h[i]?=some o:=fun i hi=>⟨h[i]'(hlt i hi),by simp [hlt i hi]⟩
 have hfix:∀ {j i:Nat},ρ[j]?=some i->j < hy.length∧∀ b,wV β h i=some b->(β' j).blk=some b∧(β' j).box=true:=fun {j i} hi=>by
  have:=hs'.heap.fixed j (wV β h i) (by simp [inC,hi])
  rw [hhy] at this
  exact this
 have hk:ρ.length <= hy.length:=by
  rcases iF hy.length ρ.length with h1 | h1
  ·have:=(hfix (j:=hy.length) (i:=ρ[hy.length]) (by simp [h1])).1
   omega
  ·exact h1
 have yCn:∀ i ∈ ρ,∀ o,h[i]?=some o->o.wr=true:=fun i hi o ho=>by
  obtain ⟨n,hn⟩:=List.getElem?_of_mem hi
  have:=hwr n ((Jb h i).ren ρ h) (by simp [inH,hn])
  rw [Ob.Md,eP ho] at this
  exact this
 have hrow:∀ {j i:Nat} {o:Ob},ρ[j]?=some i->h[i]?=some o->rF o=false->∃ oy,hy[j]?=some oy∧rF oy=false:=fun {j i o} hi ho hb=>by
  cases o with
  | box e ls=>cases hb
  | fm tab=>cases hb
  | dm=>cases hb
  | stk e ei u rows top =>
   obtain ⟨e',ei',hrw⟩:=qR (j:=j) (e:=e) (ei:=ei) (u:=0) (rows:=rows) (top:=top.map (L.yG ρ h)) Ac (by simp [inH,hi,eP ho,Ob.ren])
   obtain ⟨rows',hr'⟩:=wC (A:=Unit) (x:=(Bu so.rs (List.replicate so.n .bL) y).2) hrw
   exact ⟨_,by rw [<- hhy]; exact hr',rfl⟩
  | arr e t u rows wr =>
   obtain ⟨e',t',hrw⟩:=qQ (j:=j) (e:=e) (t:=t) (u:=0) (rows:=rows) (wr:=wr) Ac (by simp [inH,hi,eP ho,Ob.ren])
   obtain ⟨rows',hr'⟩:=wB (A:=Unit) (x:=(Bu so.rs (List.replicate so.n .bL) y).2) hrw
   exact ⟨_,by rw [<- hhy]; exact hr',rfl⟩
 have Tw:=hs'.heap.obj
 rw [hhy] at Tw
 have zOx:∀ j,hy.length <= j->(β' j).live=false:=fun j hj=>hs'.heap.dead j (by rw [hhy]; exact hj)
 have Gz:=hs'.heap.dK
 rw [hhy] at Gz
 have zJo:=hs'.heap.iG
 rw [hhy] at zJo
 have zMb:∀ {j i:Nat} {o:Ob},ρ[j]?=some i->h[i]?=some o->rF o=true->(β' j).box=true∧(β' j).blk=(β i).blk∧(β i).box=true∧(β i).live=true∧(β' j).live=true:=fun {j i o} hi ho hb=>by
  have hob:=hs.obj i o ho
  obtain ⟨hj,hfx⟩:=hfix hi
  cases o with
  | arr=>cases hb
  | stk=>cases hb
  | dm kt vt es =>
   simp only [Ob.Rel] at hob
   obtain ⟨k1,k2,b,ms,k3,_⟩:=hob
   have hfo:wV β h i=some b:=by simp only [wV,eP ho,rF,k3]
   obtain ⟨g1,g2⟩:=hfx b hfo
   exact ⟨g2,by rw [g1,k3],k2,k1,(Tw j hy[j] (by simp [hj])).live⟩
  | fm tab =>
   simp only [Ob.Rel] at hob
   obtain ⟨k1,k2,b,es,n,k3,_⟩:=hob
   have hfo:wV β h i=some b:=by simp only [wV,eP ho,rF,k3]
   obtain ⟨g1,g2⟩:=hfx b hfo
   exact ⟨g2,by rw [g1,k3],k2,k1,(Tw j hy[j] (by simp [hj])).live⟩
  | box e ls =>
   simp only [Ob.Rel] at hob
   obtain ⟨k1,k2,b,cs,k3,_⟩:=hob
   have hfo:wV β h i=some b:=by simp only [wV,eP ho,rF,k3]
   obtain ⟨g1,g2⟩:=hfx b hfo
   exact ⟨g2,by rw [g1,k3],k2,k1,(Tw j hy[j] (by simp [hj])).live⟩
 have zRw:∀ {j i:Nat} {o:Ob},ρ[j]?=some i->h[i]?=some o->rF o=true->jS β β' ρ h i=β i:=fun hi ho hb=>by
  simp only [jS,zJh hnd hi,eP ho,hb]
 have zRx:∀ {j i:Nat} {o:Ob},ρ[j]?=some i->h[i]?=some o->rF o=false->jS β β' ρ h i={ β' j with ver:=(β' j).ver+iD ρ h j }:=fun hi ho hb=>by
  simp only [jS,zJh hnd hi,eP ho,hb]
 have zMc:∀ {i:Nat},pos i ρ 0=none->i < h.length->jS β β' ρ h i=β i:=fun hp hi=>by
  simp only [jS,hp,if_pos hi]
 have zTu:∀ {i:Nat},h.length <= i->pos i ρ 0=none:=fun {i} hi=>by
  cases hp:pos i ρ 0 with
  | none=>rfl
  | some j =>
   obtain ⟨m,_,hm⟩:=vM hp
   have:=hlt i (List.mem_of_getElem? hm)
   omega
 have zXg:∀ {j:Nat},ρ.length <= j->jS β β' ρ h (h.length+(j - ρ.length))=β' j:=fun {j} hj=>by
  simp only [jS,zTu (Nat.le_add_right _ _)]
  rw [if_neg (by omega)]
  congr 1
  omega
 have eF:∀ {j i:Nat},ρ[j]?=some i->iZ ρ h.length j=i:=fun hi=>by simp only [iZ,hi]
 have eF2:∀ {j:Nat},ρ.length <= j->iZ ρ h.length j=h.length+(j - ρ.length):=fun hj=>by simp only [iZ,List.getElem?_eq_none hj]
 have eU2:∀ {j:Nat},ρ.length <= j->iD ρ h j=0:=fun hj=>by simp only [iD,List.getElem?_eq_none hj]
 have hpl:∀ j,(β' j).live=true->Mj (β' j) (jS β β' ρ h (iZ ρ h.length j)) (iD ρ h j):=fun j hl=>by
  have hj:j < hy.length:=by
   rcases iF j hy.length with h1 | h1
   ·exact h1
   ·rw [zOx j h1] at hl; cases hl
  cases hi:ρ[j]? with
  | some i =>
   rw [eF hi]
   obtain ⟨o,ho⟩:=hget i (List.mem_of_getElem? hi)
   cases hb:rF o with
   | true =>
    obtain ⟨g1,g2,g3,g4,g5⟩:=zMb hi ho hb
    rw [zRw hi ho hb]
    exact ⟨by rw [g4,hl],by rw [g3,g1],g2.symm,fun h=>(by rw [g1] at h; cases h),fun h=>(by rw [g1] at h; cases h)⟩
   | false =>
    rw [zRx hi ho hb]
    exact ⟨rfl,rfl,rfl,fun _=>⟨rfl,rfl,rfl,rfl⟩,fun _=>rfl⟩
  | none =>
   have hge:ρ.length <= j:=List.getElem?_eq_none_iff.1 hi
   rw [eF2 hge,zXg hge,eU2 hge]
   exact ⟨rfl,rfl,rfl,fun _=>⟨rfl,rfl,rfl,rfl⟩,fun _=>rfl⟩
 have hown:∀ {b k:Nat},(inC C β h w ρ hs).Ao b k->∃ (i:Nat) (o:Ob),i ∈ ρ∧h[i]?=some o∧o.wr=true∧o.at (β i) b k:=fun {b k} hb=>hb
 have hkeep:Keep (C.N β h) w w':=hs'.heap.frame.weaken fun k j ho=>by
  obtain ⟨i,o,_,h2,h3,h4⟩:=hown ho
  exact .inr ⟨i,o,h2,h3,h4⟩
 have hat:∀ {id j:Nat} {ob oy:Ob},ρ[j]?=some id->h[id]?=some ob->hy[j]?=some oy->∀ b k,(oy.back (iZ ρ h.length) (iD ρ h) j).at (jS β β' ρ h id) b k->oy.at (β' j) b k:=fun {id j ob oy} hi hob hoy b k hbk=>by
  cases hb2:rF ob with
  | true =>
   have hp:oy.lD=false:=(Tw j oy hoy).zQj (zMb hi hob hb2).1
   rw [zRw hi hob hb2] at hbk
   have:=Ob.Si (by simp [Ob.plain,Ob.Mq,hp]) hbk
   exact Ob.iP (by rw [(zMb hi hob hb2).2.1]; exact this)
  | false =>
   rw [zRx hi hob hb2] at hbk
   exact Ob.oQ (Ob.Mq oy) rfl rfl hbk
 have zRy:∀ {j:Nat} {oy:Ob},ρ.length <= j->∀ b k,(oy.back (iZ ρ h.length) (iD ρ h) j).at (jS β β' ρ h (h.length+(j - ρ.length))) b k->oy.at (β' j) b k:=fun {j oy} hj b k hbk=>by
  rw [zXg hj] at hbk
  exact Ob.oQ (Ob.Mq oy) rfl rfl hbk
 have zFi:Moves β (jS β β' ρ h):=fun id hl=>by
  have hid:id < h.length:=by
   rcases iF id h.length with h1 | h1
   ·exact h1
   ·rw [hs.dead id h1] at hl; cases hl
  cases hp:pos id ρ 0 with
  | none=>exact .inl (zMc hp hid)
  | some j =>
   obtain ⟨m,hm,hi⟩:=vM hp
   rw [Nat.zero_add] at hm
   subst hm
   obtain ⟨o,ho⟩:=hget id (List.mem_of_getElem? hi)
   cases hb:rF o with
   | true=>exact .inl (zRw hi ho hb)
   | false =>
    obtain ⟨oy,hoy,hby⟩:=hrow hi ho hb
    have hY:=Tw j oy hoy
    have hO:=hs.obj id o ho
    rw [zRx hi ho hb]
    cases o with
    | box=>cases hb
    | fm=>cases hb
    | dm=>cases hb
    | stk e ei u rows top =>
     cases oy with
     | box=>cases hby
     | fm=>cases hby
     | dm=>cases hby
     | arr e' t' u' rows' wr' =>
      simp only [Ob.Rel] at hY hO
      refine .inr ⟨hO.2.1,hY.1,hY.2.1,?_⟩
      simp only [iD,hi,ho]
      have:=hO.2.2.1
      omega
     | stk e' ei' u' rows' top' =>
      simp only [Ob.Rel] at hY hO
      refine .inr ⟨hO.2.1,hY.1,hY.2.1,?_⟩
      simp only [iD,hi,ho]
      have:=hO.2.2.1
      omega
    | arr e t u rows wr =>
     cases oy with
     | box=>cases hby
     | fm=>cases hby
     | dm=>cases hby
     | stk e' ei' u' rows' top' =>
      simp only [Ob.Rel] at hY hO
      refine .inr ⟨hO.2.1,hY.1,hY.2.1,?_⟩
      simp only [iD,hi,ho]
      have:=hO.2.2.1
      omega
     | arr e' t' u' rows' wr' =>
      simp only [Ob.Rel] at hY hO
      refine .inr ⟨hO.2.1,hY.1,hY.2.1,?_⟩
      simp only [iD,hi,ho]
      have:=hO.2.2.1
      omega
 have hbl:∀ {b k:Nat},b < w.heap.size->w.heap.size <= b∨(inC C β h w ρ hs).Ao b k->C.N β h b k:=fun {b k} hb ho=>by
  rcases ho with ho | ho
  ·omega
  ·obtain ⟨i,o,_,h2,h3,h4⟩:=hown ho
   exact .inr ⟨i,o,h2,h3,h4⟩
 have zTv:∀ b j,b < w.heap.size->C.N (jS β β' ρ h) (gH ρ h hy) b j->C.N β h b j:=fun b k hb hn=>by
  rcases hn with hn | ⟨id,o,ho,hw,hbk⟩
  ·exact .inl hn
  ·rcases Fq hk ho with ⟨hid,hp,ho⟩ | ⟨j,ob,oy,hid,hi,hp,hob,hoy,rfl⟩ | ⟨j,oy,hj,rfl,hoy,rfl⟩
   ·rw [zMc hp hid] at hbk
    exact .inr ⟨id,o,ho,hw,hbk⟩
   ·rw [Ob.yM] at hw
    have hbk:=hat hi hob hoy b k hbk
    exact hbl hb ((Gz j oy b hoy ⟨k,hbk⟩).2.2.imp (fun h=>h) fun h=>h k hw hbk)
   ·rw [Ob.yM] at hw
    have hbk:=zRy hj b k hbk
    exact hbl hb ((Gz j oy b hoy ⟨k,hbk⟩).2.2.imp (fun h=>h) fun h=>h k hw hbk)
 have zTw:∀ b j,b < w'.heap.size->C.N (jS β β' ρ h) (gH ρ h hy) b j->(inC C β h w ρ hs).N β' (so.enc y).h b j:=fun b k _ hn=>by
  rw [hhy]
  rcases hn with hn | ⟨id,o,ho,hw,hbk⟩
  ·exact .inl ⟨.inl hn,fun i hi o ho hbk=>(hs.dK i o b ho hbk).1 k hn⟩
  ·rcases Fq hk ho with ⟨hid,hp,ho⟩ | ⟨j,ob,oy,hid,hi,hp,hob,hoy,rfl⟩ | ⟨j,oy,hj,rfl,hoy,rfl⟩
   ·rw [zMc hp hid] at hbk
    refine .inl ⟨.inr ⟨id,o,ho,hw,hbk⟩,fun i hi oi hoi hbi=>?_⟩
    have:=hs.iG id i o oi b ho hoi ⟨k,hbk⟩ hbi
    subst this
    exact Dh hp hi
   ·rw [Ob.yM] at hw
    exact .inr ⟨j,oy,hoy,hw,hat hi hob hoy b k hbk⟩
   ·rw [Ob.yM] at hw
    exact .inr ⟨j,oy,hoy,hw,zRy hj b k hbk⟩
 have Yv:∀ {id:Nat} {o:Ob} {b:Nat},pos id ρ 0=none->h[id]?=some o->o.blks (β id) b->b < w.heap.size∧∀ k,¬ (inC C β h w ρ hs).Ao b k:=fun {id o b} hp ho hb=>by
  refine ⟨(hs.dK id o b ho hb).2.1,fun k hw=>?_⟩
  obtain ⟨i,oi,h1,h2,_,h4⟩:=hown hw
  have:=hs.iG id i o oi b ho h2 hb ⟨k,h4⟩
  subst this
  exact Dh hp h1
 have hcls:∀ {id:Nat} {o:Ob},(gH ρ h hy)[id]?=some o->(pos id ρ 0=none∧h[id]?=some o∧jS β β' ρ h id=β id)∨∃ j oy,hy[j]?=some oy∧id=iZ ρ h.length j∧o=oy.back (iZ ρ h.length) (iD ρ h) j∧∀ b k,o.at (jS β β' ρ h id) b k->oy.at (β' j) b k:=fun {id o} ho=>by
  rcases Fq hk ho with ⟨hid,hp,ho⟩ | ⟨j,ob,oy,hid,hi,hp,hob,hoy,rfl⟩ | ⟨j,oy,hj,rfl,hoy,rfl⟩
  ·exact .inl ⟨hp,ho,zMc hp hid⟩
  ·exact .inr ⟨j,oy,hoy,(eF hi).symm,rfl,hat hi hob hoy⟩
  ·exact .inr ⟨j,oy,hoy,(eF2 hj).symm,rfl,zRy hj⟩
 have zXh:∀ {j:Nat} {oy:Ob},hy[j]?=some oy->(oy.back (iZ ρ h.length) (iD ρ h) j).wr=true:=fun {j oy} hoy=>by
  rw [Ob.yM,<- hhy] at *
  exact yN hoy
 have zXi:∀ {j id:Nat} {oy:Ob} {b:Nat},hy[j]?=some oy->(∀ b k,(oy.back (iZ ρ h.length) (iD ρ h) j).at (jS β β' ρ h id) b k->oy.at (β' j) b k)->(oy.back (iZ ρ h.length) (iD ρ h) j).blks (jS β β' ρ h id) b->b < w.heap.size->(∀ k,¬ (inC C β h w ρ hs).Ao b k)->False:=fun {j id oy b} hoy eb hb g1 g2=>by
  obtain ⟨q,hb⟩:=hb
  rcases (Gz j oy b hoy ⟨q,eb b q hb⟩).2.2 with h3 | h3
  ·have h3:w.heap.size <= b:=h3
   omega
  ·have hw:=zXh hoy
   rw [Ob.yM] at hw
   exact g2 q (h3 q hw (eb b q hb))
 have hHS:dJ C (jS β β' ρ h) (gH ρ h hy) w':=by
  refine ⟨?_,?_,?_,?_,hs.n0,?_,Nat.le_trans hs.size hs'.heap.size,hs'.heap.os.trans hs.os,hs'.heap.tape.trans hs.tape,hs'.heap.output.trans hs.output,?_⟩
  ·intro id o ho
   rcases hcls ho with ⟨hp,ho,eb⟩ | ⟨j,oy,hoy,rfl,rfl,_⟩
   ·rw [eb]
    exact (hs.obj id o ho).mono zFi hkeep zTv fun b hb=>hs'.heap.frame.block b (Yv hp ho hb).1 (Yv hp ho hb).2
   ·have hY:=Tw j oy hoy
    rw [<- hhy] at hY
    exact Ob.Rel.back (f:=iZ ρ h.length) (v:=iD ρ h) hpl zTw hY
  ·intro id hid
   rw [Gy] at hid
   have hp:=zTu (i:=id) (by omega)
   simp only [jS,hp]
   rw [if_neg (by omega)]
   exact zOx _ (by omega)
  ·intro i j o1 o2 b h1 h2 hb1 hb2
   rcases hcls h1 with ⟨hp1,ho1,eb1⟩ | ⟨j1,oy1,zXj,rfl,rfl,eb1⟩ <;> rcases hcls h2 with ⟨hp2,ho2,eb2⟩ | ⟨j2,oy2,zXk,rfl,rfl,eb2⟩
   ·rw [eb1] at hb1
    rw [eb2] at hb2
    exact hs.iG i j o1 o2 b ho1 ho2 hb1 hb2
   ·exfalso
    rw [eb1] at hb1
    obtain ⟨g1,g2⟩:=Yv hp1 ho1 hb1
    exact zXi zXk eb2 hb2 g1 g2
   ·exfalso
    rw [eb2] at hb2
    obtain ⟨g1,g2⟩:=Yv hp2 ho2 hb2
    exact zXi zXj eb1 hb1 g1 g2
   ·obtain ⟨q1,hb1⟩:=hb1
    obtain ⟨q2,hb2⟩:=hb2
    rw [zJo j1 j2 oy1 oy2 b zXj zXk ⟨q1,eb1 b q1 hb1⟩ ⟨q2,eb2 b q2 hb2⟩]
  ·intro id o b ho hb
   rcases hcls ho with ⟨hp,ho,eb⟩ | ⟨j,oy,hoy,rfl,rfl,eb⟩
   ·rw [eb] at hb ⊢
    obtain ⟨k1,k2,k3⟩:=hs.dK id o b ho hb
    exact ⟨k1,Nat.lt_of_lt_of_le k2 hs'.heap.size,k3⟩
   ·obtain ⟨q,hb⟩:=hb
    obtain ⟨k1,k2,k3⟩:=Gz j oy b hoy ⟨q,eb b q hb⟩
    rcases iF b w.heap.size with hlt | hge
    ·have hold:∀ k,(oy.back (iZ ρ h.length) (iD ρ h) j).wr=true->(oy.back (iZ ρ h.length) (iD ρ h) j).at (jS β β' ρ h (iZ ρ h.length j)) b k->∃ (i:Nat) (o:Ob),i ∈ ρ∧h[i]?=some o∧o.wr=true∧o.at (β i) b k:=fun k hw hk=>by
      rw [Ob.yM] at hw
      rcases k3 with k3 | k3
      ·have k3:w.heap.size <= b:=k3
       omega
      ·exact hown (k3 k hw (eb b k hk))
     have hwy:(oy.back (iZ ρ h.length) (iD ρ h) j).wr=true:=zXh hoy
     obtain ⟨i,oi,h1,h2,h3,h4⟩:=hold q hwy hb
     obtain ⟨g1,g2,g3⟩:=hs.dK i oi b h2 ⟨q,h4⟩
     refine ⟨g1,k2,?_⟩
     rcases g3 with g3 | g3
     ·exact .inl g3
     ·right
      intro k hw hk
      obtain ⟨i2,oi2,f1,f2,f3,f4⟩:=hold k hw hk
      rcases (hs.dK i2 oi2 b f2 ⟨k,f4⟩).2.2 with g5 | g5
      ·have:=hs.iG i i2 oi oi2 b h2 f2 ⟨q,h4⟩ ⟨k,f4⟩
       subst this
       rw [h2] at f2
       simp only [aA] at f2
       subst f2
       exact g3 k f3 f4
      ·exact g5 k f3 f4
    ·have h0:=hs.size
     exact ⟨fun _ hn=>by have:=hs.n0 b _ hn; omega,k2,.inl (by omega)⟩
  ·refine hs.frame.mK hs'.heap.frame fun b j hb ho=>?_
   obtain ⟨i,oi,h1,h2,h3,h4⟩:=hown ho
   rcases (hs.dK i oi b h2 ⟨j,h4⟩).2.2 with h5 | h5
   ·omega
   ·exact h5 j h3 h4
  ·intro j o hj
   obtain ⟨k1,k2⟩:=hs.fixed j o hj
   refine ⟨by rw [Gy]; omega,fun b hb=>?_⟩
   obtain ⟨k3,k4⟩:=k2 b hb
   have hoj:h[j]?=some h[j]:=by simp [k1]
   rcases zFi j (hs.obj j _ hoj).live with e | ⟨e,_⟩
   ·rw [e]; exact ⟨k3,k4⟩
   ·rw [k4] at e; cases e
 refine ⟨jS β β' ρ h,zFi,hkeep,zTv,hHS,?_⟩
 refine zJn (by have:=hs'.size; simpa using this) fun i v u hv hu=>?_
 simp only [List.getElem?_map,Option.map_eq_some_iff] at hv
 obtain ⟨v0,hv0,rfl⟩:=hv
 have hr:=hs'.reg i v0 hv0
 have e:(us.toArray).getD i undef=u:=by
  rw [Array.getD_eq_getD_getElem?]
  simp [hu]
 simp only [e] at hr
 exact hr.back (f:=iZ ρ h.length) (v:=iD ρ h) hpl zTw
theorem zTx {l:L} (h:l.isD=true):l.ids=[]:=by
 cases l <;> first | rfl | (cases h; done) | (rename_i f cs; cases cs <;> first | rfl | cases h)
theorem zOy:∀ {ls:List L},bH L.isD ls=true->L.Sz ls=[]
 | [],_=>rfl
 | l :: ls,h=>by
  simp only [bH,aD] at h
  simp only [L.Sz,zTx h.1,zOy h.2,List.append_nil]
theorem zOz:∀ {vs:List V},bH V.isD vs=true->zEl vs=[]
 | [],_=>rfl
 | v :: vs,h=>by
  simp only [bH,aD] at h
  have h1:v.ids=[]:=by
   cases v with
   | one l=>exact zTx h.1
   | agg ls=>exact zOy h.1
   | _=>rfl
  simp only [zEl,h1,zOz h.2,List.append_nil]
theorem Qg {vs:List V} {h:List Ob} (hd:bH V.isD vs=true):reach vs h=[]:=by
 unfold reach
 rw [zOz hd]
 rfl
theorem zTy {ρ:List Nat} {h h2:List Ob} {l:L} (hd:l.isD=true):l.ren ρ h=l.ren ρ h2:=by
 cases l <;> first | rfl | (cases hd; done) | (rename_i f cs; cases cs <;> first | rfl | cases hd)
theorem zPa {ρ:List Nat} {h h2:List Ob}:∀ {ls:List L},bH L.isD ls=true->L.yG ρ h ls=L.yG ρ h2 ls
 | [],_=>rfl
 | l :: ls,hd=>by
  simp only [bH,aD] at hd
  simp only [L.yG,zTy (h:=h) (h2:=h2) hd.1,zPa (h:=h) (h2:=h2) hd.2]
theorem zPb {ρ:List Nat} {h h2:List Ob}:∀ {vs:List V},bH V.isD vs=true->vs.map (V.ren ρ h)=vs.map (V.ren ρ h2)
 | [],_=>rfl
 | v :: vs,hd=>by
  simp only [bH,aD] at hd
  have h1:V.ren ρ h v=V.ren ρ h2 v:=by
   cases v with
   | one l=>simp only [V.ren,zTy (h:=h) (h2:=h2) hd.1]
   | agg ls=>simp only [V.ren,zPa (h:=h) (h2:=h2) hd.1]
   | _=>rfl
  simp only [List.map_cons,h1,zPb (h:=h) (h2:=h2) hd.2]
theorem zBh:∀ {h:List Ob} {n:Nat},Dj (fun _=>none) n h=h
 | [],_=>rfl
 | o :: r,n=>by simp only [Dj,zBh]
theorem Ro (h hy:List Ob):gH [] h hy=h++pY (iZ [] h.length) (iD [] h) 0 hy:=by
 unfold gH
 simp only [pos,List.length_nil,List.drop_zero,zBh]
theorem zVf {vs:List V} {h h2:List Ob} (hd:bH V.isD vs=true) (hl:h2.length=h.length) :
  (peM si so F).run vs h=(peM si so F).run vs h2∧∀ y,((peM si so F).enc y vs h).1=((peM si so F).enc y vs h2).1∧∃ os,((peM si so F).enc y vs h).2=h++os∧((peM si so F).enc y vs h2).2=h2++os:=by
 have e1:vs.map (V.ren [] h)=vs.map (V.ren [] h2):=zPb hd
 have e2:iD [] h=iD [] h2:=rfl
 refine ⟨?_,fun y=>⟨?_,pY (iZ [] h.length) (iD [] h) 0 (so.enc y).h,?_,?_⟩⟩
 ·simp only [peM,Qg hd,e1]
  rfl
 ·simp only [peM,Qg hd,hl,e2]
 ·simp only [peM,Qg hd,Ro]
 ·simp only [peM,Qg hd,Ro,hl,e2]
theorem eD (hM:fT P f si so F):(peM si so F).OK P f:=by
 refine ⟨hM.1,fun vs h y hr C β w xs hP hs ha=>?_,fun h=>(by cases h),fun h=>(by cases h),fun _ vs h h2 hd hl=>zVf hd hl⟩
 subst hP
 simp only [peM] at hr
 split at hr
 case h_2=>cases hr
 rename_i x hx
 simp only [aA,aB] at hr
 obtain ⟨hok,hF⟩:=hr
 obtain ⟨hnd,hlt,hlen,hwr,Ac⟩:=Fp hok
 have rR:=Qc hx (zFh hs ha hnd hlt)
 refine (hM.2 x y hF (inC C β h w _ hs) _ w xs rfl (by simp [inC,hlen]) rR).mono ?_
 rintro e w' ⟨us,β',rfl,hs'⟩
 obtain ⟨β2,h1,h2,h3,h4,h5⟩:=Jk hs hnd hlt hwr Ac hs'
 exact ⟨_,_,β2,⟨rfl,rfl⟩,h1,h2,h3,h4,_,rfl,Tv h5⟩
def wW (P:Program) (f:FuncId) (si so:Sh) (tp:TypeId) (sp:Sh) (F:si.X->Option (Sum so.X sp.X)):Prop :=
 gQ P f=true∧∀ x y,F x=some y->∀ (C:Ctx) (β:Nat->Pl) (w:World) (xs:List Value),C.P=P->C.fix.length <= si.os.length->Sim C β (si.enc x) { tmps:=xs.toArray,defers:=[] } w ->
  Calls P f xs.toArray w fun e w'=>(∃ (z:so.X) (us:List Value) (β':Nat->Pl),y=.inl z∧e=.returned (mP us)∧Sim C β' (so.enc z) { tmps:=us.toArray,defers:=[] } w') ∨
   ∃ (z:sp.X) (u:Value) (β':Nat->Pl),y=.inr z∧e=.panicked [{ v:=.iface tp u,recovered:=false }]∧Sim C β' (sp.enc z) { tmps:=#[u],defers:=[] } w'
def yAw (vs:List V):V :=
 match vs with
 | [v]=>v
 | _=>.bL
def ob2 {α γ ρ:Type} (o:Option (Sum α γ)) (k:α->Option ρ) (k':γ->Option ρ):Option ρ :=
 match o with
 | some (.inl x)=>k x
 | some (.inr x)=>k' x
 | none=>none
theorem zK {ρ:List Nat} {h hy:List Ob} {id:Nat} (hid:id < h.length) (hn:id ∉ ρ):(gH ρ h hy)[id]?=h[id]?:=by
 unfold gH
 have hl:∀ {g:Nat->Option Ob} {h:List Ob} {n:Nat},(Dj g n h).length=h.length:=by
  intro g h
  induction h with
  | nil=>intro n; rfl
  | cons o r ih=>intro n; simp [Dj,ih]
 rw [gM (by rw [hl]; exact hid),Tt,List.getElem?_eq_getElem hid]
 have hp:pos id ρ 0=none:=by
  cases hp:pos id ρ 0 with
  | none=>rfl
  | some j =>
   obtain ⟨m,_,hm⟩:=vM hp
   exact absurd (List.mem_of_getElem? hm) hn
 simp only [Nat.zero_add,hp,Option.map_some]
def zRz {ρ:Type} (si so:Sh) (tp:TypeId) (sp:Sh) (F:si.X->Option (Sum so.X sp.X)) (vs:List V) (h:List Ob) (k:Out->List Ob->Option ρ):Option ρ :=
 match si.dec ⟨vs.map (V.ren (reach vs h) h),inH (reach vs h) h⟩ with
 | some x=>chk (Mk (reach vs h) h si so && oW (inH (reach vs h) h) sp.os) (ob2 (F x)
   (fun y=>k (.ret (zFg ((so.enc y).r.map (V.back (iZ (reach vs h) h.length) (iD (reach vs h) h))))) (gH (reach vs h) h (so.enc y).h))
   (fun z=>k (.pan tp (yAw ((sp.enc z).r.map (V.back (iZ (reach vs h) h.length) (iD (reach vs h) h))))) (gH (reach vs h) h (sp.enc z).h)))
 | none=>none
theorem zVg {ρ:Type} {tp:TypeId} {sp:Sh} {F:si.X->Option (Sum so.X sp.X)} (hM:wW P f si so tp sp F) {vs:List V} {h:List Ob} {k:Out->List Ob->Option ρ} {r:ρ} (hr:zRz si so tp sp F vs h k=some r) :
  gQ P f=true∧wS P f vs h fun out h'=>k out h'=some r∧∀ id,id < h.length->id ∉ reach vs h->h'[id]?=h[id]?:=by
 refine ⟨hM.1,fun C β w xs hP hs ha=>?_⟩
 subst hP
 unfold zRz at hr
 split at hr
 case h_2=>cases hr
 rename_i x hx
 obtain ⟨hok,hF⟩:=fQ hr
 simp only [aD] at hok
 obtain ⟨hnd,hlt,hlen,hwr,Ac⟩:=Fp hok.1
 have rR:=Qc hx (zFh hs ha hnd hlt)
 cases hy:F x with
 | none=>rw [hy] at hF; cases hF
 | some y =>
  rw [hy] at hF
  refine (hM.2 x y hy (inC C β h w _ hs) _ w xs rfl (by simp [inC,hlen]) rR).mono ?_
  rintro e w' (⟨z,us,β',rfl,rfl,hs'⟩ | ⟨z,u,β',rfl,rfl,hs'⟩)
  ·obtain ⟨β2,h1,h2,h3,h4,h5⟩:=Jk hs hnd hlt hwr Ac hs'
   exact ⟨_,_,β2,⟨hF,fun id hid hn=>zK hid hn⟩,h1,h2,h3,h4,_,rfl,Tv h5⟩
  ·obtain ⟨β2,h1,h2,h3,h4,h5⟩:=Jk (us:=[u]) hs hnd hlt hwr hok.2 hs'
   refine ⟨_,_,β2,⟨hF,fun id hid hn=>zK hid hn⟩,h1,h2,h3,h4,u,rfl,?_⟩
   cases hv:(sp.enc z).r.map (V.back (iZ (reach vs h) h.length) (iD (reach vs h) h)) with
   | nil=>rw [hv] at h5; exact h5.elim
   | cons v l =>
    rw [hv] at h5
    cases l with
    | nil=>exact h5.1
    | cons v2 l=>exact h5.2.elim
end
end Go.Dec
namespace Go.Dec
section
variable {T:Tab} {C:Ctx} {β:Nat->Pl} {w:World}
def zMd (T:Tab) (σ:St):ResultVar->Option (Bool × V)
 | .tmp t=>some (true,σ.r.getD t .bL)
 | .cell t ty =>
  match σ.r.getD t .bL with
  | .one l=>loadAt T σ.h ty l
  | _=>none
def Qh (T:Tab) (σ:St):List ResultVar->Option (Bool × List V)
 | []=>some (true,[])
 | x :: r =>
  match zMd T σ x,Qh T σ r with
  | some (c,l),some (d,ls)=>some (c && d,l :: ls)
  | _,_=>none
theorem zSa {σ:St} {a:Act} {rv:ResultVar} {v:V} (hT:bC C.P T) (hs:Sim C β σ a w) (h:zMd T σ rv=some (true,v)) :
  ∃ x,(pX a.tmps rv).run C.P w=.ok x w∧v.Rel β w (C.N β σ.h) x:=by
 cases rv with
 | tmp t =>
  simp only [zMd,aA,aB,true_and] at h
  subst h
  exact ⟨a.tmps.getD t undef,rfl,Jh hs t⟩
 | cell t ty =>
  simp only [zMd] at h
  have hr:=Jh hs t
  split at h
  ·rename_i l hl
   rw [hl] at hr
   obtain ⟨y,h1,h2⟩:=Bf hT h hs.heap hr
   obtain ⟨ad,h3,h4⟩:=Fj h1
   refine ⟨y,?_,h2⟩
   simp only [pX,h3,asAddr,Sem.run_bind,Sem.run_pure,Result.andThen_ok,h4]
  ·cases h
theorem zBi {σ:St} {a:Act} (hT:bC C.P T) (hs:Sim C β σ a w):∀ {rs:List ResultVar} {vs:List V},Qh T σ rs=some (true,vs) ->
  ∀ acc:Array Value,∃ us:List Value,(rs.foldlM (fun (acc:Array Value) rv=>do let v <- pX a.tmps rv; pure (acc.push v)) acc).run C.P w=.ok (acc++us.toArray) w∧aU (fun v u=>V.Rel β w (C.N β σ.h) v u) vs us
 | [],vs,h,acc=>by
  simp only [Qh,aA,aB,true_and] at h
  subst h
  exact ⟨[],by simp,trivial⟩
 | rv :: rs,vs,h,acc=>by
  simp only [Qh] at h
  split at h
  ·rename_i c s d r h1 h2
   simp only [aA,aB,aD] at h
   obtain ⟨⟨rfl,rfl⟩,rfl⟩:=h
   obtain ⟨x,g1,g2⟩:=zSa hT hs h1
   obtain ⟨us,g4,g5⟩:=zBi hT hs h2 (acc.push x)
   refine ⟨x :: us,?_,⟨g2,g5⟩⟩
   simp only [List.foldlM_cons,Sem.run_bind,g1,Result.andThen_ok,Sem.run_pure,g4]
   simp
  ·cases h
theorem zFj {σ:St} {a:Act} {fn:Func} {vs:List V} (hT:bC C.P T) (hs:Sim C β σ a w) (h:Qh T σ fn.results.toList=some (true,vs)) :
  ∃ us:List Value,(results fn a.tmps).run C.P w=.ok (mP us) w∧aU (fun v u=>V.Rel β w (C.N β σ.h) v u) vs us:=by
 obtain ⟨us,h1,h2⟩:=zBi hT hs h #[]
 refine ⟨us,?_,h2⟩
 have e0:results fn a.tmps=(do let vs <- fn.results.mapM (pX a.tmps); pure (if h:vs.size=1 then vs[0] else .tuple vs)):=by
  unfold results
  congr 1
 have hm:(fn.results.mapM (pX a.tmps):Sem (Array Value)).run C.P w=.ok us.toArray w:=by
  rw [Array.mapM_eq_foldlM,<- Array.foldlM_toList]
  have e:(fun (acc:Array Value) rv=>do let v <- pX a.tmps rv; pure (acc.push v):Array Value->ResultVar->Sem (Array Value))=(fun (acc:Array Value) rv=>acc.push <$> pX a.tmps rv):=by
   funext acc rv
   rfl
  rw [e] at h1
  simpa using h1
 rw [e0]
 simp only [Sem.run_bind,hm,Result.andThen_ok,Sem.run_pure]
 match us with
 | []=>rfl
 | [u]=>rfl
 | u :: v :: us=>simp [mP]
theorem zFk {σ:St} {a:Act} {vs:List V} {us:List Value} (hs:Sim C β σ a w) (h:aU (fun v u=>V.Rel β w (C.N β σ.h) v u) vs us):Sim C β ⟨vs,σ.h⟩ { tmps:=us.toArray,defers:=[] } w:=by
 refine ⟨hs.heap,rfl,by simpa using h.length,fun i v hv=>?_⟩
 have hl:i < us.length:=by rw [<- h.length]; exact (bB.1 hv).1
 have hr:=h.get i (bB.1 hv).1 hl
 rw [(bB.1 hv).2] at hr
 have e2:(us.toArray).getD i undef=us[i]:=by simp [hl]
 simp only [e2]
 exact hr
def Mr (T:Tab) {ρ:Type} (res:List ResultVar) (so:Sh) (co:List Co) (σ:St) (g:so.X->Option ρ):Option ρ :=
 match Qh T σ res with
 | some (c,vs)=>chk c (enter T so co ⟨vs,σ.h⟩ g)
 | none=>none
def zMe (T:Tab) (res:List ResultVar) (so:Sh) (co:List Co):K so.X:=fun e σ =>
 match e with
 | .normal=>Mr T res so co σ some
 | .ret=>Mr T res so co σ some
 | _=>none
def zMf (T:Tab) (res:List ResultVar) (so:Sh) (co:List Co) (tp:TypeId) (sp:Sh) (cp:List Co):K (Sum so.X sp.X):=fun e σ =>
 match e with
 | .normal=>Mr T res so co σ fun y=>some (.inl y)
 | .ret=>Mr T res so co σ fun y=>some (.inl y)
 | .pan t v=>match Nat.beq t tp with
  | true=>enter T sp cp ⟨[v],σ.h⟩ fun z=>some (.inr z)
  | false=>none
 | _=>none
theorem zFl {σ:St} {a:Act} {fn:Func} {so:Sh} {co:List Co} {ρ:Type} {g:so.X->Option ρ} {r:ρ} {kf:Nat} (hT:bC C.P T) (hkf:C.fix.length <= kf) (hfx:bH (Co.fx kf) co=true) (hs:Sim C β σ a w) (h:Mr T fn.results.toList so co σ g=some r) :
  ∃ (us:List Value) (β':Nat->Pl) (y:so.X),(results fn a.tmps).run C.P w=.ok (mP us) w∧Sim C β' (so.enc y) { tmps:=us.toArray,defers:=[] } w∧g y=some r:=by
 unfold Mr at h
 split at h
 ·rename_i c vs hvs
  obtain ⟨rfl,h⟩:=fQ h
  obtain ⟨us,h1,h2⟩:=zFj hT hs hvs
  obtain ⟨β',_,y,h3,h4⟩:=vY hT hkf hfx h (zFk hs h2)
  exact ⟨us,β',y,h1,h3,h4⟩
 ·cases h
end
section
variable {P:Program} {T:Tab} {f:FuncId} {fn:Func} {c:Code} {si so sp:Sh}
theorem zBj {C:Ctx} {β:Nat->Pl} {w:World} {σ:St} {xs:List Value} (n:Nat) (hs:Sim C β σ { tmps:=xs.toArray,defers:=[] } w) :
  Sim C β ⟨Bw σ.r n,σ.h⟩ { tmps:=xs.toArray++Array.replicate (n - xs.toArray.size) undef,defers:=[] } w:=by
 have hl:σ.r.length=xs.length:=by simpa using hs.size
 refine ⟨hs.heap,rfl,by simp [Bw,hl],fun i u hu=>?_⟩
 simp only [Bw] at hu
 by_cases hi:i < σ.r.length
 ·rw [gM hi] at hu
  have hr:=hs.reg i u hu
  have e:(xs.toArray++Array.replicate (n - xs.toArray.size) undef).getD i undef=(xs.toArray).getD i undef:=by
   rw [Array.getD_eq_getD_getElem?,Array.getD_eq_getD_getElem?,Array.getElem?_append_left (by simpa using by omega)]
  rw [e]
  exact hr
 ·rw [List.getElem?_append_right (by omega),List.getElem?_replicate] at hu
  split at hu
  ·simp only [aA] at hu; subst hu; trivial
  ·cases hu
theorem fU {F:si.X->Option so.X} {Γ:Orc so.X} {an:An so.X} {co:List Co} (hf:P.funcs[f]?=some fn) (hb:fn.body=some c) (hh:gQ P f=true) (hT:bC P T) (hΓ:iQ P Γ) (hm:P.follows .mixedOrders=true)
  (ha:Zb P si.os.length c an) (hfx:an.fx si.os.length=true) (hco:bH (Co.fx si.os.length) co=true)
  (h:∀ x,ev Γ T c an ⟨Bw (si.enc x).r fn.ntmps,(si.enc x).h⟩ (zMe T fn.results.toList so co)=F x):fT P f si so F:=by
 refine ⟨hh,fun x y hF C β w xs hP hkf hs=>?_⟩
 rw [<- h x] at hF
 refine calls_of_wp hf hb ?_
 refine Tp (P:=P) hT hΓ hm c an ha hfx _ _ y hF C β _ w _ hP hkf (zBj fn.ntmps hs) ?_
 intro e x' σ' β' a' w' hs' hx' hk
 have fin:Mr T fn.results.toList so co σ' some=some y->x'=.ret∨x'=.normal->bodyPost P fn (fun e w'=>∃ (us:List Value) (β':Nat->Pl),e=.returned (mP us)∧Sim C β' (so.enc y) { tmps:=us.toArray,defers:=[] } w') x' a' w':=by
  intro hk hx'
  subst hP
  obtain ⟨us,β2,y',h1,h2,h3⟩:=zFl (fn:=fn) hT hkf hco hs' hk
  obtain rfl:=Option.some.inj h3
  rcases hx' with rfl | rfl
  ·exact ⟨hs'.defers,_,h1,us,β2,rfl,h2⟩
  ·exact ⟨hs'.defers,_,h1,us,β2,rfl,h2⟩
 cases e with
 | normal=>obtain rfl:=hx'; exact fin hk (.inr rfl)
 | ret=>obtain rfl:=hx'; exact fin hk (.inl rfl)
 | exit i=>simp [zMe] at hk
 | goto l=>simp [zMe] at hk
 | pan t u=>simp [zMe] at hk
theorem Ms {tp:TypeId} {F:si.X->Option (Sum so.X sp.X)} {Γ:Orc (Sum so.X sp.X)} {an:An (Sum so.X sp.X)} {co cp:List Co} (hf:P.funcs[f]?=some fn) (hb:fn.body=some c) (hh:gQ P f=true) (hT:bC P T) (hΓ:iQ P Γ) (hm:P.follows .mixedOrders=true)
  (ha:Zb P si.os.length c an) (hfx:an.fx si.os.length=true) (hco:bH (Co.fx si.os.length) co=true) (hcp:bH (Co.fx si.os.length) cp=true)
  (h:∀ x,ev Γ T c an ⟨Bw (si.enc x).r fn.ntmps,(si.enc x).h⟩ (zMf T fn.results.toList so co tp sp cp)=F x):wW P f si so tp sp F:=by
 refine ⟨hh,fun x y hF C β w xs hP hkf hs=>?_⟩
 rw [<- h x] at hF
 refine calls_of_wp hf hb ?_
 refine Tp (P:=P) hT hΓ hm c an ha hfx _ _ y hF C β _ w _ hP hkf (zBj fn.ntmps hs) ?_
 intro e x' σ' β' a' w' hs' hx' hk
 subst hP
 have fin:(Mr T fn.results.toList so co σ' fun y=>some (.inl y))=some y->x'=.ret∨x'=.normal->bodyPost C.P fn (fun e w'=>(∃ (z:so.X) (us:List Value) (β':Nat->Pl),y=.inl z∧e=.returned (mP us)∧Sim C β' (so.enc z) { tmps:=us.toArray,defers:=[] } w') ∨
   ∃ (z:sp.X) (u:Value) (β':Nat->Pl),y=.inr z∧e=.panicked [{ v:=.iface tp u,recovered:=false }]∧Sim C β' (sp.enc z) { tmps:=#[u],defers:=[] } w') x' a' w':=by
  intro hk hx'
  obtain ⟨us,β2,y',h1,h2,h3⟩:=zFl (fn:=fn) hT hkf hco hs' hk
  obtain rfl:=Option.some.inj h3
  rcases hx' with rfl | rfl
  ·exact ⟨hs'.defers,_,h1,.inl ⟨y',us,β2,rfl,rfl,h2⟩⟩
  ·exact ⟨hs'.defers,_,h1,.inl ⟨y',us,β2,rfl,rfl,h2⟩⟩
 cases e with
 | normal=>obtain rfl:=hx'; exact fin hk (.inr rfl)
 | ret=>obtain rfl:=hx'; exact fin hk (.inl rfl)
 | exit i=>simp [zMf] at hk
 | goto l=>simp [zMf] at hk
 | pan t u =>
  simp only [zMf] at hk
  split at hk
  ·rename_i hb
   have:=aL hb
   subst this
   obtain ⟨x0,rfl,hx0⟩:=hx'
   obtain ⟨β2,_,z,h3,h4⟩:=vY hT hkf hcp hk (zFk (vs:=[u]) (us:=[x0]) hs' ⟨hx0,trivial⟩)
   obtain rfl:=Option.some.inj h4
   exact ⟨hs'.defers,.inr ⟨z,x0,β2,rfl,rfl,h3⟩⟩
  ·cases hk
structure GE (ρ:Type) where
 f:FuncId
 run:List V->List Ob->(Out->List Ob->Option ρ)->Option ρ
 ids:List V->List Ob->List Nat:=reach
structure GE.OK (P:Program) {ρ:Type} (g:GE ρ):Prop where
 ok:∀ vs h k r,g.run vs h k=some r->gQ P g.f=true∧wS P g.f vs h fun out h'=>k out h'=some r∧∀ id,id < h.length->id ∉ g.ids vs h->h'[id]?=h[id]?
def zSb {ρ:Type}:List (GE ρ)->FuncId->List V->List Ob->(Out->List Ob->Option ρ)->Option ρ
 | [],_,_,_,_=>none
 | g :: r,f,vs,h,k=>match Nat.beq g.f f with
  | true=>g.run vs h k
  | false=>zSb r f vs h k
def zMg {ρ:Type}:List (GE ρ)->FuncId->List V->List Ob->List Nat
 | [],_,vs,h=>reach vs h
 | g :: r,f,vs,h=>match Nat.beq g.f f with
  | true=>g.ids vs h
  | false=>zMg r f vs h
def dB (ρ:Type) (l:List (FuncId × PE)) (m:List (GE ρ)):Orc ρ:=⟨pes l,zSb m,zMg m⟩
theorem aZ {ρ:Type} {l:List (FuncId × PE)} {m:List (GE ρ)} (h:∀ p ∈ l,p.2.OK P p.1) (hm:∀ g ∈ m,g.OK P):iQ P (dB ρ l m):=by
 refine ⟨(zXf (ρ:=ρ) h).pure,fun f vs hp k r hr=>?_⟩
 simp only [dB] at hr
 induction m with
 | nil=>cases hr
 | cons g m ih =>
  simp only [zSb] at hr
  split at hr
  ·rename_i hb
   simp only [dB,zMg,hb]
   have:=aL hb
   subst this
   exact (hm g (.head _)).ok vs hp k r hr
  ·rename_i hb
   simp only [dB,zMg,hb]
   exact ih (fun g hg=>hm g (.tail _ hg)) hr
def geP {ρ:Type} (f:FuncId) (si so:Sh) (tp:TypeId) (sp:Sh) (F:si.X->Option (Sum so.X sp.X)):GE ρ:={ f:=f,run:=zRz si so tp sp F }
theorem Mt {ρ:Type} {tp:TypeId} {F:si.X->Option (Sum so.X sp.X)} (h:wW P f si so tp sp F):(geP (ρ:=ρ) f si so tp sp F).OK P:=⟨fun _ _ _ _ hr=>zVg h hr⟩
theorem bA {ρ:Type}:∀ g ∈ ([]:List (GE ρ)),g.OK P:=fun _ h=>by cases h
theorem bZ {ρ:Type} {g:GE ρ} {m:List (GE ρ)} (h:g.OK P) (hm:∀ g ∈ m,g.OK P):∀ x ∈ g :: m,x.OK P:=fun x hx=>by
 cases hx with
 | head=>exact h
 | tail _ hx=>exact hm x hx
end
def zSc {α ρ:Type} (B:Nat->(α->Option ρ)->α->Option ρ):Nat->α->Option ρ
 | 0,_=>none
 | n+1,x=>B n (zSc B n) x
theorem zSd {P:Program} {f:FuncId} {si so:Sh} (hh:gQ P f=true):fT P f si so (fun _=>none):=⟨hh,fun _ _ h=>by cases h⟩
theorem zBk {P:Program} {f:FuncId} {si so:Sh} {B:Nat->(si.X->Option so.X)->si.X->Option so.X} (hh:gQ P f=true) (h:∀ n r,fT P f si so r->fT P f si so (B n r)):∀ n,fT P f si so (zSc B n)
 | 0=>zSd hh
 | n+1=>h n _ (zBk hh h n)
end Go.Dec
