/- Part of a proof over this seat: a library of my own, and what it says of this seat. No statement is proved here. -/
import Derived.Test.YthhbdkdofhhoeaaGreatDoorPartAJ
namespace Go.Dec
mutual
def L.back (f v:Nat->Nat):L->L
 | .ptr id o=>.ptr (f id) o
 | .gM id o=>.gM (f id) o
 | .lX id o es i sub=>.lX (f id) o es i sub
 | .gB id u i o=>.gB (f id) (u+v id) i o
 | .sl id u i n=>.sl (f id) (u+v id) i n
 | .own id u=>.own (f id) (u+v id)
 | .clo g caps=>.clo g (L.backs f v caps)
 | .mp id=>.mp (f id)
 | l=>l
def L.backs (f v:Nat->Nat):List L->List L
 | []=>[]
 | l :: ls=>l.back f v :: L.backs f v ls
end
def V.back (f v:Nat->Nat):V->V
 | .one l=>.one (l.back f v)
 | .agg ls=>.agg (L.backs f v ls)
 | _=>.bW
def Ob.back (f v:Nat->Nat) (id:Nat):Ob->Ob
 | .box e ls=>.box e (L.backs f v ls)
 | .arr e t u rows wr=>.arr e t (u+v id) rows wr
 | .fm tab=>.fm tab
 | .dm kt vt es=>.dm kt vt es
 | .stk e ei u rows top=>.stk e ei (u+v id) rows (top.map (L.backs f v))
section
variable {β β':Nat->Pl} {w:World} {N N':Nat->Nat->Prop}
structure Tp (p q:Pl) (v:Nat):Prop where
 live:q.live=p.live
 box:q.box=p.box
 blk:q.blk=p.blk
 row:p.box=false->q.ver=p.ver+v∧q.size=p.size∧q.cap=p.cap∧q.len=p.len
 sub:p.box=false->q.sub=p.sub
theorem Tp.yEf {p q:Pl} {v:Nat} (h:Tp p q v) (hb:p.box=false) {off len:Nat} {c:Value}:dP q off len c <-> dP p off len c:=by
 obtain ⟨_,h2,h3,_⟩:=h.row hb
 unfold dP
 rw [h.blk,h2,h3]
mutual
theorem L.Rel.back {f v:Nat->Nat} (hβ:∀ j,(β j).live=true->Tp (β j) (β' (f j)) (v j)) (hN:∀ b j,b < w.heap.size->N' b j->N b j):∀ {l:L} {cs:List Value},l.Rel β w N cs->(l.back f v).Rel β' w N' cs
 | .val t x,cs,h=>by simp only [L.back,L.Rel] at *; exact Ty.Rel.mono (Keep.refl _ w) hN h
 | .ptr id off,cs,h=>by
  simp only [L.back,L.Rel] at *
  obtain ⟨h1,h2,h3⟩:=h
  have:=hβ id h1
  exact ⟨this.live ▸ h1,this.box ▸ h2,by rw [this.blk]; exact h3⟩
 | .lX id off es i sub,cs,h=>by
  simp only [L.back,L.Rel] at *
  obtain ⟨h1,h2,h3⟩:=h
  have:=hβ id h1
  exact ⟨this.live ▸ h1,this.box ▸ h2,by rw [this.blk]; exact h3⟩
 | .lC,cs,h=>by simp only [L.back,L.Rel] at *; exact h
 | .gM id off,cs,h=>by
  simp only [L.back,L.Rel] at *
  obtain ⟨c,e,h⟩:=h
  refine ⟨c,e,?_⟩
  rcases h with h | ⟨h1,h2,h3⟩
  ·exact .inl h
  ·have:=hβ id h1
   exact .inr ⟨this.live ▸ h1,this.box ▸ h2,by rw [this.blk]; exact h3⟩
 | .gB id u i off,cs,h=>by
  simp only [L.back,L.Rel] at *
  obtain ⟨h1,h2,h3,c,h4,h5,h6⟩:=h
  have:=hβ id h1
  obtain ⟨g1,g2,g3,g4⟩:=this.row h2
  refine ⟨this.live ▸ h1,this.box ▸ h2,by omega,c,h4,h5,fun hv=>?_⟩
  rw [this.blk,g2]
  exact h6 (by omega)
 | .lD t x off,cs,h=>by simp only [L.back,L.Rel] at *; obtain ⟨c,hc,hr⟩:=h; exact ⟨c,hc,hr.mono (Keep.refl _ w) hN⟩
 | .sl id u off len,cs,h=>by
  simp only [L.back,L.Rel] at *
  obtain ⟨h1,h2,h3,c,h4,h5,h6⟩:=h
  have:=hβ id h1
  obtain ⟨g1,g2,g3,g4⟩:=this.row h2
  exact ⟨this.live ▸ h1,this.box ▸ h2,by omega,c,h4,h5,fun hv=>(this.yEf h2).2 (h6 (by omega))⟩
 | .own id u,cs,h=>by
  simp only [L.back,L.Rel] at *
  obtain ⟨h1,h2,h3,c,h4,h5,h6⟩:=h
  have:=hβ id h1
  obtain ⟨g1,g2,g3,g4⟩:=this.row h2
  exact ⟨this.live ▸ h1,this.box ▸ h2,by omega,c,h4,h5,fun hv=>by rw [g4]; exact (this.yEf h2).2 (h6 (by omega))⟩
 | .dG,cs,h=>by simp only [L.back,L.Rel] at *; exact h
 | .clo g caps,cs,h=>by
  simp only [L.back,L.Rel] at *
  obtain ⟨us,hc,hr⟩:=h
  exact ⟨us,hc,L.dQ.back hβ hN hr⟩
 | .bad n,cs,h=>by simp only [L.back,L.Rel] at *; exact h
 | .Fb x tab,cs,h=>by simp only [L.back,L.Rel] at *; exact h
 | .mp id,cs,h=>by
  simp only [L.back,L.Rel] at *
  obtain ⟨h1,h2,h3⟩:=h
  have:=hβ id h1
  exact ⟨this.live ▸ h1,this.box ▸ h2,by rw [this.blk]; exact h3⟩
theorem L.dQ.back {f v:Nat->Nat} (hβ:∀ j,(β j).live=true->Tp (β j) (β' (f j)) (v j)) (hN:∀ b j,b < w.heap.size->N' b j->N b j):∀ {ls:List L} {us:List Value},L.dQ β w N ls us->L.dQ β' w N' (L.backs f v ls) us
 | [],us,h=>by simp only [L.backs,L.dQ] at *; exact h
 | l :: ls,us,h=>by
  simp only [L.backs,L.dQ] at *
  obtain ⟨u,r,e,h1,h2⟩:=h
  exact ⟨u,r,e,L.Rel.back hβ hN h1,L.dQ.back hβ hN h2⟩
end
theorem aI.back {f v:Nat->Nat} (hβ:∀ j,(β j).live=true->Tp (β j) (β' (f j)) (v j)) (hN:∀ b j,b < w.heap.size->N' b j->N b j):∀ {ls:List L} {cs:List Value},aI β w N ls cs->aI β' w N' (L.backs f v ls) cs
 | [],_,h=>h
 | _l :: _ls,_,⟨c1,c2,e,h1,h2⟩=>⟨c1,c2,e,h1.back hβ hN,aI.back hβ hN h2⟩
theorem V.Rel.back {f v:Nat->Nat} (hβ:∀ j,(β j).live=true->Tp (β j) (β' (f j)) (v j)) (hN:∀ b j,b < w.heap.size->N' b j->N b j) {x:V} {u:Value} (h:x.Rel β w N u):(x.back f v).Rel β' w N' u:=by
 cases x with
 | one l=>exact L.Rel.back hβ hN h
 | agg ls=>obtain ⟨cs,e,h⟩:=h; exact ⟨cs,e,h.back hβ hN⟩
 | _=>trivial
theorem Ob.Rel.back {f v:Nat->Nat} (hβ:∀ j,(β j).live=true->Tp (β j) (β' (f j)) (v j)) (hN:∀ b j,b < w.heap.size->N' b j->N b j) {id:Nat} {o:Ob} (h:o.Rel β w N (β id)):(o.back f v id).Rel β' w N' (β' (f id)):=by
 cases o with
 | box e ls =>
  simp only [Ob.back,Ob.Rel] at *
  obtain ⟨h1,h2,b,cs,h3,h4,h5⟩:=h
  have:=hβ id h1
  exact ⟨this.live ▸ h1,this.box ▸ h2,b,cs,this.blk ▸ h3,h4.back hβ hN,h5⟩
 | arr e t u rows wr =>
  simp only [Ob.back,Ob.Rel] at *
  obtain ⟨h1,h2,h3,h4,h5,h6,h7⟩:=h
  have:=hβ id h1
  obtain ⟨g1,g2,g3,g4⟩:=this.row h2
  refine ⟨this.live ▸ h1,this.box ▸ h2,by omega,by rw [g2,h4],h5,by rw [g4,h6],?_⟩
  rw [this.blk,g3]
  rcases h7 with h7 | ⟨b,cur,css,k1,k2,k3,k4⟩
  ·exact .inl h7
  ·exact .inr ⟨b,cur,css,k1,k2,k3.mono fun _ _ h=>h.mono (Keep.refl _ w) hN,k4⟩
 | fm tab =>
  simp only [Ob.back,Ob.Rel] at *
  obtain ⟨h1,h2,b,es,n,h3,h4⟩:=h
  have:=hβ id h1
  exact ⟨this.live ▸ h1,this.box ▸ h2,b,es,n,this.blk ▸ h3,h4⟩
 | dm kt vt es =>
  simp only [Ob.back,Ob.Rel] at *
  obtain ⟨h1,h2,b,ms,h3,h4,h5⟩:=h
  have:=hβ id h1
  exact ⟨this.live ▸ h1,this.box ▸ h2,b,ms,this.blk ▸ h3,h4,h5.mono (Keep.refl _ w) hN⟩
 | stk e ei u rows top =>
  simp only [Ob.back,Ob.Rel] at *
  obtain ⟨h1,h2,h3,h4,h5,b,cur,cs,cs2,bs,k1,k2,k3,k4,k5,k6,k7,k8,k9,k10,k11⟩:=h
  have:=hβ id h1
  obtain ⟨g1,g2,g3,g4⟩:=this.row h2
  exact ⟨this.live ▸ h1,this.box ▸ h2,by omega,by rw [g2,h4],by rw [g4,h5,Pg],b,cur,cs,cs2,bs,this.blk ▸ k1,k2,by rw [g3]; exact k3,by rw [g3,g4]; exact k4,by rw [g3]; exact k5,by rw [this.sub h2]; exact k6,k7,k8,k9,k10.imp _ fun ls cs _ hl=>hl.back hβ hN,by rw [g4]; exact k11⟩
end
def gT (P:Program) (f:FuncId) (si so:Sh) (F:si.X->Option so.X):Prop :=
 gL P f=true∧∀ x y,F x=some y->∀ (C:Ctx) (β:Nat->Pl) (w:World) (xs:List Value),C.P=P->C.fix.length <= si.os.length->Sim C β (si.enc x) { tmps:=xs.toArray,defers:=[] } w ->
  Calls P f xs.toArray w fun e w'=>∃ (us:List Value) (β':Nat->Pl),e=.returned (oC us)∧Sim C β' (so.enc y) { tmps:=us.toArray,defers:=[] } w'
def zDv:List V->Option (List (Sum L (List L)))
 | []=>some []
 | v :: r=>match v.sum,zDv r with
  | some s,some ss=>some (s :: ss)
  | _,_=>none
def zNr (vs:List V):V :=
 match zDv vs with
 | some ss=>yBv ss
 | none=>.bW
def Iy (g:Nat->Option Ob):Nat->List Ob->List Ob
 | _,[]=>[]
 | i,o :: r=>(match g i with | some o'=>o' | none=>o) :: Iy g (i+1) r
def sI (f v:Nat->Nat):Nat->List Ob->List Ob
 | _,[]=>[]
 | j,o :: r=>o.back f v j :: sI f v (j+1) r
def rM:List Ob->List OS->Bool
 | [],_=>true
 | .box .. :: r,_ :: s=>rM r s
 | .fm .. :: r,_ :: s=>rM r s
 | .dm .. :: r,_ :: s=>rM r s
 | .arr .. :: r,.row .. :: s=>rM r s
 | .stk .. :: r,.stk .. :: s=>rM r s
 | _,_=>false
def jX (ρ:List Nat) (n:Nat) (j:Nat):Nat:=match ρ[j]? with | some i=>i | none=>n+(j - ρ.length)
def iR (ρ:List Nat) (h:List Ob) (j:Nat):Nat:=match ρ[j]? with
 | some i=>(match h[i]? with | some (.arr _ _ u _ _)=>u+1 | some (.stk _ _ u _ _)=>u+1 | _=>0)
 | none=>0
def gZ (ρ:List Nat) (h hy:List Ob):List Ob :=
 Iy (fun i=>match pos i ρ 0 with | some j=>(match hy[j]? with | some o=>some (o.back (jX ρ h.length) (iR ρ h) j) | none=>none) | none=>none) 0 h++sI (jX ρ h.length) (iR ρ h) ρ.length (hy.drop ρ.length)
def Tq (ρ:List Nat) (h:List Ob) (si so:Sh):Bool :=
 nodupB ρ && (bR (fun i=>Nat.blt i h.length) ρ && (Nat.beq ρ.length si.os.length && (bR Ob.wr (inH ρ h) && rM (inH ρ h) so.os)))
def peM (si so:Sh) (F:si.X->Option so.X):PE where
 R:=so.X
 use:=3
 run vs h:=match si.dec ⟨vs.map (V.ren (reach vs h) h),inH (reach vs h) h⟩ with
  | some x=>some (Tq (reach vs h) h si so,F x)
  | none=>none
 enc y vs h:=(zNr ((so.enc y).r.map (V.back (jX (reach vs h) h.length) (iR (reach vs h) h))),gZ (reach vs h) h (so.enc y).h)
theorem zAt {g:Nat->Option Ob}:∀ {h:List Ob} {n i:Nat},(Iy g n h)[i]?=(h[i]?).map fun o=>(match g (n+i) with | some o'=>o' | none=>o)
 | [],n,i=>by simp [Iy]
 | o :: r,n,0=>by simp [Iy]
 | o :: r,n,i+1=>by
  simp only [Iy,List.getElem?_cons_succ]
  rw [zAt (h:=r),show n+1+i=n+(i+1) by omega]
theorem xL {g:Nat->Option Ob}:∀ {h:List Ob} {n:Nat},(Iy g n h).length=h.length
 | [],_=>rfl
 | _ :: r,n=>congrArg (· + 1) (xL (h:=r) (n:=n+1))
theorem Tt {f v:Nat->Nat}:∀ {h:List Ob} {n i:Nat},(sI f v n h)[i]?=(h[i]?).map fun o=>o.back f v (n+i)
 | [],n,i=>by simp [sI]
 | o :: r,n,0=>by simp [sI]
 | o :: r,n,i+1=>by
  simp only [sI,List.getElem?_cons_succ]
  rw [Tt (h:=r),show n+1+i=n+(i+1) by omega]
theorem Kv {f v:Nat->Nat}:∀ {h:List Ob} {n:Nat},(sI f v n h).length=h.length
 | [],_=>rfl
 | _ :: r,n=>congrArg (· + 1) (Kv (h:=r) (n:=n+1))
theorem Ob.Tv {f v:Nat->Nat} {j:Nat} (o:Ob):(o.back f v j).mR=o.mR:=by cases o <;> rfl
theorem Ob.Cn {f v:Nat->Nat} {j:Nat} (o:Ob):(o.back f v j).wr=o.wr:=by cases o <;> rfl
theorem tT:∀ {hc:List Ob} {os:List OS} {j:Nat} {e:TypeId} {t:Ty} {u:Nat} {rows:List t.den} {wr:Bool},rM hc os=true->hc[j]?=some (.arr e t u rows wr)->∃ e' t',os[j]?=some (.row e' t')
 | [],_,j,_,_,_,_,_,_,h=>by simp at h
 | .box .. :: r,[],j,_,_,_,_,_,hk,_=>by cases hk
 | .box .. :: r,s :: os,0,_,_,_,_,_,_,h=>by simp at h
 | .box .. :: r,s :: os,j+1,_,_,_,_,_,hk,h=>by
  obtain ⟨e',t',h'⟩:=tT (hc:=r) (os:=os) (j:=j) hk (by simpa using h)
  exact ⟨e',t',by simpa using h'⟩
 | .fm .. :: r,[],j,_,_,_,_,_,hk,_=>by cases hk
 | .fm .. :: r,s :: os,0,_,_,_,_,_,_,h=>by simp at h
 | .fm .. :: r,s :: os,j+1,_,_,_,_,_,hk,h=>by
  obtain ⟨e',t',h'⟩:=tT (hc:=r) (os:=os) (j:=j) hk (by simpa using h)
  exact ⟨e',t',by simpa using h'⟩
 | .dm .. :: r,[],j,_,_,_,_,_,hk,_=>by cases hk
 | .dm .. :: r,s :: os,0,_,_,_,_,_,_,h=>by simp at h
 | .dm .. :: r,s :: os,j+1,_,_,_,_,_,hk,h=>by
  obtain ⟨e',t',h'⟩:=tT (hc:=r) (os:=os) (j:=j) hk (by simpa using h)
  exact ⟨e',t',by simpa using h'⟩
 | .stk .. :: r,[],j,_,_,_,_,_,hk,_=>by cases hk
 | .stk .. :: r,.box .. :: os,j,_,_,_,_,_,hk,_=>by cases hk
 | .stk .. :: r,.row .. :: os,j,_,_,_,_,_,hk,_=>by cases hk
 | .stk .. :: r,.fm .. :: os,j,_,_,_,_,_,hk,_=>by cases hk
 | .stk .. :: r,.dm .. :: os,j,_,_,_,_,_,hk,_=>by cases hk
 | .stk .. :: r,.stk .. :: os,0,_,_,_,_,_,_,h=>by simp at h
 | .stk .. :: r,.stk .. :: os,j+1,_,_,_,_,_,hk,h=>by
  obtain ⟨e',t',h'⟩:=tT (hc:=r) (os:=os) (j:=j) hk (by simpa using h)
  exact ⟨e',t',by simpa using h'⟩
 | .arr .. :: r,.stk .. :: os,j,_,_,_,_,_,hk,_=>by cases hk
 | .arr .. :: r,.fm .. :: os,j,_,_,_,_,_,hk,_=>by cases hk
 | .arr .. :: r,.dm .. :: os,j,_,_,_,_,_,hk,_=>by cases hk
 | .arr .. :: r,[],j,_,_,_,_,_,hk,_=>by cases hk
 | .arr .. :: r,.box .. :: os,j,_,_,_,_,_,hk,_=>by cases hk
 | .arr .. :: r,.row e t :: os,0,_,_,_,_,_,_,_=>⟨e,t,rfl⟩
 | .arr .. :: r,.row e t :: os,j+1,_,_,_,_,_,hk,h=>by
  obtain ⟨e',t',h'⟩:=tT (hc:=r) (os:=os) (j:=j) hk (by simpa using h)
  exact ⟨e',t',by simpa using h'⟩
theorem zI {A:Type}:∀ {os:List OS} {x:OTs os A} {j:Nat} {e:TypeId} {t:Ty},os[j]?=some (.row e t)->∃ rows,(eT os x).1[j]?=some (.arr e t 0 rows true)
 | [],_,j,_,_,h=>by simp at h
 | .box e0 ls :: r,x,0,_,_,h=>by simp at h
 | .box e0 ls :: r,x,j+1,e,t,h=>by
  obtain ⟨rows,h'⟩:=zI (os:=r) (x:=(eG ls x).2) (j:=j) (by simpa using h)
  exact ⟨rows,by simpa [eT] using h'⟩
 | .fm tab :: r,x,0,_,_,h=>by simp at h
 | .fm tab :: r,x,j+1,e,t,h=>by
  obtain ⟨rows,h'⟩:=zI (os:=r) (x:=x) (j:=j) (by simpa using h)
  exact ⟨rows,by simpa [eT] using h'⟩
 | .dm kt vt :: r,x,0,_,_,h=>by simp at h
 | .dm kt vt :: r,x,j+1,e,t,h=>by
  obtain ⟨rows,h'⟩:=zI (os:=r) (x:=x.2) (j:=j) (by simpa using h)
  exact ⟨rows,by simpa [eT] using h'⟩
 | .stk e0 ei :: r,x,0,_,_,h=>by simp at h
 | .stk e0 ei :: r,x,j+1,e,t,h=>by
  obtain ⟨rows,h'⟩:=zI (os:=r) (x:=x.2) (j:=j) (by simpa using h)
  exact ⟨rows,by simpa [eT] using h'⟩
 | .row e0 t0 :: r,x,0,e,t,h=>by
  simp only [List.getElem?_cons_zero,aA,OS.row.injEq] at h
  obtain ⟨rfl,rfl⟩:=h
  exact ⟨x.1,rfl⟩
 | .row e0 t0 :: r,x,j+1,e,t,h=>by
  obtain ⟨rows,h'⟩:=zI (os:=r) (x:=x.2) (j:=j) (by simpa using h)
  exact ⟨rows,by simpa [eT] using h'⟩
theorem tV:∀ {hc:List Ob} {os:List OS} {j:Nat} {e ei:TypeId} {u:Nat} {rows:List (Int × Int × List Int × List Int × Unit)} {top:Option (List L)},rM hc os=true->hc[j]?=some (.stk e ei u rows top)->∃ e' ei',os[j]?=some (.stk e' ei')
 | [],_,j,_,_,_,_,_,_,h=>by simp at h
 | .box .. :: r,[],j,_,_,_,_,_,hk,_=>by cases hk
 | .box .. :: r,s :: os,0,_,_,_,_,_,_,h=>by simp at h
 | .box .. :: r,s :: os,j+1,_,_,_,_,_,hk,h=>by
  obtain ⟨e',t',h'⟩:=tV (hc:=r) (os:=os) (j:=j) hk (by simpa using h)
  exact ⟨e',t',by simpa using h'⟩
 | .fm .. :: r,[],j,_,_,_,_,_,hk,_=>by cases hk
 | .fm .. :: r,s :: os,0,_,_,_,_,_,_,h=>by simp at h
 | .fm .. :: r,s :: os,j+1,_,_,_,_,_,hk,h=>by
  obtain ⟨e',t',h'⟩:=tV (hc:=r) (os:=os) (j:=j) hk (by simpa using h)
  exact ⟨e',t',by simpa using h'⟩
 | .dm .. :: r,[],j,_,_,_,_,_,hk,_=>by cases hk
 | .dm .. :: r,s :: os,0,_,_,_,_,_,_,h=>by simp at h
 | .dm .. :: r,s :: os,j+1,_,_,_,_,_,hk,h=>by
  obtain ⟨e',t',h'⟩:=tV (hc:=r) (os:=os) (j:=j) hk (by simpa using h)
  exact ⟨e',t',by simpa using h'⟩
 | .arr .. :: r,[],j,_,_,_,_,_,hk,_=>by cases hk
 | .arr .. :: r,.box .. :: os,j,_,_,_,_,_,hk,_=>by cases hk
 | .arr .. :: r,.fm .. :: os,j,_,_,_,_,_,hk,_=>by cases hk
 | .arr .. :: r,.dm .. :: os,j,_,_,_,_,_,hk,_=>by cases hk
 | .arr .. :: r,.stk .. :: os,j,_,_,_,_,_,hk,_=>by cases hk
 | .stk .. :: r,[],j,_,_,_,_,_,hk,_=>by cases hk
 | .stk .. :: r,.box .. :: os,j,_,_,_,_,_,hk,_=>by cases hk
 | .stk .. :: r,.row .. :: os,j,_,_,_,_,_,hk,_=>by cases hk
 | .stk .. :: r,.fm .. :: os,j,_,_,_,_,_,hk,_=>by cases hk
 | .stk .. :: r,.dm .. :: os,j,_,_,_,_,_,hk,_=>by cases hk
 | .arr .. :: r,.row .. :: os,0,_,_,_,_,_,_,h=>by simp at h
 | .arr .. :: r,.row .. :: os,j+1,_,_,_,_,_,hk,h=>by
  obtain ⟨e',t',h'⟩:=tV (hc:=r) (os:=os) (j:=j) hk (by simpa using h)
  exact ⟨e',t',by simpa using h'⟩
 | .stk .. :: r,.stk e ei :: os,0,_,_,_,_,_,_,_=>⟨e,ei,rfl⟩
 | .stk .. :: r,.stk .. :: os,j+1,_,_,_,_,_,hk,h=>by
  obtain ⟨e',t',h'⟩:=tV (hc:=r) (os:=os) (j:=j) hk (by simpa using h)
  exact ⟨e',t',by simpa using h'⟩
theorem zJ {A:Type}:∀ {os:List OS} {x:OTs os A} {j:Nat} {e ei:TypeId},os[j]?=some (.stk e ei)->∃ rows,(eT os x).1[j]?=some (.stk e ei 0 rows none)
 | [],_,j,_,_,h=>by simp at h
 | .box e0 ls :: r,x,0,_,_,h=>by simp at h
 | .box e0 ls :: r,x,j+1,e,t,h=>by
  obtain ⟨rows,h'⟩:=zJ (os:=r) (x:=(eG ls x).2) (j:=j) (by simpa using h)
  exact ⟨rows,by simpa [eT] using h'⟩
 | .fm tab :: r,x,0,_,_,h=>by simp at h
 | .fm tab :: r,x,j+1,e,t,h=>by
  obtain ⟨rows,h'⟩:=zJ (os:=r) (x:=x) (j:=j) (by simpa using h)
  exact ⟨rows,by simpa [eT] using h'⟩
 | .dm kt vt :: r,x,0,_,_,h=>by simp at h
 | .dm kt vt :: r,x,j+1,e,t,h=>by
  obtain ⟨rows,h'⟩:=zJ (os:=r) (x:=x.2) (j:=j) (by simpa using h)
  exact ⟨rows,by simpa [eT] using h'⟩
 | .row e0 t0 :: r,x,0,_,_,h=>by simp at h
 | .row e0 t0 :: r,x,j+1,e,t,h=>by
  obtain ⟨rows,h'⟩:=zJ (os:=r) (x:=x.2) (j:=j) (by simpa using h)
  exact ⟨rows,by simpa [eT] using h'⟩
 | .stk e0 t0 :: r,x,0,e,t,h=>by
  simp only [List.getElem?_cons_zero,aA,OS.stk.injEq] at h
  obtain ⟨rfl,rfl⟩:=h
  exact ⟨x.1,rfl⟩
 | .stk e0 t0 :: r,x,j+1,e,t,h=>by
  obtain ⟨rows,h'⟩:=zJ (os:=r) (x:=x.2) (j:=j) (by simpa using h)
  exact ⟨rows,by simpa [eT] using h'⟩
theorem Cq {A:Type}:∀ {os:List OS} {x:OTs os A} {j:Nat} {o:Ob},(eT os x).1[j]?=some o->o.wr=true
 | [],_,j,_,h=>by simp [eT] at h
 | .box e0 ls :: r,x,0,_,h=>by simp only [eT,List.getElem?_cons_zero,aA] at h; subst h; rfl
 | .box e0 ls :: r,x,j+1,o,h=>Cq (os:=r) (x:=(eG ls x).2) (j:=j) (by simpa [eT] using h)
 | .fm tab :: r,x,0,_,h=>by simp only [eT,List.getElem?_cons_zero,aA] at h; subst h; rfl
 | .fm tab :: r,x,j+1,o,h=>Cq (os:=r) (x:=x) (j:=j) (by simpa [eT] using h)
 | .dm kt vt :: r,x,0,_,h=>by simp only [eT,List.getElem?_cons_zero,aA] at h; subst h; rfl
 | .dm kt vt :: r,x,j+1,o,h=>Cq (os:=r) (x:=x.2) (j:=j) (by simpa [eT] using h)
 | .stk e0 ei :: r,x,0,_,h=>by simp only [eT,List.getElem?_cons_zero,aA] at h; subst h; rfl
 | .stk e0 ei :: r,x,j+1,o,h=>Cq (os:=r) (x:=x.2) (j:=j) (by simpa [eT] using h)
 | .row e0 t0 :: r,x,0,_,h=>by simp only [eT,List.getElem?_cons_zero,aA] at h; subst h; rfl
 | .row e0 t0 :: r,x,j+1,o,h=>Cq (os:=r) (x:=x.2) (j:=j) (by simpa [eT] using h)
theorem zJg {β:Nat->Pl} {w:World} {N:Nat->Nat->Prop}:∀ {vs:List V} {us:List Value} {ss:List (Sum L (List L))},zDv vs=some ss->aY (fun v u=>V.Rel β w N v u) vs us->aY (fV β w N) ss us
 | [],[],ss,h,_=>by simp only [zDv,aA] at h; subst h; trivial
 | v :: vs,u :: us,ss,h,hr=>by
  simp only [zDv] at h
  split at h
  ·rename_i s ss' h1 h2
   simp only [aA] at h
   subst h
   exact ⟨V.zGo h1 hr.1,zJg h2 hr.2⟩
  ·cases h
 | [],_ :: _,_,_,hr=>hr.elim
 | _ :: _,[],_,_,hr=>hr.elim
theorem zAu {β:Nat->Pl} {w:World} {N:Nat->Nat->Prop} {vs:List V} {us:List Value} (hr:aY (fun v u=>V.Rel β w N v u) vs us):(zNr vs).Rel β w N (oC us):=by
 unfold zNr
 split
 ·rename_i ss h
  exact zNq (zJg h hr)
 ·trivial
theorem zSq {α γ:Type} {R:α->γ->Prop}:∀ {x:List α} {y:List γ},x.length=y.length->(∀ (i:Nat) (a:α) (b:γ),x[i]?=some a->y[i]?=some b->R a b)->aY R x y
 | [],[],_,_=>trivial
 | a :: x,b :: y,hl,h=>⟨h 0 a b rfl rfl,zSq (by simpa using hl) fun i c d hc hd=>h (i+1) c d (by simpa using hc) (by simpa using hd)⟩
 | [],_ :: _,hl,_=>by simp at hl
 | _ :: _,[],hl,_=>by simp at hl
end Go.Dec
namespace Go.Dec
section
variable {P:Program} {f:FuncId} {si so:Sh} {F:si.X->Option so.X}
theorem Ma {ρ:List Nat} {h:List Ob} (hc:Tq ρ h si so=true):nodupB ρ=true∧(∀ i ∈ ρ,i < h.length)∧ρ.length=si.os.length∧(∀ (j:Nat) (o:Ob),(inH ρ h)[j]?=some o->o.wr=true)∧rM (inH ρ h) so.os=true:=by
 simp only [Tq,aG] at hc
 obtain ⟨h1,h2,h3,h4,h5⟩:=hc
 refine ⟨h1,fun i hi=>?_,aN h3,fun j o ho=>qV h4 j o ho,h5⟩
 obtain ⟨n,hn⟩:=List.getElem?_of_mem hi
 exact bT (qV h2 n i hn)
def uN:Ob->Bool
 | .box .. => true
 | .arr .. => false
 | .fm _=>true
 | .dm .. => true
 | .stk .. => false
def Ab (β:Nat->Pl) (h:List Ob) (i:Nat):Option Nat:=match uN (Pq h i) with | true=>(β i).blk | false=>none
def inC (C:Ctx) (β:Nat->Pl) (h:List Ob) (w:World) (ρ:List Nat) (hs:dZ C β h w):Ctx where
 P:=C.P
 N0 b j:=C.N β h b j∧∀ i ∈ ρ,∀ o,h[i]?=some o->¬ o.blks (β i) b
 w0:=w
 Fe b j:=∃ (i:Nat) (o:Ob),i ∈ ρ∧h[i]?=some o∧o.wr=true∧o.at (β i) b j
 glob w' hw:=C.glob w' (hs.frame.nW hw fun b j hb hm=>by
  obtain ⟨i,o,_,ho,hwo,hbk⟩:=hm
  rcases (hs.eB i o b ho ⟨j,hbk⟩).2.2 with h1 | h1
  ·omega
  ·exact h1 j hwo hbk)
 fix:=ρ.map (Ab β h)
theorem zNs {C:Ctx} {β:Nat->Pl} {w:World} {h:List Ob} {ρ:List Nat} {vs:List V} {xs:List Value} (hs:dZ C β h w) (ha:lG β w (C.N β h) vs xs) (hnd:nodupB ρ=true) (hlt:∀ i ∈ ρ,i < h.length) :
  Sim (inC C β h w ρ hs) (Ck β ρ) ⟨vs.map (V.ren ρ h),inH ρ h⟩ { tmps:=xs.toArray,defers:=[] } w:=by
 have zAq:=zNg hs hlt
 have hget:∀ i ∈ ρ,∃ o,h[i]?=some o:=fun i hi=>⟨h[i]'(hlt i hi),by simp [hlt i hi]⟩
 have hβ:∀ {j i:Nat},ρ[j]?=some i->Ck β ρ j={ β i with ver:=0 }:=fun hi=>by simp only [Ck,hi]
 have hNw:∀ b j,C.N β h b j->b < w.heap.size:=fun b j hb=>by
  rcases hb with hb | ⟨id,o,ho,_,hbk⟩
  ·exact Nat.lt_of_lt_of_le (hs.n0 b j hb) hs.size
  ·exact (hs.eB id o b ho ⟨j,hbk⟩).2.1
 have hN:∀ b j,b < w.heap.size->(inC C β h w ρ hs).N (Ck β ρ) (inH ρ h) b j->C.N β h b j:=fun b k _ hb=>by
  rcases hb with hb | ⟨j,o,ho,hw,hbk⟩
  ·exact hb.1
  ·obtain ⟨i,hi,rfl⟩:=tO ho
   obtain ⟨o',ho'⟩:=hget i (List.mem_of_getElem? hi)
   rw [fP ho',Ob.Tg] at hw
   rw [fP ho',hβ hi] at hbk
   exact .inr ⟨i,o',ho',hw,Ob.rG (Ob.sF ρ h o') rfl rfl hbk⟩
 refine ⟨⟨?_,?_,?_,?_,fun b j hb=>hNw b j hb.1,Keep.refl _ _,aX _,rfl,rfl,rfl,?_⟩,rfl,by simpa using aY.length ha,?_⟩
 ·intro j o ho
  obtain ⟨i,hi,rfl⟩:=tO ho
  obtain ⟨o',ho'⟩:=hget i (List.mem_of_getElem? hi)
  rw [fP ho',hβ hi]
  have hob:=hs.obj i o' ho'
  cases o' with
  | box e ls =>
   simp only [Ob.ren,Ob.Rel] at *
   obtain ⟨h1,h2,b,cs,h3,h4,h5⟩:=hob
   exact ⟨h1,h2,b,cs,h3,h4.wV zAq hN,h5⟩
  | arr e t v rows wr =>
   simp only [Ob.ren,Ob.Rel] at *
   obtain ⟨h1,h2,h3,h4,h5,h6,h7⟩:=hob
   refine ⟨h1,h2,trivial,h4,h5,h6,?_⟩
   rcases h7 with h7 | ⟨b,cur,css,k1,k2,k3,k4⟩
   ·exact .inl h7
   ·exact .inr ⟨b,cur,css,k1,k2,k3.mono fun _ _ h=>h.mono (Keep.refl _ w) hN,k4⟩
  | fm tab=>simp only [Ob.ren,Ob.Rel] at *; exact hob
  | dm kt vt es =>
   simp only [Ob.ren,Ob.Rel] at *
   obtain ⟨h1,h2,b,ms,h3,h4,h5⟩:=hob
   exact ⟨h1,h2,b,ms,h3,h4,h5.mono (Keep.refl _ w) hN⟩
  | stk e ei v rows top =>
   simp only [Ob.ren,Ob.Rel] at *
   obtain ⟨g1,g2,g3,g4,g5,b,cur,cs,cs2,bs,k1,k2,k3,k4,k5,k6,k7,k8,k9,k10,k11⟩:=hob
   exact ⟨g1,g2,trivial,g4,by rw [Pg]; exact g5,b,cur,cs,cs2,bs,k1,k2,k3,k4,k5,k6,k7,k8,k9,k10.imp _ fun ls cs _ hl=>hl.wV zAq hN,k11⟩
 ·intro j hj
  simp only [inH,List.length_map] at hj
  simp only [Ck,List.getElem?_eq_none hj]
 ·intro i j o1 o2 b h1 h2 hb1 hb2
  obtain ⟨i',hi,rfl⟩:=tO h1
  obtain ⟨j',hj,rfl⟩:=tO h2
  obtain ⟨o1',ho1⟩:=hget i' (List.mem_of_getElem? hi)
  obtain ⟨o2',ho2⟩:=hget j' (List.mem_of_getElem? hj)
  rw [hβ hi,fP ho1] at hb1
  rw [hβ hj,fP ho2] at hb2
  have:=hs.iV i' j' o1' o2' b ho1 ho2 (Ob.iY (Ob.sF ρ h o1') rfl rfl hb1) (Ob.iY (Ob.sF ρ h o2') rfl rfl hb2)
  subst this
  exact Gy hnd hi hj
 ·intro j o b ho hb
  obtain ⟨i,hi,rfl⟩:=tO ho
  obtain ⟨o',ho'⟩:=hget i (List.mem_of_getElem? hi)
  rw [fP ho',hβ hi] at hb ⊢
  have hb':=Ob.iY (o':=o') (p':=β i) (Ob.sF ρ h o') rfl rfl hb
  exact ⟨fun k hn=>hn.2 i (List.mem_of_getElem? hi) o' ho' hb',(hs.eB i o' b ho' hb').2.1,.inr fun k hw hk=>⟨i,o',List.mem_of_getElem? hi,ho',by rw [Ob.Tg] at hw; exact hw,Ob.rG (Ob.sF ρ h o') rfl rfl hk⟩⟩
 ·intro j o hj
  simp only [inC,List.getElem?_map,Option.map_eq_some_iff] at hj
  obtain ⟨i,hi,rfl⟩:=hj
  refine ⟨by simpa [inH] using (bI.1 hi).1,fun b hb=>?_⟩
  obtain ⟨o',ho'⟩:=hget i (List.mem_of_getElem? hi)
  have hob:=hs.obj i o' ho'
  rw [hβ hi]
  unfold Ab at hb
  rw [fP ho'] at hb
  cases o' with
  | box e ls =>
   simp only [Ob.Rel] at hob
   exact ⟨hb,hob.2.1⟩
  | arr e t v rows wr=>cases hb
  | stk e ei v rows top=>cases hb
  | fm tab =>
   simp only [Ob.Rel] at hob
   exact ⟨hb,hob.2.1⟩
  | dm kt vt es =>
   simp only [Ob.Rel] at hob
   exact ⟨hb,hob.2.1⟩
 ·intro i v hv
  simp only [List.getElem?_map,Option.map_eq_some_iff] at hv
  obtain ⟨v0,hv0,rfl⟩:=hv
  have hl:i < xs.length:=by rw [<- aY.length ha]; exact (bI.1 hv0).1
  have hr:=ha.get i (bI.1 hv0).1 hl
  have e:vs[i]'(bI.1 hv0).1=v0:=(bI.1 hv0).2
  rw [e] at hr
  have e2:(xs.toArray).getD i undef=xs[i]:=by simp [hl]
  simp only [e2]
  exact hr.wV zAq hN
def kS (β β':Nat->Pl) (ρ:List Nat) (h:List Ob):Nat->Pl:=fun i =>
 match pos i ρ 0 with
 | some j=>match uN (Pq h i) with
  | true=>β i
  | false=>{ β' j with ver:=(β' j).ver+iR ρ h j }
 | none=>if i < h.length then β i else β' (i - h.length+ρ.length)
theorem Mc {ρ:List Nat} {h hy:List Ob} (hk:ρ.length <= hy.length) {id:Nat} {o:Ob} (ho:(gZ ρ h hy)[id]?=some o) :
  (id < h.length∧pos id ρ 0=none∧h[id]?=some o)∨(∃ j ob oy,id < h.length∧ρ[j]?=some id∧pos id ρ 0=some j∧h[id]?=some ob∧hy[j]?=some oy∧o=oy.back (jX ρ h.length) (iR ρ h) j) ∨
   ∃ j oy,ρ.length <= j∧id=h.length+(j - ρ.length)∧hy[j]?=some oy∧o=oy.back (jX ρ h.length) (iR ρ h) j:=by
 unfold gZ at ho
 by_cases hid:id < h.length
 ·rw [iE (by rw [xL]; exact hid),zAt,Nat.zero_add] at ho
  obtain ⟨ob,hob⟩:∃ ob,h[id]?=some ob:=⟨h[id],by simp [hid]⟩
  rw [hob] at ho
  simp only [Option.map_some,aA] at ho
  cases hp:pos id ρ 0 with
  | none =>
   rw [hp] at ho
   simp only at ho
   exact .inl ⟨hid,rfl,by rw [hob,ho]⟩
  | some j =>
   obtain ⟨m,hm,hi⟩:=yM hp
   rw [Nat.zero_add] at hm
   subst hm
   have hj:j < hy.length:=Nat.lt_of_lt_of_le (bI.1 hi).1 hk
   have hyj:hy[j]?=some hy[j]:=by simp [hj]
   rw [hp] at ho
   simp only [hyj] at ho
   exact .inr (.inl ⟨j,ob,hy[j],hid,hi,rfl,hob,hyj,ho.symm⟩)
 ·rw [List.getElem?_append_right (by rw [xL]; omega),xL,Tt,List.getElem?_drop] at ho
  simp only [Option.map_eq_some_iff] at ho
  obtain ⟨oy,h1,h2⟩:=ho
  exact .inr (.inr ⟨ρ.length+(id - h.length),oy,by omega,by omega,h1,h2.symm⟩)
theorem Np {ρ:List Nat} {h hy:List Ob}:(gZ ρ h hy).length=h.length+(hy.length - ρ.length):=by
 simp [gZ,xL,Kv]
theorem Qd {C:Ctx} {β:Nat->Pl} {h:List Ob} {w w':World} {ρ:List Nat} (hs:dZ C β h w) (hnd:nodupB ρ=true) (hlt:∀ i ∈ ρ,i < h.length) (hwr:∀ (j:Nat) (o:Ob),(inH ρ h)[j]?=some o->o.wr=true) (En:rM (inH ρ h) so.os=true)
  {y:so.X} {us:List Value} {β':Nat->Pl} (hs':Sim (inC C β h w ρ hs) β' (so.enc y) { tmps:=us.toArray,defers:=[] } w') :
  ∃ β2,Moves β β2∧Keep (C.N β h) w w'∧(∀ b j,b < w.heap.size->C.N β2 (gZ ρ h (so.enc y).h) b j->C.N β h b j)∧dZ C β2 (gZ ρ h (so.enc y).h) w' ∧
   aY (fun v u=>V.Rel β2 w' (C.N β2 (gZ ρ h (so.enc y).h)) v u) ((so.enc y).r.map (V.back (jX ρ h.length) (iR ρ h))) us:=by
 generalize hhy:(so.enc y).h=hy at *
 have hget:∀ i ∈ ρ,∃ o,h[i]?=some o:=fun i hi=>⟨h[i]'(hlt i hi),by simp [hlt i hi]⟩
 have hfix:∀ {j i:Nat},ρ[j]?=some i->j < hy.length∧∀ b,Ab β h i=some b->(β' j).blk=some b∧(β' j).box=true:=fun {j i} hi=>by
  have:=hs'.heap.fixed j (Ab β h i) (by simp [inC,hi])
  rw [hhy] at this
  exact this
 have hk:ρ.length <= hy.length:=by
  rcases iU hy.length ρ.length with h1 | h1
  ·have:=(hfix (j:=hy.length) (i:=ρ[hy.length]) (by simp [h1])).1
   omega
  ·exact h1
 have yPd:∀ i ∈ ρ,∀ o,h[i]?=some o->o.wr=true:=fun i hi o ho=>by
  obtain ⟨n,hn⟩:=List.getElem?_of_mem hi
  have:=hwr n ((Pq h i).ren ρ h) (by simp [inH,hn])
  rw [Ob.Tg,fP ho] at this
  exact this
 have hrow:∀ {j i:Nat} {o:Ob},ρ[j]?=some i->h[i]?=some o->uN o=false->∃ oy,hy[j]?=some oy∧uN oy=false:=fun {j i o} hi ho hb=>by
  cases o with
  | box e ls=>cases hb
  | fm tab=>cases hb
  | dm=>cases hb
  | stk e ei u rows top =>
   obtain ⟨e',ei',hrw⟩:=tV (j:=j) (e:=e) (ei:=ei) (u:=0) (rows:=rows) (top:=top.map (L.Cg ρ h)) En (by simp [inH,hi,fP ho,Ob.ren])
   obtain ⟨rows',hr'⟩:=zJ (A:=Unit) (x:=(Gz so.rs (List.replicate so.n .bW) y).2) hrw
   exact ⟨_,by rw [<- hhy]; exact hr',rfl⟩
  | arr e t u rows wr =>
   obtain ⟨e',t',hrw⟩:=tT (j:=j) (e:=e) (t:=t) (u:=0) (rows:=rows) (wr:=wr) En (by simp [inH,hi,fP ho,Ob.ren])
   obtain ⟨rows',hr'⟩:=zI (A:=Unit) (x:=(Gz so.rs (List.replicate so.n .bW) y).2) hrw
   exact ⟨_,by rw [<- hhy]; exact hr',rfl⟩
 have zAv:=hs'.heap.obj
 rw [hhy] at zAv
 have zYs:∀ j,hy.length <= j->(β' j).live=false:=fun j hj=>hs'.heap.dead j (by rw [hhy]; exact hj)
 have Nq:=hs'.heap.eB
 rw [hhy] at Nq
 have zSr:=hs'.heap.iV
 rw [hhy] at zSr
 have zVn:∀ {j i:Nat} {o:Ob},ρ[j]?=some i->h[i]?=some o->uN o=true->(β' j).box=true∧(β' j).blk=(β i).blk∧(β i).box=true∧(β i).live=true∧(β' j).live=true:=fun {j i o} hi ho hb=>by
  have hob:=hs.obj i o ho
  obtain ⟨hj,hfx⟩:=hfix hi
  cases o with
  | arr=>cases hb
  | stk=>cases hb
  | dm kt vt es =>
   simp only [Ob.Rel] at hob
   obtain ⟨k1,k2,b,ms,k3,_⟩:=hob
   have hfo:Ab β h i=some b:=by simp only [Ab,fP ho,uN,k3]
   obtain ⟨g1,g2⟩:=hfx b hfo
   exact ⟨g2,by rw [g1,k3],k2,k1,(zAv j hy[j] (by simp [hj])).live⟩
  | fm tab =>
   simp only [Ob.Rel] at hob
   obtain ⟨k1,k2,b,es,n,k3,_⟩:=hob
   have hfo:Ab β h i=some b:=by simp only [Ab,fP ho,uN,k3]
   obtain ⟨g1,g2⟩:=hfx b hfo
   exact ⟨g2,by rw [g1,k3],k2,k1,(zAv j hy[j] (by simp [hj])).live⟩
  | box e ls =>
   simp only [Ob.Rel] at hob
   obtain ⟨k1,k2,b,cs,k3,_⟩:=hob
   have hfo:Ab β h i=some b:=by simp only [Ab,fP ho,uN,k3]
   obtain ⟨g1,g2⟩:=hfx b hfo
   exact ⟨g2,by rw [g1,k3],k2,k1,(zAv j hy[j] (by simp [hj])).live⟩
 have yBx:∀ {j i:Nat} {o:Ob},ρ[j]?=some i->h[i]?=some o->uN o=true->kS β β' ρ h i=β i:=fun hi ho hb=>by
  simp only [kS,zSk hnd hi,fP ho,hb]
 have yBy:∀ {j i:Nat} {o:Ob},ρ[j]?=some i->h[i]?=some o->uN o=false->kS β β' ρ h i={ β' j with ver:=(β' j).ver+iR ρ h j }:=fun hi ho hb=>by
  simp only [kS,zSk hnd hi,fP ho,hb]
 have zVo:∀ {i:Nat},pos i ρ 0=none->i < h.length->kS β β' ρ h i=β i:=fun hp hi=>by
  simp only [kS,hp,if_pos hi]
 have yEg:∀ {i:Nat},h.length <= i->pos i ρ 0=none:=fun {i} hi=>by
  cases hp:pos i ρ 0 with
  | none=>rfl
  | some j =>
   obtain ⟨m,_,hm⟩:=yM hp
   have:=hlt i (List.mem_of_getElem? hm)
   omega
 have yIh:∀ {j:Nat},ρ.length <= j->kS β β' ρ h (h.length+(j - ρ.length))=β' j:=fun {j} hj=>by
  simp only [kS,yEg (Nat.le_add_right _ _)]
  rw [if_neg (by omega)]
  congr 1
  omega
 have eF:∀ {j i:Nat},ρ[j]?=some i->jX ρ h.length j=i:=fun hi=>by simp only [jX,hi]
 have eF2:∀ {j:Nat},ρ.length <= j->jX ρ h.length j=h.length+(j - ρ.length):=fun hj=>by simp only [jX,List.getElem?_eq_none hj]
 have eU2:∀ {j:Nat},ρ.length <= j->iR ρ h j=0:=fun hj=>by simp only [iR,List.getElem?_eq_none hj]
 have hpl:∀ j,(β' j).live=true->Tp (β' j) (kS β β' ρ h (jX ρ h.length j)) (iR ρ h j):=fun j hl=>by
  have hj:j < hy.length:=by
   rcases iU j hy.length with h1 | h1
   ·exact h1
   ·rw [zYs j h1] at hl; cases hl
  cases hi:ρ[j]? with
  | some i =>
   rw [eF hi]
   obtain ⟨o,ho⟩:=hget i (List.mem_of_getElem? hi)
   cases hb:uN o with
   | true =>
    obtain ⟨g1,g2,g3,g4,g5⟩:=zVn hi ho hb
    rw [yBx hi ho hb]
    exact ⟨by rw [g4,hl],by rw [g3,g1],g2.symm,fun h=>(by rw [g1] at h; cases h),fun h=>(by rw [g1] at h; cases h)⟩
   | false =>
    rw [yBy hi ho hb]
    exact ⟨rfl,rfl,rfl,fun _=>⟨rfl,rfl,rfl,rfl⟩,fun _=>rfl⟩
  | none =>
   have hge:ρ.length <= j:=List.getElem?_eq_none_iff.1 hi
   rw [eF2 hge,yIh hge,eU2 hge]
   exact ⟨rfl,rfl,rfl,fun _=>⟨rfl,rfl,rfl,rfl⟩,fun _=>rfl⟩
 have hown:∀ {b k:Nat},(inC C β h w ρ hs).Fe b k->∃ (i:Nat) (o:Ob),i ∈ ρ∧h[i]?=some o∧o.wr=true∧o.at (β i) b k:=fun {b k} hb=>hb
 have hkeep:Keep (C.N β h) w w':=hs'.heap.frame.weaken fun k j ho=>by
  obtain ⟨i,o,_,h2,h3,h4⟩:=hown ho
  exact .inr ⟨i,o,h2,h3,h4⟩
 have hat:∀ {id j:Nat} {ob oy:Ob},ρ[j]?=some id->h[id]?=some ob->hy[j]?=some oy->∀ b k,(oy.back (jX ρ h.length) (iR ρ h) j).at (kS β β' ρ h id) b k->oy.at (β' j) b k:=fun {id j ob oy} hi hob hoy b k hbk=>by
  cases hb2:uN ob with
  | true =>
   have hp:oy.mR=false:=(zAv j oy hoy).yAk (zVn hi hob hb2).1
   rw [yBx hi hob hb2] at hbk
   have:=Ob.Zv (by simp [Ob.plain,Ob.Tv,hp]) hbk
   exact Ob.jL (by rw [(zVn hi hob hb2).2.1]; exact this)
  | false =>
   rw [yBy hi hob hb2] at hbk
   exact Ob.rG (Ob.Tv oy) rfl rfl hbk
 have yBz:∀ {j:Nat} {oy:Ob},ρ.length <= j->∀ b k,(oy.back (jX ρ h.length) (iR ρ h) j).at (kS β β' ρ h (h.length+(j - ρ.length))) b k->oy.at (β' j) b k:=fun {j oy} hj b k hbk=>by
  rw [yIh hj] at hbk
  exact Ob.rG (Ob.Tv oy) rfl rfl hbk
 have zNt:Moves β (kS β β' ρ h):=fun id hl=>by
  have hid:id < h.length:=by
   rcases iU id h.length with h1 | h1
   ·exact h1
   ·rw [hs.dead id h1] at hl; cases hl
  cases hp:pos id ρ 0 with
  | none=>exact .inl (zVo hp hid)
  | some j =>
   obtain ⟨m,hm,hi⟩:=yM hp
   rw [Nat.zero_add] at hm
   subst hm
   obtain ⟨o,ho⟩:=hget id (List.mem_of_getElem? hi)
   cases hb:uN o with
   | true=>exact .inl (yBx hi ho hb)
   | false =>
    obtain ⟨oy,hoy,hby⟩:=hrow hi ho hb
    have hY:=zAv j oy hoy
    have hO:=hs.obj id o ho
    rw [yBy hi ho hb]
    cases o with
    | box=>cases hb
    | fm=>cases hb
    | dm=>cases hb
    | stk e ei u rows top =>
     cases oy with
     | box=>cases hby
     | fm=>cases hby
     | dm=>cases hby
     | arr e' t' u' rows' wr' =>
      simp only [Ob.Rel] at hY hO
      refine .inr ⟨hO.2.1,hY.1,hY.2.1,?_⟩
      simp only [iR,hi,ho]
      have:=hO.2.2.1
      omega
     | stk e' ei' u' rows' top' =>
      simp only [Ob.Rel] at hY hO
      refine .inr ⟨hO.2.1,hY.1,hY.2.1,?_⟩
      simp only [iR,hi,ho]
      have:=hO.2.2.1
      omega
    | arr e t u rows wr =>
     cases oy with
     | box=>cases hby
     | fm=>cases hby
     | dm=>cases hby
     | stk e' ei' u' rows' top' =>
      simp only [Ob.Rel] at hY hO
      refine .inr ⟨hO.2.1,hY.1,hY.2.1,?_⟩
      simp only [iR,hi,ho]
      have:=hO.2.2.1
      omega
     | arr e' t' u' rows' wr' =>
      simp only [Ob.Rel] at hY hO
      refine .inr ⟨hO.2.1,hY.1,hY.2.1,?_⟩
      simp only [iR,hi,ho]
      have:=hO.2.2.1
      omega
 have hbl:∀ {b k:Nat},b < w.heap.size->w.heap.size <= b∨(inC C β h w ρ hs).Fe b k->C.N β h b k:=fun {b k} hb ho=>by
  rcases ho with ho | ho
  ·omega
  ·obtain ⟨i,o,_,h2,h3,h4⟩:=hown ho
   exact .inr ⟨i,o,h2,h3,h4⟩
 have yEh:∀ b j,b < w.heap.size->C.N (kS β β' ρ h) (gZ ρ h hy) b j->C.N β h b j:=fun b k hb hn=>by
  rcases hn with hn | ⟨id,o,ho,hw,hbk⟩
  ·exact .inl hn
  ·rcases Mc hk ho with ⟨hid,hp,ho⟩ | ⟨j,ob,oy,hid,hi,hp,hob,hoy,rfl⟩ | ⟨j,oy,hj,rfl,hoy,rfl⟩
   ·rw [zVo hp hid] at hbk
    exact .inr ⟨id,o,ho,hw,hbk⟩
   ·rw [Ob.Cn] at hw
    have hbk:=hat hi hob hoy b k hbk
    exact hbl hb ((Nq j oy b hoy ⟨k,hbk⟩).2.2.imp (fun h=>h) fun h=>h k hw hbk)
   ·rw [Ob.Cn] at hw
    have hbk:=yBz hj b k hbk
    exact hbl hb ((Nq j oy b hoy ⟨k,hbk⟩).2.2.imp (fun h=>h) fun h=>h k hw hbk)
 have yEi:∀ b j,b < w'.heap.size->C.N (kS β β' ρ h) (gZ ρ h hy) b j->(inC C β h w ρ hs).N β' (so.enc y).h b j:=fun b k _ hn=>by
  rw [hhy]
  rcases hn with hn | ⟨id,o,ho,hw,hbk⟩
  ·exact .inl ⟨.inl hn,fun i hi o ho hbk=>(hs.eB i o b ho hbk).1 k hn⟩
  ·rcases Mc hk ho with ⟨hid,hp,ho⟩ | ⟨j,ob,oy,hid,hi,hp,hob,hoy,rfl⟩ | ⟨j,oy,hj,rfl,hoy,rfl⟩
   ·rw [zVo hp hid] at hbk
    refine .inl ⟨.inr ⟨id,o,ho,hw,hbk⟩,fun i hi oi hoi hbi=>?_⟩
    have:=hs.iV id i o oi b ho hoi ⟨k,hbk⟩ hbi
    subst this
    exact Iu hp hi
   ·rw [Ob.Cn] at hw
    exact .inr ⟨j,oy,hoy,hw,hat hi hob hoy b k hbk⟩
   ·rw [Ob.Cn] at hw
    exact .inr ⟨j,oy,hoy,hw,yBz hj b k hbk⟩
 have zGf:∀ {id:Nat} {o:Ob} {b:Nat},pos id ρ 0=none->h[id]?=some o->o.blks (β id) b->b < w.heap.size∧∀ k,¬ (inC C β h w ρ hs).Fe b k:=fun {id o b} hp ho hb=>by
  refine ⟨(hs.eB id o b ho hb).2.1,fun k hw=>?_⟩
  obtain ⟨i,oi,h1,h2,_,h4⟩:=hown hw
  have:=hs.iV id i o oi b ho h2 hb ⟨k,h4⟩
  subst this
  exact Iu hp h1
 have hcls:∀ {id:Nat} {o:Ob},(gZ ρ h hy)[id]?=some o->(pos id ρ 0=none∧h[id]?=some o∧kS β β' ρ h id=β id)∨∃ j oy,hy[j]?=some oy∧id=jX ρ h.length j∧o=oy.back (jX ρ h.length) (iR ρ h) j∧∀ b k,o.at (kS β β' ρ h id) b k->oy.at (β' j) b k:=fun {id o} ho=>by
  rcases Mc hk ho with ⟨hid,hp,ho⟩ | ⟨j,ob,oy,hid,hi,hp,hob,hoy,rfl⟩ | ⟨j,oy,hj,rfl,hoy,rfl⟩
  ·exact .inl ⟨hp,ho,zVo hp hid⟩
  ·exact .inr ⟨j,oy,hoy,(eF hi).symm,rfl,hat hi hob hoy⟩
  ·exact .inr ⟨j,oy,hoy,(eF2 hj).symm,rfl,yBz hj⟩
 have yIi:∀ {j:Nat} {oy:Ob},hy[j]?=some oy->(oy.back (jX ρ h.length) (iR ρ h) j).wr=true:=fun {j oy} hoy=>by
  rw [Ob.Cn,<- hhy] at *
  exact Cq hoy
 have yIj:∀ {j id:Nat} {oy:Ob} {b:Nat},hy[j]?=some oy->(∀ b k,(oy.back (jX ρ h.length) (iR ρ h) j).at (kS β β' ρ h id) b k->oy.at (β' j) b k)->(oy.back (jX ρ h.length) (iR ρ h) j).blks (kS β β' ρ h id) b->b < w.heap.size->(∀ k,¬ (inC C β h w ρ hs).Fe b k)->False:=fun {j id oy b} hoy eb hb g1 g2=>by
  obtain ⟨q,hb⟩:=hb
  rcases (Nq j oy b hoy ⟨q,eb b q hb⟩).2.2 with h3 | h3
  ·have h3:w.heap.size <= b:=h3
   omega
  ·have hw:=yIi hoy
   rw [Ob.Cn] at hw
   exact g2 q (h3 q hw (eb b q hb))
 have hHS:dZ C (kS β β' ρ h) (gZ ρ h hy) w':=by
  refine ⟨?_,?_,?_,?_,hs.n0,?_,Nat.le_trans hs.size hs'.heap.size,hs'.heap.os.trans hs.os,hs'.heap.tape.trans hs.tape,hs'.heap.output.trans hs.output,?_⟩
  ·intro id o ho
   rcases hcls ho with ⟨hp,ho,eb⟩ | ⟨j,oy,hoy,rfl,rfl,_⟩
   ·rw [eb]
    exact (hs.obj id o ho).mono zNt hkeep yEh fun b hb=>hs'.heap.frame.block b (zGf hp ho hb).1 (zGf hp ho hb).2
   ·have hY:=zAv j oy hoy
    rw [<- hhy] at hY
    exact Ob.Rel.back (f:=jX ρ h.length) (v:=iR ρ h) hpl yEi hY
  ·intro id hid
   rw [Np] at hid
   have hp:=yEg (i:=id) (by omega)
   simp only [kS,hp]
   rw [if_neg (by omega)]
   exact zYs _ (by omega)
  ·intro i j o1 o2 b h1 h2 hb1 hb2
   rcases hcls h1 with ⟨hp1,ho1,eb1⟩ | ⟨j1,oy1,yIk,rfl,rfl,eb1⟩ <;> rcases hcls h2 with ⟨hp2,ho2,eb2⟩ | ⟨j2,oy2,yIl,rfl,rfl,eb2⟩
   ·rw [eb1] at hb1
    rw [eb2] at hb2
    exact hs.iV i j o1 o2 b ho1 ho2 hb1 hb2
   ·exfalso
    rw [eb1] at hb1
    obtain ⟨g1,g2⟩:=zGf hp1 ho1 hb1
    exact yIj yIl eb2 hb2 g1 g2
   ·exfalso
    rw [eb2] at hb2
    obtain ⟨g1,g2⟩:=zGf hp2 ho2 hb2
    exact yIj yIk eb1 hb1 g1 g2
   ·obtain ⟨q1,hb1⟩:=hb1
    obtain ⟨q2,hb2⟩:=hb2
    rw [zSr j1 j2 oy1 oy2 b yIk yIl ⟨q1,eb1 b q1 hb1⟩ ⟨q2,eb2 b q2 hb2⟩]
  ·intro id o b ho hb
   rcases hcls ho with ⟨hp,ho,eb⟩ | ⟨j,oy,hoy,rfl,rfl,eb⟩
   ·rw [eb] at hb ⊢
    obtain ⟨k1,k2,k3⟩:=hs.eB id o b ho hb
    exact ⟨k1,Nat.lt_of_lt_of_le k2 hs'.heap.size,k3⟩
   ·obtain ⟨q,hb⟩:=hb
    obtain ⟨k1,k2,k3⟩:=Nq j oy b hoy ⟨q,eb b q hb⟩
    rcases iU b w.heap.size with hlt | hge
    ·have hold:∀ k,(oy.back (jX ρ h.length) (iR ρ h) j).wr=true->(oy.back (jX ρ h.length) (iR ρ h) j).at (kS β β' ρ h (jX ρ h.length j)) b k->∃ (i:Nat) (o:Ob),i ∈ ρ∧h[i]?=some o∧o.wr=true∧o.at (β i) b k:=fun k hw hk=>by
      rw [Ob.Cn] at hw
      rcases k3 with k3 | k3
      ·have k3:w.heap.size <= b:=k3
       omega
      ·exact hown (k3 k hw (eb b k hk))
     have hwy:(oy.back (jX ρ h.length) (iR ρ h) j).wr=true:=yIi hoy
     obtain ⟨i,oi,h1,h2,h3,h4⟩:=hold q hwy hb
     obtain ⟨g1,g2,g3⟩:=hs.eB i oi b h2 ⟨q,h4⟩
     refine ⟨g1,k2,?_⟩
     rcases g3 with g3 | g3
     ·exact .inl g3
     ·right
      intro k hw hk
      obtain ⟨i2,oi2,f1,f2,f3,f4⟩:=hold k hw hk
      rcases (hs.eB i2 oi2 b f2 ⟨k,f4⟩).2.2 with g5 | g5
      ·have:=hs.iV i i2 oi oi2 b h2 f2 ⟨q,h4⟩ ⟨k,f4⟩
       subst this
       rw [h2] at f2
       simp only [aA] at f2
       subst f2
       exact g3 k f3 f4
      ·exact g5 k f3 f4
    ·have h0:=hs.size
     exact ⟨fun _ hn=>by have:=hs.n0 b _ hn; omega,k2,.inl (by omega)⟩
  ·refine hs.frame.nW hs'.heap.frame fun b j hb ho=>?_
   obtain ⟨i,oi,h1,h2,h3,h4⟩:=hown ho
   rcases (hs.eB i oi b h2 ⟨j,h4⟩).2.2 with h5 | h5
   ·omega
   ·exact h5 j h3 h4
  ·intro j o hj
   obtain ⟨k1,k2⟩:=hs.fixed j o hj
   refine ⟨by rw [Np]; omega,fun b hb=>?_⟩
   obtain ⟨k3,k4⟩:=k2 b hb
   have hoj:h[j]?=some h[j]:=by simp [k1]
   rcases zNt j (hs.obj j _ hoj).live with e | ⟨e,_⟩
   ·rw [e]; exact ⟨k3,k4⟩
   ·rw [k4] at e; cases e
 refine ⟨kS β β' ρ h,zNt,hkeep,yEh,hHS,?_⟩
 refine zSq (by have:=hs'.size; simpa using this) fun i v u hv hu=>?_
 simp only [List.getElem?_map,Option.map_eq_some_iff] at hv
 obtain ⟨v0,hv0,rfl⟩:=hv
 have hr:=hs'.reg i v0 hv0
 have e:(us.toArray).getD i undef=u:=by
  rw [Array.getD_eq_getD_getElem?]
  simp [hu]
 simp only [e] at hr
 exact hr.back (f:=jX ρ h.length) (v:=iR ρ h) hpl yEi
theorem yEj {l:L} (h:l.isD=true):l.ids=[]:=by
 cases l <;> first | rfl | (cases h; done) | (rename_i f cs; cases cs <;> first | rfl | cases h)
theorem zYt:∀ {ls:List L},bR L.isD ls=true->L.zAg ls=[]
 | [],_=>rfl
 | l :: ls,h=>by
  simp only [bR,aG] at h
  simp only [L.zAg,yEj h.1,zYt h.2,List.append_nil]
theorem zYu:∀ {vs:List V},bR V.isD vs=true->zMv vs=[]
 | [],_=>rfl
 | v :: vs,h=>by
  simp only [bR,aG] at h
  have h1:v.ids=[]:=by
   cases v with
   | one l=>exact yEj h.1
   | agg ls=>exact zYt h.1
   | _=>rfl
  simp only [zMv,h1,zYu h.2,List.append_nil]
theorem Xt {vs:List V} {h:List Ob} (hd:bR V.isD vs=true):reach vs h=[]:=by
 unfold reach
 rw [zYu hd]
 rfl
theorem yEk {ρ:List Nat} {h h2:List Ob} {l:L} (hd:l.isD=true):l.ren ρ h=l.ren ρ h2:=by
 cases l <;> first | rfl | (cases hd; done) | (rename_i f cs; cases cs <;> first | rfl | cases hd)
theorem zYv {ρ:List Nat} {h h2:List Ob}:∀ {ls:List L},bR L.isD ls=true->L.Cg ρ h ls=L.Cg ρ h2 ls
 | [],_=>rfl
 | l :: ls,hd=>by
  simp only [bR,aG] at hd
  simp only [L.Cg,yEk (h:=h) (h2:=h2) hd.1,zYv (h:=h) (h2:=h2) hd.2]
theorem zYw {ρ:List Nat} {h h2:List Ob}:∀ {vs:List V},bR V.isD vs=true->vs.map (V.ren ρ h)=vs.map (V.ren ρ h2)
 | [],_=>rfl
 | v :: vs,hd=>by
  simp only [bR,aG] at hd
  have h1:V.ren ρ h v=V.ren ρ h2 v:=by
   cases v with
   | one l=>simp only [V.ren,yEk (h:=h) (h2:=h2) hd.1]
   | agg ls=>simp only [V.ren,zYv (h:=h) (h2:=h2) hd.1]
   | _=>rfl
  simp only [List.map_cons,h1,zYw (h:=h) (h2:=h2) hd.2]
theorem zJh:∀ {h:List Ob} {n:Nat},Iy (fun _=>none) n h=h
 | [],_=>rfl
 | o :: r,n=>by simp only [Iy,zJh]
theorem Zf (h hy:List Ob):gZ [] h hy=h++sI (jX [] h.length) (iR [] h) 0 hy:=by
 unfold gZ
 simp only [pos,List.length_nil,List.drop_zero,zJh]
theorem yFr {vs:List V} {h h2:List Ob} (hd:bR V.isD vs=true) (hl:h2.length=h.length) :
  (peM si so F).run vs h=(peM si so F).run vs h2∧∀ y,((peM si so F).enc y vs h).1=((peM si so F).enc y vs h2).1∧∃ os,((peM si so F).enc y vs h).2=h++os∧((peM si so F).enc y vs h2).2=h2++os:=by
 have e1:vs.map (V.ren [] h)=vs.map (V.ren [] h2):=zYw hd
 have e2:iR [] h=iR [] h2:=rfl
 refine ⟨?_,fun y=>⟨?_,sI (jX [] h.length) (iR [] h) 0 (so.enc y).h,?_,?_⟩⟩
 ·simp only [peM,Xt hd,e1]
  rfl
 ·simp only [peM,Xt hd,hl,e2]
 ·simp only [peM,Xt hd,Zf]
 ·simp only [peM,Xt hd,Zf,hl,e2]
theorem fI (hM:gT P f si so F):(peM si so F).OK P f:=by
 refine ⟨hM.1,fun vs h y hr C β w xs hP hs ha=>?_,fun h=>(by cases h),fun h=>(by cases h),fun _ vs h h2 hd hl=>yFr hd hl⟩
 subst hP
 simp only [peM] at hr
 split at hr
 case h_2=>cases hr
 rename_i x hx
 simp only [aA,aB] at hr
 obtain ⟨hok,hF⟩:=hr
 obtain ⟨hnd,hlt,hlen,hwr,En⟩:=Ma hok
 have uY:=Xo hx (zNs hs ha hnd hlt)
 refine (hM.2 x y hF (inC C β h w _ hs) _ w xs rfl (by simp [inC,hlen]) uY).mono ?_
 rintro e w' ⟨us,β',rfl,hs'⟩
 obtain ⟨β2,h1,h2,h3,h4,h5⟩:=Qd hs hnd hlt hwr En hs'
 exact ⟨_,_,β2,⟨rfl,rfl⟩,h1,h2,h3,h4,_,rfl,zAu h5⟩
def Ac (P:Program) (f:FuncId) (si so:Sh) (tp:TypeId) (sp:Sh) (F:si.X->Option (Sum so.X sp.X)):Prop :=
 gL P f=true∧∀ x y,F x=some y->∀ (C:Ctx) (β:Nat->Pl) (w:World) (xs:List Value),C.P=P->C.fix.length <= si.os.length->Sim C β (si.enc x) { tmps:=xs.toArray,defers:=[] } w ->
  Calls P f xs.toArray w fun e w'=>(∃ (z:so.X) (us:List Value) (β':Nat->Pl),y=.inl z∧e=.returned (oC us)∧Sim C β' (so.enc z) { tmps:=us.toArray,defers:=[] } w') ∨
   ∃ (z:sp.X) (u:Value) (β':Nat->Pl),y=.inr z∧e=.panicked [{ v:=.iface tp u,recovered:=false }]∧Sim C β' (sp.enc z) { tmps:=#[u],defers:=[] } w'
def yNa (vs:List V):V :=
 match vs with
 | [v]=>v
 | _=>.bW
def ob2 {α γ ρ:Type} (o:Option (Sum α γ)) (k:α->Option ρ) (k':γ->Option ρ):Option ρ :=
 match o with
 | some (.inl x)=>k x
 | some (.inr x)=>k' x
 | none=>none
theorem Dq {ρ:List Nat} {h hy:List Ob} {id:Nat} (hid:id < h.length) (hn:id ∉ ρ):(gZ ρ h hy)[id]?=h[id]?:=by
 unfold gZ
 have hl:∀ {g:Nat->Option Ob} {h:List Ob} {n:Nat},(Iy g n h).length=h.length:=by
  intro g h
  induction h with
  | nil=>intro n; rfl
  | cons o r ih=>intro n; simp [Iy,ih]
 rw [iE (by rw [hl]; exact hid),zAt,List.getElem?_eq_getElem hid]
 have hp:pos id ρ 0=none:=by
  cases hp:pos id ρ 0 with
  | none=>rfl
  | some j =>
   obtain ⟨m,_,hm⟩:=yM hp
   exact absurd (List.mem_of_getElem? hm) hn
 simp only [Nat.zero_add,hp,Option.map_some]
def yCa {ρ:Type} (si so:Sh) (tp:TypeId) (sp:Sh) (F:si.X->Option (Sum so.X sp.X)) (vs:List V) (h:List Ob) (k:Out->List Ob->Option ρ):Option ρ :=
 match si.dec ⟨vs.map (V.ren (reach vs h) h),inH (reach vs h) h⟩ with
 | some x=>chk (Tq (reach vs h) h si so && rM (inH (reach vs h) h) sp.os) (ob2 (F x)
   (fun y=>k (.ret (zNr ((so.enc y).r.map (V.back (jX (reach vs h) h.length) (iR (reach vs h) h))))) (gZ (reach vs h) h (so.enc y).h))
   (fun z=>k (.pan tp (yNa ((sp.enc z).r.map (V.back (jX (reach vs h) h.length) (iR (reach vs h) h))))) (gZ (reach vs h) h (sp.enc z).h)))
 | none=>none
theorem yFs {ρ:Type} {tp:TypeId} {sp:Sh} {F:si.X->Option (Sum so.X sp.X)} (hM:Ac P f si so tp sp F) {vs:List V} {h:List Ob} {k:Out->List Ob->Option ρ} {r:ρ} (hr:yCa si so tp sp F vs h k=some r) :
  gL P f=true∧zY P f vs h fun out h'=>k out h'=some r∧∀ id,id < h.length->id ∉ reach vs h->h'[id]?=h[id]?:=by
 refine ⟨hM.1,fun C β w xs hP hs ha=>?_⟩
 subst hP
 unfold yCa at hr
 split at hr
 case h_2=>cases hr
 rename_i x hx
 obtain ⟨hok,hF⟩:=gQ hr
 simp only [aG] at hok
 obtain ⟨hnd,hlt,hlen,hwr,En⟩:=Ma hok.1
 have uY:=Xo hx (zNs hs ha hnd hlt)
 cases hy:F x with
 | none=>rw [hy] at hF; cases hF
 | some y =>
  rw [hy] at hF
  refine (hM.2 x y hy (inC C β h w _ hs) _ w xs rfl (by simp [inC,hlen]) uY).mono ?_
  rintro e w' (⟨z,us,β',rfl,rfl,hs'⟩ | ⟨z,u,β',rfl,rfl,hs'⟩)
  ·obtain ⟨β2,h1,h2,h3,h4,h5⟩:=Qd hs hnd hlt hwr En hs'
   exact ⟨_,_,β2,⟨hF,fun id hid hn=>Dq hid hn⟩,h1,h2,h3,h4,_,rfl,zAu h5⟩
  ·obtain ⟨β2,h1,h2,h3,h4,h5⟩:=Qd (us:=[u]) hs hnd hlt hwr hok.2 hs'
   refine ⟨_,_,β2,⟨hF,fun id hid hn=>Dq hid hn⟩,h1,h2,h3,h4,u,rfl,?_⟩
   cases hv:(sp.enc z).r.map (V.back (jX (reach vs h) h.length) (iR (reach vs h) h)) with
   | nil=>rw [hv] at h5; exact h5.elim
   | cons v l =>
    rw [hv] at h5
    cases l with
    | nil=>exact h5.1
    | cons v2 l=>exact h5.2.elim
end
end Go.Dec
namespace Go.Dec
section
variable {T:Tab} {C:Ctx} {β:Nat->Pl} {w:World}
def zVp (T:Tab) (σ:St):ResultVar->Option (Bool × V)
 | .tmp t=>some (true,σ.r.getD t .bW)
 | .cell t ty =>
  match σ.r.getD t .bW with
  | .one l=>loadAt T σ.h ty l
  | _=>none
def Xu (T:Tab) (σ:St):List ResultVar->Option (Bool × List V)
 | []=>some (true,[])
 | x :: r =>
  match zVp T σ x,Xu T σ r with
  | some (c,l),some (d,ls)=>some (c && d,l :: ls)
  | _,_=>none
theorem yCb {σ:St} {a:Act} {rv:ResultVar} {v:V} (hT:bK C.P T) (hs:Sim C β σ a w) (h:zVp T σ rv=some (true,v)) :
  ∃ x,(sH a.tmps rv).run C.P w=.ok x w∧v.Rel β w (C.N β σ.h) x:=by
 cases rv with
 | tmp t =>
  simp only [zVp,aA,aB,true_and] at h
  subst h
  exact ⟨a.tmps.getD t undef,rfl,Qa hs t⟩
 | cell t ty =>
  simp only [zVp] at h
  have hr:=Qa hs t
  split at h
  ·rename_i l hl
   rw [hl] at hr
   obtain ⟨y,h1,h2⟩:=Gn hT h hs.heap hr
   obtain ⟨ad,h3,h4⟩:=Lx h1
   refine ⟨y,?_,h2⟩
   simp only [sH,h3,asAddr,Sem.run_bind,Sem.run_pure,Result.andThen_ok,h4]
  ·cases h
theorem zJi {σ:St} {a:Act} (hT:bK C.P T) (hs:Sim C β σ a w):∀ {rs:List ResultVar} {vs:List V},Xu T σ rs=some (true,vs) ->
  ∀ acc:Array Value,∃ us:List Value,(rs.foldlM (fun (acc:Array Value) rv=>do let v <- sH a.tmps rv; pure (acc.push v)) acc).run C.P w=.ok (acc++us.toArray) w∧aY (fun v u=>V.Rel β w (C.N β σ.h) v u) vs us
 | [],vs,h,acc=>by
  simp only [Xu,aA,aB,true_and] at h
  subst h
  exact ⟨[],by simp,trivial⟩
 | rv :: rs,vs,h,acc=>by
  simp only [Xu] at h
  split at h
  ·rename_i c s d r h1 h2
   simp only [aA,aB,aG] at h
   obtain ⟨⟨rfl,rfl⟩,rfl⟩:=h
   obtain ⟨x,g1,g2⟩:=yCb hT hs h1
   obtain ⟨us,g4,g5⟩:=zJi hT hs h2 (acc.push x)
   refine ⟨x :: us,?_,⟨g2,g5⟩⟩
   simp only [List.foldlM_cons,Sem.run_bind,g1,Result.andThen_ok,Sem.run_pure,g4]
   simp
  ·cases h
theorem zNu {σ:St} {a:Act} {fn:Func} {vs:List V} (hT:bK C.P T) (hs:Sim C β σ a w) (h:Xu T σ fn.results.toList=some (true,vs)) :
  ∃ us:List Value,(results fn a.tmps).run C.P w=.ok (oC us) w∧aY (fun v u=>V.Rel β w (C.N β σ.h) v u) vs us:=by
 obtain ⟨us,h1,h2⟩:=zJi hT hs h #[]
 refine ⟨us,?_,h2⟩
 have e0:results fn a.tmps=(do let vs <- fn.results.mapM (sH a.tmps); pure (if h:vs.size=1 then vs[0] else .tuple vs)):=by
  unfold results
  congr 1
 have hm:(fn.results.mapM (sH a.tmps):Sem (Array Value)).run C.P w=.ok us.toArray w:=by
  rw [Array.mapM_eq_foldlM,<- Array.foldlM_toList]
  have e:(fun (acc:Array Value) rv=>do let v <- sH a.tmps rv; pure (acc.push v):Array Value->ResultVar->Sem (Array Value))=(fun (acc:Array Value) rv=>acc.push <$> sH a.tmps rv):=by
   funext acc rv
   rfl
  rw [e] at h1
  simpa using h1
 rw [e0]
 simp only [Sem.run_bind,hm,Result.andThen_ok,Sem.run_pure]
 match us with
 | []=>rfl
 | [u]=>rfl
 | u :: v :: us=>simp [oC]
theorem zNv {σ:St} {a:Act} {vs:List V} {us:List Value} (hs:Sim C β σ a w) (h:aY (fun v u=>V.Rel β w (C.N β σ.h) v u) vs us):Sim C β ⟨vs,σ.h⟩ { tmps:=us.toArray,defers:=[] } w:=by
 refine ⟨hs.heap,rfl,by simpa using h.length,fun i v hv=>?_⟩
 have hl:i < us.length:=by rw [<- h.length]; exact (bI.1 hv).1
 have hr:=h.get i (bI.1 hv).1 hl
 rw [(bI.1 hv).2] at hr
 have e2:(us.toArray).getD i undef=us[i]:=by simp [hl]
 simp only [e2]
 exact hr
def Tw (T:Tab) {ρ:Type} (res:List ResultVar) (so:Sh) (co:List Co) (σ:St) (g:so.X->Option ρ):Option ρ :=
 match Xu T σ res with
 | some (c,vs)=>chk c (enter T so co ⟨vs,σ.h⟩ g)
 | none=>none
def zVq (T:Tab) (res:List ResultVar) (so:Sh) (co:List Co):K so.X:=fun e σ =>
 match e with
 | .normal=>Tw T res so co σ some
 | .ret=>Tw T res so co σ some
 | _=>none
def zVr (T:Tab) (res:List ResultVar) (so:Sh) (co:List Co) (tp:TypeId) (sp:Sh) (cp:List Co):K (Sum so.X sp.X):=fun e σ =>
 match e with
 | .normal=>Tw T res so co σ fun y=>some (.inl y)
 | .ret=>Tw T res so co σ fun y=>some (.inl y)
 | .pan t v=>match Nat.beq t tp with
  | true=>enter T sp cp ⟨[v],σ.h⟩ fun z=>some (.inr z)
  | false=>none
 | _=>none
theorem zNw {σ:St} {a:Act} {fn:Func} {so:Sh} {co:List Co} {ρ:Type} {g:so.X->Option ρ} {r:ρ} {kf:Nat} (hT:bK C.P T) (hkf:C.fix.length <= kf) (hfx:bR (Co.fx kf) co=true) (hs:Sim C β σ a w) (h:Tw T fn.results.toList so co σ g=some r) :
  ∃ (us:List Value) (β':Nat->Pl) (y:so.X),(results fn a.tmps).run C.P w=.ok (oC us) w∧Sim C β' (so.enc y) { tmps:=us.toArray,defers:=[] } w∧g y=some r:=by
 unfold Tw at h
 split at h
 ·rename_i c vs hvs
  obtain ⟨rfl,h⟩:=gQ h
  obtain ⟨us,h1,h2⟩:=zNu hT hs hvs
  obtain ⟨β',_,y,h3,h4⟩:=zG hT hkf hfx h (zNv hs h2)
  exact ⟨us,β',y,h1,h3,h4⟩
 ·cases h
end
section
variable {P:Program} {T:Tab} {f:FuncId} {fn:Func} {c:Code} {si so sp:Sh}
theorem zJj {C:Ctx} {β:Nat->Pl} {w:World} {σ:St} {xs:List Value} (n:Nat) (hs:Sim C β σ { tmps:=xs.toArray,defers:=[] } w) :
  Sim C β ⟨Hf σ.r n,σ.h⟩ { tmps:=xs.toArray++Array.replicate (n - xs.toArray.size) undef,defers:=[] } w:=by
 have hl:σ.r.length=xs.length:=by simpa using hs.size
 refine ⟨hs.heap,rfl,by simp [Hf,hl],fun i u hu=>?_⟩
 simp only [Hf] at hu
 by_cases hi:i < σ.r.length
 ·rw [iE hi] at hu
  have hr:=hs.reg i u hu
  have e:(xs.toArray++Array.replicate (n - xs.toArray.size) undef).getD i undef=(xs.toArray).getD i undef:=by
   rw [Array.getD_eq_getD_getElem?,Array.getD_eq_getD_getElem?,Array.getElem?_append_left (by simpa using by omega)]
  rw [e]
  exact hr
 ·rw [List.getElem?_append_right (by omega),List.getElem?_replicate] at hu
  split at hu
  ·simp only [aA] at hu; subst hu; trivial
  ·cases hu
theorem gU {F:si.X->Option so.X} {Γ:Orc so.X} {an:An so.X} {co:List Co} (hf:P.funcs[f]?=some fn) (hb:fn.body=some c) (hh:gL P f=true) (hT:bK P T) (hΓ:jM P Γ) (hm:P.follows .mixedOrders=true)
  (ha:zGl P si.os.length c an) (hfx:an.fx si.os.length=true) (hco:bR (Co.fx si.os.length) co=true)
  (h:∀ x,ev Γ T c an ⟨Hf (si.enc x).r fn.ntmps,(si.enc x).h⟩ (zVq T fn.results.toList so co)=F x):gT P f si so F:=by
 refine ⟨hh,fun x y hF C β w xs hP hkf hs=>?_⟩
 rw [<- h x] at hF
 refine calls_of_wp hf hb ?_
 refine zAr (P:=P) hT hΓ hm c an ha hfx _ _ y hF C β _ w _ hP hkf (zJj fn.ntmps hs) ?_
 intro e x' σ' β' a' w' hs' hx' hk
 have fin:Tw T fn.results.toList so co σ' some=some y->x'=.ret∨x'=.normal->bodyPost P fn (fun e w'=>∃ (us:List Value) (β':Nat->Pl),e=.returned (oC us)∧Sim C β' (so.enc y) { tmps:=us.toArray,defers:=[] } w') x' a' w':=by
  intro hk hx'
  subst hP
  obtain ⟨us,β2,y',h1,h2,h3⟩:=zNw (fn:=fn) hT hkf hco hs' hk
  obtain rfl:=Option.some.inj h3
  rcases hx' with rfl | rfl
  ·exact ⟨hs'.defers,_,h1,us,β2,rfl,h2⟩
  ·exact ⟨hs'.defers,_,h1,us,β2,rfl,h2⟩
 cases e with
 | normal=>obtain rfl:=hx'; exact fin hk (.inr rfl)
 | ret=>obtain rfl:=hx'; exact fin hk (.inl rfl)
 | exit i=>simp [zVq] at hk
 | goto l=>simp [zVq] at hk
 | pan t u=>simp [zVq] at hk
theorem Tx {tp:TypeId} {F:si.X->Option (Sum so.X sp.X)} {Γ:Orc (Sum so.X sp.X)} {an:An (Sum so.X sp.X)} {co cp:List Co} (hf:P.funcs[f]?=some fn) (hb:fn.body=some c) (hh:gL P f=true) (hT:bK P T) (hΓ:jM P Γ) (hm:P.follows .mixedOrders=true)
  (ha:zGl P si.os.length c an) (hfx:an.fx si.os.length=true) (hco:bR (Co.fx si.os.length) co=true) (hcp:bR (Co.fx si.os.length) cp=true)
  (h:∀ x,ev Γ T c an ⟨Hf (si.enc x).r fn.ntmps,(si.enc x).h⟩ (zVr T fn.results.toList so co tp sp cp)=F x):Ac P f si so tp sp F:=by
 refine ⟨hh,fun x y hF C β w xs hP hkf hs=>?_⟩
 rw [<- h x] at hF
 refine calls_of_wp hf hb ?_
 refine zAr (P:=P) hT hΓ hm c an ha hfx _ _ y hF C β _ w _ hP hkf (zJj fn.ntmps hs) ?_
 intro e x' σ' β' a' w' hs' hx' hk
 subst hP
 have fin:(Tw T fn.results.toList so co σ' fun y=>some (.inl y))=some y->x'=.ret∨x'=.normal->bodyPost C.P fn (fun e w'=>(∃ (z:so.X) (us:List Value) (β':Nat->Pl),y=.inl z∧e=.returned (oC us)∧Sim C β' (so.enc z) { tmps:=us.toArray,defers:=[] } w') ∨
   ∃ (z:sp.X) (u:Value) (β':Nat->Pl),y=.inr z∧e=.panicked [{ v:=.iface tp u,recovered:=false }]∧Sim C β' (sp.enc z) { tmps:=#[u],defers:=[] } w') x' a' w':=by
  intro hk hx'
  obtain ⟨us,β2,y',h1,h2,h3⟩:=zNw (fn:=fn) hT hkf hco hs' hk
  obtain rfl:=Option.some.inj h3
  rcases hx' with rfl | rfl
  ·exact ⟨hs'.defers,_,h1,.inl ⟨y',us,β2,rfl,rfl,h2⟩⟩
  ·exact ⟨hs'.defers,_,h1,.inl ⟨y',us,β2,rfl,rfl,h2⟩⟩
 cases e with
 | normal=>obtain rfl:=hx'; exact fin hk (.inr rfl)
 | ret=>obtain rfl:=hx'; exact fin hk (.inl rfl)
 | exit i=>simp [zVr] at hk
 | goto l=>simp [zVr] at hk
 | pan t u =>
  simp only [zVr] at hk
  split at hk
  ·rename_i hb
   have:=aN hb
   subst this
   obtain ⟨x0,rfl,hx0⟩:=hx'
   obtain ⟨β2,_,z,h3,h4⟩:=zG hT hkf hcp hk (zNv (vs:=[u]) (us:=[x0]) hs' ⟨hx0,trivial⟩)
   obtain rfl:=Option.some.inj h4
   exact ⟨hs'.defers,.inr ⟨z,x0,β2,rfl,rfl,h3⟩⟩
  ·cases hk
structure GE (ρ:Type) where
 f:FuncId
 run:List V->List Ob->(Out->List Ob->Option ρ)->Option ρ
 ids:List V->List Ob->List Nat:=reach
structure GE.OK (P:Program) {ρ:Type} (g:GE ρ):Prop where
 ok:∀ vs h k r,g.run vs h k=some r->gL P g.f=true∧zY P g.f vs h fun out h'=>k out h'=some r∧∀ id,id < h.length->id ∉ g.ids vs h->h'[id]?=h[id]?
def yCc {ρ:Type}:List (GE ρ)->FuncId->List V->List Ob->(Out->List Ob->Option ρ)->Option ρ
 | [],_,_,_,_=>none
 | g :: r,f,vs,h,k=>match Nat.beq g.f f with
  | true=>g.run vs h k
  | false=>yCc r f vs h k
def zVs {ρ:Type}:List (GE ρ)->FuncId->List V->List Ob->List Nat
 | [],_,vs,h=>reach vs h
 | g :: r,f,vs,h=>match Nat.beq g.f f with
  | true=>g.ids vs h
  | false=>zVs r f vs h
def bL (ρ:Type) (l:List (FuncId × PE)) (m:List (GE ρ)):Orc ρ:=⟨pes l,yCc m,zVs m⟩
theorem aS {ρ:Type} {l:List (FuncId × PE)} {m:List (GE ρ)} (h:∀ p ∈ l,p.2.OK P p.1) (hm:∀ g ∈ m,g.OK P):jM P (bL ρ l m):=by
 refine ⟨(yIg (ρ:=ρ) h).pure,fun f vs hp k r hr=>?_⟩
 simp only [bL] at hr
 induction m with
 | nil=>cases hr
 | cons g m ih =>
  simp only [yCc] at hr
  split at hr
  ·rename_i hb
   simp only [bL,zVs,hb]
   have:=aN hb
   subst this
   exact (hm g (.head _)).ok vs hp k r hr
  ·rename_i hb
   simp only [bL,zVs,hb]
   exact ih (fun g hg=>hm g (.tail _ hg)) hr
def geP {ρ:Type} (f:FuncId) (si so:Sh) (tp:TypeId) (sp:Sh) (F:si.X->Option (Sum so.X sp.X)):GE ρ:={ f:=f,run:=yCa si so tp sp F }
theorem Tz {ρ:Type} {tp:TypeId} {F:si.X->Option (Sum so.X sp.X)} (h:Ac P f si so tp sp F):(geP (ρ:=ρ) f si so tp sp F).OK P:=⟨fun _ _ _ _ hr=>yFs h hr⟩
theorem aT {ρ:Type}:∀ g ∈ ([]:List (GE ρ)),g.OK P:=fun _ h=>by cases h
theorem dK {ρ:Type} {g:GE ρ} {m:List (GE ρ)} (h:g.OK P) (hm:∀ g ∈ m,g.OK P):∀ x ∈ g :: m,x.OK P:=fun x hx=>by
 cases hx with
 | head=>exact h
 | tail _ hx=>exact hm x hx
end
def zNx {α ρ:Type} (B:Nat->(α->Option ρ)->α->Option ρ):Nat->α->Option ρ
 | 0,_=>none
 | n+1,x=>B n (zNx B n) x
theorem yFt {P:Program} {f:FuncId} {as rs:List Ty} (hh:gL P f=true):Pure P f as rs (fun _=>none):=⟨hh,fun _ _ h=>by cases h⟩
theorem yCd {P:Program} {f:FuncId} {si so:Sh} (hh:gL P f=true):gT P f si so (fun _=>none):=⟨hh,fun _ _ h=>by cases h⟩
theorem zNy {P:Program} {f:FuncId} {as rs:List Ty} {B:Nat->(bH as->Option (bH rs))->bH as->Option (bH rs)} (hh:gL P f=true) (h:∀ n r,Pure P f as rs r->Pure P f as rs (B n r)):∀ n,Pure P f as rs (zNx B n)
 | 0=>yFt hh
 | n+1=>h n _ (zNy hh h n)
theorem zJk {P:Program} {f:FuncId} {si so:Sh} {B:Nat->(si.X->Option so.X)->si.X->Option so.X} (hh:gL P f=true) (h:∀ n r,gT P f si so r->gT P f si so (B n r)):∀ n,gT P f si so (zNx B n)
 | 0=>yCd hh
 | n+1=>h n _ (zJk hh h n)
end Go.Dec
