/- Part of a proof over this seat: a library of my own, and what it says of this seat. No statement is proved here. -/
import Derived.Test.YthhbdkdofhhoeaaGreatDoorPartAJ
namespace Go.Dec
mutual
def L.back (f v:Nat->Nat):L->L | .ptr id o => .ptr (f id) o | .gH id o => .gH (f id) o | .mG id o es i sub => .mG (f id) o es i sub | .fO id u i o => .fO (f id) (u+v id) i o | .sl id u i n => .sl (f id) (u+v id) i n | .own id u => .own (f id) (u+v id) | .clo g caps => .clo g (L.backs f v caps) | .mp id => .mp (f id) | l=>l
def L.backs (f v:Nat->Nat):List L->List L | []=>[] | l :: ls=>l.back f v :: L.backs f v ls
end
def V.back (f v:Nat->Nat):V->V | .one l => .one (l.back f v) | .agg ls => .agg (L.backs f v ls) | _ => .bS
def Ob.back (f v:Nat->Nat) (id:Nat):Ob->Ob | .box e ls => .box e (L.backs f v ls) | .arr e t u rows wr => .arr e t (u+v id) rows wr | .fm tab => .fm tab | .dm kt vt es => .dm kt vt es | .stk e ei u rows top => .stk e ei (u+v id) rows (top.map (L.backs f v))
section
variable {β β':Nat->Pl}{w:World}{N N':Nat->Nat->Prop}
structure Rk (p q:Pl) (v:Nat):Prop where
 live:q.live=p.live
 box:q.box=p.box
 blk:q.blk=p.blk
 row:p.box=false->q.ver=p.ver+v∧q.size=p.size∧q.cap=p.cap∧q.len=p.len
 sub:p.box=false->q.sub=p.sub
theorem Rk.yAu {p q:Pl}{v:Nat}(h:Rk p q v) (hb:p.box=false) {off len:Nat}{c:Value}:dM q off len c<->dM p off len c:=by
 obtain ⟨_,h2,h3,_⟩:=h.row hb;unfold dM;rw [h.blk,h2,h3]
mutual
theorem L.Rel.back {f v:Nat->Nat}(hβ:∀ j,(β j).live=true->Rk (β j) (β' (f j)) (v j)) (hN:∀ b j,b<w.heap.size->N' b j->N b j):∀ {l:L}{cs:List Value},l.Rel β w N cs->(l.back f v).Rel β' w N' cs
 | .val t x,cs,h=>by simp only [L.back,L.Rel] at *;exact Ty.Rel.mono (Keep.refl _ w) hN h
 | .ptr id off,cs,h=>by
  simp only [L.back,L.Rel] at *;obtain ⟨h1,h2,h3⟩:=h;have:=hβ id h1;exact ⟨this.live ▸ h1,this.box ▸ h2,by rw [this.blk];exact h3⟩
 | .mG id off es i sub,cs,h=>by
  simp only [L.back,L.Rel] at *;obtain ⟨h1,h2,h3⟩:=h;have:=hβ id h1;exact ⟨this.live ▸ h1,this.box ▸ h2,by rw [this.blk];exact h3⟩
 | .lG,cs,h=>by simp only [L.back,L.Rel] at *;exact h
 | .gH id off,cs,h=>by
  simp only [L.back,L.Rel] at *;obtain ⟨c,e,h⟩:=h;refine ⟨c,e,?_⟩;rcases h with h|⟨h1,h2,h3⟩
  ·exact .inl h
  ·have:=hβ id h1;exact .inr ⟨this.live ▸ h1,this.box ▸ h2,by rw [this.blk];exact h3⟩
 | .fO id u i off,cs,h=>by
  simp only [L.back,L.Rel] at *;obtain ⟨h1,h2,h3,c,h4,h5,h6⟩:=h;have:=hβ id h1;obtain ⟨g1,g2,g3,g4⟩:=this.row h2;refine ⟨this.live ▸ h1,this.box ▸ h2,by omega,c,h4,h5,fun hv=>?_⟩;rw [this.blk,g2];exact h6 (by omega)
 | .lH t x off,cs,h=>by simp only [L.back,L.Rel] at *;obtain ⟨c,hc,hr⟩:=h;exact ⟨c,hc,hr.mono (Keep.refl _ w) hN⟩
 | .sl id u off len,cs,h=>by
  simp only [L.back,L.Rel] at *;obtain ⟨h1,h2,h3,c,h4,h5,h6⟩:=h;have:=hβ id h1;obtain ⟨g1,g2,g3,g4⟩:=this.row h2;exact ⟨this.live ▸ h1,this.box ▸ h2,by omega,c,h4,h5,fun hv=>(this.yAu h2).2 (h6 (by omega))⟩
 | .own id u,cs,h=>by
  simp only [L.back,L.Rel] at *;obtain ⟨h1,h2,h3,c,h4,h5,h6⟩:=h;have:=hβ id h1;obtain ⟨g1,g2,g3,g4⟩:=this.row h2;exact ⟨this.live ▸ h1,this.box ▸ h2,by omega,c,h4,h5,fun hv=>by rw [g4];exact (this.yAu h2).2 (h6 (by omega))⟩
 | .dD,cs,h=>by simp only [L.back,L.Rel] at *;exact h
 | .clo g caps,cs,h=>by
  simp only [L.back,L.Rel] at *;obtain ⟨us,hc,hr⟩:=h;exact ⟨us,hc,L.dN.back hβ hN hr⟩
 | .bad n,cs,h=>by simp only [L.back,L.Rel] at *;exact h
 | .Ea x tab,cs,h=>by simp only [L.back,L.Rel] at *;exact h
 | .mp id,cs,h=>by
  simp only [L.back,L.Rel] at *;obtain ⟨h1,h2,h3⟩:=h;have:=hβ id h1;exact ⟨this.live ▸ h1,this.box ▸ h2,by rw [this.blk];exact h3⟩
theorem L.dN.back {f v:Nat->Nat}(hβ:∀ j,(β j).live=true->Rk (β j) (β' (f j)) (v j)) (hN:∀ b j,b<w.heap.size->N' b j->N b j):∀ {ls:List L}{us:List Value},L.dN β w N ls us->L.dN β' w N' (L.backs f v ls) us
 | [],us,h=>by simp only [L.backs,L.dN] at *;exact h
 | l::ls,us,h=>by
  simp only [L.backs,L.dN] at *;obtain ⟨u,r,e,h1,h2⟩:=h;exact ⟨u,r,e,L.Rel.back hβ hN h1,L.dN.back hβ hN h2⟩
end
theorem aJ.back {f v:Nat->Nat}(hβ:∀ j,(β j).live=true->Rk (β j) (β' (f j)) (v j)) (hN:∀ b j,b<w.heap.size->N' b j->N b j):∀ {ls:List L}{cs:List Value},aJ β w N ls cs->aJ β' w N' (L.backs f v ls) cs
 | [],_,h=>h
 | _l::_ls,_,⟨c1,c2,e,h1,h2⟩=>⟨c1,c2,e,h1.back hβ hN,aJ.back hβ hN h2⟩
theorem V.Rel.back {f v:Nat->Nat}(hβ:∀ j,(β j).live=true->Rk (β j) (β' (f j)) (v j)) (hN:∀ b j,b<w.heap.size->N' b j->N b j) {x:V}{u:Value}(h:x.Rel β w N u):(x.back f v).Rel β' w N' u:=by
 cases x with
 | one l=>exact L.Rel.back hβ hN h
 | agg ls=>obtain ⟨cs,e,h⟩:=h;exact ⟨cs,e,h.back hβ hN⟩
 | _=>trivial
theorem Ob.Rel.back {f v:Nat->Nat}(hβ:∀ j,(β j).live=true->Rk (β j) (β' (f j)) (v j)) (hN:∀ b j,b<w.heap.size->N' b j->N b j) {id:Nat}{o:Ob}(h:o.Rel β w N (β id)):(o.back f v id).Rel β' w N' (β' (f id)):=by
 cases o with
 | box e ls =>
  simp only [Ob.back,Ob.Rel] at *;obtain ⟨h1,h2,b,cs,h3,h4,h5⟩:=h;have:=hβ id h1;exact ⟨this.live ▸ h1,this.box ▸ h2,b,cs,this.blk ▸ h3,h4.back hβ hN,h5⟩
 | arr e t u rows wr =>
  simp only [Ob.back,Ob.Rel] at *;obtain ⟨h1,h2,h3,h4,h5,h6,h7⟩:=h;have:=hβ id h1;obtain ⟨g1,g2,g3,g4⟩:=this.row h2;refine ⟨this.live ▸ h1,this.box ▸ h2,by omega,by rw [g2,h4],h5,by rw [g4,h6],?_⟩;rw [this.blk,g3];rcases h7 with h7|⟨b,cur,css,k1,k2,k3,k4⟩
  ·exact .inl h7
  ·exact .inr ⟨b,cur,css,k1,k2,k3.mono fun _ _ h=>h.mono (Keep.refl _ w) hN,k4⟩
 | fm tab =>
  simp only [Ob.back,Ob.Rel] at *;obtain ⟨h1,h2,b,es,n,h3,h4⟩:=h;have:=hβ id h1;exact ⟨this.live ▸ h1,this.box ▸ h2,b,es,n,this.blk ▸ h3,h4⟩
 | dm kt vt es =>
  simp only [Ob.back,Ob.Rel] at *;obtain ⟨h1,h2,b,ms,h3,h4,h5⟩:=h;have:=hβ id h1;exact ⟨this.live ▸ h1,this.box ▸ h2,b,ms,this.blk ▸ h3,h4,h5.mono (Keep.refl _ w) hN⟩
 | stk e ei u rows top =>
  simp only [Ob.back,Ob.Rel] at *;obtain ⟨h1,h2,h3,h4,h5,b,cur,cs,cs2,bs,k1,k2,k3,k4,k5,k6,k7,k8,k9,k10,k11⟩:=h;have:=hβ id h1;obtain ⟨g1,g2,g3,g4⟩:=this.row h2;exact ⟨this.live ▸ h1,this.box ▸ h2,by omega,by rw [g2,h4],by rw [g4,h5,Mv],b,cur,cs,cs2,bs,this.blk ▸ k1,k2,by rw [g3];exact k3,by rw [g3,g4];exact k4,by rw [g3];exact k5,by rw [this.sub h2];exact k6,k7,k8,k9,k10.imp _ fun ls cs _ hl=>hl.back hβ hN,by rw [g4];exact k11⟩
end
def gM (P:Program) (f:FuncId) (si so:Sh) (F:si.X->Option so.X):Prop :=
 iJ P f=true∧∀ x y,F x=some y->∀ (C:Ctx) (β:Nat->Pl) (w:World) (xs:List Value),C.P=P->C.fix.length<=si.os.length->Sim C β (si.enc x) { tmps:=xs.toArray,defers:=[] } w ->
  Calls P f xs.toArray w fun e w'=>∃ (us:List Value) (β':Nat->Pl),e=.returned (oK us)∧Sim C β' (so.enc y) { tmps:=us.toArray,defers:=[] } w'
def zAs:List V->Option (List (Sum L (List L)))
 | []=>some []
 | v::r=>match v.sum,zAs r with
  | some s,some ss=>some (s::ss)
  | _,_=>none
def zJw (vs:List V):V :=
 match zAs vs with
 | some ss=>zYk ss
 | none=>.bS
def Hl (g:Nat->Option Ob):Nat->List Ob->List Ob
 | _,[]=>[]
 | i,o::r=>(match g i with|some o'=>o'|none=>o)::Hl g (i+1) r
def sF (f v:Nat->Nat):Nat->List Ob->List Ob | _,[]=>[] | j,o :: r=>o.back f v j :: sF f v (j+1) r
def rF:List Ob->List OS->Bool | [],_=>true | .box .. :: r,_ :: s=>rF r s | .fm .. :: r,_ :: s=>rF r s | .dm .. :: r,_ :: s=>rF r s | .arr .. :: r,.row .. :: s=>rF r s | .stk .. :: r,.stk .. :: s=>rF r s | _,_=>false
def jW (ρ:List Nat) (n:Nat) (j:Nat):Nat:=match ρ[j]? with|some i=>i|none=>n+(j-ρ.length)
def iX (ρ:List Nat) (h:List Ob) (j:Nat):Nat:=match ρ[j]? with
 | some i=>(match h[i]? with|some (.arr _ _ u _ _)=>u+1|some (.stk _ _ u _ _)=>u+1|_=>0)
 | none=>0
def iC (ρ:List Nat) (h hy:List Ob):List Ob :=
 Hl (fun i=>match pos i ρ 0 with|some j=>(match hy[j]? with|some o=>some (o.back (jW ρ h.length) (iX ρ h) j)|none=>none)|none=>none) 0 h++sF (jW ρ h.length) (iX ρ h) ρ.length (hy.drop ρ.length)
def Rl (ρ:List Nat) (h:List Ob) (si so:Sh):Bool :=nodupB ρ&&(bP (fun i=>Nat.blt i h.length) ρ&&(Nat.beq ρ.length si.os.length&&(bP Ob.wr (inH ρ h)&&rF (inH ρ h) so.os)))
def peM (si so:Sh) (F:si.X->Option so.X):PE where
 R:=so.X
 use:=3
 run vs h:=match si.dec ⟨vs.map (V.ren (reach vs h) h),inH (reach vs h) h⟩ with
  | some x=>some (Rl (reach vs h) h si so,F x)
  | none=>none
 enc y vs h:=(zJw ((so.enc y).r.map (V.back (jW (reach vs h) h.length) (iX (reach vs h) h))),iC (reach vs h) h (so.enc y).h)
theorem Yh {g:Nat->Option Ob}:∀ {h:List Ob}{n i:Nat},(Hl g n h)[i]?=(h[i]?).map fun o=>(match g (n+i) with|some o'=>o'|none=>o)
 | [],n,i=>by simp [Hl]
 | o::r,n,0=>by simp [Hl]
 | o::r,n,i+1=>by
  simp only [Hl,List.getElem?_cons_succ];rw [Yh (h:=r),show n+1+i=n+(i+1) by omega]
theorem wX {g:Nat->Option Ob}:∀ {h:List Ob}{n:Nat},(Hl g n h).length=h.length
 | [],_=>rfl
 | _::r,n=>congrArg (· + 1) (wX (h:=r) (n:=n+1))
theorem Rm {f v:Nat->Nat}:∀ {h:List Ob}{n i:Nat},(sF f v n h)[i]?=(h[i]?).map fun o=>o.back f v (n+i)
 | [],n,i=>by simp [sF]
 | o::r,n,0=>by simp [sF]
 | o::r,n,i+1=>by
  simp only [sF,List.getElem?_cons_succ];rw [Rm (h:=r),show n+1+i=n+(i+1) by omega]
theorem Jh {f v:Nat->Nat}:∀ {h:List Ob}{n:Nat},(sF f v n h).length=h.length
 | [],_=>rfl
 | _::r,n=>congrArg (· + 1) (Jh (h:=r) (n:=n+1))
theorem Ob.Rn {f v:Nat->Nat}{j:Nat}(o:Ob):(o.back f v j).mW=o.mW:=by cases o<;>rfl
theorem Ob.Bf {f v:Nat->Nat}{j:Nat}(o:Ob):(o.back f v j).wr=o.wr:=by cases o<;>rfl
theorem tC:∀ {hc:List Ob}{os:List OS}{j:Nat}{e:TypeId}{t:Ty}{u:Nat}{rows:List t.den}{wr:Bool},rF hc os=true->hc[j]?=some (.arr e t u rows wr)->∃ e' t',os[j]?=some (.row e' t')
 | [],_,j,_,_,_,_,_,_,h=>by simp at h
 | .box .. :: r,[],j,_,_,_,_,_,hk,_=>by cases hk
 | .box .. :: r,s::os,0,_,_,_,_,_,_,h=>by simp at h
 | .box .. :: r,s::os,j+1,_,_,_,_,_,hk,h=>by
  obtain ⟨e',t',h'⟩:=tC (hc:=r) (os:=os) (j:=j) hk (by simpa using h);exact ⟨e',t',by simpa using h'⟩
 | .fm .. :: r,[],j,_,_,_,_,_,hk,_=>by cases hk
 | .fm .. :: r,s::os,0,_,_,_,_,_,_,h=>by simp at h
 | .fm .. :: r,s::os,j+1,_,_,_,_,_,hk,h=>by
  obtain ⟨e',t',h'⟩:=tC (hc:=r) (os:=os) (j:=j) hk (by simpa using h);exact ⟨e',t',by simpa using h'⟩
 | .dm .. :: r,[],j,_,_,_,_,_,hk,_=>by cases hk
 | .dm .. :: r,s::os,0,_,_,_,_,_,_,h=>by simp at h
 | .dm .. :: r,s::os,j+1,_,_,_,_,_,hk,h=>by
  obtain ⟨e',t',h'⟩:=tC (hc:=r) (os:=os) (j:=j) hk (by simpa using h);exact ⟨e',t',by simpa using h'⟩
 | .stk .. :: r,[],j,_,_,_,_,_,hk,_=>by cases hk
 | .stk .. :: r,.box .. :: os,j,_,_,_,_,_,hk,_=>by cases hk
 | .stk .. :: r,.row .. :: os,j,_,_,_,_,_,hk,_=>by cases hk
 | .stk .. :: r,.fm .. :: os,j,_,_,_,_,_,hk,_=>by cases hk
 | .stk .. :: r,.dm .. :: os,j,_,_,_,_,_,hk,_=>by cases hk
 | .stk .. :: r,.stk .. :: os,0,_,_,_,_,_,_,h=>by simp at h
 | .stk .. :: r,.stk .. :: os,j+1,_,_,_,_,_,hk,h=>by
  obtain ⟨e',t',h'⟩:=tC (hc:=r) (os:=os) (j:=j) hk (by simpa using h);exact ⟨e',t',by simpa using h'⟩
 | .arr .. :: r,.stk .. :: os,j,_,_,_,_,_,hk,_=>by cases hk
 | .arr .. :: r,.fm .. :: os,j,_,_,_,_,_,hk,_=>by cases hk
 | .arr .. :: r,.dm .. :: os,j,_,_,_,_,_,hk,_=>by cases hk
 | .arr .. :: r,[],j,_,_,_,_,_,hk,_=>by cases hk
 | .arr .. :: r,.box .. :: os,j,_,_,_,_,_,hk,_=>by cases hk
 | .arr .. :: r,.row e t::os,0,_,_,_,_,_,_,_=>⟨e,t,rfl⟩
 | .arr .. :: r,.row e t::os,j+1,_,_,_,_,_,hk,h=>by
  obtain ⟨e',t',h'⟩:=tC (hc:=r) (os:=os) (j:=j) hk (by simpa using h);exact ⟨e',t',by simpa using h'⟩
theorem yL {A:Type}:∀ {os:List OS}{x:OTs os A}{j:Nat}{e:TypeId}{t:Ty},os[j]?=some (.row e t)->∃ rows,(eH os x).1[j]?=some (.arr e t 0 rows true)
 | [],_,j,_,_,h=>by simp at h
 | .box e0 ls::r,x,0,_,_,h=>by simp at h
 | .box e0 ls::r,x,j+1,e,t,h=>by
  obtain ⟨rows,h'⟩:=yL (os:=r) (x:=(eD ls x).2) (j:=j) (by simpa using h);exact ⟨rows,by simpa [eH] using h'⟩
 | .fm tab::r,x,0,_,_,h=>by simp at h
 | .fm tab::r,x,j+1,e,t,h=>by
  obtain ⟨rows,h'⟩:=yL (os:=r) (x:=x) (j:=j) (by simpa using h);exact ⟨rows,by simpa [eH] using h'⟩
 | .dm kt vt::r,x,0,_,_,h=>by simp at h
 | .dm kt vt::r,x,j+1,e,t,h=>by
  obtain ⟨rows,h'⟩:=yL (os:=r) (x:=x.2) (j:=j) (by simpa using h);exact ⟨rows,by simpa [eH] using h'⟩
 | .stk e0 ei::r,x,0,_,_,h=>by simp at h
 | .stk e0 ei::r,x,j+1,e,t,h=>by
  obtain ⟨rows,h'⟩:=yL (os:=r) (x:=x.2) (j:=j) (by simpa using h);exact ⟨rows,by simpa [eH] using h'⟩
 | .row e0 t0::r,x,0,e,t,h=>by
  simp only [List.getElem?_cons_zero,aA,OS.row.injEq] at h;obtain ⟨rfl,rfl⟩:=h;exact ⟨x.1,rfl⟩
 | .row e0 t0::r,x,j+1,e,t,h=>by
  obtain ⟨rows,h'⟩:=yL (os:=r) (x:=x.2) (j:=j) (by simpa using h);exact ⟨rows,by simpa [eH] using h'⟩
theorem tF:∀ {hc:List Ob}{os:List OS}{j:Nat}{e ei:TypeId}{u:Nat}{rows:List (Int × Int × List Int × List Int × Unit)}{top:Option (List L)},rF hc os=true->hc[j]?=some (.stk e ei u rows top)->∃ e' ei',os[j]?=some (.stk e' ei')
 | [],_,j,_,_,_,_,_,_,h=>by simp at h
 | .box .. :: r,[],j,_,_,_,_,_,hk,_=>by cases hk
 | .box .. :: r,s::os,0,_,_,_,_,_,_,h=>by simp at h
 | .box .. :: r,s::os,j+1,_,_,_,_,_,hk,h=>by
  obtain ⟨e',t',h'⟩:=tF (hc:=r) (os:=os) (j:=j) hk (by simpa using h);exact ⟨e',t',by simpa using h'⟩
 | .fm .. :: r,[],j,_,_,_,_,_,hk,_=>by cases hk
 | .fm .. :: r,s::os,0,_,_,_,_,_,_,h=>by simp at h
 | .fm .. :: r,s::os,j+1,_,_,_,_,_,hk,h=>by
  obtain ⟨e',t',h'⟩:=tF (hc:=r) (os:=os) (j:=j) hk (by simpa using h);exact ⟨e',t',by simpa using h'⟩
 | .dm .. :: r,[],j,_,_,_,_,_,hk,_=>by cases hk
 | .dm .. :: r,s::os,0,_,_,_,_,_,_,h=>by simp at h
 | .dm .. :: r,s::os,j+1,_,_,_,_,_,hk,h=>by
  obtain ⟨e',t',h'⟩:=tF (hc:=r) (os:=os) (j:=j) hk (by simpa using h);exact ⟨e',t',by simpa using h'⟩
 | .arr .. :: r,[],j,_,_,_,_,_,hk,_=>by cases hk
 | .arr .. :: r,.box .. :: os,j,_,_,_,_,_,hk,_=>by cases hk
 | .arr .. :: r,.fm .. :: os,j,_,_,_,_,_,hk,_=>by cases hk
 | .arr .. :: r,.dm .. :: os,j,_,_,_,_,_,hk,_=>by cases hk
 | .arr .. :: r,.stk .. :: os,j,_,_,_,_,_,hk,_=>by cases hk
 | .stk .. :: r,[],j,_,_,_,_,_,hk,_=>by cases hk
 | .stk .. :: r,.box .. :: os,j,_,_,_,_,_,hk,_=>by cases hk
 | .stk .. :: r,.row .. :: os,j,_,_,_,_,_,hk,_=>by cases hk
 | .stk .. :: r,.fm .. :: os,j,_,_,_,_,_,hk,_=>by cases hk
 | .stk .. :: r,.dm .. :: os,j,_,_,_,_,_,hk,_=>by cases hk
 | .arr .. :: r,.row .. :: os,0,_,_,_,_,_,_,h=>by simp at h
 | .arr .. :: r,.row .. :: os,j+1,_,_,_,_,_,hk,h=>by
  obtain ⟨e',t',h'⟩:=tF (hc:=r) (os:=os) (j:=j) hk (by simpa using h);exact ⟨e',t',by simpa using h'⟩
 | .stk .. :: r,.stk e ei::os,0,_,_,_,_,_,_,_=>⟨e,ei,rfl⟩
 | .stk .. :: r,.stk .. :: os,j+1,_,_,_,_,_,hk,h=>by
  obtain ⟨e',t',h'⟩:=tF (hc:=r) (os:=os) (j:=j) hk (by simpa using h);exact ⟨e',t',by simpa using h'⟩
theorem yM {A:Type}:∀ {os:List OS}{x:OTs os A}{j:Nat}{e ei:TypeId},os[j]?=some (.stk e ei)->∃ rows,(eH os x).1[j]?=some (.stk e ei 0 rows none)
 | [],_,j,_,_,h=>by simp at h
 | .box e0 ls::r,x,0,_,_,h=>by simp at h
 | .box e0 ls::r,x,j+1,e,t,h=>by
  obtain ⟨rows,h'⟩:=yM (os:=r) (x:=(eD ls x).2) (j:=j) (by simpa using h);exact ⟨rows,by simpa [eH] using h'⟩
 | .fm tab::r,x,0,_,_,h=>by simp at h
 | .fm tab::r,x,j+1,e,t,h=>by
  obtain ⟨rows,h'⟩:=yM (os:=r) (x:=x) (j:=j) (by simpa using h);exact ⟨rows,by simpa [eH] using h'⟩
 | .dm kt vt::r,x,0,_,_,h=>by simp at h
 | .dm kt vt::r,x,j+1,e,t,h=>by
  obtain ⟨rows,h'⟩:=yM (os:=r) (x:=x.2) (j:=j) (by simpa using h);exact ⟨rows,by simpa [eH] using h'⟩
 | .row e0 t0::r,x,0,_,_,h=>by simp at h
 | .row e0 t0::r,x,j+1,e,t,h=>by
  obtain ⟨rows,h'⟩:=yM (os:=r) (x:=x.2) (j:=j) (by simpa using h);exact ⟨rows,by simpa [eH] using h'⟩
 | .stk e0 t0::r,x,0,e,t,h=>by
  simp only [List.getElem?_cons_zero,aA,OS.stk.injEq] at h;obtain ⟨rfl,rfl⟩:=h;exact ⟨x.1,rfl⟩
 | .stk e0 t0::r,x,j+1,e,t,h=>by
  obtain ⟨rows,h'⟩:=yM (os:=r) (x:=x.2) (j:=j) (by simpa using h);exact ⟨rows,by simpa [eH] using h'⟩
theorem Bg {A:Type}:∀ {os:List OS}{x:OTs os A}{j:Nat}{o:Ob},(eH os x).1[j]?=some o->o.wr=true
 | [],_,j,_,h=>by simp [eH] at h
 | .box e0 ls::r,x,0,_,h=>by simp only [eH,List.getElem?_cons_zero,aA] at h;subst h;rfl
 | .box e0 ls::r,x,j+1,o,h=>Bg (os:=r) (x:=(eD ls x).2) (j:=j) (by simpa [eH] using h)
 | .fm tab::r,x,0,_,h=>by simp only [eH,List.getElem?_cons_zero,aA] at h;subst h;rfl
 | .fm tab::r,x,j+1,o,h=>Bg (os:=r) (x:=x) (j:=j) (by simpa [eH] using h)
 | .dm kt vt::r,x,0,_,h=>by simp only [eH,List.getElem?_cons_zero,aA] at h;subst h;rfl
 | .dm kt vt::r,x,j+1,o,h=>Bg (os:=r) (x:=x.2) (j:=j) (by simpa [eH] using h)
 | .stk e0 ei::r,x,0,_,h=>by simp only [eH,List.getElem?_cons_zero,aA] at h;subst h;rfl
 | .stk e0 ei::r,x,j+1,o,h=>Bg (os:=r) (x:=x.2) (j:=j) (by simpa [eH] using h)
 | .row e0 t0::r,x,0,_,h=>by simp only [eH,List.getElem?_cons_zero,aA] at h;subst h;rfl
 | .row e0 t0::r,x,j+1,o,h=>Bg (os:=r) (x:=x.2) (j:=j) (by simpa [eH] using h)
theorem zFo {β:Nat->Pl}{w:World}{N:Nat->Nat->Prop}:∀ {vs:List V}{us:List Value}{ss:List (Sum L (List L))},zAs vs=some ss->aW (fun v u=>V.Rel β w N v u) vs us->aW (fK β w N) ss us
 | [],[],ss,h,_=>by simp only [zAs,aA] at h;subst h;trivial
 | v::vs,u::us,ss,h,hr=>by
  simp only [zAs] at h;split at h
  ·rename_i s ss' h1 h2;simp only [aA] at h;subst h;exact ⟨V.zDl h1 hr.1,zFo h2 hr.2⟩
  ·cases h
 | [],_::_,_,_,hr=>hr.elim
 | _::_,[],_,_,hr=>hr.elim
theorem Yi {β:Nat->Pl}{w:World}{N:Nat->Nat->Prop}{vs:List V}{us:List Value}(hr:aW (fun v u=>V.Rel β w N v u) vs us):(zJw vs).Rel β w N (oK us):=by
 unfold zJw;split
 ·rename_i ss h;exact zJv (zFo h hr)
 ·trivial
theorem zPa {α γ:Type}{R:α->γ->Prop}:∀ {x:List α}{y:List γ},x.length=y.length->(∀ (i:Nat) (a:α) (b:γ),x[i]?=some a->y[i]?=some b->R a b)->aW R x y
 | [],[],_,_=>trivial
 | a::x,b::y,hl,h=>⟨h 0 a b rfl rfl,zPa (by simpa using hl) fun i c d hc hd=>h (i+1) c d (by simpa using hc) (by simpa using hd)⟩
 | [],_::_,hl,_=>by simp at hl
 | _::_,[],hl,_=>by simp at hl
end Go.Dec
namespace Go.Dec
section
variable {P:Program}{f:FuncId}{si so:Sh}{F:si.X->Option so.X}
theorem Jz {ρ:List Nat}{h:List Ob}(hc:Rl ρ h si so=true):nodupB ρ=true∧(∀ i∈ρ,i<h.length)∧ρ.length=si.os.length∧(∀ (j:Nat) (o:Ob),(inH ρ h)[j]?=some o->o.wr=true)∧rF (inH ρ h) so.os=true:=by
 simp only [Rl,aD] at hc;obtain ⟨h1,h2,h3,h4,h5⟩:=hc;refine ⟨h1,fun i hi=>?_,aM h3,fun j o ho=>qO h4 j o ho,h5⟩;obtain ⟨n,hn⟩:=List.getElem?_of_mem hi;exact bR (qO h2 n i hn)
def tZ:Ob->Bool | .box ..=>true | .arr ..=>false | .fm _=>true | .dm ..=>true | .stk ..=>false
def zH (β:Nat->Pl) (h:List Ob) (i:Nat):Option Nat:=match tZ (Nh h i) with|true=>(β i).blk|false=>none
def inC (C:Ctx) (β:Nat->Pl) (h:List Ob) (w:World) (ρ:List Nat) (hs:dW C β h w):Ctx where
 P:=C.P
 N0 b j:=C.N β h b j∧∀ i∈ρ,∀ o,h[i]?=some o->¬ o.blks (β i) b
 w0:=w
 Eb b j:=∃ (i:Nat) (o:Ob),i∈ρ∧h[i]?=some o∧o.wr=true∧o.at (β i) b j
 glob w' hw:=C.glob w' (hs.frame.oH hw fun b j hb hm=>by
  obtain ⟨i,o,_,ho,hwo,hbk⟩:=hm;rcases (hs.dX i o b ho ⟨j,hbk⟩).2.2 with h1|h1
  ·omega
  ·exact h1 j hwo hbk)
 fix:=ρ.map (zH β h)
theorem zJx {C:Ctx}{β:Nat->Pl}{w:World}{h:List Ob}{ρ:List Nat}{vs:List V}{xs:List Value}(hs:dW C β h w) (ha:lK β w (C.N β h) vs xs) (hnd:nodupB ρ=true) (hlt:∀ i∈ρ,i<h.length) :
  Sim (inC C β h w ρ hs) (Bc β ρ) ⟨vs.map (V.ren ρ h),inH ρ h⟩ { tmps:=xs.toArray,defers:=[] } w:=by
 have Ye:=zJl hs hlt;have hget:∀ i∈ρ,∃ o,h[i]?=some o:=fun i hi=>⟨h[i]'(hlt i hi),by simp [hlt i hi]⟩
 have hβ:∀ {j i:Nat},ρ[j]?=some i->Bc β ρ j={ β i with ver:=0 }:=fun hi=>by simp only [Bc,hi]
 have hNw:∀ b j,C.N β h b j->b<w.heap.size:=fun b j hb=>by
  rcases hb with hb|⟨id,o,ho,_,hbk⟩
  ·exact Nat.lt_of_lt_of_le (hs.n0 b j hb) hs.size
  ·exact (hs.dX id o b ho ⟨j,hbk⟩).2.1
 have hN:∀ b j,b<w.heap.size->(inC C β h w ρ hs).N (Bc β ρ) (inH ρ h) b j->C.N β h b j:=fun b k _ hb=>by
  rcases hb with hb|⟨j,o,ho,hw,hbk⟩
  ·exact hb.1
  ·obtain ⟨i,hi,rfl⟩:=sW ho;obtain ⟨o',ho'⟩:=hget i (List.mem_of_getElem? hi);rw [fG ho',Ob.Rb] at hw;rw [fG ho',hβ hi] at hbk;exact .inr ⟨i,o',ho',hw,Ob.rC (Ob.rY ρ h o') rfl rfl hbk⟩
 refine ⟨⟨?_,?_,?_,?_,fun b j hb=>hNw b j hb.1,Keep.refl _ _,aQ _,rfl,rfl,rfl,?_⟩,rfl,by simpa using aW.length ha,?_⟩
 ·intro j o ho;obtain ⟨i,hi,rfl⟩:=sW ho;obtain ⟨o',ho'⟩:=hget i (List.mem_of_getElem? hi);rw [fG ho',hβ hi];have hob:=hs.obj i o' ho';cases o' with
  | box e ls =>
   simp only [Ob.ren,Ob.Rel] at *;obtain ⟨h1,h2,b,cs,h3,h4,h5⟩:=hob;exact ⟨h1,h2,b,cs,h3,h4.wG Ye hN,h5⟩
  | arr e t v rows wr =>
   simp only [Ob.ren,Ob.Rel] at *;obtain ⟨h1,h2,h3,h4,h5,h6,h7⟩:=hob;refine ⟨h1,h2,trivial,h4,h5,h6,?_⟩;rcases h7 with h7|⟨b,cur,css,k1,k2,k3,k4⟩
   ·exact .inl h7
   ·exact .inr ⟨b,cur,css,k1,k2,k3.mono fun _ _ h=>h.mono (Keep.refl _ w) hN,k4⟩
  | fm tab=>simp only [Ob.ren,Ob.Rel] at *;exact hob
  | dm kt vt es =>
   simp only [Ob.ren,Ob.Rel] at *;obtain ⟨h1,h2,b,ms,h3,h4,h5⟩:=hob;exact ⟨h1,h2,b,ms,h3,h4,h5.mono (Keep.refl _ w) hN⟩
  | stk e ei v rows top =>
   simp only [Ob.ren,Ob.Rel] at *;obtain ⟨g1,g2,g3,g4,g5,b,cur,cs,cs2,bs,k1,k2,k3,k4,k5,k6,k7,k8,k9,k10,k11⟩:=hob;exact ⟨g1,g2,trivial,g4,by rw [Mv];exact g5,b,cur,cs,cs2,bs,k1,k2,k3,k4,k5,k6,k7,k8,k9,k10.imp _ fun ls cs _ hl=>hl.wG Ye hN,k11⟩
 ·intro j hj;simp only [inH,List.length_map] at hj;simp only [Bc,List.getElem?_eq_none hj]
 ·intro i j o1 o2 b h1 h2 hb1 hb2;obtain ⟨i',hi,rfl⟩:=sW h1;obtain ⟨j',hj,rfl⟩:=sW h2;obtain ⟨o1',ho1⟩:=hget i' (List.mem_of_getElem? hi);obtain ⟨o2',ho2⟩:=hget j' (List.mem_of_getElem? hj);rw [hβ hi,fG ho1] at hb1;rw [hβ hj,fG ho2] at hb2;have:=hs.jA i' j' o1' o2' b ho1 ho2 (Ob.jD (Ob.rY ρ h o1') rfl rfl hb1) (Ob.jD (Ob.rY ρ h o2') rfl rfl hb2);subst this;exact Fg hnd hi hj
 ·intro j o b ho hb;obtain ⟨i,hi,rfl⟩:=sW ho;obtain ⟨o',ho'⟩:=hget i (List.mem_of_getElem? hi);rw [fG ho',hβ hi] at hb ⊢;have hb':=Ob.jD (o':=o') (p':=β i) (Ob.rY ρ h o') rfl rfl hb;exact ⟨fun k hn=>hn.2 i (List.mem_of_getElem? hi) o' ho' hb',(hs.dX i o' b ho' hb').2.1,.inr fun k hw hk=>⟨i,o',List.mem_of_getElem? hi,ho',by rw [Ob.Rb] at hw;exact hw,Ob.rC (Ob.rY ρ h o') rfl rfl hk⟩⟩
 ·intro j o hj;simp only [inC,List.getElem?_map,Option.map_eq_some_iff] at hj;obtain ⟨i,hi,rfl⟩:=hj;refine ⟨by simpa [inH] using (bG.1 hi).1,fun b hb=>?_⟩;obtain ⟨o',ho'⟩:=hget i (List.mem_of_getElem? hi);have hob:=hs.obj i o' ho';rw [hβ hi];unfold zH at hb;rw [fG ho'] at hb;cases o' with
  | box e ls =>
   simp only [Ob.Rel] at hob;exact ⟨hb,hob.2.1⟩
  | arr e t v rows wr=>cases hb
  | stk e ei v rows top=>cases hb
  | fm tab =>
   simp only [Ob.Rel] at hob;exact ⟨hb,hob.2.1⟩
  | dm kt vt es =>
   simp only [Ob.Rel] at hob;exact ⟨hb,hob.2.1⟩
 ·intro i v hv;simp only [List.getElem?_map,Option.map_eq_some_iff] at hv;obtain ⟨v0,hv0,rfl⟩:=hv;have hl:i<xs.length:=by rw [<- aW.length ha];exact (bG.1 hv0).1
  have hr:=ha.get i (bG.1 hv0).1 hl;have e:vs[i]'(bG.1 hv0).1=v0:=(bG.1 hv0).2;rw [e] at hr;have e2:(xs.toArray).getD i undef=xs[i]:=by simp [hl]
  simp only [e2];exact hr.wG Ye hN
def kX (β β':Nat->Pl) (ρ:List Nat) (h:List Ob):Nat->Pl:=fun i =>
 match pos i ρ 0 with
 | some j=>match tZ (Nh h i) with
  | true=>β i
  | false=>{ β' j with ver:=(β' j).ver+iX ρ h j }
 | none=>if i<h.length then β i else β' (i-h.length+ρ.length)
theorem Ka {ρ:List Nat}{h hy:List Ob}(hk:ρ.length<=hy.length) {id:Nat}{o:Ob}(ho:(iC ρ h hy)[id]?=some o) :
  (id<h.length∧pos id ρ 0=none∧h[id]?=some o)∨(∃ j ob oy,id<h.length∧ρ[j]?=some id∧pos id ρ 0=some j∧h[id]?=some ob∧hy[j]?=some oy∧o=oy.back (jW ρ h.length) (iX ρ h) j) ∨
   ∃ j oy,ρ.length<=j∧id=h.length+(j-ρ.length)∧hy[j]?=some oy∧o=oy.back (jW ρ h.length) (iX ρ h) j:=by
 unfold iC at ho;by_cases hid:id<h.length
 ·rw [iG (by rw [wX];exact hid),Yh,Nat.zero_add] at ho;obtain ⟨ob,hob⟩:∃ ob,h[id]?=some ob:=⟨h[id],by simp [hid]⟩;rw [hob] at ho;simp only [Option.map_some,aA] at ho;cases hp:pos id ρ 0 with
  | none =>
   rw [hp] at ho;simp only at ho;exact .inl ⟨hid,rfl,by rw [hob,ho]⟩
  | some j =>
   obtain ⟨m,hm,hi⟩:=xU hp;rw [Nat.zero_add] at hm;subst hm;have hj:j<hy.length:=Nat.lt_of_lt_of_le (bG.1 hi).1 hk;have hyj:hy[j]?=some hy[j]:=by simp [hj]
   rw [hp] at ho;simp only [hyj] at ho;exact .inr (.inl ⟨j,ob,hy[j],hid,hi,rfl,hob,hyj,ho.symm⟩)
 ·rw [List.getElem?_append_right (by rw [wX];omega),wX,Rm,List.getElem?_drop] at ho;simp only [Option.map_eq_some_iff] at ho;obtain ⟨oy,h1,h2⟩:=ho;exact .inr (.inr ⟨ρ.length+(id-h.length),oy,by omega,by omega,h1,h2.symm⟩)
theorem Lg {ρ:List Nat}{h hy:List Ob}:(iC ρ h hy).length=h.length+(hy.length-ρ.length):=by
 simp [iC,wX,Jh]
theorem Ns {C:Ctx}{β:Nat->Pl}{h:List Ob}{w w':World}{ρ:List Nat}(hs:dW C β h w) (hnd:nodupB ρ=true) (hlt:∀ i∈ρ,i<h.length) (hwr:∀ (j:Nat) (o:Ob),(inH ρ h)[j]?=some o->o.wr=true) (Dp:rF (inH ρ h) so.os=true)
  {y:so.X}{us:List Value}{β':Nat->Pl}(hs':Sim (inC C β h w ρ hs) β' (so.enc y) { tmps:=us.toArray,defers:=[] } w') :
  ∃ β2,Moves β β2∧Keep (C.N β h) w w'∧(∀ b j,b<w.heap.size->C.N β2 (iC ρ h (so.enc y).h) b j->C.N β h b j)∧dW C β2 (iC ρ h (so.enc y).h) w' ∧
   aW (fun v u=>V.Rel β2 w' (C.N β2 (iC ρ h (so.enc y).h)) v u) ((so.enc y).r.map (V.back (jW ρ h.length) (iX ρ h))) us:=by
 generalize hhy:(so.enc y).h=hy at *;have hget:∀ i∈ρ,∃ o,h[i]?=some o:=fun i hi=>⟨h[i]'(hlt i hi),by simp [hlt i hi]⟩
 have hfix:∀ {j i:Nat},ρ[j]?=some i->j<hy.length∧∀ b,zH β h i=some b->(β' j).blk=some b∧(β' j).box=true:=fun {j i} hi=>by
  have:=hs'.heap.fixed j (zH β h i) (by simp [inC,hi]);rw [hhy] at this;exact this
 have hk:ρ.length<=hy.length:=by
  rcases iZ hy.length ρ.length with h1|h1
  ·have:=(hfix (j:=hy.length) (i:=ρ[hy.length]) (by simp [h1])).1;omega
  ·exact h1
 have yKf:∀ i∈ρ,∀ o,h[i]?=some o->o.wr=true:=fun i hi o ho=>by
  obtain ⟨n,hn⟩:=List.getElem?_of_mem hi;have:=hwr n ((Nh h i).ren ρ h) (by simp [inH,hn]);rw [Ob.Rb,fG ho] at this;exact this
 have hrow:∀ {j i:Nat}{o:Ob},ρ[j]?=some i->h[i]?=some o->tZ o=false->∃ oy,hy[j]?=some oy∧tZ oy=false:=fun {j i o} hi ho hb=>by
  cases o with
  | box e ls=>cases hb
  | fm tab=>cases hb
  | dm=>cases hb
  | stk e ei u rows top =>
   obtain ⟨e',ei',hrw⟩:=tF (j:=j) (e:=e) (ei:=ei) (u:=0) (rows:=rows) (top:=top.map (L.Aw ρ h)) Dp (by simp [inH,hi,fG ho,Ob.ren]);obtain ⟨rows',hr'⟩:=yM (A:=Unit) (x:=(Fh so.rs (List.replicate so.n .bS) y).2) hrw;exact ⟨_,by rw [<- hhy];exact hr',rfl⟩
  | arr e t u rows wr =>
   obtain ⟨e',t',hrw⟩:=tC (j:=j) (e:=e) (t:=t) (u:=0) (rows:=rows) (wr:=wr) Dp (by simp [inH,hi,fG ho,Ob.ren]);obtain ⟨rows',hr'⟩:=yL (A:=Unit) (x:=(Fh so.rs (List.replicate so.n .bS) y).2) hrw;exact ⟨_,by rw [<- hhy];exact hr',rfl⟩
 have Yj:=hs'.heap.obj;rw [hhy] at Yj;have zVa:∀ j,hy.length<=j->(β' j).live=false:=fun j hj=>hs'.heap.dead j (by rw [hhy];exact hj)
 have Lh:=hs'.heap.dX;rw [hhy] at Lh;have zPb:=hs'.heap.jA;rw [hhy] at zPb;have zRu:∀ {j i:Nat}{o:Ob},ρ[j]?=some i->h[i]?=some o->tZ o=true->(β' j).box=true∧(β' j).blk=(β i).blk∧(β i).box=true∧(β i).live=true∧(β' j).live=true:=fun {j i o} hi ho hb=>by
  have hob:=hs.obj i o ho;obtain ⟨hj,hfx⟩:=hfix hi;cases o with
  | arr=>cases hb
  | stk=>cases hb
  | dm kt vt es =>
   simp only [Ob.Rel] at hob;obtain ⟨k1,k2,b,ms,k3,_⟩:=hob;have hfo:zH β h i=some b:=by simp only [zH,fG ho,tZ,k3]
   obtain ⟨g1,g2⟩:=hfx b hfo;exact ⟨g2,by rw [g1,k3],k2,k1,(Yj j hy[j] (by simp [hj])).live⟩
  | fm tab =>
   simp only [Ob.Rel] at hob;obtain ⟨k1,k2,b,es,n,k3,_⟩:=hob;have hfo:zH β h i=some b:=by simp only [zH,fG ho,tZ,k3]
   obtain ⟨g1,g2⟩:=hfx b hfo;exact ⟨g2,by rw [g1,k3],k2,k1,(Yj j hy[j] (by simp [hj])).live⟩
  | box e ls =>
   simp only [Ob.Rel] at hob;obtain ⟨k1,k2,b,cs,k3,_⟩:=hob;have hfo:zH β h i=some b:=by simp only [zH,fG ho,tZ,k3]
   obtain ⟨g1,g2⟩:=hfx b hfo;exact ⟨g2,by rw [g1,k3],k2,k1,(Yj j hy[j] (by simp [hj])).live⟩
 have zYm:∀ {j i:Nat}{o:Ob},ρ[j]?=some i->h[i]?=some o->tZ o=true->kX β β' ρ h i=β i:=fun hi ho hb=>by
  simp only [kX,zOu hnd hi,fG ho,hb]
 have zYn:∀ {j i:Nat}{o:Ob},ρ[j]?=some i->h[i]?=some o->tZ o=false->kX β β' ρ h i={ β' j with ver:=(β' j).ver+iX ρ h j }:=fun hi ho hb=>by
  simp only [kX,zOu hnd hi,fG ho,hb]
 have zRv:∀ {i:Nat},pos i ρ 0=none->i<h.length->kX β β' ρ h i=β i:=fun hp hi=>by
  simp only [kX,hp,if_pos hi]
 have yAv:∀ {i:Nat},h.length<=i->pos i ρ 0=none:=fun {i} hi=>by
  cases hp:pos i ρ 0 with
  | none=>rfl
  | some j =>
   obtain ⟨m,_,hm⟩:=xU hp;have:=hlt i (List.mem_of_getElem? hm);omega
 have yEr:∀ {j:Nat},ρ.length<=j->kX β β' ρ h (h.length+(j-ρ.length))=β' j:=fun {j} hj=>by
  simp only [kX,yAv (Nat.le_add_right _ _)];rw [if_neg (by omega)];congr 1;omega
 have eF:∀ {j i:Nat},ρ[j]?=some i->jW ρ h.length j=i:=fun hi=>by simp only [jW,hi]
 have eF2:∀ {j:Nat},ρ.length<=j->jW ρ h.length j=h.length+(j-ρ.length):=fun hj=>by simp only [jW,List.getElem?_eq_none hj]
 have eU2:∀ {j:Nat},ρ.length<=j->iX ρ h j=0:=fun hj=>by simp only [iX,List.getElem?_eq_none hj]
 have hpl:∀ j,(β' j).live=true->Rk (β' j) (kX β β' ρ h (jW ρ h.length j)) (iX ρ h j):=fun j hl=>by
  have hj:j<hy.length:=by
   rcases iZ j hy.length with h1|h1
   ·exact h1
   ·rw [zVa j h1] at hl;cases hl
  cases hi:ρ[j]? with
  | some i =>
   rw [eF hi];obtain ⟨o,ho⟩:=hget i (List.mem_of_getElem? hi);cases hb:tZ o with
   | true =>
    obtain ⟨g1,g2,g3,g4,g5⟩:=zRu hi ho hb;rw [zYm hi ho hb];exact ⟨by rw [g4,hl],by rw [g3,g1],g2.symm,fun h=>(by rw [g1] at h;cases h),fun h=>(by rw [g1] at h;cases h)⟩
   | false =>
    rw [zYn hi ho hb];exact ⟨rfl,rfl,rfl,fun _=>⟨rfl,rfl,rfl,rfl⟩,fun _=>rfl⟩
  | none =>
   have hge:ρ.length<=j:=List.getElem?_eq_none_iff.1 hi;rw [eF2 hge,yEr hge,eU2 hge];exact ⟨rfl,rfl,rfl,fun _=>⟨rfl,rfl,rfl,rfl⟩,fun _=>rfl⟩
 have hown:∀ {b k:Nat},(inC C β h w ρ hs).Eb b k->∃ (i:Nat) (o:Ob),i∈ρ∧h[i]?=some o∧o.wr=true∧o.at (β i) b k:=fun {b k} hb=>hb
 have hkeep:Keep (C.N β h) w w':=hs'.heap.frame.weaken fun k j ho=>by
  obtain ⟨i,o,_,h2,h3,h4⟩:=hown ho;exact .inr ⟨i,o,h2,h3,h4⟩
 have hat:∀ {id j:Nat}{ob oy:Ob},ρ[j]?=some id->h[id]?=some ob->hy[j]?=some oy->∀ b k,(oy.back (jW ρ h.length) (iX ρ h) j).at (kX β β' ρ h id) b k->oy.at (β' j) b k:=fun {id j ob oy} hi hob hoy b k hbk=>by
  cases hb2:tZ ob with
  | true =>
   have hp:oy.mW=false:=(Yj j oy hoy).zWy (zRu hi hob hb2).1;rw [zYm hi hob hb2] at hbk;have:=Ob.Xi (by simp [Ob.plain,Ob.Rn,hp]) hbk;exact Ob.jL (by rw [(zRu hi hob hb2).2.1];exact this)
  | false =>
   rw [zYn hi hob hb2] at hbk;exact Ob.rC (Ob.Rn oy) rfl rfl hbk
 have zYo:∀ {j:Nat}{oy:Ob},ρ.length<=j->∀ b k,(oy.back (jW ρ h.length) (iX ρ h) j).at (kX β β' ρ h (h.length+(j-ρ.length))) b k->oy.at (β' j) b k:=fun {j oy} hj b k hbk=>by
  rw [yEr hj] at hbk;exact Ob.rC (Ob.Rn oy) rfl rfl hbk
 have zJy:Moves β (kX β β' ρ h):=fun id hl=>by
  have hid:id<h.length:=by
   rcases iZ id h.length with h1|h1
   ·exact h1
   ·rw [hs.dead id h1] at hl;cases hl
  cases hp:pos id ρ 0 with
  | none=>exact .inl (zRv hp hid)
  | some j =>
   obtain ⟨m,hm,hi⟩:=xU hp;rw [Nat.zero_add] at hm;subst hm;obtain ⟨o,ho⟩:=hget id (List.mem_of_getElem? hi);cases hb:tZ o with
   | true=>exact .inl (zYm hi ho hb)
   | false =>
    obtain ⟨oy,hoy,hby⟩:=hrow hi ho hb;have hY:=Yj j oy hoy;have hO:=hs.obj id o ho;rw [zYn hi ho hb];cases o with
    | box=>cases hb
    | fm=>cases hb
    | dm=>cases hb
    | stk e ei u rows top =>
     cases oy with
     | box=>cases hby
     | fm=>cases hby
     | dm=>cases hby
     | arr e' t' u' rows' wr' =>
      simp only [Ob.Rel] at hY hO;refine .inr ⟨hO.2.1,hY.1,hY.2.1,?_⟩;simp only [iX,hi,ho];have:=hO.2.2.1;omega
     | stk e' ei' u' rows' top' =>
      simp only [Ob.Rel] at hY hO;refine .inr ⟨hO.2.1,hY.1,hY.2.1,?_⟩;simp only [iX,hi,ho];have:=hO.2.2.1;omega
    | arr e t u rows wr =>
     cases oy with
     | box=>cases hby
     | fm=>cases hby
     | dm=>cases hby
     | stk e' ei' u' rows' top' =>
      simp only [Ob.Rel] at hY hO;refine .inr ⟨hO.2.1,hY.1,hY.2.1,?_⟩;simp only [iX,hi,ho];have:=hO.2.2.1;omega
     | arr e' t' u' rows' wr' =>
      simp only [Ob.Rel] at hY hO;refine .inr ⟨hO.2.1,hY.1,hY.2.1,?_⟩;simp only [iX,hi,ho];have:=hO.2.2.1;omega
 have hbl:∀ {b k:Nat},b<w.heap.size->w.heap.size<=b∨(inC C β h w ρ hs).Eb b k->C.N β h b k:=fun {b k} hb ho=>by
  rcases ho with ho|ho
  ·omega
  ·obtain ⟨i,o,_,h2,h3,h4⟩:=hown ho;exact .inr ⟨i,o,h2,h3,h4⟩
 have yAw:∀ b j,b<w.heap.size->C.N (kX β β' ρ h) (iC ρ h hy) b j->C.N β h b j:=fun b k hb hn=>by
  rcases hn with hn|⟨id,o,ho,hw,hbk⟩
  ·exact .inl hn
  ·rcases Ka hk ho with ⟨hid,hp,ho⟩|⟨j,ob,oy,hid,hi,hp,hob,hoy,rfl⟩|⟨j,oy,hj,rfl,hoy,rfl⟩
   ·rw [zRv hp hid] at hbk;exact .inr ⟨id,o,ho,hw,hbk⟩
   ·rw [Ob.Bf] at hw;have hbk:=hat hi hob hoy b k hbk;exact hbl hb ((Lh j oy b hoy ⟨k,hbk⟩).2.2.imp (fun h=>h) fun h=>h k hw hbk)
   ·rw [Ob.Bf] at hw;have hbk:=zYo hj b k hbk;exact hbl hb ((Lh j oy b hoy ⟨k,hbk⟩).2.2.imp (fun h=>h) fun h=>h k hw hbk)
 have yAx:∀ b j,b<w'.heap.size->C.N (kX β β' ρ h) (iC ρ h hy) b j->(inC C β h w ρ hs).N β' (so.enc y).h b j:=fun b k _ hn=>by
  rw [hhy];rcases hn with hn|⟨id,o,ho,hw,hbk⟩
  ·exact .inl ⟨.inl hn,fun i hi o ho hbk=>(hs.dX i o b ho hbk).1 k hn⟩
  ·rcases Ka hk ho with ⟨hid,hp,ho⟩|⟨j,ob,oy,hid,hi,hp,hob,hoy,rfl⟩|⟨j,oy,hj,rfl,hoy,rfl⟩
   ·rw [zRv hp hid] at hbk;refine .inl ⟨.inr ⟨id,o,ho,hw,hbk⟩,fun i hi oi hoi hbi=>?_⟩;have:=hs.jA id i o oi b ho hoi ⟨k,hbk⟩ hbi;subst this;exact Hf hp hi
   ·rw [Ob.Bf] at hw;exact .inr ⟨j,oy,hoy,hw,hat hi hob hoy b k hbk⟩
   ·rw [Ob.Bf] at hw;exact .inr ⟨j,oy,hoy,hw,zYo hj b k hbk⟩
 have zDc:∀ {id:Nat}{o:Ob}{b:Nat},pos id ρ 0=none->h[id]?=some o->o.blks (β id) b->b<w.heap.size∧∀ k,¬ (inC C β h w ρ hs).Eb b k:=fun {id o b} hp ho hb=>by
  refine ⟨(hs.dX id o b ho hb).2.1,fun k hw=>?_⟩;obtain ⟨i,oi,h1,h2,_,h4⟩:=hown hw;have:=hs.jA id i o oi b ho h2 hb ⟨k,h4⟩;subst this;exact Hf hp h1
 have hcls:∀ {id:Nat}{o:Ob},(iC ρ h hy)[id]?=some o->(pos id ρ 0=none∧h[id]?=some o∧kX β β' ρ h id=β id)∨∃ j oy,hy[j]?=some oy∧id=jW ρ h.length j∧o=oy.back (jW ρ h.length) (iX ρ h) j∧∀ b k,o.at (kX β β' ρ h id) b k->oy.at (β' j) b k:=fun {id o} ho=>by
  rcases Ka hk ho with ⟨hid,hp,ho⟩|⟨j,ob,oy,hid,hi,hp,hob,hoy,rfl⟩|⟨j,oy,hj,rfl,hoy,rfl⟩
  ·exact .inl ⟨hp,ho,zRv hp hid⟩
  ·exact .inr ⟨j,oy,hoy,(eF hi).symm,rfl,hat hi hob hoy⟩
  ·exact .inr ⟨j,oy,hoy,(eF2 hj).symm,rfl,zYo hj⟩
 have yEs:∀ {j:Nat}{oy:Ob},hy[j]?=some oy->(oy.back (jW ρ h.length) (iX ρ h) j).wr=true:=fun {j oy} hoy=>by
  rw [Ob.Bf,<- hhy] at *;exact Bg hoy
 have yEt:∀ {j id:Nat}{oy:Ob}{b:Nat},hy[j]?=some oy->(∀ b k,(oy.back (jW ρ h.length) (iX ρ h) j).at (kX β β' ρ h id) b k->oy.at (β' j) b k)->(oy.back (jW ρ h.length) (iX ρ h) j).blks (kX β β' ρ h id) b->b<w.heap.size->(∀ k,¬ (inC C β h w ρ hs).Eb b k)->False:=fun {j id oy b} hoy eb hb g1 g2=>by
  obtain ⟨q,hb⟩:=hb;rcases (Lh j oy b hoy ⟨q,eb b q hb⟩).2.2 with h3|h3
  ·have h3:w.heap.size<=b:=h3;omega
  ·have hw:=yEs hoy;rw [Ob.Bf] at hw;exact g2 q (h3 q hw (eb b q hb))
 have hHS:dW C (kX β β' ρ h) (iC ρ h hy) w':=by
  refine ⟨?_,?_,?_,?_,hs.n0,?_,Nat.le_trans hs.size hs'.heap.size,hs'.heap.os.trans hs.os,hs'.heap.tape.trans hs.tape,hs'.heap.output.trans hs.output,?_⟩
  ·intro id o ho;rcases hcls ho with ⟨hp,ho,eb⟩|⟨j,oy,hoy,rfl,rfl,_⟩
   ·rw [eb];exact (hs.obj id o ho).mono zJy hkeep yAw fun b hb=>hs'.heap.frame.block b (zDc hp ho hb).1 (zDc hp ho hb).2
   ·have hY:=Yj j oy hoy;rw [<- hhy] at hY;exact Ob.Rel.back (f:=jW ρ h.length) (v:=iX ρ h) hpl yAx hY
  ·intro id hid;rw [Lg] at hid;have hp:=yAv (i:=id) (by omega);simp only [kX,hp];rw [if_neg (by omega)];exact zVa _ (by omega)
  ·intro i j o1 o2 b h1 h2 hb1 hb2;rcases hcls h1 with ⟨hp1,ho1,eb1⟩|⟨j1,oy1,yEu,rfl,rfl,eb1⟩<;>rcases hcls h2 with ⟨hp2,ho2,eb2⟩|⟨j2,oy2,yEv,rfl,rfl,eb2⟩
   ·rw [eb1] at hb1;rw [eb2] at hb2;exact hs.jA i j o1 o2 b ho1 ho2 hb1 hb2
   ·exfalso;rw [eb1] at hb1;obtain ⟨g1,g2⟩:=zDc hp1 ho1 hb1;exact yEt yEv eb2 hb2 g1 g2
   ·exfalso;rw [eb2] at hb2;obtain ⟨g1,g2⟩:=zDc hp2 ho2 hb2;exact yEt yEu eb1 hb1 g1 g2
   ·obtain ⟨q1,hb1⟩:=hb1;obtain ⟨q2,hb2⟩:=hb2;rw [zPb j1 j2 oy1 oy2 b yEu yEv ⟨q1,eb1 b q1 hb1⟩ ⟨q2,eb2 b q2 hb2⟩]
  ·intro id o b ho hb;rcases hcls ho with ⟨hp,ho,eb⟩|⟨j,oy,hoy,rfl,rfl,eb⟩
   ·rw [eb] at hb ⊢;obtain ⟨k1,k2,k3⟩:=hs.dX id o b ho hb;exact ⟨k1,Nat.lt_of_lt_of_le k2 hs'.heap.size,k3⟩
   ·obtain ⟨q,hb⟩:=hb;obtain ⟨k1,k2,k3⟩:=Lh j oy b hoy ⟨q,eb b q hb⟩;rcases iZ b w.heap.size with hlt|hge
    ·have hold:∀ k,(oy.back (jW ρ h.length) (iX ρ h) j).wr=true->(oy.back (jW ρ h.length) (iX ρ h) j).at (kX β β' ρ h (jW ρ h.length j)) b k->∃ (i:Nat) (o:Ob),i∈ρ∧h[i]?=some o∧o.wr=true∧o.at (β i) b k:=fun k hw hk=>by
      rw [Ob.Bf] at hw;rcases k3 with k3|k3
      ·have k3:w.heap.size<=b:=k3;omega
      ·exact hown (k3 k hw (eb b k hk))
     have hwy:(oy.back (jW ρ h.length) (iX ρ h) j).wr=true:=yEs hoy;obtain ⟨i,oi,h1,h2,h3,h4⟩:=hold q hwy hb;obtain ⟨g1,g2,g3⟩:=hs.dX i oi b h2 ⟨q,h4⟩;refine ⟨g1,k2,?_⟩;rcases g3 with g3|g3
     ·exact .inl g3
     ·right;intro k hw hk;obtain ⟨i2,oi2,f1,f2,f3,f4⟩:=hold k hw hk;rcases (hs.dX i2 oi2 b f2 ⟨k,f4⟩).2.2 with g5|g5
      ·have:=hs.jA i i2 oi oi2 b h2 f2 ⟨q,h4⟩ ⟨k,f4⟩;subst this;rw [h2] at f2;simp only [aA] at f2;subst f2;exact g3 k f3 f4
      ·exact g5 k f3 f4
    ·have h0:=hs.size;exact ⟨fun _ hn=>by have:=hs.n0 b _ hn;omega,k2,.inl (by omega)⟩
  ·refine hs.frame.oH hs'.heap.frame fun b j hb ho=>?_
   obtain ⟨i,oi,h1,h2,h3,h4⟩:=hown ho;rcases (hs.dX i oi b h2 ⟨j,h4⟩).2.2 with h5|h5
   ·omega
   ·exact h5 j h3 h4
  ·intro j o hj;obtain ⟨k1,k2⟩:=hs.fixed j o hj;refine ⟨by rw [Lg];omega,fun b hb=>?_⟩;obtain ⟨k3,k4⟩:=k2 b hb;have hoj:h[j]?=some h[j]:=by simp [k1]
   rcases zJy j (hs.obj j _ hoj).live with e|⟨e,_⟩
   ·rw [e];exact ⟨k3,k4⟩
   ·rw [k4] at e;cases e
 refine ⟨kX β β' ρ h,zJy,hkeep,yAw,hHS,?_⟩;refine zPa (by have:=hs'.size;simpa using this) fun i v u hv hu=>?_
 simp only [List.getElem?_map,Option.map_eq_some_iff] at hv;obtain ⟨v0,hv0,rfl⟩:=hv;have hr:=hs'.reg i v0 hv0;have e:(us.toArray).getD i undef=u:=by
  rw [Array.getD_eq_getD_getElem?];simp [hu]
 simp only [e] at hr;exact hr.back (f:=jW ρ h.length) (v:=iX ρ h) hpl yAx
theorem yAy {l:L}(h:l.isD=true):l.ids=[]:=by
 cases l<;>first|rfl|(cases h;done)|(rename_i f cs;cases cs<;>first|rfl|cases h)
theorem zVb:∀ {ls:List L},bP L.isD ls=true->L.Xu ls=[]
 | [],_=>rfl
 | l::ls,h=>by
  simp only [bP,aD] at h;simp only [L.Xu,yAy h.1,zVb h.2,List.append_nil]
theorem zVc:∀ {vs:List V},bP V.isD vs=true->zJb vs=[]
 | [],_=>rfl
 | v::vs,h=>by
  simp only [bP,aD] at h;have h1:v.ids=[]:=by
   cases v with
   | one l=>exact yAy h.1
   | agg ls=>exact zVb h.1
   | _=>rfl
  simp only [zJb,h1,zVc h.2,List.append_nil]
theorem Ve {vs:List V}{h:List Ob}(hd:bP V.isD vs=true):reach vs h=[]:=by
 unfold reach;rw [zVc hd];rfl
theorem yAz {ρ:List Nat}{h h2:List Ob}{l:L}(hd:l.isD=true):l.ren ρ h=l.ren ρ h2:=by
 cases l<;>first|rfl|(cases hd;done)|(rename_i f cs;cases cs<;>first|rfl|cases hd)
theorem zVd {ρ:List Nat}{h h2:List Ob}:∀ {ls:List L},bP L.isD ls=true->L.Aw ρ h ls=L.Aw ρ h2 ls
 | [],_=>rfl
 | l::ls,hd=>by
  simp only [bP,aD] at hd;simp only [L.Aw,yAz (h:=h) (h2:=h2) hd.1,zVd (h:=h) (h2:=h2) hd.2]
theorem zVe {ρ:List Nat}{h h2:List Ob}:∀ {vs:List V},bP V.isD vs=true->vs.map (V.ren ρ h)=vs.map (V.ren ρ h2)
 | [],_=>rfl
 | v::vs,hd=>by
  simp only [bP,aD] at hd;have h1:V.ren ρ h v=V.ren ρ h2 v:=by
   cases v with
   | one l=>simp only [V.ren,yAz (h:=h) (h2:=h2) hd.1]
   | agg ls=>simp only [V.ren,zVd (h:=h) (h2:=h2) hd.1]
   | _=>rfl
  simp only [List.map_cons,h1,zVe (h:=h) (h2:=h2) hd.2]
theorem zFp:∀ {h:List Ob}{n:Nat},Hl (fun _=>none) n h=h
 | [],_=>rfl
 | o::r,n=>by simp only [Hl,zFp]
theorem Ws (h hy:List Ob):iC [] h hy=h++sF (jW [] h.length) (iX [] h) 0 hy:=by
 unfold iC;simp only [pos,List.length_nil,List.drop_zero,zFp]
theorem yCi {vs:List V}{h h2:List Ob}(hd:bP V.isD vs=true) (hl:h2.length=h.length) :
  (peM si so F).run vs h=(peM si so F).run vs h2∧∀ y,((peM si so F).enc y vs h).1=((peM si so F).enc y vs h2).1∧∃ os,((peM si so F).enc y vs h).2=h++os∧((peM si so F).enc y vs h2).2=h2++os:=by
 have e1:vs.map (V.ren [] h)=vs.map (V.ren [] h2):=zVe hd;have e2:iX [] h=iX [] h2:=rfl;refine ⟨?_,fun y=>⟨?_,sF (jW [] h.length) (iX [] h) 0 (so.enc y).h,?_,?_⟩⟩
 ·simp only [peM,Ve hd,e1];rfl
 ·simp only [peM,Ve hd,hl,e2]
 ·simp only [peM,Ve hd,Ws]
 ·simp only [peM,Ve hd,Ws,hl,e2]
theorem fB (hM:gM P f si so F):(peM si so F).OK P f:=by
 refine ⟨hM.1,fun vs h y hr C β w xs hP hs ha=>?_,fun h=>(by cases h),fun h=>(by cases h),fun _ vs h h2 hd hl=>yCi hd hl⟩;subst hP;simp only [peM] at hr;split at hr
 case h_2=>cases hr
 rename_i x hx;simp only [aA,aB] at hr;obtain ⟨hok,hF⟩:=hr;obtain ⟨hnd,hlt,hlen,hwr,Dp⟩:=Jz hok;have uM:=Uz hx (zJx hs ha hnd hlt);refine (hM.2 x y hF (inC C β h w _ hs) _ w xs rfl (by simp [inC,hlen]) uM).mono ?_;rintro e w' ⟨us,β',rfl,hs'⟩;obtain ⟨β2,h1,h2,h3,h4,h5⟩:=Ns hs hnd hlt hwr Dp hs';exact ⟨_,_,β2,⟨rfl,rfl⟩,h1,h2,h3,h4,_,rfl,Yi h5⟩
def zI (P:Program) (f:FuncId) (si so:Sh) (tp:TypeId) (sp:Sh) (F:si.X->Option (Sum so.X sp.X)):Prop :=
 iJ P f=true∧∀ x y,F x=some y->∀ (C:Ctx) (β:Nat->Pl) (w:World) (xs:List Value),C.P=P->C.fix.length<=si.os.length->Sim C β (si.enc x) { tmps:=xs.toArray,defers:=[] } w ->
  Calls P f xs.toArray w fun e w'=>(∃ (z:so.X) (us:List Value) (β':Nat->Pl),y=.inl z∧e=.returned (oK us)∧Sim C β' (so.enc z) { tmps:=us.toArray,defers:=[] } w') ∨
   ∃ (z:sp.X) (u:Value) (β':Nat->Pl),y=.inr z∧e=.panicked [{ v:=.iface tp u,recovered:=false }]∧Sim C β' (sp.enc z) { tmps:=#[u],defers:=[] } w'
def yIn (vs:List V):V :=
 match vs with
 | [v]=>v
 | _=>.bS
def ob2 {α γ ρ:Type}(o:Option (Sum α γ)) (k:α->Option ρ) (k':γ->Option ρ):Option ρ :=
 match o with
 | some (.inl x)=>k x
 | some (.inr x)=>k' x
 | none=>none
theorem Cq {ρ:List Nat}{h hy:List Ob}{id:Nat}(hid:id<h.length) (hn:id∉ρ):(iC ρ h hy)[id]?=h[id]?:=by
 unfold iC;have hl:∀ {g:Nat->Option Ob}{h:List Ob}{n:Nat},(Hl g n h).length=h.length:=by
  intro g h;induction h with
  | nil=>intro n;rfl
  | cons o r ih=>intro n;simp [Hl,ih]
 rw [iG (by rw [hl];exact hid),Yh,List.getElem?_eq_getElem hid];have hp:pos id ρ 0=none:=by
  cases hp:pos id ρ 0 with
  | none=>rfl
  | some j =>
   obtain ⟨m,_,hm⟩:=xU hp;exact absurd (List.mem_of_getElem? hm) hn
 simp only [Nat.zero_add,hp,Option.map_some]
def zYp {ρ:Type}(si so:Sh) (tp:TypeId) (sp:Sh) (F:si.X->Option (Sum so.X sp.X)) (vs:List V) (h:List Ob) (k:Out->List Ob->Option ρ):Option ρ :=
 match si.dec ⟨vs.map (V.ren (reach vs h) h),inH (reach vs h) h⟩ with
 | some x=>chk (Rl (reach vs h) h si so&&rF (inH (reach vs h) h) sp.os) (ob2 (F x)
   (fun y=>k (.ret (zJw ((so.enc y).r.map (V.back (jW (reach vs h) h.length) (iX (reach vs h) h))))) (iC (reach vs h) h (so.enc y).h))
   (fun z=>k (.pan tp (yIn ((sp.enc z).r.map (V.back (jW (reach vs h) h.length) (iX (reach vs h) h))))) (iC (reach vs h) h (sp.enc z).h)))
 | none=>none
theorem yCj {ρ:Type}{tp:TypeId}{sp:Sh}{F:si.X->Option (Sum so.X sp.X)}(hM:zI P f si so tp sp F) {vs:List V}{h:List Ob}{k:Out->List Ob->Option ρ}{r:ρ}(hr:zYp si so tp sp F vs h k=some r) :
  iJ P f=true∧zD P f vs h fun out h'=>k out h'=some r∧∀ id,id<h.length->id∉reach vs h->h'[id]?=h[id]?:=by
 refine ⟨hM.1,fun C β w xs hP hs ha=>?_⟩;subst hP;unfold zYp at hr;split at hr
 case h_2=>cases hr
 rename_i x hx;obtain ⟨hok,hF⟩:=gK hr;simp only [aD] at hok;obtain ⟨hnd,hlt,hlen,hwr,Dp⟩:=Jz hok.1;have uM:=Uz hx (zJx hs ha hnd hlt);cases hy:F x with
 | none=>rw [hy] at hF;cases hF
 | some y =>
  rw [hy] at hF;refine (hM.2 x y hy (inC C β h w _ hs) _ w xs rfl (by simp [inC,hlen]) uM).mono ?_;rintro e w' (⟨z,us,β',rfl,rfl,hs'⟩|⟨z,u,β',rfl,rfl,hs'⟩)
  ·obtain ⟨β2,h1,h2,h3,h4,h5⟩:=Ns hs hnd hlt hwr Dp hs';exact ⟨_,_,β2,⟨hF,fun id hid hn=>Cq hid hn⟩,h1,h2,h3,h4,_,rfl,Yi h5⟩
  ·obtain ⟨β2,h1,h2,h3,h4,h5⟩:=Ns (us:=[u]) hs hnd hlt hwr hok.2 hs';refine ⟨_,_,β2,⟨hF,fun id hid hn=>Cq hid hn⟩,h1,h2,h3,h4,u,rfl,?_⟩;cases hv:(sp.enc z).r.map (V.back (jW (reach vs h) h.length) (iX (reach vs h) h)) with
   | nil=>rw [hv] at h5;exact h5.elim
   | cons v l =>
    rw [hv] at h5;cases l with
    | nil=>exact h5.1
    | cons v2 l=>exact h5.2.elim
end
end Go.Dec
namespace Go.Dec
section
variable {T:Tab}{C:Ctx}{β:Nat->Pl}{w:World}
def zRw (T:Tab) (σ:St):ResultVar->Option (Bool × V)
 | .tmp t=>some (true,σ.r.getD t .bS)
 | .cell t ty =>
  match σ.r.getD t .bS with
  | .one l=>loadAt T σ.h ty l
  | _=>none
def Vf (T:Tab) (σ:St):List ResultVar->Option (Bool × List V)
 | []=>some (true,[])
 | x::r =>
  match zRw T σ x,Vf T σ r with
  | some (c,l),some (d,ls)=>some (c&&d,l::ls)
  | _,_=>none
theorem zYq {σ:St}{a:Act}{rv:ResultVar}{v:V}(hT:bI C.P T) (hs:Sim C β σ a w) (h:zRw T σ rv=some (true,v)) :
  ∃ x,(sD a.tmps rv).run C.P w=.ok x w∧v.Rel β w (C.N β σ.h) x:=by
 cases rv with
 | tmp t =>
  simp only [zRw,aA,aB,true_and] at h;subst h;exact ⟨a.tmps.getD t undef,rfl,Np hs t⟩
 | cell t ty =>
  simp only [zRw] at h;have hr:=Np hs t;split at h
  ·rename_i l hl;rw [hl] at hr;obtain ⟨y,h1,h2⟩:=Es hT h hs.heap hr;obtain ⟨ad,h3,h4⟩:=Jy h1;refine ⟨y,?_,h2⟩;simp only [sD,h3,asAddr,Sem.run_bind,Sem.run_pure,Result.andThen_ok,h4]
  ·cases h
theorem zFq {σ:St}{a:Act}(hT:bI C.P T) (hs:Sim C β σ a w):∀ {rs:List ResultVar}{vs:List V},Vf T σ rs=some (true,vs) ->
  ∀ acc:Array Value,∃ us:List Value,(rs.foldlM (fun (acc:Array Value) rv=>do let v <- sD a.tmps rv;pure (acc.push v)) acc).run C.P w=.ok (acc++us.toArray) w∧aW (fun v u=>V.Rel β w (C.N β σ.h) v u) vs us
 | [],vs,h,acc=>by
  simp only [Vf,aA,aB,true_and] at h;subst h;exact ⟨[],by simp,trivial⟩
 | rv::rs,vs,h,acc=>by
  simp only [Vf] at h;split at h
  ·rename_i c s d r h1 h2;simp only [aA,aB,aD] at h;obtain ⟨⟨rfl,rfl⟩,rfl⟩:=h;obtain ⟨x,g1,g2⟩:=zYq hT hs h1;obtain ⟨us,g4,g5⟩:=zFq hT hs h2 (acc.push x);refine ⟨x::us,?_,⟨g2,g5⟩⟩;simp only [List.foldlM_cons,Sem.run_bind,g1,Result.andThen_ok,Sem.run_pure,g4];simp
  ·cases h
theorem zJz {σ:St}{a:Act}{fn:Func}{vs:List V}(hT:bI C.P T) (hs:Sim C β σ a w) (h:Vf T σ fn.results.toList=some (true,vs)) :
  ∃ us:List Value,(results fn a.tmps).run C.P w=.ok (oK us) w∧aW (fun v u=>V.Rel β w (C.N β σ.h) v u) vs us:=by
 obtain ⟨us,h1,h2⟩:=zFq hT hs h #[];refine ⟨us,?_,h2⟩;have e0:results fn a.tmps=(do let vs <- fn.results.mapM (sD a.tmps);pure (if h:vs.size=1 then vs[0] else .tuple vs)):=by
  unfold results;congr 1
 have hm:(fn.results.mapM (sD a.tmps):Sem (Array Value)).run C.P w=.ok us.toArray w:=by
  rw [Array.mapM_eq_foldlM,<- Array.foldlM_toList];have e:(fun (acc:Array Value) rv=>do let v <- sD a.tmps rv;pure (acc.push v):Array Value->ResultVar->Sem (Array Value))=(fun (acc:Array Value) rv=>acc.push <$> sD a.tmps rv):=by
   funext acc rv;rfl
  rw [e] at h1;simpa using h1
 rw [e0];simp only [Sem.run_bind,hm,Result.andThen_ok,Sem.run_pure];match us with
 | []=>rfl
 | [u]=>rfl
 | u::v::us=>simp [oK]
theorem zKa {σ:St}{a:Act}{vs:List V}{us:List Value}(hs:Sim C β σ a w) (h:aW (fun v u=>V.Rel β w (C.N β σ.h) v u) vs us):Sim C β ⟨vs,σ.h⟩ { tmps:=us.toArray,defers:=[] } w:=by
 refine ⟨hs.heap,rfl,by simpa using h.length,fun i v hv=>?_⟩;have hl:i<us.length:=by rw [<- h.length];exact (bG.1 hv).1
 have hr:=h.get i (bG.1 hv).1 hl;rw [(bG.1 hv).2] at hr;have e2:(us.toArray).getD i undef=us[i]:=by simp [hl]
 simp only [e2];exact hr
def Ro (T:Tab) {ρ:Type}(res:List ResultVar) (so:Sh) (co:List Co) (σ:St) (g:so.X->Option ρ):Option ρ :=
 match Vf T σ res with
 | some (c,vs)=>chk c (enter T so co ⟨vs,σ.h⟩ g)
 | none=>none
def zRx (T:Tab) (res:List ResultVar) (so:Sh) (co:List Co):K so.X:=fun e σ =>
 match e with
 | .normal=>Ro T res so co σ some
 | .ret=>Ro T res so co σ some
 | _=>none
def zRy (T:Tab) (res:List ResultVar) (so:Sh) (co:List Co) (tp:TypeId) (sp:Sh) (cp:List Co):K (Sum so.X sp.X):=fun e σ =>
 match e with
 | .normal=>Ro T res so co σ fun y=>some (.inl y)
 | .ret=>Ro T res so co σ fun y=>some (.inl y)
 | .pan t v=>match Nat.beq t tp with
  | true=>enter T sp cp ⟨[v],σ.h⟩ fun z=>some (.inr z)
  | false=>none
 | _=>none
theorem zKb {σ:St}{a:Act}{fn:Func}{so:Sh}{co:List Co}{ρ:Type}{g:so.X->Option ρ}{r:ρ}{kf:Nat}(hT:bI C.P T) (hkf:C.fix.length<=kf) (hfx:bP (Co.fx kf) co=true) (hs:Sim C β σ a w) (h:Ro T fn.results.toList so co σ g=some r) :
  ∃ (us:List Value) (β':Nat->Pl) (y:so.X),(results fn a.tmps).run C.P w=.ok (oK us) w∧Sim C β' (so.enc y) { tmps:=us.toArray,defers:=[] } w∧g y=some r:=by
 unfold Ro at h;split at h
 ·rename_i c vs hvs;obtain ⟨rfl,h⟩:=gK h;obtain ⟨us,h1,h2⟩:=zJz hT hs hvs;obtain ⟨β',_,y,h3,h4⟩:=yJ hT hkf hfx h (zKa hs h2);exact ⟨us,β',y,h1,h3,h4⟩
 ·cases h
end
section
variable {P:Program}{T:Tab}{f:FuncId}{fn:Func}{c:Code}{si so sp:Sh}
theorem zFr {C:Ctx}{β:Nat->Pl}{w:World}{σ:St}{xs:List Value}(n:Nat) (hs:Sim C β σ { tmps:=xs.toArray,defers:=[] } w) :
  Sim C β ⟨Fp σ.r n,σ.h⟩ { tmps:=xs.toArray++Array.replicate (n-xs.toArray.size) undef,defers:=[] } w:=by
 have hl:σ.r.length=xs.length:=by simpa using hs.size
 refine ⟨hs.heap,rfl,by simp [Fp,hl],fun i u hu=>?_⟩;simp only [Fp] at hu;by_cases hi:i<σ.r.length
 ·rw [iG hi] at hu;have hr:=hs.reg i u hu;have e:(xs.toArray++Array.replicate (n-xs.toArray.size) undef).getD i undef=(xs.toArray).getD i undef:=by
   rw [Array.getD_eq_getD_getElem?,Array.getD_eq_getD_getElem?,Array.getElem?_append_left (by simpa using by omega)]
  rw [e];exact hr
 ·rw [List.getElem?_append_right (by omega),List.getElem?_replicate] at hu;split at hu
  ·simp only [aA] at hu;subst hu;trivial
  ·cases hu
theorem gP {F:si.X->Option so.X}{Γ:Orc so.X}{an:An so.X}{co:List Co}(hf:P.funcs[f]?=some fn) (hb:fn.body=some c) (hh:iJ P f=true) (hT:bI P T) (hΓ:jM P Γ) (hm:P.follows .mixedOrders=true)
  (ha:zDi P si.os.length c an) (hfx:an.fx si.os.length=true) (hco:bP (Co.fx si.os.length) co=true)
  (h:∀ x,ev Γ T c an ⟨Fp (si.enc x).r fn.ntmps,(si.enc x).h⟩ (zRx T fn.results.toList so co)=F x):gM P f si so F:=by
 refine ⟨hh,fun x y hF C β w xs hP hkf hs=>?_⟩;rw [<- h x] at hF;refine calls_of_wp hf hb ?_;refine Yf (P:=P) hT hΓ hm c an ha hfx _ _ y hF C β _ w _ hP hkf (zFr fn.ntmps hs) ?_;intro e x' σ' β' a' w' hs' hx' hk;have fin:Ro T fn.results.toList so co σ' some=some y->x'=.ret∨x'=.normal->bodyPost P fn (fun e w'=>∃ (us:List Value) (β':Nat->Pl),e=.returned (oK us)∧Sim C β' (so.enc y) { tmps:=us.toArray,defers:=[] } w') x' a' w':=by
  intro hk hx';subst hP;obtain ⟨us,β2,y',h1,h2,h3⟩:=zKb (fn:=fn) hT hkf hco hs' hk;obtain rfl:=Option.some.inj h3;rcases hx' with rfl|rfl
  ·exact ⟨hs'.defers,_,h1,us,β2,rfl,h2⟩
  ·exact ⟨hs'.defers,_,h1,us,β2,rfl,h2⟩
 cases e with
 | normal=>obtain rfl:=hx';exact fin hk (.inr rfl)
 | ret=>obtain rfl:=hx';exact fin hk (.inl rfl)
 | exit i=>simp [zRx] at hk
 | goto l=>simp [zRx] at hk
 | pan t u=>simp [zRx] at hk
theorem Rp {tp:TypeId}{F:si.X->Option (Sum so.X sp.X)}{Γ:Orc (Sum so.X sp.X)}{an:An (Sum so.X sp.X)}{co cp:List Co}(hf:P.funcs[f]?=some fn) (hb:fn.body=some c) (hh:iJ P f=true) (hT:bI P T) (hΓ:jM P Γ) (hm:P.follows .mixedOrders=true)
  (ha:zDi P si.os.length c an) (hfx:an.fx si.os.length=true) (hco:bP (Co.fx si.os.length) co=true) (hcp:bP (Co.fx si.os.length) cp=true)
  (h:∀ x,ev Γ T c an ⟨Fp (si.enc x).r fn.ntmps,(si.enc x).h⟩ (zRy T fn.results.toList so co tp sp cp)=F x):zI P f si so tp sp F:=by
 refine ⟨hh,fun x y hF C β w xs hP hkf hs=>?_⟩;rw [<- h x] at hF;refine calls_of_wp hf hb ?_;refine Yf (P:=P) hT hΓ hm c an ha hfx _ _ y hF C β _ w _ hP hkf (zFr fn.ntmps hs) ?_;intro e x' σ' β' a' w' hs' hx' hk;subst hP;have fin:(Ro T fn.results.toList so co σ' fun y=>some (.inl y))=some y->x'=.ret∨x'=.normal->bodyPost C.P fn (fun e w'=>(∃ (z:so.X) (us:List Value) (β':Nat->Pl),y=.inl z∧e=.returned (oK us)∧Sim C β' (so.enc z) { tmps:=us.toArray,defers:=[] } w') ∨
   ∃ (z:sp.X) (u:Value) (β':Nat->Pl),y=.inr z∧e=.panicked [{ v:=.iface tp u,recovered:=false }]∧Sim C β' (sp.enc z) { tmps:=#[u],defers:=[] } w') x' a' w':=by
  intro hk hx';obtain ⟨us,β2,y',h1,h2,h3⟩:=zKb (fn:=fn) hT hkf hco hs' hk;obtain rfl:=Option.some.inj h3;rcases hx' with rfl|rfl
  ·exact ⟨hs'.defers,_,h1,.inl ⟨y',us,β2,rfl,rfl,h2⟩⟩
  ·exact ⟨hs'.defers,_,h1,.inl ⟨y',us,β2,rfl,rfl,h2⟩⟩
 cases e with
 | normal=>obtain rfl:=hx';exact fin hk (.inr rfl)
 | ret=>obtain rfl:=hx';exact fin hk (.inl rfl)
 | exit i=>simp [zRy] at hk
 | goto l=>simp [zRy] at hk
 | pan t u =>
  simp only [zRy] at hk;split at hk
  ·rename_i hb;have:=aM hb;subst this;obtain ⟨x0,rfl,hx0⟩:=hx';obtain ⟨β2,_,z,h3,h4⟩:=yJ hT hkf hcp hk (zKa (vs:=[u]) (us:=[x0]) hs' ⟨hx0,trivial⟩);obtain rfl:=Option.some.inj h4;exact ⟨hs'.defers,.inr ⟨z,x0,β2,rfl,rfl,h3⟩⟩
  ·cases hk
structure GE (ρ:Type) where
 f:FuncId
 run:List V->List Ob->(Out->List Ob->Option ρ)->Option ρ
 ids:List V->List Ob->List Nat:=reach
structure GE.OK (P:Program) {ρ:Type}(g:GE ρ):Prop where
 ok:∀ vs h k r,g.run vs h k=some r->iJ P g.f=true∧zD P g.f vs h fun out h'=>k out h'=some r∧∀ id,id<h.length->id∉g.ids vs h->h'[id]?=h[id]?
def zYr {ρ:Type}:List (GE ρ)->FuncId->List V->List Ob->(Out->List Ob->Option ρ)->Option ρ
 | [],_,_,_,_=>none
 | g::r,f,vs,h,k=>match Nat.beq g.f f with
  | true=>g.run vs h k
  | false=>zYr r f vs h k
def zRz {ρ:Type}:List (GE ρ)->FuncId->List V->List Ob->List Nat
 | [],_,vs,h=>reach vs h
 | g::r,f,vs,h=>match Nat.beq g.f f with
  | true=>g.ids vs h
  | false=>zRz r f vs h
def dP (ρ:Type) (l:List (FuncId×PE)) (m:List (GE ρ)):Orc ρ:=⟨pes l,zYr m,zRz m⟩
theorem bC {ρ:Type}{l:List (FuncId × PE)}{m:List (GE ρ)}(h:∀ p∈l,p.2.OK P p.1) (hm:∀ g∈m,g.OK P):jM P (dP ρ l m):=by
 refine ⟨(yEq (ρ:=ρ) h).pure,fun f vs hp k r hr=>?_⟩;simp only [dP] at hr;induction m with
 | nil=>cases hr
 | cons g m ih =>
  simp only [zYr] at hr;split at hr
  ·rename_i hb;simp only [dP,zRz,hb];have:=aM hb;subst this;exact (hm g (.head _)).ok vs hp k r hr
  ·rename_i hb;simp only [dP,zRz,hb];exact ih (fun g hg=>hm g (.tail _ hg)) hr
def geP {ρ:Type} (f:FuncId) (si so:Sh) (tp:TypeId) (sp:Sh) (F:si.X->Option (Sum so.X sp.X)):GE ρ := { f:=f,run:=zYp si so tp sp F }
theorem Rq {ρ:Type}{tp:TypeId}{F:si.X->Option (Sum so.X sp.X)}(h:zI P f si so tp sp F):(geP (ρ:=ρ) f si so tp sp F).OK P:=⟨fun _ _ _ _ hr=>yCj h hr⟩
theorem bD {ρ:Type}:∀ g∈([]:List (GE ρ)),g.OK P:=fun _ h=>by cases h
theorem dI {ρ:Type}{g:GE ρ}{m:List (GE ρ)}(h:g.OK P) (hm:∀ g∈m,g.OK P):∀ x∈g::m,x.OK P:=fun x hx=>by
 cases hx with
 | head=>exact h
 | tail _ hx=>exact hm x hx
end
def zYs {α ρ:Type} (B:Nat->(α->Option ρ)->α->Option ρ):Nat->α->Option ρ | 0,_=>none | n+1,x=>B n (zYs B n) x
theorem zYt {P:Program}{f:FuncId}{si so:Sh}(hh:iJ P f=true):gM P f si so (fun _=>none):=⟨hh,fun _ _ h=>by cases h⟩
theorem zFs {P:Program}{f:FuncId}{si so:Sh}{B:Nat->(si.X->Option so.X)->si.X->Option so.X}(hh:iJ P f=true) (h:∀ n r,gM P f si so r->gM P f si so (B n r)):∀ n,gM P f si so (zYs B n)
 | 0=>zYt hh
 | n+1=>h n _ (zFs hh h n)
end Go.Dec
