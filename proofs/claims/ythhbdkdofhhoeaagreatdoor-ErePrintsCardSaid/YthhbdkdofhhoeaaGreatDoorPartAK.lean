/- Part of a proof over this seat: a library of my own, and what it says of this seat. No statement is proved here. -/
import Derived.Test.YthhbdkdofhhoeaaGreatDoorPartAJ
namespace Go.Dec
mutual
def L.back (f v:Nat->Nat):L->L | .ptr id o => .ptr (f id) o | .iR id o => .iR (f id) o | .nT id o es i sub => .nT (f id) o es i sub | .iG id u i o => .iG (f id) (u+v id) i o | .sl id u i n => .sl (f id) (u+v id) i n | .own id u => .own (f id) (u+v id) | .clo g caps => .clo g (L.backs f v caps) | .mp id => .mp (f id) | l=>l
def L.backs (f v:Nat->Nat):List L->List L | []=>[] | l :: ls=>l.back f v :: L.backs f v ls
end
def V.back (f v:Nat->Nat):V->V | .one l => .one (l.back f v) | .agg ls => .agg (L.backs f v ls) | _ => .dB
def Ob.back (f v:Nat->Nat) (id:Nat):Ob->Ob | .box e ls => .box e (L.backs f v ls) | .arr e t u rows wr => .arr e t (u+v id) rows wr | .fm tab => .fm tab | .dm kt vt es => .dm kt vt es | .stk e ei u rows top => .stk e ei (u+v id) rows (top.map (L.backs f v))
section
variable {β β':Nat->Pl}{w:World}{N N':Nat->Nat->Prop}
structure Zx (p q:Pl) (v:Nat):Prop where
 live:q.live=p.live
 box:q.box=p.box
 blk:q.blk=p.blk
 row:p.box=false->q.ver=p.ver+v/\q.size=p.size/\q.cap=p.cap/\q.len=p.len
 sub:p.box=false->q.sub=p.sub
theorem Zx.yOr{p q:Pl}{v:Nat}(h:Zx p q v)(hb:p.box=false){off len:Nat}{c:Value}:eD q off len c<->eD p off len c:=by
 obtain⟨_,h2,h3,_⟩:=h.row hb;unfold eD;rw[h.blk,h2,h3]
mutual
theorem L.Rel.back{f v:Nat->Nat}(hβ:∀ j,(β j).live=true->Zx (β j) (β' (f j)) (v j))(hN:∀ b j,b<w.heap.size->N' b j->N b j):∀ {l:L}{cs:List Value},l.Rel β w N cs->(l.back f v).Rel β' w N' cs
 |.val t x,cs,h=>by simp only[L.back,L.Rel]at *;exact Ty.Rel.mono (Keep.refl _ w) hN h
 |.ptr id off,cs,h=>by
  simp only[L.back,L.Rel]at *;obtain⟨h1,h2,h3⟩:=h;have:=hβ id h1;exact⟨this.live ▸ h1,this.box ▸ h2,by rw[this.blk];exact h3⟩
 |.nT id off es i sub,cs,h=>by
  simp only[L.back,L.Rel]at *;obtain⟨h1,h2,h3⟩:=h;have:=hβ id h1;exact⟨this.live ▸ h1,this.box ▸ h2,by rw[this.blk];exact h3⟩
 |.mZ,cs,h=>by simp only[L.back,L.Rel]at *;exact h
 |.iR id off,cs,h=>by
  simp only[L.back,L.Rel]at *;obtain⟨c,e,h⟩:=h;refine⟨c,e,?_⟩;rcases h with h|⟨h1,h2,h3⟩
  ·exact .inl h
  ·have:=hβ id h1;exact .inr ⟨this.live ▸ h1,this.box ▸ h2,by rw[this.blk];exact h3⟩
 |.iG id u i off,cs,h=>by
  simp only[L.back,L.Rel]at *;obtain⟨h1,h2,h3,c,h4,h5,h6⟩:=h;have:=hβ id h1;obtain⟨g1,g2,g3,g4⟩:=this.row h2;refine⟨this.live ▸ h1,this.box ▸ h2,by omega,c,h4,h5,λhv=>?_⟩;rw[this.blk,g2];exact h6 (by omega)
 |.nA t x off,cs,h=>by simp only[L.back,L.Rel]at *;obtain⟨c,hc,hr⟩:=h;exact⟨c,hc,hr.mono (Keep.refl _ w) hN⟩
 |.sl id u off len,cs,h=>by
  simp only[L.back,L.Rel]at *;obtain⟨h1,h2,h3,c,h4,h5,h6⟩:=h;have:=hβ id h1;obtain⟨g1,g2,g3,g4⟩:=this.row h2;exact⟨this.live ▸ h1,this.box ▸ h2,by omega,c,h4,h5,λhv=>(this.yOr h2).2 (h6 (by omega))⟩
 |.own id u,cs,h=>by
  simp only[L.back,L.Rel]at *;obtain⟨h1,h2,h3,c,h4,h5,h6⟩:=h;have:=hβ id h1;obtain⟨g1,g2,g3,g4⟩:=this.row h2;exact⟨this.live ▸ h1,this.box ▸ h2,by omega,c,h4,h5,λhv=>by rw[g4];exact(this.yOr h2).2 (h6 (by omega))⟩
 |.dQ,cs,h=>by simp only[L.back,L.Rel]at *;exact h
 |.clo g caps,cs,h=>by
  simp only[L.back,L.Rel]at *;obtain⟨us,hc,hr⟩:=h;exact⟨us,hc,L.eG.back hβ hN hr⟩
 |.bad n,cs,h=>by simp only[L.back,L.Rel]at *;exact h
 |.Kq x tab,cs,h=>by simp only[L.back,L.Rel]at *;exact h
 |.mp id,cs,h=>by
  simp only[L.back,L.Rel]at *;obtain⟨h1,h2,h3⟩:=h;have:=hβ id h1;exact⟨this.live ▸ h1,this.box ▸ h2,by rw[this.blk];exact h3⟩
theorem L.eG.back{f v:Nat->Nat}(hβ:∀ j,(β j).live=true->Zx (β j) (β' (f j)) (v j))(hN:∀ b j,b<w.heap.size->N' b j->N b j):∀ {ls:List L}{us:List Value},L.eG β w N ls us->L.eG β' w N' (L.backs f v ls) us
 |[],us,h=>by simp only[L.backs,L.eG]at *;exact h
 |l::ls,us,h=>by
  simp only[L.backs,L.eG]at *;obtain⟨u,r,e,h1,h2⟩:=h;exact⟨u,r,e,L.Rel.back hβ hN h1,L.eG.back hβ hN h2⟩
end
theorem aN.back{f v:Nat->Nat}(hβ:∀ j,(β j).live=true->Zx (β j) (β' (f j)) (v j))(hN:∀ b j,b<w.heap.size->N' b j->N b j):∀ {ls:List L}{cs:List Value},aN β w N ls cs->aN β' w N' (L.backs f v ls) cs
 |[],_,h=>h
 |_l::_ls,_,⟨c1,c2,e,h1,h2⟩=>⟨c1,c2,e,h1.back hβ hN,aN.back hβ hN h2⟩
theorem V.Rel.back{f v:Nat->Nat}(hβ:∀ j,(β j).live=true->Zx (β j) (β' (f j)) (v j))(hN:∀ b j,b<w.heap.size->N' b j->N b j){x:V}{u:Value}(h:x.Rel β w N u):(x.back f v).Rel β' w N' u:=by
 cases x with
 |one l=>exact L.Rel.back hβ hN h
 |agg ls=>obtain⟨cs,e,h⟩:=h;exact⟨cs,e,h.back hβ hN⟩
 |_=>trivial
theorem Ob.Rel.back{f v:Nat->Nat}(hβ:∀ j,(β j).live=true->Zx (β j) (β' (f j)) (v j))(hN:∀ b j,b<w.heap.size->N' b j->N b j){id:Nat}{o:Ob}(h:o.Rel β w N (β id)):(o.back f v id).Rel β' w N' (β' (f id)):=by
 cases o with
 |box e ls =>
  simp only[Ob.back,Ob.Rel]at *;obtain⟨h1,h2,b,cs,h3,h4,h5⟩:=h;have:=hβ id h1;exact⟨this.live ▸ h1,this.box ▸ h2,b,cs,this.blk ▸ h3,h4.back hβ hN,h5⟩
 |arr e t u rows wr =>
  simp only[Ob.back,Ob.Rel]at *;obtain⟨h1,h2,h3,h4,h5,h6,h7⟩:=h;have:=hβ id h1;obtain⟨g1,g2,g3,g4⟩:=this.row h2;refine⟨this.live ▸ h1,this.box ▸ h2,by omega,by rw[g2,h4],h5,by rw[g4,h6],?_⟩;rw[this.blk,g3];rcases h7 with h7|⟨b,cur,css,k1,k2,k3,k4⟩
  ·exact .inl h7
  ·exact .inr ⟨b,cur,css,k1,k2,k3.mono λ_ _ h=>h.mono (Keep.refl _ w) hN,k4⟩
 |fm tab =>
  simp only[Ob.back,Ob.Rel]at *;obtain⟨h1,h2,b,es,n,h3,h4⟩:=h;have:=hβ id h1;exact⟨this.live ▸ h1,this.box ▸ h2,b,es,n,this.blk ▸ h3,h4⟩
 |dm kt vt es =>
  simp only[Ob.back,Ob.Rel]at *;obtain⟨h1,h2,b,ms,h3,h4,h5⟩:=h;have:=hβ id h1;exact⟨this.live ▸ h1,this.box ▸ h2,b,ms,this.blk ▸ h3,h4,h5.mono (Keep.refl _ w) hN⟩
 |stk e ei u rows top =>
  simp only[Ob.back,Ob.Rel]at *;obtain⟨h1,h2,h3,h4,h5,b,cur,cs,cs2,bs,k1,k2,k3,k4,k5,k6,k7,k8,k9,k10,k11⟩:=h;have:=hβ id h1;obtain⟨g1,g2,g3,g4⟩:=this.row h2;exact⟨this.live ▸ h1,this.box ▸ h2,by omega,by rw[g2,h4],by rw[g4,h5,Vm],b,cur,cs,cs2,bs,this.blk ▸ k1,k2,by rw[g3];exact k3,by rw[g3,g4];exact k4,by rw[g3];exact k5,by rw[this.sub h2];exact k6,k7,k8,k9,k10.imp _ λls cs _ hl=>hl.back hβ hN,by rw[g4];exact k11⟩
end
def iW(P:Program)(f:FuncId)(si so:Sh)(F:si.X->Option so.X):Prop :=
 iQ P f=true/\∀ x y,F x=some y->∀ (C:Ctx) (β:Nat->Pl) (w:World) (xs:List Value),C.P=P->C.fix.length<=si.os.length->Sim C β (si.enc x) { tmps:=xs.toArray,defers:=[] } w ->
  Calls P f xs.toArray w λe w'=>∃ (us:List Value) (β':Nat->Pl),e=.returned (qM us)/\Sim C β' (so.enc y) { tmps:=us.toArray,defers:=[] } w'
def zJz:List V->Option (List (Sum L (List L)))
 |[]=>some []
 |v::r=>match v.sum,zJz r with
  |some s,some ss=>some (s::ss)
  |_,_=>none
def zVj(vs:List V):V :=
 match zJz vs with
 |some ss=>yLx ss
 |none=>.dB
def Oj(g:Nat->Option Ob):Nat->List Ob->List Ob
 |_,[]=>[]
 |i,o::r=>(match g i with|some o'=>o'|none=>o)::Oj g (i+1) r
def vL (f v:Nat->Nat):Nat->List Ob->List Ob | _,[]=>[] | j,o :: r=>o.back f v j :: vL f v (j+1) r
def uL:List Ob->List OS->Bool | [],_=>true | .box .. :: r,_ :: s=>uL r s | .fm .. :: r,_ :: s=>uL r s | .dm .. :: r,_ :: s=>uL r s | .arr .. :: r,.row .. :: s=>uL r s | .stk .. :: r,.stk .. :: s=>uL r s | _,_=>false
def lQ(ρ:List Nat)(n:Nat)(j:Nat):Nat:=match ρ[j]? with|some i=>i|none=>n+(j-ρ.length)
def jW(ρ:List Nat)(h:List Ob)(j:Nat):Nat:=match ρ[j]? with
 |some i=>(match h[i]? with|some (.arr _ _ u _ _)=>u+1|some (.stk _ _ u _ _)=>u+1|_=>0)
 |none=>0
def jD(ρ:List Nat)(h hy:List Ob):List Ob :=
 Oj (λi=>match pos i ρ 0 with|some j=>(match hy[j]? with|some o=>some (o.back (lQ ρ h.length) (jW ρ h) j)|none=>none)|none=>none) 0 h++vL (lQ ρ h.length) (jW ρ h) ρ.length (hy.drop ρ.length)
def Zy (ρ:List Nat) (h:List Ob) (si so:Sh):Bool :=nodupB ρ&&(cK (fun i=>Nat.blt i h.length) ρ&&(Nat.beq ρ.length si.os.length&&(cK Ob.wr (inH ρ h)&&uL (inH ρ h) so.os)))
def peM(si so:Sh)(F:si.X->Option so.X):PE where
 R:=so.X
 use:=3
 run vs h:=match si.dec ⟨vs.map (V.ren (reach vs h) h),inH (reach vs h) h⟩with
  |some x=>some (Zy (reach vs h) h si so,F x)
  |none=>none
 enc y vs h:=(zVj ((so.enc y).r.map (V.back (lQ (reach vs h) h.length) (jW (reach vs h) h))),jD (reach vs h) h (so.enc y).h)
theorem zHb{g:Nat->Option Ob}:∀ {h:List Ob}{n i:Nat},(Oj g n h)[i]?=(h[i]?).map λo=>(match g (n+i) with|some o'=>o'|none=>o)
 |[],n,i=>by simp[Oj]
 |o::r,n,0=>by simp[Oj]
 |o::r,n,i+1=>by
  simp only[Oj,List.getElem?_cons_succ];rw[zHb (h:=r),show n+1+i=n+(i+1)by omega]
theorem Ap{g:Nat->Option Ob}:∀ {h:List Ob}{n:Nat},(Oj g n h).length=h.length
 |[],_=>rfl
 |_::r,n=>congrArg (· + 1) (Ap (h:=r) (n:=n+1))
theorem Zz{f v:Nat->Nat}:∀ {h:List Ob}{n i:Nat},(vL f v n h)[i]?=(h[i]?).map λo=>o.back f v (n+i)
 |[],n,i=>by simp[vL]
 |o::r,n,0=>by simp[vL]
 |o::r,n,i+1=>by
  simp only[vL,List.getElem?_cons_succ];rw[Zz (h:=r),show n+1+i=n+(i+1)by omega]
theorem Qx{f v:Nat->Nat}:∀ {h:List Ob}{n:Nat},(vL f v n h).length=h.length
 |[],_=>rfl
 |_::r,n=>congrArg (· + 1) (Qx (h:=r) (n:=n+1))
theorem Ob.zAa{f v:Nat->Nat}{j:Nat}(o:Ob):(o.back f v j).oM=o.oM:=by cases o<;>rfl
theorem Ob.Hf{f v:Nat->Nat}{j:Nat}(o:Ob):(o.back f v j).wr=o.wr:=by cases o<;>rfl
theorem wR:∀ {hc:List Ob}{os:List OS}{j:Nat}{e:TypeId}{t:Ty}{u:Nat}{rows:List t.den}{wr:Bool},uL hc os=true->hc[j]?=some (.arr e t u rows wr)->∃ e' t',os[j]?=some (.row e' t')
 |[],_,j,_,_,_,_,_,_,h=>by simp at h
 |.box .. :: r,[],j,_,_,_,_,_,hk,_=>by cases hk
 |.box .. :: r,s::os,0,_,_,_,_,_,_,h=>by simp at h
 |.box .. :: r,s::os,j+1,_,_,_,_,_,hk,h=>by
  obtain⟨e',t',h'⟩:=wR (hc:=r) (os:=os) (j:=j) hk (by simpa using h);exact⟨e',t',by simpa using h'⟩
 |.fm .. :: r,[],j,_,_,_,_,_,hk,_=>by cases hk
 |.fm .. :: r,s::os,0,_,_,_,_,_,_,h=>by simp at h
 |.fm .. :: r,s::os,j+1,_,_,_,_,_,hk,h=>by
  obtain⟨e',t',h'⟩:=wR (hc:=r) (os:=os) (j:=j) hk (by simpa using h);exact⟨e',t',by simpa using h'⟩
 |.dm .. :: r,[],j,_,_,_,_,_,hk,_=>by cases hk
 |.dm .. :: r,s::os,0,_,_,_,_,_,_,h=>by simp at h
 |.dm .. :: r,s::os,j+1,_,_,_,_,_,hk,h=>by
  obtain⟨e',t',h'⟩:=wR (hc:=r) (os:=os) (j:=j) hk (by simpa using h);exact⟨e',t',by simpa using h'⟩
 |.stk .. :: r,[],j,_,_,_,_,_,hk,_=>by cases hk
 |.stk .. :: r,.box .. :: os,j,_,_,_,_,_,hk,_=>by cases hk
 |.stk .. :: r,.row .. :: os,j,_,_,_,_,_,hk,_=>by cases hk
 |.stk .. :: r,.fm .. :: os,j,_,_,_,_,_,hk,_=>by cases hk
 |.stk .. :: r,.dm .. :: os,j,_,_,_,_,_,hk,_=>by cases hk
 |.stk .. :: r,.stk .. :: os,0,_,_,_,_,_,_,h=>by simp at h
 |.stk .. :: r,.stk .. :: os,j+1,_,_,_,_,_,hk,h=>by
  obtain⟨e',t',h'⟩:=wR (hc:=r) (os:=os) (j:=j) hk (by simpa using h);exact⟨e',t',by simpa using h'⟩
 |.arr .. :: r,.stk .. :: os,j,_,_,_,_,_,hk,_=>by cases hk
 |.arr .. :: r,.fm .. :: os,j,_,_,_,_,_,hk,_=>by cases hk
 |.arr .. :: r,.dm .. :: os,j,_,_,_,_,_,hk,_=>by cases hk
 |.arr .. :: r,[],j,_,_,_,_,_,hk,_=>by cases hk
 |.arr .. :: r,.box .. :: os,j,_,_,_,_,_,hk,_=>by cases hk
 |.arr .. :: r,.row e t::os,0,_,_,_,_,_,_,_=>⟨e,t,rfl⟩
 |.arr .. :: r,.row e t::os,j+1,_,_,_,_,_,hk,h=>by
  obtain⟨e',t',h'⟩:=wR (hc:=r) (os:=os) (j:=j) hk (by simpa using h);exact⟨e',t',by simpa using h'⟩
theorem Dj{A:Type}:∀ {os:List OS}{x:OTs os A}{j:Nat}{e:TypeId}{t:Ty},os[j]?=some (.row e t)->∃ rows,(fK os x).1[j]?=some (.arr e t 0 rows true)
 |[],_,j,_,_,h=>by simp at h
 |.box e0 ls::r,x,0,_,_,h=>by simp at h
 |.box e0 ls::r,x,j+1,e,t,h=>by
  obtain⟨rows,h'⟩:=Dj (os:=r) (x:=(fF ls x).2) (j:=j) (by simpa using h);exact⟨rows,by simpa [fK]using h'⟩
 |.fm tab::r,x,0,_,_,h=>by simp at h
 |.fm tab::r,x,j+1,e,t,h=>by
  obtain⟨rows,h'⟩:=Dj (os:=r) (x:=x) (j:=j) (by simpa using h);exact⟨rows,by simpa [fK]using h'⟩
 |.dm kt vt::r,x,0,_,_,h=>by simp at h
 |.dm kt vt::r,x,j+1,e,t,h=>by
  obtain⟨rows,h'⟩:=Dj (os:=r) (x:=x.2) (j:=j) (by simpa using h);exact⟨rows,by simpa [fK]using h'⟩
 |.stk e0 ei::r,x,0,_,_,h=>by simp at h
 |.stk e0 ei::r,x,j+1,e,t,h=>by
  obtain⟨rows,h'⟩:=Dj (os:=r) (x:=x.2) (j:=j) (by simpa using h);exact⟨rows,by simpa [fK]using h'⟩
 |.row e0 t0::r,x,0,e,t,h=>by
  simp only[List.getElem?_cons_zero,aA,OS.row.injEq]at h;obtain⟨rfl,rfl⟩:=h;exact⟨x.1,rfl⟩
 |.row e0 t0::r,x,j+1,e,t,h=>by
  obtain⟨rows,h'⟩:=Dj (os:=r) (x:=x.2) (j:=j) (by simpa using h);exact⟨rows,by simpa [fK]using h'⟩
theorem wS:∀ {hc:List Ob}{os:List OS}{j:Nat}{e ei:TypeId}{u:Nat}{rows:List (Int × Int × List Int × List Int × Unit)}{top:Option (List L)},uL hc os=true->hc[j]?=some (.stk e ei u rows top)->∃ e' ei',os[j]?=some (.stk e' ei')
 |[],_,j,_,_,_,_,_,_,h=>by simp at h
 |.box .. :: r,[],j,_,_,_,_,_,hk,_=>by cases hk
 |.box .. :: r,s::os,0,_,_,_,_,_,_,h=>by simp at h
 |.box .. :: r,s::os,j+1,_,_,_,_,_,hk,h=>by
  obtain⟨e',t',h'⟩:=wS (hc:=r) (os:=os) (j:=j) hk (by simpa using h);exact⟨e',t',by simpa using h'⟩
 |.fm .. :: r,[],j,_,_,_,_,_,hk,_=>by cases hk
 |.fm .. :: r,s::os,0,_,_,_,_,_,_,h=>by simp at h
 |.fm .. :: r,s::os,j+1,_,_,_,_,_,hk,h=>by
  obtain⟨e',t',h'⟩:=wS (hc:=r) (os:=os) (j:=j) hk (by simpa using h);exact⟨e',t',by simpa using h'⟩
 |.dm .. :: r,[],j,_,_,_,_,_,hk,_=>by cases hk
 |.dm .. :: r,s::os,0,_,_,_,_,_,_,h=>by simp at h
 |.dm .. :: r,s::os,j+1,_,_,_,_,_,hk,h=>by
  obtain⟨e',t',h'⟩:=wS (hc:=r) (os:=os) (j:=j) hk (by simpa using h);exact⟨e',t',by simpa using h'⟩
 |.arr .. :: r,[],j,_,_,_,_,_,hk,_=>by cases hk
 |.arr .. :: r,.box .. :: os,j,_,_,_,_,_,hk,_=>by cases hk
 |.arr .. :: r,.fm .. :: os,j,_,_,_,_,_,hk,_=>by cases hk
 |.arr .. :: r,.dm .. :: os,j,_,_,_,_,_,hk,_=>by cases hk
 |.arr .. :: r,.stk .. :: os,j,_,_,_,_,_,hk,_=>by cases hk
 |.stk .. :: r,[],j,_,_,_,_,_,hk,_=>by cases hk
 |.stk .. :: r,.box .. :: os,j,_,_,_,_,_,hk,_=>by cases hk
 |.stk .. :: r,.row .. :: os,j,_,_,_,_,_,hk,_=>by cases hk
 |.stk .. :: r,.fm .. :: os,j,_,_,_,_,_,hk,_=>by cases hk
 |.stk .. :: r,.dm .. :: os,j,_,_,_,_,_,hk,_=>by cases hk
 |.arr .. :: r,.row .. :: os,0,_,_,_,_,_,_,h=>by simp at h
 |.arr .. :: r,.row .. :: os,j+1,_,_,_,_,_,hk,h=>by
  obtain⟨e',t',h'⟩:=wS (hc:=r) (os:=os) (j:=j) hk (by simpa using h);exact⟨e',t',by simpa using h'⟩
 |.stk .. :: r,.stk e ei::os,0,_,_,_,_,_,_,_=>⟨e,ei,rfl⟩
 |.stk .. :: r,.stk .. :: os,j+1,_,_,_,_,_,hk,h=>by
  obtain⟨e',t',h'⟩:=wS (hc:=r) (os:=os) (j:=j) hk (by simpa using h);exact⟨e',t',by simpa using h'⟩
theorem Dk{A:Type}:∀ {os:List OS}{x:OTs os A}{j:Nat}{e ei:TypeId},os[j]?=some (.stk e ei)->∃ rows,(fK os x).1[j]?=some (.stk e ei 0 rows none)
 |[],_,j,_,_,h=>by simp at h
 |.box e0 ls::r,x,0,_,_,h=>by simp at h
 |.box e0 ls::r,x,j+1,e,t,h=>by
  obtain⟨rows,h'⟩:=Dk (os:=r) (x:=(fF ls x).2) (j:=j) (by simpa using h);exact⟨rows,by simpa [fK]using h'⟩
 |.fm tab::r,x,0,_,_,h=>by simp at h
 |.fm tab::r,x,j+1,e,t,h=>by
  obtain⟨rows,h'⟩:=Dk (os:=r) (x:=x) (j:=j) (by simpa using h);exact⟨rows,by simpa [fK]using h'⟩
 |.dm kt vt::r,x,0,_,_,h=>by simp at h
 |.dm kt vt::r,x,j+1,e,t,h=>by
  obtain⟨rows,h'⟩:=Dk (os:=r) (x:=x.2) (j:=j) (by simpa using h);exact⟨rows,by simpa [fK]using h'⟩
 |.row e0 t0::r,x,0,_,_,h=>by simp at h
 |.row e0 t0::r,x,j+1,e,t,h=>by
  obtain⟨rows,h'⟩:=Dk (os:=r) (x:=x.2) (j:=j) (by simpa using h);exact⟨rows,by simpa [fK]using h'⟩
 |.stk e0 t0::r,x,0,e,t,h=>by
  simp only[List.getElem?_cons_zero,aA,OS.stk.injEq]at h;obtain⟨rfl,rfl⟩:=h;exact⟨x.1,rfl⟩
 |.stk e0 t0::r,x,j+1,e,t,h=>by
  obtain⟨rows,h'⟩:=Dk (os:=r) (x:=x.2) (j:=j) (by simpa using h);exact⟨rows,by simpa [fK]using h'⟩
theorem Hg{A:Type}:∀ {os:List OS}{x:OTs os A}{j:Nat}{o:Ob},(fK os x).1[j]?=some o->o.wr=true
 |[],_,j,_,h=>by simp[fK]at h
 |.box e0 ls::r,x,0,_,h=>by simp only[fK,List.getElem?_cons_zero,aA]at h;subst h;rfl
 |.box e0 ls::r,x,j+1,o,h=>Hg (os:=r) (x:=(fF ls x).2) (j:=j) (by simpa [fK]using h)
 |.fm tab::r,x,0,_,h=>by simp only[fK,List.getElem?_cons_zero,aA]at h;subst h;rfl
 |.fm tab::r,x,j+1,o,h=>Hg (os:=r) (x:=x) (j:=j) (by simpa [fK]using h)
 |.dm kt vt::r,x,0,_,h=>by simp only[fK,List.getElem?_cons_zero,aA]at h;subst h;rfl
 |.dm kt vt::r,x,j+1,o,h=>Hg (os:=r) (x:=x.2) (j:=j) (by simpa [fK]using h)
 |.stk e0 ei::r,x,0,_,h=>by simp only[fK,List.getElem?_cons_zero,aA]at h;subst h;rfl
 |.stk e0 ei::r,x,j+1,o,h=>Hg (os:=r) (x:=x.2) (j:=j) (by simpa [fK]using h)
 |.row e0 t0::r,x,0,_,h=>by simp only[fK,List.getElem?_cons_zero,aA]at h;subst h;rfl
 |.row e0 t0::r,x,j+1,o,h=>Hg (os:=r) (x:=x.2) (j:=j) (by simpa [fK]using h)
theorem zQn{β:Nat->Pl}{w:World}{N:Nat->Nat->Prop}:∀ {vs:List V}{us:List Value}{ss:List (Sum L (List L))},zJz vs=some ss->bD (λv u=>V.Rel β w N v u) vs us->bD (lK β w N) ss us
 |[],[],ss,h,_=>by simp only[zJz,aA]at h;subst h;trivial
 |v::vs,u::us,ss,h,hr=>by
  simp only[zJz]at h;split at h
  ·rename_i s ss' h1 h2;simp only[aA]at h;subst h;exact⟨V.zNu h1 hr.1,zQn h2 hr.2⟩
  ·cases h
 |[],_::_,_,_,hr=>hr.elim
 |_::_,[],_,_,hr=>hr.elim
theorem zHc{β:Nat->Pl}{w:World}{N:Nat->Nat->Prop}{vs:List V}{us:List Value}(hr:bD (λv u=>V.Rel β w N v u) vs us):(zVj vs).Rel β w N (qM us):=by
 unfold zVj;split
 ·rename_i ss h;exact zVi (zQn h hr)
 ·trivial
theorem yBj{α γ:Type}{R:α->γ->Prop}:∀ {x:List α}{y:List γ},x.length=y.length->(∀ (i:Nat) (a:α) (b:γ),x[i]?=some a->y[i]?=some b->R a b)->bD R x y
 |[],[],_,_=>trivial
 |a::x,b::y,hl,h=>⟨h 0 a b rfl rfl,yBj (by simpa using hl) λi c d hc hd=>h (i+1) c d (by simpa using hc) (by simpa using hd)⟩
 |[],_::_,hl,_=>by simp at hl
 |_::_,[],hl,_=>by simp at hl
end Go.Dec
namespace Go.Dec
section
variable {P:Program}{f:FuncId}{si so:Sh}{F:si.X->Option so.X}
theorem Rz{ρ:List Nat}{h:List Ob}(hc:Zy ρ h si so=true):nodupB ρ=true/\(∀ i∈ρ,i<h.length)/\ρ.length=si.os.length/\(∀ (j:Nat) (o:Ob),(inH ρ h)[j]?=some o->o.wr=true)/\uL (inH ρ h) so.os=true:=by
 simp only[Zy,aH]at hc;obtain⟨h1,h2,h3,h4,h5⟩:=hc;refine⟨h1,λi hi=>?_,aU h3,λj o ho=>tL h4 j o ho,h5⟩;obtain⟨n,hn⟩:=List.getElem?_of_mem hi;exact cZ (tL h2 n i hn)
def xK:Ob->Bool | .box ..=>true | .arr ..=>false | .fm _=>true | .dm ..=>true | .stk ..=>false
def Ef(β:Nat->Pl)(h:List Ob)(i:Nat):Option Nat:=match xK (Vs h i) with|true=>(β i).blk|false=>none
def inC(C:Ctx)(β:Nat->Pl)(h:List Ob)(w:World)(ρ:List Nat)(hs:fA C β h w):Ctx where
 P:=C.P
 N0 b j:=C.N β h b j/\∀ i∈ρ,∀ o,h[i]?=some o->¬ o.blks (β i) b
 w0:=w
 Kr b j:=∃ (i:Nat) (o:Ob),i∈ρ/\h[i]?=some o/\o.wr=true/\o.at (β i) b j
 glob w' hw:=C.glob w' (hs.frame.qK hw λb j hb hm=>by
  obtain⟨i,o,_,ho,hwo,hbk⟩:=hm;rcases(hs.fB i o b ho ⟨j,hbk⟩).2.2 with h1|h1
  ·omega
  ·exact h1 j hwo hbk)
 fix:=ρ.map (Ef β h)
theorem zVk{C:Ctx}{β:Nat->Pl}{w:World}{h:List Ob}{ρ:List Nat}{vs:List V}{xs:List Value}(hs:fA C β h w)(ha:nC β w (C.N β h) vs xs)(hnd:nodupB ρ=true)(hlt:∀ i∈ρ,i<h.length):Sim (inC C β h w ρ hs) (Gz β ρ) ⟨vs.map (V.ren ρ h),inH ρ h⟩ { tmps:=xs.toArray,defers:=[] } w:=by
 have zGy:=zUy hs hlt;have hget:∀ i∈ρ,∃ o,h[i]?=some o:=λi hi=>⟨h[i]'(hlt i hi),by simp[hlt i hi]⟩
 have hβ:∀ {j i:Nat},ρ[j]?=some i->Gz β ρ j={ β i with ver:=0 }:=λhi=>by simp only[Gz,hi]
 have hNw:∀ b j,C.N β h b j->b<w.heap.size:=λb j hb=>by
  rcases hb with hb|⟨id,o,ho,_,hbk⟩
  ·exact Nat.lt_of_lt_of_le (hs.n0 b j hb) hs.size
  ·exact(hs.fB id o b ho ⟨j,hbk⟩).2.1
 have hN:∀ b j,b<w.heap.size->(inC C β h w ρ hs).N (Gz β ρ) (inH ρ h) b j->C.N β h b j:=λb k _ hb=>by
  rcases hb with hb|⟨j,o,ho,hw,hbk⟩
  ·exact hb.1
  ·obtain⟨i,hi,rfl⟩:=wP ho;obtain⟨o',ho'⟩:=hget i (List.mem_of_getElem? hi);rw[gV ho',Ob.Zr]at hw;rw[gV ho',hβ hi]at hbk;exact .inr ⟨i,o',ho',hw,Ob.uI (Ob.vI ρ h o') rfl rfl hbk⟩
 refine⟨⟨?_,?_,?_,?_,λb j hb=>hNw b j hb.1,Keep.refl _ _,bA _,rfl,rfl,rfl,?_⟩,rfl,by simpa using bD.length ha,?_⟩
 ·intro j o ho;obtain⟨i,hi,rfl⟩:=wP ho;obtain⟨o',ho'⟩:=hget i (List.mem_of_getElem? hi);rw[gV ho',hβ hi];have hob:=hs.obj i o' ho';cases o' with
  |box e ls =>
   simp only[Ob.ren,Ob.Rel]at *;obtain⟨h1,h2,b,cs,h3,h4,h5⟩:=hob;exact⟨h1,h2,b,cs,h3,h4.zZ zGy hN,h5⟩
  |arr e t v rows wr =>
   simp only[Ob.ren,Ob.Rel]at *;obtain⟨h1,h2,h3,h4,h5,h6,h7⟩:=hob;refine⟨h1,h2,trivial,h4,h5,h6,?_⟩;rcases h7 with h7|⟨b,cur,css,k1,k2,k3,k4⟩
   ·exact .inl h7
   ·exact .inr ⟨b,cur,css,k1,k2,k3.mono λ_ _ h=>h.mono (Keep.refl _ w) hN,k4⟩
  |fm tab=>simp only[Ob.ren,Ob.Rel]at *;exact hob
  |dm kt vt es =>
   simp only[Ob.ren,Ob.Rel]at *;obtain⟨h1,h2,b,ms,h3,h4,h5⟩:=hob;exact⟨h1,h2,b,ms,h3,h4,h5.mono (Keep.refl _ w) hN⟩
  |stk e ei v rows top =>
   simp only[Ob.ren,Ob.Rel]at *;obtain⟨g1,g2,g3,g4,g5,b,cur,cs,cs2,bs,k1,k2,k3,k4,k5,k6,k7,k8,k9,k10,k11⟩:=hob;exact⟨g1,g2,trivial,g4,by rw[Vm];exact g5,b,cur,cs,cs2,bs,k1,k2,k3,k4,k5,k6,k7,k8,k9,k10.imp _ λls cs _ hl=>hl.zZ zGy hN,k11⟩
 ·intro j hj;simp only[inH,List.length_map]at hj;simp only[Gz,List.getElem?_eq_none hj]
 ·intro i j o1 o2 b h1 h2 hb1 hb2;obtain⟨i',hi,rfl⟩:=wP h1;obtain⟨j',hj,rfl⟩:=wP h2;obtain⟨o1',ho1⟩:=hget i' (List.mem_of_getElem? hi);obtain⟨o2',ho2⟩:=hget j' (List.mem_of_getElem? hj);rw[hβ hi,gV ho1]at hb1;rw[hβ hj,gV ho2]at hb2;have:=hs.kC i' j' o1' o2' b ho1 ho2 (Ob.kG (Ob.vI ρ h o1') rfl rfl hb1) (Ob.kG (Ob.vI ρ h o2') rfl rfl hb2);subst this;exact Mj hnd hi hj
 ·intro j o b ho hb;obtain⟨i,hi,rfl⟩:=wP ho;obtain⟨o',ho'⟩:=hget i (List.mem_of_getElem? hi);rw[gV ho',hβ hi]at hb ⊢;have hb':=Ob.kG (o':=o') (p':=β i) (Ob.vI ρ h o') rfl rfl hb;exact⟨λk hn=>hn.2 i (List.mem_of_getElem? hi) o' ho' hb',(hs.fB i o' b ho' hb').2.1,.inr λk hw hk=>⟨i,o',List.mem_of_getElem? hi,ho',by rw[Ob.Zr]at hw;exact hw,Ob.uI (Ob.vI ρ h o') rfl rfl hk⟩⟩
 ·intro j o hj;simp only[inC,List.getElem?_map,Option.map_eq_some_iff]at hj;obtain⟨i,hi,rfl⟩:=hj;refine⟨by simpa [inH]using(bP.1 hi).1,λb hb=>?_⟩;obtain⟨o',ho'⟩:=hget i (List.mem_of_getElem? hi);have hob:=hs.obj i o' ho';rw[hβ hi];unfold Ef at hb;rw[gV ho']at hb;cases o' with
  |box e ls =>
   simp only[Ob.Rel]at hob;exact⟨hb,hob.2.1⟩
  |arr e t v rows wr=>cases hb
  |stk e ei v rows top=>cases hb
  |fm tab =>
   simp only[Ob.Rel]at hob;exact⟨hb,hob.2.1⟩
  |dm kt vt es =>
   simp only[Ob.Rel]at hob;exact⟨hb,hob.2.1⟩
 ·intro i v hv;simp only[List.getElem?_map,Option.map_eq_some_iff]at hv;obtain⟨v0,hv0,rfl⟩:=hv;have hl:i<xs.length:=by rw[<- bD.length ha];exact(bP.1 hv0).1
  have hr:=ha.get i (bP.1 hv0).1 hl;have e:vs[i]'(bP.1 hv0).1=v0:=(bP.1 hv0).2;rw[e]at hr;have e2:(xs.toArray).getD i undef=xs[i]:=by simp[hl]
  simp only[e2];exact hr.zZ zGy hN
def mP(β β':Nat->Pl)(ρ:List Nat)(h:List Ob):Nat->Pl:=λi =>
 match pos i ρ 0 with
 |some j=>match xK (Vs h i)with
  |true=>β i
  |false=>{ β' j with ver:=(β' j).ver+jW ρ h j }
 |none=>if i<h.length then β i else β' (i-h.length+ρ.length)
theorem Sb{ρ:List Nat}{h hy:List Ob}(hk:ρ.length<=hy.length){id:Nat}{o:Ob}(ho:(jD ρ h hy)[id]?=some o):(id<h.length/\pos id ρ 0=none/\h[id]?=some o)\/(∃ j ob oy,id<h.length/\ρ[j]?=some id/\pos id ρ 0=some j/\h[id]?=some ob/\hy[j]?=some oy/\o=oy.back (lQ ρ h.length) (jW ρ h) j) \/
  ∃ j oy,ρ.length<=j/\id=h.length+(j-ρ.length)/\hy[j]?=some oy/\o=oy.back (lQ ρ h.length) (jW ρ h) j:=by
 unfold jD at ho;by_cases hid:id<h.length
 ·rw[jI (by rw[Ap];exact hid),zHb,Nat.zero_add]at ho;obtain⟨ob,hob⟩:∃ ob,h[id]?=some ob:=⟨h[id],by simp[hid]⟩;rw[hob]at ho;simp only[Option.map_some,aA]at ho;cases hp:pos id ρ 0 with
  |none =>
   rw[hp]at ho;simp only at ho;exact .inl ⟨hid,rfl,by rw[hob,ho]⟩
  |some j =>
   obtain⟨m,hm,hi⟩:=Ce hp;rw[Nat.zero_add]at hm;subst hm;have hj:j<hy.length:=Nat.lt_of_lt_of_le (bP.1 hi).1 hk;have hyj:hy[j]?=some hy[j]:=by simp[hj]
   rw[hp]at ho;simp only[hyj]at ho;exact .inr (.inl ⟨j,ob,hy[j],hid,hi,rfl,hob,hyj,ho.symm⟩)
 ·rw[List.getElem?_append_right (by rw[Ap];omega),Ap,Zz,List.getElem?_drop]at ho;simp only[Option.map_eq_some_iff]at ho;obtain⟨oy,h1,h2⟩:=ho;exact .inr (.inr ⟨ρ.length+(id-h.length),oy,by omega,by omega,h1,h2.symm⟩)
theorem Ua{ρ:List Nat}{h hy:List Ob}:(jD ρ h hy).length=h.length+(hy.length-ρ.length):=by
 simp[jD,Ap,Qx]
theorem Wh{C:Ctx}{β:Nat->Pl}{h:List Ob}{w w':World}{ρ:List Nat}(hs:fA C β h w)(hnd:nodupB ρ=true)(hlt:∀ i∈ρ,i<h.length)(hwr:∀ (j:Nat) (o:Ob),(inH ρ h)[j]?=some o->o.wr=true)(Jy:uL (inH ρ h) so.os=true){y:so.X}{us:List Value}{β':Nat->Pl}(hs':Sim (inC C β h w ρ hs) β' (so.enc y) { tmps:=us.toArray,defers:=[] } w'):∃ β2,Moves β β2/\Keep (C.N β h) w w'/\(∀ b j,b<w.heap.size->C.N β2 (jD ρ h (so.enc y).h) b j->C.N β h b j)/\fA C β2 (jD ρ h (so.enc y).h) w' /\
  bD (λv u=>V.Rel β2 w' (C.N β2 (jD ρ h (so.enc y).h)) v u) ((so.enc y).r.map (V.back (lQ ρ h.length) (jW ρ h))) us:=by
 generalize hhy:(so.enc y).h=hy at *;have hget:∀ i∈ρ,∃ o,h[i]?=some o:=λi hi=>⟨h[i]'(hlt i hi),by simp[hlt i hi]⟩
 have hfix:∀ {j i:Nat},ρ[j]?=some i->j<hy.length/\∀ b,Ef β h i=some b->(β' j).blk=some b/\(β' j).box=true:=λ{j i} hi=>by
  have:=hs'.heap.fixed j (Ef β h i) (by simp[inC,hi]);rw[hhy]at this;exact this
 have hk:ρ.length<=hy.length:=by
  rcases jZ hy.length ρ.length with h1|h1
  ·have:=(hfix (j:=hy.length) (i:=ρ[hy.length]) (by simp[h1])).1;omega
  ·exact h1
 have xBg:∀ i∈ρ,∀ o,h[i]?=some o->o.wr=true:=λi hi o ho=>by
  obtain⟨n,hn⟩:=List.getElem?_of_mem hi;have:=hwr n ((Vs h i).ren ρ h) (by simp[inH,hn]);rw[Ob.Zr,gV ho]at this;exact this
 have hrow:∀ {j i:Nat}{o:Ob},ρ[j]?=some i->h[i]?=some o->xK o=false->∃ oy,hy[j]?=some oy/\xK oy=false:=λ{j i o} hi ho hb=>by
  cases o with
  |box e ls=>cases hb
  |fm tab=>cases hb
  |dm=>cases hb
  |stk e ei u rows top =>
   obtain⟨e',ei',hrw⟩:=wS (j:=j) (e:=e) (ei:=ei) (u:=0) (rows:=rows) (top:=top.map (L.Gv ρ h)) Jy (by simp[inH,hi,gV ho,Ob.ren]);obtain⟨rows',hr'⟩:=Dk (A:=Unit) (x:=(Mk so.rs (List.replicate so.n .dB) y).2) hrw;exact⟨_,by rw[<- hhy];exact hr',rfl⟩
  |arr e t u rows wr =>
   obtain⟨e',t',hrw⟩:=wR (j:=j) (e:=e) (t:=t) (u:=0) (rows:=rows) (wr:=wr) Jy (by simp[inH,hi,gV ho,Ob.ren]);obtain⟨rows',hr'⟩:=Dj (A:=Unit) (x:=(Mk so.rs (List.replicate so.n .dB) y).2) hrw;exact⟨_,by rw[<- hhy];exact hr',rfl⟩
 have zHd:=hs'.heap.obj;rw[hhy]at zHd;have yIb:∀ j,hy.length<=j->(β' j).live=false:=λj hj=>hs'.heap.dead j (by rw[hhy];exact hj)
 have Ub:=hs'.heap.fB;rw[hhy]at Ub;have yBk:=hs'.heap.kC;rw[hhy]at yBk;have yEd:∀ {j i:Nat}{o:Ob},ρ[j]?=some i->h[i]?=some o->xK o=true->(β' j).box=true/\(β' j).blk=(β i).blk/\(β i).box=true/\(β i).live=true/\(β' j).live=true:=λ{j i o} hi ho hb=>by
  have hob:=hs.obj i o ho;obtain⟨hj,hfx⟩:=hfix hi;cases o with
  |arr=>cases hb
  |stk=>cases hb
  |dm kt vt es =>
   simp only[Ob.Rel]at hob;obtain⟨k1,k2,b,ms,k3,_⟩:=hob;have hfo:Ef β h i=some b:=by simp only[Ef,gV ho,xK,k3]
   obtain⟨g1,g2⟩:=hfx b hfo;exact⟨g2,by rw[g1,k3],k2,k1,(zHd j hy[j] (by simp[hj])).live⟩
  |fm tab =>
   simp only[Ob.Rel]at hob;obtain⟨k1,k2,b,es,n,k3,_⟩:=hob;have hfo:Ef β h i=some b:=by simp only[Ef,gV ho,xK,k3]
   obtain⟨g1,g2⟩:=hfx b hfo;exact⟨g2,by rw[g1,k3],k2,k1,(zHd j hy[j] (by simp[hj])).live⟩
  |box e ls =>
   simp only[Ob.Rel]at hob;obtain⟨k1,k2,b,cs,k3,_⟩:=hob;have hfo:Ef β h i=some b:=by simp only[Ef,gV ho,xK,k3]
   obtain⟨g1,g2⟩:=hfx b hfo;exact⟨g2,by rw[g1,k3],k2,k1,(zHd j hy[j] (by simp[hj])).live⟩
 have yLz:∀ {j i:Nat}{o:Ob},ρ[j]?=some i->h[i]?=some o->xK o=true->mP β β' ρ h i=β i:=λhi ho hb=>by
  simp only[mP,yBd hnd hi,gV ho,hb]
 have yMa:∀ {j i:Nat}{o:Ob},ρ[j]?=some i->h[i]?=some o->xK o=false->mP β β' ρ h i={ β' j with ver:=(β' j).ver+jW ρ h j }:=λhi ho hb=>by
  simp only[mP,yBd hnd hi,gV ho,hb]
 have yEe:∀ {i:Nat},pos i ρ 0=none->i<h.length->mP β β' ρ h i=β i:=λhp hi=>by
  simp only[mP,hp,if_pos hi]
 have yOs:∀ {i:Nat},h.length<=i->pos i ρ 0=none:=λ{i} hi=>by
  cases hp:pos i ρ 0 with
  |none=>rfl
  |some j =>
   obtain⟨m,_,hm⟩:=Ce hp;have:=hlt i (List.mem_of_getElem? hm);omega
 have yTb:∀ {j:Nat},ρ.length<=j->mP β β' ρ h (h.length+(j-ρ.length))=β' j:=λ{j} hj=>by
  simp only[mP,yOs (Nat.le_add_right _ _)];rw[if_neg (by omega)];congr 1;omega
 have eF:∀ {j i:Nat},ρ[j]?=some i->lQ ρ h.length j=i:=λhi=>by simp only[lQ,hi]
 have eF2:∀ {j:Nat},ρ.length<=j->lQ ρ h.length j=h.length+(j-ρ.length):=λhj=>by simp only[lQ,List.getElem?_eq_none hj]
 have eU2:∀ {j:Nat},ρ.length<=j->jW ρ h j=0:=λhj=>by simp only[jW,List.getElem?_eq_none hj]
 have hpl:∀ j,(β' j).live=true->Zx (β' j) (mP β β' ρ h (lQ ρ h.length j)) (jW ρ h j):=λj hl=>by
  have hj:j<hy.length:=by
   rcases jZ j hy.length with h1|h1
   ·exact h1
   ·rw[yIb j h1]at hl;cases hl
  cases hi:ρ[j]? with
  |some i =>
   rw[eF hi];obtain⟨o,ho⟩:=hget i (List.mem_of_getElem? hi);cases hb:xK o with
   |true =>
    obtain⟨g1,g2,g3,g4,g5⟩:=yEd hi ho hb;rw[yLz hi ho hb];exact⟨by rw[g4,hl],by rw[g3,g1],g2.symm,λh=>(by rw[g1]at h;cases h),λh=>(by rw[g1]at h;cases h)⟩
   |false =>
    rw[yMa hi ho hb];exact⟨rfl,rfl,rfl,λ_=>⟨rfl,rfl,rfl,rfl⟩,λ_=>rfl⟩
  |none =>
   have hge:ρ.length<=j:=List.getElem?_eq_none_iff.1 hi;rw[eF2 hge,yTb hge,eU2 hge];exact⟨rfl,rfl,rfl,λ_=>⟨rfl,rfl,rfl,rfl⟩,λ_=>rfl⟩
 have hown:∀ {b k:Nat},(inC C β h w ρ hs).Kr b k->∃ (i:Nat) (o:Ob),i∈ρ/\h[i]?=some o/\o.wr=true/\o.at (β i) b k:=λ{b k} hb=>hb
 have hkeep:Keep (C.N β h) w w':=hs'.heap.frame.weaken λk j ho=>by
  obtain⟨i,o,_,h2,h3,h4⟩:=hown ho;exact .inr ⟨i,o,h2,h3,h4⟩
 have hat:∀ {id j:Nat}{ob oy:Ob},ρ[j]?=some id->h[id]?=some ob->hy[j]?=some oy->∀ b k,(oy.back (lQ ρ h.length) (jW ρ h) j).at (mP β β' ρ h id) b k->oy.at (β' j) b k:=λ{id j ob oy} hi hob hoy b k hbk=>by
  cases hb2:xK ob with
  |true =>
   have hp:oy.oM=false:=(zHd j oy hoy).yKm (yEd hi hob hb2).1;rw[yLz hi hob hb2]at hbk;have:=Ob.zGe (by simp[Ob.plain,Ob.zAa,hp]) hbk;exact Ob.lM (by rw[(yEd hi hob hb2).2.1];exact this)
  |false =>
   rw[yMa hi hob hb2]at hbk;exact Ob.uI (Ob.zAa oy) rfl rfl hbk
 have yMb:∀ {j:Nat}{oy:Ob},ρ.length<=j->∀ b k,(oy.back (lQ ρ h.length) (jW ρ h) j).at (mP β β' ρ h (h.length+(j-ρ.length))) b k->oy.at (β' j) b k:=λ{j oy} hj b k hbk=>by
  rw[yTb hj]at hbk;exact Ob.uI (Ob.zAa oy) rfl rfl hbk
 have zVl:Moves β (mP β β' ρ h):=λid hl=>by
  have hid:id<h.length:=by
   rcases jZ id h.length with h1|h1
   ·exact h1
   ·rw[hs.dead id h1]at hl;cases hl
  cases hp:pos id ρ 0 with
  |none=>exact .inl (yEe hp hid)
  |some j =>
   obtain⟨m,hm,hi⟩:=Ce hp;rw[Nat.zero_add]at hm;subst hm;obtain⟨o,ho⟩:=hget id (List.mem_of_getElem? hi);cases hb:xK o with
   |true=>exact .inl (yLz hi ho hb)
   |false =>
    obtain⟨oy,hoy,hby⟩:=hrow hi ho hb;have hY:=zHd j oy hoy;have hO:=hs.obj id o ho;rw[yMa hi ho hb];cases o with
    |box=>cases hb
    |fm=>cases hb
    |dm=>cases hb
    |stk e ei u rows top =>
     cases oy with
     |box=>cases hby
     |fm=>cases hby
     |dm=>cases hby
     |arr e' t' u' rows' wr' =>
      simp only[Ob.Rel]at hY hO;refine .inr ⟨hO.2.1,hY.1,hY.2.1,?_⟩;simp only[jW,hi,ho];have:=hO.2.2.1;omega
     |stk e' ei' u' rows' top' =>
      simp only[Ob.Rel]at hY hO;refine .inr ⟨hO.2.1,hY.1,hY.2.1,?_⟩;simp only[jW,hi,ho];have:=hO.2.2.1;omega
    |arr e t u rows wr =>
     cases oy with
     |box=>cases hby
     |fm=>cases hby
     |dm=>cases hby
     |stk e' ei' u' rows' top' =>
      simp only[Ob.Rel]at hY hO;refine .inr ⟨hO.2.1,hY.1,hY.2.1,?_⟩;simp only[jW,hi,ho];have:=hO.2.2.1;omega
     |arr e' t' u' rows' wr' =>
      simp only[Ob.Rel]at hY hO;refine .inr ⟨hO.2.1,hY.1,hY.2.1,?_⟩;simp only[jW,hi,ho];have:=hO.2.2.1;omega
 have hbl:∀ {b k:Nat},b<w.heap.size->w.heap.size<=b\/(inC C β h w ρ hs).Kr b k->C.N β h b k:=λ{b k} hb ho=>by
  rcases ho with ho|ho
  ·omega
  ·obtain⟨i,o,_,h2,h3,h4⟩:=hown ho;exact .inr ⟨i,o,h2,h3,h4⟩
 have yOt:∀ b j,b<w.heap.size->C.N (mP β β' ρ h) (jD ρ h hy) b j->C.N β h b j:=λb k hb hn=>by
  rcases hn with hn|⟨id,o,ho,hw,hbk⟩
  ·exact .inl hn
  ·rcases Sb hk ho with ⟨hid,hp,ho⟩|⟨j,ob,oy,hid,hi,hp,hob,hoy,rfl⟩|⟨j,oy,hj,rfl,hoy,rfl⟩
   ·rw[yEe hp hid]at hbk;exact .inr ⟨id,o,ho,hw,hbk⟩
   ·rw[Ob.Hf]at hw;have hbk:=hat hi hob hoy b k hbk;exact hbl hb ((Ub j oy b hoy ⟨k,hbk⟩).2.2.imp (λh=>h) λh=>h k hw hbk)
   ·rw[Ob.Hf]at hw;have hbk:=yMb hj b k hbk;exact hbl hb ((Ub j oy b hoy ⟨k,hbk⟩).2.2.imp (λh=>h) λh=>h k hw hbk)
 have yOu:∀ b j,b<w'.heap.size->C.N (mP β β' ρ h) (jD ρ h hy) b j->(inC C β h w ρ hs).N β' (so.enc y).h b j:=λb k _ hn=>by
  rw[hhy];rcases hn with hn|⟨id,o,ho,hw,hbk⟩
  ·exact .inl ⟨.inl hn,λi hi o ho hbk=>(hs.fB i o b ho hbk).1 k hn⟩
  ·rcases Sb hk ho with ⟨hid,hp,ho⟩|⟨j,ob,oy,hid,hi,hp,hob,hoy,rfl⟩|⟨j,oy,hj,rfl,hoy,rfl⟩
   ·rw[yEe hp hid]at hbk;refine .inl ⟨.inr ⟨id,o,ho,hw,hbk⟩,λi hi oi hoi hbi=>?_⟩;have:=hs.kC id i o oi b ho hoi ⟨k,hbk⟩ hbi;subst this;exact Oh hp hi
   ·rw[Ob.Hf]at hw;exact .inr ⟨j,oy,hoy,hw,hat hi hob hoy b k hbk⟩
   ·rw[Ob.Hf]at hw;exact .inr ⟨j,oy,hoy,hw,yMb hj b k hbk⟩
 have zNl:∀ {id:Nat}{o:Ob}{b:Nat},pos id ρ 0=none->h[id]?=some o->o.blks (β id) b->b<w.heap.size/\∀ k,¬ (inC C β h w ρ hs).Kr b k:=λ{id o b} hp ho hb=>by
  refine⟨(hs.fB id o b ho hb).2.1,λk hw=>?_⟩;obtain⟨i,oi,h1,h2,_,h4⟩:=hown hw;have:=hs.kC id i o oi b ho h2 hb ⟨k,h4⟩;subst this;exact Oh hp h1
 have hcls:∀ {id:Nat}{o:Ob},(jD ρ h hy)[id]?=some o->(pos id ρ 0=none/\h[id]?=some o/\mP β β' ρ h id=β id)\/∃ j oy,hy[j]?=some oy/\id=lQ ρ h.length j/\o=oy.back (lQ ρ h.length) (jW ρ h) j/\∀ b k,o.at (mP β β' ρ h id) b k->oy.at (β' j) b k:=λ{id o} ho=>by
  rcases Sb hk ho with ⟨hid,hp,ho⟩|⟨j,ob,oy,hid,hi,hp,hob,hoy,rfl⟩|⟨j,oy,hj,rfl,hoy,rfl⟩
  ·exact .inl ⟨hp,ho,yEe hp hid⟩
  ·exact .inr ⟨j,oy,hoy,(eF hi).symm,rfl,hat hi hob hoy⟩
  ·exact .inr ⟨j,oy,hoy,(eF2 hj).symm,rfl,yMb hj⟩
 have yTc:∀ {j:Nat}{oy:Ob},hy[j]?=some oy->(oy.back (lQ ρ h.length) (jW ρ h) j).wr=true:=λ{j oy} hoy=>by
  rw[Ob.Hf,<- hhy]at *;exact Hg hoy
 have yTd:∀ {j id:Nat}{oy:Ob}{b:Nat},hy[j]?=some oy->(∀ b k,(oy.back (lQ ρ h.length) (jW ρ h) j).at (mP β β' ρ h id) b k->oy.at (β' j) b k)->(oy.back (lQ ρ h.length) (jW ρ h) j).blks (mP β β' ρ h id) b->b<w.heap.size->(∀ k,¬ (inC C β h w ρ hs).Kr b k)->False:=λ{j id oy b} hoy eb hb g1 g2=>by
  obtain⟨q,hb⟩:=hb;rcases(Ub j oy b hoy ⟨q,eb b q hb⟩).2.2 with h3|h3
  ·have h3:w.heap.size<=b:=h3;omega
  ·have hw:=yTc hoy;rw[Ob.Hf]at hw;exact g2 q (h3 q hw (eb b q hb))
 have hHS:fA C (mP β β' ρ h) (jD ρ h hy) w':=by
  refine⟨?_,?_,?_,?_,hs.n0,?_,Nat.le_trans hs.size hs'.heap.size,hs'.heap.os.trans hs.os,hs'.heap.tape.trans hs.tape,hs'.heap.output.trans hs.output,?_⟩
  ·intro id o ho;rcases hcls ho with ⟨hp,ho,eb⟩|⟨j,oy,hoy,rfl,rfl,_⟩
   ·rw[eb];exact(hs.obj id o ho).mono zVl hkeep yOt λb hb=>hs'.heap.frame.block b (zNl hp ho hb).1 (zNl hp ho hb).2
   ·have hY:=zHd j oy hoy;rw[<- hhy]at hY;exact Ob.Rel.back (f:=lQ ρ h.length) (v:=jW ρ h) hpl yOu hY
  ·intro id hid;rw[Ua]at hid;have hp:=yOs (i:=id) (by omega);simp only[mP,hp];rw[if_neg (by omega)];exact yIb _ (by omega)
  ·intro i j o1 o2 b h1 h2 hb1 hb2;rcases hcls h1 with ⟨hp1,ho1,eb1⟩|⟨j1,oy1,yTe,rfl,rfl,eb1⟩<;>rcases hcls h2 with ⟨hp2,ho2,eb2⟩|⟨j2,oy2,yTf,rfl,rfl,eb2⟩
   ·rw[eb1]at hb1;rw[eb2]at hb2;exact hs.kC i j o1 o2 b ho1 ho2 hb1 hb2
   ·exfalso;rw[eb1]at hb1;obtain⟨g1,g2⟩:=zNl hp1 ho1 hb1;exact yTd yTf eb2 hb2 g1 g2
   ·exfalso;rw[eb2]at hb2;obtain⟨g1,g2⟩:=zNl hp2 ho2 hb2;exact yTd yTe eb1 hb1 g1 g2
   ·obtain⟨q1,hb1⟩:=hb1;obtain⟨q2,hb2⟩:=hb2;rw[yBk j1 j2 oy1 oy2 b yTe yTf ⟨q1,eb1 b q1 hb1⟩ ⟨q2,eb2 b q2 hb2⟩]
  ·intro id o b ho hb;rcases hcls ho with ⟨hp,ho,eb⟩|⟨j,oy,hoy,rfl,rfl,eb⟩
   ·rw[eb]at hb ⊢;obtain⟨k1,k2,k3⟩:=hs.fB id o b ho hb;exact⟨k1,Nat.lt_of_lt_of_le k2 hs'.heap.size,k3⟩
   ·obtain⟨q,hb⟩:=hb;obtain⟨k1,k2,k3⟩:=Ub j oy b hoy ⟨q,eb b q hb⟩;rcases jZ b w.heap.size with hlt|hge
    ·have hold:∀ k,(oy.back (lQ ρ h.length) (jW ρ h) j).wr=true->(oy.back (lQ ρ h.length) (jW ρ h) j).at (mP β β' ρ h (lQ ρ h.length j)) b k->∃ (i:Nat) (o:Ob),i∈ρ/\h[i]?=some o/\o.wr=true/\o.at (β i) b k:=λk hw hk=>by
      rw[Ob.Hf]at hw;rcases k3 with k3|k3
      ·have k3:w.heap.size<=b:=k3;omega
      ·exact hown (k3 k hw (eb b k hk))
     have hwy:(oy.back (lQ ρ h.length) (jW ρ h) j).wr=true:=yTc hoy;obtain⟨i,oi,h1,h2,h3,h4⟩:=hold q hwy hb;obtain⟨g1,g2,g3⟩:=hs.fB i oi b h2 ⟨q,h4⟩;refine⟨g1,k2,?_⟩;rcases g3 with g3|g3
     ·exact .inl g3
     ·right;intro k hw hk;obtain⟨i2,oi2,f1,f2,f3,f4⟩:=hold k hw hk;rcases(hs.fB i2 oi2 b f2 ⟨k,f4⟩).2.2 with g5|g5
      ·have:=hs.kC i i2 oi oi2 b h2 f2 ⟨q,h4⟩ ⟨k,f4⟩;subst this;rw[h2]at f2;simp only[aA]at f2;subst f2;exact g3 k f3 f4
      ·exact g5 k f3 f4
    ·have h0:=hs.size;exact⟨λ_ hn=>by have:=hs.n0 b _ hn;omega,k2,.inl (by omega)⟩
  ·refine hs.frame.qK hs'.heap.frame λb j hb ho=>?_
   obtain⟨i,oi,h1,h2,h3,h4⟩:=hown ho;rcases(hs.fB i oi b h2 ⟨j,h4⟩).2.2 with h5|h5
   ·omega
   ·exact h5 j h3 h4
  ·intro j o hj;obtain⟨k1,k2⟩:=hs.fixed j o hj;refine⟨by rw[Ua];omega,λb hb=>?_⟩;obtain⟨k3,k4⟩:=k2 b hb;have hoj:h[j]?=some h[j]:=by simp[k1]
   rcases zVl j (hs.obj j _ hoj).live with e|⟨e,_⟩
   ·rw[e];exact⟨k3,k4⟩
   ·rw[k4]at e;cases e
 refine⟨mP β β' ρ h,zVl,hkeep,yOt,hHS,?_⟩;refine yBj (by have:=hs'.size;simpa using this) λi v u hv hu=>?_
 simp only[List.getElem?_map,Option.map_eq_some_iff]at hv;obtain⟨v0,hv0,rfl⟩:=hv;have hr:=hs'.reg i v0 hv0;have e:(us.toArray).getD i undef=u:=by
  rw[Array.getD_eq_getD_getElem?];simp[hu]
 simp only[e]at hr;exact hr.back (f:=lQ ρ h.length) (v:=jW ρ h) hpl yOu
theorem yOv{l:L}(h:l.isD=true):l.ids=[]:=by
 cases l<;>first|rfl|(cases h;done)|(rename_i f cs;cases cs<;>first|rfl|cases h)
theorem yIc:∀ {ls:List L},cK L.isD ls=true->L.zGo ls=[]
 |[],_=>rfl
 |l::ls,h=>by
  simp only[cK,aH]at h;simp only[L.zGo,yOv h.1,yIc h.2,List.append_nil]
theorem yId:∀ {vs:List V},cK V.isD vs=true->zUn vs=[]
 |[],_=>rfl
 |v::vs,h=>by
  simp only[cK,aH]at h;have h1:v.ids=[]:=by
   cases v with
   |one l=>exact yOv h.1
   |agg ls=>exact yIc h.1
   |_=>rfl
  simp only[zUn,h1,yId h.2,List.append_nil]
theorem zDw{vs:List V}{h:List Ob}(hd:cK V.isD vs=true):reach vs h=[]:=by
 unfold reach;rw[yId hd];rfl
theorem yOw{ρ:List Nat}{h h2:List Ob}{l:L}(hd:l.isD=true):l.ren ρ h=l.ren ρ h2:=by
 cases l<;>first|rfl|(cases hd;done)|(rename_i f cs;cases cs<;>first|rfl|cases hd)
theorem yIe{ρ:List Nat}{h h2:List Ob}:∀ {ls:List L},cK L.isD ls=true->L.Gv ρ h ls=L.Gv ρ h2 ls
 |[],_=>rfl
 |l::ls,hd=>by
  simp only[cK,aH]at hd;simp only[L.Gv,yOw (h:=h) (h2:=h2) hd.1,yIe (h:=h) (h2:=h2) hd.2]
theorem yIf{ρ:List Nat}{h h2:List Ob}:∀ {vs:List V},cK V.isD vs=true->vs.map (V.ren ρ h)=vs.map (V.ren ρ h2)
 |[],_=>rfl
 |v::vs,hd=>by
  simp only[cK,aH]at hd;have h1:V.ren ρ h v=V.ren ρ h2 v:=by
   cases v with
   |one l=>simp only[V.ren,yOw (h:=h) (h2:=h2) hd.1]
   |agg ls=>simp only[V.ren,yIe (h:=h) (h2:=h2) hd.1]
   |_=>rfl
  simp only[List.map_cons,h1,yIf (h:=h) (h2:=h2) hd.2]
theorem zQo:∀ {h:List Ob}{n:Nat},Oj (λ_=>none) n h=h
 |[],_=>rfl
 |o::r,n=>by simp only[Oj,zQo]
theorem zFk(h hy:List Ob):jD [] h hy=h++vL (lQ [] h.length) (jW [] h) 0 hy:=by
 unfold jD;simp only[pos,List.length_nil,List.drop_zero,zQo]
theorem yQf{vs:List V}{h h2:List Ob}(hd:cK V.isD vs=true)(hl:h2.length=h.length):(peM si so F).run vs h=(peM si so F).run vs h2/\∀ y,((peM si so F).enc y vs h).1=((peM si so F).enc y vs h2).1/\∃ os,((peM si so F).enc y vs h).2=h++os/\((peM si so F).enc y vs h2).2=h2++os:=by
 have e1:vs.map (V.ren [] h)=vs.map (V.ren [] h2):=yIf hd;have e2:jW [] h=jW [] h2:=rfl;refine⟨?_,λy=>⟨?_,vL (lQ [] h.length) (jW [] h) 0 (so.enc y).h,?_,?_⟩⟩
 ·simp only[peM,zDw hd,e1];rfl
 ·simp only[peM,zDw hd,hl,e2]
 ·simp only[peM,zDw hd,zFk]
 ·simp only[peM,zDw hd,zFk,hl,e2]
theorem gP(hM:iW P f si so F):(peM si so F).OK P f:=by
 refine⟨hM.1,λvs h y hr C β w xs hP hs ha=>?_,λh=>(by cases h),λh=>(by cases h),λ_ vs h h2 hd hl=>yQf hd hl⟩;subst hP;simp only[peM]at hr;split at hr
 case h_2=>cases hr
 rename_i x hx;simp only[aA,aF]at hr;obtain⟨hok,hF⟩:=hr;obtain⟨hnd,hlt,hlen,hwr,Jy⟩:=Rz hok;have Eb:=zDs hx (zVk hs ha hnd hlt);refine(hM.2 x y hF (inC C β h w _ hs) _ w xs rfl (by simp[inC,hlen]) Eb).mono ?_;rintro e w' ⟨us,β',rfl,hs'⟩;obtain⟨β2,h1,h2,h3,h4,h5⟩:=Wh hs hnd hlt hwr Jy hs';exact⟨_,_,β2,⟨rfl,rfl⟩,h1,h2,h3,h4,_,rfl,zHc h5⟩
def Eh(P:Program)(f:FuncId)(si so:Sh)(tp:TypeId)(sp:Sh)(F:si.X->Option (Sum so.X sp.X)):Prop :=
 iQ P f=true/\∀ x y,F x=some y->∀ (C:Ctx) (β:Nat->Pl) (w:World) (xs:List Value),C.P=P->C.fix.length<=si.os.length->Sim C β (si.enc x) { tmps:=xs.toArray,defers:=[] } w ->
  Calls P f xs.toArray w λe w'=>(∃ (z:so.X) (us:List Value) (β':Nat->Pl),y=.inl z/\e=.returned (qM us)/\Sim C β' (so.enc z) { tmps:=us.toArray,defers:=[] } w') \/
   ∃ (z:sp.X) (u:Value) (β':Nat->Pl),y=.inr z/\e=.panicked [{ v:=.iface tp u,recovered:=false }]/\Sim C β' (sp.enc z) { tmps:=#[u],defers:=[] } w'
def yZa(vs:List V):V :=
 match vs with
 |[v]=>v
 |_=>.dB
def ob2{α γ ρ:Type}(o:Option (Sum α γ))(k:α->Option ρ)(k':γ->Option ρ):Option ρ :=
 match o with
 |some (.inl x)=>k x
 |some (.inr x)=>k' x
 |none=>none
theorem Iu{ρ:List Nat}{h hy:List Ob}{id:Nat}(hid:id<h.length)(hn:id∉ρ):(jD ρ h hy)[id]?=h[id]?:=by
 unfold jD;have hl:∀ {g:Nat->Option Ob}{h:List Ob}{n:Nat},(Oj g n h).length=h.length:=by
  intro g h;induction h with
  |nil=>intro n;rfl
  |cons o r ih=>intro n;simp[Oj,ih]
 rw[jI (by rw[hl];exact hid),zHb,List.getElem?_eq_getElem hid];have hp:pos id ρ 0=none:=by
  cases hp:pos id ρ 0 with
  |none=>rfl
  |some j =>
   obtain⟨m,_,hm⟩:=Ce hp;exact absurd (List.mem_of_getElem? hm) hn
 simp only[Nat.zero_add,hp,Option.map_some]
def yMc{ρ:Type}(si so:Sh)(tp:TypeId)(sp:Sh)(F:si.X->Option (Sum so.X sp.X))(vs:List V)(h:List Ob)(k:Out->List Ob->Option ρ):Option ρ :=
 match si.dec ⟨vs.map (V.ren (reach vs h) h),inH (reach vs h) h⟩with
 |some x=>chk (Zy (reach vs h) h si so&&uL (inH (reach vs h) h) sp.os) (ob2 (F x)
  (λy=>k (.ret (zVj ((so.enc y).r.map (V.back (lQ (reach vs h) h.length) (jW (reach vs h) h))))) (jD (reach vs h) h (so.enc y).h))
  (λz=>k (.pan tp (yZa ((sp.enc z).r.map (V.back (lQ (reach vs h) h.length) (jW (reach vs h) h))))) (jD (reach vs h) h (sp.enc z).h)))
 |none=>none
theorem yQg{ρ:Type}{tp:TypeId}{sp:Sh}{F:si.X->Option (Sum so.X sp.X)}(hM:Eh P f si so tp sp F){vs:List V}{h:List Ob}{k:Out->List Ob->Option ρ}{r:ρ}(hr:yMc si so tp sp F vs h k=some r):iQ P f=true/\Ec P f vs h λout h'=>k out h'=some r/\∀ id,id<h.length->id∉reach vs h->h'[id]?=h[id]?:=by
 refine⟨hM.1,λC β w xs hP hs ha=>?_⟩;subst hP;unfold yMc at hr;split at hr
 case h_2=>cases hr
 rename_i x hx;obtain⟨hok,hF⟩:=iV hr;simp only[aH]at hok;obtain⟨hnd,hlt,hlen,hwr,Jy⟩:=Rz hok.1;have Eb:=zDs hx (zVk hs ha hnd hlt);cases hy:F x with
 |none=>rw[hy]at hF;cases hF
 |some y =>
  rw[hy]at hF;refine(hM.2 x y hy (inC C β h w _ hs) _ w xs rfl (by simp[inC,hlen]) Eb).mono ?_;rintro e w' (⟨z,us,β',rfl,rfl,hs'⟩|⟨z,u,β',rfl,rfl,hs'⟩)
  ·obtain⟨β2,h1,h2,h3,h4,h5⟩:=Wh hs hnd hlt hwr Jy hs';exact⟨_,_,β2,⟨hF,λid hid hn=>Iu hid hn⟩,h1,h2,h3,h4,_,rfl,zHc h5⟩
  ·obtain⟨β2,h1,h2,h3,h4,h5⟩:=Wh (us:=[u]) hs hnd hlt hwr hok.2 hs';refine⟨_,_,β2,⟨hF,λid hid hn=>Iu hid hn⟩,h1,h2,h3,h4,u,rfl,?_⟩;cases hv:(sp.enc z).r.map (V.back (lQ (reach vs h) h.length) (jW (reach vs h) h))with
   |nil=>rw[hv]at h5;exact h5.elim
   |cons v l =>
    rw[hv]at h5;cases l with
    |nil=>exact h5.1
    |cons v2 l=>exact h5.2.elim
end
end Go.Dec
namespace Go.Dec
section
variable {T:Tab}{C:Ctx}{β:Nat->Pl}{w:World}
def yEf(T:Tab)(σ:St):ResultVar->Option (Bool × V)
 |.tmp t=>some (true,σ.r.getD t .dB)
 |.cell t ty =>
  match σ.r.getD t .dB with
  |.one l=>loadAt T σ.h ty l
  |_=>none
def zDx(T:Tab)(σ:St):List ResultVar->Option (Bool × List V)
 |[]=>some (true,[])
 |x::r =>
  match yEf T σ x,zDx T σ r with
  |some (c,l),some (d,ls)=>some (c&&d,l::ls)
  |_,_=>none
theorem yMd{σ:St}{a:Act}{rv:ResultVar}{v:V}(hT:bS C.P T)(hs:Sim C β σ a w)(h:yEf T σ rv=some (true,v)):∃ x,(vK a.tmps rv).run C.P w=.ok x w/\v.Rel β w (C.N β σ.h) x:=by
 cases rv with
 |tmp t =>
  simp only[yEf,aA,aF,true_and]at h;subst h;exact⟨a.tmps.getD t undef,rfl,Vy hs t⟩
 |cell t ty =>
  simp only[yEf]at h;have hr:=Vy hs t;split at h
  ·rename_i l hl;rw[hl]at hr;obtain⟨y,h1,h2⟩:=Lx hT h hs.heap hr;obtain⟨ad,h3,h4⟩:=Ry h1;refine⟨y,?_,h2⟩;simp only[vK,h3,asAddr,Sem.run_bind,Sem.run_pure,Result.andThen_ok,h4]
  ·cases h
theorem zQp{σ:St}{a:Act}(hT:bS C.P T)(hs:Sim C β σ a w):∀ {rs:List ResultVar}{vs:List V},zDx T σ rs=some (true,vs) ->
 ∀ acc:Array Value,∃ us:List Value,(rs.foldlM (λ(acc:Array Value) rv=>do let v <- vK a.tmps rv;pure (acc.push v)) acc).run C.P w=.ok (acc++us.toArray) w/\bD (λv u=>V.Rel β w (C.N β σ.h) v u) vs us
 |[],vs,h,acc=>by
  simp only[zDx,aA,aF,true_and]at h;subst h;exact⟨[],by simp,trivial⟩
 |rv::rs,vs,h,acc=>by
  simp only[zDx]at h;split at h
  ·rename_i c s d r h1 h2;simp only[aA,aF,aH]at h;obtain⟨⟨rfl,rfl⟩,rfl⟩:=h;obtain⟨x,g1,g2⟩:=yMd hT hs h1;obtain⟨us,g4,g5⟩:=zQp hT hs h2 (acc.push x);refine⟨x::us,?_,⟨g2,g5⟩⟩;simp only[List.foldlM_cons,Sem.run_bind,g1,Result.andThen_ok,Sem.run_pure,g4];simp
  ·cases h
theorem zVm{σ:St}{a:Act}{fn:Func}{vs:List V}(hT:bS C.P T)(hs:Sim C β σ a w)(h:zDx T σ fn.results.toList=some (true,vs)):∃ us:List Value,(results fn a.tmps).run C.P w=.ok (qM us) w/\bD (λv u=>V.Rel β w (C.N β σ.h) v u) vs us:=by
 obtain⟨us,h1,h2⟩:=zQp hT hs h #[];refine⟨us,?_,h2⟩;have e0:results fn a.tmps=(do let vs <- fn.results.mapM (vK a.tmps);pure (if h:vs.size=1 then vs[0]else .tuple vs)):=by
  unfold results;congr 1
 have hm:(fn.results.mapM (vK a.tmps):Sem (Array Value)).run C.P w=.ok us.toArray w:=by
  rw[Array.mapM_eq_foldlM,<- Array.foldlM_toList];have e:(λ(acc:Array Value) rv=>do let v <- vK a.tmps rv;pure (acc.push v):Array Value->ResultVar->Sem (Array Value))=(λ(acc:Array Value) rv=>acc.push <$> vK a.tmps rv):=by
   funext acc rv;rfl
  rw[e]at h1;simpa using h1
 rw[e0];simp only[Sem.run_bind,hm,Result.andThen_ok,Sem.run_pure];match us with
 |[]=>rfl
 |[u]=>rfl
 |u::v::us=>simp[qM]
theorem zVn{σ:St}{a:Act}{vs:List V}{us:List Value}(hs:Sim C β σ a w)(h:bD (λv u=>V.Rel β w (C.N β σ.h) v u) vs us):Sim C β ⟨vs,σ.h⟩ { tmps:=us.toArray,defers:=[] } w:=by
 refine⟨hs.heap,rfl,by simpa using h.length,λi v hv=>?_⟩;have hl:i<us.length:=by rw[<- h.length];exact(bP.1 hv).1
 have hr:=h.get i (bP.1 hv).1 hl;rw[(bP.1 hv).2]at hr;have e2:(us.toArray).getD i undef=us[i]:=by simp[hl]
 simp only[e2];exact hr
def zAb(T:Tab){ρ:Type}(res:List ResultVar)(so:Sh)(co:List Co)(σ:St)(g:so.X->Option ρ):Option ρ :=
 match zDx T σ res with
 |some (c,vs)=>chk c (enter T so co ⟨vs,σ.h⟩ g)
 |none=>none
def yEg(T:Tab)(res:List ResultVar)(so:Sh)(co:List Co):K so.X:=λe σ =>
 match e with
 |.normal=>zAb T res so co σ some
 |.ret=>zAb T res so co σ some
 |_=>none
def yEh(T:Tab)(res:List ResultVar)(so:Sh)(co:List Co)(tp:TypeId)(sp:Sh)(cp:List Co):K (Sum so.X sp.X):=λe σ =>
 match e with
 |.normal=>zAb T res so co σ λy=>some (.inl y)
 |.ret=>zAb T res so co σ λy=>some (.inl y)
 |.pan t v=>match Nat.beq t tp with
  |true=>enter T sp cp ⟨[v],σ.h⟩ λz=>some (.inr z)
  |false=>none
 |_=>none
theorem zVo{σ:St}{a:Act}{fn:Func}{so:Sh}{co:List Co}{ρ:Type}{g:so.X->Option ρ}{r:ρ}{kf:Nat}(hT:bS C.P T)(hkf:C.fix.length<=kf)(hfx:cK (Co.fx kf) co=true)(hs:Sim C β σ a w)(h:zAb T fn.results.toList so co σ g=some r):∃ (us:List Value) (β':Nat->Pl) (y:so.X),(results fn a.tmps).run C.P w=.ok (qM us) w/\Sim C β' (so.enc y) { tmps:=us.toArray,defers:=[] } w/\g y=some r:=by
 unfold zAb at h;split at h
 ·rename_i c vs hvs;obtain⟨rfl,h⟩:=iV h;obtain⟨us,h1,h2⟩:=zVm hT hs hvs;obtain⟨β',_,y,h3,h4⟩:=Dh hT hkf hfx h (zVn hs h2);exact⟨us,β',y,h1,h3,h4⟩
 ·cases h
end
section
variable {P:Program}{T:Tab}{f:FuncId}{fn:Func}{c:Code}{si so sp:Sh}
theorem zQq{C:Ctx}{β:Nat->Pl}{w:World}{σ:St}{xs:List Value}(n:Nat)(hs:Sim C β σ { tmps:=xs.toArray,defers:=[] } w):Sim C β ⟨Mq σ.r n,σ.h⟩ { tmps:=xs.toArray++Array.replicate (n-xs.toArray.size) undef,defers:=[] } w:=by
 have hl:σ.r.length=xs.length:=by simpa using hs.size
 refine⟨hs.heap,rfl,by simp[Mq,hl],λi u hu=>?_⟩;simp only[Mq]at hu;by_cases hi:i<σ.r.length
 ·rw[jI hi]at hu;have hr:=hs.reg i u hu;have e:(xs.toArray++Array.replicate (n-xs.toArray.size) undef).getD i undef=(xs.toArray).getD i undef:=by
   rw[Array.getD_eq_getD_getElem?,Array.getD_eq_getD_getElem?,Array.getElem?_append_left (by simpa using by omega)]
  rw[e];exact hr
 ·rw[List.getElem?_append_right (by omega),List.getElem?_replicate]at hu;split at hu
  ·simp only[aA]at hu;subst hu;trivial
  ·cases hu
theorem iX{F:si.X->Option so.X}{Γ:Orc so.X}{an:An so.X}{co:List Co}(hf:P.funcs[f]?=some fn)(hb:fn.body=some c)(hh:iQ P f=true)(hT:bS P T)(hΓ:kV P Γ)(hm:P.follows .mixedOrders=true)(ha:zNr P si.os.length c an)(hfx:an.fx si.os.length=true)(hco:cK (Co.fx si.os.length) co=true)(h:∀ x,ev Γ T c an ⟨Mq (si.enc x).r fn.ntmps,(si.enc x).h⟩ (yEg T fn.results.toList so co)=F x):iW P f si so F:=by
 refine⟨hh,λx y hF C β w xs hP hkf hs=>?_⟩;rw[<- h x]at hF;refine calls_of_wp hf hb ?_;refine zGz (P:=P) hT hΓ hm c an ha hfx _ _ y hF C β _ w _ hP hkf (zQq fn.ntmps hs) ?_;intro e x' σ' β' a' w' hs' hx' hk;have fin:zAb T fn.results.toList so co σ' some=some y->x'=.ret\/x'=.normal->bodyPost P fn (λe w'=>∃ (us:List Value) (β':Nat->Pl),e=.returned (qM us)/\Sim C β' (so.enc y) { tmps:=us.toArray,defers:=[] } w') x' a' w':=by
  intro hk hx';subst hP;obtain⟨us,β2,y',h1,h2,h3⟩:=zVo (fn:=fn) hT hkf hco hs' hk;obtain rfl:=Option.some.inj h3;rcases hx' with rfl|rfl
  ·exact⟨hs'.defers,_,h1,us,β2,rfl,h2⟩
  ·exact⟨hs'.defers,_,h1,us,β2,rfl,h2⟩
 cases e with
 |normal=>obtain rfl:=hx';exact fin hk (.inr rfl)
 |ret=>obtain rfl:=hx';exact fin hk (.inl rfl)
 |exit i=>simp[yEg]at hk
 |goto l=>simp[yEg]at hk
 |pan t u=>simp[yEg]at hk
theorem zAc{tp:TypeId}{F:si.X->Option (Sum so.X sp.X)}{Γ:Orc (Sum so.X sp.X)}{an:An (Sum so.X sp.X)}{co cp:List Co}(hf:P.funcs[f]?=some fn)(hb:fn.body=some c)(hh:iQ P f=true)(hT:bS P T)(hΓ:kV P Γ)(hm:P.follows .mixedOrders=true)(ha:zNr P si.os.length c an)(hfx:an.fx si.os.length=true)(hco:cK (Co.fx si.os.length) co=true)(hcp:cK (Co.fx si.os.length) cp=true)(h:∀ x,ev Γ T c an ⟨Mq (si.enc x).r fn.ntmps,(si.enc x).h⟩ (yEh T fn.results.toList so co tp sp cp)=F x):Eh P f si so tp sp F:=by
 refine⟨hh,λx y hF C β w xs hP hkf hs=>?_⟩;rw[<- h x]at hF;refine calls_of_wp hf hb ?_;refine zGz (P:=P) hT hΓ hm c an ha hfx _ _ y hF C β _ w _ hP hkf (zQq fn.ntmps hs) ?_;intro e x' σ' β' a' w' hs' hx' hk;subst hP;have fin:(zAb T fn.results.toList so co σ' λy=>some (.inl y))=some y->x'=.ret\/x'=.normal->bodyPost C.P fn (λe w'=>(∃ (z:so.X) (us:List Value) (β':Nat->Pl),y=.inl z/\e=.returned (qM us)/\Sim C β' (so.enc z) { tmps:=us.toArray,defers:=[] } w') \/
  ∃ (z:sp.X) (u:Value) (β':Nat->Pl),y=.inr z/\e=.panicked [{ v:=.iface tp u,recovered:=false }]/\Sim C β' (sp.enc z) { tmps:=#[u],defers:=[] } w') x' a' w':=by
  intro hk hx';obtain⟨us,β2,y',h1,h2,h3⟩:=zVo (fn:=fn) hT hkf hco hs' hk;obtain rfl:=Option.some.inj h3;rcases hx' with rfl|rfl
  ·exact⟨hs'.defers,_,h1,.inl ⟨y',us,β2,rfl,rfl,h2⟩⟩
  ·exact⟨hs'.defers,_,h1,.inl ⟨y',us,β2,rfl,rfl,h2⟩⟩
 cases e with
 |normal=>obtain rfl:=hx';exact fin hk (.inr rfl)
 |ret=>obtain rfl:=hx';exact fin hk (.inl rfl)
 |exit i=>simp[yEh]at hk
 |goto l=>simp[yEh]at hk
 |pan t u =>
  simp only[yEh]at hk;split at hk
  ·rename_i hb;have:=aU hb;subst this;obtain⟨x0,rfl,hx0⟩:=hx';obtain⟨β2,_,z,h3,h4⟩:=Dh hT hkf hcp hk (zVn (vs:=[u]) (us:=[x0]) hs' ⟨hx0,trivial⟩);obtain rfl:=Option.some.inj h4;exact⟨hs'.defers,.inr ⟨z,x0,β2,rfl,rfl,h3⟩⟩
  ·cases hk
structure GE (ρ:Type) where
 f:FuncId
 run:List V->List Ob->(Out->List Ob->Option ρ)->Option ρ
 ids:List V->List Ob->List Nat:=reach
structure GE.OK (P:Program) {ρ:Type}(g:GE ρ):Prop where
 ok:∀ vs h k r,g.run vs h k=some r->iQ P g.f=true/\Ec P g.f vs h λout h'=>k out h'=some r/\∀ id,id<h.length->id∉g.ids vs h->h'[id]?=h[id]?
def yMe{ρ:Type}:List (GE ρ)->FuncId->List V->List Ob->(Out->List Ob->Option ρ)->Option ρ
 |[],_,_,_,_=>none
 |g::r,f,vs,h,k=>match Nat.beq g.f f with
  |true=>g.run vs h k
  |false=>yMe r f vs h k
def yEi{ρ:Type}:List (GE ρ)->FuncId->List V->List Ob->List Nat
 |[],_,vs,h=>reach vs h
 |g::r,f,vs,h=>match Nat.beq g.f f with
  |true=>g.ids vs h
  |false=>yEi r f vs h
def bK (ρ:Type) (l:List (FuncId×PE)) (m:List (GE ρ)):Orc ρ:=⟨pes l,yMe m,yEi m⟩
theorem aS{ρ:Type}{l:List (FuncId × PE)}{m:List (GE ρ)}(h:∀ p∈l,p.2.OK P p.1)(hm:∀ g∈m,g.OK P):kV P (bK ρ l m):=by
 refine⟨(yTa (ρ:=ρ) h).pure,λf vs hp k r hr=>?_⟩;simp only[bK]at hr;induction m with
 |nil=>cases hr
 |cons g m ih =>
  simp only[yMe]at hr;split at hr
  ·rename_i hb;simp only[bK,yEi,hb];have:=aU hb;subst this;exact(hm g (.head _)).ok vs hp k r hr
  ·rename_i hb;simp only[bK,yEi,hb];exact ih (λg hg=>hm g (.tail _ hg)) hr
def geP {ρ:Type} (f:FuncId) (si so:Sh) (tp:TypeId) (sp:Sh) (F:si.X->Option (Sum so.X sp.X)):GE ρ := { f:=f,run:=yMc si so tp sp F }
theorem zAd{ρ:Type}{tp:TypeId}{F:si.X->Option (Sum so.X sp.X)}(h:Eh P f si so tp sp F):(geP (ρ:=ρ) f si so tp sp F).OK P:=⟨λ_ _ _ _ hr=>yQg h hr⟩
theorem aT{ρ:Type}:∀ g∈([]:List (GE ρ)),g.OK P:=λ_ h=>by cases h
theorem dU{ρ:Type}{g:GE ρ}{m:List (GE ρ)}(h:g.OK P)(hm:∀ g∈m,g.OK P):∀ x∈g::m,x.OK P:=λx hx=>by
 cases hx with
 |head=>exact h
 |tail _ hx=>exact hm x hx
end
def Wi {α ρ:Type} (B:Nat->(α->Option ρ)->α->Option ρ):Nat->α->Option ρ | 0,_=>none | n+1,x=>B n (Wi B n) x
theorem yQh{P:Program}{f:FuncId}{as rs:List Ty}(hh:iQ P f=true):Pure P f as rs (λ_=>none):=⟨hh,λ_ _ h=>by cases h⟩
theorem yMf{P:Program}{f:FuncId}{si so:Sh}(hh:iQ P f=true):iW P f si so (λ_=>none):=⟨hh,λ_ _ h=>by cases h⟩
theorem Hl{P:Program}{f:FuncId}{as rs:List Ty}{B:Nat->(bF as->Option (bF rs))->bF as->Option (bF rs)}(hh:iQ P f=true)(h:∀ n r,Pure P f as rs r->Pure P f as rs (B n r)):∀ n,Pure P f as rs (Wi B n)
 |0=>yQh hh
 |n+1=>h n _ (Hl hh h n)
theorem zQr{P:Program}{f:FuncId}{si so:Sh}{B:Nat->(si.X->Option so.X)->si.X->Option so.X}(hh:iQ P f=true)(h:∀ n r,iW P f si so r->iW P f si so (B n r)):∀ n,iW P f si so (Wi B n)
 |0=>yMf hh
 |n+1=>h n _ (zQr hh h n)
end Go.Dec
