/- Part of a proof over this seat: a library of my own, and what it says of this seat. No statement is proved here. -/
import Derived.Test.YtfbilefiaminnaaGreatDoorPartAJ
import Derived.WalkKit
import Derived.OwnWalkIn
import Derived.TacticsInMore
import Derived.Lib.SliceRun
namespace Go.Dec
mutual
def L.back (f v:Nat->Nat):L->L | .ptr id o => .ptr (f id) o | .fC id o => .fC (f id) o | .rY id o es i sub => .rY (f id) o es i sub | .iZ id u i o => .iZ (f id) (u+v id) i o | .sl id u i n => .sl (f id) (u+v id) i n | .own id u => .own (f id) (u+v id) | .clo g caps => .clo g (L.backs f v caps) | .mp id => .mp (f id) | l=>l
def L.backs (f v:Nat->Nat):List L->List L | []=>[] | l :: ls=>l.back f v :: L.backs f v ls
end
def V.back (f v:Nat->Nat):V->V | .one l => .one (l.back f v) | .agg ls => .agg (L.backs f v ls) | _ => .bY
def Ob.back (f v:Nat->Nat) (id:Nat):Ob->Ob | .box e ls => .box e (L.backs f v ls) | .arr e t u rows wr => .arr e t (u+v id) rows wr | .fm tab => .fm tab | .dm kt vt es => .dm kt vt es | .stk e ei u rows top => .stk e ei (u+v id) rows (top.map (L.backs f v))
section
variable {β β':Nat->Pl}
variable {w:World}
variable {N N':Nat->Nat->Prop}
structure zHj (p q:Pl) (v:Nat):Prop where
 live:q.live=p.live
 box:q.box=p.box
 blk:q.blk=p.blk
 row:p.box=false->q.ver=p.ver+v/\q.size=p.size/\q.cap=p.cap/\q.len=p.len
 sub:p.box=false->q.sub=p.sub
theorem zHj.yUc{p q:Pl}{v:Nat}(h:zHj p q v)(hb:p.box=false){off len:Nat}{c:Value}:eO q off len c<->eO p off len c:=by
 obtain⟨_,h2,h3,_⟩:=h.row hb;unfold eO;rw[h.blk,h2,h3]
mutual
theorem L.Rel.back{f v:Nat->Nat}(hβ:∀ j,(β j).live=true->zHj (β j) (β' (f j)) (v j))(hN:∀ b j,b<w.heap.size->N' b j->N b j):∀ {l:L}{cs:List Value},l.Rel β w N cs->(l.back f v).Rel β' w N' cs
 |.val t x,cs,h=>by simp only[L.back,L.Rel]at *;exact Ty.Rel.mono (Keep.refl _ w) hN h
 |.ptr id off,cs,h=>by
  simp only[L.back,L.Rel]at *;obtain⟨h1,h2,h3⟩:=h;have:=hβ id h1;exact⟨this.live ▸ h1,this.box ▸ h2,by rw[this.blk];exact h3⟩
 |.rY id off es i sub,cs,h=>by
  simp only[L.back,L.Rel]at *;obtain⟨h1,h2,h3⟩:=h;have:=hβ id h1;exact⟨this.live ▸ h1,this.box ▸ h2,by rw[this.blk];exact h3⟩
 |.lF,cs,h=>by simp only[L.back,L.Rel]at *;exact h
 |.fC id off,cs,h=>by
  simp only[L.back,L.Rel]at *;obtain⟨c,e,h⟩:=h;refine⟨c,e,?_⟩;rcases h with h|⟨h1,h2,h3⟩
  ·exact .inl h
  ·have:=hβ id h1;exact .inr ⟨this.live ▸ h1,this.box ▸ h2,by rw[this.blk];exact h3⟩
 |.iZ id u i off,cs,h=>by
  simp only[L.back,L.Rel]at *;obtain⟨h1,h2,h3,c,h4,h5,h6⟩:=h;have:=hβ id h1;obtain⟨g1,g2,g3,g4⟩:=this.row h2;refine⟨this.live ▸ h1,this.box ▸ h2,by omega,c,h4,h5,λhv=>?_⟩;rw[this.blk,g2];exact h6 (by omega)
 |.qY t x off,cs,h=>by simp only[L.back,L.Rel]at *;obtain⟨c,hc,hr⟩:=h;exact⟨c,hc,hr.mono (Keep.refl _ w) hN⟩
 |.sl id u off len,cs,h=>by
  simp only[L.back,L.Rel]at *;obtain⟨h1,h2,h3,c,h4,h5,h6⟩:=h;have:=hβ id h1;obtain⟨g1,g2,g3,g4⟩:=this.row h2;exact⟨this.live ▸ h1,this.box ▸ h2,by omega,c,h4,h5,λhv=>(this.yUc h2).2 (h6 (by omega))⟩
 |.own id u,cs,h=>by
  simp only[L.back,L.Rel]at *;obtain⟨h1,h2,h3,c,h4,h5,h6⟩:=h;have:=hβ id h1;obtain⟨g1,g2,g3,g4⟩:=this.row h2;exact⟨this.live ▸ h1,this.box ▸ h2,by omega,c,h4,h5,λhv=>by rw[g4];exact(this.yUc h2).2 (h6 (by omega))⟩
 |.bJ,cs,h=>by simp only[L.back,L.Rel]at *;exact h
 |.clo g caps,cs,h=>by
  simp only[L.back,L.Rel]at *;obtain⟨us,hc,hr⟩:=h;exact⟨us,hc,L.eD.back hβ hN hr⟩
 |.bad n,cs,h=>by simp only[L.back,L.Rel]at *;exact h
 |.Rz x tab,cs,h=>by simp only[L.back,L.Rel]at *;exact h
 |.mp id,cs,h=>by
  simp only[L.back,L.Rel]at *;obtain⟨h1,h2,h3⟩:=h;have:=hβ id h1;exact⟨this.live ▸ h1,this.box ▸ h2,by rw[this.blk];exact h3⟩
theorem L.eD.back{f v:Nat->Nat}(hβ:∀ j,(β j).live=true->zHj (β j) (β' (f j)) (v j))(hN:∀ b j,b<w.heap.size->N' b j->N b j):∀ {ls:List L}{us:List Value},L.eD β w N ls us->L.eD β' w N' (L.backs f v ls) us
 |[],us,h=>by simp only[L.backs,L.eD]at *;exact h
 |l::ls,us,h=>by
  simp only[L.backs,L.eD]at *;obtain⟨u,r,e,h1,h2⟩:=h;exact⟨u,r,e,L.Rel.back hβ hN h1,L.eD.back hβ hN h2⟩
end
theorem aG.back{f v:Nat->Nat}(hβ:∀ j,(β j).live=true->zHj (β j) (β' (f j)) (v j))(hN:∀ b j,b<w.heap.size->N' b j->N b j):∀ {ls:List L}{cs:List Value},aG β w N ls cs->aG β' w N' (L.backs f v ls) cs
 |[],_,h=>h
 |_l::_ls,_,⟨c1,c2,e,h1,h2⟩=>⟨c1,c2,e,h1.back hβ hN,aG.back hβ hN h2⟩
theorem V.Rel.back{f v:Nat->Nat}(hβ:∀ j,(β j).live=true->zHj (β j) (β' (f j)) (v j))(hN:∀ b j,b<w.heap.size->N' b j->N b j){x:V}{u:Value}(h:x.Rel β w N u):(x.back f v).Rel β' w N' u:=by
 cases x with
 |one l=>exact L.Rel.back hβ hN h
 |agg ls=>obtain⟨cs,e,h⟩:=h;exact⟨cs,e,h.back hβ hN⟩
 |_=>trivial
theorem Ob.Rel.back{f v:Nat->Nat}(hβ:∀ j,(β j).live=true->zHj (β j) (β' (f j)) (v j))(hN:∀ b j,b<w.heap.size->N' b j->N b j){id:Nat}{o:Ob}(h:o.Rel β w N (β id)):(o.back f v id).Rel β' w N' (β' (f id)):=by
 cases o with
 |box e ls =>
  simp only[Ob.back,Ob.Rel]at *;obtain⟨h1,h2,b,cs,h3,h4,h5⟩:=h;have:=hβ id h1;exact⟨this.live ▸ h1,this.box ▸ h2,b,cs,this.blk ▸ h3,h4.back hβ hN,h5⟩
 |arr e t u rows wr =>
  simp only[Ob.back,Ob.Rel]at *;obtain⟨h1,h2,h3,h4,h5,h6,h7⟩:=h;have:=hβ id h1;obtain⟨g1,g2,g3,g4⟩:=this.row h2;refine⟨this.live ▸ h1,this.box ▸ h2,by omega,by rw[g2,h4],h5,by rw[g4,h6],?_⟩;rw[this.blk,g3];rcases h7 with h7|⟨b,cur,css,k1,k2,k3,k4⟩
  ·exact .inl h7
  ·exact .inr ⟨b,cur,css,k1,k2,k3.mono λ_ _ h=>h.mono (Keep.refl _ w) hN,k4⟩
 |fm tab =>
  simp only[Ob.back,Ob.Rel]at *;obtain⟨h1,h2,b,es,n,h3,h4⟩:=h;have:=hβ id h1;exact⟨this.live ▸ h1,this.box ▸ h2,b,es,n,this.blk ▸ h3,h4⟩
 |dm kt vt es =>
  simp only[Ob.back,Ob.Rel]at *;obtain⟨h1,h2,b,ms,h3,h4,h5⟩:=h;have:=hβ id h1;exact⟨this.live ▸ h1,this.box ▸ h2,b,ms,this.blk ▸ h3,h4,h5.mono (Keep.refl _ w) hN⟩
 |stk e ei u rows top =>
  simp only[Ob.back,Ob.Rel]at *;obtain⟨h1,h2,h3,h4,h5,b,cur,cs,cs2,bs,k1,k2,k3,k4,k5,k6,k7,k8,k9,k10,k11⟩:=h;have:=hβ id h1;obtain⟨g1,g2,g3,g4⟩:=this.row h2;exact⟨this.live ▸ h1,this.box ▸ h2,by omega,by rw[g2,h4],by rw[g4,h5,zCz],b,cur,cs,cs2,bs,this.blk ▸ k1,k2,by rw[g3];exact k3,by rw[g3,g4];exact k4,by rw[g3];exact k5,by rw[this.sub h2];exact k6,k7,k8,k9,k10.imp _ λls cs _ hl=>hl.back hβ hN,by rw[g4];exact k11⟩
end
def dV(P:Program)(f:FuncId)(si so:Sh)(F:si.X->Option so.X):Prop :=
 iH P f=true/\∀ x y,F x=some y->∀ (C:Ctx) (β:Nat->Pl) (w:World) (xs:List Value),C.P=P->C.fix.length<=si.os.length->Sim C β (si.enc x) { tmps:=xs.toArray,defers:=[] } w ->
  Calls P f xs.toArray w λe w'=>∃ (us:List Value) (β':Nat->Pl),e=.returned (sG us)/\Sim C β' (so.enc y) { tmps:=us.toArray,defers:=[] } w'
def zPs:List V->Option (List (Sum L (List L)))
 |[]=>some []
 |v::r=>match v.sum,zPs r with
  |some s,some ss=>some (s::ss)
  |_,_=>none
def zSy(vs:List V):V :=
 match zPs vs with
 |some ss=>yQz ss
 |none=>.bY
def Vy(g:Nat->Option Ob):Nat->List Ob->List Ob
 |_,[]=>[]
 |i,o::r=>(match g i with|some o'=>o'|none=>o)::Vy g (i+1) r
def Aa (f v:Nat->Nat):Nat->List Ob->List Ob | _,[]=>[] | j,o :: r=>o.back f v j :: Aa f v (j+1) r
def uX:List Ob->List OS->Bool | [],_=>true | .box .. :: r,_ :: s=>uX r s | .fm .. :: r,_ :: s=>uX r s | .dm .. :: r,_ :: s=>uX r s | .arr .. :: r,.row .. :: s=>uX r s | .stk .. :: r,.stk .. :: s=>uX r s | _,_=>false
def lJ(ρ:List Nat)(n:Nat)(j:Nat):Nat:=match ρ[j]? with|some i=>i|none=>n+(j-ρ.length)
def jS(ρ:List Nat)(h:List Ob)(j:Nat):Nat:=match ρ[j]? with
 |some i=>(match h[i]? with|some (.arr _ _ u _ _)=>u+1|some (.stk _ _ u _ _)=>u+1|_=>0)
 |none=>0
def fZ(ρ:List Nat)(h hy:List Ob):List Ob :=
 Vy (λi=>match pos i ρ 0 with|some j=>(match hy[j]? with|some o=>some (o.back (lJ ρ h.length) (jS ρ h) j)|none=>none)|none=>none) 0 h++Aa (lJ ρ h.length) (jS ρ h) ρ.length (hy.drop ρ.length)
def zBi (ρ:List Nat) (h:List Ob) (si so:Sh):Bool :=nodupB ρ&&(dA (fun i=>Nat.blt i h.length) ρ&&(Nat.beq ρ.length si.os.length&&(dA Ob.wr (inH ρ h)&&uX (inH ρ h) so.os)))
def peM(si so:Sh)(F:si.X->Option so.X):PE where
 R:=so.X
 use:=3
 run vs h:=match si.dec ⟨vs.map (V.ren (reach vs h) h),inH (reach vs h) h⟩with
  |some x=>some (zBi (reach vs h) h si so,F x)
  |none=>none
 enc y vs h:=(zSy ((so.enc y).r.map (V.back (lJ (reach vs h) h.length) (jS (reach vs h) h))),fZ (reach vs h) h (so.enc y).h)
theorem zNd{g:Nat->Option Ob}:∀ {h:List Ob}{n i:Nat},(Vy g n h)[i]?=(h[i]?).map λo=>(match g (n+i) with|some o'=>o'|none=>o)
 |[],n,i=>by simp[Vy]
 |o::r,n,0=>by simp[Vy]
 |o::r,n,i+1=>by
  simp only[Vy,List.getElem?_cons_succ];rw[zNd (h:=r),show n+1+i=n+(i+1)by omega]
theorem Ia{g:Nat->Option Ob}:∀ {h:List Ob}{n:Nat},(Vy g n h).length=h.length
 |[],_=>rfl
 |_::r,n=>congrArg (· + 1) (Ia (h:=r) (n:=n+1))
theorem zHk{f v:Nat->Nat}:∀ {h:List Ob}{n i:Nat},(Aa f v n h)[i]?=(h[i]?).map λo=>o.back f v (n+i)
 |[],n,i=>by simp[Aa]
 |o::r,n,0=>by simp[Aa]
 |o::r,n,i+1=>by
  simp only[Aa,List.getElem?_cons_succ];rw[zHk (h:=r),show n+1+i=n+(i+1)by omega]
theorem Za{f v:Nat->Nat}:∀ {h:List Ob}{n:Nat},(Aa f v n h).length=h.length
 |[],_=>rfl
 |_::r,n=>congrArg (· + 1) (Za (h:=r) (n:=n+1))
theorem Ob.zHl{f v:Nat->Nat}{j:Nat}(o:Ob):(o.back f v j).sU=o.sU:=by cases o<;>rfl
theorem Ob.Nz{f v:Nat->Nat}{j:Nat}(o:Ob):(o.back f v j).wr=o.wr:=by cases o<;>rfl
theorem Br:∀ {hc:List Ob}{os:List OS}{j:Nat}{e:TypeId}{t:Ty}{u:Nat}{rows:List t.den}{wr:Bool},uX hc os=true->hc[j]?=some (.arr e t u rows wr)->∃ e' t',os[j]?=some (.row e' t')
 |[],_,j,_,_,_,_,_,_,h=>by simp at h
 |.box .. :: r,[],j,_,_,_,_,_,hk,_=>by cases hk
 |.box .. :: r,s::os,0,_,_,_,_,_,_,h=>by simp at h
 |.box .. :: r,s::os,j+1,_,_,_,_,_,hk,h=>by
  obtain⟨e',t',h'⟩:=Br (hc:=r) (os:=os) (j:=j) hk (by simpa using h);exact⟨e',t',by simpa using h'⟩
 |.fm .. :: r,[],j,_,_,_,_,_,hk,_=>by cases hk
 |.fm .. :: r,s::os,0,_,_,_,_,_,_,h=>by simp at h
 |.fm .. :: r,s::os,j+1,_,_,_,_,_,hk,h=>by
  obtain⟨e',t',h'⟩:=Br (hc:=r) (os:=os) (j:=j) hk (by simpa using h);exact⟨e',t',by simpa using h'⟩
 |.dm .. :: r,[],j,_,_,_,_,_,hk,_=>by cases hk
 |.dm .. :: r,s::os,0,_,_,_,_,_,_,h=>by simp at h
 |.dm .. :: r,s::os,j+1,_,_,_,_,_,hk,h=>by
  obtain⟨e',t',h'⟩:=Br (hc:=r) (os:=os) (j:=j) hk (by simpa using h);exact⟨e',t',by simpa using h'⟩
 |.stk .. :: r,[],j,_,_,_,_,_,hk,_=>by cases hk
 |.stk .. :: r,.box .. :: os,j,_,_,_,_,_,hk,_=>by cases hk
 |.stk .. :: r,.row .. :: os,j,_,_,_,_,_,hk,_=>by cases hk
 |.stk .. :: r,.fm .. :: os,j,_,_,_,_,_,hk,_=>by cases hk
 |.stk .. :: r,.dm .. :: os,j,_,_,_,_,_,hk,_=>by cases hk
 |.stk .. :: r,.stk .. :: os,0,_,_,_,_,_,_,h=>by simp at h
 |.stk .. :: r,.stk .. :: os,j+1,_,_,_,_,_,hk,h=>by
  obtain⟨e',t',h'⟩:=Br (hc:=r) (os:=os) (j:=j) hk (by simpa using h);exact⟨e',t',by simpa using h'⟩
 |.arr .. :: r,.stk .. :: os,j,_,_,_,_,_,hk,_=>by cases hk
 |.arr .. :: r,.fm .. :: os,j,_,_,_,_,_,hk,_=>by cases hk
 |.arr .. :: r,.dm .. :: os,j,_,_,_,_,_,hk,_=>by cases hk
 |.arr .. :: r,[],j,_,_,_,_,_,hk,_=>by cases hk
 |.arr .. :: r,.box .. :: os,j,_,_,_,_,_,hk,_=>by cases hk
 |.arr .. :: r,.row e t::os,0,_,_,_,_,_,_,_=>⟨e,t,rfl⟩
 |.arr .. :: r,.row e t::os,j+1,_,_,_,_,_,hk,h=>by
  obtain⟨e',t',h'⟩:=Br (hc:=r) (os:=os) (j:=j) hk (by simpa using h);exact⟨e',t',by simpa using h'⟩
theorem Jz{A:Type}:∀ {os:List OS}{x:OTs os A}{j:Nat}{e:TypeId}{t:Ty},os[j]?=some (.row e t)->∃ rows,(fQ os x).1[j]?=some (.arr e t 0 rows true)
 |[],_,j,_,_,h=>by simp at h
 |.box e0 ls::r,x,0,_,_,h=>by simp at h
 |.box e0 ls::r,x,j+1,e,t,h=>by
  obtain⟨rows,h'⟩:=Jz (os:=r) (x:=(fP ls x).2) (j:=j) (by simpa using h);exact⟨rows,by simpa [fQ]using h'⟩
 |.fm tab::r,x,0,_,_,h=>by simp at h
 |.fm tab::r,x,j+1,e,t,h=>by
  obtain⟨rows,h'⟩:=Jz (os:=r) (x:=x) (j:=j) (by simpa using h);exact⟨rows,by simpa [fQ]using h'⟩
 |.dm kt vt::r,x,0,_,_,h=>by simp at h
 |.dm kt vt::r,x,j+1,e,t,h=>by
  obtain⟨rows,h'⟩:=Jz (os:=r) (x:=x.2) (j:=j) (by simpa using h);exact⟨rows,by simpa [fQ]using h'⟩
 |.stk e0 ei::r,x,0,_,_,h=>by simp at h
 |.stk e0 ei::r,x,j+1,e,t,h=>by
  obtain⟨rows,h'⟩:=Jz (os:=r) (x:=x.2) (j:=j) (by simpa using h);exact⟨rows,by simpa [fQ]using h'⟩
 |.row e0 t0::r,x,0,e,t,h=>by
  simp only[List.getElem?_cons_zero,aA,OS.row.injEq]at h;obtain⟨rfl,rfl⟩:=h;exact⟨x.1,rfl⟩
 |.row e0 t0::r,x,j+1,e,t,h=>by
  obtain⟨rows,h'⟩:=Jz (os:=r) (x:=x.2) (j:=j) (by simpa using h);exact⟨rows,by simpa [fQ]using h'⟩
theorem Bt:∀ {hc:List Ob}{os:List OS}{j:Nat}{e ei:TypeId}{u:Nat}{rows:List (Int × Int × List Int × List Int × Unit)}{top:Option (List L)},uX hc os=true->hc[j]?=some (.stk e ei u rows top)->∃ e' ei',os[j]?=some (.stk e' ei')
 |[],_,j,_,_,_,_,_,_,h=>by simp at h
 |.box .. :: r,[],j,_,_,_,_,_,hk,_=>by cases hk
 |.box .. :: r,s::os,0,_,_,_,_,_,_,h=>by simp at h
 |.box .. :: r,s::os,j+1,_,_,_,_,_,hk,h=>by
  obtain⟨e',t',h'⟩:=Bt (hc:=r) (os:=os) (j:=j) hk (by simpa using h);exact⟨e',t',by simpa using h'⟩
 |.fm .. :: r,[],j,_,_,_,_,_,hk,_=>by cases hk
 |.fm .. :: r,s::os,0,_,_,_,_,_,_,h=>by simp at h
 |.fm .. :: r,s::os,j+1,_,_,_,_,_,hk,h=>by
  obtain⟨e',t',h'⟩:=Bt (hc:=r) (os:=os) (j:=j) hk (by simpa using h);exact⟨e',t',by simpa using h'⟩
 |.dm .. :: r,[],j,_,_,_,_,_,hk,_=>by cases hk
 |.dm .. :: r,s::os,0,_,_,_,_,_,_,h=>by simp at h
 |.dm .. :: r,s::os,j+1,_,_,_,_,_,hk,h=>by
  obtain⟨e',t',h'⟩:=Bt (hc:=r) (os:=os) (j:=j) hk (by simpa using h);exact⟨e',t',by simpa using h'⟩
 |.arr .. :: r,[],j,_,_,_,_,_,hk,_=>by cases hk
 |.arr .. :: r,.box .. :: os,j,_,_,_,_,_,hk,_=>by cases hk
 |.arr .. :: r,.fm .. :: os,j,_,_,_,_,_,hk,_=>by cases hk
 |.arr .. :: r,.dm .. :: os,j,_,_,_,_,_,hk,_=>by cases hk
 |.arr .. :: r,.stk .. :: os,j,_,_,_,_,_,hk,_=>by cases hk
 |.stk .. :: r,[],j,_,_,_,_,_,hk,_=>by cases hk
 |.stk .. :: r,.box .. :: os,j,_,_,_,_,_,hk,_=>by cases hk
 |.stk .. :: r,.row .. :: os,j,_,_,_,_,_,hk,_=>by cases hk
 |.stk .. :: r,.fm .. :: os,j,_,_,_,_,_,hk,_=>by cases hk
 |.stk .. :: r,.dm .. :: os,j,_,_,_,_,_,hk,_=>by cases hk
 |.arr .. :: r,.row .. :: os,0,_,_,_,_,_,_,h=>by simp at h
 |.arr .. :: r,.row .. :: os,j+1,_,_,_,_,_,hk,h=>by
  obtain⟨e',t',h'⟩:=Bt (hc:=r) (os:=os) (j:=j) hk (by simpa using h);exact⟨e',t',by simpa using h'⟩
 |.stk .. :: r,.stk e ei::os,0,_,_,_,_,_,_,_=>⟨e,ei,rfl⟩
 |.stk .. :: r,.stk .. :: os,j+1,_,_,_,_,_,hk,h=>by
  obtain⟨e',t',h'⟩:=Bt (hc:=r) (os:=os) (j:=j) hk (by simpa using h);exact⟨e',t',by simpa using h'⟩
theorem Ka{A:Type}:∀ {os:List OS}{x:OTs os A}{j:Nat}{e ei:TypeId},os[j]?=some (.stk e ei)->∃ rows,(fQ os x).1[j]?=some (.stk e ei 0 rows none)
 |[],_,j,_,_,h=>by simp at h
 |.box e0 ls::r,x,0,_,_,h=>by simp at h
 |.box e0 ls::r,x,j+1,e,t,h=>by
  obtain⟨rows,h'⟩:=Ka (os:=r) (x:=(fP ls x).2) (j:=j) (by simpa using h);exact⟨rows,by simpa [fQ]using h'⟩
 |.fm tab::r,x,0,_,_,h=>by simp at h
 |.fm tab::r,x,j+1,e,t,h=>by
  obtain⟨rows,h'⟩:=Ka (os:=r) (x:=x) (j:=j) (by simpa using h);exact⟨rows,by simpa [fQ]using h'⟩
 |.dm kt vt::r,x,0,_,_,h=>by simp at h
 |.dm kt vt::r,x,j+1,e,t,h=>by
  obtain⟨rows,h'⟩:=Ka (os:=r) (x:=x.2) (j:=j) (by simpa using h);exact⟨rows,by simpa [fQ]using h'⟩
 |.row e0 t0::r,x,0,_,_,h=>by simp at h
 |.row e0 t0::r,x,j+1,e,t,h=>by
  obtain⟨rows,h'⟩:=Ka (os:=r) (x:=x.2) (j:=j) (by simpa using h);exact⟨rows,by simpa [fQ]using h'⟩
 |.stk e0 t0::r,x,0,e,t,h=>by
  simp only[List.getElem?_cons_zero,aA,OS.stk.injEq]at h;obtain⟨rfl,rfl⟩:=h;exact⟨x.1,rfl⟩
 |.stk e0 t0::r,x,j+1,e,t,h=>by
  obtain⟨rows,h'⟩:=Ka (os:=r) (x:=x.2) (j:=j) (by simpa using h);exact⟨rows,by simpa [fQ]using h'⟩
theorem Oa{A:Type}:∀ {os:List OS}{x:OTs os A}{j:Nat}{o:Ob},(fQ os x).1[j]?=some o->o.wr=true
 |[],_,j,_,h=>by simp[fQ]at h
 |.box e0 ls::r,x,0,_,h=>by simp only[fQ,List.getElem?_cons_zero,aA]at h;subst h;rfl
 |.box e0 ls::r,x,j+1,o,h=>Oa (os:=r) (x:=(fP ls x).2) (j:=j) (by simpa [fQ]using h)
 |.fm tab::r,x,0,_,h=>by simp only[fQ,List.getElem?_cons_zero,aA]at h;subst h;rfl
 |.fm tab::r,x,j+1,o,h=>Oa (os:=r) (x:=x) (j:=j) (by simpa [fQ]using h)
 |.dm kt vt::r,x,0,_,h=>by simp only[fQ,List.getElem?_cons_zero,aA]at h;subst h;rfl
 |.dm kt vt::r,x,j+1,o,h=>Oa (os:=r) (x:=x.2) (j:=j) (by simpa [fQ]using h)
 |.stk e0 ei::r,x,0,_,h=>by simp only[fQ,List.getElem?_cons_zero,aA]at h;subst h;rfl
 |.stk e0 ei::r,x,j+1,o,h=>Oa (os:=r) (x:=x.2) (j:=j) (by simpa [fQ]using h)
 |.row e0 t0::r,x,0,_,h=>by simp only[fQ,List.getElem?_cons_zero,aA]at h;subst h;rfl
 |.row e0 t0::r,x,j+1,o,h=>Oa (os:=r) (x:=x.2) (j:=j) (by simpa [fQ]using h)
theorem zVd{β:Nat->Pl}{w:World}{N:Nat->Nat->Prop}:∀ {vs:List V}{us:List Value}{ss:List (Sum L (List L))},zPs vs=some ss->bD (λv u=>V.Rel β w N v u) vs us->bD (jH β w N) ss us
 |[],[],ss,h,_=>by simp only[zPs,aA]at h;subst h;trivial
 |v::vs,u::us,ss,h,hr=>by
  simp only[zPs]at h;split at h
  ·rename_i s ss' h1 h2;simp only[aA]at h;subst h;exact⟨V.zSx h1 hr.1,zVd h2 hr.2⟩
  ·cases h
 |[],_::_,_,_,hr=>hr.elim
 |_::_,[],_,_,hr=>hr.elim
theorem zNe{β:Nat->Pl}{w:World}{N:Nat->Nat->Prop}{vs:List V}{us:List Value}(hr:bD (λv u=>V.Rel β w N v u) vs us):(zSy vs).Rel β w N (sG us):=by
 unfold zSy;split
 ·rename_i ss h;exact yAe (zVd h hr)
 ·trivial
theorem yFv{α γ:Type}{R:α->γ->Prop}:∀ {x:List α}{y:List γ},x.length=y.length->(∀ (i:Nat) (a:α) (b:γ),x[i]?=some a->y[i]?=some b->R a b)->bD R x y
 |[],[],_,_=>trivial
 |a::x,b::y,hl,h=>⟨h 0 a b rfl rfl,yFv (by simpa using hl) λi c d hc hd=>h (i+1) c d (by simpa using hc) (by simpa using hd)⟩
 |[],_::_,hl,_=>by simp at hl
 |_::_,[],hl,_=>by simp at hl
end Go.Dec
namespace Go.Dec
section
variable {P:Program}
variable {f:FuncId}
variable {si so:Sh}
variable {F:si.X->Option so.X}
theorem Zu{ρ:List Nat}{h:List Ob}(hc:zBi ρ h si so=true):nodupB ρ=true/\(∀ i∈ρ,i<h.length)/\ρ.length=si.os.length/\(∀ (j:Nat) (o:Ob),(inH ρ h)[j]?=some o->o.wr=true)/\uX (inH ρ h) so.os=true:=by
 simp only[zBi,aD]at hc;obtain⟨h1,h2,h3,h4,h5⟩:=hc;refine⟨h1,λi hi=>?_,aK h3,λj o ho=>xV h4 j o ho,h5⟩;obtain⟨n,hn⟩:=List.getElem?_of_mem hi;exact bR (xV h2 n i hn)
def Cz:Ob->Bool | .box ..=>true | .arr ..=>false | .fm _=>true | .dm ..=>true | .stk ..=>false
def Le(β:Nat->Pl)(h:List Ob)(i:Nat):Option Nat:=match Cz (zDi h i) with|true=>(β i).blk|false=>none
def inC(C:Ctx)(β:Nat->Pl)(h:List Ob)(w:World)(ρ:List Nat)(hs:fB C β h w):Ctx where
 P:=C.P
 N0 b j:=C.N β h b j/\∀ i∈ρ,∀ o,h[i]?=some o->¬ o.blks (β i) b
 w0:=w
 Sb b j:=∃ (i:Nat) (o:Ob),i∈ρ/\h[i]?=some o/\o.wr=true/\o.at (β i) b j
 glob w' hw:=C.glob w' (hs.frame.tN hw λb j hb hm=>by
  obtain⟨i,o,_,ho,hwo,hbk⟩:=hm;rcases(hs.eY i o b ho ⟨j,hbk⟩).2.2 with h1|h1
  ·omega
  ·exact h1 j hwo hbk)
 fix:=ρ.map (Le β h)
theorem yAf{C:Ctx}{β:Nat->Pl}{w:World}{h:List Ob}{ρ:List Nat}{vs:List V}{xs:List Value}(hs:fB C β h w)(ha:rA β w (C.N β h) vs xs)(hnd:nodupB ρ=true)(hlt:∀ i∈ρ,i<h.length):Sim (inC C β h w ρ hs) (Nv β ρ) ⟨vs.map (V.ren ρ h),inH ρ h⟩ { tmps:=xs.toArray,defers:=[] } w:=by
 have zMy:=zZn hs hlt;have hget:∀ i∈ρ,∃ o,h[i]?=some o:=λi hi=>⟨h[i]'(hlt i hi),by simp[hlt i hi]⟩
 have hβ:∀ {j i:Nat},ρ[j]?=some i->Nv β ρ j={ β i with ver:=0 }:=λhi=>by simp only[Nv,hi]
 have hNw:∀ b j,C.N β h b j->b<w.heap.size:=λb j hb=>by
  rcases hb with hb|⟨id,o,ho,_,hbk⟩
  ·exact Nat.lt_of_lt_of_le (hs.n0 b j hb) hs.size
  ·exact(hs.eY id o b ho ⟨j,hbk⟩).2.1
 have hN:∀ b j,b<w.heap.size->(inC C β h w ρ hs).N (Nv β ρ) (inH ρ h) b j->C.N β h b j:=λb k _ hb=>by
  rcases hb with hb|⟨j,o,ho,hw,hbk⟩
  ·exact hb.1
  ·obtain⟨i,hi,rfl⟩:=Bp ho;obtain⟨o',ho'⟩:=hget i (List.mem_of_getElem? hi);rw[gU ho',Ob.zGx]at hw;rw[gU ho',hβ hi]at hbk;exact .inr ⟨i,o',ho',hw,Ob.zA (Ob.zV ρ h o') rfl rfl hbk⟩
 refine⟨⟨?_,?_,?_,?_,λb j hb=>hNw b j hb.1,Keep.refl _ _,aP _,rfl,rfl,rfl,?_⟩,rfl,by simpa using bD.length ha,?_⟩
 ·intro j o ho;obtain⟨i,hi,rfl⟩:=Bp ho;obtain⟨o',ho'⟩:=hget i (List.mem_of_getElem? hi);rw[gU ho',hβ hi];have hob:=hs.obj i o' ho';cases o' with
  |box e ls =>
   simp only[Ob.ren,Ob.Rel]at *;obtain⟨h1,h2,b,cs,h3,h4,h5⟩:=hob;exact⟨h1,h2,b,cs,h3,h4.Gs zMy hN,h5⟩
  |arr e t v rows wr =>
   simp only[Ob.ren,Ob.Rel]at *;obtain⟨h1,h2,h3,h4,h5,h6,h7⟩:=hob;refine⟨h1,h2,trivial,h4,h5,h6,?_⟩;rcases h7 with h7|⟨b,cur,css,k1,k2,k3,k4⟩
   ·exact .inl h7
   ·exact .inr ⟨b,cur,css,k1,k2,k3.mono λ_ _ h=>h.mono (Keep.refl _ w) hN,k4⟩
  |fm tab=>simp only[Ob.ren,Ob.Rel]at *;exact hob
  |dm kt vt es =>
   simp only[Ob.ren,Ob.Rel]at *;obtain⟨h1,h2,b,ms,h3,h4,h5⟩:=hob;exact⟨h1,h2,b,ms,h3,h4,h5.mono (Keep.refl _ w) hN⟩
  |stk e ei v rows top =>
   simp only[Ob.ren,Ob.Rel]at *;obtain⟨g1,g2,g3,g4,g5,b,cur,cs,cs2,bs,k1,k2,k3,k4,k5,k6,k7,k8,k9,k10,k11⟩:=hob;exact⟨g1,g2,trivial,g4,by rw[zCz];exact g5,b,cur,cs,cs2,bs,k1,k2,k3,k4,k5,k6,k7,k8,k9,k10.imp _ λls cs _ hl=>hl.Gs zMy hN,k11⟩
 ·intro j hj;simp only[inH,List.length_map]at hj;simp only[Nv,List.getElem?_eq_none hj]
 ·intro i j o1 o2 b h1 h2 hb1 hb2;obtain⟨i',hi,rfl⟩:=Bp h1;obtain⟨j',hj,rfl⟩:=Bp h2;obtain⟨o1',ho1⟩:=hget i' (List.mem_of_getElem? hi);obtain⟨o2',ho2⟩:=hget j' (List.mem_of_getElem? hj);rw[hβ hi,gU ho1]at hb1;rw[hβ hj,gU ho2]at hb2;have:=hs.kR i' j' o1' o2' b ho1 ho2 (Ob.mI (Ob.zV ρ h o1') rfl rfl hb1) (Ob.mI (Ob.zV ρ h o2') rfl rfl hb2);subst this;exact Tz hnd hi hj
 ·intro j o b ho hb;obtain⟨i,hi,rfl⟩:=Bp ho;obtain⟨o',ho'⟩:=hget i (List.mem_of_getElem? hi);rw[gU ho',hβ hi]at hb ⊢;have hb':=Ob.mI (o':=o') (p':=β i) (Ob.zV ρ h o') rfl rfl hb;exact⟨λk hn=>hn.2 i (List.mem_of_getElem? hi) o' ho' hb',(hs.eY i o' b ho' hb').2.1,.inr λk hw hk=>⟨i,o',List.mem_of_getElem? hi,ho',by rw[Ob.zGx]at hw;exact hw,Ob.zA (Ob.zV ρ h o') rfl rfl hk⟩⟩
 ·intro j o hj;simp only[inC,List.getElem?_map,Option.map_eq_some_iff]at hj;obtain⟨i,hi,rfl⟩:=hj;refine⟨by simpa [inH]using(bE.1 hi).1,λb hb=>?_⟩;obtain⟨o',ho'⟩:=hget i (List.mem_of_getElem? hi);have hob:=hs.obj i o' ho';rw[hβ hi];unfold Le at hb;rw[gU ho']at hb;cases o' with
  |box e ls =>
   simp only[Ob.Rel]at hob;exact⟨hb,hob.2.1⟩
  |arr e t v rows wr=>cases hb
  |stk e ei v rows top=>cases hb
  |fm tab =>
   simp only[Ob.Rel]at hob;exact⟨hb,hob.2.1⟩
  |dm kt vt es =>
   simp only[Ob.Rel]at hob;exact⟨hb,hob.2.1⟩
 ·intro i v hv;simp only[List.getElem?_map,Option.map_eq_some_iff]at hv;obtain⟨v0,hv0,rfl⟩:=hv;have hl:i<xs.length:=by rw[<- bD.length ha];exact(bE.1 hv0).1
  have hr:=ha.get i (bE.1 hv0).1 hl;have e:vs[i]'(bE.1 hv0).1=v0:=(bE.1 hv0).2;rw[e]at hr;have e2:(xs.toArray).getD i undef=xs[i]:=by simp[hl]
  simp only[e2];exact hr.Gs zMy hN
def qG(β β':Nat->Pl)(ρ:List Nat)(h:List Ob):Nat->Pl:=λi =>
 match pos i ρ 0 with
 |some j=>match Cz (zDi h i)with
  |true=>β i
  |false=>{ β' j with ver:=(β' j).ver+jS ρ h j }
 |none=>if i<h.length then β i else β' (i-h.length+ρ.length)
theorem Zv{ρ:List Nat}{h hy:List Ob}(hk:ρ.length<=hy.length){id:Nat}{o:Ob}(ho:(fZ ρ h hy)[id]?=some o):(id<h.length/\pos id ρ 0=none/\h[id]?=some o)\/(∃ j ob oy,id<h.length/\ρ[j]?=some id/\pos id ρ 0=some j/\h[id]?=some ob/\hy[j]?=some oy/\o=oy.back (lJ ρ h.length) (jS ρ h) j) \/
  ∃ j oy,ρ.length<=j/\id=h.length+(j-ρ.length)/\hy[j]?=some oy/\o=oy.back (lJ ρ h.length) (jS ρ h) j:=by
 unfold fZ at ho;by_cases hid:id<h.length
 ·rw[fV (by rw[Ia];exact hid),zNd,Nat.zero_add]at ho;obtain⟨ob,hob⟩:∃ ob,h[id]?=some ob:=⟨h[id],by simp[hid]⟩;rw[hob]at ho;simp only[Option.map_some,aA]at ho;cases hp:pos id ρ 0 with
  |none =>
   rw[hp]at ho;simp only at ho;exact .inl ⟨hid,rfl,by rw[hob,ho]⟩
  |some j =>
   obtain⟨m,hm,hi⟩:=Jg hp;rw[Nat.zero_add]at hm;subst hm;have hj:j<hy.length:=Nat.lt_of_lt_of_le (bE.1 hi).1 hk;have hyj:hy[j]?=some hy[j]:=by simp[hj]
   rw[hp]at ho;simp only[hyj]at ho;exact .inr (.inl ⟨j,ob,hy[j],hid,hi,rfl,hob,hyj,ho.symm⟩)
 ·rw[List.getElem?_append_right (by rw[Ia];omega),Ia,zHk,List.getElem?_drop]at ho;simp only[Option.map_eq_some_iff]at ho;obtain⟨oy,h1,h2⟩:=ho;exact .inr (.inr ⟨ρ.length+(id-h.length),oy,by omega,by omega,h1,h2.symm⟩)
theorem zBj{ρ:List Nat}{h hy:List Ob}:(fZ ρ h hy).length=h.length+(hy.length-ρ.length):=by
 simp[fZ,Ia,Za]
theorem zDz{C:Ctx}{β:Nat->Pl}{h:List Ob}{w w':World}{ρ:List Nat}(hs:fB C β h w)(hnd:nodupB ρ=true)(hlt:∀ i∈ρ,i<h.length)(hwr:∀ (j:Nat) (o:Ob),(inH ρ h)[j]?=some o->o.wr=true)(Ib:uX (inH ρ h) so.os=true){y:so.X}{us:List Value}{β':Nat->Pl}(hs':Sim (inC C β h w ρ hs) β' (so.enc y) { tmps:=us.toArray,defers:=[] } w'):∃ β2,Moves β β2/\Keep (C.N β h) w w'/\(∀ b j,b<w.heap.size->C.N β2 (fZ ρ h (so.enc y).h) b j->C.N β h b j)/\fB C β2 (fZ ρ h (so.enc y).h) w' /\
  bD (λv u=>V.Rel β2 w' (C.N β2 (fZ ρ h (so.enc y).h)) v u) ((so.enc y).r.map (V.back (lJ ρ h.length) (jS ρ h))) us:=by
 generalize hhy:(so.enc y).h=hy at *;have hget:∀ i∈ρ,∃ o,h[i]?=some o:=λi hi=>⟨h[i]'(hlt i hi),by simp[hlt i hi]⟩
 have hfix:∀ {j i:Nat},ρ[j]?=some i->j<hy.length/\∀ b,Le β h i=some b->(β' j).blk=some b/\(β' j).box=true:=λ{j i} hi=>by
  have:=hs'.heap.fixed j (Le β h i) (by simp[inC,hi]);rw[hhy]at this;exact this
 have hk:ρ.length<=hy.length:=by
  rcases jB hy.length ρ.length with h1|h1
  ·have:=(hfix (j:=hy.length) (i:=ρ[hy.length]) (by simp[h1])).1;omega
  ·exact h1
 have xGk:∀ i∈ρ,∀ o,h[i]?=some o->o.wr=true:=λi hi o ho=>by
  obtain⟨n,hn⟩:=List.getElem?_of_mem hi;have:=hwr n ((zDi h i).ren ρ h) (by simp[inH,hn]);rw[Ob.zGx,gU ho]at this;exact this
 have hrow:∀ {j i:Nat}{o:Ob},ρ[j]?=some i->h[i]?=some o->Cz o=false->∃ oy,hy[j]?=some oy/\Cz oy=false:=λ{j i o} hi ho hb=>by
  cases o with
  |box e ls=>cases hb
  |fm tab=>cases hb
  |dm=>cases hb
  |stk e ei u rows top =>
   obtain⟨e',ei',hrw⟩:=Bt (j:=j) (e:=e) (ei:=ei) (u:=0) (rows:=rows) (top:=top.map (L.Nr ρ h)) Ib (by simp[inH,hi,gU ho,Ob.ren]);obtain⟨rows',hr'⟩:=Ka (A:=Unit) (x:=(Ua so.rs (List.replicate so.n .bY) y).2) hrw;exact⟨_,by rw[<- hhy];exact hr',rfl⟩
  |arr e t u rows wr =>
   obtain⟨e',t',hrw⟩:=Br (j:=j) (e:=e) (t:=t) (u:=0) (rows:=rows) (wr:=wr) Ib (by simp[inH,hi,gU ho,Ob.ren]);obtain⟨rows',hr'⟩:=Jz (A:=Unit) (x:=(Ua so.rs (List.replicate so.n .bY) y).2) hrw;exact⟨_,by rw[<- hhy];exact hr',rfl⟩
 have zNf:=hs'.heap.obj;rw[hhy]at zNf;have yNc:∀ j,hy.length<=j->(β' j).live=false:=λj hj=>hs'.heap.dead j (by rw[hhy];exact hj)
 have zBk:=hs'.heap.eY;rw[hhy]at zBk;have yFw:=hs'.heap.kR;rw[hhy]at yFw;have yJh:∀ {j i:Nat}{o:Ob},ρ[j]?=some i->h[i]?=some o->Cz o=true->(β' j).box=true/\(β' j).blk=(β i).blk/\(β i).box=true/\(β i).live=true/\(β' j).live=true:=λ{j i o} hi ho hb=>by
  have hob:=hs.obj i o ho;obtain⟨hj,hfx⟩:=hfix hi;cases o with
  |arr=>cases hb
  |stk=>cases hb
  |dm kt vt es =>
   simp only[Ob.Rel]at hob;obtain⟨k1,k2,b,ms,k3,_⟩:=hob;have hfo:Le β h i=some b:=by simp only[Le,gU ho,Cz,k3]
   obtain⟨g1,g2⟩:=hfx b hfo;exact⟨g2,by rw[g1,k3],k2,k1,(zNf j hy[j] (by simp[hj])).live⟩
  |fm tab =>
   simp only[Ob.Rel]at hob;obtain⟨k1,k2,b,es,n,k3,_⟩:=hob;have hfo:Le β h i=some b:=by simp only[Le,gU ho,Cz,k3]
   obtain⟨g1,g2⟩:=hfx b hfo;exact⟨g2,by rw[g1,k3],k2,k1,(zNf j hy[j] (by simp[hj])).live⟩
  |box e ls =>
   simp only[Ob.Rel]at hob;obtain⟨k1,k2,b,cs,k3,_⟩:=hob;have hfo:Le β h i=some b:=by simp only[Le,gU ho,Cz,k3]
   obtain⟨g1,g2⟩:=hfx b hfo;exact⟨g2,by rw[g1,k3],k2,k1,(zNf j hy[j] (by simp[hj])).live⟩
 have yRb:∀ {j i:Nat}{o:Ob},ρ[j]?=some i->h[i]?=some o->Cz o=true->qG β β' ρ h i=β i:=λhi ho hb=>by
  simp only[qG,yFn hnd hi,gU ho,hb]
 have yRc:∀ {j i:Nat}{o:Ob},ρ[j]?=some i->h[i]?=some o->Cz o=false->qG β β' ρ h i={ β' j with ver:=(β' j).ver+jS ρ h j }:=λhi ho hb=>by
  simp only[qG,yFn hnd hi,gU ho,hb]
 have yJi:∀ {i:Nat},pos i ρ 0=none->i<h.length->qG β β' ρ h i=β i:=λhp hi=>by
  simp only[qG,hp,if_pos hi]
 have yUd:∀ {i:Nat},h.length<=i->pos i ρ 0=none:=λ{i} hi=>by
  cases hp:pos i ρ 0 with
  |none=>rfl
  |some j =>
   obtain⟨m,_,hm⟩:=Jg hp;have:=hlt i (List.mem_of_getElem? hm);omega
 have yYq:∀ {j:Nat},ρ.length<=j->qG β β' ρ h (h.length+(j-ρ.length))=β' j:=λ{j} hj=>by
  simp only[qG,yUd (Nat.le_add_right _ _)];rw[if_neg (by omega)];congr 1;omega
 have eF:∀ {j i:Nat},ρ[j]?=some i->lJ ρ h.length j=i:=λhi=>by simp only[lJ,hi]
 have eF2:∀ {j:Nat},ρ.length<=j->lJ ρ h.length j=h.length+(j-ρ.length):=λhj=>by simp only[lJ,List.getElem?_eq_none hj]
 have eU2:∀ {j:Nat},ρ.length<=j->jS ρ h j=0:=λhj=>by simp only[jS,List.getElem?_eq_none hj]
 have hpl:∀ j,(β' j).live=true->zHj (β' j) (qG β β' ρ h (lJ ρ h.length j)) (jS ρ h j):=λj hl=>by
  have hj:j<hy.length:=by
   rcases jB j hy.length with h1|h1
   ·exact h1
   ·rw[yNc j h1]at hl;cases hl
  cases hi:ρ[j]? with
  |some i =>
   rw[eF hi];obtain⟨o,ho⟩:=hget i (List.mem_of_getElem? hi);cases hb:Cz o with
   |true =>
    obtain⟨g1,g2,g3,g4,g5⟩:=yJh hi ho hb;rw[yRb hi ho hb];exact⟨by rw[g4,hl],by rw[g3,g1],g2.symm,λh=>(by rw[g1]at h;cases h),λh=>(by rw[g1]at h;cases h)⟩
   |false =>
    rw[yRc hi ho hb];exact⟨rfl,rfl,rfl,λ_=>⟨rfl,rfl,rfl,rfl⟩,λ_=>rfl⟩
  |none =>
   have hge:ρ.length<=j:=List.getElem?_eq_none_iff.1 hi;rw[eF2 hge,yYq hge,eU2 hge];exact⟨rfl,rfl,rfl,λ_=>⟨rfl,rfl,rfl,rfl⟩,λ_=>rfl⟩
 have hown:∀ {b k:Nat},(inC C β h w ρ hs).Sb b k->∃ (i:Nat) (o:Ob),i∈ρ/\h[i]?=some o/\o.wr=true/\o.at (β i) b k:=λ{b k} hb=>hb
 have hkeep:Keep (C.N β h) w w':=hs'.heap.frame.weaken λk j ho=>by
  obtain⟨i,o,_,h2,h3,h4⟩:=hown ho;exact .inr ⟨i,o,h2,h3,h4⟩
 have hat:∀ {id j:Nat}{ob oy:Ob},ρ[j]?=some id->h[id]?=some ob->hy[j]?=some oy->∀ b k,(oy.back (lJ ρ h.length) (jS ρ h) j).at (qG β β' ρ h id) b k->oy.at (β' j) b k:=λ{id j ob oy} hi hob hoy b k hbk=>by
  cases hb2:Cz ob with
  |true =>
   have hp:oy.sU=false:=(zNf j oy hoy).yPj (yJh hi hob hb2).1;rw[yRb hi hob hb2]at hbk;have:=Ob.zMm (by simp[Ob.plain,Ob.zHl,hp]) hbk;exact Ob.mH (by rw[(yJh hi hob hb2).2.1];exact this)
  |false =>
   rw[yRc hi hob hb2]at hbk;exact Ob.zA (Ob.zHl oy) rfl rfl hbk
 have yRd:∀ {j:Nat}{oy:Ob},ρ.length<=j->∀ b k,(oy.back (lJ ρ h.length) (jS ρ h) j).at (qG β β' ρ h (h.length+(j-ρ.length))) b k->oy.at (β' j) b k:=λ{j oy} hj b k hbk=>by
  rw[yYq hj]at hbk;exact Ob.zA (Ob.zHl oy) rfl rfl hbk
 have yAg:Moves β (qG β β' ρ h):=λid hl=>by
  have hid:id<h.length:=by
   rcases jB id h.length with h1|h1
   ·exact h1
   ·rw[hs.dead id h1]at hl;cases hl
  cases hp:pos id ρ 0 with
  |none=>exact .inl (yJi hp hid)
  |some j =>
   obtain⟨m,hm,hi⟩:=Jg hp;rw[Nat.zero_add]at hm;subst hm;obtain⟨o,ho⟩:=hget id (List.mem_of_getElem? hi);cases hb:Cz o with
   |true=>exact .inl (yRb hi ho hb)
   |false =>
    obtain⟨oy,hoy,hby⟩:=hrow hi ho hb;have hY:=zNf j oy hoy;have hO:=hs.obj id o ho;rw[yRc hi ho hb];cases o with
    |box=>cases hb
    |fm=>cases hb
    |dm=>cases hb
    |stk e ei u rows top =>
     cases oy with
     |box=>cases hby
     |fm=>cases hby
     |dm=>cases hby
     |arr e' t' u' rows' wr' =>
      simp only[Ob.Rel]at hY hO;refine .inr ⟨hO.2.1,hY.1,hY.2.1,?_⟩;simp only[jS,hi,ho];have:=hO.2.2.1;omega
     |stk e' ei' u' rows' top' =>
      simp only[Ob.Rel]at hY hO;refine .inr ⟨hO.2.1,hY.1,hY.2.1,?_⟩;simp only[jS,hi,ho];have:=hO.2.2.1;omega
    |arr e t u rows wr =>
     cases oy with
     |box=>cases hby
     |fm=>cases hby
     |dm=>cases hby
     |stk e' ei' u' rows' top' =>
      simp only[Ob.Rel]at hY hO;refine .inr ⟨hO.2.1,hY.1,hY.2.1,?_⟩;simp only[jS,hi,ho];have:=hO.2.2.1;omega
     |arr e' t' u' rows' wr' =>
      simp only[Ob.Rel]at hY hO;refine .inr ⟨hO.2.1,hY.1,hY.2.1,?_⟩;simp only[jS,hi,ho];have:=hO.2.2.1;omega
 have hbl:∀ {b k:Nat},b<w.heap.size->w.heap.size<=b\/(inC C β h w ρ hs).Sb b k->C.N β h b k:=λ{b k} hb ho=>by
  rcases ho with ho|ho
  ·omega
  ·obtain⟨i,o,_,h2,h3,h4⟩:=hown ho;exact .inr ⟨i,o,h2,h3,h4⟩
 have yUe:∀ b j,b<w.heap.size->C.N (qG β β' ρ h) (fZ ρ h hy) b j->C.N β h b j:=λb k hb hn=>by
  rcases hn with hn|⟨id,o,ho,hw,hbk⟩
  ·exact .inl hn
  ·rcases Zv hk ho with ⟨hid,hp,ho⟩|⟨j,ob,oy,hid,hi,hp,hob,hoy,rfl⟩|⟨j,oy,hj,rfl,hoy,rfl⟩
   ·rw[yJi hp hid]at hbk;exact .inr ⟨id,o,ho,hw,hbk⟩
   ·rw[Ob.Nz]at hw;have hbk:=hat hi hob hoy b k hbk;exact hbl hb ((zBk j oy b hoy ⟨k,hbk⟩).2.2.imp (λh=>h) λh=>h k hw hbk)
   ·rw[Ob.Nz]at hw;have hbk:=yRd hj b k hbk;exact hbl hb ((zBk j oy b hoy ⟨k,hbk⟩).2.2.imp (λh=>h) λh=>h k hw hbk)
 have yUf:∀ b j,b<w'.heap.size->C.N (qG β β' ρ h) (fZ ρ h hy) b j->(inC C β h w ρ hs).N β' (so.enc y).h b j:=λb k _ hn=>by
  rw[hhy];rcases hn with hn|⟨id,o,ho,hw,hbk⟩
  ·exact .inl ⟨.inl hn,λi hi o ho hbk=>(hs.eY i o b ho hbk).1 k hn⟩
  ·rcases Zv hk ho with ⟨hid,hp,ho⟩|⟨j,ob,oy,hid,hi,hp,hob,hoy,rfl⟩|⟨j,oy,hj,rfl,hoy,rfl⟩
   ·rw[yJi hp hid]at hbk;refine .inl ⟨.inr ⟨id,o,ho,hw,hbk⟩,λi hi oi hoi hbi=>?_⟩;have:=hs.kR id i o oi b ho hoi ⟨k,hbk⟩ hbi;subst this;exact Vt hp hi
   ·rw[Ob.Nz]at hw;exact .inr ⟨j,oy,hoy,hw,hat hi hob hoy b k hbk⟩
   ·rw[Ob.Nz]at hw;exact .inr ⟨j,oy,hoy,hw,yRd hj b k hbk⟩
 have zHh:∀ {id:Nat}{o:Ob}{b:Nat},pos id ρ 0=none->h[id]?=some o->o.blks (β id) b->b<w.heap.size/\∀ k,¬ (inC C β h w ρ hs).Sb b k:=λ{id o b} hp ho hb=>by
  refine⟨(hs.eY id o b ho hb).2.1,λk hw=>?_⟩;obtain⟨i,oi,h1,h2,_,h4⟩:=hown hw;have:=hs.kR id i o oi b ho h2 hb ⟨k,h4⟩;subst this;exact Vt hp h1
 have hcls:∀ {id:Nat}{o:Ob},(fZ ρ h hy)[id]?=some o->(pos id ρ 0=none/\h[id]?=some o/\qG β β' ρ h id=β id)\/∃ j oy,hy[j]?=some oy/\id=lJ ρ h.length j/\o=oy.back (lJ ρ h.length) (jS ρ h) j/\∀ b k,o.at (qG β β' ρ h id) b k->oy.at (β' j) b k:=λ{id o} ho=>by
  rcases Zv hk ho with ⟨hid,hp,ho⟩|⟨j,ob,oy,hid,hi,hp,hob,hoy,rfl⟩|⟨j,oy,hj,rfl,hoy,rfl⟩
  ·exact .inl ⟨hp,ho,yJi hp hid⟩
  ·exact .inr ⟨j,oy,hoy,(eF hi).symm,rfl,hat hi hob hoy⟩
  ·exact .inr ⟨j,oy,hoy,(eF2 hj).symm,rfl,yRd hj⟩
 have yYr:∀ {j:Nat}{oy:Ob},hy[j]?=some oy->(oy.back (lJ ρ h.length) (jS ρ h) j).wr=true:=λ{j oy} hoy=>by
  rw[Ob.Nz,<- hhy]at *;exact Oa hoy
 have yYs:∀ {j id:Nat}{oy:Ob}{b:Nat},hy[j]?=some oy->(∀ b k,(oy.back (lJ ρ h.length) (jS ρ h) j).at (qG β β' ρ h id) b k->oy.at (β' j) b k)->(oy.back (lJ ρ h.length) (jS ρ h) j).blks (qG β β' ρ h id) b->b<w.heap.size->(∀ k,¬ (inC C β h w ρ hs).Sb b k)->False:=λ{j id oy b} hoy eb hb g1 g2=>by
  obtain⟨q,hb⟩:=hb;rcases(zBk j oy b hoy ⟨q,eb b q hb⟩).2.2 with h3|h3
  ·have h3:w.heap.size<=b:=h3;omega
  ·have hw:=yYr hoy;rw[Ob.Nz]at hw;exact g2 q (h3 q hw (eb b q hb))
 have hHS:fB C (qG β β' ρ h) (fZ ρ h hy) w':=by
  refine⟨?_,?_,?_,?_,hs.n0,?_,Nat.le_trans hs.size hs'.heap.size,hs'.heap.os.trans hs.os,hs'.heap.tape.trans hs.tape,hs'.heap.output.trans hs.output,?_⟩
  ·intro id o ho;rcases hcls ho with ⟨hp,ho,eb⟩|⟨j,oy,hoy,rfl,rfl,_⟩
   ·rw[eb];exact(hs.obj id o ho).mono yAg hkeep yUe λb hb=>hs'.heap.frame.block b (zHh hp ho hb).1 (zHh hp ho hb).2
   ·have hY:=zNf j oy hoy;rw[<- hhy]at hY;exact Ob.Rel.back (f:=lJ ρ h.length) (v:=jS ρ h) hpl yUf hY
  ·intro id hid;rw[zBj]at hid;have hp:=yUd (i:=id) (by omega);simp only[qG,hp];rw[if_neg (by omega)];exact yNc _ (by omega)
  ·intro i j o1 o2 b h1 h2 hb1 hb2;rcases hcls h1 with ⟨hp1,ho1,eb1⟩|⟨j1,oy1,yYt,rfl,rfl,eb1⟩<;>rcases hcls h2 with ⟨hp2,ho2,eb2⟩|⟨j2,oy2,yYu,rfl,rfl,eb2⟩
   ·rw[eb1]at hb1;rw[eb2]at hb2;exact hs.kR i j o1 o2 b ho1 ho2 hb1 hb2
   ·exfalso;rw[eb1]at hb1;obtain⟨g1,g2⟩:=zHh hp1 ho1 hb1;exact yYs yYu eb2 hb2 g1 g2
   ·exfalso;rw[eb2]at hb2;obtain⟨g1,g2⟩:=zHh hp2 ho2 hb2;exact yYs yYt eb1 hb1 g1 g2
   ·obtain⟨q1,hb1⟩:=hb1;obtain⟨q2,hb2⟩:=hb2;rw[yFw j1 j2 oy1 oy2 b yYt yYu ⟨q1,eb1 b q1 hb1⟩ ⟨q2,eb2 b q2 hb2⟩]
  ·intro id o b ho hb;rcases hcls ho with ⟨hp,ho,eb⟩|⟨j,oy,hoy,rfl,rfl,eb⟩
   ·rw[eb]at hb ⊢;obtain⟨k1,k2,k3⟩:=hs.eY id o b ho hb;exact⟨k1,Nat.lt_of_lt_of_le k2 hs'.heap.size,k3⟩
   ·obtain⟨q,hb⟩:=hb;obtain⟨k1,k2,k3⟩:=zBk j oy b hoy ⟨q,eb b q hb⟩;rcases jB b w.heap.size with hlt|hge
    ·have hold:∀ k,(oy.back (lJ ρ h.length) (jS ρ h) j).wr=true->(oy.back (lJ ρ h.length) (jS ρ h) j).at (qG β β' ρ h (lJ ρ h.length j)) b k->∃ (i:Nat) (o:Ob),i∈ρ/\h[i]?=some o/\o.wr=true/\o.at (β i) b k:=λk hw hk=>by
      rw[Ob.Nz]at hw;rcases k3 with k3|k3
      ·have k3:w.heap.size<=b:=k3;omega
      ·exact hown (k3 k hw (eb b k hk))
     have hwy:(oy.back (lJ ρ h.length) (jS ρ h) j).wr=true:=yYr hoy;obtain⟨i,oi,h1,h2,h3,h4⟩:=hold q hwy hb;obtain⟨g1,g2,g3⟩:=hs.eY i oi b h2 ⟨q,h4⟩;refine⟨g1,k2,?_⟩;rcases g3 with g3|g3
     ·exact .inl g3
     ·right;intro k hw hk;obtain⟨i2,oi2,f1,f2,f3,f4⟩:=hold k hw hk;rcases(hs.eY i2 oi2 b f2 ⟨k,f4⟩).2.2 with g5|g5
      ·have:=hs.kR i i2 oi oi2 b h2 f2 ⟨q,h4⟩ ⟨k,f4⟩;subst this;rw[h2]at f2;simp only[aA]at f2;subst f2;exact g3 k f3 f4
      ·exact g5 k f3 f4
    ·have h0:=hs.size;exact⟨λ_ hn=>by have:=hs.n0 b _ hn;omega,k2,.inl (by omega)⟩
  ·refine hs.frame.tN hs'.heap.frame λb j hb ho=>?_
   obtain⟨i,oi,h1,h2,h3,h4⟩:=hown ho;rcases(hs.eY i oi b h2 ⟨j,h4⟩).2.2 with h5|h5
   ·omega
   ·exact h5 j h3 h4
  ·intro j o hj;obtain⟨k1,k2⟩:=hs.fixed j o hj;refine⟨by rw[zBj];omega,λb hb=>?_⟩;obtain⟨k3,k4⟩:=k2 b hb;have hoj:h[j]?=some h[j]:=by simp[k1]
   rcases yAg j (hs.obj j _ hoj).live with e|⟨e,_⟩
   ·rw[e];exact⟨k3,k4⟩
   ·rw[k4]at e;cases e
 refine⟨qG β β' ρ h,yAg,hkeep,yUe,hHS,?_⟩;refine yFv (by have:=hs'.size;simpa using this) λi v u hv hu=>?_
 simp only[List.getElem?_map,Option.map_eq_some_iff]at hv;obtain⟨v0,hv0,rfl⟩:=hv;have hr:=hs'.reg i v0 hv0;have e:(us.toArray).getD i undef=u:=by
  rw[Array.getD_eq_getD_getElem?];simp[hu]
 simp only[e]at hr;exact hr.back (f:=lJ ρ h.length) (v:=jS ρ h) hpl yUf
theorem yUg{l:L}(h:l.isD=true):l.ids=[]:=by
 cases l<;>first|rfl|(cases h;done)|(rename_i f cs;cases cs<;>first|rfl|cases h)
theorem yNd:∀ {ls:List L},dA L.isD ls=true->L.zMv ls=[]
 |[],_=>rfl
 |l::ls,h=>by
  simp only[dA,aD]at h;simp only[L.zMv,yUg h.1,yNd h.2,List.append_nil]
theorem yNe:∀ {vs:List V},dA V.isD vs=true->zZj vs=[]
 |[],_=>rfl
 |v::vs,h=>by
  simp only[dA,aD]at h;have h1:v.ids=[]:=by
   cases v with
   |one l=>exact yUg h.1
   |agg ls=>exact yNd h.1
   |_=>rfl
  simp only[zZj,h1,yNe h.2,List.append_nil]
theorem zKh{vs:List V}{h:List Ob}(hd:dA V.isD vs=true):reach vs h=[]:=by
 unfold reach;rw[yNe hd];rfl
theorem yUh{ρ:List Nat}{h h2:List Ob}{l:L}(hd:l.isD=true):l.ren ρ h=l.ren ρ h2:=by
 cases l<;>first|rfl|(cases hd;done)|(rename_i f cs;cases cs<;>first|rfl|cases hd)
theorem yNf{ρ:List Nat}{h h2:List Ob}:∀ {ls:List L},dA L.isD ls=true->L.Nr ρ h ls=L.Nr ρ h2 ls
 |[],_=>rfl
 |l::ls,hd=>by
  simp only[dA,aD]at hd;simp only[L.Nr,yUh (h:=h) (h2:=h2) hd.1,yNf (h:=h) (h2:=h2) hd.2]
theorem yNg{ρ:List Nat}{h h2:List Ob}:∀ {vs:List V},dA V.isD vs=true->vs.map (V.ren ρ h)=vs.map (V.ren ρ h2)
 |[],_=>rfl
 |v::vs,hd=>by
  simp only[dA,aD]at hd;have h1:V.ren ρ h v=V.ren ρ h2 v:=by
   cases v with
   |one l=>simp only[V.ren,yUh (h:=h) (h2:=h2) hd.1]
   |agg ls=>simp only[V.ren,yNf (h:=h) (h2:=h2) hd.1]
   |_=>rfl
  simp only[List.map_cons,h1,yNg (h:=h) (h2:=h2) hd.2]
theorem zVe:∀ {h:List Ob}{n:Nat},Vy (λ_=>none) n h=h
 |[],_=>rfl
 |o::r,n=>by simp only[Vy,zVe]
theorem zLr(h hy:List Ob):fZ [] h hy=h++Aa (lJ [] h.length) (jS [] h) 0 hy:=by
 unfold fZ;simp only[pos,List.length_nil,List.drop_zero,zVe]
theorem yWf{vs:List V}{h h2:List Ob}(hd:dA V.isD vs=true)(hl:h2.length=h.length):(peM si so F).run vs h=(peM si so F).run vs h2/\∀ y,((peM si so F).enc y vs h).1=((peM si so F).enc y vs h2).1/\∃ os,((peM si so F).enc y vs h).2=h++os/\((peM si so F).enc y vs h2).2=h2++os:=by
 have e1:vs.map (V.ren [] h)=vs.map (V.ren [] h2):=yNg hd;have e2:jS [] h=jS [] h2:=rfl;refine⟨?_,λy=>⟨?_,Aa (lJ [] h.length) (jS [] h) 0 (so.enc y).h,?_,?_⟩⟩
 ·simp only[peM,zKh hd,e1];rfl
 ·simp only[peM,zKh hd,hl,e2]
 ·simp only[peM,zKh hd,zLr]
 ·simp only[peM,zKh hd,zLr,hl,e2]
theorem aZ(hM:dV P f si so F):(peM si so F).OK P f:=by
 refine⟨hM.1,λvs h y hr C β w xs hP hs ha=>?_,λh=>(by cases h),λh=>(by cases h),λ_ vs h h2 hd hl=>yWf hd hl⟩;subst hP;simp only[peM]at hr;split at hr
 case h_2=>cases hr
 rename_i x hx;simp only[aA,aB]at hr;obtain⟨hok,hF⟩:=hr;obtain⟨hnd,hlt,hlen,hwr,Ib⟩:=Zu hok;have Dq:=zKa hx (yAf hs ha hnd hlt);refine(hM.2 x y hF (inC C β h w _ hs) _ w xs rfl (by simp[inC,hlen]) Dq).mono ?_;rintro e w' ⟨us,β',rfl,hs'⟩;obtain⟨β2,h1,h2,h3,h4,h5⟩:=zDz hs hnd hlt hwr Ib hs';exact⟨_,_,β2,⟨rfl,rfl⟩,h1,h2,h3,h4,_,rfl,zNe h5⟩
def cK(P:Program)(f:FuncId)(si so:Sh)(tp:TypeId)(sp:Sh)(F:si.X->Option (Sum so.X sp.X)):Prop :=
 iH P f=true/\∀ x y,F x=some y->∀ (C:Ctx) (β:Nat->Pl) (w:World) (xs:List Value),C.P=P->C.fix.length<=si.os.length->Sim C β (si.enc x) { tmps:=xs.toArray,defers:=[] } w ->
  Calls P f xs.toArray w λe w'=>(∃ (z:so.X) (us:List Value) (β':Nat->Pl),y=.inl z/\e=.returned (sG us)/\Sim C β' (so.enc z) { tmps:=us.toArray,defers:=[] } w') \/
   ∃ (z:sp.X) (u:Value) (β':Nat->Pl),y=.inr z/\e=.panicked [{ v:=.iface tp u,recovered:=false }]/\Sim C β' (sp.enc z) { tmps:=#[u],defers:=[] } w'
def yYv(vs:List V):V :=
 match vs with
 |[v]=>v
 |_=>.bY
def ob2{α γ ρ:Type}(o:Option (Sum α γ))(k:α->Option ρ)(k':γ->Option ρ):Option ρ :=
 match o with
 |some (.inl x)=>k x
 |some (.inr x)=>k' x
 |none=>none
theorem Qc{ρ:List Nat}{h hy:List Ob}{id:Nat}(hid:id<h.length)(hn:id∉ρ):(fZ ρ h hy)[id]?=h[id]?:=by
 unfold fZ;have hl:∀ {g:Nat->Option Ob}{h:List Ob}{n:Nat},(Vy g n h).length=h.length:=by
  intro g h;induction h with
  |nil=>intro n;rfl
  |cons o r ih=>intro n;simp[Vy,ih]
 rw[fV (by rw[hl];exact hid),zNd,List.getElem?_eq_getElem hid];have hp:pos id ρ 0=none:=by
  cases hp:pos id ρ 0 with
  |none=>rfl
  |some j =>
   obtain⟨m,_,hm⟩:=Jg hp;exact absurd (List.mem_of_getElem? hm) hn
 simp only[Nat.zero_add,hp,Option.map_some]
def yRe{ρ:Type}(si so:Sh)(tp:TypeId)(sp:Sh)(F:si.X->Option (Sum so.X sp.X))(vs:List V)(h:List Ob)(k:Out->List Ob->Option ρ):Option ρ :=
 match si.dec ⟨vs.map (V.ren (reach vs h) h),inH (reach vs h) h⟩with
 |some x=>chk (zBi (reach vs h) h si so&&uX (inH (reach vs h) h) sp.os) (ob2 (F x)
  (λy=>k (.ret (zSy ((so.enc y).r.map (V.back (lJ (reach vs h) h.length) (jS (reach vs h) h))))) (fZ (reach vs h) h (so.enc y).h))
  (λz=>k (.pan tp (yYv ((sp.enc z).r.map (V.back (lJ (reach vs h) h.length) (jS (reach vs h) h))))) (fZ (reach vs h) h (sp.enc z).h)))
 |none=>none
theorem yWg{ρ:Type}{tp:TypeId}{sp:Sh}{F:si.X->Option (Sum so.X sp.X)}(hM:cK P f si so tp sp F){vs:List V}{h:List Ob}{k:Out->List Ob->Option ρ}{r:ρ}(hr:yRe si so tp sp F vs h k=some r):iH P f=true/\Cx P f vs h λout h'=>k out h'=some r/\∀ id,id<h.length->id∉reach vs h->h'[id]?=h[id]?:=by
 refine⟨hM.1,λC β w xs hP hs ha=>?_⟩;subst hP;unfold yRe at hr;split at hr
 case h_2=>cases hr
 rename_i x hx;obtain⟨hok,hF⟩:=iM hr;simp only[aD]at hok;obtain⟨hnd,hlt,hlen,hwr,Ib⟩:=Zu hok.1;have Dq:=zKa hx (yAf hs ha hnd hlt);cases hy:F x with
 |none=>rw[hy]at hF;cases hF
 |some y =>
  rw[hy]at hF;refine(hM.2 x y hy (inC C β h w _ hs) _ w xs rfl (by simp[inC,hlen]) Dq).mono ?_;rintro e w' (⟨z,us,β',rfl,rfl,hs'⟩|⟨z,u,β',rfl,rfl,hs'⟩)
  ·obtain⟨β2,h1,h2,h3,h4,h5⟩:=zDz hs hnd hlt hwr Ib hs';exact⟨_,_,β2,⟨hF,λid hid hn=>Qc hid hn⟩,h1,h2,h3,h4,_,rfl,zNe h5⟩
  ·obtain⟨β2,h1,h2,h3,h4,h5⟩:=zDz (us:=[u]) hs hnd hlt hwr hok.2 hs';refine⟨_,_,β2,⟨hF,λid hid hn=>Qc hid hn⟩,h1,h2,h3,h4,u,rfl,?_⟩;cases hv:(sp.enc z).r.map (V.back (lJ (reach vs h) h.length) (jS (reach vs h) h))with
   |nil=>rw[hv]at h5;exact h5.elim
   |cons v l =>
    rw[hv]at h5;cases l with
    |nil=>exact h5.1
    |cons v2 l=>exact h5.2.elim
end
end Go.Dec
namespace Go.Dec
section
variable {T:Tab}
variable {C:Ctx}
variable {β:Nat->Pl}
variable {w:World}
def yJj(T:Tab)(σ:St):ResultVar->Option (Bool × V)
 |.tmp t=>some (true,σ.r.getD t .bY)
 |.cell t ty =>
  match σ.r.getD t .bY with
  |.one l=>loadAt T σ.h ty l
  |_=>none
def zKi(T:Tab)(σ:St):List ResultVar->Option (Bool × List V)
 |[]=>some (true,[])
 |x::r =>
  match yJj T σ x,zKi T σ r with
  |some (c,l),some (d,ls)=>some (c&&d,l::ls)
  |_,_=>none
theorem yRf{σ:St}{a:Act}{rv:ResultVar}{v:V}(hT:bM C.P T)(hs:Sim C β σ a w)(h:yJj T σ rv=some (true,v)):∃ x,(zZ a.tmps rv).run C.P w=.ok x w/\v.Rel β w (C.N β σ.h) x:=by
 cases rv with
 |tmp t =>
  simp only[yJj,aA,aB,true_and]at h;subst h;exact⟨a.tmps.getD t undef,rfl,zDw hs t⟩
 |cell t ty =>
  simp only[yJj]at h;have hr:=zDw hs t;split at h
  ·rename_i l hl;rw[hl]at hr;obtain⟨y,h1,h2⟩:=Tt hT h hs.heap hr;obtain⟨ad,h3,h4⟩:=Zt h1;refine⟨y,?_,h2⟩;simp only[zZ,h3,asAddr,Sem.run_bind,Sem.run_pure,Result.andThen_ok,h4]
  ·cases h
theorem zVf{σ:St}{a:Act}(hT:bM C.P T)(hs:Sim C β σ a w):∀ {rs:List ResultVar}{vs:List V},zKi T σ rs=some (true,vs) ->
 ∀ acc:Array Value,∃ us:List Value,(rs.foldlM (λ(acc:Array Value) rv=>do let v <- zZ a.tmps rv;pure (acc.push v)) acc).run C.P w=.ok (acc++us.toArray) w/\bD (λv u=>V.Rel β w (C.N β σ.h) v u) vs us
 |[],vs,h,acc=>by
  simp only[zKi,aA,aB,true_and]at h;subst h;exact⟨[],by simp,trivial⟩
 |rv::rs,vs,h,acc=>by
  simp only[zKi]at h;split at h
  ·rename_i c s d r h1 h2;simp only[aA,aB,aD]at h;obtain⟨⟨rfl,rfl⟩,rfl⟩:=h;obtain⟨x,g1,g2⟩:=yRf hT hs h1;obtain⟨us,g4,g5⟩:=zVf hT hs h2 (acc.push x);refine⟨x::us,?_,⟨g2,g5⟩⟩;simp only[List.foldlM_cons,Sem.run_bind,g1,Result.andThen_ok,Sem.run_pure,g4];simp
  ·cases h
theorem yAh{σ:St}{a:Act}{fn:Func}{vs:List V}(hT:bM C.P T)(hs:Sim C β σ a w)(h:zKi T σ fn.results.toList=some (true,vs)):∃ us:List Value,(results fn a.tmps).run C.P w=.ok (sG us) w/\bD (λv u=>V.Rel β w (C.N β σ.h) v u) vs us:=by
 obtain⟨us,h1,h2⟩:=zVf hT hs h #[];refine⟨us,?_,h2⟩;have e0:results fn a.tmps=(do let vs <- fn.results.mapM (zZ a.tmps);pure (if h:vs.size=1 then vs[0]else .tuple vs)):=by
  unfold results;congr 1
 have hm:(fn.results.mapM (zZ a.tmps):Sem (Array Value)).run C.P w=.ok us.toArray w:=by
  rw[Array.mapM_eq_foldlM,<- Array.foldlM_toList];have e:(λ(acc:Array Value) rv=>do let v <- zZ a.tmps rv;pure (acc.push v):Array Value->ResultVar->Sem (Array Value))=(λ(acc:Array Value) rv=>acc.push <$> zZ a.tmps rv):=by
   funext acc rv;rfl
  rw[e]at h1;simpa using h1
 rw[e0];simp only[Sem.run_bind,hm,Result.andThen_ok,Sem.run_pure];match us with
 |[]=>rfl
 |[u]=>rfl
 |u::v::us=>simp[sG]
theorem zNg{σ:St}{a:Act}{vs:List V}{us:List Value}(hs:Sim C β σ a w)(h:bD (λv u=>V.Rel β w (C.N β σ.h) v u) vs us):Sim C β ⟨vs,σ.h⟩ { tmps:=us.toArray,defers:=[] } w:=by
 refine⟨hs.heap,rfl,by simpa using h.length,λi v hv=>?_⟩;have hl:i<us.length:=by rw[<- h.length];exact(bE.1 hv).1
 have hr:=h.get i (bE.1 hv).1 hl;rw[(bE.1 hv).2]at hr;have e2:(us.toArray).getD i undef=us[i]:=by simp[hl]
 simp only[e2];exact hr
def zEa(T:Tab){ρ:Type}(res:List ResultVar)(so:Sh)(co:List Co)(σ:St)(g:so.X->Option ρ):Option ρ :=
 match zKi T σ res with
 |some (c,vs)=>chk c (enter T so co ⟨vs,σ.h⟩ g)
 |none=>none
def yJk(T:Tab)(res:List ResultVar)(so:Sh)(co:List Co):K so.X:=λe σ =>
 match e with
 |.normal=>zEa T res so co σ some
 |.ret=>zEa T res so co σ some
 |_=>none
def Zw(T:Tab)(res:List ResultVar)(so:Sh)(co:List Co)(tp:TypeId)(sp:Sh)(cp:List Co):K (Sum so.X sp.X):=λe σ =>
 match e with
 |.normal=>zEa T res so co σ λy=>some (.inl y)
 |.ret=>zEa T res so co σ λy=>some (.inl y)
 |.pan t v=>match Nat.beq t tp with
  |true=>enter T sp cp ⟨[v],σ.h⟩ λz=>some (.inr z)
  |false=>none
 |_=>none
theorem zNh{σ:St}{a:Act}{fn:Func}{so:Sh}{co:List Co}{ρ:Type}{g:so.X->Option ρ}{r:ρ}{kf:Nat}(hT:bM C.P T)(hkf:C.fix.length<=kf)(hfx:dA (Co.fx kf) co=true)(hs:Sim C β σ a w)(h:zEa T fn.results.toList so co σ g=some r):∃ (us:List Value) (β':Nat->Pl) (y:so.X),(results fn a.tmps).run C.P w=.ok (sG us) w/\Sim C β' (so.enc y) { tmps:=us.toArray,defers:=[] } w/\g y=some r:=by
 unfold zEa at h;split at h
 ·rename_i c vs hvs;obtain⟨rfl,h⟩:=iM h;obtain⟨us,h1,h2⟩:=yAh hT hs hvs;obtain⟨β',_,y,h3,h4⟩:=Dv hT hkf hfx h (zNg hs h2);exact⟨us,β',y,h1,h3,h4⟩
 ·cases h
end
section
variable {P:Program}
variable {T:Tab}
variable {f:FuncId}
variable {fn:Func}
variable {c:Code}
variable {si so sp:Sh}
theorem zHm{C:Ctx}{β:Nat->Pl}{w:World}{σ:St}{xs:List Value}(n:Nat)(hs:Sim C β σ { tmps:=xs.toArray,defers:=[] } w):Sim C β ⟨Qb σ.r n,σ.h⟩ { tmps:=xs.toArray++Array.replicate (n-xs.toArray.size) undef,defers:=[] } w:=by
 have hl:σ.r.length=xs.length:=by simpa using hs.size
 refine⟨hs.heap,rfl,by simp[Qb,hl],λi u hu=>?_⟩;simp only[Qb]at hu;by_cases hi:i<σ.r.length
 ·rw[fV hi]at hu;have hr:=hs.reg i u hu;have e:(xs.toArray++Array.replicate (n-xs.toArray.size) undef).getD i undef=(xs.toArray).getD i undef:=by
   rw[Array.getD_eq_getD_getElem?,Array.getD_eq_getD_getElem?,Array.getElem?_append_left (by simpa using by omega)]
  rw[e];exact hr
 ·rw[List.getElem?_append_right (by omega),List.getElem?_replicate]at hu;split at hu
  ·simp only[aA]at hu;subst hu;trivial
  ·cases hu
theorem dL{F:si.X->Option so.X}{Γ:Orc so.X}{an:An so.X}{co:List Co}(hf:P.funcs[f]?=some fn)(hb:fn.body=some c)(hh:iH P f=true)(hT:bM P T)(hΓ:kQ P Γ)(hm:P.follows .mixedOrders=true)(ha:zNb P si.os.length c an)(hfx:an.fx si.os.length=true)(hco:dA (Co.fx si.os.length) co=true)(h:∀ x,ev Γ T c an ⟨Qb (si.enc x).r fn.ntmps,(si.enc x).h⟩ (yJk T fn.results.toList so co)=F x):dV P f si so F:=by
 refine⟨hh,λx y hF C β w xs hP hkf hs=>?_⟩;rw[<- h x]at hF;refine calls_of_wp hf hb ?_;refine zDu (P:=P) hT hΓ hm c an ha hfx _ _ y hF C β _ w _ hP hkf (zHm fn.ntmps hs) ?_;intro e x' σ' β' a' w' hs' hx' hk;have fin:zEa T fn.results.toList so co σ' some=some y->x'=.ret\/x'=.normal->bodyPost P fn (λe w'=>∃ (us:List Value) (β':Nat->Pl),e=.returned (sG us)/\Sim C β' (so.enc y) { tmps:=us.toArray,defers:=[] } w') x' a' w':=by
  intro hk hx';subst hP;obtain⟨us,β2,y',h1,h2,h3⟩:=zNh (fn:=fn) hT hkf hco hs' hk;obtain rfl:=Option.some.inj h3;rcases hx' with rfl|rfl
  ·exact⟨hs'.defers,_,h1,us,β2,rfl,h2⟩
  ·exact⟨hs'.defers,_,h1,us,β2,rfl,h2⟩
 cases e with
 |normal=>obtain rfl:=hx';exact fin hk (.inr rfl)
 |ret=>obtain rfl:=hx';exact fin hk (.inl rfl)
 |exit i=>simp[yJk]at hk
 |goto l=>simp[yJk]at hk
 |pan t u=>simp[yJk]at hk
theorem dN{tp:TypeId}{F:si.X->Option (Sum so.X sp.X)}{Γ:Orc (Sum so.X sp.X)}{an:An (Sum so.X sp.X)}{co cp:List Co}(hf:P.funcs[f]?=some fn)(hb:fn.body=some c)(hh:iH P f=true)(hT:bM P T)(hΓ:kQ P Γ)(hm:P.follows .mixedOrders=true)(ha:zNb P si.os.length c an)(hfx:an.fx si.os.length=true)(hco:dA (Co.fx si.os.length) co=true)(hcp:dA (Co.fx si.os.length) cp=true)(h:∀ x,ev Γ T c an ⟨Qb (si.enc x).r fn.ntmps,(si.enc x).h⟩ (Zw T fn.results.toList so co tp sp cp)=F x):cK P f si so tp sp F:=by
 refine⟨hh,λx y hF C β w xs hP hkf hs=>?_⟩;rw[<- h x]at hF;refine calls_of_wp hf hb ?_;refine zDu (P:=P) hT hΓ hm c an ha hfx _ _ y hF C β _ w _ hP hkf (zHm fn.ntmps hs) ?_;intro e x' σ' β' a' w' hs' hx' hk;subst hP;have fin:(zEa T fn.results.toList so co σ' λy=>some (.inl y))=some y->x'=.ret\/x'=.normal->bodyPost C.P fn (λe w'=>(∃ (z:so.X) (us:List Value) (β':Nat->Pl),y=.inl z/\e=.returned (sG us)/\Sim C β' (so.enc z) { tmps:=us.toArray,defers:=[] } w') \/
  ∃ (z:sp.X) (u:Value) (β':Nat->Pl),y=.inr z/\e=.panicked [{ v:=.iface tp u,recovered:=false }]/\Sim C β' (sp.enc z) { tmps:=#[u],defers:=[] } w') x' a' w':=by
  intro hk hx';obtain⟨us,β2,y',h1,h2,h3⟩:=zNh (fn:=fn) hT hkf hco hs' hk;obtain rfl:=Option.some.inj h3;rcases hx' with rfl|rfl
  ·exact⟨hs'.defers,_,h1,.inl ⟨y',us,β2,rfl,rfl,h2⟩⟩
  ·exact⟨hs'.defers,_,h1,.inl ⟨y',us,β2,rfl,rfl,h2⟩⟩
 cases e with
 |normal=>obtain rfl:=hx';exact fin hk (.inr rfl)
 |ret=>obtain rfl:=hx';exact fin hk (.inl rfl)
 |exit i=>simp[Zw]at hk
 |goto l=>simp[Zw]at hk
 |pan t u =>
  simp only[Zw]at hk;split at hk
  ·rename_i hb;have:=aK hb;subst this;obtain⟨x0,rfl,hx0⟩:=hx';obtain⟨β2,_,z,h3,h4⟩:=Dv hT hkf hcp hk (zNg (vs:=[u]) (us:=[x0]) hs' ⟨hx0,trivial⟩);obtain rfl:=Option.some.inj h4;exact⟨hs'.defers,.inr ⟨z,x0,β2,rfl,rfl,h3⟩⟩
  ·cases hk
structure GE (ρ:Type) where
 f:FuncId
 run:List V->List Ob->(Out->List Ob->Option ρ)->Option ρ
 ids:List V->List Ob->List Nat:=reach
structure GE.OK (P:Program) {ρ:Type}(g:GE ρ):Prop where
 ok:∀ vs h k r,g.run vs h k=some r->iH P g.f=true/\Cx P g.f vs h λout h'=>k out h'=some r/\∀ id,id<h.length->id∉g.ids vs h->h'[id]?=h[id]?
def yRg{ρ:Type}:List (GE ρ)->FuncId->List V->List Ob->(Out->List Ob->Option ρ)->Option ρ
 |[],_,_,_,_=>none
 |g::r,f,vs,h,k=>match Nat.beq g.f f with
  |true=>g.run vs h k
  |false=>yRg r f vs h k
def yJl{ρ:Type}:List (GE ρ)->FuncId->List V->List Ob->List Nat
 |[],_,vs,h=>reach vs h
 |g::r,f,vs,h=>match Nat.beq g.f f with
  |true=>g.ids vs h
  |false=>yJl r f vs h
def bB (ρ:Type) (l:List (FuncId×PE)) (m:List (GE ρ)):Orc ρ:=⟨pes l,yRg m,yJl m⟩
theorem aH{ρ:Type}{l:List (FuncId × PE)}{m:List (GE ρ)}(h:∀ p∈l,p.2.OK P p.1)(hm:∀ g∈m,g.OK P):kQ P (bB ρ l m):=by
 refine⟨(yYp (ρ:=ρ) h).pure,λf vs hp k r hr=>?_⟩;simp only[bB]at hr;induction m with
 |nil=>cases hr
 |cons g m ih =>
  simp only[yRg]at hr;split at hr
  ·rename_i hb;simp only[bB,yJl,hb];have:=aK hb;subst this;exact(hm g (.head _)).ok vs hp k r hr
  ·rename_i hb;simp only[bB,yJl,hb];exact ih (λg hg=>hm g (.tail _ hg)) hr
def geP {ρ:Type} (f:FuncId) (si so:Sh) (tp:TypeId) (sp:Sh) (F:si.X->Option (Sum so.X sp.X)):GE ρ := { f:=f,run:=yRe si so tp sp F }
theorem bG{ρ:Type}{tp:TypeId}{F:si.X->Option (Sum so.X sp.X)}(h:cK P f si so tp sp F):(geP (ρ:=ρ) f si so tp sp F).OK P:=⟨λ_ _ _ _ hr=>yWg h hr⟩
theorem aI{ρ:Type}:∀ g∈([]:List (GE ρ)),g.OK P:=λ_ h=>by cases h
theorem aS{ρ:Type}{g:GE ρ}{m:List (GE ρ)}(h:g.OK P)(hm:∀ g∈m,g.OK P):∀ x∈g::m,x.OK P:=λx hx=>by
 cases hx with
 |head=>exact h
 |tail _ hx=>exact hm x hx
end
def yAi {α ρ:Type} (B:Nat->(α->Option ρ)->α->Option ρ):Nat->α->Option ρ | 0,_=>none | n+1,x=>B n (yAi B n) x
theorem yRh{P:Program}{f:FuncId}{si so:Sh}(hh:iH P f=true):dV P f si so (λ_=>none):=⟨hh,λ_ _ h=>by cases h⟩
theorem zVg{P:Program}{f:FuncId}{si so:Sh}{B:Nat->(si.X->Option so.X)->si.X->Option so.X}(hh:iH P f=true)(h:∀ n r,dV P f si so r->dV P f si so (B n r)):∀ n,dV P f si so (yAi B n)
 |0=>yRh hh
 |n+1=>h n _ (zVg hh h n)
theorem zPt{P:Program}{f:FuncId}{si so sp:Sh}{tp:TypeId}{B:Nat->(si.X->Option (Sum so.X sp.X))->si.X->Option (Sum so.X sp.X)}(hh:iH P f=true)(h:∀ n r,cK P f si so tp sp r->cK P f si so tp sp (B n r)):∀ n,cK P f si so tp sp (yAi B n)
 |0=>⟨hh,λ_ _ h=>by cases h⟩
 |n+1=>h n _ (zPt hh h n)
end Go.Dec
namespace Go.Dec
section
variable {C:Ctx}
variable {β:Nat->Pl}
variable {w w1:World}
variable {h:List Ob}
variable {σ:St}
variable {a:Act}
def Sg(C:Ctx)(β:Nat->Pl)(h:List Ob)(w w1:World)(N:Nat)(hs:fB C β h w)(hk:Keep (λ_ _=>False) w w1):Ctx where
 P:=C.P
 N0 b j:=C.N0 b j\/b=N
 w0:=w1
 Sb b j:=∃ (i:Nat) (o:Ob),h[i]?=some o/\o.wr=true/\o.at (β i) b j
 glob w' hw:=C.glob w' ((hs.frame.tN hk λ_ _ _ h=>h.elim).tN hw λb j hb hm=>by
  obtain⟨i,o,ho,hwo,hbk⟩:=hm;rcases(hs.eY i o b ho ⟨j,hbk⟩).2.2 with h1|h1
  ·omega
  ·exact h1 j hwo hbk)
 fix:=C.fix
theorem Sim.inN{N:Nat}(hs:Sim C β σ a w)(hk:Keep (λ_ _=>False) w w1)(hN:w.heap.size<=N)(hN1:N<w1.heap.size):Sim (Sg C β σ.h w w1 N hs.heap hk) β σ a w1:=by
 have hsub:∀ b j,b<w.heap.size->(Sg C β σ.h w w1 N hs.heap hk).N β σ.h b j->C.N β σ.h b j:=λb j hb h=>by
  rcases h with h|h
  ·rcases h with h|h
   ·exact .inl h
   ·omega
  ·exact .inr h
 have hkw:Keep (C.N β σ.h) w w1:=hk.weaken λ_ _ h=>h.elim
 refine⟨⟨λid o ho=>(hs.heap.obj id o ho).mono (Moves.refl β) hkw hsub λb hb=>hk.block b (hs.heap.eY id o b ho hb).2.1 (λ_ h=>h),hs.heap.dead,hs.heap.kR,λid o b ho hb=>?_,λb j hb=>?_,Keep.refl _ _,aP _,rfl,rfl,rfl,hs.heap.fixed⟩,hs.defers,hs.size,λi u hu=>(hs.reg i u hu).mono (Moves.refl β) hkw hsub⟩
 ·obtain⟨k1,k2,k3⟩:=hs.heap.eY id o b ho hb;refine⟨λj h=>?_,Nat.lt_of_lt_of_le k2 hk.size,.inr λj g1 g2=>⟨id,o,ho,g1,g2⟩⟩;rcases h with h|h
  ·exact k1 j h
  ·omega
 ·rcases hb with hb|rfl
  ·exact Nat.lt_of_lt_of_le (Nat.lt_of_lt_of_le (hs.heap.n0 b j hb) hs.heap.size) hk.size
  ·exact hN1
theorem Sim.yJm{N:Nat}{hs:fB C β h w}{hk:Keep (λ_ _=>False) w w1}{β':Nat->Pl}{σ':St}{a':Act}{w2 w3:World}(hN:w.heap.size<=N)(hN1:N<w1.heap.size)(h2:Sim (Sg C β h w w1 N hs hk) β' σ' a' w2)(h3:Keep (λb _=>b=N) w2 w3)(ho:w3.os=C.w0.os)(ht:w3.tape=C.w0.tape)(hout:w3.output=C.w0.output):Sim C β' σ' a' w3:=by
 have hsub:∀ b j,b<w2.heap.size->C.N β' σ'.h b j->(Sg C β h w w1 N hs hk).N β' σ'.h b j:=λb j _ h=>by
  rcases h with h|h
  ·exact .inl (.inl h)
  ·exact .inr h
 have hNn:∀ j,(Sg C β h w w1 N hs hk).N β' σ'.h N j:=λj=>.inl (.inr rfl)
 have hkw:Keep ((Sg C β h w w1 N hs hk).N β' σ'.h) w2 w3:=h3.weaken λb j hb=>by subst hb;exact hNn j
 have hbk:∀ (id:Nat) (o:Ob) (b:Nat),σ'.h[id]?=some o->o.blks (β' id) b->b≠N:=λid o b ho hb e=>(h2.heap.eY id o b ho hb).1 0 (.inr e)
 refine⟨⟨λid o ho=>(h2.heap.obj id o ho).mono (Moves.refl β') hkw hsub λb hb=>h3.block b (h2.heap.eY id o b ho hb).2.1 (λ_=>hbk id o b ho hb),h2.heap.dead,h2.heap.kR,λid o b ho hb=>?_,hs.n0,?_,?_,ho,ht,hout,h2.heap.fixed⟩,h2.defers,h2.size,λi u hu=>(h2.reg i u hu).mono (Moves.refl β') hkw hsub⟩
 ·obtain⟨k1,k2,k3⟩:=h2.heap.eY id o b ho hb;refine⟨λj h=>k1 j (.inl h),Nat.lt_of_lt_of_le k2 h3.size,?_⟩;by_cases hlt:C.w0.heap.size<=b
  ·exact .inl hlt
  ·right;rcases k3 with k3|k3
   ·have k3:w1.heap.size<=b:=k3;have:=hs.size;have:=hk.size;omega
   ·intro j g1 g2;obtain⟨i,o',ho',hw',hb'⟩:=k3 j g1 g2;rcases(hs.eY i o' b ho' ⟨j,hb'⟩).2.2 with h1|h1
    ·exact absurd h1 hlt
    ·exact h1 j hw' hb'
 ·refine((hs.frame.tN hk λ_ _ _ h=>h.elim).tN h2.heap.frame λb j hb hm=>?_).tN h3 λb j hb hm=>?_
  ·obtain⟨i,o',ho',hw',hb'⟩:=hm;rcases(hs.eY i o' b ho' ⟨j,hb'⟩).2.2 with h1|h1
   ·omega
   ·exact h1 j hw' hb'
  ·have:=hs.size;omega
 ·exact Nat.le_trans (Nat.le_trans (Nat.le_trans hs.size hk.size) h2.heap.size) h3.size
end
end Go.Dec
