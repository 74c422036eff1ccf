/- Part of a proof over this seat: a library of my own, and what it says of this seat. No statement is proved here. -/
import Derived.Test.YtfbilefiaminnaaGreatDoorPartAG
namespace Go.Dec
inductive Co where
 |keep (mask:List Bool)
 |trunc (n:Nat)
 |zDm (i:Nat) (t:TypeId)
 |ownB (id:Nat) (j:Nat) (t:TypeId)
 |yYd (i:Nat) (t:Ty)
 |yYe (id:Nat) (j:Nat) (t:Ty)
 |ver (id:Nat)
 |slR (i:Nat)
 |yIk (i:Nat)
 |yYf (id:Nat) (j:Nat)
 |yYg (i:Nat) (j:Nat) (t:TypeId)
 |yYh (i:Nat) (j:Nat)
 |gc (ρ:List Nat)
 |gcA (k:Nat)
 |orn (id:Nat) (j:Nat) (to off:Nat)
 |opn (id:Nat) (j:Nat)
 |cls (id:Nat) (j:Nat)
 |yQi (id:Nat) (j:Nat)
 |zSp (id:Nat) (k:Nat)
 |zJy (id:Nat) (j:Nat)
 |shut (id:Nat)
def Cy:List Bool->List V->List V | true :: m,v :: r=>v :: Cy m r | false :: m,_ :: r => .bY :: Cy m r | [],_ :: r => .bY :: Cy [] r | _,[]=>[]
mutual
def L.isB (n:Nat):L->Bool | .ptr id _=>Nat.blt id n | .fC id _=>Nat.blt id n | .rY id _ _ _ _=>Nat.blt id n | .iZ id _ _ _=>Nat.blt id n | .sl id _ _ _=>Nat.blt id n | .own id _=>Nat.blt id n | .mp id=>Nat.blt id n | .clo _ caps=>L.Zr n caps | _=>true
def L.Zr (n:Nat):List L->Bool | []=>true | l :: ls=>L.isB n l&&L.Zr n ls
end
def Nt (n:Nat):List (Sum L (List L))->Bool | []=>true | .inl l :: r=>l.isB n&&Nt n r | .inr ls :: r=>L.Zr n ls&&Nt n r
def V.isB (n:Nat):V->Bool | .one l=>l.isB n | .agg ls=>L.Zr n ls | .tup vs=>Nt n vs | .bY=>true
def Ob.isB (n:Nat):Ob->Bool | .box _ ls=>L.Zr n ls | .arr ..=>true | .fm _=>true | .dm ..=>true | .stk _ _ _ _ none=>true | .stk _ _ _ _ (some ls)=>L.Zr n ls
mutual
def L.zW (id v:Nat):L->Bool | .iZ i u _ _=>!Nat.beq i id||Nat.beq u v | .sl i u _ _=>!Nat.beq i id||Nat.beq u v | .own i u=>!Nat.beq i id||Nat.beq u v | .clo _ caps=>L.Hw id v caps | _=>true
def L.Hw (id v:Nat):List L->Bool | []=>true | l :: ls=>L.zW id v l&&L.Hw id v ls
end
mutual
def L.dK(id:Nat):L->L
 |.iZ i u a b=>if Nat.beq i id then .iZ i 0 a b else .iZ i u a b
 |.sl i u a b=>if Nat.beq i id then .sl i 0 a b else .sl i u a b
 |.own i u=>if Nat.beq i id then .own i 0 else .own i u
 |.clo f caps=>.clo f (L.Dr id caps)
 |l=>l
def L.Dr (id:Nat):List L->List L | []=>[] | l :: ls=>L.dK id l :: L.Dr id ls
end
def zBg (id v:Nat):List (Sum L (List L))->Bool | []=>true | .inl l :: r=>l.zW id v&&zBg id v r | .inr ls :: r=>L.Hw id v ls&&zBg id v r
def V.zW (id v:Nat):V->Bool | .one l=>l.zW id v | .agg ls=>L.Hw id v ls | .tup vs=>zBg id v vs | .bY=>true
def zDn (id:Nat):List (Sum L (List L))->List (Sum L (List L)) | []=>[] | .inl l :: r => .inl (l.dK id) :: zDn id r | .inr ls :: r => .inr (L.Dr id ls) :: zDn id r
def V.dK (id:Nat):V->V | .one l => .one (l.dK id) | .agg ls => .agg (L.Dr id ls) | .tup vs => .tup (zDn id vs) | .bY => .bY
def Ob.zW (id v:Nat):Ob->Bool | .box _ ls=>L.Hw id v ls | .arr ..=>true | .fm _=>true | .dm ..=>true | .stk _ _ _ _ none=>true | .stk _ _ _ _ (some ls)=>L.Hw id v ls
def Ob.dK (id:Nat):Ob->Ob | .box e ls => .box e (L.Dr id ls) | .stk e ei v rows top => .stk e ei v rows (top.map (L.Dr id)) | o=>o
def uW(ls:List L)(j:Nat)(l:L):Option (List L):=
 match ls[j]? with
 |some .bJ=>some (ls.set j l)
 |_=>none
def yQj(to off:Nat):L->Option L
 |.lF=>some (.fC to off)
 |.ptr a b=>match Nat.beq a to&&Nat.beq b off with
  |true=>some (.fC to off)
  |false=>none
 |.fC a b=>match Nat.beq a to&&Nat.beq b off with
  |true=>some (.fC to off)
  |false=>none
 |_=>none
def zJz:Nat->Nat->List Nat->Bool | _,0,_=>true | i,k+1,a :: r=>Nat.beq a i&&zJz (i+1) k r | _,_+1,[]=>false
theorem zUp:∀ {i k:Nat}{ρ:List Nat},zJz i k ρ=true->∀ j,j<k->ρ[j]?=some (i+j)
 |_,0,_,_,j,hj=>by omega
 |i,k+1,a::r,h,j,hj=>by
  simp only[zJz,aD]at h;have:=aK h.1;subst this;cases j with
  |zero=>rfl
  |succ j =>
   have:=zUp h.2 j (by omega);rw[show a+1+j=a+(j+1)by omega]at this;simpa using this
 |_,_+1,[],h,_,_=>by cases h
def frz(h:List Ob)(l:L):Option (Bool × L × List Ob):=
 match l with
 |.own id ver =>
  match h[id]? with
  |some (.arr e t v rows _)=>some (Nat.beq v ver,.val (.slice t) rows,h.set id (.arr e t v rows false))
  |_=>none
 |.sl id ver off len =>
  match h[id]? with
  |some (.arr e t v rows _)=>some (Nat.beq v ver&&Nat.ble (off+len) rows.length,.val (.slice t) ((rows.drop off).take len),h.set id (.arr e t v rows false))
  |_=>none
 |_=>none
def gcL(ρ:List Nat)(σ:St):Option (Bool × St):=
 if nodupB ρ&&dA (λi=>Nat.blt i σ.h.length) ρ then some (true,⟨σ.r.map (V.ren ρ σ.h),inH ρ σ.h⟩)else none
def upto:Nat->Nat->List Nat | _,0=>[] | i,k+1=>i :: upto (i+1) k
def gcR (k:Nat) (σ:St):List Nat:=zJx σ.h (σ.h.length+1) (zGu (upto 0 k) (zZj σ.r)) 0
def Yw (σ:St):Option (Bool×List Ob)->Option (Bool×St) | some (c,h)=>some (c,⟨σ.r,h⟩) | none=>none
theorem Fe{σ σ':St}{x:Option (Bool × List Ob)}{b:Bool}(h:Yw σ x=some (b,σ')):∃ h',x=some (b,h')/\σ'=⟨σ.r,h'⟩:=by
 unfold Yw at h;split at h
 ·simp only[aA,aB]at h;obtain⟨rfl,rfl⟩:=h;exact⟨_,rfl,rfl⟩
 ·cases h
def co1(T:Tab)(c:Co)(σ:St):Option (Bool × St):=
 match c with
 |.opn id j=>Yw σ (yQb σ.h id j)
 |.cls id j=>Yw σ (yQe σ.h id j)
 |.yQi id j=>Yw σ (yIg σ.h id j)
 |.zSp id k=>Yw σ (Dec.zSp σ.h id k)
 |.zJy id j=>Yw σ (Dec.zJy σ.h id j)
 |.shut id=>Yw σ (yIj σ.h id)
 |.gcA k=>match zJz 0 k (gcR k σ)with
  |true=>gcL (gcR k σ) σ
  |false=>none
 |.slR i =>
  match σ.r[i]? with
  |some (.one (.own id ver))=>
   match σ.h[id]? with
   |some (.arr _ _ v rows _)=>some (Nat.beq v ver,⟨σ.r.set i (.one (.sl id ver 0 rows.length)),σ.h⟩)
   |_=>none
  |some (.one (.sl ..))=>some (true,σ)
  |_=>none
 |.yYg i j t =>
  match σ.r[i]?,elemTy T t with
  |some (.agg ls),some (e,te,_)=>
   match ls[j]? with
   |some (.own ..)=>some (true,σ)
   |_ =>
    match uW ls j (.own σ.h.length 0)with
    |some ls'=>some (true,⟨σ.r.set i (.agg ls'),σ.h++[.arr e te 0 [] true]⟩)
    |none=>none
  |_,_=>none
 |.yYh i j =>
  match σ.r[i]? with
  |some (.agg ls)=>
   match ls[j]? with
   |some l =>
    match l.isD with
    |true=>some (true,σ)
    |false =>
     match frz σ.h l with
     |some (c,l',h')=>some (c,⟨σ.r.set i (.agg (ls.set j l')),h'⟩)
     |none=>none
   |none=>none
  |_=>none
 |.gc ρ=>gcL ρ σ
 |.orn id j to off =>
  match σ.h[id]? with
  |some (.box eb ls)=>
   match ls[j]? with
   |some l =>
    match yQj to off l with
    |some l'=>some (true,⟨σ.r,σ.h.set id (.box eb (ls.set j l'))⟩)
    |none=>none
   |none=>none
  |_=>none
 |.yIk i =>
  match σ.r[i]? with
  |some (.one l)=>
   match l.isD with
   |true=>some (true,σ)
   |false =>
    match frz σ.h l with
    |some (c,l',h')=>some (c,⟨σ.r.set i (.one l'),h'⟩)
    |none=>none
  |_=>none
 |.yYf id j =>
  match σ.h[id]? with
  |some (.box eb ls)=>
   match ls[j]? with
   |some l =>
    match l.isD with
    |true=>some (true,σ)
    |false =>
     match frz σ.h l with
     |some (c,l',h')=>some (c,⟨σ.r,h'.set id (.box eb (ls.set j l'))⟩)
     |none=>none
   |none=>none
  |_=>none
 |.keep m=>some (true,⟨Cy m σ.r,σ.h⟩)
 |.trunc n=>if Nat.ble n σ.h.length&&(dA (V.isB n) σ.r&&dA (Ob.isB n) (σ.h.take n))then some (true,⟨σ.r,σ.h.take n⟩)else none
 |.zDm i t =>
  match σ.r[i]?,elemTy T t with
  |some (.one .bJ),some (e,te,_)=>some (true,⟨σ.r.set i (.one (.own σ.h.length 0)),σ.h++[.arr e te 0 [] true]⟩)
  |some (.one (.own ..)),_=>some (true,σ)
  |_,_=>none
 |.ownB id j t =>
  match σ.h[id]?,elemTy T t with
  |some (.box eb ls),some (e,te,_)=>
   match ls[j]? with
   |some (.own ..)=>some (true,σ)
   |_ =>
    match uW ls j (.own σ.h.length 0)with
    |some ls'=>some (true,⟨σ.r,(σ.h++[Ob.arr e te 0 [] true]).set id (.box eb ls')⟩)
    |none=>none
  |_,_=>none
 |.yYd i t =>
  match σ.r[i]? with
  |some (.one .bJ)=>some (true,⟨σ.r.set i (.one (.val (.slice t) [])),σ.h⟩)
  |_=>none
 |.yYe id j t =>
  match σ.h[id]? with
  |some (.box eb ls)=>
   match uW ls j (.val (.slice t) [])with
   |some ls'=>some (true,⟨σ.r,σ.h.set id (.box eb ls')⟩)
   |none=>none
  |_=>none
 |.ver id =>
  match σ.h[id]? with
  |some (.arr e t v rows wr)=>if dA (V.zW id v) σ.r&&dA (Ob.zW id v) σ.h then some (true,⟨σ.r.map (V.dK id),(σ.h.map (Ob.dK id)).set id (.arr e t 0 rows wr)⟩)else none
  |_=>none
def Co.fx (k:Nat):Co->Bool | .trunc n=>Nat.ble k n | .gc ρ=>zJz 0 k ρ | .gcA n=>Nat.ble k n | _=>true
def norm{ρ:Type}(T:Tab):List Co->St->(St->Option ρ)->Option ρ
 |[],σ,k=>k σ
 |c::cs,σ,k =>
  match co1 T c σ with
  |some (b,σ')=>chk b (norm T cs σ' k)
  |none=>none
section
variable {T:Tab}
variable {C:Ctx}
variable {β:Nat->Pl}
variable {w:World}
theorem Yx:∀ (m:List Bool) (r:List V) (i:Nat) (v:V),(Cy m r)[i]?=some v->v=.bY\/r[i]?=some v
 |true::m,x::r,0,v,h=>.inr h
 |true::m,x::r,i+1,v,h=>Yx m r i v (by simpa [Cy]using h)
 |false::m,x::r,0,v,h=>by simp[Cy]at h;exact .inl h.symm
 |false::m,x::r,i+1,v,h=>Yx m r i v (by simpa [Cy]using h)
 |[],x::r,0,v,h=>by simp[Cy]at h;exact .inl h.symm
 |[],x::r,i+1,v,h=>Yx [] r i v (by simpa [Cy]using h)
 |true::_,[],i,v,h=>by simp[Cy]at h
 |false::_,[],i,v,h=>by simp[Cy]at h
 |[],[],i,v,h=>by simp[Cy]at h
theorem Lc:∀ (m:List Bool) (r:List V),(Cy m r).length=r.length
 |true::m,_x::r=>congrArg (· + 1) (Lc m r)
 |false::m,_x::r=>congrArg (· + 1) (Lc m r)
 |[],_x::r=>congrArg (· + 1) (Lc [] r)
 |true::_,[]=>rfl
 |false::_,[]=>rfl
 |[],[]=>rfl
theorem xV{α:Type}{f:α->Bool}:∀ {l:List α},dA f l=true->∀ (i:Nat) (x:α),l[i]?=some x->f x=true
 |y::r,h,0,x,hx=>by
  simp only[dA,aD]at h;simp only[List.getElem?_cons_zero,aA]at hx;subst hx;exact h.1
 |y::r,h,i+1,x,hx=>by
  simp only[dA,aD]at h;exact xV h.2 i x (by simpa using hx)
 |[],_,i,x,hx=>by simp at hx
mutual
theorem L.Rel.below{β':Nat->Pl}{N N':Nat->Nat->Prop}{n:Nat}(hβ:∀ id,id<n->β' id=β id)(hN:∀ b j,b<w.heap.size->N' b j->N b j):∀ {l:L}{cs:List Value},l.isB n=true->l.Rel β w N cs->l.Rel β' w N' cs
 |.val t x,cs,_,h=>by simp only[L.Rel]at *;exact Ty.Rel.mono (Keep.refl _ w) hN h
 |.ptr id off,cs,hb,h=>by simp only[L.isB]at hb;simp only[L.Rel]at *;rw[hβ id (bR hb)];exact h
 |.rY id off es i sub,cs,hb,h=>by simp only[L.isB]at hb;simp only[L.Rel]at *;rw[hβ id (bR hb)];exact h
 |.lF,cs,_,h=>by simp only[L.Rel]at *;exact h
 |.fC id off,cs,hb,h=>by simp only[L.isB]at hb;simp only[L.Rel]at *;rw[hβ id (bR hb)];exact h
 |.iZ id ver i off,cs,hb,h=>by simp only[L.isB]at hb;simp only[L.Rel]at *;rw[hβ id (bR hb)];exact h
 |.qY t x off,cs,_,h=>by simp only[L.Rel]at *;obtain⟨c,hc,hr⟩:=h;exact⟨c,hc,hr.mono (Keep.refl _ w) hN⟩
 |.sl id ver off len,cs,hb,h=>by simp only[L.isB]at hb;simp only[L.Rel]at *;rw[hβ id (bR hb)];exact h
 |.own id ver,cs,hb,h=>by simp only[L.isB]at hb;simp only[L.Rel]at *;rw[hβ id (bR hb)];exact h
 |.bJ,cs,_,h=>by simp only[L.Rel]at *;exact h
 |.clo f caps,cs,hb,h=>by
  simp only[L.isB]at hb;simp only[L.Rel]at *;obtain⟨us,hc,hr⟩:=h;exact⟨us,hc,L.eD.below hβ hN hb hr⟩
 |.bad n,cs,_,h=>by simp only[L.Rel]at *;exact h
 |.Rz x tab,cs,_,h=>by simp only[L.Rel]at *;exact h
 |.mp id,cs,hb,h=>by simp only[L.isB]at hb;simp only[L.Rel]at *;rw[hβ id (bR hb)];exact h
theorem L.eD.below{β':Nat->Pl}{N N':Nat->Nat->Prop}{n:Nat}(hβ:∀ id,id<n->β' id=β id)(hN:∀ b j,b<w.heap.size->N' b j->N b j):∀ {ls:List L}{us:List Value},L.Zr n ls=true->L.eD β w N ls us->L.eD β' w N' ls us
 |[],us,_,h=>by simp only[L.eD]at *;exact h
 |l::ls,us,hb,h=>by
  simp only[L.Zr,aD]at hb;simp only[L.eD]at *;obtain⟨u,r,e,h1,h2⟩:=h;exact⟨u,r,e,L.Rel.below hβ hN hb.1 h1,L.eD.below hβ hN hb.2 h2⟩
end
theorem aG.below{β':Nat->Pl}{N N':Nat->Nat->Prop}{n:Nat}(hβ:∀ id,id<n->β' id=β id)(hN:∀ b j,b<w.heap.size->N' b j->N b j):∀ {ls:List L}{cs:List Value},L.Zr n ls=true->aG β w N ls cs->aG β' w N' ls cs
 |[],_,_,h=>h
 |l::ls,_,hb,⟨c1,c2,e,h1,h2⟩=>by
  simp only[L.Zr,aD]at hb;exact⟨c1,c2,e,h1.below hβ hN hb.1,aG.below hβ hN hb.2 h2⟩
theorem zGz{β':Nat->Pl}{N N':Nat->Nat->Prop}{n:Nat}(hβ:∀ id,id<n->β' id=β id)(hN:∀ b j,b<w.heap.size->N' b j->N b j):∀ {vs:List (Sum L (List L))}{us:List Value},Nt n vs=true->bD (jH β w N) vs us->bD (jH β' w N') vs us
 |[],[],_,_=>trivial
 |.inl l::vs,u::us,hb,h=>by
  simp only[Nt,aD]at hb;exact⟨L.Rel.below hβ hN hb.1 h.1,zGz hβ hN hb.2 h.2⟩
 |.inr ls::vs,u::us,hb,h=>by
  simp only[Nt,aD]at hb;obtain⟨⟨cs,e,hr⟩,h2⟩:=h;exact⟨⟨cs,e,hr.below hβ hN hb.1⟩,zGz hβ hN hb.2 h2⟩
 |[],_::_,_,h=>h.elim
 |.inl _::_,[],_,h=>h.elim
 |.inr _::_,[],_,h=>h.elim
theorem V.Rel.below{β':Nat->Pl}{N N':Nat->Nat->Prop}{n:Nat}(hβ:∀ id,id<n->β' id=β id)(hN:∀ b j,b<w.heap.size->N' b j->N b j){v:V}{x:Value}(hb:v.isB n=true)(h:v.Rel β w N x):v.Rel β' w N' x:=by
 cases v with
 |one l=>exact L.Rel.below hβ hN hb h
 |agg ls=>obtain⟨cs,e,hr⟩:=h;exact⟨cs,e,hr.below hβ hN hb⟩
 |tup vs=>obtain⟨us,e,hr⟩:=h;exact⟨us,e,zGz hβ hN hb hr⟩
 |bY=>trivial
theorem Sim.trunc{σ:St}{a:Act}{n:Nat}(hs:Sim C β σ a w)(hfx:C.fix.length<=n)(hn:n<=σ.h.length)(hr:dA (V.isB n) σ.r=true)(ho:dA (Ob.isB n) (σ.h.take n)=true):∃ β',Sim C β' ⟨σ.r,σ.h.take n⟩ a w:=by
 let β':Nat->Pl:=λid=>if id<n then β id else⟨false,false,0,none,0,0,0,[]⟩
 have hβ:∀ id,id<n->β' id=β id:=λid hid=>by simp[β',hid]
 have hget:∀ (id:Nat) (o:Ob),(σ.h.take n)[id]?=some o->id<n/\σ.h[id]?=some o:=λid o h=>by
  rw[List.getElem?_take]at h;split at h
  ·rename_i hlt;exact⟨hlt,h⟩
  ·cases h
 have hN:∀ b j,b<w.heap.size->C.N β' (σ.h.take n) b j->C.N β σ.h b j:=λb j _ hb=>by
  rcases hb with hb|⟨id,o,ho,hw,hbk⟩
  ·exact .inl hb
  ·obtain⟨hid,ho⟩:=hget id o ho;rw[hβ id hid]at hbk;exact .inr ⟨id,o,ho,hw,hbk⟩
 refine⟨β',⟨⟨?_,?_,?_,?_,hs.heap.n0,hs.heap.frame,hs.heap.size,hs.heap.os,hs.heap.tape,hs.heap.output,λj o hj=>by
  obtain⟨k1,k2⟩:=hs.heap.fixed j o hj;have hjn:j<n:=Nat.lt_of_lt_of_le (bE.1 hj).1 hfx;exact⟨by simp;omega,λb hb=>by rw[hβ j hjn];exact k2 b hb⟩⟩,hs.defers,hs.size,λi v hv=>(hs.reg i v hv).below hβ hN (xV hr i v hv)⟩⟩
 ·intro id o hio;obtain⟨hid,h1⟩:=hget id o hio;rw[hβ id hid];have hob:=hs.heap.obj id o h1;cases o with
  |box e ls =>
   have hbl:=xV ho id _ hio;simp only[Ob.Rel]at *;obtain⟨g1,g2,b,cs,g3,g4,g5⟩:=hob;exact⟨g1,g2,b,cs,g3,g4.below hβ hN hbl,g5⟩
  |arr e t ver rows wr =>
   simp only[Ob.Rel]at *;obtain⟨g1,g2,g3,g4,g5,g6,g7⟩:=hob;refine⟨g1,g2,g3,g4,g5,g6,?_⟩;rcases g7 with g7|⟨b,cur,css,k1,k2,k3,k4⟩
   ·exact .inl g7
   ·exact .inr ⟨b,cur,css,k1,k2,k3.mono λ_ _ h=>h.mono (Keep.refl _ w) hN,k4⟩
  |fm tab=>simp only[Ob.Rel]at *;exact hob
  |dm kt vt es =>
   simp only[Ob.Rel]at *;obtain⟨g1,g2,b,ms,g3,g4,g5⟩:=hob;exact⟨g1,g2,b,ms,g3,g4,g5.mono (Keep.refl _ w) hN⟩
  |stk e ei ver rows top =>
   have hbl:=xV ho id _ hio;simp only[Ob.Rel]at *;obtain⟨g1,g2,g3,g4,g5,b,cur,cs,cs2,bs,k1,k2,k3,k4,k5,k6,k7,k8,k9,k10,k11⟩:=hob;refine⟨g1,g2,g3,g4,g5,b,cur,cs,cs2,bs,k1,k2,k3,k4,k5,k6,k7,k8,k9,?_,k11⟩;cases top with
   |none=>exact k10
   |some ls=>exact⟨k10.1.below hβ hN hbl,k10.2⟩
 ·intro id hid;simp only[List.length_take]at hid;simp only[β'];rw[if_neg (by omega)]
 ·intro i j o1 o2 b h1 h2 hb1 hb2;obtain⟨hi,h1⟩:=hget i o1 h1;obtain⟨hj,h2⟩:=hget j o2 h2;rw[hβ i hi]at hb1;rw[hβ j hj]at hb2;exact hs.heap.kR i j o1 o2 b h1 h2 hb1 hb2
 ·intro id o b h1 hb;obtain⟨hi,h1⟩:=hget id o h1;exact hs.heap.Jt h1 rfl (by rw[hβ id hi]) (by rw[hβ id hi]) (λh=>h) hb
section ver
variable {id v:Nat}
def oW (β:Nat->Pl) (id:Nat):Nat->Pl:=upd β id { β id with ver:=0 }
theorem zSq{i j:Nat}(h:i≠j):Nat.beq i j=false:=by
 cases hb:Nat.beq i j
 ·rfl
 ·exact absurd (aK hb) h
mutual
theorem L.Rel.dK{N:Nat->Nat->Prop}(hv:(β id).ver=v):∀ {l:L}{cs:List Value},l.zW id v=true->l.Rel β w N cs->(l.dK id).Rel (oW β id) w N cs
 |.val t x,cs,_,h=>by simp only[L.dK,L.Rel]at *;exact h
 |.Rz x tab,cs,_,h=>by simp only[L.dK,L.Rel]at *;exact h
 |.mp i,cs,_,h=>by
  simp only[L.dK,L.Rel,oW]at *;by_cases hi:i=id
  ·subst hi;rw[upd_same];exact h
  ·rw[aU _ _ hi];exact h
 |.ptr i off,cs,_,h=>by
  simp only[L.dK,L.Rel,oW]at *;by_cases hi:i=id
  ·subst hi;rw[upd_same];exact h
  ·rw[aU _ _ hi];exact h
 |.rY i off es k sub,cs,_,h=>by
  simp only[L.dK,L.Rel,oW]at *;by_cases hi:i=id
  ·subst hi;rw[upd_same];exact h
  ·rw[aU _ _ hi];exact h
 |.lF,cs,_,h=>by simp only[L.dK,L.Rel]at *;exact h
 |.fC i off,cs,_,h=>by
  simp only[L.dK,L.Rel,oW]at *;by_cases hi:i=id
  ·subst hi;rw[upd_same];exact h
  ·rw[aU _ _ hi];exact h
 |.iZ i u a b,cs,hb,h=>by
  simp only[L.dK];by_cases hi:i=id
  ·subst hi;have hu:u=v:=by simpa [L.zW,Nat.beq_refl]using hb
   subst hu;simp only[Nat.beq_refl,if_true,L.Rel,oW,upd_same]at *;obtain⟨h1,h2,h3,c,h4,h5,h6⟩:=h;exact⟨h1,h2,aP _,c,h4,h5,λ_=>h6 hv⟩
  ·have:Nat.beq i id=false:=zSq hi;simp only[this,Bool.false_eq_true,if_false,L.Rel,oW]at *;rw[aU _ _ hi];exact h
 |.qY t x off,cs,_,h=>by simp only[L.dK,L.Rel]at *;exact h
 |.sl i u a b,cs,hb,h=>by
  simp only[L.dK];by_cases hi:i=id
  ·subst hi;have hu:u=v:=by simpa [L.zW,Nat.beq_refl]using hb
   subst hu;simp only[Nat.beq_refl,if_true,L.Rel,oW,upd_same]at *;obtain⟨h1,h2,h3,c,h4,h5,h6⟩:=h;exact⟨h1,h2,aP _,c,h4,h5,λ_=>h6 hv⟩
  ·have:Nat.beq i id=false:=zSq hi;simp only[this,Bool.false_eq_true,if_false,L.Rel,oW]at *;rw[aU _ _ hi];exact h
 |.own i u,cs,hb,h=>by
  simp only[L.dK];by_cases hi:i=id
  ·subst hi;have hu:u=v:=by simpa [L.zW,Nat.beq_refl]using hb
   subst hu;simp only[Nat.beq_refl,if_true,L.Rel,oW,upd_same]at *;obtain⟨h1,h2,h3,c,h4,h5,h6⟩:=h;exact⟨h1,h2,aP _,c,h4,h5,λ_=>h6 hv⟩
  ·have:Nat.beq i id=false:=zSq hi;simp only[this,Bool.false_eq_true,if_false,L.Rel,oW]at *;rw[aU _ _ hi];exact h
 |.bJ,cs,_,h=>by simp only[L.dK,L.Rel]at *;exact h
 |.clo f caps,cs,hb,h=>by
  simp only[L.zW]at hb;simp only[L.dK,L.Rel]at *;obtain⟨us,hc,hr⟩:=h;exact⟨us,hc,L.eD.dK hv hb hr⟩
 |.bad n,cs,_,h=>by simp only[L.dK,L.Rel]at *;exact h
theorem L.eD.dK{N:Nat->Nat->Prop}(hv:(β id).ver=v):∀ {ls:List L}{us:List Value},L.Hw id v ls=true->L.eD β w N ls us->L.eD (oW β id) w N (L.Dr id ls) us
 |[],us,_,h=>by simp only[L.Dr,L.eD]at *;exact h
 |l::ls,us,hb,h=>by
  simp only[L.Hw,aD]at hb;simp only[L.Dr,L.eD]at *;obtain⟨u,r,e,h1,h2⟩:=h;exact⟨u,r,e,L.Rel.dK hv hb.1 h1,L.eD.dK hv hb.2 h2⟩
end
theorem aG.dK{N:Nat->Nat->Prop}(hv:(β id).ver=v):∀ {ls:List L}{cs:List Value},L.Hw id v ls=true->aG β w N ls cs->aG (oW β id) w N (L.Dr id ls) cs
 |[],_,_,h=>by simp only[L.Dr,aG]at *;exact h
 |l::ls,_,hb,⟨c1,c2,e,h1,h2⟩=>by
  simp only[L.Hw,aD]at hb;exact⟨c1,c2,e,h1.dK hv hb.1,aG.dK hv hb.2 h2⟩
theorem zHa{N:Nat->Nat->Prop}(hv:(β id).ver=v):∀ {vs:List (Sum L (List L))}{us:List Value},zBg id v vs=true->bD (jH β w N) vs us->bD (jH (oW β id) w N) (zDn id vs) us
 |[],[],_,_=>trivial
 |.inl l::vs,u::us,hb,h=>by
  simp only[zBg,aD]at hb;exact⟨L.Rel.dK hv hb.1 h.1,zHa hv hb.2 h.2⟩
 |.inr ls::vs,u::us,hb,h=>by
  simp only[zBg,aD]at hb;obtain⟨⟨cs,e,hr⟩,h2⟩:=h;exact⟨⟨cs,e,hr.dK hv hb.1⟩,zHa hv hb.2 h2⟩
 |[],_::_,_,h=>h.elim
 |.inl _::_,[],_,h=>h.elim
 |.inr _::_,[],_,h=>h.elim
theorem V.Rel.dK{N:Nat->Nat->Prop}(hv:(β id).ver=v){u:V}{x:Value}(hb:u.zW id v=true)(h:u.Rel β w N x):(u.dK id).Rel (oW β id) w N x:=by
 cases u with
 |one l=>exact L.Rel.dK hv hb h
 |agg ls=>obtain⟨cs,e,hr⟩:=h;exact⟨cs,e,hr.dK hv hb⟩
 |tup vs=>obtain⟨us,e,hr⟩:=h;exact⟨us,e,zHa hv hb hr⟩
 |bY=>trivial
theorem yQk(i:Nat):(oW β id i).box=(β i).box:=by
 unfold oW;by_cases hi:i=id
 ·subst hi;rw[upd_same]
 ·rw[aU _ _ hi]
theorem Nu(i:Nat):(oW β id i).blk=(β i).blk/\(oW β id i).live=(β i).live:=by
 unfold oW upd;split
 ·rename_i h;subst h;exact⟨rfl,rfl⟩
 ·exact⟨rfl,rfl⟩
theorem Ob.yQl(o:Ob):(o.dK id).wr=o.wr:=by cases o<;>rfl
theorem Ob.yIl(o:Ob):(o.dK id).sU=o.sU:=by cases o<;>rfl
theorem zDo(i:Nat):(oW β id i).sub=(β i).sub:=by
 unfold oW upd;split
 ·rename_i h;subst h;rfl
 ·rfl
theorem Sim.dK{σ:St}{a:Act}{e:TypeId}{t:Ty}{rows:List t.den}{wr:Bool}(hs:Sim C β σ a w)(ho:σ.h[id]?=some (.arr e t v rows wr))(hr:dA (V.zW id v) σ.r=true)(hh:dA (Ob.zW id v) σ.h=true):Sim C (oW β id) ⟨σ.r.map (V.dK id),(σ.h.map (Ob.dK id)).set id (.arr e t 0 rows wr)⟩ a w:=by
 have hob:=hs.heap.obj _ _ ho;simp only[Ob.Rel]at hob;obtain⟨g1,g2,g3,g4,g5,g6,g7⟩:=hob;have xDm:id<(σ.h.map (Ob.dK id)).length:=by simpa using(bE.1 ho).1
 have hget:∀ (i:Nat) (o:Ob),((σ.h.map (Ob.dK id)).set id (.arr e t 0 rows wr))[i]?=some o->∃ o',σ.h[i]?=some o'/\(o.wr=o'.wr/\o.sU=o'.sU)/\((i≠id/\o=o'.dK id)\/(i=id/\o=.arr e t 0 rows wr)):=λi o h=>by
  by_cases hi:id=i
  ·subst hi;rw[List.getElem?_set_self xDm]at h;simp only[aA]at h;subst h;exact⟨_,ho,⟨rfl,rfl⟩,.inr ⟨rfl,rfl⟩⟩
  ·rw[List.getElem?_set_ne hi,List.getElem?_map,Option.map_eq_some_iff]at h;obtain⟨o',h1,rfl⟩:=h;exact⟨o',h1,⟨Ob.yQl o',Ob.yIl o'⟩,.inl ⟨λh=>hi h.symm,rfl⟩⟩
 have hNi:∀ b j,C.N (oW β id) ((σ.h.map (Ob.dK id)).set id (.arr e t 0 rows wr)) b j->C.N β σ.h b j:=λb j hb=>by
  rcases hb with hb|⟨i,o,h1,h2,h3⟩
  ·exact .inl hb
  ·obtain⟨o',h4,h5,_⟩:=hget i o h1;exact .inr ⟨i,o',h4,by rw[<- h5.1];exact h2,Ob.zA h5.2 (Nu (β:=β) (id:=id) i).1 (zDo i) h3⟩
 have mono:∀ {l:List L}{cs:List Value},aG (oW β id) w (C.N β σ.h) l cs->aG (oW β id) w (C.N (oW β id) ((σ.h.map (Ob.dK id)).set id (.arr e t 0 rows wr))) l cs:=λh=>h.mono (Moves.refl _) (Keep.refl _ w) λb j _ hb=>hNi b j hb
 refine⟨⟨?_,?_,?_,?_,hs.heap.n0,hs.heap.frame,hs.heap.size,hs.heap.os,hs.heap.tape,hs.heap.output,λj o hj=>by
  obtain⟨k1,k2⟩:=hs.heap.fixed j o hj;exact⟨by simpa using k1,λb hb=>by rw[(Nu (β:=β) (id:=id) j).1,(yQk (β:=β) (id:=id) j)];exact k2 b hb⟩⟩,hs.defers,by simpa using hs.size,?_⟩
 ·intro i o h;obtain⟨o',h1,h2,h3|h3⟩:=hget i o h
  ·obtain⟨hi,rfl⟩:=h3;have hob:=hs.heap.obj i o' h1;have hbi:oW β id i=β i:=aU _ _ hi;rw[hbi];cases o' with
   |box eb ls =>
    have hvv:=xV hh i _ h1;simp only[Ob.dK,Ob.Rel]at *;obtain⟨k1,k2,b,cs,k3,k4,k5⟩:=hob;exact⟨k1,k2,b,cs,k3,mono (k4.dK g3 hvv),k5⟩
   |arr e2 t2 xGi gT wr2 =>
    simp only[Ob.dK,Ob.Rel]at *;obtain⟨k1,k2,k3,k4,k5,k6,k7⟩:=hob;refine⟨k1,k2,k3,k4,k5,k6,?_⟩;rcases k7 with k7|⟨b,cur,css,m1,m2,m3,m4⟩
    ·exact .inl k7
    ·exact .inr ⟨b,cur,css,m1,m2,m3.mono λ_ _ h=>h.mono (Keep.refl _ w) λb j _ hb=>hNi b j hb,m4⟩
   |fm tab=>simp only[Ob.dK,Ob.Rel]at *;exact hob
   |dm kt vt es =>
    simp only[Ob.dK,Ob.Rel]at *;obtain⟨k1,k2,b,ms,k3,k4,k5⟩:=hob;exact⟨k1,k2,b,ms,k3,k4,k5.mono (Keep.refl _ w) λb j _ hb=>hNi b j hb⟩
   |stk es ei vs rs top =>
    have hvv:=xV hh i _ h1;simp only[Ob.dK,Ob.Rel]at *;obtain⟨m1,m2,m3,m4,m5,b,cur,cs,cs2,bs,k1,k2,k3,k4,k5,k6,k7,k8,k9,k10,k11⟩:=hob;refine⟨m1,m2,m3,m4,by rw[zCz];exact m5,b,cur,cs,cs2,bs,k1,k2,k3,k4,k5,k6,k7,k8,k9,?_,k11⟩;refine k10.imp _ λls cs e hl=>?_
    subst e;exact mono (hl.dK g3 hvv)
  ·obtain⟨rfl,rfl⟩:=h3;simp only[Ob.Rel,oW,upd_same];refine⟨g1,g2,trivial,g4,g5,g6,?_⟩;rcases g7 with g7|⟨b,cur,css,m1,m2,m3,m4⟩
   ·exact .inl g7
   ·exact .inr ⟨b,cur,css,m1,m2,m3.mono λ_ _ h=>h.mono (Keep.refl _ w) λb j _ hb=>hNi b j hb,m4⟩
 ·intro i hi;rw[(Nu (β:=β) (id:=id) i).2];exact hs.heap.dead i (by simpa using hi)
 ·intro i j o1 o2 b h1 h2 hb1 hb2;obtain⟨o1',k1,k3,_⟩:=hget i o1 h1;obtain⟨o2',k2,k4,_⟩:=hget j o2 h2;exact hs.heap.kR i j o1' o2' b k1 k2 (Ob.mI k3.2 (Nu (β:=β) (id:=id) i).1 (zDo i) hb1) (Ob.mI k4.2 (Nu (β:=β) (id:=id) j).1 (zDo j) hb2)
 ·intro i o b h1 hb;obtain⟨o',k1,k3,_⟩:=hget i o h1;exact hs.heap.Jt k1 k3.2 (Nu (β:=β) (id:=id) i).1 (zDo i) (λh=>by rw[<- k3.1];exact h) hb
 ·intro i u hu;rw[List.getElem?_map,Option.map_eq_some_iff]at hu;obtain⟨u0,h1,rfl⟩:=hu;exact((hs.reg i u0 h1).dK g3 (xV hr i u0 h1)).mono (Moves.refl _) (Keep.refl _ w) λb j _ hb=>hNi b j hb
end ver
theorem aG.uW{N:Nat->Nat->Prop}{l:L}(hl:l.Rel β w N [.slice none 0 0]):∀ {ls ls':List L}{j:Nat}{cs:List Value},Dec.uW ls j l=some ls'->aG β w N ls cs->aG β w N ls' cs
 |[],_,j,_,h,_=>by simp[Dec.uW]at h
 |x::ls,ls',0,cs,h,hr=>by
  simp only[Dec.uW,List.getElem?_cons_zero]at h;split at h
  ·rename_i hx;simp only[aA]at h hx;subst h hx;obtain⟨c1,c2,e,h1,h2⟩:=hr;simp only[L.Rel]at h1;subst h1;exact⟨_,c2,e,hl,h2⟩
  ·cases h
 |x::ls,ls',j+1,cs,h,hr=>by
  simp only[Dec.uW,List.getElem?_cons_succ]at h;split at h
  ·rename_i hx;simp only[aA,List.set_cons_succ]at h;subst h;obtain⟨c1,c2,e,h1,h2⟩:=hr;exact⟨c1,c2,e,h1,aG.uW (j:=j) hl (by simp[Dec.uW,hx]) h2⟩
  ·cases h
theorem aG.setAt{N:Nat->Nat->Prop}{l':L}:∀ {ls:List L}{j:Nat}{l:L}{cs:List Value},ls[j]?=some l->(∀ c,l.Rel β w N c->l'.Rel β w N c)->aG β w N ls cs->aG β w N (ls.set j l') cs
 |[],j,_,_,h,_,_=>by simp at h
 |x::ls,0,l,cs,h,hl,hr=>by
  simp only[List.getElem?_cons_zero,aA]at h;subst h;obtain⟨c1,c2,e,h1,h2⟩:=hr;exact⟨c1,c2,e,hl _ h1,h2⟩
 |x::ls,j+1,l,cs,h,hl,hr=>by
  obtain⟨c1,c2,e,h1,h2⟩:=hr;exact⟨c1,c2,e,h1,aG.setAt (j:=j) (by simpa using h) hl h2⟩
theorem aG.zPl{N N':Nat->Nat->Prop}(hN:∀ b j,b<w.heap.size->N' b j->N b j){l':L}:∀ {ls:List L}{j:Nat}{l:L}{cs:List Value},ls[j]?=some l->(∀ c,l.Rel β w N c->l'.Rel β w N' c)->aG β w N ls cs->aG β w N' (ls.set j l') cs
 |[],j,_,_,h,_,_=>by simp at h
 |x::ls,0,l,cs,h,hl,hr=>by
  simp only[List.getElem?_cons_zero,aA]at h;subst h;obtain⟨c1,c2,e,h1,h2⟩:=hr;exact⟨c1,c2,e,hl _ h1,h2.mono (Moves.refl β) (Keep.refl _ w) hN⟩
 |x::ls,j+1,l,cs,h,hl,hr=>by
  obtain⟨c1,c2,e,h1,h2⟩:=hr;exact⟨c1,c2,e,h1.mono (Moves.refl β) (Keep.refl _ w) hN,aG.zPl (j:=j) hN (by simpa using h) hl h2⟩
theorem zZm{h:List Ob}{e:TypeId}{t:Ty}{ver id off len:Nat}{rows:List t.den}{wr:Bool}{c:Value}{N':Nat->Nat->Prop}(hh:fB C β h w)(ho:h[id]?=some (.arr e t ver rows wr))(hsl:eO (β id) off len c)(hle:off+len<=rows.length)(hN:∀ b j,b<w.heap.size->N' b j->C.N β h b j)(hnb:∀ b j,(β id).blk=some b->¬ N' b j):(Ty.slice t).Rel w N' ((rows.drop off).take len) [c]:=by
 have hob:=hh.obj _ _ ho;simp only[Ob.Rel]at hob;obtain⟨_,_,hpv,hpz,hpos,hpl,hob⟩:=hob;simp only[Ty.Rel];refine⟨c,rfl,?_⟩;unfold eO at hsl;rcases hob with ⟨hnb',hr0,_⟩|⟨b,cur,css,hb,hheap,hall,htake,hcap,hrc,hm⟩
 ·rw[hnb']at hsl;subst hr0;exact .inl ⟨hsl.1,by simp⟩
 ·rw[hb]at hsl;obtain⟨h1,o,rfl,h3⟩:=hsl;obtain⟨hf1,hf2,_⟩:=hh.fresh _ _ _ ho hb;have hlen:((rows.drop off).take len).length=len:=by simp;omega
  have hl:=jJ hall;have hcs:=(Cells.of_heap hheap).take (rows.length*t.size);rw[htake]at hcs;have hcs2:=(hcs.drop (off*t.size)).take (len*t.size);rw[oP css hl off,rX _ (λc hc=>hl c (List.mem_of_mem_drop hc)) len,Nat.zero_add]at hcs2;have zXt:bD (λx c=>t.Rel w N' x c) ((rows.drop off).take len) ((css.drop off).take len):=((hall.drop off).take len).mono λ_ _ h=>h.mono (Keep.refl _ w) hN
  refine .inr (.inl ⟨b,o,_,(css.drop off).take len,by rw[hlen],hf2,λj _ _=>hnb b j hb,by omega,by omega,zXt,λc hc=>hl c (List.mem_of_mem_drop (List.mem_of_mem_take hc)),?_⟩);rcases h3 with h3|⟨h3,_⟩
  ·rw[h3,hpz];exact hcs2
  ·have hl0:len=0:=by omega
   subst hl0;simpa using Cells.nil
theorem fB.freeze{id:Nat}{e:TypeId}{t:Ty}{v:Nat}{rows:List t.den}{wr:Bool}{h:List Ob}(hs:fB C β h w)(ho:h[id]?=some (.arr e t v rows wr)):fB C β (h.set id (.arr e t v rows false)) w/\(∀ b j,C.N β (h.set id (.arr e t v rows false)) b j->C.N β h b j)/\∀ b j,(β id).blk=some b->¬ C.N β (h.set id (.arr e t v rows false)) b j:=by
 have hi:id<h.length:=(bE.1 ho).1;have hget:∀ (i:Nat) (o:Ob),(h.set id (.arr e t v rows false))[i]?=some o->(i≠id/\h[i]?=some o)\/(i=id/\o=.arr e t v rows false):=λi o hio=>by
  by_cases hid:i=id
  ·subst hid;rw[List.getElem?_set_self hi]at hio;simp only[aA]at hio;exact .inr ⟨rfl,hio.symm⟩
  ·rw[List.getElem?_set_ne (Ne.symm hid)]at hio;exact .inl ⟨hid,hio⟩
 have hN:∀ b j,C.N β (h.set id (.arr e t v rows false)) b j->C.N β h b j:=λb j hb=>by
  rcases hb with hb|⟨i,o,hio,hw,hbk⟩
  ·exact .inl hb
  ·rcases hget i o hio with ⟨_,hio⟩|⟨_,rfl⟩
   ·exact .inr ⟨i,o,hio,hw,hbk⟩
   ·cases hw
 have hob:∀ (i:Nat) (o:Ob),h[i]?=some o->o.Rel β w (C.N β (h.set id (.arr e t v rows false))) (β i):=λi o hio=>(hs.obj i o hio).mono (Moves.refl β) (Keep.refl _ w) (λb j _ hb=>hN b j hb) λ_ _=>rfl
 refine⟨⟨λi o hio=>?_,λi hl=>hs.dead i (by simpa using hl),λi j o o' b h1 h2 hb1 hb2=>?_,λi o b hio hb=>?_,hs.n0,hs.frame,hs.size,hs.os,hs.tape,hs.output,λj o hj=>⟨by simpa using(hs.fixed j o hj).1,(hs.fixed j o hj).2⟩⟩,hN,λb k hb hn=>?_⟩
 ·rcases hget i o hio with ⟨_,hio⟩|⟨rfl,rfl⟩
  ·exact hob i o hio
  ·have:=hob i _ ho;simp only[Ob.Rel]at this ⊢;exact this
 ·have k:∀ (i:Nat) (o:Ob),(h.set id (.arr e t v rows false))[i]?=some o->∃ o':Ob,h[i]?=some o'/\o.sU=o'.sU:=λi o hio=>by
   rcases hget i o hio with ⟨_,hio⟩|⟨rfl,rfl⟩
   ·exact⟨o,hio,rfl⟩
   ·exact⟨_,ho,rfl⟩
  obtain⟨o1,k1,k3⟩:=k i o h1;obtain⟨o2,k2,k4⟩:=k j o' h2;exact hs.kR i j o1 o2 b k1 k2 (Ob.mI k3 rfl rfl hb1) (Ob.mI k4 rfl rfl hb2)
 ·rcases hget i o hio with ⟨_,hio⟩|⟨rfl,rfl⟩
  ·exact hs.eY i o b hio hb
  ·exact hs.Jt ho rfl rfl rfl (λh=>by cases h) hb
 ·rcases hn with hn|⟨i,o,hio,hw,hbk⟩
  ·exact(hs.fresh id _ b ho hb).1 k hn
  ·rcases hget i o hio with ⟨hne,hio⟩|⟨_,rfl⟩
   ·exact hne (hs.kR i id o _ b hio ho ⟨k,hbk⟩ (Ob.wS hb))
   ·cases hw
theorem zSr{h h':List Ob}{l l':L}(hf:frz h l=some (true,l',h'))(hs:fB C β h w):fB C β h' w/\(∀ b j,C.N β h' b j->C.N β h b j)/\(∀ cs,l.Rel β w (C.N β h) cs->l'.Rel β w (C.N β h') cs)/\h'.length=h.length /\
 (∀ (i:Nat) (o:Ob),h[i]?=some o->∃ o',h'[i]?=some o'/\(∀ e ls,o=.box e ls->o'=.box e ls)):=by
 have ob:∀ {id:Nat}{e:TypeId}{t:Ty}{v:Nat}{rows:List t.den}{wr:Bool},h[id]?=some (.arr e t v rows wr)->∀ (i:Nat) (o:Ob),h[i]?=some o->∃ o',(h.set id (.arr e t v rows false))[i]?=some o'/\(∀ e ls,o=.box e ls->o'=.box e ls):=by
  intro id e t v rows wr ho i o hio;by_cases hid:i=id
  ·subst hid;rw[ho]at hio;simp only[aA]at hio;subst hio;exact⟨_,List.getElem?_set_self (bE.1 ho).1,λe ls h=>by cases h⟩
  ·exact⟨o,by rw[List.getElem?_set_ne (Ne.symm hid)];exact hio,λe ls h=>h⟩
 cases l<;>simp only[frz,reduceCtorEq]at hf
 case own id ver =>
  split at hf
  ·rename_i e t v rows wr ho;simp only[aA,aB]at hf;obtain⟨hv,rfl,rfl⟩:=hf;have hv:=aK hv;obtain⟨k1,k2,k3⟩:=hs.freeze ho;refine⟨k1,k2,λcs hr=>?_,by simp,ob ho⟩;have hob:=hs.obj _ _ ho;simp only[Ob.Rel]at hob;obtain⟨_,_,hpv,_,_,hpl,_⟩:=hob;simp only[L.Rel]at hr;obtain⟨_,_,_,c,rfl,_,himp⟩:=hr;have hsl:=himp (by rw[hpv,hv]);rw[hpl]at hsl;have:=zZm (N':=C.N β (h.set id (.arr e t v rows false))) hs ho hsl (by omega) (λb j _ hb=>k2 b j hb) k3;rw[List.drop_zero,List.take_length]at this;simpa only[L.Rel]using this
  ·cases hf
 case sl id ver off len =>
  split at hf
  ·rename_i e t v rows wr ho;simp only[aA,aB,aD]at hf;obtain⟨⟨hv,hle⟩,rfl,rfl⟩:=hf;have hv:=aK hv;obtain⟨k1,k2,k3⟩:=hs.freeze ho;refine⟨k1,k2,λcs hr=>?_,by simp,ob ho⟩;have hob:=hs.obj _ _ ho;simp only[Ob.Rel]at hob;obtain⟨_,_,hpv,_,_,hpl,_⟩:=hob;simp only[L.Rel]at hr;obtain⟨_,_,_,c,rfl,_,himp⟩:=hr;simpa only[L.Rel]using zZm (N':=C.N β (h.set id (.arr e t v rows false))) hs ho (himp (by rw[hpv,hv])) (bR hle) (λb j _ hb=>k2 b j hb) k3
  ·cases hf
theorem yQm{N:Nat->Nat->Prop}{to off:Nat}{l l':L}{cs:List Value}(h:yQj to off l=some l')(hr:l.Rel β w N cs):l'.Rel β w N cs:=by
 cases l<;>simp only[yQj,reduceCtorEq]at h
 case lF =>
  simp only[aA]at h;subst h;simp only[L.Rel]at *;exact⟨_,hr,.inl rfl⟩
 case ptr a b =>
  split at h
  ·rename_i hb;simp only[aD]at hb;have e1:=aK hb.1;have e2:=aK hb.2;subst e1 e2;simp only[aA]at h;subst h;simp only[L.Rel]at *;obtain⟨h1,h2,b,h3,h4⟩:=hr;exact⟨_,h4,.inr ⟨h1,h2,b,h3,rfl⟩⟩
  ·cases h
 case fC a b =>
  split at h
  ·rename_i hb;simp only[aD]at hb;have e1:=aK hb.1;have e2:=aK hb.2;subst e1 e2;simp only[aA]at h;subst h;exact hr
  ·cases h
def Nv(β:Nat->Pl)(ρ:List Nat):Nat->Pl:=λj=>match ρ[j]? with|some i=>{ β i with ver:=0 }|none=>⟨false,false,0,none,0,0,0,[]⟩
theorem zZn{C:Ctx}{β:Nat->Pl}{w:World}{h:List Ob}{ρ:List Nat}(hs:fB C β h w)(hlt:∀ i∈ρ,i<h.length):yIf β (Nv β ρ) ρ h:=by
 intro i j hp;obtain⟨m,hm,hi⟩:=Jg hp;rw[Nat.zero_add]at hm;subst hm;have e:Nv β ρ j={ β i with ver:=0 }:=by simp only[Nv,hi]
 rw[e];refine⟨rfl,rfl,rfl,λhb=>⟨rfl,?_,rfl,rfl,rfl⟩⟩;have hil:=hlt i (List.mem_of_getElem? hi);have ho:h[i]?=some h[i]:=by simp[hil]
 have hob:=hs.obj i _ ho;unfold zMx;rw[ho];cases hoi:h[i]with
 |box e ls =>
  rw[hoi]at hob;simp only[Ob.Rel]at hob;rw[hob.2.1]at hb;cases hb
 |arr e t v rows wr =>
  rw[hoi]at hob;simp only[Ob.Rel]at hob;exact hob.2.2.1
 |stk e ei v rows top =>
  rw[hoi]at hob;simp only[Ob.Rel]at hob;exact hob.2.2.1
 |fm tab =>
  rw[hoi]at hob;simp only[Ob.Rel]at hob;rw[hob.2.1]at hb;cases hb
 |dm kt vt es =>
  rw[hoi]at hob;simp only[Ob.Rel]at hob;rw[hob.2.1]at hb;cases hb
theorem Sim.gc{σ:St}{a:Act}{ρ:List Nat}(hs:Sim C β σ a w)(hnd:nodupB ρ=true)(hlt:∀ i∈ρ,i<σ.h.length)(hfx:∀ j,j<C.fix.length->ρ[j]?=some j):Sim C (Nv β ρ) ⟨σ.r.map (V.ren ρ σ.h),inH ρ σ.h⟩ a w:=by
 have zMy:=zZn hs.heap hlt;have hget:∀ i∈ρ,∃ o,σ.h[i]?=some o:=λi hi=>⟨σ.h[i]'(hlt i hi),by simp[hlt i hi]⟩
 have hβ:∀ {j i:Nat},ρ[j]?=some i->Nv β ρ j={ β i with ver:=0 }:=λhi=>by simp only[Nv,hi]
 have hN:∀ b j,b<w.heap.size->C.N (Nv β ρ) (inH ρ σ.h) b j->C.N β σ.h b j:=λb k _ hb=>by
  rcases hb with hb|⟨j,o,ho,hw,hbk⟩
  ·exact .inl hb
  ·obtain⟨i,hi,rfl⟩:=Bp ho;obtain⟨o',ho'⟩:=hget i (List.mem_of_getElem? hi);rw[gU ho',Ob.zGx]at hw;rw[gU ho',hβ hi]at hbk;exact .inr ⟨i,o',ho',hw,Ob.zA (Ob.zV ρ σ.h o') rfl rfl hbk⟩
 refine⟨⟨?_,?_,?_,?_,hs.heap.n0,hs.heap.frame,hs.heap.size,hs.heap.os,hs.heap.tape,hs.heap.output,?_⟩,hs.defers,by simpa using hs.size,?_⟩
 ·intro j o ho;obtain⟨i,hi,rfl⟩:=Bp ho;obtain⟨o',ho'⟩:=hget i (List.mem_of_getElem? hi);rw[gU ho',hβ hi];have hob:=hs.heap.obj i o' ho';cases o' with
  |box e ls =>
   simp only[Ob.ren,Ob.Rel]at *;obtain⟨h1,h2,b,cs,h3,h4,h5⟩:=hob;exact⟨h1,h2,b,cs,h3,h4.Gs zMy hN,h5⟩
  |arr e t v rows wr =>
   simp only[Ob.ren,Ob.Rel]at *;obtain⟨h1,h2,h3,h4,h5,h6,h7⟩:=hob;refine⟨h1,h2,trivial,h4,h5,h6,?_⟩;rcases h7 with h7|⟨b,cur,css,k1,k2,k3,k4⟩
   ·exact .inl h7
   ·exact .inr ⟨b,cur,css,k1,k2,k3.mono λ_ _ h=>h.mono (Keep.refl _ w) hN,k4⟩
  |fm tab=>simp only[Ob.ren,Ob.Rel]at *;exact hob
  |dm kt vt es =>
   simp only[Ob.ren,Ob.Rel]at *;obtain⟨h1,h2,b,ms,h3,h4,h5⟩:=hob;exact⟨h1,h2,b,ms,h3,h4,h5.mono (Keep.refl _ w) hN⟩
  |stk e ei v rows top =>
   simp only[Ob.ren,Ob.Rel]at *;obtain⟨g1,g2,g3,g4,g5,b,cur,cs,cs2,bs,k1,k2,k3,k4,k5,k6,k7,k8,k9,k10,k11⟩:=hob;exact⟨g1,g2,trivial,g4,by rw[zCz];exact g5,b,cur,cs,cs2,bs,k1,k2,k3,k4,k5,k6,k7,k8,k9,k10.imp _ λls cs _ hl=>hl.Gs zMy hN,k11⟩
 ·intro j hj;simp only[inH,List.length_map]at hj;simp only[Nv,List.getElem?_eq_none hj]
 ·intro i j o1 o2 b h1 h2 hb1 hb2;obtain⟨i',hi,rfl⟩:=Bp h1;obtain⟨j',hj,rfl⟩:=Bp h2;obtain⟨o1',ho1⟩:=hget i' (List.mem_of_getElem? hi);obtain⟨o2',ho2⟩:=hget j' (List.mem_of_getElem? hj);rw[hβ hi,gU ho1]at hb1;rw[hβ hj,gU ho2]at hb2;have:=hs.heap.kR i' j' o1' o2' b ho1 ho2 (Ob.mI (Ob.zV ρ σ.h o1') rfl rfl hb1) (Ob.mI (Ob.zV ρ σ.h o2') rfl rfl hb2);subst this;exact Tz hnd hi hj
 ·intro j o b ho hb;obtain⟨i,hi,rfl⟩:=Bp ho;obtain⟨o',ho'⟩:=hget i (List.mem_of_getElem? hi);rw[gU ho']at hb ⊢;exact hs.heap.Jt ho' (Ob.zV ρ σ.h o') (by rw[hβ hi]) (by rw[hβ hi]) (λh=>by rw[Ob.zGx]at h;exact h) hb
 ·intro j o hj;obtain⟨k1,k2⟩:=hs.heap.fixed j o hj;have hj2:=hfx j (bE.1 hj).1;refine⟨by simpa [inH]using(bE.1 hj2).1,λb hb=>?_⟩;rw[hβ hj2];exact k2 b hb
 ·intro i v hv;simp only[List.getElem?_map,Option.map_eq_some_iff]at hv;obtain⟨v0,hv0,rfl⟩:=hv;exact(hs.reg i v0 hv0).Gs zMy hN
theorem yFo{kf:Nat}(hkf:C.fix.length<=kf){ρ:List Nat}{σ σ':St}{a:Act}{b:Bool}(hfx:zJz 0 kf ρ=true)(h:gcL ρ σ=some (b,σ'))(hs:Sim C β σ a w):∃ β',Sim C β' σ' a w:=by
 unfold gcL at h;split at h
 ·rename_i hc;simp only[aD]at hc;simp only[aA,aB]at h;obtain⟨_,rfl⟩:=h;refine⟨_,hs.gc hc.1 (λi hi=>?_) λj hj=>?_⟩
  ·obtain⟨n,hn⟩:=List.getElem?_of_mem hi;exact bR (xV hc.2 n i hn)
  ·have:=zUp hfx j (Nat.lt_of_lt_of_le hj hkf)
   rwa [Nat.zero_add]at this
 ·cases h
theorem yVx(_hT:bM C.P T){kf:Nat}(hkf:C.fix.length<=kf){c:Co}{σ σ':St}{a:Act}{b:Bool}(hfx:c.fx kf=true)(h:co1 T c σ=some (b,σ'))(hb:b=true)(hs:Sim C β σ a w):∃ β',Sim C β' σ' a w:=by
 cases c with
 |opn id j =>
  simp only[co1]at h;obtain⟨h',h1,rfl⟩:=Fe h;subst hb;exact yQc h1 hs
 |cls id j =>
  simp only[co1]at h;obtain⟨h',h1,rfl⟩:=Fe h;subst hb;exact yQf h1 hs
 |yQi id j =>
  simp only[co1]at h;obtain⟨h',h1,rfl⟩:=Fe h;subst hb;exact yMq h1 hs
 |zSp id k =>
  simp only[co1]at h;obtain⟨h',h1,rfl⟩:=Fe h;subst hb;exact yQh h1 hs
 |zJy id j =>
  simp only[co1]at h;obtain⟨h',h1,rfl⟩:=Fe h;subst hb;exact yMr h1 hs
 |shut id =>
  simp only[co1]at h;obtain⟨h',h1,rfl⟩:=Fe h;subst hb;exact yMs h1 hs
 |slR i =>
  simp only[co1]at h;split at h
  ·rename_i id ver hi;split at h
   ·rename_i e t v rows wr ho;simp only[aA,aB]at h;obtain⟨rfl,rfl⟩:=h;have hv:=aK hb;refine⟨β,hs.heap,hs.defers,by simpa using hs.size,λj u hu=>?_⟩;by_cases hij:i=j
    ·subst hij;rw[List.getElem?_set_self (bE.1 hi).1]at hu;simp only[aA]at hu;subst hu;have hr:=hs.reg i _ hi;have hob:=hs.heap.obj _ _ ho;simp only[Ob.Rel]at hob;obtain⟨_,_,hpv,_,_,hpl,_⟩:=hob;simp only[V.Rel,L.Rel]at hr ⊢;obtain⟨h1,h2,h3,c,h4,h5,h6⟩:=hr;exact⟨h1,h2,h3,c,h4,h5,λhvv=>by have:=h6 hvv;rwa [hpl]at this⟩
    ·rw[List.getElem?_set_ne hij]at hu;exact hs.reg j u hu
   ·cases h
  ·simp only[aA,aB]at h;obtain⟨_,rfl⟩:=h;exact⟨β,hs⟩
  ·cases h
 |yYg i j t =>
  simp only[co1]at h;split at h
  ·rename_i ls e te ti hi het;obtain⟨ts,_,_,hti,_,hsz,hpos,hby⟩:=jV het;split at h
   ·simp only[aA,aB]at h;obtain⟨_,rfl⟩:=h;exact⟨β,hs⟩
   split at h
   ·rename_i ls' hset;simp only[aA,aB]at h;obtain⟨_,rfl⟩:=h;obtain⟨β',h1,h2,h3⟩:=Ql (e:=e) (t:=te) hs hpos;refine⟨β',h2.heap,h2.defers,by simpa using h2.size,λk v hv=>?_⟩;by_cases hij:i=k
    ·subst hij;rw[List.getElem?_set_self (bE.1 hi).1]at hv;simp only[aA]at hv;subst hv;obtain⟨cs,e1,e2⟩:=h2.reg i _ hi;exact⟨cs,e1,aG.uW h3 hset e2⟩
    ·rw[List.getElem?_set_ne hij]at hv;exact h2.reg k v hv
   ·cases h
  ·cases h
 |yYh i j =>
  simp only[co1]at h;split at h
  ·rename_i ls hi;split at h
   ·rename_i l hl;split at h
    ·simp only[aA,aB]at h;obtain⟨_,rfl⟩:=h;exact⟨β,hs⟩
    split at h
    ·rename_i c l' h' hf;simp only[aA,aB]at h;obtain⟨rfl,rfl⟩:=h;subst hb;obtain⟨k1,k2,k3,k4,_⟩:=zSr hf hs.heap;refine⟨β,k1,hs.defers,by simpa using hs.size,λk u hu=>?_⟩;by_cases hij:i=k
     ·subst hij;rw[List.getElem?_set_self (bE.1 hi).1]at hu;simp only[aA]at hu;subst hu;obtain⟨cs,e1,e2⟩:=hs.reg i _ hi;exact⟨cs,e1,aG.zPl (λb j _ hb=>k2 b j hb) hl k3 e2⟩
     ·rw[List.getElem?_set_ne hij]at hu;exact(hs.reg k u hu).mono (Moves.refl β) (Keep.refl _ w) λb j _ hb=>k2 b j hb
    ·cases h
   ·cases h
  ·cases h
 |gc ρ=>exact yFo hkf hfx h hs
 |gcA k =>
  simp only[co1]at h;split at h
  ·rename_i hp;simp only[Co.fx]at hfx;exact yFo (Nat.le_trans hkf (bR hfx)) hp h hs
  ·cases h
 |orn id j to off =>
  simp only[co1]at h;split at h
  ·rename_i eb ls hi;split at h
   ·rename_i l hl;split at h
    ·rename_i l' hf;simp only[aA,aB]at h;obtain⟨_,rfl⟩:=h;have hob:=hs.heap.obj _ _ hi;simp only[Ob.Rel]at hob;obtain⟨_,_,bb,cs,hb,hls,hheap⟩:=hob;have hnew:aG β w (C.N β σ.h) (ls.set j l') cs:=aG.setAt hl (λc hr=>yQm hf hr) hls;have:=hs.Vm (cs':=cs) hi hb hheap hnew;rw[setRow_self w bb cs.toArray eb (0,0) hheap]at this;exact⟨β,this⟩
    ·cases h
   ·cases h
  ·cases h
 |yIk i =>
  simp only[co1]at h;split at h
  ·rename_i l hi;split at h
   ·simp only[aA,aB]at h;obtain⟨_,rfl⟩:=h;exact⟨β,hs⟩
   split at h
   ·rename_i c l' h' hf;simp only[aA,aB]at h;obtain⟨rfl,rfl⟩:=h;subst hb;obtain⟨k1,k2,k3,k4,_⟩:=zSr hf hs.heap;refine⟨β,k1,hs.defers,by simpa using hs.size,λj u hu=>?_⟩;by_cases hij:i=j
    ·subst hij;rw[List.getElem?_set_self (bE.1 hi).1]at hu;simp only[aA]at hu;subst hu;exact k3 _ (hs.reg i _ hi)
    ·rw[List.getElem?_set_ne hij]at hu;exact(hs.reg j u hu).mono (Moves.refl β) (Keep.refl _ w) λb j _ hb=>k2 b j hb
   ·cases h
  ·cases h
 |yYf id j =>
  simp only[co1]at h;split at h
  ·rename_i eb ls hi;split at h
   ·rename_i l hl;split at h
    ·simp only[aA,aB]at h;obtain⟨_,rfl⟩:=h;exact⟨β,hs⟩
    split at h
    ·rename_i c l' h' hf;simp only[aA,aB]at h;obtain⟨rfl,rfl⟩:=h;subst hb;obtain⟨k1,k2,k3,k4,k5⟩:=zSr hf hs.heap;obtain⟨o',h1,h2⟩:=k5 id _ hi;have h2:=h2 eb ls rfl;subst h2;have hs':Sim C β ⟨σ.r,h'⟩ a w:=⟨k1,hs.defers,hs.size,λi v hv=>(hs.reg i v hv).mono (Moves.refl β) (Keep.refl _ w) λb j _ hb=>k2 b j hb⟩;have hob:=k1.obj _ _ h1;have zSs:=hs.heap.obj _ _ hi;simp only[Ob.Rel]at hob zSs;obtain⟨_,_,bb,cs,hb,hls,hheap⟩:=hob;obtain⟨_,_,bb0,cs0,hb0,xDn,zZo⟩:=zSs;rw[hb]at hb0;simp only[aA]at hb0;subst hb0;rw[hheap]at zZo;simp only[aA,Obj.cells.injEq,and_true]at zZo;have hcs:cs0=cs:=by have:=congrArg Array.toList zZo;simpa using this.symm
     subst hcs;have hnew:aG β w (C.N β h') (ls.set j l') cs0:=aG.zPl (λb j _ hb=>k2 b j hb) hl k3 xDn;have:=hs'.Vm (cs':=cs0) h1 hb hheap hnew;rw[setRow_self w bb cs0.toArray eb (0,0) hheap]at this;exact⟨β,this⟩
    ·cases h
   ·cases h
  ·cases h
 |keep m =>
  simp only[co1,aA,aB]at h;obtain⟨rfl,rfl⟩:=h;refine⟨β,hs.heap,hs.defers,by rw[Lc];exact hs.size,λi v hv=>?_⟩;rcases Yx m σ.r i v hv with rfl|h1
  ·trivial
  ·exact hs.reg i v h1
 |trunc n =>
  simp only[co1]at h;split at h
  ·rename_i hc;simp only[aD]at hc;simp only[aA,aB]at h;obtain⟨rfl,rfl⟩:=h;exact hs.trunc (Nat.le_trans hkf (bR hfx)) (bR hc.1) hc.2.1 hc.2.2
  ·cases h
 |zDm i t =>
  simp only[co1]at h;split at h
  ·rename_i e te ti hi het;obtain⟨ts,_,_,hti,_,hsz,hpos,hby⟩:=jV het;simp only[aA,aB]at h;obtain⟨rfl,rfl⟩:=h;obtain⟨β',h1,h2,h3⟩:=Ql (e:=e) (t:=te) hs hpos;refine⟨β',h2.heap,h2.defers,by simpa using h2.size,λj v hv=>?_⟩;by_cases hij:i=j
   ·subst hij;rw[List.getElem?_set_self (bE.1 hi).1]at hv;simp only[aA]at hv;subst hv;have:=hs.reg i _ hi;simp only[V.Rel,L.Rel,aJ,and_true]at this;rw[this];exact h3
   ·rw[List.getElem?_set_ne hij]at hv;exact h2.reg j v hv
  ·simp only[aA,aB]at h;obtain⟨_,rfl⟩:=h;exact⟨β,hs⟩
  ·cases h
 |ownB id j t =>
  simp only[co1]at h;split at h
  ·rename_i eb ls e te ti hi het;obtain⟨ts,_,_,hti,_,hsz,hpos,hby⟩:=jV het;split at h
   ·simp only[aA,aB]at h;obtain⟨_,rfl⟩:=h;exact⟨β,hs⟩
   split at h
   ·rename_i ls' hset;simp only[aA,aB]at h;obtain⟨rfl,rfl⟩:=h;obtain⟨β',h1,h2,h3⟩:=Ql (e:=e) (t:=te) hs hpos;have hi':(σ.h++[.arr e te 0 [] true])[id]?=some (.box eb ls):=by
     rw[fV (bE.1 hi).1];exact hi
    have hob:=h2.heap.obj _ _ hi';simp only[Ob.Rel]at hob;obtain⟨_,_,bb,cs,hb,hls,hheap⟩:=hob;have:=h2.Vm (cs':=cs) hi' hb hheap (aG.uW h3 hset hls);rw[setRow_self w bb cs.toArray eb (0,0) hheap]at this;exact⟨β',this⟩
   ·cases h
  ·cases h
 |yYd i t =>
  simp only[co1]at h;split at h
  ·rename_i hi;simp only[aA,aB]at h;obtain⟨rfl,rfl⟩:=h;refine⟨β,hs.heap,hs.defers,by simpa using hs.size,λj v hv=>?_⟩;by_cases hij:i=j
   ·subst hij;rw[List.getElem?_set_self (bE.1 hi).1]at hv;simp only[aA]at hv;subst hv;have:=hs.reg i _ hi;simp only[V.Rel,L.Rel,Ty.Rel,aJ,and_true]at this ⊢;exact⟨_,rfl,.inl ⟨this,rfl⟩⟩
   ·rw[List.getElem?_set_ne hij]at hv;exact hs.reg j v hv
  ·cases h
 |yYe id j t =>
  simp only[co1]at h;split at h
  ·rename_i eb ls hi;split at h
   ·rename_i ls' hset;simp only[aA,aB]at h;obtain⟨rfl,rfl⟩:=h;have hob:=hs.heap.obj _ _ hi;simp only[Ob.Rel]at hob;obtain⟨_,_,bb,cs,hb,hls,hheap⟩:=hob;have:=hs.Vm (cs':=cs) hi hb hheap (aG.uW (l:=.val (.slice t) []) (by simp only[L.Rel,Ty.Rel];exact⟨_,rfl,.inl ⟨rfl,rfl⟩⟩) hset hls);rw[setRow_self w bb cs.toArray eb (0,0) hheap]at this;exact⟨β,this⟩
   ·cases h
  ·cases h
 |ver id =>
  simp only[co1]at h;split at h
  ·rename_i e t v rows wr ho;split at h
   ·rename_i hc;simp only[aD]at hc;simp only[aA,aB]at h;obtain⟨rfl,rfl⟩:=h;exact⟨_,hs.dK ho hc.1 hc.2⟩
   ·cases h
  ·cases h
theorem Nw{ρ:Type}(hT:bM C.P T){kf:Nat}(hkf:C.fix.length<=kf){k:St->Option ρ}{r:ρ}:∀ {cs:List Co}{β:Nat->Pl}{σ:St}{a:Act},dA (Co.fx kf) cs=true->norm T cs σ k=some r->Sim C β σ a w->∃ β' σ',Sim C β' σ' a w/\k σ'=some r
 |[],β,σ,a,_,h,hs=>⟨β,σ,hs,h⟩
 |c::cs,β,σ,a,hfx,h,hs=>by
  simp only[dA,aD]at hfx;simp only[norm]at h;split at h
  ·rename_i b σ' hc;obtain⟨hb,hk⟩:=iM h;obtain⟨β',hs'⟩:=yVx hT hkf hfx.1 hc hb hs;exact Nw hT hkf hfx.2 hk hs'
  ·cases h
end
end Go.Dec
namespace Go.Dec
inductive LS where
 |v (t:Ty)
 |ptr (id off:Nat)
 |own (id:Nat)
 |clo (f:Nat) (caps:List (Nat × Nat))
 |any (n:Nat)
 |iZ (id off:Nat)
 |sl (id:Nat)
 |bJ
 |fC (id off:Nat)
 |mp (id:Nat)
def yYi (caps:List (Nat×Nat)):List L:=caps.map fun p => .ptr p.1 p.2
def zYa:List (Nat×Nat)->List L->Bool | [],[]=>true | p :: r,.ptr a b :: m=>Nat.beq p.1 a&&(Nat.beq p.2 b&&zYa r m) | _,_=>false
theorem zZp:∀ {caps:List (Nat × Nat)}{m:List L},zYa caps m=true->m=yYi caps
 |[],[],_=>rfl
 |(i,o)::r,l::m,h=>by
  cases l<;>simp only[zYa,aD,Bool.false_eq_true]at h
  obtain⟨h1,h2,h3⟩:=h;obtain rfl:i=_:=aK h1;obtain rfl:o=_:=aK h2;rw[zZp h3];rfl
 |[],_::_,h=>by cases h
 |_::_,[],h=>by cases h
@[reducible] def LTs:List LS->Type->Type
 |[],A=>A
 |.v t::r,A=>t.den × LTs r A
 |.iZ _ _::r,A=>Nat × LTs r A
 |.sl _::r,A=>Nat × (Nat × LTs r A)
 |.ptr _ _::r,A=>LTs r A
 |.own _::r,A=>LTs r A
 |.clo _ _::r,A=>LTs r A
 |.any _::r,A=>LTs r A
 |.bJ::r,A=>LTs r A
 |.fC _ _::r,A=>LTs r A
 |.mp _::r,A=>LTs r A
structure Slot where
 i:Nat
 agg:Bool
 ls:List LS
inductive OS where
 |box (e:TypeId) (ls:List LS)
 |row (e:TypeId) (t:Ty)
 |fm (tab:List (MK × Nat))
 |dm (kt vt:Ty)
 |stk (e ei:TypeId)
@[reducible] def RTs:List Slot->Type->Type
 |[],A=>A
 |s::r,A=>LTs s.ls (RTs r A)
@[reducible] def OTs:List OS->Type->Type
 |[],A=>A
 |.box _ ls::r,A=>LTs ls (OTs r A)
 |.row _ t::r,A=>List t.den × OTs r A
 |.fm _::r,A=>OTs r A
 |.dm kt vt::r,A=>List (kt.den × vt.den) × OTs r A
 |.stk _ _::r,A=>List (Int × Int × List Int × List Int × Unit) × OTs r A
structure Sh where
 n:Nat
 rs:List Slot
 os:List OS
@[reducible] def Sh.X (sh:Sh):Type:=RTs sh.rs (OTs sh.os Unit)
def fP {A:Type}:(ls:List LS)->LTs ls A->List L×A | [],x=>([],x) | .v t :: r,x=>(.val t x.1 :: (fP r x.2).1,(fP r x.2).2) | .ptr a b :: r,x=>(.ptr a b :: (fP (A:=A) r x).1,(fP (A:=A) r x).2) | .own a :: r,x=>(.own a 0 :: (fP (A:=A) r x).1,(fP (A:=A) r x).2) | .clo f caps :: r,x=>(.clo f (yYi caps) :: (fP (A:=A) r x).1,(fP (A:=A) r x).2) | .iZ a o :: r,x=>(.iZ a 0 x.1 o :: (fP r x.2).1,(fP r x.2).2) | .sl a :: r,x=>(.sl a 0 x.1 x.2.1 :: (fP r x.2.2).1,(fP r x.2.2).2) | .bJ :: r,x=>(.bJ :: (fP (A:=A) r x).1,(fP (A:=A) r x).2) | .fC a b :: r,x=>(.fC a b :: (fP (A:=A) r x).1,(fP (A:=A) r x).2) | .mp a :: r,x=>(.mp a :: (fP (A:=A) r x).1,(fP (A:=A) r x).2) | .any n :: r,x=>(.bad n :: (fP (A:=A) r x).1,(fP (A:=A) r x).2)
def zZq(agg:Bool)(ls:List L):V :=
 match agg,ls with
 |true,ls=>.agg ls
 |false,[l]=>.one l
 |_,_=>.bY
def Ua {A:Type}:(rs:List Slot)->List V->RTs rs A->List V×A | [],acc,x=>(acc,x) | s :: r,acc,x=>Ua r (acc.set s.i (zZq s.agg (fP s.ls x).1)) (fP s.ls x).2
def fQ {A:Type}:(os:List OS)->OTs os A->List Ob×A | [],x=>([],x) | .box e ls :: r,x=>(.box e (fP ls x).1 :: (fQ r (fP ls x).2).1,(fQ r (fP ls x).2).2) | .row e t :: r,x=>(.arr e t 0 x.1 true :: (fQ r x.2).1,(fQ r x.2).2) | .fm tab :: r,x=>(.fm tab :: (fQ (A:=A) r x).1,(fQ (A:=A) r x).2) | .dm kt vt :: r,x=>(.dm kt vt x.1 :: (fQ r x.2).1,(fQ r x.2).2) | .stk e ei :: r,x=>(.stk e ei 0 x.1 none :: (fQ r x.2).1,(fQ r x.2).2)
def Sh.enc (sh:Sh) (x:sh.X):St :=let p:=Ua sh.rs (List.replicate sh.n .bY) x
 ⟨p.1,(fQ sh.os p.2).1⟩
def dF{A:Type}:(ls:List LS)->List L->Option (A->LTs ls A)
 |[],[]=>some id
 |.v t::r,l::m =>
  match l.asT t,dF (A:=A) r m with
  |some x,some f=>some λa=>(x,f a)
  |_,_=>none
 |.ptr a b::r,.ptr a' b'::m=>match Nat.beq a a'&&Nat.beq b b' with
  |true=>dF (A:=A) r m
  |false=>none
 |.own a::r,.own a' u::m=>match Nat.beq a a'&&Nat.beq u 0 with
  |true=>dF (A:=A) r m
  |false=>none
 |.clo f caps::r,.clo f' m'::m=>match Nat.beq f f'&&zYa caps m' with
  |true=>dF (A:=A) r m
  |false=>none
 |.iZ a o::r,.iZ a' u i o'::m=>match Nat.beq a a'&&(Nat.beq u 0&&Nat.beq o o'),dF (A:=A) r m with
  |true,some f=>some λx=>(i,f x)
  |_,_=>none
 |.sl a::r,.sl a' u i n::m=>match Nat.beq a a'&&Nat.beq u 0,dF (A:=A) r m with
  |true,some f=>some λx=>(i,n,f x)
  |_,_=>none
 |.bJ::r,.bJ::m=>dF (A:=A) r m
 |.fC a b::r,.fC a' b'::m=>match Nat.beq a a'&&Nat.beq b b' with
  |true=>dF (A:=A) r m
  |false=>none
 |.mp a::r,.mp a'::m=>match Nat.beq a a' with
  |true=>dF (A:=A) r m
  |false=>none
 |.any n::r,l::m=>match Nat.beq n l.size with
  |true=>dF (A:=A) r m
  |false=>none
 |_,_=>none
def zPm(agg:Bool)(v:V):Option (List L):=
 match agg,v with
 |true,.agg ls=>some ls
 |false,.one l=>some [l]
 |_,_=>none
def zPn{A:Type}(σr:List V):(rs:List Slot)->Option (A->RTs rs A)
 |[]=>some id
 |s::r =>
  match zPm s.agg (σr.getD s.i .bY)with
  |some ls =>
   match dF (A:=RTs r A) s.ls ls,zPn σr r with
   |some f,some g=>some λa=>f (g a)
   |_,_=>none
  |none=>none
def fU{A:Type}:(os:List OS)->List Ob->Option (A->OTs os A)
 |[],[]=>some id
 |.box e ls::r,.box e' l::m =>
  match Nat.beq e e',dF (A:=OTs r A) ls l,fU (A:=A) r m with
  |true,some f,some g=>some λa=>f (g a)
  |_,_,_=>none
 |.row e t::r,.arr e' t' ver rows wr::m =>
  match Nat.beq e e'&&(Nat.beq ver 0&&wr),fU (A:=A) r m with
  |true,some g=>if h:t'=t then some λa=>(h ▸ rows,g a)else none
  |_,_=>none
 |.fm tab::r,.fm yYj::m=>if tab=yYj then fU (A:=A) r m else none
 |.dm kt vt::r,.dm kt' vt' es::m =>
  match fU (A:=A) r m with
  |some g=>if h:kt'=kt/\vt'=vt then some λa=>(h.1 ▸ h.2 ▸ es,g a)else none
  |none=>none
 |.stk e ei::r,.stk e' ei' ver rows none::m =>
  match Nat.beq e e'&&(Nat.beq ei ei'&&Nat.beq ver 0),fU (A:=A) r m with
  |true,some g=>some λa=>(rows,g a)
  |_,_=>none
 |_,_=>none
def Sh.dec(sh:Sh)(σ:St):Option sh.X :=
 match Nat.beq σ.r.length sh.n,zPn (A:=OTs sh.os Unit) σ.r sh.rs,fU (A:=Unit) sh.os σ.h with
 |true,some f,some g=>some (f (g ()))
 |_,_,_=>none
section
variable {β:Nat->Pl}
variable {w:World}
variable {N:Nat->Nat->Prop}
variable {A:Type}
theorem mJ:∀ {ls:List LS}{l:List L}{f:A->LTs ls A}(a:A) {cs:List Value},dF ls l=some f->aG β w N l cs->aG β w N (fP ls (f a)).1 cs/\(fP ls (f a)).2=a
 |[],[],f,a,cs,h,hr=>by
  simp only[dF,aA]at h;subst h;exact⟨hr,rfl⟩
 |.v t::r,l::m,f,a,cs,h,hr=>by
  simp only[dF]at h;split at h
  ·rename_i x g h1 h2;simp only[aA]at h;subst h;obtain⟨c1,c2,e,r1,r2⟩:=hr;obtain⟨g1,g2⟩:=mJ a h2 r2;exact⟨⟨c1,c2,e,by simpa only[L.Rel]using L.zJt h1 r1,g1⟩,g2⟩
  ·cases h
 |.ptr i o::r,l::m,f,a,cs,h,hr=>by
  cases l<;>simp only[dF,reduceCtorEq]at h
  split at h
  ·rename_i hb;simp only[aD]at hb;have e1:=aK hb.1;have e2:=aK hb.2;subst e1 e2;obtain⟨c1,c2,e,r1,r2⟩:=hr;obtain⟨g1,g2⟩:=mJ a h r2;exact⟨⟨c1,c2,e,r1,g1⟩,g2⟩
  ·cases h
 |.own i::r,l::m,f,a,cs,h,hr=>by
  cases l<;>simp only[dF,reduceCtorEq]at h
  split at h
  ·rename_i hb;simp only[aD]at hb;have e1:=aK hb.1;have e2:=aK hb.2;subst e1 e2;obtain⟨c1,c2,e,r1,r2⟩:=hr;obtain⟨g1,g2⟩:=mJ a h r2;exact⟨⟨c1,c2,e,r1,g1⟩,g2⟩
  ·cases h
 |.clo i caps::r,l::m,f,a,cs,h,hr=>by
  cases l<;>simp only[dF,reduceCtorEq]at h
  split at h
  ·rename_i hb;simp only[aD]at hb;have e1:=aK hb.1;have e2:=zZp hb.2;subst e1 e2;obtain⟨c1,c2,e,r1,r2⟩:=hr;obtain⟨g1,g2⟩:=mJ a h r2;exact⟨⟨c1,c2,e,r1,g1⟩,g2⟩
  ·cases h
 |.iZ i o::r,l::m,f,a,cs,h,hr=>by
  cases l<;>simp only[dF,reduceCtorEq]at h
  split at h
  ·rename_i f1 hb h2;simp only[aA]at h;subst h;simp only[aD]at hb;have e1:=aK hb.1;have e2:=aK hb.2.1;have e3:=aK hb.2.2;subst e1 e2 e3;obtain⟨c1,c2,e,r1,r2⟩:=hr;obtain⟨g1,g2⟩:=mJ a h2 r2;exact⟨⟨c1,c2,e,r1,g1⟩,g2⟩
  ·cases h
 |.sl i::r,l::m,f,a,cs,h,hr=>by
  cases l<;>simp only[dF,reduceCtorEq]at h
  split at h
  ·rename_i f1 hb h2;simp only[aA]at h;subst h;simp only[aD]at hb;have e1:=aK hb.1;have e2:=aK hb.2;subst e1 e2;obtain⟨c1,c2,e,r1,r2⟩:=hr;obtain⟨g1,g2⟩:=mJ a h2 r2;exact⟨⟨c1,c2,e,r1,g1⟩,g2⟩
  ·cases h
 |.fC i o::r,l::m,f,a,cs,h,hr=>by
  cases l<;>simp only[dF,reduceCtorEq]at h
  split at h
  ·rename_i hb;simp only[aD]at hb;have e1:=aK hb.1;have e2:=aK hb.2;subst e1 e2;obtain⟨c1,c2,e,r1,r2⟩:=hr;obtain⟨g1,g2⟩:=mJ a h r2;exact⟨⟨c1,c2,e,r1,g1⟩,g2⟩
  ·cases h
 |.bJ::r,l::m,f,a,cs,h,hr=>by
  cases l<;>simp only[dF,reduceCtorEq]at h
  obtain⟨c1,c2,e,r1,r2⟩:=hr;obtain⟨g1,g2⟩:=mJ a h r2;exact⟨⟨c1,c2,e,r1,g1⟩,g2⟩
 |.mp i::r,l::m,f,a,cs,h,hr=>by
  cases l<;>simp only[dF,reduceCtorEq]at h
  split at h
  ·rename_i hb;have e1:=aK hb;subst e1;obtain⟨c1,c2,e,r1,r2⟩:=hr;obtain⟨g1,g2⟩:=mJ a h r2;exact⟨⟨c1,c2,e,r1,g1⟩,g2⟩
  ·cases h
 |.any n::r,l::m,f,a,cs,h,hr=>by
  simp only[dF]at h;split at h
  ·rename_i hb;have e1:=aK hb;subst e1;obtain⟨c1,c2,e,r1,r2⟩:=hr;obtain⟨g1,g2⟩:=mJ a h r2;exact⟨⟨c1,c2,e,by simp only[L.Rel];exact⟨r1.length,λc hc=>r1.one c hc⟩,g1⟩,g2⟩
  ·cases h
 |[],_::_,_,_,_,h,_=>by simp[dF]at h
 |.v _::_,[],_,_,_,h,_=>by simp[dF]at h
 |.ptr .. :: _,[],_,_,_,h,_=>by simp[dF]at h
 |.own .. :: _,[],_,_,_,h,_=>by simp[dF]at h
 |.clo .. :: _,[],_,_,_,h,_=>by simp[dF]at h
 |.iZ .. :: _,[],_,_,_,h,_=>by simp[dF]at h
 |.sl .. :: _,[],_,_,_,h,_=>by simp[dF]at h
 |.bJ::_,[],_,_,_,h,_=>by simp[dF]at h
 |.fC .. :: _,[],_,_,_,h,_=>by simp[dF]at h
 |.mp .. :: _,[],_,_,_,h,_=>by simp[dF]at h
 |.any .. :: _,[],_,_,_,h,_=>by simp[dF]at h
theorem sD:∀ {ls:List LS}{l:List L}{f:A->LTs ls A}(a:A),dF ls l=some f->(fP ls (f a)).1.length=l.length
 |[],[],f,a,h=>by
  simp only[dF,aA]at h;subst h;rfl
 |.v t::r,l::m,f,a,h=>by
  simp only[dF]at h;split at h
  ·rename_i x g h1 h2;simp only[aA]at h;subst h;simp only[fP,List.length_cons,sD a h2]
  ·cases h
 |.ptr i o::r,l::m,f,a,h=>by
  cases l<;>simp only[dF,reduceCtorEq]at h
  split at h
  ·simp only[fP,List.length_cons,sD a h]
  ·cases h
 |.mp i::r,l::m,f,a,h=>by
  cases l<;>simp only[dF,reduceCtorEq]at h
  split at h
  ·simp only[fP,List.length_cons,sD a h]
  ·cases h
 |.own i::r,l::m,f,a,h=>by
  cases l<;>simp only[dF,reduceCtorEq]at h
  split at h
  ·simp only[fP,List.length_cons,sD a h]
  ·cases h
 |.clo i caps::r,l::m,f,a,h=>by
  cases l<;>simp only[dF,reduceCtorEq]at h
  split at h
  ·simp only[fP,List.length_cons,sD a h]
  ·cases h
 |.iZ i o::r,l::m,f,a,h=>by
  cases l<;>simp only[dF,reduceCtorEq]at h
  split at h
  ·rename_i f1 hb h2;simp only[aA]at h;subst h;simp only[fP,List.length_cons,sD a h2]
  ·cases h
 |.sl i::r,l::m,f,a,h=>by
  cases l<;>simp only[dF,reduceCtorEq]at h
  split at h
  ·rename_i f1 hb h2;simp only[aA]at h;subst h;simp only[fP,List.length_cons,sD a h2]
  ·cases h
 |.fC i o::r,l::m,f,a,h=>by
  cases l<;>simp only[dF,reduceCtorEq]at h
  split at h
  ·simp only[fP,List.length_cons,sD a h]
  ·cases h
 |.bJ::r,l::m,f,a,h=>by
  cases l<;>simp only[dF,reduceCtorEq]at h
  have:=sD a h;simp only[fP,List.length_cons,this]
 |.any n::r,l::m,f,a,h=>by
  simp only[dF]at h;split at h
  ·simp only[fP,List.length_cons,sD a h]
  ·cases h
 |[],_::_,_,_,h=>by simp[dF]at h
 |.v _::_,[],_,_,h=>by simp[dF]at h
 |.ptr .. :: _,[],_,_,h=>by simp[dF]at h
 |.own .. :: _,[],_,_,h=>by simp[dF]at h
 |.clo .. :: _,[],_,_,h=>by simp[dF]at h
 |.iZ .. :: _,[],_,_,h=>by simp[dF]at h
 |.sl .. :: _,[],_,_,h=>by simp[dF]at h
 |.bJ::_,[],_,_,h=>by simp[dF]at h
 |.fC .. :: _,[],_,_,h=>by simp[dF]at h
 |.mp .. :: _,[],_,_,h=>by simp[dF]at h
 |.any .. :: _,[],_,_,h=>by simp[dF]at h
theorem yIm{agg:Bool}{v:V}{ls ls':List L}{x:Value}(hs:zPm agg v=some ls)(hr:v.Rel β w N x)(hlen:ls'.length=ls.length)(h:∀ cs,aG β w N ls cs->aG β w N ls' cs):(zZq agg ls').Rel β w N x:=by
 unfold zPm at hs;split at hs
 ·simp only[aA]at hs;subst hs;obtain⟨cs,e,hr⟩:=hr;exact⟨cs,e,h cs hr⟩
 ·rename_i l;simp only[aA]at hs;subst hs;match ls',hlen with
  |[l'],_ =>
   obtain⟨c1,c2,e,h1,h2⟩:=h [x] ⟨[x],[],rfl,hr,rfl⟩;simp only[aG]at h2;subst h2;rw[List.append_nil]at e;subst e;exact h1
 ·cases hs
def Ve (β:Nat->Pl) (w:World) (N:Nat->Nat->Prop) (r:List V) (tmps:Array Value):Prop := ∀ (i:Nat) (v:V),r[i]? = some v->v.Rel β w N (tmps.getD i undef)
theorem Ve.set{r:List V}{tmps:Array Value}(h:Ve β w N r tmps){i:Nat}{v:V}(hv:v.Rel β w N (tmps.getD i undef)):Ve β w N (r.set i v) tmps:=by
 intro j u hu;by_cases hij:i=j
 ·subst hij;rcases jB i r.length with hi|hi
  ·rw[List.getElem?_set_self hi]at hu;simp only[aA]at hu;subst hu;exact hv
  ·rw[List.getElem?_eq_none (by simpa using hi)]at hu;cases hu
 ·rw[List.getElem?_set_ne hij]at hu;exact h j u hu
theorem zUq{σr:List V}{tmps:Array Value}(hr:Ve β w N σr tmps):∀ {rs:List Slot}{f:A->RTs rs A}(a:A) {acc:List V},zPn σr rs=some f->Ve β w N acc tmps ->
 Ve β w N (Ua rs acc (f a)).1 tmps/\(Ua rs acc (f a)).2=a/\(Ua rs acc (f a)).1.length=acc.length
 |[],f,a,acc,h,ha=>by
  simp only[zPn,aA]at h;subst h;exact⟨ha,rfl,rfl⟩
 |s::r,f,a,acc,h,ha=>by
  simp only[zPn]at h;split at h
  ·rename_i ls hls;split at h
   ·rename_i f1 g h1 h2;simp only[aA]at h;subst h;have hv:(σr.getD s.i .bY).Rel β w N (tmps.getD s.i undef):=by
     rw[List.getD_eq_getElem?_getD];cases hg:σr[s.i]? with
     |none=>trivial
     |some v=>exact hr s.i v hg
    have hmk:=yIm hls hv (sD (g a) h1) λcs hc=>(mJ (g a) h1 hc).1
    have e2:(fP s.ls (f1 (g a))).2=g a:=by
     have hp:∃ cs,aG β w N ls cs:=by
      unfold zPm at hls;split at hls
      ·rename_i l heq;simp only[aA]at hls;subst hls;rw[heq]at hv;obtain⟨cs,_,hc⟩:=hv;exact⟨cs,hc⟩
      ·rename_i l heq;simp only[aA]at hls;subst hls;rw[heq]at hv;exact⟨[_],[_],[],rfl,hv,rfl⟩
      ·cases hls
     obtain⟨cs,hc⟩:=hp;exact(mJ (g a) h1 hc).2
    simp only[Ua];rw[e2];obtain⟨k1,k2,k3⟩:=zUq hr a (acc:=acc.set s.i (zZq s.agg (fP s.ls (f1 (g a))).1)) h2 (ha.set hmk);exact⟨k1,k2,by rw[k3,List.length_set]⟩
   ·cases h
  ·cases h
def Qo(β:Nat->Pl)(w:World)(N:Nat->Nat->Prop):Nat->List Ob->List Ob->Prop
 |_,[],[]=>True
 |i,o::r,o'::r'=>(o.Rel β w N (β i)->o'.Rel β w N (β i))/\(o'.wr=o.wr/\o'.sU=o.sU)/\Qo β w N (i+1) r r'
 |_,_,_=>False
theorem Jv{w:World}:∀ {os:List OS}{h:List Ob}{f:A->OTs os A}(a:A) (i:Nat),fU os h=some f->(∀ (j:Nat) (o:Ob),h[j]?=some o->o.Rel β w N (β (i+j)))->Qo β w N i h (fQ os (f a)).1
 |[],[],f,a,i,h,_=>by
  simp only[fU,aA]at h;subst h;trivial
 |.box e ls::r,.box e' l::m,f,a,i,h,hr=>by
  simp only[fU]at h;split at h
  ·rename_i f1 g hb h1 h2;simp only[aA]at h;subst h;have:=aK hb;subst this;have h0:=hr 0 _ rfl;simp only[Ob.Rel,Nat.add_zero]at h0;obtain⟨_,_,b0,cs0,_,hc0,_⟩:=h0;have e2:=(mJ (g a) h1 hc0).2;simp only[fQ];refine⟨?_,⟨rfl,rfl⟩,?_⟩
   ·simp only[Ob.Rel];rintro⟨k1,k2,b,cs,k3,k4,k5⟩;exact⟨k1,k2,b,cs,k3,(mJ (g a) h1 k4).1,k5⟩
   ·rw[e2];exact Jv a (i+1) h2 λj o ho=>by
     have:=hr (j+1) o (by simpa using ho)
     rwa [show i+(j+1)=i+1+j by omega]at this
  ·cases h
 |.row e t::r,.arr e' t' ver rows wr::m,f,a,i,h,hr=>by
  simp only[fU]at h;split at h
  ·rename_i g hb h2;split at h
   ·rename_i ht;subst ht;simp only[aA]at h;subst h;simp only[aD]at hb;have e1:=aK hb.1;have e2:=aK hb.2.1;have e3:=hb.2.2;subst e1 e2 e3;simp only[fQ];refine⟨λh=>h,⟨rfl,rfl⟩,?_⟩;exact Jv a (i+1) h2 λj o ho=>by
     have:=hr (j+1) o (by simpa using ho)
     rwa [show i+(j+1)=i+1+j by omega]at this
   ·cases h
  ·cases h
 |[],_::_,_,_,_,h,_=>by simp[fU]at h
 |.box .. :: _,[],_,_,_,h,_=>by simp[fU]at h
 |.row .. :: _,[],_,_,_,h,_=>by simp[fU]at h
 |.box .. :: _,.arr .. :: _,_,_,_,h,_=>by simp[fU]at h
 |.row .. :: _,.box .. :: _,_,_,_,h,_=>by simp[fU]at h
 |.fm tab::r,.fm yYj::m,f,a,i,h,hr=>by
  simp only[fU]at h;split at h
  ·rename_i ht;subst ht;simp only[fQ];refine⟨λh=>h,⟨rfl,rfl⟩,?_⟩;exact Jv a (i+1) h λj o ho=>by
    have:=hr (j+1) o (by simpa using ho)
    rwa [show i+(j+1)=i+1+j by omega]at this
  ·cases h
 |.dm kt vt::r,.dm kt' vt' es::m,f,a,i,h,hr=>by
  simp only[fU]at h;split at h
  ·rename_i g h2;split at h
   ·rename_i ht;obtain⟨rfl,rfl⟩:=ht;simp only[aA]at h;subst h;simp only[fQ];refine⟨λh=>h,⟨rfl,rfl⟩,?_⟩;exact Jv a (i+1) h2 λj o ho=>by
     have:=hr (j+1) o (by simpa using ho)
     rwa [show i+(j+1)=i+1+j by omega]at this
   ·cases h
  ·cases h
 |.stk e ei::r,.stk e' ei' ver rows none::m,f,a,i,h,hr=>by
  simp only[fU]at h;split at h
  ·rename_i g hb h2;simp only[aA]at h;subst h;simp only[aD]at hb;have e1:=aK hb.1;have e2:=aK hb.2.1;have e3:=aK hb.2.2;subst e1 e2 e3;simp only[fQ];refine⟨λh=>h,⟨rfl,rfl⟩,?_⟩;exact Jv a (i+1) h2 λj o ho=>by
    have:=hr (j+1) o (by simpa using ho)
    rwa [show i+(j+1)=i+1+j by omega]at this
  ·cases h
 |.stk .. :: _,.stk _ _ _ _ (some _)::_,_,_,_,h,_=>by simp[fU]at h
 |.stk .. :: _,[],_,_,_,h,_=>by simp[fU]at h
 |.stk .. :: _,.box .. :: _,_,_,_,h,_=>by simp[fU]at h
 |.stk .. :: _,.arr .. :: _,_,_,_,h,_=>by simp[fU]at h
 |.stk .. :: _,.fm .. :: _,_,_,_,h,_=>by simp[fU]at h
 |.stk .. :: _,.dm .. :: _,_,_,_,h,_=>by simp[fU]at h
 |.box .. :: _,.stk .. :: _,_,_,_,h,_=>by simp[fU]at h
 |.row .. :: _,.stk .. :: _,_,_,_,h,_=>by simp[fU]at h
 |.fm .. :: _,.stk .. :: _,_,_,_,h,_=>by simp[fU]at h
 |.dm .. :: _,.stk .. :: _,_,_,_,h,_=>by simp[fU]at h
 |.fm .. :: _,[],_,_,_,h,_=>by simp[fU]at h
 |.dm .. :: _,[],_,_,_,h,_=>by simp[fU]at h
 |.dm .. :: _,.box .. :: _,_,_,_,h,_=>by simp[fU]at h
 |.dm .. :: _,.arr .. :: _,_,_,_,h,_=>by simp[fU]at h
 |.dm .. :: _,.fm .. :: _,_,_,_,h,_=>by simp[fU]at h
 |.fm .. :: _,.dm .. :: _,_,_,_,h,_=>by simp[fU]at h
 |.box .. :: _,.dm .. :: _,_,_,_,h,_=>by simp[fU]at h
 |.row .. :: _,.dm .. :: _,_,_,_,h,_=>by simp[fU]at h
 |.fm .. :: _,.box .. :: _,_,_,_,h,_=>by simp[fU]at h
 |.fm .. :: _,.arr .. :: _,_,_,_,h,_=>by simp[fU]at h
 |.box .. :: _,.fm .. :: _,_,_,_,h,_=>by simp[fU]at h
 |.row .. :: _,.fm .. :: _,_,_,_,h,_=>by simp[fU]at h
theorem Qo.length{w:World}:∀ {i:Nat}{h h':List Ob},Qo β w N i h h'->h'.length=h.length
 |_,[],[],_=>rfl
 |_,_::_,_::_,h=>by simp[Qo.length h.2.2]
 |_,[],_::_,h=>h.elim
 |_,_::_,[],h=>h.elim
theorem Qo.get{w:World}:∀ {i:Nat}{h h':List Ob},Qo β w N i h h'->∀ (j:Nat) (o':Ob),h'[j]?=some o'->∃ o,h[j]?=some o/\(o'.wr=o.wr/\o'.sU=o.sU)/\(o.Rel β w N (β (i+j))->o'.Rel β w N (β (i+j)))
 |_,[],[],_,j,_,h=>by simp at h
 |i,o::r,o2::r2,h,j,o',hj=>by
  cases j with
  |zero =>
   simp only[List.getElem?_cons_zero,aA]at hj;subst hj;exact⟨o,rfl,h.2.1,h.1⟩
  |succ j =>
   obtain⟨u,h1,h2,h3⟩:=Qo.get h.2.2 j o' (by simpa using hj);rw[show i+1+j=i+(j+1)by omega]at h3;exact⟨u,by simpa using h1,h2,h3⟩
 |_,[],_::_,h,_,_,_=>h.elim
 |_,_::_,[],h,_,_,_=>h.elim
theorem zKa{C:Ctx}{sh:Sh}{σ:St}{a:Act}{w:World}{x:sh.X}(h:sh.dec σ=some x)(hs:Sim C β σ a w):Sim C β (sh.enc x) a w:=by
 unfold Sh.dec at h;split at h
 ·rename_i f g hn hf hg;simp only[aA]at h;subst h;have hn:=aK hn;obtain⟨k1,k2,k3⟩:=zUq (A:=OTs sh.os Unit) (tmps:=a.tmps) hs.reg (g ()) (acc:=List.replicate sh.n .bY) hf (λi v hv=>by
   rw[List.getElem?_replicate]at hv;split at hv
   ·simp only[aA]at hv;subst hv;trivial
   ·cases hv)
  have hob:=Jv (A:=Unit) (β:=β) (N:=C.N β σ.h) (w:=w) () 0 hg (λj o ho=>by rw[Nat.zero_add];exact hs.heap.obj j o ho);have eh:(sh.enc (f (g ()))).h=(fQ sh.os (g ())).1:=by simp only[Sh.enc];rw[k2]
  have er:(sh.enc (f (g ()))).r=(Ua sh.rs (List.replicate sh.n .bY) (f (g ()))).1:=rfl;have hNN:∀ b j,C.N β (sh.enc (f (g ()))).h b j->C.N β σ.h b j:=λb j hb=>by
   rcases hb with hb|⟨id,o,ho,hw,hbk⟩
   ·exact .inl hb
   ·rw[eh]at ho;obtain⟨o0,h1,h2,_⟩:=hob.get id o ho;exact .inr ⟨id,o0,h1,by rw[<- h2.1];exact hw,Ob.zA h2.2 rfl rfl hbk⟩
  refine⟨⟨?_,?_,?_,?_,hs.heap.n0,hs.heap.frame,hs.heap.size,hs.heap.os,hs.heap.tape,hs.heap.output,λj o hj=>by
   obtain⟨k1,k2⟩:=hs.heap.fixed j o hj;exact⟨by rw[eh,hob.length];exact k1,k2⟩⟩,hs.defers,?_,?_⟩
  ·intro id o ho;rw[eh]at ho;obtain⟨o0,h1,_,h3⟩:=hob.get id o ho;rw[Nat.zero_add]at h3;exact(h3 (hs.heap.obj id o0 h1)).mono (Moves.refl β) (Keep.refl _ w) (λb j _ hb=>hNN b j hb) λ_ _=>rfl
  ·intro id hid;rw[eh,hob.length]at hid;exact hs.heap.dead id hid
  ·intro i j o o' b hi hj hbi hbj;rw[eh]at hi hj;obtain⟨o1,h1,h3,_⟩:=hob.get i o hi;obtain⟨o2,h2,h4,_⟩:=hob.get j o' hj;exact hs.heap.kR i j o1 o2 b h1 h2 (Ob.mI h3.2 rfl rfl hbi) (Ob.mI h4.2 rfl rfl hbj)
  ·intro id o b ho hb;rw[eh]at ho;obtain⟨o1,h1,h3,_⟩:=hob.get id o ho;exact hs.heap.Jt h1 h3.2 rfl rfl (λh=>by rw[<- h3.1];exact h) hb
  ·rw[er,k3,List.length_replicate,<- hn,hs.size]
  ·intro i v hv;exact(k1 i v (by rw[er]at hv;exact hv)).mono (Moves.refl β) (Keep.refl _ w) λb j _ hb=>hNN b j hb
 ·cases h
end
end Go.Dec
