/- Part of a proof over this seat: a library of my own, and what it says of this seat. No statement is proved here. -/
import Derived.Test.YthhbdkdofhhoeaaGreatDoorPartAH
namespace Go.Dec
inductive Co where
 |keep (mask:List Bool)
 |trunc (n:Nat)
 |Kv (i:Nat) (t:TypeId)
 |ownB (id:Nat) (j:Nat) (t:TypeId)
 |ySq (i:Nat) (t:Ty)
 |ySr (id:Nat) (j:Nat) (t:Ty)
 |ver (id:Nat)
 |slR (i:Nat)
 |zUw (i:Nat)
 |ySs (id:Nat) (j:Nat)
 |ySt (i:Nat) (j:Nat) (t:TypeId)
 |ySu (i:Nat) (j:Nat)
 |gc (ρ:List Nat)
 |gcA (k:Nat)
 |orn (id:Nat) (j:Nat) (to off:Nat)
 |opn (id:Nat) (j:Nat)
 |cls (id:Nat) (j:Nat)
 |yLq (id:Nat) (j:Nat)
 |zGx (id:Nat) (k:Nat)
 |Vu (id:Nat) (j:Nat)
 |shut (id:Nat)
def xJ:List Bool->List V->List V | true :: m,v :: r=>v :: xJ m r | false :: m,_ :: r => .dB :: xJ m r | [],_ :: r => .dB :: xJ [] r | _,[]=>[]
mutual
def L.isB (n:Nat):L->Bool | .ptr id _=>Nat.blt id n | .iR id _=>Nat.blt id n | .nT id _ _ _ _=>Nat.blt id n | .iG id _ _ _=>Nat.blt id n | .sl id _ _ _=>Nat.blt id n | .own id _=>Nat.blt id n | .mp id=>Nat.blt id n | .clo _ caps=>L.Rx n caps | _=>true
def L.Rx (n:Nat):List L->Bool | []=>true | l :: ls=>L.isB n l&&L.Rx n ls
end
def Gx (n:Nat):List (Sum L (List L))->Bool | []=>true | .inl l :: r=>l.isB n&&Gx n r | .inr ls :: r=>L.Rx n ls&&Gx n r
def V.isB (n:Nat):V->Bool | .one l=>l.isB n | .agg ls=>L.Rx n ls | .tup vs=>Gx n vs | .dB=>true
def Ob.isB (n:Nat):Ob->Bool | .box _ ls=>L.Rx n ls | .arr ..=>true | .fm _=>true | .dm ..=>true | .stk _ _ _ _ none=>true | .stk _ _ _ _ (some ls)=>L.Rx n ls
mutual
def L.vJ (id v:Nat):L->Bool | .iG i u _ _=>!Nat.beq i id||Nat.beq u v | .sl i u _ _=>!Nat.beq i id||Nat.beq u v | .own i u=>!Nat.beq i id||Nat.beq u v | .clo _ caps=>L.Ao id v caps | _=>true
def L.Ao (id v:Nat):List L->Bool | []=>true | l :: ls=>L.vJ id v l&&L.Ao id v ls
end
mutual
def L.dL(id:Nat):L->L
 |.iG i u a b=>if Nat.beq i id then .iG i 0 a b else .iG i u a b
 |.sl i u a b=>if Nat.beq i id then .sl i 0 a b else .sl i u a b
 |.own i u=>if Nat.beq i id then .own i 0 else .own i u
 |.clo f caps=>.clo f (L.xZ id caps)
 |l=>l
def L.xZ (id:Nat):List L->List L | []=>[] | l :: ls=>L.dL id l :: L.xZ id ls
end
def Tx (id v:Nat):List (Sum L (List L))->Bool | []=>true | .inl l :: r=>l.vJ id v&&Tx id v r | .inr ls :: r=>L.Ao id v ls&&Tx id v r
def V.vJ (id v:Nat):V->Bool | .one l=>l.vJ id v | .agg ls=>L.Ao id v ls | .tup vs=>Tx id v vs | .dB=>true
def Vv (id:Nat):List (Sum L (List L))->List (Sum L (List L)) | []=>[] | .inl l :: r => .inl (l.dL id) :: Vv id r | .inr ls :: r => .inr (L.xZ id ls) :: Vv id r
def V.dL (id:Nat):V->V | .one l => .one (l.dL id) | .agg ls => .agg (L.xZ id ls) | .tup vs => .tup (Vv id vs) | .dB => .dB
def Ob.vJ (id v:Nat):Ob->Bool | .box _ ls=>L.Ao id v ls | .arr ..=>true | .fm _=>true | .dm ..=>true | .stk _ _ _ _ none=>true | .stk _ _ _ _ (some ls)=>L.Ao id v ls
def Ob.dL (id:Nat):Ob->Ob | .box e ls => .box e (L.xZ id ls) | .stk e ei v rows top => .stk e ei v rows (top.map (L.xZ id)) | o=>o
def qC(ls:List L)(j:Nat)(l:L):Option (List L):=
 match ls[j]? with
 |some .dQ=>some (ls.set j l)
 |_=>none
def yLr(to off:Nat):L->Option L
 |.mZ=>some (.iR to off)
 |.ptr a b=>match Nat.beq a to&&Nat.beq b off with
  |true=>some (.iR to off)
  |false=>none
 |.iR a b=>match Nat.beq a to&&Nat.beq b off with
  |true=>some (.iR to off)
  |false=>none
 |_=>none
def zDr:Nat->Nat->List Nat->Bool | _,0,_=>true | i,k+1,a :: r=>Nat.beq a i&&zDr (i+1) k r | _,_+1,[]=>false
theorem zQd:∀ {i k:Nat}{ρ:List Nat},zDr i k ρ=true->∀ j,j<k->ρ[j]?=some (i+j)
 |_,0,_,_,j,hj=>by omega
 |i,k+1,a::r,h,j,hj=>by
  simp only[zDr,aH]at h;have:=aU h.1;subst this;cases j with
  |zero=>rfl
  |succ j =>
   have:=zQd h.2 j (by omega);rw[show a+1+j=a+(j+1)by omega]at this;simpa using this
 |_,_+1,[],h,_,_=>by cases h
def frz(h:List Ob)(l:L):Option (Bool × L × List Ob):=
 match l with
 |.own id ver =>
  match h[id]? with
  |some (.arr e t v rows _)=>some (Nat.beq v ver,.val (.slice t) rows,h.set id (.arr e t v rows false))
  |_=>none
 |.sl id ver off len =>
  match h[id]? with
  |some (.arr e t v rows _)=>some (Nat.beq v ver&&Nat.ble (off+len) rows.length,.val (.slice t) ((rows.drop off).take len),h.set id (.arr e t v rows false))
  |_=>none
 |_=>none
def gcL(ρ:List Nat)(σ:St):Option (Bool × St):=
 if nodupB ρ&&cK (λi=>Nat.blt i σ.h.length) ρ then some (true,⟨σ.r.map (V.ren ρ σ.h),inH ρ σ.h⟩)else none
def upto:Nat->Nat->List Nat | _,0=>[] | i,k+1=>i :: upto (i+1) k
def gcR (k:Nat) (σ:St):List Nat:=zDl σ.h (σ.h.length+1) (Zm (upto 0 k) (zUn σ.r)) 0
def Qu (σ:St):Option (Bool×List Ob)->Option (Bool×St) | some (c,h)=>some (c,⟨σ.r,h⟩) | none=>none
theorem zA{σ σ':St}{x:Option (Bool × List Ob)}{b:Bool}(h:Qu σ x=some (b,σ')):∃ h',x=some (b,h')/\σ'=⟨σ.r,h'⟩:=by
 unfold Qu at h;split at h
 ·simp only[aA,aF]at h;obtain⟨rfl,rfl⟩:=h;exact⟨_,rfl,rfl⟩
 ·cases h
def co1(T:Tab)(c:Co)(σ:St):Option (Bool × St):=
 match c with
 |.opn id j=>Qu σ (yLj σ.h id j)
 |.cls id j=>Qu σ (yLm σ.h id j)
 |.yLq id j=>Qu σ (yDr σ.h id j)
 |.zGx id k=>Qu σ (Dec.zGx σ.h id k)
 |.Vu id j=>Qu σ (Dec.Vu σ.h id j)
 |.shut id=>Qu σ (yDu σ.h id)
 |.gcA k=>match zDr 0 k (gcR k σ)with
  |true=>gcL (gcR k σ) σ
  |false=>none
 |.slR i =>
  match σ.r[i]? with
  |some (.one (.own id ver))=>
   match σ.h[id]? with
   |some (.arr _ _ v rows _)=>some (Nat.beq v ver,⟨σ.r.set i (.one (.sl id ver 0 rows.length)),σ.h⟩)
   |_=>none
  |some (.one (.sl ..))=>some (true,σ)
  |_=>none
 |.ySt i j t =>
  match σ.r[i]?,elemTy T t with
  |some (.agg ls),some (e,te,_)=>
   match ls[j]? with
   |some (.own ..)=>some (true,σ)
   |_ =>
    match qC ls j (.own σ.h.length 0)with
    |some ls'=>some (true,⟨σ.r.set i (.agg ls'),σ.h++[.arr e te 0 [] true]⟩)
    |none=>none
  |_,_=>none
 |.ySu i j =>
  match σ.r[i]? with
  |some (.agg ls)=>
   match ls[j]? with
   |some l =>
    match l.isD with
    |true=>some (true,σ)
    |false =>
     match frz σ.h l with
     |some (c,l',h')=>some (c,⟨σ.r.set i (.agg (ls.set j l')),h'⟩)
     |none=>none
   |none=>none
  |_=>none
 |.gc ρ=>gcL ρ σ
 |.orn id j to off =>
  match σ.h[id]? with
  |some (.box eb ls)=>
   match ls[j]? with
   |some l =>
    match yLr to off l with
    |some l'=>some (true,⟨σ.r,σ.h.set id (.box eb (ls.set j l'))⟩)
    |none=>none
   |none=>none
  |_=>none
 |.zUw i =>
  match σ.r[i]? with
  |some (.one l)=>
   match l.isD with
   |true=>some (true,σ)
   |false =>
    match frz σ.h l with
    |some (c,l',h')=>some (c,⟨σ.r.set i (.one l'),h'⟩)
    |none=>none
  |_=>none
 |.ySs id j =>
  match σ.h[id]? with
  |some (.box eb ls)=>
   match ls[j]? with
   |some l =>
    match l.isD with
    |true=>some (true,σ)
    |false =>
     match frz σ.h l with
     |some (c,l',h')=>some (c,⟨σ.r,h'.set id (.box eb (ls.set j l'))⟩)
     |none=>none
   |none=>none
  |_=>none
 |.keep m=>some (true,⟨xJ m σ.r,σ.h⟩)
 |.trunc n=>if Nat.ble n σ.h.length&&(cK (V.isB n) σ.r&&cK (Ob.isB n) (σ.h.take n))then some (true,⟨σ.r,σ.h.take n⟩)else none
 |.Kv i t =>
  match σ.r[i]?,elemTy T t with
  |some (.one .dQ),some (e,te,_)=>some (true,⟨σ.r.set i (.one (.own σ.h.length 0)),σ.h++[.arr e te 0 [] true]⟩)
  |some (.one (.own ..)),_=>some (true,σ)
  |_,_=>none
 |.ownB id j t =>
  match σ.h[id]?,elemTy T t with
  |some (.box eb ls),some (e,te,_)=>
   match ls[j]? with
   |some (.own ..)=>some (true,σ)
   |_ =>
    match qC ls j (.own σ.h.length 0)with
    |some ls'=>some (true,⟨σ.r,(σ.h++[Ob.arr e te 0 [] true]).set id (.box eb ls')⟩)
    |none=>none
  |_,_=>none
 |.ySq i t =>
  match σ.r[i]? with
  |some (.one .dQ)=>some (true,⟨σ.r.set i (.one (.val (.slice t) [])),σ.h⟩)
  |_=>none
 |.ySr id j t =>
  match σ.h[id]? with
  |some (.box eb ls)=>
   match qC ls j (.val (.slice t) [])with
   |some ls'=>some (true,⟨σ.r,σ.h.set id (.box eb ls')⟩)
   |none=>none
  |_=>none
 |.ver id =>
  match σ.h[id]? with
  |some (.arr e t v rows wr)=>if cK (V.vJ id v) σ.r&&cK (Ob.vJ id v) σ.h then some (true,⟨σ.r.map (V.dL id),(σ.h.map (Ob.dL id)).set id (.arr e t 0 rows wr)⟩)else none
  |_=>none
def Co.fx (k:Nat):Co->Bool | .trunc n=>Nat.ble k n | .gc ρ=>zDr 0 k ρ | .gcA n=>Nat.ble k n | _=>true
def norm{ρ:Type}(T:Tab):List Co->St->(St->Option ρ)->Option ρ
 |[],σ,k=>k σ
 |c::cs,σ,k =>
  match co1 T c σ with
  |some (b,σ')=>chk b (norm T cs σ' k)
  |none=>none
section
variable {T:Tab}{C:Ctx}{β:Nat->Pl}{w:World}
theorem Qv:∀ (m:List Bool) (r:List V) (i:Nat) (v:V),(xJ m r)[i]?=some v->v=.dB\/r[i]?=some v
 |true::m,x::r,0,v,h=>.inr h
 |true::m,x::r,i+1,v,h=>Qv m r i v (by simpa [xJ]using h)
 |false::m,x::r,0,v,h=>by simp[xJ]at h;exact .inl h.symm
 |false::m,x::r,i+1,v,h=>Qv m r i v (by simpa [xJ]using h)
 |[],x::r,0,v,h=>by simp[xJ]at h;exact .inl h.symm
 |[],x::r,i+1,v,h=>Qv [] r i v (by simpa [xJ]using h)
 |true::_,[],i,v,h=>by simp[xJ]at h
 |false::_,[],i,v,h=>by simp[xJ]at h
 |[],[],i,v,h=>by simp[xJ]at h
theorem Ee:∀ (m:List Bool) (r:List V),(xJ m r).length=r.length
 |true::m,_x::r=>congrArg (· + 1) (Ee m r)
 |false::m,_x::r=>congrArg (· + 1) (Ee m r)
 |[],_x::r=>congrArg (· + 1) (Ee [] r)
 |true::_,[]=>rfl
 |false::_,[]=>rfl
 |[],[]=>rfl
theorem tL{α:Type}{f:α->Bool}:∀ {l:List α},cK f l=true->∀ (i:Nat) (x:α),l[i]?=some x->f x=true
 |y::r,h,0,x,hx=>by
  simp only[cK,aH]at h;simp only[List.getElem?_cons_zero,aA]at hx;subst hx;exact h.1
 |y::r,h,i+1,x,hx=>by
  simp only[cK,aH]at h;exact tL h.2 i x (by simpa using hx)
 |[],_,i,x,hx=>by simp at hx
mutual
theorem L.Rel.below{β':Nat->Pl}{N N':Nat->Nat->Prop}{n:Nat}(hβ:∀ id,id<n->β' id=β id)(hN:∀ b j,b<w.heap.size->N' b j->N b j):∀ {l:L}{cs:List Value},l.isB n=true->l.Rel β w N cs->l.Rel β' w N' cs
 |.val t x,cs,_,h=>by simp only[L.Rel]at *;exact Ty.Rel.mono (Keep.refl _ w) hN h
 |.ptr id off,cs,hb,h=>by simp only[L.isB]at hb;simp only[L.Rel]at *;rw[hβ id (cZ hb)];exact h
 |.nT id off es i sub,cs,hb,h=>by simp only[L.isB]at hb;simp only[L.Rel]at *;rw[hβ id (cZ hb)];exact h
 |.mZ,cs,_,h=>by simp only[L.Rel]at *;exact h
 |.iR id off,cs,hb,h=>by simp only[L.isB]at hb;simp only[L.Rel]at *;rw[hβ id (cZ hb)];exact h
 |.iG id ver i off,cs,hb,h=>by simp only[L.isB]at hb;simp only[L.Rel]at *;rw[hβ id (cZ hb)];exact h
 |.nA t x off,cs,_,h=>by simp only[L.Rel]at *;obtain⟨c,hc,hr⟩:=h;exact⟨c,hc,hr.mono (Keep.refl _ w) hN⟩
 |.sl id ver off len,cs,hb,h=>by simp only[L.isB]at hb;simp only[L.Rel]at *;rw[hβ id (cZ hb)];exact h
 |.own id ver,cs,hb,h=>by simp only[L.isB]at hb;simp only[L.Rel]at *;rw[hβ id (cZ hb)];exact h
 |.dQ,cs,_,h=>by simp only[L.Rel]at *;exact h
 |.clo f caps,cs,hb,h=>by
  simp only[L.isB]at hb;simp only[L.Rel]at *;obtain⟨us,hc,hr⟩:=h;exact⟨us,hc,L.eG.below hβ hN hb hr⟩
 |.bad n,cs,_,h=>by simp only[L.Rel]at *;exact h
 |.Kq x tab,cs,_,h=>by simp only[L.Rel]at *;exact h
 |.mp id,cs,hb,h=>by simp only[L.isB]at hb;simp only[L.Rel]at *;rw[hβ id (cZ hb)];exact h
theorem L.eG.below{β':Nat->Pl}{N N':Nat->Nat->Prop}{n:Nat}(hβ:∀ id,id<n->β' id=β id)(hN:∀ b j,b<w.heap.size->N' b j->N b j):∀ {ls:List L}{us:List Value},L.Rx n ls=true->L.eG β w N ls us->L.eG β' w N' ls us
 |[],us,_,h=>by simp only[L.eG]at *;exact h
 |l::ls,us,hb,h=>by
  simp only[L.Rx,aH]at hb;simp only[L.eG]at *;obtain⟨u,r,e,h1,h2⟩:=h;exact⟨u,r,e,L.Rel.below hβ hN hb.1 h1,L.eG.below hβ hN hb.2 h2⟩
end
theorem aN.below{β':Nat->Pl}{N N':Nat->Nat->Prop}{n:Nat}(hβ:∀ id,id<n->β' id=β id)(hN:∀ b j,b<w.heap.size->N' b j->N b j):∀ {ls:List L}{cs:List Value},L.Rx n ls=true->aN β w N ls cs->aN β' w N' ls cs
 |[],_,_,h=>h
 |l::ls,_,hb,⟨c1,c2,e,h1,h2⟩=>by
  simp only[L.Rx,aH]at hb;exact⟨c1,c2,e,h1.below hβ hN hb.1,aN.below hβ hN hb.2 h2⟩
theorem Zu{β':Nat->Pl}{N N':Nat->Nat->Prop}{n:Nat}(hβ:∀ id,id<n->β' id=β id)(hN:∀ b j,b<w.heap.size->N' b j->N b j):∀ {vs:List (Sum L (List L))}{us:List Value},Gx n vs=true->bD (lK β w N) vs us->bD (lK β' w N') vs us
 |[],[],_,_=>trivial
 |.inl l::vs,u::us,hb,h=>by
  simp only[Gx,aH]at hb;exact⟨L.Rel.below hβ hN hb.1 h.1,Zu hβ hN hb.2 h.2⟩
 |.inr ls::vs,u::us,hb,h=>by
  simp only[Gx,aH]at hb;obtain⟨⟨cs,e,hr⟩,h2⟩:=h;exact⟨⟨cs,e,hr.below hβ hN hb.1⟩,Zu hβ hN hb.2 h2⟩
 |[],_::_,_,h=>h.elim
 |.inl _::_,[],_,h=>h.elim
 |.inr _::_,[],_,h=>h.elim
theorem V.Rel.below{β':Nat->Pl}{N N':Nat->Nat->Prop}{n:Nat}(hβ:∀ id,id<n->β' id=β id)(hN:∀ b j,b<w.heap.size->N' b j->N b j){v:V}{x:Value}(hb:v.isB n=true)(h:v.Rel β w N x):v.Rel β' w N' x:=by
 cases v with
 |one l=>exact L.Rel.below hβ hN hb h
 |agg ls=>obtain⟨cs,e,hr⟩:=h;exact⟨cs,e,hr.below hβ hN hb⟩
 |tup vs=>obtain⟨us,e,hr⟩:=h;exact⟨us,e,Zu hβ hN hb hr⟩
 |dB=>trivial
theorem Sim.trunc{σ:St}{a:Act}{n:Nat}(hs:Sim C β σ a w)(hfx:C.fix.length<=n)(hn:n<=σ.h.length)(hr:cK (V.isB n) σ.r=true)(ho:cK (Ob.isB n) (σ.h.take n)=true):∃ β',Sim C β' ⟨σ.r,σ.h.take n⟩ a w:=by
 let β':Nat->Pl:=λid=>if id<n then β id else⟨false,false,0,none,0,0,0,[]⟩
 have hβ:∀ id,id<n->β' id=β id:=λid hid=>by simp[β',hid]
 have hget:∀ (id:Nat) (o:Ob),(σ.h.take n)[id]?=some o->id<n/\σ.h[id]?=some o:=λid o h=>by
  rw[List.getElem?_take]at h;split at h
  ·rename_i hlt;exact⟨hlt,h⟩
  ·cases h
 have hN:∀ b j,b<w.heap.size->C.N β' (σ.h.take n) b j->C.N β σ.h b j:=λb j _ hb=>by
  rcases hb with hb|⟨id,o,ho,hw,hbk⟩
  ·exact .inl hb
  ·obtain⟨hid,ho⟩:=hget id o ho;rw[hβ id hid]at hbk;exact .inr ⟨id,o,ho,hw,hbk⟩
 refine⟨β',⟨⟨?_,?_,?_,?_,hs.heap.n0,hs.heap.frame,hs.heap.size,hs.heap.os,hs.heap.tape,hs.heap.output,λj o hj=>by
  obtain⟨k1,k2⟩:=hs.heap.fixed j o hj;have hjn:j<n:=Nat.lt_of_lt_of_le (bP.1 hj).1 hfx;exact⟨by simp;omega,λb hb=>by rw[hβ j hjn];exact k2 b hb⟩⟩,hs.defers,hs.size,λi v hv=>(hs.reg i v hv).below hβ hN (tL hr i v hv)⟩⟩
 ·intro id o hio;obtain⟨hid,h1⟩:=hget id o hio;rw[hβ id hid];have hob:=hs.heap.obj id o h1;cases o with
  |box e ls =>
   have hbl:=tL ho id _ hio;simp only[Ob.Rel]at *;obtain⟨g1,g2,b,cs,g3,g4,g5⟩:=hob;exact⟨g1,g2,b,cs,g3,g4.below hβ hN hbl,g5⟩
  |arr e t ver rows wr =>
   simp only[Ob.Rel]at *;obtain⟨g1,g2,g3,g4,g5,g6,g7⟩:=hob;refine⟨g1,g2,g3,g4,g5,g6,?_⟩;rcases g7 with g7|⟨b,cur,css,k1,k2,k3,k4⟩
   ·exact .inl g7
   ·exact .inr ⟨b,cur,css,k1,k2,k3.mono λ_ _ h=>h.mono (Keep.refl _ w) hN,k4⟩
  |fm tab=>simp only[Ob.Rel]at *;exact hob
  |dm kt vt es =>
   simp only[Ob.Rel]at *;obtain⟨g1,g2,b,ms,g3,g4,g5⟩:=hob;exact⟨g1,g2,b,ms,g3,g4,g5.mono (Keep.refl _ w) hN⟩
  |stk e ei ver rows top =>
   have hbl:=tL ho id _ hio;simp only[Ob.Rel]at *;obtain⟨g1,g2,g3,g4,g5,b,cur,cs,cs2,bs,k1,k2,k3,k4,k5,k6,k7,k8,k9,k10,k11⟩:=hob;refine⟨g1,g2,g3,g4,g5,b,cur,cs,cs2,bs,k1,k2,k3,k4,k5,k6,k7,k8,k9,?_,k11⟩;cases top with
   |none=>exact k10
   |some ls=>exact⟨k10.1.below hβ hN hbl,k10.2⟩
 ·intro id hid;simp only[List.length_take]at hid;simp only[β'];rw[if_neg (by omega)]
 ·intro i j o1 o2 b h1 h2 hb1 hb2;obtain⟨hi,h1⟩:=hget i o1 h1;obtain⟨hj,h2⟩:=hget j o2 h2;rw[hβ i hi]at hb1;rw[hβ j hj]at hb2;exact hs.heap.kC i j o1 o2 b h1 h2 hb1 hb2
 ·intro id o b h1 hb;obtain⟨hi,h1⟩:=hget id o h1;exact hs.heap.Jp h1 rfl (by rw[hβ id hi]) (by rw[hβ id hi]) (λh=>h) hb
section ver
variable {id v:Nat}
def mD (β:Nat->Pl) (id:Nat):Nat->Pl:=upd β id { β id with ver:=0 }
theorem zNo{i j:Nat}(h:i≠j):Nat.beq i j=false:=by
 cases hb:Nat.beq i j
 ·rfl
 ·exact absurd (aU hb) h
mutual
theorem L.Rel.dL{N:Nat->Nat->Prop}(hv:(β id).ver=v):∀ {l:L}{cs:List Value},l.vJ id v=true->l.Rel β w N cs->(l.dL id).Rel (mD β id) w N cs
 |.val t x,cs,_,h=>by simp only[L.dL,L.Rel]at *;exact h
 |.Kq x tab,cs,_,h=>by simp only[L.dL,L.Rel]at *;exact h
 |.mp i,cs,_,h=>by
  simp only[L.dL,L.Rel,mD]at *;by_cases hi:i=id
  ·subst hi;rw[upd_same];exact h
  ·rw[aY _ _ hi];exact h
 |.ptr i off,cs,_,h=>by
  simp only[L.dL,L.Rel,mD]at *;by_cases hi:i=id
  ·subst hi;rw[upd_same];exact h
  ·rw[aY _ _ hi];exact h
 |.nT i off es k sub,cs,_,h=>by
  simp only[L.dL,L.Rel,mD]at *;by_cases hi:i=id
  ·subst hi;rw[upd_same];exact h
  ·rw[aY _ _ hi];exact h
 |.mZ,cs,_,h=>by simp only[L.dL,L.Rel]at *;exact h
 |.iR i off,cs,_,h=>by
  simp only[L.dL,L.Rel,mD]at *;by_cases hi:i=id
  ·subst hi;rw[upd_same];exact h
  ·rw[aY _ _ hi];exact h
 |.iG i u a b,cs,hb,h=>by
  simp only[L.dL];by_cases hi:i=id
  ·subst hi;have hu:u=v:=by simpa [L.vJ,Nat.beq_refl]using hb
   subst hu;simp only[Nat.beq_refl,if_true,L.Rel,mD,upd_same]at *;obtain⟨h1,h2,h3,c,h4,h5,h6⟩:=h;exact⟨h1,h2,bA _,c,h4,h5,λ_=>h6 hv⟩
  ·have:Nat.beq i id=false:=zNo hi;simp only[this,Bool.false_eq_true,if_false,L.Rel,mD]at *;rw[aY _ _ hi];exact h
 |.nA t x off,cs,_,h=>by simp only[L.dL,L.Rel]at *;exact h
 |.sl i u a b,cs,hb,h=>by
  simp only[L.dL];by_cases hi:i=id
  ·subst hi;have hu:u=v:=by simpa [L.vJ,Nat.beq_refl]using hb
   subst hu;simp only[Nat.beq_refl,if_true,L.Rel,mD,upd_same]at *;obtain⟨h1,h2,h3,c,h4,h5,h6⟩:=h;exact⟨h1,h2,bA _,c,h4,h5,λ_=>h6 hv⟩
  ·have:Nat.beq i id=false:=zNo hi;simp only[this,Bool.false_eq_true,if_false,L.Rel,mD]at *;rw[aY _ _ hi];exact h
 |.own i u,cs,hb,h=>by
  simp only[L.dL];by_cases hi:i=id
  ·subst hi;have hu:u=v:=by simpa [L.vJ,Nat.beq_refl]using hb
   subst hu;simp only[Nat.beq_refl,if_true,L.Rel,mD,upd_same]at *;obtain⟨h1,h2,h3,c,h4,h5,h6⟩:=h;exact⟨h1,h2,bA _,c,h4,h5,λ_=>h6 hv⟩
  ·have:Nat.beq i id=false:=zNo hi;simp only[this,Bool.false_eq_true,if_false,L.Rel,mD]at *;rw[aY _ _ hi];exact h
 |.dQ,cs,_,h=>by simp only[L.dL,L.Rel]at *;exact h
 |.clo f caps,cs,hb,h=>by
  simp only[L.vJ]at hb;simp only[L.dL,L.Rel]at *;obtain⟨us,hc,hr⟩:=h;exact⟨us,hc,L.eG.dL hv hb hr⟩
 |.bad n,cs,_,h=>by simp only[L.dL,L.Rel]at *;exact h
theorem L.eG.dL{N:Nat->Nat->Prop}(hv:(β id).ver=v):∀ {ls:List L}{us:List Value},L.Ao id v ls=true->L.eG β w N ls us->L.eG (mD β id) w N (L.xZ id ls) us
 |[],us,_,h=>by simp only[L.xZ,L.eG]at *;exact h
 |l::ls,us,hb,h=>by
  simp only[L.Ao,aH]at hb;simp only[L.xZ,L.eG]at *;obtain⟨u,r,e,h1,h2⟩:=h;exact⟨u,r,e,L.Rel.dL hv hb.1 h1,L.eG.dL hv hb.2 h2⟩
end
theorem aN.dL{N:Nat->Nat->Prop}(hv:(β id).ver=v):∀ {ls:List L}{cs:List Value},L.Ao id v ls=true->aN β w N ls cs->aN (mD β id) w N (L.xZ id ls) cs
 |[],_,_,h=>by simp only[L.xZ,aN]at *;exact h
 |l::ls,_,hb,⟨c1,c2,e,h1,h2⟩=>by
  simp only[L.Ao,aH]at hb;exact⟨c1,c2,e,h1.dL hv hb.1,aN.dL hv hb.2 h2⟩
theorem Zv{N:Nat->Nat->Prop}(hv:(β id).ver=v):∀ {vs:List (Sum L (List L))}{us:List Value},Tx id v vs=true->bD (lK β w N) vs us->bD (lK (mD β id) w N) (Vv id vs) us
 |[],[],_,_=>trivial
 |.inl l::vs,u::us,hb,h=>by
  simp only[Tx,aH]at hb;exact⟨L.Rel.dL hv hb.1 h.1,Zv hv hb.2 h.2⟩
 |.inr ls::vs,u::us,hb,h=>by
  simp only[Tx,aH]at hb;obtain⟨⟨cs,e,hr⟩,h2⟩:=h;exact⟨⟨cs,e,hr.dL hv hb.1⟩,Zv hv hb.2 h2⟩
 |[],_::_,_,h=>h.elim
 |.inl _::_,[],_,h=>h.elim
 |.inr _::_,[],_,h=>h.elim
theorem V.Rel.dL{N:Nat->Nat->Prop}(hv:(β id).ver=v){u:V}{x:Value}(hb:u.vJ id v=true)(h:u.Rel β w N x):(u.dL id).Rel (mD β id) w N x:=by
 cases u with
 |one l=>exact L.Rel.dL hv hb h
 |agg ls=>obtain⟨cs,e,hr⟩:=h;exact⟨cs,e,hr.dL hv hb⟩
 |tup vs=>obtain⟨us,e,hr⟩:=h;exact⟨us,e,Zv hv hb hr⟩
 |dB=>trivial
theorem yLs(i:Nat):(mD β id i).box=(β i).box:=by
 unfold mD;by_cases hi:i=id
 ·subst hi;rw[upd_same]
 ·rw[aY _ _ hi]
theorem Gy(i:Nat):(mD β id i).blk=(β i).blk/\(mD β id i).live=(β i).live:=by
 unfold mD upd;split
 ·rename_i h;subst h;exact⟨rfl,rfl⟩
 ·exact⟨rfl,rfl⟩
theorem Ob.yLt(o:Ob):(o.dL id).wr=o.wr:=by cases o<;>rfl
theorem Ob.yDv(o:Ob):(o.dL id).oM=o.oM:=by cases o<;>rfl
theorem Vw(i:Nat):(mD β id i).sub=(β i).sub:=by
 unfold mD upd;split
 ·rename_i h;subst h;rfl
 ·rfl
theorem Sim.dL{σ:St}{a:Act}{e:TypeId}{t:Ty}{rows:List t.den}{wr:Bool}(hs:Sim C β σ a w)(ho:σ.h[id]?=some (.arr e t v rows wr))(hr:cK (V.vJ id v) σ.r=true)(hh:cK (Ob.vJ id v) σ.h=true):Sim C (mD β id) ⟨σ.r.map (V.dL id),(σ.h.map (Ob.dL id)).set id (.arr e t 0 rows wr)⟩ a w:=by
 have hob:=hs.heap.obj _ _ ho;simp only[Ob.Rel]at hob;obtain⟨g1,g2,g3,g4,g5,g6,g7⟩:=hob;have yYu:id<(σ.h.map (Ob.dL id)).length:=by simpa using(bP.1 ho).1
 have hget:∀ (i:Nat) (o:Ob),((σ.h.map (Ob.dL id)).set id (.arr e t 0 rows wr))[i]?=some o->∃ o',σ.h[i]?=some o'/\(o.wr=o'.wr/\o.oM=o'.oM)/\((i≠id/\o=o'.dL id)\/(i=id/\o=.arr e t 0 rows wr)):=λi o h=>by
  by_cases hi:id=i
  ·subst hi;rw[List.getElem?_set_self yYu]at h;simp only[aA]at h;subst h;exact⟨_,ho,⟨rfl,rfl⟩,.inr ⟨rfl,rfl⟩⟩
  ·rw[List.getElem?_set_ne hi,List.getElem?_map,Option.map_eq_some_iff]at h;obtain⟨o',h1,rfl⟩:=h;exact⟨o',h1,⟨Ob.yLt o',Ob.yDv o'⟩,.inl ⟨λh=>hi h.symm,rfl⟩⟩
 have hNi:∀ b j,C.N (mD β id) ((σ.h.map (Ob.dL id)).set id (.arr e t 0 rows wr)) b j->C.N β σ.h b j:=λb j hb=>by
  rcases hb with hb|⟨i,o,h1,h2,h3⟩
  ·exact .inl hb
  ·obtain⟨o',h4,h5,_⟩:=hget i o h1;exact .inr ⟨i,o',h4,by rw[<- h5.1];exact h2,Ob.uI h5.2 (Gy (β:=β) (id:=id) i).1 (Vw i) h3⟩
 have mono:∀ {l:List L}{cs:List Value},aN (mD β id) w (C.N β σ.h) l cs->aN (mD β id) w (C.N (mD β id) ((σ.h.map (Ob.dL id)).set id (.arr e t 0 rows wr))) l cs:=λh=>h.mono (Moves.refl _) (Keep.refl _ w) λb j _ hb=>hNi b j hb
 refine⟨⟨?_,?_,?_,?_,hs.heap.n0,hs.heap.frame,hs.heap.size,hs.heap.os,hs.heap.tape,hs.heap.output,λj o hj=>by
  obtain⟨k1,k2⟩:=hs.heap.fixed j o hj;exact⟨by simpa using k1,λb hb=>by rw[(Gy (β:=β) (id:=id) j).1,(yLs (β:=β) (id:=id) j)];exact k2 b hb⟩⟩,hs.defers,by simpa using hs.size,?_⟩
 ·intro i o h;obtain⟨o',h1,h2,h3|h3⟩:=hget i o h
  ·obtain⟨hi,rfl⟩:=h3;have hob:=hs.heap.obj i o' h1;have hbi:mD β id i=β i:=aY _ _ hi;rw[hbi];cases o' with
   |box eb ls =>
    have hvv:=tL hh i _ h1;simp only[Ob.dL,Ob.Rel]at *;obtain⟨k1,k2,b,cs,k3,k4,k5⟩:=hob;exact⟨k1,k2,b,cs,k3,mono (k4.dL g3 hvv),k5⟩
   |arr e2 t2 xBf gT wr2 =>
    simp only[Ob.dL,Ob.Rel]at *;obtain⟨k1,k2,k3,k4,k5,k6,k7⟩:=hob;refine⟨k1,k2,k3,k4,k5,k6,?_⟩;rcases k7 with k7|⟨b,cur,css,m1,m2,m3,m4⟩
    ·exact .inl k7
    ·exact .inr ⟨b,cur,css,m1,m2,m3.mono λ_ _ h=>h.mono (Keep.refl _ w) λb j _ hb=>hNi b j hb,m4⟩
   |fm tab=>simp only[Ob.dL,Ob.Rel]at *;exact hob
   |dm kt vt es =>
    simp only[Ob.dL,Ob.Rel]at *;obtain⟨k1,k2,b,ms,k3,k4,k5⟩:=hob;exact⟨k1,k2,b,ms,k3,k4,k5.mono (Keep.refl _ w) λb j _ hb=>hNi b j hb⟩
   |stk es ei vs rs top =>
    have hvv:=tL hh i _ h1;simp only[Ob.dL,Ob.Rel]at *;obtain⟨m1,m2,m3,m4,m5,b,cur,cs,cs2,bs,k1,k2,k3,k4,k5,k6,k7,k8,k9,k10,k11⟩:=hob;refine⟨m1,m2,m3,m4,by rw[Vm];exact m5,b,cur,cs,cs2,bs,k1,k2,k3,k4,k5,k6,k7,k8,k9,?_,k11⟩;refine k10.imp _ λls cs e hl=>?_
    subst e;exact mono (hl.dL g3 hvv)
  ·obtain⟨rfl,rfl⟩:=h3;simp only[Ob.Rel,mD,upd_same];refine⟨g1,g2,trivial,g4,g5,g6,?_⟩;rcases g7 with g7|⟨b,cur,css,m1,m2,m3,m4⟩
   ·exact .inl g7
   ·exact .inr ⟨b,cur,css,m1,m2,m3.mono λ_ _ h=>h.mono (Keep.refl _ w) λb j _ hb=>hNi b j hb,m4⟩
 ·intro i hi;rw[(Gy (β:=β) (id:=id) i).2];exact hs.heap.dead i (by simpa using hi)
 ·intro i j o1 o2 b h1 h2 hb1 hb2;obtain⟨o1',k1,k3,_⟩:=hget i o1 h1;obtain⟨o2',k2,k4,_⟩:=hget j o2 h2;exact hs.heap.kC i j o1' o2' b k1 k2 (Ob.kG k3.2 (Gy (β:=β) (id:=id) i).1 (Vw i) hb1) (Ob.kG k4.2 (Gy (β:=β) (id:=id) j).1 (Vw j) hb2)
 ·intro i o b h1 hb;obtain⟨o',k1,k3,_⟩:=hget i o h1;exact hs.heap.Jp k1 k3.2 (Gy (β:=β) (id:=id) i).1 (Vw i) (λh=>by rw[<- k3.1];exact h) hb
 ·intro i u hu;rw[List.getElem?_map,Option.map_eq_some_iff]at hu;obtain⟨u0,h1,rfl⟩:=hu;exact((hs.reg i u0 h1).dL g3 (tL hr i u0 h1)).mono (Moves.refl _) (Keep.refl _ w) λb j _ hb=>hNi b j hb
end ver
theorem aN.qC{N:Nat->Nat->Prop}{l:L}(hl:l.Rel β w N [.slice none 0 0]):∀ {ls ls':List L}{j:Nat}{cs:List Value},Dec.qC ls j l=some ls'->aN β w N ls cs->aN β w N ls' cs
 |[],_,j,_,h,_=>by simp[Dec.qC]at h
 |x::ls,ls',0,cs,h,hr=>by
  simp only[Dec.qC,List.getElem?_cons_zero]at h;split at h
  ·rename_i hx;simp only[aA]at h hx;subst h hx;obtain⟨c1,c2,e,h1,h2⟩:=hr;simp only[L.Rel]at h1;subst h1;exact⟨_,c2,e,hl,h2⟩
  ·cases h
 |x::ls,ls',j+1,cs,h,hr=>by
  simp only[Dec.qC,List.getElem?_cons_succ]at h;split at h
  ·rename_i hx;simp only[aA,List.set_cons_succ]at h;subst h;obtain⟨c1,c2,e,h1,h2⟩:=hr;exact⟨c1,c2,e,h1,aN.qC (j:=j) hl (by simp[Dec.qC,hx]) h2⟩
  ·cases h
theorem aN.setAt{N:Nat->Nat->Prop}{l':L}:∀ {ls:List L}{j:Nat}{l:L}{cs:List Value},ls[j]?=some l->(∀ c,l.Rel β w N c->l'.Rel β w N c)->aN β w N ls cs->aN β w N (ls.set j l') cs
 |[],j,_,_,h,_,_=>by simp at h
 |x::ls,0,l,cs,h,hl,hr=>by
  simp only[List.getElem?_cons_zero,aA]at h;subst h;obtain⟨c1,c2,e,h1,h2⟩:=hr;exact⟨c1,c2,e,hl _ h1,h2⟩
 |x::ls,j+1,l,cs,h,hl,hr=>by
  obtain⟨c1,c2,e,h1,h2⟩:=hr;exact⟨c1,c2,e,h1,aN.setAt (j:=j) (by simpa using h) hl h2⟩
theorem aN.zJo{N N':Nat->Nat->Prop}(hN:∀ b j,b<w.heap.size->N' b j->N b j){l':L}:∀ {ls:List L}{j:Nat}{l:L}{cs:List Value},ls[j]?=some l->(∀ c,l.Rel β w N c->l'.Rel β w N' c)->aN β w N ls cs->aN β w N' (ls.set j l') cs
 |[],j,_,_,h,_,_=>by simp at h
 |x::ls,0,l,cs,h,hl,hr=>by
  simp only[List.getElem?_cons_zero,aA]at h;subst h;obtain⟨c1,c2,e,h1,h2⟩:=hr;exact⟨c1,c2,e,hl _ h1,h2.mono (Moves.refl β) (Keep.refl _ w) hN⟩
 |x::ls,j+1,l,cs,h,hl,hr=>by
  obtain⟨c1,c2,e,h1,h2⟩:=hr;exact⟨c1,c2,e,h1.mono (Moves.refl β) (Keep.refl _ w) hN,aN.zJo (j:=j) hN (by simpa using h) hl h2⟩
theorem zUx{h:List Ob}{e:TypeId}{t:Ty}{ver id off len:Nat}{rows:List t.den}{wr:Bool}{c:Value}{N':Nat->Nat->Prop}(hh:fA C β h w)(ho:h[id]?=some (.arr e t ver rows wr))(hsl:eD (β id) off len c)(hle:off+len<=rows.length)(hN:∀ b j,b<w.heap.size->N' b j->C.N β h b j)(hnb:∀ b j,(β id).blk=some b->¬ N' b j):(Ty.slice t).Rel w N' ((rows.drop off).take len) [c]:=by
 have hob:=hh.obj _ _ ho;simp only[Ob.Rel]at hob;obtain⟨_,_,hpv,hpz,hpos,hpl,hob⟩:=hob;simp only[Ty.Rel];refine⟨c,rfl,?_⟩;unfold eD at hsl;rcases hob with ⟨hnb',hr0,_⟩|⟨b,cur,css,hb,hheap,hall,htake,hcap,hrc,hm⟩
 ·rw[hnb']at hsl;subst hr0;exact .inl ⟨hsl.1,by simp⟩
 ·rw[hb]at hsl;obtain⟨h1,o,rfl,h3⟩:=hsl;obtain⟨hf1,hf2,_⟩:=hh.fresh _ _ _ ho hb;have hlen:((rows.drop off).take len).length=len:=by simp;omega
  have hl:=iU hall;have hcs:=(Cells.of_heap hheap).take (rows.length*t.size);rw[htake]at hcs;have hcs2:=(hcs.drop (off*t.size)).take (len*t.size);rw[lV css hl off,qJ _ (λc hc=>hl c (List.mem_of_mem_drop hc)) len,Nat.zero_add]at hcs2;have zTa:bD (λx c=>t.Rel w N' x c) ((rows.drop off).take len) ((css.drop off).take len):=((hall.drop off).take len).mono λ_ _ h=>h.mono (Keep.refl _ w) hN
  refine .inr (.inl ⟨b,o,_,(css.drop off).take len,by rw[hlen],hf2,λj _ _=>hnb b j hb,by omega,by omega,zTa,λc hc=>hl c (List.mem_of_mem_drop (List.mem_of_mem_take hc)),?_⟩);rcases h3 with h3|⟨h3,_⟩
  ·rw[h3,hpz];exact hcs2
  ·have hl0:len=0:=by omega
   subst hl0;simpa using Cells.nil
theorem fA.freeze{id:Nat}{e:TypeId}{t:Ty}{v:Nat}{rows:List t.den}{wr:Bool}{h:List Ob}(hs:fA C β h w)(ho:h[id]?=some (.arr e t v rows wr)):fA C β (h.set id (.arr e t v rows false)) w/\(∀ b j,C.N β (h.set id (.arr e t v rows false)) b j->C.N β h b j)/\∀ b j,(β id).blk=some b->¬ C.N β (h.set id (.arr e t v rows false)) b j:=by
 have hi:id<h.length:=(bP.1 ho).1;have hget:∀ (i:Nat) (o:Ob),(h.set id (.arr e t v rows false))[i]?=some o->(i≠id/\h[i]?=some o)\/(i=id/\o=.arr e t v rows false):=λi o hio=>by
  by_cases hid:i=id
  ·subst hid;rw[List.getElem?_set_self hi]at hio;simp only[aA]at hio;exact .inr ⟨rfl,hio.symm⟩
  ·rw[List.getElem?_set_ne (Ne.symm hid)]at hio;exact .inl ⟨hid,hio⟩
 have hN:∀ b j,C.N β (h.set id (.arr e t v rows false)) b j->C.N β h b j:=λb j hb=>by
  rcases hb with hb|⟨i,o,hio,hw,hbk⟩
  ·exact .inl hb
  ·rcases hget i o hio with ⟨_,hio⟩|⟨_,rfl⟩
   ·exact .inr ⟨i,o,hio,hw,hbk⟩
   ·cases hw
 have hob:∀ (i:Nat) (o:Ob),h[i]?=some o->o.Rel β w (C.N β (h.set id (.arr e t v rows false))) (β i):=λi o hio=>(hs.obj i o hio).mono (Moves.refl β) (Keep.refl _ w) (λb j _ hb=>hN b j hb) λ_ _=>rfl
 refine⟨⟨λi o hio=>?_,λi hl=>hs.dead i (by simpa using hl),λi j o o' b h1 h2 hb1 hb2=>?_,λi o b hio hb=>?_,hs.n0,hs.frame,hs.size,hs.os,hs.tape,hs.output,λj o hj=>⟨by simpa using(hs.fixed j o hj).1,(hs.fixed j o hj).2⟩⟩,hN,λb k hb hn=>?_⟩
 ·rcases hget i o hio with ⟨_,hio⟩|⟨rfl,rfl⟩
  ·exact hob i o hio
  ·have:=hob i _ ho;simp only[Ob.Rel]at this ⊢;exact this
 ·have k:∀ (i:Nat) (o:Ob),(h.set id (.arr e t v rows false))[i]?=some o->∃ o':Ob,h[i]?=some o'/\o.oM=o'.oM:=λi o hio=>by
   rcases hget i o hio with ⟨_,hio⟩|⟨rfl,rfl⟩
   ·exact⟨o,hio,rfl⟩
   ·exact⟨_,ho,rfl⟩
  obtain⟨o1,k1,k3⟩:=k i o h1;obtain⟨o2,k2,k4⟩:=k j o' h2;exact hs.kC i j o1 o2 b k1 k2 (Ob.kG k3 rfl rfl hb1) (Ob.kG k4 rfl rfl hb2)
 ·rcases hget i o hio with ⟨_,hio⟩|⟨rfl,rfl⟩
  ·exact hs.fB i o b hio hb
  ·exact hs.Jp ho rfl rfl rfl (λh=>by cases h) hb
 ·rcases hn with hn|⟨i,o,hio,hw,hbk⟩
  ·exact(hs.fresh id _ b ho hb).1 k hn
  ·rcases hget i o hio with ⟨hne,hio⟩|⟨_,rfl⟩
   ·exact hne (hs.kC i id o _ b hio ho ⟨k,hbk⟩ (Ob.rW hb))
   ·cases hw
theorem zNp{h h':List Ob}{l l':L}(hf:frz h l=some (true,l',h'))(hs:fA C β h w):fA C β h' w/\(∀ b j,C.N β h' b j->C.N β h b j)/\(∀ cs,l.Rel β w (C.N β h) cs->l'.Rel β w (C.N β h') cs)/\h'.length=h.length /\
 (∀ (i:Nat) (o:Ob),h[i]?=some o->∃ o',h'[i]?=some o'/\(∀ e ls,o=.box e ls->o'=.box e ls)):=by
 have ob:∀ {id:Nat}{e:TypeId}{t:Ty}{v:Nat}{rows:List t.den}{wr:Bool},h[id]?=some (.arr e t v rows wr)->∀ (i:Nat) (o:Ob),h[i]?=some o->∃ o',(h.set id (.arr e t v rows false))[i]?=some o'/\(∀ e ls,o=.box e ls->o'=.box e ls):=by
  intro id e t v rows wr ho i o hio;by_cases hid:i=id
  ·subst hid;rw[ho]at hio;simp only[aA]at hio;subst hio;exact⟨_,List.getElem?_set_self (bP.1 ho).1,λe ls h=>by cases h⟩
  ·exact⟨o,by rw[List.getElem?_set_ne (Ne.symm hid)];exact hio,λe ls h=>h⟩
 cases l<;>simp only[frz,reduceCtorEq]at hf
 case own id ver =>
  split at hf
  ·rename_i e t v rows wr ho;simp only[aA,aF]at hf;obtain⟨hv,rfl,rfl⟩:=hf;have hv:=aU hv;obtain⟨k1,k2,k3⟩:=hs.freeze ho;refine⟨k1,k2,λcs hr=>?_,by simp,ob ho⟩;have hob:=hs.obj _ _ ho;simp only[Ob.Rel]at hob;obtain⟨_,_,hpv,_,_,hpl,_⟩:=hob;simp only[L.Rel]at hr;obtain⟨_,_,_,c,rfl,_,himp⟩:=hr;have hsl:=himp (by rw[hpv,hv]);rw[hpl]at hsl;have:=zUx (N':=C.N β (h.set id (.arr e t v rows false))) hs ho hsl (by omega) (λb j _ hb=>k2 b j hb) k3;rw[List.drop_zero,List.take_length]at this;simpa only[L.Rel]using this
  ·cases hf
 case sl id ver off len =>
  split at hf
  ·rename_i e t v rows wr ho;simp only[aA,aF,aH]at hf;obtain⟨⟨hv,hle⟩,rfl,rfl⟩:=hf;have hv:=aU hv;obtain⟨k1,k2,k3⟩:=hs.freeze ho;refine⟨k1,k2,λcs hr=>?_,by simp,ob ho⟩;have hob:=hs.obj _ _ ho;simp only[Ob.Rel]at hob;obtain⟨_,_,hpv,_,_,hpl,_⟩:=hob;simp only[L.Rel]at hr;obtain⟨_,_,_,c,rfl,_,himp⟩:=hr;simpa only[L.Rel]using zUx (N':=C.N β (h.set id (.arr e t v rows false))) hs ho (himp (by rw[hpv,hv])) (cZ hle) (λb j _ hb=>k2 b j hb) k3
  ·cases hf
theorem yLu{N:Nat->Nat->Prop}{to off:Nat}{l l':L}{cs:List Value}(h:yLr to off l=some l')(hr:l.Rel β w N cs):l'.Rel β w N cs:=by
 cases l<;>simp only[yLr,reduceCtorEq]at h
 case mZ =>
  simp only[aA]at h;subst h;simp only[L.Rel]at *;exact⟨_,hr,.inl rfl⟩
 case ptr a b =>
  split at h
  ·rename_i hb;simp only[aH]at hb;have e1:=aU hb.1;have e2:=aU hb.2;subst e1 e2;simp only[aA]at h;subst h;simp only[L.Rel]at *;obtain⟨h1,h2,b,h3,h4⟩:=hr;exact⟨_,h4,.inr ⟨h1,h2,b,h3,rfl⟩⟩
  ·cases h
 case iR a b =>
  split at h
  ·rename_i hb;simp only[aH]at hb;have e1:=aU hb.1;have e2:=aU hb.2;subst e1 e2;simp only[aA]at h;subst h;exact hr
  ·cases h
def Gz(β:Nat->Pl)(ρ:List Nat):Nat->Pl:=λj=>match ρ[j]? with|some i=>{ β i with ver:=0 }|none=>⟨false,false,0,none,0,0,0,[]⟩
theorem zUy{C:Ctx}{β:Nat->Pl}{w:World}{h:List Ob}{ρ:List Nat}(hs:fA C β h w)(hlt:∀ i∈ρ,i<h.length):yDq β (Gz β ρ) ρ h:=by
 intro i j hp;obtain⟨m,hm,hi⟩:=Ce hp;rw[Nat.zero_add]at hm;subst hm;have e:Gz β ρ j={ β i with ver:=0 }:=by simp only[Gz,hi]
 rw[e];refine⟨rfl,rfl,rfl,λhb=>⟨rfl,?_,rfl,rfl,rfl⟩⟩;have hil:=hlt i (List.mem_of_getElem? hi);have ho:h[i]?=some h[i]:=by simp[hil]
 have hob:=hs.obj i _ ho;unfold zGv;rw[ho];cases hoi:h[i]with
 |box e ls =>
  rw[hoi]at hob;simp only[Ob.Rel]at hob;rw[hob.2.1]at hb;cases hb
 |arr e t v rows wr =>
  rw[hoi]at hob;simp only[Ob.Rel]at hob;exact hob.2.2.1
 |stk e ei v rows top =>
  rw[hoi]at hob;simp only[Ob.Rel]at hob;exact hob.2.2.1
 |fm tab =>
  rw[hoi]at hob;simp only[Ob.Rel]at hob;rw[hob.2.1]at hb;cases hb
 |dm kt vt es =>
  rw[hoi]at hob;simp only[Ob.Rel]at hob;rw[hob.2.1]at hb;cases hb
theorem Sim.gc{σ:St}{a:Act}{ρ:List Nat}(hs:Sim C β σ a w)(hnd:nodupB ρ=true)(hlt:∀ i∈ρ,i<σ.h.length)(hfx:∀ j,j<C.fix.length->ρ[j]?=some j):Sim C (Gz β ρ) ⟨σ.r.map (V.ren ρ σ.h),inH ρ σ.h⟩ a w:=by
 have zGy:=zUy hs.heap hlt;have hget:∀ i∈ρ,∃ o,σ.h[i]?=some o:=λi hi=>⟨σ.h[i]'(hlt i hi),by simp[hlt i hi]⟩
 have hβ:∀ {j i:Nat},ρ[j]?=some i->Gz β ρ j={ β i with ver:=0 }:=λhi=>by simp only[Gz,hi]
 have hN:∀ b j,b<w.heap.size->C.N (Gz β ρ) (inH ρ σ.h) b j->C.N β σ.h b j:=λb k _ hb=>by
  rcases hb with hb|⟨j,o,ho,hw,hbk⟩
  ·exact .inl hb
  ·obtain⟨i,hi,rfl⟩:=wP ho;obtain⟨o',ho'⟩:=hget i (List.mem_of_getElem? hi);rw[gV ho',Ob.Zr]at hw;rw[gV ho',hβ hi]at hbk;exact .inr ⟨i,o',ho',hw,Ob.uI (Ob.vI ρ σ.h o') rfl rfl hbk⟩
 refine⟨⟨?_,?_,?_,?_,hs.heap.n0,hs.heap.frame,hs.heap.size,hs.heap.os,hs.heap.tape,hs.heap.output,?_⟩,hs.defers,by simpa using hs.size,?_⟩
 ·intro j o ho;obtain⟨i,hi,rfl⟩:=wP ho;obtain⟨o',ho'⟩:=hget i (List.mem_of_getElem? hi);rw[gV ho',hβ hi];have hob:=hs.heap.obj i o' ho';cases o' with
  |box e ls =>
   simp only[Ob.ren,Ob.Rel]at *;obtain⟨h1,h2,b,cs,h3,h4,h5⟩:=hob;exact⟨h1,h2,b,cs,h3,h4.zZ zGy hN,h5⟩
  |arr e t v rows wr =>
   simp only[Ob.ren,Ob.Rel]at *;obtain⟨h1,h2,h3,h4,h5,h6,h7⟩:=hob;refine⟨h1,h2,trivial,h4,h5,h6,?_⟩;rcases h7 with h7|⟨b,cur,css,k1,k2,k3,k4⟩
   ·exact .inl h7
   ·exact .inr ⟨b,cur,css,k1,k2,k3.mono λ_ _ h=>h.mono (Keep.refl _ w) hN,k4⟩
  |fm tab=>simp only[Ob.ren,Ob.Rel]at *;exact hob
  |dm kt vt es =>
   simp only[Ob.ren,Ob.Rel]at *;obtain⟨h1,h2,b,ms,h3,h4,h5⟩:=hob;exact⟨h1,h2,b,ms,h3,h4,h5.mono (Keep.refl _ w) hN⟩
  |stk e ei v rows top =>
   simp only[Ob.ren,Ob.Rel]at *;obtain⟨g1,g2,g3,g4,g5,b,cur,cs,cs2,bs,k1,k2,k3,k4,k5,k6,k7,k8,k9,k10,k11⟩:=hob;exact⟨g1,g2,trivial,g4,by rw[Vm];exact g5,b,cur,cs,cs2,bs,k1,k2,k3,k4,k5,k6,k7,k8,k9,k10.imp _ λls cs _ hl=>hl.zZ zGy hN,k11⟩
 ·intro j hj;simp only[inH,List.length_map]at hj;simp only[Gz,List.getElem?_eq_none hj]
 ·intro i j o1 o2 b h1 h2 hb1 hb2;obtain⟨i',hi,rfl⟩:=wP h1;obtain⟨j',hj,rfl⟩:=wP h2;obtain⟨o1',ho1⟩:=hget i' (List.mem_of_getElem? hi);obtain⟨o2',ho2⟩:=hget j' (List.mem_of_getElem? hj);rw[hβ hi,gV ho1]at hb1;rw[hβ hj,gV ho2]at hb2;have:=hs.heap.kC i' j' o1' o2' b ho1 ho2 (Ob.kG (Ob.vI ρ σ.h o1') rfl rfl hb1) (Ob.kG (Ob.vI ρ σ.h o2') rfl rfl hb2);subst this;exact Mj hnd hi hj
 ·intro j o b ho hb;obtain⟨i,hi,rfl⟩:=wP ho;obtain⟨o',ho'⟩:=hget i (List.mem_of_getElem? hi);rw[gV ho']at hb ⊢;exact hs.heap.Jp ho' (Ob.vI ρ σ.h o') (by rw[hβ hi]) (by rw[hβ hi]) (λh=>by rw[Ob.Zr]at h;exact h) hb
 ·intro j o hj;obtain⟨k1,k2⟩:=hs.heap.fixed j o hj;have hj2:=hfx j (bP.1 hj).1;refine⟨by simpa [inH]using(bP.1 hj2).1,λb hb=>?_⟩;rw[hβ hj2];exact k2 b hb
 ·intro i v hv;simp only[List.getElem?_map,Option.map_eq_some_iff]at hv;obtain⟨v0,hv0,rfl⟩:=hv;exact(hs.reg i v0 hv0).zZ zGy hN
theorem yBe{kf:Nat}(hkf:C.fix.length<=kf){ρ:List Nat}{σ σ':St}{a:Act}{b:Bool}(hfx:zDr 0 kf ρ=true)(h:gcL ρ σ=some (b,σ'))(hs:Sim C β σ a w):∃ β',Sim C β' σ' a w:=by
 unfold gcL at h;split at h
 ·rename_i hc;simp only[aH]at hc;simp only[aA,aF]at h;obtain⟨_,rfl⟩:=h;refine⟨_,hs.gc hc.1 (λi hi=>?_) λj hj=>?_⟩
  ·obtain⟨n,hn⟩:=List.getElem?_of_mem hi;exact cZ (tL hc.2 n i hn)
  ·have:=zQd hfx j (Nat.lt_of_lt_of_le hj hkf)
   rwa [Nat.zero_add]at this
 ·cases h
theorem yQd(_hT:bS C.P T){kf:Nat}(hkf:C.fix.length<=kf){c:Co}{σ σ':St}{a:Act}{b:Bool}(hfx:c.fx kf=true)(h:co1 T c σ=some (b,σ'))(hb:b=true)(hs:Sim C β σ a w):∃ β',Sim C β' σ' a w:=by
 cases c with
 |opn id j =>
  simp only[co1]at h;obtain⟨h',h1,rfl⟩:=zA h;subst hb;exact yLk h1 hs
 |cls id j =>
  simp only[co1]at h;obtain⟨h',h1,rfl⟩:=zA h;subst hb;exact yLn h1 hs
 |yLq id j =>
  simp only[co1]at h;obtain⟨h',h1,rfl⟩:=zA h;subst hb;exact yHv h1 hs
 |zGx id k =>
  simp only[co1]at h;obtain⟨h',h1,rfl⟩:=zA h;subst hb;exact yLp h1 hs
 |Vu id j =>
  simp only[co1]at h;obtain⟨h',h1,rfl⟩:=zA h;subst hb;exact yHw h1 hs
 |shut id =>
  simp only[co1]at h;obtain⟨h',h1,rfl⟩:=zA h;subst hb;exact yHx h1 hs
 |slR i =>
  simp only[co1]at h;split at h
  ·rename_i id ver hi;split at h
   ·rename_i e t v rows wr ho;simp only[aA,aF]at h;obtain⟨rfl,rfl⟩:=h;have hv:=aU hb;refine⟨β,hs.heap,hs.defers,by simpa using hs.size,λj u hu=>?_⟩;by_cases hij:i=j
    ·subst hij;rw[List.getElem?_set_self (bP.1 hi).1]at hu;simp only[aA]at hu;subst hu;have hr:=hs.reg i _ hi;have hob:=hs.heap.obj _ _ ho;simp only[Ob.Rel]at hob;obtain⟨_,_,hpv,_,_,hpl,_⟩:=hob;simp only[V.Rel,L.Rel]at hr ⊢;obtain⟨h1,h2,h3,c,h4,h5,h6⟩:=hr;exact⟨h1,h2,h3,c,h4,h5,λhvv=>by have:=h6 hvv;rwa [hpl]at this⟩
    ·rw[List.getElem?_set_ne hij]at hu;exact hs.reg j u hu
   ·cases h
  ·simp only[aA,aF]at h;obtain⟨_,rfl⟩:=h;exact⟨β,hs⟩
  ·cases h
 |ySt i j t =>
  simp only[co1]at h;split at h
  ·rename_i ls e te ti hi het;obtain⟨ts,_,_,hti,_,hsz,hpos,hby⟩:=jC het;split at h
   ·simp only[aA,aF]at h;obtain⟨_,rfl⟩:=h;exact⟨β,hs⟩
   split at h
   ·rename_i ls' hset;simp only[aA,aF]at h;obtain⟨_,rfl⟩:=h;obtain⟨β',h1,h2,h3⟩:=Jq (e:=e) (t:=te) hs hpos;refine⟨β',h2.heap,h2.defers,by simpa using h2.size,λk v hv=>?_⟩;by_cases hij:i=k
    ·subst hij;rw[List.getElem?_set_self (bP.1 hi).1]at hv;simp only[aA]at hv;subst hv;obtain⟨cs,e1,e2⟩:=h2.reg i _ hi;exact⟨cs,e1,aN.qC h3 hset e2⟩
    ·rw[List.getElem?_set_ne hij]at hv;exact h2.reg k v hv
   ·cases h
  ·cases h
 |ySu i j =>
  simp only[co1]at h;split at h
  ·rename_i ls hi;split at h
   ·rename_i l hl;split at h
    ·simp only[aA,aF]at h;obtain⟨_,rfl⟩:=h;exact⟨β,hs⟩
    split at h
    ·rename_i c l' h' hf;simp only[aA,aF]at h;obtain⟨rfl,rfl⟩:=h;subst hb;obtain⟨k1,k2,k3,k4,_⟩:=zNp hf hs.heap;refine⟨β,k1,hs.defers,by simpa using hs.size,λk u hu=>?_⟩;by_cases hij:i=k
     ·subst hij;rw[List.getElem?_set_self (bP.1 hi).1]at hu;simp only[aA]at hu;subst hu;obtain⟨cs,e1,e2⟩:=hs.reg i _ hi;exact⟨cs,e1,aN.zJo (λb j _ hb=>k2 b j hb) hl k3 e2⟩
     ·rw[List.getElem?_set_ne hij]at hu;exact(hs.reg k u hu).mono (Moves.refl β) (Keep.refl _ w) λb j _ hb=>k2 b j hb
    ·cases h
   ·cases h
  ·cases h
 |gc ρ=>exact yBe hkf hfx h hs
 |gcA k =>
  simp only[co1]at h;split at h
  ·rename_i hp;simp only[Co.fx]at hfx;exact yBe (Nat.le_trans hkf (cZ hfx)) hp h hs
  ·cases h
 |orn id j to off =>
  simp only[co1]at h;split at h
  ·rename_i eb ls hi;split at h
   ·rename_i l hl;split at h
    ·rename_i l' hf;simp only[aA,aF]at h;obtain⟨_,rfl⟩:=h;have hob:=hs.heap.obj _ _ hi;simp only[Ob.Rel]at hob;obtain⟨_,_,bb,cs,hb,hls,hheap⟩:=hob;have hnew:aN β w (C.N β σ.h) (ls.set j l') cs:=aN.setAt hl (λc hr=>yLu hf hr) hls;have:=hs.Tq (cs':=cs) hi hb hheap hnew;rw[setRow_self w bb cs.toArray eb (0,0) hheap]at this;exact⟨β,this⟩
    ·cases h
   ·cases h
  ·cases h
 |zUw i =>
  simp only[co1]at h;split at h
  ·rename_i l hi;split at h
   ·simp only[aA,aF]at h;obtain⟨_,rfl⟩:=h;exact⟨β,hs⟩
   split at h
   ·rename_i c l' h' hf;simp only[aA,aF]at h;obtain⟨rfl,rfl⟩:=h;subst hb;obtain⟨k1,k2,k3,k4,_⟩:=zNp hf hs.heap;refine⟨β,k1,hs.defers,by simpa using hs.size,λj u hu=>?_⟩;by_cases hij:i=j
    ·subst hij;rw[List.getElem?_set_self (bP.1 hi).1]at hu;simp only[aA]at hu;subst hu;exact k3 _ (hs.reg i _ hi)
    ·rw[List.getElem?_set_ne hij]at hu;exact(hs.reg j u hu).mono (Moves.refl β) (Keep.refl _ w) λb j _ hb=>k2 b j hb
   ·cases h
  ·cases h
 |ySs id j =>
  simp only[co1]at h;split at h
  ·rename_i eb ls hi;split at h
   ·rename_i l hl;split at h
    ·simp only[aA,aF]at h;obtain⟨_,rfl⟩:=h;exact⟨β,hs⟩
    split at h
    ·rename_i c l' h' hf;simp only[aA,aF]at h;obtain⟨rfl,rfl⟩:=h;subst hb;obtain⟨k1,k2,k3,k4,k5⟩:=zNp hf hs.heap;obtain⟨o',h1,h2⟩:=k5 id _ hi;have h2:=h2 eb ls rfl;subst h2;have hs':Sim C β ⟨σ.r,h'⟩ a w:=⟨k1,hs.defers,hs.size,λi v hv=>(hs.reg i v hv).mono (Moves.refl β) (Keep.refl _ w) λb j _ hb=>k2 b j hb⟩;have hob:=k1.obj _ _ h1;have zNj:=hs.heap.obj _ _ hi;simp only[Ob.Rel]at hob zNj;obtain⟨_,_,bb,cs,hb,hls,hheap⟩:=hob;obtain⟨_,_,bb0,cs0,hb0,yYv,zUz⟩:=zNj;rw[hb]at hb0;simp only[aA]at hb0;subst hb0;rw[hheap]at zUz;simp only[aA,Obj.cells.injEq,and_true]at zUz;have hcs:cs0=cs:=by have:=congrArg Array.toList zUz;simpa using this.symm
     subst hcs;have hnew:aN β w (C.N β h') (ls.set j l') cs0:=aN.zJo (λb j _ hb=>k2 b j hb) hl k3 yYv;have:=hs'.Tq (cs':=cs0) h1 hb hheap hnew;rw[setRow_self w bb cs0.toArray eb (0,0) hheap]at this;exact⟨β,this⟩
    ·cases h
   ·cases h
  ·cases h
 |keep m =>
  simp only[co1,aA,aF]at h;obtain⟨rfl,rfl⟩:=h;refine⟨β,hs.heap,hs.defers,by rw[Ee];exact hs.size,λi v hv=>?_⟩;rcases Qv m σ.r i v hv with rfl|h1
  ·trivial
  ·exact hs.reg i v h1
 |trunc n =>
  simp only[co1]at h;split at h
  ·rename_i hc;simp only[aH]at hc;simp only[aA,aF]at h;obtain⟨rfl,rfl⟩:=h;exact hs.trunc (Nat.le_trans hkf (cZ hfx)) (cZ hc.1) hc.2.1 hc.2.2
  ·cases h
 |Kv i t =>
  simp only[co1]at h;split at h
  ·rename_i e te ti hi het;obtain⟨ts,_,_,hti,_,hsz,hpos,hby⟩:=jC het;simp only[aA,aF]at h;obtain⟨rfl,rfl⟩:=h;obtain⟨β',h1,h2,h3⟩:=Jq (e:=e) (t:=te) hs hpos;refine⟨β',h2.heap,h2.defers,by simpa using h2.size,λj v hv=>?_⟩;by_cases hij:i=j
   ·subst hij;rw[List.getElem?_set_self (bP.1 hi).1]at hv;simp only[aA]at hv;subst hv;have:=hs.reg i _ hi;simp only[V.Rel,L.Rel,aQ,and_true]at this;rw[this];exact h3
   ·rw[List.getElem?_set_ne hij]at hv;exact h2.reg j v hv
  ·simp only[aA,aF]at h;obtain⟨_,rfl⟩:=h;exact⟨β,hs⟩
  ·cases h
 |ownB id j t =>
  simp only[co1]at h;split at h
  ·rename_i eb ls e te ti hi het;obtain⟨ts,_,_,hti,_,hsz,hpos,hby⟩:=jC het;split at h
   ·simp only[aA,aF]at h;obtain⟨_,rfl⟩:=h;exact⟨β,hs⟩
   split at h
   ·rename_i ls' hset;simp only[aA,aF]at h;obtain⟨rfl,rfl⟩:=h;obtain⟨β',h1,h2,h3⟩:=Jq (e:=e) (t:=te) hs hpos;have hi':(σ.h++[.arr e te 0 [] true])[id]?=some (.box eb ls):=by
     rw[jI (bP.1 hi).1];exact hi
    have hob:=h2.heap.obj _ _ hi';simp only[Ob.Rel]at hob;obtain⟨_,_,bb,cs,hb,hls,hheap⟩:=hob;have:=h2.Tq (cs':=cs) hi' hb hheap (aN.qC h3 hset hls);rw[setRow_self w bb cs.toArray eb (0,0) hheap]at this;exact⟨β',this⟩
   ·cases h
  ·cases h
 |ySq i t =>
  simp only[co1]at h;split at h
  ·rename_i hi;simp only[aA,aF]at h;obtain⟨rfl,rfl⟩:=h;refine⟨β,hs.heap,hs.defers,by simpa using hs.size,λj v hv=>?_⟩;by_cases hij:i=j
   ·subst hij;rw[List.getElem?_set_self (bP.1 hi).1]at hv;simp only[aA]at hv;subst hv;have:=hs.reg i _ hi;simp only[V.Rel,L.Rel,Ty.Rel,aQ,and_true]at this ⊢;exact⟨_,rfl,.inl ⟨this,rfl⟩⟩
   ·rw[List.getElem?_set_ne hij]at hv;exact hs.reg j v hv
  ·cases h
 |ySr id j t =>
  simp only[co1]at h;split at h
  ·rename_i eb ls hi;split at h
   ·rename_i ls' hset;simp only[aA,aF]at h;obtain⟨rfl,rfl⟩:=h;have hob:=hs.heap.obj _ _ hi;simp only[Ob.Rel]at hob;obtain⟨_,_,bb,cs,hb,hls,hheap⟩:=hob;have:=hs.Tq (cs':=cs) hi hb hheap (aN.qC (l:=.val (.slice t) []) (by simp only[L.Rel,Ty.Rel];exact⟨_,rfl,.inl ⟨rfl,rfl⟩⟩) hset hls);rw[setRow_self w bb cs.toArray eb (0,0) hheap]at this;exact⟨β,this⟩
   ·cases h
  ·cases h
 |ver id =>
  simp only[co1]at h;split at h
  ·rename_i e t v rows wr ho;split at h
   ·rename_i hc;simp only[aH]at hc;simp only[aA,aF]at h;obtain⟨rfl,rfl⟩:=h;exact⟨_,hs.dL ho hc.1 hc.2⟩
   ·cases h
  ·cases h
theorem He{ρ:Type}(hT:bS C.P T){kf:Nat}(hkf:C.fix.length<=kf){k:St->Option ρ}{r:ρ}:∀ {cs:List Co}{β:Nat->Pl}{σ:St}{a:Act},cK (Co.fx kf) cs=true->norm T cs σ k=some r->Sim C β σ a w->∃ β' σ',Sim C β' σ' a w/\k σ'=some r
 |[],β,σ,a,_,h,hs=>⟨β,σ,hs,h⟩
 |c::cs,β,σ,a,hfx,h,hs=>by
  simp only[cK,aH]at hfx;simp only[norm]at h;split at h
  ·rename_i b σ' hc;obtain⟨hb,hk⟩:=iV h;obtain⟨β',hs'⟩:=yQd hT hkf hfx.1 hc hb hs;exact He hT hkf hfx.2 hk hs'
  ·cases h
end
end Go.Dec
namespace Go.Dec
inductive LS where
 |v (t:Ty)
 |ptr (id off:Nat)
 |own (id:Nat)
 |clo (f:Nat) (caps:List (Nat × Nat))
 |any (n:Nat)
 |iG (id off:Nat)
 |sl (id:Nat)
 |dQ
 |iR (id off:Nat)
 |mp (id:Nat)
def ySv (caps:List (Nat×Nat)):List L:=caps.map fun p => .ptr p.1 p.2
def zTi:List (Nat×Nat)->List L->Bool | [],[]=>true | p :: r,.ptr a b :: m=>Nat.beq p.1 a&&(Nat.beq p.2 b&&zTi r m) | _,_=>false
theorem zVa:∀ {caps:List (Nat × Nat)}{m:List L},zTi caps m=true->m=ySv caps
 |[],[],_=>rfl
 |(i,o)::r,l::m,h=>by
  cases l<;>simp only[zTi,aH,Bool.false_eq_true]at h
  obtain⟨h1,h2,h3⟩:=h;obtain rfl:i=_:=aU h1;obtain rfl:o=_:=aU h2;rw[zVa h3];rfl
 |[],_::_,h=>by cases h
 |_::_,[],h=>by cases h
@[reducible] def LTs:List LS->Type->Type
 |[],A=>A
 |.v t::r,A=>t.den × LTs r A
 |.iG _ _::r,A=>Nat × LTs r A
 |.sl _::r,A=>Nat × (Nat × LTs r A)
 |.ptr _ _::r,A=>LTs r A
 |.own _::r,A=>LTs r A
 |.clo _ _::r,A=>LTs r A
 |.any _::r,A=>LTs r A
 |.dQ::r,A=>LTs r A
 |.iR _ _::r,A=>LTs r A
 |.mp _::r,A=>LTs r A
structure Slot where
 i:Nat
 agg:Bool
 ls:List LS
inductive OS where
 |box (e:TypeId) (ls:List LS)
 |row (e:TypeId) (t:Ty)
 |fm (tab:List (MK × Nat))
 |dm (kt vt:Ty)
 |stk (e ei:TypeId)
@[reducible] def RTs:List Slot->Type->Type
 |[],A=>A
 |s::r,A=>LTs s.ls (RTs r A)
@[reducible] def OTs:List OS->Type->Type
 |[],A=>A
 |.box _ ls::r,A=>LTs ls (OTs r A)
 |.row _ t::r,A=>List t.den × OTs r A
 |.fm _::r,A=>OTs r A
 |.dm kt vt::r,A=>List (kt.den × vt.den) × OTs r A
 |.stk _ _::r,A=>List (Int × Int × List Int × List Int × Unit) × OTs r A
structure Sh where
 n:Nat
 rs:List Slot
 os:List OS
@[reducible] def Sh.X (sh:Sh):Type:=RTs sh.rs (OTs sh.os Unit)
def fF {A:Type}:(ls:List LS)->LTs ls A->List L×A | [],x=>([],x) | .v t :: r,x=>(.val t x.1 :: (fF r x.2).1,(fF r x.2).2) | .ptr a b :: r,x=>(.ptr a b :: (fF (A:=A) r x).1,(fF (A:=A) r x).2) | .own a :: r,x=>(.own a 0 :: (fF (A:=A) r x).1,(fF (A:=A) r x).2) | .clo f caps :: r,x=>(.clo f (ySv caps) :: (fF (A:=A) r x).1,(fF (A:=A) r x).2) | .iG a o :: r,x=>(.iG a 0 x.1 o :: (fF r x.2).1,(fF r x.2).2) | .sl a :: r,x=>(.sl a 0 x.1 x.2.1 :: (fF r x.2.2).1,(fF r x.2.2).2) | .dQ :: r,x=>(.dQ :: (fF (A:=A) r x).1,(fF (A:=A) r x).2) | .iR a b :: r,x=>(.iR a b :: (fF (A:=A) r x).1,(fF (A:=A) r x).2) | .mp a :: r,x=>(.mp a :: (fF (A:=A) r x).1,(fF (A:=A) r x).2) | .any n :: r,x=>(.bad n :: (fF (A:=A) r x).1,(fF (A:=A) r x).2)
def zVb(agg:Bool)(ls:List L):V :=
 match agg,ls with
 |true,ls=>.agg ls
 |false,[l]=>.one l
 |_,_=>.dB
def Mk {A:Type}:(rs:List Slot)->List V->RTs rs A->List V×A | [],acc,x=>(acc,x) | s :: r,acc,x=>Mk r (acc.set s.i (zVb s.agg (fF s.ls x).1)) (fF s.ls x).2
def fK {A:Type}:(os:List OS)->OTs os A->List Ob×A | [],x=>([],x) | .box e ls :: r,x=>(.box e (fF ls x).1 :: (fK r (fF ls x).2).1,(fK r (fF ls x).2).2) | .row e t :: r,x=>(.arr e t 0 x.1 true :: (fK r x.2).1,(fK r x.2).2) | .fm tab :: r,x=>(.fm tab :: (fK (A:=A) r x).1,(fK (A:=A) r x).2) | .dm kt vt :: r,x=>(.dm kt vt x.1 :: (fK r x.2).1,(fK r x.2).2) | .stk e ei :: r,x=>(.stk e ei 0 x.1 none :: (fK r x.2).1,(fK r x.2).2)
def Sh.enc (sh:Sh) (x:sh.X):St :=let p:=Mk sh.rs (List.replicate sh.n .dB) x
 ⟨p.1,(fK sh.os p.2).1⟩
def dF{A:Type}:(ls:List LS)->List L->Option (A->LTs ls A)
 |[],[]=>some id
 |.v t::r,l::m =>
  match l.asT t,dF (A:=A) r m with
  |some x,some f=>some λa=>(x,f a)
  |_,_=>none
 |.ptr a b::r,.ptr a' b'::m=>match Nat.beq a a'&&Nat.beq b b' with
  |true=>dF (A:=A) r m
  |false=>none
 |.own a::r,.own a' u::m=>match Nat.beq a a'&&Nat.beq u 0 with
  |true=>dF (A:=A) r m
  |false=>none
 |.clo f caps::r,.clo f' m'::m=>match Nat.beq f f'&&zTi caps m' with
  |true=>dF (A:=A) r m
  |false=>none
 |.iG a o::r,.iG a' u i o'::m=>match Nat.beq a a'&&(Nat.beq u 0&&Nat.beq o o'),dF (A:=A) r m with
  |true,some f=>some λx=>(i,f x)
  |_,_=>none
 |.sl a::r,.sl a' u i n::m=>match Nat.beq a a'&&Nat.beq u 0,dF (A:=A) r m with
  |true,some f=>some λx=>(i,n,f x)
  |_,_=>none
 |.dQ::r,.dQ::m=>dF (A:=A) r m
 |.iR a b::r,.iR a' b'::m=>match Nat.beq a a'&&Nat.beq b b' with
  |true=>dF (A:=A) r m
  |false=>none
 |.mp a::r,.mp a'::m=>match Nat.beq a a' with
  |true=>dF (A:=A) r m
  |false=>none
 |.any n::r,l::m=>match Nat.beq n l.size with
  |true=>dF (A:=A) r m
  |false=>none
 |_,_=>none
def zJw(agg:Bool)(v:V):Option (List L):=
 match agg,v with
 |true,.agg ls=>some ls
 |false,.one l=>some [l]
 |_,_=>none
def zJx{A:Type}(σr:List V):(rs:List Slot)->Option (A->RTs rs A)
 |[]=>some id
 |s::r =>
  match zJw s.agg (σr.getD s.i .dB)with
  |some ls =>
   match dF (A:=RTs r A) s.ls ls,zJx σr r with
   |some f,some g=>some λa=>f (g a)
   |_,_=>none
  |none=>none
def fV{A:Type}:(os:List OS)->List Ob->Option (A->OTs os A)
 |[],[]=>some id
 |.box e ls::r,.box e' l::m =>
  match Nat.beq e e',dF (A:=OTs r A) ls l,fV (A:=A) r m with
  |true,some f,some g=>some λa=>f (g a)
  |_,_,_=>none
 |.row e t::r,.arr e' t' ver rows wr::m =>
  match Nat.beq e e'&&(Nat.beq ver 0&&wr),fV (A:=A) r m with
  |true,some g=>if h:t'=t then some λa=>(h ▸ rows,g a)else none
  |_,_=>none
 |.fm tab::r,.fm ySw::m=>if tab=ySw then fV (A:=A) r m else none
 |.dm kt vt::r,.dm kt' vt' es::m =>
  match fV (A:=A) r m with
  |some g=>if h:kt'=kt/\vt'=vt then some λa=>(h.1 ▸ h.2 ▸ es,g a)else none
  |none=>none
 |.stk e ei::r,.stk e' ei' ver rows none::m =>
  match Nat.beq e e'&&(Nat.beq ei ei'&&Nat.beq ver 0),fV (A:=A) r m with
  |true,some g=>some λa=>(rows,g a)
  |_,_=>none
 |_,_=>none
def Sh.dec(sh:Sh)(σ:St):Option sh.X :=
 match Nat.beq σ.r.length sh.n,zJx (A:=OTs sh.os Unit) σ.r sh.rs,fV (A:=Unit) sh.os σ.h with
 |true,some f,some g=>some (f (g ()))
 |_,_,_=>none
section
variable {β:Nat->Pl}{w:World}{N:Nat->Nat->Prop}{A:Type}
theorem kI:∀ {ls:List LS}{l:List L}{f:A->LTs ls A}(a:A) {cs:List Value},dF ls l=some f->aN β w N l cs->aN β w N (fF ls (f a)).1 cs/\(fF ls (f a)).2=a
 |[],[],f,a,cs,h,hr=>by
  simp only[dF,aA]at h;subst h;exact⟨hr,rfl⟩
 |.v t::r,l::m,f,a,cs,h,hr=>by
  simp only[dF]at h;split at h
  ·rename_i x g h1 h2;simp only[aA]at h;subst h;obtain⟨c1,c2,e,r1,r2⟩:=hr;obtain⟨g1,g2⟩:=kI a h2 r2;exact⟨⟨c1,c2,e,by simpa only[L.Rel]using L.zNc h1 r1,g1⟩,g2⟩
  ·cases h
 |.ptr i o::r,l::m,f,a,cs,h,hr=>by
  cases l<;>simp only[dF,reduceCtorEq]at h
  split at h
  ·rename_i hb;simp only[aH]at hb;have e1:=aU hb.1;have e2:=aU hb.2;subst e1 e2;obtain⟨c1,c2,e,r1,r2⟩:=hr;obtain⟨g1,g2⟩:=kI a h r2;exact⟨⟨c1,c2,e,r1,g1⟩,g2⟩
  ·cases h
 |.own i::r,l::m,f,a,cs,h,hr=>by
  cases l<;>simp only[dF,reduceCtorEq]at h
  split at h
  ·rename_i hb;simp only[aH]at hb;have e1:=aU hb.1;have e2:=aU hb.2;subst e1 e2;obtain⟨c1,c2,e,r1,r2⟩:=hr;obtain⟨g1,g2⟩:=kI a h r2;exact⟨⟨c1,c2,e,r1,g1⟩,g2⟩
  ·cases h
 |.clo i caps::r,l::m,f,a,cs,h,hr=>by
  cases l<;>simp only[dF,reduceCtorEq]at h
  split at h
  ·rename_i hb;simp only[aH]at hb;have e1:=aU hb.1;have e2:=zVa hb.2;subst e1 e2;obtain⟨c1,c2,e,r1,r2⟩:=hr;obtain⟨g1,g2⟩:=kI a h r2;exact⟨⟨c1,c2,e,r1,g1⟩,g2⟩
  ·cases h
 |.iG i o::r,l::m,f,a,cs,h,hr=>by
  cases l<;>simp only[dF,reduceCtorEq]at h
  split at h
  ·rename_i f1 hb h2;simp only[aA]at h;subst h;simp only[aH]at hb;have e1:=aU hb.1;have e2:=aU hb.2.1;have e3:=aU hb.2.2;subst e1 e2 e3;obtain⟨c1,c2,e,r1,r2⟩:=hr;obtain⟨g1,g2⟩:=kI a h2 r2;exact⟨⟨c1,c2,e,r1,g1⟩,g2⟩
  ·cases h
 |.sl i::r,l::m,f,a,cs,h,hr=>by
  cases l<;>simp only[dF,reduceCtorEq]at h
  split at h
  ·rename_i f1 hb h2;simp only[aA]at h;subst h;simp only[aH]at hb;have e1:=aU hb.1;have e2:=aU hb.2;subst e1 e2;obtain⟨c1,c2,e,r1,r2⟩:=hr;obtain⟨g1,g2⟩:=kI a h2 r2;exact⟨⟨c1,c2,e,r1,g1⟩,g2⟩
  ·cases h
 |.iR i o::r,l::m,f,a,cs,h,hr=>by
  cases l<;>simp only[dF,reduceCtorEq]at h
  split at h
  ·rename_i hb;simp only[aH]at hb;have e1:=aU hb.1;have e2:=aU hb.2;subst e1 e2;obtain⟨c1,c2,e,r1,r2⟩:=hr;obtain⟨g1,g2⟩:=kI a h r2;exact⟨⟨c1,c2,e,r1,g1⟩,g2⟩
  ·cases h
 |.dQ::r,l::m,f,a,cs,h,hr=>by
  cases l<;>simp only[dF,reduceCtorEq]at h
  obtain⟨c1,c2,e,r1,r2⟩:=hr;obtain⟨g1,g2⟩:=kI a h r2;exact⟨⟨c1,c2,e,r1,g1⟩,g2⟩
 |.mp i::r,l::m,f,a,cs,h,hr=>by
  cases l<;>simp only[dF,reduceCtorEq]at h
  split at h
  ·rename_i hb;have e1:=aU hb;subst e1;obtain⟨c1,c2,e,r1,r2⟩:=hr;obtain⟨g1,g2⟩:=kI a h r2;exact⟨⟨c1,c2,e,r1,g1⟩,g2⟩
  ·cases h
 |.any n::r,l::m,f,a,cs,h,hr=>by
  simp only[dF]at h;split at h
  ·rename_i hb;have e1:=aU hb;subst e1;obtain⟨c1,c2,e,r1,r2⟩:=hr;obtain⟨g1,g2⟩:=kI a h r2;exact⟨⟨c1,c2,e,by simp only[L.Rel];exact⟨r1.length,λc hc=>r1.one c hc⟩,g1⟩,g2⟩
  ·cases h
 |[],_::_,_,_,_,h,_=>by simp[dF]at h
 |.v _::_,[],_,_,_,h,_=>by simp[dF]at h
 |.ptr .. :: _,[],_,_,_,h,_=>by simp[dF]at h
 |.own .. :: _,[],_,_,_,h,_=>by simp[dF]at h
 |.clo .. :: _,[],_,_,_,h,_=>by simp[dF]at h
 |.iG .. :: _,[],_,_,_,h,_=>by simp[dF]at h
 |.sl .. :: _,[],_,_,_,h,_=>by simp[dF]at h
 |.dQ::_,[],_,_,_,h,_=>by simp[dF]at h
 |.iR .. :: _,[],_,_,_,h,_=>by simp[dF]at h
 |.mp .. :: _,[],_,_,_,h,_=>by simp[dF]at h
 |.any .. :: _,[],_,_,_,h,_=>by simp[dF]at h
theorem nW:∀ {ls:List LS}{l:List L}{f:A->LTs ls A}(a:A),dF ls l=some f->(fF ls (f a)).1.length=l.length
 |[],[],f,a,h=>by
  simp only[dF,aA]at h;subst h;rfl
 |.v t::r,l::m,f,a,h=>by
  simp only[dF]at h;split at h
  ·rename_i x g h1 h2;simp only[aA]at h;subst h;simp only[fF,List.length_cons,nW a h2]
  ·cases h
 |.ptr i o::r,l::m,f,a,h=>by
  cases l<;>simp only[dF,reduceCtorEq]at h
  split at h
  ·simp only[fF,List.length_cons,nW a h]
  ·cases h
 |.mp i::r,l::m,f,a,h=>by
  cases l<;>simp only[dF,reduceCtorEq]at h
  split at h
  ·simp only[fF,List.length_cons,nW a h]
  ·cases h
 |.own i::r,l::m,f,a,h=>by
  cases l<;>simp only[dF,reduceCtorEq]at h
  split at h
  ·simp only[fF,List.length_cons,nW a h]
  ·cases h
 |.clo i caps::r,l::m,f,a,h=>by
  cases l<;>simp only[dF,reduceCtorEq]at h
  split at h
  ·simp only[fF,List.length_cons,nW a h]
  ·cases h
 |.iG i o::r,l::m,f,a,h=>by
  cases l<;>simp only[dF,reduceCtorEq]at h
  split at h
  ·rename_i f1 hb h2;simp only[aA]at h;subst h;simp only[fF,List.length_cons,nW a h2]
  ·cases h
 |.sl i::r,l::m,f,a,h=>by
  cases l<;>simp only[dF,reduceCtorEq]at h
  split at h
  ·rename_i f1 hb h2;simp only[aA]at h;subst h;simp only[fF,List.length_cons,nW a h2]
  ·cases h
 |.iR i o::r,l::m,f,a,h=>by
  cases l<;>simp only[dF,reduceCtorEq]at h
  split at h
  ·simp only[fF,List.length_cons,nW a h]
  ·cases h
 |.dQ::r,l::m,f,a,h=>by
  cases l<;>simp only[dF,reduceCtorEq]at h
  have:=nW a h;simp only[fF,List.length_cons,this]
 |.any n::r,l::m,f,a,h=>by
  simp only[dF]at h;split at h
  ·simp only[fF,List.length_cons,nW a h]
  ·cases h
 |[],_::_,_,_,h=>by simp[dF]at h
 |.v _::_,[],_,_,h=>by simp[dF]at h
 |.ptr .. :: _,[],_,_,h=>by simp[dF]at h
 |.own .. :: _,[],_,_,h=>by simp[dF]at h
 |.clo .. :: _,[],_,_,h=>by simp[dF]at h
 |.iG .. :: _,[],_,_,h=>by simp[dF]at h
 |.sl .. :: _,[],_,_,h=>by simp[dF]at h
 |.dQ::_,[],_,_,h=>by simp[dF]at h
 |.iR .. :: _,[],_,_,h=>by simp[dF]at h
 |.mp .. :: _,[],_,_,h=>by simp[dF]at h
 |.any .. :: _,[],_,_,h=>by simp[dF]at h
theorem yDw{agg:Bool}{v:V}{ls ls':List L}{x:Value}(hs:zJw agg v=some ls)(hr:v.Rel β w N x)(hlen:ls'.length=ls.length)(h:∀ cs,aN β w N ls cs->aN β w N ls' cs):(zVb agg ls').Rel β w N x:=by
 unfold zJw at hs;split at hs
 ·simp only[aA]at hs;subst hs;obtain⟨cs,e,hr⟩:=hr;exact⟨cs,e,h cs hr⟩
 ·rename_i l;simp only[aA]at hs;subst hs;match ls',hlen with
  |[l'],_ =>
   obtain⟨c1,c2,e,h1,h2⟩:=h [x] ⟨[x],[],rfl,hr,rfl⟩;simp only[aN]at h2;subst h2;rw[List.append_nil]at e;subst e;exact h1
 ·cases hs
def Nk (β:Nat->Pl) (w:World) (N:Nat->Nat->Prop) (r:List V) (tmps:Array Value):Prop := ∀ (i:Nat) (v:V),r[i]? = some v->v.Rel β w N (tmps.getD i undef)
theorem Nk.set{r:List V}{tmps:Array Value}(h:Nk β w N r tmps){i:Nat}{v:V}(hv:v.Rel β w N (tmps.getD i undef)):Nk β w N (r.set i v) tmps:=by
 intro j u hu;by_cases hij:i=j
 ·subst hij;rcases jZ i r.length with hi|hi
  ·rw[List.getElem?_set_self hi]at hu;simp only[aA]at hu;subst hu;exact hv
  ·rw[List.getElem?_eq_none (by simpa using hi)]at hu;cases hu
 ·rw[List.getElem?_set_ne hij]at hu;exact h j u hu
theorem zQe{σr:List V}{tmps:Array Value}(hr:Nk β w N σr tmps):∀ {rs:List Slot}{f:A->RTs rs A}(a:A) {acc:List V},zJx σr rs=some f->Nk β w N acc tmps ->
 Nk β w N (Mk rs acc (f a)).1 tmps/\(Mk rs acc (f a)).2=a/\(Mk rs acc (f a)).1.length=acc.length
 |[],f,a,acc,h,ha=>by
  simp only[zJx,aA]at h;subst h;exact⟨ha,rfl,rfl⟩
 |s::r,f,a,acc,h,ha=>by
  simp only[zJx]at h;split at h
  ·rename_i ls hls;split at h
   ·rename_i f1 g h1 h2;simp only[aA]at h;subst h;have hv:(σr.getD s.i .dB).Rel β w N (tmps.getD s.i undef):=by
     rw[List.getD_eq_getElem?_getD];cases hg:σr[s.i]? with
     |none=>trivial
     |some v=>exact hr s.i v hg
    have hmk:=yDw hls hv (nW (g a) h1) λcs hc=>(kI (g a) h1 hc).1
    have e2:(fF s.ls (f1 (g a))).2=g a:=by
     have hp:∃ cs,aN β w N ls cs:=by
      unfold zJw at hls;split at hls
      ·rename_i l heq;simp only[aA]at hls;subst hls;rw[heq]at hv;obtain⟨cs,_,hc⟩:=hv;exact⟨cs,hc⟩
      ·rename_i l heq;simp only[aA]at hls;subst hls;rw[heq]at hv;exact⟨[_],[_],[],rfl,hv,rfl⟩
      ·cases hls
     obtain⟨cs,hc⟩:=hp;exact(kI (g a) h1 hc).2
    simp only[Mk];rw[e2];obtain⟨k1,k2,k3⟩:=zQe hr a (acc:=acc.set s.i (zVb s.agg (fF s.ls (f1 (g a))).1)) h2 (ha.set hmk);exact⟨k1,k2,by rw[k3,List.length_set]⟩
   ·cases h
  ·cases h
def Jv(β:Nat->Pl)(w:World)(N:Nat->Nat->Prop):Nat->List Ob->List Ob->Prop
 |_,[],[]=>True
 |i,o::r,o'::r'=>(o.Rel β w N (β i)->o'.Rel β w N (β i))/\(o'.wr=o.wr/\o'.oM=o.oM)/\Jv β w N (i+1) r r'
 |_,_,_=>False
theorem Df{w:World}:∀ {os:List OS}{h:List Ob}{f:A->OTs os A}(a:A) (i:Nat),fV os h=some f->(∀ (j:Nat) (o:Ob),h[j]?=some o->o.Rel β w N (β (i+j)))->Jv β w N i h (fK os (f a)).1
 |[],[],f,a,i,h,_=>by
  simp only[fV,aA]at h;subst h;trivial
 |.box e ls::r,.box e' l::m,f,a,i,h,hr=>by
  simp only[fV]at h;split at h
  ·rename_i f1 g hb h1 h2;simp only[aA]at h;subst h;have:=aU hb;subst this;have h0:=hr 0 _ rfl;simp only[Ob.Rel,Nat.add_zero]at h0;obtain⟨_,_,b0,cs0,_,hc0,_⟩:=h0;have e2:=(kI (g a) h1 hc0).2;simp only[fK];refine⟨?_,⟨rfl,rfl⟩,?_⟩
   ·simp only[Ob.Rel];rintro⟨k1,k2,b,cs,k3,k4,k5⟩;exact⟨k1,k2,b,cs,k3,(kI (g a) h1 k4).1,k5⟩
   ·rw[e2];exact Df a (i+1) h2 λj o ho=>by
     have:=hr (j+1) o (by simpa using ho)
     rwa [show i+(j+1)=i+1+j by omega]at this
  ·cases h
 |.row e t::r,.arr e' t' ver rows wr::m,f,a,i,h,hr=>by
  simp only[fV]at h;split at h
  ·rename_i g hb h2;split at h
   ·rename_i ht;subst ht;simp only[aA]at h;subst h;simp only[aH]at hb;have e1:=aU hb.1;have e2:=aU hb.2.1;have e3:=hb.2.2;subst e1 e2 e3;simp only[fK];refine⟨λh=>h,⟨rfl,rfl⟩,?_⟩;exact Df a (i+1) h2 λj o ho=>by
     have:=hr (j+1) o (by simpa using ho)
     rwa [show i+(j+1)=i+1+j by omega]at this
   ·cases h
  ·cases h
 |[],_::_,_,_,_,h,_=>by simp[fV]at h
 |.box .. :: _,[],_,_,_,h,_=>by simp[fV]at h
 |.row .. :: _,[],_,_,_,h,_=>by simp[fV]at h
 |.box .. :: _,.arr .. :: _,_,_,_,h,_=>by simp[fV]at h
 |.row .. :: _,.box .. :: _,_,_,_,h,_=>by simp[fV]at h
 |.fm tab::r,.fm ySw::m,f,a,i,h,hr=>by
  simp only[fV]at h;split at h
  ·rename_i ht;subst ht;simp only[fK];refine⟨λh=>h,⟨rfl,rfl⟩,?_⟩;exact Df a (i+1) h λj o ho=>by
    have:=hr (j+1) o (by simpa using ho)
    rwa [show i+(j+1)=i+1+j by omega]at this
  ·cases h
 |.dm kt vt::r,.dm kt' vt' es::m,f,a,i,h,hr=>by
  simp only[fV]at h;split at h
  ·rename_i g h2;split at h
   ·rename_i ht;obtain⟨rfl,rfl⟩:=ht;simp only[aA]at h;subst h;simp only[fK];refine⟨λh=>h,⟨rfl,rfl⟩,?_⟩;exact Df a (i+1) h2 λj o ho=>by
     have:=hr (j+1) o (by simpa using ho)
     rwa [show i+(j+1)=i+1+j by omega]at this
   ·cases h
  ·cases h
 |.stk e ei::r,.stk e' ei' ver rows none::m,f,a,i,h,hr=>by
  simp only[fV]at h;split at h
  ·rename_i g hb h2;simp only[aA]at h;subst h;simp only[aH]at hb;have e1:=aU hb.1;have e2:=aU hb.2.1;have e3:=aU hb.2.2;subst e1 e2 e3;simp only[fK];refine⟨λh=>h,⟨rfl,rfl⟩,?_⟩;exact Df a (i+1) h2 λj o ho=>by
    have:=hr (j+1) o (by simpa using ho)
    rwa [show i+(j+1)=i+1+j by omega]at this
  ·cases h
 |.stk .. :: _,.stk _ _ _ _ (some _)::_,_,_,_,h,_=>by simp[fV]at h
 |.stk .. :: _,[],_,_,_,h,_=>by simp[fV]at h
 |.stk .. :: _,.box .. :: _,_,_,_,h,_=>by simp[fV]at h
 |.stk .. :: _,.arr .. :: _,_,_,_,h,_=>by simp[fV]at h
 |.stk .. :: _,.fm .. :: _,_,_,_,h,_=>by simp[fV]at h
 |.stk .. :: _,.dm .. :: _,_,_,_,h,_=>by simp[fV]at h
 |.box .. :: _,.stk .. :: _,_,_,_,h,_=>by simp[fV]at h
 |.row .. :: _,.stk .. :: _,_,_,_,h,_=>by simp[fV]at h
 |.fm .. :: _,.stk .. :: _,_,_,_,h,_=>by simp[fV]at h
 |.dm .. :: _,.stk .. :: _,_,_,_,h,_=>by simp[fV]at h
 |.fm .. :: _,[],_,_,_,h,_=>by simp[fV]at h
 |.dm .. :: _,[],_,_,_,h,_=>by simp[fV]at h
 |.dm .. :: _,.box .. :: _,_,_,_,h,_=>by simp[fV]at h
 |.dm .. :: _,.arr .. :: _,_,_,_,h,_=>by simp[fV]at h
 |.dm .. :: _,.fm .. :: _,_,_,_,h,_=>by simp[fV]at h
 |.fm .. :: _,.dm .. :: _,_,_,_,h,_=>by simp[fV]at h
 |.box .. :: _,.dm .. :: _,_,_,_,h,_=>by simp[fV]at h
 |.row .. :: _,.dm .. :: _,_,_,_,h,_=>by simp[fV]at h
 |.fm .. :: _,.box .. :: _,_,_,_,h,_=>by simp[fV]at h
 |.fm .. :: _,.arr .. :: _,_,_,_,h,_=>by simp[fV]at h
 |.box .. :: _,.fm .. :: _,_,_,_,h,_=>by simp[fV]at h
 |.row .. :: _,.fm .. :: _,_,_,_,h,_=>by simp[fV]at h
theorem Jv.length{w:World}:∀ {i:Nat}{h h':List Ob},Jv β w N i h h'->h'.length=h.length
 |_,[],[],_=>rfl
 |_,_::_,_::_,h=>by simp[Jv.length h.2.2]
 |_,[],_::_,h=>h.elim
 |_,_::_,[],h=>h.elim
theorem Jv.get{w:World}:∀ {i:Nat}{h h':List Ob},Jv β w N i h h'->∀ (j:Nat) (o':Ob),h'[j]?=some o'->∃ o,h[j]?=some o/\(o'.wr=o.wr/\o'.oM=o.oM)/\(o.Rel β w N (β (i+j))->o'.Rel β w N (β (i+j)))
 |_,[],[],_,j,_,h=>by simp at h
 |i,o::r,o2::r2,h,j,o',hj=>by
  cases j with
  |zero =>
   simp only[List.getElem?_cons_zero,aA]at hj;subst hj;exact⟨o,rfl,h.2.1,h.1⟩
  |succ j =>
   obtain⟨u,h1,h2,h3⟩:=Jv.get h.2.2 j o' (by simpa using hj);rw[show i+1+j=i+(j+1)by omega]at h3;exact⟨u,by simpa using h1,h2,h3⟩
 |_,[],_::_,h,_,_,_=>h.elim
 |_,_::_,[],h,_,_,_=>h.elim
theorem zDs{C:Ctx}{sh:Sh}{σ:St}{a:Act}{w:World}{x:sh.X}(h:sh.dec σ=some x)(hs:Sim C β σ a w):Sim C β (sh.enc x) a w:=by
 unfold Sh.dec at h;split at h
 ·rename_i f g hn hf hg;simp only[aA]at h;subst h;have hn:=aU hn;obtain⟨k1,k2,k3⟩:=zQe (A:=OTs sh.os Unit) (tmps:=a.tmps) hs.reg (g ()) (acc:=List.replicate sh.n .dB) hf (λi v hv=>by
   rw[List.getElem?_replicate]at hv;split at hv
   ·simp only[aA]at hv;subst hv;trivial
   ·cases hv)
  have hob:=Df (A:=Unit) (β:=β) (N:=C.N β σ.h) (w:=w) () 0 hg (λj o ho=>by rw[Nat.zero_add];exact hs.heap.obj j o ho);have eh:(sh.enc (f (g ()))).h=(fK sh.os (g ())).1:=by simp only[Sh.enc];rw[k2]
  have er:(sh.enc (f (g ()))).r=(Mk sh.rs (List.replicate sh.n .dB) (f (g ()))).1:=rfl;have hNN:∀ b j,C.N β (sh.enc (f (g ()))).h b j->C.N β σ.h b j:=λb j hb=>by
   rcases hb with hb|⟨id,o,ho,hw,hbk⟩
   ·exact .inl hb
   ·rw[eh]at ho;obtain⟨o0,h1,h2,_⟩:=hob.get id o ho;exact .inr ⟨id,o0,h1,by rw[<- h2.1];exact hw,Ob.uI h2.2 rfl rfl hbk⟩
  refine⟨⟨?_,?_,?_,?_,hs.heap.n0,hs.heap.frame,hs.heap.size,hs.heap.os,hs.heap.tape,hs.heap.output,λj o hj=>by
   obtain⟨k1,k2⟩:=hs.heap.fixed j o hj;exact⟨by rw[eh,hob.length];exact k1,k2⟩⟩,hs.defers,?_,?_⟩
  ·intro id o ho;rw[eh]at ho;obtain⟨o0,h1,_,h3⟩:=hob.get id o ho;rw[Nat.zero_add]at h3;exact(h3 (hs.heap.obj id o0 h1)).mono (Moves.refl β) (Keep.refl _ w) (λb j _ hb=>hNN b j hb) λ_ _=>rfl
  ·intro id hid;rw[eh,hob.length]at hid;exact hs.heap.dead id hid
  ·intro i j o o' b hi hj hbi hbj;rw[eh]at hi hj;obtain⟨o1,h1,h3,_⟩:=hob.get i o hi;obtain⟨o2,h2,h4,_⟩:=hob.get j o' hj;exact hs.heap.kC i j o1 o2 b h1 h2 (Ob.kG h3.2 rfl rfl hbi) (Ob.kG h4.2 rfl rfl hbj)
  ·intro id o b ho hb;rw[eh]at ho;obtain⟨o1,h1,h3,_⟩:=hob.get id o ho;exact hs.heap.Jp h1 h3.2 rfl rfl (λh=>by rw[<- h3.1];exact h) hb
  ·rw[er,k3,List.length_replicate,<- hn,hs.size]
  ·intro i v hv;exact(k1 i v (by rw[er]at hv;exact hv)).mono (Moves.refl β) (Keep.refl _ w) λb j _ hb=>hNN b j hb
 ·cases h
end
end Go.Dec
