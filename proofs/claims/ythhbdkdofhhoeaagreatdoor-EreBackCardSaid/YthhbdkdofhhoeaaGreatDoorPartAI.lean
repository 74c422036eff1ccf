/- Part of a proof over this seat: a library of my own, and what it says of this seat. No statement is proved here. -/
import Derived.Test.YthhbdkdofhhoeaaGreatDoorPartAH
namespace Go.Dec
inductive Co where
 | keep (mask:List Bool)
 | trunc (n:Nat)
 | Rc (i:Nat) (t:TypeId)
 | ownB (id:Nat) (j:Nat) (t:TypeId)
 | yEf (i:Nat) (t:Ty)
 | yEg (id:Nat) (j:Nat) (t:Ty)
 | ver (id:Nat)
 | slR (i:Nat)
 | yEh (i:Nat)
 | yEi (id:Nat) (j:Nat)
 | yEj (i:Nat) (j:Nat) (t:TypeId)
 | yEk (i:Nat) (j:Nat)
 | gc (ρ:List Nat)
 | gcA (k:Nat)
 | orn (id:Nat) (j:Nat) (to off:Nat)
 | opn (id:Nat) (j:Nat)
 | cls (id:Nat) (j:Nat)
 | zYd (id:Nat) (j:Nat)
 | Yd (id:Nat) (k:Nat)
 | Nj (id:Nat) (j:Nat)
 | shut (id:Nat)
def tY:List Bool->List V->List V | true :: m,v :: r=>v :: tY m r | false :: m,_ :: r => .bS :: tY m r | [],_ :: r => .bS :: tY [] r | _,[]=>[]
mutual
def L.isB (n:Nat):L->Bool | .ptr id _=>Nat.blt id n | .gH id _=>Nat.blt id n | .mG id _ _ _ _=>Nat.blt id n | .fO id _ _ _=>Nat.blt id n | .sl id _ _ _=>Nat.blt id n | .own id _=>Nat.blt id n | .mp id=>Nat.blt id n | .clo _ caps=>L.Jw n caps | _=>true
def L.Jw (n:Nat):List L->Bool | []=>true | l :: ls=>L.isB n l&&L.Jw n ls
end
def Az (n:Nat):List (Sum L (List L))->Bool | []=>true | .inl l :: r=>l.isB n&&Az n r | .inr ls :: r=>L.Jw n ls&&Az n r
def V.isB (n:Nat):V->Bool | .one l=>l.isB n | .agg ls=>L.Jw n ls | .tup vs=>Az n vs | .bS=>true
def Ob.isB (n:Nat):Ob->Bool | .box _ ls=>L.Jw n ls | .arr ..=>true | .fm _=>true | .dm ..=>true | .stk _ _ _ _ none=>true | .stk _ _ _ _ (some ls)=>L.Jw n ls
mutual
def L.rZ (id v:Nat):L->Bool | .fO i u _ _=>!Nat.beq i id||Nat.beq u v | .sl i u _ _=>!Nat.beq i id||Nat.beq u v | .own i u=>!Nat.beq i id||Nat.beq u v | .clo _ caps=>L.wW id v caps | _=>true
def L.wW (id v:Nat):List L->Bool | []=>true | l :: ls=>L.rZ id v l&&L.wW id v ls
end
mutual
def L.cB (id:Nat):L->L
 | .fO i u a b=>if Nat.beq i id then .fO i 0 a b else .fO i u a b
 | .sl i u a b=>if Nat.beq i id then .sl i 0 a b else .sl i u a b
 | .own i u=>if Nat.beq i id then .own i 0 else .own i u
 | .clo f caps=>.clo f (L.uO id caps)
 | l=>l
def L.uO (id:Nat):List L->List L | []=>[] | l :: ls=>L.cB id l :: L.uO id ls
end
def Le (id v:Nat):List (Sum L (List L))->Bool | []=>true | .inl l :: r=>l.rZ id v&&Le id v r | .inr ls :: r=>L.wW id v ls&&Le id v r
def V.rZ (id v:Nat):V->Bool | .one l=>l.rZ id v | .agg ls=>L.wW id v ls | .tup vs=>Le id v vs | .bS=>true
def Nk (id:Nat):List (Sum L (List L))->List (Sum L (List L)) | []=>[] | .inl l :: r => .inl (l.cB id) :: Nk id r | .inr ls :: r => .inr (L.uO id ls) :: Nk id r
def V.cB (id:Nat):V->V | .one l => .one (l.cB id) | .agg ls => .agg (L.uO id ls) | .tup vs => .tup (Nk id vs) | .bS => .bS
def Ob.rZ (id v:Nat):Ob->Bool | .box _ ls=>L.wW id v ls | .arr ..=>true | .fm _=>true | .dm ..=>true | .stk _ _ _ _ none=>true | .stk _ _ _ _ (some ls)=>L.wW id v ls
def Ob.cB (id:Nat):Ob->Ob | .box e ls => .box e (L.uO id ls) | .stk e ei v rows top => .stk e ei v rows (top.map (L.uO id)) | o=>o
def nX (ls:List L) (j:Nat) (l:L):Option (List L) :=
 match ls[j]? with
 | some .dD=>some (ls.set j l)
 | _=>none
def zYe (to off:Nat):L->Option L
 | .lG=>some (.gH to off)
 | .ptr a b=>match Nat.beq a to&&Nat.beq b off with
  | true=>some (.gH to off)
  | false=>none
 | .gH a b=>match Nat.beq a to&&Nat.beq b off with
  | true=>some (.gH to off)
  | false=>none
 | _=>none
def Uy:Nat->Nat->List Nat->Bool | _,0,_=>true | i,k+1,a :: r=>Nat.beq a i&&Uy (i+1) k r | _,_+1,[]=>false
theorem zFe:∀ {i k:Nat}{ρ:List Nat},Uy i k ρ=true->∀ j,j<k->ρ[j]?=some (i+j)
 | _,0,_,_,j,hj=>by omega
 | i,k+1,a::r,h,j,hj=>by
  simp only [Uy,aD] at h;have:=aM h.1;subst this;cases j with
  | zero=>rfl
  | succ j =>
   have:=zFe h.2 j (by omega);rw [show a+1+j=a+(j+1) by omega] at this;simpa using this
 | _,_+1,[],h,_,_=>by cases h
def frz (h:List Ob) (l:L):Option (Bool × L × List Ob) :=
 match l with
 | .own id ver =>
  match h[id]? with
  | some (.arr e t v rows _)=>some (Nat.beq v ver,.val (.slice t) rows,h.set id (.arr e t v rows false))
  | _=>none
 | .sl id ver off len =>
  match h[id]? with
  | some (.arr e t v rows _)=>some (Nat.beq v ver&&Nat.ble (off+len) rows.length,.val (.slice t) ((rows.drop off).take len),h.set id (.arr e t v rows false))
  | _=>none
 | _=>none
def gcL (ρ:List Nat) (σ:St):Option (Bool × St) :=
 if nodupB ρ&&bP (fun i=>Nat.blt i σ.h.length) ρ then some (true,⟨σ.r.map (V.ren ρ σ.h),inH ρ σ.h⟩) else none
def upto:Nat->Nat->List Nat | _,0=>[] | i,k+1=>i :: upto (i+1) k
def gcR (k:Nat) (σ:St):List Nat:=Us σ.h (σ.h.length+1) (Qw (upto 0 k) (zJb σ.r)) 0
def Je (σ:St):Option (Bool×List Ob)->Option (Bool×St) | some (c,h)=>some (c,⟨σ.r,h⟩) | none=>none
theorem vJ {σ σ':St}{x:Option (Bool × List Ob)}{b:Bool}(h:Je σ x=some (b,σ')):∃ h',x=some (b,h')∧σ'=⟨σ.r,h'⟩:=by
 unfold Je at h;split at h
 ·simp only [aA,aB] at h;obtain ⟨rfl,rfl⟩:=h;exact ⟨_,rfl,rfl⟩
 ·cases h
def co1 (T:Tab) (c:Co) (σ:St):Option (Bool × St) :=
 match c with
 | .opn id j=>Je σ (zXw σ.h id j)
 | .cls id j=>Je σ (zXz σ.h id j)
 | .zYd id j=>Je σ (zRi σ.h id j)
 | .Yd id k=>Je σ (Dec.Yd σ.h id k)
 | .Nj id j=>Je σ (Dec.Nj σ.h id j)
 | .shut id=>Je σ (zRl σ.h id)
 | .gcA k=>match Uy 0 k (gcR k σ) with
  | true=>gcL (gcR k σ) σ
  | false=>none
 | .slR i =>
  match σ.r[i]? with
  | some (.one (.own id ver)) =>
   match σ.h[id]? with
   | some (.arr _ _ v rows _)=>some (Nat.beq v ver,⟨σ.r.set i (.one (.sl id ver 0 rows.length)),σ.h⟩)
   | _=>none
  | some (.one (.sl ..))=>some (true,σ)
  | _=>none
 | .yEj i j t =>
  match σ.r[i]?,elemTy T t with
  | some (.agg ls),some (e,te,_) =>
   match ls[j]? with
   | some (.own ..)=>some (true,σ)
   | _ =>
    match nX ls j (.own σ.h.length 0) with
    | some ls'=>some (true,⟨σ.r.set i (.agg ls'),σ.h++[.arr e te 0 [] true]⟩)
    | none=>none
  | _,_=>none
 | .yEk i j =>
  match σ.r[i]? with
  | some (.agg ls) =>
   match ls[j]? with
   | some l =>
    match l.isD with
    | true=>some (true,σ)
    | false =>
     match frz σ.h l with
     | some (c,l',h')=>some (c,⟨σ.r.set i (.agg (ls.set j l')),h'⟩)
     | none=>none
   | none=>none
  | _=>none
 | .gc ρ=>gcL ρ σ
 | .orn id j to off =>
  match σ.h[id]? with
  | some (.box eb ls) =>
   match ls[j]? with
   | some l =>
    match zYe to off l with
    | some l'=>some (true,⟨σ.r,σ.h.set id (.box eb (ls.set j l'))⟩)
    | none=>none
   | none=>none
  | _=>none
 | .yEh i =>
  match σ.r[i]? with
  | some (.one l) =>
   match l.isD with
   | true=>some (true,σ)
   | false =>
    match frz σ.h l with
    | some (c,l',h')=>some (c,⟨σ.r.set i (.one l'),h'⟩)
    | none=>none
  | _=>none
 | .yEi id j =>
  match σ.h[id]? with
  | some (.box eb ls) =>
   match ls[j]? with
   | some l =>
    match l.isD with
    | true=>some (true,σ)
    | false =>
     match frz σ.h l with
     | some (c,l',h')=>some (c,⟨σ.r,h'.set id (.box eb (ls.set j l'))⟩)
     | none=>none
   | none=>none
  | _=>none
 | .keep m=>some (true,⟨tY m σ.r,σ.h⟩)
 | .trunc n=>if Nat.ble n σ.h.length&&(bP (V.isB n) σ.r&&bP (Ob.isB n) (σ.h.take n)) then some (true,⟨σ.r,σ.h.take n⟩) else none
 | .Rc i t =>
  match σ.r[i]?,elemTy T t with
  | some (.one .dD),some (e,te,_)=>some (true,⟨σ.r.set i (.one (.own σ.h.length 0)),σ.h++[.arr e te 0 [] true]⟩)
  | some (.one (.own ..)),_=>some (true,σ)
  | _,_=>none
 | .ownB id j t =>
  match σ.h[id]?,elemTy T t with
  | some (.box eb ls),some (e,te,_) =>
   match ls[j]? with
   | some (.own ..)=>some (true,σ)
   | _ =>
    match nX ls j (.own σ.h.length 0) with
    | some ls'=>some (true,⟨σ.r,(σ.h++[Ob.arr e te 0 [] true]).set id (.box eb ls')⟩)
    | none=>none
  | _,_=>none
 | .yEf i t =>
  match σ.r[i]? with
  | some (.one .dD)=>some (true,⟨σ.r.set i (.one (.val (.slice t) [])),σ.h⟩)
  | _=>none
 | .yEg id j t =>
  match σ.h[id]? with
  | some (.box eb ls) =>
   match nX ls j (.val (.slice t) []) with
   | some ls'=>some (true,⟨σ.r,σ.h.set id (.box eb ls')⟩)
   | none=>none
  | _=>none
 | .ver id =>
  match σ.h[id]? with
  | some (.arr e t v rows wr)=>if bP (V.rZ id v) σ.r&&bP (Ob.rZ id v) σ.h then some (true,⟨σ.r.map (V.cB id),(σ.h.map (Ob.cB id)).set id (.arr e t 0 rows wr)⟩) else none
  | _=>none
def Co.fx (k:Nat):Co->Bool | .trunc n=>Nat.ble k n | .gc ρ=>Uy 0 k ρ | .gcA n=>Nat.ble k n | _=>true
def norm {ρ:Type}(T:Tab):List Co->St->(St->Option ρ)->Option ρ
 | [],σ,k=>k σ
 | c::cs,σ,k =>
  match co1 T c σ with
  | some (b,σ')=>chk b (norm T cs σ' k)
  | none=>none
section
variable {T:Tab}{C:Ctx}{β:Nat->Pl}{w:World}
theorem Jf:∀ (m:List Bool) (r:List V) (i:Nat) (v:V),(tY m r)[i]?=some v->v=.bS∨r[i]?=some v
 | true::m,x::r,0,v,h=>.inr h
 | true::m,x::r,i+1,v,h=>Jf m r i v (by simpa [tY] using h)
 | false::m,x::r,0,v,h=>by simp [tY] at h;exact .inl h.symm
 | false::m,x::r,i+1,v,h=>Jf m r i v (by simpa [tY] using h)
 | [],x::r,0,v,h=>by simp [tY] at h;exact .inl h.symm
 | [],x::r,i+1,v,h=>Jf [] r i v (by simpa [tY] using h)
 | true::_,[],i,v,h=>by simp [tY] at h
 | false::_,[],i,v,h=>by simp [tY] at h
 | [],[],i,v,h=>by simp [tY] at h
theorem zG:∀ (m:List Bool) (r:List V),(tY m r).length=r.length
 | true::m,_x::r=>congrArg (· + 1) (zG m r)
 | false::m,_x::r=>congrArg (· + 1) (zG m r)
 | [],_x::r=>congrArg (· + 1) (zG [] r)
 | true::_,[]=>rfl
 | false::_,[]=>rfl
 | [],[]=>rfl
theorem qO {α:Type}{f:α->Bool}:∀ {l:List α},bP f l=true->∀ (i:Nat) (x:α),l[i]?=some x->f x=true
 | y::r,h,0,x,hx=>by
  simp only [bP,aD] at h;simp only [List.getElem?_cons_zero,aA] at hx;subst hx;exact h.1
 | y::r,h,i+1,x,hx=>by
  simp only [bP,aD] at h;exact qO h.2 i x (by simpa using hx)
 | [],_,i,x,hx=>by simp at hx
mutual
theorem L.Rel.below {β':Nat->Pl}{N N':Nat->Nat->Prop}{n:Nat}(hβ:∀ id,id<n->β' id=β id) (hN:∀ b j,b<w.heap.size->N' b j->N b j):∀ {l:L}{cs:List Value},l.isB n=true->l.Rel β w N cs->l.Rel β' w N' cs
 | .val t x,cs,_,h=>by simp only [L.Rel] at *;exact Ty.Rel.mono (Keep.refl _ w) hN h
 | .ptr id off,cs,hb,h=>by simp only [L.isB] at hb;simp only [L.Rel] at *;rw [hβ id (bR hb)];exact h
 | .mG id off es i sub,cs,hb,h=>by simp only [L.isB] at hb;simp only [L.Rel] at *;rw [hβ id (bR hb)];exact h
 | .lG,cs,_,h=>by simp only [L.Rel] at *;exact h
 | .gH id off,cs,hb,h=>by simp only [L.isB] at hb;simp only [L.Rel] at *;rw [hβ id (bR hb)];exact h
 | .fO id ver i off,cs,hb,h=>by simp only [L.isB] at hb;simp only [L.Rel] at *;rw [hβ id (bR hb)];exact h
 | .lH t x off,cs,_,h=>by simp only [L.Rel] at *;obtain ⟨c,hc,hr⟩:=h;exact ⟨c,hc,hr.mono (Keep.refl _ w) hN⟩
 | .sl id ver off len,cs,hb,h=>by simp only [L.isB] at hb;simp only [L.Rel] at *;rw [hβ id (bR hb)];exact h
 | .own id ver,cs,hb,h=>by simp only [L.isB] at hb;simp only [L.Rel] at *;rw [hβ id (bR hb)];exact h
 | .dD,cs,_,h=>by simp only [L.Rel] at *;exact h
 | .clo f caps,cs,hb,h=>by
  simp only [L.isB] at hb;simp only [L.Rel] at *;obtain ⟨us,hc,hr⟩:=h;exact ⟨us,hc,L.dN.below hβ hN hb hr⟩
 | .bad n,cs,_,h=>by simp only [L.Rel] at *;exact h
 | .Ea x tab,cs,_,h=>by simp only [L.Rel] at *;exact h
 | .mp id,cs,hb,h=>by simp only [L.isB] at hb;simp only [L.Rel] at *;rw [hβ id (bR hb)];exact h
theorem L.dN.below {β':Nat->Pl}{N N':Nat->Nat->Prop}{n:Nat}(hβ:∀ id,id<n->β' id=β id) (hN:∀ b j,b<w.heap.size->N' b j->N b j):∀ {ls:List L}{us:List Value},L.Jw n ls=true->L.dN β w N ls us->L.dN β' w N' ls us
 | [],us,_,h=>by simp only [L.dN] at *;exact h
 | l::ls,us,hb,h=>by
  simp only [L.Jw,aD] at hb;simp only [L.dN] at *;obtain ⟨u,r,e,h1,h2⟩:=h;exact ⟨u,r,e,L.Rel.below hβ hN hb.1 h1,L.dN.below hβ hN hb.2 h2⟩
end
theorem aJ.below {β':Nat->Pl}{N N':Nat->Nat->Prop}{n:Nat}(hβ:∀ id,id<n->β' id=β id) (hN:∀ b j,b<w.heap.size->N' b j->N b j):∀ {ls:List L}{cs:List Value},L.Jw n ls=true->aJ β w N ls cs->aJ β' w N' ls cs
 | [],_,_,h=>h
 | l::ls,_,hb,⟨c1,c2,e,h1,h2⟩=>by
  simp only [L.Jw,aD] at hb;exact ⟨c1,c2,e,h1.below hβ hN hb.1,aJ.below hβ hN hb.2 h2⟩
theorem Rh {β':Nat->Pl}{N N':Nat->Nat->Prop}{n:Nat}(hβ:∀ id,id<n->β' id=β id) (hN:∀ b j,b<w.heap.size->N' b j->N b j):∀ {vs:List (Sum L (List L))}{us:List Value},Az n vs=true->aW (fK β w N) vs us->aW (fK β' w N') vs us
 | [],[],_,_=>trivial
 | .inl l::vs,u::us,hb,h=>by
  simp only [Az,aD] at hb;exact ⟨L.Rel.below hβ hN hb.1 h.1,Rh hβ hN hb.2 h.2⟩
 | .inr ls::vs,u::us,hb,h=>by
  simp only [Az,aD] at hb;obtain ⟨⟨cs,e,hr⟩,h2⟩:=h;exact ⟨⟨cs,e,hr.below hβ hN hb.1⟩,Rh hβ hN hb.2 h2⟩
 | [],_::_,_,h=>h.elim
 | .inl _::_,[],_,h=>h.elim
 | .inr _::_,[],_,h=>h.elim
theorem V.Rel.below {β':Nat->Pl}{N N':Nat->Nat->Prop}{n:Nat}(hβ:∀ id,id<n->β' id=β id) (hN:∀ b j,b<w.heap.size->N' b j->N b j) {v:V}{x:Value}(hb:v.isB n=true) (h:v.Rel β w N x):v.Rel β' w N' x:=by
 cases v with
 | one l=>exact L.Rel.below hβ hN hb h
 | agg ls=>obtain ⟨cs,e,hr⟩:=h;exact ⟨cs,e,hr.below hβ hN hb⟩
 | tup vs=>obtain ⟨us,e,hr⟩:=h;exact ⟨us,e,Rh hβ hN hb hr⟩
 | bS=>trivial
theorem Sim.trunc {σ:St}{a:Act}{n:Nat}(hs:Sim C β σ a w) (hfx:C.fix.length<=n) (hn:n<=σ.h.length) (hr:bP (V.isB n) σ.r=true) (ho:bP (Ob.isB n) (σ.h.take n)=true):∃ β',Sim C β' ⟨σ.r,σ.h.take n⟩ a w:=by
 let β':Nat->Pl:=fun id=>if id<n then β id else ⟨false,false,0,none,0,0,0,[]⟩
 have hβ:∀ id,id<n->β' id=β id:=fun id hid=>by simp [β',hid]
 have hget:∀ (id:Nat) (o:Ob),(σ.h.take n)[id]?=some o->id<n∧σ.h[id]?=some o:=fun id o h=>by
  rw [List.getElem?_take] at h;split at h
  ·rename_i hlt;exact ⟨hlt,h⟩
  ·cases h
 have hN:∀ b j,b<w.heap.size->C.N β' (σ.h.take n) b j->C.N β σ.h b j:=fun b j _ hb=>by
  rcases hb with hb|⟨id,o,ho,hw,hbk⟩
  ·exact .inl hb
  ·obtain ⟨hid,ho⟩:=hget id o ho;rw [hβ id hid] at hbk;exact .inr ⟨id,o,ho,hw,hbk⟩
 refine ⟨β',⟨⟨?_,?_,?_,?_,hs.heap.n0,hs.heap.frame,hs.heap.size,hs.heap.os,hs.heap.tape,hs.heap.output,fun j o hj=>by
  obtain ⟨k1,k2⟩:=hs.heap.fixed j o hj;have hjn:j<n:=Nat.lt_of_lt_of_le (bG.1 hj).1 hfx;exact ⟨by simp;omega,fun b hb=>by rw [hβ j hjn];exact k2 b hb⟩⟩,hs.defers,hs.size,fun i v hv=>(hs.reg i v hv).below hβ hN (qO hr i v hv)⟩⟩
 ·intro id o hio;obtain ⟨hid,h1⟩:=hget id o hio;rw [hβ id hid];have hob:=hs.heap.obj id o h1;cases o with
  | box e ls =>
   have hbl:=qO ho id _ hio;simp only [Ob.Rel] at *;obtain ⟨g1,g2,b,cs,g3,g4,g5⟩:=hob;exact ⟨g1,g2,b,cs,g3,g4.below hβ hN hbl,g5⟩
  | arr e t ver rows wr =>
   simp only [Ob.Rel] at *;obtain ⟨g1,g2,g3,g4,g5,g6,g7⟩:=hob;refine ⟨g1,g2,g3,g4,g5,g6,?_⟩;rcases g7 with g7|⟨b,cur,css,k1,k2,k3,k4⟩
   ·exact .inl g7
   ·exact .inr ⟨b,cur,css,k1,k2,k3.mono fun _ _ h=>h.mono (Keep.refl _ w) hN,k4⟩
  | fm tab=>simp only [Ob.Rel] at *;exact hob
  | dm kt vt es =>
   simp only [Ob.Rel] at *;obtain ⟨g1,g2,b,ms,g3,g4,g5⟩:=hob;exact ⟨g1,g2,b,ms,g3,g4,g5.mono (Keep.refl _ w) hN⟩
  | stk e ei ver rows top =>
   have hbl:=qO ho id _ hio;simp only [Ob.Rel] at *;obtain ⟨g1,g2,g3,g4,g5,b,cur,cs,cs2,bs,k1,k2,k3,k4,k5,k6,k7,k8,k9,k10,k11⟩:=hob;refine ⟨g1,g2,g3,g4,g5,b,cur,cs,cs2,bs,k1,k2,k3,k4,k5,k6,k7,k8,k9,?_,k11⟩;cases top with
   | none=>exact k10
   | some ls=>exact ⟨k10.1.below hβ hN hbl,k10.2⟩
 ·intro id hid;simp only [List.length_take] at hid;simp only [β'];rw [if_neg (by omega)]
 ·intro i j o1 o2 b h1 h2 hb1 hb2;obtain ⟨hi,h1⟩:=hget i o1 h1;obtain ⟨hj,h2⟩:=hget j o2 h2;rw [hβ i hi] at hb1;rw [hβ j hj] at hb2;exact hs.heap.jA i j o1 o2 b h1 h2 hb1 hb2
 ·intro id o b h1 hb;obtain ⟨hi,h1⟩:=hget id o h1;exact hs.heap.Df h1 rfl (by rw [hβ id hi]) (by rw [hβ id hi]) (fun h=>h) hb
section ver
variable {id v:Nat}
def kH (β:Nat->Pl) (id:Nat):Nat->Pl:=upd β id { β id with ver:=0 }
theorem zDf {i j:Nat}(h:i≠j):Nat.beq i j=false:=by
 cases hb:Nat.beq i j
 ·rfl
 ·exact absurd (aM hb) h
mutual
theorem L.Rel.cB {N:Nat->Nat->Prop}(hv:(β id).ver=v):∀ {l:L}{cs:List Value},l.rZ id v=true->l.Rel β w N cs->(l.cB id).Rel (kH β id) w N cs
 | .val t x,cs,_,h=>by simp only [L.cB,L.Rel] at *;exact h
 | .Ea x tab,cs,_,h=>by simp only [L.cB,L.Rel] at *;exact h
 | .mp i,cs,_,h=>by
  simp only [L.cB,L.Rel,kH] at *;by_cases hi:i=id
  ·subst hi;rw [upd_same];exact h
  ·rw [aR _ _ hi];exact h
 | .ptr i off,cs,_,h=>by
  simp only [L.cB,L.Rel,kH] at *;by_cases hi:i=id
  ·subst hi;rw [upd_same];exact h
  ·rw [aR _ _ hi];exact h
 | .mG i off es k sub,cs,_,h=>by
  simp only [L.cB,L.Rel,kH] at *;by_cases hi:i=id
  ·subst hi;rw [upd_same];exact h
  ·rw [aR _ _ hi];exact h
 | .lG,cs,_,h=>by simp only [L.cB,L.Rel] at *;exact h
 | .gH i off,cs,_,h=>by
  simp only [L.cB,L.Rel,kH] at *;by_cases hi:i=id
  ·subst hi;rw [upd_same];exact h
  ·rw [aR _ _ hi];exact h
 | .fO i u a b,cs,hb,h=>by
  simp only [L.cB];by_cases hi:i=id
  ·subst hi;have hu:u=v:=by simpa [L.rZ,Nat.beq_refl] using hb
   subst hu;simp only [Nat.beq_refl,if_true,L.Rel,kH,upd_same] at *;obtain ⟨h1,h2,h3,c,h4,h5,h6⟩:=h;exact ⟨h1,h2,aQ _,c,h4,h5,fun _=>h6 hv⟩
  ·have:Nat.beq i id=false:=zDf hi;simp only [this,Bool.false_eq_true,if_false,L.Rel,kH] at *;rw [aR _ _ hi];exact h
 | .lH t x off,cs,_,h=>by simp only [L.cB,L.Rel] at *;exact h
 | .sl i u a b,cs,hb,h=>by
  simp only [L.cB];by_cases hi:i=id
  ·subst hi;have hu:u=v:=by simpa [L.rZ,Nat.beq_refl] using hb
   subst hu;simp only [Nat.beq_refl,if_true,L.Rel,kH,upd_same] at *;obtain ⟨h1,h2,h3,c,h4,h5,h6⟩:=h;exact ⟨h1,h2,aQ _,c,h4,h5,fun _=>h6 hv⟩
  ·have:Nat.beq i id=false:=zDf hi;simp only [this,Bool.false_eq_true,if_false,L.Rel,kH] at *;rw [aR _ _ hi];exact h
 | .own i u,cs,hb,h=>by
  simp only [L.cB];by_cases hi:i=id
  ·subst hi;have hu:u=v:=by simpa [L.rZ,Nat.beq_refl] using hb
   subst hu;simp only [Nat.beq_refl,if_true,L.Rel,kH,upd_same] at *;obtain ⟨h1,h2,h3,c,h4,h5,h6⟩:=h;exact ⟨h1,h2,aQ _,c,h4,h5,fun _=>h6 hv⟩
  ·have:Nat.beq i id=false:=zDf hi;simp only [this,Bool.false_eq_true,if_false,L.Rel,kH] at *;rw [aR _ _ hi];exact h
 | .dD,cs,_,h=>by simp only [L.cB,L.Rel] at *;exact h
 | .clo f caps,cs,hb,h=>by
  simp only [L.rZ] at hb;simp only [L.cB,L.Rel] at *;obtain ⟨us,hc,hr⟩:=h;exact ⟨us,hc,L.dN.cB hv hb hr⟩
 | .bad n,cs,_,h=>by simp only [L.cB,L.Rel] at *;exact h
theorem L.dN.cB {N:Nat->Nat->Prop}(hv:(β id).ver=v):∀ {ls:List L}{us:List Value},L.wW id v ls=true->L.dN β w N ls us->L.dN (kH β id) w N (L.uO id ls) us
 | [],us,_,h=>by simp only [L.uO,L.dN] at *;exact h
 | l::ls,us,hb,h=>by
  simp only [L.wW,aD] at hb;simp only [L.uO,L.dN] at *;obtain ⟨u,r,e,h1,h2⟩:=h;exact ⟨u,r,e,L.Rel.cB hv hb.1 h1,L.dN.cB hv hb.2 h2⟩
end
theorem aJ.cB {N:Nat->Nat->Prop}(hv:(β id).ver=v):∀ {ls:List L}{cs:List Value},L.wW id v ls=true->aJ β w N ls cs->aJ (kH β id) w N (L.uO id ls) cs
 | [],_,_,h=>by simp only [L.uO,aJ] at *;exact h
 | l::ls,_,hb,⟨c1,c2,e,h1,h2⟩=>by
  simp only [L.wW,aD] at hb;exact ⟨c1,c2,e,h1.cB hv hb.1,aJ.cB hv hb.2 h2⟩
theorem Ri {N:Nat->Nat->Prop}(hv:(β id).ver=v):∀ {vs:List (Sum L (List L))}{us:List Value},Le id v vs=true->aW (fK β w N) vs us->aW (fK (kH β id) w N) (Nk id vs) us
 | [],[],_,_=>trivial
 | .inl l::vs,u::us,hb,h=>by
  simp only [Le,aD] at hb;exact ⟨L.Rel.cB hv hb.1 h.1,Ri hv hb.2 h.2⟩
 | .inr ls::vs,u::us,hb,h=>by
  simp only [Le,aD] at hb;obtain ⟨⟨cs,e,hr⟩,h2⟩:=h;exact ⟨⟨cs,e,hr.cB hv hb.1⟩,Ri hv hb.2 h2⟩
 | [],_::_,_,h=>h.elim
 | .inl _::_,[],_,h=>h.elim
 | .inr _::_,[],_,h=>h.elim
theorem V.Rel.cB {N:Nat->Nat->Prop}(hv:(β id).ver=v) {u:V}{x:Value}(hb:u.rZ id v=true) (h:u.Rel β w N x):(u.cB id).Rel (kH β id) w N x:=by
 cases u with
 | one l=>exact L.Rel.cB hv hb h
 | agg ls=>obtain ⟨cs,e,hr⟩:=h;exact ⟨cs,e,hr.cB hv hb⟩
 | tup vs=>obtain ⟨us,e,hr⟩:=h;exact ⟨us,e,Ri hv hb hr⟩
 | bS=>trivial
theorem zYf (i:Nat):(kH β id i).box=(β i).box:=by
 unfold kH;by_cases hi:i=id
 ·subst hi;rw [upd_same]
 ·rw [aR _ _ hi]
theorem Ba (i:Nat):(kH β id i).blk=(β i).blk∧(kH β id i).live=(β i).live:=by
 unfold kH upd;split
 ·rename_i h;subst h;exact ⟨rfl,rfl⟩
 ·exact ⟨rfl,rfl⟩
theorem Ob.zYg (o:Ob):(o.cB id).wr=o.wr:=by cases o<;>rfl
theorem Ob.zRm (o:Ob):(o.cB id).mW=o.mW:=by cases o<;>rfl
theorem Nl (i:Nat):(kH β id i).sub=(β i).sub:=by
 unfold kH upd;split
 ·rename_i h;subst h;rfl
 ·rfl
theorem Sim.cB {σ:St}{a:Act}{e:TypeId}{t:Ty}{rows:List t.den}{wr:Bool}(hs:Sim C β σ a w) (ho:σ.h[id]?=some (.arr e t v rows wr)) (hr:bP (V.rZ id v) σ.r=true) (hh:bP (Ob.rZ id v) σ.h=true) :
  Sim C (kH β id) ⟨σ.r.map (V.cB id),(σ.h.map (Ob.cB id)).set id (.arr e t 0 rows wr)⟩ a w:=by
 have hob:=hs.heap.obj _ _ ho;simp only [Ob.Rel] at hob;obtain ⟨g1,g2,g3,g4,g5,g6,g7⟩:=hob;have yIh:id<(σ.h.map (Ob.cB id)).length:=by simpa using (bG.1 ho).1
 have hget:∀ (i:Nat) (o:Ob),((σ.h.map (Ob.cB id)).set id (.arr e t 0 rows wr))[i]?=some o->∃ o',σ.h[i]?=some o'∧(o.wr=o'.wr∧o.mW=o'.mW)∧((i≠id∧o=o'.cB id)∨(i=id∧o=.arr e t 0 rows wr)):=fun i o h=>by
  by_cases hi:id=i
  ·subst hi;rw [List.getElem?_set_self yIh] at h;simp only [aA] at h;subst h;exact ⟨_,ho,⟨rfl,rfl⟩,.inr ⟨rfl,rfl⟩⟩
  ·rw [List.getElem?_set_ne hi,List.getElem?_map,Option.map_eq_some_iff] at h;obtain ⟨o',h1,rfl⟩:=h;exact ⟨o',h1,⟨Ob.zYg o',Ob.zRm o'⟩,.inl ⟨fun h=>hi h.symm,rfl⟩⟩
 have hNi:∀ b j,C.N (kH β id) ((σ.h.map (Ob.cB id)).set id (.arr e t 0 rows wr)) b j->C.N β σ.h b j:=fun b j hb=>by
  rcases hb with hb|⟨i,o,h1,h2,h3⟩
  ·exact .inl hb
  ·obtain ⟨o',h4,h5,_⟩:=hget i o h1;exact .inr ⟨i,o',h4,by rw [<- h5.1];exact h2,Ob.rC h5.2 (Ba (β:=β) (id:=id) i).1 (Nl i) h3⟩
 have mono:∀ {l:List L}{cs:List Value},aJ (kH β id) w (C.N β σ.h) l cs->aJ (kH β id) w (C.N (kH β id) ((σ.h.map (Ob.cB id)).set id (.arr e t 0 rows wr))) l cs:=fun h=>h.mono (Moves.refl _) (Keep.refl _ w) fun b j _ hb=>hNi b j hb
 refine ⟨⟨?_,?_,?_,?_,hs.heap.n0,hs.heap.frame,hs.heap.size,hs.heap.os,hs.heap.tape,hs.heap.output,fun j o hj=>by
  obtain ⟨k1,k2⟩:=hs.heap.fixed j o hj;exact ⟨by simpa using k1,fun b hb=>by rw [(Ba (β:=β) (id:=id) j).1,(zYf (β:=β) (id:=id) j)];exact k2 b hb⟩⟩,hs.defers,by simpa using hs.size,?_⟩
 ·intro i o h;obtain ⟨o',h1,h2,h3|h3⟩:=hget i o h
  ·obtain ⟨hi,rfl⟩:=h3;have hob:=hs.heap.obj i o' h1;have hbi:kH β id i=β i:=aR _ _ hi;rw [hbi];cases o' with
   | box eb ls =>
    have hvv:=qO hh i _ h1;simp only [Ob.cB,Ob.Rel] at *;obtain ⟨k1,k2,b,cs,k3,k4,k5⟩:=hob;exact ⟨k1,k2,b,cs,k3,mono (k4.cB g3 hvv),k5⟩
   | arr e2 t2 yKe fE wr2 =>
    simp only [Ob.cB,Ob.Rel] at *;obtain ⟨k1,k2,k3,k4,k5,k6,k7⟩:=hob;refine ⟨k1,k2,k3,k4,k5,k6,?_⟩;rcases k7 with k7|⟨b,cur,css,m1,m2,m3,m4⟩
    ·exact .inl k7
    ·exact .inr ⟨b,cur,css,m1,m2,m3.mono fun _ _ h=>h.mono (Keep.refl _ w) fun b j _ hb=>hNi b j hb,m4⟩
   | fm tab=>simp only [Ob.cB,Ob.Rel] at *;exact hob
   | dm kt vt es =>
    simp only [Ob.cB,Ob.Rel] at *;obtain ⟨k1,k2,b,ms,k3,k4,k5⟩:=hob;exact ⟨k1,k2,b,ms,k3,k4,k5.mono (Keep.refl _ w) fun b j _ hb=>hNi b j hb⟩
   | stk es ei vs rs top =>
    have hvv:=qO hh i _ h1;simp only [Ob.cB,Ob.Rel] at *;obtain ⟨m1,m2,m3,m4,m5,b,cur,cs,cs2,bs,k1,k2,k3,k4,k5,k6,k7,k8,k9,k10,k11⟩:=hob;refine ⟨m1,m2,m3,m4,by rw [Mv];exact m5,b,cur,cs,cs2,bs,k1,k2,k3,k4,k5,k6,k7,k8,k9,?_,k11⟩;refine k10.imp _ fun ls cs e hl=>?_
    subst e;exact mono (hl.cB g3 hvv)
  ·obtain ⟨rfl,rfl⟩:=h3;simp only [Ob.Rel,kH,upd_same];refine ⟨g1,g2,trivial,g4,g5,g6,?_⟩;rcases g7 with g7|⟨b,cur,css,m1,m2,m3,m4⟩
   ·exact .inl g7
   ·exact .inr ⟨b,cur,css,m1,m2,m3.mono fun _ _ h=>h.mono (Keep.refl _ w) fun b j _ hb=>hNi b j hb,m4⟩
 ·intro i hi;rw [(Ba (β:=β) (id:=id) i).2];exact hs.heap.dead i (by simpa using hi)
 ·intro i j o1 o2 b h1 h2 hb1 hb2;obtain ⟨o1',k1,k3,_⟩:=hget i o1 h1;obtain ⟨o2',k2,k4,_⟩:=hget j o2 h2;exact hs.heap.jA i j o1' o2' b k1 k2 (Ob.jD k3.2 (Ba (β:=β) (id:=id) i).1 (Nl i) hb1) (Ob.jD k4.2 (Ba (β:=β) (id:=id) j).1 (Nl j) hb2)
 ·intro i o b h1 hb;obtain ⟨o',k1,k3,_⟩:=hget i o h1;exact hs.heap.Df k1 k3.2 (Ba (β:=β) (id:=id) i).1 (Nl i) (fun h=>by rw [<- k3.1];exact h) hb
 ·intro i u hu;rw [List.getElem?_map,Option.map_eq_some_iff] at hu;obtain ⟨u0,h1,rfl⟩:=hu;exact ((hs.reg i u0 h1).cB g3 (qO hr i u0 h1)).mono (Moves.refl _) (Keep.refl _ w) fun b j _ hb=>hNi b j hb
end ver
theorem aJ.nX {N:Nat->Nat->Prop}{l:L}(hl:l.Rel β w N [.slice none 0 0]):∀ {ls ls':List L}{j:Nat}{cs:List Value},Dec.nX ls j l=some ls'->aJ β w N ls cs->aJ β w N ls' cs
 | [],_,j,_,h,_=>by simp [Dec.nX] at h
 | x::ls,ls',0,cs,h,hr=>by
  simp only [Dec.nX,List.getElem?_cons_zero] at h;split at h
  ·rename_i hx;simp only [aA] at h hx;subst h hx;obtain ⟨c1,c2,e,h1,h2⟩:=hr;simp only [L.Rel] at h1;subst h1;exact ⟨_,c2,e,hl,h2⟩
  ·cases h
 | x::ls,ls',j+1,cs,h,hr=>by
  simp only [Dec.nX,List.getElem?_cons_succ] at h;split at h
  ·rename_i hx;simp only [aA,List.set_cons_succ] at h;subst h;obtain ⟨c1,c2,e,h1,h2⟩:=hr;exact ⟨c1,c2,e,h1,aJ.nX (j:=j) hl (by simp [Dec.nX,hx]) h2⟩
  ·cases h
theorem aJ.setAt {N:Nat->Nat->Prop}{l':L}:∀ {ls:List L}{j:Nat}{l:L}{cs:List Value},ls[j]?=some l->(∀ c,l.Rel β w N c->l'.Rel β w N c)->aJ β w N ls cs->aJ β w N (ls.set j l') cs
 | [],j,_,_,h,_,_=>by simp at h
 | x::ls,0,l,cs,h,hl,hr=>by
  simp only [List.getElem?_cons_zero,aA] at h;subst h;obtain ⟨c1,c2,e,h1,h2⟩:=hr;exact ⟨c1,c2,e,hl _ h1,h2⟩
 | x::ls,j+1,l,cs,h,hl,hr=>by
  obtain ⟨c1,c2,e,h1,h2⟩:=hr;exact ⟨c1,c2,e,h1,aJ.setAt (j:=j) (by simpa using h) hl h2⟩
theorem aJ.zAh {N N':Nat->Nat->Prop}(hN:∀ b j,b<w.heap.size->N' b j->N b j) {l':L}:∀ {ls:List L}{j:Nat}{l:L}{cs:List Value},ls[j]?=some l->(∀ c,l.Rel β w N c->l'.Rel β w N' c)->aJ β w N ls cs->aJ β w N' (ls.set j l') cs
 | [],j,_,_,h,_,_=>by simp at h
 | x::ls,0,l,cs,h,hl,hr=>by
  simp only [List.getElem?_cons_zero,aA] at h;subst h;obtain ⟨c1,c2,e,h1,h2⟩:=hr;exact ⟨c1,c2,e,hl _ h1,h2.mono (Moves.refl β) (Keep.refl _ w) hN⟩
 | x::ls,j+1,l,cs,h,hl,hr=>by
  obtain ⟨c1,c2,e,h1,h2⟩:=hr;exact ⟨c1,c2,e,h1.mono (Moves.refl β) (Keep.refl _ w) hN,aJ.zAh (j:=j) hN (by simpa using h) hl h2⟩
theorem zJk {h:List Ob}{e:TypeId}{t:Ty}{ver id off len:Nat}{rows:List t.den}{wr:Bool}{c:Value}{N':Nat->Nat->Prop}(hh:dW C β h w) (ho:h[id]?=some (.arr e t ver rows wr)) (hsl:dM (β id) off len c) (hle:off+len<=rows.length)
  (hN:∀ b j,b<w.heap.size->N' b j->C.N β h b j) (hnb:∀ b j,(β id).blk=some b->¬ N' b j):(Ty.slice t).Rel w N' ((rows.drop off).take len) [c]:=by
 have hob:=hh.obj _ _ ho;simp only [Ob.Rel] at hob;obtain ⟨_,_,hpv,hpz,hpos,hpl,hob⟩:=hob;simp only [Ty.Rel];refine ⟨c,rfl,?_⟩;unfold dM at hsl;rcases hob with ⟨hnb',hr0,_⟩|⟨b,cur,css,hb,hheap,hall,htake,hcap,hrc,hm⟩
 ·rw [hnb'] at hsl;subst hr0;exact .inl ⟨hsl.1,by simp⟩
 ·rw [hb] at hsl;obtain ⟨h1,o,rfl,h3⟩:=hsl;obtain ⟨hf1,hf2,_⟩:=hh.fresh _ _ _ ho hb;have hlen:((rows.drop off).take len).length=len:=by simp;omega
  have hl:=gJ hall;have hcs:=(Cells.of_heap hheap).take (rows.length*t.size);rw [htake] at hcs;have hcs2:=(hcs.drop (off*t.size)).take (len*t.size);rw [kC css hl off,oG _ (fun c hc=>hl c (List.mem_of_mem_drop hc)) len,Nat.zero_add] at hcs2;have zHn:aW (fun x c=>t.Rel w N' x c) ((rows.drop off).take len) ((css.drop off).take len):=((hall.drop off).take len).mono fun _ _ h=>h.mono (Keep.refl _ w) hN
  refine .inr (.inl ⟨b,o,_,(css.drop off).take len,by rw [hlen],hf2,fun j _ _=>hnb b j hb,by omega,by omega,zHn,fun c hc=>hl c (List.mem_of_mem_drop (List.mem_of_mem_take hc)),?_⟩);rcases h3 with h3|⟨h3,_⟩
  ·rw [h3,hpz];exact hcs2
  ·have hl0:len=0:=by omega
   subst hl0;simpa using Cells.nil
theorem dW.freeze {id:Nat}{e:TypeId}{t:Ty}{v:Nat}{rows:List t.den}{wr:Bool}{h:List Ob}(hs:dW C β h w) (ho:h[id]?=some (.arr e t v rows wr)) :
  dW C β (h.set id (.arr e t v rows false)) w∧(∀ b j,C.N β (h.set id (.arr e t v rows false)) b j->C.N β h b j)∧∀ b j,(β id).blk=some b->¬ C.N β (h.set id (.arr e t v rows false)) b j:=by
 have hi:id<h.length:=(bG.1 ho).1;have hget:∀ (i:Nat) (o:Ob),(h.set id (.arr e t v rows false))[i]?=some o->(i≠id∧h[i]?=some o)∨(i=id∧o=.arr e t v rows false):=fun i o hio=>by
  by_cases hid:i=id
  ·subst hid;rw [List.getElem?_set_self hi] at hio;simp only [aA] at hio;exact .inr ⟨rfl,hio.symm⟩
  ·rw [List.getElem?_set_ne (Ne.symm hid)] at hio;exact .inl ⟨hid,hio⟩
 have hN:∀ b j,C.N β (h.set id (.arr e t v rows false)) b j->C.N β h b j:=fun b j hb=>by
  rcases hb with hb|⟨i,o,hio,hw,hbk⟩
  ·exact .inl hb
  ·rcases hget i o hio with ⟨_,hio⟩|⟨_,rfl⟩
   ·exact .inr ⟨i,o,hio,hw,hbk⟩
   ·cases hw
 have hob:∀ (i:Nat) (o:Ob),h[i]?=some o->o.Rel β w (C.N β (h.set id (.arr e t v rows false))) (β i):=fun i o hio=>(hs.obj i o hio).mono (Moves.refl β) (Keep.refl _ w) (fun b j _ hb=>hN b j hb) fun _ _=>rfl
 refine ⟨⟨fun i o hio=>?_,fun i hl=>hs.dead i (by simpa using hl),fun i j o o' b h1 h2 hb1 hb2=>?_,fun i o b hio hb=>?_,hs.n0,hs.frame,hs.size,hs.os,hs.tape,hs.output,fun j o hj=>⟨by simpa using (hs.fixed j o hj).1,(hs.fixed j o hj).2⟩⟩,hN,fun b k hb hn=>?_⟩
 ·rcases hget i o hio with ⟨_,hio⟩|⟨rfl,rfl⟩
  ·exact hob i o hio
  ·have:=hob i _ ho;simp only [Ob.Rel] at this ⊢;exact this
 ·have k:∀ (i:Nat) (o:Ob),(h.set id (.arr e t v rows false))[i]?=some o->∃ o':Ob,h[i]?=some o'∧o.mW=o'.mW:=fun i o hio=>by
   rcases hget i o hio with ⟨_,hio⟩|⟨rfl,rfl⟩
   ·exact ⟨o,hio,rfl⟩
   ·exact ⟨_,ho,rfl⟩
  obtain ⟨o1,k1,k3⟩:=k i o h1;obtain ⟨o2,k2,k4⟩:=k j o' h2;exact hs.jA i j o1 o2 b k1 k2 (Ob.jD k3 rfl rfl hb1) (Ob.jD k4 rfl rfl hb2)
 ·rcases hget i o hio with ⟨_,hio⟩|⟨rfl,rfl⟩
  ·exact hs.dX i o b hio hb
  ·exact hs.Df ho rfl rfl rfl (fun h=>by cases h) hb
 ·rcases hn with hn|⟨i,o,hio,hw,hbk⟩
  ·exact (hs.fresh id _ b ho hb).1 k hn
  ·rcases hget i o hio with ⟨hne,hio⟩|⟨_,rfl⟩
   ·exact hne (hs.jA i id o _ b hio ho ⟨k,hbk⟩ (Ob.pQ hb))
   ·cases hw
theorem zDg {h h':List Ob}{l l':L}(hf:frz h l=some (true,l',h')) (hs:dW C β h w):dW C β h' w∧(∀ b j,C.N β h' b j->C.N β h b j)∧(∀ cs,l.Rel β w (C.N β h) cs->l'.Rel β w (C.N β h') cs)∧h'.length=h.length ∧
  (∀ (i:Nat) (o:Ob),h[i]?=some o->∃ o',h'[i]?=some o'∧(∀ e ls,o=.box e ls->o'=.box e ls)):=by
 have ob:∀ {id:Nat}{e:TypeId}{t:Ty}{v:Nat}{rows:List t.den}{wr:Bool},h[id]?=some (.arr e t v rows wr)->∀ (i:Nat) (o:Ob),h[i]?=some o->∃ o',(h.set id (.arr e t v rows false))[i]?=some o'∧(∀ e ls,o=.box e ls->o'=.box e ls):=by
  intro id e t v rows wr ho i o hio;by_cases hid:i=id
  ·subst hid;rw [ho] at hio;simp only [aA] at hio;subst hio;exact ⟨_,List.getElem?_set_self (bG.1 ho).1,fun e ls h=>by cases h⟩
  ·exact ⟨o,by rw [List.getElem?_set_ne (Ne.symm hid)];exact hio,fun e ls h=>h⟩
 cases l<;>simp only [frz,reduceCtorEq] at hf
 case own id ver =>
  split at hf
  ·rename_i e t v rows wr ho;simp only [aA,aB] at hf;obtain ⟨hv,rfl,rfl⟩:=hf;have hv:=aM hv;obtain ⟨k1,k2,k3⟩:=hs.freeze ho;refine ⟨k1,k2,fun cs hr=>?_,by simp,ob ho⟩;have hob:=hs.obj _ _ ho;simp only [Ob.Rel] at hob;obtain ⟨_,_,hpv,_,_,hpl,_⟩:=hob;simp only [L.Rel] at hr;obtain ⟨_,_,_,c,rfl,_,himp⟩:=hr;have hsl:=himp (by rw [hpv,hv]);rw [hpl] at hsl;have:=zJk (N':=C.N β (h.set id (.arr e t v rows false))) hs ho hsl (by omega) (fun b j _ hb=>k2 b j hb) k3;rw [List.drop_zero,List.take_length] at this;simpa only [L.Rel] using this
  ·cases hf
 case sl id ver off len =>
  split at hf
  ·rename_i e t v rows wr ho;simp only [aA,aB,aD] at hf;obtain ⟨⟨hv,hle⟩,rfl,rfl⟩:=hf;have hv:=aM hv;obtain ⟨k1,k2,k3⟩:=hs.freeze ho;refine ⟨k1,k2,fun cs hr=>?_,by simp,ob ho⟩;have hob:=hs.obj _ _ ho;simp only [Ob.Rel] at hob;obtain ⟨_,_,hpv,_,_,hpl,_⟩:=hob;simp only [L.Rel] at hr;obtain ⟨_,_,_,c,rfl,_,himp⟩:=hr;simpa only [L.Rel] using zJk (N':=C.N β (h.set id (.arr e t v rows false))) hs ho (himp (by rw [hpv,hv])) (bR hle) (fun b j _ hb=>k2 b j hb) k3
  ·cases hf
theorem zYh {N:Nat->Nat->Prop}{to off:Nat}{l l':L}{cs:List Value}(h:zYe to off l=some l') (hr:l.Rel β w N cs):l'.Rel β w N cs:=by
 cases l<;>simp only [zYe,reduceCtorEq] at h
 case lG =>
  simp only [aA] at h;subst h;simp only [L.Rel] at *;exact ⟨_,hr,.inl rfl⟩
 case ptr a b =>
  split at h
  ·rename_i hb;simp only [aD] at hb;have e1:=aM hb.1;have e2:=aM hb.2;subst e1 e2;simp only [aA] at h;subst h;simp only [L.Rel] at *;obtain ⟨h1,h2,b,h3,h4⟩:=hr;exact ⟨_,h4,.inr ⟨h1,h2,b,h3,rfl⟩⟩
  ·cases h
 case gH a b =>
  split at h
  ·rename_i hb;simp only [aD] at hb;have e1:=aM hb.1;have e2:=aM hb.2;subst e1 e2;simp only [aA] at h;subst h;exact hr
  ·cases h
def Bc (β:Nat->Pl) (ρ:List Nat):Nat->Pl:=fun j=>match ρ[j]? with|some i=>{ β i with ver:=0 }|none=>⟨false,false,0,none,0,0,0,[]⟩
theorem zJl {C:Ctx}{β:Nat->Pl}{w:World}{h:List Ob}{ρ:List Nat}(hs:dW C β h w) (hlt:∀ i∈ρ,i<h.length):zRh β (Bc β ρ) ρ h:=by
 intro i j hp;obtain ⟨m,hm,hi⟩:=xU hp;rw [Nat.zero_add] at hm;subst hm;have e:Bc β ρ j={ β i with ver:=0 }:=by simp only [Bc,hi]
 rw [e];refine ⟨rfl,rfl,rfl,fun hb=>⟨rfl,?_,rfl,rfl,rfl⟩⟩;have hil:=hlt i (List.mem_of_getElem? hi);have ho:h[i]?=some h[i]:=by simp [hil]
 have hob:=hs.obj i _ ho;unfold Yb;rw [ho];cases hoi:h[i] with
 | box e ls =>
  rw [hoi] at hob;simp only [Ob.Rel] at hob;rw [hob.2.1] at hb;cases hb
 | arr e t v rows wr =>
  rw [hoi] at hob;simp only [Ob.Rel] at hob;exact hob.2.2.1
 | stk e ei v rows top =>
  rw [hoi] at hob;simp only [Ob.Rel] at hob;exact hob.2.2.1
 | fm tab =>
  rw [hoi] at hob;simp only [Ob.Rel] at hob;rw [hob.2.1] at hb;cases hb
 | dm kt vt es =>
  rw [hoi] at hob;simp only [Ob.Rel] at hob;rw [hob.2.1] at hb;cases hb
theorem Sim.gc {σ:St}{a:Act}{ρ:List Nat}(hs:Sim C β σ a w) (hnd:nodupB ρ=true) (hlt:∀ i∈ρ,i<σ.h.length) (hfx:∀ j,j<C.fix.length->ρ[j]?=some j) :
  Sim C (Bc β ρ) ⟨σ.r.map (V.ren ρ σ.h),inH ρ σ.h⟩ a w:=by
 have Ye:=zJl hs.heap hlt;have hget:∀ i∈ρ,∃ o,σ.h[i]?=some o:=fun i hi=>⟨σ.h[i]'(hlt i hi),by simp [hlt i hi]⟩
 have hβ:∀ {j i:Nat},ρ[j]?=some i->Bc β ρ j={ β i with ver:=0 }:=fun hi=>by simp only [Bc,hi]
 have hN:∀ b j,b<w.heap.size->C.N (Bc β ρ) (inH ρ σ.h) b j->C.N β σ.h b j:=fun b k _ hb=>by
  rcases hb with hb|⟨j,o,ho,hw,hbk⟩
  ·exact .inl hb
  ·obtain ⟨i,hi,rfl⟩:=sW ho;obtain ⟨o',ho'⟩:=hget i (List.mem_of_getElem? hi);rw [fG ho',Ob.Rb] at hw;rw [fG ho',hβ hi] at hbk;exact .inr ⟨i,o',ho',hw,Ob.rC (Ob.rY ρ σ.h o') rfl rfl hbk⟩
 refine ⟨⟨?_,?_,?_,?_,hs.heap.n0,hs.heap.frame,hs.heap.size,hs.heap.os,hs.heap.tape,hs.heap.output,?_⟩,hs.defers,by simpa using hs.size,?_⟩
 ·intro j o ho;obtain ⟨i,hi,rfl⟩:=sW ho;obtain ⟨o',ho'⟩:=hget i (List.mem_of_getElem? hi);rw [fG ho',hβ hi];have hob:=hs.heap.obj i o' ho';cases o' with
  | box e ls =>
   simp only [Ob.ren,Ob.Rel] at *;obtain ⟨h1,h2,b,cs,h3,h4,h5⟩:=hob;exact ⟨h1,h2,b,cs,h3,h4.wG Ye hN,h5⟩
  | arr e t v rows wr =>
   simp only [Ob.ren,Ob.Rel] at *;obtain ⟨h1,h2,h3,h4,h5,h6,h7⟩:=hob;refine ⟨h1,h2,trivial,h4,h5,h6,?_⟩;rcases h7 with h7|⟨b,cur,css,k1,k2,k3,k4⟩
   ·exact .inl h7
   ·exact .inr ⟨b,cur,css,k1,k2,k3.mono fun _ _ h=>h.mono (Keep.refl _ w) hN,k4⟩
  | fm tab=>simp only [Ob.ren,Ob.Rel] at *;exact hob
  | dm kt vt es =>
   simp only [Ob.ren,Ob.Rel] at *;obtain ⟨h1,h2,b,ms,h3,h4,h5⟩:=hob;exact ⟨h1,h2,b,ms,h3,h4,h5.mono (Keep.refl _ w) hN⟩
  | stk e ei v rows top =>
   simp only [Ob.ren,Ob.Rel] at *;obtain ⟨g1,g2,g3,g4,g5,b,cur,cs,cs2,bs,k1,k2,k3,k4,k5,k6,k7,k8,k9,k10,k11⟩:=hob;exact ⟨g1,g2,trivial,g4,by rw [Mv];exact g5,b,cur,cs,cs2,bs,k1,k2,k3,k4,k5,k6,k7,k8,k9,k10.imp _ fun ls cs _ hl=>hl.wG Ye hN,k11⟩
 ·intro j hj;simp only [inH,List.length_map] at hj;simp only [Bc,List.getElem?_eq_none hj]
 ·intro i j o1 o2 b h1 h2 hb1 hb2;obtain ⟨i',hi,rfl⟩:=sW h1;obtain ⟨j',hj,rfl⟩:=sW h2;obtain ⟨o1',ho1⟩:=hget i' (List.mem_of_getElem? hi);obtain ⟨o2',ho2⟩:=hget j' (List.mem_of_getElem? hj);rw [hβ hi,fG ho1] at hb1;rw [hβ hj,fG ho2] at hb2;have:=hs.heap.jA i' j' o1' o2' b ho1 ho2 (Ob.jD (Ob.rY ρ σ.h o1') rfl rfl hb1) (Ob.jD (Ob.rY ρ σ.h o2') rfl rfl hb2);subst this;exact Fg hnd hi hj
 ·intro j o b ho hb;obtain ⟨i,hi,rfl⟩:=sW ho;obtain ⟨o',ho'⟩:=hget i (List.mem_of_getElem? hi);rw [fG ho'] at hb ⊢;exact hs.heap.Df ho' (Ob.rY ρ σ.h o') (by rw [hβ hi]) (by rw [hβ hi]) (fun h=>by rw [Ob.Rb] at h;exact h) hb
 ·intro j o hj;obtain ⟨k1,k2⟩:=hs.heap.fixed j o hj;have hj2:=hfx j (bG.1 hj).1;refine ⟨by simpa [inH] using (bG.1 hj2).1,fun b hb=>?_⟩;rw [hβ hj2];exact k2 b hb
 ·intro i v hv;simp only [List.getElem?_map,Option.map_eq_some_iff] at hv;obtain ⟨v0,hv0,rfl⟩:=hv;exact (hs.reg i v0 hv0).wG Ye hN
theorem zOv {kf:Nat}(hkf:C.fix.length<=kf) {ρ:List Nat}{σ σ':St}{a:Act}{b:Bool}(hfx:Uy 0 kf ρ=true) (h:gcL ρ σ=some (b,σ')) (hs:Sim C β σ a w):∃ β',Sim C β' σ' a w:=by
 unfold gcL at h;split at h
 ·rename_i hc;simp only [aD] at hc;simp only [aA,aB] at h;obtain ⟨_,rfl⟩:=h;refine ⟨_,hs.gc hc.1 (fun i hi=>?_) fun j hj=>?_⟩
  ·obtain ⟨n,hn⟩:=List.getElem?_of_mem hi;exact bR (qO hc.2 n i hn)
  ·have:=zFe hfx j (Nat.lt_of_lt_of_le hj hkf)
   rwa [Nat.zero_add] at this
 ·cases h
theorem yCg (_hT:bI C.P T) {kf:Nat}(hkf:C.fix.length<=kf) {c:Co}{σ σ':St}{a:Act}{b:Bool}(hfx:c.fx kf=true) (h:co1 T c σ=some (b,σ')) (hb:b=true) (hs:Sim C β σ a w):∃ β',Sim C β' σ' a w:=by
 cases c with
 | opn id j =>
  simp only [co1] at h;obtain ⟨h',h1,rfl⟩:=vJ h;subst hb;exact zXx h1 hs
 | cls id j =>
  simp only [co1] at h;obtain ⟨h',h1,rfl⟩:=vJ h;subst hb;exact zYa h1 hs
 | zYd id j =>
  simp only [co1] at h;obtain ⟨h',h1,rfl⟩:=vJ h;subst hb;exact zUu h1 hs
 | Yd id k =>
  simp only [co1] at h;obtain ⟨h',h1,rfl⟩:=vJ h;subst hb;exact zYc h1 hs
 | Nj id j =>
  simp only [co1] at h;obtain ⟨h',h1,rfl⟩:=vJ h;subst hb;exact zUv h1 hs
 | shut id =>
  simp only [co1] at h;obtain ⟨h',h1,rfl⟩:=vJ h;subst hb;exact zUw h1 hs
 | slR i =>
  simp only [co1] at h;split at h
  ·rename_i id ver hi;split at h
   ·rename_i e t v rows wr ho;simp only [aA,aB] at h;obtain ⟨rfl,rfl⟩:=h;have hv:=aM hb;refine ⟨β,hs.heap,hs.defers,by simpa using hs.size,fun j u hu=>?_⟩;by_cases hij:i=j
    ·subst hij;rw [List.getElem?_set_self (bG.1 hi).1] at hu;simp only [aA] at hu;subst hu;have hr:=hs.reg i _ hi;have hob:=hs.heap.obj _ _ ho;simp only [Ob.Rel] at hob;obtain ⟨_,_,hpv,_,_,hpl,_⟩:=hob;simp only [V.Rel,L.Rel] at hr ⊢;obtain ⟨h1,h2,h3,c,h4,h5,h6⟩:=hr;exact ⟨h1,h2,h3,c,h4,h5,fun hvv=>by have:=h6 hvv;rwa [hpl] at this⟩
    ·rw [List.getElem?_set_ne hij] at hu;exact hs.reg j u hu
   ·cases h
  ·simp only [aA,aB] at h;obtain ⟨_,rfl⟩:=h;exact ⟨β,hs⟩
  ·cases h
 | yEj i j t =>
  simp only [co1] at h;split at h
  ·rename_i ls e te ti hi het;obtain ⟨ts,_,_,hti,_,hsz,hpos,hby⟩:=iB het;split at h
   ·simp only [aA,aB] at h;obtain ⟨_,rfl⟩:=h;exact ⟨β,hs⟩
   split at h
   ·rename_i ls' hset;simp only [aA,aB] at h;obtain ⟨_,rfl⟩:=h;obtain ⟨β',h1,h2,h3⟩:=Di (e:=e) (t:=te) hs hpos;refine ⟨β',h2.heap,h2.defers,by simpa using h2.size,fun k v hv=>?_⟩;by_cases hij:i=k
    ·subst hij;rw [List.getElem?_set_self (bG.1 hi).1] at hv;simp only [aA] at hv;subst hv;obtain ⟨cs,e1,e2⟩:=h2.reg i _ hi;exact ⟨cs,e1,aJ.nX h3 hset e2⟩
    ·rw [List.getElem?_set_ne hij] at hv;exact h2.reg k v hv
   ·cases h
  ·cases h
 | yEk i j =>
  simp only [co1] at h;split at h
  ·rename_i ls hi;split at h
   ·rename_i l hl;split at h
    ·simp only [aA,aB] at h;obtain ⟨_,rfl⟩:=h;exact ⟨β,hs⟩
    split at h
    ·rename_i c l' h' hf;simp only [aA,aB] at h;obtain ⟨rfl,rfl⟩:=h;subst hb;obtain ⟨k1,k2,k3,k4,_⟩:=zDg hf hs.heap;refine ⟨β,k1,hs.defers,by simpa using hs.size,fun k u hu=>?_⟩;by_cases hij:i=k
     ·subst hij;rw [List.getElem?_set_self (bG.1 hi).1] at hu;simp only [aA] at hu;subst hu;obtain ⟨cs,e1,e2⟩:=hs.reg i _ hi;exact ⟨cs,e1,aJ.zAh (fun b j _ hb=>k2 b j hb) hl k3 e2⟩
     ·rw [List.getElem?_set_ne hij] at hu;exact (hs.reg k u hu).mono (Moves.refl β) (Keep.refl _ w) fun b j _ hb=>k2 b j hb
    ·cases h
   ·cases h
  ·cases h
 | gc ρ=>exact zOv hkf hfx h hs
 | gcA k =>
  simp only [co1] at h;split at h
  ·rename_i hp;simp only [Co.fx] at hfx;exact zOv (Nat.le_trans hkf (bR hfx)) hp h hs
  ·cases h
 | orn id j to off =>
  simp only [co1] at h;split at h
  ·rename_i eb ls hi;split at h
   ·rename_i l hl;split at h
    ·rename_i l' hf;simp only [aA,aB] at h;obtain ⟨_,rfl⟩:=h;have hob:=hs.heap.obj _ _ hi;simp only [Ob.Rel] at hob;obtain ⟨_,_,bb,cs,hb,hls,hheap⟩:=hob;have hnew:aJ β w (C.N β σ.h) (ls.set j l') cs:=aJ.setAt hl (fun c hr=>zYh hf hr) hls;have:=hs.Kz (cs':=cs) hi hb hheap hnew;rw [setRow_self w bb cs.toArray eb (0,0) hheap] at this;exact ⟨β,this⟩
    ·cases h
   ·cases h
  ·cases h
 | yEh i =>
  simp only [co1] at h;split at h
  ·rename_i l hi;split at h
   ·simp only [aA,aB] at h;obtain ⟨_,rfl⟩:=h;exact ⟨β,hs⟩
   split at h
   ·rename_i c l' h' hf;simp only [aA,aB] at h;obtain ⟨rfl,rfl⟩:=h;subst hb;obtain ⟨k1,k2,k3,k4,_⟩:=zDg hf hs.heap;refine ⟨β,k1,hs.defers,by simpa using hs.size,fun j u hu=>?_⟩;by_cases hij:i=j
    ·subst hij;rw [List.getElem?_set_self (bG.1 hi).1] at hu;simp only [aA] at hu;subst hu;exact k3 _ (hs.reg i _ hi)
    ·rw [List.getElem?_set_ne hij] at hu;exact (hs.reg j u hu).mono (Moves.refl β) (Keep.refl _ w) fun b j _ hb=>k2 b j hb
   ·cases h
  ·cases h
 | yEi id j =>
  simp only [co1] at h;split at h
  ·rename_i eb ls hi;split at h
   ·rename_i l hl;split at h
    ·simp only [aA,aB] at h;obtain ⟨_,rfl⟩:=h;exact ⟨β,hs⟩
    split at h
    ·rename_i c l' h' hf;simp only [aA,aB] at h;obtain ⟨rfl,rfl⟩:=h;subst hb;obtain ⟨k1,k2,k3,k4,k5⟩:=zDg hf hs.heap;obtain ⟨o',h1,h2⟩:=k5 id _ hi;have h2:=h2 eb ls rfl;subst h2;have hs':Sim C β ⟨σ.r,h'⟩ a w:=⟨k1,hs.defers,hs.size,fun i v hv=>(hs.reg i v hv).mono (Moves.refl β) (Keep.refl _ w) fun b j _ hb=>k2 b j hb⟩;have hob:=k1.obj _ _ h1;have zDa:=hs.heap.obj _ _ hi;simp only [Ob.Rel] at hob zDa;obtain ⟨_,_,bb,cs,hb,hls,hheap⟩:=hob;obtain ⟨_,_,bb0,cs0,hb0,yIi,zJm⟩:=zDa;rw [hb] at hb0;simp only [aA] at hb0;subst hb0;rw [hheap] at zJm;simp only [aA,Obj.cells.injEq,and_true] at zJm;have hcs:cs0=cs:=by have:=congrArg Array.toList zJm;simpa using this.symm
     subst hcs;have hnew:aJ β w (C.N β h') (ls.set j l') cs0:=aJ.zAh (fun b j _ hb=>k2 b j hb) hl k3 yIi;have:=hs'.Kz (cs':=cs0) h1 hb hheap hnew;rw [setRow_self w bb cs0.toArray eb (0,0) hheap] at this;exact ⟨β,this⟩
    ·cases h
   ·cases h
  ·cases h
 | keep m =>
  simp only [co1,aA,aB] at h;obtain ⟨rfl,rfl⟩:=h;refine ⟨β,hs.heap,hs.defers,by rw [zG];exact hs.size,fun i v hv=>?_⟩;rcases Jf m σ.r i v hv with rfl|h1
  ·trivial
  ·exact hs.reg i v h1
 | trunc n =>
  simp only [co1] at h;split at h
  ·rename_i hc;simp only [aD] at hc;simp only [aA,aB] at h;obtain ⟨rfl,rfl⟩:=h;exact hs.trunc (Nat.le_trans hkf (bR hfx)) (bR hc.1) hc.2.1 hc.2.2
  ·cases h
 | Rc i t =>
  simp only [co1] at h;split at h
  ·rename_i e te ti hi het;obtain ⟨ts,_,_,hti,_,hsz,hpos,hby⟩:=iB het;simp only [aA,aB] at h;obtain ⟨rfl,rfl⟩:=h;obtain ⟨β',h1,h2,h3⟩:=Di (e:=e) (t:=te) hs hpos;refine ⟨β',h2.heap,h2.defers,by simpa using h2.size,fun j v hv=>?_⟩;by_cases hij:i=j
   ·subst hij;rw [List.getElem?_set_self (bG.1 hi).1] at hv;simp only [aA] at hv;subst hv;have:=hs.reg i _ hi;simp only [V.Rel,L.Rel,aL,and_true] at this;rw [this];exact h3
   ·rw [List.getElem?_set_ne hij] at hv;exact h2.reg j v hv
  ·simp only [aA,aB] at h;obtain ⟨_,rfl⟩:=h;exact ⟨β,hs⟩
  ·cases h
 | ownB id j t =>
  simp only [co1] at h;split at h
  ·rename_i eb ls e te ti hi het;obtain ⟨ts,_,_,hti,_,hsz,hpos,hby⟩:=iB het;split at h
   ·simp only [aA,aB] at h;obtain ⟨_,rfl⟩:=h;exact ⟨β,hs⟩
   split at h
   ·rename_i ls' hset;simp only [aA,aB] at h;obtain ⟨rfl,rfl⟩:=h;obtain ⟨β',h1,h2,h3⟩:=Di (e:=e) (t:=te) hs hpos;have hi':(σ.h++[.arr e te 0 [] true])[id]?=some (.box eb ls):=by
     rw [iG (bG.1 hi).1];exact hi
    have hob:=h2.heap.obj _ _ hi';simp only [Ob.Rel] at hob;obtain ⟨_,_,bb,cs,hb,hls,hheap⟩:=hob;have:=h2.Kz (cs':=cs) hi' hb hheap (aJ.nX h3 hset hls);rw [setRow_self w bb cs.toArray eb (0,0) hheap] at this;exact ⟨β',this⟩
   ·cases h
  ·cases h
 | yEf i t =>
  simp only [co1] at h;split at h
  ·rename_i hi;simp only [aA,aB] at h;obtain ⟨rfl,rfl⟩:=h;refine ⟨β,hs.heap,hs.defers,by simpa using hs.size,fun j v hv=>?_⟩;by_cases hij:i=j
   ·subst hij;rw [List.getElem?_set_self (bG.1 hi).1] at hv;simp only [aA] at hv;subst hv;have:=hs.reg i _ hi;simp only [V.Rel,L.Rel,Ty.Rel,aL,and_true] at this ⊢;exact ⟨_,rfl,.inl ⟨this,rfl⟩⟩
   ·rw [List.getElem?_set_ne hij] at hv;exact hs.reg j v hv
  ·cases h
 | yEg id j t =>
  simp only [co1] at h;split at h
  ·rename_i eb ls hi;split at h
   ·rename_i ls' hset;simp only [aA,aB] at h;obtain ⟨rfl,rfl⟩:=h;have hob:=hs.heap.obj _ _ hi;simp only [Ob.Rel] at hob;obtain ⟨_,_,bb,cs,hb,hls,hheap⟩:=hob;have:=hs.Kz (cs':=cs) hi hb hheap (aJ.nX (l:=.val (.slice t) []) (by simp only [L.Rel,Ty.Rel];exact ⟨_,rfl,.inl ⟨rfl,rfl⟩⟩) hset hls);rw [setRow_self w bb cs.toArray eb (0,0) hheap] at this;exact ⟨β,this⟩
   ·cases h
  ·cases h
 | ver id =>
  simp only [co1] at h;split at h
  ·rename_i e t v rows wr ho;split at h
   ·rename_i hc;simp only [aD] at hc;simp only [aA,aB] at h;obtain ⟨rfl,rfl⟩:=h;exact ⟨_,hs.cB ho hc.1 hc.2⟩
   ·cases h
  ·cases h
theorem Bd {ρ:Type}(hT:bI C.P T) {kf:Nat}(hkf:C.fix.length<=kf) {k:St->Option ρ}{r:ρ}:∀ {cs:List Co}{β:Nat->Pl}{σ:St}{a:Act},bP (Co.fx kf) cs=true->norm T cs σ k=some r->Sim C β σ a w->∃ β' σ',Sim C β' σ' a w∧k σ'=some r
 | [],β,σ,a,_,h,hs=>⟨β,σ,hs,h⟩
 | c::cs,β,σ,a,hfx,h,hs=>by
  simp only [bP,aD] at hfx;simp only [norm] at h;split at h
  ·rename_i b σ' hc;obtain ⟨hb,hk⟩:=gK h;obtain ⟨β',hs'⟩:=yCg hT hkf hfx.1 hc hb hs;exact Bd hT hkf hfx.2 hk hs'
  ·cases h
end
end Go.Dec
namespace Go.Dec
inductive LS where
 | v (t:Ty)
 | ptr (id off:Nat)
 | own (id:Nat)
 | clo (f:Nat) (caps:List (Nat × Nat))
 | any (n:Nat)
 | fO (id off:Nat)
 | sl (id:Nat)
 | dD
 | gH (id off:Nat)
 | mp (id:Nat)
def yEl (caps:List (Nat×Nat)):List L:=caps.map fun p => .ptr p.1 p.2
def zHz:List (Nat×Nat)->List L->Bool | [],[]=>true | p :: r,.ptr a b :: m=>Nat.beq p.1 a&&(Nat.beq p.2 b&&zHz r m) | _,_=>false
theorem zJn:∀ {caps:List (Nat × Nat)}{m:List L},zHz caps m=true->m=yEl caps
 | [],[],_=>rfl
 | (i,o)::r,l::m,h=>by
  cases l<;>simp only [zHz,aD,Bool.false_eq_true] at h
  obtain ⟨h1,h2,h3⟩:=h;obtain rfl:i=_:=aM h1;obtain rfl:o=_:=aM h2;rw [zJn h3];rfl
 | [],_::_,h=>by cases h
 | _::_,[],h=>by cases h
@[reducible] def LTs:List LS->Type->Type
 | [],A=>A
 | .v t::r,A=>t.den × LTs r A
 | .fO _ _::r,A=>Nat × LTs r A
 | .sl _::r,A=>Nat × (Nat × LTs r A)
 | .ptr _ _::r,A=>LTs r A
 | .own _::r,A=>LTs r A
 | .clo _ _::r,A=>LTs r A
 | .any _::r,A=>LTs r A
 | .dD::r,A=>LTs r A
 | .gH _ _::r,A=>LTs r A
 | .mp _::r,A=>LTs r A
structure Slot where
 i:Nat
 agg:Bool
 ls:List LS
inductive OS where
 | box (e:TypeId) (ls:List LS)
 | row (e:TypeId) (t:Ty)
 | fm (tab:List (MK × Nat))
 | dm (kt vt:Ty)
 | stk (e ei:TypeId)
@[reducible] def RTs:List Slot->Type->Type
 | [],A=>A
 | s::r,A=>LTs s.ls (RTs r A)
@[reducible] def OTs:List OS->Type->Type
 | [],A=>A
 | .box _ ls::r,A=>LTs ls (OTs r A)
 | .row _ t::r,A=>List t.den × OTs r A
 | .fm _::r,A=>OTs r A
 | .dm kt vt::r,A=>List (kt.den × vt.den) × OTs r A
 | .stk _ _::r,A=>List (Int × Int × List Int × List Int × Unit) × OTs r A
structure Sh where
 n:Nat
 rs:List Slot
 os:List OS
@[reducible] def Sh.X (sh:Sh):Type:=RTs sh.rs (OTs sh.os Unit)
def eD {A:Type}:(ls:List LS)->LTs ls A->List L×A | [],x=>([],x) | .v t :: r,x=>(.val t x.1 :: (eD r x.2).1,(eD r x.2).2) | .ptr a b :: r,x=>(.ptr a b :: (eD (A:=A) r x).1,(eD (A:=A) r x).2) | .own a :: r,x=>(.own a 0 :: (eD (A:=A) r x).1,(eD (A:=A) r x).2) | .clo f caps :: r,x=>(.clo f (yEl caps) :: (eD (A:=A) r x).1,(eD (A:=A) r x).2) | .fO a o :: r,x=>(.fO a 0 x.1 o :: (eD r x.2).1,(eD r x.2).2) | .sl a :: r,x=>(.sl a 0 x.1 x.2.1 :: (eD r x.2.2).1,(eD r x.2.2).2) | .dD :: r,x=>(.dD :: (eD (A:=A) r x).1,(eD (A:=A) r x).2) | .gH a b :: r,x=>(.gH a b :: (eD (A:=A) r x).1,(eD (A:=A) r x).2) | .mp a :: r,x=>(.mp a :: (eD (A:=A) r x).1,(eD (A:=A) r x).2) | .any n :: r,x=>(.bad n :: (eD (A:=A) r x).1,(eD (A:=A) r x).2)
def zJo (agg:Bool) (ls:List L):V :=
 match agg,ls with
 | true,ls=>.agg ls
 | false,[l]=>.one l
 | _,_=>.bS
def Fh {A:Type}:(rs:List Slot)->List V->RTs rs A->List V×A | [],acc,x=>(acc,x) | s :: r,acc,x=>Fh r (acc.set s.i (zJo s.agg (eD s.ls x).1)) (eD s.ls x).2
def eH {A:Type}:(os:List OS)->OTs os A->List Ob×A | [],x=>([],x) | .box e ls :: r,x=>(.box e (eD ls x).1 :: (eH r (eD ls x).2).1,(eH r (eD ls x).2).2) | .row e t :: r,x=>(.arr e t 0 x.1 true :: (eH r x.2).1,(eH r x.2).2) | .fm tab :: r,x=>(.fm tab :: (eH (A:=A) r x).1,(eH (A:=A) r x).2) | .dm kt vt :: r,x=>(.dm kt vt x.1 :: (eH r x.2).1,(eH r x.2).2) | .stk e ei :: r,x=>(.stk e ei 0 x.1 none :: (eH r x.2).1,(eH r x.2).2)
def Sh.enc (sh:Sh) (x:sh.X):St :=let p:=Fh sh.rs (List.replicate sh.n .bS) x
 ⟨p.1,(eH sh.os p.2).1⟩
def bT {A:Type}:(ls:List LS)->List L->Option (A->LTs ls A)
 | [],[]=>some id
 | .v t::r,l::m =>
  match l.asT t,bT (A:=A) r m with
  | some x,some f=>some fun a=>(x,f a)
  | _,_=>none
 | .ptr a b::r,.ptr a' b'::m=>match Nat.beq a a'&&Nat.beq b b' with
  | true=>bT (A:=A) r m
  | false=>none
 | .own a::r,.own a' u::m=>match Nat.beq a a'&&Nat.beq u 0 with
  | true=>bT (A:=A) r m
  | false=>none
 | .clo f caps::r,.clo f' m'::m=>match Nat.beq f f'&&zHz caps m' with
  | true=>bT (A:=A) r m
  | false=>none
 | .fO a o::r,.fO a' u i o'::m=>match Nat.beq a a'&&(Nat.beq u 0&&Nat.beq o o'),bT (A:=A) r m with
  | true,some f=>some fun x=>(i,f x)
  | _,_=>none
 | .sl a::r,.sl a' u i n::m=>match Nat.beq a a'&&Nat.beq u 0,bT (A:=A) r m with
  | true,some f=>some fun x=>(i,n,f x)
  | _,_=>none
 | .dD::r,.dD::m=>bT (A:=A) r m
 | .gH a b::r,.gH a' b'::m=>match Nat.beq a a'&&Nat.beq b b' with
  | true=>bT (A:=A) r m
  | false=>none
 | .mp a::r,.mp a'::m=>match Nat.beq a a' with
  | true=>bT (A:=A) r m
  | false=>none
 | .any n::r,l::m=>match Nat.beq n l.size with
  | true=>bT (A:=A) r m
  | false=>none
 | _,_=>none
def zAp (agg:Bool) (v:V):Option (List L) :=
 match agg,v with
 | true,.agg ls=>some ls
 | false,.one l=>some [l]
 | _,_=>none
def zAq {A:Type}(σr:List V):(rs:List Slot)->Option (A->RTs rs A)
 | []=>some id
 | s::r =>
  match zAp s.agg (σr.getD s.i .bS) with
  | some ls =>
   match bT (A:=RTs r A) s.ls ls,zAq σr r with
   | some f,some g=>some fun a=>f (g a)
   | _,_=>none
  | none=>none
def eT {A:Type}:(os:List OS)->List Ob->Option (A->OTs os A)
 | [],[]=>some id
 | .box e ls::r,.box e' l::m =>
  match Nat.beq e e',bT (A:=OTs r A) ls l,eT (A:=A) r m with
  | true,some f,some g=>some fun a=>f (g a)
  | _,_,_=>none
 | .row e t::r,.arr e' t' ver rows wr::m =>
  match Nat.beq e e'&&(Nat.beq ver 0&&wr),eT (A:=A) r m with
  | true,some g=>if h:t'=t then some fun a=>(h ▸ rows,g a) else none
  | _,_=>none
 | .fm tab::r,.fm yEm::m=>if tab=yEm then eT (A:=A) r m else none
 | .dm kt vt::r,.dm kt' vt' es::m =>
  match eT (A:=A) r m with
  | some g=>if h:kt'=kt∧vt'=vt then some fun a=>(h.1 ▸ h.2 ▸ es,g a) else none
  | none=>none
 | .stk e ei::r,.stk e' ei' ver rows none::m =>
  match Nat.beq e e'&&(Nat.beq ei ei'&&Nat.beq ver 0),eT (A:=A) r m with
  | true,some g=>some fun a=>(rows,g a)
  | _,_=>none
 | _,_=>none
def Sh.dec (sh:Sh) (σ:St):Option sh.X :=
 match Nat.beq σ.r.length sh.n,zAq (A:=OTs sh.os Unit) σ.r sh.rs,eT (A:=Unit) sh.os σ.h with
 | true,some f,some g=>some (f (g ()))
 | _,_,_=>none
section
variable {β:Nat->Pl}{w:World}{N:Nat->Nat->Prop}{A:Type}
theorem jF:∀ {ls:List LS}{l:List L}{f:A->LTs ls A}(a:A) {cs:List Value},bT ls l=some f->aJ β w N l cs->aJ β w N (eD ls (f a)).1 cs∧(eD ls (f a)).2=a
 | [],[],f,a,cs,h,hr=>by
  simp only [bT,aA] at h;subst h;exact ⟨hr,rfl⟩
 | .v t::r,l::m,f,a,cs,h,hr=>by
  simp only [bT] at h;split at h
  ·rename_i x g h1 h2;simp only [aA] at h;subst h;obtain ⟨c1,c2,e,r1,r2⟩:=hr;obtain ⟨g1,g2⟩:=jF a h2 r2;exact ⟨⟨c1,c2,e,by simpa only [L.Rel] using L.Uo h1 r1,g1⟩,g2⟩
  ·cases h
 | .ptr i o::r,l::m,f,a,cs,h,hr=>by
  cases l<;>simp only [bT,reduceCtorEq] at h
  split at h
  ·rename_i hb;simp only [aD] at hb;have e1:=aM hb.1;have e2:=aM hb.2;subst e1 e2;obtain ⟨c1,c2,e,r1,r2⟩:=hr;obtain ⟨g1,g2⟩:=jF a h r2;exact ⟨⟨c1,c2,e,r1,g1⟩,g2⟩
  ·cases h
 | .own i::r,l::m,f,a,cs,h,hr=>by
  cases l<;>simp only [bT,reduceCtorEq] at h
  split at h
  ·rename_i hb;simp only [aD] at hb;have e1:=aM hb.1;have e2:=aM hb.2;subst e1 e2;obtain ⟨c1,c2,e,r1,r2⟩:=hr;obtain ⟨g1,g2⟩:=jF a h r2;exact ⟨⟨c1,c2,e,r1,g1⟩,g2⟩
  ·cases h
 | .clo i caps::r,l::m,f,a,cs,h,hr=>by
  cases l<;>simp only [bT,reduceCtorEq] at h
  split at h
  ·rename_i hb;simp only [aD] at hb;have e1:=aM hb.1;have e2:=zJn hb.2;subst e1 e2;obtain ⟨c1,c2,e,r1,r2⟩:=hr;obtain ⟨g1,g2⟩:=jF a h r2;exact ⟨⟨c1,c2,e,r1,g1⟩,g2⟩
  ·cases h
 | .fO i o::r,l::m,f,a,cs,h,hr=>by
  cases l<;>simp only [bT,reduceCtorEq] at h
  split at h
  ·rename_i f1 hb h2;simp only [aA] at h;subst h;simp only [aD] at hb;have e1:=aM hb.1;have e2:=aM hb.2.1;have e3:=aM hb.2.2;subst e1 e2 e3;obtain ⟨c1,c2,e,r1,r2⟩:=hr;obtain ⟨g1,g2⟩:=jF a h2 r2;exact ⟨⟨c1,c2,e,r1,g1⟩,g2⟩
  ·cases h
 | .sl i::r,l::m,f,a,cs,h,hr=>by
  cases l<;>simp only [bT,reduceCtorEq] at h
  split at h
  ·rename_i f1 hb h2;simp only [aA] at h;subst h;simp only [aD] at hb;have e1:=aM hb.1;have e2:=aM hb.2;subst e1 e2;obtain ⟨c1,c2,e,r1,r2⟩:=hr;obtain ⟨g1,g2⟩:=jF a h2 r2;exact ⟨⟨c1,c2,e,r1,g1⟩,g2⟩
  ·cases h
 | .gH i o::r,l::m,f,a,cs,h,hr=>by
  cases l<;>simp only [bT,reduceCtorEq] at h
  split at h
  ·rename_i hb;simp only [aD] at hb;have e1:=aM hb.1;have e2:=aM hb.2;subst e1 e2;obtain ⟨c1,c2,e,r1,r2⟩:=hr;obtain ⟨g1,g2⟩:=jF a h r2;exact ⟨⟨c1,c2,e,r1,g1⟩,g2⟩
  ·cases h
 | .dD::r,l::m,f,a,cs,h,hr=>by
  cases l<;>simp only [bT,reduceCtorEq] at h
  obtain ⟨c1,c2,e,r1,r2⟩:=hr;obtain ⟨g1,g2⟩:=jF a h r2;exact ⟨⟨c1,c2,e,r1,g1⟩,g2⟩
 | .mp i::r,l::m,f,a,cs,h,hr=>by
  cases l<;>simp only [bT,reduceCtorEq] at h
  split at h
  ·rename_i hb;have e1:=aM hb;subst e1;obtain ⟨c1,c2,e,r1,r2⟩:=hr;obtain ⟨g1,g2⟩:=jF a h r2;exact ⟨⟨c1,c2,e,r1,g1⟩,g2⟩
  ·cases h
 | .any n::r,l::m,f,a,cs,h,hr=>by
  simp only [bT] at h;split at h
  ·rename_i hb;have e1:=aM hb;subst e1;obtain ⟨c1,c2,e,r1,r2⟩:=hr;obtain ⟨g1,g2⟩:=jF a h r2;exact ⟨⟨c1,c2,e,by simp only [L.Rel];exact ⟨r1.length,fun c hc=>r1.one c hc⟩,g1⟩,g2⟩
  ·cases h
 | [],_::_,_,_,_,h,_=>by simp [bT] at h
 | .v _::_,[],_,_,_,h,_=>by simp [bT] at h
 | .ptr .. :: _,[],_,_,_,h,_=>by simp [bT] at h
 | .own .. :: _,[],_,_,_,h,_=>by simp [bT] at h
 | .clo .. :: _,[],_,_,_,h,_=>by simp [bT] at h
 | .fO .. :: _,[],_,_,_,h,_=>by simp [bT] at h
 | .sl .. :: _,[],_,_,_,h,_=>by simp [bT] at h
 | .dD::_,[],_,_,_,h,_=>by simp [bT] at h
 | .gH .. :: _,[],_,_,_,h,_=>by simp [bT] at h
 | .mp .. :: _,[],_,_,_,h,_=>by simp [bT] at h
 | .any .. :: _,[],_,_,_,h,_=>by simp [bT] at h
theorem mI:∀ {ls:List LS}{l:List L}{f:A->LTs ls A}(a:A),bT ls l=some f->(eD ls (f a)).1.length=l.length
 | [],[],f,a,h=>by
  simp only [bT,aA] at h;subst h;rfl
 | .v t::r,l::m,f,a,h=>by
  simp only [bT] at h;split at h
  ·rename_i x g h1 h2;simp only [aA] at h;subst h;simp only [eD,List.length_cons,mI a h2]
  ·cases h
 | .ptr i o::r,l::m,f,a,h=>by
  cases l<;>simp only [bT,reduceCtorEq] at h
  split at h
  ·simp only [eD,List.length_cons,mI a h]
  ·cases h
 | .mp i::r,l::m,f,a,h=>by
  cases l<;>simp only [bT,reduceCtorEq] at h
  split at h
  ·simp only [eD,List.length_cons,mI a h]
  ·cases h
 | .own i::r,l::m,f,a,h=>by
  cases l<;>simp only [bT,reduceCtorEq] at h
  split at h
  ·simp only [eD,List.length_cons,mI a h]
  ·cases h
 | .clo i caps::r,l::m,f,a,h=>by
  cases l<;>simp only [bT,reduceCtorEq] at h
  split at h
  ·simp only [eD,List.length_cons,mI a h]
  ·cases h
 | .fO i o::r,l::m,f,a,h=>by
  cases l<;>simp only [bT,reduceCtorEq] at h
  split at h
  ·rename_i f1 hb h2;simp only [aA] at h;subst h;simp only [eD,List.length_cons,mI a h2]
  ·cases h
 | .sl i::r,l::m,f,a,h=>by
  cases l<;>simp only [bT,reduceCtorEq] at h
  split at h
  ·rename_i f1 hb h2;simp only [aA] at h;subst h;simp only [eD,List.length_cons,mI a h2]
  ·cases h
 | .gH i o::r,l::m,f,a,h=>by
  cases l<;>simp only [bT,reduceCtorEq] at h
  split at h
  ·simp only [eD,List.length_cons,mI a h]
  ·cases h
 | .dD::r,l::m,f,a,h=>by
  cases l<;>simp only [bT,reduceCtorEq] at h
  have:=mI a h;simp only [eD,List.length_cons,this]
 | .any n::r,l::m,f,a,h=>by
  simp only [bT] at h;split at h
  ·simp only [eD,List.length_cons,mI a h]
  ·cases h
 | [],_::_,_,_,h=>by simp [bT] at h
 | .v _::_,[],_,_,h=>by simp [bT] at h
 | .ptr .. :: _,[],_,_,h=>by simp [bT] at h
 | .own .. :: _,[],_,_,h=>by simp [bT] at h
 | .clo .. :: _,[],_,_,h=>by simp [bT] at h
 | .fO .. :: _,[],_,_,h=>by simp [bT] at h
 | .sl .. :: _,[],_,_,h=>by simp [bT] at h
 | .dD::_,[],_,_,h=>by simp [bT] at h
 | .gH .. :: _,[],_,_,h=>by simp [bT] at h
 | .mp .. :: _,[],_,_,h=>by simp [bT] at h
 | .any .. :: _,[],_,_,h=>by simp [bT] at h
theorem zRn {agg:Bool}{v:V}{ls ls':List L}{x:Value}(hs:zAp agg v=some ls) (hr:v.Rel β w N x) (hlen:ls'.length=ls.length) (h:∀ cs,aJ β w N ls cs->aJ β w N ls' cs):(zJo agg ls').Rel β w N x:=by
 unfold zAp at hs;split at hs
 ·simp only [aA] at hs;subst hs;obtain ⟨cs,e,hr⟩:=hr;exact ⟨cs,e,h cs hr⟩
 ·rename_i l;simp only [aA] at hs;subst hs;match ls',hlen with
  | [l'],_ =>
   obtain ⟨c1,c2,e,h1,h2⟩:=h [x] ⟨[x],[],rfl,hr,rfl⟩;simp only [aJ] at h2;subst h2;rw [List.append_nil] at e;subst e;exact h1
 ·cases hs
def Gl (β:Nat->Pl) (w:World) (N:Nat->Nat->Prop) (r:List V) (tmps:Array Value):Prop := ∀ (i:Nat) (v:V),r[i]? = some v->v.Rel β w N (tmps.getD i undef)
theorem Gl.set {r:List V}{tmps:Array Value}(h:Gl β w N r tmps) {i:Nat}{v:V}(hv:v.Rel β w N (tmps.getD i undef)):Gl β w N (r.set i v) tmps:=by
 intro j u hu;by_cases hij:i=j
 ·subst hij;rcases iZ i r.length with hi|hi
  ·rw [List.getElem?_set_self hi] at hu;simp only [aA] at hu;subst hu;exact hv
  ·rw [List.getElem?_eq_none (by simpa using hi)] at hu;cases hu
 ·rw [List.getElem?_set_ne hij] at hu;exact h j u hu
theorem zFf {σr:List V}{tmps:Array Value}(hr:Gl β w N σr tmps):∀ {rs:List Slot}{f:A->RTs rs A}(a:A) {acc:List V},zAq σr rs=some f->Gl β w N acc tmps ->
  Gl β w N (Fh rs acc (f a)).1 tmps∧(Fh rs acc (f a)).2=a∧(Fh rs acc (f a)).1.length=acc.length
 | [],f,a,acc,h,ha=>by
  simp only [zAq,aA] at h;subst h;exact ⟨ha,rfl,rfl⟩
 | s::r,f,a,acc,h,ha=>by
  simp only [zAq] at h;split at h
  ·rename_i ls hls;split at h
   ·rename_i f1 g h1 h2;simp only [aA] at h;subst h;have hv:(σr.getD s.i .bS).Rel β w N (tmps.getD s.i undef):=by
     rw [List.getD_eq_getElem?_getD];cases hg:σr[s.i]? with
     | none=>trivial
     | some v=>exact hr s.i v hg
    have hmk:=zRn hls hv (mI (g a) h1) fun cs hc=>(jF (g a) h1 hc).1
    have e2:(eD s.ls (f1 (g a))).2=g a:=by
     have hp:∃ cs,aJ β w N ls cs:=by
      unfold zAp at hls;split at hls
      ·rename_i l heq;simp only [aA] at hls;subst hls;rw [heq] at hv;obtain ⟨cs,_,hc⟩:=hv;exact ⟨cs,hc⟩
      ·rename_i l heq;simp only [aA] at hls;subst hls;rw [heq] at hv;exact ⟨[_],[_],[],rfl,hv,rfl⟩
      ·cases hls
     obtain ⟨cs,hc⟩:=hp;exact (jF (g a) h1 hc).2
    simp only [Fh];rw [e2];obtain ⟨k1,k2,k3⟩:=zFf hr a (acc:=acc.set s.i (zJo s.agg (eD s.ls (f1 (g a))).1)) h2 (ha.set hmk);exact ⟨k1,k2,by rw [k3,List.length_set]⟩
   ·cases h
  ·cases h
def Dm (β:Nat->Pl) (w:World) (N:Nat->Nat->Prop):Nat->List Ob->List Ob->Prop
 | _,[],[]=>True
 | i,o::r,o'::r'=>(o.Rel β w N (β i)->o'.Rel β w N (β i))∧(o'.wr=o.wr∧o'.mW=o.mW)∧Dm β w N (i+1) r r'
 | _,_,_=>False
theorem yI {w:World}:∀ {os:List OS}{h:List Ob}{f:A->OTs os A}(a:A) (i:Nat),eT os h=some f->(∀ (j:Nat) (o:Ob),h[j]?=some o->o.Rel β w N (β (i+j)))->Dm β w N i h (eH os (f a)).1
 | [],[],f,a,i,h,_=>by
  simp only [eT,aA] at h;subst h;trivial
 | .box e ls::r,.box e' l::m,f,a,i,h,hr=>by
  simp only [eT] at h;split at h
  ·rename_i f1 g hb h1 h2;simp only [aA] at h;subst h;have:=aM hb;subst this;have h0:=hr 0 _ rfl;simp only [Ob.Rel,Nat.add_zero] at h0;obtain ⟨_,_,b0,cs0,_,hc0,_⟩:=h0;have e2:=(jF (g a) h1 hc0).2;simp only [eH];refine ⟨?_,⟨rfl,rfl⟩,?_⟩
   ·simp only [Ob.Rel];rintro ⟨k1,k2,b,cs,k3,k4,k5⟩;exact ⟨k1,k2,b,cs,k3,(jF (g a) h1 k4).1,k5⟩
   ·rw [e2];exact yI a (i+1) h2 fun j o ho=>by
     have:=hr (j+1) o (by simpa using ho)
     rwa [show i+(j+1)=i+1+j by omega] at this
  ·cases h
 | .row e t::r,.arr e' t' ver rows wr::m,f,a,i,h,hr=>by
  simp only [eT] at h;split at h
  ·rename_i g hb h2;split at h
   ·rename_i ht;subst ht;simp only [aA] at h;subst h;simp only [aD] at hb;have e1:=aM hb.1;have e2:=aM hb.2.1;have e3:=hb.2.2;subst e1 e2 e3;simp only [eH];refine ⟨fun h=>h,⟨rfl,rfl⟩,?_⟩;exact yI a (i+1) h2 fun j o ho=>by
     have:=hr (j+1) o (by simpa using ho)
     rwa [show i+(j+1)=i+1+j by omega] at this
   ·cases h
  ·cases h
 | [],_::_,_,_,_,h,_=>by simp [eT] at h
 | .box .. :: _,[],_,_,_,h,_=>by simp [eT] at h
 | .row .. :: _,[],_,_,_,h,_=>by simp [eT] at h
 | .box .. :: _,.arr .. :: _,_,_,_,h,_=>by simp [eT] at h
 | .row .. :: _,.box .. :: _,_,_,_,h,_=>by simp [eT] at h
 | .fm tab::r,.fm yEm::m,f,a,i,h,hr=>by
  simp only [eT] at h;split at h
  ·rename_i ht;subst ht;simp only [eH];refine ⟨fun h=>h,⟨rfl,rfl⟩,?_⟩;exact yI a (i+1) h fun j o ho=>by
    have:=hr (j+1) o (by simpa using ho)
    rwa [show i+(j+1)=i+1+j by omega] at this
  ·cases h
 | .dm kt vt::r,.dm kt' vt' es::m,f,a,i,h,hr=>by
  simp only [eT] at h;split at h
  ·rename_i g h2;split at h
   ·rename_i ht;obtain ⟨rfl,rfl⟩:=ht;simp only [aA] at h;subst h;simp only [eH];refine ⟨fun h=>h,⟨rfl,rfl⟩,?_⟩;exact yI a (i+1) h2 fun j o ho=>by
     have:=hr (j+1) o (by simpa using ho)
     rwa [show i+(j+1)=i+1+j by omega] at this
   ·cases h
  ·cases h
 | .stk e ei::r,.stk e' ei' ver rows none::m,f,a,i,h,hr=>by
  simp only [eT] at h;split at h
  ·rename_i g hb h2;simp only [aA] at h;subst h;simp only [aD] at hb;have e1:=aM hb.1;have e2:=aM hb.2.1;have e3:=aM hb.2.2;subst e1 e2 e3;simp only [eH];refine ⟨fun h=>h,⟨rfl,rfl⟩,?_⟩;exact yI a (i+1) h2 fun j o ho=>by
    have:=hr (j+1) o (by simpa using ho)
    rwa [show i+(j+1)=i+1+j by omega] at this
  ·cases h
 | .stk .. :: _,.stk _ _ _ _ (some _)::_,_,_,_,h,_=>by simp [eT] at h
 | .stk .. :: _,[],_,_,_,h,_=>by simp [eT] at h
 | .stk .. :: _,.box .. :: _,_,_,_,h,_=>by simp [eT] at h
 | .stk .. :: _,.arr .. :: _,_,_,_,h,_=>by simp [eT] at h
 | .stk .. :: _,.fm .. :: _,_,_,_,h,_=>by simp [eT] at h
 | .stk .. :: _,.dm .. :: _,_,_,_,h,_=>by simp [eT] at h
 | .box .. :: _,.stk .. :: _,_,_,_,h,_=>by simp [eT] at h
 | .row .. :: _,.stk .. :: _,_,_,_,h,_=>by simp [eT] at h
 | .fm .. :: _,.stk .. :: _,_,_,_,h,_=>by simp [eT] at h
 | .dm .. :: _,.stk .. :: _,_,_,_,h,_=>by simp [eT] at h
 | .fm .. :: _,[],_,_,_,h,_=>by simp [eT] at h
 | .dm .. :: _,[],_,_,_,h,_=>by simp [eT] at h
 | .dm .. :: _,.box .. :: _,_,_,_,h,_=>by simp [eT] at h
 | .dm .. :: _,.arr .. :: _,_,_,_,h,_=>by simp [eT] at h
 | .dm .. :: _,.fm .. :: _,_,_,_,h,_=>by simp [eT] at h
 | .fm .. :: _,.dm .. :: _,_,_,_,h,_=>by simp [eT] at h
 | .box .. :: _,.dm .. :: _,_,_,_,h,_=>by simp [eT] at h
 | .row .. :: _,.dm .. :: _,_,_,_,h,_=>by simp [eT] at h
 | .fm .. :: _,.box .. :: _,_,_,_,h,_=>by simp [eT] at h
 | .fm .. :: _,.arr .. :: _,_,_,_,h,_=>by simp [eT] at h
 | .box .. :: _,.fm .. :: _,_,_,_,h,_=>by simp [eT] at h
 | .row .. :: _,.fm .. :: _,_,_,_,h,_=>by simp [eT] at h
theorem Dm.length {w:World}:∀ {i:Nat}{h h':List Ob},Dm β w N i h h'->h'.length=h.length
 | _,[],[],_=>rfl
 | _,_::_,_::_,h=>by simp [Dm.length h.2.2]
 | _,[],_::_,h=>h.elim
 | _,_::_,[],h=>h.elim
theorem Dm.get {w:World}:∀ {i:Nat}{h h':List Ob},Dm β w N i h h'->∀ (j:Nat) (o':Ob),h'[j]?=some o'->∃ o,h[j]?=some o∧(o'.wr=o.wr∧o'.mW=o.mW)∧(o.Rel β w N (β (i+j))->o'.Rel β w N (β (i+j)))
 | _,[],[],_,j,_,h=>by simp at h
 | i,o::r,o2::r2,h,j,o',hj=>by
  cases j with
  | zero =>
   simp only [List.getElem?_cons_zero,aA] at hj;subst hj;exact ⟨o,rfl,h.2.1,h.1⟩
  | succ j =>
   obtain ⟨u,h1,h2,h3⟩:=Dm.get h.2.2 j o' (by simpa using hj);rw [show i+1+j=i+(j+1) by omega] at h3;exact ⟨u,by simpa using h1,h2,h3⟩
 | _,[],_::_,h,_,_,_=>h.elim
 | _,_::_,[],h,_,_,_=>h.elim
theorem Uz {C:Ctx}{sh:Sh}{σ:St}{a:Act}{w:World}{x:sh.X}(h:sh.dec σ=some x) (hs:Sim C β σ a w):Sim C β (sh.enc x) a w:=by
 unfold Sh.dec at h;split at h
 ·rename_i f g hn hf hg;simp only [aA] at h;subst h;have hn:=aM hn;obtain ⟨k1,k2,k3⟩:=zFf (A:=OTs sh.os Unit) (tmps:=a.tmps) hs.reg (g ()) (acc:=List.replicate sh.n .bS) hf (fun i v hv=>by
   rw [List.getElem?_replicate] at hv;split at hv
   ·simp only [aA] at hv;subst hv;trivial
   ·cases hv)
  have hob:=yI (A:=Unit) (β:=β) (N:=C.N β σ.h) (w:=w) () 0 hg (fun j o ho=>by rw [Nat.zero_add];exact hs.heap.obj j o ho);have eh:(sh.enc (f (g ()))).h=(eH sh.os (g ())).1:=by simp only [Sh.enc];rw [k2]
  have er:(sh.enc (f (g ()))).r=(Fh sh.rs (List.replicate sh.n .bS) (f (g ()))).1:=rfl;have hNN:∀ b j,C.N β (sh.enc (f (g ()))).h b j->C.N β σ.h b j:=fun b j hb=>by
   rcases hb with hb|⟨id,o,ho,hw,hbk⟩
   ·exact .inl hb
   ·rw [eh] at ho;obtain ⟨o0,h1,h2,_⟩:=hob.get id o ho;exact .inr ⟨id,o0,h1,by rw [<- h2.1];exact hw,Ob.rC h2.2 rfl rfl hbk⟩
  refine ⟨⟨?_,?_,?_,?_,hs.heap.n0,hs.heap.frame,hs.heap.size,hs.heap.os,hs.heap.tape,hs.heap.output,fun j o hj=>by
   obtain ⟨k1,k2⟩:=hs.heap.fixed j o hj;exact ⟨by rw [eh,hob.length];exact k1,k2⟩⟩,hs.defers,?_,?_⟩
  ·intro id o ho;rw [eh] at ho;obtain ⟨o0,h1,_,h3⟩:=hob.get id o ho;rw [Nat.zero_add] at h3;exact (h3 (hs.heap.obj id o0 h1)).mono (Moves.refl β) (Keep.refl _ w) (fun b j _ hb=>hNN b j hb) fun _ _=>rfl
  ·intro id hid;rw [eh,hob.length] at hid;exact hs.heap.dead id hid
  ·intro i j o o' b hi hj hbi hbj;rw [eh] at hi hj;obtain ⟨o1,h1,h3,_⟩:=hob.get i o hi;obtain ⟨o2,h2,h4,_⟩:=hob.get j o' hj;exact hs.heap.jA i j o1 o2 b h1 h2 (Ob.jD h3.2 rfl rfl hbi) (Ob.jD h4.2 rfl rfl hbj)
  ·intro id o b ho hb;rw [eh] at ho;obtain ⟨o1,h1,h3,_⟩:=hob.get id o ho;exact hs.heap.Df h1 h3.2 rfl rfl (fun h=>by rw [<- h3.1];exact h) hb
  ·rw [er,k3,List.length_replicate,<- hn,hs.size]
  ·intro i v hv;exact (k1 i v (by rw [er] at hv;exact hv)).mono (Moves.refl β) (Keep.refl _ w) fun b j _ hb=>hNN b j hb
 ·cases h
end
end Go.Dec
