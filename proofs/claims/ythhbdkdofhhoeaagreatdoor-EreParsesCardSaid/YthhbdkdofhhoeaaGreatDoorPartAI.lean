/- Part of a proof over this seat: a library of my own, and what it says of this seat. No statement is proved here. -/
import Derived.Test.YthhbdkdofhhoeaaGreatDoorPartAH
namespace Go.Dec
inductive Co where
 | keep (mask:List Bool)
 | trunc (n:Nat)
 | Fh (i:Nat) (t:TypeId)
 | ownB (id:Nat) (j:Nat) (t:TypeId)
 | yHw (i:Nat) (t:Ty)
 | yHx (id:Nat) (j:Nat) (t:Ty)
 | ver (id:Nat)
 | slR (i:Nat)
 | zNe (i:Nat)
 | yHy (id:Nat) (j:Nat)
 | yHz (i:Nat) (j:Nat) (t:TypeId)
 | yIa (i:Nat) (j:Nat)
 | gc (ρ:List Nat)
 | gcA (k:Nat)
 | orn (id:Nat) (j:Nat) (to off:Nat)
 | opn (id:Nat) (j:Nat)
 | cls (id:Nat) (j:Nat)
 | yBo (id:Nat) (j:Nat)
 | zAp (id:Nat) (k:Nat)
 | Pw (id:Nat) (j:Nat)
 | shut (id:Nat)
def uM:List Bool->List V->List V
 | true :: m,v :: r=>v :: uM m r
 | false :: m,_ :: r=>.bW :: uM m r
 | [],_ :: r=>.bW :: uM [] r
 | _,[]=>[]
mutual
def L.isB (n:Nat):L->Bool
 | .ptr id _=>Nat.blt id n
 | .gM id _=>Nat.blt id n
 | .lX id _ _ _ _=>Nat.blt id n
 | .gB id _ _ _=>Nat.blt id n
 | .sl id _ _ _=>Nat.blt id n
 | .own id _=>Nat.blt id n
 | .mp id=>Nat.blt id n
 | .clo _ caps=>L.Lv n caps
 | _=>true
def L.Lv (n:Nat):List L->Bool
 | []=>true
 | l :: ls=>L.isB n l && L.Lv n ls
end
def Ci (n:Nat):List (Sum L (List L))->Bool
 | []=>true
 | .inl l :: r=>l.isB n && Ci n r
 | .inr ls :: r=>L.Lv n ls && Ci n r
def V.isB (n:Nat):V->Bool
 | .one l=>l.isB n
 | .agg ls=>L.Lv n ls
 | .tup vs=>Ci n vs
 | .bW=>true
def Ob.isB (n:Nat):Ob->Bool
 | .box _ ls=>L.Lv n ls
 | .arr .. => true
 | .fm _=>true
 | .dm .. => true
 | .stk _ _ _ _ none=>true
 | .stk _ _ _ _ (some ls)=>L.Lv n ls
mutual
def L.sG (id v:Nat):L->Bool
 | .gB i u _ _=>!Nat.beq i id || Nat.beq u v
 | .sl i u _ _=>!Nat.beq i id || Nat.beq u v
 | .own i u=>!Nat.beq i id || Nat.beq u v
 | .clo _ caps=>L.xK id v caps
 | _=>true
def L.xK (id v:Nat):List L->Bool
 | []=>true
 | l :: ls=>L.sG id v l && L.xK id v ls
end
mutual
def L.cO (id:Nat):L->L
 | .gB i u a b=>if Nat.beq i id then .gB i 0 a b else .gB i u a b
 | .sl i u a b=>if Nat.beq i id then .sl i 0 a b else .sl i u a b
 | .own i u=>if Nat.beq i id then .own i 0 else .own i u
 | .clo f caps=>.clo f (L.vB id caps)
 | l=>l
def L.vB (id:Nat):List L->List L
 | []=>[]
 | l :: ls=>L.cO id l :: L.vB id ls
end
def Nl (id v:Nat):List (Sum L (List L))->Bool
 | []=>true
 | .inl l :: r=>l.sG id v && Nl id v r
 | .inr ls :: r=>L.xK id v ls && Nl id v r
def V.sG (id v:Nat):V->Bool
 | .one l=>l.sG id v
 | .agg ls=>L.xK id v ls
 | .tup vs=>Nl id v vs
 | .bW=>true
def Px (id:Nat):List (Sum L (List L))->List (Sum L (List L))
 | []=>[]
 | .inl l :: r=>.inl (l.cO id) :: Px id r
 | .inr ls :: r=>.inr (L.vB id ls) :: Px id r
def V.cO (id:Nat):V->V
 | .one l=>.one (l.cO id)
 | .agg ls=>.agg (L.vB id ls)
 | .tup vs=>.tup (Px id vs)
 | .bW=>.bW
def Ob.sG (id v:Nat):Ob->Bool
 | .box _ ls=>L.xK id v ls
 | .arr .. => true
 | .fm _=>true
 | .dm .. => true
 | .stk _ _ _ _ none=>true
 | .stk _ _ _ _ (some ls)=>L.xK id v ls
def Ob.cO (id:Nat):Ob->Ob
 | .box e ls=>.box e (L.vB id ls)
 | .stk e ei v rows top=>.stk e ei v rows (top.map (L.vB id))
 | o=>o
def nS (ls:List L) (j:Nat) (l:L):Option (List L) :=
 match ls[j]? with
 | some .dG=>some (ls.set j l)
 | _=>none
def yBp (to off:Nat):L->Option L
 | .lC=>some (.gM to off)
 | .ptr a b=>match Nat.beq a to && Nat.beq b off with
  | true=>some (.gM to off)
  | false=>none
 | .gM a b=>match Nat.beq a to && Nat.beq b off with
  | true=>some (.gM to off)
  | false=>none
 | _=>none
def Xn:Nat->Nat->List Nat->Bool
 | _,0,_=>true
 | i,k+1,a :: r=>Nat.beq a i && Xn (i+1) k r
 | _,_+1,[]=>false
theorem zIw:∀ {i k:Nat} {ρ:List Nat},Xn i k ρ=true->∀ j,j < k->ρ[j]?=some (i+j)
 | _,0,_,_,j,hj=>by omega
 | i,k+1,a :: r,h,j,hj=>by
  simp only [Xn,aG] at h
  have:=aN h.1
  subst this
  cases j with
  | zero=>rfl
  | succ j =>
   have:=zIw h.2 j (by omega)
   rw [show a+1+j=a+(j+1) by omega] at this
   simpa using this
 | _,_+1,[],h,_,_=>by cases h
def frz (h:List Ob) (l:L):Option (Bool × L × List Ob) :=
 match l with
 | .own id ver =>
  match h[id]? with
  | some (.arr e t v rows _)=>some (Nat.beq v ver,.val (.slice t) rows,h.set id (.arr e t v rows false))
  | _=>none
 | .sl id ver off len =>
  match h[id]? with
  | some (.arr e t v rows _)=>some (Nat.beq v ver && Nat.ble (off+len) rows.length,.val (.slice t) ((rows.drop off).take len),h.set id (.arr e t v rows false))
  | _=>none
 | _=>none
def gcL (ρ:List Nat) (σ:St):Option (Bool × St) :=
 if nodupB ρ && bR (fun i=>Nat.blt i σ.h.length) ρ then some (true,⟨σ.r.map (V.ren ρ σ.h),inH ρ σ.h⟩) else none
def upto:Nat->Nat->List Nat
 | _,0=>[]
 | i,k+1=>i :: upto (i+1) k
def gcR (k:Nat) (σ:St):List Nat:=Xh σ.h (σ.h.length+1) (Ta (upto 0 k) (zMv σ.r)) 0
def Kq (σ:St):Option (Bool × List Ob)->Option (Bool × St)
 | some (c,h)=>some (c,⟨σ.r,h⟩)
 | none=>none
theorem vZ {σ σ':St} {x:Option (Bool × List Ob)} {b:Bool} (h:Kq σ x=some (b,σ')):∃ h',x=some (b,h')∧σ'=⟨σ.r,h'⟩:=by
 unfold Kq at h
 split at h
 ·simp only [aA,aB] at h
  obtain ⟨rfl,rfl⟩:=h
  exact ⟨_,rfl,rfl⟩
 ·cases h
def co1 (T:Tab) (c:Co) (σ:St):Option (Bool × St) :=
 match c with
 | .opn id j=>Kq σ (yBh σ.h id j)
 | .cls id j=>Kq σ (yBk σ.h id j)
 | .yBo id j=>Kq σ (zVb σ.h id j)
 | .zAp id k=>Kq σ (Dec.zAp σ.h id k)
 | .Pw id j=>Kq σ (Dec.Pw σ.h id j)
 | .shut id=>Kq σ (zVe σ.h id)
 | .gcA k=>match Xn 0 k (gcR k σ) with
  | true=>gcL (gcR k σ) σ
  | false=>none
 | .slR i =>
  match σ.r[i]? with
  | some (.one (.own id ver)) =>
   match σ.h[id]? with
   | some (.arr _ _ v rows _)=>some (Nat.beq v ver,⟨σ.r.set i (.one (.sl id ver 0 rows.length)),σ.h⟩)
   | _=>none
  | some (.one (.sl ..))=>some (true,σ)
  | _=>none
 | .yHz i j t =>
  match σ.r[i]?,elemTy T t with
  | some (.agg ls),some (e,te,_) =>
   match ls[j]? with
   | some (.own ..)=>some (true,σ)
   | _ =>
    match nS ls j (.own σ.h.length 0) with
    | some ls'=>some (true,⟨σ.r.set i (.agg ls'),σ.h++[.arr e te 0 [] true]⟩)
    | none=>none
  | _,_=>none
 | .yIa i j =>
  match σ.r[i]? with
  | some (.agg ls) =>
   match ls[j]? with
   | some l =>
    match l.isD with
    | true=>some (true,σ)
    | false =>
     match frz σ.h l with
     | some (c,l',h')=>some (c,⟨σ.r.set i (.agg (ls.set j l')),h'⟩)
     | none=>none
   | none=>none
  | _=>none
 | .gc ρ=>gcL ρ σ
 | .orn id j to off =>
  match σ.h[id]? with
  | some (.box eb ls) =>
   match ls[j]? with
   | some l =>
    match yBp to off l with
    | some l'=>some (true,⟨σ.r,σ.h.set id (.box eb (ls.set j l'))⟩)
    | none=>none
   | none=>none
  | _=>none
 | .zNe i =>
  match σ.r[i]? with
  | some (.one l) =>
   match l.isD with
   | true=>some (true,σ)
   | false =>
    match frz σ.h l with
    | some (c,l',h')=>some (c,⟨σ.r.set i (.one l'),h'⟩)
    | none=>none
  | _=>none
 | .yHy id j =>
  match σ.h[id]? with
  | some (.box eb ls) =>
   match ls[j]? with
   | some l =>
    match l.isD with
    | true=>some (true,σ)
    | false =>
     match frz σ.h l with
     | some (c,l',h')=>some (c,⟨σ.r,h'.set id (.box eb (ls.set j l'))⟩)
     | none=>none
   | none=>none
  | _=>none
 | .keep m=>some (true,⟨uM m σ.r,σ.h⟩)
 | .trunc n=>if Nat.ble n σ.h.length && (bR (V.isB n) σ.r && bR (Ob.isB n) (σ.h.take n)) then some (true,⟨σ.r,σ.h.take n⟩) else none
 | .Fh i t =>
  match σ.r[i]?,elemTy T t with
  | some (.one .dG),some (e,te,_)=>some (true,⟨σ.r.set i (.one (.own σ.h.length 0)),σ.h++[.arr e te 0 [] true]⟩)
  | some (.one (.own ..)),_=>some (true,σ)
  | _,_=>none
 | .ownB id j t =>
  match σ.h[id]?,elemTy T t with
  | some (.box eb ls),some (e,te,_) =>
   match ls[j]? with
   | some (.own ..)=>some (true,σ)
   | _ =>
    match nS ls j (.own σ.h.length 0) with
    | some ls'=>some (true,⟨σ.r,(σ.h++[Ob.arr e te 0 [] true]).set id (.box eb ls')⟩)
    | none=>none
  | _,_=>none
 | .yHw i t =>
  match σ.r[i]? with
  | some (.one .dG)=>some (true,⟨σ.r.set i (.one (.val (.slice t) [])),σ.h⟩)
  | _=>none
 | .yHx id j t =>
  match σ.h[id]? with
  | some (.box eb ls) =>
   match nS ls j (.val (.slice t) []) with
   | some ls'=>some (true,⟨σ.r,σ.h.set id (.box eb ls')⟩)
   | none=>none
  | _=>none
 | .ver id =>
  match σ.h[id]? with
  | some (.arr e t v rows wr)=>if bR (V.sG id v) σ.r && bR (Ob.sG id v) σ.h then some (true,⟨σ.r.map (V.cO id),(σ.h.map (Ob.cO id)).set id (.arr e t 0 rows wr)⟩) else none
  | _=>none
def Co.fx (k:Nat):Co->Bool
 | .trunc n=>Nat.ble k n
 | .gc ρ=>Xn 0 k ρ
 | .gcA n=>Nat.ble k n
 | _=>true
def norm {ρ:Type} (T:Tab):List Co->St->(St->Option ρ)->Option ρ
 | [],σ,k=>k σ
 | c :: cs,σ,k =>
  match co1 T c σ with
  | some (b,σ')=>chk b (norm T cs σ' k)
  | none=>none
section
variable {T:Tab} {C:Ctx} {β:Nat->Pl} {w:World}
theorem Kr:∀ (m:List Bool) (r:List V) (i:Nat) (v:V),(uM m r)[i]?=some v->v=.bW∨r[i]?=some v
 | true :: m,x :: r,0,v,h=>.inr h
 | true :: m,x :: r,i+1,v,h=>Kr m r i v (by simpa [uM] using h)
 | false :: m,x :: r,0,v,h=>by simp [uM] at h; exact .inl h.symm
 | false :: m,x :: r,i+1,v,h=>Kr m r i v (by simpa [uM] using h)
 | [],x :: r,0,v,h=>by simp [uM] at h; exact .inl h.symm
 | [],x :: r,i+1,v,h=>Kr [] r i v (by simpa [uM] using h)
 | true :: _,[],i,v,h=>by simp [uM] at h
 | false :: _,[],i,v,h=>by simp [uM] at h
 | [],[],i,v,h=>by simp [uM] at h
theorem Aa:∀ (m:List Bool) (r:List V),(uM m r).length=r.length
 | true :: m,_x :: r=>congrArg (· + 1) (Aa m r)
 | false :: m,_x :: r=>congrArg (· + 1) (Aa m r)
 | [],_x :: r=>congrArg (· + 1) (Aa [] r)
 | true :: _,[]=>rfl
 | false :: _,[]=>rfl
 | [],[]=>rfl
theorem qV {α:Type} {f:α->Bool}:∀ {l:List α},bR f l=true->∀ (i:Nat) (x:α),l[i]?=some x->f x=true
 | y :: r,h,0,x,hx=>by
  simp only [bR,aG] at h
  simp only [List.getElem?_cons_zero,aA] at hx
  subst hx
  exact h.1
 | y :: r,h,i+1,x,hx=>by
  simp only [bR,aG] at h
  exact qV h.2 i x (by simpa using hx)
 | [],_,i,x,hx=>by simp at hx
mutual
theorem L.Rel.below {β':Nat->Pl} {N N':Nat->Nat->Prop} {n:Nat} (hβ:∀ id,id < n->β' id=β id) (hN:∀ b j,b < w.heap.size->N' b j->N b j):∀ {l:L} {cs:List Value},l.isB n=true->l.Rel β w N cs->l.Rel β' w N' cs
 | .val t x,cs,_,h=>by simp only [L.Rel] at *; exact Ty.Rel.mono (Keep.refl _ w) hN h
 | .ptr id off,cs,hb,h=>by simp only [L.isB] at hb; simp only [L.Rel] at *; rw [hβ id (bT hb)]; exact h
 | .lX id off es i sub,cs,hb,h=>by simp only [L.isB] at hb; simp only [L.Rel] at *; rw [hβ id (bT hb)]; exact h
 | .lC,cs,_,h=>by simp only [L.Rel] at *; exact h
 | .gM id off,cs,hb,h=>by simp only [L.isB] at hb; simp only [L.Rel] at *; rw [hβ id (bT hb)]; exact h
 | .gB id ver i off,cs,hb,h=>by simp only [L.isB] at hb; simp only [L.Rel] at *; rw [hβ id (bT hb)]; exact h
 | .lD t x off,cs,_,h=>by simp only [L.Rel] at *; obtain ⟨c,hc,hr⟩:=h; exact ⟨c,hc,hr.mono (Keep.refl _ w) hN⟩
 | .sl id ver off len,cs,hb,h=>by simp only [L.isB] at hb; simp only [L.Rel] at *; rw [hβ id (bT hb)]; exact h
 | .own id ver,cs,hb,h=>by simp only [L.isB] at hb; simp only [L.Rel] at *; rw [hβ id (bT hb)]; exact h
 | .dG,cs,_,h=>by simp only [L.Rel] at *; exact h
 | .clo f caps,cs,hb,h=>by
  simp only [L.isB] at hb
  simp only [L.Rel] at *
  obtain ⟨us,hc,hr⟩:=h
  exact ⟨us,hc,L.dQ.below hβ hN hb hr⟩
 | .bad n,cs,_,h=>by simp only [L.Rel] at *; exact h
 | .Fb x tab,cs,_,h=>by simp only [L.Rel] at *; exact h
 | .mp id,cs,hb,h=>by simp only [L.isB] at hb; simp only [L.Rel] at *; rw [hβ id (bT hb)]; exact h
theorem L.dQ.below {β':Nat->Pl} {N N':Nat->Nat->Prop} {n:Nat} (hβ:∀ id,id < n->β' id=β id) (hN:∀ b j,b < w.heap.size->N' b j->N b j):∀ {ls:List L} {us:List Value},L.Lv n ls=true->L.dQ β w N ls us->L.dQ β' w N' ls us
 | [],us,_,h=>by simp only [L.dQ] at *; exact h
 | l :: ls,us,hb,h=>by
  simp only [L.Lv,aG] at hb
  simp only [L.dQ] at *
  obtain ⟨u,r,e,h1,h2⟩:=h
  exact ⟨u,r,e,L.Rel.below hβ hN hb.1 h1,L.dQ.below hβ hN hb.2 h2⟩
end
theorem aI.below {β':Nat->Pl} {N N':Nat->Nat->Prop} {n:Nat} (hβ:∀ id,id < n->β' id=β id) (hN:∀ b j,b < w.heap.size->N' b j->N b j):∀ {ls:List L} {cs:List Value},L.Lv n ls=true->aI β w N ls cs->aI β' w N' ls cs
 | [],_,_,h=>h
 | l :: ls,_,hb,⟨c1,c2,e,h1,h2⟩=>by
  simp only [L.Lv,aG] at hb
  exact ⟨c1,c2,e,h1.below hβ hN hb.1,aI.below hβ hN hb.2 h2⟩
theorem Tj {β':Nat->Pl} {N N':Nat->Nat->Prop} {n:Nat} (hβ:∀ id,id < n->β' id=β id) (hN:∀ b j,b < w.heap.size->N' b j->N b j):∀ {vs:List (Sum L (List L))} {us:List Value},Ci n vs=true->aY (fV β w N) vs us->aY (fV β' w N') vs us
 | [],[],_,_=>trivial
 | .inl l :: vs,u :: us,hb,h=>by
  simp only [Ci,aG] at hb
  exact ⟨L.Rel.below hβ hN hb.1 h.1,Tj hβ hN hb.2 h.2⟩
 | .inr ls :: vs,u :: us,hb,h=>by
  simp only [Ci,aG] at hb
  obtain ⟨⟨cs,e,hr⟩,h2⟩:=h
  exact ⟨⟨cs,e,hr.below hβ hN hb.1⟩,Tj hβ hN hb.2 h2⟩
 | [],_ :: _,_,h=>h.elim
 | .inl _ :: _,[],_,h=>h.elim
 | .inr _ :: _,[],_,h=>h.elim
theorem V.Rel.below {β':Nat->Pl} {N N':Nat->Nat->Prop} {n:Nat} (hβ:∀ id,id < n->β' id=β id) (hN:∀ b j,b < w.heap.size->N' b j->N b j) {v:V} {x:Value} (hb:v.isB n=true) (h:v.Rel β w N x):v.Rel β' w N' x:=by
 cases v with
 | one l=>exact L.Rel.below hβ hN hb h
 | agg ls=>obtain ⟨cs,e,hr⟩:=h; exact ⟨cs,e,hr.below hβ hN hb⟩
 | tup vs=>obtain ⟨us,e,hr⟩:=h; exact ⟨us,e,Tj hβ hN hb hr⟩
 | bW=>trivial
theorem Sim.trunc {σ:St} {a:Act} {n:Nat} (hs:Sim C β σ a w) (hfx:C.fix.length <= n) (hn:n <= σ.h.length) (hr:bR (V.isB n) σ.r=true) (ho:bR (Ob.isB n) (σ.h.take n)=true):∃ β',Sim C β' ⟨σ.r,σ.h.take n⟩ a w:=by
 let β':Nat->Pl:=fun id=>if id < n then β id else ⟨false,false,0,none,0,0,0,[]⟩
 have hβ:∀ id,id < n->β' id=β id:=fun id hid=>by simp [β',hid]
 have hget:∀ (id:Nat) (o:Ob),(σ.h.take n)[id]?=some o->id < n∧σ.h[id]?=some o:=fun id o h=>by
  rw [List.getElem?_take] at h
  split at h
  ·rename_i hlt; exact ⟨hlt,h⟩
  ·cases h
 have hN:∀ b j,b < w.heap.size->C.N β' (σ.h.take n) b j->C.N β σ.h b j:=fun b j _ hb=>by
  rcases hb with hb | ⟨id,o,ho,hw,hbk⟩
  ·exact .inl hb
  ·obtain ⟨hid,ho⟩:=hget id o ho
   rw [hβ id hid] at hbk
   exact .inr ⟨id,o,ho,hw,hbk⟩
 refine ⟨β',⟨⟨?_,?_,?_,?_,hs.heap.n0,hs.heap.frame,hs.heap.size,hs.heap.os,hs.heap.tape,hs.heap.output,fun j o hj=>by
  obtain ⟨k1,k2⟩:=hs.heap.fixed j o hj
  have hjn:j < n:=Nat.lt_of_lt_of_le (bI.1 hj).1 hfx
  exact ⟨by simp; omega,fun b hb=>by rw [hβ j hjn]; exact k2 b hb⟩⟩,hs.defers,hs.size,fun i v hv=>(hs.reg i v hv).below hβ hN (qV hr i v hv)⟩⟩
 ·intro id o hio
  obtain ⟨hid,h1⟩:=hget id o hio
  rw [hβ id hid]
  have hob:=hs.heap.obj id o h1
  cases o with
  | box e ls =>
   have hbl:=qV ho id _ hio
   simp only [Ob.Rel] at *
   obtain ⟨g1,g2,b,cs,g3,g4,g5⟩:=hob
   exact ⟨g1,g2,b,cs,g3,g4.below hβ hN hbl,g5⟩
  | arr e t ver rows wr =>
   simp only [Ob.Rel] at *
   obtain ⟨g1,g2,g3,g4,g5,g6,g7⟩:=hob
   refine ⟨g1,g2,g3,g4,g5,g6,?_⟩
   rcases g7 with g7 | ⟨b,cur,css,k1,k2,k3,k4⟩
   ·exact .inl g7
   ·exact .inr ⟨b,cur,css,k1,k2,k3.mono fun _ _ h=>h.mono (Keep.refl _ w) hN,k4⟩
  | fm tab=>simp only [Ob.Rel] at *; exact hob
  | dm kt vt es =>
   simp only [Ob.Rel] at *
   obtain ⟨g1,g2,b,ms,g3,g4,g5⟩:=hob
   exact ⟨g1,g2,b,ms,g3,g4,g5.mono (Keep.refl _ w) hN⟩
  | stk e ei ver rows top =>
   have hbl:=qV ho id _ hio
   simp only [Ob.Rel] at *
   obtain ⟨g1,g2,g3,g4,g5,b,cur,cs,cs2,bs,k1,k2,k3,k4,k5,k6,k7,k8,k9,k10,k11⟩:=hob
   refine ⟨g1,g2,g3,g4,g5,b,cur,cs,cs2,bs,k1,k2,k3,k4,k5,k6,k7,k8,k9,?_,k11⟩
   cases top with
   | none=>exact k10
   | some ls=>exact ⟨k10.1.below hβ hN hbl,k10.2⟩
 ·intro id hid
  simp only [List.length_take] at hid
  simp only [β']
  rw [if_neg (by omega)]
 ·intro i j o1 o2 b h1 h2 hb1 hb2
  obtain ⟨hi,h1⟩:=hget i o1 h1
  obtain ⟨hj,h2⟩:=hget j o2 h2
  rw [hβ i hi] at hb1
  rw [hβ j hj] at hb2
  exact hs.heap.iV i j o1 o2 b h1 h2 hb1 hb2
 ·intro id o b h1 hb
  obtain ⟨hi,h1⟩:=hget id o h1
  exact hs.heap.Ed h1 rfl (by rw [hβ id hi]) (by rw [hβ id hi]) (fun h=>h) hb
section ver
variable {id v:Nat}
def kH (β:Nat->Pl) (id:Nat):Nat->Pl:=upd β id { β id with ver:=0 }
theorem zGi {i j:Nat} (h:i ≠ j):Nat.beq i j=false:=by
 cases hb:Nat.beq i j
 ·rfl
 ·exact absurd (aN hb) h
mutual
theorem L.Rel.cO {N:Nat->Nat->Prop} (hv:(β id).ver=v):∀ {l:L} {cs:List Value},l.sG id v=true->l.Rel β w N cs->(l.cO id).Rel (kH β id) w N cs
 | .val t x,cs,_,h=>by simp only [L.cO,L.Rel] at *; exact h
 | .Fb x tab,cs,_,h=>by simp only [L.cO,L.Rel] at *; exact h
 | .mp i,cs,_,h=>by
  simp only [L.cO,L.Rel,kH] at *
  by_cases hi:i=id
  ·subst hi; rw [upd_same]; exact h
  ·rw [aV _ _ hi]; exact h
 | .ptr i off,cs,_,h=>by
  simp only [L.cO,L.Rel,kH] at *
  by_cases hi:i=id
  ·subst hi; rw [upd_same]; exact h
  ·rw [aV _ _ hi]; exact h
 | .lX i off es k sub,cs,_,h=>by
  simp only [L.cO,L.Rel,kH] at *
  by_cases hi:i=id
  ·subst hi; rw [upd_same]; exact h
  ·rw [aV _ _ hi]; exact h
 | .lC,cs,_,h=>by simp only [L.cO,L.Rel] at *; exact h
 | .gM i off,cs,_,h=>by
  simp only [L.cO,L.Rel,kH] at *
  by_cases hi:i=id
  ·subst hi; rw [upd_same]; exact h
  ·rw [aV _ _ hi]; exact h
 | .gB i u a b,cs,hb,h=>by
  simp only [L.cO]
  by_cases hi:i=id
  ·subst hi
   have hu:u=v:=by simpa [L.sG,Nat.beq_refl] using hb
   subst hu
   simp only [Nat.beq_refl,if_true,L.Rel,kH,upd_same] at *
   obtain ⟨h1,h2,h3,c,h4,h5,h6⟩:=h
   exact ⟨h1,h2,aX _,c,h4,h5,fun _=>h6 hv⟩
  ·have:Nat.beq i id=false:=zGi hi
   simp only [this,Bool.false_eq_true,if_false,L.Rel,kH] at *
   rw [aV _ _ hi]; exact h
 | .lD t x off,cs,_,h=>by simp only [L.cO,L.Rel] at *; exact h
 | .sl i u a b,cs,hb,h=>by
  simp only [L.cO]
  by_cases hi:i=id
  ·subst hi
   have hu:u=v:=by simpa [L.sG,Nat.beq_refl] using hb
   subst hu
   simp only [Nat.beq_refl,if_true,L.Rel,kH,upd_same] at *
   obtain ⟨h1,h2,h3,c,h4,h5,h6⟩:=h
   exact ⟨h1,h2,aX _,c,h4,h5,fun _=>h6 hv⟩
  ·have:Nat.beq i id=false:=zGi hi
   simp only [this,Bool.false_eq_true,if_false,L.Rel,kH] at *
   rw [aV _ _ hi]; exact h
 | .own i u,cs,hb,h=>by
  simp only [L.cO]
  by_cases hi:i=id
  ·subst hi
   have hu:u=v:=by simpa [L.sG,Nat.beq_refl] using hb
   subst hu
   simp only [Nat.beq_refl,if_true,L.Rel,kH,upd_same] at *
   obtain ⟨h1,h2,h3,c,h4,h5,h6⟩:=h
   exact ⟨h1,h2,aX _,c,h4,h5,fun _=>h6 hv⟩
  ·have:Nat.beq i id=false:=zGi hi
   simp only [this,Bool.false_eq_true,if_false,L.Rel,kH] at *
   rw [aV _ _ hi]; exact h
 | .dG,cs,_,h=>by simp only [L.cO,L.Rel] at *; exact h
 | .clo f caps,cs,hb,h=>by
  simp only [L.sG] at hb
  simp only [L.cO,L.Rel] at *
  obtain ⟨us,hc,hr⟩:=h
  exact ⟨us,hc,L.dQ.cO hv hb hr⟩
 | .bad n,cs,_,h=>by simp only [L.cO,L.Rel] at *; exact h
theorem L.dQ.cO {N:Nat->Nat->Prop} (hv:(β id).ver=v):∀ {ls:List L} {us:List Value},L.xK id v ls=true->L.dQ β w N ls us->L.dQ (kH β id) w N (L.vB id ls) us
 | [],us,_,h=>by simp only [L.vB,L.dQ] at *; exact h
 | l :: ls,us,hb,h=>by
  simp only [L.xK,aG] at hb
  simp only [L.vB,L.dQ] at *
  obtain ⟨u,r,e,h1,h2⟩:=h
  exact ⟨u,r,e,L.Rel.cO hv hb.1 h1,L.dQ.cO hv hb.2 h2⟩
end
theorem aI.cO {N:Nat->Nat->Prop} (hv:(β id).ver=v):∀ {ls:List L} {cs:List Value},L.xK id v ls=true->aI β w N ls cs->aI (kH β id) w N (L.vB id ls) cs
 | [],_,_,h=>by simp only [L.vB,aI] at *; exact h
 | l :: ls,_,hb,⟨c1,c2,e,h1,h2⟩=>by
  simp only [L.xK,aG] at hb
  exact ⟨c1,c2,e,h1.cO hv hb.1,aI.cO hv hb.2 h2⟩
theorem Tm {N:Nat->Nat->Prop} (hv:(β id).ver=v):∀ {vs:List (Sum L (List L))} {us:List Value},Nl id v vs=true->aY (fV β w N) vs us->aY (fV (kH β id) w N) (Px id vs) us
 | [],[],_,_=>trivial
 | .inl l :: vs,u :: us,hb,h=>by
  simp only [Nl,aG] at hb
  exact ⟨L.Rel.cO hv hb.1 h.1,Tm hv hb.2 h.2⟩
 | .inr ls :: vs,u :: us,hb,h=>by
  simp only [Nl,aG] at hb
  obtain ⟨⟨cs,e,hr⟩,h2⟩:=h
  exact ⟨⟨cs,e,hr.cO hv hb.1⟩,Tm hv hb.2 h2⟩
 | [],_ :: _,_,h=>h.elim
 | .inl _ :: _,[],_,h=>h.elim
 | .inr _ :: _,[],_,h=>h.elim
theorem V.Rel.cO {N:Nat->Nat->Prop} (hv:(β id).ver=v) {u:V} {x:Value} (hb:u.sG id v=true) (h:u.Rel β w N x):(u.cO id).Rel (kH β id) w N x:=by
 cases u with
 | one l=>exact L.Rel.cO hv hb h
 | agg ls=>obtain ⟨cs,e,hr⟩:=h; exact ⟨cs,e,hr.cO hv hb⟩
 | tup vs=>obtain ⟨us,e,hr⟩:=h; exact ⟨us,e,Tm hv hb hr⟩
 | bW=>trivial
theorem yBq (i:Nat):(kH β id i).box=(β i).box:=by
 unfold kH
 by_cases hi:i=id
 ·subst hi; rw [upd_same]
 ·rw [aV _ _ hi]
theorem Cj (i:Nat):(kH β id i).blk=(β i).blk∧(kH β id i).live=(β i).live:=by
 unfold kH upd
 split
 ·rename_i h; subst h; exact ⟨rfl,rfl⟩
 ·exact ⟨rfl,rfl⟩
theorem Ob.yBr (o:Ob):(o.cO id).wr=o.wr:=by cases o <;> rfl
theorem Ob.zVf (o:Ob):(o.cO id).mR=o.mR:=by cases o <;> rfl
theorem Py (i:Nat):(kH β id i).sub=(β i).sub:=by
 unfold kH upd
 split
 ·rename_i h; subst h; rfl
 ·rfl
theorem Sim.cO {σ:St} {a:Act} {e:TypeId} {t:Ty} {rows:List t.den} {wr:Bool} (hs:Sim C β σ a w) (ho:σ.h[id]?=some (.arr e t v rows wr)) (hr:bR (V.sG id v) σ.r=true) (hh:bR (Ob.sG id v) σ.h=true) :
  Sim C (kH β id) ⟨σ.r.map (V.cO id),(σ.h.map (Ob.cO id)).set id (.arr e t 0 rows wr)⟩ a w:=by
 have hob:=hs.heap.obj _ _ ho
 simp only [Ob.Rel] at hob
 obtain ⟨g1,g2,g3,g4,g5,g6,g7⟩:=hob
 have yMu:id < (σ.h.map (Ob.cO id)).length:=by simpa using (bI.1 ho).1
 have hget:∀ (i:Nat) (o:Ob),((σ.h.map (Ob.cO id)).set id (.arr e t 0 rows wr))[i]?=some o->∃ o',σ.h[i]?=some o'∧(o.wr=o'.wr∧o.mR=o'.mR)∧((i ≠ id∧o=o'.cO id)∨(i=id∧o=.arr e t 0 rows wr)):=fun i o h=>by
  by_cases hi:id=i
  ·subst hi
   rw [List.getElem?_set_self yMu] at h
   simp only [aA] at h
   subst h
   exact ⟨_,ho,⟨rfl,rfl⟩,.inr ⟨rfl,rfl⟩⟩
  ·rw [List.getElem?_set_ne hi,List.getElem?_map,Option.map_eq_some_iff] at h
   obtain ⟨o',h1,rfl⟩:=h
   exact ⟨o',h1,⟨Ob.yBr o',Ob.zVf o'⟩,.inl ⟨fun h=>hi h.symm,rfl⟩⟩
 have hNi:∀ b j,C.N (kH β id) ((σ.h.map (Ob.cO id)).set id (.arr e t 0 rows wr)) b j->C.N β σ.h b j:=fun b j hb=>by
  rcases hb with hb | ⟨i,o,h1,h2,h3⟩
  ·exact .inl hb
  ·obtain ⟨o',h4,h5,_⟩:=hget i o h1
   exact .inr ⟨i,o',h4,by rw [<- h5.1]; exact h2,Ob.rG h5.2 (Cj (β:=β) (id:=id) i).1 (Py i) h3⟩
 have mono:∀ {l:List L} {cs:List Value},aI (kH β id) w (C.N β σ.h) l cs->aI (kH β id) w (C.N (kH β id) ((σ.h.map (Ob.cO id)).set id (.arr e t 0 rows wr))) l cs:=fun h=>h.mono (Moves.refl _) (Keep.refl _ w) fun b j _ hb=>hNi b j hb
 refine ⟨⟨?_,?_,?_,?_,hs.heap.n0,hs.heap.frame,hs.heap.size,hs.heap.os,hs.heap.tape,hs.heap.output,fun j o hj=>by
  obtain ⟨k1,k2⟩:=hs.heap.fixed j o hj
  exact ⟨by simpa using k1,fun b hb=>by rw [(Cj (β:=β) (id:=id) j).1,(yBq (β:=β) (id:=id) j)]; exact k2 b hb⟩⟩,hs.defers,by simpa using hs.size,?_⟩
 ·intro i o h
  obtain ⟨o',h1,h2,h3 | h3⟩:=hget i o h
  ·obtain ⟨hi,rfl⟩:=h3
   have hob:=hs.heap.obj i o' h1
   have hbi:kH β id i=β i:=aV _ _ hi
   rw [hbi]
   cases o' with
   | box eb ls =>
    have hvv:=qV hh i _ h1
    simp only [Ob.cO,Ob.Rel] at *
    obtain ⟨k1,k2,b,cs,k3,k4,k5⟩:=hob
    exact ⟨k1,k2,b,cs,k3,mono (k4.cO g3 hvv),k5⟩
   | arr e2 t2 yPc fM wr2 =>
    simp only [Ob.cO,Ob.Rel] at *
    obtain ⟨k1,k2,k3,k4,k5,k6,k7⟩:=hob
    refine ⟨k1,k2,k3,k4,k5,k6,?_⟩
    rcases k7 with k7 | ⟨b,cur,css,m1,m2,m3,m4⟩
    ·exact .inl k7
    ·exact .inr ⟨b,cur,css,m1,m2,m3.mono fun _ _ h=>h.mono (Keep.refl _ w) fun b j _ hb=>hNi b j hb,m4⟩
   | fm tab=>simp only [Ob.cO,Ob.Rel] at *; exact hob
   | dm kt vt es =>
    simp only [Ob.cO,Ob.Rel] at *
    obtain ⟨k1,k2,b,ms,k3,k4,k5⟩:=hob
    exact ⟨k1,k2,b,ms,k3,k4,k5.mono (Keep.refl _ w) fun b j _ hb=>hNi b j hb⟩
   | stk es ei vs rs top =>
    have hvv:=qV hh i _ h1
    simp only [Ob.cO,Ob.Rel] at *
    obtain ⟨m1,m2,m3,m4,m5,b,cur,cs,cs2,bs,k1,k2,k3,k4,k5,k6,k7,k8,k9,k10,k11⟩:=hob
    refine ⟨m1,m2,m3,m4,by rw [Pg]; exact m5,b,cur,cs,cs2,bs,k1,k2,k3,k4,k5,k6,k7,k8,k9,?_,k11⟩
    refine k10.imp _ fun ls cs e hl=>?_
    subst e
    exact mono (hl.cO g3 hvv)
  ·obtain ⟨rfl,rfl⟩:=h3
   simp only [Ob.Rel,kH,upd_same]
   refine ⟨g1,g2,trivial,g4,g5,g6,?_⟩
   rcases g7 with g7 | ⟨b,cur,css,m1,m2,m3,m4⟩
   ·exact .inl g7
   ·exact .inr ⟨b,cur,css,m1,m2,m3.mono fun _ _ h=>h.mono (Keep.refl _ w) fun b j _ hb=>hNi b j hb,m4⟩
 ·intro i hi
  rw [(Cj (β:=β) (id:=id) i).2]
  exact hs.heap.dead i (by simpa using hi)
 ·intro i j o1 o2 b h1 h2 hb1 hb2
  obtain ⟨o1',k1,k3,_⟩:=hget i o1 h1
  obtain ⟨o2',k2,k4,_⟩:=hget j o2 h2
  exact hs.heap.iV i j o1' o2' b k1 k2 (Ob.iY k3.2 (Cj (β:=β) (id:=id) i).1 (Py i) hb1) (Ob.iY k4.2 (Cj (β:=β) (id:=id) j).1 (Py j) hb2)
 ·intro i o b h1 hb
  obtain ⟨o',k1,k3,_⟩:=hget i o h1
  exact hs.heap.Ed k1 k3.2 (Cj (β:=β) (id:=id) i).1 (Py i) (fun h=>by rw [<- k3.1]; exact h) hb
 ·intro i u hu
  rw [List.getElem?_map,Option.map_eq_some_iff] at hu
  obtain ⟨u0,h1,rfl⟩:=hu
  exact ((hs.reg i u0 h1).cO g3 (qV hr i u0 h1)).mono (Moves.refl _) (Keep.refl _ w) fun b j _ hb=>hNi b j hb
end ver
theorem aI.nS {N:Nat->Nat->Prop} {l:L} (hl:l.Rel β w N [.slice none 0 0]):∀ {ls ls':List L} {j:Nat} {cs:List Value},Dec.nS ls j l=some ls'->aI β w N ls cs->aI β w N ls' cs
 | [],_,j,_,h,_=>by simp [Dec.nS] at h
 | x :: ls,ls',0,cs,h,hr=>by
  simp only [Dec.nS,List.getElem?_cons_zero] at h
  split at h
  ·rename_i hx
   simp only [aA] at h hx
   subst h hx
   obtain ⟨c1,c2,e,h1,h2⟩:=hr
   simp only [L.Rel] at h1
   subst h1
   exact ⟨_,c2,e,hl,h2⟩
  ·cases h
 | x :: ls,ls',j+1,cs,h,hr=>by
  simp only [Dec.nS,List.getElem?_cons_succ] at h
  split at h
  ·rename_i hx
   simp only [aA,List.set_cons_succ] at h
   subst h
   obtain ⟨c1,c2,e,h1,h2⟩:=hr
   exact ⟨c1,c2,e,h1,aI.nS (j:=j) hl (by simp [Dec.nS,hx]) h2⟩
  ·cases h
theorem aI.setAt {N:Nat->Nat->Prop} {l':L}:∀ {ls:List L} {j:Nat} {l:L} {cs:List Value},ls[j]?=some l->(∀ c,l.Rel β w N c->l'.Rel β w N c)->aI β w N ls cs->aI β w N (ls.set j l') cs
 | [],j,_,_,h,_,_=>by simp at h
 | x :: ls,0,l,cs,h,hl,hr=>by
  simp only [List.getElem?_cons_zero,aA] at h
  subst h
  obtain ⟨c1,c2,e,h1,h2⟩:=hr
  exact ⟨c1,c2,e,hl _ h1,h2⟩
 | x :: ls,j+1,l,cs,h,hl,hr=>by
  obtain ⟨c1,c2,e,h1,h2⟩:=hr
  exact ⟨c1,c2,e,h1,aI.setAt (j:=j) (by simpa using h) hl h2⟩
theorem aI.zDk {N N':Nat->Nat->Prop} (hN:∀ b j,b < w.heap.size->N' b j->N b j) {l':L}:∀ {ls:List L} {j:Nat} {l:L} {cs:List Value},ls[j]?=some l->(∀ c,l.Rel β w N c->l'.Rel β w N' c)->aI β w N ls cs->aI β w N' (ls.set j l') cs
 | [],j,_,_,h,_,_=>by simp at h
 | x :: ls,0,l,cs,h,hl,hr=>by
  simp only [List.getElem?_cons_zero,aA] at h
  subst h
  obtain ⟨c1,c2,e,h1,h2⟩:=hr
  exact ⟨c1,c2,e,hl _ h1,h2.mono (Moves.refl β) (Keep.refl _ w) hN⟩
 | x :: ls,j+1,l,cs,h,hl,hr=>by
  obtain ⟨c1,c2,e,h1,h2⟩:=hr
  exact ⟨c1,c2,e,h1.mono (Moves.refl β) (Keep.refl _ w) hN,aI.zDk (j:=j) hN (by simpa using h) hl h2⟩
theorem zNf {h:List Ob} {e:TypeId} {t:Ty} {ver id off len:Nat} {rows:List t.den} {wr:Bool} {c:Value} {N':Nat->Nat->Prop} (hh:dZ C β h w) (ho:h[id]?=some (.arr e t ver rows wr)) (hsl:dP (β id) off len c) (hle:off+len <= rows.length)
  (hN:∀ b j,b < w.heap.size->N' b j->C.N β h b j) (hnb:∀ b j,(β id).blk=some b->¬ N' b j):(Ty.slice t).Rel w N' ((rows.drop off).take len) [c]:=by
 have hob:=hh.obj _ _ ho
 simp only [Ob.Rel] at hob
 obtain ⟨_,_,hpv,hpz,hpos,hpl,hob⟩:=hob
 simp only [Ty.Rel]
 refine ⟨c,rfl,?_⟩
 unfold dP at hsl
 rcases hob with ⟨hnb',hr0,_⟩ | ⟨b,cur,css,hb,hheap,hall,htake,hcap,hrc,hm⟩
 ·rw [hnb'] at hsl
  subst hr0
  exact .inl ⟨hsl.1,by simp⟩
 ·rw [hb] at hsl
  obtain ⟨h1,o,rfl,h3⟩:=hsl
  obtain ⟨hf1,hf2,_⟩:=hh.fresh _ _ _ ho hb
  have hlen:((rows.drop off).take len).length=len:=by simp; omega
  have hl:=gP hall
  have hcs:=(Cells.of_heap hheap).take (rows.length * t.size)
  rw [htake] at hcs
  have hcs2:=(hcs.drop (off * t.size)).take (len * t.size)
  rw [kC css hl off,nV _ (fun c hc=>hl c (List.mem_of_mem_drop hc)) len,Nat.zero_add] at hcs2
  have zLh:aY (fun x c=>t.Rel w N' x c) ((rows.drop off).take len) ((css.drop off).take len):=((hall.drop off).take len).mono fun _ _ h=>h.mono (Keep.refl _ w) hN
  refine .inr (.inl ⟨b,o,_,(css.drop off).take len,by rw [hlen],hf2,fun j _ _=>hnb b j hb,by omega,by omega,zLh,fun c hc=>hl c (List.mem_of_mem_drop (List.mem_of_mem_take hc)),?_⟩)
  rcases h3 with h3 | ⟨h3,_⟩
  ·rw [h3,hpz]; exact hcs2
  ·have hl0:len=0:=by omega
   subst hl0
   simpa using Cells.nil
theorem dZ.freeze {id:Nat} {e:TypeId} {t:Ty} {v:Nat} {rows:List t.den} {wr:Bool} {h:List Ob} (hs:dZ C β h w) (ho:h[id]?=some (.arr e t v rows wr)) :
  dZ C β (h.set id (.arr e t v rows false)) w∧(∀ b j,C.N β (h.set id (.arr e t v rows false)) b j->C.N β h b j)∧∀ b j,(β id).blk=some b->¬ C.N β (h.set id (.arr e t v rows false)) b j:=by
 have hi:id < h.length:=(bI.1 ho).1
 have hget:∀ (i:Nat) (o:Ob),(h.set id (.arr e t v rows false))[i]?=some o->(i ≠ id∧h[i]?=some o)∨(i=id∧o=.arr e t v rows false):=fun i o hio=>by
  by_cases hid:i=id
  ·subst hid
   rw [List.getElem?_set_self hi] at hio
   simp only [aA] at hio
   exact .inr ⟨rfl,hio.symm⟩
  ·rw [List.getElem?_set_ne (Ne.symm hid)] at hio
   exact .inl ⟨hid,hio⟩
 have hN:∀ b j,C.N β (h.set id (.arr e t v rows false)) b j->C.N β h b j:=fun b j hb=>by
  rcases hb with hb | ⟨i,o,hio,hw,hbk⟩
  ·exact .inl hb
  ·rcases hget i o hio with ⟨_,hio⟩ | ⟨_,rfl⟩
   ·exact .inr ⟨i,o,hio,hw,hbk⟩
   ·cases hw
 have hob:∀ (i:Nat) (o:Ob),h[i]?=some o->o.Rel β w (C.N β (h.set id (.arr e t v rows false))) (β i):=fun i o hio=>(hs.obj i o hio).mono (Moves.refl β) (Keep.refl _ w) (fun b j _ hb=>hN b j hb) fun _ _=>rfl
 refine ⟨⟨fun i o hio=>?_,fun i hl=>hs.dead i (by simpa using hl),fun i j o o' b h1 h2 hb1 hb2=>?_,fun i o b hio hb=>?_,hs.n0,hs.frame,hs.size,hs.os,hs.tape,hs.output,fun j o hj=>⟨by simpa using (hs.fixed j o hj).1,(hs.fixed j o hj).2⟩⟩,hN,fun b k hb hn=>?_⟩
 ·rcases hget i o hio with ⟨_,hio⟩ | ⟨rfl,rfl⟩
  ·exact hob i o hio
  ·have:=hob i _ ho
   simp only [Ob.Rel] at this ⊢
   exact this
 ·have k:∀ (i:Nat) (o:Ob),(h.set id (.arr e t v rows false))[i]?=some o->∃ o':Ob,h[i]?=some o'∧o.mR=o'.mR:=fun i o hio=>by
   rcases hget i o hio with ⟨_,hio⟩ | ⟨rfl,rfl⟩
   ·exact ⟨o,hio,rfl⟩
   ·exact ⟨_,ho,rfl⟩
  obtain ⟨o1,k1,k3⟩:=k i o h1
  obtain ⟨o2,k2,k4⟩:=k j o' h2
  exact hs.iV i j o1 o2 b k1 k2 (Ob.iY k3 rfl rfl hb1) (Ob.iY k4 rfl rfl hb2)
 ·rcases hget i o hio with ⟨_,hio⟩ | ⟨rfl,rfl⟩
  ·exact hs.eB i o b hio hb
  ·exact hs.Ed ho rfl rfl rfl (fun h=>by cases h) hb
 ·rcases hn with hn | ⟨i,o,hio,hw,hbk⟩
  ·exact (hs.fresh id _ b ho hb).1 k hn
  ·rcases hget i o hio with ⟨hne,hio⟩ | ⟨_,rfl⟩
   ·exact hne (hs.iV i id o _ b hio ho ⟨k,hbk⟩ (Ob.pU hb))
   ·cases hw
theorem zGj {h h':List Ob} {l l':L} (hf:frz h l=some (true,l',h')) (hs:dZ C β h w):dZ C β h' w∧(∀ b j,C.N β h' b j->C.N β h b j)∧(∀ cs,l.Rel β w (C.N β h) cs->l'.Rel β w (C.N β h') cs)∧h'.length=h.length ∧
  (∀ (i:Nat) (o:Ob),h[i]?=some o->∃ o',h'[i]?=some o'∧(∀ e ls,o=.box e ls->o'=.box e ls)):=by
 have ob:∀ {id:Nat} {e:TypeId} {t:Ty} {v:Nat} {rows:List t.den} {wr:Bool},h[id]?=some (.arr e t v rows wr)->∀ (i:Nat) (o:Ob),h[i]?=some o->∃ o',(h.set id (.arr e t v rows false))[i]?=some o'∧(∀ e ls,o=.box e ls->o'=.box e ls):=by
  intro id e t v rows wr ho i o hio
  by_cases hid:i=id
  ·subst hid
   rw [ho] at hio
   simp only [aA] at hio
   subst hio
   exact ⟨_,List.getElem?_set_self (bI.1 ho).1,fun e ls h=>by cases h⟩
  ·exact ⟨o,by rw [List.getElem?_set_ne (Ne.symm hid)]; exact hio,fun e ls h=>h⟩
 cases l <;> simp only [frz,reduceCtorEq] at hf
 case own id ver =>
  split at hf
  ·rename_i e t v rows wr ho
   simp only [aA,aB] at hf
   obtain ⟨hv,rfl,rfl⟩:=hf
   have hv:=aN hv
   obtain ⟨k1,k2,k3⟩:=hs.freeze ho
   refine ⟨k1,k2,fun cs hr=>?_,by simp,ob ho⟩
   have hob:=hs.obj _ _ ho
   simp only [Ob.Rel] at hob
   obtain ⟨_,_,hpv,_,_,hpl,_⟩:=hob
   simp only [L.Rel] at hr
   obtain ⟨_,_,_,c,rfl,_,himp⟩:=hr
   have hsl:=himp (by rw [hpv,hv])
   rw [hpl] at hsl
   have:=zNf (N':=C.N β (h.set id (.arr e t v rows false))) hs ho hsl (by omega) (fun b j _ hb=>k2 b j hb) k3
   rw [List.drop_zero,List.take_length] at this
   simpa only [L.Rel] using this
  ·cases hf
 case sl id ver off len =>
  split at hf
  ·rename_i e t v rows wr ho
   simp only [aA,aB,aG] at hf
   obtain ⟨⟨hv,hle⟩,rfl,rfl⟩:=hf
   have hv:=aN hv
   obtain ⟨k1,k2,k3⟩:=hs.freeze ho
   refine ⟨k1,k2,fun cs hr=>?_,by simp,ob ho⟩
   have hob:=hs.obj _ _ ho
   simp only [Ob.Rel] at hob
   obtain ⟨_,_,hpv,_,_,hpl,_⟩:=hob
   simp only [L.Rel] at hr
   obtain ⟨_,_,_,c,rfl,_,himp⟩:=hr
   simpa only [L.Rel] using zNf (N':=C.N β (h.set id (.arr e t v rows false))) hs ho (himp (by rw [hpv,hv])) (bT hle) (fun b j _ hb=>k2 b j hb) k3
  ·cases hf
theorem yBs {N:Nat->Nat->Prop} {to off:Nat} {l l':L} {cs:List Value} (h:yBp to off l=some l') (hr:l.Rel β w N cs):l'.Rel β w N cs:=by
 cases l <;> simp only [yBp,reduceCtorEq] at h
 case lC =>
  simp only [aA] at h
  subst h
  simp only [L.Rel] at *
  exact ⟨_,hr,.inl rfl⟩
 case ptr a b =>
  split at h
  ·rename_i hb
   simp only [aG] at hb
   have e1:=aN hb.1
   have e2:=aN hb.2
   subst e1 e2
   simp only [aA] at h
   subst h
   simp only [L.Rel] at *
   obtain ⟨h1,h2,b,h3,h4⟩:=hr
   exact ⟨_,h4,.inr ⟨h1,h2,b,h3,rfl⟩⟩
  ·cases h
 case gM a b =>
  split at h
  ·rename_i hb
   simp only [aG] at hb
   have e1:=aN hb.1
   have e2:=aN hb.2
   subst e1 e2
   simp only [aA] at h
   subst h
   exact hr
  ·cases h
def Ck (β:Nat->Pl) (ρ:List Nat):Nat->Pl:=fun j=>match ρ[j]? with | some i=>{ β i with ver:=0 } | none=>⟨false,false,0,none,0,0,0,[]⟩
theorem zNg {C:Ctx} {β:Nat->Pl} {w:World} {h:List Ob} {ρ:List Nat} (hs:dZ C β h w) (hlt:∀ i ∈ ρ,i < h.length):zVa β (Ck β ρ) ρ h:=by
 intro i j hp
 obtain ⟨m,hm,hi⟩:=yM hp
 rw [Nat.zero_add] at hm
 subst hm
 have e:Ck β ρ j={ β i with ver:=0 }:=by simp only [Ck,hi]
 rw [e]
 refine ⟨rfl,rfl,rfl,fun hb=>⟨rfl,?_,rfl,rfl,rfl⟩⟩
 have hil:=hlt i (List.mem_of_getElem? hi)
 have ho:h[i]?=some h[i]:=by simp [hil]
 have hob:=hs.obj i _ ho
 unfold zAn
 rw [ho]
 cases hoi:h[i] with
 | box e ls =>
  rw [hoi] at hob
  simp only [Ob.Rel] at hob
  rw [hob.2.1] at hb
  cases hb
 | arr e t v rows wr =>
  rw [hoi] at hob
  simp only [Ob.Rel] at hob
  exact hob.2.2.1
 | stk e ei v rows top =>
  rw [hoi] at hob
  simp only [Ob.Rel] at hob
  exact hob.2.2.1
 | fm tab =>
  rw [hoi] at hob
  simp only [Ob.Rel] at hob
  rw [hob.2.1] at hb
  cases hb
 | dm kt vt es =>
  rw [hoi] at hob
  simp only [Ob.Rel] at hob
  rw [hob.2.1] at hb
  cases hb
theorem Sim.gc {σ:St} {a:Act} {ρ:List Nat} (hs:Sim C β σ a w) (hnd:nodupB ρ=true) (hlt:∀ i ∈ ρ,i < σ.h.length) (hfx:∀ j,j < C.fix.length->ρ[j]?=some j) :
  Sim C (Ck β ρ) ⟨σ.r.map (V.ren ρ σ.h),inH ρ σ.h⟩ a w:=by
 have zAq:=zNg hs.heap hlt
 have hget:∀ i ∈ ρ,∃ o,σ.h[i]?=some o:=fun i hi=>⟨σ.h[i]'(hlt i hi),by simp [hlt i hi]⟩
 have hβ:∀ {j i:Nat},ρ[j]?=some i->Ck β ρ j={ β i with ver:=0 }:=fun hi=>by simp only [Ck,hi]
 have hN:∀ b j,b < w.heap.size->C.N (Ck β ρ) (inH ρ σ.h) b j->C.N β σ.h b j:=fun b k _ hb=>by
  rcases hb with hb | ⟨j,o,ho,hw,hbk⟩
  ·exact .inl hb
  ·obtain ⟨i,hi,rfl⟩:=tO ho
   obtain ⟨o',ho'⟩:=hget i (List.mem_of_getElem? hi)
   rw [fP ho',Ob.Tg] at hw
   rw [fP ho',hβ hi] at hbk
   exact .inr ⟨i,o',ho',hw,Ob.rG (Ob.sF ρ σ.h o') rfl rfl hbk⟩
 refine ⟨⟨?_,?_,?_,?_,hs.heap.n0,hs.heap.frame,hs.heap.size,hs.heap.os,hs.heap.tape,hs.heap.output,?_⟩,hs.defers,by simpa using hs.size,?_⟩
 ·intro j o ho
  obtain ⟨i,hi,rfl⟩:=tO ho
  obtain ⟨o',ho'⟩:=hget i (List.mem_of_getElem? hi)
  rw [fP ho',hβ hi]
  have hob:=hs.heap.obj i o' ho'
  cases o' with
  | box e ls =>
   simp only [Ob.ren,Ob.Rel] at *
   obtain ⟨h1,h2,b,cs,h3,h4,h5⟩:=hob
   exact ⟨h1,h2,b,cs,h3,h4.wV zAq hN,h5⟩
  | arr e t v rows wr =>
   simp only [Ob.ren,Ob.Rel] at *
   obtain ⟨h1,h2,h3,h4,h5,h6,h7⟩:=hob
   refine ⟨h1,h2,trivial,h4,h5,h6,?_⟩
   rcases h7 with h7 | ⟨b,cur,css,k1,k2,k3,k4⟩
   ·exact .inl h7
   ·exact .inr ⟨b,cur,css,k1,k2,k3.mono fun _ _ h=>h.mono (Keep.refl _ w) hN,k4⟩
  | fm tab=>simp only [Ob.ren,Ob.Rel] at *; exact hob
  | dm kt vt es =>
   simp only [Ob.ren,Ob.Rel] at *
   obtain ⟨h1,h2,b,ms,h3,h4,h5⟩:=hob
   exact ⟨h1,h2,b,ms,h3,h4,h5.mono (Keep.refl _ w) hN⟩
  | stk e ei v rows top =>
   simp only [Ob.ren,Ob.Rel] at *
   obtain ⟨g1,g2,g3,g4,g5,b,cur,cs,cs2,bs,k1,k2,k3,k4,k5,k6,k7,k8,k9,k10,k11⟩:=hob
   exact ⟨g1,g2,trivial,g4,by rw [Pg]; exact g5,b,cur,cs,cs2,bs,k1,k2,k3,k4,k5,k6,k7,k8,k9,k10.imp _ fun ls cs _ hl=>hl.wV zAq hN,k11⟩
 ·intro j hj
  simp only [inH,List.length_map] at hj
  simp only [Ck,List.getElem?_eq_none hj]
 ·intro i j o1 o2 b h1 h2 hb1 hb2
  obtain ⟨i',hi,rfl⟩:=tO h1
  obtain ⟨j',hj,rfl⟩:=tO h2
  obtain ⟨o1',ho1⟩:=hget i' (List.mem_of_getElem? hi)
  obtain ⟨o2',ho2⟩:=hget j' (List.mem_of_getElem? hj)
  rw [hβ hi,fP ho1] at hb1
  rw [hβ hj,fP ho2] at hb2
  have:=hs.heap.iV i' j' o1' o2' b ho1 ho2 (Ob.iY (Ob.sF ρ σ.h o1') rfl rfl hb1) (Ob.iY (Ob.sF ρ σ.h o2') rfl rfl hb2)
  subst this
  exact Gy hnd hi hj
 ·intro j o b ho hb
  obtain ⟨i,hi,rfl⟩:=tO ho
  obtain ⟨o',ho'⟩:=hget i (List.mem_of_getElem? hi)
  rw [fP ho'] at hb ⊢
  exact hs.heap.Ed ho' (Ob.sF ρ σ.h o') (by rw [hβ hi]) (by rw [hβ hi]) (fun h=>by rw [Ob.Tg] at h; exact h) hb
 ·intro j o hj
  obtain ⟨k1,k2⟩:=hs.heap.fixed j o hj
  have hj2:=hfx j (bI.1 hj).1
  refine ⟨by simpa [inH] using (bI.1 hj2).1,fun b hb=>?_⟩
  rw [hβ hj2]
  exact k2 b hb
 ·intro i v hv
  simp only [List.getElem?_map,Option.map_eq_some_iff] at hv
  obtain ⟨v0,hv0,rfl⟩:=hv
  exact (hs.reg i v0 hv0).wV zAq hN
theorem zSl {kf:Nat} (hkf:C.fix.length <= kf) {ρ:List Nat} {σ σ':St} {a:Act} {b:Bool} (hfx:Xn 0 kf ρ=true) (h:gcL ρ σ=some (b,σ')) (hs:Sim C β σ a w):∃ β',Sim C β' σ' a w:=by
 unfold gcL at h
 split at h
 ·rename_i hc
  simp only [aG] at hc
  simp only [aA,aB] at h
  obtain ⟨_,rfl⟩:=h
  refine ⟨_,hs.gc hc.1 (fun i hi=>?_) fun j hj=>?_⟩
  ·obtain ⟨n,hn⟩:=List.getElem?_of_mem hi
   exact bT (qV hc.2 n i hn)
  ·have:=zIw hfx j (Nat.lt_of_lt_of_le hj hkf)
   rwa [Nat.zero_add] at this
 ·cases h
theorem yFp (_hT:bK C.P T) {kf:Nat} (hkf:C.fix.length <= kf) {c:Co} {σ σ':St} {a:Act} {b:Bool} (hfx:c.fx kf=true) (h:co1 T c σ=some (b,σ')) (hb:b=true) (hs:Sim C β σ a w):∃ β',Sim C β' σ' a w:=by
 cases c with
 | opn id j =>
  simp only [co1] at h
  obtain ⟨h',h1,rfl⟩:=vZ h
  subst hb
  exact yBi h1 hs
 | cls id j =>
  simp only [co1] at h
  obtain ⟨h',h1,rfl⟩:=vZ h
  subst hb
  exact yBl h1 hs
 | yBo id j =>
  simp only [co1] at h
  obtain ⟨h',h1,rfl⟩:=vZ h
  subst hb
  exact zYm h1 hs
 | zAp id k =>
  simp only [co1] at h
  obtain ⟨h',h1,rfl⟩:=vZ h
  subst hb
  exact yBn h1 hs
 | Pw id j =>
  simp only [co1] at h
  obtain ⟨h',h1,rfl⟩:=vZ h
  subst hb
  exact zYn h1 hs
 | shut id =>
  simp only [co1] at h
  obtain ⟨h',h1,rfl⟩:=vZ h
  subst hb
  exact zYo h1 hs
 | slR i =>
  simp only [co1] at h
  split at h
  ·rename_i id ver hi
   split at h
   ·rename_i e t v rows wr ho
    simp only [aA,aB] at h
    obtain ⟨rfl,rfl⟩:=h
    have hv:=aN hb
    refine ⟨β,hs.heap,hs.defers,by simpa using hs.size,fun j u hu=>?_⟩
    by_cases hij:i=j
    ·subst hij
     rw [List.getElem?_set_self (bI.1 hi).1] at hu
     simp only [aA] at hu
     subst hu
     have hr:=hs.reg i _ hi
     have hob:=hs.heap.obj _ _ ho
     simp only [Ob.Rel] at hob
     obtain ⟨_,_,hpv,_,_,hpl,_⟩:=hob
     simp only [V.Rel,L.Rel] at hr ⊢
     obtain ⟨h1,h2,h3,c,h4,h5,h6⟩:=hr
     exact ⟨h1,h2,h3,c,h4,h5,fun hvv=>by have:=h6 hvv; rwa [hpl] at this⟩
    ·rw [List.getElem?_set_ne hij] at hu
     exact hs.reg j u hu
   ·cases h
  ·simp only [aA,aB] at h
   obtain ⟨_,rfl⟩:=h
   exact ⟨β,hs⟩
  ·cases h
 | yHz i j t =>
  simp only [co1] at h
  split at h
  ·rename_i ls e te ti hi het
   obtain ⟨ts,_,_,hti,_,hsz,hpos,hby⟩:=gY het
   split at h
   ·simp only [aA,aB] at h
    obtain ⟨_,rfl⟩:=h
    exact ⟨β,hs⟩
   split at h
   ·rename_i ls' hset
    simp only [aA,aB] at h
    obtain ⟨_,rfl⟩:=h
    obtain ⟨β',h1,h2,h3⟩:=Ef (e:=e) (t:=te) hs hpos
    refine ⟨β',h2.heap,h2.defers,by simpa using h2.size,fun k v hv=>?_⟩
    by_cases hij:i=k
    ·subst hij
     rw [List.getElem?_set_self (bI.1 hi).1] at hv
     simp only [aA] at hv
     subst hv
     obtain ⟨cs,e1,e2⟩:=h2.reg i _ hi
     exact ⟨cs,e1,aI.nS h3 hset e2⟩
    ·rw [List.getElem?_set_ne hij] at hv
     exact h2.reg k v hv
   ·cases h
  ·cases h
 | yIa i j =>
  simp only [co1] at h
  split at h
  ·rename_i ls hi
   split at h
   ·rename_i l hl
    split at h
    ·simp only [aA,aB] at h
     obtain ⟨_,rfl⟩:=h
     exact ⟨β,hs⟩
    split at h
    ·rename_i c l' h' hf
     simp only [aA,aB] at h
     obtain ⟨rfl,rfl⟩:=h
     subst hb
     obtain ⟨k1,k2,k3,k4,_⟩:=zGj hf hs.heap
     refine ⟨β,k1,hs.defers,by simpa using hs.size,fun k u hu=>?_⟩
     by_cases hij:i=k
     ·subst hij
      rw [List.getElem?_set_self (bI.1 hi).1] at hu
      simp only [aA] at hu
      subst hu
      obtain ⟨cs,e1,e2⟩:=hs.reg i _ hi
      exact ⟨cs,e1,aI.zDk (fun b j _ hb=>k2 b j hb) hl k3 e2⟩
     ·rw [List.getElem?_set_ne hij] at hu
      exact (hs.reg k u hu).mono (Moves.refl β) (Keep.refl _ w) fun b j _ hb=>k2 b j hb
    ·cases h
   ·cases h
  ·cases h
 | gc ρ=>exact zSl hkf hfx h hs
 | gcA k =>
  simp only [co1] at h
  split at h
  ·rename_i hp
   simp only [Co.fx] at hfx
   exact zSl (Nat.le_trans hkf (bT hfx)) hp h hs
  ·cases h
 | orn id j to off =>
  simp only [co1] at h
  split at h
  ·rename_i eb ls hi
   split at h
   ·rename_i l hl
    split at h
    ·rename_i l' hf
     simp only [aA,aB] at h
     obtain ⟨_,rfl⟩:=h
     have hob:=hs.heap.obj _ _ hi
     simp only [Ob.Rel] at hob
     obtain ⟨_,_,bb,cs,hb,hls,hheap⟩:=hob
     have hnew:aI β w (C.N β σ.h) (ls.set j l') cs:=aI.setAt hl (fun c hr=>yBs hf hr) hls
     have:=hs.Ng (cs':=cs) hi hb hheap hnew
     rw [setRow_self w bb cs.toArray eb (0,0) hheap] at this
     exact ⟨β,this⟩
    ·cases h
   ·cases h
  ·cases h
 | zNe i =>
  simp only [co1] at h
  split at h
  ·rename_i l hi
   split at h
   ·simp only [aA,aB] at h
    obtain ⟨_,rfl⟩:=h
    exact ⟨β,hs⟩
   split at h
   ·rename_i c l' h' hf
    simp only [aA,aB] at h
    obtain ⟨rfl,rfl⟩:=h
    subst hb
    obtain ⟨k1,k2,k3,k4,_⟩:=zGj hf hs.heap
    refine ⟨β,k1,hs.defers,by simpa using hs.size,fun j u hu=>?_⟩
    by_cases hij:i=j
    ·subst hij
     rw [List.getElem?_set_self (bI.1 hi).1] at hu
     simp only [aA] at hu
     subst hu
     exact k3 _ (hs.reg i _ hi)
    ·rw [List.getElem?_set_ne hij] at hu
     exact (hs.reg j u hu).mono (Moves.refl β) (Keep.refl _ w) fun b j _ hb=>k2 b j hb
   ·cases h
  ·cases h
 | yHy id j =>
  simp only [co1] at h
  split at h
  ·rename_i eb ls hi
   split at h
   ·rename_i l hl
    split at h
    ·simp only [aA,aB] at h
     obtain ⟨_,rfl⟩:=h
     exact ⟨β,hs⟩
    split at h
    ·rename_i c l' h' hf
     simp only [aA,aB] at h
     obtain ⟨rfl,rfl⟩:=h
     subst hb
     obtain ⟨k1,k2,k3,k4,k5⟩:=zGj hf hs.heap
     obtain ⟨o',h1,h2⟩:=k5 id _ hi
     have h2:=h2 eb ls rfl
     subst h2
     have hs':Sim C β ⟨σ.r,h'⟩ a w:=⟨k1,hs.defers,hs.size,fun i v hv=>(hs.reg i v hv).mono (Moves.refl β) (Keep.refl _ w) fun b j _ hb=>k2 b j hb⟩
     have hob:=k1.obj _ _ h1
     have zGd:=hs.heap.obj _ _ hi
     simp only [Ob.Rel] at hob zGd
     obtain ⟨_,_,bb,cs,hb,hls,hheap⟩:=hob
     obtain ⟨_,_,bb0,cs0,hb0,yMv,zNh⟩:=zGd
     rw [hb] at hb0
     simp only [aA] at hb0
     subst hb0
     rw [hheap] at zNh
     simp only [aA,Obj.cells.injEq,and_true] at zNh
     have hcs:cs0=cs:=by have:=congrArg Array.toList zNh; simpa using this.symm
     subst hcs
     have hnew:aI β w (C.N β h') (ls.set j l') cs0:=aI.zDk (fun b j _ hb=>k2 b j hb) hl k3 yMv
     have:=hs'.Ng (cs':=cs0) h1 hb hheap hnew
     rw [setRow_self w bb cs0.toArray eb (0,0) hheap] at this
     exact ⟨β,this⟩
    ·cases h
   ·cases h
  ·cases h
 | keep m =>
  simp only [co1,aA,aB] at h
  obtain ⟨rfl,rfl⟩:=h
  refine ⟨β,hs.heap,hs.defers,by rw [Aa]; exact hs.size,fun i v hv=>?_⟩
  rcases Kr m σ.r i v hv with rfl | h1
  ·trivial
  ·exact hs.reg i v h1
 | trunc n =>
  simp only [co1] at h
  split at h
  ·rename_i hc
   simp only [aG] at hc
   simp only [aA,aB] at h
   obtain ⟨rfl,rfl⟩:=h
   exact hs.trunc (Nat.le_trans hkf (bT hfx)) (bT hc.1) hc.2.1 hc.2.2
  ·cases h
 | Fh i t =>
  simp only [co1] at h
  split at h
  ·rename_i e te ti hi het
   obtain ⟨ts,_,_,hti,_,hsz,hpos,hby⟩:=gY het
   simp only [aA,aB] at h
   obtain ⟨rfl,rfl⟩:=h
   obtain ⟨β',h1,h2,h3⟩:=Ef (e:=e) (t:=te) hs hpos
   refine ⟨β',h2.heap,h2.defers,by simpa using h2.size,fun j v hv=>?_⟩
   by_cases hij:i=j
   ·subst hij
    rw [List.getElem?_set_self (bI.1 hi).1] at hv
    simp only [aA] at hv
    subst hv
    have:=hs.reg i _ hi
    simp only [V.Rel,L.Rel,aL,and_true] at this
    rw [this]
    exact h3
   ·rw [List.getElem?_set_ne hij] at hv
    exact h2.reg j v hv
  ·simp only [aA,aB] at h
   obtain ⟨_,rfl⟩:=h
   exact ⟨β,hs⟩
  ·cases h
 | ownB id j t =>
  simp only [co1] at h
  split at h
  ·rename_i eb ls e te ti hi het
   obtain ⟨ts,_,_,hti,_,hsz,hpos,hby⟩:=gY het
   split at h
   ·simp only [aA,aB] at h
    obtain ⟨_,rfl⟩:=h
    exact ⟨β,hs⟩
   split at h
   ·rename_i ls' hset
    simp only [aA,aB] at h
    obtain ⟨rfl,rfl⟩:=h
    obtain ⟨β',h1,h2,h3⟩:=Ef (e:=e) (t:=te) hs hpos
    have hi':(σ.h++[.arr e te 0 [] true])[id]?=some (.box eb ls):=by
     rw [iE (bI.1 hi).1]; exact hi
    have hob:=h2.heap.obj _ _ hi'
    simp only [Ob.Rel] at hob
    obtain ⟨_,_,bb,cs,hb,hls,hheap⟩:=hob
    have:=h2.Ng (cs':=cs) hi' hb hheap (aI.nS h3 hset hls)
    rw [setRow_self w bb cs.toArray eb (0,0) hheap] at this
    exact ⟨β',this⟩
   ·cases h
  ·cases h
 | yHw i t =>
  simp only [co1] at h
  split at h
  ·rename_i hi
   simp only [aA,aB] at h
   obtain ⟨rfl,rfl⟩:=h
   refine ⟨β,hs.heap,hs.defers,by simpa using hs.size,fun j v hv=>?_⟩
   by_cases hij:i=j
   ·subst hij
    rw [List.getElem?_set_self (bI.1 hi).1] at hv
    simp only [aA] at hv
    subst hv
    have:=hs.reg i _ hi
    simp only [V.Rel,L.Rel,Ty.Rel,aL,and_true] at this ⊢
    exact ⟨_,rfl,.inl ⟨this,rfl⟩⟩
   ·rw [List.getElem?_set_ne hij] at hv
    exact hs.reg j v hv
  ·cases h
 | yHx id j t =>
  simp only [co1] at h
  split at h
  ·rename_i eb ls hi
   split at h
   ·rename_i ls' hset
    simp only [aA,aB] at h
    obtain ⟨rfl,rfl⟩:=h
    have hob:=hs.heap.obj _ _ hi
    simp only [Ob.Rel] at hob
    obtain ⟨_,_,bb,cs,hb,hls,hheap⟩:=hob
    have:=hs.Ng (cs':=cs) hi hb hheap (aI.nS (l:=.val (.slice t) []) (by simp only [L.Rel,Ty.Rel]; exact ⟨_,rfl,.inl ⟨rfl,rfl⟩⟩) hset hls)
    rw [setRow_self w bb cs.toArray eb (0,0) hheap] at this
    exact ⟨β,this⟩
   ·cases h
  ·cases h
 | ver id =>
  simp only [co1] at h
  split at h
  ·rename_i e t v rows wr ho
   split at h
   ·rename_i hc
    simp only [aG] at hc
    simp only [aA,aB] at h
    obtain ⟨rfl,rfl⟩:=h
    exact ⟨_,hs.cO ho hc.1 hc.2⟩
   ·cases h
  ·cases h
theorem Cm {ρ:Type} (hT:bK C.P T) {kf:Nat} (hkf:C.fix.length <= kf) {k:St->Option ρ} {r:ρ}:∀ {cs:List Co} {β:Nat->Pl} {σ:St} {a:Act},bR (Co.fx kf) cs=true->norm T cs σ k=some r->Sim C β σ a w->∃ β' σ',Sim C β' σ' a w∧k σ'=some r
 | [],β,σ,a,_,h,hs=>⟨β,σ,hs,h⟩
 | c :: cs,β,σ,a,hfx,h,hs=>by
  simp only [bR,aG] at hfx
  simp only [norm] at h
  split at h
  ·rename_i b σ' hc
   obtain ⟨hb,hk⟩:=gQ h
   obtain ⟨β',hs'⟩:=yFp hT hkf hfx.1 hc hb hs
   exact Cm hT hkf hfx.2 hk hs'
  ·cases h
end
end Go.Dec
namespace Go.Dec
inductive LS where
 | v (t:Ty)
 | ptr (id off:Nat)
 | own (id:Nat)
 | clo (f:Nat) (caps:List (Nat × Nat))
 | any (n:Nat)
 | gB (id off:Nat)
 | sl (id:Nat)
 | dG
 | gM (id off:Nat)
 | mp (id:Nat)
def yIb (caps:List (Nat × Nat)):List L:=caps.map fun p=>.ptr p.1 p.2
def zLt:List (Nat × Nat)->List L->Bool
 | [],[]=>true
 | p :: r,.ptr a b :: m=>Nat.beq p.1 a && (Nat.beq p.2 b && zLt r m)
 | _,_=>false
theorem zNi:∀ {caps:List (Nat × Nat)} {m:List L},zLt caps m=true->m=yIb caps
 | [],[],_=>rfl
 | (i,o) :: r,l :: m,h=>by
  cases l <;> simp only [zLt,aG,Bool.false_eq_true] at h
  obtain ⟨h1,h2,h3⟩:=h
  obtain rfl:i=_:=aN h1
  obtain rfl:o=_:=aN h2
  rw [zNi h3]
  rfl
 | [],_ :: _,h=>by cases h
 | _ :: _,[],h=>by cases h
@[reducible] def LTs:List LS->Type->Type
 | [],A=>A
 | .v t :: r,A=>t.den × LTs r A
 | .gB _ _ :: r,A=>Nat × LTs r A
 | .sl _ :: r,A=>Nat × (Nat × LTs r A)
 | .ptr _ _ :: r,A=>LTs r A
 | .own _ :: r,A=>LTs r A
 | .clo _ _ :: r,A=>LTs r A
 | .any _ :: r,A=>LTs r A
 | .dG :: r,A=>LTs r A
 | .gM _ _ :: r,A=>LTs r A
 | .mp _ :: r,A=>LTs r A
structure Slot where
 i:Nat
 agg:Bool
 ls:List LS
inductive OS where
 | box (e:TypeId) (ls:List LS)
 | row (e:TypeId) (t:Ty)
 | fm (tab:List (MK × Nat))
 | dm (kt vt:Ty)
 | stk (e ei:TypeId)
@[reducible] def RTs:List Slot->Type->Type
 | [],A=>A
 | s :: r,A=>LTs s.ls (RTs r A)
@[reducible] def OTs:List OS->Type->Type
 | [],A=>A
 | .box _ ls :: r,A=>LTs ls (OTs r A)
 | .row _ t :: r,A=>List t.den × OTs r A
 | .fm _ :: r,A=>OTs r A
 | .dm kt vt :: r,A=>List (kt.den × vt.den) × OTs r A
 | .stk _ _ :: r,A=>List (Int × Int × List Int × List Int × Unit) × OTs r A
structure Sh where
 n:Nat
 rs:List Slot
 os:List OS
@[reducible] def Sh.X (sh:Sh):Type:=RTs sh.rs (OTs sh.os Unit)
def eG {A:Type}:(ls:List LS)->LTs ls A->List L × A
 | [],x=>([],x)
 | .v t :: r,x=>(.val t x.1 :: (eG r x.2).1,(eG r x.2).2)
 | .ptr a b :: r,x=>(.ptr a b :: (eG (A:=A) r x).1,(eG (A:=A) r x).2)
 | .own a :: r,x=>(.own a 0 :: (eG (A:=A) r x).1,(eG (A:=A) r x).2)
 | .clo f caps :: r,x=>(.clo f (yIb caps) :: (eG (A:=A) r x).1,(eG (A:=A) r x).2)
 | .gB a o :: r,x=>(.gB a 0 x.1 o :: (eG r x.2).1,(eG r x.2).2)
 | .sl a :: r,x=>(.sl a 0 x.1 x.2.1 :: (eG r x.2.2).1,(eG r x.2.2).2)
 | .dG :: r,x=>(.dG :: (eG (A:=A) r x).1,(eG (A:=A) r x).2)
 | .gM a b :: r,x=>(.gM a b :: (eG (A:=A) r x).1,(eG (A:=A) r x).2)
 | .mp a :: r,x=>(.mp a :: (eG (A:=A) r x).1,(eG (A:=A) r x).2)
 | .any n :: r,x=>(.bad n :: (eG (A:=A) r x).1,(eG (A:=A) r x).2)
def zNj (agg:Bool) (ls:List L):V :=
 match agg,ls with
 | true,ls=>.agg ls
 | false,[l]=>.one l
 | _,_=>.bW
def Gz {A:Type}:(rs:List Slot)->List V->RTs rs A->List V × A
 | [],acc,x=>(acc,x)
 | s :: r,acc,x=>Gz r (acc.set s.i (zNj s.agg (eG s.ls x).1)) (eG s.ls x).2
def eT {A:Type}:(os:List OS)->OTs os A->List Ob × A
 | [],x=>([],x)
 | .box e ls :: r,x=>(.box e (eG ls x).1 :: (eT r (eG ls x).2).1,(eT r (eG ls x).2).2)
 | .row e t :: r,x=>(.arr e t 0 x.1 true :: (eT r x.2).1,(eT r x.2).2)
 | .fm tab :: r,x=>(.fm tab :: (eT (A:=A) r x).1,(eT (A:=A) r x).2)
 | .dm kt vt :: r,x=>(.dm kt vt x.1 :: (eT r x.2).1,(eT r x.2).2)
 | .stk e ei :: r,x=>(.stk e ei 0 x.1 none :: (eT r x.2).1,(eT r x.2).2)
def Sh.enc (sh:Sh) (x:sh.X):St :=
 let p:=Gz sh.rs (List.replicate sh.n .bW) x
 ⟨p.1,(eT sh.os p.2).1⟩
def bX {A:Type}:(ls:List LS)->List L->Option (A->LTs ls A)
 | [],[]=>some id
 | .v t :: r,l :: m =>
  match l.asT t,bX (A:=A) r m with
  | some x,some f=>some fun a=>(x,f a)
  | _,_=>none
 | .ptr a b :: r,.ptr a' b' :: m=>match Nat.beq a a' && Nat.beq b b' with
  | true=>bX (A:=A) r m
  | false=>none
 | .own a :: r,.own a' u :: m=>match Nat.beq a a' && Nat.beq u 0 with
  | true=>bX (A:=A) r m
  | false=>none
 | .clo f caps :: r,.clo f' m' :: m=>match Nat.beq f f' && zLt caps m' with
  | true=>bX (A:=A) r m
  | false=>none
 | .gB a o :: r,.gB a' u i o' :: m=>match Nat.beq a a' && (Nat.beq u 0 && Nat.beq o o'),bX (A:=A) r m with
  | true,some f=>some fun x=>(i,f x)
  | _,_=>none
 | .sl a :: r,.sl a' u i n :: m=>match Nat.beq a a' && Nat.beq u 0,bX (A:=A) r m with
  | true,some f=>some fun x=>(i,n,f x)
  | _,_=>none
 | .dG :: r,.dG :: m=>bX (A:=A) r m
 | .gM a b :: r,.gM a' b' :: m=>match Nat.beq a a' && Nat.beq b b' with
  | true=>bX (A:=A) r m
  | false=>none
 | .mp a :: r,.mp a' :: m=>match Nat.beq a a' with
  | true=>bX (A:=A) r m
  | false=>none
 | .any n :: r,l :: m=>match Nat.beq n l.size with
  | true=>bX (A:=A) r m
  | false=>none
 | _,_=>none
def zDs (agg:Bool) (v:V):Option (List L) :=
 match agg,v with
 | true,.agg ls=>some ls
 | false,.one l=>some [l]
 | _,_=>none
def zDt {A:Type} (σr:List V):(rs:List Slot)->Option (A->RTs rs A)
 | []=>some id
 | s :: r =>
  match zDs s.agg (σr.getD s.i .bW) with
  | some ls =>
   match bX (A:=RTs r A) s.ls ls,zDt σr r with
   | some f,some g=>some fun a=>f (g a)
   | _,_=>none
  | none=>none
def eZ {A:Type}:(os:List OS)->List Ob->Option (A->OTs os A)
 | [],[]=>some id
 | .box e ls :: r,.box e' l :: m =>
  match Nat.beq e e',bX (A:=OTs r A) ls l,eZ (A:=A) r m with
  | true,some f,some g=>some fun a=>f (g a)
  | _,_,_=>none
 | .row e t :: r,.arr e' t' ver rows wr :: m =>
  match Nat.beq e e' && (Nat.beq ver 0 && wr),eZ (A:=A) r m with
  | true,some g=>if h:t'=t then some fun a=>(h ▸ rows,g a) else none
  | _,_=>none
 | .fm tab :: r,.fm yIc :: m=>if tab=yIc then eZ (A:=A) r m else none
 | .dm kt vt :: r,.dm kt' vt' es :: m =>
  match eZ (A:=A) r m with
  | some g=>if h:kt'=kt∧vt'=vt then some fun a=>(h.1 ▸ h.2 ▸ es,g a) else none
  | none=>none
 | .stk e ei :: r,.stk e' ei' ver rows none :: m =>
  match Nat.beq e e' && (Nat.beq ei ei' && Nat.beq ver 0),eZ (A:=A) r m with
  | true,some g=>some fun a=>(rows,g a)
  | _,_=>none
 | _,_=>none
def Sh.dec (sh:Sh) (σ:St):Option sh.X :=
 match Nat.beq σ.r.length sh.n,zDt (A:=OTs sh.os Unit) σ.r sh.rs,eZ (A:=Unit) sh.os σ.h with
 | true,some f,some g=>some (f (g ()))
 | _,_,_=>none
section
variable {β:Nat->Pl} {w:World} {N:Nat->Nat->Prop} {A:Type}
theorem jA:∀ {ls:List LS} {l:List L} {f:A->LTs ls A} (a:A) {cs:List Value},bX ls l=some f->aI β w N l cs->aI β w N (eG ls (f a)).1 cs∧(eG ls (f a)).2=a
 | [],[],f,a,cs,h,hr=>by
  simp only [bX,aA] at h
  subst h
  exact ⟨hr,rfl⟩
 | .v t :: r,l :: m,f,a,cs,h,hr=>by
  simp only [bX] at h
  split at h
  ·rename_i x g h1 h2
   simp only [aA] at h
   subst h
   obtain ⟨c1,c2,e,r1,r2⟩:=hr
   obtain ⟨g1,g2⟩:=jA a h2 r2
   exact ⟨⟨c1,c2,e,by simpa only [L.Rel] using L.Xe h1 r1,g1⟩,g2⟩
  ·cases h
 | .ptr i o :: r,l :: m,f,a,cs,h,hr=>by
  cases l <;> simp only [bX,reduceCtorEq] at h
  split at h
  ·rename_i hb
   simp only [aG] at hb
   have e1:=aN hb.1
   have e2:=aN hb.2
   subst e1 e2
   obtain ⟨c1,c2,e,r1,r2⟩:=hr
   obtain ⟨g1,g2⟩:=jA a h r2
   exact ⟨⟨c1,c2,e,r1,g1⟩,g2⟩
  ·cases h
 | .own i :: r,l :: m,f,a,cs,h,hr=>by
  cases l <;> simp only [bX,reduceCtorEq] at h
  split at h
  ·rename_i hb
   simp only [aG] at hb
   have e1:=aN hb.1
   have e2:=aN hb.2
   subst e1 e2
   obtain ⟨c1,c2,e,r1,r2⟩:=hr
   obtain ⟨g1,g2⟩:=jA a h r2
   exact ⟨⟨c1,c2,e,r1,g1⟩,g2⟩
  ·cases h
 | .clo i caps :: r,l :: m,f,a,cs,h,hr=>by
  cases l <;> simp only [bX,reduceCtorEq] at h
  split at h
  ·rename_i hb
   simp only [aG] at hb
   have e1:=aN hb.1
   have e2:=zNi hb.2
   subst e1 e2
   obtain ⟨c1,c2,e,r1,r2⟩:=hr
   obtain ⟨g1,g2⟩:=jA a h r2
   exact ⟨⟨c1,c2,e,r1,g1⟩,g2⟩
  ·cases h
 | .gB i o :: r,l :: m,f,a,cs,h,hr=>by
  cases l <;> simp only [bX,reduceCtorEq] at h
  split at h
  ·rename_i f1 hb h2
   simp only [aA] at h
   subst h
   simp only [aG] at hb
   have e1:=aN hb.1
   have e2:=aN hb.2.1
   have e3:=aN hb.2.2
   subst e1 e2 e3
   obtain ⟨c1,c2,e,r1,r2⟩:=hr
   obtain ⟨g1,g2⟩:=jA a h2 r2
   exact ⟨⟨c1,c2,e,r1,g1⟩,g2⟩
  ·cases h
 | .sl i :: r,l :: m,f,a,cs,h,hr=>by
  cases l <;> simp only [bX,reduceCtorEq] at h
  split at h
  ·rename_i f1 hb h2
   simp only [aA] at h
   subst h
   simp only [aG] at hb
   have e1:=aN hb.1
   have e2:=aN hb.2
   subst e1 e2
   obtain ⟨c1,c2,e,r1,r2⟩:=hr
   obtain ⟨g1,g2⟩:=jA a h2 r2
   exact ⟨⟨c1,c2,e,r1,g1⟩,g2⟩
  ·cases h
 | .gM i o :: r,l :: m,f,a,cs,h,hr=>by
  cases l <;> simp only [bX,reduceCtorEq] at h
  split at h
  ·rename_i hb
   simp only [aG] at hb
   have e1:=aN hb.1
   have e2:=aN hb.2
   subst e1 e2
   obtain ⟨c1,c2,e,r1,r2⟩:=hr
   obtain ⟨g1,g2⟩:=jA a h r2
   exact ⟨⟨c1,c2,e,r1,g1⟩,g2⟩
  ·cases h
 | .dG :: r,l :: m,f,a,cs,h,hr=>by
  cases l <;> simp only [bX,reduceCtorEq] at h
  obtain ⟨c1,c2,e,r1,r2⟩:=hr
  obtain ⟨g1,g2⟩:=jA a h r2
  exact ⟨⟨c1,c2,e,r1,g1⟩,g2⟩
 | .mp i :: r,l :: m,f,a,cs,h,hr=>by
  cases l <;> simp only [bX,reduceCtorEq] at h
  split at h
  ·rename_i hb
   have e1:=aN hb
   subst e1
   obtain ⟨c1,c2,e,r1,r2⟩:=hr
   obtain ⟨g1,g2⟩:=jA a h r2
   exact ⟨⟨c1,c2,e,r1,g1⟩,g2⟩
  ·cases h
 | .any n :: r,l :: m,f,a,cs,h,hr=>by
  simp only [bX] at h
  split at h
  ·rename_i hb
   have e1:=aN hb
   subst e1
   obtain ⟨c1,c2,e,r1,r2⟩:=hr
   obtain ⟨g1,g2⟩:=jA a h r2
   exact ⟨⟨c1,c2,e,by simp only [L.Rel]; exact ⟨r1.length,fun c hc=>r1.one c hc⟩,g1⟩,g2⟩
  ·cases h
 | [],_ :: _,_,_,_,h,_=>by simp [bX] at h
 | .v _ :: _,[],_,_,_,h,_=>by simp [bX] at h
 | .ptr .. :: _,[],_,_,_,h,_=>by simp [bX] at h
 | .own .. :: _,[],_,_,_,h,_=>by simp [bX] at h
 | .clo .. :: _,[],_,_,_,h,_=>by simp [bX] at h
 | .gB .. :: _,[],_,_,_,h,_=>by simp [bX] at h
 | .sl .. :: _,[],_,_,_,h,_=>by simp [bX] at h
 | .dG :: _,[],_,_,_,h,_=>by simp [bX] at h
 | .gM .. :: _,[],_,_,_,h,_=>by simp [bX] at h
 | .mp .. :: _,[],_,_,_,h,_=>by simp [bX] at h
 | .any .. :: _,[],_,_,_,h,_=>by simp [bX] at h
theorem lZ:∀ {ls:List LS} {l:List L} {f:A->LTs ls A} (a:A),bX ls l=some f->(eG ls (f a)).1.length=l.length
 | [],[],f,a,h=>by
  simp only [bX,aA] at h
  subst h
  rfl
 | .v t :: r,l :: m,f,a,h=>by
  simp only [bX] at h
  split at h
  ·rename_i x g h1 h2
   simp only [aA] at h
   subst h
   simp only [eG,List.length_cons,lZ a h2]
  ·cases h
 | .ptr i o :: r,l :: m,f,a,h=>by
  cases l <;> simp only [bX,reduceCtorEq] at h
  split at h
  ·simp only [eG,List.length_cons,lZ a h]
  ·cases h
 | .mp i :: r,l :: m,f,a,h=>by
  cases l <;> simp only [bX,reduceCtorEq] at h
  split at h
  ·simp only [eG,List.length_cons,lZ a h]
  ·cases h
 | .own i :: r,l :: m,f,a,h=>by
  cases l <;> simp only [bX,reduceCtorEq] at h
  split at h
  ·simp only [eG,List.length_cons,lZ a h]
  ·cases h
 | .clo i caps :: r,l :: m,f,a,h=>by
  cases l <;> simp only [bX,reduceCtorEq] at h
  split at h
  ·simp only [eG,List.length_cons,lZ a h]
  ·cases h
 | .gB i o :: r,l :: m,f,a,h=>by
  cases l <;> simp only [bX,reduceCtorEq] at h
  split at h
  ·rename_i f1 hb h2
   simp only [aA] at h
   subst h
   simp only [eG,List.length_cons,lZ a h2]
  ·cases h
 | .sl i :: r,l :: m,f,a,h=>by
  cases l <;> simp only [bX,reduceCtorEq] at h
  split at h
  ·rename_i f1 hb h2
   simp only [aA] at h
   subst h
   simp only [eG,List.length_cons,lZ a h2]
  ·cases h
 | .gM i o :: r,l :: m,f,a,h=>by
  cases l <;> simp only [bX,reduceCtorEq] at h
  split at h
  ·simp only [eG,List.length_cons,lZ a h]
  ·cases h
 | .dG :: r,l :: m,f,a,h=>by
  cases l <;> simp only [bX,reduceCtorEq] at h
  have:=lZ a h
  simp only [eG,List.length_cons,this]
 | .any n :: r,l :: m,f,a,h=>by
  simp only [bX] at h
  split at h
  ·simp only [eG,List.length_cons,lZ a h]
  ·cases h
 | [],_ :: _,_,_,h=>by simp [bX] at h
 | .v _ :: _,[],_,_,h=>by simp [bX] at h
 | .ptr .. :: _,[],_,_,h=>by simp [bX] at h
 | .own .. :: _,[],_,_,h=>by simp [bX] at h
 | .clo .. :: _,[],_,_,h=>by simp [bX] at h
 | .gB .. :: _,[],_,_,h=>by simp [bX] at h
 | .sl .. :: _,[],_,_,h=>by simp [bX] at h
 | .dG :: _,[],_,_,h=>by simp [bX] at h
 | .gM .. :: _,[],_,_,h=>by simp [bX] at h
 | .mp .. :: _,[],_,_,h=>by simp [bX] at h
 | .any .. :: _,[],_,_,h=>by simp [bX] at h
theorem zVg {agg:Bool} {v:V} {ls ls':List L} {x:Value} (hs:zDs agg v=some ls) (hr:v.Rel β w N x) (hlen:ls'.length=ls.length) (h:∀ cs,aI β w N ls cs->aI β w N ls' cs):(zNj agg ls').Rel β w N x:=by
 unfold zDs at hs
 split at hs
 ·simp only [aA] at hs
  subst hs
  obtain ⟨cs,e,hr⟩:=hr
  exact ⟨cs,e,h cs hr⟩
 ·rename_i l
  simp only [aA] at hs
  subst hs
  match ls',hlen with
  | [l'],_ =>
   obtain ⟨c1,c2,e,h1,h2⟩:=h [x] ⟨[x],[],rfl,hr,rfl⟩
   simp only [aI] at h2
   subst h2
   rw [List.append_nil] at e
   subst e
   exact h1
 ·cases hs
def Hz (β:Nat->Pl) (w:World) (N:Nat->Nat->Prop) (r:List V) (tmps:Array Value):Prop:=∀ (i:Nat) (v:V),r[i]?=some v->v.Rel β w N (tmps.getD i undef)
theorem Hz.set {r:List V} {tmps:Array Value} (h:Hz β w N r tmps) {i:Nat} {v:V} (hv:v.Rel β w N (tmps.getD i undef)):Hz β w N (r.set i v) tmps:=by
 intro j u hu
 by_cases hij:i=j
 ·subst hij
  rcases iU i r.length with hi | hi
  ·rw [List.getElem?_set_self hi] at hu
   simp only [aA] at hu
   subst hu
   exact hv
  ·rw [List.getElem?_eq_none (by simpa using hi)] at hu; cases hu
 ·rw [List.getElem?_set_ne hij] at hu
  exact h j u hu
theorem zIx {σr:List V} {tmps:Array Value} (hr:Hz β w N σr tmps):∀ {rs:List Slot} {f:A->RTs rs A} (a:A) {acc:List V},zDt σr rs=some f->Hz β w N acc tmps ->
  Hz β w N (Gz rs acc (f a)).1 tmps∧(Gz rs acc (f a)).2=a∧(Gz rs acc (f a)).1.length=acc.length
 | [],f,a,acc,h,ha=>by
  simp only [zDt,aA] at h
  subst h
  exact ⟨ha,rfl,rfl⟩
 | s :: r,f,a,acc,h,ha=>by
  simp only [zDt] at h
  split at h
  ·rename_i ls hls
   split at h
   ·rename_i f1 g h1 h2
    simp only [aA] at h
    subst h
    have hv:(σr.getD s.i .bW).Rel β w N (tmps.getD s.i undef):=by
     rw [List.getD_eq_getElem?_getD]
     cases hg:σr[s.i]? with
     | none=>trivial
     | some v=>exact hr s.i v hg
    have hmk:=zVg hls hv (lZ (g a) h1) fun cs hc=>(jA (g a) h1 hc).1
    have e2:(eG s.ls (f1 (g a))).2=g a:=by
     have hp:∃ cs,aI β w N ls cs:=by
      unfold zDs at hls
      split at hls
      ·rename_i l heq
       simp only [aA] at hls
       subst hls
       rw [heq] at hv
       obtain ⟨cs,_,hc⟩:=hv
       exact ⟨cs,hc⟩
      ·rename_i l heq
       simp only [aA] at hls
       subst hls
       rw [heq] at hv
       exact ⟨[_],[_],[],rfl,hv,rfl⟩
      ·cases hls
     obtain ⟨cs,hc⟩:=hp
     exact (jA (g a) h1 hc).2
    simp only [Gz]
    rw [e2]
    obtain ⟨k1,k2,k3⟩:=zIx hr a (acc:=acc.set s.i (zNj s.agg (eG s.ls (f1 (g a))).1)) h2 (ha.set hmk)
    exact ⟨k1,k2,by rw [k3,List.length_set]⟩
   ·cases h
  ·cases h
def El (β:Nat->Pl) (w:World) (N:Nat->Nat->Prop):Nat->List Ob->List Ob->Prop
 | _,[],[]=>True
 | i,o :: r,o' :: r'=>(o.Rel β w N (β i)->o'.Rel β w N (β i))∧(o'.wr=o.wr∧o'.mR=o.mR)∧El β w N (i+1) r r'
 | _,_,_=>False
theorem zF {w:World}:∀ {os:List OS} {h:List Ob} {f:A->OTs os A} (a:A) (i:Nat),eZ os h=some f->(∀ (j:Nat) (o:Ob),h[j]?=some o->o.Rel β w N (β (i+j)))->El β w N i h (eT os (f a)).1
 | [],[],f,a,i,h,_=>by
  simp only [eZ,aA] at h
  subst h
  trivial
 | .box e ls :: r,.box e' l :: m,f,a,i,h,hr=>by
  simp only [eZ] at h
  split at h
  ·rename_i f1 g hb h1 h2
   simp only [aA] at h
   subst h
   have:=aN hb
   subst this
   have h0:=hr 0 _ rfl
   simp only [Ob.Rel,Nat.add_zero] at h0
   obtain ⟨_,_,b0,cs0,_,hc0,_⟩:=h0
   have e2:=(jA (g a) h1 hc0).2
   simp only [eT]
   refine ⟨?_,⟨rfl,rfl⟩,?_⟩
   ·simp only [Ob.Rel]
    rintro ⟨k1,k2,b,cs,k3,k4,k5⟩
    exact ⟨k1,k2,b,cs,k3,(jA (g a) h1 k4).1,k5⟩
   ·rw [e2]
    exact zF a (i+1) h2 fun j o ho=>by
     have:=hr (j+1) o (by simpa using ho)
     rwa [show i+(j+1)=i+1+j by omega] at this
  ·cases h
 | .row e t :: r,.arr e' t' ver rows wr :: m,f,a,i,h,hr=>by
  simp only [eZ] at h
  split at h
  ·rename_i g hb h2
   split at h
   ·rename_i ht
    subst ht
    simp only [aA] at h
    subst h
    simp only [aG] at hb
    have e1:=aN hb.1
    have e2:=aN hb.2.1
    have e3:=hb.2.2
    subst e1 e2 e3
    simp only [eT]
    refine ⟨fun h=>h,⟨rfl,rfl⟩,?_⟩
    exact zF a (i+1) h2 fun j o ho=>by
     have:=hr (j+1) o (by simpa using ho)
     rwa [show i+(j+1)=i+1+j by omega] at this
   ·cases h
  ·cases h
 | [],_ :: _,_,_,_,h,_=>by simp [eZ] at h
 | .box .. :: _,[],_,_,_,h,_=>by simp [eZ] at h
 | .row .. :: _,[],_,_,_,h,_=>by simp [eZ] at h
 | .box .. :: _,.arr .. :: _,_,_,_,h,_=>by simp [eZ] at h
 | .row .. :: _,.box .. :: _,_,_,_,h,_=>by simp [eZ] at h
 | .fm tab :: r,.fm yIc :: m,f,a,i,h,hr=>by
  simp only [eZ] at h
  split at h
  ·rename_i ht
   subst ht
   simp only [eT]
   refine ⟨fun h=>h,⟨rfl,rfl⟩,?_⟩
   exact zF a (i+1) h fun j o ho=>by
    have:=hr (j+1) o (by simpa using ho)
    rwa [show i+(j+1)=i+1+j by omega] at this
  ·cases h
 | .dm kt vt :: r,.dm kt' vt' es :: m,f,a,i,h,hr=>by
  simp only [eZ] at h
  split at h
  ·rename_i g h2
   split at h
   ·rename_i ht
    obtain ⟨rfl,rfl⟩:=ht
    simp only [aA] at h
    subst h
    simp only [eT]
    refine ⟨fun h=>h,⟨rfl,rfl⟩,?_⟩
    exact zF a (i+1) h2 fun j o ho=>by
     have:=hr (j+1) o (by simpa using ho)
     rwa [show i+(j+1)=i+1+j by omega] at this
   ·cases h
  ·cases h
 | .stk e ei :: r,.stk e' ei' ver rows none :: m,f,a,i,h,hr=>by
  simp only [eZ] at h
  split at h
  ·rename_i g hb h2
   simp only [aA] at h
   subst h
   simp only [aG] at hb
   have e1:=aN hb.1
   have e2:=aN hb.2.1
   have e3:=aN hb.2.2
   subst e1 e2 e3
   simp only [eT]
   refine ⟨fun h=>h,⟨rfl,rfl⟩,?_⟩
   exact zF a (i+1) h2 fun j o ho=>by
    have:=hr (j+1) o (by simpa using ho)
    rwa [show i+(j+1)=i+1+j by omega] at this
  ·cases h
 | .stk .. :: _,.stk _ _ _ _ (some _) :: _,_,_,_,h,_=>by simp [eZ] at h
 | .stk .. :: _,[],_,_,_,h,_=>by simp [eZ] at h
 | .stk .. :: _,.box .. :: _,_,_,_,h,_=>by simp [eZ] at h
 | .stk .. :: _,.arr .. :: _,_,_,_,h,_=>by simp [eZ] at h
 | .stk .. :: _,.fm .. :: _,_,_,_,h,_=>by simp [eZ] at h
 | .stk .. :: _,.dm .. :: _,_,_,_,h,_=>by simp [eZ] at h
 | .box .. :: _,.stk .. :: _,_,_,_,h,_=>by simp [eZ] at h
 | .row .. :: _,.stk .. :: _,_,_,_,h,_=>by simp [eZ] at h
 | .fm .. :: _,.stk .. :: _,_,_,_,h,_=>by simp [eZ] at h
 | .dm .. :: _,.stk .. :: _,_,_,_,h,_=>by simp [eZ] at h
 | .fm .. :: _,[],_,_,_,h,_=>by simp [eZ] at h
 | .dm .. :: _,[],_,_,_,h,_=>by simp [eZ] at h
 | .dm .. :: _,.box .. :: _,_,_,_,h,_=>by simp [eZ] at h
 | .dm .. :: _,.arr .. :: _,_,_,_,h,_=>by simp [eZ] at h
 | .dm .. :: _,.fm .. :: _,_,_,_,h,_=>by simp [eZ] at h
 | .fm .. :: _,.dm .. :: _,_,_,_,h,_=>by simp [eZ] at h
 | .box .. :: _,.dm .. :: _,_,_,_,h,_=>by simp [eZ] at h
 | .row .. :: _,.dm .. :: _,_,_,_,h,_=>by simp [eZ] at h
 | .fm .. :: _,.box .. :: _,_,_,_,h,_=>by simp [eZ] at h
 | .fm .. :: _,.arr .. :: _,_,_,_,h,_=>by simp [eZ] at h
 | .box .. :: _,.fm .. :: _,_,_,_,h,_=>by simp [eZ] at h
 | .row .. :: _,.fm .. :: _,_,_,_,h,_=>by simp [eZ] at h
theorem El.length {w:World}:∀ {i:Nat} {h h':List Ob},El β w N i h h'->h'.length=h.length
 | _,[],[],_=>rfl
 | _,_ :: _,_ :: _,h=>by simp [El.length h.2.2]
 | _,[],_ :: _,h=>h.elim
 | _,_ :: _,[],h=>h.elim
theorem El.get {w:World}:∀ {i:Nat} {h h':List Ob},El β w N i h h'->∀ (j:Nat) (o':Ob),h'[j]?=some o'->∃ o,h[j]?=some o∧(o'.wr=o.wr∧o'.mR=o.mR)∧(o.Rel β w N (β (i+j))->o'.Rel β w N (β (i+j)))
 | _,[],[],_,j,_,h=>by simp at h
 | i,o :: r,o2 :: r2,h,j,o',hj=>by
  cases j with
  | zero =>
   simp only [List.getElem?_cons_zero,aA] at hj
   subst hj
   exact ⟨o,rfl,h.2.1,h.1⟩
  | succ j =>
   obtain ⟨u,h1,h2,h3⟩:=El.get h.2.2 j o' (by simpa using hj)
   rw [show i+1+j=i+(j+1) by omega] at h3
   exact ⟨u,by simpa using h1,h2,h3⟩
 | _,[],_ :: _,h,_,_,_=>h.elim
 | _,_ :: _,[],h,_,_,_=>h.elim
theorem Xo {C:Ctx} {sh:Sh} {σ:St} {a:Act} {w:World} {x:sh.X} (h:sh.dec σ=some x) (hs:Sim C β σ a w):Sim C β (sh.enc x) a w:=by
 unfold Sh.dec at h
 split at h
 ·rename_i f g hn hf hg
  simp only [aA] at h
  subst h
  have hn:=aN hn
  obtain ⟨k1,k2,k3⟩:=zIx (A:=OTs sh.os Unit) (tmps:=a.tmps) hs.reg (g ()) (acc:=List.replicate sh.n .bW) hf (fun i v hv=>by
   rw [List.getElem?_replicate] at hv
   split at hv
   ·simp only [aA] at hv; subst hv; trivial
   ·cases hv)
  have hob:=zF (A:=Unit) (β:=β) (N:=C.N β σ.h) (w:=w) () 0 hg (fun j o ho=>by rw [Nat.zero_add]; exact hs.heap.obj j o ho)
  have eh:(sh.enc (f (g ()))).h=(eT sh.os (g ())).1:=by simp only [Sh.enc]; rw [k2]
  have er:(sh.enc (f (g ()))).r=(Gz sh.rs (List.replicate sh.n .bW) (f (g ()))).1:=rfl
  have hNN:∀ b j,C.N β (sh.enc (f (g ()))).h b j->C.N β σ.h b j:=fun b j hb=>by
   rcases hb with hb | ⟨id,o,ho,hw,hbk⟩
   ·exact .inl hb
   ·rw [eh] at ho
    obtain ⟨o0,h1,h2,_⟩:=hob.get id o ho
    exact .inr ⟨id,o0,h1,by rw [<- h2.1]; exact hw,Ob.rG h2.2 rfl rfl hbk⟩
  refine ⟨⟨?_,?_,?_,?_,hs.heap.n0,hs.heap.frame,hs.heap.size,hs.heap.os,hs.heap.tape,hs.heap.output,fun j o hj=>by
   obtain ⟨k1,k2⟩:=hs.heap.fixed j o hj
   exact ⟨by rw [eh,hob.length]; exact k1,k2⟩⟩,hs.defers,?_,?_⟩
  ·intro id o ho
   rw [eh] at ho
   obtain ⟨o0,h1,_,h3⟩:=hob.get id o ho
   rw [Nat.zero_add] at h3
   exact (h3 (hs.heap.obj id o0 h1)).mono (Moves.refl β) (Keep.refl _ w) (fun b j _ hb=>hNN b j hb) fun _ _=>rfl
  ·intro id hid
   rw [eh,hob.length] at hid
   exact hs.heap.dead id hid
  ·intro i j o o' b hi hj hbi hbj
   rw [eh] at hi hj
   obtain ⟨o1,h1,h3,_⟩:=hob.get i o hi
   obtain ⟨o2,h2,h4,_⟩:=hob.get j o' hj
   exact hs.heap.iV i j o1 o2 b h1 h2 (Ob.iY h3.2 rfl rfl hbi) (Ob.iY h4.2 rfl rfl hbj)
  ·intro id o b ho hb
   rw [eh] at ho
   obtain ⟨o1,h1,h3,_⟩:=hob.get id o ho
   exact hs.heap.Ed h1 h3.2 rfl rfl (fun h=>by rw [<- h3.1]; exact h) hb
  ·rw [er,k3,List.length_replicate,<- hn,hs.size]
  ·intro i v hv
   exact (k1 i v (by rw [er] at hv; exact hv)).mono (Moves.refl β) (Keep.refl _ w) fun b j _ hb=>hNN b j hb
 ·cases h
end
end Go.Dec
