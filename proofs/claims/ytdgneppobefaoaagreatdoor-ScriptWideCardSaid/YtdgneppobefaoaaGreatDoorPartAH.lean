/- Part of a proof over this seat: a library of my own, and what it says of this seat. No statement is proved here. -/
import Derived.Test.YtdgneppobefaoaaGreatDoorPartAF
namespace Go.Dec
theorem sZ {i:Nat}:∀ {l:List Nat} {n j:Nat},pos i l n=some j->∃ m,j=n+m∧l[m]?=some i
 | [],_,_,h=>by cases h
 | a :: r,n,j,h=>by
  simp only [pos] at h
  split at h
  ·rename_i hb
   have:=aG hb
   simp only [aA] at h
   subst h this
   exact ⟨0,rfl,rfl⟩
  ·obtain ⟨m,h1,h2⟩:=sZ h
   exact ⟨m+1,by omega,by simpa using h2⟩
theorem zU {i:Nat}:∀ {l:List Nat} {n:Nat},pos i l n=none->i ∉ l
 | [],_,_=>by simp
 | a :: r,n,h=>by
  simp only [pos] at h
  split at h
  ·cases h
  ·rename_i hb
   intro hm
   cases hm with
   | head=>simp at hb
   | tail _ hm=>exact zU h hm
def nodupB:List Nat->Bool
 | []=>true
 | a :: r=>(match pos a r 0 with | none=>true | some _=>false) && nodupB r
theorem yI:∀ {l:List Nat},nodupB l=true->∀ {i j:Nat} {a:Nat},l[i]?=some a->l[j]?=some a->i=j
 | [],_,_,_,_,h,_=>by simp at h
 | x :: r,h,i,j,a,hi,hj=>by
  simp only [nodupB,aF] at h
  obtain ⟨h1,h2⟩:=h
  have hx:x ∉ r:=by
   split at h1
   ·rename_i hn; exact zU hn
   ·cases h1
  cases i with
  | zero =>
   cases j with
   | zero=>rfl
   | succ j =>
    simp only [List.getElem?_cons_zero,aA] at hi
    subst hi
    exact absurd (List.mem_of_getElem? (by simpa using hj)) hx
  | succ i =>
   cases j with
   | zero =>
    simp only [List.getElem?_cons_zero,aA] at hj
    subst hj
    exact absurd (List.mem_of_getElem? (by simpa using hi)) hx
   | succ j=>rw [yI h2 (i:=i) (j:=j) (by simpa using hi) (by simpa using hj)]
theorem zFc {l:List Nat} (h:nodupB l=true) {i m:Nat} (hm:l[m]?=some i):pos i l 0=some m:=by
 cases hp:pos i l 0 with
 | none=>exact absurd (List.mem_of_getElem? hm) (zU hp)
 | some j =>
  obtain ⟨k,h1,h2⟩:=sZ hp
  rw [h1,Nat.zero_add,yI h h2 hm]
def Oj (h:List Ob) (id:Nat):Nat :=
 match h[id]? with
 | some (.arr _ _ v _ _)=>v
 | _=>0
mutual
def L.ren (ρ:List Nat) (h:List Ob):L->L
 | .val t x=>.val t x
 | .kD=>.kD
 | .dZ id o=>match pos id ρ 0 with
  | some j=>.dZ j o
  | none=>.bad 1
 | .bV=>.bV
 | .iV t x o=>.iV t x o
 | .bad n=>.bad n
 | .xE x tab=>.xE x tab
 | .mp id=>match pos id ρ 0 with
  | some j=>.mp j
  | none=>.bad 1
 | .ptr id o=>match pos id ρ 0 with
  | some j=>.ptr j o
  | none=>.bad 1
 | .jB id o es i sub=>match pos id ρ 0 with
  | some j=>.jB j o es i sub
  | none=>.bad 1
 | .eU id u i o=>match pos id ρ 0,Nat.beq u (Oj h id) with
  | some j,true=>.eU j 0 i o
  | _,_=>.bad 1
 | .sl id u i n=>match pos id ρ 0,Nat.beq u (Oj h id) with
  | some j,true=>.sl j 0 i n
  | _,_=>.bad 1
 | .own id u=>match pos id ρ 0,Nat.beq u (Oj h id) with
  | some j,true=>.own j 0
  | _,_=>.bad 1
 | .clo f caps=>.clo f (L.pW ρ h caps)
def L.pW (ρ:List Nat) (h:List Ob):List L->List L
 | []=>[]
 | l :: ls=>l.ren ρ h :: L.pW ρ h ls
end
def V.ren (ρ:List Nat) (h:List Ob):V->V
 | .one l=>.one (l.ren ρ h)
 | .agg ls=>.agg (L.pW ρ h ls)
 | _=>.bB
def Ob.ren (ρ:List Nat) (h:List Ob):Ob->Ob
 | .box e ls=>.box e (L.pW ρ h ls)
 | .arr e t _ rows wr=>.arr e t 0 rows wr
 | .fm tab=>.fm tab
 | .dm kt vt es=>.dm kt vt es
section
variable {β β':Nat->Pl} {w:World} {N N':Nat->Nat->Prop}
theorem uW {l:L} {cs:List Value} (hl:l.size=1) (h:l.Rel β w N cs):(L.bad 1).Rel β' w N' cs:=by
 simp only [L.Rel]
 exact ⟨by rw [h.length,hl],h.one⟩
mutual
theorem L.Rel.uF {ρ:List Nat} {h:List Ob} (hβ:∀ i j,pos i ρ 0=some j->(β' j).live=(β i).live∧(β' j).box=(β i).box∧(β' j).blk=(β i).blk∧((β i).box=false->(β' j).ver=0∧(β i).ver=Oj h i∧(β' j).size=(β i).size∧(β' j).cap=(β i).cap∧(β' j).len=(β i).len))
  (hN:∀ b j,b < w.heap.size->N' b j->N b j):∀ {l:L} {cs:List Value},l.Rel β w N cs->(l.ren ρ h).Rel β' w N' cs
 | .val t x,cs,hr=>by simp only [L.ren,L.Rel] at *; exact Ty.Rel.mono (Keep.refl _ w) hN hr
 | .kD,cs,hr=>by simp only [L.ren,L.Rel] at *; exact hr
 | .dZ id off,cs,hr=>by
  simp only [L.ren]
  split
  ·rename_i j hp
   obtain ⟨k1,k2,k3,_⟩:=hβ id j hp
   simp only [L.Rel] at *
   rw [k1,k2,k3]
   exact hr
  ·exact uW rfl hr
 | .bV,cs,hr=>by simp only [L.ren,L.Rel] at *; exact hr
 | .bad n,cs,hr=>by simp only [L.ren,L.Rel] at *; exact hr
 | .xE x tab,cs,hr=>by simp only [L.ren,L.Rel] at *; exact hr
 | .mp id,cs,hr=>by
  simp only [L.ren]
  split
  ·rename_i j hp
   obtain ⟨k1,k2,k3,_⟩:=hβ id j hp
   simp only [L.Rel] at *
   rw [k1,k2,k3]
   exact hr
  ·exact uW rfl hr
 | .iV t x off,cs,hr=>by simp only [L.ren,L.Rel] at *; obtain ⟨c,hc,hr⟩:=hr; exact ⟨c,hc,hr.mono (Keep.refl _ w) hN⟩
 | .ptr id off,cs,hr=>by
  simp only [L.ren]
  split
  ·rename_i j hp
   obtain ⟨k1,k2,k3,_⟩:=hβ id j hp
   simp only [L.Rel] at *
   rw [k1,k2,k3]
   exact hr
  ·exact uW rfl hr
 | .jB id off es i sub,cs,hr=>by
  simp only [L.ren]
  split
  ·rename_i j hp
   obtain ⟨k1,k2,k3,_⟩:=hβ id j hp
   simp only [L.Rel] at *
   rw [k1,k2,k3]
   exact hr
  ·exact uW rfl hr
 | .eU id u i off,cs,hr=>by
  simp only [L.ren]
  split
  ·rename_i j hp hu
   obtain ⟨k1,k2,k3,k4⟩:=hβ id j hp
   have hu:=aG hu
   simp only [L.Rel] at *
   obtain ⟨g1,g2,g3,c,g4,g5,g6⟩:=hr
   obtain ⟨m1,m2,m3,m4,m5⟩:=k4 g2
   refine ⟨k1 ▸ g1,k2 ▸ g2,by omega,c,g4,g5,fun _=>?_⟩
   rw [k3,m3]
   exact g6 (by omega)
  ·exact uW rfl hr
 | .sl id u off len,cs,hr=>by
  simp only [L.ren]
  split
  ·rename_i j hp hu
   obtain ⟨k1,k2,k3,k4⟩:=hβ id j hp
   have hu:=aG hu
   simp only [L.Rel] at *
   obtain ⟨g1,g2,g3,c,g4,g5,g6⟩:=hr
   obtain ⟨m1,m2,m3,m4,m5⟩:=k4 g2
   refine ⟨k1 ▸ g1,k2 ▸ g2,by omega,c,g4,g5,fun _=>?_⟩
   have:=g6 (by omega)
   unfold dU at *
   rw [k3,m3,m4]
   exact this
  ·exact uW rfl hr
 | .own id u,cs,hr=>by
  simp only [L.ren]
  split
  ·rename_i j hp hu
   obtain ⟨k1,k2,k3,k4⟩:=hβ id j hp
   have hu:=aG hu
   simp only [L.Rel] at *
   obtain ⟨g1,g2,g3,c,g4,g5,g6⟩:=hr
   obtain ⟨m1,m2,m3,m4,m5⟩:=k4 g2
   refine ⟨k1 ▸ g1,k2 ▸ g2,by omega,c,g4,g5,fun _=>?_⟩
   have:=g6 (by omega)
   unfold dU at *
   rw [k3,m3,m4,m5]
   exact this
  ·exact uW rfl hr
 | .clo f caps,cs,hr=>by
  simp only [L.ren,L.Rel] at *
  obtain ⟨us,hc,hr⟩:=hr
  exact ⟨us,hc,L.bP.uF hβ hN hr⟩
theorem L.bP.uF {ρ:List Nat} {h:List Ob} (hβ:∀ i j,pos i ρ 0=some j->(β' j).live=(β i).live∧(β' j).box=(β i).box∧(β' j).blk=(β i).blk∧((β i).box=false->(β' j).ver=0∧(β i).ver=Oj h i∧(β' j).size=(β i).size∧(β' j).cap=(β i).cap∧(β' j).len=(β i).len))
  (hN:∀ b j,b < w.heap.size->N' b j->N b j):∀ {ls:List L} {us:List Value},L.bP β w N ls us->L.bP β' w N' (L.pW ρ h ls) us
 | [],us,hr=>by simp only [L.pW,L.bP] at *; exact hr
 | l :: ls,us,hr=>by
  simp only [L.pW,L.bP] at *
  obtain ⟨u,r,e,h1,h2⟩:=hr
  exact ⟨u,r,e,L.Rel.uF hβ hN h1,L.bP.uF hβ hN h2⟩
end
def zHz (β β':Nat->Pl) (ρ:List Nat) (h:List Ob):Prop:=∀ i j,pos i ρ 0=some j->(β' j).live=(β i).live∧(β' j).box=(β i).box∧(β' j).blk=(β i).blk∧((β i).box=false->(β' j).ver=0∧(β i).ver=Oj h i∧(β' j).size=(β i).size∧(β' j).cap=(β i).cap∧(β' j).len=(β i).len)
theorem aL.uF {ρ:List Nat} {h:List Ob} (hβ:zHz β β' ρ h) (hN:∀ b j,b < w.heap.size->N' b j->N b j):∀ {ls:List L} {cs:List Value},aL β w N ls cs->aL β' w N' (L.pW ρ h ls) cs
 | [],_,hr=>hr
 | _l :: _ls,_,⟨c1,c2,e,h1,h2⟩=>⟨c1,c2,e,L.Rel.uF hβ hN h1,aL.uF hβ hN h2⟩
theorem V.Rel.uF {ρ:List Nat} {h:List Ob} (hβ:zHz β β' ρ h) (hN:∀ b j,b < w.heap.size->N' b j->N b j) {x:V} {u:Value} (hr:x.Rel β w N u):(x.ren ρ h).Rel β' w N' u:=by
 cases x with
 | one l=>exact L.Rel.uF hβ hN hr
 | agg ls=>obtain ⟨cs,e,hr⟩:=hr; exact ⟨cs,e,hr.uF hβ hN⟩
 | _=>trivial
end
def En (h:List Ob) (i:Nat):Ob :=
 match h[i]? with
 | some o=>o
 | none=>.box 0 []
def inH (ρ:List Nat) (h:List Ob):List Ob:=ρ.map fun i=>(En h i).ren ρ h
theorem oU {ρ:List Nat} {h:List Ob} {j:Nat} {o:Ob} (hj:(inH ρ h)[j]?=some o):∃ i,ρ[j]?=some i∧o=(En h i).ren ρ h:=by
 simp only [inH,List.getElem?_map,Option.map_eq_some_iff] at hj
 obtain ⟨i,h1,rfl⟩:=hj
 exact ⟨i,h1,rfl⟩
theorem dS {h:List Ob} {i:Nat} {o:Ob} (ho:h[i]?=some o):En h i=o:=by
 simp only [En,ho]
theorem Ob.Jf {ρ:List Nat} {h:List Ob} (o:Ob):(o.ren ρ h).wr=o.wr:=by cases o <;> rfl
theorem Ob.nQ (ρ:List Nat) (h:List Ob) (o:Ob):(o.ren ρ h).jS=o.jS:=by cases o <;> rfl
end Go.Dec
namespace Go.Dec
inductive Co where
 | keep (mask:List Bool)
 | trunc (n:Nat)
 | zUk (i:Nat) (t:TypeId)
 | ownB (id:Nat) (j:Nat) (t:TypeId)
 | zUl (i:Nat) (t:Ty)
 | zUm (id:Nat) (j:Nat) (t:Ty)
 | ver (id:Nat)
 | slR (i:Nat)
 | zUn (i:Nat)
 | zUo (id:Nat) (j:Nat)
 | zUp (i:Nat) (j:Nat) (t:TypeId)
 | zUq (i:Nat) (j:Nat)
 | gc (ρ:List Nat)
 | gcA (k:Nat)
 | orn (id:Nat) (j:Nat) (to off:Nat)
def pG:List Bool->List V->List V
 | true :: m,v :: r=>v :: pG m r
 | false :: m,_ :: r=>.bB :: pG m r
 | [],_ :: r=>.bB :: pG [] r
 | _,[]=>[]
mutual
def L.isB (n:Nat):L->Bool
 | .ptr id _=>Nat.blt id n
 | .dZ id _=>Nat.blt id n
 | .jB id _ _ _ _=>Nat.blt id n
 | .eU id _ _ _=>Nat.blt id n
 | .sl id _ _ _=>Nat.blt id n
 | .own id _=>Nat.blt id n
 | .mp id=>Nat.blt id n
 | .clo _ caps=>L.Eo n caps
 | _=>true
def L.Eo (n:Nat):List L->Bool
 | []=>true
 | l :: ls=>L.isB n l && L.Eo n ls
end
def uX (n:Nat):List (Sum L (List L))->Bool
 | []=>true
 | .inl l :: r=>l.isB n && uX n r
 | .inr ls :: r=>L.Eo n ls && uX n r
def V.isB (n:Nat):V->Bool
 | .one l=>l.isB n
 | .agg ls=>L.Eo n ls
 | .tup vs=>uX n vs
 | .bB=>true
def Ob.isB (n:Nat):Ob->Bool
 | .box _ ls=>L.Eo n ls
 | .arr .. => true
 | .fm _=>true
 | .dm .. => true
mutual
def L.nR (id v:Nat):L->Bool
 | .eU i u _ _=>!Nat.beq i id || Nat.beq u v
 | .sl i u _ _=>!Nat.beq i id || Nat.beq u v
 | .own i u=>!Nat.beq i id || Nat.beq u v
 | .clo _ caps=>L.uG id v caps
 | _=>true
def L.uG (id v:Nat):List L->Bool
 | []=>true
 | l :: ls=>L.nR id v l && L.uG id v ls
end
mutual
def L.bI (id:Nat):L->L
 | .eU i u a b=>if Nat.beq i id then .eU i 0 a b else .eU i u a b
 | .sl i u a b=>if Nat.beq i id then .sl i 0 a b else .sl i u a b
 | .own i u=>if Nat.beq i id then .own i 0 else .own i u
 | .clo f caps=>.clo f (L.rY id caps)
 | l=>l
def L.rY (id:Nat):List L->List L
 | []=>[]
 | l :: ls=>L.bI id l :: L.rY id ls
end
def Dc (id v:Nat):List (Sum L (List L))->Bool
 | []=>true
 | .inl l :: r=>l.nR id v && Dc id v r
 | .inr ls :: r=>L.uG id v ls && Dc id v r
def V.nR (id v:Nat):V->Bool
 | .one l=>l.nR id v
 | .agg ls=>L.uG id v ls
 | .tup vs=>Dc id v vs
 | .bB=>true
def Ep (id:Nat):List (Sum L (List L))->List (Sum L (List L))
 | []=>[]
 | .inl l :: r=>.inl (l.bI id) :: Ep id r
 | .inr ls :: r=>.inr (L.rY id ls) :: Ep id r
def V.bI (id:Nat):V->V
 | .one l=>.one (l.bI id)
 | .agg ls=>.agg (L.rY id ls)
 | .tup vs=>.tup (Ep id vs)
 | .bB=>.bB
def Ob.nR (id v:Nat):Ob->Bool
 | .box _ ls=>L.uG id v ls
 | .arr .. => true
 | .fm _=>true
 | .dm .. => true
def Ob.bI (id:Nat):Ob->Ob
 | .box e ls=>.box e (L.rY id ls)
 | o=>o
def kL (ls:List L) (j:Nat) (l:L):Option (List L) :=
 match ls[j]? with
 | some .bV=>some (ls.set j l)
 | _=>none
def zPb (to off:Nat):L->Option L
 | .kD=>some (.dZ to off)
 | .ptr a b=>match Nat.beq a to && Nat.beq b off with
  | true=>some (.dZ to off)
  | false=>none
 | .dZ a b=>match Nat.beq a to && Nat.beq b off with
  | true=>some (.dZ to off)
  | false=>none
 | _=>none
def Lf:Nat->Nat->List Nat->Bool
 | _,0,_=>true
 | i,k+1,a :: r=>Nat.beq a i && Lf (i+1) k r
 | _,_+1,[]=>false
theorem Xf:∀ {i k:Nat} {ρ:List Nat},Lf i k ρ=true->∀ j,j < k->ρ[j]?=some (i+j)
 | _,0,_,_,j,hj=>by omega
 | i,k+1,a :: r,h,j,hj=>by
  simp only [Lf,aF] at h
  have:=aG h.1
  subst this
  cases j with
  | zero=>rfl
  | succ j =>
   have:=Xf h.2 j (by omega)
   rw [show a+1+j=a+(j+1) by omega] at this
   simpa using this
 | _,_+1,[],h,_,_=>by cases h
def frz (h:List Ob) (l:L):Option (Bool × L × List Ob) :=
 match l with
 | .own id ver =>
  match h[id]? with
  | some (.arr e t v rows _)=>some (Nat.beq v ver,.val (.slice t) rows,h.set id (.arr e t v rows false))
  | _=>none
 | .sl id ver off len =>
  match h[id]? with
  | some (.arr e t v rows _)=>some (Nat.beq v ver && Nat.ble (off+len) rows.length,.val (.slice t) ((rows.drop off).take len),h.set id (.arr e t v rows false))
  | _=>none
 | _=>none
def gcL (ρ:List Nat) (σ:St):Option (Bool × St) :=
 if nodupB ρ && aZ (fun i=>Nat.blt i σ.h.length) ρ then some (true,⟨σ.r.map (V.ren ρ σ.h),inH ρ σ.h⟩) else none
def upto:Nat->Nat->List Nat
 | _,0=>[]
 | i,k+1=>i :: upto (i+1) k
def gcR (k:Nat) (σ:St):List Nat:=Ky σ.h (σ.h.length+1) (Ja (upto 0 k) (zAi σ.r)) 0
def co1 (T:Tab) (c:Co) (σ:St):Option (Bool × St) :=
 match c with
 | .gcA k=>match Lf 0 k (gcR k σ) with
  | true=>gcL (gcR k σ) σ
  | false=>none
 | .slR i =>
  match σ.r[i]? with
  | some (.one (.own id ver)) =>
   match σ.h[id]? with
   | some (.arr _ _ v rows _)=>some (Nat.beq v ver,⟨σ.r.set i (.one (.sl id ver 0 rows.length)),σ.h⟩)
   | _=>none
  | some (.one (.sl ..))=>some (true,σ)
  | _=>none
 | .zUp i j t =>
  match σ.r[i]?,elemTy T t with
  | some (.agg ls),some (e,te,_) =>
   match ls[j]? with
   | some (.own ..)=>some (true,σ)
   | _ =>
    match kL ls j (.own σ.h.length 0) with
    | some ls'=>some (true,⟨σ.r.set i (.agg ls'),σ.h++[.arr e te 0 [] true]⟩)
    | none=>none
  | _,_=>none
 | .zUq i j =>
  match σ.r[i]? with
  | some (.agg ls) =>
   match ls[j]? with
   | some l =>
    match l.isD with
    | true=>some (true,σ)
    | false =>
     match frz σ.h l with
     | some (c,l',h')=>some (c,⟨σ.r.set i (.agg (ls.set j l')),h'⟩)
     | none=>none
   | none=>none
  | _=>none
 | .gc ρ=>gcL ρ σ
 | .orn id j to off =>
  match σ.h[id]? with
  | some (.box eb ls) =>
   match ls[j]? with
   | some l =>
    match zPb to off l with
    | some l'=>some (true,⟨σ.r,σ.h.set id (.box eb (ls.set j l'))⟩)
    | none=>none
   | none=>none
  | _=>none
 | .zUn i =>
  match σ.r[i]? with
  | some (.one l) =>
   match l.isD with
   | true=>some (true,σ)
   | false =>
    match frz σ.h l with
    | some (c,l',h')=>some (c,⟨σ.r.set i (.one l'),h'⟩)
    | none=>none
  | _=>none
 | .zUo id j =>
  match σ.h[id]? with
  | some (.box eb ls) =>
   match ls[j]? with
   | some l =>
    match l.isD with
    | true=>some (true,σ)
    | false =>
     match frz σ.h l with
     | some (c,l',h')=>some (c,⟨σ.r,h'.set id (.box eb (ls.set j l'))⟩)
     | none=>none
   | none=>none
  | _=>none
 | .keep m=>some (true,⟨pG m σ.r,σ.h⟩)
 | .trunc n=>if Nat.ble n σ.h.length && (aZ (V.isB n) σ.r && aZ (Ob.isB n) (σ.h.take n)) then some (true,⟨σ.r,σ.h.take n⟩) else none
 | .zUk i t =>
  match σ.r[i]?,elemTy T t with
  | some (.one .bV),some (e,te,_)=>some (true,⟨σ.r.set i (.one (.own σ.h.length 0)),σ.h++[.arr e te 0 [] true]⟩)
  | some (.one (.own ..)),_=>some (true,σ)
  | _,_=>none
 | .ownB id j t =>
  match σ.h[id]?,elemTy T t with
  | some (.box eb ls),some (e,te,_) =>
   match ls[j]? with
   | some (.own ..)=>some (true,σ)
   | _ =>
    match kL ls j (.own σ.h.length 0) with
    | some ls'=>some (true,⟨σ.r,(σ.h++[Ob.arr e te 0 [] true]).set id (.box eb ls')⟩)
    | none=>none
  | _,_=>none
 | .zUl i t =>
  match σ.r[i]? with
  | some (.one .bV)=>some (true,⟨σ.r.set i (.one (.val (.slice t) [])),σ.h⟩)
  | _=>none
 | .zUm id j t =>
  match σ.h[id]? with
  | some (.box eb ls) =>
   match kL ls j (.val (.slice t) []) with
   | some ls'=>some (true,⟨σ.r,σ.h.set id (.box eb ls')⟩)
   | none=>none
  | _=>none
 | .ver id =>
  match σ.h[id]? with
  | some (.arr e t v rows wr)=>if aZ (V.nR id v) σ.r && aZ (Ob.nR id v) σ.h then some (true,⟨σ.r.map (V.bI id),(σ.h.map (Ob.bI id)).set id (.arr e t 0 rows wr)⟩) else none
  | _=>none
def Co.fx (k:Nat):Co->Bool
 | .trunc n=>Nat.ble k n
 | .gc ρ=>Lf 0 k ρ
 | .gcA n=>Nat.ble k n
 | _=>true
def norm {ρ:Type} (T:Tab):List Co->St->(St->Option ρ)->Option ρ
 | [],σ,k=>k σ
 | c :: cs,σ,k =>
  match co1 T c σ with
  | some (b,σ')=>chk b (norm T cs σ' k)
  | none=>none
section
variable {T:Tab} {C:Ctx} {β:Nat->Pl} {w:World}
theorem Aw:∀ (m:List Bool) (r:List V) (i:Nat) (v:V),(pG m r)[i]?=some v->v=.bB∨r[i]?=some v
 | true :: m,x :: r,0,v,h=>.inr h
 | true :: m,x :: r,i+1,v,h=>Aw m r i v (by simpa [pG] using h)
 | false :: m,x :: r,0,v,h=>by simp [pG] at h; exact .inl h.symm
 | false :: m,x :: r,i+1,v,h=>Aw m r i v (by simpa [pG] using h)
 | [],x :: r,0,v,h=>by simp [pG] at h; exact .inl h.symm
 | [],x :: r,i+1,v,h=>Aw [] r i v (by simpa [pG] using h)
 | true :: _,[],i,v,h=>by simp [pG] at h
 | false :: _,[],i,v,h=>by simp [pG] at h
 | [],[],i,v,h=>by simp [pG] at h
theorem uH:∀ (m:List Bool) (r:List V),(pG m r).length=r.length
 | true :: m,_x :: r=>congrArg (· + 1) (uH m r)
 | false :: m,_x :: r=>congrArg (· + 1) (uH m r)
 | [],_x :: r=>congrArg (· + 1) (uH [] r)
 | true :: _,[]=>rfl
 | false :: _,[]=>rfl
 | [],[]=>rfl
theorem pX {α:Type} {f:α->Bool}:∀ {l:List α},aZ f l=true->∀ (i:Nat) (x:α),l[i]?=some x->f x=true
 | y :: r,h,0,x,hx=>by
  simp only [aZ,aF] at h
  simp only [List.getElem?_cons_zero,aA] at hx
  subst hx
  exact h.1
 | y :: r,h,i+1,x,hx=>by
  simp only [aZ,aF] at h
  exact pX h.2 i x (by simpa using hx)
 | [],_,i,x,hx=>by simp at hx
mutual
theorem L.Rel.below {β':Nat->Pl} {N N':Nat->Nat->Prop} {n:Nat} (hβ:∀ id,id < n->β' id=β id) (hN:∀ b j,b < w.heap.size->N' b j->N b j):∀ {l:L} {cs:List Value},l.isB n=true->l.Rel β w N cs->l.Rel β' w N' cs
 | .val t x,cs,_,h=>by simp only [L.Rel] at *; exact Ty.Rel.mono (Keep.refl _ w) hN h
 | .ptr id off,cs,hb,h=>by simp only [L.isB] at hb; simp only [L.Rel] at *; rw [hβ id (bA hb)]; exact h
 | .jB id off es i sub,cs,hb,h=>by simp only [L.isB] at hb; simp only [L.Rel] at *; rw [hβ id (bA hb)]; exact h
 | .kD,cs,_,h=>by simp only [L.Rel] at *; exact h
 | .dZ id off,cs,hb,h=>by simp only [L.isB] at hb; simp only [L.Rel] at *; rw [hβ id (bA hb)]; exact h
 | .eU id ver i off,cs,hb,h=>by simp only [L.isB] at hb; simp only [L.Rel] at *; rw [hβ id (bA hb)]; exact h
 | .iV t x off,cs,_,h=>by simp only [L.Rel] at *; obtain ⟨c,hc,hr⟩:=h; exact ⟨c,hc,hr.mono (Keep.refl _ w) hN⟩
 | .sl id ver off len,cs,hb,h=>by simp only [L.isB] at hb; simp only [L.Rel] at *; rw [hβ id (bA hb)]; exact h
 | .own id ver,cs,hb,h=>by simp only [L.isB] at hb; simp only [L.Rel] at *; rw [hβ id (bA hb)]; exact h
 | .bV,cs,_,h=>by simp only [L.Rel] at *; exact h
 | .clo f caps,cs,hb,h=>by
  simp only [L.isB] at hb
  simp only [L.Rel] at *
  obtain ⟨us,hc,hr⟩:=h
  exact ⟨us,hc,L.bP.below hβ hN hb hr⟩
 | .bad n,cs,_,h=>by simp only [L.Rel] at *; exact h
 | .xE x tab,cs,_,h=>by simp only [L.Rel] at *; exact h
 | .mp id,cs,hb,h=>by simp only [L.isB] at hb; simp only [L.Rel] at *; rw [hβ id (bA hb)]; exact h
theorem L.bP.below {β':Nat->Pl} {N N':Nat->Nat->Prop} {n:Nat} (hβ:∀ id,id < n->β' id=β id) (hN:∀ b j,b < w.heap.size->N' b j->N b j):∀ {ls:List L} {us:List Value},L.Eo n ls=true->L.bP β w N ls us->L.bP β' w N' ls us
 | [],us,_,h=>by simp only [L.bP] at *; exact h
 | l :: ls,us,hb,h=>by
  simp only [L.Eo,aF] at hb
  simp only [L.bP] at *
  obtain ⟨u,r,e,h1,h2⟩:=h
  exact ⟨u,r,e,L.Rel.below hβ hN hb.1 h1,L.bP.below hβ hN hb.2 h2⟩
end
theorem aL.below {β':Nat->Pl} {N N':Nat->Nat->Prop} {n:Nat} (hβ:∀ id,id < n->β' id=β id) (hN:∀ b j,b < w.heap.size->N' b j->N b j):∀ {ls:List L} {cs:List Value},L.Eo n ls=true->aL β w N ls cs->aL β' w N' ls cs
 | [],_,_,h=>h
 | l :: ls,_,hb,⟨c1,c2,e,h1,h2⟩=>by
  simp only [L.Eo,aF] at hb
  exact ⟨c1,c2,e,h1.below hβ hN hb.1,aL.below hβ hN hb.2 h2⟩
theorem Jg {β':Nat->Pl} {N N':Nat->Nat->Prop} {n:Nat} (hβ:∀ id,id < n->β' id=β id) (hN:∀ b j,b < w.heap.size->N' b j->N b j):∀ {vs:List (Sum L (List L))} {us:List Value},uX n vs=true->aQ (dP β w N) vs us->aQ (dP β' w N') vs us
 | [],[],_,_=>trivial
 | .inl l :: vs,u :: us,hb,h=>by
  simp only [uX,aF] at hb
  exact ⟨L.Rel.below hβ hN hb.1 h.1,Jg hβ hN hb.2 h.2⟩
 | .inr ls :: vs,u :: us,hb,h=>by
  simp only [uX,aF] at hb
  obtain ⟨⟨cs,e,hr⟩,h2⟩:=h
  exact ⟨⟨cs,e,hr.below hβ hN hb.1⟩,Jg hβ hN hb.2 h2⟩
 | [],_ :: _,_,h=>h.elim
 | .inl _ :: _,[],_,h=>h.elim
 | .inr _ :: _,[],_,h=>h.elim
theorem V.Rel.below {β':Nat->Pl} {N N':Nat->Nat->Prop} {n:Nat} (hβ:∀ id,id < n->β' id=β id) (hN:∀ b j,b < w.heap.size->N' b j->N b j) {v:V} {x:Value} (hb:v.isB n=true) (h:v.Rel β w N x):v.Rel β' w N' x:=by
 cases v with
 | one l=>exact L.Rel.below hβ hN hb h
 | agg ls=>obtain ⟨cs,e,hr⟩:=h; exact ⟨cs,e,hr.below hβ hN hb⟩
 | tup vs=>obtain ⟨us,e,hr⟩:=h; exact ⟨us,e,Jg hβ hN hb hr⟩
 | bB=>trivial
theorem Sim.trunc {σ:St} {a:Act} {n:Nat} (hs:Sim C β σ a w) (hfx:C.fix.length <= n) (hn:n <= σ.h.length) (hr:aZ (V.isB n) σ.r=true) (ho:aZ (Ob.isB n) (σ.h.take n)=true):∃ β',Sim C β' ⟨σ.r,σ.h.take n⟩ a w:=by
 let β':Nat->Pl:=fun id=>if id < n then β id else ⟨false,false,0,none,0,0,0,[]⟩
 have hβ:∀ id,id < n->β' id=β id:=fun id hid=>by simp [β',hid]
 have hget:∀ (id:Nat) (o:Ob),(σ.h.take n)[id]?=some o->id < n∧σ.h[id]?=some o:=fun id o h=>by
  rw [List.getElem?_take] at h
  split at h
  ·rename_i hlt; exact ⟨hlt,h⟩
  ·cases h
 have hN:∀ b j,b < w.heap.size->C.N β' (σ.h.take n) b j->C.N β σ.h b j:=fun b j _ hb=>by
  rcases hb with hb | ⟨id,o,ho,hw,hbk⟩
  ·exact .inl hb
  ·obtain ⟨hid,ho⟩:=hget id o ho
   rw [hβ id hid] at hbk
   exact .inr ⟨id,o,ho,hw,hbk⟩
 refine ⟨β',⟨⟨?_,?_,?_,?_,hs.heap.n0,hs.heap.frame,hs.heap.size,hs.heap.os,hs.heap.tape,hs.heap.output,fun j o hj=>by
  obtain ⟨k1,k2⟩:=hs.heap.fixed j o hj
  have hjn:j < n:=Nat.lt_of_lt_of_le (aS.1 hj).1 hfx
  exact ⟨by simp; omega,fun b hb=>by rw [hβ j hjn]; exact k2 b hb⟩⟩,hs.defers,hs.size,fun i v hv=>(hs.reg i v hv).below hβ hN (pX hr i v hv)⟩⟩
 ·intro id o hio
  obtain ⟨hid,h1⟩:=hget id o hio
  rw [hβ id hid]
  have hob:=hs.heap.obj id o h1
  cases o with
  | box e ls =>
   have hbl:=pX ho id _ hio
   simp only [Ob.Rel] at *
   obtain ⟨g1,g2,b,cs,g3,g4,g5⟩:=hob
   exact ⟨g1,g2,b,cs,g3,g4.below hβ hN hbl,g5⟩
  | arr e t ver rows wr =>
   simp only [Ob.Rel] at *
   obtain ⟨g1,g2,g3,g4,g5,g6,g7⟩:=hob
   refine ⟨g1,g2,g3,g4,g5,g6,?_⟩
   rcases g7 with g7 | ⟨b,cur,css,k1,k2,k3,k4⟩
   ·exact .inl g7
   ·exact .inr ⟨b,cur,css,k1,k2,k3.mono fun _ _ h=>h.mono (Keep.refl _ w) hN,k4⟩
  | fm tab=>simp only [Ob.Rel] at *; exact hob
  | dm kt vt es =>
   simp only [Ob.Rel] at *
   obtain ⟨g1,g2,b,ms,g3,g4,g5⟩:=hob
   exact ⟨g1,g2,b,ms,g3,g4,g5.mono (Keep.refl _ w) hN⟩
 ·intro id hid
  simp only [List.length_take] at hid
  simp only [β']
  rw [if_neg (by omega)]
 ·intro i j o1 o2 b h1 h2 hb1 hb2
  obtain ⟨hi,h1⟩:=hget i o1 h1
  obtain ⟨hj,h2⟩:=hget j o2 h2
  rw [hβ i hi] at hb1
  rw [hβ j hj] at hb2
  exact hs.heap.jT i j o1 o2 b h1 h2 hb1 hb2
 ·intro id o b h1 hb
  obtain ⟨hi,h1⟩:=hget id o h1
  exact hs.heap.wH h1 rfl (by rw [hβ id hi]) (by rw [hβ id hi]) (fun h=>h) hb
section ver
variable {id v:Nat}
def iI (β:Nat->Pl) (id:Nat):Nat->Pl:=upd β id { β id with ver:=0 }
theorem Uo {i j:Nat} (h:i ≠ j):Nat.beq i j=false:=by
 cases hb:Nat.beq i j
 ·rfl
 ·exact absurd (aG hb) h
mutual
theorem L.Rel.bI {N:Nat->Nat->Prop} (hv:(β id).ver=v):∀ {l:L} {cs:List Value},l.nR id v=true->l.Rel β w N cs->(l.bI id).Rel (iI β id) w N cs
 | .val t x,cs,_,h=>by simp only [L.bI,L.Rel] at *; exact h
 | .xE x tab,cs,_,h=>by simp only [L.bI,L.Rel] at *; exact h
 | .mp i,cs,_,h=>by
  simp only [L.bI,L.Rel,iI] at *
  by_cases hi:i=id
  ·subst hi; rw [upd_same]; exact h
  ·rw [aJ _ _ hi]; exact h
 | .ptr i off,cs,_,h=>by
  simp only [L.bI,L.Rel,iI] at *
  by_cases hi:i=id
  ·subst hi; rw [upd_same]; exact h
  ·rw [aJ _ _ hi]; exact h
 | .jB i off es k sub,cs,_,h=>by
  simp only [L.bI,L.Rel,iI] at *
  by_cases hi:i=id
  ·subst hi; rw [upd_same]; exact h
  ·rw [aJ _ _ hi]; exact h
 | .kD,cs,_,h=>by simp only [L.bI,L.Rel] at *; exact h
 | .dZ i off,cs,_,h=>by
  simp only [L.bI,L.Rel,iI] at *
  by_cases hi:i=id
  ·subst hi; rw [upd_same]; exact h
  ·rw [aJ _ _ hi]; exact h
 | .eU i u a b,cs,hb,h=>by
  simp only [L.bI]
  by_cases hi:i=id
  ·subst hi
   have hu:u=v:=by simpa [L.nR,Nat.beq_refl] using hb
   subst hu
   simp only [Nat.beq_refl,if_true,L.Rel,iI,upd_same] at *
   obtain ⟨h1,h2,h3,c,h4,h5,h6⟩:=h
   exact ⟨h1,h2,aI _,c,h4,h5,fun _=>h6 hv⟩
  ·have:Nat.beq i id=false:=Uo hi
   simp only [this,Bool.false_eq_true,if_false,L.Rel,iI] at *
   rw [aJ _ _ hi]; exact h
 | .iV t x off,cs,_,h=>by simp only [L.bI,L.Rel] at *; exact h
 | .sl i u a b,cs,hb,h=>by
  simp only [L.bI]
  by_cases hi:i=id
  ·subst hi
   have hu:u=v:=by simpa [L.nR,Nat.beq_refl] using hb
   subst hu
   simp only [Nat.beq_refl,if_true,L.Rel,iI,upd_same] at *
   obtain ⟨h1,h2,h3,c,h4,h5,h6⟩:=h
   exact ⟨h1,h2,aI _,c,h4,h5,fun _=>h6 hv⟩
  ·have:Nat.beq i id=false:=Uo hi
   simp only [this,Bool.false_eq_true,if_false,L.Rel,iI] at *
   rw [aJ _ _ hi]; exact h
 | .own i u,cs,hb,h=>by
  simp only [L.bI]
  by_cases hi:i=id
  ·subst hi
   have hu:u=v:=by simpa [L.nR,Nat.beq_refl] using hb
   subst hu
   simp only [Nat.beq_refl,if_true,L.Rel,iI,upd_same] at *
   obtain ⟨h1,h2,h3,c,h4,h5,h6⟩:=h
   exact ⟨h1,h2,aI _,c,h4,h5,fun _=>h6 hv⟩
  ·have:Nat.beq i id=false:=Uo hi
   simp only [this,Bool.false_eq_true,if_false,L.Rel,iI] at *
   rw [aJ _ _ hi]; exact h
 | .bV,cs,_,h=>by simp only [L.bI,L.Rel] at *; exact h
 | .clo f caps,cs,hb,h=>by
  simp only [L.nR] at hb
  simp only [L.bI,L.Rel] at *
  obtain ⟨us,hc,hr⟩:=h
  exact ⟨us,hc,L.bP.bI hv hb hr⟩
 | .bad n,cs,_,h=>by simp only [L.bI,L.Rel] at *; exact h
theorem L.bP.bI {N:Nat->Nat->Prop} (hv:(β id).ver=v):∀ {ls:List L} {us:List Value},L.uG id v ls=true->L.bP β w N ls us->L.bP (iI β id) w N (L.rY id ls) us
 | [],us,_,h=>by simp only [L.rY,L.bP] at *; exact h
 | l :: ls,us,hb,h=>by
  simp only [L.uG,aF] at hb
  simp only [L.rY,L.bP] at *
  obtain ⟨u,r,e,h1,h2⟩:=h
  exact ⟨u,r,e,L.Rel.bI hv hb.1 h1,L.bP.bI hv hb.2 h2⟩
end
theorem aL.bI {N:Nat->Nat->Prop} (hv:(β id).ver=v):∀ {ls:List L} {cs:List Value},L.uG id v ls=true->aL β w N ls cs->aL (iI β id) w N (L.rY id ls) cs
 | [],_,_,h=>by simp only [L.rY,aL] at *; exact h
 | l :: ls,_,hb,⟨c1,c2,e,h1,h2⟩=>by
  simp only [L.uG,aF] at hb
  exact ⟨c1,c2,e,h1.bI hv hb.1,aL.bI hv hb.2 h2⟩
theorem Jh {N:Nat->Nat->Prop} (hv:(β id).ver=v):∀ {vs:List (Sum L (List L))} {us:List Value},Dc id v vs=true->aQ (dP β w N) vs us->aQ (dP (iI β id) w N) (Ep id vs) us
 | [],[],_,_=>trivial
 | .inl l :: vs,u :: us,hb,h=>by
  simp only [Dc,aF] at hb
  exact ⟨L.Rel.bI hv hb.1 h.1,Jh hv hb.2 h.2⟩
 | .inr ls :: vs,u :: us,hb,h=>by
  simp only [Dc,aF] at hb
  obtain ⟨⟨cs,e,hr⟩,h2⟩:=h
  exact ⟨⟨cs,e,hr.bI hv hb.1⟩,Jh hv hb.2 h2⟩
 | [],_ :: _,_,h=>h.elim
 | .inl _ :: _,[],_,h=>h.elim
 | .inr _ :: _,[],_,h=>h.elim
theorem V.Rel.bI {N:Nat->Nat->Prop} (hv:(β id).ver=v) {u:V} {x:Value} (hb:u.nR id v=true) (h:u.Rel β w N x):(u.bI id).Rel (iI β id) w N x:=by
 cases u with
 | one l=>exact L.Rel.bI hv hb h
 | agg ls=>obtain ⟨cs,e,hr⟩:=h; exact ⟨cs,e,hr.bI hv hb⟩
 | tup vs=>obtain ⟨us,e,hr⟩:=h; exact ⟨us,e,Jh hv hb hr⟩
 | bB=>trivial
theorem zPc (i:Nat):(iI β id i).box=(β i).box:=by
 unfold iI
 by_cases hi:i=id
 ·subst hi; rw [upd_same]
 ·rw [aJ _ _ hi]
theorem uY (i:Nat):(iI β id i).blk=(β i).blk∧(iI β id i).live=(β i).live:=by
 unfold iI upd
 split
 ·rename_i h; subst h; exact ⟨rfl,rfl⟩
 ·exact ⟨rfl,rfl⟩
theorem Ob.zPd (o:Ob):(o.bI id).wr=o.wr:=by cases o <;> rfl
theorem Ob.zIa (o:Ob):(o.bI id).jS=o.jS:=by cases o <;> rfl
theorem Er (i:Nat):(iI β id i).sub=(β i).sub:=by
 unfold iI upd
 split
 ·rename_i h; subst h; rfl
 ·rfl
theorem Sim.bI {σ:St} {a:Act} {e:TypeId} {t:Ty} {rows:List t.den} {wr:Bool} (hs:Sim C β σ a w) (ho:σ.h[id]?=some (.arr e t v rows wr)) (hr:aZ (V.nR id v) σ.r=true) (hh:aZ (Ob.nR id v) σ.h=true) :
  Sim C (iI β id) ⟨σ.r.map (V.bI id),(σ.h.map (Ob.bI id)).set id (.arr e t 0 rows wr)⟩ a w:=by
 have hob:=hs.heap.obj _ _ ho
 simp only [Ob.Rel] at hob
 obtain ⟨g1,g2,g3,g4,g5,g6,g7⟩:=hob
 have zYl:id < (σ.h.map (Ob.bI id)).length:=by simpa using (aS.1 ho).1
 have hget:∀ (i:Nat) (o:Ob),((σ.h.map (Ob.bI id)).set id (.arr e t 0 rows wr))[i]?=some o->∃ o',σ.h[i]?=some o'∧(o.wr=o'.wr∧o.jS=o'.jS)∧((i ≠ id∧o=o'.bI id)∨(i=id∧o=.arr e t 0 rows wr)):=fun i o h=>by
  by_cases hi:id=i
  ·subst hi
   rw [List.getElem?_set_self zYl] at h
   simp only [aA] at h
   subst h
   exact ⟨_,ho,⟨rfl,rfl⟩,.inr ⟨rfl,rfl⟩⟩
  ·rw [List.getElem?_set_ne hi,List.getElem?_map,Option.map_eq_some_iff] at h
   obtain ⟨o',h1,rfl⟩:=h
   exact ⟨o',h1,⟨Ob.zPd o',Ob.zIa o'⟩,.inl ⟨fun h=>hi h.symm,rfl⟩⟩
 have hNi:∀ b j,C.N (iI β id) ((σ.h.map (Ob.bI id)).set id (.arr e t 0 rows wr)) b j->C.N β σ.h b j:=fun b j hb=>by
  rcases hb with hb | ⟨i,o,h1,h2,h3⟩
  ·exact .inl hb
  ·obtain ⟨o',h4,h5,_⟩:=hget i o h1
   exact .inr ⟨i,o',h4,by rw [<- h5.1]; exact h2,Ob.qW h5.2 (uY (β:=β) (id:=id) i).1 (Er i) h3⟩
 have mono:∀ {l:List L} {cs:List Value},aL (iI β id) w (C.N β σ.h) l cs->aL (iI β id) w (C.N (iI β id) ((σ.h.map (Ob.bI id)).set id (.arr e t 0 rows wr))) l cs:=fun h=>h.mono (Moves.refl _) (Keep.refl _ w) fun b j _ hb=>hNi b j hb
 refine ⟨⟨?_,?_,?_,?_,hs.heap.n0,hs.heap.frame,hs.heap.size,hs.heap.os,hs.heap.tape,hs.heap.output,fun j o hj=>by
  obtain ⟨k1,k2⟩:=hs.heap.fixed j o hj
  exact ⟨by simpa using k1,fun b hb=>by rw [(uY (β:=β) (id:=id) j).1,(zPc (β:=β) (id:=id) j)]; exact k2 b hb⟩⟩,hs.defers,by simpa using hs.size,?_⟩
 ·intro i o h
  obtain ⟨o',h1,h2,h3 | h3⟩:=hget i o h
  ·obtain ⟨hi,rfl⟩:=h3
   have hob:=hs.heap.obj i o' h1
   have hbi:iI β id i=β i:=aJ _ _ hi
   rw [hbi]
   cases o' with
   | box eb ls =>
    have hvv:=pX hh i _ h1
    simp only [Ob.bI,Ob.Rel] at *
    obtain ⟨k1,k2,b,cs,k3,k4,k5⟩:=hob
    exact ⟨k1,k2,b,cs,k3,mono (k4.bI g3 hvv),k5⟩
   | arr e2 t2 yAa zZm wr2 =>
    simp only [Ob.bI,Ob.Rel] at *
    obtain ⟨k1,k2,k3,k4,k5,k6,k7⟩:=hob
    refine ⟨k1,k2,k3,k4,k5,k6,?_⟩
    rcases k7 with k7 | ⟨b,cur,css,m1,m2,m3,m4⟩
    ·exact .inl k7
    ·exact .inr ⟨b,cur,css,m1,m2,m3.mono fun _ _ h=>h.mono (Keep.refl _ w) fun b j _ hb=>hNi b j hb,m4⟩
   | fm tab=>simp only [Ob.bI,Ob.Rel] at *; exact hob
   | dm kt vt es =>
    simp only [Ob.bI,Ob.Rel] at *
    obtain ⟨k1,k2,b,ms,k3,k4,k5⟩:=hob
    exact ⟨k1,k2,b,ms,k3,k4,k5.mono (Keep.refl _ w) fun b j _ hb=>hNi b j hb⟩
  ·obtain ⟨rfl,rfl⟩:=h3
   simp only [Ob.Rel,iI,upd_same]
   refine ⟨g1,g2,trivial,g4,g5,g6,?_⟩
   rcases g7 with g7 | ⟨b,cur,css,m1,m2,m3,m4⟩
   ·exact .inl g7
   ·exact .inr ⟨b,cur,css,m1,m2,m3.mono fun _ _ h=>h.mono (Keep.refl _ w) fun b j _ hb=>hNi b j hb,m4⟩
 ·intro i hi
  rw [(uY (β:=β) (id:=id) i).2]
  exact hs.heap.dead i (by simpa using hi)
 ·intro i j o1 o2 b h1 h2 hb1 hb2
  obtain ⟨o1',k1,k3,_⟩:=hget i o1 h1
  obtain ⟨o2',k2,k4,_⟩:=hget j o2 h2
  exact hs.heap.jT i j o1' o2' b k1 k2 (Ob.iN k3.2 (uY (β:=β) (id:=id) i).1 (Er i) hb1) (Ob.iN k4.2 (uY (β:=β) (id:=id) j).1 (Er j) hb2)
 ·intro i o b h1 hb
  obtain ⟨o',k1,k3,_⟩:=hget i o h1
  exact hs.heap.wH k1 k3.2 (uY (β:=β) (id:=id) i).1 (Er i) (fun h=>by rw [<- k3.1]; exact h) hb
 ·intro i u hu
  rw [List.getElem?_map,Option.map_eq_some_iff] at hu
  obtain ⟨u0,h1,rfl⟩:=hu
  exact ((hs.reg i u0 h1).bI g3 (pX hr i u0 h1)).mono (Moves.refl _) (Keep.refl _ w) fun b j _ hb=>hNi b j hb
end ver
theorem aL.kL {N:Nat->Nat->Prop} {l:L} (hl:l.Rel β w N [.slice none 0 0]):∀ {ls ls':List L} {j:Nat} {cs:List Value},Dec.kL ls j l=some ls'->aL β w N ls cs->aL β w N ls' cs
 | [],_,j,_,h,_=>by simp [Dec.kL] at h
 | x :: ls,ls',0,cs,h,hr=>by
  simp only [Dec.kL,List.getElem?_cons_zero] at h
  split at h
  ·rename_i hx
   simp only [aA] at h hx
   subst h hx
   obtain ⟨c1,c2,e,h1,h2⟩:=hr
   simp only [L.Rel] at h1
   subst h1
   exact ⟨_,c2,e,hl,h2⟩
  ·cases h
 | x :: ls,ls',j+1,cs,h,hr=>by
  simp only [Dec.kL,List.getElem?_cons_succ] at h
  split at h
  ·rename_i hx
   simp only [aA,List.set_cons_succ] at h
   subst h
   obtain ⟨c1,c2,e,h1,h2⟩:=hr
   exact ⟨c1,c2,e,h1,aL.kL (j:=j) hl (by simp [Dec.kL,hx]) h2⟩
  ·cases h
theorem aL.setAt {N:Nat->Nat->Prop} {l':L}:∀ {ls:List L} {j:Nat} {l:L} {cs:List Value},ls[j]?=some l->(∀ c,l.Rel β w N c->l'.Rel β w N c)->aL β w N ls cs->aL β w N (ls.set j l') cs
 | [],j,_,_,h,_,_=>by simp at h
 | x :: ls,0,l,cs,h,hl,hr=>by
  simp only [List.getElem?_cons_zero,aA] at h
  subst h
  obtain ⟨c1,c2,e,h1,h2⟩:=hr
  exact ⟨c1,c2,e,hl _ h1,h2⟩
 | x :: ls,j+1,l,cs,h,hl,hr=>by
  obtain ⟨c1,c2,e,h1,h2⟩:=hr
  exact ⟨c1,c2,e,h1,aL.setAt (j:=j) (by simpa using h) hl h2⟩
theorem aL.Ra {N N':Nat->Nat->Prop} (hN:∀ b j,b < w.heap.size->N' b j->N b j) {l':L}:∀ {ls:List L} {j:Nat} {l:L} {cs:List Value},ls[j]?=some l->(∀ c,l.Rel β w N c->l'.Rel β w N' c)->aL β w N ls cs->aL β w N' (ls.set j l') cs
 | [],j,_,_,h,_,_=>by simp at h
 | x :: ls,0,l,cs,h,hl,hr=>by
  simp only [List.getElem?_cons_zero,aA] at h
  subst h
  obtain ⟨c1,c2,e,h1,h2⟩:=hr
  exact ⟨c1,c2,e,hl _ h1,h2.mono (Moves.refl β) (Keep.refl _ w) hN⟩
 | x :: ls,j+1,l,cs,h,hl,hr=>by
  obtain ⟨c1,c2,e,h1,h2⟩:=hr
  exact ⟨c1,c2,e,h1.mono (Moves.refl β) (Keep.refl _ w) hN,aL.Ra (j:=j) hN (by simpa using h) hl h2⟩
theorem zAo {h:List Ob} {e:TypeId} {t:Ty} {ver id off len:Nat} {rows:List t.den} {wr:Bool} {c:Value} {N':Nat->Nat->Prop} (hh:dB C β h w) (ho:h[id]?=some (.arr e t ver rows wr)) (hsl:dU (β id) off len c) (hle:off+len <= rows.length)
  (hN:∀ b j,b < w.heap.size->N' b j->C.N β h b j) (hnb:∀ b j,(β id).blk=some b->¬ N' b j):(Ty.slice t).Rel w N' ((rows.drop off).take len) [c]:=by
 have hob:=hh.obj _ _ ho
 simp only [Ob.Rel] at hob
 obtain ⟨_,_,hpv,hpz,hpos,hpl,hob⟩:=hob
 simp only [Ty.Rel]
 refine ⟨c,rfl,?_⟩
 unfold dU at hsl
 rcases hob with ⟨hnb',hr0,_⟩ | ⟨b,cur,css,hb,hheap,hall,htake,hcap,hrc,hm⟩
 ·rw [hnb'] at hsl
  subst hr0
  exact .inl ⟨hsl.1,by simp⟩
 ·rw [hb] at hsl
  obtain ⟨h1,o,rfl,h3⟩:=hsl
  obtain ⟨hf1,hf2,_⟩:=hh.fresh _ _ _ ho hb
  have hlen:((rows.drop off).take len).length=len:=by simp; omega
  have hl:=eH hall
  have hcs:=(Cells.of_heap hheap).take (rows.length * t.size)
  rw [htake] at hcs
  have hcs2:=(hcs.drop (off * t.size)).take (len * t.size)
  rw [iF css hl off,kN _ (fun c hc=>hl c (List.mem_of_mem_drop hc)) len,Nat.zero_add] at hcs2
  have Yu:aQ (fun x c=>t.Rel w N' x c) ((rows.drop off).take len) ((css.drop off).take len):=((hall.drop off).take len).mono fun _ _ h=>h.mono (Keep.refl _ w) hN
  refine .inr (.inl ⟨b,o,_,(css.drop off).take len,by rw [hlen],hf2,fun j _ _=>hnb b j hb,by omega,by omega,Yu,fun c hc=>hl c (List.mem_of_mem_drop (List.mem_of_mem_take hc)),?_⟩)
  rcases h3 with h3 | ⟨h3,_⟩
  ·rw [h3,hpz]; exact hcs2
  ·have hl0:len=0:=by omega
   subst hl0
   simpa using Cells.nil
theorem dB.freeze {id:Nat} {e:TypeId} {t:Ty} {v:Nat} {rows:List t.den} {wr:Bool} {h:List Ob} (hs:dB C β h w) (ho:h[id]?=some (.arr e t v rows wr)) :
  dB C β (h.set id (.arr e t v rows false)) w∧(∀ b j,C.N β (h.set id (.arr e t v rows false)) b j->C.N β h b j)∧∀ b j,(β id).blk=some b->¬ C.N β (h.set id (.arr e t v rows false)) b j:=by
 have hi:id < h.length:=(aS.1 ho).1
 have hget:∀ (i:Nat) (o:Ob),(h.set id (.arr e t v rows false))[i]?=some o->(i ≠ id∧h[i]?=some o)∨(i=id∧o=.arr e t v rows false):=fun i o hio=>by
  by_cases hid:i=id
  ·subst hid
   rw [List.getElem?_set_self hi] at hio
   simp only [aA] at hio
   exact .inr ⟨rfl,hio.symm⟩
  ·rw [List.getElem?_set_ne (Ne.symm hid)] at hio
   exact .inl ⟨hid,hio⟩
 have hN:∀ b j,C.N β (h.set id (.arr e t v rows false)) b j->C.N β h b j:=fun b j hb=>by
  rcases hb with hb | ⟨i,o,hio,hw,hbk⟩
  ·exact .inl hb
  ·rcases hget i o hio with ⟨_,hio⟩ | ⟨_,rfl⟩
   ·exact .inr ⟨i,o,hio,hw,hbk⟩
   ·cases hw
 have hob:∀ (i:Nat) (o:Ob),h[i]?=some o->o.Rel β w (C.N β (h.set id (.arr e t v rows false))) (β i):=fun i o hio=>(hs.obj i o hio).mono (Moves.refl β) (Keep.refl _ w) (fun b j _ hb=>hN b j hb) fun _ _=>rfl
 refine ⟨⟨fun i o hio=>?_,fun i hl=>hs.dead i (by simpa using hl),fun i j o o' b h1 h2 hb1 hb2=>?_,fun i o b hio hb=>?_,hs.n0,hs.frame,hs.size,hs.os,hs.tape,hs.output,fun j o hj=>⟨by simpa using (hs.fixed j o hj).1,(hs.fixed j o hj).2⟩⟩,hN,fun b k hb hn=>?_⟩
 ·rcases hget i o hio with ⟨_,hio⟩ | ⟨rfl,rfl⟩
  ·exact hob i o hio
  ·have:=hob i _ ho
   simp only [Ob.Rel] at this ⊢
   exact this
 ·have k:∀ (i:Nat) (o:Ob),(h.set id (.arr e t v rows false))[i]?=some o->∃ o':Ob,h[i]?=some o'∧o.jS=o'.jS:=fun i o hio=>by
   rcases hget i o hio with ⟨_,hio⟩ | ⟨rfl,rfl⟩
   ·exact ⟨o,hio,rfl⟩
   ·exact ⟨_,ho,rfl⟩
  obtain ⟨o1,k1,k3⟩:=k i o h1
  obtain ⟨o2,k2,k4⟩:=k j o' h2
  exact hs.jT i j o1 o2 b k1 k2 (Ob.iN k3 rfl rfl hb1) (Ob.iN k4 rfl rfl hb2)
 ·rcases hget i o hio with ⟨_,hio⟩ | ⟨rfl,rfl⟩
  ·exact hs.dH i o b hio hb
  ·exact hs.wH ho rfl rfl rfl (fun h=>by cases h) hb
 ·rcases hn with hn | ⟨i,o,hio,hw,hbk⟩
  ·exact (hs.fresh id _ b ho hb).1 k hn
  ·rcases hget i o hio with ⟨hne,hio⟩ | ⟨_,rfl⟩
   ·exact hne (hs.jT i id o _ b hio ho ⟨k,hbk⟩ (Ob.qV hb))
   ·cases hw
theorem Uq {h h':List Ob} {l l':L} (hf:frz h l=some (true,l',h')) (hs:dB C β h w):dB C β h' w∧(∀ b j,C.N β h' b j->C.N β h b j)∧(∀ cs,l.Rel β w (C.N β h) cs->l'.Rel β w (C.N β h') cs)∧h'.length=h.length ∧
  (∀ (i:Nat) (o:Ob),h[i]?=some o->∃ o',h'[i]?=some o'∧(∀ e ls,o=.box e ls->o'=.box e ls)):=by
 have ob:∀ {id:Nat} {e:TypeId} {t:Ty} {v:Nat} {rows:List t.den} {wr:Bool},h[id]?=some (.arr e t v rows wr)->∀ (i:Nat) (o:Ob),h[i]?=some o->∃ o',(h.set id (.arr e t v rows false))[i]?=some o'∧(∀ e ls,o=.box e ls->o'=.box e ls):=by
  intro id e t v rows wr ho i o hio
  by_cases hid:i=id
  ·subst hid
   rw [ho] at hio
   simp only [aA] at hio
   subst hio
   exact ⟨_,List.getElem?_set_self (aS.1 ho).1,fun e ls h=>by cases h⟩
  ·exact ⟨o,by rw [List.getElem?_set_ne (Ne.symm hid)]; exact hio,fun e ls h=>h⟩
 cases l <;> simp only [frz,reduceCtorEq] at hf
 case own id ver =>
  split at hf
  ·rename_i e t v rows wr ho
   simp only [aA,aB] at hf
   obtain ⟨hv,rfl,rfl⟩:=hf
   have hv:=aG hv
   obtain ⟨k1,k2,k3⟩:=hs.freeze ho
   refine ⟨k1,k2,fun cs hr=>?_,by simp,ob ho⟩
   have hob:=hs.obj _ _ ho
   simp only [Ob.Rel] at hob
   obtain ⟨_,_,hpv,_,_,hpl,_⟩:=hob
   simp only [L.Rel] at hr
   obtain ⟨_,_,_,c,rfl,_,himp⟩:=hr
   have hsl:=himp (by rw [hpv,hv])
   rw [hpl] at hsl
   have:=zAo (N':=C.N β (h.set id (.arr e t v rows false))) hs ho hsl (by omega) (fun b j _ hb=>k2 b j hb) k3
   rw [List.drop_zero,List.take_length] at this
   simpa only [L.Rel] using this
  ·cases hf
 case sl id ver off len =>
  split at hf
  ·rename_i e t v rows wr ho
   simp only [aA,aB,aF] at hf
   obtain ⟨⟨hv,hle⟩,rfl,rfl⟩:=hf
   have hv:=aG hv
   obtain ⟨k1,k2,k3⟩:=hs.freeze ho
   refine ⟨k1,k2,fun cs hr=>?_,by simp,ob ho⟩
   have hob:=hs.obj _ _ ho
   simp only [Ob.Rel] at hob
   obtain ⟨_,_,hpv,_,_,hpl,_⟩:=hob
   simp only [L.Rel] at hr
   obtain ⟨_,_,_,c,rfl,_,himp⟩:=hr
   simpa only [L.Rel] using zAo (N':=C.N β (h.set id (.arr e t v rows false))) hs ho (himp (by rw [hpv,hv])) (bA hle) (fun b j _ hb=>k2 b j hb) k3
  ·cases hf
theorem zPe {N:Nat->Nat->Prop} {to off:Nat} {l l':L} {cs:List Value} (h:zPb to off l=some l') (hr:l.Rel β w N cs):l'.Rel β w N cs:=by
 cases l <;> simp only [zPb,reduceCtorEq] at h
 case kD =>
  simp only [aA] at h
  subst h
  simp only [L.Rel] at *
  exact ⟨_,hr,.inl rfl⟩
 case ptr a b =>
  split at h
  ·rename_i hb
   simp only [aF] at hb
   have e1:=aG hb.1
   have e2:=aG hb.2
   subst e1 e2
   simp only [aA] at h
   subst h
   simp only [L.Rel] at *
   obtain ⟨h1,h2,b,h3,h4⟩:=hr
   exact ⟨_,h4,.inr ⟨h1,h2,b,h3,rfl⟩⟩
  ·cases h
 case dZ a b =>
  split at h
  ·rename_i hb
   simp only [aF] at hb
   have e1:=aG hb.1
   have e2:=aG hb.2
   subst e1 e2
   simp only [aA] at h
   subst h
   exact hr
  ·cases h
def uZ (β:Nat->Pl) (ρ:List Nat):Nat->Pl:=fun j=>match ρ[j]? with | some i=>{ β i with ver:=0 } | none=>⟨false,false,0,none,0,0,0,[]⟩
theorem zAp {C:Ctx} {β:Nat->Pl} {w:World} {h:List Ob} {ρ:List Nat} (hs:dB C β h w) (hlt:∀ i ∈ ρ,i < h.length):zHz β (uZ β ρ) ρ h:=by
 intro i j hp
 obtain ⟨m,hm,hi⟩:=sZ hp
 rw [Nat.zero_add] at hm
 subst hm
 have e:uZ β ρ j={ β i with ver:=0 }:=by simp only [uZ,hi]
 rw [e]
 refine ⟨rfl,rfl,rfl,fun hb=>⟨rfl,?_,rfl,rfl,rfl⟩⟩
 have hil:=hlt i (List.mem_of_getElem? hi)
 have ho:h[i]?=some h[i]:=by simp [hil]
 have hob:=hs.obj i _ ho
 unfold Oj
 rw [ho]
 cases hoi:h[i] with
 | box e ls =>
  rw [hoi] at hob
  simp only [Ob.Rel] at hob
  rw [hob.2.1] at hb
  cases hb
 | arr e t v rows wr =>
  rw [hoi] at hob
  simp only [Ob.Rel] at hob
  exact hob.2.2.1
 | fm tab =>
  rw [hoi] at hob
  simp only [Ob.Rel] at hob
  rw [hob.2.1] at hb
  cases hb
 | dm kt vt es =>
  rw [hoi] at hob
  simp only [Ob.Rel] at hob
  rw [hob.2.1] at hb
  cases hb
theorem Sim.gc {σ:St} {a:Act} {ρ:List Nat} (hs:Sim C β σ a w) (hnd:nodupB ρ=true) (hlt:∀ i ∈ ρ,i < σ.h.length) (hfx:∀ j,j < C.fix.length->ρ[j]?=some j) :
  Sim C (uZ β ρ) ⟨σ.r.map (V.ren ρ σ.h),inH ρ σ.h⟩ a w:=by
 have zAq:=zAp hs.heap hlt
 have hget:∀ i ∈ ρ,∃ o,σ.h[i]?=some o:=fun i hi=>⟨σ.h[i]'(hlt i hi),by simp [hlt i hi]⟩
 have hβ:∀ {j i:Nat},ρ[j]?=some i->uZ β ρ j={ β i with ver:=0 }:=fun hi=>by simp only [uZ,hi]
 have hN:∀ b j,b < w.heap.size->C.N (uZ β ρ) (inH ρ σ.h) b j->C.N β σ.h b j:=fun b k _ hb=>by
  rcases hb with hb | ⟨j,o,ho,hw,hbk⟩
  ·exact .inl hb
  ·obtain ⟨i,hi,rfl⟩:=oU ho
   obtain ⟨o',ho'⟩:=hget i (List.mem_of_getElem? hi)
   rw [dS ho',Ob.Jf] at hw
   rw [dS ho',hβ hi] at hbk
   exact .inr ⟨i,o',ho',hw,Ob.qW (Ob.nQ ρ σ.h o') rfl rfl hbk⟩
 refine ⟨⟨?_,?_,?_,?_,hs.heap.n0,hs.heap.frame,hs.heap.size,hs.heap.os,hs.heap.tape,hs.heap.output,?_⟩,hs.defers,by simpa using hs.size,?_⟩
 ·intro j o ho
  obtain ⟨i,hi,rfl⟩:=oU ho
  obtain ⟨o',ho'⟩:=hget i (List.mem_of_getElem? hi)
  rw [dS ho',hβ hi]
  have hob:=hs.heap.obj i o' ho'
  cases o' with
  | box e ls =>
   simp only [Ob.ren,Ob.Rel] at *
   obtain ⟨h1,h2,b,cs,h3,h4,h5⟩:=hob
   exact ⟨h1,h2,b,cs,h3,h4.uF zAq hN,h5⟩
  | arr e t v rows wr =>
   simp only [Ob.ren,Ob.Rel] at *
   obtain ⟨h1,h2,h3,h4,h5,h6,h7⟩:=hob
   refine ⟨h1,h2,trivial,h4,h5,h6,?_⟩
   rcases h7 with h7 | ⟨b,cur,css,k1,k2,k3,k4⟩
   ·exact .inl h7
   ·exact .inr ⟨b,cur,css,k1,k2,k3.mono fun _ _ h=>h.mono (Keep.refl _ w) hN,k4⟩
  | fm tab=>simp only [Ob.ren,Ob.Rel] at *; exact hob
  | dm kt vt es =>
   simp only [Ob.ren,Ob.Rel] at *
   obtain ⟨h1,h2,b,ms,h3,h4,h5⟩:=hob
   exact ⟨h1,h2,b,ms,h3,h4,h5.mono (Keep.refl _ w) hN⟩
 ·intro j hj
  simp only [inH,List.length_map] at hj
  simp only [uZ,List.getElem?_eq_none hj]
 ·intro i j o1 o2 b h1 h2 hb1 hb2
  obtain ⟨i',hi,rfl⟩:=oU h1
  obtain ⟨j',hj,rfl⟩:=oU h2
  obtain ⟨o1',ho1⟩:=hget i' (List.mem_of_getElem? hi)
  obtain ⟨o2',ho2⟩:=hget j' (List.mem_of_getElem? hj)
  rw [hβ hi,dS ho1] at hb1
  rw [hβ hj,dS ho2] at hb2
  have:=hs.heap.jT i' j' o1' o2' b ho1 ho2 (Ob.iN (Ob.nQ ρ σ.h o1') rfl rfl hb1) (Ob.iN (Ob.nQ ρ σ.h o2') rfl rfl hb2)
  subst this
  exact yI hnd hi hj
 ·intro j o b ho hb
  obtain ⟨i,hi,rfl⟩:=oU ho
  obtain ⟨o',ho'⟩:=hget i (List.mem_of_getElem? hi)
  rw [dS ho'] at hb ⊢
  exact hs.heap.wH ho' (Ob.nQ ρ σ.h o') (by rw [hβ hi]) (by rw [hβ hi]) (fun h=>by rw [Ob.Jf] at h; exact h) hb
 ·intro j o hj
  obtain ⟨k1,k2⟩:=hs.heap.fixed j o hj
  have hj2:=hfx j (aS.1 hj).1
  refine ⟨by simpa [inH] using (aS.1 hj2).1,fun b hb=>?_⟩
  rw [hβ hj2]
  exact k2 b hb
 ·intro i v hv
  simp only [List.getElem?_map,Option.map_eq_some_iff] at hv
  obtain ⟨v0,hv0,rfl⟩:=hv
  exact (hs.reg i v0 hv0).uF zAq hN
theorem zFd {kf:Nat} (hkf:C.fix.length <= kf) {ρ:List Nat} {σ σ':St} {a:Act} {b:Bool} (hfx:Lf 0 kf ρ=true) (h:gcL ρ σ=some (b,σ')) (hs:Sim C β σ a w):∃ β',Sim C β' σ' a w:=by
 unfold gcL at h
 split at h
 ·rename_i hc
  simp only [aF] at hc
  simp only [aA,aB] at h
  obtain ⟨_,rfl⟩:=h
  refine ⟨_,hs.gc hc.1 (fun i hi=>?_) fun j hj=>?_⟩
  ·obtain ⟨n,hn⟩:=List.getElem?_of_mem hi
   exact bA (pX hc.2 n i hn)
  ·have:=Xf hfx j (Nat.lt_of_lt_of_le hj hkf)
   rwa [Nat.zero_add] at this
 ·cases h
theorem zTd (_hT:aU C.P T) {kf:Nat} (hkf:C.fix.length <= kf) {c:Co} {σ σ':St} {a:Act} {b:Bool} (hfx:c.fx kf=true) (h:co1 T c σ=some (b,σ')) (hb:b=true) (hs:Sim C β σ a w):∃ β',Sim C β' σ' a w:=by
 cases c with
 | slR i =>
  simp only [co1] at h
  split at h
  ·rename_i id ver hi
   split at h
   ·rename_i e t v rows wr ho
    simp only [aA,aB] at h
    obtain ⟨rfl,rfl⟩:=h
    have hv:=aG hb
    refine ⟨β,hs.heap,hs.defers,by simpa using hs.size,fun j u hu=>?_⟩
    by_cases hij:i=j
    ·subst hij
     rw [List.getElem?_set_self (aS.1 hi).1] at hu
     simp only [aA] at hu
     subst hu
     have hr:=hs.reg i _ hi
     have hob:=hs.heap.obj _ _ ho
     simp only [Ob.Rel] at hob
     obtain ⟨_,_,hpv,_,_,hpl,_⟩:=hob
     simp only [V.Rel,L.Rel] at hr ⊢
     obtain ⟨h1,h2,h3,c,h4,h5,h6⟩:=hr
     exact ⟨h1,h2,h3,c,h4,h5,fun hvv=>by have:=h6 hvv; rwa [hpl] at this⟩
    ·rw [List.getElem?_set_ne hij] at hu
     exact hs.reg j u hu
   ·cases h
  ·simp only [aA,aB] at h
   obtain ⟨_,rfl⟩:=h
   exact ⟨β,hs⟩
  ·cases h
 | zUp i j t =>
  simp only [co1] at h
  split at h
  ·rename_i ls e te ti hi het
   obtain ⟨ts,_,_,hti,_,hsz,hpos,hby⟩:=gG het
   split at h
   ·simp only [aA,aB] at h
    obtain ⟨_,rfl⟩:=h
    exact ⟨β,hs⟩
   split at h
   ·rename_i ls' hset
    simp only [aA,aB] at h
    obtain ⟨_,rfl⟩:=h
    obtain ⟨β',h1,h2,h3⟩:=wJ (e:=e) (t:=te) hs hpos
    refine ⟨β',h2.heap,h2.defers,by simpa using h2.size,fun k v hv=>?_⟩
    by_cases hij:i=k
    ·subst hij
     rw [List.getElem?_set_self (aS.1 hi).1] at hv
     simp only [aA] at hv
     subst hv
     obtain ⟨cs,e1,e2⟩:=h2.reg i _ hi
     exact ⟨cs,e1,aL.kL h3 hset e2⟩
    ·rw [List.getElem?_set_ne hij] at hv
     exact h2.reg k v hv
   ·cases h
  ·cases h
 | zUq i j =>
  simp only [co1] at h
  split at h
  ·rename_i ls hi
   split at h
   ·rename_i l hl
    split at h
    ·simp only [aA,aB] at h
     obtain ⟨_,rfl⟩:=h
     exact ⟨β,hs⟩
    split at h
    ·rename_i c l' h' hf
     simp only [aA,aB] at h
     obtain ⟨rfl,rfl⟩:=h
     subst hb
     obtain ⟨k1,k2,k3,k4,_⟩:=Uq hf hs.heap
     refine ⟨β,k1,hs.defers,by simpa using hs.size,fun k u hu=>?_⟩
     by_cases hij:i=k
     ·subst hij
      rw [List.getElem?_set_self (aS.1 hi).1] at hu
      simp only [aA] at hu
      subst hu
      obtain ⟨cs,e1,e2⟩:=hs.reg i _ hi
      exact ⟨cs,e1,aL.Ra (fun b j _ hb=>k2 b j hb) hl k3 e2⟩
     ·rw [List.getElem?_set_ne hij] at hu
      exact (hs.reg k u hu).mono (Moves.refl β) (Keep.refl _ w) fun b j _ hb=>k2 b j hb
    ·cases h
   ·cases h
  ·cases h
 | gc ρ=>exact zFd hkf hfx h hs
 | gcA k =>
  simp only [co1] at h
  split at h
  ·rename_i hp
   simp only [Co.fx] at hfx
   exact zFd (Nat.le_trans hkf (bA hfx)) hp h hs
  ·cases h
 | orn id j to off =>
  simp only [co1] at h
  split at h
  ·rename_i eb ls hi
   split at h
   ·rename_i l hl
    split at h
    ·rename_i l' hf
     simp only [aA,aB] at h
     obtain ⟨_,rfl⟩:=h
     have hob:=hs.heap.obj _ _ hi
     simp only [Ob.Rel] at hob
     obtain ⟨_,_,bb,cs,hb,hls,hheap⟩:=hob
     have hnew:aL β w (C.N β σ.h) (ls.set j l') cs:=aL.setAt hl (fun c hr=>zPe hf hr) hls
     have:=hs.Cv (cs':=cs) hi hb hheap hnew
     rw [setRow_self w bb cs.toArray eb (0,0) hheap] at this
     exact ⟨β,this⟩
    ·cases h
   ·cases h
  ·cases h
 | zUn i =>
  simp only [co1] at h
  split at h
  ·rename_i l hi
   split at h
   ·simp only [aA,aB] at h
    obtain ⟨_,rfl⟩:=h
    exact ⟨β,hs⟩
   split at h
   ·rename_i c l' h' hf
    simp only [aA,aB] at h
    obtain ⟨rfl,rfl⟩:=h
    subst hb
    obtain ⟨k1,k2,k3,k4,_⟩:=Uq hf hs.heap
    refine ⟨β,k1,hs.defers,by simpa using hs.size,fun j u hu=>?_⟩
    by_cases hij:i=j
    ·subst hij
     rw [List.getElem?_set_self (aS.1 hi).1] at hu
     simp only [aA] at hu
     subst hu
     exact k3 _ (hs.reg i _ hi)
    ·rw [List.getElem?_set_ne hij] at hu
     exact (hs.reg j u hu).mono (Moves.refl β) (Keep.refl _ w) fun b j _ hb=>k2 b j hb
   ·cases h
  ·cases h
 | zUo id j =>
  simp only [co1] at h
  split at h
  ·rename_i eb ls hi
   split at h
   ·rename_i l hl
    split at h
    ·simp only [aA,aB] at h
     obtain ⟨_,rfl⟩:=h
     exact ⟨β,hs⟩
    split at h
    ·rename_i c l' h' hf
     simp only [aA,aB] at h
     obtain ⟨rfl,rfl⟩:=h
     subst hb
     obtain ⟨k1,k2,k3,k4,k5⟩:=Uq hf hs.heap
     obtain ⟨o',h1,h2⟩:=k5 id _ hi
     have h2:=h2 eb ls rfl
     subst h2
     have hs':Sim C β ⟨σ.r,h'⟩ a w:=⟨k1,hs.defers,hs.size,fun i v hv=>(hs.reg i v hv).mono (Moves.refl β) (Keep.refl _ w) fun b j _ hb=>k2 b j hb⟩
     have hob:=k1.obj _ _ h1
     have Ul:=hs.heap.obj _ _ hi
     simp only [Ob.Rel] at hob Ul
     obtain ⟨_,_,bb,cs,hb,hls,hheap⟩:=hob
     obtain ⟨_,_,bb0,cs0,hb0,zYm,zAr⟩:=Ul
     rw [hb] at hb0
     simp only [aA] at hb0
     subst hb0
     rw [hheap] at zAr
     simp only [aA,Obj.cells.injEq,and_true] at zAr
     have hcs:cs0=cs:=by have:=congrArg Array.toList zAr; simpa using this.symm
     subst hcs
     have hnew:aL β w (C.N β h') (ls.set j l') cs0:=aL.Ra (fun b j _ hb=>k2 b j hb) hl k3 zYm
     have:=hs'.Cv (cs':=cs0) h1 hb hheap hnew
     rw [setRow_self w bb cs0.toArray eb (0,0) hheap] at this
     exact ⟨β,this⟩
    ·cases h
   ·cases h
  ·cases h
 | keep m =>
  simp only [co1,aA,aB] at h
  obtain ⟨rfl,rfl⟩:=h
  refine ⟨β,hs.heap,hs.defers,by rw [uH]; exact hs.size,fun i v hv=>?_⟩
  rcases Aw m σ.r i v hv with rfl | h1
  ·trivial
  ·exact hs.reg i v h1
 | trunc n =>
  simp only [co1] at h
  split at h
  ·rename_i hc
   simp only [aF] at hc
   simp only [aA,aB] at h
   obtain ⟨rfl,rfl⟩:=h
   exact hs.trunc (Nat.le_trans hkf (bA hfx)) (bA hc.1) hc.2.1 hc.2.2
  ·cases h
 | zUk i t =>
  simp only [co1] at h
  split at h
  ·rename_i e te ti hi het
   obtain ⟨ts,_,_,hti,_,hsz,hpos,hby⟩:=gG het
   simp only [aA,aB] at h
   obtain ⟨rfl,rfl⟩:=h
   obtain ⟨β',h1,h2,h3⟩:=wJ (e:=e) (t:=te) hs hpos
   refine ⟨β',h2.heap,h2.defers,by simpa using h2.size,fun j v hv=>?_⟩
   by_cases hij:i=j
   ·subst hij
    rw [List.getElem?_set_self (aS.1 hi).1] at hv
    simp only [aA] at hv
    subst hv
    have:=hs.reg i _ hi
    simp only [V.Rel,L.Rel,aK,and_true] at this
    rw [this]
    exact h3
   ·rw [List.getElem?_set_ne hij] at hv
    exact h2.reg j v hv
  ·simp only [aA,aB] at h
   obtain ⟨_,rfl⟩:=h
   exact ⟨β,hs⟩
  ·cases h
 | ownB id j t =>
  simp only [co1] at h
  split at h
  ·rename_i eb ls e te ti hi het
   obtain ⟨ts,_,_,hti,_,hsz,hpos,hby⟩:=gG het
   split at h
   ·simp only [aA,aB] at h
    obtain ⟨_,rfl⟩:=h
    exact ⟨β,hs⟩
   split at h
   ·rename_i ls' hset
    simp only [aA,aB] at h
    obtain ⟨rfl,rfl⟩:=h
    obtain ⟨β',h1,h2,h3⟩:=wJ (e:=e) (t:=te) hs hpos
    have hi':(σ.h++[.arr e te 0 [] true])[id]?=some (.box eb ls):=by
     rw [dG (aS.1 hi).1]; exact hi
    have hob:=h2.heap.obj _ _ hi'
    simp only [Ob.Rel] at hob
    obtain ⟨_,_,bb,cs,hb,hls,hheap⟩:=hob
    have:=h2.Cv (cs':=cs) hi' hb hheap (aL.kL h3 hset hls)
    rw [setRow_self w bb cs.toArray eb (0,0) hheap] at this
    exact ⟨β',this⟩
   ·cases h
  ·cases h
 | zUl i t =>
  simp only [co1] at h
  split at h
  ·rename_i hi
   simp only [aA,aB] at h
   obtain ⟨rfl,rfl⟩:=h
   refine ⟨β,hs.heap,hs.defers,by simpa using hs.size,fun j v hv=>?_⟩
   by_cases hij:i=j
   ·subst hij
    rw [List.getElem?_set_self (aS.1 hi).1] at hv
    simp only [aA] at hv
    subst hv
    have:=hs.reg i _ hi
    simp only [V.Rel,L.Rel,Ty.Rel,aK,and_true] at this ⊢
    exact ⟨_,rfl,.inl ⟨this,rfl⟩⟩
   ·rw [List.getElem?_set_ne hij] at hv
    exact hs.reg j v hv
  ·cases h
 | zUm id j t =>
  simp only [co1] at h
  split at h
  ·rename_i eb ls hi
   split at h
   ·rename_i ls' hset
    simp only [aA,aB] at h
    obtain ⟨rfl,rfl⟩:=h
    have hob:=hs.heap.obj _ _ hi
    simp only [Ob.Rel] at hob
    obtain ⟨_,_,bb,cs,hb,hls,hheap⟩:=hob
    have:=hs.Cv (cs':=cs) hi hb hheap (aL.kL (l:=.val (.slice t) []) (by simp only [L.Rel,Ty.Rel]; exact ⟨_,rfl,.inl ⟨rfl,rfl⟩⟩) hset hls)
    rw [setRow_self w bb cs.toArray eb (0,0) hheap] at this
    exact ⟨β,this⟩
   ·cases h
  ·cases h
 | ver id =>
  simp only [co1] at h
  split at h
  ·rename_i e t v rows wr ho
   split at h
   ·rename_i hc
    simp only [aF] at hc
    simp only [aA,aB] at h
    obtain ⟨rfl,rfl⟩:=h
    exact ⟨_,hs.bI ho hc.1 hc.2⟩
   ·cases h
  ·cases h
theorem vB {ρ:Type} (hT:aU C.P T) {kf:Nat} (hkf:C.fix.length <= kf) {k:St->Option ρ} {r:ρ}:∀ {cs:List Co} {β:Nat->Pl} {σ:St} {a:Act},aZ (Co.fx kf) cs=true->norm T cs σ k=some r->Sim C β σ a w->∃ β' σ',Sim C β' σ' a w∧k σ'=some r
 | [],β,σ,a,_,h,hs=>⟨β,σ,hs,h⟩
 | c :: cs,β,σ,a,hfx,h,hs=>by
  simp only [aZ,aF] at hfx
  simp only [norm] at h
  split at h
  ·rename_i b σ' hc
   obtain ⟨hb,hk⟩:=lZ h
   obtain ⟨β',hs'⟩:=zTd hT hkf hfx.1 hc hb hs
   exact vB hT hkf hfx.2 hk hs'
  ·cases h
end
end Go.Dec
