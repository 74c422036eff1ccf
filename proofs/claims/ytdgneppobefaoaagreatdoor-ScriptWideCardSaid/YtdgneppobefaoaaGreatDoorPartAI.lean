/- Part of a proof over this seat: a library of my own, and what it says of this seat. No statement is proved here. -/
import Derived.Test.YtdgneppobefaoaaGreatDoorPartAH
import Derived.Test.YtdgneppobefaoaaGreatDoorPartAG
import Derived.LoopN
import Derived.ScopeJumps
namespace Go.Dec
inductive LS where
 | v (t:Ty)
 | ptr (id off:Nat)
 | own (id:Nat)
 | clo (f:Nat) (caps:List (Nat × Nat))
 | any (n:Nat)
 | eU (id off:Nat)
 | sl (id:Nat)
 | bV
 | dZ (id off:Nat)
 | mp (id:Nat)
def zUr (caps:List (Nat × Nat)):List L:=caps.map fun p=>.ptr p.1 p.2
def Zg:List (Nat × Nat)->List L->Bool
 | [],[]=>true
 | p :: r,.ptr a b :: m=>Nat.beq p.1 a && (Nat.beq p.2 b && Zg r m)
 | _,_=>false
theorem zAs:∀ {caps:List (Nat × Nat)} {m:List L},Zg caps m=true->m=zUr caps
 | [],[],_=>rfl
 | (i,o) :: r,l :: m,h=>by
  cases l <;> simp only [Zg,aF,Bool.false_eq_true] at h
  obtain ⟨h1,h2,h3⟩:=h
  obtain rfl:i=_:=aG h1
  obtain rfl:o=_:=aG h2
  rw [zAs h3]
  rfl
 | [],_ :: _,h=>by cases h
 | _ :: _,[],h=>by cases h
@[reducible] def LTs:List LS->Type->Type
 | [],A=>A
 | .v t :: r,A=>t.den × LTs r A
 | .eU _ _ :: r,A=>Nat × LTs r A
 | .sl _ :: r,A=>Nat × (Nat × LTs r A)
 | .ptr _ _ :: r,A=>LTs r A
 | .own _ :: r,A=>LTs r A
 | .clo _ _ :: r,A=>LTs r A
 | .any _ :: r,A=>LTs r A
 | .bV :: r,A=>LTs r A
 | .dZ _ _ :: r,A=>LTs r A
 | .mp _ :: r,A=>LTs r A
structure Slot where
 i:Nat
 agg:Bool
 ls:List LS
inductive OS where
 | box (e:TypeId) (ls:List LS)
 | row (e:TypeId) (t:Ty)
 | fm (tab:List (MK × Nat))
 | dm (kt vt:Ty)
@[reducible] def RTs:List Slot->Type->Type
 | [],A=>A
 | s :: r,A=>LTs s.ls (RTs r A)
@[reducible] def OTs:List OS->Type->Type
 | [],A=>A
 | .box _ ls :: r,A=>LTs ls (OTs r A)
 | .row _ t :: r,A=>List t.den × OTs r A
 | .fm _ :: r,A=>OTs r A
 | .dm kt vt :: r,A=>List (kt.den × vt.den) × OTs r A
structure Sh where
 n:Nat
 rs:List Slot
 os:List OS
@[reducible] def Sh.X (sh:Sh):Type:=RTs sh.rs (OTs sh.os Unit)
def bZ {A:Type}:(ls:List LS)->LTs ls A->List L × A
 | [],x=>([],x)
 | .v t :: r,x=>(.val t x.1 :: (bZ r x.2).1,(bZ r x.2).2)
 | .ptr a b :: r,x=>(.ptr a b :: (bZ (A:=A) r x).1,(bZ (A:=A) r x).2)
 | .own a :: r,x=>(.own a 0 :: (bZ (A:=A) r x).1,(bZ (A:=A) r x).2)
 | .clo f caps :: r,x=>(.clo f (zUr caps) :: (bZ (A:=A) r x).1,(bZ (A:=A) r x).2)
 | .eU a o :: r,x=>(.eU a 0 x.1 o :: (bZ r x.2).1,(bZ r x.2).2)
 | .sl a :: r,x=>(.sl a 0 x.1 x.2.1 :: (bZ r x.2.2).1,(bZ r x.2.2).2)
 | .bV :: r,x=>(.bV :: (bZ (A:=A) r x).1,(bZ (A:=A) r x).2)
 | .dZ a b :: r,x=>(.dZ a b :: (bZ (A:=A) r x).1,(bZ (A:=A) r x).2)
 | .mp a :: r,x=>(.mp a :: (bZ (A:=A) r x).1,(bZ (A:=A) r x).2)
 | .any n :: r,x=>(.bad n :: (bZ (A:=A) r x).1,(bZ (A:=A) r x).2)
def zAt (agg:Bool) (ls:List L):V :=
 match agg,ls with
 | true,ls=>.agg ls
 | false,[l]=>.one l
 | _,_=>.bB
def Ay {A:Type}:(rs:List Slot)->List V->RTs rs A->List V × A
 | [],acc,x=>(acc,x)
 | s :: r,acc,x=>Ay r (acc.set s.i (zAt s.agg (bZ s.ls x).1)) (bZ s.ls x).2
def eB {A:Type}:(os:List OS)->OTs os A->List Ob × A
 | [],x=>([],x)
 | .box e ls :: r,x=>(.box e (bZ ls x).1 :: (eB r (bZ ls x).2).1,(eB r (bZ ls x).2).2)
 | .row e t :: r,x=>(.arr e t 0 x.1 true :: (eB r x.2).1,(eB r x.2).2)
 | .fm tab :: r,x=>(.fm tab :: (eB (A:=A) r x).1,(eB (A:=A) r x).2)
 | .dm kt vt :: r,x=>(.dm kt vt x.1 :: (eB r x.2).1,(eB r x.2).2)
def Sh.enc (sh:Sh) (x:sh.X):St :=
 let p:=Ay sh.rs (List.replicate sh.n .bB) x
 ⟨p.1,(eB sh.os p.2).1⟩
def bC {A:Type}:(ls:List LS)->List L->Option (A->LTs ls A)
 | [],[]=>some id
 | .v t :: r,l :: m =>
  match l.asT t,bC (A:=A) r m with
  | some x,some f=>some fun a=>(x,f a)
  | _,_=>none
 | .ptr a b :: r,.ptr a' b' :: m=>match Nat.beq a a' && Nat.beq b b' with
  | true=>bC (A:=A) r m
  | false=>none
 | .own a :: r,.own a' u :: m=>match Nat.beq a a' && Nat.beq u 0 with
  | true=>bC (A:=A) r m
  | false=>none
 | .clo f caps :: r,.clo f' m' :: m=>match Nat.beq f f' && Zg caps m' with
  | true=>bC (A:=A) r m
  | false=>none
 | .eU a o :: r,.eU a' u i o' :: m=>match Nat.beq a a' && (Nat.beq u 0 && Nat.beq o o'),bC (A:=A) r m with
  | true,some f=>some fun x=>(i,f x)
  | _,_=>none
 | .sl a :: r,.sl a' u i n :: m=>match Nat.beq a a' && Nat.beq u 0,bC (A:=A) r m with
  | true,some f=>some fun x=>(i,n,f x)
  | _,_=>none
 | .bV :: r,.bV :: m=>bC (A:=A) r m
 | .dZ a b :: r,.dZ a' b' :: m=>match Nat.beq a a' && Nat.beq b b' with
  | true=>bC (A:=A) r m
  | false=>none
 | .mp a :: r,.mp a' :: m=>match Nat.beq a a' with
  | true=>bC (A:=A) r m
  | false=>none
 | .any n :: r,l :: m=>match Nat.beq n l.size with
  | true=>bC (A:=A) r m
  | false=>none
 | _,_=>none
def Rj (agg:Bool) (v:V):Option (List L) :=
 match agg,v with
 | true,.agg ls=>some ls
 | false,.one l=>some [l]
 | _,_=>none
def Rk {A:Type} (σr:List V):(rs:List Slot)->Option (A->RTs rs A)
 | []=>some id
 | s :: r =>
  match Rj s.agg (σr.getD s.i .bB) with
  | some ls =>
   match bC (A:=RTs r A) s.ls ls,Rk σr r with
   | some f,some g=>some fun a=>f (g a)
   | _,_=>none
  | none=>none
def eZ {A:Type}:(os:List OS)->List Ob->Option (A->OTs os A)
 | [],[]=>some id
 | .box e ls :: r,.box e' l :: m =>
  match Nat.beq e e',bC (A:=OTs r A) ls l,eZ (A:=A) r m with
  | true,some f,some g=>some fun a=>f (g a)
  | _,_,_=>none
 | .row e t :: r,.arr e' t' ver rows wr :: m =>
  match Nat.beq e e' && (Nat.beq ver 0 && wr),eZ (A:=A) r m with
  | true,some g=>if h:t'=t then some fun a=>(h ▸ rows,g a) else none
  | _,_=>none
 | .fm tab :: r,.fm zUs :: m=>if tab=zUs then eZ (A:=A) r m else none
 | .dm kt vt :: r,.dm kt' vt' es :: m =>
  match eZ (A:=A) r m with
  | some g=>if h:kt'=kt∧vt'=vt then some fun a=>(h.1 ▸ h.2 ▸ es,g a) else none
  | none=>none
 | _,_=>none
def Sh.dec (sh:Sh) (σ:St):Option sh.X :=
 match Nat.beq σ.r.length sh.n,Rk (A:=OTs sh.os Unit) σ.r sh.rs,eZ (A:=Unit) sh.os σ.h with
 | true,some f,some g=>some (f (g ()))
 | _,_,_=>none
section
variable {β:Nat->Pl} {w:World} {N:Nat->Nat->Prop} {A:Type}
theorem gD:∀ {ls:List LS} {l:List L} {f:A->LTs ls A} (a:A) {cs:List Value},bC ls l=some f->aL β w N l cs->aL β w N (bZ ls (f a)).1 cs∧(bZ ls (f a)).2=a
 | [],[],f,a,cs,h,hr=>by
  simp only [bC,aA] at h
  subst h
  exact ⟨hr,rfl⟩
 | .v t :: r,l :: m,f,a,cs,h,hr=>by
  simp only [bC] at h
  split at h
  ·rename_i x g h1 h2
   simp only [aA] at h
   subst h
   obtain ⟨c1,c2,e,r1,r2⟩:=hr
   obtain ⟨g1,g2⟩:=gD a h2 r2
   exact ⟨⟨c1,c2,e,by simpa only [L.Rel] using L.Kw h1 r1,g1⟩,g2⟩
  ·cases h
 | .ptr i o :: r,l :: m,f,a,cs,h,hr=>by
  cases l <;> simp only [bC,reduceCtorEq] at h
  split at h
  ·rename_i hb
   simp only [aF] at hb
   have e1:=aG hb.1
   have e2:=aG hb.2
   subst e1 e2
   obtain ⟨c1,c2,e,r1,r2⟩:=hr
   obtain ⟨g1,g2⟩:=gD a h r2
   exact ⟨⟨c1,c2,e,r1,g1⟩,g2⟩
  ·cases h
 | .own i :: r,l :: m,f,a,cs,h,hr=>by
  cases l <;> simp only [bC,reduceCtorEq] at h
  split at h
  ·rename_i hb
   simp only [aF] at hb
   have e1:=aG hb.1
   have e2:=aG hb.2
   subst e1 e2
   obtain ⟨c1,c2,e,r1,r2⟩:=hr
   obtain ⟨g1,g2⟩:=gD a h r2
   exact ⟨⟨c1,c2,e,r1,g1⟩,g2⟩
  ·cases h
 | .clo i caps :: r,l :: m,f,a,cs,h,hr=>by
  cases l <;> simp only [bC,reduceCtorEq] at h
  split at h
  ·rename_i hb
   simp only [aF] at hb
   have e1:=aG hb.1
   have e2:=zAs hb.2
   subst e1 e2
   obtain ⟨c1,c2,e,r1,r2⟩:=hr
   obtain ⟨g1,g2⟩:=gD a h r2
   exact ⟨⟨c1,c2,e,r1,g1⟩,g2⟩
  ·cases h
 | .eU i o :: r,l :: m,f,a,cs,h,hr=>by
  cases l <;> simp only [bC,reduceCtorEq] at h
  split at h
  ·rename_i f1 hb h2
   simp only [aA] at h
   subst h
   simp only [aF] at hb
   have e1:=aG hb.1
   have e2:=aG hb.2.1
   have e3:=aG hb.2.2
   subst e1 e2 e3
   obtain ⟨c1,c2,e,r1,r2⟩:=hr
   obtain ⟨g1,g2⟩:=gD a h2 r2
   exact ⟨⟨c1,c2,e,r1,g1⟩,g2⟩
  ·cases h
 | .sl i :: r,l :: m,f,a,cs,h,hr=>by
  cases l <;> simp only [bC,reduceCtorEq] at h
  split at h
  ·rename_i f1 hb h2
   simp only [aA] at h
   subst h
   simp only [aF] at hb
   have e1:=aG hb.1
   have e2:=aG hb.2
   subst e1 e2
   obtain ⟨c1,c2,e,r1,r2⟩:=hr
   obtain ⟨g1,g2⟩:=gD a h2 r2
   exact ⟨⟨c1,c2,e,r1,g1⟩,g2⟩
  ·cases h
 | .dZ i o :: r,l :: m,f,a,cs,h,hr=>by
  cases l <;> simp only [bC,reduceCtorEq] at h
  split at h
  ·rename_i hb
   simp only [aF] at hb
   have e1:=aG hb.1
   have e2:=aG hb.2
   subst e1 e2
   obtain ⟨c1,c2,e,r1,r2⟩:=hr
   obtain ⟨g1,g2⟩:=gD a h r2
   exact ⟨⟨c1,c2,e,r1,g1⟩,g2⟩
  ·cases h
 | .bV :: r,l :: m,f,a,cs,h,hr=>by
  cases l <;> simp only [bC,reduceCtorEq] at h
  obtain ⟨c1,c2,e,r1,r2⟩:=hr
  obtain ⟨g1,g2⟩:=gD a h r2
  exact ⟨⟨c1,c2,e,r1,g1⟩,g2⟩
 | .mp i :: r,l :: m,f,a,cs,h,hr=>by
  cases l <;> simp only [bC,reduceCtorEq] at h
  split at h
  ·rename_i hb
   have e1:=aG hb
   subst e1
   obtain ⟨c1,c2,e,r1,r2⟩:=hr
   obtain ⟨g1,g2⟩:=gD a h r2
   exact ⟨⟨c1,c2,e,r1,g1⟩,g2⟩
  ·cases h
 | .any n :: r,l :: m,f,a,cs,h,hr=>by
  simp only [bC] at h
  split at h
  ·rename_i hb
   have e1:=aG hb
   subst e1
   obtain ⟨c1,c2,e,r1,r2⟩:=hr
   obtain ⟨g1,g2⟩:=gD a h r2
   exact ⟨⟨c1,c2,e,by simp only [L.Rel]; exact ⟨r1.length,fun c hc=>r1.one c hc⟩,g1⟩,g2⟩
  ·cases h
 | [],_ :: _,_,_,_,h,_=>by simp [bC] at h
 | .v _ :: _,[],_,_,_,h,_=>by simp [bC] at h
 | .ptr .. :: _,[],_,_,_,h,_=>by simp [bC] at h
 | .own .. :: _,[],_,_,_,h,_=>by simp [bC] at h
 | .clo .. :: _,[],_,_,_,h,_=>by simp [bC] at h
 | .eU .. :: _,[],_,_,_,h,_=>by simp [bC] at h
 | .sl .. :: _,[],_,_,_,h,_=>by simp [bC] at h
 | .bV :: _,[],_,_,_,h,_=>by simp [bC] at h
 | .dZ .. :: _,[],_,_,_,h,_=>by simp [bC] at h
 | .mp .. :: _,[],_,_,_,h,_=>by simp [bC] at h
 | .any .. :: _,[],_,_,_,h,_=>by simp [bC] at h
theorem jD:∀ {ls:List LS} {l:List L} {f:A->LTs ls A} (a:A),bC ls l=some f->(bZ ls (f a)).1.length=l.length
 | [],[],f,a,h=>by
  simp only [bC,aA] at h
  subst h
  rfl
 | .v t :: r,l :: m,f,a,h=>by
  simp only [bC] at h
  split at h
  ·rename_i x g h1 h2
   simp only [aA] at h
   subst h
   simp only [bZ,List.length_cons,jD a h2]
  ·cases h
 | .ptr i o :: r,l :: m,f,a,h=>by
  cases l <;> simp only [bC,reduceCtorEq] at h
  split at h
  ·simp only [bZ,List.length_cons,jD a h]
  ·cases h
 | .mp i :: r,l :: m,f,a,h=>by
  cases l <;> simp only [bC,reduceCtorEq] at h
  split at h
  ·simp only [bZ,List.length_cons,jD a h]
  ·cases h
 | .own i :: r,l :: m,f,a,h=>by
  cases l <;> simp only [bC,reduceCtorEq] at h
  split at h
  ·simp only [bZ,List.length_cons,jD a h]
  ·cases h
 | .clo i caps :: r,l :: m,f,a,h=>by
  cases l <;> simp only [bC,reduceCtorEq] at h
  split at h
  ·simp only [bZ,List.length_cons,jD a h]
  ·cases h
 | .eU i o :: r,l :: m,f,a,h=>by
  cases l <;> simp only [bC,reduceCtorEq] at h
  split at h
  ·rename_i f1 hb h2
   simp only [aA] at h
   subst h
   simp only [bZ,List.length_cons,jD a h2]
  ·cases h
 | .sl i :: r,l :: m,f,a,h=>by
  cases l <;> simp only [bC,reduceCtorEq] at h
  split at h
  ·rename_i f1 hb h2
   simp only [aA] at h
   subst h
   simp only [bZ,List.length_cons,jD a h2]
  ·cases h
 | .dZ i o :: r,l :: m,f,a,h=>by
  cases l <;> simp only [bC,reduceCtorEq] at h
  split at h
  ·simp only [bZ,List.length_cons,jD a h]
  ·cases h
 | .bV :: r,l :: m,f,a,h=>by
  cases l <;> simp only [bC,reduceCtorEq] at h
  have:=jD a h
  simp only [bZ,List.length_cons,this]
 | .any n :: r,l :: m,f,a,h=>by
  simp only [bC] at h
  split at h
  ·simp only [bZ,List.length_cons,jD a h]
  ·cases h
 | [],_ :: _,_,_,h=>by simp [bC] at h
 | .v _ :: _,[],_,_,h=>by simp [bC] at h
 | .ptr .. :: _,[],_,_,h=>by simp [bC] at h
 | .own .. :: _,[],_,_,h=>by simp [bC] at h
 | .clo .. :: _,[],_,_,h=>by simp [bC] at h
 | .eU .. :: _,[],_,_,h=>by simp [bC] at h
 | .sl .. :: _,[],_,_,h=>by simp [bC] at h
 | .bV :: _,[],_,_,h=>by simp [bC] at h
 | .dZ .. :: _,[],_,_,h=>by simp [bC] at h
 | .mp .. :: _,[],_,_,h=>by simp [bC] at h
 | .any .. :: _,[],_,_,h=>by simp [bC] at h
theorem zIb {agg:Bool} {v:V} {ls ls':List L} {x:Value} (hs:Rj agg v=some ls) (hr:v.Rel β w N x) (hlen:ls'.length=ls.length) (h:∀ cs,aL β w N ls cs->aL β w N ls' cs):(zAt agg ls').Rel β w N x:=by
 unfold Rj at hs
 split at hs
 ·simp only [aA] at hs
  subst hs
  obtain ⟨cs,e,hr⟩:=hr
  exact ⟨cs,e,h cs hr⟩
 ·rename_i l
  simp only [aA] at hs
  subst hs
  match ls',hlen with
  | [l'],_ =>
   obtain ⟨c1,c2,e,h1,h2⟩:=h [x] ⟨[x],[],rfl,hr,rfl⟩
   simp only [aL] at h2
   subst h2
   rw [List.append_nil] at e
   subst e
   exact h1
 ·cases hs
def zC (β:Nat->Pl) (w:World) (N:Nat->Nat->Prop) (r:List V) (tmps:Array Value):Prop:=∀ (i:Nat) (v:V),r[i]?=some v->v.Rel β w N (tmps.getD i undef)
theorem zC.set {r:List V} {tmps:Array Value} (h:zC β w N r tmps) {i:Nat} {v:V} (hv:v.Rel β w N (tmps.getD i undef)):zC β w N (r.set i v) tmps:=by
 intro j u hu
 by_cases hij:i=j
 ·subst hij
  rcases aY i r.length with hi | hi
  ·rw [List.getElem?_set_self hi] at hu
   simp only [aA] at hu
   subst hu
   exact hv
  ·rw [List.getElem?_eq_none (by simpa using hi)] at hu; cases hu
 ·rw [List.getElem?_set_ne hij] at hu
  exact h j u hu
theorem Xg {σr:List V} {tmps:Array Value} (hr:zC β w N σr tmps):∀ {rs:List Slot} {f:A->RTs rs A} (a:A) {acc:List V},Rk σr rs=some f->zC β w N acc tmps ->
  zC β w N (Ay rs acc (f a)).1 tmps∧(Ay rs acc (f a)).2=a∧(Ay rs acc (f a)).1.length=acc.length
 | [],f,a,acc,h,ha=>by
  simp only [Rk,aA] at h
  subst h
  exact ⟨ha,rfl,rfl⟩
 | s :: r,f,a,acc,h,ha=>by
  simp only [Rk] at h
  split at h
  ·rename_i ls hls
   split at h
   ·rename_i f1 g h1 h2
    simp only [aA] at h
    subst h
    have hv:(σr.getD s.i .bB).Rel β w N (tmps.getD s.i undef):=by
     rw [List.getD_eq_getElem?_getD]
     cases hg:σr[s.i]? with
     | none=>trivial
     | some v=>exact hr s.i v hg
    have hmk:=zIb hls hv (jD (g a) h1) fun cs hc=>(gD (g a) h1 hc).1
    have e2:(bZ s.ls (f1 (g a))).2=g a:=by
     have hp:∃ cs,aL β w N ls cs:=by
      unfold Rj at hls
      split at hls
      ·rename_i l heq
       simp only [aA] at hls
       subst hls
       rw [heq] at hv
       obtain ⟨cs,_,hc⟩:=hv
       exact ⟨cs,hc⟩
      ·rename_i l heq
       simp only [aA] at hls
       subst hls
       rw [heq] at hv
       exact ⟨[_],[_],[],rfl,hv,rfl⟩
      ·cases hls
     obtain ⟨cs,hc⟩:=hp
     exact (gD (g a) h1 hc).2
    simp only [Ay]
    rw [e2]
    obtain ⟨k1,k2,k3⟩:=Xg hr a (acc:=acc.set s.i (zAt s.agg (bZ s.ls (f1 (g a))).1)) h2 (ha.set hmk)
    exact ⟨k1,k2,by rw [k3,List.length_set]⟩
   ·cases h
  ·cases h
def wN (β:Nat->Pl) (w:World) (N:Nat->Nat->Prop):Nat->List Ob->List Ob->Prop
 | _,[],[]=>True
 | i,o :: r,o' :: r'=>(o.Rel β w N (β i)->o'.Rel β w N (β i))∧(o'.wr=o.wr∧o'.jS=o.jS)∧wN β w N (i+1) r r'
 | _,_,_=>False
theorem wO {w:World}:∀ {os:List OS} {h:List Ob} {f:A->OTs os A} (a:A) (i:Nat),eZ os h=some f->(∀ (j:Nat) (o:Ob),h[j]?=some o->o.Rel β w N (β (i+j)))->wN β w N i h (eB os (f a)).1
 | [],[],f,a,i,h,_=>by
  simp only [eZ,aA] at h
  subst h
  trivial
 | .box e ls :: r,.box e' l :: m,f,a,i,h,hr=>by
  simp only [eZ] at h
  split at h
  ·rename_i f1 g hb h1 h2
   simp only [aA] at h
   subst h
   have:=aG hb
   subst this
   have h0:=hr 0 _ rfl
   simp only [Ob.Rel,Nat.add_zero] at h0
   obtain ⟨_,_,b0,cs0,_,hc0,_⟩:=h0
   have e2:=(gD (g a) h1 hc0).2
   simp only [eB]
   refine ⟨?_,⟨rfl,rfl⟩,?_⟩
   ·simp only [Ob.Rel]
    rintro ⟨k1,k2,b,cs,k3,k4,k5⟩
    exact ⟨k1,k2,b,cs,k3,(gD (g a) h1 k4).1,k5⟩
   ·rw [e2]
    exact wO a (i+1) h2 fun j o ho=>by
     have:=hr (j+1) o (by simpa using ho)
     rwa [show i+(j+1)=i+1+j by omega] at this
  ·cases h
 | .row e t :: r,.arr e' t' ver rows wr :: m,f,a,i,h,hr=>by
  simp only [eZ] at h
  split at h
  ·rename_i g hb h2
   split at h
   ·rename_i ht
    subst ht
    simp only [aA] at h
    subst h
    simp only [aF] at hb
    have e1:=aG hb.1
    have e2:=aG hb.2.1
    have e3:=hb.2.2
    subst e1 e2 e3
    simp only [eB]
    refine ⟨fun h=>h,⟨rfl,rfl⟩,?_⟩
    exact wO a (i+1) h2 fun j o ho=>by
     have:=hr (j+1) o (by simpa using ho)
     rwa [show i+(j+1)=i+1+j by omega] at this
   ·cases h
  ·cases h
 | [],_ :: _,_,_,_,h,_=>by simp [eZ] at h
 | .box .. :: _,[],_,_,_,h,_=>by simp [eZ] at h
 | .row .. :: _,[],_,_,_,h,_=>by simp [eZ] at h
 | .box .. :: _,.arr .. :: _,_,_,_,h,_=>by simp [eZ] at h
 | .row .. :: _,.box .. :: _,_,_,_,h,_=>by simp [eZ] at h
 | .fm tab :: r,.fm zUs :: m,f,a,i,h,hr=>by
  simp only [eZ] at h
  split at h
  ·rename_i ht
   subst ht
   simp only [eB]
   refine ⟨fun h=>h,⟨rfl,rfl⟩,?_⟩
   exact wO a (i+1) h fun j o ho=>by
    have:=hr (j+1) o (by simpa using ho)
    rwa [show i+(j+1)=i+1+j by omega] at this
  ·cases h
 | .dm kt vt :: r,.dm kt' vt' es :: m,f,a,i,h,hr=>by
  simp only [eZ] at h
  split at h
  ·rename_i g h2
   split at h
   ·rename_i ht
    obtain ⟨rfl,rfl⟩:=ht
    simp only [aA] at h
    subst h
    simp only [eB]
    refine ⟨fun h=>h,⟨rfl,rfl⟩,?_⟩
    exact wO a (i+1) h2 fun j o ho=>by
     have:=hr (j+1) o (by simpa using ho)
     rwa [show i+(j+1)=i+1+j by omega] at this
   ·cases h
  ·cases h
 | .fm .. :: _,[],_,_,_,h,_=>by simp [eZ] at h
 | .dm .. :: _,[],_,_,_,h,_=>by simp [eZ] at h
 | .dm .. :: _,.box .. :: _,_,_,_,h,_=>by simp [eZ] at h
 | .dm .. :: _,.arr .. :: _,_,_,_,h,_=>by simp [eZ] at h
 | .dm .. :: _,.fm .. :: _,_,_,_,h,_=>by simp [eZ] at h
 | .fm .. :: _,.dm .. :: _,_,_,_,h,_=>by simp [eZ] at h
 | .box .. :: _,.dm .. :: _,_,_,_,h,_=>by simp [eZ] at h
 | .row .. :: _,.dm .. :: _,_,_,_,h,_=>by simp [eZ] at h
 | .fm .. :: _,.box .. :: _,_,_,_,h,_=>by simp [eZ] at h
 | .fm .. :: _,.arr .. :: _,_,_,_,h,_=>by simp [eZ] at h
 | .box .. :: _,.fm .. :: _,_,_,_,h,_=>by simp [eZ] at h
 | .row .. :: _,.fm .. :: _,_,_,_,h,_=>by simp [eZ] at h
theorem wN.length {w:World}:∀ {i:Nat} {h h':List Ob},wN β w N i h h'->h'.length=h.length
 | _,[],[],_=>rfl
 | _,_ :: _,_ :: _,h=>by simp [wN.length h.2.2]
 | _,[],_ :: _,h=>h.elim
 | _,_ :: _,[],h=>h.elim
theorem wN.get {w:World}:∀ {i:Nat} {h h':List Ob},wN β w N i h h'->∀ (j:Nat) (o':Ob),h'[j]?=some o'->∃ o,h[j]?=some o∧(o'.wr=o.wr∧o'.jS=o.jS)∧(o.Rel β w N (β (i+j))->o'.Rel β w N (β (i+j)))
 | _,[],[],_,j,_,h=>by simp at h
 | i,o :: r,o2 :: r2,h,j,o',hj=>by
  cases j with
  | zero =>
   simp only [List.getElem?_cons_zero,aA] at hj
   subst hj
   exact ⟨o,rfl,h.2.1,h.1⟩
  | succ j =>
   obtain ⟨u,h1,h2,h3⟩:=wN.get h.2.2 j o' (by simpa using hj)
   rw [show i+1+j=i+(j+1) by omega] at h3
   exact ⟨u,by simpa using h1,h2,h3⟩
 | _,[],_ :: _,h,_,_,_=>h.elim
 | _,_ :: _,[],h,_,_,_=>h.elim
theorem Ur {C:Ctx} {sh:Sh} {σ:St} {a:Act} {w:World} {x:sh.X} (h:sh.dec σ=some x) (hs:Sim C β σ a w):Sim C β (sh.enc x) a w:=by
 unfold Sh.dec at h
 split at h
 ·rename_i f g hn hf hg
  simp only [aA] at h
  subst h
  have hn:=aG hn
  obtain ⟨k1,k2,k3⟩:=Xg (A:=OTs sh.os Unit) (tmps:=a.tmps) hs.reg (g ()) (acc:=List.replicate sh.n .bB) hf (fun i v hv=>by
   rw [List.getElem?_replicate] at hv
   split at hv
   ·simp only [aA] at hv; subst hv; trivial
   ·cases hv)
  have hob:=wO (A:=Unit) (β:=β) (N:=C.N β σ.h) (w:=w) () 0 hg (fun j o ho=>by rw [Nat.zero_add]; exact hs.heap.obj j o ho)
  have eh:(sh.enc (f (g ()))).h=(eB sh.os (g ())).1:=by simp only [Sh.enc]; rw [k2]
  have er:(sh.enc (f (g ()))).r=(Ay sh.rs (List.replicate sh.n .bB) (f (g ()))).1:=rfl
  have hNN:∀ b j,C.N β (sh.enc (f (g ()))).h b j->C.N β σ.h b j:=fun b j hb=>by
   rcases hb with hb | ⟨id,o,ho,hw,hbk⟩
   ·exact .inl hb
   ·rw [eh] at ho
    obtain ⟨o0,h1,h2,_⟩:=hob.get id o ho
    exact .inr ⟨id,o0,h1,by rw [<- h2.1]; exact hw,Ob.qW h2.2 rfl rfl hbk⟩
  refine ⟨⟨?_,?_,?_,?_,hs.heap.n0,hs.heap.frame,hs.heap.size,hs.heap.os,hs.heap.tape,hs.heap.output,fun j o hj=>by
   obtain ⟨k1,k2⟩:=hs.heap.fixed j o hj
   exact ⟨by rw [eh,hob.length]; exact k1,k2⟩⟩,hs.defers,?_,?_⟩
  ·intro id o ho
   rw [eh] at ho
   obtain ⟨o0,h1,_,h3⟩:=hob.get id o ho
   rw [Nat.zero_add] at h3
   exact (h3 (hs.heap.obj id o0 h1)).mono (Moves.refl β) (Keep.refl _ w) (fun b j _ hb=>hNN b j hb) fun _ _=>rfl
  ·intro id hid
   rw [eh,hob.length] at hid
   exact hs.heap.dead id hid
  ·intro i j o o' b hi hj hbi hbj
   rw [eh] at hi hj
   obtain ⟨o1,h1,h3,_⟩:=hob.get i o hi
   obtain ⟨o2,h2,h4,_⟩:=hob.get j o' hj
   exact hs.heap.jT i j o1 o2 b h1 h2 (Ob.iN h3.2 rfl rfl hbi) (Ob.iN h4.2 rfl rfl hbj)
  ·intro id o b ho hb
   rw [eh] at ho
   obtain ⟨o1,h1,h3,_⟩:=hob.get id o ho
   exact hs.heap.wH h1 h3.2 rfl rfl (fun h=>by rw [<- h3.1]; exact h) hb
  ·rw [er,k3,List.length_replicate,<- hn,hs.size]
  ·intro i v hv
   exact (k1 i v (by rw [er] at hv; exact hv)).mono (Moves.refl β) (Keep.refl _ w) fun b j _ hb=>hNN b j hb
 ·cases h
end
end Go.Dec
namespace Go.Dec
def Rl (J:Nat->Act->World->Prop) (Q:Exit->Act->World->Prop):Exit->Act->World->Prop
 | .goto l,a,w=>J l a w
 | e,a,w=>Q e a w
theorem Us {P:Program} {a:Act} {w:World} {Q:Exit->Act->World->Prop} {c:Code} (J:Nat->Nat->Act->World->Prop)
  (first:c.wp P (Rl (fun l a w=>∃ m,J m l a w) Q) a w)
  (pass:∀ m l a w,J m l a w->∃ rest,findLabel c l=some rest∧rest.wp P (Rl (fun l' a' w'=>∃ m',m' < m∧J m' l' a' w') Q) a w):(Code.scope c).wp P Q a w:=by
 intro b k cs
 have key:∀ m l a w,J m l a w->∃ rest e a' w',findLabel c l=some rest∧Q e a' w'∧Arrives P (lone (b.at a (.code rest :: .inScope c :: k)) cs w) b k cs e a' w':=by
  intro m
  induction m using Nat.strongRecOn with
  | _ m ih =>
   intro l a w hJ
   obtain ⟨rest,hf,hp⟩:=pass m l a w hJ
   obtain ⟨e,a₁,w₁,hq,harr⟩:=hp b (.inScope c :: k) cs
   refine ⟨rest,?_⟩
   cases e with
   | normal=>exact ⟨.normal,a₁,w₁,hf,hq,Steps.trans harr (.one step_inScope)⟩
   | exit id=>exact ⟨.exit id,a₁,w₁,hf,hq,fun k' hk=>harr k' (by simp [exitTo,hk])⟩
   | goto l' =>
    obtain ⟨m',hlt,hJ'⟩:=hq
    obtain ⟨rest',e₂,a₂,w₂,hf',hq₂,harr₂⟩:=ih m' hlt l' a₁ w₁ hJ'
    have hg:gotoIn l' (.inScope c :: k)=some (.code rest' :: .inScope c :: k):=by simp [gotoIn,hf']
    exact ⟨e₂,a₂,w₂,hf,hq₂,.of_steps (harr _ hg) harr₂⟩
   | ret=>exact ⟨_,a₁,w₁,hf,hq,harr⟩
   | panic ch=>exact ⟨_,a₁,w₁,hf,hq,harr⟩
   | outgrown=>exact ⟨_,a₁,w₁,hf,hq,harr⟩
 obtain ⟨e,a₁,w₁,hq,harr⟩:=first b (.inScope c :: k) cs
 cases e with
 | normal=>exact ⟨.normal,a₁,w₁,hq,.head step_scope (Steps.trans harr (.one step_inScope))⟩
 | exit id=>exact ⟨.exit id,a₁,w₁,hq,fun k' hk=>.head step_scope (harr k' (by simp [exitTo,hk]))⟩
 | goto l' =>
  obtain ⟨m,hJ'⟩:=hq
  obtain ⟨rest,e₂,a₂,w₂,hf,hq₂,harr₂⟩:=key m l' a₁ w₁ hJ'
  have hg:gotoIn l' (.inScope c :: k)=some (.code rest :: .inScope c :: k):=by simp [gotoIn,hf]
  exact ⟨e₂,a₂,w₂,hq₂,.of_steps (.head step_scope (harr _ hg)) harr₂⟩
 | ret=>exact ⟨_,a₁,w₁,hq,.of_steps (.one step_scope) harr⟩
 | panic ch=>exact ⟨_,a₁,w₁,hq,.of_steps (.one step_scope) harr⟩
 | outgrown=>exact ⟨_,a₁,w₁,hq,.of_steps (.one step_scope) harr⟩
def flows:List Oper->List Nat->List Nat
 | [],ds=>ds
 | o :: r,ds=>flows r (match o.op,o.dst with
  | .build _ parts,some e=>if parts.toList.any (fun p=>match p.2 with | .tmp t=>ds.any (Nat.beq t) | _=>false) then e :: ds else ds
  | _,_=>ds)
def zTe {ρ:Type} (Γ:Orc ρ) (ops:Array Oper) (o:Oper):Bool :=
 match o.op,o.dst with
 | .buildSlice _ _ _,some d=>(fun ds=>ops.toList.any fun p=>match p.op with
  | .call { callee:=.value (.func f),args,.. }=>args.toList.any (fun x=>match x with | .tmp e=>ds.any (Nat.beq e) | _=>false) && (Γ.pure f).isSome
  | _=>false) (flows ops.toList [d])
 | _,_=>false
section zYn
variable {ρ:Type} (Γ:Orc ρ) (T:Tab)
def Lg (ops:Array Oper) (σ:St) (o:Oper) (k:K ρ):Option ρ :=
 match zTe Γ ops o with
 | true=>match Oh T σ o with
  | some v=>k .normal ⟨bE σ.r o.dst v,σ.h⟩
  | none=>none
 | false=>zP Γ T σ o k
def pY (ops:Array Oper):List Oper->St->K ρ->Option ρ
 | [],σ,k=>k .normal σ
 | o :: rest,σ,k =>
  match o.guard with
  | none=>Lg Γ T ops σ o fun e σ'=>match e with | .normal=>pY ops rest σ' k | e=>k e σ'
  | some (j,want) =>
   match bG ops j with
   | some s =>
    match σ.r.getD s .bB with
    | .one (.val .bool b) =>
     br b
      (match want with
       | true=>Lg Γ T ops ⟨σ.r.set s (.one (.val .bool true)),σ.h⟩ o fun e σ'=>match e with | .normal=>pY ops rest σ' k | e=>k e σ'
       | false=>pY ops rest ⟨bE (σ.r.set s (.one (.val .bool true))) o.dst (.tup []),σ.h⟩ k)
      (match want with
       | false=>Lg Γ T ops ⟨σ.r.set s (.one (.val .bool false)),σ.h⟩ o fun e σ'=>match e with | .normal=>pY ops rest σ' k | e=>k e σ'
       | true=>pY ops rest ⟨bE (σ.r.set s (.one (.val .bool false))) o.dst (.tup []),σ.h⟩ k)
    | .tup []=>pY ops rest ⟨bE σ.r o.dst (.tup []),σ.h⟩ k
    | _=>none
   | none=>none
end zYn
section zUt
variable {ρ:Type} {Γ:Orc ρ} {T:Tab} {C:Ctx}
theorem zEi (hT:aU C.P T) (hΓ:gM C.P Γ) {ops:Array Oper} {β:Nat->Pl} {σ:St} {a:Act} {w:World} {o:Oper} {k:Dec.K ρ} {r:ρ} {next:Act->World->Prop} {Q:Exit->Act->World->Prop} (h:Lg Γ T ops σ o k=some r) (hs:Sim C β σ a w)
  (hn:∀ σ' β' a' w',Sim C β' σ' a' w'->k .normal σ'=some r->next a' w')
  (hq:∀ e x σ' β' a' w',Sim C β' σ' a' w'->e ≠ .normal->fJ β' w' (C.N β' σ'.h) e x->k e σ'=some r->Q x a' w'):o.wp C.P a w next Q:=by
 unfold Lg at h
 split at h
 ·split at h
  ·rename_i v hv
   obtain ⟨w',v',hrun,hs',hv'⟩:=zFb hT hs hv
   unfold Oper.wp
   rw [hrun,Oper.upon_value]
   exact hn _ β _ w' (hs'.put o.dst hv') h
  ·cases h
 ·exact Qz hT hΓ h hs hn hq
theorem qA (hT:aU C.P T) (hΓ:gM C.P Γ) {ops:Array Oper} {r:ρ} {Q:Exit->Act->World->Prop} {k:Dec.K ρ}
  (hq:∀ e x σ' β' a' w',Sim C β' σ' a' w'->fJ β' w' (C.N β' σ'.h) e x->k e σ'=some r->Q x a' w') :
  ∀ (l:List Oper) (β:Nat->Pl) (σ:St) (a:Act) (w:World),pY Γ T ops l σ k=some r->Sim C β σ a w->wpList C.P ops Q l a w
 | [],β,σ,a,w,h,hs=>hq .normal .normal σ β a w hs rfl h
 | o :: rest,β,σ,a,w,h,hs=>by
  simp only [pY] at h
  have zPf:∀ σ1:St,σ1=σ->(Lg Γ T ops σ1 o fun e σ'=>match e with | .normal=>pY Γ T ops rest σ' k | e=>k e σ')=some r->o.wp C.P a w (wpList C.P ops Q rest) Q:=by
   intro σ1 e1 h1
   subst e1
   refine zEi hT hΓ h1 hs (fun σ' β' a' w' hs' hk=>qA hT hΓ hq rest β' σ' a' w' hk hs') ?_
   intro e x σ' β' a' w' hs' hne hx hk
   refine hq e x σ' β' a' w' hs' hx ?_
   cases e <;> first | exact absurd rfl hne | exact hk
  split at h
  ·rename_i hg
   simp only [wpList]
   rw [if_pos (by simp [Region.wanted,hg])]
   exact .inl (zPf σ rfl h)
  ·rename_i j want hg
   split at h
   ·rename_i s hsl
    split at h
    ·rename_i b hb
     have zR:∃ v,σ.r[s]?=some v∧v=.one (.val .bool b):=by
      rw [List.getD_eq_getElem?_getD] at hb
      cases hr:σ.r[s]? with
      | none=>rw [hr] at hb; cases hb
      | some v=>rw [hr] at hb; exact ⟨v,rfl,hb⟩
     obtain ⟨v,hv,rfl⟩:=zR
     have hval:=hs.reg s _ hv
     simp only [V.Rel,L.Rel,Ty.Rel,aK,and_true] at hval
     have hy:=Jb hsl hval
     have hwant:Region.wanted o (yielded ops a.tmps)=(b == want):=by
      simp only [Region.wanted,hg,hy]
      cases b <;> cases want <;> rfl
     have hset:σ.r.set s (.one (.val .bool b))=σ.r:=zFa hb (by simp)
     simp only [wpList]
     rcases zB h with ⟨rfl,h1⟩ | ⟨rfl,h1⟩
     ·cases want with
      | true =>
       rw [if_pos (by rw [hwant]; rfl)]
       exact .inl (zPf _ (by rw [hset]) h1)
      | false =>
       rw [if_neg (by rw [hwant]; simp)]
       simp only [hset] at h1
       exact qA hT hΓ hq rest β _ _ w h1 (hs.put o.dst (v:=.tup []) ⟨[],rfl,trivial⟩)
     ·cases want with
      | false =>
       rw [if_pos (by rw [hwant]; rfl)]
       exact .inl (zPf _ (by rw [hset]) h1)
      | true =>
       rw [if_neg (by rw [hwant]; simp)]
       simp only [hset] at h1
       exact qA hT hΓ hq rest β _ _ w h1 (hs.put o.dst (v:=.tup []) ⟨[],rfl,trivial⟩)
    ·rename_i hb
     have zR:σ.r[s]?=some (.tup []):=by
      rw [List.getD_eq_getElem?_getD] at hb
      cases hr:σ.r[s]? with
      | none=>rw [hr] at hb; cases hb
      | some v=>rw [hr] at hb; simp at hb; rw [hb]
     have hval:=hs.reg s _ zR
     obtain ⟨us,hval,hus⟩:=hval
     have hwant:Region.wanted o (yielded ops a.tmps)=false:=by
      simp only [Region.wanted,hg,Jc hsl hval]
      cases want <;> rfl
     simp only [wpList]
     rw [if_neg (by rw [hwant]; simp)]
     exact qA hT hΓ hq rest β _ _ w h (hs.put o.dst (v:=.tup []) ⟨[],rfl,trivial⟩)
    ·cases h
   ·cases h
end zUt
inductive An (ρ:Type) where
 | nil
 | mk (l r:An ρ) (c:List Co)
 | loop (sh:Sh) (c0 c1:List Co) (n:Nat) (a:An ρ)
 | scope (l:Nat) (a b:An ρ)
 | sem (f:sW ρ)
 | co (cs:List Co) (a:An ρ)
 | join (sh:Sh) (cs:List Co) (a:An ρ)
def An.l {ρ:Type}:An ρ->An ρ
 | .mk l _ _=>l
 | .scope _ a _=>a
 | _=>.nil
def An.r {ρ:Type}:An ρ->An ρ
 | .mk _ r _=>r
 | _=>.nil
def An.c {ρ:Type}:An ρ->List Co
 | .mk _ _ c=>c
 | _=>[]
def fix {ρ α:Type} (B:(α->Option ρ)->α->Option ρ):Nat->α->Option ρ
 | 0,_=>none
 | n+1,x=>B (fix B n) x
def enter {ρ:Type} (T:Tab) (sh:Sh) (co:List Co) (σ:St) (g:sh.X->Option ρ):Option ρ :=
 norm T co σ fun σ1=>match sh.dec σ1 with
  | some x=>g x
  | none=>none
def An.plain {ρ:Type}:An ρ->Bool
 | .nil=>true
 | .mk l r _=>l.plain && r.plain
 | .loop _ _ _ _ a=>a.plain
 | .scope _ a _=>a.plain
 | .sem _=>false
 | .co _ a=>a.plain
 | .join _ _ a=>a.plain
def An.fx {ρ:Type} (k:Nat):An ρ->Bool
 | .nil=>true
 | .mk l r c=>l.fx k && (r.fx k && aZ (Co.fx k) c)
 | .loop _ c0 c1 _ a=>aZ (Co.fx k) c0 && (aZ (Co.fx k) c1 && a.fx k)
 | .scope _ a b=>a.fx k && b.fx k
 | .sem _=>true
 | .co c a=>aZ (Co.fx k) c && a.fx k
 | .join _ c a=>aZ (Co.fx k) c && a.fx k
section ev
variable {ρ:Type} (Γ:Orc ρ) (T:Tab)
def qZ (an:An ρ) (σ:St) (k:K ρ) (d:Option ρ):Option ρ :=
 match an with
 | .sem f=>f σ k
 | _=>d
def jn {ρ α:Type} (f:α->Option ρ) (x:α):Option ρ:=f x
def evA (f:An ρ->sW ρ):An ρ->sW ρ
 | .co cs a=>fun σ k=>norm T cs σ fun σ'=>evA f a σ' k
 | .join sh cs a=>fun σ k=>evA f a σ fun e σ'=>match e with
  | .normal=>enter T sh cs σ' (jn fun x=>k .normal (sh.enc x))
  | e=>k e σ'
 | an=>f an
def goK (J:Code->Nat->An ρ->sW ρ) (a:Code) (k:K ρ) (l0:Nat) (sh:Sh) (c:List Co) (l2:Nat) (b2:An ρ) (g:sh.X->Option ρ):K ρ:=fun e σ'=>match e with
 | .goto l=>match Nat.beq l l0 with
  | true=>enter T sh c σ' g
  | false=>match Nat.beq l l2 with
   | true=>J a l2 b2 σ' fun e σ2=>match e with
    | .goto _=>none
    | e=>k e σ2
   | false=>none
 | e=>k e σ'
def zFe (J : Code -> Nat -> An ρ -> sW ρ) (a : Code) (f : An ρ -> sW ρ) : An ρ -> sW ρ
  | .scope l0 a0 (.loop sh c0 c1 n (.scope l2 b b2)) => fun σ k => evA T f a0 σ (goK T J a k l0 sh c0 l2 b2 (fix (fun g x => J a l0 b (sh.enc x) (goK T J a k l0 sh c1 l2 b2 g)) n))
  | an => fun σ k => qZ an σ k (evA T f an.l σ fun e σ' => match e with
      | .goto l => match an with
        | .scope l0 _ b => match Nat.beq l l0 with
          | true => J a l0 b σ' fun e σ2 => match e with
            | .goto _ => none
            | e => k e σ2
          | false => none
        | _ => none
      | e => k e σ')
def evG (J:Code->Nat->An ρ->sW ρ):Code->An ρ->St->K ρ->Option ρ
 | .skip,an,σ,k=>qZ an σ k (k .normal σ)
 | .region _ ops d,an,σ,k=>qZ an σ k (match d with
   | false=>pY Γ T ops ops.toList σ k
   | true=>Um Γ T ops σ k)
 | .seq a b,an,σ,k=>qZ an σ k (evA T (evG J a) an.l σ fun e σ'=>match e with
   | .normal=>norm T an.c σ' fun σ2=>evA T (evG J b) an.r σ2 k
   | e=>k e σ')
 | .cond c a b,an,σ,k=>qZ an σ k (match ovl σ c with
   | .one (.val .bool t)=>br t (evA T (evG J a) an.l σ k) (evA T (evG J b) an.r σ k)
   | _=>none)
 | .block id a,an,σ,k=>qZ an σ k (evA T (evG J a) an.l σ fun e σ'=>match e with
   | .normal=>norm T an.c σ' (k .normal)
   | .exit i=>match Nat.beq i id with
    | true=>norm T an.c σ' (k .normal)
    | false=>k (.exit i) σ'
   | e=>k e σ')
 | .scope a,an,σ,k=>zFe T J a (evG J a) an σ k
 | .loop b,an,σ,k=>qZ an σ k (match an with
   | .loop sh c0 c1 n a=>enter T sh c0 σ fun x=>fix (fun g x=>evA T (evG J b) a (sh.enc x) fun e σ'=>match e with
    | .normal=>enter T sh c1 σ' g
    | e=>k e σ') n x
   | _=>none)
 | .exit id,an,σ,k=>qZ an σ k (k (.exit id) σ)
 | .goto l,an,σ,k=>qZ an σ k (k (.goto l) σ)
 | .label _,an,σ,k=>qZ an σ k (k .normal σ)
 | .ret,an,σ,k=>qZ an σ k (k .ret σ)
 | _,an,σ,k=>qZ an σ k none
def ev0 (c:Code) (an:An ρ):sW ρ:=evA T (evG Γ T (fun _ _ _ _ _=>none) c) an
def zIc (a:Code) (l:Nat) (an:An ρ):sW ρ:=fun σ k =>
 match findLabel a l with
 | some rest =>
  match an.plain with
  | true=>ev0 Γ T rest an σ k
  | false=>none
 | none=>none
def ev (c:Code) (an:An ρ):sW ρ:=evA T (evG Γ T (zIc Γ T) c) an
end ev
def yJ (P:Program) (kf:Nat) {ρ:Type} (c:Code) (f:sW ρ):Prop:=∀ (σ:St) (k:K ρ) (r:ρ),f σ k=some r->∀ (C:Ctx) (β:Nat->Pl) (a:Act) (w:World) (Q:Exit->Act->World->Prop),C.P=P->C.fix.length <= kf->Sim C β σ a w ->
 (∀ e x σ' β' a' w',Sim C β' σ' a' w'->fJ β' w' (C.N β' σ'.h) e x->k e σ'=some r->Q x a' w')->c.wp P Q a w
def mV {ρ:Type} (f:An ρ->Prop):An ρ->Prop
 | .co _ a=>mV f a
 | .join _ _ a=>mV f a
 | an=>f an
def AnG (P:Program) (kf:Nat) {ρ:Type}:Code->An ρ->Prop
 | c,.sem f=>yJ P kf c f
 | .seq a b,an=>mV (AnG P kf a) an.l∧mV (AnG P kf b) an.r
 | .cond _ a b,an=>mV (AnG P kf a) an.l∧mV (AnG P kf b) an.r
 | .block _ a,an=>mV (AnG P kf a) an.l
 | .scope a,an=>mV (AnG P kf a) an.l
 | .loop b,.loop _ _ _ _ a=>mV (AnG P kf b) a
 | _,_=>True
def Ut (P:Program) (kf:Nat) {ρ:Type} (c:Code) (an:An ρ):Prop:=mV (AnG P kf c) an
section sound
variable {ρ:Type} {Γ:Orc ρ} {T:Tab} {P:Program}
theorem fP {an:An ρ} {σ:St} {k:K ρ} {d:Option ρ} {r:ρ} (h:qZ an σ k d=some r):(∃ f,an=.sem f∧f σ k=some r)∨((∀ f,an ≠ .sem f)∧d=some r):=by
 cases an with
 | sem f=>exact .inl ⟨f,rfl,h⟩
 | nil=>exact .inr ⟨by simp,h⟩
 | mk l r c=>exact .inr ⟨by simp,h⟩
 | loop sh c0 c1 n a=>exact .inr ⟨by simp,h⟩
 | scope l a b=>exact .inr ⟨by simp,h⟩
 | co c a=>exact .inr ⟨by simp,h⟩
 | join sh c a=>exact .inr ⟨by simp,h⟩
theorem AnG.sem {kf:Nat} {c:Code} {f:sW ρ} (h:AnG P kf c (.sem f)):yJ P kf c f:=by
 cases c <;> exact h
theorem zLx {kf:Nat} (hT:aU P T) (hΓ:gM P Γ) (id:Nat) (ops:Array Oper):yJ P kf (.region id ops false) (fun σ k=>pY Γ T ops ops.toList σ k):=by
 intro σ k r h C β a w Q hP _ hs hq
 subst hP
 refine wp_region ?_
 rw [show List.range ops.size=List.range' 0 ops.toList.length by simp [List.range_eq_range'],wpOps_eq_wpList ops.toList 0 (by simp)]
 exact qA hT hΓ hq ops.toList β σ a w h hs
theorem tO {C:Ctx} {β:Nat->Pl} {σ:St} {a:Act} {w:World} {sh:Sh} {co:List Co} {g:sh.X->Option ρ} {r:ρ} (hT:aU C.P T) {kf:Nat} (hkf:C.fix.length <= kf) (hfx:aZ (Co.fx kf) co=true) (h:enter T sh co σ g=some r) (hs:Sim C β σ a w) :
  ∃ (β':Nat->Pl) (_σ':St) (x:sh.X),Sim C β' (sh.enc x) a w∧g x=some r:=by
 obtain ⟨β2,σ2,hs2,hk2⟩:=vB hT hkf hfx h hs
 split at hk2
 ·rename_i x hx
  exact ⟨β2,σ2,x,Ur hx hs2,hk2⟩
 ·cases hk2
theorem gW (hT:aU P T) {kf:Nat} {c:Code} {f:An ρ->sW ρ} {Q:An ρ->Prop} (hf:∀ an,Q an->an.fx kf=true->yJ P kf c (f an)):∀ an,mV Q an->an.fx kf=true->yJ P kf c (evA T f an)
 | .co cs a,ha,hx=>by
  simp only [An.fx,aF] at hx
  intro σ k r h C β ac w R hP hkf hs hq
  obtain ⟨β',σ',hs',hk⟩:=vB (hP ▸ hT:aU C.P T) hkf hx.1 h hs
  exact gW hT hf a ha hx.2 σ' k r hk C β' ac w R hP hkf hs' hq
 | .join sh cs a,ha,hx=>by
  simp only [An.fx,aF] at hx
  intro σ k r h C β ac w R hP hkf hs hq
  refine gW hT hf a ha hx.2 σ _ r h C β ac w R hP hkf hs ?_
  intro e x σ' β' a' w' hs' hxr hk
  cases e with
  | normal =>
   obtain ⟨β2,σ2,x2,hs2,hk2⟩:=tO (hP ▸ hT:aU C.P T) hkf hx.1 hk hs'
   exact hq .normal x (sh.enc x2) β2 a' w' hs2 hxr hk2
  | exit i=>exact hq (.exit i) x σ' β' a' w' hs' hxr hk
  | goto l=>exact hq (.goto l) x σ' β' a' w' hs' hxr hk
  | ret=>exact hq .ret x σ' β' a' w' hs' hxr hk
  | pan t v=>exact hq (.pan t v) x σ' β' a' w' hs' hxr hk
 | .nil,ha,hx=>hf _ ha hx
 | .mk ..,ha,hx=>hf _ ha hx
 | .loop ..,ha,hx=>hf _ ha hx
 | .scope ..,ha,hx=>hf _ ha hx
 | .sem ..,ha,hx=>hf _ ha hx
theorem An.zAu {kf:Nat} {an:An ρ} (h:an.fx kf=true):an.l.fx kf=true:=by
 cases an <;> simp_all [An.fx,An.l]
theorem An.zUu {kf:Nat} {an:An ρ} (h:an.fx kf=true):an.r.fx kf=true:=by
 cases an <;> simp_all [An.fx,An.r]
theorem An.zPg {kf:Nat} {an:An ρ} (h:an.fx kf=true):aZ (Co.fx kf) an.c=true:=by
 cases an <;> simp_all [An.fx,An.c,aZ]
theorem jE {kf : Nat} {J : Code -> Nat -> An ρ -> sW ρ} (hT : aU P T) (hΓ : gM P Γ) (hm : P.follows .mixedOrders = true) (hJ : ∀ a l an, (∀ rest, findLabel a l = some rest -> an.fx kf = true -> yJ P kf rest (J a l an)) ∧ (findLabel a l = none -> ∀ σ k r, J a l an σ k ≠ some r)) : ∀ (c : Code) (an : An ρ), AnG P kf c an -> an.fx kf = true -> yJ P kf c (evG Γ T J c an)
  | .skip, an, ha, hfx => by
    intro σ k r h C β a w Q hP hkf hs hq
    rcases fP h with ⟨f, rfl, hf⟩ | ⟨_, hd⟩
    · exact (AnG.sem ha) σ k r hf C β a w Q hP hkf hs hq
    · exact wp_skip (hq .normal .normal σ β a w hs rfl hd)
  | .region id ops d, an, ha, hfx => by
    intro σ k r h C β a w Q hP hkf hs hq
    rcases fP h with ⟨f, rfl, hf⟩ | ⟨_, hd⟩
    · exact (AnG.sem ha) σ k r hf C β a w Q hP hkf hs hq
    · cases d with
      | false => exact zLx hT hΓ id ops σ k r hd C β a w Q hP hkf hs hq
      | true =>
        subst hP
        exact zPa hT hΓ hm hq hd hs
  | .seq x y, an, ha, hfx => by
    intro σ k r h C β a w Q hP hkf hs hq
    rcases fP h with ⟨f, rfl, hf⟩ | ⟨hne, hd⟩
    · exact (AnG.sem ha) σ k r hf C β a w Q hP hkf hs hq
    · have ha' : mV (AnG P kf x) an.l ∧ mV (AnG P kf y) an.r := by cases an <;> first | exact absurd rfl (hne _) | exact ha
      refine wp_seq (gW hT (jE hT hΓ hm hJ x) an.l ha'.1 (An.zAu hfx) σ _ r hd C β a w _ hP hkf hs ?_)
      intro e ex σ' β' a' w' hs' hx hk
      cases e with
      | normal =>
        obtain rfl := hx
        obtain ⟨β2, σ2, hs2, hk2⟩ := vB (hP ▸ hT : aU C.P T) hkf (An.zPg hfx) hk hs'
        exact gW hT (jE hT hΓ hm hJ y) an.r ha'.2 (An.zUu hfx) σ2 k r hk2 C β2 a' w' Q hP hkf hs2 hq
      | exit i => obtain rfl := hx; exact hq (.exit i) _ σ' β' a' w' hs' rfl hk
      | goto l => obtain rfl := hx; exact hq (.goto l) _ σ' β' a' w' hs' rfl hk
      | ret => obtain rfl := hx; exact hq .ret _ σ' β' a' w' hs' rfl hk
      | pan t v => have hx' := hx; obtain ⟨z, rfl, _⟩ := hx; exact hq (.pan t v) _ σ' β' a' w' hs' hx' hk
  | .cond c x y, an, ha, hfx => by
    intro σ k r h C β a w Q hP hkf hs hq
    rcases fP h with ⟨f, rfl, hf⟩ | ⟨hne, hd⟩
    · exact (AnG.sem ha) σ k r hf C β a w Q hP hkf hs hq
    · have ha' : mV (AnG P kf x) an.l ∧ mV (AnG P kf y) an.r := by cases an <;> first | exact absurd rfl (hne _) | exact ha
      split at hd
      · rename_i t ht
        have hc := aP hs c
        rw [ht] at hc
        simp only [V.Rel, L.Rel, Ty.Rel, aK, and_true] at hc
        rcases zB hd with ⟨rfl, h1⟩ | ⟨rfl, h1⟩
        · exact wp_cond_true hc (gW hT (jE hT hΓ hm hJ x) an.l ha'.1 (An.zAu hfx) σ k r h1 C β a w Q hP hkf hs hq)
        · exact wp_cond_false hc (gW hT (jE hT hΓ hm hJ y) an.r ha'.2 (An.zUu hfx) σ k r h1 C β a w Q hP hkf hs hq)
      · cases hd
  | .block id x, an, ha, hfx => by
    intro σ k r h C β a w Q hP hkf hs hq
    rcases fP h with ⟨f, rfl, hf⟩ | ⟨hne, hd⟩
    · exact (AnG.sem ha) σ k r hf C β a w Q hP hkf hs hq
    · have ha' : mV (AnG P kf x) an.l := by cases an <;> first | exact absurd rfl (hne _) | exact ha
      refine wp_block (gW hT (jE hT hΓ hm hJ x) an.l ha' (An.zAu hfx) σ _ r hd C β a w _ hP hkf hs ?_)
      intro e ex σ' β' a' w' hs' hx hk
      cases e with
      | normal =>
        obtain rfl := hx
        obtain ⟨β2, σ2, hs2, hk2⟩ := vB (hP ▸ hT : aU C.P T) hkf (An.zPg hfx) hk hs'
        exact hq .normal .normal σ2 β2 a' w' hs2 rfl hk2
      | exit i =>
        obtain rfl := hx
        simp only at hk
        split at hk
        · rename_i hb
          have hb := aG hb
          subst hb
          obtain ⟨β2, σ2, hs2, hk2⟩ := vB (hP ▸ hT : aU C.P T) hkf (An.zPg hfx) hk hs'
          simp only [Exit.inBlock, if_true]
          exact hq .normal .normal σ2 β2 a' w' hs2 rfl hk2
        · rename_i hb
          have hne : i ≠ id := fun e => by rw [e, Nat.beq_refl] at hb; cases hb
          simp only [Exit.inBlock, hne, if_false]
          exact hq (.exit i) _ σ' β' a' w' hs' rfl hk
      | goto l => obtain rfl := hx; exact hq (.goto l) _ σ' β' a' w' hs' rfl hk
      | ret => obtain rfl := hx; exact hq .ret _ σ' β' a' w' hs' rfl hk
      | pan t v => have hx' := hx; obtain ⟨z, rfl, _⟩ := hx; exact hq (.pan t v) _ σ' β' a' w' hs' hx' hk
  | .scope x, an, ha, hfx => by
    intro σ k r h C β a w Q hP hkf hs hq
    simp only [evG] at h
    unfold zFe at h
    split at h
    · rename_i l0 a0 sh c0 c1 n l2 b b2
      have hT' : aU C.P T := hP ▸ hT
      have hx := hfx
      simp only [An.fx, aF] at hx
      obtain ⟨hxa, zYo, zYp, hxb, zYq⟩ := hx
      have ha' : mV (AnG P kf x) a0 := ha
      have go : ∀ {m : Nat} {co : List Co} {g : sh.X -> Option ρ} {e : Ex} {ex : Exit} {σ' : St} {β' : Nat -> Pl} {a' : Act} {w' : World}, aZ (Co.fx kf) co = true ->
          Sim C β' σ' a' w' -> fJ β' w' (C.N β' σ'.h) e ex -> goK T J x k l0 sh co l2 b2 g e σ' = some r -> (∀ y, g y = some r -> fix (fun g y => J x l0 b (sh.enc y) (goK T J x k l0 sh c1 l2 b2 g)) m y = some r) ->
          Rl (fun l a w => ∃ m', m' < m + 2 ∧ ((l = l0 ∧ 0 < m' ∧ ∃ β y, Sim C β (sh.enc y) a w ∧ fix (fun g y => J x l0 b (sh.enc y) (goK T J x k l0 sh c1 l2 b2 g)) (m' - 1) y = some r) ∨
            (l = l2 ∧ ∃ β σ, Sim C β σ a w ∧ (J x l2 b2 σ fun e σ2 => match e with | .goto _ => none | e => k e σ2) = some r))) Q ex a' w' := by
        intro m co g e ex σ' β' a' w' hco hs' hx hk hg
        cases e with
        | normal => obtain rfl := hx; exact hq .normal _ σ' β' a' w' hs' rfl hk
        | exit i => obtain rfl := hx; exact hq (.exit i) _ σ' β' a' w' hs' rfl hk
        | goto l =>
          obtain rfl := hx
          simp only [goK] at hk
          split at hk
          · rename_i hb
            obtain ⟨β2, σ2, y, hs2, hk2⟩ := tO hT' hkf hco hk hs'
            exact ⟨m + 1, by omega, .inl ⟨aG hb, by omega, β2, y, hs2, hg y hk2⟩⟩
          · split at hk
            · rename_i hb
              exact ⟨0, by omega, .inr ⟨aG hb, β', σ', hs', hk⟩⟩
            · cases hk
        | ret => obtain rfl := hx; exact hq .ret _ σ' β' a' w' hs' rfl hk
        | pan t v => have hx' := hx; obtain ⟨z, rfl, _⟩ := hx; exact hq (.pan t v) _ σ' β' a' w' hs' hx' hk
      have weak : ∀ {m : Nat} {ex : Exit} {a' : Act} {w' : World} {J1 : Nat -> Nat -> Act -> World -> Prop}, Rl (fun l a w => ∃ m', m' < m ∧ J1 m' l a w) Q ex a' w' -> Rl (fun l a w => ∃ m', J1 m' l a w) Q ex a' w' := by
        intro m ex a' w' J1 h
        cases ex with
        | goto l => obtain ⟨m', _, h⟩ := h; exact ⟨m', h⟩
        | normal => exact h
        | exit i => exact h
        | ret => exact h
        | panic c => exact h
        | outgrown => exact h
      refine Us (fun m' l a w => (l = l0 ∧ 0 < m' ∧ ∃ β y, Sim C β (sh.enc y) a w ∧ fix (fun g y => J x l0 b (sh.enc y) (goK T J x k l0 sh c1 l2 b2 g)) (m' - 1) y = some r) ∨
            (l = l2 ∧ ∃ β σ, Sim C β σ a w ∧ (J x l2 b2 σ fun e σ2 => match e with | .goto _ => none | e => k e σ2) = some r)) ?_ ?_
      · refine gW hT (jE hT hΓ hm hJ x) a0 ha' hxa σ _ r h C β a w _ hP hkf hs ?_
        intro e ex σ' β' a' w' hs' hx hk
        exact weak (go zYo hs' hx hk (fun y hy => hy))
      · rintro m l a1 w1 (⟨rfl, hm0, β1, y, hs1, h1⟩ | ⟨rfl, β1, σ1, hs1, h1⟩)
        · obtain ⟨m, rfl⟩ : ∃ m2, m = m2 + 1 := ⟨m - 1, by omega⟩
          simp only [Nat.add_sub_cancel] at h1
          cases m with
          | zero => cases h1
          | succ m =>
            simp only [fix] at h1
            cases hfl : findLabel x l with
            | none => exact absurd h1 ((hJ x l b).2 hfl _ _ _)
            | some rest =>
              refine ⟨rest, rfl, ?_⟩
              refine (hJ x l b).1 rest hfl hxb _ _ r h1 C β1 a1 w1 _ hP hkf hs1 ?_
              intro e ex σ' β' a' w' hs' hx hk
              exact go zYp hs' hx hk (fun y hy => hy)
        · cases hfl : findLabel x l with
          | none => exact absurd h1 ((hJ x l b2).2 hfl _ _ _)
          | some rest =>
            refine ⟨rest, rfl, ?_⟩
            refine (hJ x l b2).1 rest hfl zYq σ1 _ r h1 C β1 a1 w1 _ hP hkf hs1 ?_
            intro e ex σ' β' a' w' hs' hx hk
            cases e with
            | normal => obtain rfl := hx; exact hq .normal _ σ' β' a' w' hs' rfl hk
            | exit i => obtain rfl := hx; exact hq (.exit i) _ σ' β' a' w' hs' rfl hk
            | goto l => cases hk
            | ret => obtain rfl := hx; exact hq .ret _ σ' β' a' w' hs' rfl hk
            | pan t v => have hx' := hx; obtain ⟨z, rfl, _⟩ := hx; exact hq (.pan t v) _ σ' β' a' w' hs' hx' hk
    rcases fP h with ⟨f, rfl, hf⟩ | ⟨hne, hd⟩
    · exact (AnG.sem ha) σ k r hf C β a w Q hP hkf hs hq
    · have ha' : mV (AnG P kf x) an.l := by cases an <;> first | exact absurd rfl (hne _) | exact ha
      by_cases hsc : ∃ l0 x' b rest, an = .scope l0 x' b ∧ findLabel x l0 = some rest
      · obtain ⟨l0, x', b, rest, rfl, hfl⟩ := hsc
        refine wp_scope_jumps l0 (fun a' w' => ∃ β' σ', Sim C β' σ' a' w' ∧ (J x l0 b σ' fun e σ2 => match e with | .goto _ => none | e => k e σ2) = some r) (fun _ _ => 0) hfl ?_ ?_
        · refine gW hT (jE hT hΓ hm hJ x) _ ha' (An.zAu hfx) σ _ r hd C β a w _ hP hkf hs ?_
          intro e ex σ' β' a' w' hs' hx hk
          cases e with
          | normal => obtain rfl := hx; exact hq .normal _ σ' β' a' w' hs' rfl hk
          | exit i => obtain rfl := hx; exact hq (.exit i) _ σ' β' a' w' hs' rfl hk
          | goto l =>
            obtain rfl := hx
            simp only at hk
            split at hk
            · rename_i hb
              exact ⟨aG hb, β', σ', hs', hk⟩
            · cases hk
          | ret => obtain rfl := hx; exact hq .ret _ σ' β' a' w' hs' rfl hk
          | pan t v => have hx' := hx; obtain ⟨z, rfl, _⟩ := hx; exact hq (.pan t v) _ σ' β' a' w' hs' hx' hk
        · rintro a1 w1 ⟨β1, σ1, hs1, h1⟩
          refine (hJ x l0 b).1 rest hfl (by simp only [An.fx, aF] at hfx; exact hfx.2) σ1 _ r h1 C β1 a1 w1 _ hP hkf hs1 ?_
          intro e ex σ' β' a' w' hs' hx hk
          cases e with
          | normal => obtain rfl := hx; exact hq .normal _ σ' β' a' w' hs' rfl hk
          | exit i => obtain rfl := hx; exact hq (.exit i) _ σ' β' a' w' hs' rfl hk
          | goto l => cases hk
          | ret => obtain rfl := hx; exact hq .ret _ σ' β' a' w' hs' rfl hk
          | pan t v => have hx' := hx; obtain ⟨z, rfl, _⟩ := hx; exact hq (.pan t v) _ σ' β' a' w' hs' hx' hk
      · refine wp_scope_straight (gW hT (jE hT hΓ hm hJ x) an.l ha' (An.zAu hfx) σ _ r hd C β a w _ hP hkf hs ?_)
        intro e ex σ' β' a' w' hs' hx hk
        cases e with
        | normal => obtain rfl := hx; exact hq .normal _ σ' β' a' w' hs' rfl hk
        | exit i => obtain rfl := hx; exact hq (.exit i) _ σ' β' a' w' hs' rfl hk
        | goto l =>
          exfalso
          simp only at hk
          split at hk
          · rename_i l0 x' b _
            split at hk
            · cases hfl : findLabel x l0 with
              | none => exact (hJ x l0 b).2 hfl _ _ _ hk
              | some rest => exact hsc ⟨l0, x', b, rest, rfl, hfl⟩
            · cases hk
          · cases hk
        | ret => obtain rfl := hx; exact hq .ret _ σ' β' a' w' hs' rfl hk
        | pan t v => have hx' := hx; obtain ⟨z, rfl, _⟩ := hx; exact hq (.pan t v) _ σ' β' a' w' hs' hx' hk
  | .loop x, an, ha, hfx => by
    intro σ k r h C β a w Q hP hkf hs hq
    rcases fP h with ⟨f, rfl, hf⟩ | ⟨hne, hd⟩
    · exact (AnG.sem ha) σ k r hf C β a w Q hP hkf hs hq
    · cases an with
      | loop sh c0 c1 n an' =>
        have ha' : mV (AnG P kf x) an' := ha
        simp only [An.fx, aF] at hfx
        have hT' : aU C.P T := hP ▸ hT
        refine wp_loop_rounds n ?_
        obtain ⟨β1, σ1, x1, hs1, h1⟩ := tO hT' hkf hfx.1 hd hs
        clear hd hs h hne ha
        revert x1 β1 a w
        induction n with
        | zero => intro a w β1 x1 _ h; cases h
        | succ n ih =>
          intro a w β1 x1 hs1 h1
          rw [rounds_succ]
          refine gW hT (jE hT hΓ hm hJ x) an' ha' hfx.2.2 _ _ r h1 C β1 a w _ hP hkf hs1 ?_
          intro e ex σ' β' a' w' hs' hx hk
          cases e with
          | normal =>
            obtain rfl := hx
            obtain ⟨β2, σ2, x2, hs2, hk2⟩ := tO hT' hkf hfx.2.1 hk hs'
            exact ih a' w' β2 x2 hs2 hk2
          | exit i => obtain rfl := hx; exact hq (.exit i) _ σ' β' a' w' hs' rfl hk
          | goto l => obtain rfl := hx; exact hq (.goto l) _ σ' β' a' w' hs' rfl hk
          | ret => obtain rfl := hx; exact hq .ret _ σ' β' a' w' hs' rfl hk
          | pan t v => have hx' := hx; obtain ⟨z, rfl, _⟩ := hx; exact hq (.pan t v) _ σ' β' a' w' hs' hx' hk
      | _ => cases hd
  | .exit id, an, ha, hfx => by
    intro σ k r h C β a w Q hP hkf hs hq
    rcases fP h with ⟨f, rfl, hf⟩ | ⟨_, hd⟩
    · exact (AnG.sem ha) σ k r hf C β a w Q hP hkf hs hq
    · exact wp_exit (hq (.exit id) _ σ β a w hs rfl hd)
  | .goto l, an, ha, hfx => by
    intro σ k r h C β a w Q hP hkf hs hq
    rcases fP h with ⟨f, rfl, hf⟩ | ⟨_, hd⟩
    · exact (AnG.sem ha) σ k r hf C β a w Q hP hkf hs hq
    · exact wp_goto (hq (.goto l) _ σ β a w hs rfl hd)
  | .label l, an, ha, hfx => by
    intro σ k r h C β a w Q hP hkf hs hq
    rcases fP h with ⟨f, rfl, hf⟩ | ⟨_, hd⟩
    · exact (AnG.sem ha) σ k r hf C β a w Q hP hkf hs hq
    · exact wp_label (hq .normal _ σ β a w hs rfl hd)
  | .ret, an, ha, hfx => by
    intro σ k r h C β a w Q hP hkf hs hq
    rcases fP h with ⟨f, rfl, hf⟩ | ⟨_, hd⟩
    · exact (AnG.sem ha) σ k r hf C β a w Q hP hkf hs hq
    · exact wp_ret (hq .ret _ σ β a w hs rfl hd)
  | .rangeFunc g ps x y, an, ha, hfx => by
    intro σ k r h C β a w Q hP hkf hs hq
    rcases fP h with ⟨f, rfl, hf⟩ | ⟨_, hd⟩
    · exact (AnG.sem ha) σ k r hf C β a w Q hP hkf hs hq
    · cases hd
  | .refuse why, an, ha, hfx => by
    intro σ k r h C β a w Q hP hkf hs hq
    rcases fP h with ⟨f, rfl, hf⟩ | ⟨_, hd⟩
    · exact (AnG.sem ha) σ k r hf C β a w Q hP hkf hs hq
    · cases hd
theorem An.Lh {ρ:Type} {an:An ρ} (h:an.plain=true):an.l.plain=true:=by
 cases an <;> simp_all [An.plain,An.l]
theorem An.zFf {ρ:Type} {an:An ρ} (h:an.plain=true):an.r.plain=true:=by
 cases an <;> simp_all [An.plain,An.r]
theorem oV {Q:An ρ->Prop} (h:∀ an:An ρ,an.plain=true->Q an):∀ an:An ρ,an.plain=true->mV Q an
 | .co _ a,hp=>oV h a hp
 | .join _ _ a,hp=>oV h a hp
 | .nil,hp=>h _ hp
 | .mk ..,hp=>h _ hp
 | .loop ..,hp=>h _ hp
 | .scope ..,hp=>h _ hp
 | .sem _,hp=>by cases hp
theorem tQ {kf:Nat}:∀ (c:Code) (an:An ρ),an.plain=true->AnG P kf c an
 | .seq a b,an,h=>by
  have:=And.intro (oV (tQ (kf:=kf) a) an.l (An.Lh h)) (oV (tQ (kf:=kf) b) an.r (An.zFf h))
  cases an <;> first | (cases h; done) | exact this
 | .cond _ a b,an,h=>by
  have:=And.intro (oV (tQ (kf:=kf) a) an.l (An.Lh h)) (oV (tQ (kf:=kf) b) an.r (An.zFf h))
  cases an <;> first | (cases h; done) | exact this
 | .block _ a,an,h=>by
  have:=oV (tQ (kf:=kf) a) an.l (An.Lh h)
  cases an <;> first | (cases h; done) | exact this
 | .scope a,an,h=>by
  have:=oV (tQ (kf:=kf) a) an.l (An.Lh h)
  cases an <;> first | (cases h; done) | exact this
 | .loop b,an,h=>by
  cases an with
  | loop sh c0 c1 n a=>exact oV (tQ (kf:=kf) b) a h
  | sem f=>cases h
  | _=>trivial
 | .skip,an,h=>by cases an <;> first | (cases h; done) | trivial
 | .region ..,an,h=>by cases an <;> first | (cases h; done) | trivial
 | .exit _,an,h=>by cases an <;> first | (cases h; done) | trivial
 | .goto _,an,h=>by cases an <;> first | (cases h; done) | trivial
 | .label _,an,h=>by cases an <;> first | (cases h; done) | trivial
 | .ret,an,h=>by cases an <;> first | (cases h; done) | trivial
 | .rangeFunc ..,an,h=>by cases an <;> first | (cases h; done) | trivial
 | .refuse _,an,h=>by cases an <;> first | (cases h; done) | trivial
theorem bM {kf:Nat} (c:Code) (an:An ρ) (h:an.plain=true):Ut P kf c an:=oV (tQ c) an h
theorem zLy {kf:Nat} (hT:aU P T) (hΓ:gM P Γ) (hm:P.follows .mixedOrders=true) (c:Code) (an:An ρ) (ha:Ut P kf c an) (hfx:an.fx kf=true):yJ P kf c (ev0 Γ T c an) :=
 gW hT (jE hT hΓ hm (fun _ _ _=>⟨fun _ _ _ σ k r h=>(by cases h),fun _ σ k r h=>(by cases h)⟩) c) an ha hfx
theorem Ol {kf:Nat} (hT:aU P T) (hΓ:gM P Γ) (hm:P.follows .mixedOrders=true) (c:Code) (an:An ρ) (ha:Ut P kf c an) (hfx:an.fx kf=true):yJ P kf c (ev Γ T c an):=by
 refine gW hT (jE hT hΓ hm (fun a l an'=>⟨fun rest hf hx σ k r h=>?_,fun hf σ k r h=>?_⟩) c) an ha hfx
 ·unfold zIc at h
  rw [hf] at h
  simp only at h
  split at h
  ·rename_i hp
   exact zLy hT hΓ hm rest an' (bM rest an' hp) hx σ k r h
  ·cases h
 ·unfold zIc at h
  rw [hf] at h
  cases h
def L.deep (h:List Ob):L->Option (Bool × L)
 | .val t x=>some (true,.val t x)
 | .kD=>some (true,.kD)
 | .bV=>some (true,.bV)
 | .iV t x off=>some (true,.iV t x off)
 | .own id ver =>
  match h[id]? with
  | some (.arr _ t v rows _)=>some (Nat.beq v ver,.val (.slice t) rows)
  | _=>none
 | .sl id ver off len =>
  match h[id]? with
  | some (.arr _ t v rows _)=>some (Nat.beq v ver && Nat.ble (off+len) rows.length,.val (.slice t) ((rows.drop off).take len))
  | _=>none
 | .clo f []=>some (true,.clo f [])
 | _=>none
def Es (h:List Ob):List L->Option (Bool × List L)
 | []=>some (true,[])
 | l :: ls =>
  match l.deep h,Es h ls with
  | some (c,x),some (d,r)=>some (c && d,x :: r)
  | _,_=>none
def V.deep (h:List Ob):V->Option (Bool × V)
 | .one l=>match l.deep h with
  | some (c,x)=>some (c,.one x)
  | none=>none
 | .agg ls=>match Es h ls with
  | some (c,x)=>some (c,.agg x)
  | none=>none
 | _=>none
def zId (T:Tab) (σ:St):ResultVar->Option (Bool × Sum L (List L))
 | .tmp t =>
  match (σ.r.getD t .bB).deep σ.h with
  | some (c,.one l)=>some (c,.inl l)
  | some (c,.agg ls)=>some (c,.inr ls)
  | _=>none
 | .cell t ty =>
  match σ.r.getD t .bB with
  | .one l =>
   match loadAt T σ.h ty l with
   | some (c,v) =>
    match v.deep σ.h with
    | some (d,.one l)=>some (c && d,.inl l)
    | some (d,.agg ls)=>some (c && d,.inr ls)
    | _=>none
   | none=>none
  | _=>none
def Li (T:Tab) (σ:St):List ResultVar->Option (Bool × List (Sum L (List L)))
 | []=>some (true,[])
 | x :: r =>
  match zId T σ x,Li T σ r with
  | some (c,l),some (d,ls)=>some (c && d,l :: ls)
  | _,_=>none
def zPh:List (Sum L (List L))->V
 | [.inl l]=>.one l
 | [.inr ls]=>.agg ls
 | vs=>.tup vs
end sound
end Go.Dec
namespace Go.Dec
section
variable {T:Tab} {C:Ctx} {β β':Nat->Pl} {w:World}
theorem L.Df {N N':Nat->Nat->Prop} (hN:∀ b j,b < w.heap.size->N' b j->N b j):∀ {l:L} {cs:List Value},l.isD=true->l.Rel β w N cs->l.Rel β' w N' cs
 | .val t x,cs,_,h=>by simp only [L.Rel] at *; exact h.mono (Keep.refl _ w) hN
 | .kD,cs,_,h=>by simp only [L.Rel] at *; exact h
 | .bV,cs,_,h=>by simp only [L.Rel] at *; exact h
 | .iV t x off,cs,_,h=>by simp only [L.Rel] at *; obtain ⟨c,hc,hr⟩:=h; exact ⟨c,hc,hr.mono (Keep.refl _ w) hN⟩
 | .clo f [],cs,_,h=>by simp only [L.Rel,L.bP] at *; exact h
 | .clo f (_ :: _),_,hd,_=>by simp [L.isD] at hd
 | .ptr ..,_,hd,_=>by simp [L.isD] at hd
 | .jB ..,_,hd,_=>by simp [L.isD] at hd
 | .eU ..,_,hd,_=>by simp [L.isD] at hd
 | .sl ..,_,hd,_=>by simp [L.isD] at hd
 | .own ..,_,hd,_=>by simp [L.isD] at hd
 | .bad _,_,hd,_=>by simp [L.isD] at hd
 | .dZ ..,_,hd,_=>by simp [L.isD] at hd
theorem aL.isD {N N':Nat->Nat->Prop} (hN:∀ b j,b < w.heap.size->N' b j->N b j):∀ {ls:List L} {cs:List Value},aZ L.isD ls=true->aL β w N ls cs->aL β' w N' ls cs
 | [],_,_,h=>h
 | l :: ls,_,hd,⟨c1,c2,e,h1,h2⟩=>by
  simp only [aZ,aF] at hd
  exact ⟨c1,c2,e,L.Df hN hd.1 h1,aL.isD hN hd.2 h2⟩
theorem Uu {N N':Nat->Nat->Prop} (hN:∀ b j,b < w.heap.size->N' b j->N b j):∀ {vs:List (Sum L (List L))} {us:List Value},aZ zHl vs=true->aQ (dP β w N) vs us->aQ (dP β' w N') vs us
 | [],[],_,_=>trivial
 | .inl l :: vs,u :: us,hd,hr=>by
  simp only [aZ,aF] at hd
  exact ⟨L.Df hN hd.1 hr.1,Uu hN hd.2 hr.2⟩
 | .inr ls :: vs,u :: us,hd,hr=>by
  simp only [aZ,aF] at hd
  obtain ⟨⟨cs,e,h⟩,h2⟩:=hr
  exact ⟨⟨cs,e,h.isD hN hd.1⟩,Uu hN hd.2 h2⟩
 | [],_ :: _,_,h=>h.elim
 | .inl _ :: _,[],_,h=>h.elim
 | .inr _ :: _,[],_,h=>h.elim
theorem V.Df {N N':Nat->Nat->Prop} (hN:∀ b j,b < w.heap.size->N' b j->N b j) {v:V} {x:Value} (hd:v.isD=true) (h:v.Rel β w N x):v.Rel β' w N' x:=by
 cases v with
 | one l=>exact L.Df hN hd h
 | agg ls=>obtain ⟨cs,e,hr⟩:=h; exact ⟨cs,e,hr.isD hN hd⟩
 | tup vs =>
  obtain ⟨us,e,hr⟩:=h
  exact ⟨us,e,Uu hN hd hr⟩
 | bB=>cases hd
theorem zAv {h:List Ob} {e:TypeId} {t:Ty} {ver id off len:Nat} {rows:List t.den} {wr:Bool} {c:Value} {N':Nat->Nat->Prop} (hh:dB C β h w) (ho:h[id]?=some (.arr e t ver rows wr)) (hsl:dU (β id) off len c) (hle:off+len <= rows.length)
  (hN:∀ b j,b < w.heap.size->N' b j->C.N0 b j):(Ty.slice t).Rel w N' ((rows.drop off).take len) [c]:=by
 have hob:=hh.obj _ _ ho
 simp only [Ob.Rel] at hob
 obtain ⟨_,_,hpv,hpz,hpos,hpl,hob⟩:=hob
 simp only [Ty.Rel]
 refine ⟨c,rfl,?_⟩
 unfold dU at hsl
 rcases hob with ⟨hnb,hr0,_⟩ | ⟨b,cur,css,hb,hheap,hall,htake,hcap,hrc,hm⟩
 ·rw [hnb] at hsl
  subst hr0
  exact .inl ⟨hsl.1,by simp⟩
 ·rw [hb] at hsl
  obtain ⟨h1,o,rfl,h3⟩:=hsl
  obtain ⟨hf1,hf2,_⟩:=hh.fresh _ _ _ ho hb
  have hlen:((rows.drop off).take len).length=len:=by simp; omega
  have hl:=eH hall
  have hcs:=(Cells.of_heap hheap).take (rows.length * t.size)
  rw [htake] at hcs
  have hcs2:=(hcs.drop (off * t.size)).take (len * t.size)
  rw [iF css hl off,kN _ (fun c hc=>hl c (List.mem_of_mem_drop hc)) len,Nat.zero_add] at hcs2
  have hN0:∀ b j,b < w.heap.size->N' b j->C.N β h b j:=fun b j hb hn=>.inl (hN b j hb hn)
  have Yu:aQ (fun x c=>t.Rel w N' x c) ((rows.drop off).take len) ((css.drop off).take len):=((hall.drop off).take len).mono fun _ _ h=>h.mono (Keep.refl _ w) hN0
  refine .inr (.inl ⟨b,o,_,(css.drop off).take len,by rw [hlen],hf2,fun j _ _ hn=>hf1 j (hN b j hf2 hn),by omega,by omega,Yu,fun c hc=>hl c (List.mem_of_mem_drop (List.mem_of_mem_take hc)),?_⟩)
  rcases h3 with h3 | ⟨h3,_⟩
  ·rw [h3,hpz]; exact hcs2
  ·have hl0:len=0:=by omega
   subst hl0
   simpa using Cells.nil
theorem L.qB {h:List Ob} {l l':L} {cs:List Value} {N':Nat->Nat->Prop} (hd:l.deep h=some (true,l')) (hh:dB C β h w) (hN:∀ b j,b < w.heap.size->N' b j->C.N0 b j) (hr:l.Rel β w (C.N β h) cs):l'.Rel β' w N' cs∧l'.isD=true:=by
 have hN0:∀ b j,b < w.heap.size->N' b j->C.N β h b j:=fun b j hb hn=>.inl (hN b j hb hn)
 have plain:l.isD=true->l'=l->l'.Rel β' w N' cs∧l'.isD=true:=fun h1 h2=>by subst h2; exact ⟨L.Df hN0 h1 hr,h1⟩
 cases l with
 | val t x=>simp only [L.deep,aA,aB,true_and] at hd; exact plain rfl hd.symm
 | kD=>simp only [L.deep,aA,aB,true_and] at hd; exact plain rfl hd.symm
 | bV=>simp only [L.deep,aA,aB,true_and] at hd; exact plain rfl hd.symm
 | iV t x off=>simp only [L.deep,aA,aB,true_and] at hd; exact plain rfl hd.symm
 | clo f cs =>
  cases cs with
  | nil=>simp only [L.deep,aA,aB,true_and] at hd; exact plain rfl hd.symm
  | cons _ _=>simp [L.deep] at hd
 | own id ver =>
  simp only [L.deep] at hd
  split at hd
  ·rename_i e t v rows wr ho
   simp only [aA,aB] at hd
   obtain ⟨hv,rfl⟩:=hd
   have hv:=aG hv
   have hob:=hh.obj _ _ ho
   simp only [Ob.Rel] at hob
   obtain ⟨_,_,hpv,_,_,hpl,_⟩:=hob
   simp only [L.Rel] at hr
   obtain ⟨_,_,_,c,rfl,_,himp⟩:=hr
   have hsl:=himp (by rw [hpv,hv])
   rw [hpl] at hsl
   have:=zAv hh ho hsl (by omega) hN
   rw [List.drop_zero,List.take_length] at this
   exact ⟨by simpa only [L.Rel] using this,rfl⟩
  ·cases hd
 | sl id ver off len =>
  simp only [L.deep] at hd
  split at hd
  ·rename_i e t v rows wr ho
   simp only [aA,aB,aF] at hd
   obtain ⟨⟨hv,hle⟩,rfl⟩:=hd
   have hv:=aG hv
   have hob:=hh.obj _ _ ho
   simp only [Ob.Rel] at hob
   obtain ⟨_,_,hpv,_,_,hpl,_⟩:=hob
   simp only [L.Rel] at hr
   obtain ⟨_,_,_,c,rfl,_,himp⟩:=hr
   exact ⟨by simpa only [L.Rel] using zAv hh ho (himp (by rw [hpv,hv])) (bA hle) hN,rfl⟩
  ·cases hd
 | _=>simp [L.deep] at hd
theorem Xh {h:List Ob} {N':Nat->Nat->Prop} (hh:dB C β h w) (hN:∀ b j,b < w.heap.size->N' b j->C.N0 b j):∀ {ls ls':List L} {cs:List Value},Es h ls=some (true,ls')->aL β w (C.N β h) ls cs->aL β' w N' ls' cs∧aZ L.isD ls'=true
 | [],ls',cs,hd,hr=>by
  simp only [Es,aA,aB,true_and] at hd
  subst hd
  exact ⟨hr,rfl⟩
 | l :: ls,ls',cs,hd,hr=>by
  simp only [Es] at hd
  split at hd
  ·rename_i c x d r h1 h2
   simp only [aA,aB,aF] at hd
   obtain ⟨⟨rfl,rfl⟩,rfl⟩:=hd
   obtain ⟨c1,c2,e,r1,r2⟩:=hr
   obtain ⟨g1,g2⟩:=L.qB (β':=β') h1 hh hN r1
   obtain ⟨g3,g4⟩:=Xh hh hN h2 r2
   exact ⟨⟨c1,c2,e,g1,g3⟩,by simp only [aZ,g2,g4,Bool.and_self]⟩
  ·cases hd
theorem V.qB {h:List Ob} {v v':V} {x:Value} {N':Nat->Nat->Prop} (hd:v.deep h=some (true,v')) (hh:dB C β h w) (hN:∀ b j,b < w.heap.size->N' b j->C.N0 b j) (hr:v.Rel β w (C.N β h) x):v'.Rel β' w N' x∧v'.isD=true:=by
 cases v with
 | one l =>
  simp only [V.deep] at hd
  split at hd
  ·rename_i c y h1
   simp only [aA,aB] at hd
   obtain ⟨rfl,rfl⟩:=hd
   exact L.qB h1 hh hN hr
  ·cases hd
 | agg ls =>
  simp only [V.deep] at hd
  split at hd
  ·rename_i c y h1
   simp only [aA,aB] at hd
   obtain ⟨rfl,rfl⟩:=hd
   obtain ⟨cs,e,hr⟩:=hr
   obtain ⟨g1,g2⟩:=Xh (β':=β') hh hN h1 hr
   exact ⟨⟨cs,e,g1⟩,g2⟩
  ·cases hd
 | _=>simp [V.deep] at hd
theorem Bw {P:Program} {t:TypeId} {x y:Value} (h:(Instr.loadAt t x).run P w=.ok y w):∃ a,x=.pointer (some a)∧(loadVar t a).run P w=.ok y w:=by
 cases x <;> simp only [Instr.loadAt,Instr.sureAddr,Sem.run_bind,run_stuck,Result.andThen,reduceCtorEq] at h
 rename_i a
 cases a with
 | none=>simp only [run_stuck,reduceCtorEq] at h
 | some a=>exact ⟨a,rfl,by simpa only [Instr.loadAt,Instr.sureAddr,Sem.run_bind,Sem.run_pure,Result.andThen_ok] using h⟩
def nS (tmps:Array Value):ResultVar->Sem Value
 | .tmp t=>pure (tmps.getD t undef)
 | .cell a t=>do loadVar t (<- asAddr (tmps.getD a undef))
theorem Et {σ:St} {a:Act} (hs:Sim C β σ a w) (t:Nat):(σ.r.getD t .bB).Rel β w (C.N β σ.h) (a.tmps.getD t undef):=aP hs (.tmp t)
theorem zPi {σ:St} {a:Act} {rv:ResultVar} {s:Sum L (List L)} {N':Nat->Nat->Prop} (hT:aU C.P T) (hs:Sim C β σ a w) (hN:∀ b j,b < w.heap.size->N' b j->C.N0 b j) (h:zId T σ rv=some (true,s)) :
  ∃ x,(nS a.tmps rv).run C.P w=.ok x w∧dP β' w N' s x∧zHl s=true:=by
 cases rv with
 | tmp t =>
  simp only [zId] at h
  have hr:=Et hs t
  refine ⟨a.tmps.getD t undef,rfl,?_⟩
  split at h
  ·rename_i c l hd
   simp only [aA,aB] at h
   obtain ⟨rfl,rfl⟩:=h
   exact V.qB (β':=β') hd hs.heap hN hr
  ·rename_i c ls hd
   simp only [aA,aB] at h
   obtain ⟨rfl,rfl⟩:=h
   exact V.qB (β':=β') hd hs.heap hN hr
  ·cases h
 | cell t ty =>
  simp only [zId] at h
  have hr:=Et hs t
  split at h
  ·rename_i l hl
   rw [hl] at hr
   split at h
   ·rename_i c v hv
    split at h
    ·rename_i d l2 hd
     simp only [aA,aB,aF] at h
     obtain ⟨⟨rfl,rfl⟩,rfl⟩:=h
     obtain ⟨y,h1,h2⟩:=xY hT hv hs.heap hr
     obtain ⟨ad,h3,h4⟩:=Bw h1
     refine ⟨y,?_,V.qB (β':=β') hd hs.heap hN h2⟩
     simp only [nS,h3,asAddr,Sem.run_bind,Sem.run_pure,Result.andThen_ok,h4]
    ·rename_i d ls2 hd
     simp only [aA,aB,aF] at h
     obtain ⟨⟨rfl,rfl⟩,rfl⟩:=h
     obtain ⟨y,h1,h2⟩:=xY hT hv hs.heap hr
     obtain ⟨ad,h3,h4⟩:=Bw h1
     refine ⟨y,?_,V.qB (β':=β') hd hs.heap hN h2⟩
     simp only [nS,h3,asAddr,Sem.run_bind,Sem.run_pure,Result.andThen_ok,h4]
    ·cases h
   ·cases h
  ·cases h
theorem Xi {σ:St} {a:Act} {N':Nat->Nat->Prop} (hT:aU C.P T) (hs:Sim C β σ a w) (hN:∀ b j,b < w.heap.size->N' b j->C.N0 b j):∀ {rs:List ResultVar} {vs:List (Sum L (List L))},Li T σ rs=some (true,vs) ->
  ∀ acc:Array Value,∃ us:List Value,(rs.foldlM (fun (acc:Array Value) rv=>do let v <- nS a.tmps rv; pure (acc.push v)) acc).run C.P w=.ok (acc++us.toArray) w∧aQ (dP β' w N') vs us ∧
   aZ zHl vs=true
 | [],vs,h,acc=>by
  simp only [Li,aA,aB,true_and] at h
  subst h
  exact ⟨[],by simp,trivial,rfl⟩
 | rv :: rs,vs,h,acc=>by
  simp only [Li] at h
  split at h
  ·rename_i c s d r h1 h2
   simp only [aA,aB,aF] at h
   obtain ⟨⟨rfl,rfl⟩,rfl⟩:=h
   obtain ⟨x,g1,g2,g3⟩:=zPi (β':=β') hT hs hN h1
   obtain ⟨us,g4,g5,g6⟩:=Xi hT hs hN h2 (acc.push x)
   refine ⟨x :: us,?_,⟨g2,g5⟩,by simp only [aZ,g6,Bool.and_true]; exact g3⟩
   simp only [List.foldlM_cons,Sem.run_bind,g1,Result.andThen_ok,Sem.run_pure,g4]
   simp
  ·cases h
end
def yK (vs:List V) (n:Nat):List V:=vs++List.replicate (n - vs.length) .bB
end Go.Dec
