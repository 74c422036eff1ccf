/- Part of a proof over this seat: a library of my own, and what it says of this seat. No statement is proved here. -/
import Derived.Test.YtdgneppobefaoaaGreatDoorPartAH
import Derived.Test.YtdgneppobefaoaaGreatDoorPartAG
import Derived.LoopN
import Derived.ScopeJumps
namespace Go.Dec
inductive LS where
 | v (t:Ty)
 | ptr (id off:Nat)
 | own (id:Nat)
 | clo (f:Nat) (caps:List (Nat × Nat))
 | any (n:Nat)
 | dV (id off:Nat)
 | sl (id:Nat)
 | bU
 | bF (id off:Nat)
 | mp (id:Nat)
def zQu (caps:List (Nat × Nat)):List L:=caps.map fun p=>.ptr p.1 p.2
def Vw:List (Nat × Nat)->List L->Bool
 | [],[]=>true
 | p :: r,.ptr a b :: m=>Nat.beq p.1 a && (Nat.beq p.2 b && Vw r m)
 | _,_=>false
theorem Xp:∀ {caps:List (Nat × Nat)} {m:List L},Vw caps m=true->m=zQu caps
 | [],[],_=>rfl
 | (i,o) :: r,l :: m,h=>by
  cases l <;> simp only [Vw,aD,Bool.false_eq_true] at h
  obtain ⟨h1,h2,h3⟩:=h
  obtain rfl:i=_:=aF h1
  obtain rfl:o=_:=aF h2
  rw [Xp h3]
  rfl
 | [],_ :: _,h=>by cases h
 | _ :: _,[],h=>by cases h
@[reducible] def LTs:List LS->Type->Type
 | [],A=>A
 | .v t :: r,A=>t.den × LTs r A
 | .dV _ _ :: r,A=>Nat × LTs r A
 | .sl _ :: r,A=>Nat × (Nat × LTs r A)
 | .ptr _ _ :: r,A=>LTs r A
 | .own _ :: r,A=>LTs r A
 | .clo _ _ :: r,A=>LTs r A
 | .any _ :: r,A=>LTs r A
 | .bU :: r,A=>LTs r A
 | .bF _ _ :: r,A=>LTs r A
 | .mp _ :: r,A=>LTs r A
structure Slot where
 i:Nat
 agg:Bool
 ls:List LS
inductive OS where
 | box (e:TypeId) (ls:List LS)
 | row (e:TypeId) (t:Ty)
 | fm (tab:List (MK × Nat))
 | dm (kt vt:Ty)
@[reducible] def RTs:List Slot->Type->Type
 | [],A=>A
 | s :: r,A=>LTs s.ls (RTs r A)
@[reducible] def OTs:List OS->Type->Type
 | [],A=>A
 | .box _ ls :: r,A=>LTs ls (OTs r A)
 | .row _ t :: r,A=>List t.den × OTs r A
 | .fm _ :: r,A=>OTs r A
 | .dm kt vt :: r,A=>List (kt.den × vt.den) × OTs r A
structure Sh where
 n:Nat
 rs:List Slot
 os:List OS
@[reducible] def Sh.X (sh:Sh):Type:=RTs sh.rs (OTs sh.os Unit)
def bR {A:Type}:(ls:List LS)->LTs ls A->List L × A
 | [],x=>([],x)
 | .v t :: r,x=>(.val t x.1 :: (bR r x.2).1,(bR r x.2).2)
 | .ptr a b :: r,x=>(.ptr a b :: (bR (A:=A) r x).1,(bR (A:=A) r x).2)
 | .own a :: r,x=>(.own a 0 :: (bR (A:=A) r x).1,(bR (A:=A) r x).2)
 | .clo f caps :: r,x=>(.clo f (zQu caps) :: (bR (A:=A) r x).1,(bR (A:=A) r x).2)
 | .dV a o :: r,x=>(.dV a 0 x.1 o :: (bR r x.2).1,(bR r x.2).2)
 | .sl a :: r,x=>(.sl a 0 x.1 x.2.1 :: (bR r x.2.2).1,(bR r x.2.2).2)
 | .bU :: r,x=>(.bU :: (bR (A:=A) r x).1,(bR (A:=A) r x).2)
 | .bF a b :: r,x=>(.bF a b :: (bR (A:=A) r x).1,(bR (A:=A) r x).2)
 | .mp a :: r,x=>(.mp a :: (bR (A:=A) r x).1,(bR (A:=A) r x).2)
 | .any n :: r,x=>(.bad n :: (bR (A:=A) r x).1,(bR (A:=A) r x).2)
def Xq (agg:Bool) (ls:List L):V :=
 match agg,ls with
 | true,ls=>.agg ls
 | false,[l]=>.one l
 | _,_=>.bA
def xL {A:Type}:(rs:List Slot)->List V->RTs rs A->List V × A
 | [],acc,x=>(acc,x)
 | s :: r,acc,x=>xL r (acc.set s.i (Xq s.agg (bR s.ls x).1)) (bR s.ls x).2
def dO {A:Type}:(os:List OS)->OTs os A->List Ob × A
 | [],x=>([],x)
 | .box e ls :: r,x=>(.box e (bR ls x).1 :: (dO r (bR ls x).2).1,(dO r (bR ls x).2).2)
 | .row e t :: r,x=>(.arr e t 0 x.1 true :: (dO r x.2).1,(dO r x.2).2)
 | .fm tab :: r,x=>(.fm tab :: (dO (A:=A) r x).1,(dO (A:=A) r x).2)
 | .dm kt vt :: r,x=>(.dm kt vt x.1 :: (dO r x.2).1,(dO r x.2).2)
def Sh.enc (sh:Sh) (x:sh.X):St :=
 let p:=xL sh.rs (List.replicate sh.n .bA) x
 ⟨p.1,(dO sh.os p.2).1⟩
def aZ {A:Type}:(ls:List LS)->List L->Option (A->LTs ls A)
 | [],[]=>some id
 | .v t :: r,l :: m =>
  match l.asT t,aZ (A:=A) r m with
  | some x,some f=>some fun a=>(x,f a)
  | _,_=>none
 | .ptr a b :: r,.ptr a' b' :: m=>match Nat.beq a a' && Nat.beq b b' with
  | true=>aZ (A:=A) r m
  | false=>none
 | .own a :: r,.own a' u :: m=>match Nat.beq a a' && Nat.beq u 0 with
  | true=>aZ (A:=A) r m
  | false=>none
 | .clo f caps :: r,.clo f' m' :: m=>match Nat.beq f f' && Vw caps m' with
  | true=>aZ (A:=A) r m
  | false=>none
 | .dV a o :: r,.dV a' u i o' :: m=>match Nat.beq a a' && (Nat.beq u 0 && Nat.beq o o'),aZ (A:=A) r m with
  | true,some f=>some fun x=>(i,f x)
  | _,_=>none
 | .sl a :: r,.sl a' u i n :: m=>match Nat.beq a a' && Nat.beq u 0,aZ (A:=A) r m with
  | true,some f=>some fun x=>(i,n,f x)
  | _,_=>none
 | .bU :: r,.bU :: m=>aZ (A:=A) r m
 | .bF a b :: r,.bF a' b' :: m=>match Nat.beq a a' && Nat.beq b b' with
  | true=>aZ (A:=A) r m
  | false=>none
 | .mp a :: r,.mp a' :: m=>match Nat.beq a a' with
  | true=>aZ (A:=A) r m
  | false=>none
 | .any n :: r,l :: m=>match Nat.beq n l.size with
  | true=>aZ (A:=A) r m
  | false=>none
 | _,_=>none
def Oe (agg:Bool) (v:V):Option (List L) :=
 match agg,v with
 | true,.agg ls=>some ls
 | false,.one l=>some [l]
 | _,_=>none
def Og {A:Type} (σr:List V):(rs:List Slot)->Option (A->RTs rs A)
 | []=>some id
 | s :: r =>
  match Oe s.agg (σr.getD s.i .bA) with
  | some ls =>
   match aZ (A:=RTs r A) s.ls ls,Og σr r with
   | some f,some g=>some fun a=>f (g a)
   | _,_=>none
  | none=>none
def dW {A:Type}:(os:List OS)->List Ob->Option (A->OTs os A)
 | [],[]=>some id
 | .box e ls :: r,.box e' l :: m =>
  match Nat.beq e e',aZ (A:=OTs r A) ls l,dW (A:=A) r m with
  | true,some f,some g=>some fun a=>f (g a)
  | _,_,_=>none
 | .row e t :: r,.arr e' t' ver rows wr :: m =>
  match Nat.beq e e' && (Nat.beq ver 0 && wr),dW (A:=A) r m with
  | true,some g=>if h:t'=t then some fun a=>(h ▸ rows,g a) else none
  | _,_=>none
 | .fm tab :: r,.fm zQv :: m=>if tab=zQv then dW (A:=A) r m else none
 | .dm kt vt :: r,.dm kt' vt' es :: m =>
  match dW (A:=A) r m with
  | some g=>if h:kt'=kt∧vt'=vt then some fun a=>(h.1 ▸ h.2 ▸ es,g a) else none
  | none=>none
 | _,_=>none
def Sh.dec (sh:Sh) (σ:St):Option sh.X :=
 match Nat.beq σ.r.length sh.n,Og (A:=OTs sh.os Unit) σ.r sh.rs,dW (A:=Unit) sh.os σ.h with
 | true,some f,some g=>some (f (g ()))
 | _,_,_=>none
section
variable {β:Nat->Pl} {w:World} {N:Nat->Nat->Prop} {A:Type}
theorem fA:∀ {ls:List LS} {l:List L} {f:A->LTs ls A} (a:A) {cs:List Value},aZ ls l=some f->aI β w N l cs->aI β w N (bR ls (f a)).1 cs∧(bR ls (f a)).2=a
 | [],[],f,a,cs,h,hr=>by
  simp only [aZ,aA] at h
  subst h
  exact ⟨hr,rfl⟩
 | .v t :: r,l :: m,f,a,cs,h,hr=>by
  simp only [aZ] at h
  split at h
  ·rename_i x g h1 h2
   simp only [aA] at h
   subst h
   obtain ⟨c1,c2,e,r1,r2⟩:=hr
   obtain ⟨g1,g2⟩:=fA a h2 r2
   exact ⟨⟨c1,c2,e,by simpa only [L.Rel] using L.Gc h1 r1,g1⟩,g2⟩
  ·cases h
 | .ptr i o :: r,l :: m,f,a,cs,h,hr=>by
  cases l <;> simp only [aZ,reduceCtorEq] at h
  split at h
  ·rename_i hb
   simp only [aD] at hb
   have e1:=aF hb.1
   have e2:=aF hb.2
   subst e1 e2
   obtain ⟨c1,c2,e,r1,r2⟩:=hr
   obtain ⟨g1,g2⟩:=fA a h r2
   exact ⟨⟨c1,c2,e,r1,g1⟩,g2⟩
  ·cases h
 | .own i :: r,l :: m,f,a,cs,h,hr=>by
  cases l <;> simp only [aZ,reduceCtorEq] at h
  split at h
  ·rename_i hb
   simp only [aD] at hb
   have e1:=aF hb.1
   have e2:=aF hb.2
   subst e1 e2
   obtain ⟨c1,c2,e,r1,r2⟩:=hr
   obtain ⟨g1,g2⟩:=fA a h r2
   exact ⟨⟨c1,c2,e,r1,g1⟩,g2⟩
  ·cases h
 | .clo i caps :: r,l :: m,f,a,cs,h,hr=>by
  cases l <;> simp only [aZ,reduceCtorEq] at h
  split at h
  ·rename_i hb
   simp only [aD] at hb
   have e1:=aF hb.1
   have e2:=Xp hb.2
   subst e1 e2
   obtain ⟨c1,c2,e,r1,r2⟩:=hr
   obtain ⟨g1,g2⟩:=fA a h r2
   exact ⟨⟨c1,c2,e,r1,g1⟩,g2⟩
  ·cases h
 | .dV i o :: r,l :: m,f,a,cs,h,hr=>by
  cases l <;> simp only [aZ,reduceCtorEq] at h
  split at h
  ·rename_i f1 hb h2
   simp only [aA] at h
   subst h
   simp only [aD] at hb
   have e1:=aF hb.1
   have e2:=aF hb.2.1
   have e3:=aF hb.2.2
   subst e1 e2 e3
   obtain ⟨c1,c2,e,r1,r2⟩:=hr
   obtain ⟨g1,g2⟩:=fA a h2 r2
   exact ⟨⟨c1,c2,e,r1,g1⟩,g2⟩
  ·cases h
 | .sl i :: r,l :: m,f,a,cs,h,hr=>by
  cases l <;> simp only [aZ,reduceCtorEq] at h
  split at h
  ·rename_i f1 hb h2
   simp only [aA] at h
   subst h
   simp only [aD] at hb
   have e1:=aF hb.1
   have e2:=aF hb.2
   subst e1 e2
   obtain ⟨c1,c2,e,r1,r2⟩:=hr
   obtain ⟨g1,g2⟩:=fA a h2 r2
   exact ⟨⟨c1,c2,e,r1,g1⟩,g2⟩
  ·cases h
 | .bF i o :: r,l :: m,f,a,cs,h,hr=>by
  cases l <;> simp only [aZ,reduceCtorEq] at h
  split at h
  ·rename_i hb
   simp only [aD] at hb
   have e1:=aF hb.1
   have e2:=aF hb.2
   subst e1 e2
   obtain ⟨c1,c2,e,r1,r2⟩:=hr
   obtain ⟨g1,g2⟩:=fA a h r2
   exact ⟨⟨c1,c2,e,r1,g1⟩,g2⟩
  ·cases h
 | .bU :: r,l :: m,f,a,cs,h,hr=>by
  cases l <;> simp only [aZ,reduceCtorEq] at h
  obtain ⟨c1,c2,e,r1,r2⟩:=hr
  obtain ⟨g1,g2⟩:=fA a h r2
  exact ⟨⟨c1,c2,e,r1,g1⟩,g2⟩
 | .mp i :: r,l :: m,f,a,cs,h,hr=>by
  cases l <;> simp only [aZ,reduceCtorEq] at h
  split at h
  ·rename_i hb
   have e1:=aF hb
   subst e1
   obtain ⟨c1,c2,e,r1,r2⟩:=hr
   obtain ⟨g1,g2⟩:=fA a h r2
   exact ⟨⟨c1,c2,e,r1,g1⟩,g2⟩
  ·cases h
 | .any n :: r,l :: m,f,a,cs,h,hr=>by
  simp only [aZ] at h
  split at h
  ·rename_i hb
   have e1:=aF hb
   subst e1
   obtain ⟨c1,c2,e,r1,r2⟩:=hr
   obtain ⟨g1,g2⟩:=fA a h r2
   exact ⟨⟨c1,c2,e,by simp only [L.Rel]; exact ⟨r1.length,fun c hc=>r1.one c hc⟩,g1⟩,g2⟩
  ·cases h
 | [],_ :: _,_,_,_,h,_=>by simp [aZ] at h
 | .v _ :: _,[],_,_,_,h,_=>by simp [aZ] at h
 | .ptr .. :: _,[],_,_,_,h,_=>by simp [aZ] at h
 | .own .. :: _,[],_,_,_,h,_=>by simp [aZ] at h
 | .clo .. :: _,[],_,_,_,h,_=>by simp [aZ] at h
 | .dV .. :: _,[],_,_,_,h,_=>by simp [aZ] at h
 | .sl .. :: _,[],_,_,_,h,_=>by simp [aZ] at h
 | .bU :: _,[],_,_,_,h,_=>by simp [aZ] at h
 | .bF .. :: _,[],_,_,_,h,_=>by simp [aZ] at h
 | .mp .. :: _,[],_,_,_,h,_=>by simp [aZ] at h
 | .any .. :: _,[],_,_,_,h,_=>by simp [aZ] at h
theorem iB:∀ {ls:List LS} {l:List L} {f:A->LTs ls A} (a:A),aZ ls l=some f->(bR ls (f a)).1.length=l.length
 | [],[],f,a,h=>by
  simp only [aZ,aA] at h
  subst h
  rfl
 | .v t :: r,l :: m,f,a,h=>by
  simp only [aZ] at h
  split at h
  ·rename_i x g h1 h2
   simp only [aA] at h
   subst h
   simp only [bR,List.length_cons,iB a h2]
  ·cases h
 | .ptr i o :: r,l :: m,f,a,h=>by
  cases l <;> simp only [aZ,reduceCtorEq] at h
  split at h
  ·simp only [bR,List.length_cons,iB a h]
  ·cases h
 | .mp i :: r,l :: m,f,a,h=>by
  cases l <;> simp only [aZ,reduceCtorEq] at h
  split at h
  ·simp only [bR,List.length_cons,iB a h]
  ·cases h
 | .own i :: r,l :: m,f,a,h=>by
  cases l <;> simp only [aZ,reduceCtorEq] at h
  split at h
  ·simp only [bR,List.length_cons,iB a h]
  ·cases h
 | .clo i caps :: r,l :: m,f,a,h=>by
  cases l <;> simp only [aZ,reduceCtorEq] at h
  split at h
  ·simp only [bR,List.length_cons,iB a h]
  ·cases h
 | .dV i o :: r,l :: m,f,a,h=>by
  cases l <;> simp only [aZ,reduceCtorEq] at h
  split at h
  ·rename_i f1 hb h2
   simp only [aA] at h
   subst h
   simp only [bR,List.length_cons,iB a h2]
  ·cases h
 | .sl i :: r,l :: m,f,a,h=>by
  cases l <;> simp only [aZ,reduceCtorEq] at h
  split at h
  ·rename_i f1 hb h2
   simp only [aA] at h
   subst h
   simp only [bR,List.length_cons,iB a h2]
  ·cases h
 | .bF i o :: r,l :: m,f,a,h=>by
  cases l <;> simp only [aZ,reduceCtorEq] at h
  split at h
  ·simp only [bR,List.length_cons,iB a h]
  ·cases h
 | .bU :: r,l :: m,f,a,h=>by
  cases l <;> simp only [aZ,reduceCtorEq] at h
  have:=iB a h
  simp only [bR,List.length_cons,this]
 | .any n :: r,l :: m,f,a,h=>by
  simp only [aZ] at h
  split at h
  ·simp only [bR,List.length_cons,iB a h]
  ·cases h
 | [],_ :: _,_,_,h=>by simp [aZ] at h
 | .v _ :: _,[],_,_,h=>by simp [aZ] at h
 | .ptr .. :: _,[],_,_,h=>by simp [aZ] at h
 | .own .. :: _,[],_,_,h=>by simp [aZ] at h
 | .clo .. :: _,[],_,_,h=>by simp [aZ] at h
 | .dV .. :: _,[],_,_,h=>by simp [aZ] at h
 | .sl .. :: _,[],_,_,h=>by simp [aZ] at h
 | .bU :: _,[],_,_,h=>by simp [aZ] at h
 | .bF .. :: _,[],_,_,h=>by simp [aZ] at h
 | .mp .. :: _,[],_,_,h=>by simp [aZ] at h
 | .any .. :: _,[],_,_,h=>by simp [aZ] at h
theorem zFc {agg:Bool} {v:V} {ls ls':List L} {x:Value} (hs:Oe agg v=some ls) (hr:v.Rel β w N x) (hlen:ls'.length=ls.length) (h:∀ cs,aI β w N ls cs->aI β w N ls' cs):(Xq agg ls').Rel β w N x:=by
 unfold Oe at hs
 split at hs
 ·simp only [aA] at hs
  subst hs
  obtain ⟨cs,e,hr⟩:=hr
  exact ⟨cs,e,h cs hr⟩
 ·rename_i l
  simp only [aA] at hs
  subst hs
  match ls',hlen with
  | [l'],_ =>
   obtain ⟨c1,c2,e,h1,h2⟩:=h [x] ⟨[x],[],rfl,hr,rfl⟩
   simp only [aI] at h2
   subst h2
   rw [List.append_nil] at e
   subst e
   exact h1
 ·cases hs
def vQ (β:Nat->Pl) (w:World) (N:Nat->Nat->Prop) (r:List V) (tmps:Array Value):Prop:=∀ (i:Nat) (v:V),r[i]?=some v->v.Rel β w N (tmps.getD i undef)
theorem vQ.set {r:List V} {tmps:Array Value} (h:vQ β w N r tmps) {i:Nat} {v:V} (hv:v.Rel β w N (tmps.getD i undef)):vQ β w N (r.set i v) tmps:=by
 intro j u hu
 by_cases hij:i=j
 ·subst hij
  rcases aT i r.length with hi | hi
  ·rw [List.getElem?_set_self hi] at hu
   simp only [aA] at hu
   subst hu
   exact hv
  ·rw [List.getElem?_eq_none (by simpa using hi)] at hu; cases hu
 ·rw [List.getElem?_set_ne hij] at hu
  exact h j u hu
theorem Ue {σr:List V} {tmps:Array Value} (hr:vQ β w N σr tmps):∀ {rs:List Slot} {f:A->RTs rs A} (a:A) {acc:List V},Og σr rs=some f->vQ β w N acc tmps ->
  vQ β w N (xL rs acc (f a)).1 tmps∧(xL rs acc (f a)).2=a∧(xL rs acc (f a)).1.length=acc.length
 | [],f,a,acc,h,ha=>by
  simp only [Og,aA] at h
  subst h
  exact ⟨ha,rfl,rfl⟩
 | s :: r,f,a,acc,h,ha=>by
  simp only [Og] at h
  split at h
  ·rename_i ls hls
   split at h
   ·rename_i f1 g h1 h2
    simp only [aA] at h
    subst h
    have hv:(σr.getD s.i .bA).Rel β w N (tmps.getD s.i undef):=by
     rw [List.getD_eq_getElem?_getD]
     cases hg:σr[s.i]? with
     | none=>trivial
     | some v=>exact hr s.i v hg
    have hmk:=zFc hls hv (iB (g a) h1) fun cs hc=>(fA (g a) h1 hc).1
    have e2:(bR s.ls (f1 (g a))).2=g a:=by
     have hp:∃ cs,aI β w N ls cs:=by
      unfold Oe at hls
      split at hls
      ·rename_i l heq
       simp only [aA] at hls
       subst hls
       rw [heq] at hv
       obtain ⟨cs,_,hc⟩:=hv
       exact ⟨cs,hc⟩
      ·rename_i l heq
       simp only [aA] at hls
       subst hls
       rw [heq] at hv
       exact ⟨[_],[_],[],rfl,hv,rfl⟩
      ·cases hls
     obtain ⟨cs,hc⟩:=hp
     exact (fA (g a) h1 hc).2
    simp only [xL]
    rw [e2]
    obtain ⟨k1,k2,k3⟩:=Ue hr a (acc:=acc.set s.i (Xq s.agg (bR s.ls (f1 (g a))).1)) h2 (ha.set hmk)
    exact ⟨k1,k2,by rw [k3,List.length_set]⟩
   ·cases h
  ·cases h
def tF (β:Nat->Pl) (w:World) (N:Nat->Nat->Prop):Nat->List Ob->List Ob->Prop
 | _,[],[]=>True
 | i,o :: r,o' :: r'=>(o.Rel β w N (β i)->o'.Rel β w N (β i))∧(o'.wr=o.wr∧o'.iR=o.iR)∧tF β w N (i+1) r r'
 | _,_,_=>False
theorem tH {w:World}:∀ {os:List OS} {h:List Ob} {f:A->OTs os A} (a:A) (i:Nat),dW os h=some f->(∀ (j:Nat) (o:Ob),h[j]?=some o->o.Rel β w N (β (i+j)))->tF β w N i h (dO os (f a)).1
 | [],[],f,a,i,h,_=>by
  simp only [dW,aA] at h
  subst h
  trivial
 | .box e ls :: r,.box e' l :: m,f,a,i,h,hr=>by
  simp only [dW] at h
  split at h
  ·rename_i f1 g hb h1 h2
   simp only [aA] at h
   subst h
   have:=aF hb
   subst this
   have h0:=hr 0 _ rfl
   simp only [Ob.Rel,Nat.add_zero] at h0
   obtain ⟨_,_,b0,cs0,_,hc0,_⟩:=h0
   have e2:=(fA (g a) h1 hc0).2
   simp only [dO]
   refine ⟨?_,⟨rfl,rfl⟩,?_⟩
   ·simp only [Ob.Rel]
    rintro ⟨k1,k2,b,cs,k3,k4,k5⟩
    exact ⟨k1,k2,b,cs,k3,(fA (g a) h1 k4).1,k5⟩
   ·rw [e2]
    exact tH a (i+1) h2 fun j o ho=>by
     have:=hr (j+1) o (by simpa using ho)
     rwa [show i+(j+1)=i+1+j by omega] at this
  ·cases h
 | .row e t :: r,.arr e' t' ver rows wr :: m,f,a,i,h,hr=>by
  simp only [dW] at h
  split at h
  ·rename_i g hb h2
   split at h
   ·rename_i ht
    subst ht
    simp only [aA] at h
    subst h
    simp only [aD] at hb
    have e1:=aF hb.1
    have e2:=aF hb.2.1
    have e3:=hb.2.2
    subst e1 e2 e3
    simp only [dO]
    refine ⟨fun h=>h,⟨rfl,rfl⟩,?_⟩
    exact tH a (i+1) h2 fun j o ho=>by
     have:=hr (j+1) o (by simpa using ho)
     rwa [show i+(j+1)=i+1+j by omega] at this
   ·cases h
  ·cases h
 | [],_ :: _,_,_,_,h,_=>by simp [dW] at h
 | .box .. :: _,[],_,_,_,h,_=>by simp [dW] at h
 | .row .. :: _,[],_,_,_,h,_=>by simp [dW] at h
 | .box .. :: _,.arr .. :: _,_,_,_,h,_=>by simp [dW] at h
 | .row .. :: _,.box .. :: _,_,_,_,h,_=>by simp [dW] at h
 | .fm tab :: r,.fm zQv :: m,f,a,i,h,hr=>by
  simp only [dW] at h
  split at h
  ·rename_i ht
   subst ht
   simp only [dO]
   refine ⟨fun h=>h,⟨rfl,rfl⟩,?_⟩
   exact tH a (i+1) h fun j o ho=>by
    have:=hr (j+1) o (by simpa using ho)
    rwa [show i+(j+1)=i+1+j by omega] at this
  ·cases h
 | .dm kt vt :: r,.dm kt' vt' es :: m,f,a,i,h,hr=>by
  simp only [dW] at h
  split at h
  ·rename_i g h2
   split at h
   ·rename_i ht
    obtain ⟨rfl,rfl⟩:=ht
    simp only [aA] at h
    subst h
    simp only [dO]
    refine ⟨fun h=>h,⟨rfl,rfl⟩,?_⟩
    exact tH a (i+1) h2 fun j o ho=>by
     have:=hr (j+1) o (by simpa using ho)
     rwa [show i+(j+1)=i+1+j by omega] at this
   ·cases h
  ·cases h
 | .fm .. :: _,[],_,_,_,h,_=>by simp [dW] at h
 | .dm .. :: _,[],_,_,_,h,_=>by simp [dW] at h
 | .dm .. :: _,.box .. :: _,_,_,_,h,_=>by simp [dW] at h
 | .dm .. :: _,.arr .. :: _,_,_,_,h,_=>by simp [dW] at h
 | .dm .. :: _,.fm .. :: _,_,_,_,h,_=>by simp [dW] at h
 | .fm .. :: _,.dm .. :: _,_,_,_,h,_=>by simp [dW] at h
 | .box .. :: _,.dm .. :: _,_,_,_,h,_=>by simp [dW] at h
 | .row .. :: _,.dm .. :: _,_,_,_,h,_=>by simp [dW] at h
 | .fm .. :: _,.box .. :: _,_,_,_,h,_=>by simp [dW] at h
 | .fm .. :: _,.arr .. :: _,_,_,_,h,_=>by simp [dW] at h
 | .box .. :: _,.fm .. :: _,_,_,_,h,_=>by simp [dW] at h
 | .row .. :: _,.fm .. :: _,_,_,_,h,_=>by simp [dW] at h
theorem tF.length {w:World}:∀ {i:Nat} {h h':List Ob},tF β w N i h h'->h'.length=h.length
 | _,[],[],_=>rfl
 | _,_ :: _,_ :: _,h=>by simp [tF.length h.2.2]
 | _,[],_ :: _,h=>h.elim
 | _,_ :: _,[],h=>h.elim
theorem tF.get {w:World}:∀ {i:Nat} {h h':List Ob},tF β w N i h h'->∀ (j:Nat) (o':Ob),h'[j]?=some o'->∃ o,h[j]?=some o∧(o'.wr=o.wr∧o'.iR=o.iR)∧(o.Rel β w N (β (i+j))->o'.Rel β w N (β (i+j)))
 | _,[],[],_,j,_,h=>by simp at h
 | i,o :: r,o2 :: r2,h,j,o',hj=>by
  cases j with
  | zero =>
   simp only [List.getElem?_cons_zero,aA] at hj
   subst hj
   exact ⟨o,rfl,h.2.1,h.1⟩
  | succ j =>
   obtain ⟨u,h1,h2,h3⟩:=tF.get h.2.2 j o' (by simpa using hj)
   rw [show i+1+j=i+(j+1) by omega] at h3
   exact ⟨u,by simpa using h1,h2,h3⟩
 | _,[],_ :: _,h,_,_,_=>h.elim
 | _,_ :: _,[],h,_,_,_=>h.elim
theorem zCq {C:Ctx} {sh:Sh} {σ:St} {a:Act} {w:World} {x:sh.X} (h:sh.dec σ=some x) (hs:Sim C β σ a w):Sim C β (sh.enc x) a w:=by
 unfold Sh.dec at h
 split at h
 ·rename_i f g hn hf hg
  simp only [aA] at h
  subst h
  have hn:=aF hn
  obtain ⟨k1,k2,k3⟩:=Ue (A:=OTs sh.os Unit) (tmps:=a.tmps) hs.reg (g ()) (acc:=List.replicate sh.n .bA) hf (fun i v hv=>by
   rw [List.getElem?_replicate] at hv
   split at hv
   ·simp only [aA] at hv; subst hv; trivial
   ·cases hv)
  have hob:=tH (A:=Unit) (β:=β) (N:=C.N β σ.h) (w:=w) () 0 hg (fun j o ho=>by rw [Nat.zero_add]; exact hs.heap.obj j o ho)
  have eh:(sh.enc (f (g ()))).h=(dO sh.os (g ())).1:=by simp only [Sh.enc]; rw [k2]
  have er:(sh.enc (f (g ()))).r=(xL sh.rs (List.replicate sh.n .bA) (f (g ()))).1:=rfl
  have hNN:∀ b j,C.N β (sh.enc (f (g ()))).h b j->C.N β σ.h b j:=fun b j hb=>by
   rcases hb with hb | ⟨id,o,ho,hw,hbk⟩
   ·exact .inl hb
   ·rw [eh] at ho
    obtain ⟨o0,h1,h2,_⟩:=hob.get id o ho
    exact .inr ⟨id,o0,h1,by rw [<- h2.1]; exact hw,Ob.nR h2.2 rfl rfl hbk⟩
  refine ⟨⟨?_,?_,?_,?_,hs.heap.n0,hs.heap.frame,hs.heap.size,hs.heap.os,hs.heap.tape,hs.heap.output,fun j o hj=>by
   obtain ⟨k1,k2⟩:=hs.heap.fixed j o hj
   exact ⟨by rw [eh,hob.length]; exact k1,k2⟩⟩,hs.defers,?_,?_⟩
  ·intro id o ho
   rw [eh] at ho
   obtain ⟨o0,h1,_,h3⟩:=hob.get id o ho
   rw [Nat.zero_add] at h3
   exact (h3 (hs.heap.obj id o0 h1)).mono (Moves.refl β) (Keep.refl _ w) (fun b j _ hb=>hNN b j hb) fun _ _=>rfl
  ·intro id hid
   rw [eh,hob.length] at hid
   exact hs.heap.dead id hid
  ·intro i j o o' b hi hj hbi hbj
   rw [eh] at hi hj
   obtain ⟨o1,h1,h3,_⟩:=hob.get i o hi
   obtain ⟨o2,h2,h4,_⟩:=hob.get j o' hj
   exact hs.heap.iZ i j o1 o2 b h1 h2 (Ob.gH h3.2 rfl rfl hbi) (Ob.gH h4.2 rfl rfl hbj)
  ·intro id o b ho hb
   rw [eh] at ho
   obtain ⟨o1,h1,h3,_⟩:=hob.get id o ho
   exact hs.heap.pO h1 h3.2 rfl rfl (fun h=>by rw [<- h3.1]; exact h) hb
  ·rw [er,k3,List.length_replicate,<- hn,hs.size]
  ·intro i v hv
   exact (k1 i v (by rw [er] at hv; exact hv)).mono (Moves.refl β) (Keep.refl _ w) fun b j _ hb=>hNN b j hb
 ·cases h
end
end Go.Dec
namespace Go.Dec
def Oh (J:Nat->Act->World->Prop) (Q:Exit->Act->World->Prop):Exit->Act->World->Prop
 | .goto l,a,w=>J l a w
 | e,a,w=>Q e a w
theorem Rv {P:Program} {a:Act} {w:World} {Q:Exit->Act->World->Prop} {c:Code} (J:Nat->Nat->Act->World->Prop)
  (first:c.wp P (Oh (fun l a w=>∃ m,J m l a w) Q) a w)
  (pass:∀ m l a w,J m l a w->∃ rest,findLabel c l=some rest∧rest.wp P (Oh (fun l' a' w'=>∃ m',m' < m∧J m' l' a' w') Q) a w):(Code.scope c).wp P Q a w:=by
 intro b k cs
 have key:∀ m l a w,J m l a w->∃ rest e a' w',findLabel c l=some rest∧Q e a' w'∧Arrives P (lone (b.at a (.code rest :: .inScope c :: k)) cs w) b k cs e a' w':=by
  intro m
  induction m using Nat.strongRecOn with
  | _ m ih =>
   intro l a w hJ
   obtain ⟨rest,hf,hp⟩:=pass m l a w hJ
   obtain ⟨e,a₁,w₁,hq,harr⟩:=hp b (.inScope c :: k) cs
   refine ⟨rest,?_⟩
   cases e with
   | normal=>exact ⟨.normal,a₁,w₁,hf,hq,Steps.trans harr (.one step_inScope)⟩
   | exit id=>exact ⟨.exit id,a₁,w₁,hf,hq,fun k' hk=>harr k' (by simp [exitTo,hk])⟩
   | goto l' =>
    obtain ⟨m',hlt,hJ'⟩:=hq
    obtain ⟨rest',e₂,a₂,w₂,hf',hq₂,harr₂⟩:=ih m' hlt l' a₁ w₁ hJ'
    have hg:gotoIn l' (.inScope c :: k)=some (.code rest' :: .inScope c :: k):=by simp [gotoIn,hf']
    exact ⟨e₂,a₂,w₂,hf,hq₂,.of_steps (harr _ hg) harr₂⟩
   | ret=>exact ⟨_,a₁,w₁,hf,hq,harr⟩
   | panic ch=>exact ⟨_,a₁,w₁,hf,hq,harr⟩
   | outgrown=>exact ⟨_,a₁,w₁,hf,hq,harr⟩
 obtain ⟨e,a₁,w₁,hq,harr⟩:=first b (.inScope c :: k) cs
 cases e with
 | normal=>exact ⟨.normal,a₁,w₁,hq,.head step_scope (Steps.trans harr (.one step_inScope))⟩
 | exit id=>exact ⟨.exit id,a₁,w₁,hq,fun k' hk=>.head step_scope (harr k' (by simp [exitTo,hk]))⟩
 | goto l' =>
  obtain ⟨m,hJ'⟩:=hq
  obtain ⟨rest,e₂,a₂,w₂,hf,hq₂,harr₂⟩:=key m l' a₁ w₁ hJ'
  have hg:gotoIn l' (.inScope c :: k)=some (.code rest :: .inScope c :: k):=by simp [gotoIn,hf]
  exact ⟨e₂,a₂,w₂,hq₂,.of_steps (.head step_scope (harr _ hg)) harr₂⟩
 | ret=>exact ⟨_,a₁,w₁,hq,.of_steps (.one step_scope) harr⟩
 | panic ch=>exact ⟨_,a₁,w₁,hq,.of_steps (.one step_scope) harr⟩
 | outgrown=>exact ⟨_,a₁,w₁,hq,.of_steps (.one step_scope) harr⟩
def flows:List Oper->List Nat->List Nat
 | [],ds=>ds
 | o :: r,ds=>flows r (match o.op,o.dst with
  | .build _ parts,some e=>if parts.toList.any (fun p=>match p.2 with | .tmp t=>ds.any (Nat.beq t) | _=>false) then e :: ds else ds
  | _,_=>ds)
def zPi {ρ:Type} (Γ:Orc ρ) (ops:Array Oper) (o:Oper):Bool :=
 match o.op,o.dst with
 | .buildSlice _ _ _,some d=>(fun ds=>ops.toList.any fun p=>match p.op with
  | .call { callee:=.value (.func f),args,.. }=>args.toList.any (fun x=>match x with | .tmp e=>ds.any (Nat.beq e) | _=>false) && (Γ.pure f).isSome
  | _=>false) (flows ops.toList [d])
 | _,_=>false
section zTt
variable {ρ:Type} (Γ:Orc ρ) (T:Tab)
def Gm (ops:Array Oper) (σ:St) (o:Oper) (k:K ρ):Option ρ :=
 match zPi Γ ops o with
 | true=>match Jo T σ o with
  | some v=>k .normal ⟨bC σ.r o.dst v,σ.h⟩
  | none=>none
 | false=>wF Γ T σ o k
def nC (ops:Array Oper):List Oper->St->K ρ->Option ρ
 | [],σ,k=>k .normal σ
 | o :: rest,σ,k =>
  match o.guard with
  | none=>Gm Γ T ops σ o fun e σ'=>match e with | .normal=>nC ops rest σ' k | e=>k e σ'
  | some (j,want) =>
   match bD ops j with
   | some s =>
    match σ.r.getD s .bA with
    | .one (.val .bool b) =>
     br b
      (match want with
       | true=>Gm Γ T ops ⟨σ.r.set s (.one (.val .bool true)),σ.h⟩ o fun e σ'=>match e with | .normal=>nC ops rest σ' k | e=>k e σ'
       | false=>nC ops rest ⟨bC (σ.r.set s (.one (.val .bool true))) o.dst (.tup []),σ.h⟩ k)
      (match want with
       | false=>Gm Γ T ops ⟨σ.r.set s (.one (.val .bool false)),σ.h⟩ o fun e σ'=>match e with | .normal=>nC ops rest σ' k | e=>k e σ'
       | true=>nC ops rest ⟨bC (σ.r.set s (.one (.val .bool false))) o.dst (.tup []),σ.h⟩ k)
    | .tup []=>nC ops rest ⟨bC σ.r o.dst (.tup []),σ.h⟩ k
    | _=>none
   | none=>none
end zTt
section zQw
variable {ρ:Type} {Γ:Orc ρ} {T:Tab} {C:Ctx}
theorem zBs (hT:aV C.P T) (hΓ:fO C.P Γ) {ops:Array Oper} {β:Nat->Pl} {σ:St} {a:Act} {w:World} {o:Oper} {k:Dec.K ρ} {r:ρ} {next:Act->World->Prop} {Q:Exit->Act->World->Prop} (h:Gm Γ T ops σ o k=some r) (hs:Sim C β σ a w)
  (hn:∀ σ' β' a' w',Sim C β' σ' a' w'->k .normal σ'=some r->next a' w')
  (hq:∀ e x σ' β' a' w',Sim C β' σ' a' w'->e ≠ .normal->eG β' w' (C.N β' σ'.h) e x->k e σ'=some r->Q x a' w'):o.wp C.P a w next Q:=by
 unfold Gm at h
 split at h
 ·split at h
  ·rename_i v hv
   obtain ⟨w',v',hrun,hs',hv'⟩:=zCn hT hs hv
   unfold Oper.wp
   rw [hrun,Oper.upon_value]
   exact hn _ β _ w' (hs'.put o.dst hv') h
  ·cases h
 ·exact Nv hT hΓ h hs hn hq
theorem nD (hT:aV C.P T) (hΓ:fO C.P Γ) {ops:Array Oper} {r:ρ} {Q:Exit->Act->World->Prop} {k:Dec.K ρ}
  (hq:∀ e x σ' β' a' w',Sim C β' σ' a' w'->eG β' w' (C.N β' σ'.h) e x->k e σ'=some r->Q x a' w') :
  ∀ (l:List Oper) (β:Nat->Pl) (σ:St) (a:Act) (w:World),nC Γ T ops l σ k=some r->Sim C β σ a w->wpList C.P ops Q l a w
 | [],β,σ,a,w,h,hs=>hq .normal .normal σ β a w hs rfl h
 | o :: rest,β,σ,a,w,h,hs=>by
  simp only [nC] at h
  have zLi:∀ σ1:St,σ1=σ->(Gm Γ T ops σ1 o fun e σ'=>match e with | .normal=>nC Γ T ops rest σ' k | e=>k e σ')=some r->o.wp C.P a w (wpList C.P ops Q rest) Q:=by
   intro σ1 e1 h1
   subst e1
   refine zBs hT hΓ h1 hs (fun σ' β' a' w' hs' hk=>nD hT hΓ hq rest β' σ' a' w' hk hs') ?_
   intro e x σ' β' a' w' hs' hne hx hk
   refine hq e x σ' β' a' w' hs' hx ?_
   cases e <;> first | exact absurd rfl hne | exact hk
  split at h
  ·rename_i hg
   simp only [wpList]
   rw [if_pos (by simp [Region.wanted,hg])]
   exact .inl (zLi σ rfl h)
  ·rename_i j want hg
   split at h
   ·rename_i s hsl
    split at h
    ·rename_i b hb
     have wH:∃ v,σ.r[s]?=some v∧v=.one (.val .bool b):=by
      rw [List.getD_eq_getElem?_getD] at hb
      cases hr:σ.r[s]? with
      | none=>rw [hr] at hb; cases hb
      | some v=>rw [hr] at hb; exact ⟨v,rfl,hb⟩
     obtain ⟨v,hv,rfl⟩:=wH
     have hval:=hs.reg s _ hv
     simp only [V.Rel,L.Rel,Ty.Rel,aJ,and_true] at hval
     have hy:=Dt hsl hval
     have hwant:Region.wanted o (yielded ops a.tmps)=(b == want):=by
      simp only [Region.wanted,hg,hy]
      cases b <;> cases want <;> rfl
     have hset:σ.r.set s (.one (.val .bool b))=σ.r:=zCm hb (by simp)
     simp only [wpList]
     rcases vP h with ⟨rfl,h1⟩ | ⟨rfl,h1⟩
     ·cases want with
      | true =>
       rw [if_pos (by rw [hwant]; rfl)]
       exact .inl (zLi _ (by rw [hset]) h1)
      | false =>
       rw [if_neg (by rw [hwant]; simp)]
       simp only [hset] at h1
       exact nD hT hΓ hq rest β _ _ w h1 (hs.put o.dst (v:=.tup []) ⟨[],rfl,trivial⟩)
     ·cases want with
      | false =>
       rw [if_pos (by rw [hwant]; rfl)]
       exact .inl (zLi _ (by rw [hset]) h1)
      | true =>
       rw [if_neg (by rw [hwant]; simp)]
       simp only [hset] at h1
       exact nD hT hΓ hq rest β _ _ w h1 (hs.put o.dst (v:=.tup []) ⟨[],rfl,trivial⟩)
    ·rename_i hb
     have wH:σ.r[s]?=some (.tup []):=by
      rw [List.getD_eq_getElem?_getD] at hb
      cases hr:σ.r[s]? with
      | none=>rw [hr] at hb; cases hb
      | some v=>rw [hr] at hb; simp at hb; rw [hb]
     have hval:=hs.reg s _ wH
     obtain ⟨us,hval,hus⟩:=hval
     have hwant:Region.wanted o (yielded ops a.tmps)=false:=by
      simp only [Region.wanted,hg,Du hsl hval]
      cases want <;> rfl
     simp only [wpList]
     rw [if_neg (by rw [hwant]; simp)]
     exact nD hT hΓ hq rest β _ _ w h (hs.put o.dst (v:=.tup []) ⟨[],rfl,trivial⟩)
    ·cases h
   ·cases h
end zQw
inductive An (ρ:Type) where
 | nil
 | mk (l r:An ρ) (c:List Co)
 | loop (sh:Sh) (c0 c1:List Co) (n:Nat) (a:An ρ)
 | scope (l:Nat) (a b:An ρ)
 | sem (f:pF ρ)
 | co (cs:List Co) (a:An ρ)
 | join (sh:Sh) (cs:List Co) (a:An ρ)
def An.l {ρ:Type}:An ρ->An ρ
 | .mk l _ _=>l
 | .scope _ a _=>a
 | _=>.nil
def An.r {ρ:Type}:An ρ->An ρ
 | .mk _ r _=>r
 | _=>.nil
def An.c {ρ:Type}:An ρ->List Co
 | .mk _ _ c=>c
 | _=>[]
def fix {ρ α:Type} (B:(α->Option ρ)->α->Option ρ):Nat->α->Option ρ
 | 0,_=>none
 | n+1,x=>B (fix B n) x
def enter {ρ:Type} (T:Tab) (sh:Sh) (co:List Co) (σ:St) (g:sh.X->Option ρ):Option ρ :=
 norm T co σ fun σ1=>match sh.dec σ1 with
  | some x=>g x
  | none=>none
def An.plain {ρ:Type}:An ρ->Bool
 | .nil=>true
 | .mk l r _=>l.plain && r.plain
 | .loop _ _ _ _ a=>a.plain
 | .scope _ a _=>a.plain
 | .sem _=>false
 | .co _ a=>a.plain
 | .join _ _ a=>a.plain
def An.fx {ρ:Type} (k:Nat):An ρ->Bool
 | .nil=>true
 | .mk l r c=>l.fx k && (r.fx k && aY (Co.fx k) c)
 | .loop _ c0 c1 _ a=>aY (Co.fx k) c0 && (aY (Co.fx k) c1 && a.fx k)
 | .scope _ a b=>a.fx k && b.fx k
 | .sem _=>true
 | .co c a=>aY (Co.fx k) c && a.fx k
 | .join _ c a=>aY (Co.fx k) c && a.fx k
section ev
variable {ρ:Type} (Γ:Orc ρ) (T:Tab)
def nU (an:An ρ) (σ:St) (k:K ρ) (d:Option ρ):Option ρ :=
 match an with
 | .sem f=>f σ k
 | _=>d
def jn {ρ α:Type} (f:α->Option ρ) (x:α):Option ρ:=f x
def evA (f:An ρ->pF ρ):An ρ->pF ρ
 | .co cs a=>fun σ k=>norm T cs σ fun σ'=>evA f a σ' k
 | .join sh cs a=>fun σ k=>evA f a σ fun e σ'=>match e with
  | .normal=>enter T sh cs σ' (jn fun x=>k .normal (sh.enc x))
  | e=>k e σ'
 | an=>f an
def goK (J:Code->Nat->An ρ->pF ρ) (a:Code) (k:K ρ) (l0:Nat) (sh:Sh) (c:List Co) (l2:Nat) (b2:An ρ) (g:sh.X->Option ρ):K ρ:=fun e σ'=>match e with
 | .goto l=>match Nat.beq l l0 with
  | true=>enter T sh c σ' g
  | false=>match Nat.beq l l2 with
   | true=>J a l2 b2 σ' fun e σ2=>match e with
    | .goto _=>none
    | e=>k e σ2
   | false=>none
 | e=>k e σ'
def zCr (J : Code -> Nat -> An ρ -> pF ρ) (a : Code) (f : An ρ -> pF ρ) : An ρ -> pF ρ
  | .scope l0 a0 (.loop sh c0 c1 n (.scope l2 b b2)) => fun σ k => evA T f a0 σ (goK T J a k l0 sh c0 l2 b2 (fix (fun g x => J a l0 b (sh.enc x) (goK T J a k l0 sh c1 l2 b2 g)) n))
  | an => fun σ k => nU an σ k (evA T f an.l σ fun e σ' => match e with
      | .goto l => match an with
        | .scope l0 _ b => match Nat.beq l l0 with
          | true => J a l0 b σ' fun e σ2 => match e with
            | .goto _ => none
            | e => k e σ2
          | false => none
        | _ => none
      | e => k e σ')
def evG (J:Code->Nat->An ρ->pF ρ):Code->An ρ->St->K ρ->Option ρ
 | .skip,an,σ,k=>nU an σ k (k .normal σ)
 | .region _ ops d,an,σ,k=>nU an σ k (match d with
   | false=>nC Γ T ops ops.toList σ k
   | true=>Rq Γ T ops σ k)
 | .seq a b,an,σ,k=>nU an σ k (evA T (evG J a) an.l σ fun e σ'=>match e with
   | .normal=>norm T an.c σ' fun σ2=>evA T (evG J b) an.r σ2 k
   | e=>k e σ')
 | .cond c a b,an,σ,k=>nU an σ k (match ovl σ c with
   | .one (.val .bool t)=>br t (evA T (evG J a) an.l σ k) (evA T (evG J b) an.r σ k)
   | _=>none)
 | .block id a,an,σ,k=>nU an σ k (evA T (evG J a) an.l σ fun e σ'=>match e with
   | .normal=>norm T an.c σ' (k .normal)
   | .exit i=>match Nat.beq i id with
    | true=>norm T an.c σ' (k .normal)
    | false=>k (.exit i) σ'
   | e=>k e σ')
 | .scope a,an,σ,k=>zCr T J a (evG J a) an σ k
 | .loop b,an,σ,k=>nU an σ k (match an with
   | .loop sh c0 c1 n a=>enter T sh c0 σ fun x=>fix (fun g x=>evA T (evG J b) a (sh.enc x) fun e σ'=>match e with
    | .normal=>enter T sh c1 σ' g
    | e=>k e σ') n x
   | _=>none)
 | .exit id,an,σ,k=>nU an σ k (k (.exit id) σ)
 | .goto l,an,σ,k=>nU an σ k (k (.goto l) σ)
 | .label _,an,σ,k=>nU an σ k (k .normal σ)
 | .ret,an,σ,k=>nU an σ k (k .ret σ)
 | _,an,σ,k=>nU an σ k none
def ev0 (c:Code) (an:An ρ):pF ρ:=evA T (evG Γ T (fun _ _ _ _ _=>none) c) an
def zFd (a:Code) (l:Nat) (an:An ρ):pF ρ:=fun σ k =>
 match findLabel a l with
 | some rest =>
  match an.plain with
  | true=>ev0 Γ T rest an σ k
  | false=>none
 | none=>none
def ev (c:Code) (an:An ρ):pF ρ:=evA T (evG Γ T (zFd Γ T) c) an
end ev
def vD (P:Program) (kf:Nat) {ρ:Type} (c:Code) (f:pF ρ):Prop:=∀ (σ:St) (k:K ρ) (r:ρ),f σ k=some r->∀ (C:Ctx) (β:Nat->Pl) (a:Act) (w:World) (Q:Exit->Act->World->Prop),C.P=P->C.fix.length <= kf->Sim C β σ a w ->
 (∀ e x σ' β' a' w',Sim C β' σ' a' w'->eG β' w' (C.N β' σ'.h) e x->k e σ'=some r->Q x a' w')->c.wp P Q a w
def kT {ρ:Type} (f:An ρ->Prop):An ρ->Prop
 | .co _ a=>kT f a
 | .join _ _ a=>kT f a
 | an=>f an
def AnG (P:Program) (kf:Nat) {ρ:Type}:Code->An ρ->Prop
 | c,.sem f=>vD P kf c f
 | .seq a b,an=>kT (AnG P kf a) an.l∧kT (AnG P kf b) an.r
 | .cond _ a b,an=>kT (AnG P kf a) an.l∧kT (AnG P kf b) an.r
 | .block _ a,an=>kT (AnG P kf a) an.l
 | .scope a,an=>kT (AnG P kf a) an.l
 | .loop b,.loop _ _ _ _ a=>kT (AnG P kf b) a
 | _,_=>True
def Xr (P:Program) (kf:Nat) {ρ:Type} (c:Code) (an:An ρ):Prop:=kT (AnG P kf c) an
section sound
variable {ρ:Type} {Γ:Orc ρ} {T:Tab} {P:Program}
theorem eT {an:An ρ} {σ:St} {k:K ρ} {d:Option ρ} {r:ρ} (h:nU an σ k d=some r):(∃ f,an=.sem f∧f σ k=some r)∨((∀ f,an ≠ .sem f)∧d=some r):=by
 cases an with
 | sem f=>exact .inl ⟨f,rfl,h⟩
 | nil=>exact .inr ⟨by simp,h⟩
 | mk l r c=>exact .inr ⟨by simp,h⟩
 | loop sh c0 c1 n a=>exact .inr ⟨by simp,h⟩
 | scope l a b=>exact .inr ⟨by simp,h⟩
 | co c a=>exact .inr ⟨by simp,h⟩
 | join sh c a=>exact .inr ⟨by simp,h⟩
theorem AnG.sem {kf:Nat} {c:Code} {f:pF ρ} (h:AnG P kf c (.sem f)):vD P kf c f:=by
 cases c <;> exact h
theorem zIr {kf:Nat} (hT:aV P T) (hΓ:fO P Γ) (id:Nat) (ops:Array Oper):vD P kf (.region id ops false) (fun σ k=>nC Γ T ops ops.toList σ k):=by
 intro σ k r h C β a w Q hP _ hs hq
 subst hP
 refine wp_region ?_
 rw [show List.range ops.size=List.range' 0 ops.toList.length by simp [List.range_eq_range'],wpOps_eq_wpList ops.toList 0 (by simp)]
 exact nD hT hΓ hq ops.toList β σ a w h hs
theorem tJ {C:Ctx} {β:Nat->Pl} {σ:St} {a:Act} {w:World} {sh:Sh} {co:List Co} {g:sh.X->Option ρ} {r:ρ} (hT:aV C.P T) {kf:Nat} (hkf:C.fix.length <= kf) (hfx:aY (Co.fx kf) co=true) (h:enter T sh co σ g=some r) (hs:Sim C β σ a w) :
  ∃ (β':Nat->Pl) (_σ':St) (x:sh.X),Sim C β' (sh.enc x) a w∧g x=some r:=by
 obtain ⟨β2,σ2,hs2,hk2⟩:=rG hT hkf hfx h hs
 split at hk2
 ·rename_i x hx
  exact ⟨β2,σ2,x,zCq hx hs2,hk2⟩
 ·cases hk2
theorem fK (hT:aV P T) {kf:Nat} {c:Code} {f:An ρ->pF ρ} {Q:An ρ->Prop} (hf:∀ an,Q an->an.fx kf=true->vD P kf c (f an)):∀ an,kT Q an->an.fx kf=true->vD P kf c (evA T f an)
 | .co cs a,ha,hx=>by
  simp only [An.fx,aD] at hx
  intro σ k r h C β ac w R hP hkf hs hq
  obtain ⟨β',σ',hs',hk⟩:=rG (hP ▸ hT:aV C.P T) hkf hx.1 h hs
  exact fK hT hf a ha hx.2 σ' k r hk C β' ac w R hP hkf hs' hq
 | .join sh cs a,ha,hx=>by
  simp only [An.fx,aD] at hx
  intro σ k r h C β ac w R hP hkf hs hq
  refine fK hT hf a ha hx.2 σ _ r h C β ac w R hP hkf hs ?_
  intro e x σ' β' a' w' hs' hxr hk
  cases e with
  | normal =>
   obtain ⟨β2,σ2,x2,hs2,hk2⟩:=tJ (hP ▸ hT:aV C.P T) hkf hx.1 hk hs'
   exact hq .normal x (sh.enc x2) β2 a' w' hs2 hxr hk2
  | exit i=>exact hq (.exit i) x σ' β' a' w' hs' hxr hk
  | goto l=>exact hq (.goto l) x σ' β' a' w' hs' hxr hk
  | ret=>exact hq .ret x σ' β' a' w' hs' hxr hk
  | pan t v=>exact hq (.pan t v) x σ' β' a' w' hs' hxr hk
 | .nil,ha,hx=>hf _ ha hx
 | .mk ..,ha,hx=>hf _ ha hx
 | .loop ..,ha,hx=>hf _ ha hx
 | .scope ..,ha,hx=>hf _ ha hx
 | .sem ..,ha,hx=>hf _ ha hx
theorem An.Xt {kf:Nat} {an:An ρ} (h:an.fx kf=true):an.l.fx kf=true:=by
 cases an <;> simp_all [An.fx,An.l]
theorem An.zQx {kf:Nat} {an:An ρ} (h:an.fx kf=true):an.r.fx kf=true:=by
 cases an <;> simp_all [An.fx,An.r]
theorem An.zLj {kf:Nat} {an:An ρ} (h:an.fx kf=true):aY (Co.fx kf) an.c=true:=by
 cases an <;> simp_all [An.fx,An.c,aY]
theorem iC {kf : Nat} {J : Code -> Nat -> An ρ -> pF ρ} (hT : aV P T) (hΓ : fO P Γ) (hm : P.follows .mixedOrders = true) (hJ : ∀ a l an, (∀ rest, findLabel a l = some rest -> an.fx kf = true -> vD P kf rest (J a l an)) ∧ (findLabel a l = none -> ∀ σ k r, J a l an σ k ≠ some r)) : ∀ (c : Code) (an : An ρ), AnG P kf c an -> an.fx kf = true -> vD P kf c (evG Γ T J c an)
  | .skip, an, ha, hfx => by
    intro σ k r h C β a w Q hP hkf hs hq
    rcases eT h with ⟨f, rfl, hf⟩ | ⟨_, hd⟩
    · exact (AnG.sem ha) σ k r hf C β a w Q hP hkf hs hq
    · exact wp_skip (hq .normal .normal σ β a w hs rfl hd)
  | .region id ops d, an, ha, hfx => by
    intro σ k r h C β a w Q hP hkf hs hq
    rcases eT h with ⟨f, rfl, hf⟩ | ⟨_, hd⟩
    · exact (AnG.sem ha) σ k r hf C β a w Q hP hkf hs hq
    · cases d with
      | false => exact zIr hT hΓ id ops σ k r hd C β a w Q hP hkf hs hq
      | true =>
        subst hP
        exact zLc hT hΓ hm hq hd hs
  | .seq x y, an, ha, hfx => by
    intro σ k r h C β a w Q hP hkf hs hq
    rcases eT h with ⟨f, rfl, hf⟩ | ⟨hne, hd⟩
    · exact (AnG.sem ha) σ k r hf C β a w Q hP hkf hs hq
    · have ha' : kT (AnG P kf x) an.l ∧ kT (AnG P kf y) an.r := by cases an <;> first | exact absurd rfl (hne _) | exact ha
      refine wp_seq (fK hT (iC hT hΓ hm hJ x) an.l ha'.1 (An.Xt hfx) σ _ r hd C β a w _ hP hkf hs ?_)
      intro e ex σ' β' a' w' hs' hx hk
      cases e with
      | normal =>
        obtain rfl := hx
        obtain ⟨β2, σ2, hs2, hk2⟩ := rG (hP ▸ hT : aV C.P T) hkf (An.zLj hfx) hk hs'
        exact fK hT (iC hT hΓ hm hJ y) an.r ha'.2 (An.zQx hfx) σ2 k r hk2 C β2 a' w' Q hP hkf hs2 hq
      | exit i => obtain rfl := hx; exact hq (.exit i) _ σ' β' a' w' hs' rfl hk
      | goto l => obtain rfl := hx; exact hq (.goto l) _ σ' β' a' w' hs' rfl hk
      | ret => obtain rfl := hx; exact hq .ret _ σ' β' a' w' hs' rfl hk
      | pan t v => have hx' := hx; obtain ⟨z, rfl, _⟩ := hx; exact hq (.pan t v) _ σ' β' a' w' hs' hx' hk
  | .cond c x y, an, ha, hfx => by
    intro σ k r h C β a w Q hP hkf hs hq
    rcases eT h with ⟨f, rfl, hf⟩ | ⟨hne, hd⟩
    · exact (AnG.sem ha) σ k r hf C β a w Q hP hkf hs hq
    · have ha' : kT (AnG P kf x) an.l ∧ kT (AnG P kf y) an.r := by cases an <;> first | exact absurd rfl (hne _) | exact ha
      split at hd
      · rename_i t ht
        have hc := aM hs c
        rw [ht] at hc
        simp only [V.Rel, L.Rel, Ty.Rel, aJ, and_true] at hc
        rcases vP hd with ⟨rfl, h1⟩ | ⟨rfl, h1⟩
        · exact wp_cond_true hc (fK hT (iC hT hΓ hm hJ x) an.l ha'.1 (An.Xt hfx) σ k r h1 C β a w Q hP hkf hs hq)
        · exact wp_cond_false hc (fK hT (iC hT hΓ hm hJ y) an.r ha'.2 (An.zQx hfx) σ k r h1 C β a w Q hP hkf hs hq)
      · cases hd
  | .block id x, an, ha, hfx => by
    intro σ k r h C β a w Q hP hkf hs hq
    rcases eT h with ⟨f, rfl, hf⟩ | ⟨hne, hd⟩
    · exact (AnG.sem ha) σ k r hf C β a w Q hP hkf hs hq
    · have ha' : kT (AnG P kf x) an.l := by cases an <;> first | exact absurd rfl (hne _) | exact ha
      refine wp_block (fK hT (iC hT hΓ hm hJ x) an.l ha' (An.Xt hfx) σ _ r hd C β a w _ hP hkf hs ?_)
      intro e ex σ' β' a' w' hs' hx hk
      cases e with
      | normal =>
        obtain rfl := hx
        obtain ⟨β2, σ2, hs2, hk2⟩ := rG (hP ▸ hT : aV C.P T) hkf (An.zLj hfx) hk hs'
        exact hq .normal .normal σ2 β2 a' w' hs2 rfl hk2
      | exit i =>
        obtain rfl := hx
        simp only at hk
        split at hk
        · rename_i hb
          have hb := aF hb
          subst hb
          obtain ⟨β2, σ2, hs2, hk2⟩ := rG (hP ▸ hT : aV C.P T) hkf (An.zLj hfx) hk hs'
          simp only [Exit.inBlock, if_true]
          exact hq .normal .normal σ2 β2 a' w' hs2 rfl hk2
        · rename_i hb
          have hne : i ≠ id := fun e => by rw [e, Nat.beq_refl] at hb; cases hb
          simp only [Exit.inBlock, hne, if_false]
          exact hq (.exit i) _ σ' β' a' w' hs' rfl hk
      | goto l => obtain rfl := hx; exact hq (.goto l) _ σ' β' a' w' hs' rfl hk
      | ret => obtain rfl := hx; exact hq .ret _ σ' β' a' w' hs' rfl hk
      | pan t v => have hx' := hx; obtain ⟨z, rfl, _⟩ := hx; exact hq (.pan t v) _ σ' β' a' w' hs' hx' hk
  | .scope x, an, ha, hfx => by
    intro σ k r h C β a w Q hP hkf hs hq
    simp only [evG] at h
    unfold zCr at h
    split at h
    · rename_i l0 a0 sh c0 c1 n l2 b b2
      have hT' : aV C.P T := hP ▸ hT
      have hx := hfx
      simp only [An.fx, aD] at hx
      obtain ⟨hxa, zTu, zTv, hxb, zTw⟩ := hx
      have ha' : kT (AnG P kf x) a0 := ha
      have go : ∀ {m : Nat} {co : List Co} {g : sh.X -> Option ρ} {e : Ex} {ex : Exit} {σ' : St} {β' : Nat -> Pl} {a' : Act} {w' : World}, aY (Co.fx kf) co = true ->
          Sim C β' σ' a' w' -> eG β' w' (C.N β' σ'.h) e ex -> goK T J x k l0 sh co l2 b2 g e σ' = some r -> (∀ y, g y = some r -> fix (fun g y => J x l0 b (sh.enc y) (goK T J x k l0 sh c1 l2 b2 g)) m y = some r) ->
          Oh (fun l a w => ∃ m', m' < m + 2 ∧ ((l = l0 ∧ 0 < m' ∧ ∃ β y, Sim C β (sh.enc y) a w ∧ fix (fun g y => J x l0 b (sh.enc y) (goK T J x k l0 sh c1 l2 b2 g)) (m' - 1) y = some r) ∨
            (l = l2 ∧ ∃ β σ, Sim C β σ a w ∧ (J x l2 b2 σ fun e σ2 => match e with | .goto _ => none | e => k e σ2) = some r))) Q ex a' w' := by
        intro m co g e ex σ' β' a' w' hco hs' hx hk hg
        cases e with
        | normal => obtain rfl := hx; exact hq .normal _ σ' β' a' w' hs' rfl hk
        | exit i => obtain rfl := hx; exact hq (.exit i) _ σ' β' a' w' hs' rfl hk
        | goto l =>
          obtain rfl := hx
          simp only [goK] at hk
          split at hk
          · rename_i hb
            obtain ⟨β2, σ2, y, hs2, hk2⟩ := tJ hT' hkf hco hk hs'
            exact ⟨m + 1, by omega, .inl ⟨aF hb, by omega, β2, y, hs2, hg y hk2⟩⟩
          · split at hk
            · rename_i hb
              exact ⟨0, by omega, .inr ⟨aF hb, β', σ', hs', hk⟩⟩
            · cases hk
        | ret => obtain rfl := hx; exact hq .ret _ σ' β' a' w' hs' rfl hk
        | pan t v => have hx' := hx; obtain ⟨z, rfl, _⟩ := hx; exact hq (.pan t v) _ σ' β' a' w' hs' hx' hk
      have weak : ∀ {m : Nat} {ex : Exit} {a' : Act} {w' : World} {J1 : Nat -> Nat -> Act -> World -> Prop}, Oh (fun l a w => ∃ m', m' < m ∧ J1 m' l a w) Q ex a' w' -> Oh (fun l a w => ∃ m', J1 m' l a w) Q ex a' w' := by
        intro m ex a' w' J1 h
        cases ex with
        | goto l => obtain ⟨m', _, h⟩ := h; exact ⟨m', h⟩
        | normal => exact h
        | exit i => exact h
        | ret => exact h
        | panic c => exact h
        | outgrown => exact h
      refine Rv (fun m' l a w => (l = l0 ∧ 0 < m' ∧ ∃ β y, Sim C β (sh.enc y) a w ∧ fix (fun g y => J x l0 b (sh.enc y) (goK T J x k l0 sh c1 l2 b2 g)) (m' - 1) y = some r) ∨
            (l = l2 ∧ ∃ β σ, Sim C β σ a w ∧ (J x l2 b2 σ fun e σ2 => match e with | .goto _ => none | e => k e σ2) = some r)) ?_ ?_
      · refine fK hT (iC hT hΓ hm hJ x) a0 ha' hxa σ _ r h C β a w _ hP hkf hs ?_
        intro e ex σ' β' a' w' hs' hx hk
        exact weak (go zTu hs' hx hk (fun y hy => hy))
      · rintro m l a1 w1 (⟨rfl, hm0, β1, y, hs1, h1⟩ | ⟨rfl, β1, σ1, hs1, h1⟩)
        · obtain ⟨m, rfl⟩ : ∃ m2, m = m2 + 1 := ⟨m - 1, by omega⟩
          simp only [Nat.add_sub_cancel] at h1
          cases m with
          | zero => cases h1
          | succ m =>
            simp only [fix] at h1
            cases hfl : findLabel x l with
            | none => exact absurd h1 ((hJ x l b).2 hfl _ _ _)
            | some rest =>
              refine ⟨rest, rfl, ?_⟩
              refine (hJ x l b).1 rest hfl hxb _ _ r h1 C β1 a1 w1 _ hP hkf hs1 ?_
              intro e ex σ' β' a' w' hs' hx hk
              exact go zTv hs' hx hk (fun y hy => hy)
        · cases hfl : findLabel x l with
          | none => exact absurd h1 ((hJ x l b2).2 hfl _ _ _)
          | some rest =>
            refine ⟨rest, rfl, ?_⟩
            refine (hJ x l b2).1 rest hfl zTw σ1 _ r h1 C β1 a1 w1 _ hP hkf hs1 ?_
            intro e ex σ' β' a' w' hs' hx hk
            cases e with
            | normal => obtain rfl := hx; exact hq .normal _ σ' β' a' w' hs' rfl hk
            | exit i => obtain rfl := hx; exact hq (.exit i) _ σ' β' a' w' hs' rfl hk
            | goto l => cases hk
            | ret => obtain rfl := hx; exact hq .ret _ σ' β' a' w' hs' rfl hk
            | pan t v => have hx' := hx; obtain ⟨z, rfl, _⟩ := hx; exact hq (.pan t v) _ σ' β' a' w' hs' hx' hk
    rcases eT h with ⟨f, rfl, hf⟩ | ⟨hne, hd⟩
    · exact (AnG.sem ha) σ k r hf C β a w Q hP hkf hs hq
    · have ha' : kT (AnG P kf x) an.l := by cases an <;> first | exact absurd rfl (hne _) | exact ha
      by_cases hsc : ∃ l0 x' b rest, an = .scope l0 x' b ∧ findLabel x l0 = some rest
      · obtain ⟨l0, x', b, rest, rfl, hfl⟩ := hsc
        refine wp_scope_jumps l0 (fun a' w' => ∃ β' σ', Sim C β' σ' a' w' ∧ (J x l0 b σ' fun e σ2 => match e with | .goto _ => none | e => k e σ2) = some r) (fun _ _ => 0) hfl ?_ ?_
        · refine fK hT (iC hT hΓ hm hJ x) _ ha' (An.Xt hfx) σ _ r hd C β a w _ hP hkf hs ?_
          intro e ex σ' β' a' w' hs' hx hk
          cases e with
          | normal => obtain rfl := hx; exact hq .normal _ σ' β' a' w' hs' rfl hk
          | exit i => obtain rfl := hx; exact hq (.exit i) _ σ' β' a' w' hs' rfl hk
          | goto l =>
            obtain rfl := hx
            simp only at hk
            split at hk
            · rename_i hb
              exact ⟨aF hb, β', σ', hs', hk⟩
            · cases hk
          | ret => obtain rfl := hx; exact hq .ret _ σ' β' a' w' hs' rfl hk
          | pan t v => have hx' := hx; obtain ⟨z, rfl, _⟩ := hx; exact hq (.pan t v) _ σ' β' a' w' hs' hx' hk
        · rintro a1 w1 ⟨β1, σ1, hs1, h1⟩
          refine (hJ x l0 b).1 rest hfl (by simp only [An.fx, aD] at hfx; exact hfx.2) σ1 _ r h1 C β1 a1 w1 _ hP hkf hs1 ?_
          intro e ex σ' β' a' w' hs' hx hk
          cases e with
          | normal => obtain rfl := hx; exact hq .normal _ σ' β' a' w' hs' rfl hk
          | exit i => obtain rfl := hx; exact hq (.exit i) _ σ' β' a' w' hs' rfl hk
          | goto l => cases hk
          | ret => obtain rfl := hx; exact hq .ret _ σ' β' a' w' hs' rfl hk
          | pan t v => have hx' := hx; obtain ⟨z, rfl, _⟩ := hx; exact hq (.pan t v) _ σ' β' a' w' hs' hx' hk
      · refine wp_scope_straight (fK hT (iC hT hΓ hm hJ x) an.l ha' (An.Xt hfx) σ _ r hd C β a w _ hP hkf hs ?_)
        intro e ex σ' β' a' w' hs' hx hk
        cases e with
        | normal => obtain rfl := hx; exact hq .normal _ σ' β' a' w' hs' rfl hk
        | exit i => obtain rfl := hx; exact hq (.exit i) _ σ' β' a' w' hs' rfl hk
        | goto l =>
          exfalso
          simp only at hk
          split at hk
          · rename_i l0 x' b _
            split at hk
            · cases hfl : findLabel x l0 with
              | none => exact (hJ x l0 b).2 hfl _ _ _ hk
              | some rest => exact hsc ⟨l0, x', b, rest, rfl, hfl⟩
            · cases hk
          · cases hk
        | ret => obtain rfl := hx; exact hq .ret _ σ' β' a' w' hs' rfl hk
        | pan t v => have hx' := hx; obtain ⟨z, rfl, _⟩ := hx; exact hq (.pan t v) _ σ' β' a' w' hs' hx' hk
  | .loop x, an, ha, hfx => by
    intro σ k r h C β a w Q hP hkf hs hq
    rcases eT h with ⟨f, rfl, hf⟩ | ⟨hne, hd⟩
    · exact (AnG.sem ha) σ k r hf C β a w Q hP hkf hs hq
    · cases an with
      | loop sh c0 c1 n an' =>
        have ha' : kT (AnG P kf x) an' := ha
        simp only [An.fx, aD] at hfx
        have hT' : aV C.P T := hP ▸ hT
        refine wp_loop_rounds n ?_
        obtain ⟨β1, σ1, x1, hs1, h1⟩ := tJ hT' hkf hfx.1 hd hs
        clear hd hs h hne ha
        revert x1 β1 a w
        induction n with
        | zero => intro a w β1 x1 _ h; cases h
        | succ n ih =>
          intro a w β1 x1 hs1 h1
          rw [rounds_succ]
          refine fK hT (iC hT hΓ hm hJ x) an' ha' hfx.2.2 _ _ r h1 C β1 a w _ hP hkf hs1 ?_
          intro e ex σ' β' a' w' hs' hx hk
          cases e with
          | normal =>
            obtain rfl := hx
            obtain ⟨β2, σ2, x2, hs2, hk2⟩ := tJ hT' hkf hfx.2.1 hk hs'
            exact ih a' w' β2 x2 hs2 hk2
          | exit i => obtain rfl := hx; exact hq (.exit i) _ σ' β' a' w' hs' rfl hk
          | goto l => obtain rfl := hx; exact hq (.goto l) _ σ' β' a' w' hs' rfl hk
          | ret => obtain rfl := hx; exact hq .ret _ σ' β' a' w' hs' rfl hk
          | pan t v => have hx' := hx; obtain ⟨z, rfl, _⟩ := hx; exact hq (.pan t v) _ σ' β' a' w' hs' hx' hk
      | _ => cases hd
  | .exit id, an, ha, hfx => by
    intro σ k r h C β a w Q hP hkf hs hq
    rcases eT h with ⟨f, rfl, hf⟩ | ⟨_, hd⟩
    · exact (AnG.sem ha) σ k r hf C β a w Q hP hkf hs hq
    · exact wp_exit (hq (.exit id) _ σ β a w hs rfl hd)
  | .goto l, an, ha, hfx => by
    intro σ k r h C β a w Q hP hkf hs hq
    rcases eT h with ⟨f, rfl, hf⟩ | ⟨_, hd⟩
    · exact (AnG.sem ha) σ k r hf C β a w Q hP hkf hs hq
    · exact wp_goto (hq (.goto l) _ σ β a w hs rfl hd)
  | .label l, an, ha, hfx => by
    intro σ k r h C β a w Q hP hkf hs hq
    rcases eT h with ⟨f, rfl, hf⟩ | ⟨_, hd⟩
    · exact (AnG.sem ha) σ k r hf C β a w Q hP hkf hs hq
    · exact wp_label (hq .normal _ σ β a w hs rfl hd)
  | .ret, an, ha, hfx => by
    intro σ k r h C β a w Q hP hkf hs hq
    rcases eT h with ⟨f, rfl, hf⟩ | ⟨_, hd⟩
    · exact (AnG.sem ha) σ k r hf C β a w Q hP hkf hs hq
    · exact wp_ret (hq .ret _ σ β a w hs rfl hd)
  | .rangeFunc g ps x y, an, ha, hfx => by
    intro σ k r h C β a w Q hP hkf hs hq
    rcases eT h with ⟨f, rfl, hf⟩ | ⟨_, hd⟩
    · exact (AnG.sem ha) σ k r hf C β a w Q hP hkf hs hq
    · cases hd
  | .refuse why, an, ha, hfx => by
    intro σ k r h C β a w Q hP hkf hs hq
    rcases eT h with ⟨f, rfl, hf⟩ | ⟨_, hd⟩
    · exact (AnG.sem ha) σ k r hf C β a w Q hP hkf hs hq
    · cases hd
theorem An.Gn {ρ:Type} {an:An ρ} (h:an.plain=true):an.l.plain=true:=by
 cases an <;> simp_all [An.plain,An.l]
theorem An.zCs {ρ:Type} {an:An ρ} (h:an.plain=true):an.r.plain=true:=by
 cases an <;> simp_all [An.plain,An.r]
theorem mK {Q:An ρ->Prop} (h:∀ an:An ρ,an.plain=true->Q an):∀ an:An ρ,an.plain=true->kT Q an
 | .co _ a,hp=>mK h a hp
 | .join _ _ a,hp=>mK h a hp
 | .nil,hp=>h _ hp
 | .mk ..,hp=>h _ hp
 | .loop ..,hp=>h _ hp
 | .scope ..,hp=>h _ hp
 | .sem _,hp=>by cases hp
theorem pU {kf:Nat}:∀ (c:Code) (an:An ρ),an.plain=true->AnG P kf c an
 | .seq a b,an,h=>by
  have:=And.intro (mK (pU (kf:=kf) a) an.l (An.Gn h)) (mK (pU (kf:=kf) b) an.r (An.zCs h))
  cases an <;> first | (cases h; done) | exact this
 | .cond _ a b,an,h=>by
  have:=And.intro (mK (pU (kf:=kf) a) an.l (An.Gn h)) (mK (pU (kf:=kf) b) an.r (An.zCs h))
  cases an <;> first | (cases h; done) | exact this
 | .block _ a,an,h=>by
  have:=mK (pU (kf:=kf) a) an.l (An.Gn h)
  cases an <;> first | (cases h; done) | exact this
 | .scope a,an,h=>by
  have:=mK (pU (kf:=kf) a) an.l (An.Gn h)
  cases an <;> first | (cases h; done) | exact this
 | .loop b,an,h=>by
  cases an with
  | loop sh c0 c1 n a=>exact mK (pU (kf:=kf) b) a h
  | sem f=>cases h
  | _=>trivial
 | .skip,an,h=>by cases an <;> first | (cases h; done) | trivial
 | .region ..,an,h=>by cases an <;> first | (cases h; done) | trivial
 | .exit _,an,h=>by cases an <;> first | (cases h; done) | trivial
 | .goto _,an,h=>by cases an <;> first | (cases h; done) | trivial
 | .label _,an,h=>by cases an <;> first | (cases h; done) | trivial
 | .ret,an,h=>by cases an <;> first | (cases h; done) | trivial
 | .rangeFunc ..,an,h=>by cases an <;> first | (cases h; done) | trivial
 | .refuse _,an,h=>by cases an <;> first | (cases h; done) | trivial
theorem fJ {kf:Nat} (c:Code) (an:An ρ) (h:an.plain=true):Xr P kf c an:=mK (pU c) an h
theorem zIs {kf:Nat} (hT:aV P T) (hΓ:fO P Γ) (hm:P.follows .mixedOrders=true) (c:Code) (an:An ρ) (ha:Xr P kf c an) (hfx:an.fx kf=true):vD P kf c (ev0 Γ T c an) :=
 fK hT (iC hT hΓ hm (fun _ _ _=>⟨fun _ _ _ σ k r h=>(by cases h),fun _ σ k r h=>(by cases h)⟩) c) an ha hfx
theorem Xu {kf:Nat} (hT:aV P T) (hΓ:fO P Γ) (hm:P.follows .mixedOrders=true) (c:Code) (an:An ρ) (ha:Xr P kf c an) (hfx:an.fx kf=true):vD P kf c (ev Γ T c an):=by
 refine fK hT (iC hT hΓ hm (fun a l an'=>⟨fun rest hf hx σ k r h=>?_,fun hf σ k r h=>?_⟩) c) an ha hfx
 ·unfold zFd at h
  rw [hf] at h
  simp only at h
  split at h
  ·rename_i hp
   exact zIs hT hΓ hm rest an' (fJ rest an' hp) hx σ k r h
  ·cases h
 ·unfold zFd at h
  rw [hf] at h
  cases h
def L.deep (h:List Ob):L->Option (Bool × L)
 | .val t x=>some (true,.val t x)
 | .iY=>some (true,.iY)
 | .bU=>some (true,.bU)
 | .gN t x off=>some (true,.gN t x off)
 | .own id ver =>
  match h[id]? with
  | some (.arr _ t v rows _)=>some (Nat.beq v ver,.val (.slice t) rows)
  | _=>none
 | .sl id ver off len =>
  match h[id]? with
  | some (.arr _ t v rows _)=>some (Nat.beq v ver && Nat.ble (off+len) rows.length,.val (.slice t) ((rows.drop off).take len))
  | _=>none
 | .clo f []=>some (true,.clo f [])
 | _=>none
def Ac (h:List Ob):List L->Option (Bool × List L)
 | []=>some (true,[])
 | l :: ls =>
  match l.deep h,Ac h ls with
  | some (c,x),some (d,r)=>some (c && d,x :: r)
  | _,_=>none
def V.deep (h:List Ob):V->Option (Bool × V)
 | .one l=>match l.deep h with
  | some (c,x)=>some (c,.one x)
  | none=>none
 | .agg ls=>match Ac h ls with
  | some (c,x)=>some (c,.agg x)
  | none=>none
 | _=>none
def zFe (T:Tab) (σ:St):ResultVar->Option (Bool × Sum L (List L))
 | .tmp t =>
  match (σ.r.getD t .bA).deep σ.h with
  | some (c,.one l)=>some (c,.inl l)
  | some (c,.agg ls)=>some (c,.inr ls)
  | _=>none
 | .cell t ty =>
  match σ.r.getD t .bA with
  | .one l =>
   match loadAt T σ.h ty l with
   | some (c,v) =>
    match v.deep σ.h with
    | some (d,.one l)=>some (c && d,.inl l)
    | some (d,.agg ls)=>some (c && d,.inr ls)
    | _=>none
   | none=>none
  | _=>none
def Gp (T:Tab) (σ:St):List ResultVar->Option (Bool × List (Sum L (List L)))
 | []=>some (true,[])
 | x :: r =>
  match zFe T σ x,Gp T σ r with
  | some (c,l),some (d,ls)=>some (c && d,l :: ls)
  | _,_=>none
def zLk:List (Sum L (List L))->V
 | [.inl l]=>.one l
 | [.inr ls]=>.agg ls
 | vs=>.tup vs
end sound
end Go.Dec
namespace Go.Dec
section
variable {T:Tab} {C:Ctx} {β β':Nat->Pl} {w:World}
theorem L.yU {N N':Nat->Nat->Prop} (hN:∀ b j,b < w.heap.size->N' b j->N b j):∀ {l:L} {cs:List Value},l.isD=true->l.Rel β w N cs->l.Rel β' w N' cs
 | .val t x,cs,_,h=>by simp only [L.Rel] at *; exact h.mono (Keep.refl _ w) hN
 | .iY,cs,_,h=>by simp only [L.Rel] at *; exact h
 | .bU,cs,_,h=>by simp only [L.Rel] at *; exact h
 | .gN t x off,cs,_,h=>by simp only [L.Rel] at *; obtain ⟨c,hc,hr⟩:=h; exact ⟨c,hc,hr.mono (Keep.refl _ w) hN⟩
 | .clo f [],cs,_,h=>by simp only [L.Rel,L.bL] at *; exact h
 | .clo f (_ :: _),_,hd,_=>by simp [L.isD] at hd
 | .ptr ..,_,hd,_=>by simp [L.isD] at hd
 | .gZ ..,_,hd,_=>by simp [L.isD] at hd
 | .dV ..,_,hd,_=>by simp [L.isD] at hd
 | .sl ..,_,hd,_=>by simp [L.isD] at hd
 | .own ..,_,hd,_=>by simp [L.isD] at hd
 | .bad _,_,hd,_=>by simp [L.isD] at hd
 | .bF ..,_,hd,_=>by simp [L.isD] at hd
theorem aI.isD {N N':Nat->Nat->Prop} (hN:∀ b j,b < w.heap.size->N' b j->N b j):∀ {ls:List L} {cs:List Value},aY L.isD ls=true->aI β w N ls cs->aI β' w N' ls cs
 | [],_,_,h=>h
 | l :: ls,_,hd,⟨c1,c2,e,h1,h2⟩=>by
  simp only [aY,aD] at hd
  exact ⟨c1,c2,e,L.yU hN hd.1 h1,aI.isD hN hd.2 h2⟩
theorem Rw {N N':Nat->Nat->Prop} (hN:∀ b j,b < w.heap.size->N' b j->N b j):∀ {vs:List (Sum L (List L))} {us:List Value},aY zEm vs=true->aP (cZ β w N) vs us->aP (cZ β' w N') vs us
 | [],[],_,_=>trivial
 | .inl l :: vs,u :: us,hd,hr=>by
  simp only [aY,aD] at hd
  exact ⟨L.yU hN hd.1 hr.1,Rw hN hd.2 hr.2⟩
 | .inr ls :: vs,u :: us,hd,hr=>by
  simp only [aY,aD] at hd
  obtain ⟨⟨cs,e,h⟩,h2⟩:=hr
  exact ⟨⟨cs,e,h.isD hN hd.1⟩,Rw hN hd.2 h2⟩
 | [],_ :: _,_,h=>h.elim
 | .inl _ :: _,[],_,h=>h.elim
 | .inr _ :: _,[],_,h=>h.elim
theorem V.yU {N N':Nat->Nat->Prop} (hN:∀ b j,b < w.heap.size->N' b j->N b j) {v:V} {x:Value} (hd:v.isD=true) (h:v.Rel β w N x):v.Rel β' w N' x:=by
 cases v with
 | one l=>exact L.yU hN hd h
 | agg ls=>obtain ⟨cs,e,hr⟩:=h; exact ⟨cs,e,hr.isD hN hd⟩
 | tup vs =>
  obtain ⟨us,e,hr⟩:=h
  exact ⟨us,e,Rw hN hd hr⟩
 | bA=>cases hd
theorem Xv {h:List Ob} {e:TypeId} {t:Ty} {ver id off len:Nat} {rows:List t.den} {wr:Bool} {c:Value} {N':Nat->Nat->Prop} (hh:bV C β h w) (ho:h[id]?=some (.arr e t ver rows wr)) (hsl:cK (β id) off len c) (hle:off+len <= rows.length)
  (hN:∀ b j,b < w.heap.size->N' b j->C.N0 b j):(Ty.slice t).Rel w N' ((rows.drop off).take len) [c]:=by
 have hob:=hh.obj _ _ ho
 simp only [Ob.Rel] at hob
 obtain ⟨_,_,hpv,hpz,hpos,hpl,hob⟩:=hob
 simp only [Ty.Rel]
 refine ⟨c,rfl,?_⟩
 unfold cK at hsl
 rcases hob with ⟨hnb,hr0,_⟩ | ⟨b,cur,css,hb,hheap,hall,htake,hcap,hrc,hm⟩
 ·rw [hnb] at hsl
  subst hr0
  exact .inl ⟨hsl.1,by simp⟩
 ·rw [hb] at hsl
  obtain ⟨h1,o,rfl,h3⟩:=hsl
  obtain ⟨hf1,hf2,_⟩:=hh.fresh _ _ _ ho hb
  have hlen:((rows.drop off).take len).length=len:=by simp; omega
  have hl:=dP hall
  have hcs:=(Cells.of_heap hheap).take (rows.length * t.size)
  rw [htake] at hcs
  have hcs2:=(hcs.drop (off * t.size)).take (len * t.size)
  rw [fU css hl off,jL _ (fun c hc=>hl c (List.mem_of_mem_drop hc)) len,Nat.zero_add] at hcs2
  have hN0:∀ b j,b < w.heap.size->N' b j->C.N β h b j:=fun b j hb hn=>.inl (hN b j hb hn)
  have Vp:aP (fun x c=>t.Rel w N' x c) ((rows.drop off).take len) ((css.drop off).take len):=((hall.drop off).take len).mono fun _ _ h=>h.mono (Keep.refl _ w) hN0
  refine .inr (.inl ⟨b,o,_,(css.drop off).take len,by rw [hlen],hf2,fun j _ _ hn=>hf1 j (hN b j hf2 hn),by omega,by omega,Vp,fun c hc=>hl c (List.mem_of_mem_drop (List.mem_of_mem_take hc)),?_⟩)
  rcases h3 with h3 | ⟨h3,_⟩
  ·rw [h3,hpz]; exact hcs2
  ·have hl0:len=0:=by omega
   subst hl0
   simpa using Cells.nil
theorem L.nE {h:List Ob} {l l':L} {cs:List Value} {N':Nat->Nat->Prop} (hd:l.deep h=some (true,l')) (hh:bV C β h w) (hN:∀ b j,b < w.heap.size->N' b j->C.N0 b j) (hr:l.Rel β w (C.N β h) cs):l'.Rel β' w N' cs∧l'.isD=true:=by
 have hN0:∀ b j,b < w.heap.size->N' b j->C.N β h b j:=fun b j hb hn=>.inl (hN b j hb hn)
 have plain:l.isD=true->l'=l->l'.Rel β' w N' cs∧l'.isD=true:=fun h1 h2=>by subst h2; exact ⟨L.yU hN0 h1 hr,h1⟩
 cases l with
 | val t x=>simp only [L.deep,aA,aB,true_and] at hd; exact plain rfl hd.symm
 | iY=>simp only [L.deep,aA,aB,true_and] at hd; exact plain rfl hd.symm
 | bU=>simp only [L.deep,aA,aB,true_and] at hd; exact plain rfl hd.symm
 | gN t x off=>simp only [L.deep,aA,aB,true_and] at hd; exact plain rfl hd.symm
 | clo f cs =>
  cases cs with
  | nil=>simp only [L.deep,aA,aB,true_and] at hd; exact plain rfl hd.symm
  | cons _ _=>simp [L.deep] at hd
 | own id ver =>
  simp only [L.deep] at hd
  split at hd
  ·rename_i e t v rows wr ho
   simp only [aA,aB] at hd
   obtain ⟨hv,rfl⟩:=hd
   have hv:=aF hv
   have hob:=hh.obj _ _ ho
   simp only [Ob.Rel] at hob
   obtain ⟨_,_,hpv,_,_,hpl,_⟩:=hob
   simp only [L.Rel] at hr
   obtain ⟨_,_,_,c,rfl,_,himp⟩:=hr
   have hsl:=himp (by rw [hpv,hv])
   rw [hpl] at hsl
   have:=Xv hh ho hsl (by omega) hN
   rw [List.drop_zero,List.take_length] at this
   exact ⟨by simpa only [L.Rel] using this,rfl⟩
  ·cases hd
 | sl id ver off len =>
  simp only [L.deep] at hd
  split at hd
  ·rename_i e t v rows wr ho
   simp only [aA,aB,aD] at hd
   obtain ⟨⟨hv,hle⟩,rfl⟩:=hd
   have hv:=aF hv
   have hob:=hh.obj _ _ ho
   simp only [Ob.Rel] at hob
   obtain ⟨_,_,hpv,_,_,hpl,_⟩:=hob
   simp only [L.Rel] at hr
   obtain ⟨_,_,_,c,rfl,_,himp⟩:=hr
   exact ⟨by simpa only [L.Rel] using Xv hh ho (himp (by rw [hpv,hv])) (aX hle) hN,rfl⟩
  ·cases hd
 | _=>simp [L.deep] at hd
theorem Uf {h:List Ob} {N':Nat->Nat->Prop} (hh:bV C β h w) (hN:∀ b j,b < w.heap.size->N' b j->C.N0 b j):∀ {ls ls':List L} {cs:List Value},Ac h ls=some (true,ls')->aI β w (C.N β h) ls cs->aI β' w N' ls' cs∧aY L.isD ls'=true
 | [],ls',cs,hd,hr=>by
  simp only [Ac,aA,aB,true_and] at hd
  subst hd
  exact ⟨hr,rfl⟩
 | l :: ls,ls',cs,hd,hr=>by
  simp only [Ac] at hd
  split at hd
  ·rename_i c x d r h1 h2
   simp only [aA,aB,aD] at hd
   obtain ⟨⟨rfl,rfl⟩,rfl⟩:=hd
   obtain ⟨c1,c2,e,r1,r2⟩:=hr
   obtain ⟨g1,g2⟩:=L.nE (β':=β') h1 hh hN r1
   obtain ⟨g3,g4⟩:=Uf hh hN h2 r2
   exact ⟨⟨c1,c2,e,g1,g3⟩,by simp only [aY,g2,g4,Bool.and_self]⟩
  ·cases hd
theorem V.nE {h:List Ob} {v v':V} {x:Value} {N':Nat->Nat->Prop} (hd:v.deep h=some (true,v')) (hh:bV C β h w) (hN:∀ b j,b < w.heap.size->N' b j->C.N0 b j) (hr:v.Rel β w (C.N β h) x):v'.Rel β' w N' x∧v'.isD=true:=by
 cases v with
 | one l =>
  simp only [V.deep] at hd
  split at hd
  ·rename_i c y h1
   simp only [aA,aB] at hd
   obtain ⟨rfl,rfl⟩:=hd
   exact L.nE h1 hh hN hr
  ·cases hd
 | agg ls =>
  simp only [V.deep] at hd
  split at hd
  ·rename_i c y h1
   simp only [aA,aB] at hd
   obtain ⟨rfl,rfl⟩:=hd
   obtain ⟨cs,e,hr⟩:=hr
   obtain ⟨g1,g2⟩:=Uf (β':=β') hh hN h1 hr
   exact ⟨⟨cs,e,g1⟩,g2⟩
  ·cases hd
 | _=>simp [V.deep] at hd
theorem yB {P:Program} {t:TypeId} {x y:Value} (h:(Instr.loadAt t x).run P w=.ok y w):∃ a,x=.pointer (some a)∧(loadVar t a).run P w=.ok y w:=by
 cases x <;> simp only [Instr.loadAt,Instr.sureAddr,Sem.run_bind,run_stuck,Result.andThen,reduceCtorEq] at h
 rename_i a
 cases a with
 | none=>simp only [run_stuck,reduceCtorEq] at h
 | some a=>exact ⟨a,rfl,by simpa only [Instr.loadAt,Instr.sureAddr,Sem.run_bind,Sem.run_pure,Result.andThen_ok] using h⟩
def lM (tmps:Array Value):ResultVar->Sem Value
 | .tmp t=>pure (tmps.getD t undef)
 | .cell a t=>do loadVar t (<- asAddr (tmps.getD a undef))
theorem Ad {σ:St} {a:Act} (hs:Sim C β σ a w) (t:Nat):(σ.r.getD t .bA).Rel β w (C.N β σ.h) (a.tmps.getD t undef):=aM hs (.tmp t)
theorem zLl {σ:St} {a:Act} {rv:ResultVar} {s:Sum L (List L)} {N':Nat->Nat->Prop} (hT:aV C.P T) (hs:Sim C β σ a w) (hN:∀ b j,b < w.heap.size->N' b j->C.N0 b j) (h:zFe T σ rv=some (true,s)) :
  ∃ x,(lM a.tmps rv).run C.P w=.ok x w∧cZ β' w N' s x∧zEm s=true:=by
 cases rv with
 | tmp t =>
  simp only [zFe] at h
  have hr:=Ad hs t
  refine ⟨a.tmps.getD t undef,rfl,?_⟩
  split at h
  ·rename_i c l hd
   simp only [aA,aB] at h
   obtain ⟨rfl,rfl⟩:=h
   exact V.nE (β':=β') hd hs.heap hN hr
  ·rename_i c ls hd
   simp only [aA,aB] at h
   obtain ⟨rfl,rfl⟩:=h
   exact V.nE (β':=β') hd hs.heap hN hr
  ·cases h
 | cell t ty =>
  simp only [zFe] at h
  have hr:=Ad hs t
  split at h
  ·rename_i l hl
   rw [hl] at hr
   split at h
   ·rename_i c v hv
    split at h
    ·rename_i d l2 hd
     simp only [aA,aB,aD] at h
     obtain ⟨⟨rfl,rfl⟩,rfl⟩:=h
     obtain ⟨y,h1,h2⟩:=uR hT hv hs.heap hr
     obtain ⟨ad,h3,h4⟩:=yB h1
     refine ⟨y,?_,V.nE (β':=β') hd hs.heap hN h2⟩
     simp only [lM,h3,asAddr,Sem.run_bind,Sem.run_pure,Result.andThen_ok,h4]
    ·rename_i d ls2 hd
     simp only [aA,aB,aD] at h
     obtain ⟨⟨rfl,rfl⟩,rfl⟩:=h
     obtain ⟨y,h1,h2⟩:=uR hT hv hs.heap hr
     obtain ⟨ad,h3,h4⟩:=yB h1
     refine ⟨y,?_,V.nE (β':=β') hd hs.heap hN h2⟩
     simp only [lM,h3,asAddr,Sem.run_bind,Sem.run_pure,Result.andThen_ok,h4]
    ·cases h
   ·cases h
  ·cases h
theorem Ug {σ:St} {a:Act} {N':Nat->Nat->Prop} (hT:aV C.P T) (hs:Sim C β σ a w) (hN:∀ b j,b < w.heap.size->N' b j->C.N0 b j):∀ {rs:List ResultVar} {vs:List (Sum L (List L))},Gp T σ rs=some (true,vs) ->
  ∀ acc:Array Value,∃ us:List Value,(rs.foldlM (fun (acc:Array Value) rv=>do let v <- lM a.tmps rv; pure (acc.push v)) acc).run C.P w=.ok (acc++us.toArray) w∧aP (cZ β' w N') vs us ∧
   aY zEm vs=true
 | [],vs,h,acc=>by
  simp only [Gp,aA,aB,true_and] at h
  subst h
  exact ⟨[],by simp,trivial,rfl⟩
 | rv :: rs,vs,h,acc=>by
  simp only [Gp] at h
  split at h
  ·rename_i c s d r h1 h2
   simp only [aA,aB,aD] at h
   obtain ⟨⟨rfl,rfl⟩,rfl⟩:=h
   obtain ⟨x,g1,g2,g3⟩:=zLl (β':=β') hT hs hN h1
   obtain ⟨us,g4,g5,g6⟩:=Ug hT hs hN h2 (acc.push x)
   refine ⟨x :: us,?_,⟨g2,g5⟩,by simp only [aY,g6,Bool.and_true]; exact g3⟩
   simp only [List.foldlM_cons,Sem.run_bind,g1,Result.andThen_ok,Sem.run_pure,g4]
   simp
  ·cases h
end
def xM (vs:List V) (n:Nat):List V:=vs++List.replicate (n - vs.length) .bA
end Go.Dec
