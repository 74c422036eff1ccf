/- Part of a proof over this seat: a library of my own, and what it says of this seat. No statement is proved here. -/
import Derived.Test.YtdgneppobefaoaaGreatDoorPartAR
import Derived.Maps.RangeRun
namespace Go.Ce
section
variable (E:Env) (ih:Runs) (n lo:Nat)
def Wnt (ops:List Oper) (d:Nat) (o:Oper) (s:DS):Prop :=
 ∀ i want,o.guard=some (i,want)->bit d i=true∧∃ t,bG ops i=some t∧s.tm.get t=some (.bo want)
def Unw (ops:List Oper) (d:Nat) (o:Oper) (s:DS):Prop :=
 ∃ i want t v,o.guard=some (i,want)∧bit d i=true∧bG ops i=some t∧s.tm.get t=some v∧((∃ b,v=.bo b∧(b == want)=false)∨v=.tu [])
inductive Kd (ops:List Oper) (j d:Nat) (o:Oper) (s s':DS):Prop
 | off (tm':T AV) (hu:Unw ops d o s) (hp:iB n s.tm o.dst (.tu [])=some tm') (e:s'={ s with tm:=tm' })
 | wr (v:AV) (A1:W) (tm':T AV) (hw:Wnt ops d o s) (hc:chain d s.hist=true)
   (hr:nU E ih lo o (view s.tm (tmpsOf o.op.operands.toList)) ⟨T.union (eP d s.pend).1 s.H,s.nx⟩=some (v,A1)) (hp:iB n s.tm o.dst v=some tm')
   (hn:s.nx <= A1.nx) (hrr:Dn E ih d A1.nx A1.H s.past=true) (e:s'={ tm:=tm',H:=A1.H,nx:=A1.nx,pend:=(eP d s.pend).2,hist:=(j,s.H) :: s.hist,past:=s.past })
 | hl (v:AV) (A1:W) (tm':T AV) (hw:Wnt ops d o s) (hr:nU E ih s.nx o (view s.tm (tmpsOf o.op.operands.toList)) ⟨.nil,s.nx⟩=some (v,A1)) (hp:iB n s.tm o.dst v=some tm')
   (hn:s.nx <= A1.nx) (hl:T.all Blk.lone A1.H=true) (e:s'={ s with tm:=tm',nx:=A1.nx,pend:=(j,A1.H) :: s.pend })
 | ld (v:AV) (A1:W) (tm':T AV) (hw:Wnt ops d o s) (hr:nU E ih s.nx o (view s.tm (tmpsOf o.op.operands.toList)) ⟨s.H,s.nx⟩=some (v,A1)) (hp:iB n s.tm o.dst v=some tm')
   (hn:A1.nx=s.nx) (hu:AV.under s.nx v=true) (hrd:reads E ih d s.nx o (view s.tm (tmpsOf o.op.operands.toList)) v s.hist=true)
   (e:s'={ s with tm:=tm',past:=(j,o,view s.tm (tmpsOf o.op.operands.toList),v) :: s.past })
variable {E ih n lo}
theorem Xv {ops:List Oper} {j d:Nat} {o:Oper} {s s':DS} (hw:Wnt ops d o s) (h:Sc E ih n lo j d o s=some s'):Kd E ih n lo ops j d o s s':=by
 unfold Sc at h
 split at h
 ·obtain ⟨hc,h⟩:=aM h
  replace h:=aC h; obtain ⟨⟨v,A1⟩,hr,h⟩:=h
  replace h:=aC h; obtain ⟨tm',hp,h⟩:=h
  obtain ⟨hrr,h⟩:=aM h
  rw [aF] at hrr
  simp only [aA] at h
  exact .wr v A1 tm' hw hc hr hp (bA hrr.1) hrr.2 h.symm
 ·split at h
  ·rename_i v A1 hr
   replace h:=aC h; obtain ⟨tm',hp,h⟩:=h
   obtain ⟨hl,h⟩:=aM h
   rw [aF] at hl
   simp only [aA] at h
   exact .hl v A1 tm' hw hr hp (bA hl.1) hl.2 h.symm
  ·replace h:=aC h; obtain ⟨⟨v,A1⟩,hr,h⟩:=h
   replace h:=aC h; obtain ⟨tm',hp,h⟩:=h
   obtain ⟨hc,h⟩:=aM h
   rw [aF,aF] at hc
   simp only [aA] at h
   exact .ld v A1 tm' hw hr hp (aG hc.1.1) hc.1.2 hc.2 h.symm
theorem zEs {ops:List Oper} {j d:Nat} {o:Oper} {s s':DS} (h:Fz E ih n lo ops j d o s=some s'):Kd E ih n lo ops j d o s s':=by
 unfold Fz at h
 split at h
 ·rename_i hg
  exact Xv (fun i want hi=>by rw [hg] at hi; cases hi) h
 ·rename_i i want hg
  obtain ⟨hb,h⟩:=aM h
  replace h:=aC h; obtain ⟨t,ht,h⟩:=h
  replace h:=aC h; obtain ⟨v,hv,h⟩:=h
  split at h
  ·rename_i b
   unfold cnd at h
   split at h
   ·rename_i hbw
    have hbe:=beq_iff_eq.1 hbw
    refine Xv (fun i' want' hi=>?_) h
    rw [hg] at hi
    simp only [aA,aB] at hi
    obtain ⟨rfl,rfl⟩:=hi
    exact ⟨hb,t,ht,by rw [<- hbe]; exact hv⟩
   ·rename_i hbw
    replace h:=aC h; obtain ⟨tm',hp,h⟩:=h
    simp only [aA] at h
    exact .off tm' ⟨i,want,t,_,hg,hb,ht,hv,.inl ⟨b,rfl,hbw⟩⟩ hp h.symm
  ·replace h:=aC h; obtain ⟨tm',hp,h⟩:=h
   simp only [aA] at h
   exact .off tm' ⟨i,want,t,_,hg,hb,ht,hv,.inr rfl⟩ hp h.symm
  ·cases h
end
theorem rG {α:Type} {l:List α} {x:α}:l ≠ x :: l:=fun h=>by
 have:=congrArg List.length h
 simp at this
theorem Te (d:Nat):∀ l:List (Nat × T Blk),(eP d l).2.length <= l.length
 | []=>aI _
 | p :: r=>by
  have:=Te d r
  simp only [eP]
  split
  ·simp only [List.length_cons]; omega
  ·simp only [List.length_cons]; omega
theorem wF {d:Nat} {x:Nat × T Blk}:∀ {l:List (Nat × T Blk)},x ∈ (eP d l).2->x ∈ l∧bit d x.1=false
 | [],h=>by cases h
 | p :: r,h=>by
  simp only [eP] at h
  split at h
  ·obtain ⟨h1,h2⟩:=wF h
   exact ⟨.tail _ h1,h2⟩
  ·rename_i hb
   cases h with
   | head=>exact ⟨.head _,hb⟩
   | tail _ h =>
    obtain ⟨h1,h2⟩:=wF h
    exact ⟨.tail _ h1,h2⟩
theorem yR {d id:Nat} {B:Blk}:∀ {l:List (Nat × T Blk)},(eP d l).1.get id=some B->∃ x ∈ l,bit d x.1=true∧x.2.get id=some B
 | [],h=>by simp [eP,T.get] at h
 | p :: r,h=>by
  simp only [eP] at h
  split at h
  ·rename_i hb
   simp only [T.qH] at h
   split at h
   ·rename_i x hx
    simp only [aA] at h
    subst h
    exact ⟨p,.head _,hb,hx⟩
   ·obtain ⟨x,h1,h2⟩:=yR h
    exact ⟨x,.tail _ h1,h2⟩
  ·obtain ⟨x,h1,h2⟩:=yR h
   exact ⟨x,.tail _ h1,h2⟩
theorem Tf {id:Nat} {B:Blk} {H:T Blk}:∀ {l:List (Nat × T Blk)},(uK l H).get id=some B->H.get id=some B∨∃ x ∈ l,x.2.get id=some B
 | [],h=>.inl h
 | p :: r,h=>by
  simp only [uK,T.qH] at h
  split at h
  ·rename_i x hx
   simp only [aA] at h
   subst h
   exact .inr ⟨p,.head _,hx⟩
  ·rcases Tf h with h | ⟨x,h1,h2⟩
   ·exact .inl h
   ·exact .inr ⟨x,.tail _ h1,h2⟩
theorem Tg {id:Nat} {H:T Blk}:∀ {l:List (Nat × T Blk)},(∀ x ∈ l,x.2.get id=none)->(uK l H).get id=H.get id
 | [],_=>rfl
 | p :: r,h=>by
  simp only [uK,T.qH]
  rw [h p (.head _)]
  exact Tg fun x hx=>h x (.tail _ hx)
theorem Xw {d:Nat} {x:Nat × T Blk}:∀ {l:List (Nat × T Blk)},chain d l=true->x ∈ l->bit d x.1=true
 | p :: r,h,hx=>by
  simp only [chain,aF] at h
  cases hx with
  | head=>exact h.1
  | tail _ hx=>exact Xw h.2 hx
theorem Gn {tm:T AV} {t:Nat} {v:AV}:∀ {ts:List Tmp},(view tm ts).get t=some v->tm.get t=some v∧t ∈ ts
 | [],h=>by simp [view,T.get] at h
 | t0 :: r,h=>by
  simp only [view] at h
  split at h
  ·rename_i v0 hv0
   unfold cnd at h
   split at h
   ·rename_i hb
    by_cases ht:t=t0
    ·subst ht
     rw [T.dJ _ (by rw [Nat.blt_eq] at hb; exact hb)] at h
     simp only [aA] at h
     subst h
     exact ⟨hv0,.head _⟩
    ·rw [T.aT _ ht] at h
     obtain ⟨h1,h2⟩:=Gn h
     exact ⟨h1,.tail _ h2⟩
   ·obtain ⟨h1,h2⟩:=Gn h
    exact ⟨h1,.tail _ h2⟩
  ·obtain ⟨h1,h2⟩:=Gn h
   exact ⟨h1,.tail _ h2⟩
theorem uL {t:Nat}:∀ {l:List Operand},t ∈ tmpsOf l->Operand.tmp t ∈ l
 | [],h=>by cases h
 | .tmp u :: r,h=>by
  simp only [tmpsOf] at h
  cases h with
  | head=>exact .head _
  | tail _ h=>exact .tail _ (uL h)
 | .const _ :: r,h=>.tail _ (uL h)
 | .func _ :: r,h=>.tail _ (uL h)
 | .global _ :: r,h=>.tail _ (uL h)
theorem Pv {n:Nat} {tm tm':T AV} {d:Option Tmp} {v:AV} (h:iB n tm d v=some tm'):(∀ t,d=some t->tm'.get t=some v∧t < n)∧(∀ t,d ≠ some t->tm'.get t=tm.get t):=by
 cases d with
 | none =>
  simp only [iB,aA] at h
  subst h
  exact ⟨(fun t h=>by cases h),fun _ _=>rfl⟩
 | some d =>
  simp only [iB] at h
  obtain ⟨hc,h⟩:=aM h
  simp only [aA] at h
  subst h
  rw [aF,Nat.blt_eq,Nat.blt_eq] at hc
  refine ⟨fun t h=>?_,fun t h=>T.aT _ fun e=>h (by rw [e])⟩
  cases h
  exact ⟨T.dJ _ hc.2,hc.1⟩
theorem Bo {x:Nat}:∀ {l:List Nat},tC x l=true <-> x ∈ l
 | []=>by simp [tC]
 | y :: l=>by
  simp only [tC,Bool.or_eq_true,List.mem_cons]
  rw [Bo (l:=l)]
  constructor
  ·rintro (h | h)
   ·exact .inl (aG h)
   ·exact .inr h
  ·rintro (rfl | h)
   ·exact .inl (Nat.beq_refl _)
   ·exact .inr h
theorem Gp {t:Nat}:∀ {l:List Oper} {i:Nat},bG l i=some t->t ∈ xI l
 | [],i,h=>by simp [bG] at h
 | o :: r,0,h=>by
  simp only [bG,List.getElem?_cons_zero,Option.bind_some] at h
  simp [xI,h]
 | o :: r,i+1,h=>by
  have:bG r i=some t:=by simpa [bG] using h
  simp only [xI]
  split
  ·exact .tail _ (Gp this)
  ·exact Gp this
theorem Gq {t:Nat}:∀ {l:List Oper} {i j:Nat},distinct (xI l)=true->bG l i=some t->bG l j=some t->i=j
 | [],i,_,_,h,_=>by simp [bG] at h
 | o :: r,i,j,hd,h,h'=>by
  have hr:distinct (xI r)=true∧∀ t,o.dst=some t->t ∉ xI r:=by
   simp only [xI] at hd
   split at hd
   ·rename_i d hdd
    simp only [distinct,aF,Bool.not_eq_true'] at hd
    refine ⟨hd.2,fun t ht hm=>?_⟩
    rw [hdd] at ht
    cases ht
    rw [Bo.2 hm] at hd
    cases hd.1
   ·rename_i hdd
    exact ⟨hd,fun t ht=>by rw [hdd] at ht; cases ht⟩
  match i,j with
  | 0,0=>rfl
  | 0,j+1 =>
   have h1:o.dst=some t:=by simpa [bG] using h
   have h2:bG r j=some t:=by simpa [bG] using h'
   exact absurd (Gp h2) (hr.2 t h1)
  | i+1,0 =>
   have h1:o.dst=some t:=by simpa [bG] using h'
   have h2:bG r i=some t:=by simpa [bG] using h
   exact absurd (Gp h2) (hr.2 t h1)
  | i+1,j+1 =>
   have h1:bG r i=some t:=by simpa [bG] using h
   have h2:bG r j=some t:=by simpa [bG] using h'
   rw [Gq hr.1 h1 h2]
theorem Hz {ops:List Oper} {o:Oper} {d:Nat}:∀ {l:List Oper} {k i:Nat} {x:Oper},Fv ops o d l k=true->l[i]?=some x->bit d (k+i)=true∨Ju ops x o=true
 | [],_,_,_,_,h=>by simp at h
 | y :: l,k,i,x,h,hx=>by
  simp only [Fv,aF,Bool.or_eq_true] at h
  cases i with
  | zero =>
   simp only [List.getElem?_cons_zero,aA] at hx
   subst hx
   exact h.1
  | succ i =>
   simp only [List.getElem?_cons_succ] at hx
   have:=Hz h.2 hx
   rwa [show k+1+i=k+(i+1) by omega] at this
theorem xK {ops:List Oper}:∀ {l done:List Oper} {ds:List Nat} {j:Nat} {o:Oper},vF ops done ds l=true->l[j]?=some o->∃ d,ds[j]?=some d∧∀ i x,i < done.length+j->(done++l)[i]?=some x->bit d i=true∨Ju ops x o=true
 | [],_,_,_,_,_,h=>by simp at h
 | y :: l,done,[],j,o,h,_=>by simp [vF] at h
 | y :: l,done,d :: ds,j,o,h,ho=>by
  simp only [vF,aF] at h
  cases j with
  | zero =>
   simp only [List.getElem?_cons_zero,aA] at ho
   subst ho
   refine ⟨d,rfl,fun i x hi hx=>?_⟩
   rw [dG (by omega)] at hx
   have:=Hz h.1 hx
   rwa [Nat.zero_add] at this
  | succ j =>
   simp only [List.getElem?_cons_succ] at ho
   obtain ⟨d',h1,h2⟩:=xK h.2 ho
   refine ⟨d',by simpa using h1,fun i x hi hx=>h2 i x (by simp; omega) (by simpa using hx)⟩
theorem zVh {L:List Oper} {ds:List Nat} (h:wS [] L=some ds):∀ (j:Nat) {o:Oper} {d:Nat},L[j]?=some o->ds[j]?=some d->∀ i,bit d i=true->i < j:=by
 obtain ⟨es,he,hl,hs⟩:=wE h
 simp only [List.nil_append] at he
 subst he
 intro j
 induction j using Nat.strongRecOn with
 | _ j IH =>
  intro o d ho hd i hi
  obtain ⟨d',h1,h2⟩:=hs j o ho
  simp only [List.length_nil,Nat.zero_add] at h1 h2
  rw [hd] at h1
  cases h1
  obtain ⟨e,_,_,h3⟩:=(rF h2).2 i hi
  have hon:=((rF h2).1 e (by assumption) (by assumption)).2
  rw [List.length_take] at hon
  rcases h3 with rfl | ⟨m,hm,hb⟩
  ·omega
  ·rw [List.getElem?_take] at hm
   split at hm
   ·rename_i hlt
    cases ho2:L[e.on]? with
    | none =>
     rw [List.getElem?_eq_none_iff] at ho2
     omega
    | some o2=>exact Nat.lt_trans (IH e.on hlt ho2 hm i hb) hlt
   ·cases hm
def Cl (ds:List Nat) (D:Nat->Prop):Prop:=∀ j d,D j->ds[j]?=some d->∀ i,bit d i=true->D i
theorem zJo {L:List Oper} {ds:List Nat} (h:wS [] L=some ds) {D:Nat->Prop} (hc:Cl ds D) {j:Nat} {o:Oper} {d:Nat} (ho:L[j]?=some o) (hd:ds[j]?=some d)
  (hr:∀ e ∈ o.after.toList,Region.binds .any e=true->D e.on):∀ i,bit d i=true->D i:=by
 obtain ⟨es,he,hl,hs⟩:=wE h
 simp only [List.nil_append] at he
 subst he
 intro i hi
 obtain ⟨d',h1,h2⟩:=hs j o ho
 simp only [List.length_nil,Nat.zero_add] at h1 h2
 rw [hd] at h1
 cases h1
 obtain ⟨e,he,hb,h3⟩:=(rF h2).2 i hi
 rcases h3 with rfl | ⟨m,hm,hb2⟩
 ·exact hr e he hb
 ·rw [List.getElem?_take] at hm
  split at hm
  ·exact hc e.on m (hr e he hb) hm i hb2
  ·cases hm
end Go.Ce
namespace Go.Ce
def iY (E:Env) (ih:Runs) (n lo:Nat) (L:List Oper) (ds:List Nat) (st:Nat->DS):Prop :=
 ∀ i o,L[i]?=some o->∃ d,ds[i]?=some d∧Kd E ih n lo L i d o (st i) (st (i+1))
def WR (st:Nat->DS) (i:Nat):Prop:=(st (i+1)).hist=(i,(st i).H) :: (st i).hist
def HL (st:Nat->DS) (i:Nat) (X:T Blk):Prop:=(st (i+1)).pend=(i,X) :: (st i).pend
structure Cx (E:Env) (ih:Runs) (n lo:Nat) (L:List Oper) (ds:List Nat) (st:Nat->DS) (β0:Bt) (A0:W) (w0:World) (a0:Act) (tm0:T AV):Prop where
 dep:wS [] L=some ds
 ap:vF L [] ds L=true
 dis:distinct (xI L)=true
 ok:iY E ih n lo L ds st
 s0:st 0=⟨tm0,A0.H,A0.nx,[],[],[]⟩
 W0:aX lo β0 A0 w0
 F0:fU β0 n tm0 a0
section
variable {E:Env} {ih:Runs} {n lo:Nat} {L:List Oper} {ds:List Nat} {st:Nat->DS} {β0:Bt} {A0:W} {w0:World} {a0:Act} {tm0:T AV}
theorem iY.at (hs:iY E ih n lo L ds st) {i:Nat} (hi:i < L.length):∃ o d,L[i]?=some o∧ds[i]?=some d∧Kd E ih n lo L i d o (st i) (st (i+1)):=by
 obtain ⟨d,h1,h2⟩:=hs i L[i] (List.getElem?_eq_getElem hi)
 exact ⟨_,d,List.getElem?_eq_getElem hi,h1,h2⟩
theorem iY.nx1 (hs:iY E ih n lo L ds st) {i:Nat} (hi:i < L.length):(st i).nx <= (st (i+1)).nx:=by
 obtain ⟨o,d,_,_,k⟩:=hs.at hi
 cases k with
 | off tm' hu hp e=>rw [e]; exact aI _
 | wr v A1 tm' hw hc hr hp hn hrr e=>rw [e]; exact hn
 | hl v A1 tm' hw hr hp hn hl e=>rw [e]; exact hn
 | ld v A1 tm' hw hr hp hn hu hrd e=>rw [e]; exact aI _
theorem iY.nx (hs:iY E ih n lo L ds st) {i:Nat}:∀ {j:Nat},i <= j->j <= L.length->(st i).nx <= (st j).nx
 | 0,h,_=>by rw [show i=0 by omega]; exact aI _
 | j+1,h,hj=>by
  by_cases hij:i=j+1
  ·rw [hij]; exact aI _
  ·exact Nat.le_trans (hs.nx (by omega) (by omega)) (hs.nx1 (by omega))
theorem iY.zRq (hs:iY E ih n lo L ds st) {i:Nat} (hi:i < L.length):WR st i∨((st (i+1)).hist=(st i).hist∧(st (i+1)).H=(st i).H):=by
 obtain ⟨o,d,_,_,k⟩:=hs.at hi
 unfold WR
 cases k with
 | off tm' hu hp e=>rw [e]; exact .inr ⟨rfl,rfl⟩
 | wr v A1 tm' hw hc hr hp hn hrr e=>rw [e]; exact .inl rfl
 | hl v A1 tm' hw hr hp hn hl e=>rw [e]; exact .inr ⟨rfl,rfl⟩
 | ld v A1 tm' hw hr hp hn hu hrd e=>rw [e]; exact .inr ⟨rfl,rfl⟩
theorem iY.hist (hs:iY E ih n lo L ds st) (h0:(st 0).hist=[]):∀ {q:Nat},q <= L.length->∀ x,x ∈ (st q).hist <-> ∃ i,i < q∧WR st i∧x=(i,(st i).H)
 | 0,_,x=>by rw [h0]; simp
 | q+1,hq,x=>by
  rcases hs.zRq (i:=q) (by omega) with h | ⟨h,_⟩
  ·have:=h
   unfold WR at this
   rw [this,List.mem_cons,hs.hist h0 (by omega) x]
   constructor
   ·rintro (rfl | ⟨i,h1,h2,h3⟩)
    ·exact ⟨q,by omega,h,rfl⟩
    ·exact ⟨i,by omega,h2,h3⟩
   ·rintro ⟨i,h1,h2,h3⟩
    by_cases hi:i=q
    ·subst hi; exact .inl h3
    ·exact .inr ⟨i,by omega,h2,h3⟩
  ·rw [h,hs.hist h0 (by omega) x]
   constructor
   ·rintro ⟨i,h1,h2,h3⟩
    exact ⟨i,by omega,h2,h3⟩
   ·rintro ⟨i,h1,h2,h3⟩
    by_cases hi:i=q
    ·subst hi
     unfold WR at h2
     rw [h2] at h
     exact absurd h.symm rG
    ·exact ⟨i,by omega,h2,h3⟩
theorem iY.same (hs:iY E ih n lo L ds st) {p:Nat}:∀ {q:Nat},p <= q->q <= L.length->(∀ i,p <= i->i < q->¬ WR st i)->(st q).H=(st p).H
 | 0,h,_,_=>by rw [show p=0 by omega]
 | q+1,h,hq,hw=>by
  by_cases hp:p=q+1
  ·rw [hp]
  ·rcases hs.zRq (i:=q) (by omega) with h1 | ⟨_,h1⟩
   ·exact absurd h1 (hw q (by omega) (by omega))
   ·rw [h1]
    exact hs.same (by omega) (by omega) fun i h2 h3=>hw i h2 (by omega)
theorem iY.zRr (hs:iY E ih n lo L ds st) {i:Nat} (hi:i < L.length) {x:Nat × T Blk} (hx:x ∈ (st (i+1)).pend):x ∈ (st i).pend∨(x.1=i∧HL st i x.2):=by
 obtain ⟨o,d,_,_,k⟩:=hs.at hi
 unfold HL
 cases k with
 | off tm' hu hp e=>rw [e] at hx; exact .inl hx
 | wr v A1 tm' hw hc hr hp hn hrr e=>rw [e] at hx; exact .inl (wF hx).1
 | hl v A1 tm' hw hr hp hn hl e =>
  rw [e] at hx ⊢
  cases hx with
  | head=>exact .inr ⟨rfl,rfl⟩
  | tail _ hx=>exact .inl hx
 | ld v A1 tm' hw hr hp hn hu hrd e=>rw [e] at hx; exact .inl hx
theorem iY.pend (hs:iY E ih n lo L ds st) (h0:(st 0).pend=[]):∀ {q:Nat},q <= L.length->∀ {x:Nat × T Blk},x ∈ (st q).pend->x.1 < q∧HL st x.1 x.2
 | 0,_,x,h=>by rw [h0] at h; cases h
 | q+1,hq,x,h=>by
  rcases hs.zRr (i:=q) (by omega) h with h | ⟨h1,h2⟩
  ·obtain ⟨h1,h2⟩:=hs.pend h0 (by omega) h
   exact ⟨by omega,h2⟩
  ·exact ⟨by omega,by rw [h1]; exact h2⟩
theorem iY.down (hs:iY E ih n lo L ds st) {p:Nat}:∀ {q:Nat},p <= q->q <= L.length->∀ {x:Nat × T Blk},x ∈ (st q).pend->x ∈ (st p).pend∨p <= x.1
 | 0,h,_,x,hx=>by rw [show p=0 by omega]; exact .inl hx
 | q+1,h,hq,x,hx=>by
  by_cases hp:p=q+1
  ·rw [hp]; exact .inl hx
  ·rcases hs.zRr (i:=q) (by omega) hx with h1 | ⟨h1,_⟩
   ·exact hs.down (by omega) (by omega) h1
   ·exact .inr (by omega)
theorem iY.past (hs:iY E ih n lo L ds st) {p:Nat}:∀ {q:Nat},p <= q->q <= L.length->∀ {x},x ∈ (st p).past->x ∈ (st q).past
 | 0,h,_,x,hx=>by rw [show p=0 by omega] at hx; exact hx
 | q+1,h,hq,x,hx=>by
  by_cases hp:p=q+1
  ·rw [hp] at hx; exact hx
  ·have hx:=hs.past (q:=q) (by omega) (by omega) hx
   obtain ⟨o,d,_,_,k⟩:=hs.at (i:=q) (by omega)
   cases k with
   | off tm' hu hp e=>rw [e]; exact hx
   | wr v A1 tm' hw hc hr hp hn hrr e=>rw [e]; exact hx
   | hl v A1 tm' hw hr hp hn hl e=>rw [e]; exact hx
   | ld v A1 tm' hw hr hp hn hu hrd e=>rw [e]; exact .tail _ hx
theorem iY.put (hs:iY E ih n lo L ds st) {i:Nat} {o:Oper} (ho:L[i]?=some o):∃ v,iB n (st i).tm o.dst v=some (st (i+1)).tm:=by
 obtain ⟨d,_,k⟩:=hs i o ho
 cases k with
 | off tm' hu hp e=>rw [e]; exact ⟨_,hp⟩
 | wr v A1 tm' hw hc hr hp hn hrr e=>rw [e]; exact ⟨_,hp⟩
 | hl v A1 tm' hw hr hp hn hl e=>rw [e]; exact ⟨_,hp⟩
 | ld v A1 tm' hw hr hp hn hu hrd e=>rw [e]; exact ⟨_,hp⟩
theorem nI {i:Nat} {o:Oper} (ho:L[i]?=some o):bG L i=o.dst:=by simp [bG,ho]
theorem iY.tm1 (hs:iY E ih n lo L ds st) {i t:Nat} (hi:i < L.length) (h:bG L i ≠ some t):(st (i+1)).tm.get t=(st i).tm.get t:=by
 have ho:L[i]?=some L[i]:=List.getElem?_eq_getElem hi
 obtain ⟨v,hp⟩:=hs.put ho
 rw [nI ho] at h
 exact (Pv hp).2 t h
theorem iY.tm (hs:iY E ih n lo L ds st) {p t:Nat}:∀ {q:Nat},p <= q->q <= L.length->(∀ i,p <= i->i < q->bG L i ≠ some t)->(st q).tm.get t=(st p).tm.get t
 | 0,h,_,_=>by rw [show p=0 by omega]
 | q+1,h,hq,hw=>by
  by_cases hp:p=q+1
  ·rw [hp]
  ·rw [hs.tm1 (i:=q) (by omega) (hw q (by omega) (by omega))]
   exact hs.tm (by omega) (by omega) fun i h2 h3=>hw i h2 (by omega)
structure Slt (L:List Oper) (st:Nat->DS) (n:Nat) (β:Bt) (D:Nat->Prop) (a0 a:Act):Prop where
 slots:∀ t,(∀ i,D i->bG L i ≠ some t)->a.tmps.getD t undef=a0.tmps.getD t undef
 vals:∀ i t v,D i->bG L i=some t->(st (i+1)).tm.get t=some v->v.Rel (cut β (st (i+1)).nx) (a.tmps.getD t undef)
 Zm:a.tmps.size=n
 dfr:a.defers=a0.defers
theorem aT {a:Act} {d:Option Tmp} {y:Value} {t:Nat} (h:d ≠ some t):(a.put d y).tmps.getD t undef=a.tmps.getD t undef:=by
 cases d with
 | none=>rfl
 | some d =>
  have:d ≠ t:=fun e=>h (by rw [e])
  simp [Act.put,Array.getD_eq_getD_getElem?,Array.getElem?_setIfInBounds,this]
theorem zVi {a:Act} {y:Value} {t:Nat} (h:t < a.tmps.size):(a.put (some t) y).tmps.getD t undef=y:=by
 simp [Act.put,Array.getD_eq_getD_getElem?,h]
theorem zQd {a:Act} {d:Option Tmp} {y:Value}:(a.put d y).tmps.size=a.tmps.size:=by
 cases d <;> simp [Act.put]
theorem Slt.step {β β':Bt} {D:Nat->Prop} {a:Act} (S:Slt L st n β D a0 a) (hd:distinct (xI L)=true) {j:Nat} {o:Oper} {v:AV} {y:Value} (hj:¬ D j) (ho:L[j]?=some o)
  (hp:iB n (st j).tm o.dst v=some (st (j+1)).tm) (hle:Le β β') (hv:v.Rel (cut β' (st (j+1)).nx) y):Slt L st n β' (fun i=>i=j∨D i) a0 (a.put o.dst y) where
 slots:=fun t h=>by
  rw [aT (by rw [<- nI ho]; exact h j (.inl rfl))]
  exact S.slots t fun i hi=>h i (.inr hi)
 vals:=fun i t u hi hs hu=>by
  rcases hi with rfl | hi
  ·rw [nI ho] at hs
   obtain ⟨h1,h2⟩:=(Pv hp).1 t hs
   rw [h1] at hu
   simp only [aA] at hu
   subst hu
   rw [hs,zVi (by rw [S.Zm]; exact h2)]
   exact hv
  ·rw [aT]
   ·exact (S.vals i t u hi hs hu).mono (mD hle (aI _))
   ·intro h
    rw [<- nI ho] at h
    exact hj (Gq hd h hs ▸ hi)
 Zm:=by rw [zQd]; exact S.Zm
 dfr:=by rw [put_defers]; exact S.dfr
theorem Slt.look {β:Bt} {D:Nat->Prop} {a:Act} (C:Cx E ih n lo L ds st β0 A0 w0 a0 tm0) (S:Slt L st n β D a0 a) (hl:Le β0 β) (hlt:∀ i,D i->i < L.length) (hcl:Cl ds D) {j:Nat} {o:Oper} {d:Nat} (hj:¬ D j) (ho:L[j]?=some o) (hd:ds[j]?=some d)
  (hr:∀ i,bit d i=true->D i):∀ t,t ∈ o.looksAt L.toArray->∀ v,(st j).tm.get t=some v->v.Rel (cut β (st j).nx) (a.tmps.getD t undef):=by
 intro t ht v hv
 have hjl:j < L.length:=(aS.1 ho).1
 by_cases hex:∃ i,i < j∧bG L i=some t
 ·obtain ⟨i,hi,hs⟩:=hex
  have hil:i < L.length:=by omega
  have hoi:L[i]?=some L[i]:=List.getElem?_eq_getElem hil
  have hDi:D i:=by
   obtain ⟨d',h1,h2⟩:=xK C.ap ho
   rw [hd] at h1
   cases h1
   rcases h2 i L[i] (by simpa using hi) (by simp) with h3 | h3
   ·exact hr i h3
   ·simp only [Ju,aF] at h3
    rw [nI hoi] at hs
    exact absurd ht ((Oper.apart_spec h3.1).1 t hs)
  have he:(st j).tm.get t=(st (i+1)).tm.get t:=C.ok.tm (by omega) (by omega) fun k h1 h2 h3=>by
   have:=Gq C.dis hs h3
   omega
  rw [he] at hv
  exact (S.vals i t v hDi hs hv).mono (mD (.refl β) (C.ok.nx (by omega) (by omega)))
 ·have he:(st j).tm.get t=(st 0).tm.get t:=C.ok.tm (by omega) (by omega) fun k _ h2 h3=>hex ⟨k,h2,h3⟩
  rw [he,C.s0] at hv
  obtain ⟨_,hrel⟩:=C.F0.get t v hv
  rw [S.slots t]
  ·refine hrel.mono fun id p hp=>?_
   have hid:id < (st j).nx:=by
    have h1:id < A0.nx:=by
     rcases aY id A0.nx with h | h
     ·exact h
     ·rw [C.W0.nx id h] at hp; cases hp
    have h2:=C.ok.nx (i:=0) (j:=j) (by omega) (by omega)
    rw [C.s0] at h2
    exact Nat.lt_of_lt_of_le h1 h2
   rw [oM hid]
   exact hl _ _ hp
  ·intro i hi hs
   rcases Nat.lt_trichotomy i j with h1 | h1 | h1
   ·exact hex ⟨i,h1,hs⟩
   ·exact hj (h1 ▸ hi)
   ·have hil:=hlt i hi
    have hoi:L[i]?=some L[i]:=List.getElem?_eq_getElem hil
    obtain ⟨d',h2,h3⟩:=xK C.ap hoi
    rcases h3 j o (by simpa using h1) (by simpa using ho) with h4 | h4
    ·exact hj (hcl i d' hi h2 j h4)
    ·simp only [Ju,aF] at h4
     rw [nI hoi] at hs
     exact absurd ht ((Oper.apart_spec h4.2).1 t hs)
theorem Ti {j i:Nat} {o:Oper} {want:Bool} {t:Nat} (hg:o.guard=some (i,want)) (hs:bG L i=some t):t ∈ o.looksAt L.toArray:=by
 unfold Oper.looksAt
 refine List.mem_append_right _ ?_
 rw [hg]
 unfold bG at hs
 simp [hs]
theorem zCi {a:Act} {i t:Nat} {b:Bool} (hs:bG L i=some t) (h:a.tmps.getD t undef=.bool b):yielded L.toArray a.tmps i=some b:=by
 unfold yielded
 have h1:(L.toArray[i]?).bind (·.dst)=some t:=by rw [List.getElem?_toArray]; exact hs
 rw [h1]
 simp only [Option.bind_some]
 rw [Array.getD_eq_getD_getElem?] at h
 cases ht:a.tmps[t]? with
 | none=>rw [ht] at h; cases h
 | some x=>rw [ht] at h; simp only [Option.getD_some] at h; rw [h]
theorem zQe {a:Act} {i t:Nat} (hs:bG L i=some t) (h:a.tmps.getD t undef=.tuple #[]):yielded L.toArray a.tmps i=none:=by
 unfold yielded
 have h1:(L.toArray[i]?).bind (·.dst)=some t:=by rw [List.getElem?_toArray]; exact hs
 rw [h1]
 simp only [Option.bind_some]
 rw [Array.getD_eq_getD_getElem?] at h
 cases ht:a.tmps[t]? with
 | none=>rfl
 | some x=>rw [ht] at h; simp only [Option.getD_some] at h; rw [h]
theorem Kk {β:Bt} {a:Act} {o:Oper} {d:Nat} {s:DS} (hw:Wnt L d o s) (hl:∀ t,t ∈ o.looksAt L.toArray->∀ v,s.tm.get t=some v->v.Rel β (a.tmps.getD t undef)):Region.wanted o (yielded L.toArray a.tmps)=true:=by
 unfold Region.wanted
 cases hg:o.guard with
 | none=>rfl
 | some p =>
  obtain ⟨i,want⟩:=p
  obtain ⟨_,t,hs,hv⟩:=hw i want hg
  have hr:=hl t (Ti (j:=0) hg hs) _ hv
  simp only [AV.Rel] at hr
  simp only [zCi hs hr,beq_self_eq_true]
theorem zEt {β:Bt} {a:Act} {o:Oper} {d:Nat} {s:DS} (hw:Unw L d o s) (hl:∀ t,t ∈ o.looksAt L.toArray->∀ v,s.tm.get t=some v->v.Rel β (a.tmps.getD t undef)):¬ Region.wanted o (yielded L.toArray a.tmps)=true:=by
 obtain ⟨i,want,t,v,hg,_,hs,hv,hc⟩:=hw
 have hr:=hl t (Ti (j:=0) hg hs) _ hv
 unfold Region.wanted
 rw [hg]
 rcases hc with ⟨b,rfl,hb⟩ | rfl
 ·simp only [AV.Rel] at hr
  simp only [zCi hs hr]
  intro h
  have h:b=want:=by simpa using h
  subst h
  simp at hb
 ·obtain ⟨x,e,hx⟩:=hr
  simp only [AV.aN] at hx
  subst hx
  simp [zQe hs e]
end
end Go.Ce
namespace Go.Ce
def hp (st:Nat->DS) (D:Nat->Prop) (p:Nat) (id:Nat) (B:Blk):Prop :=
 (st p).H.get id=some B∨∃ i X,D i∧HL st i X∧(p <= i∨(i,X) ∈ (st p).pend)∧X.get id=some B
structure Inv (n lo:Nat) (L:List Oper) (ds:List Nat) (st:Nat->DS) (β0:Bt) (A0:W) (w0:World) (a0:Act) (D:Nat->Prop) (p:Nat) (β:Bt) (w:World) (a:Act):Prop where
 cor:Cor lo β0 A0 w0 β (hp st D p) (st L.length).nx w
 lt:∀ i,D i->i < L.length
 cl:Cl ds D
 ph:p <= L.length
 ph0:p=0∨∃ k,p=k+1∧WR st k∧D k
 phw:∀ i,i < L.length->WR st i->(D i <-> i < p)
 dom:∀ id q,β id=some q->id < A0.nx∨∃ i,D i∧(st i).nx <= id∧id < (st (i+1)).nx
 main:∀ id B,(st p).H.get id=some B->id < (st p).nx∧∀ b o m,β id=some (b,o,m)->B.Rel (cut β (st p).nx) w.heap b o m
 low:∀ id,id < lo->(st p).H.get id=A0.H.get id
 loose:∀ i X,D i->HL st i X->(p <= i∨(i,X) ∈ (st p).pend)->∀ id B,X.get id=some B ->
  (st i).nx <= id∧id < (st (i+1)).nx∧B.lone=true∧(∀ b o m,β id=some (b,o,m)->B.Rel (cut β (st (i+1)).nx) w.heap b o m)∧(st p).H.get id=none
 slt:Slt L st n β D a0 a
section
variable {E:Env} {ih:Runs} {n lo:Nat} {L:List Oper} {ds:List Nat} {st:Nat->DS} {β0:Bt} {A0:W} {w0:World} {a0:Act} {tm0:T AV}
theorem Inv.first (C:Cx E ih n lo L ds st β0 A0 w0 a0 tm0):Inv n lo L ds st β0 A0 w0 a0 (fun _=>False) 0 β0 w0 a0 where
 cor:=by
  refine Cor.sub (h:=fun id B=>A0.H.get id=some B) ⟨?_,.refl _,aI _,fun _ _ _=>rfl,fun id B _ h=>⟨B,h⟩,fun id b o n h1 h2=>?_,fun _ _ _ h=>h,rfl,rfl,rfl⟩ fun id B h=>?_
  ·have h:=WP.of C.W0
   have hx:A0.nx <= (st L.length).nx:=by
    have h2:=C.ok.nx (i:=0) (j:=L.length) (by omega) (by omega)
    rw [C.s0] at h2
    exact h2
   exact ⟨Nat.le_trans h.lo_le hx,h.blk,fun id hi=>h.nx id (by omega),h.here,h.sep,h.side⟩
  ·rw [C.W0.nx id h1] at h2; cases h2
  ·rcases h with h | ⟨i,X,h,_⟩
   ·rw [C.s0] at h; exact h
   ·exact h.elim
 lt:=fun _ h=>h.elim
 cl:=fun _ _ h=>h.elim
 ph:=Nat.zero_le _
 ph0:=.inl rfl
 phw:=fun i _ _=>by simp
 dom:=fun id q h=>.inl (by
  rcases aY id A0.nx with h1 | h1
  ·exact h1
  ·rw [C.W0.nx id h1] at h; cases h)
 main:=fun id B h=>by
  rw [C.s0] at h ⊢
  refine ⟨C.W0.lt h,fun b o m hb=>?_⟩
  obtain ⟨b',o',m',hb',_,hr⟩:=C.W0.blk id B h
  rw [hb'] at hb
  simp only [aA,aB] at hb
  obtain ⟨rfl,rfl,rfl⟩:=hb
  refine hr.mono (fun i q hq=>?_) rfl
  rw [oM]
  ·exact hq
  ·rcases aY i A0.nx with h1 | h1
   ·exact h1
   ·rw [C.W0.nx i h1] at hq; cases hq
 low:=fun id _=>by rw [C.s0]
 loose:=fun _ _ h=>h.elim
 slt:=⟨fun _ _=>rfl,fun _ _ _ h=>h.elim,C.F0.size,rfl⟩
theorem Inv.last (C:Cx E ih n lo L ds st β0 A0 w0 a0 tm0) {D:Nat->Prop} {p:Nat} {β:Bt} {w:World} {a:Act} (I:Inv n lo L ds st β0 A0 w0 a0 D p β w a) (hD:∀ i,i < L.length->D i) :
  Go lo β0 A0 w0 β ⟨uK (st L.length).pend (st L.length).H,(st L.length).nx⟩ w∧fU β n (st L.length).tm a∧a.defers=a0.defers:=by
 have hH:(st L.length).H=(st p).H:=C.ok.same I.ph (aI _) fun i h1 h2 h3=>by
  have:=(I.phw i h2 h3).1 (hD i h2)
  omega
 have h0:(st 0).pend=[]:=by rw [C.s0]
 have hget:∀ id B,(uK (st L.length).pend (st L.length).H).get id=some B->hp st D p id B:=fun id B h=>by
  rcases Tf h with h | ⟨x,h1,h2⟩
  ·rw [hH] at h; exact .inl h
  ·obtain ⟨h3,h4⟩:=C.ok.pend h0 (aI _) h1
   refine .inr ⟨x.1,x.2,hD _ h3,h4,?_,h2⟩
   rcases C.ok.down I.ph (aI _) h1 with h5 | h5
   ·exact .inr h5
   ·exact .inl h5
 have hx:A0.nx <= (st L.length).nx:=by
  have h2:=C.ok.nx (i:=0) (j:=L.length) (by omega) (by omega)
  rw [C.s0] at h2
  exact h2
 refine ⟨⟨I.cor.wp.to hget rfl,I.cor.ext,hx,I.cor.size,I.cor.old,fun id B hi h=>I.cor.back id B hi (hget _ _ h),fun id hi=>?_,I.cor.fresh,I.cor.old',I.cor.os,I.cor.tape,I.cor.output⟩,⟨I.slt.Zm,fun t v hv=>?_⟩,I.slt.dfr⟩
 ·simp only
  rw [Tg,hH,I.low id hi]
  intro x hx
  cases hg:x.2.get id with
  | none=>rfl
  | some B =>
   obtain ⟨h3,h4⟩:=C.ok.pend h0 (aI _) hx
   have h6:p <= x.1∨(x.1,x.2) ∈ (st p).pend:=by
    rcases C.ok.down I.ph (aI _) hx with h5 | h5
    ·exact .inr h5
    ·exact .inl h5
   have h7:=(I.loose x.1 x.2 (hD _ h3) h4 h6 id B hg).1
   have h8:=C.ok.nx (i:=0) (j:=x.1) (by omega) (by omega)
   rw [C.s0] at h8
   have h9:=C.W0.lo_le
   simp only at h8
   omega
 ·by_cases hex:∃ i,i < L.length∧bG L i=some t
  ·obtain ⟨i,hi,hs⟩:=hex
   have he:(st L.length).tm.get t=(st (i+1)).tm.get t:=C.ok.tm (by omega) (by omega) fun k h1 h2 h3=>by
    have:=Gq C.dis hs h3
    omega
   rw [he] at hv
   have hoi:L[i]?=some L[i]:=List.getElem?_eq_getElem hi
   obtain ⟨u,hp⟩:=C.ok.put hoi
   rw [nI hoi] at hs
   refine ⟨((Pv hp).1 t hs).2,(I.slt.vals i t v (hD i hi) (by rw [nI hoi]; exact hs) hv).mono (zMu _ _)⟩
  ·have he:(st L.length).tm.get t=(st 0).tm.get t:=C.ok.tm (by omega) (by omega) fun k _ h2 h3=>hex ⟨k,h2,h3⟩
   rw [he,C.s0] at hv
   obtain ⟨h1,h2⟩:=C.F0.get t v hv
   refine ⟨h1,?_⟩
   rw [I.slt.slots t fun i hi hs=>hex ⟨i,I.lt i hi,hs⟩]
   exact h2.mono I.cor.ext
theorem Pw {β:Bt} {h:Nat->Blk->Prop} {nx:Nat} {w:World} (H:WP lo β h nx w) {base lo1:Nat} {H':T Blk} (hlo:lo1 <= base) (hs:∀ id B,H'.get id=some B->h id B)
  (hr:∀ id B,H'.get id=some B->id < base∧∀ b o m,β id=some (b,o,m)->B.Rel (cut β base) w.heap b o m)
  (hsd:lo1=lo∨lo1=base):aX lo1 (cut β base) ⟨H',base⟩ w where
 lo_le:=hlo
 blk:=fun id B hB=>by
  obtain ⟨b,o,m,h1,h2,_⟩:=H.blk id B (hs _ _ hB)
  obtain ⟨h3,h4⟩:=hr id B hB
  exact ⟨b,o,m,by rw [oM h3]; exact h1,h2,h4 b o m h1⟩
 nx:=fun id hi=>zMt hi
 here:=fun id b o m hb=>H.here id b o m (eO hb).2
 sep:=fun id id' B B' b o o' m m' hne h1 h2 h3 h4=>H.sep id id' B B' b o o' m m' hne (hs _ _ h1) (hs _ _ h2) (eO h3).2 (eO h4).2
 side:=fun id id' B' b o o' m m' h1 h2 h3 h4 h5=>by
  rcases hsd with rfl | rfl
  ·exact H.side id id' B' b o o' m m' h1 h2 (hs _ _ h3) (eO h4).2 (eO h5).2
  ·have:=(hr _ _ h3).1
   omega
theorem Nn {d nx:Nat} {H:T Blk} {x:Nat × Oper × T AV × AV}:∀ {l:List (Nat × Oper × T AV × AV)},Dn E ih d nx H l=true->x ∈ l->bit d x.1=true∨Dm E ih nx H x.2.1 x.2.2.1 x.2.2.2=true
 | p :: r,h,hx=>by
  simp only [Dn,aF,Bool.or_eq_true] at h
  cases hx with
  | head=>exact h.1
  | tail _ hx=>exact Nn h.2 hx
theorem Xx {d nx:Nat} {o:Oper} {tv:T AV} {v:AV} {x:Nat × T Blk}:∀ {l:List (Nat × T Blk)},reads E ih d nx o tv v l=true->x ∈ l->bit d x.1=true∨Dm E ih nx x.2 o tv v=true
 | p :: r,h,hx=>by
  simp only [reads,aF,Bool.or_eq_true] at h
  cases hx with
  | head=>exact h.1
  | tail _ hx=>exact Xx h.2 hx
theorem Np {nx:Nat} {H:T Blk} {o:Oper} {tv:T AV} {v:AV} (h:Dm E ih nx H o tv v=true):∃ A1,nU E ih nx o tv ⟨H,nx⟩=some (v,A1)∧A1.nx=nx:=by
 unfold Dm at h
 split at h
 ·rename_i v' A1 hr
  rw [aF] at h
  rw [same_eq h.1] at hr
  exact ⟨A1,hr,aG h.2⟩
 ·cases h
theorem Inv.phase (C:Cx E ih n lo L ds st β0 A0 w0 a0 tm0) {D:Nat->Prop} {p:Nat} {β:Bt} {w:World} {a:Act} (I:Inv n lo L ds st β0 A0 w0 a0 D p β w a) {j:Nat} (hj:j < L.length) (hD:¬ D j) (hw:WR st j):p <= j:=by
 rcases aY j p with h | h
 ·exact absurd ((I.phw j hj hw).2 h) hD
 ·exact h
theorem Px {o:Oper} {t:Nat} {tm:T AV} {v:AV} (h:(view tm (tmpsOf o.op.operands.toList)).get t=some v):t ∈ o.looksAt L.toArray∧tm.get t=some v:=by
 obtain ⟨h1,h2⟩:=Gn h
 refine ⟨List.mem_append_left _ (List.mem_filterMap.2 ⟨.tmp t,uL h2,rfl⟩),h1⟩
theorem Inv.quiet {D:Nat->Prop} {p j:Nat} {β β':Bt} {w w':World} {a a':Act} (I:Inv n lo L ds st β0 A0 w0 a0 D p β w a) (hj:j < L.length) (hcl:∀ d,ds[j]?=some d->∀ i,bit d i=true->D i) (hw:¬ WR st j) (hh:∀ X,¬ HL st j X)
  (cor:Cor lo β0 A0 w0 β' (hp st D p) (st L.length).nx w') (hβ:β'=β)
  (hk:∀ id B b o m,hp st D p id B->β id=some (b,o,m)->w'.heap[b]?=w.heap[b]?) (slt:Slt L st n β' (fun i=>i=j∨D i) a0 a'):Inv n lo L ds st β0 A0 w0 a0 (fun i=>i=j∨D i) p β' w' a':=by
 subst hβ
 refine ⟨cor.sub ?_,?_,?_,I.ph,?_,?_,?_,?_,I.low,?_,slt⟩
 ·rintro id B (h | ⟨i,X,h1,h2,h3⟩)
  ·exact .inl h
  ·rcases h1 with rfl | h1
   ·exact absurd h2 (hh X)
   ·exact .inr ⟨i,X,h1,h2,h3⟩
 ·rintro i (rfl | h)
  ·exact hj
  ·exact I.lt i h
 ·rintro i d (rfl | h) hd k hk
  ·exact .inr (hcl d hd k hk)
  ·exact .inr (I.cl i d h hd k hk)
 ·rcases I.ph0 with h | ⟨k,h1,h2,h3⟩
  ·exact .inl h
  ·exact .inr ⟨k,h1,h2,.inr h3⟩
 ·intro i hi hwi
  have:i ≠ j:=fun e=>hw (e ▸ hwi)
  simp only [this,false_or]
  exact I.phw i hi hwi
 ·intro id q hq
  rcases I.dom id q hq with h | ⟨i,h1,h2⟩
  ·exact .inl h
  ·exact .inr ⟨i,.inr h1,h2⟩
 ·intro id B hB
  obtain ⟨h1,h2⟩:=I.main id B hB
  exact ⟨h1,fun b o m hb=>(h2 b o m hb).mono (.refl _) (hk id B b o m (.inl hB) hb)⟩
 ·rintro i X (rfl | hi) hX hl id B hB
  ·exact absurd hX (hh X)
  ·obtain ⟨h1,h2,h3,h4,h5⟩:=I.loose i X hi hX hl id B hB
   exact ⟨h1,h2,h3,fun b o m hb=>(h4 b o m hb).mono (.refl _) (hk id B b o m (.inr ⟨i,X,hi,hX,hl,hB⟩) hb),h5⟩
end
end Go.Ce
namespace Go.Ce
theorem least {P:Nat->Prop}:∀ (m:Nat),P m->∃ i,P i∧i <= m∧∀ k,k < i->¬ P k:=by
 intro m
 induction m using Nat.strongRecOn with
 | _ m IH =>
  intro hm
  by_cases h:∃ k,k < m∧P k
  ·obtain ⟨k,h1,h2⟩:=h
   obtain ⟨i,h3,h4,h5⟩:=IH k h1 h2
   exact ⟨i,h3,by omega,h5⟩
  ·exact ⟨m,hm,aI _,fun k h1 h2=>h ⟨k,h1,h2⟩⟩
section
variable {E:Env} {ih:Runs} {n lo:Nat} {L:List Oper} {ds:List Nat} {st:Nat->DS} {β0:Bt} {A0:W} {w0:World} {a0:Act} {tm0:T AV}
variable {D:Nat->Prop} {p:Nat} {β:Bt} {w:World} {a:Act}
theorem Inv.zVj (C:Cx E ih n lo L ds st β0 A0 w0 a0 tm0) (I:Inv n lo L ds st β0 A0 w0 a0 D p β w a) {j d:Nat} {o:Oper} (hj:¬ D j) (ho:L[j]?=some o) (hd:ds[j]?=some d) (hr:∀ i,bit d i=true->D i)
  {v:AV} {A1:W} (h1:nU E ih (st j).nx o (view (st j).tm (tmpsOf o.op.operands.toList)) ⟨(st j).H,(st j).nx⟩=some (v,A1)) (hn:A1.nx=(st j).nx)
  (hrd:reads E ih d (st j).nx o (view (st j).tm (tmpsOf o.op.operands.toList)) v (st j).hist=true)
  (hpast:(j,o,view (st j).tm (tmpsOf o.op.operands.toList),v) ∈ (st (j+1)).past) :
  ∃ base A2,(st p).nx <= base∧(st j).nx <= base∧base <= (st L.length).nx∧nU E ih base o (view (st j).tm (tmpsOf o.op.operands.toList)) ⟨(st p).H,base⟩=some (v,A2)∧A2.nx=base:=by
 have hjl:j < L.length:=(aS.1 ho).1
 have hjn:=C.ok.nx (i:=j) (j:=L.length) (by omega) (by omega)
 have hpn:=C.ok.nx (i:=p) (j:=L.length) I.ph (by omega)
 have h0:(st 0).hist=[]:=by rw [C.s0]
 rcases aY j p with hjp | hjp
 ·rcases I.ph0 with h | ⟨k,rfl,hk,hDk⟩
  ·omega
  ·have hkj:j < k:=by
    rcases aY j k with h | h
    ·exact h
    ·exact absurd ((show j=k by omega) ▸ hDk) hj
   have hkl:=I.lt k hDk
   obtain ⟨o',d',ho',hd',kd⟩:=C.ok.at hkl
   unfold WR at hk
   cases kd with
   | off tm' hu hp e=>rw [e] at hk; exact absurd hk rG
   | hl v A1 tm' hw hr hp hn hl e=>rw [e] at hk; exact absurd hk rG
   | ld v A1 tm' hw hr hp hn hu hrd e=>rw [e] at hk; exact absurd hk rG
   | wr v' A' tm' hw hc hr' hp hn' hrr e =>
    have hm:=C.ok.past (p:=j+1) (q:=k) (by omega) (by omega) hpast
    rcases Nn hrr hm with h | h
    ·exact absurd (I.cl k d' hDk hd' j h) hj
    ·obtain ⟨A2,h2,h3⟩:=Np h
     have e1:(st (k+1)).nx=A'.nx:=by rw [e]
     have e2:(st (k+1)).H=A'.H:=by rw [e]
     refine ⟨A'.nx,A2,by rw [e1]; exact aI _,?_,by rw [<- e1]; exact hpn,by rw [e2]; exact h2,h3⟩
     rw [<- e1]
     exact C.ok.nx (by omega) (by omega)
 ·have hpj:=C.ok.nx hjp (by omega)
  by_cases hex:∃ i,p <= i∧i < j∧WR st i
  ·obtain ⟨i0,hi0⟩:=hex
   obtain ⟨i,⟨h2,h3,h4⟩,_,h5⟩:=least (P:=fun i=>p <= i∧i < j∧WR st i) i0 hi0
   have hH:(st i).H=(st p).H:=C.ok.same h2 (by omega) fun k h6 h7 h8=>h5 k h7 ⟨h6,by omega,h8⟩
   have hm:(i,(st i).H) ∈ (st j).hist:=(C.ok.hist h0 (by omega) _).2 ⟨i,h3,h4,rfl⟩
   rcases Xx hrd hm with h | h
   ·have:=(I.phw i (by omega) h4).1 (hr i h)
    omega
   ·obtain ⟨A2,h6,h7⟩:=Np h
    rw [hH] at h6
    exact ⟨_,A2,hpj,aI _,hjn,h6,h7⟩
  ·have hH:(st j).H=(st p).H:=C.ok.same hjp (by omega) fun k h6 h7 h8=>hex ⟨k,h6,h7,h8⟩
   rw [hH] at h1
   exact ⟨_,A1,hpj,aI _,hjn,h1,hn⟩
theorem zCj (β β1:Bt) (base:Nat):mix β β1 base base=β:=funext fun id=>iX (by omega)
theorem Inv.read (hE:fA E) (hih:pI E ih) (C:Cx E ih n lo L ds st β0 A0 w0 a0 tm0) (I:Inv n lo L ds st β0 A0 w0 a0 D p β w a) {j d:Nat} {o:Oper} (hj:¬ D j) (ho:L[j]?=some o) (hd:ds[j]?=some d) (hr:∀ i,bit d i=true->D i)
  (rH:∀ t,t ∈ o.looksAt L.toArray->∀ v,(st j).tm.get t=some v->v.Rel (cut β (st j).nx) (a.tmps.getD t undef))
  {v:AV} {A1:W} {tm':T AV} (h1:nU E ih (st j).nx o (view (st j).tm (tmpsOf o.op.operands.toList)) ⟨(st j).H,(st j).nx⟩=some (v,A1)) (hput:iB n (st j).tm o.dst v=some tm') (hn:A1.nx=(st j).nx) (hu:AV.under (st j).nx v=true)
  (hrd:reads E ih d (st j).nx o (view (st j).tm (tmpsOf o.op.operands.toList)) v (st j).hist=true)
  (e:st (j+1)={ st j with tm:=tm',past:=(j,o,view (st j).tm (tmpsOf o.op.operands.toList),v) :: (st j).past })
  {K:Act->World->Prop} {Q:Exit->Act->World->Prop} (hK:∀ p' β' w' a',Inv n lo L ds st β0 A0 w0 a0 (fun i=>i=j∨D i) p' β' w' a'->K a' w'):o.wp E.P a w K Q:=by
 have hjl:j < L.length:=(aS.1 ho).1
 obtain ⟨base,A2,hb1,hb2,hb3,h2,h3⟩:=I.zVj C hj ho hd hr h1 hn hrd (by rw [e]; exact .head _)
 obtain ⟨H2,nx2⟩:=A2
 simp only at h3
 subst h3
 have hlo:lo <= nx2:=by
  have:=C.W0.lo_le
  have h4:=C.ok.nx (i:=0) (j:=j) (by omega) (by omega)
  rw [C.s0] at h4
  simp only at h4
  omega
 have hmain:∀ id B,(st p).H.get id=some B->id < nx2∧∀ b o m,β id=some (b,o,m)->B.Rel (cut β nx2) w.heap b o m:=fun id B hB=>by
  obtain ⟨h5,h6⟩:=I.main id B hB
  exact ⟨by omega,fun b o m hb=>(h6 b o m hb).mono (mD (.refl _) hb1) rfl⟩
 have hW:aX nx2 (cut β nx2) ⟨(st p).H,nx2⟩ w:=Pw I.cor.wp (aI _) (fun id B hB=>.inl hB) hmain (.inr rfl)
 refine Pp hE hih hW (Zk fun t u hu=>?_) h2 fun y β1 w1 hgo hv=>?_
 ·obtain ⟨h4,h5⟩:=Px (L:=L) hu
  exact (rH t h4 u h5).mono (mD (.refl _) hb2)
 ·have hA0:A0.nx <= nx2:=by
   have h4:=C.ok.nx (i:=0) (j:=j) (by omega) (by omega)
   rw [C.s0] at h4
   simp only at h4
   omega
  obtain ⟨cor,stp⟩:=I.cor.step (hp st D p) hlo hA0 (fun id B hB=>.inl hB) (fun _ _ h=>h) (fun id B id' B' b o m o' m' _ h4 h5 _ _=>by
   have:=(hmain _ _ h5).1
   omega) (fun id h4 h5=>by omega) (aI _) hb3 hW hgo
  rw [zCj] at cor
  have hcut:Le β1 (cut β nx2):=by
   have:=stp.zCg
   rwa [zCj] at this
  refine hK p β w1 _ (I.quiet hjl (fun d' hd' i hi=>?_) ?_ ?_ (cor.sub fun _ _ h=>.inl h) rfl (fun id B b o m hB hb=>stp.Zl id B b o m hB hb) (I.slt.step C.dis hj ho (by rw [e]; exact hput) (.refl _) ?_))
  ·rw [hd] at hd'; cases hd'; exact hr i hi
  ·unfold WR; rw [e]; exact rG
  ·intro X; unfold HL; rw [e]; exact rG
  ·rw [e]
   exact (jJ hu (hv.mono hcut)).mono (mD (zMu _ _) (aI _))
theorem Inv.make (hE:fA E) (hih:pI E ih) (C:Cx E ih n lo L ds st β0 A0 w0 a0 tm0) (I:Inv n lo L ds st β0 A0 w0 a0 D p β w a) {j d:Nat} {o:Oper} (hj:¬ D j) (ho:L[j]?=some o) (hd:ds[j]?=some d) (hr:∀ i,bit d i=true->D i)
  (rH:∀ t,t ∈ o.looksAt L.toArray->∀ v,(st j).tm.get t=some v->v.Rel (cut β (st j).nx) (a.tmps.getD t undef))
  {v:AV} {A1:W} {tm':T AV} (h1:nU E ih (st j).nx o (view (st j).tm (tmpsOf o.op.operands.toList)) ⟨.nil,(st j).nx⟩=some (v,A1)) (hput:iB n (st j).tm o.dst v=some tm') (hn:(st j).nx <= A1.nx) (hl:T.all Blk.lone A1.H=true)
  (e:st (j+1)={ st j with tm:=tm',nx:=A1.nx,pend:=(j,A1.H) :: (st j).pend })
  {K:Act->World->Prop} {Q:Exit->Act->World->Prop} (hK:∀ p' β' w' a',Inv n lo L ds st β0 A0 w0 a0 (fun i=>i=j∨D i) p' β' w' a'->K a' w'):o.wp E.P a w K Q:=by
 have hjl:j < L.length:=(aS.1 ho).1
 obtain ⟨H1,top⟩:=A1
 have hj1:(st (j+1)).nx=top:=by rw [e]
 have hHL:HL st j H1:=by unfold HL; rw [e]
 have hA0:A0.nx <= (st j).nx:=by
  have h4:=C.ok.nx (i:=0) (j:=j) (by omega) (by omega)
  rw [C.s0] at h4
  exact h4
 have hlo:lo <= (st j).nx:=Nat.le_trans C.W0.lo_le hA0
 have hnil:∀ id B,(T.nil:T Blk).get id=some B->False:=fun id B h=>by simp [T.get] at h
 have hW:aX (st j).nx (cut β (st j).nx) ⟨.nil,(st j).nx⟩ w:=Pw I.cor.wp (aI _) (fun id B hB=>(hnil id B hB).elim) (fun id B hB=>(hnil id B hB).elim) (.inr rfl)
 have htn:top <= (st L.length).nx:=by
  rw [<- hj1]
  exact C.ok.nx (by omega) (by omega)
 have Pq:∀ id,(st j).nx <= id->id < top->β id=none:=fun id h2 h3=>by
  cases hb:β id with
  | none=>rfl
  | some q =>
   rcases I.dom id q hb with h4 | ⟨i,h4,h5,h6⟩
   ·omega
   ·have hil:=I.lt i h4
    rcases Nat.lt_trichotomy i j with h7 | h7 | h7
    ·have:=C.ok.nx (i:=i+1) (j:=j) (by omega) (by omega)
     omega
    ·exact absurd (h7 ▸ h4) hj
    ·have:=C.ok.nx (i:=j+1) (j:=i) (by omega) (by omega)
     omega
 refine Pp hE hih hW (Zk fun t u hu=>?_) h1 fun y β1 w1 hgo hv=>?_
 ·obtain ⟨h4,h5⟩:=Px (L:=L) hu
  exact rH t h4 u h5
 ·obtain ⟨cor,stp⟩:=I.cor.step (hp st D p) hlo hA0 (fun id B hB=>(hnil id B hB).elim) (fun _ _ h=>h) (fun id B id' B' b o m o' m' _ _ h5 _ _=>(hnil _ _ h5).elim) Pq hn htn hW hgo
  have hβ:∀ id B,hp st D p id B->mix β β1 (st j).nx top id=β id:=fun id B hB=>by
   obtain ⟨b,o,m,hb,_⟩:=I.cor.wp.blk id B hB
   rw [stp.le _ _ hb,hb]
  have hH1:∀ id B,H1.get id=some B->(st j).nx <= id∧id < top:=fun id B hB=>by
   refine ⟨?_,(stp.eq1 id B hB).2⟩
   rcases aY id (st j).nx with h2 | h2
   ·obtain ⟨B0,h3⟩:=hgo.back id B h2 hB
    exact (hnil _ _ h3).elim
   ·exact h2
  have hnh:∀ X,HL st j X->X=H1:=fun X hX=>by
   unfold HL at hX
   rw [e] at hX
   simp only [aK,aB,true_and,and_true] at hX
   exact hX.symm
  refine hK p _ w1 _ ⟨cor.sub ?_,?_,?_,I.ph,?_,?_,?_,?_,I.low,?_,I.slt.step C.dis hj ho (by rw [e]; exact hput) stp.le ?_⟩
  ·rintro id B (h | ⟨i,X,h2,h3,h4,h5⟩)
   ·exact .inl (.inl h)
   ·rcases h2 with rfl | h2
    ·rw [hnh X h3] at h5; exact .inr h5
    ·exact .inl (.inr ⟨i,X,h2,h3,h4,h5⟩)
  ·rintro i (rfl | h)
   ·exact hjl
   ·exact I.lt i h
  ·rintro i d' (rfl | h) hd' k hk
   ·rw [hd] at hd'; cases hd'; exact .inr (hr k hk)
   ·exact .inr (I.cl i d' h hd' k hk)
  ·rcases I.ph0 with h | ⟨k,h2,h3,h4⟩
   ·exact .inl h
   ·exact .inr ⟨k,h2,h3,.inr h4⟩
  ·intro i hi hwi
   have:i ≠ j:=fun e'=>by
    subst e'
    unfold WR at hwi
    rw [e] at hwi
    exact rG hwi
   simp only [this,false_or]
   exact I.phw i hi hwi
  ·intro id q hq
   by_cases h2:(st j).nx <= id∧id < top
   ·exact .inr ⟨j,.inl rfl,h2.1,by rw [hj1]; exact h2.2⟩
   ·rw [iX (by omega)] at hq
    rcases I.dom id q hq with h | ⟨i,h3,h4⟩
    ·exact .inl h
    ·exact .inr ⟨i,.inr h3,h4⟩
  ·intro id B hB
   obtain ⟨h2,h3⟩:=I.main id B hB
   refine ⟨h2,fun b o m hb=>?_⟩
   rw [hβ id B (.inl hB)] at hb
   exact (h3 b o m hb).mono (mD stp.le (aI _)) (stp.Zl id B b o m (.inl hB) hb)
  ·rintro i X (rfl | hi) hX hlz id B hB
   ·rw [hnh X hX] at hB
    obtain ⟨h2,h3⟩:=hH1 id B hB
    refine ⟨h2,by rw [hj1]; exact h3,T.Gm hl hB,fun b o m hb=>?_,?_⟩
    ·rw [(stp.eq1 id B hB).1] at hb
     obtain ⟨b',o',m',h4,_,h5⟩:=hgo.rel.blk id B hB
     rw [h4] at hb
     simp only [aA,aB] at hb
     obtain ⟨rfl,rfl,rfl⟩:=hb
     rw [hj1]
     exact h5.mono stp.zCg rfl
    ·cases hg:(st p).H.get id with
     | none=>rfl
     | some B2 =>
      obtain ⟨b,o,m,hb,_⟩:=I.cor.wp.blk id B2 (.inl hg)
      rw [Pq id h2 h3] at hb
      cases hb
   ·obtain ⟨h2,h3,h4,h5,h6⟩:=I.loose i X hi hX hlz id B hB
    have hhp:hp st D p id B:=.inr ⟨i,X,hi,hX,hlz,hB⟩
    refine ⟨h2,h3,h4,fun b o m hb=>?_,h6⟩
    rw [hβ id B hhp] at hb
    exact (h5 b o m hb).mono (mD stp.le (aI _)) (stp.Zl id B b o m hhp hb)
  ·rw [hj1]
   exact hv.mono stp.zCg
end
end Go.Ce
namespace Go.Ce
section
variable {E:Env} {ih:Runs} {n lo:Nat} {L:List Oper} {ds:List Nat} {st:Nat->DS} {β0:Bt} {A0:W} {w0:World} {a0:Act} {tm0:T AV}
variable {D:Nat->Prop} {p:Nat} {β:Bt} {w:World} {a:Act}
theorem Inv.write (hE:fA E) (hih:pI E ih) (C:Cx E ih n lo L ds st β0 A0 w0 a0 tm0) (I:Inv n lo L ds st β0 A0 w0 a0 D p β w a) {j d:Nat} {o:Oper} (hj:¬ D j) (ho:L[j]?=some o) (hd:ds[j]?=some d) (hr:∀ i,bit d i=true->D i)
  (rH:∀ t,t ∈ o.looksAt L.toArray->∀ v,(st j).tm.get t=some v->v.Rel (cut β (st j).nx) (a.tmps.getD t undef))
  {v:AV} {A1:W} {tm':T AV} (hc:chain d (st j).hist=true) (h1:nU E ih lo o (view (st j).tm (tmpsOf o.op.operands.toList)) ⟨T.union (eP d (st j).pend).1 (st j).H,(st j).nx⟩=some (v,A1)) (hput:iB n (st j).tm o.dst v=some tm') (hn:(st j).nx <= A1.nx)
  (e:st (j+1)={ tm:=tm',H:=A1.H,nx:=A1.nx,pend:=(eP d (st j).pend).2,hist:=(j,(st j).H) :: (st j).hist,past:=(st j).past })
  {K:Act->World->Prop} {Q:Exit->Act->World->Prop} (hK:∀ p' β' w' a',Inv n lo L ds st β0 A0 w0 a0 (fun i=>i=j∨D i) p' β' w' a'->K a' w'):o.wp E.P a w K Q:=by
 have hjl:j < L.length:=(aS.1 ho).1
 have h0h:(st 0).hist=[]:=by rw [C.s0]
 have h0p:(st 0).pend=[]:=by rw [C.s0]
 have hWR:WR st j:=by unfold WR; rw [e]
 have zVk:∀ X,¬ HL st j X:=fun X hX=>by
  unfold HL at hX
  rw [e] at hX
  have h2:=Te d (st j).pend
  have h3:=congrArg List.length hX
  simp only [List.length_cons] at h3
  omega
 have hpj:p <= j:=I.phase C hjl hj hWR
 have zMw:∀ i,i < j->WR st i->D i:=fun i hi hwi=>hr i (Xw hc ((C.ok.hist h0h (by omega) _).2 ⟨i,hi,hwi,rfl⟩))
 have hH:(st j).H=(st p).H:=C.ok.same hpj (by omega) fun i h2 h3 h4=>by
  have:=(I.phw i (by omega) h4).1 (zMw i h3 h4)
  omega
 obtain ⟨H1,top⟩:=A1
 have hj1:(st (j+1)).nx=top:=by rw [e]
 have hjH:(st (j+1)).H=H1:=by rw [e]
 have hjp:(st (j+1)).pend=(eP d (st j).pend).2:=by rw [e]
 have hA0:A0.nx <= (st j).nx:=by
  have h4:=C.ok.nx (i:=0) (j:=j) (by omega) (by omega)
  rw [C.s0] at h4
  exact h4
 have hlo:lo <= (st j).nx:=Nat.le_trans C.W0.lo_le hA0
 have htn:top <= (st L.length).nx:=by
  rw [<- hj1]
  exact C.ok.nx (by omega) (by omega)
 have hpn:=C.ok.nx hpj (by omega)
 have hsp:∀ id B,(T.union (eP d (st j).pend).1 (st j).H).get id=some B->((st p).H.get id=some B)∨∃ i X,D i∧HL st i X∧(p <= i∨(i,X) ∈ (st p).pend)∧X.get id=some B∧bit d i=true∧i < j:=fun id B h=>by
  rw [T.qH] at h
  split at h
  ·rename_i x hx
   simp only [aA] at h
   subst h
   obtain ⟨y,h2,h3,h4⟩:=yR hx
   obtain ⟨h5,h6⟩:=C.ok.pend h0p (by omega) h2
   refine .inr ⟨y.1,y.2,hr _ h3,h6,?_,h4,h3,h5⟩
   rcases C.ok.down hpj (by omega) h2 with h7 | h7
   ·exact .inr h7
   ·exact .inl h7
  ·rw [hH] at h; exact .inl h
 have hsub:∀ id B,(T.union (eP d (st j).pend).1 (st j).H).get id=some B->hp st D p id B:=fun id B h=>by
  rcases hsp id B h with h | ⟨i,X,h2,h3,h4,h5,_⟩
  ·exact .inl h
  ·exact .inr ⟨i,X,h2,h3,h4,h5⟩
 have hmain:∀ id B,(T.union (eP d (st j).pend).1 (st j).H).get id=some B->id < (st j).nx∧∀ b o m,β id=some (b,o,m)->B.Rel (cut β (st j).nx) w.heap b o m:=fun id B h=>by
  rcases hsp id B h with h | ⟨i,X,h2,h3,h4,h5,_,h6⟩
  ·obtain ⟨h5,h6⟩:=I.main id B h
   exact ⟨by omega,fun b o m hb=>(h6 b o m hb).mono (mD (.refl _) hpn) rfl⟩
  ·obtain ⟨_,h7,_,h8,_⟩:=I.loose i X h2 h3 h4 id B h5
   have h9:=C.ok.nx (i:=i+1) (j:=j) (by omega) (by omega)
   exact ⟨by omega,fun b o m hb=>(h8 b o m hb).mono (mD (.refl _) h9) rfl⟩
 have hW:aX lo (cut β (st j).nx) ⟨T.union (eP d (st j).pend).1 (st j).H,(st j).nx⟩ w:=Pw I.cor.wp hlo hsub hmain (.inl rfl)
 have Pq:∀ id,(st j).nx <= id->id < top->β id=none:=fun id h2 h3=>by
  cases hb:β id with
  | none=>rfl
  | some q =>
   rcases I.dom id q hb with h4 | ⟨i,h4,h5,h6⟩
   ·omega
   ·have hil:=I.lt i h4
    rcases Nat.lt_trichotomy i j with h7 | h7 | h7
    ·have:=C.ok.nx (i:=i+1) (j:=j) (by omega) (by omega)
     omega
    ·exact absurd (h7 ▸ h4) hj
    ·have:=C.ok.nx (i:=j+1) (j:=i) (by omega) (by omega)
     omega
 have Tj:∀ i X,D i->HL st i X->(j+1 <= i∨(i,X) ∈ (st (j+1)).pend)->(p <= i∨(i,X) ∈ (st p).pend)∧(j < i∨bit d i=false):=fun i X _ _ h=>by
  rcases h with h | h
  ·exact ⟨.inl (by omega),.inl (by omega)⟩
  ·rw [hjp] at h
   obtain ⟨h2,h3⟩:=wF h
   refine ⟨?_,.inr h3⟩
   rcases C.ok.down hpj (by omega) h2 with h7 | h7
   ·exact .inr h7
   ·exact .inl h7
 have zVl:∀ i X id B B',D i->HL st i X->(j+1 <= i∨(i,X) ∈ (st (j+1)).pend)->X.get id=some B->(T.union (eP d (st j).pend).1 (st j).H).get id=some B'->False:=fun i X id B B' hi hX hl hB hB'=>by
  obtain ⟨h2,h3⟩:=Tj i X hi hX hl
  obtain ⟨h4,h5,_,_,h6⟩:=I.loose i X hi hX h2 id B hB
  rcases hsp id B' hB' with h | ⟨k,Y,h7,h8,h9,h10,h11,h12⟩
  ·rw [h6] at h; cases h
  ·obtain ⟨h13,h14,_,_,_⟩:=I.loose k Y h7 h8 h9 id B' h10
   have hil:=I.lt i hi
   have hkl:=I.lt k h7
   rcases Nat.lt_trichotomy i k with h15 | h15 | h15
   ·have:=C.ok.nx (i:=i+1) (j:=k) (by omega) (by omega)
    omega
   ·subst h15
    rcases h3 with h3 | h3
    ·omega
    ·rw [h11] at h3; cases h3
   ·have:=C.ok.nx (i:=k+1) (j:=i) (by omega) (by omega)
    omega
 refine Pp hE hih hW (Zk fun t u hu=>?_) h1 fun y β1 w1 hgo hv=>?_
 ·obtain ⟨h4,h5⟩:=Px (L:=L) hu
  exact rH t h4 u h5
 ·obtain ⟨cor,stp⟩:=I.cor.step (fun id B=>∃ i X,D i∧HL st i X∧(j+1 <= i∨(i,X) ∈ (st (j+1)).pend)∧X.get id=some B) (aI _) hA0 hsub
   (fun id B ⟨i,X,h2,h3,h4,h5⟩=>.inr ⟨i,X,h2,h3,(Tj i X h2 h3 h4).1,h5⟩)
   (fun id B id' B' b o m o' m' ⟨i,X,h2,h3,h4,h5⟩ _ h6 h7 h8=>by
    by_cases hii:id=id'
    ·subst hii
     exact zVl i X id B B' h2 h3 h4 h5 h6
    ·have hlz:=(Tj i X h2 h3 h4).1
     exact zMv (I.loose i X h2 h3 hlz id B h5).2.2.1 (I.cor.wp.sep id id' B B' b o o' m m' hii (.inr ⟨i,X,h2,h3,hlz,h5⟩) (hsub _ _ h6) h7 h8))
   Pq hn htn hW hgo
  have hβ:∀ id B,hp st D p id B->mix β β1 (st j).nx top id=β id:=fun id B hB=>by
   obtain ⟨b,o,m,hb,_⟩:=I.cor.wp.blk id B hB
   rw [stp.le _ _ hb,hb]
  refine hK (j+1) _ w1 _ ⟨cor.sub ?_,?_,?_,by omega,.inr ⟨j,rfl,hWR,.inl rfl⟩,?_,?_,?_,?_,?_,I.slt.step C.dis hj ho (by rw [e]; exact hput) stp.le ?_⟩
  ·rintro id B (h | ⟨i,X,h2,h3,h4,h5⟩)
   ·rw [hjH] at h; exact .inr h
   ·rcases h2 with rfl | h2
    ·exact absurd h3 (zVk X)
    ·exact .inl ⟨i,X,h2,h3,h4,h5⟩
  ·rintro i (rfl | h)
   ·exact hjl
   ·exact I.lt i h
  ·rintro i d' (rfl | h) hd' k hk
   ·rw [hd] at hd'; cases hd'; exact .inr (hr k hk)
   ·exact .inr (I.cl i d' h hd' k hk)
  ·intro i hi hwi
   constructor
   ·rintro (rfl | h)
    ·omega
    ·have:=(I.phw i hi hwi).1 h
     omega
   ·intro h
    rcases aY i j with h2 | h2
    ·exact .inr (zMw i h2 hwi)
    ·exact .inl (by omega)
  ·intro id q hq
   by_cases h2:(st j).nx <= id∧id < top
   ·exact .inr ⟨j,.inl rfl,h2.1,by rw [hj1]; exact h2.2⟩
   ·rw [iX (by omega)] at hq
    rcases I.dom id q hq with h | ⟨i,h3,h4⟩
    ·exact .inl h
    ·exact .inr ⟨i,.inr h3,h4⟩
  ·intro id B hB
   rw [hjH] at hB
   rw [hj1]
   refine ⟨(stp.eq1 id B hB).2,fun b o m hb=>?_⟩
   rw [(stp.eq1 id B hB).1] at hb
   obtain ⟨b',o',m',h4,_,h5⟩:=hgo.rel.blk id B hB
   rw [h4] at hb
   simp only [aA,aB] at hb
   obtain ⟨rfl,rfl,rfl⟩:=hb
   exact h5.mono stp.zCg rfl
  ·intro id hi
   rw [hjH]
   have h2:=hgo.keep id hi
   simp only at h2
   rw [h2,<- I.low id hi,<- hH,T.qH]
   cases hs:(eP d (st j).pend).1.get id with
   | none=>rfl
   | some B =>
    obtain ⟨y,h3,h4,h5⟩:=yR hs
    obtain ⟨h6,h7⟩:=C.ok.pend h0p (by omega) h3
    have h8:p <= y.1∨(y.1,y.2) ∈ (st p).pend:=by
     rcases C.ok.down hpj (by omega) h3 with h7 | h7
     ·exact .inr h7
     ·exact .inl h7
    have h9:=(I.loose y.1 y.2 (hr _ h4) h7 h8 id B h5).1
    have h10:=C.ok.nx (i:=0) (j:=y.1) (by omega) (by omega)
    rw [C.s0] at h10
    simp only at h10
    have h11:=C.W0.lo_le
    omega
  ·rintro i X (rfl | hi) hX hlz id B hB
   ·exact absurd hX (zVk X)
   ·have zVm:=(Tj i X hi hX hlz).1
    obtain ⟨h2,h3,h4,h5,h6⟩:=I.loose i X hi hX zVm id B hB
    have hhp:hp st D p id B:=.inr ⟨i,X,hi,hX,zVm,hB⟩
    refine ⟨h2,h3,h4,fun b o m hb=>?_,?_⟩
    ·rw [hβ id B hhp] at hb
     exact (h5 b o m hb).mono (mD stp.le (aI _)) (stp.Zl id B b o m ⟨i,X,hi,hX,hlz,hB⟩ hb)
    ·rw [hjH]
     cases hg:H1.get id with
     | none=>rfl
     | some B2 =>
      rcases aY id (st j).nx with h7 | h7
      ·obtain ⟨B3,h8⟩:=hgo.back id B2 h7 hg
       exact (zVl i X id B B3 hi hX hlz hB h8).elim
      ·have h8:=(stp.eq1 id B2 hg).2
       obtain ⟨b,o,m,hb,_⟩:=I.cor.wp.blk id B hhp
       rw [Pq id h7 h8] at hb
       cases hb
  ·rw [hj1]
   exact hv.mono stp.zCg
theorem Inv.step (hE:fA E) (hih:pI E ih) (C:Cx E ih n lo L ds st β0 A0 w0 a0 tm0) (I:Inv n lo L ds st β0 A0 w0 a0 D p β w a) {j:Nat} {o:Oper} (hj:¬ D j) (ho:L[j]?=some o) (zVn:∀ e ∈ o.after.toList,Region.binds .any e=true->D e.on)
  {K:Act->World->Prop} {Q:Exit->Act->World->Prop} (hK:∀ p' β' w' a',Inv n lo L ds st β0 A0 w0 a0 (fun i=>i=j∨D i) p' β' w' a'->K a' w') :
  (Region.wanted o (yielded L.toArray a.tmps)=true->o.wp E.P a w K Q)∧(¬ Region.wanted o (yielded L.toArray a.tmps)=true->K (a.put o.dst undef) w):=by
 have hjl:j < L.length:=(aS.1 ho).1
 obtain ⟨d,hd,kd⟩:=C.ok j o ho
 have hr:=zJo C.dep I.cl ho hd zVn
 have rH:=I.slt.look C I.cor.ext I.lt I.cl hj ho hd hr
 cases kd with
 | off tm' hu hput e =>
  have hun:=zEt hu rH
  refine ⟨fun h=>absurd h hun,fun _=>hK p β w _ (I.quiet hjl (fun d' hd' i hi=>?_) ?_ ?_ I.cor rfl (fun _ _ _ _ _ _ _=>rfl) (I.slt.step (v:=.tu []) C.dis hj ho (by rw [e]; exact hput) (.refl _) ⟨[],rfl,rfl⟩))⟩
  ·rw [hd] at hd'; cases hd'; exact hr i hi
  ·unfold WR; rw [e]; exact rG
  ·intro X; unfold HL; rw [e]; exact rG
 | wr v A1 tm' hw hc h1 hput hn hrr e=>exact ⟨fun _=>I.write hE hih C hj ho hd hr rH hc h1 hput hn e hK,fun h=>absurd (Kk hw rH) h⟩
 | hl v A1 tm' hw h1 hput hn hl e=>exact ⟨fun _=>I.make hE hih C hj ho hd hr rH h1 hput hn hl e hK,fun h=>absurd (Kk hw rH) h⟩
 | ld v A1 tm' hw h1 hput hn hu hrd e=>exact ⟨fun _=>I.read hE hih C hj ho hd hr rH h1 hput hn hu hrd e hK,fun h=>absurd (Kk hw rH) h⟩
theorem Inv.any (hE:fA E) (hih:pI E ih) (C:Cx E ih n lo L ds st β0 A0 w0 a0 tm0) {Q:Exit->Act->World->Prop}
  (hQ:∀ D p β w a,Inv n lo L ds st β0 A0 w0 a0 D p β w a->(∀ i,i < L.length->D i)->Q .normal a w) :
  ∀ (fuel:Nat) (listed:Array Bool) (p:Nat) (β:Bt) (w:World) (a:Act),listed.size=L.length->listed.toList.count false <= fuel->Inv n lo L ds st β0 A0 w0 a0 (fun i=>listed.getD i false=true) p β w a ->
   wpAny E.P .any L.toArray Q fuel listed a w:=by
 have hall:∀ (listed:Array Bool),listed.size=L.length->Cl ds (fun i=>listed.getD i false=true)->Region.ready .any L.toArray listed=[]->∀ i,i < L.length->listed.getD i false=true:=fun listed hs hcl hrd i hi=>by
  apply Classical.byContradiction
  intro hni
  obtain ⟨k,⟨h1,h2⟩,_,h3⟩:=least (P:=fun i=>i < L.length∧¬ listed.getD i false=true) i ⟨hi,hni⟩
  have hok:L[k]?=some L[k]:=List.getElem?_eq_getElem h1
  have:k ∈ Region.ready .any L.toArray listed:=by
   rw [mem_ready]
   refine ⟨?_,L[k],by rw [List.getElem?_toArray]; exact hok,fun e he hb=>?_⟩
   ·have hk:k < listed.size:=by omega
    simp only [Array.getD_eq_getD_getElem?,Array.getElem?_eq_getElem hk,Option.getD_some] at h2 ⊢
    simpa using h2
   ·obtain ⟨es,hes,_,hspec⟩:=wE C.dep
    simp only [List.nil_append] at hes
    subst hes
    obtain ⟨d,h4,h5⟩:=hspec k L[k] hok
    simp only [List.length_nil,Nat.zero_add] at h4 h5
    have h6:=((rF h5).1 e (by simpa using he) hb).1
    have h7:=zVh C.dep k hok h4 _ h6
    apply Classical.byContradiction
    intro h8
    exact h3 e.on h7 ⟨by omega,h8⟩
  rw [hrd] at this
  cases this
 intro fuel
 induction fuel with
 | zero =>
  intro listed p β w a hs hc I
  have hd:∀ i,i < L.length->listed.getD i false=true:=fun i hi=>by
   have hk:i < listed.size:=by omega
   simp only [Array.getD_eq_getD_getElem?,Array.getElem?_eq_getElem hk,Option.getD_some]
   cases hb:listed[i] with
   | true=>rfl
   | false =>
    have h1:(false:Bool) ∈ listed.toList:=by rw [<- hb]; simp
    have h2:=List.count_pos_iff.2 h1
    omega
  refine ⟨?_,hQ _ p β w a I hd⟩
  cases hr:Region.ready .any L.toArray listed with
  | nil=>rfl
  | cons x xs =>
   have hx:x ∈ Region.ready .any L.toArray listed:=by rw [hr]; exact .head _
   obtain ⟨h1,o,h2,_⟩:=mem_ready.1 hx
   rw [List.getElem?_toArray] at h2
   have h3:=(aS.1 h2).1
   have h4:=hd x h3
   have hk:x < listed.size:=by omega
   simp only [Array.getD_eq_getD_getElem?,Array.getElem?_eq_getElem hk,Option.getD_some] at h1 h4
   rw [h1] at h4
   cases h4
 | succ fuel IH =>
  intro listed p β w a hs hc I
  refine ⟨fun hr=>hQ _ p β w a I (hall listed hs I.cl hr),fun j hj=>?_⟩
  obtain ⟨h1,o,h2,h3⟩:=mem_ready.1 hj
  have ho:L[j]?=some o:=by rw [List.getElem?_toArray] at h2; exact h2
  have hjl:=(aS.1 ho).1
  have hk:j < listed.size:=by omega
  have hjf:listed[j]=false:=by simpa [Array.getD_eq_getD_getElem?,Array.getElem?_eq_getElem hk] using h1
  have hnj:¬ listed.getD j false=true:=by simp [Array.getD_eq_getD_getElem?,Array.getElem?_eq_getElem hk,hjf]
  have key:∀ p' β' w' a',Inv n lo L ds st β0 A0 w0 a0 (fun i=>i=j∨listed.getD i false=true) p' β' w' a'->wpAny E.P .any L.toArray Q fuel (listed.setIfInBounds j true) a' w':=fun p' β' w' a' I'=>by
   refine IH _ p' β' w' a' (by simpa using hs) ?_ ?_
   ·have h4:(listed.setIfInBounds j true).toList=listed.toList.set j true:=by simp
    have hkl:j < listed.toList.length:=by simpa using hk
    have hlf:listed.toList[j]=false:=by simpa using hjf
    rw [h4,List.count_set hkl,hlf]
    have h5:0 < listed.toList.count false:=List.count_pos_iff.2 (by rw [<- hlf]; exact List.getElem_mem hkl)
    simp only [beq_self_eq_true,if_true,Bool.true_beq,Bool.false_eq_true,if_false]
    omega
   ·have h6:(fun i=>(listed.setIfInBounds j true).getD i false=true)=(fun i=>i=j∨listed.getD i false=true):=funext fun i=>propext (by
     by_cases hij:i=j
     ·subst hij
      simp [Array.getD_eq_getD_getElem?,hk]
     ·rw [getD_set_ne false (Ne.symm hij)]
      simp [hij])
    rw [h6]
    exact I'
  have hst:=I.step hE hih C hnj ho (fun e he hb=>h3 e (by simpa using he) hb) (Q:=Q) key
  unfold wpOp
  rw [h2]
  simp only
  by_cases hw:Region.wanted o (yielded L.toArray a.tmps)=true
  ·rw [if_pos hw]; exact .inl (hst.1 hw)
  ·rw [if_neg hw]; exact hst.2 hw
end
theorem zTi {E:Env} {ih:Runs} (hE:fA E) (hih:pI E ih):zMr E ih:=by
 intro n lo id ops tm tm' A A' ex β w a h hW hf
 unfold Oz at h
 replace h:=aC h; obtain ⟨ds,hds,h⟩:=h
 obtain ⟨zR,h⟩:=aM h
 replace h:=aC h; obtain ⟨s,hs,h⟩:=h
 simp only [aA,aB] at h
 obtain ⟨rfl,rfl,rfl⟩:=h
 rw [zRm,aF] at zR
 obtain ⟨st,h0,hN,hst⟩:=Du E ih n lo hs
 rw [Nat.zero_add] at hN
 have hW0:aX lo β A { w with drawn:=w.drawn+1 }:=⟨hW.lo_le,hW.blk,hW.nx,hW.here,hW.sep,hW.side⟩
 have C:Cx E ih n lo ops.toList ds st β A { w with drawn:=w.drawn+1 } a tm:=⟨hds,zR.1,zR.2,fun i o ho=>by
  obtain ⟨d,h1,h2⟩:=hst i o ho
  rw [Nat.zero_add] at h2
  exact ⟨d,h1,zEs h2⟩,h0,hW0,hf⟩
 refine wp_region_any hE.mixed ?_
 have hfalse:(fun i=>(Array.replicate ops.size false).getD i false=true)=(fun _=>False):=funext fun i=>propext (by
  simp only [Array.getD_eq_getD_getElem?,Array.getElem?_replicate,iff_false]
  split <;> simp)
 have:=Inv.any hE hih C (Q:=Aft lo n β A w a .normal s.tm ⟨uK s.pend s.H,s.nx⟩) (fun D p β' w' a' I hD=>by
  obtain ⟨g,f,hdf⟩:=I.last C hD
  rw [hN] at g f
  exact ⟨β',⟨g.rel,g.ext,g.nx,g.size,g.old,g.back,g.keep,g.fresh,g.old',g.os,g.tape,g.output⟩,f,rfl,hdf⟩) ops.size (Array.replicate ops.size false) 0 β { w with drawn:=w.drawn+1 } a (by simp) (by simp) (by rw [hfalse]; exact Inv.first C)
 simpa using this
theorem uM {E:Env} (hE:fA E):∀ fuel,pI E (run E fuel)
 | 0=>fun n lo sc c tm A ex tm' A' h=>by cases h
 | k+1=>step_ok hE (uM hE k) (zTi hE (uM hE k))
end Go.Ce
namespace Go.Ce
def Blk.under (n:Nat):Blk->Bool
 | .cells cs _ _ _=>AV.jX n cs
 | .map es _=>Dv n es
 | .mit m _ _ _=>Nat.blt m n
 | .sit _ _=>true
 | .dict _ es _=>Dw n es
 | .typed _ cs=>AV.jX n cs
 | .ro cs=>AV.jX n cs
where
 Dv (n:Nat):List (AV × AV × Nat)->Bool
 | []=>true
 | e :: r=>AV.under n e.1 && AV.under n e.2.1 && Dv n r
 Dw (n:Nat):List (Nat × AV)->Bool
 | []=>true
 | e :: r=>AV.under n e.2 && Dw n r
theorem yS {n:Nat}:∀ {l:List AV} {i:Nat} {v:AV},AV.jX n l=true->l[i]?=some v->AV.under n v=true
 | [],_,_,_,h=>by simp at h
 | a :: l,0,v,hu,h=>by
  simp only [AV.jX,aF] at hu
  simp only [List.getElem?_cons_zero,aA] at h
  subst h; exact hu.1
 | a :: l,i+1,v,hu,h=>by
  simp only [AV.jX,aF] at hu
  exact yS hu.2 (by simpa using h)
theorem Tm {β:Bt} {n:Nat}:∀ {es:List (AV × AV × Nat)} {ms:List MapEntry},Blk.under.Dv n es=true->aW β es ms->aW (cut β n) es ms
 | [],_,_,h=>h
 | e :: es,_,hu,⟨x,xs,hx,h1,h2,h3,h4⟩=>by
  simp only [Blk.under.Dv,aF] at hu
  exact ⟨x,xs,hx,jJ hu.1.1 h1,jJ hu.1.2 h2,h3,Tm hu.2 h4⟩
theorem Xy {n m:Nat} {v:AV}:∀ {es:List (Nat × AV)},Blk.under.Dw n es=true->lkN m es=some v->AV.under n v=true
 | [],_,h=>by simp [lkN] at h
 | e :: es,hu,h=>by
  simp only [Blk.under.Dw,aF] at hu
  simp only [lkN,cnd] at h
  split at h
  ·simp only [aA] at h
   subst h; exact hu.1
  ·exact Xy hu.2 h
theorem Xz {β:Bt} {n:Nat} {h:Array Obj} {b o m:Nat}:∀ {B:Blk},B.under n=true->B.Rel β h b o m->B.Rel (cut β n) h b o m
 | .cells cs cls top shr,hu,⟨c,e,fz,h1,h2,h3,h4⟩=>⟨c,e,fz,h1,h2,h3,fun i v hv=>let ⟨x,hx,hr⟩:=h4 i v hv; ⟨x,hx,jJ (yS hu hv) hr⟩⟩
 | .map es clk,hu,⟨h0,ms,h1,h2⟩=>⟨h0,ms,h1,Tm hu h2⟩
 | .mit m since seen st,hu,⟨h0,bm,nm,h1,h2⟩=>⟨h0,bm,nm,by rw [oM (by simpa [Blk.under,Nat.blt_eq] using hu)]; exact h1,h2⟩
 | .sit l pos,_,h=>h
 | .dict k es qE,hu,⟨h0,ms,clk,h1,h2,h3⟩=>⟨h0,ms,clk,h1,fun e he=>let ⟨m,v,e1,e2,e3⟩:=h2 e he; ⟨m,v,e1,e2,jJ (Xy hu e2) e3⟩,h3⟩
 | .typed t cs,hu,⟨h0,c,h1,h2,h3,h4⟩=>⟨h0,c,h1,h2,h3,fun i v hv=>let ⟨x,hx,hr⟩:=h4 i v hv; ⟨x,hx,jJ (yS hu hv) hr⟩⟩
 | .ro cs,hu,⟨h0,c,e,fz,h1,h4⟩=>⟨h0,c,e,fz,h1,fun i v hv=>let ⟨x,hx,hr⟩:=h4 i v hv; ⟨x,hx,jJ (yS hu hv) hr⟩⟩
structure Sub (A'' A':W):Prop where
 nx:A''.nx <= A'.nx
 get:∀ id B,A''.H.get id=some B->A'.H.get id=some B∧id < A''.nx∧B.under A''.nx=true
theorem Go.forget {β β':Bt} {A A' A'':W} {w w':World} (h0:aX 0 β A w) (h:Go 0 β A w β' A' w') (hn:A.nx <= A''.nx) (hs:Sub A'' A'):Go 0 β A w (cut β' A''.nx) A'' w' where
 rel:={
  lo_le:=Nat.zero_le _
  blk:=fun id B hB=>by
   obtain ⟨h1,h2,h3⟩:=hs.get id B hB
   obtain ⟨b,o,n,h4,h5,h6⟩:=h.rel.blk id B h1
   exact ⟨b,o,n,by rw [oM h2]; exact h4,h5,Xz h3 h6⟩
  nx:=fun id hi=>zMt hi
  here:=fun id b o n hb=>h.rel.here id b o n (eO hb).2
  sep:=fun id id' B B' b o o' n n' hne h1 h2 h3 h4=>h.rel.sep id id' B B' b o o' n n' hne (hs.get _ _ h1).1 (hs.get _ _ h2).1 (eO h3).2 (eO h4).2
  side:=fun id _ _ _ _ _ _ _ hi=>by omega }
 ext:=fun id p hp=>by
  have:id < A.nx:=by
   rcases aY id A.nx with h1 | h1
   ·exact h1
   ·rw [h0.nx id h1] at hp; cases hp
  rw [oM (by omega)]
  exact h.ext id p hp
 nx:=hn
 size:=h.size
 old:=h.old
 back:=fun id B hi hB=>h.back id B hi (hs.get id B hB).1
 keep:=fun id hi=>by omega
 fresh:=fun id b o n hi hb=>h.fresh id b o n hi (eO hb).2
 old':=fun id p hi hb=>h.old' id p hi (eO hb).2
 os:=h.os
 tape:=h.tape
 output:=h.output
theorem Go.drew {lo:Nat} {β β':Bt} {A A':W} {w w':World} (h:Go lo β A { w with drawn:=w.drawn+1 } β' A' w'):Go lo β A w β' A' w' :=
 ⟨h.rel,h.ext,h.nx,h.size,h.old,h.back,h.keep,h.fresh,h.old',h.os,h.tape,h.output⟩
def LP (P:Program) (c:Code) (Q:Exit->Act->World->Prop) (a:Act) (w:World):Prop :=
 ∀ (b:Frame) (k:List Item) (cs:List Frame),∃ x a' w',Q x a' w'∧Arrives P (lone (b.at a (.code c :: .inLoop c :: k)) cs w) b k cs x a' w'
theorem zTj {P:Program} {c:Code} {Q:Exit->Act->World->Prop} {a:Act} {w:World} (h:LP P c Q a w):(Code.loop c).wp P Q a w:=by
 intro b k cs
 obtain ⟨y,a1,w1,haft,harr⟩:=h b k cs
 exact ⟨y,a1,w1,haft,.of_steps (.one step_loop) harr⟩
theorem zTk {P:Program} {c:Code} {Q:Exit->Act->World->Prop} {a:Act} {w:World} (h:c.wp P (Exit.then (LP P c Q) Q) a w):LP P c Q a w:=by
 intro b k cs
 obtain ⟨x,a1,w1,hq,harr⟩:=h b (.inLoop c :: k) cs
 cases x with
 | normal =>
  obtain ⟨x2,a2,w2,hq2,Ta⟩:=hq b k cs
  exact ⟨x2,a2,w2,hq2,.of_steps (Steps.trans harr (.one step_inLoop)) Ta⟩
 | exit id=>exact ⟨_,a1,w1,hq,.pass (x:=.inLoop c) rfl (fun _ _=>.inl (by simp)) harr⟩
 | goto l=>exact ⟨_,a1,w1,hq,.pass (x:=.inLoop c) rfl (fun _ _=>.inl (by simp)) harr⟩
 | ret=>exact ⟨_,a1,w1,hq,.pass (x:=.inLoop c) rfl (fun _ _=>.inl (by simp)) harr⟩
 | panic ch=>exact ⟨_,a1,w1,hq,.pass (x:=.inLoop c) rfl (fun _ _=>.inl (by simp)) harr⟩
 | outgrown=>exact ⟨_,a1,w1,hq,.pass (x:=.inLoop c) rfl (fun _ _=>.inl (by simp)) harr⟩
section
variable {P:Program} {lo:Nat} {β:Bt} {A:W} {w:World}
theorem aW.mem:∀ {es:List (AV × AV × Nat)} {ms:List MapEntry},aW β es ms->∀ {x:MapEntry},x ∈ ms->∃ e ∈ es,e.1.Rel β x.key∧e.2.1.Rel β x.val∧e.2.2=x.born
 | [],_,h,x,hx=>by simp only [aW] at h; subst h; cases hx
 | e :: es,_,⟨y,ys,hy,h1,h2,h3,h4⟩,x,hx=>by
  subst hy
  cases hx with
  | head=>exact ⟨e,.head _,h1,h2,h3⟩
  | tail _ hx =>
   obtain ⟨f,hf,k⟩:=aW.mem h4 hx
   exact ⟨f,.tail _ hf,k⟩
theorem aW.mem':∀ {es:List (AV × AV × Nat)} {ms:List MapEntry},aW β es ms->∀ {e:AV × AV × Nat},e ∈ es->∃ x ∈ ms,e.2.2=x.born
 | e0 :: es,_,⟨y,ys,hy,h1,h2,h3,h4⟩,e,he=>by
  subst hy
  cases he with
  | head=>exact ⟨y,.head _,h3⟩
  | tail _ he =>
   obtain ⟨f,hf,k⟩:=aW.mem' h4 he
   exact ⟨f,.tail _ hf,k⟩
theorem zQf (hW:aX lo β A w) {it m clk:Nat} {seen:List Nat} {es:List (AV × AV × Nat)} (hB:A.H.get it=some (.mit m clk seen clk)) (hM:A.H.get m=some (.map es clk)) (hlo:lo <= it) (hbig:it < big)
  (hold:∀ e ∈ es,e.2.2 < clk) {u:Value} (hu:(AV.pt it 0).Rel β u) (ty:TypeId) :
  ((∀ e ∈ es,e.2.2 ∈ seen)∧Gives P lo β A w (Instr.next u false ty) (.tu [.bo false]) A) ∨
  ∃ e ∈ es,e.2.2 ∉ seen∧Gives P lo β A w (Instr.next u false ty) (.tu [.bo true,e.1,e.2.1]) ⟨A.H.put it (some (.mit m clk (e.2.2 :: seen) clk)),A.nx⟩:=by
 obtain ⟨bl,o,n,hb,hlt,rfl,bm,nm,hbm,hit⟩:=hW.blk _ _ hB
 obtain ⟨b',o',n',hb',rfl⟩:=hu
 rw [hb] at hb'
 simp only [aA,aB] at hb'
 obtain ⟨rfl,rfl,rfl⟩:=hb'
 obtain ⟨bm',o2,n2,hb2,hlt2,rfl,ms,hm,hrel⟩:=hW.blk _ _ hM
 rw [hbm] at hb2
 simp only [aA,aB] at hb2
 obtain ⟨rfl,_,rfl⟩:=hb2
 have hold':∀ x ∈ ms.toArray.toList,x.born < clk:=fun x hx=>by
  obtain ⟨e,he,_,_,h3⟩:=hrel.mem (by simpa using hx)
  rw [<- h3]; exact hold e he
 rcases run_next_at (P:=P) w ty bl bm clk clk seen.reverse.toArray ms.toArray clk hit hm hold' (aI _) with ⟨h1,h2⟩ | ⟨x,hx,w1,hw1,h2⟩
 ·refine .inl ⟨fun e he=>?_,.tuple #[.bool false],β,w,h2,.refl hW,[.bool false],rfl,_,_,rfl,rfl,rfl⟩
  obtain ⟨x,hx,hxe⟩:=hrel.mem' he
  apply Classical.byContradiction
  intro hns
  have:x ∈ (leftOf ms.toArray seen.reverse.toArray).toList:=by
   unfold leftOf
   simp only [Array.toList_filter,List.mem_filter]
   refine ⟨hx,?_⟩
   rw [hxe] at hns
   simpa using hns
  rw [Array.eq_empty_of_size_eq_zero h1] at this
  cases this
 ·unfold leftOf at hx
  simp only [Array.toList_filter,List.mem_filter] at hx
  obtain ⟨hx1,hx2⟩:=hx
  obtain ⟨e,he,k1,k2,k3⟩:=hrel.mem hx1
  refine .inr ⟨e,he,?_,.tuple #[.bool true,x.key,x.val],β,_,h2,?_,[.bool true,x.key,x.val],rfl,_,_,rfl,rfl,_,_,rfl,k1,_,_,rfl,k2,rfl⟩
  ·rw [k3]; simpa using hx2
  ·obtain ⟨p1,p2,p3⟩:=lN w bl (.mapIter (some bm) clk (e.2.2 :: seen).reverse.toArray clk) hlt
   have hpush:(seen.reverse.toArray.push x.born)=(e.2.2 :: seen).reverse.toArray:=by rw [k3]; simp
   have hg:Go lo β A w β ⟨A.H.put it (some (.mit m clk (e.2.2 :: seen) clk)),A.nx⟩ { w with heap:=w.heap.setIfInBounds bl (.mapIter (some bm) clk (e.2.2 :: seen).reverse.toArray clk) } :=
    Go.obj hW hB (fun B2 h=>by cases B2 <;> exact h) hlo hbig hb p1 p2 ⟨rfl,bm,nm,hbm,p3⟩ rfl rfl rfl
   rw [hpush]
   rcases hw1 with rfl | rfl
   ·exact ⟨hg.rel,hg.ext,hg.nx,hg.size,hg.old,hg.back,hg.keep,hg.fresh,hg.old',hg.os,hg.tape,hg.output⟩
   ·exact ⟨⟨hg.rel.lo_le,hg.rel.blk,hg.rel.nx,hg.rel.here,hg.rel.sep,hg.rel.side⟩,hg.ext,hg.nx,hg.size,hg.old,hg.back,hg.keep,hg.fresh,hg.old',hg.os,hg.tape,hg.output⟩
end
end Go.Ce
