/- Part of a proof over this seat: a library of my own, and what it says of this seat. No statement is proved here. -/
import Derived.Test.YtdgneppobefaoaaGreatDoorPartAY
namespace Go.Ce
def Qd (es:List (AV × AV × Nat)) (clk:Nat) (σ:List Nat):W:=⟨(T.nil.put 0 (some (.map es clk))).put 1 (some (.mit 0 clk σ clk)),2⟩
def tmM (its:Nat) (x:AV):T AV:=(T.nil.put 0 (some x)).put its (some (.pt 1 0))
theorem zCx {α:Type} {a b:Option α} {i j:Nat} (hi:i < big) (hj:j < big) (id:Nat):((T.nil.put i a).put j b).get id=if id=j then b else if id=i then a else none:=by
 by_cases h1:id=j
 ·subst h1; rw [if_pos rfl]; exact T.dJ _ hj
 ·rw [if_neg h1,T.aT _ h1]
  by_cases h0:id=i
  ·subst h0; rw [if_pos rfl]; exact T.dJ _ hi
  ·rw [if_neg h0,T.aT _ h0]; rfl
theorem tJ {es:List (AV × AV × Nat)} {clk:Nat} {σ:List Nat} (id:Nat):(Qd es clk σ).H.get id=if id=1 then some (.mit 0 clk σ clk) else if id=0 then some (.map es clk) else none:=zCx Pz Vi id
def zRs (its:Nat):Option (Ex × T AV × W)->Option (Option AV × Option AV × Option Blk × Option Blk × Bool)
 | some (.normal,tm,A)=>some (tm.get 0,tm.get its,A.H.get 0,A.H.get 1,Nat.ble 2 A.nx)
 | _=>none
def zRt (its:Nat):Option (T AV × W)->Option (Option AV × Option AV × Option Blk × Option Blk × Nat)
 | some (tm,A)=>some (tm.get 0,tm.get its,A.H.get 0,A.H.get 1,A.nx)
 | none=>none
def zRu (E:Env) (fn:Func):Option (Ex × T AV × W)->Option AV
 | some (.ret,tm,A)=>match kJ E tm A fn.results.toList with
  | some l=>some (Fp l)
  | none=>none
 | _=>none
section
variable {E:Env}
theorem nZ (hE:fA E) {k n its a1 a2:Nat} {r0 r1 r2 rest suf c:Code} {es:List (AV × AV × Nat)} {clk:Nat} {f:FuncId} {fn:Func} {bid rid:Nat} {nx ex:Oper} {x v:AV} {eh:AV × AV × Nat}
  (hF:E.F.get f=some fn) (hc:fn.body=some c) (hshape:c=.seq r0 (.seq r1 (.seq (.seq r2 (.block bid (.loop (.seq (.region rid #[nx,ex] false) rest)))) suf))) (hn:fn.ntmps=n) (hnb:n < big)
  (hnx:nx.op=.next (.tmp its) false) (hng:nx.guard=none) (hnd:nx.dst=some a1) (hex:ex.op=.extract (.tmp a1) 0) (heg:ex.guard=none) (hed:ex.dst=some a2)
  (hs:0 < its∧its < n∧a1 < n∧a2 < n)
  (hpre:zRt its (zCk E k n r0 r1 r2 [x])=some (some x,some (.pt 1 0),some (.map es clk),some (.mit 0 clk [] clk),2))
  (hB:zCo clk es=true) (hI:Vj 0 es=true) (hue:Blk.under.Dv 2 es=true) (hx:AV.under 0 x=true) (hv:AV.under 0 v=true) (hx2:AV.under 2 x=true) (heh:eh ∈ es)
  (hmiss:∀ e ∈ es,e ≠ eh->∀ σ,zRs its (run E k n 0 .pl rest (tmE (tmM its x) a1 a2 (.tu [.bo true,e.1,e.2.1]) true) (Qd es clk (e.2.2 :: σ)))=some (some x,some (.pt 1 0),some (.map es clk),some (.mit 0 clk (e.2.2 :: σ) clk),true))
  (hhit:∀ σ,zRu E fn (run E k n 0 .pl rest (tmE (tmM its x) a1 a2 (.tu [.bo true,eh.1,eh.2.1]) true) (Qd es clk (eh.2.2 :: σ)))=some v)
  (lo:Nat) (A:W) (args:List AV) (ha:args=[x]):cZ E.P lo f args A (.ret v) A:=by
 subst ha
 have hib:its < big:=by omega
 have Ma:∀ t,(tmM its x).get t=if t=its then some (.pt 1 0) else if t=0 then some x else none:=fun t=>zCx Pz hib t
 have zCp:∀ σ id B,(Qd es clk σ).H.get id=some B->id < 2∧B.under 2=true:=fun σ id B h=>by
  rw [tJ] at h
  split at h
  ·cases h; exact ⟨by omega,rfl⟩
  ·split at h
   ·cases h; exact ⟨by omega,hue⟩
   ·cases h
 let J:List Nat->Unit->Prop:=fun σ _=>eh.2.2 ∉ σ
 have R:Rng E k n its 1 0 clk a1 a2 rest (tmM its x) es 2 (fun σ (_:Unit)=>Qd es clk σ) J (zJt E k n bid suf fn fun u _=>u=v):={
  hits:=by rw [Ma,if_pos rfl]
  fit:=fun σ g=>by rw [tJ]; rfl
  fm:=fun σ g=>by rw [tJ]; rfl
  hnx:=fun _ _=>rfl
  hbig:=Vi
  same:=fun σ σ' g id hi=>by rw [tJ,tJ,if_neg hi,if_neg hi]
  hold:=Kl hB
  htm:=fun t u h=>by
   rw [Ma] at h
   split at h
   ·cases h; rfl
   ·split at h
    ·cases h; exact hx2
    ·cases h
  ha1:=⟨hs.2.2.1,by omega⟩
  ha2:=⟨hs.2.2.2,by omega⟩
  round:=fun e he σ g hJ _=>by
   by_cases heq:e.2.2=eh.2.2
   ·have:=zCn hI he heh heq
    subst this
    have h:=hhit σ
    unfold zRu at h
    split at h
    ·rename_i tm' A' hrun
     split at h
     ·rename_i l hl
      simp only [aA] at h
      exact ⟨.ret,tm',A',hrun,.inr ⟨by simp,l,hl,h⟩⟩
     ·cases h
    ·cases h
   ·have hne:e ≠ eh:=fun h=>heq (by rw [h])
    have h:=hmiss e he hne σ
    unfold zRs at h
    split at h
    ·rename_i tm' A' hrun
     simp only [aA,aB] at h
     obtain ⟨h1,h2,h3,h4,h5⟩:=h
     refine ⟨.normal,tm',A',hrun,.inl ⟨rfl,fun t u hu=>?_,(),fun hm=>?_,⟨bA h5,fun id B hB=>?_⟩⟩⟩
     ·rw [Ma] at hu
      split at hu
      ·rename_i ht; cases hu; rw [ht]; exact h2
      ·split at hu
       ·rename_i ht; cases hu; rw [ht]; exact h1
       ·cases hu
     ·rcases List.mem_cons.1 hm with hm | hm
      ·exact heq hm.symm
      ·exact hJ hm
     ·obtain ⟨h7,h8⟩:=zCp _ id B hB
      refine ⟨?_,h7,h8⟩
      have hB:(Qd es clk (e.2.2 :: σ)).H.get id=some B:=hB
      rw [tJ] at hB
      split at hB
      ·rename_i hi; rw [hi,h4]; exact hB
      ·split at hB
       ·rename_i hi; rw [hi,h3]; exact hB
       ·cases hB
    ·cases h
  over:=fun σ g hJ hall=>absurd (hall eh heh) hJ }
 unfold zRt at hpre
 split at hpre
 ·rename_i tm3 A3 hp3
  simp only [aA,aB] at hpre
  obtain ⟨p1,p2,p3,p4,p5⟩:=hpre
  have hax:AV.jX 0 [x]=true:=by simp [AV.jX,hx]
  have hl1:[x].length <= n:=by simp; omega
  have hr:=Tn (args:=[x]) hE hF hc hshape hn hl1 hnb hnx hng hnd hex heg hed hp3 (tm:=tmM its x) (fun t u hu=>by
   rw [Ma] at hu
   split at hu
   ·rename_i ht; cases hu; rw [ht]; exact p2
   ·split at hu
    ·rename_i ht; cases hu; rw [ht]; exact p1
    ·cases hu) p5 (g0:=()) (fun id B hB=>by
   have hB:(Qd es clk []).H.get id=some B:=hB
   rw [tJ] at hB
   split at hB
   ·rename_i hi; cases hB; exact ⟨_,by rw [hi]; exact p4,.refl _⟩
   ·split at hB
    ·rename_i hi; cases hB; exact ⟨_,by rw [hi]; exact p3,.refl _⟩
    ·cases hB) (by simp [J]) R
  refine zMy hv hax (fun w xs hrel=>?_) lo A
  obtain ⟨h1,h2⟩:=hr w xs hrel
  exact ⟨h1,h2⟩
 ·cases hpre
end
end Go.Ce
