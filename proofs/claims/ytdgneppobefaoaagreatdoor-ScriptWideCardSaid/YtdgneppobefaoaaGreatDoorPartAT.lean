/- Part of a proof over this seat: a library of my own, and what it says of this seat. No statement is proved here. -/
import Derived.Test.YtdgneppobefaoaaGreatDoorPartAS
namespace Go.Ce
def cnt (σ:List Nat):List (AV × AV × Nat)->Nat
 | []=>0
 | e :: r=>(if e.2.2 ∈ σ then 0 else 1)+cnt σ r
theorem zMx {σ:List Nat} {b:Nat}:∀ (es:List (AV × AV × Nat)),cnt (b :: σ) es <= cnt σ es
 | []=>aI _
 | e :: r=>by
  have:=zMx (σ:=σ) (b:=b) r
  simp only [cnt,List.mem_cons]
  by_cases h:e.2.2 ∈ σ
  ·simp [h]; exact this
  ·by_cases h2:e.2.2=b
   ·simp [h2]; split <;> omega
   ·simp [h,h2]; exact this
theorem cnt_lt {σ:List Nat} {e:AV × AV × Nat}:∀ {es:List (AV × AV × Nat)},e ∈ es->e.2.2 ∉ σ->cnt (e.2.2 :: σ) es < cnt σ es
 | x :: r,he,hn=>by
  have hr:=zMx (σ:=σ) (b:=e.2.2) r
  simp only [cnt,List.mem_cons]
  cases he with
  | head=>simp [hn]; omega
  | tail _ he =>
   have:=cnt_lt he hn
   by_cases h:x.2.2 ∈ σ
   ·simp [h]; exact this
   ·by_cases h2:x.2.2=e.2.2
    ·simp [h2,hn]; omega
    ·simp [h,h2]; exact this
def tmE (tm:T AV) (a1 a2:Nat) (v:AV) (b:Bool):T AV:=(tm.put a1 (some v)).put a2 (some (.bo b))
section
variable {E:Env} {G:Type}
structure Rng (E:Env) (k n its it m clk a1 a2:Nat) (rest:Code) (tm:T AV) (es:List (AV × AV × Nat)) (N0:Nat) (Fam:List Nat->G->W) (J:List Nat->G->Prop) (Post:Ex->T AV->W->Prop):Prop where
 hits:tm.get its=some (.pt it 0)
 fit:∀ σ g,(Fam σ g).H.get it=some (.mit m clk σ clk)
 fm:∀ σ g,(Fam σ g).H.get m=some (.map es clk)
 hnx:∀ σ g,(Fam σ g).nx=N0
 hbig:it < big
 same:∀ σ σ' g id,id ≠ it->(Fam σ g).H.get id=(Fam σ' g).H.get id
 hold:∀ e ∈ es,e.2.2 < clk
 htm:∀ t v,tm.get t=some v->v.under N0=true
 ha1:a1 < n∧a1 < Ce.big
 ha2:a2 < n∧a2 < Ce.big
 round:∀ e ∈ es,∀ σ g,J σ g->e.2.2 ∉ σ->∃ ex tm' A',run E k n 0 .pl rest (tmE tm a1 a2 (.tu [.bo true,e.1,e.2.1]) true) (Fam (e.2.2 :: σ) g)=some (ex,tm',A') ∧
  ((ex=.normal∧(∀ t v,tm.get t=some v->tm'.get t=some v)∧∃ g',J (e.2.2 :: σ) g'∧Sub (Fam (e.2.2 :: σ) g') A')∨(ex ≠ .normal∧Post ex tm' A'))
 over:∀ σ g,J σ g->(∀ e ∈ es,e.2.2 ∈ σ)->∃ ex tm' A',run E k n 0 .pl rest (tmE tm a1 a2 (.tu [.bo false]) false) (Fam σ g)=some (ex,tm',A')∧ex ≠ .normal∧Post ex tm' A'
def iZ (n:Nat) (β0:Bt) (A0:W) (w0:World) (a0:Act) (Post:Ex->T AV->W->Prop) (x:Exit) (a':Act) (w':World):Prop :=
 ∃ ex tm' A' β',Go 0 β0 A0 w0 β' A' w'∧fU β' n tm' a'∧fJ β' ex x∧a'.defers=a0.defers∧Post ex tm' A'
variable {k n its it m clk a1 a2:Nat} {rest:Code} {tm:T AV} {es:List (AV × AV × Nat)} {N0:Nat} {Fam:List Nat->G->W} {J:List Nat->G->Prop} {Post:Ex->T AV->W->Prop}
theorem Vh {n d:Nat} {tm:T AV} {v:AV} (h:d < n∧d < Ce.big):iB n tm (some d) v=some (tm.put d (some v)):=by
 have h1:(Nat.blt d n && Nat.blt d Ce.big)=true:=by
  rw [aF,Nat.blt_eq,Nat.blt_eq]; exact h
 simp only [iB,h1,ck]
theorem zQg {β:Bt} {a:Act} {v:AV} {y:Value} {b:Bool} (R:Rng E k n its it m clk a1 a2 rest tm es N0 Fam J Post) (hf:fU β n tm a) (hv:v.Rel β y):fU β n (tmE tm a1 a2 v b) ((a.put (some a1) y).put (some a2) (.bool b)):=by
 have h1:iB n tm (some a1) v=some (tm.put a1 (some v)):=Vh R.ha1
 have h2:iB n (tm.put a1 (some v)) (some a2) (.bo b)=some (tmE tm a1 a2 v b):=Vh R.ha2
 exact tT h2 (tT h1 hf hv) rfl
theorem zQh (hE : fA E) (R : Rng E k n its it m clk a1 a2 rest tm es N0 Fam J Post) {rid : Nat} {nx ex : Oper} (hnx : nx.op = .next (.tmp its) false) (hng : nx.guard = none) (hnd : nx.dst = some a1) (hex : ex.op = .extract (.tmp a1) 0) (heg : ex.guard = none) (hed : ex.dst = some a2)
    {β0 : Bt} {A0 : W} {w0 : World} {a0 : Act} (hW0 : aX 0 β0 A0 w0) (hN0 : A0.nx <= N0) :
    ∀ (r : Nat) (σ : List Nat) (g : G) (β : Bt) (w : World) (a : Act), cnt σ es <= r -> J σ g -> Go 0 β0 A0 w0 β (Fam σ g) w -> fU β n tm a -> a.defers = a0.defers ->
      LP E.P (.seq (.region rid #[nx, ex] false) rest) (iZ n β0 A0 w0 a0 Post) a w := by
  intro r
  induction r with
  | zero => ?_
  | succ r IH => ?_
  all_goals
    intro σ g β w a hc hJ hgo hf hd
    refine zTk (wp_seq (wp_region ?_))
    have hrange : List.range (#[nx, ex] : Array Oper).size = [0, 1] := rfl
    rw [hrange]
    have hw1 : Region.wanted nx (yielded #[nx, ex] a.tmps) = true := by simp [Region.wanted, hng]
    simp only [wpOps, List.getElem?_toArray, List.getElem?_cons_zero, hw1, if_true]
    have hits := hf.ev (.tmp its) _ (by simpa [ev] using R.hits)
    have round : ∀ (A1 : W) (β1 : Bt) (w1 : World) (v : AV) (b : Bool) (r : List AV) (y : Value), v = .tu (.bo b :: r) -> Go 0 β0 A0 w0 β1 A1 w1 -> v.Rel β1 y -> fU β1 n tm a ->
        (∀ β2 w2, Go 0 β0 A0 w0 β2 A1 w2 -> Le β1 β2 -> fU β2 n (tmE tm a1 a2 v b) ((a.put (some a1) y).put (some a2) (.bool b)) -> rest.wp E.P (Exit.then (LP E.P (.seq (.region rid #[nx, ex] false) rest) (iZ n β0 A0 w0 a0 Post)) (iZ n β0 A0 w0 a0 Post)) ((a.put (some a1) y).put (some a2) (.bool b)) w2) ->
        wpOps E.P #[nx, ex] (Exit.then (rest.wp E.P (Exit.then (LP E.P (.seq (.region rid #[nx, ex] false) rest) (iZ n β0 A0 w0 a0 Post)) (iZ n β0 A0 w0 a0 Post))) (Exit.then (LP E.P (.seq (.region rid #[nx, ex] false) rest) (iZ n β0 A0 w0 a0 Post)) (iZ n β0 A0 w0 a0 Post))) [1] (a.put nx.dst y) w1 := by
      intro A1 β1 w1 v b r y hv zVo hvr hf1 hk
      subst hv
      have hw2 : Region.wanted ex (yielded #[nx, ex] (a.put nx.dst y).tmps) = true := by simp [Region.wanted, heg]
      simp only [wpOps, List.getElem?_toArray, List.getElem?_cons_succ, List.getElem?_cons_zero, hw2, if_true]
      refine .inl ?_
      have h1 : iB n tm (some a1) (.tu (.bo b :: r)) = some (tm.put a1 (some (.tu (.bo b :: r)))) := Vh R.ha1
      have hfp := tT h1 hf1 hvr
      rw [hnd]
      have hget : (tm.put a1 (some (.tu (.bo b :: r)))).get a1 = some (.tu (.bo b :: r)) := T.dJ _ R.ha1.2
      refine Vg hE zVo.rel hfp.ev (A' := A1) (v := .bo b) (by simp [aOp, hex, ev, hget, ob, nth]) fun y2 β2 w2 jI hv2 => ?_
      simp only [AV.Rel] at hv2
      subst hv2
      rw [hed]
      simp only [Exit.then]
      exact hk β2 w2 (zVo.trans jI) jI.ext (zQg R (hf1.mono jI.ext) (hvr.mono jI.ext))
    have exec : ∀ {v : AV} {A1 : W}, Gives E.P 0 β (Fam σ g) w (Instr.next (a.eval (.tmp its)) false nx.type) v A1 -> (∀ y β1 w1, Go 0 β (Fam σ g) w β1 A1 w1 -> v.Rel β1 y -> wpOps E.P #[nx, ex] (Exit.then (rest.wp E.P (Exit.then (LP E.P (.seq (.region rid #[nx, ex] false) rest) (iZ n β0 A0 w0 a0 Post)) (iZ n β0 A0 w0 a0 Post))) (Exit.then (LP E.P (.seq (.region rid #[nx, ex] false) rest) (iZ n β0 A0 w0 a0 Post)) (iZ n β0 A0 w0 a0 Post))) [1] (a.put nx.dst y) w1) ->
        nx.wp E.P a w (wpOps E.P #[nx, ex] (Exit.then (rest.wp E.P (Exit.then (LP E.P (.seq (.region rid #[nx, ex] false) rest) (iZ n β0 A0 w0 a0 Post)) (iZ n β0 A0 w0 a0 Post))) (Exit.then (LP E.P (.seq (.region rid #[nx, ex] false) rest) (iZ n β0 A0 w0 a0 Post)) (iZ n β0 A0 w0 a0 Post))) [1]) (Exit.then (rest.wp E.P (Exit.then (LP E.P (.seq (.region rid #[nx, ex] false) rest) (iZ n β0 A0 w0 a0 Post)) (iZ n β0 A0 w0 a0 Post))) (Exit.then (LP E.P (.seq (.region rid #[nx, ex] false) rest) (iZ n β0 A0 w0 a0 Post)) (iZ n β0 A0 w0 a0 Post))) := by
      intro v A1 ⟨y, β1, w1, hr, hg, hv⟩ hk
      unfold Oper.wp
      have : (execOp a.eval nx).run E.P w = .ok (.value y) w1 := by
        unfold execOp
        rw [hnx]
        simp [hr]
      rw [this]
      exact hk y β1 w1 hg hv
    refine .inl ?_
    rcases zQf (P := E.P) hgo.rel (R.fit σ g) (R.fm σ g) (Nat.zero_le _) R.hbig R.hold hits nx.type with ⟨hall, hgv⟩ | ⟨e, he, hns, hgv⟩
    · refine exec hgv fun y β1 w1 hg hv => ?_
      refine round _ β1 w1 _ false [] y rfl (hgo.trans hg) hv (hf.mono hg.ext) fun β2 w2 jI hle hf2 => ?_
      obtain ⟨ex', tm', A', hrun, hne, hpost⟩ := R.over σ g hJ hall
      refine wp_mono (uM hE k _ _ .pl _ _ _ _ _ _ hrun β2 w2 _ jI.rel hf2) ?_
      rintro x a3 w3 ⟨β3, zJp, hf3, hx, hd3⟩
      have hxn : x ≠ .normal := fun h => hne ((vG hx).1.2 h)
      have hfin : iZ n β0 A0 w0 a0 Post x a3 w3 := ⟨ex', tm', A', β3, jI.trans zJp, hf3, hx, by rw [hd3, put_defers, put_defers]; exact hd, hpost⟩
      cases x with
      | normal => exact absurd rfl hxn
      | _ => exact hfin
    · first
      | (exfalso
         have := cnt_lt he hns
         omega)
      | (refine exec hgv fun y β1 w1 hg hv => ?_
         refine round _ β1 w1 _ true [e.1, e.2.1] y rfl (hgo.trans hg) hv (hf.mono hg.ext) fun β2 w2 jI hle hf2 => ?_
         have zJq : Go 0 β0 A0 w0 β2 (Fam (e.2.2 :: σ) g) w2 := by
           have Zn : ∀ id, (Fam (e.2.2 :: σ) g).H.get id = ((Fam σ g).H.put it (some (.mit m clk (e.2.2 :: σ) clk))).get id := fun id => by
             by_cases hi : id = it
             · rw [hi, T.dJ _ R.hbig, R.fit]
             · rw [T.aT _ hi, R.same _ σ g id hi]
           have hnn : (Fam (e.2.2 :: σ) g).nx = (Fam σ g).nx := by rw [R.hnx, R.hnx]
           exact ⟨⟨Nat.zero_le _, fun id B hB => jI.rel.blk id B (by rw [Zn] at hB; exact hB), by rw [hnn]; exact jI.rel.nx, jI.rel.here, fun id id' B B' b o o' n n' hne h1 h2 => jI.rel.sep id id' B B' b o o' n n' hne (by rw [Zn] at h1; exact h1) (by rw [Zn] at h2; exact h2),
             fun id id' B' b o o' n n' h1 => by omega⟩, jI.ext, by rw [hnn]; exact jI.nx, jI.size, jI.old, fun id B hi hB => jI.back id B hi (by rw [Zn] at hB; exact hB), fun id hi => by omega, jI.fresh, jI.old', jI.os, jI.tape, jI.output⟩
         obtain ⟨ex', tm', A', hrun, hcase⟩ := R.round e he σ g hJ hns
         refine wp_mono (uM hE k _ _ .pl _ _ _ _ _ _ hrun β2 w2 _ zJq.rel hf2) ?_
         rintro x a3 w3 ⟨β3, zJp, hf3, hx, hd3⟩
         have hd4 : a3.defers = a0.defers := by rw [hd3, put_defers, put_defers]; exact hd
         rcases hcase with ⟨rfl, zVp, g', hJ', hsub⟩ | ⟨hne, hpost⟩
         · simp only [fJ] at hx
           subst hx
           have hgf := Go.forget hW0 (zJq.trans zJp) (by rw [R.hnx]; exact hN0) hsub
           have hfr : fU (cut β3 (Fam (e.2.2 :: σ) g').nx) n tm a3 := ⟨hf3.size, fun t u hu => by
             obtain ⟨h1, h2⟩ := hf3.get t u (zVp t u hu)
             exact ⟨h1, jJ (by rw [R.hnx]; exact R.htm t u hu) h2⟩⟩
           have := cnt_lt he hns
           exact IH (e.2.2 :: σ) g' _ w3 a3 (by omega) hJ' hgf hfr hd4
         · have hxn : x ≠ .normal := fun h => hne ((vG hx).1.2 h)
           have hfin : iZ n β0 A0 w0 a0 Post x a3 w3 := ⟨ex', tm', A', β3, zJq.trans zJp, hf3, hx, hd4, hpost⟩
           cases x with
           | normal => exact absurd rfl hxn
           | _ => exact hfin)
end
end Go.Ce
namespace Go.Ce
section
variable {lo:Nat} {β:Bt} {A:W} {w w':World}
theorem aX.kept (h:aX lo β A w) (hs:w.heap.size <= w'.heap.size) (ho:∀ b,b < w.heap.size->w'.heap[b]?=w.heap[b]?):aX lo β A w' where
 lo_le:=h.lo_le
 blk:=fun id B hB=>by
  obtain ⟨b,o,n,h1,h2,h3⟩:=h.blk id B hB
  exact ⟨b,o,n,h1,by omega,h3.mono (.refl _) (ho b h2)⟩
 nx:=h.nx
 here:=fun id b o n hb=>by
  have:=h.here id b o n hb
  omega
 sep:=h.sep
 side:=h.side
theorem Go.kept (h:aX lo β A w) (hs:w.heap.size <= w'.heap.size) (ho:∀ b,b < w.heap.size->w'.heap[b]?=w.heap[b]?) (h1:w'.os=w.os) (h2:w'.tape=w.tape) (h3:w'.output=w.output):Go lo β A w β A w' where
 rel:=h.kept hs ho
 ext:=.refl β
 nx:=aI _
 size:=hs
 old:=fun b hb _=>ho b hb
 back:=fun id B _ hB=>⟨B,hB⟩
 keep:=fun _ _=>rfl
 fresh:=fun id b o n hi hb=>by rw [h.nx id hi] at hb; cases hb
 old':=fun _ _ _ hb=>hb
 os:=h1
 tape:=h2
 output:=h3
theorem Go.import (h:aX lo β A w) (hb:A.nx < big) {B:Blk} {b0 o0 n0:Nat} (hs:w.heap.size <= w'.heap.size) (ho:∀ b,b < w.heap.size->w'.heap[b]?=w.heap[b]?)
  (hn:w.heap.size <= b0) (hlt:b0 < w'.heap.size) (hB:B.Rel (upd β A.nx (b0,o0,n0)) w'.heap b0 o0 n0) (h1:w'.os=w.os) (h2:w'.tape=w.tape) (h3:w'.output=w.output) :
  Go lo β A w (upd β A.nx (b0,o0,n0)) ⟨A.H.put A.nx (some B),A.nx+1⟩ w' where
 rel:={
  lo_le:=Nat.le_succ_of_le h.lo_le
  blk:=fun id B' hB'=>by
   by_cases hi:id=A.nx
   ·subst hi
    simp only [T.dJ _ hb,aA] at hB'
    subst hB'
    exact ⟨_,_,_,upd_same _ _ _,hlt,hB⟩
   ·simp only [T.aT _ hi] at hB'
    obtain ⟨b,o,m,h4,h5,h6⟩:=h.blk id B' hB'
    exact ⟨b,o,m,by rw [aJ _ _ hi]; exact h4,by omega,h6.mono (kS h _) (ho b h5)⟩
  nx:=fun id hi=>by
   rw [aJ _ _ (by simp at hi; omega)]
   exact h.nx id (by simp at hi; omega)
  here:=fun id b o m hb'=>by
   by_cases hi:id=A.nx
   ·subst hi
    rw [upd_same] at hb'
    simp only [aA,aB] at hb'
    omega
   ·rw [aJ _ _ hi] at hb'
    have:=h.here _ _ _ _ hb'
    omega
  sep:=fun id id' B1 B2 b o o' m m' hne h4 h5 h6 h7=>by
   by_cases hi:id=A.nx
   ·subst hi
    rw [aJ _ _ (Ne.symm hne)] at h7
    have:=h.here _ _ _ _ h7
    rw [upd_same] at h6
    simp only [aA,aB] at h6
    omega
   ·by_cases hi':id'=A.nx
    ·subst hi'
     rw [aJ _ _ hi] at h6
     have:=h.here _ _ _ _ h6
     rw [upd_same] at h7
     simp only [aA,aB] at h7
     omega
    ·simp only [T.aT _ hi] at h4
     simp only [T.aT _ hi'] at h5
     rw [aJ _ _ hi] at h6
     rw [aJ _ _ hi'] at h7
     exact h.sep id id' B1 B2 b o o' m m' hne h4 h5 h6 h7
  side:=fun id id' B2 b o o' m m' hl hl' h5 h6 h7=>by
   have hi:id ≠ A.nx:=by have:=h.lo_le; omega
   rw [aJ _ _ hi] at h6
   by_cases hi':id'=A.nx
   ·subst hi'
    have:=h.here _ _ _ _ h6
    rw [upd_same] at h7
    simp only [aA,aB] at h7
    omega
   ·simp only [T.aT _ hi'] at h5
    rw [aJ _ _ hi'] at h7
    exact h.side id id' B2 b o o' m m' hl hl' h5 h6 h7 }
 ext:=kS h _
 nx:=Nat.le_succ _
 size:=hs
 old:=fun b hb' _=>ho b hb'
 back:=fun id B' hi hB'=>by
  simp only [T.aT _ (Nat.ne_of_lt hi)] at hB'
  exact ⟨B',hB'⟩
 keep:=fun id hi=>T.aT _ (by have:=h.lo_le; omega)
 fresh:=fun id b o m hi hb'=>by
  by_cases hi':id=A.nx
  ·subst hi'
   rw [upd_same] at hb'
   simp only [aA,aB] at hb'
   exact .inl (by omega)
  ·rw [aJ _ _ hi',h.nx id hi] at hb'; cases hb'
 old':=fun id p hi hb'=>by rwa [aJ _ _ (Nat.ne_of_lt hi)] at hb'
 os:=h1
 tape:=h2
 output:=h3
end
def noB:Bt:=fun _=>none
theorem Gr (w:World):aX 0 noB ⟨.nil,0⟩ w where
 lo_le:=aI _
 blk:=fun id B hB=>by simp [T.get] at hB
 nx:=fun _ _=>rfl
 here:=fun id b o n hb=>by cases hb
 sep:=fun id id' B B' b o o' n n' _ h1=>by simp [T.get] at h1
 side:=fun id _ _ _ _ _ _ _ hi=>by omega
theorem Go.none_old {β':Bt} {A':W} {w w':World} (h:Go 0 noB ⟨.nil,0⟩ w β' A' w'):∀ b,b < w.heap.size->w'.heap[b]?=w.heap[b]?:=fun b hb =>
 h.old b hb fun ⟨id,B,o,n,_,h2,_⟩=>by simp [T.get] at h2
theorem Go.none_new {β':Bt} {A':W} {w w':World} (h:Go 0 noB ⟨.nil,0⟩ w β' A' w') {id b o n:Nat} (hb:β' id=some (b,o,n)):w.heap.size <= b:=by
 rcases h.fresh id b o n (Nat.zero_le _) hb with h1 | ⟨i,B,o,n,_,h2,_⟩
 ·exact h1
 ·simp [T.get] at h2
theorem zJr {β β':Bt} {v:AV} {y:Value} (hu:AV.under 0 v=true) (h:v.Rel β' y):v.Rel β y :=
 (jJ hu h).mono fun id p hp=>by
  obtain ⟨h1,_⟩:=eO hp
  omega
theorem zJs {β:Bt} {args:List AV} {xs:List Value} {n:Nat} (hr:AV.aN β args xs) (hl:args.length <= n) (hn:n < big) :
  fU β n (wR 0 args .nil) { tmps:=xs.toArray++Array.replicate (n - xs.toArray.size) undef,defers:=[] }:=by
 have hxl:=hr.length
 refine ⟨by simp; omega,fun t v hv=>?_⟩
 rw [Gj _ _ _ _ (by omega)] at hv
 split at hv
 ·rename_i ht
  obtain ⟨y,hy,hyr⟩:=hr.get hv
  refine ⟨by omega,?_⟩
  have hlt:=(aS.1 hy).1
  rw [Nat.sub_zero] at hy hlt
  have:(xs.toArray++Array.replicate (n - xs.toArray.size) undef).getD t undef=y:=by
   rw [Array.getD_eq_getD_getElem?,Array.getElem?_append_left (by simpa using hlt)]
   simp [hy]
  rw [this]; exact hyr
 ·simp [T.get] at hv
def zCk (E:Env) (k n:Nat) (r0 r1 r2:Code) (args:List AV):Option (T AV × W) :=
 match run E k n 0 .pl r0 (wR 0 args .nil) ⟨.nil,0⟩ with
 | some (.normal,tm1,A1)=>match run E k n 0 .pl r1 tm1 A1 with
  | some (.normal,tm2,A2)=>match run E k n 0 .pl r2 tm2 A2 with
   | some (.normal,tm3,A3)=>some (tm3,A3)
   | _=>none
  | _=>none
 | _=>none
structure Weak (B' B:Blk):Prop where
 rel:∀ β h b o n,B'.Rel β h b o n->B.Rel β h b o n
 zVq:B'=B∨∀ X,¬ mX B' X∧¬ mX X B'
theorem Weak.refl (B:Blk):Weak B B:=⟨fun _ _ _ _ _ h=>h,.inl rfl⟩
theorem Weak.dict {k:IntKind} {es:List (AV × AV × Nat)} {clk:Nat} {ds:List (Nat × AV)} {qE:List Nat} (h1:∀ e ∈ es,∃ m:Nat,e.1=.it k (.ofNat m)∧lkN m ds=some e.2.1) (h2:∀ m ∈ qE,∃ e ∈ es,e.1=.it k (.ofNat m)):Weak (.map es clk) (.dict k ds qE):=by
 refine ⟨fun β h b o n ⟨h0,ms,hm,hr⟩=>⟨h0,ms,clk,hm,fun x hx=>?_,fun m hm=>?_⟩,.inr fun X=>⟨fun h=>by cases X <;> exact h,fun h=>by cases X <;> exact h⟩⟩
 ·obtain ⟨e,he,k1,k2,_⟩:=hr.mem hx
  obtain ⟨m,e1,e2⟩:=h1 e he
  rw [e1] at k1
  exact ⟨m,e.2.1,k1,e2,k2⟩
 ·obtain ⟨e,he,e1⟩:=h2 m hm
  have key:∀ {es:List (AV × AV × Nat)} {ms:List MapEntry},aW β es ms->e ∈ es->∃ x ∈ ms,e.1.Rel β x.key:=by
   intro es
   induction es with
   | nil=>intro ms _ h; cases h
   | cons a es ih =>
    rintro ms ⟨y,ys,rfl,q1,q2,q3,q4⟩ he
    cases he with
    | head=>exact ⟨y,.head _,q1⟩
    | tail _ he =>
     obtain ⟨x,hx,q⟩:=ih q4 he
     exact ⟨x,.tail _ hx,q⟩
  obtain ⟨x,hx,q⟩:=key hr he
  rw [e1] at q
  exact ⟨x,hx,q⟩
theorem Go.weak {β':Bt} {A' A'':W} {β:Bt} {A:W} {w w':World} (h:Go 0 β A w β' A' w') (hn:A''.nx=A'.nx) (hs:∀ id B,A''.H.get id=some B->∃ B',A'.H.get id=some B'∧Weak B' B):Go 0 β A w β' A'' w' where
 rel:={
  lo_le:=Nat.zero_le _
  blk:=fun id B hB=>by
   obtain ⟨B',h1,h2⟩:=hs id B hB
   obtain ⟨b,o,n,h3,h4,h5⟩:=h.rel.blk id B' h1
   exact ⟨b,o,n,h3,h4,h2.rel _ _ _ _ _ h5⟩
  nx:=fun id hi=>h.rel.nx id (by omega)
  here:=h.rel.here
  sep:=fun id id' B1 B2 b o o' n n' hne h1 h2 h3 h4=>by
   obtain ⟨B1',k1,k2⟩:=hs id B1 h1
   obtain ⟨B2',k3,k4⟩:=hs id' B2 h2
   have hm:=h.rel.sep id id' B1' B2' b o o' n n' hne k1 k3 h3 h4
   rcases k2.zVq with rfl | k2
   ·rcases k4.zVq with rfl | k4
    ·exact hm
    ·exact absurd hm (k4 _).2
   ·exact absurd hm (k2 _).1
  side:=fun id _ _ _ _ _ _ _ hi=>by omega }
 ext:=h.ext
 nx:=by rw [hn]; exact h.nx
 size:=h.size
 old:=h.old
 back:=fun id B hi hB=>by
  obtain ⟨B',h1,_⟩:=hs id B hB
  exact h.back id B' hi h1
 keep:=fun id hi=>by omega
 fresh:=h.fresh
 old':=h.old'
 os:=h.os
 tape:=h.tape
 output:=h.output
section
variable {E:Env} {G:Type}
def zJt (E:Env) (k n bid:Nat) (suf:Code) (fn:Func) (Res:AV->W->Prop):Ex->T AV->W->Prop
 | .exit i,tm,A=>i=bid∧∃ tm' A',run E k n 0 .pl suf tm A=some (.ret,tm',A')∧∃ l,kJ E tm' A' fn.results.toList=some l∧Res (Fp l) A'
 | .ret,tm,A=>∃ l,kJ E tm A fn.results.toList=some l∧Res (Fp l) A
 | _,_,_=>False
theorem Tn (hE:fA E) {k n its it m clk a1 a2:Nat} {r0 r1 r2 rest suf c:Code} {tm tm3:T AV} {A3:W} {es:List (AV × AV × Nat)} {N0:Nat} {Fam:List Nat->G->W} {J:List Nat->G->Prop} {Res:AV->W->Prop} {f:FuncId} {fn:Func} {bid rid:Nat} {nx ex:Oper} {args:List AV} {g0:G}
  (hF:E.F.get f=some fn) (hc:fn.body=some c) (hshape:c=.seq r0 (.seq r1 (.seq (.seq r2 (.block bid (.loop (.seq (.region rid #[nx,ex] false) rest)))) suf))) (hn:fn.ntmps=n) (hl:args.length <= n) (hnb:n < big)
  (hnx:nx.op=.next (.tmp its) false) (hng:nx.guard=none) (hnd:nx.dst=some a1) (hex:ex.op=.extract (.tmp a1) 0) (heg:ex.guard=none) (hed:ex.dst=some a2)
  (hpre:zCk E k n r0 r1 r2 args=some (tm3,A3)) (htm:∀ t v,tm.get t=some v->tm3.get t=some v) (hN:A3.nx=N0) (zXq:∀ id B,(Fam [] g0).H.get id=some B->∃ B',A3.H.get id=some B'∧Weak B' B) (hJ:J [] g0)
  (R:Rng E k n its it m clk a1 a2 rest tm es N0 Fam J (zJt E k n bid suf fn Res)) :
  ∀ (w:World) (xs:List Value),AV.aN noB args xs->(callFunc f xs.toArray).run E.P w=.ok (.enter f xs.toArray) w ∧
   Calls E.P f xs.toArray w fun e w'=>∃ v A' β' y,Res v A'∧Go 0 noB ⟨.nil,0⟩ w β' A' w'∧e=.returned y∧v.Rel β' y:=by
 intro w xs hr
 obtain ⟨hFP,hname⟩:=hE.F f fn hF
 have hfr:=zJs hr hl hnb
 refine ⟨?_,calls_of_wp hFP hc ?_⟩
 ·have h1:fn.body.isNone=false:=by rw [hc]; rfl
  simp only [callFunc,Sem.run_bind,run_program,Result.andThen_ok,hFP,hname,h1,Bool.false_eq_true,if_false,Sem.run_pure]
 ·rw [hn,hshape]
  generalize hQ:bodyPost E.P fn (fun e w'=>∃ v A' β' y,Res v A'∧Go 0 noB ⟨.nil,0⟩ w β' A' w'∧e=.returned y∧v.Rel β' y)=Q
  have fin:∀ {tm':T AV} {A':W} {β':Bt} {a':Act} {w':World} {l:List AV},Go 0 noB ⟨.nil,0⟩ w β' A' w'->fU β' n tm' a'->a'.defers=[]->kJ E tm' A' fn.results.toList=some l->Res (Fp l) A'->Q .ret a' w':=by
   intro tm' A' β' a' w' l hgo hf hd hl hres
   subst hQ
   obtain ⟨y,hy,hyr⟩:=Kh hE hgo.rel hf hl
   exact ⟨hd,y,hy,_,_,β',y,hres,hgo,rfl,hyr⟩
  unfold zCk at hpre
  split at hpre
  ·rename_i tm1 A1 h1
   split at hpre
   ·rename_i tm2 A2 h2
    split at hpre
    ·rename_i yAg A3' h3
     simp only [aA,aB] at hpre
     obtain ⟨rfl,rfl⟩:=hpre
     refine wp_seq (wp_mono (uM hE k _ _ .pl _ _ _ _ _ _ h1 noB w _ (Gr w) hfr) ?_)
     rintro x b1 w1 ⟨β1,g1,f1,hx1,d1⟩
     simp only [fJ] at hx1; subst hx1
     refine wp_seq (wp_mono (uM hE k _ _ .pl _ _ _ _ _ _ h2 β1 w1 _ g1.rel f1) ?_)
     rintro x b2 w2 ⟨β2,g2,f2,hx2,d2⟩
     simp only [fJ] at hx2; subst hx2
     refine wp_seq (wp_seq (wp_mono (uM hE k _ _ .pl _ _ _ _ _ _ h3 β2 w2 _ g2.rel f2) ?_))
     rintro x b3 w3 ⟨β3,g3,f3,hx3,d3⟩
     simp only [fJ] at hx3; subst hx3
     have hg:Go 0 noB ⟨.nil,0⟩ w β3 (Fam [] g0) w3:=((g1.trans g2).trans g3).weak (by rw [R.hnx,hN]) zXq
     have hf:fU β3 n tm b3:=⟨f3.size,fun t v hv=>f3.get t v (htm t v hv)⟩
     refine wp_block (zTj ?_)
     have hlp:=zQh hE R (rid:=rid) hnx hng hnd hex heg hed (Gr w) (Nat.zero_le _) (a0:={ tmps:=xs.toArray++Array.replicate (n - xs.toArray.size) undef,defers:=[] }) _ [] g0 β3 w3 b3 (aI _) hJ hg hf (by rw [d3,d2,d1])
     intro fb fk fcs
     obtain ⟨x,a4,w4,⟨ex',tm',A',β4,g4,f4,hx4,d4,hp⟩,harr⟩:=hlp fb fk fcs
     refine ⟨x,a4,w4,?_,harr⟩
     cases ex' with
     | exit i =>
      obtain ⟨rfl,tm5,A5,h5,l,hl5,hres⟩:=hp
      simp only [fJ] at hx4
      subst hx4
      simp only [Exit.inBlock,if_true,Exit.then]
      refine wp_mono (uM hE k _ _ .pl _ _ _ _ _ _ h5 β4 w4 _ g4.rel f4) ?_
      rintro x b5 w5 ⟨β5,g5,f5,hx5,d5⟩
      simp only [fJ] at hx5; subst hx5
      exact fin (g4.trans g5) f5 (by rw [d5,d4]) hl5 hres
     | ret =>
      obtain ⟨l,hl5,hres⟩:=hp
      simp only [fJ] at hx4
      subst hx4
      exact fin g4 f4 d4 hl5 hres
     | normal=>exact hp.elim
     | goto l=>exact hp.elim
     | pan t v=>exact hp.elim
    ·cases hpre
   ·cases hpre
  ·cases hpre
theorem zMy {f:FuncId} {args:List AV} {v:AV} (hu:AV.under 0 v=true) (hau:AV.jX 0 args=true)
  (h:∀ (w:World) (xs:List Value),AV.aN noB args xs->(callFunc f xs.toArray).run E.P w=.ok (.enter f xs.toArray) w ∧
   Calls E.P f xs.toArray w fun e w'=>∃ v' A' β' y,(v'=v)∧Go 0 noB ⟨.nil,0⟩ w β' A' w'∧e=.returned y∧v'.Rel β' y) (lo:Nat) (A:W):cZ E.P lo f args A (.ret v) A:=by
 intro β w xs hW hr
 have hr':AV.aN noB args xs:=by
  have h1:=nX hau hr
  refine h1.mono fun id p hp=>?_
  obtain ⟨h1,_⟩:=eO hp
  omega
 obtain ⟨h1,h2⟩:=h w xs hr'
 refine .inl ⟨h1,h2.mono fun e w' ⟨v',A',β',y,hv',hg,he,hy⟩=>?_⟩
 subst hv' he
 exact ⟨β,Go.kept hW hg.size hg.none_old hg.os hg.tape hg.output,y,rfl,zJr hu hy⟩
theorem zMz {f:FuncId} {args:List AV} {id:Nat} {B:Blk} (hB:B.under 0=true) (hau:AV.jX 0 args=true)
  (h:∀ (w:World) (xs:List Value),AV.aN noB args xs->(callFunc f xs.toArray).run E.P w=.ok (.enter f xs.toArray) w ∧
   Calls E.P f xs.toArray w fun e w'=>∃ (v':AV) (A':W) (β':Bt) (y:Value),(v'=.mp id∧∃ B',A'.H.get id=some B'∧Weak B' B)∧Go 0 noB ⟨.nil,0⟩ w β' A' w'∧e=.returned y∧v'.Rel β' y) (hB0:∀ β h b o n,B.Rel β h b o n->o=0)
  (lo:Nat) (A:W) (hbig:A.nx < big):cZ E.P lo f args A (.ret (.mp A.nx)) ⟨A.H.put A.nx (some B),A.nx+1⟩:=by
 intro β w xs hW hr
 have hr':AV.aN noB args xs:=by
  have h1:=nX hau hr
  refine h1.mono fun id p hp=>?_
  obtain ⟨h1,_⟩:=eO hp
  omega
 obtain ⟨h1,h2⟩:=h w xs hr'
 refine .inl ⟨h1,h2.mono fun e w' ⟨v',A',β',y,⟨hv',B',hget,zXr⟩,hg,he,hy⟩=>?_⟩
 subst hv' he
 obtain ⟨b,n,hb,rfl⟩:=hy
 obtain ⟨b',o',n',hb',hlt,zXs⟩:=hg.rel.blk id B' hget
 have hrel:=zXr.rel _ _ _ _ _ zXs
 have ho:=hB0 _ _ _ _ _ hrel
 rw [hb] at hb'
 simp only [aA,aB] at hb'
 obtain ⟨rfl,_,rfl⟩:=hb'
 subst ho
 have zGv:B.Rel (upd β A.nx (b,0,n)) w'.heap b 0 n:=(Xz hB hrel).mono (fun i p hp=>by
  obtain ⟨h1,_⟩:=eO hp
  omega) rfl
 exact ⟨_,Go.import hW hbig hg.size hg.none_old (hg.none_new hb) hlt zGv hg.os hg.tape hg.output,_,rfl,b,n,upd_same _ _ _,rfl⟩
end
end Go.Ce
namespace Go.Ce
def T.Ch {α γ:Type} (f:Nat->α->γ):T α->Nat->Nat->T γ
 | .nil,_,_=>.nil
 | .node l v r,a,d=>.node (T.Ch f l (a+d) (2 * d)) (match v with | some x=>some (f a x) | none=>none) (T.Ch f r (a+2 * d) (2 * d))
theorem T.Py {α γ:Type} (f:Nat->α->γ):∀ (t:T α) (a d n:Nat),(T.Ch f t a d).get n=(t.get n).map (f (a+d * n))
 | .nil,_,_,_=>rfl
 | .node l v r,a,d,n=>by
  rw [T.dX,T.dX (.node l v r) n]
  simp only [T.Ch,T.vl,T.lf,T.rt]
  by_cases h:n=0
  ·subst h
   simp only [if_true,Nat.mul_zero,Nat.add_zero]
   cases v <;> rfl
  ·rw [if_neg h,if_neg h]
   by_cases h1:n % 2=1
   ·rw [if_pos h1,if_pos h1,T.Py f l]
    have:a+d+2 * d * (n / 2)=a+d * n:=by
     have:n=2 * (n / 2)+1:=by omega
     generalize n / 2=q at this; subst this
     rw [Nat.mul_add,Nat.mul_one,<- Nat.mul_assoc,Nat.mul_comm d 2]; omega
    rw [this]
   ·rw [if_neg h1,if_neg h1,T.Py f r]
    have:a+2 * d+2 * d * (n / 2 - 1)=a+d * n:=by
     have h2:n=2 * (n / 2 - 1)+2:=by omega
     generalize n / 2 - 1=q at h2; subst h2
     rw [Nat.mul_add,<- Nat.mul_assoc,Nat.mul_comm d 2]; omega
    rw [this]
theorem zCl {α:Type} {t:T α} {g:Nat->Option α} (h:T.Ch (fun i _=>g i) t 0 1=T.Ch (fun _ x=>some x) t 0 1) {n:Nat} {x:α} (hx:t.get n=some x):g n=some x:=by
 have h1:=congrArg (fun u=>T.get u n) h
 simp only [T.Py,hx,Option.map_some,aA,Nat.zero_add,Nat.one_mul] at h1
 exact h1
theorem zQi {P:Program} {I:T CI} (h:T.Ch (fun i _=>zPq P i) I 0 1=T.Ch (fun _ x=>some x) I 0 1):TOK P I:=fun _ _ hx=>zTh (zCl h hx)
theorem zQj {P:Program} {F:T Func} (h:T.Ch (fun i _=>P.funcs[i]?) F 0 1=T.Ch (fun _ x=>some x) F 0 1) (hn:T.all (fun fn=>!(fn.name == "runtime.NumGoroutine")) F=true) :
  ∀ f fn,F.get f=some fn->P.funcs[f]?=some fn∧(fn.name == "runtime.NumGoroutine")=false:=fun f fn hx=>⟨zCl h hx,by simpa using T.Gm hn hx⟩
def cL:Code->Code
 | .seq a _=>a
 | _=>.skip
def cR:Code->Code
 | .seq _ b=>b
 | _=>.skip
def cB:Code->Code
 | .block _ b=>b
 | .loop b=>b
 | _=>.skip
def zYx:Code->List Oper
 | .region _ o _=>o.toList
 | _=>[]
def cOp (c:Code) (i:Nat):Oper:=match zYx c,i with
 | a :: _,0=>a
 | _ :: b :: _,1=>b
 | _,_=>{ op:=.move (.const .nilIface),dst:=none,type:=0,pos := "", after:=#[],guard:=none }
def cId:Code->Nat
 | .region i _ _=>i
 | _=>0
def zCm (f:Func):Code:=match f.body with | some c=>c | none=>.skip
def wU (f:Func):Code:=cB (cB (cR (cL (cR (cR (zCm f))))))
end Go.Ce
namespace Go.Ce
theorem Pz:0 < big:=by decide
theorem Vi:1 < big:=by decide
theorem zFr:2 < big:=by decide
def Ad (ds:List (Nat × AV)) (es:List (AV × AV × Nat)) (clk:Nat) (σ:List Nat) (g:List Nat):W :=
 ⟨((T.nil.put 0 (some (.dict .u8 ds g))).put 1 (some (.map es clk))).put 2 (some (.mit 1 clk σ clk)),3⟩
def tmS (sa its:Nat):T AV:=(T.nil.put sa (some (.mp 0))).put its (some (.pt 2 0))
theorem zQk {α:Type} {a b c:Option α} {i j k:Nat} (hi:i < big) (hj:j < big) (hk:k < big) (id:Nat):(((T.nil.put i a).put j b).put k c).get id=if id=k then c else if id=j then b else if id=i then a else none:=by
 by_cases h2:id=k
 ·subst h2; rw [if_pos rfl]; exact T.dJ _ hk
 ·rw [if_neg h2,T.aT _ h2]
  by_cases h1:id=j
  ·subst h1; rw [if_pos rfl]; exact T.dJ _ hj
  ·rw [if_neg h1,T.aT _ h1]
   by_cases h0:id=i
   ·subst h0; rw [if_pos rfl]; exact T.dJ _ hi
   ·rw [if_neg h0,T.aT _ h0]; rfl
theorem tH {ds:List (Nat × AV)} {es:List (AV × AV × Nat)} {clk:Nat} {σ g:List Nat} (id:Nat):(Ad ds es clk σ g).H.get id=if id=2 then some (.mit 1 clk σ clk) else if id=1 then some (.map es clk) else if id=0 then some (.dict .u8 ds g) else none :=
 zQk Pz Vi zFr id
def Vj:Nat->List (AV × AV × Nat)->Bool
 | _,[]=>true
 | i,e :: r=>Nat.beq e.2.2 i && Vj (i+1) r
theorem Qa:∀ {es:List (AV × AV × Nat)} {i:Nat},Vj i es=true->∀ e ∈ es,i <= e.2.2∧es[e.2.2 - i]?=some e
 | x :: r,i,h,e,he=>by
  simp only [Vj,aF] at h
  have hx:=aG h.1
  cases he with
  | head=>rw [hx]; simp
  | tail _ he =>
   obtain ⟨h1,h2⟩:=Qa h.2 e he
   refine ⟨by omega,?_⟩
   rw [show e.2.2 - i=(e.2.2 - (i+1))+1 by omega]
   simpa using h2
theorem zCn {es:List (AV × AV × Nat)} (h:Vj 0 es=true) {x e:AV × AV × Nat} (hx:x ∈ es) (he:e ∈ es) (hxe:x.2.2=e.2.2):x=e:=by
 have h1:=(Qa h x hx).2
 have h2:=(Qa h e he).2
 rw [hxe,h2] at h1
 simpa using h1.symm
theorem Lv {sa its:Nat} (h1:sa < big) (h2:its < big) (hne:sa ≠ its) (t:Nat):(tmS sa its).get t=if t=its then some (.pt 2 0) else if t=sa then some (.mp 0) else none:=by
 unfold tmS
 by_cases h:t=its
 ·subst h; rw [if_pos rfl]; exact T.dJ _ h2
 ·rw [if_neg h,T.aT _ h]
  by_cases h3:t=sa
  ·subst h3; rw [if_pos rfl]; exact T.dJ _ h1
  ·rw [if_neg h3,T.aT _ h3]; rfl
def keysOf (e:AV × AV × Nat):List Nat:=match e.1 with | .st l=>l | _=>[]
def Gs (sa its:Nat):Option (Ex × T AV × W)->Option (Option AV × Option AV × Option Blk × Option Blk × Option Blk × Bool)
 | some (.normal,tm,A)=>some (tm.get sa,tm.get its,A.H.get 0,A.H.get 1,A.H.get 2,Nat.ble 3 A.nx)
 | _=>none
def zJu (sa its:Nat):Option (T AV × W)->Option (Option AV × Option AV × Option Blk × Option Blk × Option Blk × Nat)
 | some (tm,A)=>some (tm.get sa,tm.get its,A.H.get 0,A.H.get 1,A.H.get 2,A.nx)
 | none=>none
def zJv (E:Env) (k n:Nat) (suf:Code) (fn:Func):Option (Ex × T AV × W)->Option (Nat × AV × Option Blk)
 | some (.exit i,tm,A)=>match run E k n 0 .pl suf tm A with
  | some (.ret,tm',A')=>match kJ E tm' A' fn.results.toList with
   | some l=>some (i,Fp l,A'.H.get 0)
   | none=>none
  | _=>none
 | _=>none
def zJw (ds:List (Nat × AV)):List (AV × AV × Nat)->Bool
 | []=>true
 | e :: r=>(match e.1 with
  | .it .u8 (.ofNat m)=>(match lkN m ds with
   | some u=>(match isFn u,isFn e.2.1 with | some f,some g=>Nat.beq f g | _,_=>false)
   | none=>false)
  | _=>false) && zJw ds r
def zJx (es:List (AV × AV × Nat)):List Nat->Bool
 | []=>true
 | m :: r=>(es.any fun e=>match e.1 with | .it .u8 (.ofNat j)=>Nat.beq m j | _=>false) && zJx es r
def zCo (clk:Nat):List (AV × AV × Nat)->Bool
 | []=>true
 | e :: r=>Nat.blt e.2.2 clk && zCo clk r
theorem Dr {x:AV} {f:FuncId} (h:isFn x=some f):x=.fn (.func f) [] []:=by
 unfold isFn at h
 split at h
 ·simp only [aA] at h; subst h; rfl
 ·cases h
theorem Ya {ds:List (Nat × AV)}:∀ {es:List (AV × AV × Nat)},zJw ds es=true->∀ e ∈ es,∃ m:Nat,e.1=.it .u8 (.ofNat m)∧lkN m ds=some e.2.1
 | x :: r,h,e,he=>by
  simp only [zJw,aF] at h
  cases he with
  | head =>
   have h1:=h.1
   split at h1
   ·rename_i m hm
    split at h1
    ·rename_i u hu
     split at h1
     ·rename_i f g hf hg
      have:=aG h1
      subst this
      exact ⟨m,hm,by rw [hu,Dr hf,Dr hg]⟩
     ·cases h1
    ·cases h1
   ·cases h1
  | tail _ he=>exact Ya h.2 e he
theorem Yb {es:List (AV × AV × Nat)}:∀ {l:List Nat},zJx es l=true->∀ m ∈ l,∃ e ∈ es,e.1=.it .u8 (.ofNat m)
 | x :: r,h,m,hm=>by
  simp only [zJx,aF,List.any_eq_true] at h
  cases hm with
  | head =>
   obtain ⟨e,he,h1⟩:=h.1
   split at h1
   ·rename_i j hj
    rw [<- aG h1] at hj
    exact ⟨e,he,hj⟩
   ·cases h1
  | tail _ hm=>exact Yb h.2 m hm
theorem Kl {clk:Nat}:∀ {es:List (AV × AV × Nat)},zCo clk es=true->∀ e ∈ es,e.2.2 < clk
 | x :: r,h,e,he=>by
  simp only [zCo,aF,Nat.blt_eq] at h
  cases he with
  | head=>exact h.1
  | tail _ he=>exact Kl h.2 e he
theorem Weak.more {k:IntKind} {ds:List (Nat × AV)} {p q:List Nat} (h:∀ m ∈ q,m ∈ p):Weak (.dict k ds p) (.dict k ds q) :=
 ⟨fun β hh b o n ⟨h0,ms,clk,h1,h2,h3⟩=>⟨h0,ms,clk,h1,h2,fun m hm=>h3 m (h m hm)⟩,.inr fun X=>⟨fun h=>by cases X <;> exact h,fun h=>by cases X <;> exact h⟩⟩
section
variable {E:Env}
theorem zJy (hE:fA E) {k n sa its a1 a2:Nat} {r0 r1 r2 rest suf c:Code} {ds:List (Nat × AV)} {es0 es:List (AV × AV × Nat)} {zVr clk:Nat} {g0 all:List Nat} {f:FuncId} {fn:Func} {bid rid:Nat} {nx ex:Oper}
  (hF:E.F.get f=some fn) (hc:fn.body=some c) (hshape:c=.seq r0 (.seq r1 (.seq (.seq r2 (.block bid (.loop (.seq (.region rid #[nx,ex] false) rest)))) suf))) (hn:fn.ntmps=n) (hnb:n < big)
  (hnx:nx.op=.next (.tmp its) false) (hng:nx.guard=none) (hnd:nx.dst=some a1) (hex:ex.op=.extract (.tmp a1) 0) (heg:ex.guard=none) (hed:ex.dst=some a2)
  (hs:sa ≠ its∧sa < n∧its < n∧a1 < n∧a2 < n)
  (hpre:zJu sa its (zCk E k n r0 r1 r2 [])=some (some (.mp 0),some (.pt 2 0),some (.map es0 zVr),some (.map es clk),some (.mit 1 clk [] clk),3))
  (hD:zJw ds es0=true) (hK:zJx es0 g0=true) (hB:zCo clk es=true) (hI:Vj 0 es=true) (hud:Blk.under.Dw 0 ds=true) (zYy:Blk.under.Dw 3 ds=true) (hue:Blk.under.Dv 3 es=true)
  (zVs:∀ e ∈ es,∀ σ g,Gs sa its (run E k n 0 .pl rest (tmE (tmS sa its) a1 a2 (.tu [.bo true,e.1,e.2.1]) true) (Ad ds es clk (e.2.2 :: σ) g)) =
   some (some (.mp 0),some (.pt 2 0),some (.dict .u8 ds ((keysOf e).reverse++g)),some (.map es clk),some (.mit 1 clk (e.2.2 :: σ) clk),true))
  (hover:∀ σ g,zJv E k n suf fn (run E k n 0 .pl rest (tmE (tmS sa its) a1 a2 (.tu [.bo false]) false) (Ad ds es clk σ g))=some (bid,.mp 0,some (.dict .u8 ds g)))
  (hall:∀ m ∈ all,m ∈ g0∨∃ e ∈ es,m ∈ keysOf e) (lo:Nat) (A:W) (hbig:A.nx < big) :
  cZ E.P lo f [] A (.ret (.mp A.nx)) ⟨A.H.put A.nx (some (.dict .u8 ds all)),A.nx+1⟩:=by
 have hsb:sa < big:=by omega
 have hib:its < big:=by omega
 have zCp:∀ σ g id B,(Ad ds es clk σ g).H.get id=some B->id < 3∧B.under 3=true:=fun σ g id B h=>by
  rw [tH] at h
  split at h
  ·cases h; exact ⟨by omega,rfl⟩
  ·split at h
   ·cases h; exact ⟨by omega,hue⟩
   ·split at h
    ·cases h; exact ⟨by omega,zYy⟩
    ·cases h
 let J:List Nat->List Nat->Prop:=fun σ g=>(∀ m ∈ g0,m ∈ g)∧∀ e ∈ es,e.2.2 ∈ σ->∀ m ∈ keysOf e,m ∈ g
 have R:Rng E k n its 2 1 clk a1 a2 rest (tmS sa its) es 3 (Ad ds es clk) J (zJt E k n bid suf fn fun v A'=>v=.mp 0∧∃ B',A'.H.get 0=some B'∧Weak B' (.dict .u8 ds all)):={
  hits:=by rw [Lv hsb hib hs.1,if_pos rfl]
  fit:=fun σ g=>by rw [tH]; rfl
  fm:=fun σ g=>by rw [tH]; rfl
  hnx:=fun _ _=>rfl
  hbig:=zFr
  same:=fun σ σ' g id hi=>by rw [tH,tH,if_neg hi,if_neg hi]
  hold:=Kl hB
  htm:=fun t v h=>by
   rw [Lv hsb hib hs.1] at h
   split at h
   ·cases h; rfl
   ·split at h
    ·cases h; rfl
    ·cases h
  ha1:=⟨hs.2.2.2.1,by omega⟩
  ha2:=⟨hs.2.2.2.2,by omega⟩
  round:=fun e he σ g hJ _=>by
   have h:=zVs e he σ g
   unfold Gs at h
   split at h
   ·rename_i tm' A' hrun
    simp only [aA,aB] at h
    obtain ⟨h1,h2,h3,h4,h5,h6⟩:=h
    refine ⟨.normal,tm',A',hrun,.inl ⟨rfl,fun t v hv=>?_,(keysOf e).reverse++g,⟨fun m hm=>List.mem_append_right _ (hJ.1 m hm),fun x hx hxs m hm=>?_⟩,⟨bA h6,fun id B hB=>?_⟩⟩⟩
    ·rw [Lv hsb hib hs.1] at hv
     split at hv
     ·rename_i ht; cases hv; rw [ht]; exact h2
     ·split at hv
      ·rename_i ht; cases hv; rw [ht]; exact h1
      ·cases hv
    ·rcases List.mem_cons.1 hxs with hxs | hxs
     ·have:=zCn hI hx he hxs
      subst this
      exact List.mem_append_left _ (List.mem_reverse.2 hm)
     ·exact List.mem_append_right _ (hJ.2 x hx hxs m hm)
    ·obtain ⟨h7,h8⟩:=zCp _ _ id B hB
     refine ⟨?_,h7,h8⟩
     rw [tH] at hB
     split at hB
     ·rename_i hi; rw [hi,h5]; exact hB
     ·split at hB
      ·rename_i hi; rw [hi,h4]; exact hB
      ·split at hB
       ·rename_i hi; rw [hi,h3]; exact hB
       ·cases hB
   ·cases h
  over:=fun σ g hJ Qq=>by
   have h:=hover σ g
   unfold zJv at h
   split at h
   ·rename_i i tm A1 hrun
    split at h
    ·rename_i tm' A' zYz
     split at h
     ·rename_i l hl
      simp only [aA,aB] at h
      obtain ⟨h1,h2,h3⟩:=h
      refine ⟨.exit i,tm,A1,hrun,(by simp),h1,tm',A',zYz,l,hl,h2,_,h3,Weak.more fun m hm=>?_⟩
      rcases hall m hm with h4 | ⟨e,he,h4⟩
      ·exact hJ.1 m h4
      ·exact hJ.2 e he (Qq e he) m h4
     ·cases h
    ·cases h
   ·cases h }
 unfold zJu at hpre
 split at hpre
 ·rename_i tm3 A3 hp3
  simp only [aA,aB] at hpre
  obtain ⟨p1,p2,p3,p4,p5,p6⟩:=hpre
  refine zMz (id:=0) (B:=.dict .u8 ds all) hud rfl (Tn hE hF hc hshape hn (Nat.zero_le _) hnb hnx hng hnd hex heg hed hp3 (fun t v hv=>?_) p6 (g0:=g0) (fun id B hB=>?_) ⟨fun m hm=>hm,fun _ _ h=>by cases h⟩ R) (fun β h b o n hr=>hr.1) lo A hbig
  ·rw [Lv hsb hib hs.1] at hv
   split at hv
   ·rename_i ht; cases hv; rw [ht]; exact p2
   ·split at hv
    ·rename_i ht; cases hv; rw [ht]; exact p1
    ·cases hv
  ·rw [tH] at hB
   split at hB
   ·rename_i hi; cases hB; exact ⟨_,by rw [hi]; exact p5,.refl _⟩
   ·split at hB
    ·rename_i hi; cases hB; exact ⟨_,by rw [hi]; exact p4,.refl _⟩
    ·split at hB
     ·rename_i hi; cases hB; exact ⟨_,by rw [hi]; exact p3,.dict (Ya hD) (Yb hK)⟩
     ·cases hB
 ·cases hpre
end
end Go.Ce
