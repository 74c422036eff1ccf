/- Part of a proof over this seat: a library of my own, and what it says of this seat. No statement is proved here. -/
import Derived.Test.YtclpnkdjjhclnaaGreatDoorPartBE
namespace Go.Ce
mutual
def AV.ren (m : Nat -> Option Nat) : AV -> Option AV
 | .pt i o => ob (m i) fun j => some (.pt j o)
 | .sl i o l c s e => ob (m i) fun j => some (.sl j o l c s e)
 | .mp _ => none
 | .fn f fs cs => ob (AV.bM m fs) fun fs => ob (AV.bM m cs) fun cs => some (.fn f fs cs)
 | .ic t v => ob (AV.ren m v) fun v => some (.ic t v)
 | .ag l => ob (AV.bM m l) fun l => some (.ag l)
 | .tu l => ob (AV.bM m l) fun l => some (.tu l)
 | v => some v
def AV.bM (m : Nat -> Option Nat) : List AV -> Option (List AV)
 | [] => some []
 | a :: r => ob (AV.ren m a) fun a => ob (AV.bM m r) fun r => some (a :: r)
end
mutual
theorem jR {m : Nat -> Option Nat} {β β' : Bt} (hm : ∀ i j p, m i = some j -> β i = some p -> β' j = some p) : ∀ {a a' : AV} {v : Value}, a.ren m = some a' -> a.Rel β v -> a'.Rel β' v
 | .pt i o, a', v, h, hr => by
  simp only [AV.ren] at h
  obtain ⟨j, hj, h⟩ := aA h
  simp only [Option.some.injEq] at h
  subst h
  obtain ⟨b, o, n, hb, rfl⟩ := hr
  exact ⟨b, o, n, hm _ _ _ hj hb, rfl⟩
 | .sl i o l c s e, a', v, h, hr => by
  simp only [AV.ren] at h
  obtain ⟨j, hj, h⟩ := aA h
  simp only [Option.some.injEq] at h
  subst h
  obtain ⟨b, o, n, c, hb, hr⟩ := hr
  exact ⟨b, o, n, c, hm _ _ _ hj hb, hr⟩
 | .mp _, a', v, h, hr => by simp [AV.ren] at h
 | .fn f fs cs, a', v, h, hr => by
  simp only [AV.ren] at h
  obtain ⟨fs', h1, h⟩ := aA h
  obtain ⟨cs', h2, h⟩ := aA h
  simp only [Option.some.injEq] at h
  subst h
  obtain ⟨x, y, rfl, r1, r2⟩ := hr
  exact ⟨x, y, rfl, kG hm h1 r1, kG hm h2 r2⟩
 | .ic t x, a', v, h, hr => by
  simp only [AV.ren] at h
  obtain ⟨x', h1, h⟩ := aA h
  simp only [Option.some.injEq] at h
  subst h
  obtain ⟨y, rfl, r⟩ := hr
  exact ⟨y, rfl, jR hm h1 r⟩
 | .ag l, a', v, h, hr => by
  simp only [AV.ren] at h
  obtain ⟨l', h1, h⟩ := aA h
  simp only [Option.some.injEq] at h
  subst h
  obtain ⟨y, rfl, r⟩ := hr
  exact ⟨y, rfl, kG hm h1 r⟩
 | .tu l, a', v, h, hr => by
  simp only [AV.ren] at h
  obtain ⟨l', h1, h⟩ := aA h
  simp only [Option.some.injEq] at h
  subst h
  obtain ⟨y, rfl, r⟩ := hr
  exact ⟨y, rfl, kG hm h1 r⟩
 | .bo _, a', v, h, hr => by simp only [AV.ren, Option.some.injEq] at h; subst h; exact hr
 | .it .., a', v, h, hr => by simp only [AV.ren, Option.some.injEq] at h; subst h; exact hr
 | .st _, a', v, h, hr => by simp only [AV.ren, Option.some.injEq] at h; subst h; exact hr
 | .fl .., a', v, h, hr => by simp only [AV.ren, Option.some.injEq] at h; subst h; exact hr
 | .cx .., a', v, h, hr => by simp only [AV.ren, Option.some.injEq] at h; subst h; exact hr
 | .np, a', v, h, hr => by simp only [AV.ren, Option.some.injEq] at h; subst h; exact hr
 | .ns, a', v, h, hr => by simp only [AV.ren, Option.some.injEq] at h; subst h; exact hr
 | .se _, a', v, h, hr => by simp only [AV.ren, Option.some.injEq] at h; subst h; exact hr
 | .nm, a', v, h, hr => by simp only [AV.ren, Option.some.injEq] at h; subst h; exact hr
 | .md .., a', v, h, hr => by simp only [AV.ren, Option.some.injEq] at h; subst h; exact hr
 | .nf, a', v, h, hr => by simp only [AV.ren, Option.some.injEq] at h; subst h; exact hr
 | .ni, a', v, h, hr => by simp only [AV.ren, Option.some.injEq] at h; subst h; exact hr
theorem kG {m : Nat -> Option Nat} {β β' : Bt} (hm : ∀ i j p, m i = some j -> β i = some p -> β' j = some p) : ∀ {l l' : List AV} {vs : List Value}, AV.bM m l = some l' -> AV.aD β l vs -> AV.aD β' l' vs
 | [], l', vs, h, hr => by simp only [AV.bM, Option.some.injEq] at h; subst h; exact hr
 | a :: r, l', vs, h, hr => by
  simp only [AV.bM] at h
  obtain ⟨a', h1, h⟩ := aA h
  obtain ⟨r', h2, h⟩ := aA h
  simp only [Option.some.injEq] at h
  subst h
  obtain ⟨x, xs, rfl, r1, r2⟩ := hr
  exact ⟨x, xs, rfl, jR hm h1 r1, kG hm h2 r2⟩
end
def sW (n : Nat) : List Nat -> Nat -> Option Nat
 | [], _ => none
 | a :: r, i => cnd (Nat.beq n a) (some i) (sW n r (i + 1))
theorem Aq {n : Nat} : ∀ {l : List Nat} {i j : Nat}, sW n l i = some j -> i <= j ∧ l[j - i]? = some n
 | a :: r, i, j, h => by
  unfold sW cnd at h
  split at h
  ·rename_i hc
   simp only [Option.some.injEq] at h
   subst h
   have := Nat.eq_of_beq_eq_true hc
   subst this
   simp
  ·obtain ⟨h1, h2⟩ := Aq h
   refine ⟨by omega, ?_⟩
   rw [show j - i = (j - (i + 1)) + 1 by omega]
   exact h2
def kH (H : T Blk) (olds : List Nat) : List Nat -> Option (List (List AV))
 | [] => some []
 | o :: r => match H.get o with
  | some (.cells cs _ _ _) => ob (AV.bM (fun i => sW i olds 0) cs) fun cs => ob (kH H olds r) fun l => some (cs :: l)
  | _ => none
theorem qI {H : T Blk} {olds : List Nat} : ∀ {l : List Nat} {out : List (List AV)}, kH H olds l = some out -> out.length = l.length ∧ ∀ (k : Nat) (o : Nat), l[k]? = some o -> ∃ cs cls top shr cs', H.get o = some (.cells cs cls top shr) ∧ AV.bM (fun i => sW i olds 0) cs = some cs' ∧ out[k]? = some cs'
 | [], out, h => by
  simp only [kH, Option.some.injEq] at h
  subst h
  exact ⟨rfl, fun k o h => by simp at h⟩
 | a :: r, out, h => by
  unfold kH at h
  split at h
  ·rename_i cs cls top shr hB
   obtain ⟨cs', h1, h⟩ := aA h
   obtain ⟨l, h2, h⟩ := aA h
   simp only [Option.some.injEq] at h
   subst h
   obtain ⟨h3, h4⟩ := qI h2
   refine ⟨by simp [h3], fun k o hk => ?_⟩
   match k, hk with
   | 0, hk =>
    simp only [List.getElem?_cons_zero, Option.some.injEq] at hk
    subst hk
    exact ⟨cs, cls, top, shr, cs', hB, h1, rfl⟩
   | k + 1, hk => simpa using h4 k o (by simpa using hk)
  ·cases h
def vD (olds : List Nat) (x : Option (Out × W)) : Option (AV × List (List AV)) :=
 match x with
 | some (.ret v, A) => ob (AV.ren (fun i => sW i olds 0) v) fun v => ob (kH A.H olds olds) fun rows => some (v, rows)
 | _ => none
def jS (cls : Nat) : T Blk -> Nat -> List (List AV) -> T Blk
 | H, _, [] => H
 | H, i, cs :: r => jS cls (H.put i (some (.cells cs cls false true))) (i + 1) r
theorem lG {cls : Nat} : ∀ {l : List (List AV)} {H : T Blk} {i id : Nat}, i + l.length <= big -> (jS cls H i l).get id = if i <= id ∧ id < i + l.length then (l[id - i]?).map (fun cs => .cells cs cls false true) else H.get id
 | [], H, i, id, h => by
  rw [if_neg (by simp)]
  rfl
 | cs :: r, H, i, id, h => by
  simp only [List.length_cons] at h ⊢
  unfold jS
  rw [lG (by omega)]
  by_cases h1 : id = i
  ·subst h1
   rw [if_neg (by omega), if_pos (by omega), T.aS _ (by omega)]
   simp
  ·by_cases h2 : i <= id ∧ id < i + (r.length + 1)
   ·rw [if_pos (by omega), if_pos h2, show id - i = (id - (i + 1)) + 1 by omega]
    rfl
   ·rw [if_neg (by omega), if_neg h2, T.aF _ h1]
def mF (m : Nat -> Option Nat) : List (List AV) -> Option (List (List AV))
 | [] => some []
 | a :: r => ob (AV.bM m a) fun a => ob (mF m r) fun r => some (a :: r)
theorem rG {m : Nat -> Option Nat} : ∀ {l l' : List (List AV)}, mF m l = some l' -> l'.length = l.length ∧ ∀ (k : Nat) (cs : List AV), l[k]? = some cs -> ∃ cs', AV.bM m cs = some cs' ∧ l'[k]? = some cs'
 | [], l', h => by simp only [mF, Option.some.injEq] at h; subst h; exact ⟨rfl, fun k cs h => by simp at h⟩
 | a :: r, l', h => by
  simp only [mF] at h
  obtain ⟨a', h1, h⟩ := aA h
  obtain ⟨r', h2, h⟩ := aA h
  simp only [Option.some.injEq] at h
  subst h
  obtain ⟨h3, h4⟩ := rG h2
  refine ⟨by simp [h3], fun k cs hk => ?_⟩
  match k, hk with
  | 0, hk => simp only [List.getElem?_cons_zero, Option.some.injEq] at hk; subst hk; exact ⟨a', h1, rfl⟩
  | k + 1, hk => simpa using h4 k cs (by simpa using hk)
def qX (s n : Nat) (i : Nat) : Option Nat := cnd (Nat.blt i n) (some (s + i)) none
def bW (args : List AV) (n : Nat) (v : AV) (rows : List (List AV)) : Gv := fun _ A xs =>
 ck (AV.nM xs args && Nat.ble (A.nx + n) big) (ob (AV.ren (qX A.nx n) v) fun v => ob (mF (qX A.nx n) rows) fun rows => fN (A.nx + n) fun k => some (v, ⟨jS A.nx A.H A.nx rows, k⟩))
theorem Jv {E : Env} (hE : aV E) {k : Nat} {f : FuncId} {args : List AV} {olds : List Nat} {n : Nat} {tv : AV} {rows : List (List AV)} (hau : AV.dB 0 args = true) (hn : olds.length = n)
  (h : vD olds (aP E (run E k) 0 f args ⟨.nil, 0⟩) = some (tv, rows))
  (lo : Nat) (A : W) (xs : List AV) (v : AV) (A2 : W) (hg : bW args n tv rows lo A xs = some (v, A2)) : aR E.P lo f xs A (.ret v) A2 := by
 intro β w us hW hr
 unfold bW at hg
 replace hg := aC hg; obtain ⟨hc, hg⟩ := hg
 rw [Bool.and_eq_true, Nat.ble_eq] at hc
 obtain ⟨hsame, hbig⟩ := hc
 have hsame := sN hsame
 subst hsame
 replace hg := aA hg; obtain ⟨v', hv', hg⟩ := hg
 replace hg := aA hg; obtain ⟨rows', Nn, hg⟩ := hg
 rw [aU] at hg
 simp only [Option.some.injEq, Prod.mk.injEq] at hg
 obtain ⟨rfl, rfl⟩ := hg
 unfold vD at h
 split at h
 ·rename_i v0 A' hrun
  replace h := aA h; obtain ⟨v1, hv1, h⟩ := h
  replace h := aA h; obtain ⟨r1, hr1, h⟩ := h
  simp only [Option.some.injEq, Prod.mk.injEq] at h
  obtain ⟨rfl, rfl⟩ := h
  have hr' : AV.aD noB xs us := by
   have h1 := dX hau hr
   refine h1.mono fun id p hp => ?_
   obtain ⟨h1, _⟩ := aY hp
   omega
  obtain ⟨he, hcall⟩ := jL hE (fZ hE k) hrun noB w us (oG w) hr'
  refine .inl ⟨he, hcall.mono fun e w' ⟨β', hgo, hout⟩ => ?_⟩
  obtain ⟨y, rfl, hy⟩ := hout
  obtain ⟨hl1, hg1⟩ := qI hr1
  obtain ⟨hl2, hg2⟩ := rG Nn
  have hlen : rows'.length = n := by rw [hl2, hl1, hn]
  have hold := hgo.none_old
  let β2 : Bt := fun id => if id < A.nx then β id else (olds[id - A.nx]?).bind β'
  have h1 : ∀ i j p, (fun i => sW i olds 0) i = some j -> β' i = some p -> ((fun j => (olds[j]?).bind β') : Bt) j = some p := fun i j p hi hp => by
   obtain ⟨_, h2⟩ := Aq hi
   simp only [Nat.sub_zero] at h2
   simp [h2, hp]
  have h2 : ∀ i j p, qX A.nx n i = some j -> ((fun j => (olds[j]?).bind β') : Bt) i = some p -> β2 j = some p := fun i j p hi hp => by
   unfold qX cnd at hi
   split at hi
   ·simp only [Option.some.injEq] at hi
    subst hi
    show (if A.nx + i < A.nx then β _ else _) = _
    rw [if_neg (by omega), show A.nx + i - A.nx = i by omega]
    exact hp
   ·cases hi
  have hnew : ∀ id b o m, A.nx <= id -> β2 id = some (b, o, m) -> ∃ old, olds[id - A.nx]? = some old ∧ β' old = some (b, o, m) := fun id b o m hi hb => by
   have hb : (if id < A.nx then β id else (olds[id - A.nx]?).bind β') = some (b, o, m) := hb
   rw [if_neg (by omega)] at hb
   cases ho : olds[id - A.nx]? with
   | none => simp [ho] at hb
   | some old => exact ⟨old, rfl, by simpa [ho] using hb⟩
  have hlow : ∀ id, id < A.nx -> β2 id = β id := fun id hi => if_pos hi
  have hle : Le β β2 := fun id p hp => by
   have : id < A.nx := by
    rcases Nat.lt_or_ge id A.nx with h | h
    ·exact h
    ·rw [hW.nx id h] at hp; cases hp
   rw [hlow id this]; exact hp
  have hget : ∀ id B, (jS A.nx A.H A.nx rows').get id = some B -> (id < A.nx ∧ A.H.get id = some B) ∨ (A.nx <= id ∧ id < A.nx + n ∧ ∃ cs, rows'[id - A.nx]? = some cs ∧ B = .cells cs A.nx false true) := fun id B hB => by
   rw [lG (by omega)] at hB
   split at hB
   ·rename_i hc
    right
    cases hc2 : rows'[id - A.nx]? with
    | none => simp [hc2] at hB
    | some cs =>
     simp only [hc2, Option.map_some, Option.some.injEq] at hB
     exact ⟨hc.1, by omega, cs, rfl, hB.symm⟩
   ·exact .inl ⟨hW.lt hB, hB⟩
  have Oj : v'.Rel β2 y := jR h2 hv' (jR h1 hv1 hy)
  refine ⟨β2, { rel := { lo_le := Nat.le_trans hW.lo_le (Nat.le_add_right _ _), blk := ?_, nx := ?_, here := ?_, sep := ?_, side := ?_ }, ext := hle, nx := Nat.le_add_right _ _, size := hgo.size, old := fun b hb _ => hold b hb, back := ?_, keep := ?_, fresh := ?_, old' := fun id p hi hb => by rwa [hlow id hi] at hb, os := hgo.os, tape := hgo.tape, output := hgo.output }, y, rfl, Oj⟩
  ·intro id B hB
   rcases hget id B hB with ⟨hi, hB⟩ | ⟨hi, hi2, cs, hcs, rfl⟩
   ·obtain ⟨b, o, m, h4, h5, h6⟩ := hW.blk id B hB
    have := hgo.size
    exact ⟨b, o, m, hle _ _ h4, by omega, h6.mono hle (hold b h5)⟩
   ·cases ho : olds[id - A.nx]? with
    | none =>
     rw [List.getElem?_eq_none_iff] at ho
     omega
    | some old =>
     obtain ⟨cs0, Qn, Qo, Qp, cs1, q1, q2, q3⟩ := hg1 _ _ ho
     obtain ⟨cs2, q4, q5⟩ := hg2 _ _ q3
     rw [hcs] at q5
     simp only [Option.some.injEq] at q5
     subst q5
     obtain ⟨b, o, m, h4, h5, c, e, fz, k1, ⟨k2, _⟩, k3, k4⟩ := hgo.rel.blk old _ q1
     refine ⟨b, o, m, ?_, h5, c, e, fz, k1, ⟨k2, rY (by omega)⟩, by simp, fun i u hu => ?_⟩
     ·show (if id < A.nx then β id else _) = _
      rw [if_neg (by omega), ho]
      exact h4
     ·have hll : ∀ {m : Nat -> Option Nat} {l l' : List AV}, AV.bM m l = some l' -> l'.length = l.length := by
       intro m l
       induction l with
       | nil => intro l' h; simp only [AV.bM, Option.some.injEq] at h; subst h; rfl
       | cons a r ih =>
        intro l' h
        simp only [AV.bM] at h
        obtain ⟨a', _, h⟩ := aA h
        obtain ⟨r', h2, h⟩ := aA h
        simp only [Option.some.injEq] at h
        subst h
        simp [ih h2]
      have hat : ∀ {m : Nat -> Option Nat} {l l' : List AV}, AV.bM m l = some l' -> ∀ (i : Nat) (u : AV), l'[i]? = some u -> ∃ a, l[i]? = some a ∧ a.ren m = some u := by
       intro m l
       induction l with
       | nil => intro l' h i u hu; simp only [AV.bM, Option.some.injEq] at h; subst h; simp at hu
       | cons a r ih =>
        intro l' h i u hu
        simp only [AV.bM] at h
        obtain ⟨a', h1, h⟩ := aA h
        obtain ⟨r', h2, h⟩ := aA h
        simp only [Option.some.injEq] at h
        subst h
        match i, hu with
        | 0, hu => simp only [List.getElem?_cons_zero, Option.some.injEq] at hu; subst hu; exact ⟨a, rfl, h1⟩
        | i + 1, hu => simpa using ih h2 i u (by simpa using hu)
      obtain ⟨u1, e1, e2⟩ := hat q4 i u hu
      obtain ⟨u0, e3, e4⟩ := hat q2 i u1 e1
      obtain ⟨x, hx, hxr⟩ := k4 i u0 e3
      exact ⟨x, hx, jR h2 e2 (jR h1 e4 hxr)⟩
  ·intro id hi
   show (if id < A.nx then β id else (olds[id - A.nx]?).bind β') = none
   have hi : A.nx + n <= id := hi
   rw [if_neg (by omega), List.getElem?_eq_none (by omega)]
   rfl
  ·intro id b o m hb
   rcases Nat.lt_or_ge id A.nx with hi | hi
   ·rw [hlow id hi] at hb
    have := hW.here id b o m hb
    have := hgo.size
    omega
   ·obtain ⟨old, _, hb⟩ := hnew id b o m hi hb
    exact hgo.rel.here old b o m hb
  ·intro id id' B B2 b o o2 m m2 hne hB hB2 hb hb2
   rcases hget id B hB with ⟨hi, hB⟩ | ⟨hi, hi2, cs, hcs, rfl⟩
   ·rcases hget id' B2 hB2 with ⟨hi', hB2⟩ | ⟨hi', Qc, cs', hcs', rfl⟩
    ·rw [hlow id hi] at hb
     rw [hlow id' hi'] at hb2
     exact hW.sep id id' B B2 b o o2 m m2 hne hB hB2 hb hb2
    ·rw [hlow id hi] at hb
     have := hW.here id b o m hb
     obtain ⟨old, _, hb2⟩ := hnew id' b o2 m2 hi' hb2
     have := hgo.none_new hb2
     omega
   ·rcases hget id' B2 hB2 with ⟨hi', hB2⟩ | ⟨hi', Qc, cs', hcs', rfl⟩
    ·rw [hlow id' hi'] at hb2
     have := hW.here id' b o2 m2 hb2
     obtain ⟨old, _, hb⟩ := hnew id b o m hi hb
     have := hgo.none_new hb
     omega
    ·exact ⟨rfl, by simp, by simp, by simp⟩
  ·intro id id' B2 b o o2 m m2 hi hi' hB2 hb hb2
   have hi1 : id < A.nx := by have := hW.lo_le; omega
   rw [hlow id hi1] at hb
   rcases hget id' B2 hB2 with ⟨hi2, hB2⟩ | ⟨hi2, _, cs', hcs', rfl⟩
   ·rw [hlow id' hi2] at hb2
    exact hW.side id id' B2 b o o2 m m2 hi hi' hB2 hb hb2
   ·have := hW.here id b o m hb
    obtain ⟨old, _, hb2⟩ := hnew id' b o2 m2 hi2 hb2
    have := hgo.none_new hb2
    omega
  ·intro id B hi hB
   rcases hget id B hB with ⟨_, hB⟩ | ⟨hi2, _⟩
   ·exact ⟨B, hB⟩
   ·omega
  ·intro id hi
   have := hW.lo_le
   show (jS A.nx A.H A.nx rows').get id = A.H.get id
   rw [lG (by omega), if_neg (by omega)]
  ·intro id b o m hi hb
   obtain ⟨old, _, hb⟩ := hnew id b o m hi hb
   exact .inl (hgo.none_new hb)
 ·cases h
mutual
def AV.ids : AV -> List Nat
 | .pt i _ => [i]
 | .sl i _ _ _ _ _ => [i]
 | .mp i => [i]
 | .fn _ fs cs => AV.jV fs ++ AV.jV cs
 | .ic _ v => AV.ids v
 | .ag l => AV.jV l
 | .tu l => AV.jV l
 | _ => []
def AV.jV : List AV -> List Nat
 | [] => []
 | a :: r => AV.ids a ++ AV.jV r
end
def reach (H : T Blk) (k : Nat) : List Nat -> List Nat -> List Nat :=
 @Nat.rec (fun _ => List Nat -> List Nat -> List Nat) (fun _ seen => seen) (fun _ ih todo seen => match todo with
  | [] => seen
  | i :: r => cnd (gI i seen) (ih r seen) (match H.get i with
   | some (.cells cs _ _ _) => ih (AV.jV cs ++ r) (seen ++ [i])
   | _ => ih r seen)) k
def bX (x : Option (Out × W)) : Option (Nat × AV × List (List AV)) :=
 match x with
 | some (.ret v, A) => (fun olds => ob (vD olds x) fun p => fN (len olds) fun n => some (n, p.1, p.2)) (reach A.H 1000 v.ids [])
 | _ => none
theorem xR {x : Option (Out × W)} {n : Nat} {v : AV} {rows : List (List AV)} (h : bX x = some (n, v, rows)) : ∃ olds : List Nat, olds.length = n ∧ vD olds x = some (v, rows) := by
 unfold bX at h
 split at h
 ·rename_i v0 A
  simp only at h
  replace h := aA h; obtain ⟨p, hp, h⟩ := h
  rw [aU] at h
  simp only [Option.some.injEq, Prod.mk.injEq] at h
  obtain ⟨h1, h2, h3⟩ := h
  exact ⟨_, by rw [<- len_eq]; exact h1, by rw [hp]; simp [<- h2, <- h3]⟩
 ·cases h
theorem dY {E : Env} (hE : aV E) {k : Nat} {f : FuncId} {args : List AV} {n : Nat} {tv : AV} {rows : List (List AV)} (hau : AV.dB 0 args = true) (h : bX (aP E (run E k) 0 f args ⟨.nil, 0⟩) = some (n, tv, rows))
  (lo : Nat) (A : W) (xs : List AV) (v : AV) (A2 : W) (hg : bW args n tv rows lo A xs = some (v, A2)) : aR E.P lo f xs A (.ret v) A2 := by
 obtain ⟨olds, h1, h2⟩ := xR h
 exact Jv hE hau h1 h2 lo A xs v A2 hg
def vE : List Gv -> Gv
 | [], _, _, _ => none
 | g :: r, lo, A, xs => match g lo A xs with
  | some x => some x
  | none => vE r lo A xs
theorem wQ {P : Program} {f : FuncId} : ∀ {gs : List Gv}, (∀ g ∈ gs, ∀ lo A args v A', g lo A args = some (v, A') -> aR P lo f args A (.ret v) A') -> ∀ lo A args v A', vE gs lo A args = some (v, A') -> aR P lo f args A (.ret v) A'
 | [], _, lo, A, args, v, A', h => by cases h
 | g :: r, hall, lo, A, args, v, A', h => by
  unfold vE at h
  split at h
  ·rename_i x hx
   simp only [Option.some.injEq] at h
   subst h
   exact hall g (.head _) lo A args v A' hx
  ·exact wQ (fun g hg => hall g (.tail _ hg)) lo A args v A' h
def Env.more (E : Env) (f : FuncId) (g : Gv) : Env := { E with giv := fun k => cnd (Nat.beq k f) (some g) (E.giv k) }
theorem aV.more {E : Env} (hE : aV E) {f : FuncId} {g : Gv} (h : ∀ lo A args v A', g lo A args = some (v, A') -> aR E.P lo f args A (.ret v) A') : aV (E.more f g) where
 I := hE.I
 F := hE.F
 giv := fun k g' hk => by
  simp only [Env.more, cnd] at hk
  split at hk
  ·rename_i hc
   simp only [Option.some.injEq] at hk
   have := Nat.eq_of_beq_eq_true hc
   subst this hk
   exact h
  ·exact hE.giv k g' hk
 tri := hE.tri
 mixed := hE.mixed
open Go.Dec (Pure Keep eB) in
theorem Ga {E : Env} (hE : aV E) {f : FuncId} {kd : IntKind} {m : Nat} (hm : 0 < m) (hb : eB E.P f = true) (h : ∀ r, r < m -> ∃ k, gL (aP E (run E k) 0 f [.md kd m r] ⟨.nil, 0⟩) = some true) :
  Pure E.P f [.int kd] [.bool] (fun (x : Int) => if 0 <= x ∧ x < 65536 then some true else none) := by
 refine ⟨hb, fun x y hxy w N xs _ _ hx => ?_⟩
 simp only at hxy
 split at hxy
 ·rename_i hr
  simp only [Option.some.injEq] at hxy
  subst hxy
  have hr1 : (0 : Int) <= x := hr.1
  have hr2 : (x : Int) < 65536 := hr.2
  have hr3 : x.toNat < 65536 := by omega
  obtain ⟨k, hk⟩ := h (x.toNat % m) (Nat.mod_lt _ hm)
  obtain ⟨A', hk⟩ := Hu hk
  obtain ⟨u, rfl, hu⟩ := hx
  have hu : u = .int kd x := by
   simp only [Go.Dec.Ty.VRel, Go.Dec.Ty.isAgg] at hu
   simpa [Go.Dec.Ty.Rel] using hu
  subst hu
  obtain ⟨_, hc⟩ := jL hE (fZ hE k) hk noB w [.int kd x] (oG w) ⟨_, _, rfl, ⟨x.toNat, by simp [Int.toNat_of_nonneg hr1], hr3, rfl⟩, rfl⟩
  refine hc.mono fun e w' ⟨β', hg, ho⟩ => ?_
  obtain ⟨y, rfl, hy⟩ := ho
  simp only [AV.Rel] at hy
  subst hy
  have hk : ∀ j, j < w.heap.size -> w'.heap[j]? = w.heap[j]? := hg.none_old
  refine ⟨[.bool true], rfl, hg.os, hg.tape, hg.output, Keep.Bu (M := fun _ => False) hg.size (fun j hj _ => hk j hj) (fun _ _ h => h), ?_⟩
  exact ⟨_, rfl, rfl⟩
 ·cases hxy
end Go.Ce
