/- Part of a proof over this seat: a library of my own, and what it says of this seat. No statement is proved here. -/
import Derived.Test.YthhbdkdofhhoeaaGreatDoorPartAP
namespace Go.Dec
section
variable {P : Program} {f : FuncId} {si so : Sh} {F : si.X -> Option so.X}
theorem Dh {ρ : List Nat} {h : List Ob} (hc : EK ρ h si so = true) : nodupB ρ = true ∧ (∀ i ∈ ρ, i < h.length) ∧ ρ.length = si.os.length ∧ (∀ (j : Nat) (o : Ob), (inH ρ h)[j]? = some o -> o.wr = true) ∧ rW (inH ρ h) so.os = true := by
 simp only [EK, Bool.and_eq_true] at hc
 obtain ⟨h1, h2, h3, h4, h5⟩ := hc
 refine ⟨h1, fun i hi => ?_, Nat.eq_of_beq_eq_true h3, fun j o ho => nH h4 j o ho, h5⟩
 obtain ⟨n, hn⟩ := List.getElem?_of_mem hi
 exact Nat.le_of_ble_eq_true (nH h2 n i hn)
def pQ : Ob -> Bool
 | .box .. => true
 | .arr .. => false
def Cy (β : Nat -> Pl) (h : List Ob) (i : Nat) : Option Nat := match pQ (zh h i) with | true => (β i).blk | false => none
def inC (C : Ctx) (β : Nat -> Pl) (h : List Ob) (w : World) (ρ : List Nat) (hs : eO C β h w) : Ctx where
 P := C.P
 N0 b := C.N β h b ∧ ∀ i ∈ ρ, (β i).blk ≠ some b
 w0 := w
 yS b := ∃ (i : Nat) (o : Ob), i ∈ ρ ∧ h[i]? = some o ∧ (β i).blk = some b
 glob w' hw := C.glob w' fun b hb hn => by
  have hlt := Nat.lt_of_lt_of_le hb hs.size
  rw [hw b hlt (fun hm => ?_)]
  ·exact hs.frame b hb hn
  ·obtain ⟨i, o, _, ho, hbk⟩ := hm
   rcases (hs.fresh i o b ho hbk).2.2 with h1 | h1
   ·omega
   ·exact hn h1
 fix := ρ.map (Cy β h)
theorem OX {C : Ctx} {β : Nat -> Pl} {w : World} {h : List Ob} {ρ : List Nat} {vs : List V} {xs : List Value} (hs : eO C β h w) (ha : lV β w (C.N β h) vs xs) (hnd : nodupB ρ = true) (hlt : ∀ i ∈ ρ, i < h.length) :
  Sim (inC C β h w ρ hs) (rU β ρ) ⟨vs.map (V.ren ρ h), inH ρ h⟩ { tmps := xs.toArray, defers := [] } w := by
 have JB := JA hs hlt
 have hget : ∀ i ∈ ρ, ∃ o, h[i]? = some o := fun i hi => ⟨h[i]'(hlt i hi), by simp [hlt i hi]⟩
 have hβ : ∀ {j i : Nat}, ρ[j]? = some i -> rU β ρ j = { β i with ver := 0 } := fun hi => by simp only [rU, hi]
 have hNw : ∀ b, C.N β h b -> b < w.heap.size := fun b hb => by
  rcases hb with hb | ⟨id, o, ho, _, hbk⟩
  ·exact Nat.lt_of_lt_of_le (hs.n0 b hb) hs.size
  ·exact (hs.fresh id o b ho hbk).2.1
 have hN : ∀ b, b < w.heap.size -> (inC C β h w ρ hs).N (rU β ρ) (inH ρ h) b -> C.N β h b := fun b _ hb => by
  rcases hb with hb | ⟨j, o, ho, hw, hbk⟩
  ·exact hb.1
  ·obtain ⟨i, hi, rfl⟩ := mQ ho
   obtain ⟨o', ho'⟩ := hget i (List.mem_of_getElem? hi)
   rw [lD ho', Ob.Jy] at hw
   rw [hβ hi] at hbk
   exact .inr ⟨i, o', ho', hw, hbk⟩
 refine ⟨⟨?_, ?_, ?_, ?_, fun b hb => hNw b hb.1, fun _ _ _ => rfl, Nat.le_refl _, rfl, rfl, rfl, ?_⟩, rfl, by simpa using aL.length ha, ?_⟩
 ·intro j o ho
  obtain ⟨i, hi, rfl⟩ := mQ ho
  obtain ⟨o', ho'⟩ := hget i (List.mem_of_getElem? hi)
  rw [lD ho', hβ hi]
  have hob := hs.obj i o' ho'
  cases o' with
  | box e ls =>
   simp only [Ob.ren, Ob.Rel] at *
   obtain ⟨h1, h2, b, cs, h3, h4, h5⟩ := hob
   exact ⟨h1, h2, b, cs, h3, h4.qL JB hN, h5⟩
  | arr e t v rows wr =>
   simp only [Ob.ren, Ob.Rel] at *
   obtain ⟨h1, h2, h3, h4, h5, h6, h7⟩ := hob
   refine ⟨h1, h2, trivial, h4, h5, h6, ?_⟩
   rcases h7 with h7 | ⟨b, cur, css, k1, k2, k3, k4⟩
   ·exact .inl h7
   ·exact .inr ⟨b, cur, css, k1, k2, k3.mono fun _ _ h => h.mono (Keep.refl _ w) hN, k4⟩
 ·intro j hj
  simp only [inH, List.length_map] at hj
  simp only [rU, List.getElem?_eq_none hj]
 ·intro i j o1 o2 b h1 h2 hb1 hb2
  obtain ⟨i', hi, rfl⟩ := mQ h1
  obtain ⟨j', hj, rfl⟩ := mQ h2
  obtain ⟨o1', ho1⟩ := hget i' (List.mem_of_getElem? hi)
  obtain ⟨o2', ho2⟩ := hget j' (List.mem_of_getElem? hj)
  rw [hβ hi] at hb1
  rw [hβ hj] at hb2
  have := hs.apart i' j' o1' o2' b ho1 ho2 hb1 hb2
  subst this
  exact uX hnd hi hj
 ·intro j o b ho hb
  obtain ⟨i, hi, rfl⟩ := mQ ho
  obtain ⟨o', ho'⟩ := hget i (List.mem_of_getElem? hi)
  rw [hβ hi] at hb
  exact ⟨fun hn => hn.2 i (List.mem_of_getElem? hi) hb, (hs.fresh i o' b ho' hb).2.1, .inr ⟨i, o', List.mem_of_getElem? hi, ho', hb⟩⟩
 ·intro j o hj
  simp only [inC, List.getElem?_map, Option.map_eq_some_iff] at hj
  obtain ⟨i, hi, rfl⟩ := hj
  refine ⟨by simpa [inH] using (List.getElem?_eq_some_iff.1 hi).1, fun b hb => ?_⟩
  obtain ⟨o', ho'⟩ := hget i (List.mem_of_getElem? hi)
  have hob := hs.obj i o' ho'
  rw [hβ hi]
  unfold Cy at hb
  rw [lD ho'] at hb
  cases o' with
  | box e ls =>
   simp only [Ob.Rel] at hob
   exact ⟨hb, hob.2.1⟩
  | arr e t v rows wr => cases hb
 ·intro i v hv
  simp only [List.getElem?_map, Option.map_eq_some_iff] at hv
  obtain ⟨v0, hv0, rfl⟩ := hv
  have hl : i < xs.length := by rw [<- aL.length ha]; exact (List.getElem?_eq_some_iff.1 hv0).1
  have hr := ha.get i (List.getElem?_eq_some_iff.1 hv0).1 hl
  have e : vs[i]'(List.getElem?_eq_some_iff.1 hv0).1 = v0 := (List.getElem?_eq_some_iff.1 hv0).2
  rw [e] at hr
  have e2 : (xs.toArray).getD i undef = xs[i] := by simp [hl]
  simp only [e2]
  exact hr.qL JB hN
def kP (β β' : Nat -> Pl) (ρ : List Nat) (h : List Ob) : Nat -> Pl := fun i =>
 match pos i ρ 0 with
 | some j => match pQ (zh h i) with
  | true => β i
  | false => { β' j with ver := (β' j).ver + mZ ρ h j }
 | none => if i < h.length then β i else β' (i - h.length + ρ.length)
theorem xK {ρ : List Nat} {h hy : List Ob} (hk : ρ.length <= hy.length) {id : Nat} {o : Ob} (ho : (gU ρ h hy)[id]? = some o) :
  (id < h.length ∧ pos id ρ 0 = none ∧ h[id]? = some o) ∨ (∃ j ob oy, id < h.length ∧ ρ[j]? = some id ∧ pos id ρ 0 = some j ∧ h[id]? = some ob ∧ hy[j]? = some oy ∧ o = oy.back (mY ρ h.length) (mZ ρ h) j) ∨
   ∃ j oy, ρ.length <= j ∧ id = h.length + (j - ρ.length) ∧ hy[j]? = some oy ∧ o = oy.back (mY ρ h.length) (mZ ρ h) j := by
 unfold gU at ho
 by_cases hid : id < h.length
 ·rw [List.getElem?_append_left (by rw [o9]; exact hid), DN, Nat.zero_add] at ho
  obtain ⟨ob, hob⟩ : ∃ ob, h[id]? = some ob := ⟨h[id], by simp [hid]⟩
  rw [hob] at ho
  simp only [Option.map_some, Option.some.injEq] at ho
  cases hp : pos id ρ 0 with
  | none =>
   rw [hp] at ho
   simp only at ho
   exact .inl ⟨hid, rfl, by rw [hob, ho]⟩
  | some j =>
   obtain ⟨m, hm, hi⟩ := qh hp
   rw [Nat.zero_add] at hm
   subst hm
   have hj : j < hy.length := Nat.lt_of_lt_of_le (List.getElem?_eq_some_iff.1 hi).1 hk
   have hyj : hy[j]? = some hy[j] := by simp [hj]
   rw [hp] at ho
   simp only [hyj] at ho
   exact .inr (.inl ⟨j, ob, hy[j], hid, hi, rfl, hob, hyj, ho.symm⟩)
 ·rw [List.getElem?_append_right (by rw [o9]; omega), o9, A9, List.getElem?_drop] at ho
  simp only [Option.map_eq_some_iff] at ho
  obtain ⟨oy, h1, h2⟩ := ho
  exact .inr (.inr ⟨ρ.length + (id - h.length), oy, by omega, by omega, h1, h2.symm⟩)
theorem yw {ρ : List Nat} {h hy : List Ob} : (gU ρ h hy).length = h.length + (hy.length - ρ.length) := by
 simp [gU, o9, xw]
theorem DR {C : Ctx} {β : Nat -> Pl} {h : List Ob} {w w' : World} {ρ : List Nat} (hs : eO C β h w) (hnd : nodupB ρ = true) (hlt : ∀ i ∈ ρ, i < h.length) (hwr : ∀ (j : Nat) (o : Ob), (inH ρ h)[j]? = some o -> o.wr = true) (Bc : rW (inH ρ h) so.os = true)
  {y : so.X} {us : List Value} {β' : Nat -> Pl} (hs' : Sim (inC C β h w ρ hs) β' (so.enc y) { tmps := us.toArray, defers := [] } w') :
  ∃ β2, Moves β β2 ∧ Keep (C.N β h) w w' ∧ (∀ b, b < w.heap.size -> C.N β2 (gU ρ h (so.enc y).h) b -> C.N β h b) ∧ eO C β2 (gU ρ h (so.enc y).h) w' ∧
   aL (fun v u => V.Rel β2 w' (C.N β2 (gU ρ h (so.enc y).h)) v u) ((so.enc y).r.map (V.back (mY ρ h.length) (mZ ρ h))) us := by
 generalize hhy : (so.enc y).h = hy at *
 have hget : ∀ i ∈ ρ, ∃ o, h[i]? = some o := fun i hi => ⟨h[i]'(hlt i hi), by simp [hlt i hi]⟩
 have hfix : ∀ {j i : Nat}, ρ[j]? = some i -> j < hy.length ∧ ∀ b, Cy β h i = some b -> (β' j).blk = some b ∧ (β' j).box = true := fun {j i} hi => by
  have := hs'.heap.fixed j (Cy β h i) (by simp [inC, hi])
  rw [hhy] at this
  exact this
 have hk : ρ.length <= hy.length := by
  rcases Nat.lt_or_ge hy.length ρ.length with h1 | h1
  ·have := (hfix (j := hy.length) (i := ρ[hy.length]) (by simp [h1])).1
   omega
  ·exact h1
 have TR : ∀ i ∈ ρ, ∀ o, h[i]? = some o -> o.wr = true := fun i hi o ho => by
  obtain ⟨n, hn⟩ := List.getElem?_of_mem hi
  have := hwr n ((zh h i).ren ρ h) (by simp [inH, hn])
  rw [Ob.Jy, lD ho] at this
  exact this
 have hrow : ∀ {j i : Nat} {o : Ob}, ρ[j]? = some i -> h[i]? = some o -> pQ o = false -> ∃ oy, hy[j]? = some oy ∧ pQ oy = false := fun {j i o} hi ho hb => by
  cases o with
  | box e ls => cases hb
  | arr e t u rows wr =>
   obtain ⟨e', t', hrw⟩ := xJ (j := j) (e := e) (t := t) (u := 0) (rows := rows) (wr := wr) Bc (by simp [inH, hi, lD ho, Ob.ren])
   obtain ⟨rows', hr'⟩ := Ba (A := Unit) (x := (xq so.rs (List.replicate so.n .aX) y).2) hrw
   exact ⟨_, by rw [<- hhy]; exact hr', rfl⟩
 have JO := hs'.heap.obj
 rw [hhy] at JO
 have OY : ∀ j, hy.length <= j -> (β' j).live = false := fun j hj => hs'.heap.dead j (by rw [hhy]; exact hj)
 have vL := hs'.heap.fresh
 rw [hhy] at vL
 have Me := hs'.heap.apart
 rw [hhy] at Me
 have RH : ∀ {j i : Nat} {o : Ob}, ρ[j]? = some i -> h[i]? = some o -> pQ o = true -> (β' j).box = true ∧ (β' j).blk = (β i).blk ∧ (β i).box = true ∧ (β i).live = true ∧ (β' j).live = true := fun {j i o} hi ho hb => by
  have hob := hs.obj i o ho
  obtain ⟨hj, hfx⟩ := hfix hi
  cases o with
  | arr => cases hb
  | box e ls =>
   simp only [Ob.Rel] at hob
   obtain ⟨k1, k2, b, cs, k3, _⟩ := hob
   have hfo : Cy β h i = some b := by simp only [Cy, lD ho, pQ, k3]
   obtain ⟨g1, g2⟩ := hfx b hfo
   exact ⟨g2, by rw [g1, k3], k2, k1, (JO j hy[j] (by simp [hj])).live⟩
 have Nn : ∀ {j i : Nat} {o : Ob}, ρ[j]? = some i -> h[i]? = some o -> pQ o = true -> kP β β' ρ h i = β i := fun hi ho hb => by
  simp only [kP, LZ hnd hi, lD ho, hb]
 have Np : ∀ {j i : Nat} {o : Ob}, ρ[j]? = some i -> h[i]? = some o -> pQ o = false -> kP β β' ρ h i = { β' j with ver := (β' j).ver + mZ ρ h j } := fun hi ho hb => by
  simp only [kP, LZ hnd hi, lD ho, hb]
 have Nq : ∀ {i : Nat}, pos i ρ 0 = none -> i < h.length -> kP β β' ρ h i = β i := fun hp hi => by
  simp only [kP, hp, if_pos hi]
 have RI : ∀ {i : Nat}, h.length <= i -> pos i ρ 0 = none := fun {i} hi => by
  cases hp : pos i ρ 0 with
  | none => rfl
  | some j =>
   obtain ⟨m, _, hm⟩ := qh hp
   have := hlt i (List.mem_of_getElem? hm)
   omega
 have Nr : ∀ {j : Nat}, ρ.length <= j -> kP β β' ρ h (h.length + (j - ρ.length)) = β' j := fun {j} hj => by
  simp only [kP, RI (Nat.le_add_right _ _)]
  rw [if_neg (by omega)]
  congr 1
  omega
 have eF : ∀ {j i : Nat}, ρ[j]? = some i -> mY ρ h.length j = i := fun hi => by simp only [mY, hi]
 have eF2 : ∀ {j : Nat}, ρ.length <= j -> mY ρ h.length j = h.length + (j - ρ.length) := fun hj => by simp only [mY, List.getElem?_eq_none hj]
 have eU2 : ∀ {j : Nat}, ρ.length <= j -> mZ ρ h j = 0 := fun hj => by simp only [mZ, List.getElem?_eq_none hj]
 have hpl : ∀ j, (β' j).live = true -> A8 (β' j) (kP β β' ρ h (mY ρ h.length j)) (mZ ρ h j) := fun j hl => by
  have hj : j < hy.length := by
   rcases Nat.lt_or_ge j hy.length with h1 | h1
   ·exact h1
   ·rw [OY j h1] at hl; cases hl
  cases hi : ρ[j]? with
  | some i =>
   rw [eF hi]
   obtain ⟨o, ho⟩ := hget i (List.mem_of_getElem? hi)
   cases hb : pQ o with
   | true =>
    obtain ⟨g1, g2, g3, g4, g5⟩ := RH hi ho hb
    rw [Nn hi ho hb]
    exact ⟨by rw [g4, hl], by rw [g3, g1], g2.symm, fun h => by rw [g1] at h; cases h⟩
   | false =>
    rw [Np hi ho hb]
    exact ⟨rfl, rfl, rfl, fun _ => ⟨rfl, rfl, rfl, rfl⟩⟩
  | none =>
   have hge : ρ.length <= j := List.getElem?_eq_none_iff.1 hi
   rw [eF2 hge, Nr hge, eU2 hge]
   exact ⟨rfl, rfl, rfl, fun _ => ⟨rfl, rfl, rfl, rfl⟩⟩
 have hown : ∀ {b : Nat}, (inC C β h w ρ hs).yS b -> ∃ (i : Nat) (o : Ob), i ∈ ρ ∧ h[i]? = some o ∧ o.wr = true ∧ (β i).blk = some b := fun {b} hb => by
  obtain ⟨i, o, h1, h2, h3⟩ := hb
  exact ⟨i, o, h1, h2, TR i h1 o h2, h3⟩
 have hkeep : Keep (C.N β h) w w' := ⟨hs'.heap.size, fun b hb hn => hs'.heap.frame b hb fun ho => by
  obtain ⟨i, o, _, h2, h3, h4⟩ := hown ho
  exact hn (.inr ⟨i, o, h2, h3, h4⟩)⟩
 have JQ : Moves β (kP β β' ρ h) := fun id hl => by
  have hid : id < h.length := by
   rcases Nat.lt_or_ge id h.length with h1 | h1
   ·exact h1
   ·rw [hs.dead id h1] at hl; cases hl
  cases hp : pos id ρ 0 with
  | none => exact .inl (Nq hp hid)
  | some j =>
   obtain ⟨m, hm, hi⟩ := qh hp
   rw [Nat.zero_add] at hm
   subst hm
   obtain ⟨o, ho⟩ := hget id (List.mem_of_getElem? hi)
   cases hb : pQ o with
   | true => exact .inl (Nn hi ho hb)
   | false =>
    obtain ⟨oy, hoy, hby⟩ := hrow hi ho hb
    have hY := JO j oy hoy
    have hO := hs.obj id o ho
    rw [Np hi ho hb]
    cases o with
    | box => cases hb
    | arr e t u rows wr =>
     cases oy with
     | box => cases hby
     | arr e' t' u' rows' wr' =>
      simp only [Ob.Rel] at hY hO
      refine .inr ⟨hO.2.1, hY.1, hY.2.1, ?_⟩
      simp only [mZ, hi, ho]
      have := hO.2.2.1
      omega
 have hbl : ∀ {b : Nat}, b < w.heap.size -> w.heap.size <= b ∨ (inC C β h w ρ hs).yS b -> C.N β h b := fun {b} hb ho => by
  rcases ho with ho | ho
  ·omega
  ·obtain ⟨i, o, _, h2, h3, h4⟩ := hown ho
   exact .inr ⟨i, o, h2, h3, h4⟩
 have RJ : ∀ b, b < w.heap.size -> C.N (kP β β' ρ h) (gU ρ h hy) b -> C.N β h b := fun b hb hn => by
  rcases hn with hn | ⟨id, o, ho, hw, hbk⟩
  ·exact .inl hn
  ·rcases xK hk ho with ⟨hid, hp, ho⟩ | ⟨j, ob, oy, hid, hi, hp, hob, hoy, rfl⟩ | ⟨j, oy, hj, rfl, hoy, rfl⟩
   ·rw [Nq hp hid] at hbk
    exact .inr ⟨id, o, ho, hw, hbk⟩
   ·cases hb2 : pQ ob with
    | true =>
     rw [Nn hi hob hb2] at hbk
     exact .inr ⟨id, ob, hob, TR id (List.mem_of_getElem? hi) ob hob, hbk⟩
    | false =>
     rw [Np hi hob hb2] at hbk
     exact hbl hb (vL j oy b hoy hbk).2.2
   ·rw [Nr hj] at hbk
    exact hbl hb (vL j oy b hoy hbk).2.2
 have RL : ∀ b, b < w'.heap.size -> C.N (kP β β' ρ h) (gU ρ h hy) b -> (inC C β h w ρ hs).N β' (so.enc y).h b := fun b _ hn => by
  rw [hhy]
  rcases hn with hn | ⟨id, o, ho, hw, hbk⟩
  ·exact .inl ⟨.inl hn, fun i hi hbk => by
    obtain ⟨o, ho⟩ := hget i hi
    exact (hs.fresh i o b ho hbk).1 hn⟩
  ·rcases xK hk ho with ⟨hid, hp, ho⟩ | ⟨j, ob, oy, hid, hi, hp, hob, hoy, rfl⟩ | ⟨j, oy, hj, rfl, hoy, rfl⟩
   ·rw [Nq hp hid] at hbk
    refine .inl ⟨.inr ⟨id, o, ho, hw, hbk⟩, fun i hi hbi => ?_⟩
    obtain ⟨oi, hoi⟩ := hget i hi
    have := hs.apart id i o oi b ho hoi hbk hbi
    subst this
    exact vZ hp hi
   ·rw [Ob.Mc] at hw
    cases hb2 : pQ ob with
    | true =>
     rw [Nn hi hob hb2] at hbk
     exact .inr ⟨j, oy, hoy, hw, by rw [(RH hi hob hb2).2.1]; exact hbk⟩
    | false =>
     rw [Np hi hob hb2] at hbk
     exact .inr ⟨j, oy, hoy, hw, hbk⟩
   ·rw [Ob.Mc] at hw
    rw [Nr hj] at hbk
    exact .inr ⟨j, oy, hoy, hw, hbk⟩
 have Gc : ∀ {id : Nat} {o : Ob} {b : Nat}, pos id ρ 0 = none -> h[id]? = some o -> (β id).blk = some b -> b < w.heap.size ∧ ¬ (inC C β h w ρ hs).yS b := fun {id o b} hp ho hb => by
  refine ⟨(hs.fresh id o b ho hb).2.1, fun hw => ?_⟩
  obtain ⟨i, oi, h1, h2, _, h4⟩ := hown hw
  have := hs.apart id i o oi b ho h2 hb h4
  subst this
  exact vZ hp h1
 have hcls : ∀ {id : Nat} {o : Ob}, (gU ρ h hy)[id]? = some o -> (pos id ρ 0 = none ∧ h[id]? = some o ∧ kP β β' ρ h id = β id) ∨ ∃ j oy, hy[j]? = some oy ∧ id = mY ρ h.length j ∧ o = oy.back (mY ρ h.length) (mZ ρ h) j ∧ (kP β β' ρ h id).blk = (β' j).blk := fun {id o} ho => by
  rcases xK hk ho with ⟨hid, hp, ho⟩ | ⟨j, ob, oy, hid, hi, hp, hob, hoy, rfl⟩ | ⟨j, oy, hj, rfl, hoy, rfl⟩
  ·exact .inl ⟨hp, ho, Nq hp hid⟩
  ·exact .inr ⟨j, oy, hoy, (eF hi).symm, rfl, by have := (hpl j (JO j oy hoy).live).blk; rwa [eF hi] at this⟩
  ·exact .inr ⟨j, oy, hoy, (eF2 hj).symm, rfl, by rw [Nr hj]⟩
 have hHS : eO C (kP β β' ρ h) (gU ρ h hy) w' := by
  refine ⟨?_, ?_, ?_, ?_, hs.n0, ?_, Nat.le_trans hs.size hs'.heap.size, hs'.heap.os.trans hs.os, hs'.heap.tape.trans hs.tape, hs'.heap.output.trans hs.output, ?_⟩
  ·intro id o ho
   rcases hcls ho with ⟨hp, ho, eb⟩ | ⟨j, oy, hoy, rfl, rfl, _⟩
   ·rw [eb]
    exact (hs.obj id o ho).mono JQ hkeep RJ fun b hb => hs'.heap.frame b (Gc hp ho hb).1 (Gc hp ho hb).2
   ·have hY := JO j oy hoy
    rw [<- hhy] at hY
    exact Ob.Rel.back (f := mY ρ h.length) (v := mZ ρ h) hpl RL hY
  ·intro id hid
   rw [yw] at hid
   have hp := RI (i := id) (by omega)
   simp only [kP, hp]
   rw [if_neg (by omega)]
   exact OY _ (by omega)
  ·intro i j o1 o2 b h1 h2 hb1 hb2
   rcases hcls h1 with ⟨hp1, ho1, eb1⟩ | ⟨j1, oy1, TS, rfl, rfl, eb1⟩ <;> rcases hcls h2 with ⟨hp2, ho2, eb2⟩ | ⟨j2, oy2, TT, rfl, rfl, eb2⟩ <;> rw [eb1] at hb1 <;> rw [eb2] at hb2
   ·exact hs.apart i j o1 o2 b ho1 ho2 hb1 hb2
   ·exfalso
    obtain ⟨g1, g2⟩ := Gc hp1 ho1 hb1
    rcases (vL j2 oy2 b TT hb2).2.2 with h3 | h3
    ·have h3 : w.heap.size <= b := h3
     omega
    ·exact g2 h3
   ·exfalso
    obtain ⟨g1, g2⟩ := Gc hp2 ho2 hb2
    rcases (vL j1 oy1 b TS hb1).2.2 with h3 | h3
    ·have h3 : w.heap.size <= b := h3
     omega
    ·exact g2 h3
   ·rw [Me j1 j2 oy1 oy2 b TS TT hb1 hb2]
  ·intro id o b ho hb
   rcases hcls ho with ⟨hp, ho, eb⟩ | ⟨j, oy, hoy, rfl, rfl, eb⟩ <;> rw [eb] at hb
   ·obtain ⟨k1, k2, k3⟩ := hs.fresh id o b ho hb
    exact ⟨k1, Nat.lt_of_lt_of_le k2 hs'.heap.size, k3⟩
   ·obtain ⟨k1, k2, k3⟩ := vL j oy b hoy hb
    rcases k3 with k3 | k3
    ·have k3 : w.heap.size <= b := k3
     have h0 := hs.size
     exact ⟨fun hn => by have := hs.n0 b hn; omega, k2, .inl (by omega)⟩
    ·obtain ⟨i, oi, h1, h2, _, h4⟩ := hown k3
     obtain ⟨g1, g2, g3⟩ := hs.fresh i oi b h2 h4
     exact ⟨g1, k2, g3⟩
  ·intro b hb hn
   have hlt2 := Nat.lt_of_lt_of_le hb hs.size
   rw [hs'.heap.frame b hlt2 (fun ho => ?_)]
   ·exact hs.frame b hb hn
   ·obtain ⟨i, oi, h1, h2, _, h4⟩ := hown ho
    rcases (hs.fresh i oi b h2 h4).2.2 with h5 | h5
    ·omega
    ·exact hn h5
  ·intro j o hj
   obtain ⟨k1, k2⟩ := hs.fixed j o hj
   refine ⟨by rw [yw]; omega, fun b hb => ?_⟩
   obtain ⟨k3, k4⟩ := k2 b hb
   have hoj : h[j]? = some h[j] := by simp [k1]
   rcases JQ j (hs.obj j _ hoj).live with e | ⟨e, _⟩
   ·rw [e]; exact ⟨k3, k4⟩
   ·rw [k4] at e; cases e
 refine ⟨kP β β' ρ h, JQ, hkeep, RJ, hHS, ?_⟩
 refine Md (by have := hs'.size; simpa using this) fun i v u hv hu => ?_
 simp only [List.getElem?_map, Option.map_eq_some_iff] at hv
 obtain ⟨v0, hv0, rfl⟩ := hv
 have hr := hs'.reg i v0 hv0
 have e : (us.toArray).getD i undef = u := by
  rw [Array.getD_eq_getD_getElem?]
  simp [hu]
 simp only [e] at hr
 exact hr.back (f := mY ρ h.length) (v := mZ ρ h) hpl RL
theorem dB (hM : iW P f si so F) : (peM si so F).OK P f := by
 refine ⟨hM.1, fun vs h y hr C β w xs hP hs ha => ?_, fun h => (by cases h), fun h => (by cases h)⟩
 subst hP
 simp only [peM] at hr
 split at hr
 case h_2 => cases hr
 rename_i x hx
 simp only [Option.some.injEq, Prod.mk.injEq] at hr
 obtain ⟨hok, hF⟩ := hr
 obtain ⟨hnd, hlt, hlen, hwr, Bc⟩ := Dh hok
 have JI := Gg hx (OX hs ha hnd hlt)
 refine (hM.2 x y hF (inC C β h w _ hs) _ w xs rfl (by simp [inC, hlen]) JI).mono ?_
 rintro e w' ⟨us, β', rfl, hs'⟩
 obtain ⟨β2, h1, h2, h3, h4, h5⟩ := DR hs hnd hlt hwr Bc hs'
 exact ⟨_, _, β2, ⟨rfl, rfl⟩, h1, h2, h3, h4, _, rfl, JN h5⟩
def dW (P : Program) (f : FuncId) (si so : Sh) (tp : TypeId) (sp : Sh) (F : si.X -> Option (Sum so.X sp.X)) : Prop :=
 fZ P f = true ∧ ∀ x y, F x = some y -> ∀ (C : Ctx) (β : Nat -> Pl) (w : World) (xs : List Value), C.P = P -> C.fix.length <= si.os.length -> Sim C β (si.enc x) { tmps := xs.toArray, defers := [] } w ->
  Calls P f xs.toArray w fun e w' => (∃ (z : so.X) (us : List Value) (β' : Nat -> Pl), y = .inl z ∧ e = .returned (kN us) ∧ Sim C β' (so.enc z) { tmps := us.toArray, defers := [] } w') ∨
   ∃ (z : sp.X) (u : Value) (β' : Nat -> Pl), y = .inr z ∧ e = .panicked [{ v := .iface tp u, recovered := false }] ∧ Sim C β' (sp.enc z) { tmps := #[u], defers := [] } w'
def Vd (vs : List V) : V :=
 match vs with
 | [v] => v
 | _ => .aX
def ob2 {α γ ρ : Type} (o : Option (Sum α γ)) (k : α -> Option ρ) (k' : γ -> Option ρ) : Option ρ :=
 match o with
 | some (.inl x) => k x
 | some (.inr x) => k' x
 | none => none
theorem Di {ρ : List Nat} {h hy : List Ob} {id : Nat} (hid : id < h.length) (hn : id ∉ ρ) : (gU ρ h hy)[id]? = h[id]? := by
 unfold gU
 have hl : ∀ {g : Nat -> Option Ob} {h : List Ob} {n : Nat}, (zq g n h).length = h.length := by
  intro g h
  induction h with
  | nil => intro n; rfl
  | cons o r ih => intro n; simp [zq, ih]
 rw [List.getElem?_append_left (by rw [hl]; exact hid), DN, List.getElem?_eq_getElem hid]
 have hp : pos id ρ 0 = none := by
  cases hp : pos id ρ 0 with
  | none => rfl
  | some j =>
   obtain ⟨m, _, hm⟩ := qh hp
   exact absurd (List.mem_of_getElem? hm) hn
 simp only [Nat.zero_add, hp, Option.map_some]
def QD {ρ : Type} (si so : Sh) (tp : TypeId) (sp : Sh) (F : si.X -> Option (Sum so.X sp.X)) (vs : List V) (h : List Ob) (k : Out -> List Ob -> Option ρ) : Option ρ :=
 match si.dec ⟨vs.map (V.ren (reach vs h) h), inH (reach vs h) h⟩ with
 | some x => chk (EK (reach vs h) h si so && rW (inH (reach vs h) h) sp.os) (ob2 (F x)
   (fun y => k (.ret (Nl ((so.enc y).r.map (V.back (mY (reach vs h) h.length) (mZ (reach vs h) h))))) (gU (reach vs h) h (so.enc y).h))
   (fun z => k (.pan tp (Vd ((sp.enc z).r.map (V.back (mY (reach vs h) h.length) (mZ (reach vs h) h))))) (gU (reach vs h) h (sp.enc z).h)))
 | none => none
theorem SA {ρ : Type} {tp : TypeId} {sp : Sh} {F : si.X -> Option (Sum so.X sp.X)} (hM : dW P f si so tp sp F) {vs : List V} {h : List Ob} {k : Out -> List Ob -> Option ρ} {r : ρ} (hr : QD si so tp sp F vs h k = some r) :
  fZ P f = true ∧ uQ P f vs h fun out h' => k out h' = some r ∧ ∀ id, id < h.length -> id ∉ reach vs h -> h'[id]? = h[id]? := by
 refine ⟨hM.1, fun C β w xs hP hs ha => ?_⟩
 subst hP
 unfold QD at hr
 split at hr
 case h_2 => cases hr
 rename_i x hx
 obtain ⟨hok, hF⟩ := gJ hr
 simp only [Bool.and_eq_true] at hok
 obtain ⟨hnd, hlt, hlen, hwr, Bc⟩ := Dh hok.1
 have JI := Gg hx (OX hs ha hnd hlt)
 cases hy : F x with
 | none => rw [hy] at hF; cases hF
 | some y =>
  rw [hy] at hF
  refine (hM.2 x y hy (inC C β h w _ hs) _ w xs rfl (by simp [inC, hlen]) JI).mono ?_
  rintro e w' (⟨z, us, β', rfl, rfl, hs'⟩ | ⟨z, u, β', rfl, rfl, hs'⟩)
  ·obtain ⟨β2, h1, h2, h3, h4, h5⟩ := DR hs hnd hlt hwr Bc hs'
   exact ⟨_, _, β2, ⟨hF, fun id hid hn => Di hid hn⟩, h1, h2, h3, h4, _, rfl, JN h5⟩
  ·obtain ⟨β2, h1, h2, h3, h4, h5⟩ := DR (us := [u]) hs hnd hlt hwr hok.2 hs'
   refine ⟨_, _, β2, ⟨hF, fun id hid hn => Di hid hn⟩, h1, h2, h3, h4, u, rfl, ?_⟩
   cases hv : (sp.enc z).r.map (V.back (mY (reach vs h) h.length) (mZ (reach vs h) h)) with
   | nil => rw [hv] at h5; exact h5.elim
   | cons v l =>
    rw [hv] at h5
    cases l with
    | nil => exact h5.1
    | cons v2 l => exact h5.2.elim
end
end Go.Dec
