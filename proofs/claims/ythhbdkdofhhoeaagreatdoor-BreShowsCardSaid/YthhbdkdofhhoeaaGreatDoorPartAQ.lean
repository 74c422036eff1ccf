/- Part of a proof over this seat: a library of my own, and what it says of this seat. No statement is proved here. -/
import Derived.Test.YthhbdkdofhhoeaaGreatDoorPartAP
namespace Go.Dec
section
variable {P : Program} {f : FuncId} {si so : Sh} {F : si.X -> Option so.X}
theorem Nt {ρ : List Nat} {h : List Ob} (hc : Rm ρ h si so = true) : nodupB ρ = true ∧ (∀ i ∈ ρ, i < h.length) ∧ ρ.length = si.os.length ∧ (∀ (j : Nat) (o : Ob), (inH ρ h)[j]? = some o -> o.wr = true) ∧ vU (inH ρ h) so.os = true := by
 simp only [Rm, Bool.and_eq_true] at hc
 obtain ⟨h1, h2, h3, h4, h5⟩ := hc
 refine ⟨h1, fun i hi => ?_, Nat.eq_of_beq_eq_true h3, fun j o ho => pQ h4 j o ho, h5⟩
 obtain ⟨n, hn⟩ := List.getElem?_of_mem hi
 exact Nat.le_of_ble_eq_true (pQ h2 n i hn)
def sH : Ob -> Bool
 | .box .. => true
 | .arr .. => false
def Mj (β : Nat -> Pl) (h : List Ob) (i : Nat) : Option Nat := match sH (Fg h i) with | true => (β i).blk | false => none
def inC (C : Ctx) (β : Nat -> Pl) (h : List Ob) (w : World) (ρ : List Nat) (hs : eO C β h w) : Ctx where
 P := C.P
 N0 b := C.N β h b ∧ ∀ i ∈ ρ, (β i).blk ≠ some b
 w0 := w
 Eu b := ∃ (i : Nat) (o : Ob), i ∈ ρ ∧ h[i]? = some o ∧ (β i).blk = some b
 glob w' hw := C.glob w' fun b hb hn => by
  have hlt := Nat.lt_of_lt_of_le hb hs.size
  rw [hw b hlt (fun hm => ?_)]
  ·exact hs.frame b hb hn
  ·obtain ⟨i, o, _, ho, hbk⟩ := hm
   rcases (hs.fresh i o b ho hbk).2.2 with h1 | h1
   ·omega
   ·exact hn h1
 fix := ρ.map (Mj β h)
theorem zIf {C : Ctx} {β : Nat -> Pl} {w : World} {h : List Ob} {ρ : List Nat} {vs : List V} {xs : List Value} (hs : eO C β h w) (ha : nA β w (C.N β h) vs xs) (hnd : nodupB ρ = true) (hlt : ∀ i ∈ ρ, i < h.length) :
  Sim (inC C β h w ρ hs) (vS β ρ) ⟨vs.map (V.ren ρ h), inH ρ h⟩ { tmps := xs.toArray, defers := [] } w := by
 have Zn := Zm hs hlt
 have hget : ∀ i ∈ ρ, ∃ o, h[i]? = some o := fun i hi => ⟨h[i]'(hlt i hi), by simp [hlt i hi]⟩
 have hβ : ∀ {j i : Nat}, ρ[j]? = some i -> vS β ρ j = { β i with ver := 0 } := fun hi => by simp only [vS, hi]
 have hNw : ∀ b, C.N β h b -> b < w.heap.size := fun b hb => by
  rcases hb with hb | ⟨id, o, ho, _, hbk⟩
  ·exact Nat.lt_of_lt_of_le (hs.n0 b hb) hs.size
  ·exact (hs.fresh id o b ho hbk).2.1
 have hN : ∀ b, b < w.heap.size -> (inC C β h w ρ hs).N (vS β ρ) (inH ρ h) b -> C.N β h b := fun b _ hb => by
  rcases hb with hb | ⟨j, o, ho, hw, hbk⟩
  ·exact hb.1
  ·obtain ⟨i, hi, rfl⟩ := oM ho
   obtain ⟨o', ho'⟩ := hget i (List.mem_of_getElem? hi)
   rw [mM ho', Ob.Zk] at hw
   rw [hβ hi] at hbk
   exact .inr ⟨i, o', ho', hw, hbk⟩
 refine ⟨⟨?_, ?_, ?_, ?_, fun b hb => hNw b hb.1, fun _ _ _ => rfl, Nat.le_refl _, rfl, rfl, rfl, ?_⟩, rfl, by simpa using aS.length ha, ?_⟩
 ·intro j o ho
  obtain ⟨i, hi, rfl⟩ := oM ho
  obtain ⟨o', ho'⟩ := hget i (List.mem_of_getElem? hi)
  rw [mM ho', hβ hi]
  have hob := hs.obj i o' ho'
  cases o' with
  | box e ls =>
   simp only [Ob.ren, Ob.Rel] at *
   obtain ⟨h1, h2, b, cs, h3, h4, h5⟩ := hob
   exact ⟨h1, h2, b, cs, h3, h4.uG Zn hN, h5⟩
  | arr e t v rows wr =>
   simp only [Ob.ren, Ob.Rel] at *
   obtain ⟨h1, h2, h3, h4, h5, h6, h7⟩ := hob
   refine ⟨h1, h2, trivial, h4, h5, h6, ?_⟩
   rcases h7 with h7 | ⟨b, cur, css, k1, k2, k3, k4⟩
   ·exact .inl h7
   ·exact .inr ⟨b, cur, css, k1, k2, k3.mono fun _ _ h => h.mono (Keep.refl _ w) hN, k4⟩
 ·intro j hj
  simp only [inH, List.length_map] at hj
  simp only [vS, List.getElem?_eq_none hj]
 ·intro i j o1 o2 b h1 h2 hb1 hb2
  obtain ⟨i', hi, rfl⟩ := oM h1
  obtain ⟨j', hj, rfl⟩ := oM h2
  obtain ⟨o1', ho1⟩ := hget i' (List.mem_of_getElem? hi)
  obtain ⟨o2', ho2⟩ := hget j' (List.mem_of_getElem? hj)
  rw [hβ hi] at hb1
  rw [hβ hj] at hb2
  have := hs.apart i' j' o1' o2' b ho1 ho2 hb1 hb2
  subst this
  exact yR hnd hi hj
 ·intro j o b ho hb
  obtain ⟨i, hi, rfl⟩ := oM ho
  obtain ⟨o', ho'⟩ := hget i (List.mem_of_getElem? hi)
  rw [hβ hi] at hb
  exact ⟨fun hn => hn.2 i (List.mem_of_getElem? hi) hb, (hs.fresh i o' b ho' hb).2.1, .inr ⟨i, o', List.mem_of_getElem? hi, ho', hb⟩⟩
 ·intro j o hj
  simp only [inC, List.getElem?_map, Option.map_eq_some_iff] at hj
  obtain ⟨i, hi, rfl⟩ := hj
  refine ⟨by simpa [inH] using (List.getElem?_eq_some_iff.1 hi).1, fun b hb => ?_⟩
  obtain ⟨o', ho'⟩ := hget i (List.mem_of_getElem? hi)
  have hob := hs.obj i o' ho'
  rw [hβ hi]
  unfold Mj at hb
  rw [mM ho'] at hb
  cases o' with
  | box e ls =>
   simp only [Ob.Rel] at hob
   exact ⟨hb, hob.2.1⟩
  | arr e t v rows wr => cases hb
 ·intro i v hv
  simp only [List.getElem?_map, Option.map_eq_some_iff] at hv
  obtain ⟨v0, hv0, rfl⟩ := hv
  have hl : i < xs.length := by rw [<- aS.length ha]; exact (List.getElem?_eq_some_iff.1 hv0).1
  have hr := ha.get i (List.getElem?_eq_some_iff.1 hv0).1 hl
  have e : vs[i]'(List.getElem?_eq_some_iff.1 hv0).1 = v0 := (List.getElem?_eq_some_iff.1 hv0).2
  rw [e] at hr
  have e2 : (xs.toArray).getD i undef = xs[i] := by simp [hl]
  simp only [e2]
  exact hr.uG Zn hN
def lS (β β' : Nat -> Pl) (ρ : List Nat) (h : List Ob) : Nat -> Pl := fun i =>
 match pos i ρ 0 with
 | some j => match sH (Fg h i) with
  | true => β i
  | false => { β' j with ver := (β' j).ver + oU ρ h j }
 | none => if i < h.length then β i else β' (i - h.length + ρ.length)
theorem Ct {ρ : List Nat} {h hy : List Ob} (hk : ρ.length <= hy.length) {id : Nat} {o : Ob} (ho : (iA ρ h hy)[id]? = some o) :
  (id < h.length ∧ pos id ρ 0 = none ∧ h[id]? = some o) ∨ (∃ j ob oy, id < h.length ∧ ρ[j]? = some id ∧ pos id ρ 0 = some j ∧ h[id]? = some ob ∧ hy[j]? = some oy ∧ o = oy.back (oQ ρ h.length) (oU ρ h) j) ∨
   ∃ j oy, ρ.length <= j ∧ id = h.length + (j - ρ.length) ∧ hy[j]? = some oy ∧ o = oy.back (oQ ρ h.length) (oU ρ h) j := by
 unfold iA at ho
 by_cases hid : id < h.length
 ·rw [List.getElem?_append_left (by rw [rT]; exact hid), Pj, Nat.zero_add] at ho
  obtain ⟨ob, hob⟩ : ∃ ob, h[id]? = some ob := ⟨h[id], by simp [hid]⟩
  rw [hob] at ho
  simp only [Option.map_some, Option.some.injEq] at ho
  cases hp : pos id ρ 0 with
  | none =>
   rw [hp] at ho
   simp only at ho
   exact .inl ⟨hid, rfl, by rw [hob, ho]⟩
  | some j =>
   obtain ⟨m, hm, hi⟩ := sW hp
   rw [Nat.zero_add] at hm
   subst hm
   have hj : j < hy.length := Nat.lt_of_lt_of_le (List.getElem?_eq_some_iff.1 hi).1 hk
   have hyj : hy[j]? = some hy[j] := by simp [hj]
   rw [hp] at ho
   simp only [hyj] at ho
   exact .inr (.inl ⟨j, ob, hy[j], hid, hi, rfl, hob, hyj, ho.symm⟩)
 ·rw [List.getElem?_append_right (by rw [rT]; omega), rT, Jl, List.getElem?_drop] at ho
  simp only [Option.map_eq_some_iff] at ho
  obtain ⟨oy, h1, h2⟩ := ho
  exact .inr (.inr ⟨ρ.length + (id - h.length), oy, by omega, by omega, h1, h2.symm⟩)
theorem Dy {ρ : List Nat} {h hy : List Ob} : (iA ρ h hy).length = h.length + (hy.length - ρ.length) := by
 simp [iA, rT, Bv]
theorem Pk {C : Ctx} {β : Nat -> Pl} {h : List Ob} {w w' : World} {ρ : List Nat} (hs : eO C β h w) (hnd : nodupB ρ = true) (hlt : ∀ i ∈ ρ, i < h.length) (hwr : ∀ (j : Nat) (o : Ob), (inH ρ h)[j]? = some o -> o.wr = true) (Jo : vU (inH ρ h) so.os = true)
  {y : so.X} {us : List Value} {β' : Nat -> Pl} (hs' : Sim (inC C β h w ρ hs) β' (so.enc y) { tmps := us.toArray, defers := [] } w') :
  ∃ β2, Moves β β2 ∧ Keep (C.N β h) w w' ∧ (∀ b, b < w.heap.size -> C.N β2 (iA ρ h (so.enc y).h) b -> C.N β h b) ∧ eO C β2 (iA ρ h (so.enc y).h) w' ∧
   aS (fun v u => V.Rel β2 w' (C.N β2 (iA ρ h (so.enc y).h)) v u) ((so.enc y).r.map (V.back (oQ ρ h.length) (oU ρ h))) us := by
 generalize hhy : (so.enc y).h = hy at *
 have hget : ∀ i ∈ ρ, ∃ o, h[i]? = some o := fun i hi => ⟨h[i]'(hlt i hi), by simp [hlt i hi]⟩
 have hfix : ∀ {j i : Nat}, ρ[j]? = some i -> j < hy.length ∧ ∀ b, Mj β h i = some b -> (β' j).blk = some b ∧ (β' j).box = true := fun {j i} hi => by
  have := hs'.heap.fixed j (Mj β h i) (by simp [inC, hi])
  rw [hhy] at this
  exact this
 have hk : ρ.length <= hy.length := by
  rcases Nat.lt_or_ge hy.length ρ.length with h1 | h1
  ·have := (hfix (j := hy.length) (i := ρ[hy.length]) (by simp [h1])).1
   omega
  ·exact h1
 have zPn : ∀ i ∈ ρ, ∀ o, h[i]? = some o -> o.wr = true := fun i hi o ho => by
  obtain ⟨n, hn⟩ := List.getElem?_of_mem hi
  have := hwr n ((Fg h i).ren ρ h) (by simp [inH, hn])
  rw [Ob.Zk, mM ho] at this
  exact this
 have hrow : ∀ {j i : Nat} {o : Ob}, ρ[j]? = some i -> h[i]? = some o -> sH o = false -> ∃ oy, hy[j]? = some oy ∧ sH oy = false := fun {j i o} hi ho hb => by
  cases o with
  | box e ls => cases hb
  | arr e t u rows wr =>
   obtain ⟨e', t', hrw⟩ := Cr (j := j) (e := e) (t := t) (u := 0) (rows := rows) (wr := wr) Jo (by simp [inH, hi, mM ho, Ob.ren])
   obtain ⟨rows', hr'⟩ := Jm (A := Unit) (x := (Bt so.rs (List.replicate so.n .bB) y).2) hrw
   exact ⟨_, by rw [<- hhy]; exact hr', rfl⟩
 have zAb := hs'.heap.obj
 rw [hhy] at zAb
 have zIg : ∀ j, hy.length <= j -> (β' j).live = false := fun j hj => hs'.heap.dead j (by rw [hhy]; exact hj)
 have zM := hs'.heap.fresh
 rw [hhy] at zM
 have zDw := hs'.heap.apart
 rw [hhy] at zDw
 have zMo : ∀ {j i : Nat} {o : Ob}, ρ[j]? = some i -> h[i]? = some o -> sH o = true -> (β' j).box = true ∧ (β' j).blk = (β i).blk ∧ (β i).box = true ∧ (β i).live = true ∧ (β' j).live = true := fun {j i o} hi ho hb => by
  have hob := hs.obj i o ho
  obtain ⟨hj, hfx⟩ := hfix hi
  cases o with
  | arr => cases hb
  | box e ls =>
   simp only [Ob.Rel] at hob
   obtain ⟨k1, k2, b, cs, k3, _⟩ := hob
   have hfo : Mj β h i = some b := by simp only [Mj, mM ho, sH, k3]
   obtain ⟨g1, g2⟩ := hfx b hfo
   exact ⟨g2, by rw [g1, k3], k2, k1, (zAb j hy[j] (by simp [hj])).live⟩
 have zFp : ∀ {j i : Nat} {o : Ob}, ρ[j]? = some i -> h[i]? = some o -> sH o = true -> lS β β' ρ h i = β i := fun hi ho hb => by
  simp only [lS, zDp hnd hi, mM ho, hb]
 have zFq : ∀ {j i : Nat} {o : Ob}, ρ[j]? = some i -> h[i]? = some o -> sH o = false -> lS β β' ρ h i = { β' j with ver := (β' j).ver + oU ρ h j } := fun hi ho hb => by
  simp only [lS, zDp hnd hi, mM ho, hb]
 have zFr : ∀ {i : Nat}, pos i ρ 0 = none -> i < h.length -> lS β β' ρ h i = β i := fun hp hi => by
  simp only [lS, hp, if_pos hi]
 have zMp : ∀ {i : Nat}, h.length <= i -> pos i ρ 0 = none := fun {i} hi => by
  cases hp : pos i ρ 0 with
  | none => rfl
  | some j =>
   obtain ⟨m, _, hm⟩ := sW hp
   have := hlt i (List.mem_of_getElem? hm)
   omega
 have zFs : ∀ {j : Nat}, ρ.length <= j -> lS β β' ρ h (h.length + (j - ρ.length)) = β' j := fun {j} hj => by
  simp only [lS, zMp (Nat.le_add_right _ _)]
  rw [if_neg (by omega)]
  congr 1
  omega
 have eF : ∀ {j i : Nat}, ρ[j]? = some i -> oQ ρ h.length j = i := fun hi => by simp only [oQ, hi]
 have eF2 : ∀ {j : Nat}, ρ.length <= j -> oQ ρ h.length j = h.length + (j - ρ.length) := fun hj => by simp only [oQ, List.getElem?_eq_none hj]
 have eU2 : ∀ {j : Nat}, ρ.length <= j -> oU ρ h j = 0 := fun hj => by simp only [oU, List.getElem?_eq_none hj]
 have hpl : ∀ j, (β' j).live = true -> Jk (β' j) (lS β β' ρ h (oQ ρ h.length j)) (oU ρ h j) := fun j hl => by
  have hj : j < hy.length := by
   rcases Nat.lt_or_ge j hy.length with h1 | h1
   ·exact h1
   ·rw [zIg j h1] at hl; cases hl
  cases hi : ρ[j]? with
  | some i =>
   rw [eF hi]
   obtain ⟨o, ho⟩ := hget i (List.mem_of_getElem? hi)
   cases hb : sH o with
   | true =>
    obtain ⟨g1, g2, g3, g4, g5⟩ := zMo hi ho hb
    rw [zFp hi ho hb]
    exact ⟨by rw [g4, hl], by rw [g3, g1], g2.symm, fun h => by rw [g1] at h; cases h⟩
   | false =>
    rw [zFq hi ho hb]
    exact ⟨rfl, rfl, rfl, fun _ => ⟨rfl, rfl, rfl, rfl⟩⟩
  | none =>
   have hge : ρ.length <= j := List.getElem?_eq_none_iff.1 hi
   rw [eF2 hge, zFs hge, eU2 hge]
   exact ⟨rfl, rfl, rfl, fun _ => ⟨rfl, rfl, rfl, rfl⟩⟩
 have hown : ∀ {b : Nat}, (inC C β h w ρ hs).Eu b -> ∃ (i : Nat) (o : Ob), i ∈ ρ ∧ h[i]? = some o ∧ o.wr = true ∧ (β i).blk = some b := fun {b} hb => by
  obtain ⟨i, o, h1, h2, h3⟩ := hb
  exact ⟨i, o, h1, h2, zPn i h1 o h2, h3⟩
 have hkeep : Keep (C.N β h) w w' := ⟨hs'.heap.size, fun b hb hn => hs'.heap.frame b hb fun ho => by
  obtain ⟨i, o, _, h2, h3, h4⟩ := hown ho
  exact hn (.inr ⟨i, o, h2, h3, h4⟩)⟩
 have zAc : Moves β (lS β β' ρ h) := fun id hl => by
  have hid : id < h.length := by
   rcases Nat.lt_or_ge id h.length with h1 | h1
   ·exact h1
   ·rw [hs.dead id h1] at hl; cases hl
  cases hp : pos id ρ 0 with
  | none => exact .inl (zFr hp hid)
  | some j =>
   obtain ⟨m, hm, hi⟩ := sW hp
   rw [Nat.zero_add] at hm
   subst hm
   obtain ⟨o, ho⟩ := hget id (List.mem_of_getElem? hi)
   cases hb : sH o with
   | true => exact .inl (zFp hi ho hb)
   | false =>
    obtain ⟨oy, hoy, hby⟩ := hrow hi ho hb
    have hY := zAb j oy hoy
    have hO := hs.obj id o ho
    rw [zFq hi ho hb]
    cases o with
    | box => cases hb
    | arr e t u rows wr =>
     cases oy with
     | box => cases hby
     | arr e' t' u' rows' wr' =>
      simp only [Ob.Rel] at hY hO
      refine .inr ⟨hO.2.1, hY.1, hY.2.1, ?_⟩
      simp only [oU, hi, ho]
      have := hO.2.2.1
      omega
 have hbl : ∀ {b : Nat}, b < w.heap.size -> w.heap.size <= b ∨ (inC C β h w ρ hs).Eu b -> C.N β h b := fun {b} hb ho => by
  rcases ho with ho | ho
  ·omega
  ·obtain ⟨i, o, _, h2, h3, h4⟩ := hown ho
   exact .inr ⟨i, o, h2, h3, h4⟩
 have zMq : ∀ b, b < w.heap.size -> C.N (lS β β' ρ h) (iA ρ h hy) b -> C.N β h b := fun b hb hn => by
  rcases hn with hn | ⟨id, o, ho, hw, hbk⟩
  ·exact .inl hn
  ·rcases Ct hk ho with ⟨hid, hp, ho⟩ | ⟨j, ob, oy, hid, hi, hp, hob, hoy, rfl⟩ | ⟨j, oy, hj, rfl, hoy, rfl⟩
   ·rw [zFr hp hid] at hbk
    exact .inr ⟨id, o, ho, hw, hbk⟩
   ·cases hb2 : sH ob with
    | true =>
     rw [zFp hi hob hb2] at hbk
     exact .inr ⟨id, ob, hob, zPn id (List.mem_of_getElem? hi) ob hob, hbk⟩
    | false =>
     rw [zFq hi hob hb2] at hbk
     exact hbl hb (zM j oy b hoy hbk).2.2
   ·rw [zFs hj] at hbk
    exact hbl hb (zM j oy b hoy hbk).2.2
 have zMr : ∀ b, b < w'.heap.size -> C.N (lS β β' ρ h) (iA ρ h hy) b -> (inC C β h w ρ hs).N β' (so.enc y).h b := fun b _ hn => by
  rw [hhy]
  rcases hn with hn | ⟨id, o, ho, hw, hbk⟩
  ·exact .inl ⟨.inl hn, fun i hi hbk => by
    obtain ⟨o, ho⟩ := hget i hi
    exact (hs.fresh i o b ho hbk).1 hn⟩
  ·rcases Ct hk ho with ⟨hid, hp, ho⟩ | ⟨j, ob, oy, hid, hi, hp, hob, hoy, rfl⟩ | ⟨j, oy, hj, rfl, hoy, rfl⟩
   ·rw [zFr hp hid] at hbk
    refine .inl ⟨.inr ⟨id, o, ho, hw, hbk⟩, fun i hi hbi => ?_⟩
    obtain ⟨oi, hoi⟩ := hget i hi
    have := hs.apart id i o oi b ho hoi hbk hbi
    subst this
    exact zY hp hi
   ·rw [Ob.zDu] at hw
    cases hb2 : sH ob with
    | true =>
     rw [zFp hi hob hb2] at hbk
     exact .inr ⟨j, oy, hoy, hw, by rw [(zMo hi hob hb2).2.1]; exact hbk⟩
    | false =>
     rw [zFq hi hob hb2] at hbk
     exact .inr ⟨j, oy, hoy, hw, hbk⟩
   ·rw [Ob.zDu] at hw
    rw [zFs hj] at hbk
    exact .inr ⟨j, oy, hoy, hw, hbk⟩
 have Ur : ∀ {id : Nat} {o : Ob} {b : Nat}, pos id ρ 0 = none -> h[id]? = some o -> (β id).blk = some b -> b < w.heap.size ∧ ¬ (inC C β h w ρ hs).Eu b := fun {id o b} hp ho hb => by
  refine ⟨(hs.fresh id o b ho hb).2.1, fun hw => ?_⟩
  obtain ⟨i, oi, h1, h2, _, h4⟩ := hown hw
  have := hs.apart id i o oi b ho h2 hb h4
  subst this
  exact zY hp h1
 have hcls : ∀ {id : Nat} {o : Ob}, (iA ρ h hy)[id]? = some o -> (pos id ρ 0 = none ∧ h[id]? = some o ∧ lS β β' ρ h id = β id) ∨ ∃ j oy, hy[j]? = some oy ∧ id = oQ ρ h.length j ∧ o = oy.back (oQ ρ h.length) (oU ρ h) j ∧ (lS β β' ρ h id).blk = (β' j).blk := fun {id o} ho => by
  rcases Ct hk ho with ⟨hid, hp, ho⟩ | ⟨j, ob, oy, hid, hi, hp, hob, hoy, rfl⟩ | ⟨j, oy, hj, rfl, hoy, rfl⟩
  ·exact .inl ⟨hp, ho, zFr hp hid⟩
  ·exact .inr ⟨j, oy, hoy, (eF hi).symm, rfl, by have := (hpl j (zAb j oy hoy).live).blk; rwa [eF hi] at this⟩
  ·exact .inr ⟨j, oy, hoy, (eF2 hj).symm, rfl, by rw [zFs hj]⟩
 have hHS : eO C (lS β β' ρ h) (iA ρ h hy) w' := by
  refine ⟨?_, ?_, ?_, ?_, hs.n0, ?_, Nat.le_trans hs.size hs'.heap.size, hs'.heap.os.trans hs.os, hs'.heap.tape.trans hs.tape, hs'.heap.output.trans hs.output, ?_⟩
  ·intro id o ho
   rcases hcls ho with ⟨hp, ho, eb⟩ | ⟨j, oy, hoy, rfl, rfl, _⟩
   ·rw [eb]
    exact (hs.obj id o ho).mono zAc hkeep zMq fun b hb => hs'.heap.frame b (Ur hp ho hb).1 (Ur hp ho hb).2
   ·have hY := zAb j oy hoy
    rw [<- hhy] at hY
    exact Ob.Rel.back (f := oQ ρ h.length) (v := oU ρ h) hpl zMr hY
  ·intro id hid
   rw [Dy] at hid
   have hp := zMp (i := id) (by omega)
   simp only [lS, hp]
   rw [if_neg (by omega)]
   exact zIg _ (by omega)
  ·intro i j o1 o2 b h1 h2 hb1 hb2
   rcases hcls h1 with ⟨hp1, ho1, eb1⟩ | ⟨j1, oy1, zPo, rfl, rfl, eb1⟩ <;> rcases hcls h2 with ⟨hp2, ho2, eb2⟩ | ⟨j2, oy2, zPp, rfl, rfl, eb2⟩ <;> rw [eb1] at hb1 <;> rw [eb2] at hb2
   ·exact hs.apart i j o1 o2 b ho1 ho2 hb1 hb2
   ·exfalso
    obtain ⟨g1, g2⟩ := Ur hp1 ho1 hb1
    rcases (zM j2 oy2 b zPp hb2).2.2 with h3 | h3
    ·have h3 : w.heap.size <= b := h3
     omega
    ·exact g2 h3
   ·exfalso
    obtain ⟨g1, g2⟩ := Ur hp2 ho2 hb2
    rcases (zM j1 oy1 b zPo hb1).2.2 with h3 | h3
    ·have h3 : w.heap.size <= b := h3
     omega
    ·exact g2 h3
   ·rw [zDw j1 j2 oy1 oy2 b zPo zPp hb1 hb2]
  ·intro id o b ho hb
   rcases hcls ho with ⟨hp, ho, eb⟩ | ⟨j, oy, hoy, rfl, rfl, eb⟩ <;> rw [eb] at hb
   ·obtain ⟨k1, k2, k3⟩ := hs.fresh id o b ho hb
    exact ⟨k1, Nat.lt_of_lt_of_le k2 hs'.heap.size, k3⟩
   ·obtain ⟨k1, k2, k3⟩ := zM j oy b hoy hb
    rcases k3 with k3 | k3
    ·have k3 : w.heap.size <= b := k3
     have h0 := hs.size
     exact ⟨fun hn => by have := hs.n0 b hn; omega, k2, .inl (by omega)⟩
    ·obtain ⟨i, oi, h1, h2, _, h4⟩ := hown k3
     obtain ⟨g1, g2, g3⟩ := hs.fresh i oi b h2 h4
     exact ⟨g1, k2, g3⟩
  ·intro b hb hn
   have hlt2 := Nat.lt_of_lt_of_le hb hs.size
   rw [hs'.heap.frame b hlt2 (fun ho => ?_)]
   ·exact hs.frame b hb hn
   ·obtain ⟨i, oi, h1, h2, _, h4⟩ := hown ho
    rcases (hs.fresh i oi b h2 h4).2.2 with h5 | h5
    ·omega
    ·exact hn h5
  ·intro j o hj
   obtain ⟨k1, k2⟩ := hs.fixed j o hj
   refine ⟨by rw [Dy]; omega, fun b hb => ?_⟩
   obtain ⟨k3, k4⟩ := k2 b hb
   have hoj : h[j]? = some h[j] := by simp [k1]
   rcases zAc j (hs.obj j _ hoj).live with e | ⟨e, _⟩
   ·rw [e]; exact ⟨k3, k4⟩
   ·rw [k4] at e; cases e
 refine ⟨lS β β' ρ h, zAc, hkeep, zMq, hHS, ?_⟩
 refine zDv (by have := hs'.size; simpa using this) fun i v u hv hu => ?_
 simp only [List.getElem?_map, Option.map_eq_some_iff] at hv
 obtain ⟨v0, hv0, rfl⟩ := hv
 have hr := hs'.reg i v0 hv0
 have e : (us.toArray).getD i undef = u := by
  rw [Array.getD_eq_getD_getElem?]
  simp [hu]
 simp only [e] at hr
 exact hr.back (f := oQ ρ h.length) (v := oU ρ h) hpl zMr
theorem dJ (hM : jA P f si so F) : (peM si so F).OK P f := by
 refine ⟨hM.1, fun vs h y hr C β w xs hP hs ha => ?_, fun h => (by cases h), fun h => (by cases h)⟩
 subst hP
 simp only [peM] at hr
 split at hr
 case h_2 => cases hr
 rename_i x hx
 simp only [Option.some.injEq, Prod.mk.injEq] at hr
 obtain ⟨hok, hF⟩ := hr
 obtain ⟨hnd, hlt, hlen, hwr, Jo⟩ := Nt hok
 have Zv := Uu hx (zIf hs ha hnd hlt)
 refine (hM.2 x y hF (inC C β h w _ hs) _ w xs rfl (by simp [inC, hlen]) Zv).mono ?_
 rintro e w' ⟨us, β', rfl, hs'⟩
 obtain ⟨β2, h1, h2, h3, h4, h5⟩ := Pk hs hnd hlt hwr Jo hs'
 exact ⟨_, _, β2, ⟨rfl, rfl⟩, h1, h2, h3, h4, _, rfl, zAa h5⟩
def dV (P : Program) (f : FuncId) (si so : Sh) (tp : TypeId) (sp : Sh) (F : si.X -> Option (Sum so.X sp.X)) : Prop :=
 gF P f = true ∧ ∀ x y, F x = some y -> ∀ (C : Ctx) (β : Nat -> Pl) (w : World) (xs : List Value), C.P = P -> C.fix.length <= si.os.length -> Sim C β (si.enc x) { tmps := xs.toArray, defers := [] } w ->
  Calls P f xs.toArray w fun e w' => (∃ (z : so.X) (us : List Value) (β' : Nat -> Pl), y = .inl z ∧ e = .returned (lQ us) ∧ Sim C β' (so.enc z) { tmps := us.toArray, defers := [] } w') ∨
   ∃ (z : sp.X) (u : Value) (β' : Nat -> Pl), y = .inr z ∧ e = .panicked [{ v := .iface tp u, recovered := false }] ∧ Sim C β' (sp.enc z) { tmps := #[u], defers := [] } w'
def zSi (vs : List V) : V :=
 match vs with
 | [v] => v
 | _ => .bB
def ob2 {α γ ρ : Type} (o : Option (Sum α γ)) (k : α -> Option ρ) (k' : γ -> Option ρ) : Option ρ :=
 match o with
 | some (.inl x) => k x
 | some (.inr x) => k' x
 | none => none
theorem Nu {ρ : List Nat} {h hy : List Ob} {id : Nat} (hid : id < h.length) (hn : id ∉ ρ) : (iA ρ h hy)[id]? = h[id]? := by
 unfold iA
 have hl : ∀ {g : Nat -> Option Ob} {h : List Ob} {n : Nat}, (Gb g n h).length = h.length := by
  intro g h
  induction h with
  | nil => intro n; rfl
  | cons o r ih => intro n; simp [Gb, ih]
 rw [List.getElem?_append_left (by rw [hl]; exact hid), Pj, List.getElem?_eq_getElem hid]
 have hp : pos id ρ 0 = none := by
  cases hp : pos id ρ 0 with
  | none => rfl
  | some j =>
   obtain ⟨m, _, hm⟩ := sW hp
   exact absurd (List.mem_of_getElem? hm) hn
 simp only [Nat.zero_add, hp, Option.map_some]
def zKv {ρ : Type} (si so : Sh) (tp : TypeId) (sp : Sh) (F : si.X -> Option (Sum so.X sp.X)) (vs : List V) (h : List Ob) (k : Out -> List Ob -> Option ρ) : Option ρ :=
 match si.dec ⟨vs.map (V.ren (reach vs h) h), inH (reach vs h) h⟩ with
 | some x => chk (Rm (reach vs h) h si so && vU (inH (reach vs h) h) sp.os) (ob2 (F x)
   (fun y => k (.ret (zFo ((so.enc y).r.map (V.back (oQ (reach vs h) h.length) (oU (reach vs h) h))))) (iA (reach vs h) h (so.enc y).h))
   (fun z => k (.pan tp (zSi ((sp.enc z).r.map (V.back (oQ (reach vs h) h.length) (oU (reach vs h) h))))) (iA (reach vs h) h (sp.enc z).h)))
 | none => none
theorem zNt {ρ : Type} {tp : TypeId} {sp : Sh} {F : si.X -> Option (Sum so.X sp.X)} (hM : dV P f si so tp sp F) {vs : List V} {h : List Ob} {k : Out -> List Ob -> Option ρ} {r : ρ} (hr : zKv si so tp sp F vs h k = some r) :
  gF P f = true ∧ yK P f vs h fun out h' => k out h' = some r ∧ ∀ id, id < h.length -> id ∉ reach vs h -> h'[id]? = h[id]? := by
 refine ⟨hM.1, fun C β w xs hP hs ha => ?_⟩
 subst hP
 unfold zKv at hr
 split at hr
 case h_2 => cases hr
 rename_i x hx
 obtain ⟨hok, hF⟩ := gQ hr
 simp only [Bool.and_eq_true] at hok
 obtain ⟨hnd, hlt, hlen, hwr, Jo⟩ := Nt hok.1
 have Zv := Uu hx (zIf hs ha hnd hlt)
 cases hy : F x with
 | none => rw [hy] at hF; cases hF
 | some y =>
  rw [hy] at hF
  refine (hM.2 x y hy (inC C β h w _ hs) _ w xs rfl (by simp [inC, hlen]) Zv).mono ?_
  rintro e w' (⟨z, us, β', rfl, rfl, hs'⟩ | ⟨z, u, β', rfl, rfl, hs'⟩)
  ·obtain ⟨β2, h1, h2, h3, h4, h5⟩ := Pk hs hnd hlt hwr Jo hs'
   exact ⟨_, _, β2, ⟨hF, fun id hid hn => Nu hid hn⟩, h1, h2, h3, h4, _, rfl, zAa h5⟩
  ·obtain ⟨β2, h1, h2, h3, h4, h5⟩ := Pk (us := [u]) hs hnd hlt hwr hok.2 hs'
   refine ⟨_, _, β2, ⟨hF, fun id hid hn => Nu hid hn⟩, h1, h2, h3, h4, u, rfl, ?_⟩
   cases hv : (sp.enc z).r.map (V.back (oQ (reach vs h) h.length) (oU (reach vs h) h)) with
   | nil => rw [hv] at h5; exact h5.elim
   | cons v l =>
    rw [hv] at h5
    cases l with
    | nil => exact h5.1
    | cons v2 l => exact h5.2.elim
end
end Go.Dec
