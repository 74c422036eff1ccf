/- Part of a proof over this seat: a library of my own, and what it says of this seat. No statement is proved here. -/
import Derived.Test.YtlimifngdjkogaaGreatDoorPartAL
import Derived.WalkKit
import Derived.OwnWalkIn
import Derived.TacticsInMore
import Derived.Lib.SliceRun
namespace Go.Dec
section
variable {P : Program} {f : FuncId} {si so : Sh} {F : si.X -> Option so.X}
theorem Ta {ρ : List Nat} {h : List Ob} (hc : Pm ρ h si so = true) : nodupB ρ = true ∧ (∀ i ∈ ρ, i < h.length) ∧ ρ.length = si.os.length ∧ (∀ (j : Nat) (o : Ob), (inH ρ h)[j]? = some o -> o.wr = true) ∧ oC (inH ρ h) so.os = true := by
 simp only [Pm, Bool.and_eq_true] at hc
 obtain ⟨h1, h2, h3, h4, h5⟩ := hc
 refine ⟨h1, fun i hi => ?_, Nat.eq_of_beq_eq_true h3, fun j o ho => kE h4 j o ho, h5⟩
 obtain ⟨n, hn⟩ := List.getElem?_of_mem hi
 exact Nat.le_of_ble_eq_true (kE h2 n i hn)
def lK : Ob -> Bool
 | .box .. => true
 | .arr .. => false
 | .fm _ => true
def tZ (β : Nat -> Pl) (h : List Ob) (i : Nat) : Option Nat := match lK (wG h i) with | true => (β i).blk | false => none
def inC (C : Ctx) (β : Nat -> Pl) (h : List Ob) (w : World) (ρ : List Nat) (hs : bB C β h w) : Ctx where
 P := C.P
 N0 b j := C.N β h b j ∧ ∀ i ∈ ρ, ∀ o, h[i]? = some o -> ¬ o.blks (β i) b
 w0 := w
 rR b j := ∃ (i : Nat) (o : Ob), i ∈ ρ ∧ h[i]? = some o ∧ o.wr = true ∧ o.at (β i) b j
 glob w' hw := C.glob w' (hs.frame.pO hw fun b j hb hm => by
  obtain ⟨i, o, _, ho, hwo, hbk⟩ := hm
  rcases (hs.dG i o b ho ⟨j, hbk⟩).2.2 with h1 | h1
  ·omega
  ·exact h1 j hwo hbk)
 fix := ρ.map (tZ β h)
theorem zGz {C : Ctx} {β : Nat -> Pl} {w : World} {h : List Ob} {ρ : List Nat} {vs : List V} {xs : List Value} (hs : bB C β h w) (ha : iF β w (C.N β h) vs xs) (hnd : nodupB ρ = true) (hlt : ∀ i ∈ ρ, i < h.length) :
  Sim (inC C β h w ρ hs) (nX β ρ) ⟨vs.map (V.ren ρ h), inH ρ h⟩ { tmps := xs.toArray, defers := [] } w := by
 have Ou := Ot hs hlt
 have hget : ∀ i ∈ ρ, ∃ o, h[i]? = some o := fun i hi => ⟨h[i]'(hlt i hi), by simp [hlt i hi]⟩
 have hβ : ∀ {j i : Nat}, ρ[j]? = some i -> nX β ρ j = { β i with ver := 0 } := fun hi => by simp only [nX, hi]
 have hNw : ∀ b j, C.N β h b j -> b < w.heap.size := fun b j hb => by
  rcases hb with hb | ⟨id, o, ho, _, hbk⟩
  ·exact Nat.lt_of_lt_of_le (hs.n0 b j hb) hs.size
  ·exact (hs.dG id o b ho ⟨j, hbk⟩).2.1
 have hN : ∀ b j, b < w.heap.size -> (inC C β h w ρ hs).N (nX β ρ) (inH ρ h) b j -> C.N β h b j := fun b k _ hb => by
  rcases hb with hb | ⟨j, o, ho, hw, hbk⟩
  ·exact hb.1
  ·obtain ⟨i, hi, rfl⟩ := jS ho
   obtain ⟨o', ho'⟩ := hget i (List.mem_of_getElem? hi)
   rw [bV ho', Ob.yX] at hw
   rw [bV ho', hβ hi] at hbk
   exact .inr ⟨i, o', ho', hw, Ob.kM (Ob.jF ρ h o') rfl rfl hbk⟩
 refine ⟨⟨?_, ?_, ?_, ?_, fun b j hb => hNw b j hb.1, Keep.refl _ _, Nat.le_refl _, rfl, rfl, rfl, ?_⟩, rfl, by simpa using aG.length ha, ?_⟩
 ·intro j o ho
  obtain ⟨i, hi, rfl⟩ := jS ho
  obtain ⟨o', ho'⟩ := hget i (List.mem_of_getElem? hi)
  rw [bV ho', hβ hi]
  have hob := hs.obj i o' ho'
  cases o' with
  | box e ls =>
   simp only [Ob.ren, Ob.Rel] at *
   obtain ⟨h1, h2, b, cs, h3, h4, h5⟩ := hob
   exact ⟨h1, h2, b, cs, h3, h4.mX Ou hN, h5⟩
  | arr e t v rows wr =>
   simp only [Ob.ren, Ob.Rel] at *
   obtain ⟨h1, h2, h3, h4, h5, h6, h7⟩ := hob
   refine ⟨h1, h2, trivial, h4, h5, h6, ?_⟩
   rcases h7 with h7 | ⟨b, cur, css, k1, k2, k3, k4⟩
   ·exact .inl h7
   ·exact .inr ⟨b, cur, css, k1, k2, k3.mono fun _ _ h => h.mono (Keep.refl _ w) hN, k4⟩
  | fm tab => simp only [Ob.ren, Ob.Rel] at *; exact hob
 ·intro j hj
  simp only [inH, List.length_map] at hj
  simp only [nX, List.getElem?_eq_none hj]
 ·intro i j o1 o2 b h1 h2 hb1 hb2
  obtain ⟨i', hi, rfl⟩ := jS h1
  obtain ⟨j', hj, rfl⟩ := jS h2
  obtain ⟨o1', ho1⟩ := hget i' (List.mem_of_getElem? hi)
  obtain ⟨o2', ho2⟩ := hget j' (List.mem_of_getElem? hj)
  rw [hβ hi, bV ho1] at hb1
  rw [hβ hj, bV ho2] at hb2
  have := hs.gU i' j' o1' o2' b ho1 ho2 (Ob.eG (Ob.jF ρ h o1') rfl rfl hb1) (Ob.eG (Ob.jF ρ h o2') rfl rfl hb2)
  subst this
  exact qW hnd hi hj
 ·intro j o b ho hb
  obtain ⟨i, hi, rfl⟩ := jS ho
  obtain ⟨o', ho'⟩ := hget i (List.mem_of_getElem? hi)
  rw [bV ho', hβ hi] at hb ⊢
  have hb' := Ob.eG (o' := o') (p' := β i) (Ob.jF ρ h o') rfl rfl hb
  exact ⟨fun k hn => hn.2 i (List.mem_of_getElem? hi) o' ho' hb', (hs.dG i o' b ho' hb').2.1, .inr fun k hw hk => ⟨i, o', List.mem_of_getElem? hi, ho', by rw [Ob.yX] at hw; exact hw, Ob.kM (Ob.jF ρ h o') rfl rfl hk⟩⟩
 ·intro j o hj
  simp only [inC, List.getElem?_map, Option.map_eq_some_iff] at hj
  obtain ⟨i, hi, rfl⟩ := hj
  refine ⟨by simpa [inH] using (List.getElem?_eq_some_iff.1 hi).1, fun b hb => ?_⟩
  obtain ⟨o', ho'⟩ := hget i (List.mem_of_getElem? hi)
  have hob := hs.obj i o' ho'
  rw [hβ hi]
  unfold tZ at hb
  rw [bV ho'] at hb
  cases o' with
  | box e ls =>
   simp only [Ob.Rel] at hob
   exact ⟨hb, hob.2.1⟩
  | arr e t v rows wr => cases hb
  | fm tab =>
   simp only [Ob.Rel] at hob
   exact ⟨hb, hob.2.1⟩
 ·intro i v hv
  simp only [List.getElem?_map, Option.map_eq_some_iff] at hv
  obtain ⟨v0, hv0, rfl⟩ := hv
  have hl : i < xs.length := by rw [<- aG.length ha]; exact (List.getElem?_eq_some_iff.1 hv0).1
  have hr := ha.get i (List.getElem?_eq_some_iff.1 hv0).1 hl
  have e : vs[i]'(List.getElem?_eq_some_iff.1 hv0).1 = v0 := (List.getElem?_eq_some_iff.1 hv0).2
  rw [e] at hr
  have e2 : (xs.toArray).getD i undef = xs[i] := by simp [hl]
  simp only [e2]
  exact hr.mX Ou hN
def eU (β β' : Nat -> Pl) (ρ : List Nat) (h : List Ob) : Nat -> Pl := fun i =>
 match pos i ρ 0 with
 | some j => match lK (wG h i) with
  | true => β i
  | false => { β' j with ver := (β' j).ver + gX ρ h j }
 | none => if i < h.length then β i else β' (i - h.length + ρ.length)
theorem uM {ρ : List Nat} {h hy : List Ob} (hk : ρ.length <= hy.length) {id : Nat} {o : Ob} (ho : (iG ρ h hy)[id]? = some o) :
  (id < h.length ∧ pos id ρ 0 = none ∧ h[id]? = some o) ∨ (∃ j ob oy, id < h.length ∧ ρ[j]? = some id ∧ pos id ρ 0 = some j ∧ h[id]? = some ob ∧ hy[j]? = some oy ∧ o = oy.back (gJ ρ h.length) (gX ρ h) j) ∨
   ∃ j oy, ρ.length <= j ∧ id = h.length + (j - ρ.length) ∧ hy[j]? = some oy ∧ o = oy.back (gJ ρ h.length) (gX ρ h) j := by
 unfold iG at ho
 by_cases hid : id < h.length
 ·rw [List.getElem?_append_left (by rw [lD]; exact hid), Pn, Nat.zero_add] at ho
  obtain ⟨ob, hob⟩ : ∃ ob, h[id]? = some ob := ⟨h[id], by simp [hid]⟩
  rw [hob] at ho
  simp only [Option.map_some, Option.some.injEq] at ho
  cases hp : pos id ρ 0 with
  | none =>
   rw [hp] at ho
   simp only at ho
   exact .inl ⟨hid, rfl, by rw [hob, ho]⟩
  | some j =>
   obtain ⟨m, hm, hi⟩ := nT hp
   rw [Nat.zero_add] at hm
   subst hm
   have hj : j < hy.length := Nat.lt_of_lt_of_le (List.getElem?_eq_some_iff.1 hi).1 hk
   have hyj : hy[j]? = some hy[j] := by simp [hj]
   rw [hp] at ho
   simp only [hyj] at ho
   exact .inr (.inl ⟨j, ob, hy[j], hid, hi, rfl, hob, hyj, ho.symm⟩)
 ·rw [List.getElem?_append_right (by rw [lD]; omega), lD, zC, List.getElem?_drop] at ho
  simp only [Option.map_eq_some_iff] at ho
  obtain ⟨oy, h1, h2⟩ := ho
  exact .inr (.inr ⟨ρ.length + (id - h.length), oy, by omega, by omega, h1, h2.symm⟩)
theorem vD {ρ : List Nat} {h hy : List Ob} : (iG ρ h hy).length = h.length + (hy.length - ρ.length) := by
 simp [iG, lD, tX]
theorem zBz {C : Ctx} {β : Nat -> Pl} {h : List Ob} {w w' : World} {ρ : List Nat} (hs : bB C β h w) (hnd : nodupB ρ = true) (hlt : ∀ i ∈ ρ, i < h.length) (hwr : ∀ (j : Nat) (o : Ob), (inH ρ h)[j]? = some o -> o.wr = true) (Po : oC (inH ρ h) so.os = true)
  {y : so.X} {us : List Value} {β' : Nat -> Pl} (hs' : Sim (inC C β h w ρ hs) β' (so.enc y) { tmps := us.toArray, defers := [] } w') :
  ∃ β2, Moves β β2 ∧ Keep (C.N β h) w w' ∧ (∀ b j, b < w.heap.size -> C.N β2 (iG ρ h (so.enc y).h) b j -> C.N β h b j) ∧ bB C β2 (iG ρ h (so.enc y).h) w' ∧
   aG (fun v u => V.Rel β2 w' (C.N β2 (iG ρ h (so.enc y).h)) v u) ((so.enc y).r.map (V.back (gJ ρ h.length) (gX ρ h))) us := by
 generalize hhy : (so.enc y).h = hy at *
 have hget : ∀ i ∈ ρ, ∃ o, h[i]? = some o := fun i hi => ⟨h[i]'(hlt i hi), by simp [hlt i hi]⟩
 have hfix : ∀ {j i : Nat}, ρ[j]? = some i -> j < hy.length ∧ ∀ b, tZ β h i = some b -> (β' j).blk = some b ∧ (β' j).box = true := fun {j i} hi => by
  have := hs'.heap.fixed j (tZ β h i) (by simp [inC, hi])
  rw [hhy] at this
  exact this
 have hk : ρ.length <= hy.length := by
  rcases Nat.lt_or_ge hy.length ρ.length with h1 | h1
  ·have := (hfix (j := hy.length) (i := ρ[hy.length]) (by simp [h1])).1
   omega
  ·exact h1
 have zLg : ∀ i ∈ ρ, ∀ o, h[i]? = some o -> o.wr = true := fun i hi o ho => by
  obtain ⟨n, hn⟩ := List.getElem?_of_mem hi
  have := hwr n ((wG h i).ren ρ h) (by simp [inH, hn])
  rw [Ob.yX, bV ho] at this
  exact this
 have hrow : ∀ {j i : Nat} {o : Ob}, ρ[j]? = some i -> h[i]? = some o -> lK o = false -> ∃ oy, hy[j]? = some oy ∧ lK oy = false := fun {j i o} hi ho hb => by
  cases o with
  | box e ls => cases hb
  | fm tab => cases hb
  | arr e t u rows wr =>
   obtain ⟨e', t', hrw⟩ := oW (j := j) (e := e) (t := t) (u := 0) (rows := rows) (wr := wr) Po (by simp [inH, hi, bV ho, Ob.ren])
   obtain ⟨rows', hr'⟩ := tY (A := Unit) (x := (tN so.rs (List.replicate so.n .aP) y).2) hrw
   exact ⟨_, by rw [<- hhy]; exact hr', rfl⟩
 have Io := hs'.heap.obj
 rw [hhy] at Io
 have Zo : ∀ j, hy.length <= j -> (β' j).live = false := fun j hj => hs'.heap.dead j (by rw [hhy]; exact hj)
 have vE := hs'.heap.dG
 rw [hhy] at vE
 have Uj := hs'.heap.gU
 rw [hhy] at Uj
 have Wq : ∀ {j i : Nat} {o : Ob}, ρ[j]? = some i -> h[i]? = some o -> lK o = true -> (β' j).box = true ∧ (β' j).blk = (β i).blk ∧ (β i).box = true ∧ (β i).live = true ∧ (β' j).live = true := fun {j i o} hi ho hb => by
  have hob := hs.obj i o ho
  obtain ⟨hj, hfx⟩ := hfix hi
  cases o with
  | arr => cases hb
  | fm tab =>
   simp only [Ob.Rel] at hob
   obtain ⟨k1, k2, b, es, n, k3, _⟩ := hob
   have hfo : tZ β h i = some b := by simp only [tZ, bV ho, lK, k3]
   obtain ⟨g1, g2⟩ := hfx b hfo
   exact ⟨g2, by rw [g1, k3], k2, k1, (Io j hy[j] (by simp [hj])).live⟩
  | box e ls =>
   simp only [Ob.Rel] at hob
   obtain ⟨k1, k2, b, cs, k3, _⟩ := hob
   have hfo : tZ β h i = some b := by simp only [tZ, bV ho, lK, k3]
   obtain ⟨g1, g2⟩ := hfx b hfo
   exact ⟨g2, by rw [g1, k3], k2, k1, (Io j hy[j] (by simp [hj])).live⟩
 have zCa : ∀ {j i : Nat} {o : Ob}, ρ[j]? = some i -> h[i]? = some o -> lK o = true -> eU β β' ρ h i = β i := fun hi ho hb => by
  simp only [eU, Uc hnd hi, bV ho, hb]
 have zCb : ∀ {j i : Nat} {o : Ob}, ρ[j]? = some i -> h[i]? = some o -> lK o = false -> eU β β' ρ h i = { β' j with ver := (β' j).ver + gX ρ h j } := fun hi ho hb => by
  simp only [eU, Uc hnd hi, bV ho, hb]
 have Ws : ∀ {i : Nat}, pos i ρ 0 = none -> i < h.length -> eU β β' ρ h i = β i := fun hp hi => by
  simp only [eU, hp, if_pos hi]
 have zDv : ∀ {i : Nat}, h.length <= i -> pos i ρ 0 = none := fun {i} hi => by
  cases hp : pos i ρ 0 with
  | none => rfl
  | some j =>
   obtain ⟨m, _, hm⟩ := nT hp
   have := hlt i (List.mem_of_getElem? hm)
   omega
 have zHa : ∀ {j : Nat}, ρ.length <= j -> eU β β' ρ h (h.length + (j - ρ.length)) = β' j := fun {j} hj => by
  simp only [eU, zDv (Nat.le_add_right _ _)]
  rw [if_neg (by omega)]
  congr 1
  omega
 have eF : ∀ {j i : Nat}, ρ[j]? = some i -> gJ ρ h.length j = i := fun hi => by simp only [gJ, hi]
 have eF2 : ∀ {j : Nat}, ρ.length <= j -> gJ ρ h.length j = h.length + (j - ρ.length) := fun hj => by simp only [gJ, List.getElem?_eq_none hj]
 have eU2 : ∀ {j : Nat}, ρ.length <= j -> gX ρ h j = 0 := fun hj => by simp only [gX, List.getElem?_eq_none hj]
 have hpl : ∀ j, (β' j).live = true -> zB (β' j) (eU β β' ρ h (gJ ρ h.length j)) (gX ρ h j) := fun j hl => by
  have hj : j < hy.length := by
   rcases Nat.lt_or_ge j hy.length with h1 | h1
   ·exact h1
   ·rw [Zo j h1] at hl; cases hl
  cases hi : ρ[j]? with
  | some i =>
   rw [eF hi]
   obtain ⟨o, ho⟩ := hget i (List.mem_of_getElem? hi)
   cases hb : lK o with
   | true =>
    obtain ⟨g1, g2, g3, g4, g5⟩ := Wq hi ho hb
    rw [zCa hi ho hb]
    exact ⟨by rw [g4, hl], by rw [g3, g1], g2.symm, fun h => by rw [g1] at h; cases h⟩
   | false =>
    rw [zCb hi ho hb]
    exact ⟨rfl, rfl, rfl, fun _ => ⟨rfl, rfl, rfl, rfl⟩⟩
  | none =>
   have hge : ρ.length <= j := List.getElem?_eq_none_iff.1 hi
   rw [eF2 hge, zHa hge, eU2 hge]
   exact ⟨rfl, rfl, rfl, fun _ => ⟨rfl, rfl, rfl, rfl⟩⟩
 have hown : ∀ {b k : Nat}, (inC C β h w ρ hs).rR b k -> ∃ (i : Nat) (o : Ob), i ∈ ρ ∧ h[i]? = some o ∧ o.wr = true ∧ o.at (β i) b k := fun {b k} hb => hb
 have hkeep : Keep (C.N β h) w w' := hs'.heap.frame.weaken fun k j ho => by
  obtain ⟨i, o, _, h2, h3, h4⟩ := hown ho
  exact .inr ⟨i, o, h2, h3, h4⟩
 have hat : ∀ {id j : Nat} {ob oy : Ob}, ρ[j]? = some id -> h[id]? = some ob -> hy[j]? = some oy -> ∀ b k, (oy.back (gJ ρ h.length) (gX ρ h) j).at (eU β β' ρ h id) b k -> oy.at (β' j) b k := fun {id j ob oy} hi hob hoy b k hbk => by
  cases hb2 : lK ob with
  | true =>
   have hp : oy.gF = false := (Io j oy hoy).zAs (Wq hi hob hb2).1
   rw [zCa hi hob hb2] at hbk
   have := Ob.Bz (by simp [Ob.plain, Ob.zD, hp]) hbk
   exact Ob.iT (by rw [(Wq hi hob hb2).2.1]; exact this)
  | false =>
   rw [zCb hi hob hb2] at hbk
   exact Ob.kM (Ob.zD oy) rfl rfl hbk
 have zCc : ∀ {j : Nat} {oy : Ob}, ρ.length <= j -> ∀ b k, (oy.back (gJ ρ h.length) (gX ρ h) j).at (eU β β' ρ h (h.length + (j - ρ.length))) b k -> oy.at (β' j) b k := fun {j oy} hj b k hbk => by
  rw [zHa hj] at hbk
  exact Ob.kM (Ob.zD oy) rfl rfl hbk
 have Pp : Moves β (eU β β' ρ h) := fun id hl => by
  have hid : id < h.length := by
   rcases Nat.lt_or_ge id h.length with h1 | h1
   ·exact h1
   ·rw [hs.dead id h1] at hl; cases hl
  cases hp : pos id ρ 0 with
  | none => exact .inl (Ws hp hid)
  | some j =>
   obtain ⟨m, hm, hi⟩ := nT hp
   rw [Nat.zero_add] at hm
   subst hm
   obtain ⟨o, ho⟩ := hget id (List.mem_of_getElem? hi)
   cases hb : lK o with
   | true => exact .inl (zCa hi ho hb)
   | false =>
    obtain ⟨oy, hoy, hby⟩ := hrow hi ho hb
    have hY := Io j oy hoy
    have hO := hs.obj id o ho
    rw [zCb hi ho hb]
    cases o with
    | box => cases hb
    | fm => cases hb
    | arr e t u rows wr =>
     cases oy with
     | box => cases hby
     | fm => cases hby
     | arr e' t' u' rows' wr' =>
      simp only [Ob.Rel] at hY hO
      refine .inr ⟨hO.2.1, hY.1, hY.2.1, ?_⟩
      simp only [gX, hi, ho]
      have := hO.2.2.1
      omega
 have hbl : ∀ {b k : Nat}, b < w.heap.size -> w.heap.size <= b ∨ (inC C β h w ρ hs).rR b k -> C.N β h b k := fun {b k} hb ho => by
  rcases ho with ho | ho
  ·omega
  ·obtain ⟨i, o, _, h2, h3, h4⟩ := hown ho
   exact .inr ⟨i, o, h2, h3, h4⟩
 have zDw : ∀ b j, b < w.heap.size -> C.N (eU β β' ρ h) (iG ρ h hy) b j -> C.N β h b j := fun b k hb hn => by
  rcases hn with hn | ⟨id, o, ho, hw, hbk⟩
  ·exact .inl hn
  ·rcases uM hk ho with ⟨hid, hp, ho⟩ | ⟨j, ob, oy, hid, hi, hp, hob, hoy, rfl⟩ | ⟨j, oy, hj, rfl, hoy, rfl⟩
   ·rw [Ws hp hid] at hbk
    exact .inr ⟨id, o, ho, hw, hbk⟩
   ·rw [Ob.oD] at hw
    have hbk := hat hi hob hoy b k hbk
    exact hbl hb ((vE j oy b hoy ⟨k, hbk⟩).2.2.imp (fun h => h) fun h => h k hw hbk)
   ·rw [Ob.oD] at hw
    have hbk := zCc hj b k hbk
    exact hbl hb ((vE j oy b hoy ⟨k, hbk⟩).2.2.imp (fun h => h) fun h => h k hw hbk)
 have zDx : ∀ b j, b < w'.heap.size -> C.N (eU β β' ρ h) (iG ρ h hy) b j -> (inC C β h w ρ hs).N β' (so.enc y).h b j := fun b k _ hn => by
  rw [hhy]
  rcases hn with hn | ⟨id, o, ho, hw, hbk⟩
  ·exact .inl ⟨.inl hn, fun i hi o ho hbk => (hs.dG i o b ho hbk).1 k hn⟩
  ·rcases uM hk ho with ⟨hid, hp, ho⟩ | ⟨j, ob, oy, hid, hi, hp, hob, hoy, rfl⟩ | ⟨j, oy, hj, rfl, hoy, rfl⟩
   ·rw [Ws hp hid] at hbk
    refine .inl ⟨.inr ⟨id, o, ho, hw, hbk⟩, fun i hi oi hoi hbi => ?_⟩
    have := hs.gU id i o oi b ho hoi ⟨k, hbk⟩ hbi
    subst this
    exact sI hp hi
   ·rw [Ob.oD] at hw
    exact .inr ⟨j, oy, hoy, hw, hat hi hob hoy b k hbk⟩
   ·rw [Ob.oD] at hw
    exact .inr ⟨j, oy, hoy, hw, zCc hj b k hbk⟩
 have Ih : ∀ {id : Nat} {o : Ob} {b : Nat}, pos id ρ 0 = none -> h[id]? = some o -> o.blks (β id) b -> b < w.heap.size ∧ ∀ k, ¬ (inC C β h w ρ hs).rR b k := fun {id o b} hp ho hb => by
  refine ⟨(hs.dG id o b ho hb).2.1, fun k hw => ?_⟩
  obtain ⟨i, oi, h1, h2, _, h4⟩ := hown hw
  have := hs.gU id i o oi b ho h2 hb ⟨k, h4⟩
  subst this
  exact sI hp h1
 have hcls : ∀ {id : Nat} {o : Ob}, (iG ρ h hy)[id]? = some o -> (pos id ρ 0 = none ∧ h[id]? = some o ∧ eU β β' ρ h id = β id) ∨ ∃ j oy, hy[j]? = some oy ∧ id = gJ ρ h.length j ∧ o = oy.back (gJ ρ h.length) (gX ρ h) j ∧ ∀ b k, o.at (eU β β' ρ h id) b k -> oy.at (β' j) b k := fun {id o} ho => by
  rcases uM hk ho with ⟨hid, hp, ho⟩ | ⟨j, ob, oy, hid, hi, hp, hob, hoy, rfl⟩ | ⟨j, oy, hj, rfl, hoy, rfl⟩
  ·exact .inl ⟨hp, ho, Ws hp hid⟩
  ·exact .inr ⟨j, oy, hoy, (eF hi).symm, rfl, hat hi hob hoy⟩
  ·exact .inr ⟨j, oy, hoy, (eF2 hj).symm, rfl, zCc hj⟩
 have zHb : ∀ {j : Nat} {oy : Ob}, hy[j]? = some oy -> (oy.back (gJ ρ h.length) (gX ρ h) j).wr = true := fun {j oy} hoy => by
  rw [Ob.oD, <- hhy] at *
  exact wO hoy
 have zHc : ∀ {j id : Nat} {oy : Ob} {b : Nat}, hy[j]? = some oy -> (∀ b k, (oy.back (gJ ρ h.length) (gX ρ h) j).at (eU β β' ρ h id) b k -> oy.at (β' j) b k) -> (oy.back (gJ ρ h.length) (gX ρ h) j).blks (eU β β' ρ h id) b -> b < w.heap.size -> (∀ k, ¬ (inC C β h w ρ hs).rR b k) -> False := fun {j id oy b} hoy eb hb g1 g2 => by
  obtain ⟨q, hb⟩ := hb
  rcases (vE j oy b hoy ⟨q, eb b q hb⟩).2.2 with h3 | h3
  ·have h3 : w.heap.size <= b := h3
   omega
  ·have hw := zHb hoy
   rw [Ob.oD] at hw
   exact g2 q (h3 q hw (eb b q hb))
 have hHS : bB C (eU β β' ρ h) (iG ρ h hy) w' := by
  refine ⟨?_, ?_, ?_, ?_, hs.n0, ?_, Nat.le_trans hs.size hs'.heap.size, hs'.heap.os.trans hs.os, hs'.heap.tape.trans hs.tape, hs'.heap.output.trans hs.output, ?_⟩
  ·intro id o ho
   rcases hcls ho with ⟨hp, ho, eb⟩ | ⟨j, oy, hoy, rfl, rfl, _⟩
   ·rw [eb]
    exact (hs.obj id o ho).mono Pp hkeep zDw fun b hb => hs'.heap.frame.block b (Ih hp ho hb).1 (Ih hp ho hb).2
   ·have hY := Io j oy hoy
    rw [<- hhy] at hY
    exact Ob.Rel.back (f := gJ ρ h.length) (v := gX ρ h) hpl zDx hY
  ·intro id hid
   rw [vD] at hid
   have hp := zDv (i := id) (by omega)
   simp only [eU, hp]
   rw [if_neg (by omega)]
   exact Zo _ (by omega)
  ·intro i j o1 o2 b h1 h2 hb1 hb2
   rcases hcls h1 with ⟨hp1, ho1, eb1⟩ | ⟨j1, oy1, zHd, rfl, rfl, eb1⟩ <;> rcases hcls h2 with ⟨hp2, ho2, eb2⟩ | ⟨j2, oy2, zHe, rfl, rfl, eb2⟩
   ·rw [eb1] at hb1
    rw [eb2] at hb2
    exact hs.gU i j o1 o2 b ho1 ho2 hb1 hb2
   ·exfalso
    rw [eb1] at hb1
    obtain ⟨g1, g2⟩ := Ih hp1 ho1 hb1
    exact zHc zHe eb2 hb2 g1 g2
   ·exfalso
    rw [eb2] at hb2
    obtain ⟨g1, g2⟩ := Ih hp2 ho2 hb2
    exact zHc zHd eb1 hb1 g1 g2
   ·obtain ⟨q1, hb1⟩ := hb1
    obtain ⟨q2, hb2⟩ := hb2
    rw [Uj j1 j2 oy1 oy2 b zHd zHe ⟨q1, eb1 b q1 hb1⟩ ⟨q2, eb2 b q2 hb2⟩]
  ·intro id o b ho hb
   rcases hcls ho with ⟨hp, ho, eb⟩ | ⟨j, oy, hoy, rfl, rfl, eb⟩
   ·rw [eb] at hb ⊢
    obtain ⟨k1, k2, k3⟩ := hs.dG id o b ho hb
    exact ⟨k1, Nat.lt_of_lt_of_le k2 hs'.heap.size, k3⟩
   ·obtain ⟨q, hb⟩ := hb
    obtain ⟨k1, k2, k3⟩ := vE j oy b hoy ⟨q, eb b q hb⟩
    rcases Nat.lt_or_ge b w.heap.size with hlt | hge
    ·have hold : ∀ k, (oy.back (gJ ρ h.length) (gX ρ h) j).wr = true -> (oy.back (gJ ρ h.length) (gX ρ h) j).at (eU β β' ρ h (gJ ρ h.length j)) b k -> ∃ (i : Nat) (o : Ob), i ∈ ρ ∧ h[i]? = some o ∧ o.wr = true ∧ o.at (β i) b k := fun k hw hk => by
      rw [Ob.oD] at hw
      rcases k3 with k3 | k3
      ·have k3 : w.heap.size <= b := k3
       omega
      ·exact hown (k3 k hw (eb b k hk))
     have hwy : (oy.back (gJ ρ h.length) (gX ρ h) j).wr = true := zHb hoy
     obtain ⟨i, oi, h1, h2, h3, h4⟩ := hold q hwy hb
     obtain ⟨g1, g2, g3⟩ := hs.dG i oi b h2 ⟨q, h4⟩
     refine ⟨g1, k2, ?_⟩
     rcases g3 with g3 | g3
     ·exact .inl g3
     ·right
      intro k hw hk
      obtain ⟨i2, oi2, f1, f2, f3, f4⟩ := hold k hw hk
      rcases (hs.dG i2 oi2 b f2 ⟨k, f4⟩).2.2 with g5 | g5
      ·have := hs.gU i i2 oi oi2 b h2 f2 ⟨q, h4⟩ ⟨k, f4⟩
       subst this
       rw [h2] at f2
       simp only [Option.some.injEq] at f2
       subst f2
       exact g3 k f3 f4
      ·exact g5 k f3 f4
    ·have h0 := hs.size
     exact ⟨fun _ hn => by have := hs.n0 b _ hn; omega, k2, .inl (by omega)⟩
  ·refine hs.frame.pO hs'.heap.frame fun b j hb ho => ?_
   obtain ⟨i, oi, h1, h2, h3, h4⟩ := hown ho
   rcases (hs.dG i oi b h2 ⟨j, h4⟩).2.2 with h5 | h5
   ·omega
   ·exact h5 j h3 h4
  ·intro j o hj
   obtain ⟨k1, k2⟩ := hs.fixed j o hj
   refine ⟨by rw [vD]; omega, fun b hb => ?_⟩
   obtain ⟨k3, k4⟩ := k2 b hb
   have hoj : h[j]? = some h[j] := by simp [k1]
   rcases Pp j (hs.obj j _ hoj).live with e | ⟨e, _⟩
   ·rw [e]; exact ⟨k3, k4⟩
   ·rw [k4] at e; cases e
 refine ⟨eU β β' ρ h, Pp, hkeep, zDw, hHS, ?_⟩
 refine Ui (by have := hs'.size; simpa using this) fun i v u hv hu => ?_
 simp only [List.getElem?_map, Option.map_eq_some_iff] at hv
 obtain ⟨v0, hv0, rfl⟩ := hv
 have hr := hs'.reg i v0 hv0
 have e : (us.toArray).getD i undef = u := by
  rw [Array.getD_eq_getD_getElem?]
  simp [hu]
 simp only [e] at hr
 exact hr.back (f := gJ ρ h.length) (v := gX ρ h) hpl zDx
theorem Pq (hM : Er P f si so F) : (peM si so F).OK P f := by
 refine ⟨hM.1, fun vs h y hr C β w xs hP hs ha => ?_, fun h => (by cases h), fun h => (by cases h)⟩
 subst hP
 simp only [peM] at hr
 split at hr
 case h_2 => cases hr
 rename_i x hx
 simp only [Option.some.injEq, Prod.mk.injEq] at hr
 obtain ⟨hok, hF⟩ := hr
 obtain ⟨hnd, hlt, hlen, hwr, Po⟩ := Ta hok
 have Ia := Ue hx (zGz hs ha hnd hlt)
 refine (hM.2 x y hF (inC C β h w _ hs) _ w xs rfl (by simp [inC, hlen]) Ia).mono ?_
 rintro e w' ⟨us, β', rfl, hs'⟩
 obtain ⟨β2, h1, h2, h3, h4, h5⟩ := zBz hs hnd hlt hwr Po hs'
 exact ⟨_, _, β2, ⟨rfl, rfl⟩, h1, h2, h3, h4, _, rfl, zBy h5⟩
end
end Go.Dec
namespace Go.Dec
section
variable {T : Tab} {C : Ctx} {β : Nat -> Pl} {w : World}
def Cr (T : Tab) (σ : St) : ResultVar -> Option (Bool × V)
 | .tmp t => some (true, σ.r.getD t .aP)
 | .cell t ty =>
  match σ.r.getD t .aP with
  | .one l => loadAt T σ.h ty l
  | _ => none
def gK (T : Tab) (σ : St) : List ResultVar -> Option (Bool × List V)
 | [] => some (true, [])
 | x :: r =>
  match Cr T σ x, gK T σ r with
  | some (c, l), some (d, ls) => some (c && d, l :: ls)
  | _, _ => none
theorem zCd {σ : St} {a : Act} {rv : ResultVar} {v : V} (hT : aR C.P T) (hs : Sim C β σ a w) (h : Cr T σ rv = some (true, v)) :
  ∃ x, (jI a.tmps rv).run C.P w = .ok x w ∧ v.Rel β w (C.N β σ.h) x := by
 cases rv with
 | tmp t =>
  simp only [Cr, Option.some.injEq, Prod.mk.injEq, true_and] at h
  subst h
  exact ⟨a.tmps.getD t undef, rfl, wL hs t⟩
 | cell t ty =>
  simp only [Cr] at h
  have hr := wL hs t
  split at h
  ·rename_i l hl
   rw [hl] at hr
   obtain ⟨y, h1, h2⟩ := qK hT h hs.heap hr
   obtain ⟨ad, h3, h4⟩ := uL h1
   refine ⟨y, ?_, h2⟩
   simp only [jI, h3, asAddr, Sem.run_bind, Sem.run_pure, Result.andThen_ok, h4]
  ·cases h
theorem Ki {σ : St} {a : Act} (hT : aR C.P T) (hs : Sim C β σ a w) : ∀ {rs : List ResultVar} {vs : List V}, gK T σ rs = some (true, vs) ->
  ∀ acc : Array Value, ∃ us : List Value, (rs.foldlM (fun (acc : Array Value) rv => do let v <- jI a.tmps rv; pure (acc.push v)) acc).run C.P w = .ok (acc ++ us.toArray) w ∧ aG (fun v u => V.Rel β w (C.N β σ.h) v u) vs us
 | [], vs, h, acc => by
  simp only [gK, Option.some.injEq, Prod.mk.injEq, true_and] at h
  subst h
  exact ⟨[], by simp, trivial⟩
 | rv :: rs, vs, h, acc => by
  simp only [gK] at h
  split at h
  ·rename_i c s d r h1 h2
   simp only [Option.some.injEq, Prod.mk.injEq, Bool.and_eq_true] at h
   obtain ⟨⟨rfl, rfl⟩, rfl⟩ := h
   obtain ⟨x, g1, g2⟩ := zCd hT hs h1
   obtain ⟨us, g4, g5⟩ := Ki hT hs h2 (acc.push x)
   refine ⟨x :: us, ?_, ⟨g2, g5⟩⟩
   simp only [List.foldlM_cons, Sem.run_bind, g1, Result.andThen_ok, Sem.run_pure, g4]
   simp
  ·cases h
theorem Pv {σ : St} {a : Act} {fn : Func} {vs : List V} (hT : aR C.P T) (hs : Sim C β σ a w) (h : gK T σ fn.results.toList = some (true, vs)) :
  ∃ us : List Value, (results fn a.tmps).run C.P w = .ok (jP us) w ∧ aG (fun v u => V.Rel β w (C.N β σ.h) v u) vs us := by
 obtain ⟨us, h1, h2⟩ := Ki hT hs h #[]
 refine ⟨us, ?_, h2⟩
 have e0 : results fn a.tmps = (do let vs <- fn.results.mapM (jI a.tmps); pure (if h : vs.size = 1 then vs[0] else .tuple vs)) := by
  unfold results
  congr 1
 have hm : (fn.results.mapM (jI a.tmps) : Sem (Array Value)).run C.P w = .ok us.toArray w := by
  rw [Array.mapM_eq_foldlM, <- Array.foldlM_toList]
  have e : (fun (acc : Array Value) rv => do let v <- jI a.tmps rv; pure (acc.push v) : Array Value -> ResultVar -> Sem (Array Value)) = (fun (acc : Array Value) rv => acc.push <$> jI a.tmps rv) := by
   funext acc rv
   rfl
  rw [e] at h1
  simpa using h1
 rw [e0]
 simp only [Sem.run_bind, hm, Result.andThen_ok, Sem.run_pure]
 match us with
 | [] => rfl
 | [u] => rfl
 | u :: v :: us => simp [jP]
theorem zCe {σ : St} {a : Act} {vs : List V} {us : List Value} (hs : Sim C β σ a w) (h : aG (fun v u => V.Rel β w (C.N β σ.h) v u) vs us) : Sim C β ⟨vs, σ.h⟩ { tmps := us.toArray, defers := [] } w := by
 refine ⟨hs.heap, rfl, by simpa using h.length, fun i v hv => ?_⟩
 have hl : i < us.length := by rw [<- h.length]; exact (List.getElem?_eq_some_iff.1 hv).1
 have hr := h.get i (List.getElem?_eq_some_iff.1 hv).1 hl
 rw [(List.getElem?_eq_some_iff.1 hv).2] at hr
 have e2 : (us.toArray).getD i undef = us[i] := by simp [hl]
 simp only [e2]
 exact hr
def Pw (T : Tab) {ρ : Type} (res : List ResultVar) (so : Sh) (co : List Co) (σ : St) (g : so.X -> Option ρ) : Option ρ :=
 match gK T σ res with
 | some (c, vs) => chk c (enter T so co ⟨vs, σ.h⟩ g)
 | none => none
def Wt (T : Tab) (res : List ResultVar) (so : Sh) (co : List Co) : K so.X := fun e σ =>
 match e with
 | .normal => Pw T res so co σ some
 | .ret => Pw T res so co σ some
 | _ => none
theorem zCf {σ : St} {a : Act} {fn : Func} {so : Sh} {co : List Co} {ρ : Type} {g : so.X -> Option ρ} {r : ρ} {kf : Nat} (hT : aR C.P T) (hkf : C.fix.length <= kf) (hfx : aV (Co.fx kf) co = true) (hs : Sim C β σ a w) (h : Pw T fn.results.toList so co σ g = some r) :
  ∃ (us : List Value) (β' : Nat -> Pl) (y : so.X), (results fn a.tmps).run C.P w = .ok (jP us) w ∧ Sim C β' (so.enc y) { tmps := us.toArray, defers := [] } w ∧ g y = some r := by
 unfold Pw at h
 split at h
 ·rename_i c vs hvs
  obtain ⟨rfl, h⟩ := kD h
  obtain ⟨us, h1, h2⟩ := Pv hT hs hvs
  obtain ⟨β', _, y, h3, h4⟩ := tQ hT hkf hfx h (zCe hs h2)
  exact ⟨us, β', y, h1, h3, h4⟩
 ·cases h
end
section
variable {P : Program} {T : Tab} {f : FuncId} {fn : Func} {c : Code} {si so sp : Sh}
theorem Zp {C : Ctx} {β : Nat -> Pl} {w : World} {σ : St} {xs : List Value} (n : Nat) (hs : Sim C β σ { tmps := xs.toArray, defers := [] } w) :
  Sim C β ⟨tT σ.r n, σ.h⟩ { tmps := xs.toArray ++ Array.replicate (n - xs.toArray.size) undef, defers := [] } w := by
 have hl : σ.r.length = xs.length := by simpa using hs.size
 refine ⟨hs.heap, rfl, by simp [tT, hl], fun i u hu => ?_⟩
 simp only [tT] at hu
 by_cases hi : i < σ.r.length
 ·rw [List.getElem?_append_left hi] at hu
  have hr := hs.reg i u hu
  have e : (xs.toArray ++ Array.replicate (n - xs.toArray.size) undef).getD i undef = (xs.toArray).getD i undef := by
   rw [Array.getD_eq_getD_getElem?, Array.getD_eq_getD_getElem?, Array.getElem?_append_left (by simpa using by omega)]
  rw [e]
  exact hr
 ·rw [List.getElem?_append_right (by omega), List.getElem?_replicate] at hu
  split at hu
  ·simp only [Option.some.injEq] at hu; subst hu; trivial
  ·cases hu
theorem zCg {F : si.X -> Option so.X} {Γ : Orc so.X} {an : An so.X} {co : List Co} (hf : P.funcs[f]? = some fn) (hb : fn.body = some c) (hh : fO P f = true) (hT : aR P T) (hΓ : eT P Γ) (hm : P.follows .mixedOrders = true)
  (ha : Oy P si.os.length c an) (hfx : an.fx si.os.length = true) (hco : aV (Co.fx si.os.length) co = true)
  (h : ∀ x, ev Γ T c an ⟨tT (si.enc x).r fn.ntmps, (si.enc x).h⟩ (Wt T fn.results.toList so co) = F x) : Er P f si so F := by
 refine ⟨hh, fun x y hF C β w xs hP hkf hs => ?_⟩
 rw [<- h x] at hF
 refine calls_of_wp hf hb ?_
 refine Pd (P := P) hT hΓ hm c an ha hfx _ _ y hF C β _ w _ hP hkf (Zp fn.ntmps hs) ?_
 intro e x' σ' β' a' w' hs' hx' hk
 have fin : Pw T fn.results.toList so co σ' some = some y -> x' = .ret ∨ x' = .normal -> bodyPost P fn (fun e w' => ∃ (us : List Value) (β' : Nat -> Pl), e = .returned (jP us) ∧ Sim C β' (so.enc y) { tmps := us.toArray, defers := [] } w') x' a' w' := by
  intro hk hx'
  subst hP
  obtain ⟨us, β2, y', h1, h2, h3⟩ := zCf (fn := fn) hT hkf hco hs' hk
  obtain rfl := Option.some.inj h3
  rcases hx' with rfl | rfl
  ·exact ⟨hs'.defers, _, h1, us, β2, rfl, h2⟩
  ·exact ⟨hs'.defers, _, h1, us, β2, rfl, h2⟩
 cases e with
 | normal => obtain rfl := hx'; exact fin hk (.inr rfl)
 | ret => obtain rfl := hx'; exact fin hk (.inl rfl)
 | exit i => simp [Wt] at hk
 | goto l => simp [Wt] at hk
 | pan t u => simp [Wt] at hk
structure GE (ρ : Type) where
 f : FuncId
 run : List V -> List Ob -> (Out -> List Ob -> Option ρ) -> Option ρ
structure GE.OK (P : Program) {ρ : Type} (g : GE ρ) : Prop where
 ok : ∀ vs h k r, g.run vs h k = some r -> fO P g.f = true ∧ qO P g.f vs h fun out h' => k out h' = some r ∧ ∀ id, id < h.length -> id ∉ reach vs h -> h'[id]? = h[id]?
def zCh {ρ : Type} : List (GE ρ) -> FuncId -> List V -> List Ob -> (Out -> List Ob -> Option ρ) -> Option ρ
 | [], _, _, _, _ => none
 | g :: r, f, vs, h, k => match Nat.beq g.f f with
  | true => g.run vs h k
  | false => zCh r f vs h k
def Ct (ρ : Type) (l : List (FuncId × PE)) (m : List (GE ρ)) : Orc ρ := ⟨pes l, zCh m⟩
theorem vF {ρ : Type} {l : List (FuncId × PE)} {m : List (GE ρ)} (h : ∀ p ∈ l, p.2.OK P p.1) (hm : ∀ g ∈ m, g.OK P) : eT P (Ct ρ l m) := by
 refine ⟨(zGy (ρ := ρ) h).pure, fun f vs hp k r hr => ?_⟩
 simp only [Ct] at hr
 induction m with
 | nil => cases hr
 | cons g m ih =>
  simp only [zCh] at hr
  split at hr
  ·rename_i hb
   have := Nat.eq_of_beq_eq_true hb
   subst this
   exact (hm g (.head _)).ok vs hp k r hr
  ·exact ih (fun g hg => hm g (.tail _ hg)) hr
theorem vG {ρ : Type} : ∀ g ∈ ([] : List (GE ρ)), g.OK P := fun _ h => by cases h
end
end Go.Dec
namespace Go.Dec
open Go.RowKit
section
variable {P : Program} {f : FuncId} {fn : Func} {t tb e : TypeId} {p0 p1 p2 p3 p4 p5 p6 p7 : String}
set_option maxHeartbeats 1000000 in
set_option maxRecDepth 100000 in
set_option maxHeartbeats 1000000 in
set_option maxRecDepth 100000 in
end
end Go.Dec
