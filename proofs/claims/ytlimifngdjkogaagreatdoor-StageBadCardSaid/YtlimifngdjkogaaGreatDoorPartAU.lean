/- Part of a proof over this seat: a library of my own, and what it says of this seat. No statement is proved here. -/
import Derived.Test.YtlimifngdjkogaaGreatDoorPartAT
import Derived.Test.YtlimifngdjkogaaGreatDoorPartAE
namespace Go.Ce
section
variable {P : Program} {lo : Nat} {β : Bt} {A : W} {w : World} {I : T CI}
theorem Qp : ∀ {n : Nat} {l r : List Nat}, rT.tkN n l = some r -> r = l.take n
 | 0, l, r, h => by simp only [rT.tkN, Option.some.injEq] at h; subst h; simp
 | _ + 1, [], r, h => by simp [rT.tkN] at h
 | n + 1, a :: l, r, h => by
  simp only [rT.tkN] at h
  split at h
  ·rename_i l' hl
   simp only [Option.some.injEq] at h
   subst h
   rw [Qp hl]; simp
  ·cases h
theorem rA (ba : ByteArray) : ba.size = ba.data.toList.length := by rw [Array.length_toList]; rfl
theorem kH {β : Bt} {v : Option Value} (h : iG β none v) : v = none := h
theorem Xk (b o : Nat) (m l : Nat) : (if m = l then (⟨b, o, none⟩ : Addr) else (⟨b, o, none⟩ : Addr).add 0) = ⟨b, o, none⟩ := by
 split
 ·rfl
 ·rw [Addr.add_lit]; rfl
theorem Tf (hI : TOK P I) (hW : aL lo β A w) {t : TypeId} {x v : AV} {lo' hi mx : Option AV} {u : Value} {lv hv mv : Option Value} (h : rT I A t x lo' hi mx = some v) (hu : x.Rel β u) (hl : iG β lo' lv) (hh : iG β hi hv) (hm : iG β mx mv) :
  ∃ y, (Instr.sliceAt t u lv hv mv).run P w = .ok y w ∧ v.Rel β y := by
 unfold rT at h
 replace h := aD h; obtain ⟨hmx, h⟩ := h
 replace h := aA h; obtain ⟨ti, hti, h⟩ := h
 replace h := aA h; obtain ⟨l, hlo, h⟩ := h
 have ok := hI _ _ hti
 split at h
 ·rename_i s hk
  have hut := ok.str hk
  obtain ⟨ba, rfl, hba⟩ := hu
  split at h
  ·cases h
  ·replace h := aA h; obtain ⟨h', hhi, h⟩ := h
   replace h := aD h; obtain ⟨hc, h⟩ := h
   replace h := aA h; obtain ⟨r, hr, h⟩ := h
   simp only [Option.some.injEq] at h
   subst h
   have := kH hm
   subst this
   rw [Bool.and_eq_true, Nat.ble_eq, Nat.ble_eq] at hc
   have hsz : len s = ba.size := by rw [len_eq, <- hba, List.length_map, rA]
   rw [hsz] at hhi hc
   have hb := dB (P := P) (w := w) (isSlice := false) hlo hhi hl hh hc.1 hc.2
   refine ⟨.string (ba.extract l h'), by simp [Instr.sliceAt, Instr.slice, run_underlying hut, hb], ba.extract l h', rfl, ?_⟩
   rw [Qp hr, vJ, <- hba, ByteArray.data_extract, Array.toList_extract, List.extract_eq_take_drop, List.map_take, List.map_drop]
 ·rename_i e hk
  replace h := aA h; obtain ⟨ei, Dq, h⟩ := h
  replace h := aA h; obtain ⟨h', hhi, h⟩ := h
  replace h := aA h; obtain ⟨m, hmm, h⟩ := h
  replace h := aD h; obtain ⟨hc, h⟩ := h
  simp only [Option.some.injEq] at h
  subst h
  simp only [AV.Rel] at hu
  subst hu
  have hut := ok.slice hk
  simp only [Bool.and_eq_true] at hc
  have z1 := Nat.eq_of_beq_eq_true hc.1.1
  have z2 := Nat.eq_of_beq_eq_true hc.1.2
  have z3 := Nat.eq_of_beq_eq_true hc.2
  subst z1 z2 z3
  have hei := (hI _ _ Dq).sizeOf (w := w)
  cases mx with
  | none =>
   have := kH hm
   subst this
   have hb := dB (P := P) (w := w) (isSlice := true) (cap := 0) hlo hhi hl hh (Nat.le_refl _) (Nat.le_refl _)
   exact ⟨.slice none 0 0, by simp [Instr.sliceAt, Instr.slice, run_underlying hut, hb, hei], rfl⟩
  | some ma =>
   obtain ⟨mv', rfl, hmr⟩ := hm
   have hb := uN (P := P) (w := w) (isSlice := true) (cap := 0) hlo hhi (by cases hi <;> simp [Xc] at hmx ⊢) hmm hl hh hmr (Nat.le_refl _) (Nat.le_refl _) (Nat.le_refl _)
   exact ⟨.slice none 0 0, by simp [Instr.sliceAt, Instr.slice, run_underlying hut, hb, hei], rfl⟩
 ·rename_i e z hk
  replace h := aA h; obtain ⟨ei, Dq, h⟩ := h
  replace h := aA h; obtain ⟨h', hhi, h⟩ := h
  replace h := aD h; obtain ⟨hc, h⟩ := h
  rw [Bool.and_eq_true] at hc
  have z1 := Nat.eq_of_beq_eq_true hc.1
  have z2 := Nat.eq_of_beq_eq_true hc.2
  subst z1 z2
  have hut := ok.slice hk
  have hei := (hI _ _ Dq).sizeOf (w := w)
  obtain ⟨a, c, rfl, hcm, hcz⟩ := hu
  cases mx with
  | none =>
   have := kH hm
   subst this
   simp only [Option.some.injEq] at h
   subst h
   have hb := dB (P := P) (w := w) (isSlice := true) (cap := c) hlo hhi hl hh (Nat.le_refl _) (Nat.zero_le _)
   exact ⟨.slice (some (if c = 0 then a else a.add (0 * ei.size))) 0 c, by simp [Instr.sliceAt, Instr.slice, run_underlying hut, hb, hei]; split <;> rfl, _, c, rfl, hcm, hcz⟩
  | some ma =>
   obtain ⟨mv', rfl, hmr⟩ := hm
   simp only at h
   replace h := aA h; obtain ⟨m, hmm, h⟩ := h
   replace h := aD h; obtain ⟨hc2, h⟩ := h
   have z3 := Nat.eq_of_beq_eq_true hc2
   subst z3
   simp only [Option.some.injEq] at h
   subst h
   have hb := uN (P := P) (w := w) (isSlice := true) (cap := c) hlo hhi (by cases hi <;> simp [Xc] at hmx ⊢) hmm hl hh hmr (Nat.le_refl _) (Nat.le_refl _) (Nat.zero_le _)
   exact ⟨.slice (some a) 0 0, by simp [Instr.sliceAt, Instr.slice, run_underlying hut, hb, hei], a, 0, rfl, by simp [maxLen], fun _ => rfl⟩
 ·rename_i e id off n c sz ex hk
  replace h := aA h; obtain ⟨h', hhi, h⟩ := h
  replace h := aA h; obtain ⟨ei, Dq, h⟩ := h
  replace h := aD h; obtain ⟨hsz, h⟩ := h
  have hsz := Nat.eq_of_beq_eq_true hsz
  have hut := ok.slice hk
  have hei := (hI _ _ Dq).sizeOf (w := w)
  rw [hsz] at hei
  obtain ⟨b, o, N, C, hb, rfl, hcap, hnC, hCm, hfit⟩ := hu
  have hcC : c <= C := by
   unfold wX at hcap
   split at hcap <;> omega
  have hmax : ∀ k, Nat.ble k (cnd (Nat.ble n c) c n) = true -> k <= C := fun k hk => by
   rw [Nat.ble_eq] at hk
   unfold cnd at hk
   split at hk <;> omega
  have zDk : ∀ m : Nat, l < m -> (if m = l then (⟨b, o + off, none⟩ : Addr) else (⟨b, o + off, none⟩ : Addr).add (l * sz)) = ⟨b, o + (off + l * sz), none⟩ := fun m hm => by
   rw [if_neg (by omega), Addr.add_lit, Nat.add_assoc]
  have hsub : ∀ m : Nat, l <= m -> m <= C -> o + (off + l * sz) + (m - l) * sz <= N := fun m h1 h2 => by
   have e1 : (m - l) * sz + l * sz = m * sz := by rw [<- Nat.add_mul]; congr 1; omega
   have e2 : m * sz <= C * sz := Nat.mul_le_mul_right _ h2
   omega
  cases mx with
  | none =>
   have := kH hm
   subst this
   simp only at h
   replace h := aD h; obtain ⟨hc, h⟩ := h
   rw [Bool.and_eq_true] at hc
   have h1 : l <= h' := Nat.le_of_ble_eq_true hc.1
   have h2 := hmax _ hc.2
   have hbd := dB (P := P) (w := w) (isSlice := true) (cap := C) hlo hhi hl hh h1 h2
   have hrun : (Instr.sliceAt t (.slice (some ⟨b, o + off, none⟩) n C) lv hv none).run P w = .ok (.slice (some (if C = l then (⟨b, o + off, none⟩ : Addr) else (⟨b, o + off, none⟩ : Addr).add (l * sz))) (h' - l) (C - l)) w := by
    simp [Instr.sliceAt, Instr.slice, run_underlying hut, hbd, hei]
    split <;> rfl
   refine ⟨_, hrun, ?_⟩
   unfold cnd at h
   split at h
   ·rename_i hl0
    have hl0 := Nat.eq_of_beq_eq_true hl0
    subst hl0
    rw [bR] at h
    simp only [Option.some.injEq] at h
    subst h
    rw [Nat.zero_mul, Xk]
    exact ⟨b, o, N, C, hb, rfl, hcap, h2, hCm, hfit⟩
   ·split at h
    ·rename_i hlc
     rw [Nat.blt_eq] at hlc
     simp only [bR, Option.some.injEq] at h
     subst h
     rw [zDk C (by omega)]
     refine ⟨b, o, N, C - l, hb, rfl, ?_, by omega, by omega, hsub C (by omega) (Nat.le_refl _)⟩
     unfold wX at hcap ⊢
     split at hcap <;> omega
    ·rename_i hlc
     have hlc : c <= l := by
      rcases Nat.lt_or_ge l c with h4 | h4
      ·rw [<- Nat.blt_eq] at h4; rw [h4] at hlc; cases hlc
      ·exact h4
     replace h := aD h; obtain ⟨hhl, h⟩ := h
     have hhl := Nat.eq_of_beq_eq_true hhl
     simp only [Option.some.injEq] at h
     subst h hhl
     rw [Nat.sub_self]
     refine ⟨_, _, rfl, by omega, fun hex => ?_⟩
     subst hex
     simp only [wX] at hcap
     omega
  | some ma =>
   obtain ⟨mv', rfl, hmr⟩ := hm
   simp only at h
   replace h := aA h; obtain ⟨m, hmm, h⟩ := h
   replace h := aD h; obtain ⟨hc, h⟩ := h
   rw [Bool.and_eq_true, Bool.and_eq_true] at hc
   have h1 : l <= h' := Nat.le_of_ble_eq_true hc.1.1
   have h3 : h' <= m := Nat.le_of_ble_eq_true hc.1.2
   have h2 := hmax _ hc.2
   have hbd := uN (P := P) (w := w) (isSlice := true) (cap := C) hlo hhi (by cases hi <;> simp [Xc] at hmx ⊢) hmm hl hh hmr h1 h3 h2
   have hrun : (Instr.sliceAt t (.slice (some ⟨b, o + off, none⟩) n C) lv hv (some mv')).run P w = .ok (.slice (some (if m = l then (⟨b, o + off, none⟩ : Addr) else (⟨b, o + off, none⟩ : Addr).add (l * sz))) (h' - l) (m - l)) w := by
    simp [Instr.sliceAt, Instr.slice, run_underlying hut, hbd, hei]
    split <;> rfl
   refine ⟨_, hrun, ?_⟩
   unfold cnd at h
   split at h
   ·rename_i hl0
    have hl0 := Nat.eq_of_beq_eq_true hl0
    subst hl0
    simp only [bR, Option.some.injEq] at h
    subst h
    rw [Nat.zero_mul, Xk]
    have e2 : m * sz <= C * sz := Nat.mul_le_mul_right _ h2
    exact ⟨b, o, N, m, hb, rfl, rfl, h3, by omega, by omega⟩
   ·split at h
    ·rename_i hlc
     rw [Nat.blt_eq] at hlc
     simp only [bR, Option.some.injEq] at h
     subst h
     rw [zDk m (by omega)]
     exact ⟨b, o, N, m - l, hb, rfl, rfl, by omega, by omega, hsub m (by omega) h2⟩
    ·rename_i hlc
     have hlc : m <= l := by
      rcases Nat.lt_or_ge l m with h4 | h4
      ·rw [<- Nat.blt_eq] at h4; rw [h4] at hlc; cases hlc
      ·exact h4
     simp only [Option.some.injEq] at h
     subst h
     have e1 : h' - l = 0 := by omega
     have e2 : m - l = 0 := by omega
     rw [e1, e2]
     exact ⟨_, _, rfl, by simp [maxLen], fun _ => rfl⟩
 ·rename_i n e id off hk
  split at h
  ·cases h
  ·have := kH hm
   subst this
   replace h := aA h; obtain ⟨h', hhi, h⟩ := h
   replace h := aA h; obtain ⟨ei, Dq, h⟩ := h
   replace h := aA h; obtain ⟨cs, hcs, h⟩ := h
   replace h := aD h; obtain ⟨hc, h⟩ := h
   rw [Bool.and_eq_true, Bool.and_eq_true, Bool.and_eq_true, Nat.ble_eq, Nat.ble_eq, Nat.blt_eq, Nat.ble_eq] at hc
   have hc4 := hc.2
   have hc := hc.1
   obtain ⟨b, o, N, hb, rfl⟩ := hu
   obtain ⟨b', o', N', vs, hb', _, _, _, _, hfit⟩ := rU hW hcs
   rw [hb] at hb'
   simp only [Option.some.injEq, Prod.mk.injEq] at hb'
   obtain ⟨rfl, rfl, rfl⟩ := hb'
   have hfit := hfit hc.2
   have hut := ok.arr hk
   have hei := (hI _ _ Dq).sizeOf (w := w)
   have hbd := dB (P := P) (w := w) (isSlice := false) hlo hhi hl hh hc.1.1 hc.1.2
   have hn : n <= maxLen := by simp only [maxLen]; omega
   have hrun : (Instr.sliceAt t (.pointer (some ⟨b, o + off, none⟩)) lv hv none).run P w = .ok (.slice (some (if n = l then (⟨b, o + off, none⟩ : Addr) else (⟨b, o + off, none⟩ : Addr).add (l * ei.size))) (h' - l) (n - l)) w := by
    simp [Instr.sliceAt, Instr.sureAddr, run_underlying hut, hbd, hei]
   refine ⟨_, hrun, ?_⟩
   unfold cnd at h
   split at h
   ·rename_i hl0
    have hl0 := Nat.eq_of_beq_eq_true hl0
    subst hl0
    simp only [bR, Option.some.injEq] at h
    subst h
    rw [Nat.zero_mul, Xk]
    exact ⟨b, o, N, n, hb, rfl, rfl, hc.1.2, hn, hfit⟩
   ·replace h := aD h; obtain ⟨hlc, h⟩ := h
    rw [Nat.blt_eq] at hlc
    simp only [bR, Option.some.injEq] at h
    subst h
    rw [if_neg (by omega), Addr.add_lit, Nat.add_assoc]
    refine ⟨b, o, N, n - l, hb, rfl, rfl, by omega, by omega, ?_⟩
    have e1 : (n - l) * ei.size + l * ei.size = n * ei.size := by rw [<- Nat.add_mul]; congr 1; omega
    omega
 ·cases h
theorem Kq {t : TypeId} {ci : CI} (ok : dA P t ci) {l : List AV} {vs : List Value} (hr : AV.aF β l vs) {off : Nat} {v : AV}
  (h : (match ci.k.isAgg with | true => ob (tk ci.size (drp off l)) fun l => some (.ag l) | false => nth l off) = some v) :
  ∃ y, (part t vs.toArray off).run P w = .ok y w ∧ v.Rel β y := by
 split at h
 ·rename_i ha
  replace h := aA h; obtain ⟨l', hl, h⟩ := h
  simp only [Option.some.injEq] at h
  subst h
  rw [vJ] at hl
  obtain ⟨rfl, hn⟩ := Jf hl
  refine ⟨.agg ((vs.drop off).take ci.size).toArray, ?_, _, rfl, (hr.drop off).take ci.size⟩
  simp only [part, Sem.run_bind, ok.isAgg, Result.andThen_ok, ha, if_true, ok.sizeOf, Sem.run_pure]
  congr 2
  apply Array.ext'
  simp [List.extract_eq_take_drop]
 ·rename_i ha
  rw [Ql] at h
  obtain ⟨x, hx, hrel⟩ := hr.get h
  refine ⟨x, ?_, hrel⟩
  simp [part, ok.isAgg, ha, hx]
theorem Tg (hI : TOK P I) {t : TypeId} {x v : AV} {f : Nat} {u : Value} (h : Qe I t x f = some v) (hu : x.Rel β u) : ∃ y, (Instr.field t u f).run P w = .ok y w ∧ v.Rel β y := by
 unfold Qe at h
 split at h
 ·rename_i l
  replace h := aA h; obtain ⟨ti, hti, h⟩ := h
  split at h
  ·rename_i fs hk
   replace h := aA h; obtain ⟨p, hp, h⟩ := h
   replace h := aA h; obtain ⟨fi, hfi, h⟩ := h
   obtain ⟨ff, hff, rfl⟩ := (hI _ _ hti).struct hk
   obtain ⟨vs, rfl, hr⟩ := hu
   rw [List.getElem?_map, Option.map_eq_some_iff] at hp
   obtain ⟨fd, hfd, rfl⟩ := hp
   obtain ⟨y, hy, hrel⟩ := Kq (w := w) (hI _ _ hfi) hr h
   refine ⟨y, ?_, hrel⟩
   have zCh : ff[f]? = some fd := by rw [<- Array.getElem?_toList]; exact hfd
   simp [Instr.field, run_underlying hff, zCh, asAgg, hy]
  ·cases h
 ·cases h
theorem Gp (hI : TOK P I) {t : TypeId} {x v : AV} {f : Nat} {u : Value} (h : wY I t x f = some v) (hu : x.Rel β u) : ∃ y, (Instr.fieldAt t u f).run P w = .ok y w ∧ v.Rel β y := by
 unfold wY at h
 split at h
 ·rename_i id off
  replace h := aA h; obtain ⟨ti, hti, h⟩ := h
  split at h
  ·rename_i fs hk
   replace h := aA h; obtain ⟨p, hp, h⟩ := h
   replace h := aA h; obtain ⟨fi, hfi, h⟩ := h
   replace h := aD h; obtain ⟨hne, h⟩ := h
   obtain ⟨ff, hff, rfl⟩ := (hI _ _ hti).struct hk
   obtain ⟨b, o, N, hb, rfl⟩ := hu
   rw [bR] at h
   simp only [Option.some.injEq] at h
   subst h
   rw [List.getElem?_map, Option.map_eq_some_iff] at hp
   obtain ⟨fd, hfd, rfl⟩ := hp
   have zCh : ff[f]? = some fd := by rw [<- Array.getElem?_toList]; exact hfd
   have hz : ¬ fi.size = 0 := by
    intro e
    rw [e] at hne
    cases hne
   refine ⟨.pointer (some ⟨b, o + off + fd.offset, none⟩), ?_, b, o, N, hb, by rw [Nat.add_assoc]⟩
   simp [Instr.fieldAt, run_underlying hff, zCh, Instr.sureAddr, fieldPlace, (hI _ _ hfi).sizeOf, hz, Addr.add_lit]
  ·cases h
 ·cases h
theorem Gq (hI : TOK P I) {t : TypeId} {x i v : AV} {u iv : Value} (h : wZ I t x i = some v) (hu : x.Rel β u) (hi : i.Rel β iv) : ∃ y, (Instr.indexAt t u iv).run P w = .ok y w ∧ v.Rel β y := by
 unfold wZ at h
 replace h := aA h; obtain ⟨ti, hti, h⟩ := h
 replace h := aA h; obtain ⟨k, hk0, h⟩ := h
 obtain ⟨kk, rfl⟩ := bX hk0 hi
 have ok := hI _ _ hti
 split at h
 ·rename_i n e id off hk
  replace h := aA h; obtain ⟨ei, hei, h⟩ := h
  replace h := aD h; obtain ⟨hlt, h⟩ := h
  rw [Nat.blt_eq] at hlt
  rw [bR] at h
  simp only [Option.some.injEq] at h
  subst h
  obtain ⟨b, o, N, hb, rfl⟩ := hu
  have h1 : (0 : Int) <= (k : Int) := by omega
  have h2 : (k : Int) < (n : Int) := by omega
  refine ⟨.pointer (some ⟨b, o + off + k * ei.size, none⟩), ?_, b, o, N, hb, by rw [Nat.add_assoc]⟩
  simp [Instr.indexAt, asIntOf, run_underlying (ok.arr hk), Instr.sureAddr, hlt, Nat.not_le.2 hlt, (hI _ _ hei).sizeOf, Addr.add_lit]
 ·rename_i e id off n c sz ex hk
  replace h := aA h; obtain ⟨ei, hei, h⟩ := h
  replace h := aD h; obtain ⟨hlt, h⟩ := h
  rw [Nat.blt_eq] at hlt
  rw [bR] at h
  simp only [Option.some.injEq] at h
  subst h
  obtain ⟨b, o, N, C, hb, rfl, _⟩ := hu
  have h2 : (k : Int) < (n : Int) := by omega
  refine ⟨.pointer (some ⟨b, o + off + k * ei.size, none⟩), ?_, b, o, N, hb, by rw [Nat.add_assoc]⟩
  simp [Instr.indexAt, asIntOf, run_underlying (ok.slice hk), hlt, Nat.not_le.2 hlt, (hI _ _ hei).sizeOf, Addr.add_lit]
 ·cases h
theorem Ti (hI : TOK P I) {t : TypeId} {x i v : AV} {u iv : Value} (h : Qf I t x i = some v) (hu : x.Rel β u) (hi : i.Rel β iv) : ∃ y, (Instr.index t u iv).run P w = .ok y w ∧ v.Rel β y := by
 unfold Qf at h
 replace h := aA h; obtain ⟨ti, hti, h⟩ := h
 replace h := aA h; obtain ⟨k, hk0, h⟩ := h
 obtain ⟨kk, rfl⟩ := bX hk0 hi
 have ok := hI _ _ hti
 split at h
 ·rename_i s hk
  obtain ⟨ba, rfl, rfl⟩ := hu
  rw [vJ] at h
  split at h
  ·rename_i b r hd
   simp only [Option.some.injEq] at h
   subst h
   have hg : (ba.data.toList.map UInt8.toNat)[k]? = some b := by
    have := congrArg List.head? hd
    rwa [List.head?_drop, List.head?_cons] at this
   rw [List.getElem?_map, Option.map_eq_some_iff] at hg
   obtain ⟨c, hc, rfl⟩ := hg
   have hlt : k < ba.size := by
    rw [rA]; exact (List.getElem?_eq_some_iff.1 hc).1
   have hb : ba[k]? = some c := by
    rw [getElem?_pos ba k hlt]
    rw [Array.getElem?_toList] at hc
    obtain ⟨h1, h2⟩ := Array.getElem?_eq_some_iff.1 hc
    exact congrArg some h2
   refine ⟨.int .u8 c.toNat, ?_, rfl⟩
   have h1 : (0 : Int) <= (k : Int) := by omega
   simp [Instr.index, asIntOf, run_underlying (ok.str hk), hb]
  ·cases h
 ·rename_i n e l hk
  replace h := aA h; obtain ⟨ei, hei, h⟩ := h
  replace h := aD h; obtain ⟨hlt, h⟩ := h
  rw [Nat.blt_eq] at hlt
  obtain ⟨vs, rfl, hr⟩ := hu
  obtain ⟨y, hy, hrel⟩ := Kq (w := w) (hI _ _ hei) hr h
  refine ⟨y, ?_, hrel⟩
  have h2 : (k : Int) < (n : Int) := by omega
  simp [Instr.index, asIntOf, run_underlying (ok.arr hk), hlt, Nat.not_le.2 hlt, (hI _ _ hei).sizeOf, hy]
 ·cases h
end
end Go.Ce
namespace Go.Ce
section
variable {P : Program} {lo : Nat} {β : Bt} {A : W} {w : World} {I : T CI} {evf : Operand -> Option AV} {ρ : Operand -> Value}
def kW (β : Bt) (evf : Operand -> Option AV) (ρ : Operand -> Value) : Prop := ∀ x a, evf x = some a -> a.Rel β (ρ x)
theorem kW.mono {β β' : Bt} (h : kW β evf ρ) (hl : Le β β') : kW β' evf ρ := fun x a hx => (h x a hx).mono hl
theorem Dr (he : kW β evf ρ) : ∀ {xs : List Operand} {l : List AV}, avs evf xs = some l -> AV.aF β l (xs.map ρ)
 | [], l, h => by simp only [avs, Option.some.injEq] at h; subst h; rfl
 | x :: xs, l, h => by
  simp only [avs] at h
  split at h
  ·rename_i a l' h1 h2
   simp only [Option.some.injEq] at h
   subst h
   exact ⟨_, _, rfl, he _ _ h1, Dr he h2⟩
  ·cases h
theorem qN (he : kW β evf ρ) {place : Nat -> Option (Nat × Nat)} {places : Nat -> Option (Nat × Nat)} (hp : ∀ i p, place i = some p -> places i = some p) : ∀ {ps : List (Nat × Operand)} {cs r : List AV} {vs : Array Value},
  xA evf place ps cs = some r -> AV.aF β cs vs.toList -> ∃ vs' : Array Value, Instr.fill places vs (ps.map fun p => (p.1, ρ p.2)) = some vs' ∧ AV.aF β r vs'.toList ∧ vs'.size = vs.size
 | [], cs, r, vs, h, hr => by simp only [xA, Option.some.injEq] at h; subst h; exact ⟨vs, rfl, hr, rfl⟩
 | (i, x) :: ps, cs, r, vs, h, hr => by
  simp only [xA] at h
  split at h
  ·rename_i off size a h1 h2
   replace h := aD h; obtain ⟨hc, h⟩ := h
   rw [Bool.and_eq_true] at hc
   split at h
   ·rename_i cs' hs
    obtain ⟨rfl, hfit⟩ := nW hs
    have hcr := tJ (he _ _ h2) hc.2
    have hsz : (ρ x).cells.size = size := by
     rw [<- Array.length_toList, <- hcr.length, <- len_eq]
     exact Nat.eq_of_beq_eq_true hc.1
    have hl : cs.length = vs.size := hr.length.trans Array.length_toList
    have hal : a.cells.length = size := by rw [<- len_eq]; exact Nat.eq_of_beq_eq_true hc.1
    have hstep := Dec.sS places vs i off size (ρ x) (ps.map fun p => (p.1, ρ p.2)) (hp i _ h1) hsz (by omega)
    rw [List.map_cons, hstep]
    obtain ⟨vs', k1, k2, k3⟩ := qN he hp (vs := (vs.toList.take off ++ (ρ x).cells.toList ++ vs.toList.drop (off + size)).toArray) h (by
     simp only
     rw [List.append_assoc, hal]
     exact (hr.take off).append (hcr.append (hr.drop _)))
    refine ⟨vs', k1, k2, ?_⟩
    rw [k3]
    simp only [List.size_toArray, List.length_append, List.length_take, List.length_drop, Array.length_toList]
    omega
   ·cases h
  ·cases h
theorem xO : ∀ (n : Nat) (l : List AV), (rep n l).length = n * l.length ∧ ∀ (i : Nat), i < n * l.length -> (rep n l)[i]? = l[i % l.length]?
 | 0, l => ⟨by simp [rep], fun i h => by omega⟩
 | n + 1, l => by
  obtain ⟨h1, h2⟩ := xO n l
  refine ⟨by simp [rep, h1, Nat.succ_mul, Nat.add_comm], fun i hi => ?_⟩
  simp only [rep]
  rcases Nat.lt_or_ge i l.length with h | h
  ·rw [List.getElem?_append_left h, Nat.mod_eq_of_lt h]
  ·rw [List.getElem?_append_right h, h2 _ (by rw [Nat.succ_mul] at hi; omega)]
   congr 1
   rw [Nat.mod_eq_sub_mod h]
theorem zY {z : List AV} {zs : Array Value} (hz : AV.aF β z zs.toList) (n : Nat) : AV.aF β (rep n z) ((Array.range (n * zs.size)).map fun i => zs[i % zs.size]!).toList := by
 have hl : z.length = zs.size := hz.length.trans Array.length_toList
 refine AV.aF.Qb (by simp [xO, hl]) fun i a ha => ?_
 have hi : i < n * z.length := by
  have := (List.getElem?_eq_some_iff.1 ha).1
  rwa [(xO n z).1] at this
 rw [(xO n z).2 i hi] at ha
 obtain ⟨x, hx, hrel⟩ := hz.get ha
 refine ⟨x, ?_, hrel⟩
 rw [hl] at hi hx
 rw [Array.getElem?_toList] at hx
 rw [Array.toList_map, List.getElem?_map, Array.getElem?_toList, Array.getElem?_range, if_pos hi]
 simp only [Option.map_some]
 rw [getElem!_def, hx]
theorem Tj (hI : TOK P I) (he : kW β evf ρ) {t : TypeId} {ps : List (Nat × Operand)} {v : AV} (h : Qg I evf t ps = some v) :
  ∃ y, (Instr.build t (ps.map fun p => (p.1, ρ p.2)).toArray).run P w = .ok y w ∧ v.Rel β y := by
 unfold Qg at h
 replace h := aA h; obtain ⟨ti, hti, h⟩ := h
 have ok := hI _ _ hti
 obtain ⟨z, hz, hzr, _, hzl, hzs, _⟩ := ok.zero (w := w)
 split at h
 ·rename_i fs hk
  replace h := aD h; obtain ⟨hkn, h⟩ := h
  replace h := aA h; obtain ⟨l, hl, h⟩ := h
  simp only [Option.some.injEq] at h
  subst h
  obtain ⟨ff, hff, rfl⟩ := ok.struct hk
  have hall : ∀ f ∈ ff.toList, ∃ fi, I.get f.type = some fi := by
   have key : ∀ fs : List (Nat × TypeId), xB I fs = true -> ∀ p ∈ fs, ∃ fi, I.get p.2 = some fi := by
    intro fs
    induction fs with
    | nil => intro _ p hp; cases hp
    | cons q fs ih =>
     intro h p hp
     simp only [xB, Bool.and_eq_true] at h
     cases hp with
     | head =>
      have := h.1
      split at this
      ·rename_i x hx; exact ⟨x, hx⟩
      ·cases this
     | tail _ hp => exact ih h.2 p hp
   intro f hf
   exact key _ hkn (f.offset, f.type) (List.mem_map.2 ⟨f, hf, rfl⟩)
  have hmap : ∀ (l : List Field), (∀ f ∈ l, ∃ fi, I.get f.type = some fi) -> ∀ acc : Array (Nat × Nat),
    (l.foldlM (fun (acc : Array (Nat × Nat)) f => do pure (acc.push (f.offset, <- sizeOf f.type))) acc : Sem (Array (Nat × Nat))).run P w = .ok (acc ++ (l.map fun f => (f.offset, ((I.get f.type).map (·.size)).getD 0)).toArray) w := by
   intro l
   induction l with
   | nil => intro _ acc; simp
   | cons f l ih =>
    intro hl acc
    obtain ⟨tf, htf⟩ := hl f (.head _)
    simp only [List.foldlM_cons, Sem.run_bind, (hI _ _ htf).sizeOf, Result.andThen_ok, Sem.run_pure]
    rw [ih (fun g hg => hl g (.tail _ hg))]
    simp [htf]
  have Im : (ff.mapM (fun f => do pure (f.offset, <- sizeOf f.type)) : Sem (Array (Nat × Nat))).run P w = .ok ((ff.toList.map fun f => (f.offset, ((I.get f.type).map (·.size)).getD 0)).toArray) w := by
   rw [Array.mapM_eq_foldlM, <- Array.foldlM_toList]
   have := hmap ff.toList hall #[]
   simp only [bind_pure_comp] at this ⊢
   simpa using this
  obtain ⟨vs', k1, k2, _⟩ := qN he (places := fun i => (((ff.toList.map fun f => (f.offset, ((I.get f.type).map (·.size)).getD 0)).toArray)[i]? : Option (Nat × Nat))) (fun i p h => by
   simp only [List.getElem?_map] at h
   split at h
   ·rename_i q hq
    rw [Option.map_eq_some_iff] at hq
    obtain ⟨fd, hfd, rfl⟩ := hq
    split at h
    ·rename_i fi hfi
     simp only [Option.some.injEq] at h
     subst h
     simp [hfd, hfi]
    ·cases h
   ·cases h) hl (hzr β)
  refine ⟨.agg vs', ?_, vs'.toList, by simp, k2⟩
  simp only [Instr.build, Sem.run_bind, hz, Result.andThen_ok, run_underlying hff, Im]
  rw [k1]
  rfl
 ·rename_i n e hk
  replace h := aA h; obtain ⟨ei, hei, h⟩ := h
  replace h := aA h; obtain ⟨l, hl, h⟩ := h
  simp only [Option.some.injEq] at h
  subst h
  have hs := (hI _ _ hei).sizeOf (w := w)
  obtain ⟨vs', k1, k2, _⟩ := qN he (places := fun i => some (i * ei.size, ei.size)) (fun i p h => h) hl (hzr β)
  refine ⟨.agg vs', ?_, vs'.toList, by simp, k2⟩
  simp [Instr.build, hz, run_underlying (ok.arr hk), hs, k1]
 ·cases h
end
end Go.Ce
namespace Go.Ce
section
variable {P : Program} {lo : Nat} {β : Bt} {A : W} {w : World} {I : T CI} {evf : Operand -> Option AV} {ρ : Operand -> Value}
theorem Ck (n : Nat) : (askRoom n).run P w = .ok () w := by
 unfold askRoom
 split <;> rfl
theorem Xl (hI : TOK P I) (hW : aL lo β A w) {e : TypeId} {ei : CI} {A' : W} (he : I.get e = some ei) (h : cnd (Wz ei.k ei.zero) (jZ A (.typed e ei.zero)) (kM A ei.zero) = some A') : Gives P lo β A w (Instr.alloc e true (.tuple #[])) (.pt A.nx 0) A' := by
 obtain ⟨z, hz, hzr, _⟩ := (hI _ _ he).zero (w := w)
 cases hb : Wz ei.k ei.zero with
 | false =>
  rw [hb] at h
  refine ⟨_, _, _, ?_, nX hW h z.cells e (hzr β), w.heap.size, 0, _, upd_same _ _ _, rfl⟩
  simp [Instr.alloc, hz, newVar, newRow]
 | true =>
  rw [hb] at h
  obtain ⟨h1, h2, h3⟩ := dL w (.cells z.cells e)
  refine ⟨_, _, _, ?_, jL hW h (n := z.cells.size) h1 h2 ⟨rfl, z.cells, h3, rfl, by rw [(hzr β).length]; simp, fun i v hi => ?_⟩ rfl rfl rfl, w.heap.size, 0, _, upd_same _ _ _, rfl⟩
  ·simp [Instr.alloc, hz, newVar, newRow]
  ·obtain ⟨x, hx, hrel⟩ := (hzr β).get hi
   exact ⟨x, by simpa using hx, hrel.mono (fV hW _)⟩
theorem zCi (hW : aL lo β A w) {e : TypeId} {v : AV} {u : Value} {A' : W} (hu : v.Rel β u) (h1 : eP v.cells = true) (h : cnd (zCa v) (jZ A (.typed e v.cells)) (kM A v.cells) = some A') : Gives P lo β A w (Instr.box e u) (.pt A.nx 0) A' := by
 cases hb : zCa v with
 | false =>
  rw [hb] at h
  refine ⟨_, _, _, ?_, nX hW h u.cells e (tJ hu h1), w.heap.size, 0, _, upd_same _ _ _, rfl⟩
  simp [Instr.box, newVar, newRow]
 | true =>
  rw [hb] at h
  have hr := tJ hu h1
  obtain ⟨k1, k2, k3⟩ := dL w (.cells u.cells e)
  refine ⟨_, _, _, ?_, jL hW h (n := u.cells.size) k1 k2 ⟨rfl, u.cells, k3, rfl, by rw [hr.length]; simp, fun i v hi => ?_⟩ rfl rfl rfl, w.heap.size, 0, _, upd_same _ _ _, rfl⟩
  ·simp [Instr.box, newVar, newRow]
  ·obtain ⟨x, hx, hrel⟩ := hr.get hi
   exact ⟨x, by simpa using hx, hrel.mono (fV hW _)⟩
theorem Qq (hW : aL lo β A w) {t : TypeId} {A' : W} (h : jZ A (.map [] 0) = some A') : Gives P lo β A w (Instr.makeMap t none) (.mp A.nx) A' := by
 obtain ⟨h1, h2, h3⟩ := dL w (.map #[] 0)
 refine ⟨_, _, _, ?_, jL (n := 0) hW h h1 h2 ⟨rfl, [], h3, rfl⟩ rfl rfl rfl, w.heap.size, 0, upd_same _ _ _, rfl⟩
 simp [Instr.makeMap]
theorem Dt (hI : TOK P I) (hW : aL lo β A w) (he : kW β evf ρ) {t : TypeId} {n : Nat} {ps : List (Nat × Operand)} {v : AV} {A' : W} (h : uL I evf A t n ps = some (v, A')) :
  Gives P lo β A w (Instr.buildSlice t n (ps.map fun p => (p.1, ρ p.2)).toArray) v A' := by
 unfold uL at h
 replace h := aA h; obtain ⟨ti, hti, h⟩ := h
 have ok := hI _ _ hti
 split at h
 ·rename_i e hk
  replace h := aA h; obtain ⟨ei, hei, h⟩ := h
  replace h := aD h; obtain ⟨hc, h⟩ := h
  replace h := aA h; obtain ⟨cs, hcs, h⟩ := h
  replace h := aA h; obtain ⟨A1, hA, h⟩ := h
  simp only [Option.some.injEq, Prod.mk.injEq] at h
  obtain ⟨rfl, rfl⟩ := h
  rw [Bool.and_eq_true, Nat.ble_eq, Nat.blt_eq] at hc
  obtain ⟨z, hz, hzr, _, hzl, hzs, _⟩ := (hI _ _ hei).zero (w := w)
  have hs := (hI _ _ hei).sizeOf (w := w)
  have hz' : ∃ zs : Array Value, (if n * ei.size = 0 then pure #[] else do pure (<- zeroValue e).cells : Sem (Array Value)).run P w = .ok zs w ∧ AV.aF β (rep n ei.zero) ((Array.range (n * ei.size)).map fun i => zs[i % zs.size]!).toList := by
   by_cases h0 : n * ei.size = 0
   ·refine ⟨#[], by simp [h0], ?_⟩
    have : n = 0 := by
     rcases Nat.mul_eq_zero.1 h0 with h | h
     ·exact h
     ·omega
    subst this
    simp [rep, AV.aF]
   ·refine ⟨z.cells, by simp [h0, hz], ?_⟩
    have := zY (hzr β) n
    rw [show n * z.cells.size = n * ei.size by rw [hzs]] at this
    exact this
  obtain ⟨zs, qO, iP⟩ := hz'
  obtain ⟨vs', k1, k2, k3⟩ := qN he (places := fun i => some (i * ei.size, ei.size)) (fun i p h => h) hcs iP
  have hvs : vs'.size = n * ei.size := by rw [k3]; simp
  have hle : n <= n * ei.size := Nat.le_mul_of_pos_right n hc.2
  refine ⟨.slice (some ⟨w.heap.size, 0, none⟩) n n, _, _, ?_, nX hW hA vs' e k2, w.heap.size, 0, vs'.size, n, upd_same _ _ _, rfl, rfl, Nat.le_refl _, by simp only [maxLen]; omega, by rw [hvs]; omega⟩
  have h24 : ¬ (n * ei.size > 2 ^ 24) := by omega
  by_cases h0 : n * ei.size = 0
  ·have e0 : zs = #[] := by
    simp only [h0, if_true, Sem.run_pure, Result.ok.injEq, and_true] at qO
    exact qO.symm
   subst e0
   rw [h0] at k1
   simp only [Instr.buildSlice, Sem.run_bind, run_underlying (ok.slice hk), Result.andThen_ok, hs, h0, if_true, Sem.run_pure, Nat.zero_le, gt_iff_lt, Nat.not_lt_zero, if_false, k1]
   simp [newRow]
  ·have e0 : zs = z.cells := by
    simp only [h0, if_false, Sem.run_bind, hz, Result.andThen_ok, Sem.run_pure, Result.ok.injEq, and_true] at qO
    exact qO.symm
   subst e0
   simp only [Instr.buildSlice, Sem.run_bind, run_underlying (ok.slice hk), Result.andThen_ok, hs, h24, h0, if_false, hz, Sem.run_pure, k1]
   simp [newRow]
 ·cases h
theorem Gr (hI : TOK P I) (hW : aL lo β A w) {t : TypeId} {l c v : AV} {A' : W} {lv cv : Value} (h : xC I A t l c = some (v, A')) (hl : l.Rel β lv) (hc : c.Rel β cv) : Gives P lo β A w (Instr.makeSlice t lv cv) v A' := by
 unfold xC at h
 replace h := aA h; obtain ⟨ti, hti, h⟩ := h
 replace h := aA h; obtain ⟨ln, hln, h⟩ := h
 replace h := aA h; obtain ⟨cn, hcn, h⟩ := h
 have ok := hI _ _ hti
 split at h
 ·rename_i e hk
  replace h := aA h; obtain ⟨ei, hei, h⟩ := h
  replace h := aD h; obtain ⟨hcc, h⟩ := h
  replace h := aA h; obtain ⟨A1, hA, h⟩ := h
  simp only [Option.some.injEq, Prod.mk.injEq] at h
  obtain ⟨rfl, rfl⟩ := h
  simp only [Bool.and_eq_true, Nat.ble_eq, Nat.blt_eq] at hcc
  obtain ⟨⟨⟨⟨c1, c2⟩, c3⟩, c4⟩, c5⟩ := hcc
  obtain ⟨kl, rfl⟩ := bX hln hl
  obtain ⟨kc, rfl⟩ := bX hcn hc
  obtain ⟨z, hz, hzr, _, hzl, hzs, _⟩ := (hI _ _ hei).zero (w := w)
  obtain ⟨ii, zz, hi1, hi2, hi3, _⟩ := (hI _ _ hei).i
  have hs := (hI _ _ hei).sizeOf (w := w)
  have wr : ∀ k : Nat, k <= 1000000 -> IntKind.i64.wrap (k : Int) = (k : Int) := fun k hk => by
   rw [IntKind.wrap_i64]; omega
  have hz' : ∃ zs : Array Value, (if cn * ei.size = 0 then pure #[] else do pure (<- zeroValue e).cells : Sem (Array Value)).run P w = .ok zs w ∧ AV.aF β (rep cn ei.zero) ((Array.range (cn * ei.size)).map fun i => zs[i % zs.size]!).toList := by
   by_cases h0 : cn * ei.size = 0
   ·refine ⟨#[], by simp [h0], ?_⟩
    have : cn = 0 := by
     rcases Nat.mul_eq_zero.1 h0 with h | h
     ·exact h
     ·omega
    subst this
    simp [rep, AV.aF]
   ·refine ⟨z.cells, by simp [h0, hz], ?_⟩
    have := zY (hzr β) cn
    rw [show cn * z.cells.size = cn * ei.size by rw [hzs]] at this
    exact this
  obtain ⟨zs, qO, iP⟩ := hz'
  have hvs : ((Array.range (cn * ei.size)).map fun i => zs[i % zs.size]!).size = cn * ei.size := by simp
  refine ⟨.slice (some ⟨w.heap.size, 0, none⟩) ln cn, _, _, ?_, nX hW hA _ e iP, w.heap.size, 0, _, cn, upd_same _ _ _, rfl, rfl, c1, by simp only [maxLen]; omega, by rw [hvs]; omega⟩
  have e1 : (↑cn : Int).toNat = cn := by simp
  have e2 : (↑ln : Int).toNat = ln := by simp
  have b1 : ¬ ((ei.bytes : Int) * (cn : Int) > 2 ^ 48) := by
   have : (ei.bytes : Int) * (cn : Int) = ((cn * ei.bytes : Nat) : Int) := by push_cast; exact Int.mul_comm _ _
   omega
  have b2 : ¬ ((cn : Int) < 0) := by omega
  have b3 : ¬ ((ln : Int) < 0) := by omega
  have b4 : ¬ ((ln : Int) > (cn : Int)) := by omega
  by_cases h0 : cn * ei.size = 0
  ·have e0 : zs = #[] := by
    simp only [h0, if_true, Sem.run_pure, Result.ok.injEq, and_true] at qO
    exact qO.symm
   subst e0
   simp only [Instr.makeSlice, Sem.run_bind, run_underlying (ok.slice hk), Result.andThen_ok, asInt, asIntOf, Sem.run_pure, typeInfo, run_program, hi1, hi3, wr cn (by omega), wr ln (by omega), b1, b2, b3, b4, decide_false, Bool.or_false, Bool.false_eq_true, if_false, Ck, hs, e1, e2, h0, if_true]
   simp [newRow]
  ·have e0 : zs = z.cells := by
    simp only [h0, if_false, Sem.run_bind, hz, Result.andThen_ok, Sem.run_pure, Result.ok.injEq, and_true] at qO
    exact qO.symm
   subst e0
   simp only [Instr.makeSlice, Sem.run_bind, run_underlying (ok.slice hk), Result.andThen_ok, asInt, asIntOf, Sem.run_pure, typeInfo, run_program, hi1, hi3, wr cn (by omega), wr ln (by omega), b1, b2, b3, b4, decide_false, Bool.or_false, Bool.false_eq_true, if_false, Ck, hs, e1, e2, h0, hz]
   simp [newRow]
 ·cases h
theorem Zx (hI : TOK P I) (hW : aL lo β A w) {t ty : TypeId} {x v : AV} {u : Value} (h : zCd I A t x = some v) (hu : x.Rel β u) : ∃ y, (Builtin.len_ #[t] ty #[u]).run P w = .ok y w ∧ v.Rel β y := by
 unfold zCd at h
 replace h := aA h; obtain ⟨ti, hti, h⟩ := h
 have ok := hI _ _ hti
 split at h
 ·rename_i s hk
  rw [bR] at h
  simp only [Option.some.injEq] at h
  subst h
  obtain ⟨ba, rfl, rfl⟩ := hu
  refine ⟨goInt ba.size, by simp [Builtin.len_, run_underlying (ok.str hk)], ?_⟩
  rw [len_eq, List.length_map, <- rA]
  rfl
 ·rename_i e hk
  simp only [Option.some.injEq] at h
  subst h
  simp only [AV.Rel] at hu
  subst hu
  exact ⟨goInt 0, by simp [Builtin.len_, run_underlying (ok.slice hk)], rfl⟩
 ·rename_i e id off n c sz ex hk
  simp only [Option.some.injEq] at h
  subst h
  obtain ⟨_, _, _, _, _, rfl, _⟩ := hu
  exact ⟨goInt n, by simp [Builtin.len_, run_underlying (ok.slice hk)], rfl⟩
 ·rename_i e z hk
  simp only [Option.some.injEq] at h
  subst h
  obtain ⟨_, _, rfl, _⟩ := hu
  exact ⟨goInt 0, by simp [Builtin.len_, run_underlying (ok.slice hk)], rfl⟩
 ·rename_i n e hk
  simp only [Option.some.injEq] at h
  subst h
  exact ⟨goInt n, by simp [Builtin.len_, run_underlying (ok.arr hk)], rfl⟩
 ·rename_i hk
  simp only [Option.some.injEq] at h
  subst h
  simp only [AV.Rel] at hu
  subst hu
  exact ⟨goInt 0, by simp [Builtin.len_, run_underlying (ok.map hk)], rfl⟩
 ·rename_i id hk
  split at h
  ·rename_i es clk hB
   rw [bR] at h
   simp only [Option.some.injEq] at h
   subst h
   obtain ⟨b, o, n, hb, hlt, _, ms, hm, hr⟩ := hW.blk _ _ hB
   obtain ⟨b', n', hb', rfl⟩ := hu
   rw [hb] at hb'
   simp only [Option.some.injEq, Prod.mk.injEq] at hb'
   obtain ⟨rfl, _⟩ := hb'
   have hl : ∀ {es : List (AV × AV × Nat)} {ms : List MapEntry}, aK β es ms -> es.length = ms.length := by
    intro es
    induction es with
    | nil => intro ms h; simp only [aK] at h; subst h; rfl
    | cons e es ih => intro ms h; obtain ⟨x, xs, rfl, _, _, _, h⟩ := h; simp [ih h]
   refine ⟨goInt ms.length, by simp [Builtin.len_, run_underlying (ok.map hk), getObj, Sem.run, hm], ?_⟩
   rw [len_eq, hl hr]
   rfl
  ·cases h
 ·cases h
theorem Zy (hI : TOK P I) {t ty : TypeId} {x v : AV} {u : Value} (h : zCe I t x = some v) (hu : x.Rel β u) : ∃ y, (Builtin.cap_ #[t] ty #[u]).run P w = .ok y w ∧ v.Rel β y := by
 unfold zCe at h
 replace h := aA h; obtain ⟨ti, hti, h⟩ := h
 have ok := hI _ _ hti
 split at h
 ·rename_i e hk
  simp only [Option.some.injEq] at h
  subst h
  simp only [AV.Rel] at hu
  subst hu
  exact ⟨goInt 0, by simp [Builtin.cap_, run_underlying (ok.slice hk)], rfl⟩
 ·rename_i e hk
  simp only [Option.some.injEq] at h
  subst h
  obtain ⟨_, c, rfl, _, hz⟩ := hu
  have := hz rfl
  subst this
  exact ⟨goInt 0, by simp [Builtin.cap_, run_underlying (ok.slice hk)], rfl⟩
 ·rename_i e id off n c sz hk
  simp only [Option.some.injEq] at h
  subst h
  obtain ⟨_, _, _, C, _, rfl, hc, _⟩ := hu
  simp only [wX] at hc
  subst hc
  exact ⟨goInt C, by simp [Builtin.cap_, run_underlying (ok.slice hk)], rfl⟩
 ·cases h
end
end Go.Ce
