/- Part of a proof over this seat: a library of my own, and what it says of this seat. No statement is proved here. -/
import Derived.Test.YtlimifngdjkogaaGreatDoorPartBV
import Derived.Test.YtlimifngdjkogaaGreatDoorPartBJ
namespace Go.Dec
abbrev jG := List UInt8 × List UInt8 × Unit
theorem zHy {n : Nat} {t : List jG} (hl : t.length <= maxLen) : ∀ (r pre : List jG) (q : List UInt8) (m : Nat), t = pre ++ r -> r.length < m -> ∃ b, fix (jF n) m (q, t, (t.length : Int), (pre.length : Int), ()) = some b := by
 simp only [maxLen] at hl
 intro r
 induction r with
 | nil =>
  intro pre q m hp hm
  have hp : pre = t := by simpa using hp.symm
  subst hp
  rw [iZ (by omega), jF]
  simp only
  rw [gT (by simp)]
  exact ⟨_, rfl⟩
 | cons c r ih =>
  intro pre q m hp hm
  have hm' : r.length + 1 < m := hm
  have hlen : t.length = pre.length + r.length + 1 := by rw [hp]; simp; omega
  rw [iZ (by omega), jF]
  simp only
  rw [kQ (decide_eq_true (by omega)), oO (Dh (by omega)), oP hp]
  cases (Op.bytesLess c.1 q || c.1 == q) with
  | true => exact ⟨false, rfl⟩
  | false =>
   rw [zBw, Fv (by omega) (by omega)]
   have := ih (pre ++ [c]) c.1 (m - 1) (by rw [hp]; simp) (by omega)
   rwa [show ((pre ++ [c]).length : Int) = (pre.length : Int) + 1 by simp] at this
theorem zHz {n : Nat} {t : List jG} (hl : t.length <= maxLen) (hn : t.length < n) : ∃ b, tV n t = some b := zHy hl t [] [] n rfl hn
theorem zIa {n : Nat} {s : List UInt8} {t : List jG} {names : List (List UInt8)} {v : Int} (ht : t.length <= maxLen) (hn : t.length < n) (hl : names.length <= maxLen) : ∀ (r pre : List (List UInt8)) (m : Nat), names = pre ++ r -> r.length < m ->
  ∃ b, fix (gG n) m (s, t, names, v, (pre.length : Int), ()) = some b ∧ (b = true -> t.length <= 6) := by
 have hl2 := hl
 simp only [maxLen] at hl2
 intro r
 induction r with
 | nil =>
  intro pre m hp hm
  have hp : pre = names := by simpa using hp.symm
  subst hp
  rw [iZ (by omega), gG]
  simp only
  rw [gT (by simp)]
  by_cases h1 : (s.length : Int) <= 80
  ·rw [kQ (decide_eq_true h1)]
   by_cases h2 : v <= 60
   ·rw [kQ (decide_eq_true h2)]
    by_cases h3 : (pre.length : Int) <= 3
    ·rw [kQ (decide_eq_true h3)]
     by_cases h4 : (t.length : Int) <= 6
     ·rw [kQ (decide_eq_true h4)]
      obtain ⟨b, hb⟩ := zHz ht hn
      rw [hb]
      exact ⟨b, rfl, fun _ => by omega⟩
     ·rw [gT (decide_eq_false h4)]
      exact ⟨false, rfl, by simp⟩
    ·rw [gT (decide_eq_false h3)]
     exact ⟨false, rfl, by simp⟩
   ·rw [gT (decide_eq_false h2)]
    exact ⟨false, rfl, by simp⟩
  ·rw [gT (decide_eq_false h1)]
   exact ⟨false, rfl, by simp⟩
 | cons c r ih =>
  intro pre m hp hm
  have hm' : r.length + 1 < m := hm
  have hlen : names.length = pre.length + r.length + 1 := by rw [hp]; simp; omega
  rw [iZ (by omega), gG]
  simp only
  rw [kQ (decide_eq_true (by omega)), oO (Dh (by omega)), oP hp]
  by_cases h1 : (c.length : Int) > 60
  ·rw [kQ (decide_eq_true h1)]
   exact ⟨false, rfl, by simp⟩
  ·rw [gT (decide_eq_false h1), Fv (by omega) (by omega)]
   have := ih (pre ++ [c]) (m - 1) (by rw [hp]; simp) (by omega)
   rwa [show ((pre ++ [c]).length : Int) = (pre.length : Int) + 1 by simp] at this
theorem zIb {n : Nat} {s : List UInt8} {t : List jG} {names : List (List UInt8)} (ht : t.length <= maxLen) (hn : t.length < n) (hl : names.length <= maxLen) (hn2 : names.length < n) : ∀ (r pre : List jG) (v : Int) (m : Nat), t = pre ++ r -> r.length < m ->
  ∃ b, fix (gH n) m (s, t, names, v, (pre.length : Int), ()) = some b ∧ (b = true -> t.length <= 6) := by
 have hl2 := ht
 simp only [maxLen] at hl2
 intro r
 induction r with
 | nil =>
  intro pre v m hp hm
  have hp : pre = t := by simpa using hp.symm
  subst hp
  rw [iZ (by omega), gH]
  simp only
  rw [gT (by simp)]
  exact zIa (n := n) (s := s) (v := v) ht hn hl names [] n rfl hn2
 | cons c r ih =>
  intro pre v m hp hm
  have hm' : r.length + 1 < m := hm
  have hlen : t.length = pre.length + r.length + 1 := by rw [hp]; simp; omega
  rw [iZ (by omega), gH]
  simp only
  rw [kQ (decide_eq_true (by omega)), oO (Dh (by omega)), oP hp]
  by_cases h1 : (c.1.length : Int) > 60
  ·rw [kQ (decide_eq_true h1)]
   exact ⟨false, rfl, by simp⟩
  ·rw [gT (decide_eq_false h1), oO (Dh (by omega)), Fv (x := (pre.length : Int) + 1) (by omega) (by omega)]
   have := ih (pre ++ [c]) (IntKind.wrap .i64 (v + (c.2.1.length : Int))) (m - 1) (by rw [hp]; simp) (by omega)
   rwa [show ((pre ++ [c]).length : Int) = (pre.length : Int) + 1 by simp] at this
theorem zDe {n : Nat} {l : List jG} (hl : l.length <= 6) : ∀ (r pre : List jG) (m : Nat), l = pre ++ r -> r.length < m -> fix (gY n) m (l, (pre.length : Int), pre, ()) = some l := by
 intro r
 induction r with
 | nil =>
  intro pre m hp hm
  have hp : pre = l := by simpa using hp.symm
  subst hp
  rw [iZ (by omega), gY]
  simp only
  rw [gT (by simp)]
 | cons e r ih =>
  intro pre m hp hm
  have hm' : r.length + 1 < m := hm
  have hlen : l.length = pre.length + r.length + 1 := by rw [hp]; simp; omega
  have hi := ih (pre ++ [e]) (m - 1) (by rw [hp]; simp) (by omega)
  rw [show ((pre ++ [e]).length : Int) = (pre.length : Int) + 1 by simp] at hi
  rw [iZ (by omega), gY]
  simp only
  rw [kQ (decide_eq_true (by omega)), oO (Dh (by omega)), oP hp, oO (by simp [room]; omega), Fv (by omega) (by omega)]
  exact hi
theorem zDf {n : Nat} {l : List jG} (hl : l.length <= 6) (hn : 6 < n) : kI n l = some l := zDe hl l [] n rfl (by omega)
theorem zFh {n : Nat} {l : List jG} (hl : l.length <= 6) : ∀ (r pre : List jG) (m : Nat), l = pre ++ r -> r.length < m -> fix (iU n) m (l, l, (pre.length : Int), ()) = some true := by
 intro r
 induction r with
 | nil =>
  intro pre m hp hm
  have hp : pre = l := by simpa using hp.symm
  subst hp
  rw [iZ (by omega), iU]
  simp only
  rw [gT (by simp)]
 | cons e r ih =>
  intro pre m hp hm
  have hm' : r.length + 1 < m := hm
  have hlen : l.length = pre.length + r.length + 1 := by rw [hp]; simp; omega
  have hi := ih (pre ++ [e]) (m - 1) (by rw [hp]; simp) (by omega)
  rw [show ((pre ++ [e]).length : Int) = (pre.length : Int) + 1 by simp] at hi
  have hb : Ty.beq bI e e = true := by simp [Ty.beq, Ty.beq.List.beq']
  rw [iZ (by omega), iU]
  simp only
  rw [kQ (decide_eq_true (by omega)), oO (Dh (by omega)), oO (Dh (by omega)), oP hp, hb, gT (by rfl), Fv (by omega) (by omega)]
  exact hi
theorem same_eq {n : Nat} {l : List jG} (hl : l.length <= 6) (hn : 6 < n) : mI n (l, l) = some true := by
 unfold mI
 simp only
 rw [gT (by simp)]
 exact zFh hl l [] n rfl (by omega)
def mM (x : List UInt8 × List jG × List (List UInt8) × Int) : Option Bool := nL (2000 + x.2.1.length + x.2.2.1.length) x
theorem vZ (x : bQ [.str, .slice bI, .slice .str, .int .i64]) (h : Fq [.str, .slice bI, .slice .str, .int .i64] x) : mM x = some true := by
 obtain ⟨s, t, names, fuel⟩ := x
 have ht : t.length <= maxLen := h.2.1.1
 have hl : names.length <= maxLen := h.2.2.1.1
 unfold mM nL
 generalize hN : 2000 + t.length + names.length = N
 simp only [hN, shown16, zBx, Bool.not_true, zBw]
 by_cases h1 : (s.length : Int) > 200
 ·rw [kQ (decide_eq_true h1)]
 ·rw [gT (decide_eq_false h1)]
  obtain ⟨b, hb, h6⟩ := zIb (n := N) (s := []) (names := names) ht (by omega) hl (by omega) t [] 0 N rfl (by omega)
  unfold kS
  simp only [List.length_nil] at hb ⊢
  rw [show ((0 : Nat) : Int) = 0 from rfl] at hb ⊢
  rw [hb]
  simp only [zBx]
  cases b with
  | false => rfl
  | true =>
   have h7 := h6 rfl
   simp only [Bool.not_true, zBw, tX, oD, jA, zJi, zBx, zDf h7 (show 6 < N by omega), same_eq h7 (show 6 < N by omega)]
   rfl
end Go.Dec
