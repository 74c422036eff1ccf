/- Part of a proof over this seat: a library of my own, and what it says of this seat. No statement is proved here. -/
import Derived.Test.YtfpipcafiocdoaaGreatDoorPartBL
import Derived.Test.YtfpipcafiocdoaaGreatDoorPartBN
namespace Go.Dec
set_option linter.unusedSimpArgs false
abbrev WSt : Type := List (List (List UInt8)) × Bool × Int × List (List UInt8) × List Int × List Int × Unit
def WGo (n : Nat) (s : List UInt8) (b : Nat) (x y : WSt) : Prop := ∃ k, k <= b ∧ ∀ m, fix (aU n) (m + k) (s, x) = fix (aU n) m (s, y)
theorem WGo.refl {n : Nat} {s : List UInt8} {b : Nat} (x : WSt) : WGo n s b x x := ⟨0, Nat.zero_le _, fun _ => rfl⟩
theorem WGo.trans {n : Nat} {s : List UInt8} {a b : Nat} {x y z : WSt} (h : WGo n s a x y) (h' : WGo n s b y z) : WGo n s (a + b) x z := by
 obtain ⟨k, hk, h⟩ := h
 obtain ⟨j, hj, h'⟩ := h'
 exact ⟨j + k, by omega, fun m => by rw [<- Nat.add_assoc, h, h']⟩
theorem WGo.mono {n : Nat} {s : List UInt8} {a b : Nat} {x y : WSt} (h : WGo n s a x y) (hb : a <= b) : WGo n s b x y := by
 obtain ⟨k, hk, h⟩ := h
 exact ⟨k, by omega, h⟩
theorem WGo.one {n : Nat} {s : List UInt8} {x y : WSt} (h : ∀ m, fix (aU n) (m + 1) (s, x) = fix (aU n) m (s, y)) : WGo n s 1 x y := ⟨1, Nat.le_refl _, h⟩
section
variable {n : Nat} {s : List UInt8} (hs : s.length <= 100000) {out : List (List (List UInt8))} {inn : Bool} {stage : List (List UInt8)} {beg word : List Int}
include hs
theorem Vf {pre rest : List UInt8} {c : UInt8} (hp : s = pre ++ c :: rest) (hc : c = 32 ∨ c = 9) (hst : stage.length <= 1000) :
  WGo n s 1 (out, inn, (pre.length : Int), stage, beg, word, ()) (out, false, ((pre.length + 1 : Nat) : Int), Bv inn stage word, beg, [], ()) := by
 refine .one fun m => ?_
 have hlen : s.length = pre.length + rest.length + 1 := by rw [hp]; simp; omega
 rw [xV, aU]
 simp only
 rw [eX (decide_eq_true (by omega)), bE (Fa (by omega)), nJ hp]
 have blank : dG n (fix (aU n) m) (s, (c.toNat : Int), true, out, inn, (pre.length : Int), stage, beg, word, ()) = fix (aU n) m (s, out, false, ((pre.length + 1 : Nat) : Int), Bv inn stage word, beg, [], ()) := by
  rw [dG]
  simp only
  rw [zLo, Pk (by omega), kH]
  simp only
  rw [qA (by omega) (by omega)]
  rfl
 rcases hc with rfl | rfl
 ·rw [eX (by rfl), qG, blank]
 ·rw [bP (by rfl), qG]
  exact blank
def wV (c : UInt8) : Bool := !((c.toNat : Int) == 32) && (!((c.toNat : Int) == 9) && (!((c.toNat : Int) == 124) && (!((c.toNat : Int) == 35) && (!decide (Go.Lib.indexByte [10, 59, 38, 60, 62, 40, 41, 36, 42, 63, 91, 96] (c.toNat : Int).toNat.toUInt8 ≥ 0) && (!((c.toNat : Int) == 39) && (!((c.toNat : Int) == 34) && !((c.toNat : Int) == 92)))))))
omit hs in
theorem zDg : ∀ k : Fin 256, (!st k.val.toUInt8) = true -> wV k.val.toUInt8 = true := by decide +kernel
omit hs in
theorem zGi {c : UInt8} (h : st c = false) : wV c = true := by
 have := zDg ⟨c.toNat, c.toNat_lt⟩
 simp only [Nat.toUInt8_eq, UInt8.ofNat_toNat] at this
 exact this (by rw [h]; rfl)
theorem zGj {pre rest : List UInt8} {c : UInt8} (hp : s = pre ++ c :: rest) (hc : wV c = true) (hst : stage.length <= 1000) (hb : beg.length <= 1000) (hw : word.length <= 100000) :
  WGo n s 1 (out, inn, (pre.length : Int), stage, beg, word, ()) (out, true, ((pre.length + 1 : Nat) : Int), stage, gZ (pre.length : Int) inn stage beg, word ++ [(c.toNat : Int)], ()) := by
 refine .one fun m => ?_
 have hlen : s.length = pre.length + rest.length + 1 := by rw [hp]; simp; omega
 simp only [wV, Bool.and_eq_true, Bool.not_eq_true'] at hc
 obtain ⟨h1, h2, h3, h4, h5, h6, h7, h8⟩ := hc
 have w1 : bS n (inn, (pre.length : Int), stage, beg, ()) = some (true, (pre.length : Int), stage, gZ (pre.length : Int) inn stage beg, ()) := Bu (by omega)
 rw [xV, aU]
 simp only
 rw [eX (decide_eq_true (by omega)), bE (Fa (by omega)), nJ hp, bP h1, qG, h2, dG]
 simp only
 rw [Ez, bP h3, bP h4, Gs, kH, qG, h5, dX]
 simp only
 rw [Ez, bP h6, bP h7, bP h8, w1, kH]
 simp only
 rw [bE (by simp [room]; omega), qA (by omega) (by omega)]
 rfl
theorem Ca {pre a rest : List UInt8} (hp : s = pre ++ 39 :: (a ++ 39 :: rest)) (ha : (39 : UInt8) ∉ a) (hst : stage.length <= 1000) (hb : beg.length <= 1000) (hw : word.length <= 100000) :
  WGo n s 1 (out, inn, (pre.length : Int), stage, beg, word, ()) (out, true, ((pre.length + a.length + 2 : Nat) : Int), stage, gZ (pre.length : Int) inn stage beg, word ++ aI a, ()) := by
 refine .one fun m => ?_
 have hlen : s.length = pre.length + a.length + rest.length + 2 := by rw [hp]; simp; omega
 have w1 : bS n (inn, (pre.length : Int), stage, beg, ()) = some (true, (pre.length : Int), stage, gZ (pre.length : Int) inn stage beg, ()) := Bu (by omega)
 have hdr : s.drop ((pre.length : Int) + 1).toNat = a ++ 39 :: rest := by
  rw [hp, show ((pre.length : Int) + 1).toNat = pre.length + 1 by omega]
  simp
 rw [xV, aU]
 simp only
 rw [eX (decide_eq_true (by omega)), bE (Fa (by omega)), nJ hp, bP (by rfl), qG, show (((39 : UInt8).toNat : Int) == 9) = false from rfl, dG]
 simp only
 rw [Ez, bP (by rfl), bP (by rfl), Gs, kH, qG, show decide (Go.Lib.indexByte [10, 59, 38, 60, 62, 40, 41, 36, 42, 63, 91, 96] ((39 : UInt8).toNat : Int).toNat.toUInt8 ≥ 0) = false by decide, dX]
 simp only
 rw [Ez, eX (by rfl), qA (x := (pre.length : Int) + 1) (by omega) (by omega), bE (by simp; omega), hdr]
 unfold strings_Cut
 simp only
 rw [bE (decide_eq_true (by simp; omega)), kH, zHd, Xt rest ha]
 simp only
 rw [bP (by rfl), w1, kH]
 simp only
 rw [bE (by simp [room]; omega), qA (x := (a.length : Int) + 2) (by omega) (by omega), qA (by omega) (by omega), show (pre.length : Int) + ((a.length : Int) + 2) = ((pre.length + a.length + 2 : Nat) : Int) by omega]
theorem go_back {pre rest : List UInt8} {c : UInt8} (hp : s = pre ++ 92 :: c :: rest) (hc : ¬ c = 10) (hst : stage.length <= 1000) (hb : beg.length <= 1000) (hw : word.length <= 100000) :
  WGo n s 1 (out, inn, (pre.length : Int), stage, beg, word, ()) (out, true, ((pre.length + 2 : Nat) : Int), stage, gZ (pre.length : Int) inn stage beg, word ++ [(c.toNat : Int)], ()) := by
 refine .one fun m => ?_
 have hlen : s.length = pre.length + rest.length + 2 := by rw [hp]; simp; omega
 have w1 : bS n (inn, (pre.length : Int), stage, beg, ()) = some (true, (pre.length : Int), stage, gZ (pre.length : Int) inn stage beg, ()) := Bu (by omega)
 have hp2 : s = (pre ++ [92]) ++ c :: rest := by rw [hp]; simp
 have hg : bH 0 s ((pre.length : Int) + 1) = c := by
  have := nJ (d := (0 : UInt8)) hp2
  have e : ((pre ++ [92]).length : Int) = (pre.length : Int) + 1 := by simp
  rw [e] at this
  exact this
 have hb2 : inB ((pre.length : Int) + 1) s.length = true := zGr (by omega) (by omega)
 have zSy : ((c.toNat : Int) == 10) = false := by
  rw [beq_eq_false_iff_ne]
  intro h
  apply hc
  have : c.toNat = 10 := by omega
  exact UInt8.toNat_inj.1 (by rw [this]; rfl)
 rw [xV, aU]
 simp only
 rw [eX (decide_eq_true (by omega)), bE (Fa (by omega)), nJ hp, bP (by rfl), qG, show (((92 : UInt8).toNat : Int) == 9) = false from rfl, dG]
 simp only
 rw [Ez, bP (by rfl), bP (by rfl), Gs, kH, qG, show decide (Go.Lib.indexByte [10, 59, 38, 60, 62, 40, 41, 36, 42, 63, 91, 96] ((92 : UInt8).toNat : Int).toNat.toUInt8 ≥ 0) = false by decide, dX]
 simp only
 rw [Ez, bP (by rfl), bP (by rfl), eX (by rfl), qA (x := (pre.length : Int) + 1) (by omega) (by omega), bP (by rw [beq_eq_false_iff_ne]; omega), bE hb2, hg, bP zSy, qG, qU]
 simp only
 rw [w1, kH]
 simp only
 rw [qA (x := (pre.length : Int) + 1) (by omega) (by omega), bE hb2, hg, bE (by simp [room]; omega), qA (by omega) (by omega)]
 rfl
omit hs in
theorem wW {p : Int} : gZ p true stage beg = beg := by simp [gZ]
omit hs in
theorem Mi {p : Int} : beg.length <= (gZ p inn stage beg).length := by
 unfold gZ; split <;> simp
theorem Pm : ∀ (w : List UInt8) {pre rest : List UInt8} {inn : Bool} {beg word : List Int}, w ≠ [] -> (∀ c ∈ w, wV c = true) -> s = pre ++ (w ++ rest) -> stage.length <= 1000 -> (gZ (pre.length : Int) inn stage beg).length <= 1000 -> word.length + w.length <= 90000 ->
  WGo n s w.length (out, inn, (pre.length : Int), stage, beg, word, ()) (out, true, ((pre.length + w.length : Nat) : Int), stage, gZ (pre.length : Int) inn stage beg, word ++ aI w, ())
 | [], _, _, _, _, _, h, _, _, _, _, _ => absurd rfl h
 | c :: w, pre, rest, inn, beg, word, _, hc, hp, hst, hb, hw => by
  have hle := Mi (inn := inn) (stage := stage) (beg := beg) (p := (pre.length : Int))
  simp only [List.length_cons] at hw
  have h1 := zGj hs (n := n) (out := out) (inn := inn) (stage := stage) (word := word) (beg := beg) (rest := w ++ rest) (by simpa using hp) (hc c (by simp)) hst (by omega) (by omega)
  cases w with
  | nil => simpa [aI] using h1
  | cons d w =>
   have h2 := Pm (d :: w) (pre := pre ++ [c]) (rest := rest) (inn := true) (beg := gZ (pre.length : Int) inn stage beg) (word := word ++ [(c.toNat : Int)]) (by simp) (fun e h => hc e (List.mem_cons_of_mem _ h)) (by rw [hp]; simp) hst (by rw [wW]; exact hb) (by simp at hw ⊢; omega)
   rw [wW, show (pre ++ [c]).length = pre.length + 1 by simp] at h2
   have h4 := (h1.trans h2).mono (b := (c :: d :: w).length) (by simp; omega)
   rw [show pre.length + (c :: d :: w).length = pre.length + 1 + (d :: w).length by simp; omega]
   simpa [aI] using h4
omit hs in
theorem Kj {a : List UInt8} (h : (39 : UInt8) ∉ a) (r : List UInt8) : bR 39 qt (a ++ r) = a ++ bR 39 qt r := by
 induction a with
 | nil => rfl
 | cons b a ih =>
  have h1 : b ≠ 39 := fun e => h (by simp [e])
  have h2 : (39 : UInt8) ∉ a := fun e => h (by simp [e])
  simp [bR, h1, ih h2]
omit hs in
theorem Xu : ∀ w : List UInt8, (39 : UInt8) ∉ w ∨ ∃ a r, w = a ++ 39 :: r ∧ (39 : UInt8) ∉ a
 | [] => .inl (by simp)
 | c :: w => by
  by_cases h : c = 39
  ·exact .inr ⟨[], w, by simp [h], by simp⟩
  ·rcases Xu w with h2 | ⟨a, r, rfl, h2⟩
   ·exact .inl (by simp [Ne.symm h, h2])
   ·exact .inr ⟨c :: a, r, by simp, by simp [Ne.symm h, h2]⟩
theorem zDh : ∀ (k : Nat) (w : List UInt8) {pre rest : List UInt8} {inn : Bool} {beg word : List Int}, w.length <= k -> s = pre ++ (39 :: (bR 39 qt w ++ 39 :: rest)) -> stage.length <= 1000 -> (gZ (pre.length : Int) inn stage beg).length <= 1000 -> word.length + w.length <= 90000 ->
  WGo n s (2 * w.length + 1) (out, inn, (pre.length : Int), stage, beg, word, ()) (out, true, ((pre.length + (bR 39 qt w).length + 2 : Nat) : Int), stage, gZ (pre.length : Int) inn stage beg, word ++ aI w, ()) := by
 intro k
 induction k with
 | zero =>
  intro w pre rest inn beg word hk hp hst hb hw
  have hle := Mi (inn := inn) (stage := stage) (beg := beg) (p := (pre.length : Int))
  have : w = [] := List.eq_nil_of_length_eq_zero (by omega)
  subst this
  have := Ca hs (n := n) (out := out) (inn := inn) (word := word) (beg := beg) (a := []) (rest := rest) (by simpa [bR] using hp) (by simp) hst (by omega) (by omega)
  simpa [bR, aI] using this
 | succ k ih =>
  intro w pre rest inn beg word hk hp hst hb hw
  have hle := Mi (inn := inn) (stage := stage) (beg := beg) (p := (pre.length : Int))
  rcases Xu w with hno | ⟨a, r, rfl, hno⟩
  ·have e : bR 39 qt w = w := by simpa [bR] using Kj hno []
   rw [e] at hp ⊢
   exact (Ca hs (n := n) (out := out) (inn := inn) (word := word) (beg := beg) (a := w) (rest := rest) hp hno hst (by omega) (by omega)).mono (by omega)
  ·have e : bR 39 qt (a ++ 39 :: r) = a ++ ([39, 92, 39, 39] ++ bR 39 qt r) := by rw [Kj hno]; simp [bR]
   rw [e] at hp ⊢
   simp only [List.length_append, List.length_cons] at hk hw
   have h1 := Ca hs (n := n) (out := out) (inn := inn) (word := word) (beg := beg) (stage := stage) (pre := pre) (a := a) (rest := 92 :: 39 :: 39 :: (bR 39 qt r ++ 39 :: rest)) (by rw [hp]; simp) hno hst (by omega) (by omega)
   have h2 := go_back hs (n := n) (out := out) (inn := true) (stage := stage) (word := word ++ aI a) (beg := gZ (pre.length : Int) inn stage beg) (pre := pre ++ 39 :: (a ++ [39])) (c := 39) (rest := 39 :: (bR 39 qt r ++ 39 :: rest)) (by rw [hp]; simp) (by decide) hst (by omega) (by simp [jM]; omega)
   rw [wW, show (pre ++ 39 :: (a ++ [39]) : List UInt8).length = pre.length + a.length + 2 by simp; omega] at h2
   have h3 := ih r (pre := pre ++ 39 :: (a ++ [39, 92, 39])) (rest := rest) (inn := true) (beg := gZ (pre.length : Int) inn stage beg) (word := word ++ aI a ++ [39]) (by omega) (by rw [hp]; simp) hst (by rw [wW]; exact hb) (by simp [jM]; omega)
   rw [wW, show (pre ++ 39 :: (a ++ [39, 92, 39]) : List UInt8).length = pre.length + a.length + 2 + 2 by simp; omega] at h3
   have h4 := ((h1.trans h2).trans h3).mono (b := 2 * (a ++ 39 :: r).length + 1) (by simp; omega)
   rw [show pre.length + (a ++ ([39, 92, 39, 39] ++ bR 39 qt r) : List UInt8).length + 2 = pre.length + a.length + 2 + 2 + (bR 39 qt r).length + 2 by simp; omega]
   rw [show aI (a ++ 39 :: r) = aI a ++ ([39] ++ aI r) by simp [aI]]
   simpa [List.append_assoc] using h4
theorem Dk {w pre rest : List UInt8} (hp : s = pre ++ (qS w ++ rest)) (hst : stage.length <= 1000) (hb : (gZ (pre.length : Int) inn stage beg).length <= 1000) (hw : word.length + w.length <= 90000) :
  WGo n s (2 * w.length + 1) (out, inn, (pre.length : Int), stage, beg, word, ()) (out, true, ((pre.length + (qS w).length : Nat) : Int), stage, gZ (pre.length : Int) inn stage beg, word ++ aI w, ()) := by
 unfold qS at hp ⊢
 split
 ·rename_i h
  rw [if_pos h] at hp
  simp only [Bool.and_eq_true, Bool.not_eq_true'] at h
  have hne : w ≠ [] := by
   intro e
   rw [e] at h
   simp at h
  have hall : ∀ c ∈ w, wV c = true := fun c hc => zGi (by
   have := h.2
   rw [List.any_eq_false] at this
   simpa using this c hc)
  exact (Pm hs w hne hall hp hst hb hw).mono (by omega)
 ·rename_i h
  rw [if_neg h] at hp
  have := zDh hs w.length w (n := n) (out := out) (inn := inn) (word := word) (beg := beg) (rest := rest) (Nat.le_refl _) (by rw [hp]; simp) hst hb hw
  rw [show ([39] ++ bR 39 qt w ++ [39] : List UInt8).length = (bR 39 qt w).length + 2 by simp]
  simpa [Nat.add_assoc] using this
omit hs in
theorem zDi {m : Nat} (hm : 0 < m) (hst : stage.length <= 1000) (ho : out.length <= 1000) (hne : Bv inn stage word ≠ []) :
  fix (aU n) m (s, out, inn, (s.length : Int), stage, beg, word, ()) = iY n (out ++ [Bv inn stage word], (s.length : Int), beg, ()) := by
 rw [wI hm, aU]
 simp only
 rw [bP (by simp), Pk (by omega), kH]
 simp only
 have he : (if inn = true then stage ++ [gN word] else stage) = Bv inn stage word := rfl
 simp only [he]
 have hp : 0 < (Bv inn stage word).length := List.length_pos_iff.2 hne
 rw [eX (decide_eq_true (by omega)), bE (by simp [room]; omega), qG]
omit hs in
end
end Go.Dec
namespace Go.Dec
set_option linter.unusedSimpArgs false
theorem Kk {st : List (List UInt8)} {w : List UInt8} : Bv true st (aI w) = st ++ [w] := by simp [Bv, zBe]
theorem sV {p : Int} {inn : Bool} {st : List (List UInt8)} {beg : List Int} (h : st ≠ []) : gZ p inn st beg = beg := by simp [gZ, h]
theorem zPx {p : Int} {beg : List Int} : gZ p false [] beg = beg ++ [p] := by simp [gZ]
theorem zDj {n b : Nat} {s : List UInt8} {y : WSt} (h : WGo n s b ([], false, 0, [], [], [], ()) y) (hb : b < n) : ∃ m, 0 < m ∧ kY n s = fix (aU n) m (s, y) := by
 obtain ⟨k, hk, h⟩ := h
 refine ⟨n - k, by omega, ?_⟩
 have := h (n - k)
 rw [show n - k + k = n by omega] at this
 exact this
theorem zDk : qS [115, 101, 100] = [115, 101, 100] := by decide
theorem zPy : qS [120] = [120] := by decide
theorem Vg {n : Nat} {a b : List UInt8} (ha : a.length <= 100) (hb : b.length <= 100) (hn : 2000 <= n) : kY n ((([115, 101, 100, 32] ++ qS a) ++ qS b) ++ [32, 120]) = some ([[[115, 101, 100], a ++ b, [120]]], 0, 0) := by
 have la := Ki a
 have lb := Ki b
 generalize hs : ((([115, 101, 100, 32] ++ qS a) ++ qS b) ++ [32, 120] : List UInt8) = s
 have hsl : s.length = (qS a).length + (qS b).length + 6 := by rw [<- hs]; simp; omega
 have hs0 : s.length <= 100000 := by omega
 have h1 := Dk hs0 (n := n) (out := []) (inn := false) (stage := []) (beg := []) (word := []) (w := [115, 101, 100]) (pre := []) (rest := [32] ++ qS a ++ qS b ++ [32, 120]) (by rw [zDk, <- hs]; simp) (by simp) (by simp [gZ]) (by simp)
 rw [zDk] at h1
 simp only [List.length_nil, List.length_cons, Nat.zero_add, List.nil_append] at h1
 rw [show ((0 : Nat) : Int) = 0 from rfl, zPx, List.nil_append] at h1
 have h2 := Vf hs0 (n := n) (out := []) (inn := true) (stage := []) (beg := [0]) (word := aI [115, 101, 100]) (pre := [115, 101, 100]) (rest := qS a ++ qS b ++ [32, 120]) (c := 32) (by rw [<- hs] <;> simp) (.inl rfl) (by simp)
 rw [Kk] at h2
 have h3 := Dk hs0 (n := n) (out := []) (inn := false) (stage := [[115, 101, 100]]) (beg := [0]) (word := []) (w := a) (pre := [115, 101, 100, 32]) (rest := qS b ++ [32, 120]) (by rw [<- hs] <;> simp) (by simp) (by rw [sV (by simp)]; simp) (by simp; omega)
 rw [sV (by simp), List.nil_append] at h3
 have h4 := Dk hs0 (n := n) (out := []) (inn := true) (stage := [[115, 101, 100]]) (beg := [0]) (word := aI a) (w := b) (pre := [115, 101, 100, 32] ++ qS a) (rest := [32, 120]) (by rw [<- hs] <;> simp) (by simp) (by rw [sV (by simp)]; simp) (by simp [jM]; omega)
 rw [sV (by simp), <- Jy] at h4
 have h5 := Vf hs0 (n := n) (out := []) (inn := true) (stage := [[115, 101, 100]]) (beg := [0]) (word := aI (a ++ b)) (pre := [115, 101, 100, 32] ++ qS a ++ qS b) (rest := [120]) (c := 32) (by rw [<- hs] <;> simp) (.inl rfl) (by simp)
 rw [Kk] at h5
 have h6 := Dk hs0 (n := n) (out := []) (inn := false) (stage := [[115, 101, 100]] ++ [a ++ b]) (beg := [0]) (word := []) (w := [120]) (pre := [115, 101, 100, 32] ++ qS a ++ qS b ++ [32]) (rest := []) (by rw [zPy, <- hs]; simp) (by simp) (by rw [sV (by simp)]; simp) (by simp)
 rw [sV (by simp), List.nil_append, zPy] at h6
 have e3 : ([115, 101, 100, 32] : List UInt8).length = ([115, 101, 100] : List UInt8).length + 1 := rfl
 have e4 : ([115, 101, 100, 32] ++ qS a : List UInt8).length = ([115, 101, 100, 32] : List UInt8).length + (qS a).length := by simp; omega
 have e5 : ([115, 101, 100, 32] ++ qS a ++ qS b : List UInt8).length = ([115, 101, 100, 32] ++ qS a : List UInt8).length + (qS b).length := by simp; omega
 have e6 : ([115, 101, 100, 32] ++ qS a ++ qS b ++ [32] : List UInt8).length = ([115, 101, 100, 32] ++ qS a ++ qS b : List UInt8).length + 1 := by simp; omega
 rw [e6, e5, e4, e3] at h6
 rw [e5, e4, e3] at h5
 rw [e4, e3] at h4
 rw [e3] at h3
 have h := ((((h1.trans h2).trans h3).trans h4).trans h5).trans h6
 obtain ⟨m, hm, hr⟩ := zDj h (by simp only [List.length_cons, List.length_nil]; omega)
 rw [hr, show ((([115, 101, 100] : List UInt8).length + 1 + (qS a).length + (qS b).length + 1 + ([120] : List UInt8).length : Nat) : Int) = (s.length : Int) by rw [hsl]; simp; omega]
 rw [zDi hm (by simp) (by simp) (by rw [Kk]; simp), Kk]
 exact zKd (by simp) (by simp; omega) (by simp) (fun l hl => by simp at hl; subst hl; exact ⟨_, rfl⟩)
theorem vJ (x : List UInt8 × List UInt8) : mZ 2000 x = some true := by
 obtain ⟨a, b⟩ := x
 unfold mZ
 simp only
 by_cases h1 : decide ((a.length : Int) > 100) = true
 ·rw [eX h1]; rfl
 ·rw [bP (by simpa using h1)]
  have h1 : ¬ (a.length : Int) > 100 := by simpa using h1
  by_cases h2 : decide ((b.length : Int) > 100) = true
  ·rw [eX h2]; rfl
  ·rw [bP (by simpa using h2)]
   have h2 : ¬ (b.length : Int) > 100 := by simpa using h2
   have la := Ki a
   have lb := Ki b
   rw [show shown21 2000 () = some true from rfl, kH, bP (b := !true) rfl, quote_eq (by omega) (by omega), kH, bE (decide_eq_true (by simp [fE]; omega)), quote_eq (by omega) (by omega), kH,
    bE (decide_eq_true (by simp [fE]; omega)), bE (decide_eq_true (by simp [fE]; omega)), Vg (by omega) (by omega) (Nat.le_refl _), kH]
   simp only
   rw [eX (by rfl), eX (by rfl), bE (by rfl)]
   have hg0 : bH (Ty.dflt (.slice .str)) [[([115, 101, 100] : List UInt8), a ++ b, [120]]] 0 = [[115, 101, 100], a ++ b, [120]] := rfl
   have hg1 : bH (Ty.dflt .str) [([115, 101, 100] : List UInt8), a ++ b, [120]] 1 = a ++ b := rfl
   have hg2 : bH (Ty.dflt .str) [([115, 101, 100] : List UInt8), a ++ b, [120]] 2 = [120] := rfl
   rw [hg0, eX (by rfl), bE (by rfl), bE (by rfl), hg1, bE (decide_eq_true (by simp [fE]; omega)), eX (by simp), bE (by rfl), bE (by rfl), hg2]
   rfl
end Go.Dec
