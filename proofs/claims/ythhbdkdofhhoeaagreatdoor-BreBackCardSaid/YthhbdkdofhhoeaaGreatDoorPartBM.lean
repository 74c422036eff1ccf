/- Part of a proof over this seat: a library of my own, and what it says of this seat. No statement is proved here. -/
import Derived.Test.YthhbdkdofhhoeaaGreatDoorPartBB
import Derived.Test.YthhbdkdofhhoeaaGreatDoorPartAS
namespace Go.Dec
theorem aA {ρ : Type} {b : Bool} (h : b = true) (x : Option ρ) : chk b x = x := by subst h; rfl
theorem aF {ρ : Type} {b : Bool} (h : b = true) (x y : Option ρ) : br b x y = x := by subst h; rfl
theorem aB {ρ : Type} {b : Bool} (h : b = false) (x y : Option ρ) : br b x y = y := by subst h; rfl
@[simp] theorem zY {α γ ρ : Type} (x : α) (k : α -> Option ρ) (k' : γ -> Option ρ) : ob2 (some (.inl x)) k k' = k x := rfl
@[simp] theorem iA {α γ ρ : Type} (x : γ) (k : α -> Option ρ) (k' : γ -> Option ρ) : ob2 (some (.inr x)) k k' = k' x := rfl
theorem Du {ρ α : Type} (f : α -> Option ρ) (x : α) : jn f x = f x := rfl
theorem Lh {ρ α : Type} {B : (α -> Option ρ) -> α -> Option ρ} (st : Nat -> α) {N : Nat} {r : Option ρ}
    (h1 : ∀ i, i < N -> ∀ g, B g (st i) = g (st (i + 1))) (h2 : ∀ g, B g (st N) = r) : ∀ k i n, i + k = N -> k < n -> fix B n (st i) = r := by
  intro k
  induction k with
  | zero => intro i n hi hn; rw [cK hn]; have : i = N := by omega
            subst this; exact h2 _
  | succ k ih => intro i n hi hn; rw [cK (by omega), h1 i (by omega)]; exact ih (i + 1) (n - 1) (by omega) (by omega)
theorem zEn {ρ α : Type} {B : (α -> Option ρ) -> α -> Option ρ} (st : Nat -> α) {lo N : Nat} {r : Option ρ}
    (h1 : ∀ i, lo <= i -> i < N -> ∀ g, B g (st i) = g (st (i + 1))) (h2 : ∀ g, B g (st N) = r) : ∀ k i n, i + k = N -> lo <= i -> k < n -> fix B n (st i) = r := by
  intro k
  induction k with
  | zero => intro i n hi hl hn; rw [cK hn]; have : i = N := by omega
            subst this; exact h2 _
  | succ k ih => intro i n hi hl hn; rw [cK (by omega), h1 i hl (by omega)]; exact ih (i + 1) (n - 1) (by omega) (by omega) (by omega)
theorem oN {f : Nat -> Bool} {n : Nat} (h : (List.range n).all f = true) {i : Nat} (hi : i < n) : f i = true := by
 rw [List.all_eq_true] at h; exact h i (by simpa using hi)
def bn : (Nat -> Bool) -> Nat -> Nat
 | _, 0 => 0
 | f, k + 1 => (f 0).toNat + 2 * bn (fun i => f (i + 1)) k
theorem zHb : ∀ (k : Nat) (f : Nat -> Bool) (j : Nat), (bn f k).testBit j = (decide (j < k) && f j)
 | 0, f, j => by simp [bn]
 | k + 1, f, j => by
  unfold bn
  cases j with
  | zero => simp; cases f 0 <;> simp <;> omega
  | succ j =>
   rw [Nat.testBit_succ]
   have h : ((f 0).toNat + 2 * bn (fun i => f (i + 1)) k) / 2 = bn (fun i => f (i + 1)) k := by cases f 0 <;> simp <;> omega
   rw [h, zHb k]; simp
theorem zOc : ∀ (k : Nat) (f : Nat -> Bool), bn f k < 2 ^ k
 | 0, f => by simp [bn]
 | k + 1, f => by
  have := zOc k (fun i => f (i + 1))
  unfold bn
  cases f 0 <;> simp [Nat.pow_succ] <;> omega
theorem zBe : ∀ (k : Nat) {f g : Nat -> Bool}, (∀ j, j < k -> f j = g j) -> bn f k = bn g k
 | 0, f, g, h => rfl
 | k + 1, f, g, h => by
  unfold bn
  rw [h 0 (by omega), zBe k (fun j hj => h (j + 1) (by omega))]
theorem zSn {x k : Nat} {f : Nat -> Bool} (hx : x < 2 ^ k) (h : ∀ j, j < k -> x.testBit j = f j) : x = bn f k := by
 apply Nat.eq_of_testBit_eq
 intro j
 rw [zHb]
 by_cases hj : j < k
 ·simp [hj, h j hj]
 ·simp only [hj, decide_false, Bool.false_and]
  exact Nat.testBit_lt_two_pow (Nat.lt_of_lt_of_le hx (Nat.pow_le_pow_right (by omega) (by omega)))
def zZ (p : Nat -> Bool) (k : Nat) : Nat := bn (fun j => p (64 * k + j)) 64
def word (p : Nat -> Bool) (k : Nat) : Int := (zZ p k : Nat)
def wd (p : Nat -> Bool) : List Int := [word p 0, word p 1, word p 2, word p 3]
def bx (p : Nat -> Bool) : List Bool := (List.range 256).map p
theorem nW (p : Nat -> Bool) (k : Nat) : zZ p k < 2 ^ 64 := zOc _ _
theorem xA (p : Nat -> Bool) (k j : Nat) : (zZ p k).testBit j = (decide (j < 64) && p (64 * k + j)) := zHb _ _ _
theorem Qe {x k : Nat} {p : Nat -> Bool} (hx : x < 2 ^ 64) (h : ∀ j, j < 64 -> x.testBit j = p (64 * k + j)) : x = zZ p k := zSn hx h
theorem vU {p q : Nat -> Bool} {k : Nat} (h : ∀ i, 64 * k <= i -> i < 64 * k + 64 -> p i = q i) : word p k = word q k := by
 unfold word zZ; rw [zBe 64 (fun j hj => h (64 * k + j) (by omega) (by omega))]
theorem qV {p q : Nat -> Bool} (h : ∀ i, i < 256 -> p i = q i) : wd p = wd q := by
 unfold wd
 rw [vU (fun i _ _ => h i (by omega)), vU (k := 1) (fun i _ _ => h i (by omega)), vU (k := 2) (fun i _ _ => h i (by omega)), vU (k := 3) (fun i _ _ => h i (by omega))]
theorem nX {p q : Nat -> Bool} (h : ∀ i, i < 256 -> p i = q i) : bx p = bx q := by
 unfold bx; apply List.map_congr_left; intro i hi; exact h i (by simpa using hi)
theorem word_inj {p q : Nat -> Bool} {k : Nat} (h : word p k = word q k) {i : Nat} (h1 : 64 * k <= i) (h2 : i < 64 * k + 64) : p i = q i := by
 have h : zZ p k = zZ q k := by unfold word at h; omega
 have := congrArg (fun x => x.testBit (i - 64 * k)) h
 simp only [xA] at this
 rw [show 64 * k + (i - 64 * k) = i by omega] at this
 have h3 : i - 64 * k < 64 := by omega
 simpa [h3] using this
theorem zRl {p q : Nat -> Bool} (h : wd p = wd q) {i : Nat} (hi : i < 256) : p i = q i := by
 simp only [wd, List.cons.injEq, and_true] at h
 obtain ⟨h0, h1, h2, h3⟩ := h
 by_cases a : i < 64
 ·exact word_inj h0 (by omega) (by omega)
 ·by_cases b : i < 128
  ·exact word_inj h1 (by omega) (by omega)
  ·by_cases c : i < 192
   ·exact word_inj h2 (by omega) (by omega)
   ·exact word_inj h3 (by omega) (by omega)
theorem Sq {p : Nat -> Bool} {i : Nat} (d : Bool) (hi : i < 256) : (bx p).getD i d = p i := by
 simp [bx, List.getD_eq_getElem?_getD, hi]
theorem Eu {p : Nat -> Bool} {i : Nat} (b : Bool) : (bx p).set i b = bx (fun j => if j = i then b else p j) := by
 apply List.ext_getElem?
 intro j
 by_cases hj : j < 256
 ·simp only [bx, List.getElem?_set, List.length_map, List.length_range, List.getElem?_map]
  by_cases e : i = j
  ·subst e; simp [hj]
  ·simp [e, Ne.symm e, hj]
 ·simp only [bx, List.getElem?_set, List.length_map, List.length_range, List.getElem?_map]
  simp [hj]
  omega
theorem mR : wd (fun _ => false) = [0, 0, 0, 0] := by decide +kernel
theorem Nb : bx (fun _ => false) = List.replicate 256 false := by decide +kernel
theorem wrapN {x : Nat} (h : x < 2 ^ 64) : IntKind.u64.wrap ((x : Nat) : Int) = x := IntWalk.u64_in _ (by omega)
theorem bvN {x : Nat} (h : x < 2 ^ 64) : (BitVec.ofInt 64 ((x : Nat) : Int)).toNat = x := by
 rw [BitVec.toNat_ofInt]; omega
theorem ior {a b : Nat} (ha : a < 2 ^ 64) (hb : b < 2 ^ 64) : dD .u64 .or (a : Int) (b : Int) = ((a ||| b : Nat) : Int) := by
 show IntKind.u64.wrap ((BitVec.ofInt 64 (a : Int) ||| BitVec.ofInt 64 (b : Int)).toNat : Int) = _
 rw [BitVec.toNat_or, bvN ha, bvN hb]
 exact wrapN (Nat.or_lt_two_pow ha hb)
theorem zTm {a b : Nat} (ha : a < 2 ^ 64) (hb : b < 2 ^ 64) : dD .u64 .xor (a : Int) (b : Int) = ((a ^^^ b : Nat) : Int) := by
 show IntKind.u64.wrap ((BitVec.ofInt 64 (a : Int) ^^^ BitVec.ofInt 64 (b : Int)).toNat : Int) = _
 rw [BitVec.toNat_xor, bvN ha, bvN hb]
 exact wrapN (Nat.xor_lt_two_pow ha hb)
theorem zTn {a b : Nat} (ha : a < 2 ^ 64) (hb : b < 2 ^ 64) : dD .u64 .and (a : Int) (b : Int) = ((a &&& b : Nat) : Int) := by
 show IntKind.u64.wrap ((BitVec.ofInt 64 (a : Int) &&& BitVec.ofInt 64 (b : Int)).toNat : Int) = _
 rw [BitVec.toNat_and, bvN ha, bvN hb]
 exact wrapN (Nat.and_lt_two_pow _ hb)
theorem zPi (p q : Nat -> Bool) (k : Nat) : dD .u64 .or (word p k) (word q k) = word (fun i => p i || q i) k := by
 unfold word
 rw [ior (nW _ _) (nW _ _), Qe (p := fun i => p i || q i) (Nat.or_lt_two_pow (nW p k) (nW q k))]
 intro j hj
 simp [xA, hj]
theorem zPj (j : Nat) : (18446744073709551615 : Nat).testBit j = decide (j < 64) := by
 have := Nat.testBit_two_pow_sub_one 64 j
 simpa using this
theorem zMj (p : Nat -> Bool) (k : Nat) : dD .u64 .xor 18446744073709551615 (word p k) = word (fun i => !p i) k := by
 unfold word
 rw [show (18446744073709551615 : Int) = ((18446744073709551615 : Nat) : Int) from rfl]
 rw [zTm (by omega) (nW _ _), Qe (p := fun i => !p i) (Nat.xor_lt_two_pow (by omega) (nW p k))]
 intro j hj
 simp [Nat.testBit_xor, zPj, xA, hj]
theorem zJj (p : Nat -> Bool) {i : Nat} (hi : i < 256) : (wd p).set (i / 64) (dD .u64 .or ((wd p).getD (i / 64) 0) (((2 ^ (i % 64) : Nat)) : Int)) = wd (fun j => p j || decide (j = i)) := by
 have hb : 2 ^ (i % 64) < 2 ^ 64 := Nat.pow_lt_pow_right (by omega) (by omega)
 have hw : ∀ k, k = i / 64 -> dD .u64 .or (word p k) (((2 ^ (i % 64) : Nat)) : Int) = word (fun j => p j || decide (j = i)) k := by
  intro k hk
  unfold word
  rw [ior (nW _ _) hb, Qe (p := fun j => p j || decide (j = i)) (Nat.or_lt_two_pow (nW p k) hb)]
  intro j hj
  simp only [Nat.testBit_or, xA, Nat.testBit_two_pow, hj, decide_true, Bool.true_and]
  congr 1
  apply decide_eq_decide.2
  omega
 have ho : ∀ k, k ≠ i / 64 -> word p k = word (fun j => p j || decide (j = i)) k := by
  intro k hk
  apply vU
  intro j h1 h2
  have : j ≠ i := by omega
  simp [this]
 have hk : i / 64 = 0 ∨ i / 64 = 1 ∨ i / 64 = 2 ∨ i / 64 = 3 := by omega
 rcases hk with h | h | h | h <;> rw [h] <;> simp only [wd, List.getD_cons_zero, List.getD_cons_succ, List.set_cons_zero, List.set_cons_succ]
 ·rw [hw 0 h.symm, ho 1 (by omega), ho 2 (by omega), ho 3 (by omega)]
 ·rw [hw 1 h.symm, ho 0 (by omega), ho 2 (by omega), ho 3 (by omega)]
 ·rw [hw 2 h.symm, ho 0 (by omega), ho 1 (by omega), ho 3 (by omega)]
 ·rw [hw 3 h.symm, ho 0 (by omega), ho 1 (by omega), ho 2 (by omega)]
theorem zJk : ((List.range 256).all fun i => decide (kR .i64 (i : Int) 6 = ((i / 64 : Nat) : Int)) && decide (Iw .u64 1 (dD .i64 .and (i : Int) 63) = ((2 ^ (i % 64) : Nat) : Int)) && decide (0 <= dD .i64 .and (i : Int) 63)
 && decide (kR .u8 (i : Int) 6 = ((i / 64 : Nat) : Int)) && decide (Iw .u64 1 (dD .u8 .and (i : Int) 63) = ((2 ^ (i % 64) : Nat) : Int)) && decide (0 <= dD .u8 .and (i : Int) 63)) = true := by decide +kernel
theorem zTo {i : Nat} (hi : i < 256) : kR .i64 (i : Int) 6 = ((i / 64 : Nat) : Int) ∧ Iw .u64 1 (dD .i64 .and (i : Int) 63) = ((2 ^ (i % 64) : Nat) : Int) ∧ 0 <= dD .i64 .and (i : Int) 63 := by
 have := oN zJk hi
 simp only [Bool.and_eq_true, decide_eq_true_eq] at this
 exact ⟨this.1.1.1.1.1, this.1.1.1.1.2, this.1.1.1.2⟩
theorem zRm {i : Nat} (hi : i < 256) : kR .u8 (i : Int) 6 = ((i / 64 : Nat) : Int) ∧ Iw .u64 1 (dD .u8 .and (i : Int) 63) = ((2 ^ (i % 64) : Nat) : Int) ∧ 0 <= dD .u8 .and (i : Int) 63 := by
 have := oN zJk hi
 simp only [Bool.and_eq_true, decide_eq_true_eq] at this
 exact ⟨this.1.1.2, this.1.2, this.2⟩
theorem zBf : Ty.dflt (.int .u64) = (0 : Int) := rfl
def aP (a b : Nat) : Nat -> Bool := fun i => decide (a <= i) && decide (i <= b)
theorem zEo {p q : Nat -> Bool} (h : ∀ i, i < 256 -> p i = q i) : some (wd p) = some (wd q) := by rw [qV h]
theorem Vd {p q : Nat -> Bool} (h : ∀ i, i < 256 -> p i = q i) : some (bx p) = some (bx q) := by rw [nX h]
theorem vV {n a b : Nat} (hn : 300 <= n) (ha : a < 256) (hb : b < 256) : bN n ((a : Int), (b : Int)) = some (wd (aP a b)) := by
 unfold bN
 simp only
 rw [bT (by omega) (by omega)]
 by_cases hab : a <= b
 ·have := zEn (lo := a) (B := nD n) (r := some (wd (aP a b))) (N := b + 1) (fun i => ((b : Int), (i : Int), wd (fun j => decide (a <= j) && decide (j < i)), ()))
   (by
    intro i hlo hi g
    have hi2 : i < 256 := by omega
    obtain ⟨s1, s2, s3⟩ := zTo hi2
    rw [nD]
    simp only
    have hc : i <= b := by omega
    rw [bT (by omega) (by omega), s1, s2]
    rw [aF (by simp; omega), aA (by decide), aA (jV (by omega) (by omega)), aA (by simp; omega), aA (by simpa using s3), aA (jV (by omega) (by omega)), aA (by simp; omega)]
    rw [bT (by omega) (by omega), zBf, Int.toNat_natCast, zJj _ hi2]
    have : wd (fun j => (decide (a <= j) && decide (j < i)) || decide (j = i)) = wd (fun j => decide (a <= j) && decide (j < i + 1)) := by
     refine qV fun j hj => ?_
     rw [Bool.eq_iff_iff]; simp; omega
    rw [this]; rfl)
   (by
    intro g
    rw [nD]
    simp only
    rw [aB (by rw [bT (by omega) (by omega)]; simp; omega)]
    refine zEo fun i hi => ?_
    simp only [aP]; rw [Bool.eq_iff_iff]; simp; omega)
   (b + 1 - a) a n (by omega) (by omega) (by omega)
  have e : wd (fun j => decide (a <= j) && decide (j < a)) = [0, 0, 0, 0] := by
   rw [<- mR]; refine qV fun j hj => ?_
   rw [Bool.eq_iff_iff]; simp
  simp only [e] at this
  exact this
 ·rw [cK (by omega), nD]
  simp only
  rw [aB (by rw [bT (by omega) (by omega)]; simp; omega), <- mR]
  refine zEo fun j hj => ?_
  simp only [aP]; rw [Bool.eq_iff_iff]; simp; omega
theorem Sr {n : Nat} (hn : 5 <= n) (p : Nat -> Bool) : Af n (wd p) = some (wd fun i => !p i) := by
 obtain ⟨m, rfl⟩ : ∃ m, n = m + 5 := ⟨n - 5, by omega⟩
 have h := zMj p
 have e : wd (fun i => !p i) = [dD .u64 .xor 18446744073709551615 (word p 0), dD .u64 .xor 18446744073709551615 (word p 1), dD .u64 .xor 18446744073709551615 (word p 2), dD .u64 .xor 18446744073709551615 (word p 3)] := by rw [h, h, h, h]; rfl
 rw [e]
 rfl
theorem zHc {n : Nat} (hn : 5 <= n) (g0 : List (List Int) × Int × Int × List Int × Unit -> Option (List Int)) (l : List (List Int)) (c i : Int) (p q : Nat -> Bool) :
  fix (Kg n g0) n (l, c, i, 0, wd p, wd q, ()) = g0 (l, c, IntKind.wrap .i64 (i + 1), wd (fun i => p i || q i), ()) := by
 obtain ⟨m, rfl⟩ : ∃ m, n = m + 5 := ⟨n - 5, by omega⟩
 have h := zPi p q
 have e : wd (fun i => p i || q i) = [dD .u64 .or (word p 0) (word q 0), dD .u64 .or (word p 1) (word q 1), dD .u64 .or (word p 2) (word q 2), dD .u64 .or (word p 3) (word q 3)] := by rw [h, h, h, h]; rfl
 rw [e]
 rfl
theorem Xa {n : Nat} (ps : List (Nat -> Bool)) (hn : 5 <= n) (hl : ps.length < n) (hm : ps.length < 1000) : lT n (ps.map wd) = some (wd fun i => ps.any (· i)) := by
 unfold lT
 simp only [List.length_map]
 have := Lh (B := vK n) (r := some (wd fun i => ps.any (· i))) (N := ps.length) (fun i => (ps.map wd, (ps.length : Int), (i : Int), wd (fun j => (ps.take i).any (· j)), ()))
  (by
   intro i hi g
   rw [vK]
   simp only
   rw [aF (by simp; omega), aA (jV (by omega) (by simp; omega))]
   have hg : bB (Ty.dflt (.arr 4 (.int .u64))) (ps.map wd) (i : Int) = wd ps[i] := by
    simp [bB, List.getD_eq_getElem?_getD, hi]
   rw [hg, zHc hn, bT (by omega) (by omega)]
   have hw : wd (fun j => (ps.take i).any (· j) || ps[i] j) = wd (fun j => (ps.take (i + 1)).any (· j)) := by
    refine qV fun j hj => ?_
    rw [List.take_succ_eq_append_getElem hi, List.any_append]; simp
   rw [hw]; rfl)
  (by
   intro g
   rw [vK]
   simp only
   rw [aB (by simp)]
   simp)
  ps.length 0 n (by omega) hl
 simpa [mR] using this
def ofP (s : List UInt8) : Nat -> Bool := fun i => s.any fun c => decide (c.toNat = i)
theorem iX {α : Type} {d : α} {s : List α} {i : Nat} (h : i < s.length) : bB d s (i : Int) = s[i] := by
 simp [bB, List.getD_eq_getElem?_getD, h]
theorem zBg {s : List UInt8} {i : Nat} (h : i < s.length) : ofP (s.take (i + 1)) = fun j => ofP (s.take i) j || decide (j = s[i].toNat) := by
 funext j
 simp only [ofP]
 rw [List.take_succ_eq_append_getElem h, List.any_append]
 simp [eq_comm]
theorem Li {n : Nat} (s : List UInt8) (hl : s.length < n) (hm : s.length < 100000) : nE n s = some (wd (ofP s)) := by
 unfold nE
 simp only
 have := Lh (B := vL n) (r := some (wd (ofP s))) (N := s.length) (fun i => (s, (s.length : Int), (i : Int), wd (ofP (s.take i)), ()))
  (by
   intro i hi g
   have hc : s[i].toNat < 256 := s[i].toNat_lt
   obtain ⟨s1, s2, s3⟩ := zRm hc
   rw [vL]
   simp only
   rw [iX hi, s1, s2]
   rw [aF (by simp; omega), aA (jP hi), aA (by decide), aA (jV (by omega) (by omega)), aA (by simp; omega), aA (jP hi), aA (by simpa using s3), aA (jV (by omega) (by omega)), aA (by simp; omega)]
   rw [bT (by omega) (by omega), zBf, Int.toNat_natCast, zJj _ hc, zBg hi]
   rfl)
  (by
   intro g
   rw [vL]
   simp only
   rw [aB (by simp)]
   simp)
  s.length 0 n (by omega) hl
 have e : wd (ofP (s.take 0)) = [0, 0, 0, 0] := by rw [<- mR]; rfl
 simp only [e] at this
 simpa using this
theorem Ve {n a b : Nat} (hn : 300 <= n) (ha : a < 256) (hb : b < 256) : dX n ((a : Int), (b : Int)) = some (bx (aP a b)) := by
 unfold dX
 simp only
 rw [bT (by omega) (by omega)]
 by_cases hab : a <= b
 ·have := zEn (lo := a) (B := kM n) (r := some (bx (aP a b))) (N := b + 1) (fun i => ((b : Int), (i : Int), List.replicate 256 false, bx (fun j => decide (a <= j) && decide (j < i)), ()))
   (by
    intro i hlo hi g
    have hi2 : i < 256 := by omega
    rw [kM]
    simp only
    have hc : i <= b := by omega
    rw [bT (by omega) (by omega)]
    rw [aF (by simp; omega), aA (jV (by omega) (by omega)), aA (by simp; omega)]
    rw [bT (by omega) (by omega), Int.toNat_natCast, Eu]
    have : bx (fun j => if j = i then true else (decide (a <= j) && decide (j < i))) = bx (fun j => decide (a <= j) && decide (j < i + 1)) := by
     refine nX fun j hj => ?_
     rw [Bool.eq_iff_iff]; split <;> simp <;> omega
    rw [this]; rfl)
   (by
    intro g
    rw [kM]
    simp only
    rw [aB (by rw [bT (by omega) (by omega)]; simp; omega)]
    refine Vd fun i hi => ?_
    simp only [aP]; rw [Bool.eq_iff_iff]; simp; omega)
   (b + 1 - a) a n (by omega) (by omega) (by omega)
  have e : bx (fun j => decide (a <= j) && decide (j < a)) = List.replicate 256 false := by
   rw [<- Nb]; refine nX fun j hj => ?_
   rw [Bool.eq_iff_iff]; simp
  simp only [e] at this
  exact this
 ·rw [cK (by omega), kM]
  simp only
  rw [aB (by rw [bT (by omega) (by omega)]; simp; omega), <- Nb]
  refine Vd fun j hj => ?_
  simp only [aP]; rw [Bool.eq_iff_iff]; simp; omega
theorem zDn {n : Nat} (hn : 300 <= n) (p q : Nat -> Bool) : pF n (bx p, bx q) = some (bx fun i => p i || q i) := by
 unfold pF
 simp only
 have := Lh (B := rR n) (r := some (bx fun i => p i || q i)) (N := 256) (fun i => ((i : Int), bx (fun j => if j < i then p j || q j else p j), bx q, List.replicate 256 false, ()))
  (by
   intro i hi g
   have key : ∀ b, b = (p i || q i) -> (g (((i + 1 : Nat) : Int), bx (fun j => if j = i then b else if j < i then p j || q j else p j), bx q, List.replicate 256 false, ()) = g (((i + 1 : Nat) : Int), bx (fun j => if j < i + 1 then p j || q j else p j), bx q, List.replicate 256 false, ())) := by
    intro b hb
    have : bx (fun j => if j = i then b else if j < i then p j || q j else p j) = bx (fun j => if j < i + 1 then p j || q j else p j) := by
     refine nX fun j hj => ?_
     by_cases e : j = i
     ·subst e; simp [hb]
     ·by_cases e2 : j < i
      ·simp [e, e2, Nat.lt_succ_of_lt e2]
      ·simp [e, e2, show ¬ j < i + 1 by omega]
    rw [this]
   rw [rR]
   simp only
   rw [aF (by simp; omega), aA (jV (by omega) (by omega)), aA (by simp; omega), aA (jV (by omega) (by omega)), aA (by simp; omega)]
   rw [bT (by omega) (by omega), Int.toNat_natCast, Sq _ hi, Sq _ hi, Eu, Eu, show (i : Int) + 1 = ((i + 1 : Nat) : Int) from rfl]
   simp only [Nat.lt_irrefl, if_false]
   cases hp : p i
   ·rw [aB rfl, aA (jV (by omega) (by omega)), aA (decide_eq_true hi), aA (jV (by omega) (by omega)), aA (decide_eq_true hi)]; rw [key (q i) (by rw [hp]; rfl)]
   ·rw [aF rfl]; exact key true (by rw [hp]; rfl))
  (by
   intro g
   rw [rR]
   simp only
   rw [aB (by simp)]
   refine Vd fun i hi => ?_
   simp [hi])
  256 0 n (by omega) (by omega)
 have e : bx (fun j => if j < 0 then p j || q j else p j) = bx p := nX fun j hj => by simp
 rw [e] at this
 exact this
theorem zDo {n : Nat} (s : List UInt8) (hl : s.length < n) (hm : s.length < 100000) : Ba n s = some (bx (ofP s)) := by
 unfold Ba
 simp only
 have := Lh (B := rT n) (r := some (bx (ofP s))) (N := s.length) (fun i => (s, (i : Int), List.replicate 256 false, bx (ofP (s.take i)), ()))
  (by
   intro i hi g
   have hc : s[i].toNat < 256 := s[i].toNat_lt
   rw [rT]
   simp only
   rw [iX hi]
   rw [aF (by simp; omega), aA (jP hi), aA (jV (by omega) (by omega)), aA (by simp; omega)]
   rw [bT (by omega) (by omega), Int.toNat_natCast, Eu, zBg hi]
   have : bx (fun j => if j = s[i].toNat then true else ofP (s.take i) j) = bx (fun j => ofP (s.take i) j || decide (j = s[i].toNat)) := by
    refine nX fun j hj => ?_
    by_cases e : j = s[i].toNat
    ·rw [if_pos e]; simp [e]
    ·rw [if_neg e]; simp [e]
   rw [this]; rfl)
  (by
   intro g
   rw [rT]
   simp only
   rw [aB (by simp)]
   simp)
  s.length 0 n (by omega) hl
 have e : bx (ofP (s.take 0)) = List.replicate 256 false := by rw [<- Nb]; rfl
 simp only [e] at this
 exact this
def aY (p : Nat -> Bool) : List UInt8 := ((List.range 256).filter p).map UInt8.ofNat
theorem Gw (p : Nat -> Bool) : (aY p).length <= 256 := by
 have := List.length_filter_le p (List.range 256); simpa [aY] using this
theorem zRn {p : Nat -> Bool} : wd p = [0, 0, 0, 0] <-> ∀ i, i < 256 -> p i = false := by
 rw [<- mR]
 exact ⟨fun h i hi => zRl h hi, fun h => qV h⟩
theorem zTp {p q : Nat -> Bool} : Ty.beq (.arr 4 (.int .u64)) (wd p) (wd q) = true <-> wd p = wd q := beq_iff rfl
theorem Sv {n : Nat} (hn : 300 <= n) (p q : Nat -> Bool) : fix (kN n) n (0, List.replicate 256 false, bx p, bx q, ()) = some (bx (fun i => q i && !p i), true) := by
 have := Lh (B := kN n) (r := some (bx (fun i => q i && !p i), true)) (N := 256) (fun i => ((i : Int), List.replicate 256 false, bx p, bx (fun j => if j < i then q j && !p j else q j), ()))
  (by
   intro i hi g
   have key : ∀ b, b = (q i && !p i) -> (g (((i + 1 : Nat) : Int), List.replicate 256 false, bx p, bx (fun j => if j = i then b else if j < i then q j && !p j else q j), ()) = g (((i + 1 : Nat) : Int), List.replicate 256 false, bx p, bx (fun j => if j < i + 1 then q j && !p j else q j), ())) := by
    intro b hb
    have : bx (fun j => if j = i then b else if j < i then q j && !p j else q j) = bx (fun j => if j < i + 1 then q j && !p j else q j) := by
     refine nX fun j hj => ?_
     by_cases e : j = i
     ·subst e; simp [hb]
     ·by_cases e2 : j < i
      ·simp [e, e2, Nat.lt_succ_of_lt e2]
      ·simp [e, e2, show ¬ j < i + 1 by omega]
    rw [this]
   rw [kN]
   simp only
   rw [aF (by simp; omega), aA (jV (by omega) (by omega)), aA (by simp; omega)]
   rw [bT (by omega) (by omega), Int.toNat_natCast, Sq _ hi, Sq _ hi, Eu, Eu, show (i : Int) + 1 = ((i + 1 : Nat) : Int) from rfl]
   simp only [Nat.lt_irrefl, if_false]
   cases hq : q i
   ·rw [aB rfl, aA (jV (by omega) (by omega)), aA (decide_eq_true hi)]; exact key false (by rw [hq]; rfl)
   ·rw [aF rfl, aA (jV (by omega) (by omega)), aA (decide_eq_true hi), aA (jV (by omega) (by omega)), aA (decide_eq_true hi)]; exact key (!p i) (by rw [hq]; rfl))
  (by
   intro g
   rw [kN]
   simp only
   rw [aB (by simp)]
   have e : bx (fun j => if j < 256 then q j && !p j else q j) = bx (fun i => q i && !p i) := nX fun j hj => by simp [hj]
   rw [e])
  256 0 n (by omega) (by omega)
 have e : bx (fun j => if j < 0 then q j && !p j else q j) = bx q := nX fun j hj => by simp
 rw [e] at this
 exact this
def zBh (ps : List (Nat -> Bool)) : Nat -> Bool := fun i => ps.any (· i)
def Ev (s : List UInt8) : Option (Nat -> Bool) :=
 bif s == [117, 112, 112, 101, 114] then some (aP 65 90)
 else bif s == [108, 111, 119, 101, 114] then some (aP 97 122)
 else bif s == [97, 108, 112, 104, 97] then some (zBh [aP 65 90, aP 97 122])
 else bif s == [100, 105, 103, 105, 116] then some (aP 48 57)
 else bif s == [97, 108, 110, 117, 109] then some (zBh [aP 65 90, aP 97 122, aP 48 57])
 else bif s == [120, 100, 105, 103, 105, 116] then some (zBh [aP 48 57, aP 65 70, aP 97 102])
 else bif s == [98, 108, 97, 110, 107] then some (ofP [32, 9])
 else bif s == [115, 112, 97, 99, 101] then some (ofP [32, 9, 10, 11, 12, 13])
 else bif s == [99, 110, 116, 114, 108] then some (zBh [aP 0 31, ofP [127]])
 else bif s == [103, 114, 97, 112, 104] then some (aP 33 126)
 else bif s == [112, 114, 105, 110, 116] then some (aP 32 126)
 else bif s == [112, 117, 110, 99, 116] then some (zBh [aP 33 47, aP 58 64, aP 91 96, aP 123 126])
 else none
def zEp (o : Option (Nat -> Bool)) (a : Option (List Int × Bool)) (b : Option (List Bool × Bool)) : Prop := match o with
 | some p => a = some (wd p, true) ∧ b = some (bx p, true)
 | none => a = some (wd fun _ => false, false) ∧ ∃ p, b = some (bx p, false)
theorem gT {p q : Nat -> Bool} (h : ((List.range 256).all fun i => p i == q i) = true) (o : Option (List Int × Bool)) (o2 : Option (List Bool × Bool)) (h1 : o = some (wd p, true)) (h2 : o2 = some (bx q, true)) :
  zEp (some p) o o2 := by
 refine ⟨h1, ?_⟩
 rw [h2]
 have : bx q = bx p := nX fun i hi => by have := oN h hi; simp at this; exact this.symm
 rw [this]
theorem zHd {n : Nat} (hn : 300 <= n) (s : List UInt8) : zEp (Ev s) (yE n s) (Od n s) := by
 have R : ∀ a b : Nat, a < 256 -> b < 256 -> bN n ((a : Int), (b : Int)) = some (wd (aP a b)) := fun a b ha hb => vV hn ha hb
 have R2 : ∀ a b : Nat, a < 256 -> b < 256 -> dX n ((a : Int), (b : Int)) = some (bx (aP a b)) := fun a b ha hb => Ve hn ha hb
 have O : ∀ ps : List (Nat -> Bool), ps.length < 10 -> lT n (ps.map wd) = some (wd fun i => ps.any (· i)) := fun ps h => Xa ps (by omega) (by omega) (by omega)
 have O2 := fun p q => zDn hn p q
 have F : ∀ s : List UInt8, s.length < 10 -> nE n s = some (wd (ofP s)) := fun s h => Li s (by omega) (by omega)
 have F2 : ∀ s : List UInt8, s.length < 10 -> Ba n s = some (bx (ofP s)) := fun s h => zDo s (by omega) (by omega)
 unfold yE Od Ev
 simp only
 rw [show ((65 : Int), (90 : Int)) = (((65 : Nat) : Int), ((90 : Nat) : Int)) from rfl, show ((97 : Int), (122 : Int)) = (((97 : Nat) : Int), ((122 : Nat) : Int)) from rfl, show ((48 : Int), (57 : Int)) = (((48 : Nat) : Int), ((57 : Nat) : Int)) from rfl]
 rw [R 65 90 (by omega) (by omega), R 97 122 (by omega) (by omega), R 48 57 (by omega) (by omega), R2 65 90 (by omega) (by omega), R2 97 122 (by omega) (by omega), R2 48 57 (by omega) (by omega)]
 simp only [aH]
 rw [O2]
 simp only [aH]
 rw [O2]
 simp only [aH]
 cases s == [117, 112, 112, 101, 114]
 case true => exact gT (by decide +kernel) _ _ rfl rfl
 simp only [aZ, cond_false]
 cases s == [108, 111, 119, 101, 114]
 case true => exact gT (by decide +kernel) _ _ rfl rfl
 simp only [aZ, cond_false]
 cases s == [97, 108, 112, 104, 97]
 case true =>
  have := O [aP 65 90, aP 97 122] (by decide)
  simp only [List.map] at this
  simp only [bM, this, aH]
  exact gT (by decide +kernel) _ _ rfl rfl
 simp only [aZ, cond_false]
 cases s == [100, 105, 103, 105, 116]
 case true => exact gT (by decide +kernel) _ _ rfl rfl
 simp only [aZ, cond_false]
 cases s == [97, 108, 110, 117, 109]
 case true =>
  have := O [aP 65 90, aP 97 122, aP 48 57] (by decide)
  simp only [List.map] at this
  simp only [bM, this, aH]
  exact gT (by decide +kernel) _ _ rfl rfl
 simp only [aZ, cond_false]
 cases s == [120, 100, 105, 103, 105, 116]
 case true =>
  have := O [aP 48 57, aP 65 70, aP 97 102] (by decide)
  simp only [List.map] at this
  simp only [bM]
  rw [show ((65 : Int), (70 : Int)) = (((65 : Nat) : Int), ((70 : Nat) : Int)) from rfl, show ((97 : Int), (102 : Int)) = (((97 : Nat) : Int), ((102 : Nat) : Int)) from rfl]
  rw [R 65 70 (by omega) (by omega), R 97 102 (by omega) (by omega), R2 65 70 (by omega) (by omega), R2 97 102 (by omega) (by omega)]
  simp only [aH]
  rw [O2, this]
  simp only [aH]
  rw [O2]
  exact gT (by decide +kernel) _ _ rfl rfl
 simp only [aZ, cond_false]
 cases s == [98, 108, 97, 110, 107]
 case true =>
  simp only [bM]
  rw [F _ (by decide), F2 _ (by decide)]
  exact gT (by decide +kernel) _ _ rfl rfl
 simp only [aZ, cond_false]
 cases s == [115, 112, 97, 99, 101]
 case true =>
  simp only [bM]
  rw [show ((9 : Int), (13 : Int)) = (((9 : Nat) : Int), ((13 : Nat) : Int)) from rfl]
  rw [F _ (by decide), F2 _ (by decide), R2 9 13 (by omega) (by omega)]
  simp only [aH]
  rw [O2]
  exact gT (by decide +kernel) _ _ rfl rfl
 simp only [aZ, cond_false]
 cases s == [99, 110, 116, 114, 108]
 case true =>
  simp only [bM]
  rw [show ((0 : Int), (31 : Int)) = (((0 : Nat) : Int), ((31 : Nat) : Int)) from rfl, show ((127 : Int), (127 : Int)) = (((127 : Nat) : Int), ((127 : Nat) : Int)) from rfl]
  rw [R 0 31 (by omega) (by omega), R2 0 31 (by omega) (by omega), R2 127 127 (by omega) (by omega), F _ (by decide)]
  have := O [aP 0 31, ofP [127]] (by decide)
  simp only [List.map] at this
  simp only [aH]
  rw [O2, this]
  exact gT (by decide +kernel) _ _ rfl rfl
 simp only [aZ, cond_false]
 cases s == [103, 114, 97, 112, 104]
 case true =>
  simp only [bM]
  rw [show ((33 : Int), (126 : Int)) = (((33 : Nat) : Int), ((126 : Nat) : Int)) from rfl]
  rw [R 33 126 (by omega) (by omega), R2 33 126 (by omega) (by omega)]
  exact gT (by decide +kernel) _ _ rfl rfl
 simp only [aZ, cond_false]
 cases s == [112, 114, 105, 110, 116]
 case true =>
  simp only [bM]
  rw [show ((32 : Int), (126 : Int)) = (((32 : Nat) : Int), ((126 : Nat) : Int)) from rfl]
  rw [R 32 126 (by omega) (by omega), R2 32 126 (by omega) (by omega)]
  exact gT (by decide +kernel) _ _ rfl rfl
 simp only [aZ, cond_false]
 cases s == [112, 117, 110, 99, 116]
 case true =>
  simp only [bM]
  rw [show ((33 : Int), (126 : Int)) = (((33 : Nat) : Int), ((126 : Nat) : Int)) from rfl, show ((33 : Int), (47 : Int)) = (((33 : Nat) : Int), ((47 : Nat) : Int)) from rfl, show ((58 : Int), (64 : Int)) = (((58 : Nat) : Int), ((64 : Nat) : Int)) from rfl, show ((91 : Int), (96 : Int)) = (((91 : Nat) : Int), ((96 : Nat) : Int)) from rfl, show ((123 : Int), (126 : Int)) = (((123 : Nat) : Int), ((126 : Nat) : Int)) from rfl]
  rw [R 33 47 (by omega) (by omega), R 58 64 (by omega) (by omega), R 91 96 (by omega) (by omega), R 123 126 (by omega) (by omega), R2 33 126 (by omega) (by omega)]
  have := O [aP 33 47, aP 58 64, aP 91 96, aP 123 126] (by decide)
  simp only [List.map] at this
  simp only [aH]
  rw [this, Sv hn]
  exact gT (by decide +kernel) _ _ rfl rfl
 simp only [aZ, cond_false]
 exact ⟨by rw [mR], fun _ => false, by rw [Nb]⟩
end Go.Dec
namespace Go.Dec
theorem Bt {n : Nat} {r t : List UInt8} : strings_HasPrefix n (r, t) = some (t.isPrefixOf r) := by
 unfold strings_HasPrefix fG
 simp only
 by_cases h : t.length <= r.length
 ·rw [aF (by simp; omega), aA (by simp; omega)]
  simp only [aH, Int.toNat_natCast]
  congr 1
  rw [Bool.eq_iff_iff, List.isPrefixOf_iff_prefix, List.prefix_iff_eq_take, beq_iff_eq]
  exact eq_comm
 ·rw [aB (by simp; omega)]
  simp only [aH]
  congr 1
  symm
  rw [Bool.eq_false_iff, ne_eq, List.isPrefixOf_iff_prefix]
  intro hp
  have := hp.length_le
  omega
theorem iY {n : Nat} {s t : List UInt8} {i : Nat} (hi : i <= s.length) : dJ n (t, s, (i : Int), ()) = some (t.isPrefixOf (s.drop i), s, (i : Int), ()) := by
 unfold dJ
 simp only
 rw [aA (by simp; omega), Bt]; rfl
theorem gG {r t : List UInt8} (h : t.isPrefixOf r = true) : t.length <= r.length := by
 rw [List.isPrefixOf_iff_prefix] at h; exact h.length_le
theorem lF {n : Nat} {s t : List UInt8} {i : Nat} (hi : i <= s.length) (hs : s.length < 1000000) (h : t.isPrefixOf (s.drop i) = true) : dB n (t, s, (i : Int), ()) = some (true, s, ((i + t.length : Nat) : Int), ()) := by
 have hl := gG h
 rw [List.length_drop] at hl
 unfold dB
 simp only
 rw [iY hi]
 simp only [aH, h, Bool.not_true, aZ]
 rw [bT (by omega) (by omega)]; rfl
theorem lG {n : Nat} {s t : List UInt8} {i : Nat} (hi : i <= s.length) (h : t.isPrefixOf (s.drop i) = false) : dB n (t, s, (i : Int), ()) = some (false, s, (i : Int), ()) := by
 unfold dB
 simp only
 rw [iY hi]
 simp only [aH, h, Bool.not_false, bM]
theorem eqI {c : UInt8} (k : UInt8) : ((c.toNat : Int) == (k.toNat : Int)) = (k == c) := by
 rw [Bool.eq_iff_iff, beq_iff_eq, beq_iff_eq, Int.ofNat_inj, UInt8.toNat_inj]; exact eq_comm
theorem Gx {s : List UInt8} {i j : Nat} {d c : UInt8} (h : (s.drop i)[j]? = some c) : bB d s ((i + j : Nat) : Int) = c := by
 rw [List.getElem?_drop] at h
 unfold bB
 rw [Int.toNat_natCast, List.getD_eq_getElem?_getD, h]; rfl
theorem yJ {s t : List UInt8} {i : Nat} {a : UInt8} (h : s.drop i = a :: t) : s.drop (i + 1) = t ∧ i < s.length := by
 refine ⟨?_, ?_⟩
 ·rw [<- List.drop_drop, h]; rfl
 ·have := congrArg List.length h
  rw [List.length_drop, List.length_cons] at this; omega
theorem Di {r : List UInt8} {a b : UInt8} (h : [a, b].isPrefixOf r = true) : ∃ t, r = a :: b :: t := by
 rw [List.isPrefixOf_iff_prefix] at h
 obtain ⟨t, rfl⟩ := h
 exact ⟨t, rfl⟩
theorem zTq {r : List UInt8} {a : UInt8} (h : [a].isPrefixOf r = true) : ∃ t, r = a :: t := by
 rw [List.isPrefixOf_iff_prefix] at h
 obtain ⟨t, rfl⟩ := h
 exact ⟨t, rfl⟩
def uF (x : UInt8) (b : Bool) : List UInt8 -> Option (UInt8 × Nat × Bool)
 | _ :: _ :: c :: t => bif [x, 93].isPrefixOf t then some (c, 5, b) else none
 | _ => none
def oC (first ends : Bool) (r : List UInt8) : Option (UInt8 × Nat × Bool) :=
 bif [91, 46].isPrefixOf r then uF 46 true r
 else bif [91, 61].isPrefixOf r then uF 61 false r
 else bif [92, 110].isPrefixOf r then some (10, 2, true)
 else bif [91, 58].isPrefixOf r then none
 else bif [93].isPrefixOf r && !first then none
 else bif [45].isPrefixOf r && !first && !ends && !([45, 93].isPrefixOf r) then none
 else match r with | [] => none | c :: _ => some (c, 1, true)
theorem zJl {x : UInt8} {b : Bool} {c : UInt8} {k : Nat} {m : Bool} : ∀ {r : List UInt8}, uF x b r = some (c, k, m) -> 1 <= k ∧ k <= r.length
 | [], h => absurd h (by simp [uF])
 | [_], h => absurd h (by simp [uF])
 | [_, _], h => absurd h (by simp [uF])
 | _ :: _ :: d :: t, h => by
  unfold uF at h
  cases hp : [x, 93].isPrefixOf t <;> simp only [hp, cond_true, cond_false] at h
  ·exact absurd h (by simp)
  ·have := gG hp
   simp only [List.length_cons, List.length_nil, Option.some.injEq, Prod.mk.injEq] at this h ⊢
   omega
theorem Lj {first ends : Bool} {r : List UInt8} {c : UInt8} {k : Nat} {m : Bool} (h : oC first ends r = some (c, k, m)) : 1 <= k ∧ k <= r.length := by
 have mk : ∀ {x : UInt8} {b : Bool}, uF x b r = some (c, k, m) -> 1 <= k ∧ k <= r.length := fun h => zJl h
 unfold oC at h
 cases h1 : [91, 46].isPrefixOf r <;> simp only [h1, cond_true, cond_false] at h
 ·cases h2 : [91, 61].isPrefixOf r <;> simp only [h2, cond_true, cond_false] at h
  ·cases h3 : [92, 110].isPrefixOf r <;> simp only [h3, cond_true, cond_false] at h
   ·cases h4 : [91, 58].isPrefixOf r <;> simp only [h4, cond_true, cond_false] at h
    ·cases h5 : [93].isPrefixOf r && !first <;> simp only [h5, cond_true, cond_false] at h
     ·cases h6 : [45].isPrefixOf r && !first && !ends && !([45, 93].isPrefixOf r) <;> simp only [h6, cond_true, cond_false] at h
      ·split at h
       ·exact absurd h (by simp)
       ·simp only [Option.some.injEq, Prod.mk.injEq, List.length_cons] at h ⊢
        omega
      ·exact absurd h (by simp)
     ·exact absurd h (by simp)
    ·exact absurd h (by simp)
   ·have := gG h3
    simp only [List.length_cons, List.length_nil, Option.some.injEq, Prod.mk.injEq] at this h
    omega
  ·exact mk h
 ·exact mk h
def tF (s : List UInt8) (i : Nat) (o : Option (UInt8 × Nat × Bool)) (e : Option (Sum (Int × Bool × List UInt8 × Int × Unit) (Int × Int × List UInt8 × Int × Unit))) : Prop := match o with
 | some (c, k, m) => e = some (.inl ((c.toNat : Int), m, s, ((i + k : Nat) : Int), ()))
 | none => ∃ a, e = some (.inr (42, 0, s, a, ()))
theorem qA {n : Nat} {x : List UInt8 × Int × Unit} : aW n x = some (.inr (42, 0, x)) := rfl
theorem Oi {n : Nat} {s : List UInt8} {i : Nat} {mk : UInt8} {t : List UInt8} (hi : i <= s.length) (hs : s.length < 1000000) (hr : s.drop i = 91 :: mk :: t) :
    tF s i (uF mk ([mk] == [46]) (s.drop i))
      (br ((s.length : Int) == ((i + 2 : Nat) : Int)) (ob2 (aW n (s, ((i + 2 : Nat) : Int), ())) (fun y17 => none) (fun y17 => some (.inr (y17.1, y17.2.1, y17.2.2.1, y17.2.2.2.1, ()))))
        (chk ((decide (0 <= IntKind.wrap .i64 (((i + 2 : Nat) : Int) + 1)) && decide (IntKind.wrap .i64 (((i + 2 : Nat) : Int) + 1) <= (s.length : Int)))) (
                chk (decide (([mk] : List UInt8).length + ([93] : List UInt8).length <= aJ)) (
                  ob (strings_HasPrefix n (s.drop (IntKind.wrap .i64 (((i + 2 : Nat) : Int) + 1)).toNat, [mk] ++ [93])) fun y19 =>
                  br (!y19) (
                    ob2 (aW n (s, ((i + 2 : Nat) : Int), ())) (fun y20 =>
                      none) (fun y20 =>
                      some (.inr (y20.1, y20.2.1, y20.2.2.1, y20.2.2.2.1, ())))) (
                    jn (nS n) ([mk], s, ((i + 2 : Nat) : Int), ())))))) := by
  obtain ⟨h1, h1'⟩ := yJ hr
  obtain ⟨h2, h2'⟩ := yJ h1
  have hlen : s.length = i + 2 + t.length := by
    have := congrArg List.length hr
    simp only [List.length_drop, List.length_cons] at this; omega
  rw [hr]
  cases t with
  | nil =>
    simp only [List.length_nil] at hlen
    rw [aF (by simp; omega), qA]
    simp only [iA, tF, uF]
    exact ⟨_, rfl⟩
  | cons c t =>
    simp only [List.length_cons] at hlen
    obtain ⟨h3, h3'⟩ := yJ h2
    rw [aB (by simp; omega)]
    have hw : IntKind.wrap .i64 (((i + 2 : Nat) : Int) + 1) = ((i + 1 + 1 + 1 : Nat) : Int) := by rw [bT (by omega) (by omega)]; omega
    rw [hw, aA (by simp; omega), aA (by simp [aJ]), Int.toNat_natCast, h3, Bt]
    simp only [aH, List.cons_append, List.nil_append]
    cases hp : [mk, 93].isPrefixOf t
    · simp only [Bool.not_false, bM, qA, iA, cond_false, tF, uF, hp]
      exact ⟨_, rfl⟩
    · simp only [Bool.not_true, aZ, cond_true, tF, Du, nS, uF, hp]
      have := gG hp
      simp only [List.length_cons, List.length_nil] at this
      rw [aA (jP (by omega)), bT (by omega) (by omega), show ((i + 2 : Nat) : Int) = ((i + 2 : Nat) : Int) from rfl, Gx (c := c) (by rw [hr]; rfl)]
      rfl
theorem Sw {n : Nat} {s : List UInt8} {i : Nat} {first ends : Bool} (hn : 3 <= n) (hi : i <= s.length) (hs : s.length < 1000000) : tF s i (oC first ends (s.drop i)) (jG n (first, ends, s, (i : Int), ())) := by
  obtain ⟨m, rfl⟩ : ∃ m, n = m + 3 := ⟨n - 3, by omega⟩
  have hlen : (s.drop i).length = s.length - i := List.length_drop
  have hin : ∀ {t : List UInt8}, t.isPrefixOf (s.drop i) = true -> i + t.length <= s.length := fun h => by have := gG h; omega
  unfold jG oC
  simp only
  rw [Ph, jM]
  simp only
  rw [aF (by rfl), aA (by rfl), aA (by rfl), aA (by rfl)]
  rw [show [91] ++ List.getD [[46], [61]] (0 + Int.toNat 0) (Ty.dflt .str) = ([91, 46] : List UInt8) from rfl, show List.getD [[46], [61]] (0 + Int.toNat 0) (Ty.dflt .str) = ([46] : List UInt8) from rfl]
  cases h1 : [91, 46].isPrefixOf (s.drop i)
  case true =>
    obtain ⟨t, ht⟩ := Di h1
    rw [lF hi hs h1]
    simp only [aH, Bool.not_true, aZ, cond_true]
    exact Oi hi hs ht
  rw [lG hi h1]
  simp only [aH, Bool.not_false, bM, cond_false]
  rw [show IntKind.wrap .i64 (0 + 1) = 1 from rfl, Ph, jM]
  simp only
  rw [aF (by rfl), aA (by rfl), aA (by rfl), aA (by rfl)]
  rw [show [91] ++ List.getD [[46], [61]] (0 + Int.toNat 1) (Ty.dflt .str) = ([91, 61] : List UInt8) from rfl, show List.getD [[46], [61]] (0 + Int.toNat 1) (Ty.dflt .str) = ([61] : List UInt8) from rfl]
  cases h2 : [91, 61].isPrefixOf (s.drop i)
  case true =>
    obtain ⟨t, ht⟩ := Di h2
    rw [lF hi hs h2]
    simp only [aH, Bool.not_true, aZ, cond_true]
    exact Oi hi hs ht
  rw [lG hi h2]
  simp only [aH, Bool.not_false, bM, cond_false]
  rw [show IntKind.wrap .i64 (1 + 1) = 2 from rfl, Ph, jM]
  simp only
  rw [aB (by rfl)]
  cases h3 : [92, 110].isPrefixOf (s.drop i)
  case true =>
    rw [lF hi hs h3]
    simp only [aH, bM, cond_true, tF]
    rfl
  rw [lG hi h3]
  have zSo : ∀ {c : UInt8} {t : List UInt8}, s.drop i = c :: t -> gN (m + 3) (s, (i : Int), ()) = some (.inl ((c.toNat : Int), true, s, ((i + 1 : Nat) : Int), ())) := by
    intro c t hr
    obtain ⟨_, h⟩ := yJ hr
    unfold gN
    simp only
    have e : IntKind.wrap .i64 (IntKind.wrap .i64 ((i : Int) + 1) - 1) = ((i + 0 : Nat) : Int) := by
      rw [bT (x := (i : Int) + 1) (by omega) (by omega), bT (by omega) (by omega)]; omega
    rw [e, aA (jP (by omega)), Gx (c := c) (by rw [hr]; rfl), bT (by omega) (by omega)]; rfl
  have Yv : ∀ bare : Bool, tF s i (bif [91, 58].isPrefixOf (s.drop i) then none
      else bif [93].isPrefixOf (s.drop i) && !first then none
      else bif bare then none
      else match s.drop i with | [] => none | c :: _ => some (c, 1, true)) (fC (m + 3) (first, bare, s, (i : Int), ())) := by
    intro bare
    unfold fC
    simp only
    cases hr : s.drop i with
    | nil =>
      rw [hr] at hlen
      simp only [List.length_nil] at hlen
      rw [aF (by simp; omega), qA]
      simp only [iA]
      cases first <;> cases bare <;> exact ⟨_, rfl⟩
    | cons c t =>
      obtain ⟨_, hlt⟩ := yJ hr
      rw [aB (by simp; omega), iY hi]
      simp only [aH]
      rw [<- hr]
      cases h4 : [91, 58].isPrefixOf (s.drop i)
      case true =>
        simp only [bM, qA, iA, cond_true]
        exact ⟨_, rfl⟩
      simp only [aZ, cond_false]
      rw [iY hi]
      simp only [aH]
      have hb : tF s i (bif bare then none else some (c, 1, true)) (br bare (
            ob2 (aW (m + 3) (s, (i : Int), ())) (fun y40 => none) (fun y40 => some (.inr (y40.1, y40.2.1, y40.2.2.1, y40.2.2.2.1, ())))) (
            jn (gN (m + 3)) (s, (i : Int), ()))) := by
        cases bare
        · simp only [aZ, cond_false, Du]
          rw [zSo hr]; rfl
        · simp only [bM, cond_true, qA, iA]
          exact ⟨_, rfl⟩
      cases h5 : [93].isPrefixOf (s.drop i)
      · simp only [aZ, Bool.false_and, cond_false]
        exact hb
      · cases first
        · simp only [bM, Bool.not_false, Bool.true_and, cond_true, qA, iA]
          exact ⟨_, rfl⟩
        · simp only [bM, aZ, Bool.not_true, Bool.and_false, cond_false]
          exact hb
  simp only [aH, aZ, cond_false]
  rw [iY hi]
  simp only [aH]
  cases h6 : [45].isPrefixOf (s.drop i)
  · simp only [aZ, Bool.false_and]
    exact Yv false
  simp only [bM, Bool.true_and]
  cases first
  · simp only [Bool.not_false, bM, Bool.true_and]
    cases ends
    · simp only [Bool.not_false, bM, Bool.true_and]
      rw [iY hi]
      simp only [aH]
      exact Yv _
    · simp only [Bool.not_true, aZ, Bool.false_and]
      exact Yv false
  · simp only [Bool.not_true, aZ, Bool.false_and]
    exact Yv false
theorem Qf (a b : UInt8) : (a == b) = (b == a) := by rw [Bool.eq_iff_iff, beq_iff_eq, beq_iff_eq]; exact eq_comm
def xB : List UInt8 -> Option Nat
 | [] => none
 | c :: r => bif [58, 93].isPrefixOf (c :: r) then some 0 else (xB r).map (· + 1)
theorem Ll : ∀ {r : List UInt8} {k : Nat}, xB r = some k -> [58, 93].isPrefixOf (r.drop k) = true ∧ k + 2 <= r.length
 | [], k, h => absurd h (by simp [xB])
 | c :: r, k, h => by
  unfold xB at h
  cases hp : [58, 93].isPrefixOf (c :: r) <;> simp only [hp, cond_true, cond_false] at h
  ·cases hk : xB r with
   | none => rw [hk] at h; exact absurd h (by simp)
   | some j =>
    rw [hk] at h
    simp only [Option.map_some, Option.some.injEq] at h
    subst h
    obtain ⟨h1, h2⟩ := Ll hk
    exact ⟨h1, by simp only [List.length_cons]; omega⟩
  ·simp only [Option.some.injEq] at h
   subst h
   exact ⟨hp, by have := gG hp; simpa using this⟩
theorem Xb : ∀ r : List UInt8, Go.Lib.index r [58, 93] = match xB r with | some k => ((k : Nat) : Int) | none => -1
 | [] => by rfl
 | c :: r => by
  have ih := Xb r
  rw [Go.Lib.index, xB]
  cases hp : [58, 93].isPrefixOf (c :: r)
  ·simp only [Bool.false_eq_true, if_false, cond_false]
   rw [ih]
   cases xB r with
   | none => rfl
   | some k =>
    simp only [Option.map_some]
    rw [if_neg (by simp)]; rfl
  ·rfl
theorem zPk (r : List UInt8) : Go.Lib.cut r [58, 93] = match xB r with | some k => (r.take k, r.drop (k + 2), true) | none => (r, [], false) := by
 unfold Go.Lib.cut
 rw [Xb]
 cases xB r with
 | none => rfl
 | some k => simp
def oD (first : Bool) (r : List UInt8) : Option ((Nat -> Bool) × Nat) :=
 bif [91, 58].isPrefixOf r then
  match xB (r.drop 2) with
  | none => none
  | some k => match Ev ((r.drop 2).take k) with
   | some p => some (p, k + 4)
   | none => none
 else match oC first false r with
  | none => none
  | some (a, k, may) =>
   bif [45].isPrefixOf (r.drop k) && !([45, 93].isPrefixOf (r.drop k)) && decide (1 < (r.drop k).length) then
    match oC false true (r.drop (k + 1)) with
    | none => none
    | some (b, m, is) => bif may && is && !(decide (b.toNat < a.toNat)) then some (aP a.toNat b.toNat, k + 1 + m) else none
   else some (aP a.toNat a.toNat, k)
theorem Lm {first : Bool} {r : List UInt8} {p : Nat -> Bool} {k : Nat} (h : oD first r = some (p, k)) : 1 <= k ∧ k <= r.length := by
 unfold oD at h
 cases h0 : [91, 58].isPrefixOf r <;> simp only [h0, cond_true, cond_false] at h
 ·cases h1 : oC first false r with
  | none => rw [h1] at h; exact absurd h (by simp)
  | some x =>
   obtain ⟨a, j, may⟩ := x
   have hl := Lj h1
   rw [h1] at h
   simp only at h
   cases h2 : [45].isPrefixOf (r.drop j) && !([45, 93].isPrefixOf (r.drop j)) && decide (1 < (r.drop j).length) <;> simp only [h2, cond_true, cond_false] at h
   ·simp only [Option.some.injEq, Prod.mk.injEq] at h; omega
   ·cases h3 : oC false true (r.drop (j + 1)) with
    | none => rw [h3] at h; exact absurd h (by simp)
    | some y =>
     obtain ⟨b, m, is⟩ := y
     have hl3 := Lj h3
     rw [h3] at h
     simp only at h
     rw [List.length_drop] at hl3
     cases h4 : may && is && !(decide (b.toNat < a.toNat)) <;> simp only [h4, cond_true, cond_false] at h
     ·exact absurd h (by simp)
     ·simp only [Option.some.injEq, Prod.mk.injEq] at h; omega
 ·cases h1 : xB (r.drop 2) with
  | none => rw [h1] at h; exact absurd h (by simp)
  | some j =>
   rw [h1] at h
   simp only at h
   have := (Ll h1).2
   rw [List.length_drop] at this
   cases h2 : Ev ((r.drop 2).take j) with
   | none => rw [h2] at h; exact absurd h (by simp)
   | some q =>
    rw [h2] at h
    simp only [Option.some.injEq, Prod.mk.injEq] at h; omega
def Sy (s : List UInt8) (i : Nat) (o : Option ((Nat -> Bool) × Nat)) (e : Option (Sum (List Int × List UInt8 × Int × Unit) (Int × Int × List UInt8 × Int × Unit))) : Prop := match o with
 | some (p, k) => e = some (.inl (wd p, s, ((i + k : Nat) : Int), ()))
 | none => ∃ a, e = some (.inr (42, 0, s, a, ()))
theorem zPl {n : Nat} {s : List UInt8} {i : Nat} {first : Bool} (hn : 300 <= n) (hi : i <= s.length) (hs : s.length < 1000000) : Sy s i (oD first (s.drop i)) (kE n (first, s, (i : Int), ())) := by
 unfold kE oD
 simp only
 cases h0 : [91, 58].isPrefixOf (s.drop i)
 case true =>
  have hl := gG h0
  simp only [List.length_drop, List.length_cons, List.length_nil] at hl
  rw [lF hi hs h0]
  simp only [aH, bM, cond_true]
  rw [aA (by simp; omega), Int.toNat_natCast, strings_Cut, aA (by simp; omega), show ([91, 58] : List UInt8).length = 2 from rfl]
  simp only [aH]
  rw [zPk, List.drop_drop]
  have hC := zHd (n := n) hn
  cases h1 : xB (s.drop (i + 2)) with
  | none =>
   simp only
   have h2 := hC (s.drop (i + 2))
   have zOd : ∀ (w : Bool), ∀ (x : List Int), ∃ a, (ob (ρ := Sum (List Int × List UInt8 × Int × Unit) (Int × Int × List UInt8 × Int × Unit)) (some (x, w)) fun y8 =>
    br (!y8.2) (
    ob2 (aW n (s, IntKind.wrap .i64 (((i + 2 : Nat) : Int) + ((s.drop (i + 2)).length : Int)), ())) (fun y9 =>
     none) (fun y9 =>
     some (.inr (y9.1, y9.2.1, y9.2.2.1, y9.2.2.2.1, ())))) (
    ob (dB n ([58, 93], s, IntKind.wrap .i64 (((i + 2 : Nat) : Int) + ((s.drop (i + 2)).length : Int)), ())) fun y10 =>
    br (!y10.1) (
     ob2 (aW n (y10.2.1, y10.2.2.1, ())) (fun y11 =>
      none) (fun y11 =>
      some (.inr (y11.1, y11.2.1, y11.2.2.1, y11.2.2.2.1, ())))) (
     some (.inl (y8.1, y10.2.1, y10.2.2.1, ()))))) = some (.inr (42, 0, s, a, ())) := by
    intro w x
    simp only [aH]
    cases w
    ·simp only [Bool.not_false, bM, qA, iA]
     exact ⟨_, rfl⟩
    ·simp only [Bool.not_true, aZ]
     have e : IntKind.wrap .i64 (((i + 2 : Nat) : Int) + ((s.drop (i + 2)).length : Int)) = ((s.length : Nat) : Int) := by
      rw [List.length_drop, bT (by omega) (by omega)]; omega
     rw [e, lG (Nat.le_refl _) (by simp)]
     simp only [aH, Bool.not_false, bM, qA, iA]
     exact ⟨_, rfl⟩
   cases hc : Ev (s.drop (i + 2)) with
   | none => rw [hc] at h2; rw [h2.1]; exact zOd _ _
   | some p => rw [hc] at h2; rw [h2.1]; exact zOd _ _
  | some k =>
   simp only
   obtain ⟨k1, k2⟩ := Ll h1
   rw [List.length_drop] at k2
   rw [List.drop_drop] at k1
   have h2 := hC ((s.drop (i + 2)).take k)
   have e : IntKind.wrap .i64 (((i + 2 : Nat) : Int) + (((s.drop (i + 2)).take k).length : Int)) = ((i + 2 + k : Nat) : Int) := by
    rw [List.length_take, List.length_drop, bT (by omega) (by omega)]; omega
   rw [e]
   cases hc : Ev ((s.drop (i + 2)).take k) with
   | none =>
    rw [hc] at h2; rw [h2.1]
    simp only [aH, Bool.not_false, bM, qA, iA]
    exact ⟨_, rfl⟩
   | some p =>
    rw [hc] at h2; rw [h2.1]
    simp only [aH, Bool.not_true, aZ]
    rw [lF (by omega) hs k1]
    simp only [aH, Bool.not_true, aZ, Sy]
    rw [show i + 2 + k + ([58, 93] : List UInt8).length = i + (k + 4) by simp; omega]
 rw [lG hi h0]
 simp only [aH, aZ, cond_false]
 have hE := Sw (n := n) (first := first) (ends := false) (by omega) hi hs
 cases h1 : oC first false (s.drop i) with
 | none =>
  rw [h1] at hE
  obtain ⟨a, hE⟩ := hE
  rw [hE]
  simp only [iA]
  exact ⟨_, rfl⟩
 | some x =>
  obtain ⟨a, k, may⟩ := x
  rw [h1] at hE
  simp only [tF] at hE
  rw [hE]
  have hk := Lj h1
  rw [List.length_drop] at hk
  simp only [zY]
  have hik : i + k <= s.length := by omega
  have hR : bN n ((a.toNat : Int), (a.toNat : Int)) = some (wd (aP a.toNat a.toNat)) := vV hn a.toNat_lt a.toNat_lt
  rw [iY hik, hR, List.drop_drop]
  simp only [aH]
  cases h2 : [45].isPrefixOf (s.drop (i + k))
  ·simp only [Bool.not_false, bM, Bool.false_and, cond_false]; rfl
  simp only [Bool.not_true, aZ, Bool.true_and]
  rw [iY hik]
  simp only [aH]
  cases h3 : [45, 93].isPrefixOf (s.drop (i + k))
  case true => simp only [bM, Bool.not_true, Bool.false_and, cond_false]; rfl
  simp only [aZ, Bool.not_false, Bool.true_and]
  have hp := gG h2
  rw [List.length_drop] at hp ⊢
  simp only [List.length_cons, List.length_nil] at hp
  rw [bT (by omega) (by omega)]
  by_cases h4 : 1 < s.length - (i + k)
  ·rw [aB (by simp; omega), decide_eq_true h4]
   simp only [cond_true]
   have hE2 := Sw (n := n) (first := false) (ends := true) (s := s) (i := i + k + 1) (by omega) (by omega) hs
   rw [show ((i + k : Nat) : Int) + 1 = ((i + k + 1 : Nat) : Int) from rfl]
   rw [List.drop_drop, show i + (k + 1) = i + k + 1 by omega]
   cases h5 : oC false true (s.drop (i + k + 1)) with
   | none =>
    rw [h5] at hE2
    obtain ⟨a, hE2⟩ := hE2
    rw [hE2]
    simp only [iA]
    exact ⟨_, rfl⟩
   | some y =>
    obtain ⟨b, m, is⟩ := y
    rw [h5] at hE2
    simp only [tF] at hE2
    rw [hE2]
    simp only [zY, qA, iA]
    cases may
    ·simp only [Bool.not_false, bM, Bool.false_and, cond_false]; exact ⟨_, rfl⟩
    cases is
    ·simp only [Bool.not_false, bM, Bool.not_true, aZ, Bool.and_false, Bool.false_and, cond_false]; exact ⟨_, rfl⟩
    have hR2 : bN n ((a.toNat : Int), (b.toNat : Int)) = some (wd (aP a.toNat b.toNat)) := vV hn a.toNat_lt b.toNat_lt
    rw [hR2, show decide ((b.toNat : Int) < (a.toNat : Int)) = decide (b.toNat < a.toNat) by simp]
    cases decide (b.toNat < a.toNat)
    ·simp only [Bool.not_false, Bool.not_true, aZ, Bool.and_true, cond_true, aH, Sy]
     rw [show i + (k + 1 + m) = i + k + 1 + m by omega]
    ·simp only [Bool.not_true, aZ, bM, Bool.and_false, cond_false]; exact ⟨_, rfl⟩
  ·rw [aF (by simp; omega), decide_eq_false h4]
   rfl
def uR : Nat -> Bool -> (Nat -> Bool) -> List UInt8 -> Option ((Nat -> Bool) × Nat)
 | 0, _, _, _ => none
 | f + 1, first, q, r =>
  bif [93].isPrefixOf r && !first then some (q, 1)
  else match oD first r with
   | none => none
   | some (p, k) => match uR f false (fun j => q j || p j) (r.drop k) with
    | none => none
    | some (x, m) => some (x, k + m)
def dS (p : Nat -> Bool) : Bool := (List.range 256).all fun i => !p i
def qH (s : List UInt8) : Option ((Nat -> Bool) × Nat) :=
 bif [91].isPrefixOf s then
  let no := [94].isPrefixOf (s.drop 1)
  let i := bif no then 2 else 1
  match uR (s.length + 1) true (fun _ => false) (s.drop i) with
  | none => none
  | some (p, k) =>
   let p' := bif no then (fun j => !p j) else p
   bif dS p' then none else some (p', i + k)
 else none
theorem zBi : ∀ {f : Nat} {first : Bool} {q : Nat -> Bool} {r : List UInt8} {p : Nat -> Bool} {k : Nat}, uR f first q r = some (p, k) -> 1 <= k ∧ k <= r.length
 | 0, _, _, _, _, _, h => absurd h (by simp [uR])
 | f + 1, first, q, r, p, k, h => by
  unfold uR at h
  cases h0 : [93].isPrefixOf r && !first <;> simp only [h0, cond_true, cond_false] at h
  ·cases h1 : oD first r with
   | none => rw [h1] at h; exact absurd h (by simp)
   | some x =>
    obtain ⟨p1, k1⟩ := x
    rw [h1] at h
    simp only at h
    have hk1 := Lm h1
    cases h2 : uR f false (fun j => q j || p1 j) (r.drop k1) with
    | none => rw [h2] at h; exact absurd h (by simp)
    | some y =>
     obtain ⟨p2, k2⟩ := y
     rw [h2] at h
     have hk2 := zBi h2
     rw [List.length_drop] at hk2
     simp only [Option.some.injEq, Prod.mk.injEq] at h; omega
  ·simp only [Bool.and_eq_true] at h0
   have := gG h0.1
   simp only [List.length_cons, List.length_nil, Option.some.injEq, Prod.mk.injEq] at this h; omega
theorem zBj {s : List UInt8} {p : Nat -> Bool} {k : Nat} (h : qH s = some (p, k)) : 1 <= k ∧ k <= s.length := by
 unfold qH at h
 cases h0 : [91].isPrefixOf s <;> simp only [h0, cond_true, cond_false] at h
 ·exact absurd h (by simp)
 ·cases h1 : uR (s.length + 1) true (fun _ => false) (s.drop (bif [94].isPrefixOf (s.drop 1) then 2 else 1)) with
  | none => rw [h1] at h; exact absurd h (by simp)
  | some x =>
   obtain ⟨q, j⟩ := x
   rw [h1] at h
   have hj := zBi h1
   rw [List.length_drop] at hj
   simp only at h
   cases h2 : dS (bif [94].isPrefixOf (s.drop 1) then (fun j => !q j) else q) <;> simp only [h2, cond_true, cond_false] at h
   ·simp only [Option.some.injEq, Prod.mk.injEq] at h; omega
   ·exact absurd h (by simp)
theorem qW {p : Nat -> Bool} : Ty.beq (.arr 4 (.int .u64)) (wd p) [0, 0, 0, 0] = dS p := by
 rw [Bool.eq_iff_iff, <- mR, zTp, mR, zRn, dS, List.all_eq_true]
 simp
def Lp (s : List UInt8) (i : Nat) (no : Bool) (o : Option ((Nat -> Bool) × Nat)) (e : Option (Sum (List Int × List UInt8 × Int × Unit) (Int × Int × List Int × List UInt8 × Int × Unit))) : Prop := match o with
 | some (p, k) => bif dS (bif no then (fun j => !p j) else p) then ∃ a w, e = some (.inr (42, 0, w, s, a, ())) else e = some (.inl (wd (bif no then (fun j => !p j) else p), s, ((i + k : Nat) : Int), ()))
 | none => ∃ a w, e = some (.inr (42, 0, w, s, a, ()))
theorem zMk {n : Nat} {s : List UInt8} {no : Bool} (hn : 300 <= n) (hs : s.length < 1000000) : ∀ (f : Nat) (i m : Nat) (first : Bool) (q : Nat -> Bool), i <= s.length -> s.length - i < f -> f <= m ->
  Lp s i no (uR f first q (s.drop i)) (fix (jD n) m (no, first, wd q, s, (i : Int), ())) := by
 intro f
 induction f with
 | zero => intro i m first q _ h; omega
 | succ f ih =>
  intro i m first q hi hf hm
  rw [cK (by omega), jD]
  simp only
  have hO : ∀ p : Nat -> Bool, lT n [wd q, wd p] = some (wd fun j => q j || p j) := by
   intro p
   have := Xa (n := n) [q, p] (by omega) (by simp; omega) (by simp)
   simpa using this
  have hpart : Lp s i no (match oD first (s.drop i) with
   | none => none
   | some (p, k) => match uR f false (fun j => q j || p j) ((s.drop i).drop k) with
    | none => none
    | some (x, m) => some (x, k + m)) (ob2 (kE n (first, s, (i : Int), ())) (fun y13 =>
   ob (lT n [wd q, y13.1]) fun y14 =>
   fix (jD n) (m - 1) (no, false, y14, y13.2.1, y13.2.2.1, ())) (fun y13 =>
   some (.inr (y13.1, y13.2.1, wd q, y13.2.2.1, y13.2.2.2.1, ())))) := by
   have hp := zPl (n := n) (first := first) hn hi hs
   cases h1 : oD first (s.drop i) with
   | none =>
    rw [h1] at hp
    obtain ⟨a, hp⟩ := hp
    rw [hp]
    exact ⟨_, _, rfl⟩
   | some x =>
    obtain ⟨p, k⟩ := x
    rw [h1] at hp
    simp only [Sy] at hp
    have hk := Lm h1
    rw [List.length_drop] at hk
    rw [hp]
    simp only [zY]
    rw [hO p]
    simp only [aH]
    have := ih (i + k) (m - 1) false (fun j => q j || p j) (by omega) (by omega) (by omega)
    rw [List.drop_drop]
    cases h2 : uR f false (fun j => q j || p j) (s.drop (i + k)) with
    | none => rw [h2] at this; exact this
    | some y =>
     obtain ⟨p2, k2⟩ := y
     rw [h2] at this
     simp only [Lp] at this ⊢
     rw [show i + (k + k2) = i + k + k2 by omega]
     exact this
  unfold uR
  cases first
  case true =>
   simp only [bM, Bool.not_true, Bool.and_false, cond_false]
   exact hpart
  simp only [aZ, Bool.not_false, Bool.and_true]
  cases h0 : [93].isPrefixOf (s.drop i)
  ·rw [lG hi h0]
   simp only [aH, Bool.not_false, bM, cond_false]
   exact hpart
  ·rw [lF hi hs h0]
   simp only [aH, Bool.not_true, aZ, cond_true, Lp]
   cases no
   ·simp only [aZ, cond_false]
    cases hq : dS q
    ·simp only [cond_false]
     rw [aB (by exact qW.trans hq)]; rfl
    ·simp only [cond_true]
     refine ⟨((i + [93].length : Nat) : Int), wd q, ?_⟩
     rw [aF (by exact qW.trans hq)]; rfl
   ·simp only [bM, cond_true, Sr (n := n) (by omega), aH]
    cases hq : dS (fun j => !q j)
    ·simp only [cond_false]
     rw [aB (by exact qW.trans hq)]; rfl
    ·simp only [cond_true]
     refine ⟨((i + [93].length : Nat) : Int), wd (fun j => !q j), ?_⟩
     rw [aF (by exact qW.trans hq)]; rfl
def zMl : Option ((Nat -> Bool) × Nat) -> List Int × Int × Int
 | some (p, k) => (wd p, ((k : Nat) : Int), 0)
 | none => ([0, 0, 0, 0], 0, 42)
theorem Vf {n : Nat} {s : List UInt8} (hn : 400 <= n) (hsn : s.length + 10 < n) (hs : s.length < 1000000) : nT n s = some (zMl (qH s)) := by
 have hT : ∀ e : Option (Sum (List Int × List UInt8 × Int × Unit) (Int × Int × List Int × List UInt8 × Int × Unit)), iV n ([0, 0, 0, 0], s, 0, ()) = e -> nT n s = ob (ob2 e (fun y => some (0, 0, y)) (fun y => some y)) fun y1 => br (y1.1 != 0) (some ([0, 0, 0, 0], 0, y1.1)) (some (y1.2.2.1, y1.2.2.2.2.1, 0)) := by
  intro e he
  unfold nT dV
  simp only
  rw [he]
 have hB : ∀ a w, iV n ([0, 0, 0, 0], s, 0, ()) = some (.inr (42, 0, w, s, a, ())) -> nT n s = some ([0, 0, 0, 0], 0, 42) := by
  intro a w h; rw [hT _ h]; rfl
 have h0 : iV n ([0, 0, 0, 0], s, 0, ()) = br (![91].isPrefixOf s) (some (.inr (42, 0, [0, 0, 0, 0], s, 0, ()))) (fix (jD n) n ([94].isPrefixOf (s.drop 1), true, wd (fun _ => false), s, ((bif [94].isPrefixOf (s.drop 1) then 2 else 1 : Nat) : Int), ())) := by
  unfold iV
  simp only
  rw [show (0 : Int) = ((0 : Nat) : Int) from rfl]
  cases h1 : [91].isPrefixOf s
  ·rw [lG (by omega) (by rw [List.drop_zero]; exact h1)]; rfl
  ·rw [lF (by omega) hs (by rw [List.drop_zero]; exact h1)]
   have hl := gG h1
   simp only [List.length_cons, List.length_nil] at hl
   simp only [aH, Bool.not_true, aZ]
   rw [show 0 + ([91] : List UInt8).length = 1 from rfl]
   cases h2 : [94].isPrefixOf (s.drop 1)
   ·rw [lG (by omega) h2, mR]; rfl
   ·rw [lF (by omega) hs h2, mR]; rfl
 unfold qH
 cases h1 : [91].isPrefixOf s
 ·rw [h1] at h0; simp only [Bool.not_false, bM] at h0
  rw [hB _ _ h0]; rfl
 ·rw [h1] at h0; simp only [Bool.not_true, aZ] at h0
  simp only [cond_true]
  have hi : (bif [94].isPrefixOf (s.drop 1) then 2 else 1) <= s.length := by
   have hl := gG h1
   simp only [List.length_cons, List.length_nil] at hl
   cases h2 : [94].isPrefixOf (s.drop 1)
   ·simp only [cond_false]; omega
   ·have hl2 := gG h2
    rw [List.length_drop] at hl2
    simp only [List.length_cons, List.length_nil] at hl2
    simp only [cond_true]; omega
  have hL := zMk (n := n) (s := s) (no := [94].isPrefixOf (s.drop 1)) (by omega) hs (s.length + 1) _ n true (fun _ => false) hi (by omega) (by omega)
  rw [<- h0] at hL
  cases h3 : uR (s.length + 1) true (fun _ => false) (s.drop (bif [94].isPrefixOf (s.drop 1) then 2 else 1)) with
  | none =>
   rw [h3] at hL
   obtain ⟨a, w, hL⟩ := hL
   rw [hB _ _ hL]; rfl
  | some x =>
   obtain ⟨p, k⟩ := x
   rw [h3] at hL
   simp only [Lp] at hL
   simp only
   cases h4 : dS (bif [94].isPrefixOf (s.drop 1) then (fun j => !p j) else p) <;> rw [h4] at hL <;> simp only [cond_true, cond_false] at hL ⊢
   ·rw [hT _ hL]; rfl
   ·obtain ⟨a, w, hL⟩ := hL
    rw [hB _ _ hL]; rfl
end Go.Dec
