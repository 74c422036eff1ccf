/- Part of a proof over this seat: a library of my own, and what it says of this seat. No statement is proved here. -/
import Derived.Test.YthhbdkdofhhoeaaGreatDoorPartBB
import Derived.Test.YthhbdkdofhhoeaaGreatDoorPartAS
namespace Go.Dec
theorem aA {ρ : Type} {b : Bool} (h : b = true) (x : Option ρ) : chk b x = x := by subst h; rfl
theorem aU {ρ : Type} {b : Bool} (h : b = true) (x y : Option ρ) : br b x y = x := by subst h; rfl
theorem aQ {ρ : Type} {b : Bool} (h : b = false) (x y : Option ρ) : br b x y = y := by subst h; rfl
@[simp] theorem zF {α γ ρ : Type} (x : α) (k : α -> Option ρ) (k' : γ -> Option ρ) : ob2 (some (.inl x)) k k' = k x := rfl
@[simp] theorem gJ {α γ ρ : Type} (x : γ) (k : α -> Option ρ) (k' : γ -> Option ρ) : ob2 (some (.inr x)) k k' = k' x := rfl
theorem oG {ρ α : Type} (f : α -> Option ρ) (x : α) : jn f x = f x := rfl
theorem Av {ρ α : Type} {B : (α -> Option ρ) -> α -> Option ρ} (st : Nat -> α) {N : Nat} {r : Option ρ}
    (h1 : ∀ i, i < N -> ∀ g, B g (st i) = g (st (i + 1))) (h2 : ∀ g, B g (st N) = r) : ∀ k i n, i + k = N -> k < n -> fix B n (st i) = r := by
  intro k
  induction k with
  | zero => intro i n hi hn; rw [cB hn]; have : i = N := by omega
            subst this; exact h2 _
  | succ k ih => intro i n hi hn; rw [cB (by omega), h1 i (by omega)]; exact ih (i + 1) (n - 1) (by omega) (by omega)
theorem zEg {ρ α : Type} {B : (α -> Option ρ) -> α -> Option ρ} (st : Nat -> α) {lo N : Nat} {r : Option ρ}
    (h1 : ∀ i, lo <= i -> i < N -> ∀ g, B g (st i) = g (st (i + 1))) (h2 : ∀ g, B g (st N) = r) : ∀ k i n, i + k = N -> lo <= i -> k < n -> fix B n (st i) = r := by
  intro k
  induction k with
  | zero => intro i n hi hl hn; rw [cB hn]; have : i = N := by omega
            subst this; exact h2 _
  | succ k ih => intro i n hi hl hn; rw [cB (by omega), h1 i hl (by omega)]; exact ih (i + 1) (n - 1) (by omega) (by omega) (by omega)
theorem kW {f : Nat -> Bool} {n : Nat} (h : (List.range n).all f = true) {i : Nat} (hi : i < n) : f i = true := by
 rw [List.all_eq_true] at h; exact h i (by simpa using hi)
def bn : (Nat -> Bool) -> Nat -> Nat
 | _, 0 => 0
 | f, k + 1 => (f 0).toNat + 2 * bn (fun i => f (i + 1)) k
theorem zGs : ∀ (k : Nat) (f : Nat -> Bool) (j : Nat), (bn f k).testBit j = (decide (j < k) && f j)
 | 0, f, j => by simp [bn]
 | k + 1, f, j => by
  unfold bn
  cases j with
  | zero => simp; cases f 0 <;> simp <;> omega
  | succ j =>
   rw [Nat.testBit_succ]
   have h : ((f 0).toNat + 2 * bn (fun i => f (i + 1)) k) / 2 = bn (fun i => f (i + 1)) k := by cases f 0 <;> simp <;> omega
   rw [h, zGs k]; simp
theorem zGt : ∀ (k : Nat) (f : Nat -> Bool), bn f k < 2 ^ k
 | 0, f => by simp [bn]
 | k + 1, f => by
  have := zGt k (fun i => f (i + 1))
  unfold bn
  cases f 0 <;> simp [Nat.pow_succ] <;> omega
theorem Ql : ∀ (k : Nat) {f g : Nat -> Bool}, (∀ j, j < k -> f j = g j) -> bn f k = bn g k
 | 0, f, g, h => rfl
 | k + 1, f, g, h => by
  unfold bn
  rw [h 0 (by omega), Ql k (fun j hj => h (j + 1) (by omega))]
theorem zRk {x k : Nat} {f : Nat -> Bool} (hx : x < 2 ^ k) (h : ∀ j, j < k -> x.testBit j = f j) : x = bn f k := by
 apply Nat.eq_of_testBit_eq
 intro j
 rw [zGs]
 by_cases hj : j < k
 ·simp [hj, h j hj]
 ·simp only [hj, decide_false, Bool.false_and]
  exact Nat.testBit_lt_two_pow (Nat.lt_of_lt_of_le hx (Nat.pow_le_pow_right (by omega) (by omega)))
def jX (p : Nat -> Bool) (k : Nat) : Nat := bn (fun j => p (64 * k + j)) 64
def word (p : Nat -> Bool) (k : Nat) : Int := (jX p k : Nat)
def wd (p : Nat -> Bool) : List Int := [word p 0, word p 1, word p 2, word p 3]
def bx (p : Nat -> Bool) : List Bool := (List.range 256).map p
theorem gX (p : Nat -> Bool) (k : Nat) : jX p k < 2 ^ 64 := zGt _ _
theorem qA (p : Nat -> Bool) (k j : Nat) : (jX p k).testBit j = (decide (j < 64) && p (64 * k + j)) := zGs _ _ _
theorem Gr {x k : Nat} {p : Nat -> Bool} (hx : x < 2 ^ 64) (h : ∀ j, j < 64 -> x.testBit j = p (64 * k + j)) : x = jX p k := zRk hx h
theorem uY {p q : Nat -> Bool} {k : Nat} (h : ∀ i, 64 * k <= i -> i < 64 * k + 64 -> p i = q i) : word p k = word q k := by
 unfold word jX; rw [Ql 64 (fun j hj => h (64 * k + j) (by omega) (by omega))]
theorem qB {p q : Nat -> Bool} (h : ∀ i, i < 256 -> p i = q i) : wd p = wd q := by
 unfold wd
 rw [uY (fun i _ _ => h i (by omega)), uY (k := 1) (fun i _ _ => h i (by omega)), uY (k := 2) (fun i _ _ => h i (by omega)), uY (k := 3) (fun i _ _ => h i (by omega))]
theorem jI {p q : Nat -> Bool} (h : ∀ i, i < 256 -> p i = q i) : bx p = bx q := by
 unfold bx; apply List.map_congr_left; intro i hi; exact h i (by simpa using hi)
theorem word_inj {p q : Nat -> Bool} {k : Nat} (h : word p k = word q k) {i : Nat} (h1 : 64 * k <= i) (h2 : i < 64 * k + 64) : p i = q i := by
 have h : jX p k = jX q k := by unfold word at h; omega
 have := congrArg (fun x => x.testBit (i - 64 * k)) h
 simp only [qA] at this
 rw [show 64 * k + (i - 64 * k) = i by omega] at this
 have h3 : i - 64 * k < 64 := by omega
 simpa [h3] using this
theorem zQi {p q : Nat -> Bool} (h : wd p = wd q) {i : Nat} (hi : i < 256) : p i = q i := by
 simp only [wd, List.cons.injEq, and_true] at h
 obtain ⟨h0, h1, h2, h3⟩ := h
 by_cases a : i < 64
 ·exact word_inj h0 (by omega) (by omega)
 ·by_cases b : i < 128
  ·exact word_inj h1 (by omega) (by omega)
  ·by_cases c : i < 192
   ·exact word_inj h2 (by omega) (by omega)
   ·exact word_inj h3 (by omega) (by omega)
theorem En {p : Nat -> Bool} {i : Nat} (d : Bool) (hi : i < 256) : (bx p).getD i d = p i := by
 simp [bx, List.getD_eq_getElem?_getD, hi]
theorem Aw {p : Nat -> Bool} {i : Nat} (b : Bool) : (bx p).set i b = bx (fun j => if j = i then b else p j) := by
 apply List.ext_getElem?
 intro j
 by_cases hj : j < 256
 ·simp only [bx, List.getElem?_set, List.length_map, List.length_range, List.getElem?_map]
  by_cases e : i = j
  ·subst e; simp [hj]
  ·simp [e, Ne.symm e, hj]
 ·simp only [bx, List.getElem?_set, List.length_map, List.length_range, List.getElem?_map]
  simp [hj]
  omega
theorem nL : wd (fun _ => false) = [0, 0, 0, 0] := by decide +kernel
theorem Eo : bx (fun _ => false) = List.replicate 256 false := by decide +kernel
theorem wrapN {x : Nat} (h : x < 2 ^ 64) : IntKind.u64.wrap ((x : Nat) : Int) = x := IntWalk.u64_in _ (by omega)
theorem bvN {x : Nat} (h : x < 2 ^ 64) : (BitVec.ofInt 64 ((x : Nat) : Int)).toNat = x := by
 rw [BitVec.toNat_ofInt]; omega
theorem ior {a b : Nat} (ha : a < 2 ^ 64) (hb : b < 2 ^ 64) : bJ .u64 .or (a : Int) (b : Int) = ((a ||| b : Nat) : Int) := by
 show IntKind.u64.wrap ((BitVec.ofInt 64 (a : Int) ||| BitVec.ofInt 64 (b : Int)).toNat : Int) = _
 rw [BitVec.toNat_or, bvN ha, bvN hb]
 exact wrapN (Nat.or_lt_two_pow ha hb)
theorem zSo {a b : Nat} (ha : a < 2 ^ 64) (hb : b < 2 ^ 64) : bJ .u64 .xor (a : Int) (b : Int) = ((a ^^^ b : Nat) : Int) := by
 show IntKind.u64.wrap ((BitVec.ofInt 64 (a : Int) ^^^ BitVec.ofInt 64 (b : Int)).toNat : Int) = _
 rw [BitVec.toNat_xor, bvN ha, bvN hb]
 exact wrapN (Nat.xor_lt_two_pow ha hb)
theorem zGu {a b : Nat} (ha : a < 2 ^ 64) (hb : b < 2 ^ 64) : bJ .u64 .and (a : Int) (b : Int) = ((a &&& b : Nat) : Int) := by
 show IntKind.u64.wrap ((BitVec.ofInt 64 (a : Int) &&& BitVec.ofInt 64 (b : Int)).toNat : Int) = _
 rw [BitVec.toNat_and, bvN ha, bvN hb]
 exact wrapN (Nat.and_lt_two_pow _ hb)
theorem zOb (p q : Nat -> Bool) (k : Nat) : bJ .u64 .or (word p k) (word q k) = word (fun i => p i || q i) k := by
 unfold word
 rw [ior (gX _ _) (gX _ _), Gr (p := fun i => p i || q i) (Nat.or_lt_two_pow (gX p k) (gX q k))]
 intro j hj
 simp [qA, hj]
theorem zOc (j : Nat) : (18446744073709551615 : Nat).testBit j = decide (j < 64) := by
 have := Nat.testBit_two_pow_sub_one 64 j
 simpa using this
theorem zLq (p : Nat -> Bool) (k : Nat) : bJ .u64 .xor 18446744073709551615 (word p k) = word (fun i => !p i) k := by
 unfold word
 rw [show (18446744073709551615 : Int) = ((18446744073709551615 : Nat) : Int) from rfl]
 rw [zSo (by omega) (gX _ _), Gr (p := fun i => !p i) (Nat.xor_lt_two_pow (by omega) (gX p k))]
 intro j hj
 simp [Nat.testBit_xor, zOc, qA, hj]
theorem zIu (p : Nat -> Bool) {i : Nat} (hi : i < 256) : (wd p).set (i / 64) (bJ .u64 .or ((wd p).getD (i / 64) 0) (((2 ^ (i % 64) : Nat)) : Int)) = wd (fun j => p j || decide (j = i)) := by
 have hb : 2 ^ (i % 64) < 2 ^ 64 := Nat.pow_lt_pow_right (by omega) (by omega)
 have hw : ∀ k, k = i / 64 -> bJ .u64 .or (word p k) (((2 ^ (i % 64) : Nat)) : Int) = word (fun j => p j || decide (j = i)) k := by
  intro k hk
  unfold word
  rw [ior (gX _ _) hb, Gr (p := fun j => p j || decide (j = i)) (Nat.or_lt_two_pow (gX p k) hb)]
  intro j hj
  simp only [Nat.testBit_or, qA, Nat.testBit_two_pow, hj, decide_true, Bool.true_and]
  congr 1
  apply decide_eq_decide.2
  omega
 have ho : ∀ k, k ≠ i / 64 -> word p k = word (fun j => p j || decide (j = i)) k := by
  intro k hk
  apply uY
  intro j h1 h2
  have : j ≠ i := by omega
  simp [this]
 have hk : i / 64 = 0 ∨ i / 64 = 1 ∨ i / 64 = 2 ∨ i / 64 = 3 := by omega
 rcases hk with h | h | h | h <;> rw [h] <;> simp only [wd, List.getD_cons_zero, List.getD_cons_succ, List.set_cons_zero, List.set_cons_succ]
 ·rw [hw 0 h.symm, ho 1 (by omega), ho 2 (by omega), ho 3 (by omega)]
 ·rw [hw 1 h.symm, ho 0 (by omega), ho 2 (by omega), ho 3 (by omega)]
 ·rw [hw 2 h.symm, ho 0 (by omega), ho 1 (by omega), ho 3 (by omega)]
 ·rw [hw 3 h.symm, ho 0 (by omega), ho 1 (by omega), ho 2 (by omega)]
theorem zIv : ((List.range 256).all fun i => decide (eP .i64 (i : Int) 6 = ((i / 64 : Nat) : Int)) && decide (Im .u64 1 (bJ .i64 .and (i : Int) 63) = ((2 ^ (i % 64) : Nat) : Int)) && decide (0 <= bJ .i64 .and (i : Int) 63)
 && decide (eP .u8 (i : Int) 6 = ((i / 64 : Nat) : Int)) && decide (Im .u64 1 (bJ .u8 .and (i : Int) 63) = ((2 ^ (i % 64) : Nat) : Int)) && decide (0 <= bJ .u8 .and (i : Int) 63)) = true := by decide +kernel
theorem zSp {i : Nat} (hi : i < 256) : eP .i64 (i : Int) 6 = ((i / 64 : Nat) : Int) ∧ Im .u64 1 (bJ .i64 .and (i : Int) 63) = ((2 ^ (i % 64) : Nat) : Int) ∧ 0 <= bJ .i64 .and (i : Int) 63 := by
 have := kW zIv hi
 simp only [Bool.and_eq_true, decide_eq_true_eq] at this
 exact ⟨this.1.1.1.1.1, this.1.1.1.1.2, this.1.1.1.2⟩
theorem zQj {i : Nat} (hi : i < 256) : eP .u8 (i : Int) 6 = ((i / 64 : Nat) : Int) ∧ Im .u64 1 (bJ .u8 .and (i : Int) 63) = ((2 ^ (i % 64) : Nat) : Int) ∧ 0 <= bJ .u8 .and (i : Int) 63 := by
 have := kW zIv hi
 simp only [Bool.and_eq_true, decide_eq_true_eq] at this
 exact ⟨this.1.1.2, this.1.2, this.2⟩
theorem Qm : Ty.dflt (.int .u64) = (0 : Int) := rfl
def aR (a b : Nat) : Nat -> Bool := fun i => decide (a <= i) && decide (i <= b)
theorem zEh {p q : Nat -> Bool} (h : ∀ i, i < 256 -> p i = q i) : some (wd p) = some (wd q) := by rw [qB h]
theorem Mx {p q : Nat -> Bool} (h : ∀ i, i < 256 -> p i = q i) : some (bx p) = some (bx q) := by rw [jI h]
theorem uZ {n a b : Nat} (hn : 300 <= n) (ha : a < 256) (hb : b < 256) : bP n ((a : Int), (b : Int)) = some (wd (aR a b)) := by
 unfold bP
 simp only
 rw [bG (by omega) (by omega)]
 by_cases hab : a <= b
 ·have := zEg (lo := a) (B := lX n) (r := some (wd (aR a b))) (N := b + 1) (fun i => ((b : Int), (i : Int), wd (fun j => decide (a <= j) && decide (j < i)), ()))
   (by
    intro i hlo hi g
    have hi2 : i < 256 := by omega
    obtain ⟨s1, s2, s3⟩ := zSp hi2
    rw [lX]
    simp only
    have hc : i <= b := by omega
    rw [bG (by omega) (by omega), s1, s2]
    rw [aU (by simp; omega), aA (by decide), aA (fU (by omega) (by omega)), aA (by simp; omega), aA (by simpa using s3), aA (fU (by omega) (by omega)), aA (by simp; omega)]
    rw [bG (by omega) (by omega), Qm, Int.toNat_natCast, zIu _ hi2]
    have : wd (fun j => (decide (a <= j) && decide (j < i)) || decide (j = i)) = wd (fun j => decide (a <= j) && decide (j < i + 1)) := by
     refine qB fun j hj => ?_
     rw [Bool.eq_iff_iff]; simp; omega
    rw [this]; rfl)
   (by
    intro g
    rw [lX]
    simp only
    rw [aQ (by rw [bG (by omega) (by omega)]; simp; omega)]
    refine zEh fun i hi => ?_
    simp only [aR]; rw [Bool.eq_iff_iff]; simp; omega)
   (b + 1 - a) a n (by omega) (by omega) (by omega)
  have e : wd (fun j => decide (a <= j) && decide (j < a)) = [0, 0, 0, 0] := by
   rw [<- nL]; refine qB fun j hj => ?_
   rw [Bool.eq_iff_iff]; simp
  simp only [e] at this
  exact this
 ·rw [cB (by omega), lX]
  simp only
  rw [aQ (by rw [bG (by omega) (by omega)]; simp; omega), <- nL]
  refine zEh fun j hj => ?_
  simp only [aR]; rw [Bool.eq_iff_iff]; simp; omega
theorem Tq {n : Nat} (hn : 5 <= n) (p : Nat -> Bool) : zN n (wd p) = some (wd fun i => !p i) := by
 obtain ⟨m, rfl⟩ : ∃ m, n = m + 5 := ⟨n - 5, by omega⟩
 have h := zLq p
 have e : wd (fun i => !p i) = [bJ .u64 .xor 18446744073709551615 (word p 0), bJ .u64 .xor 18446744073709551615 (word p 1), bJ .u64 .xor 18446744073709551615 (word p 2), bJ .u64 .xor 18446744073709551615 (word p 3)] := by rw [h, h, h, h]; rfl
 rw [e]
 rfl
theorem zGv {n : Nat} (hn : 5 <= n) (g0 : List (List Int) × Int × Int × List Int × Unit -> Option (List Int)) (l : List (List Int)) (c i : Int) (p q : Nat -> Bool) :
  fix (Jv n g0) n (l, c, i, 0, wd p, wd q, ()) = g0 (l, c, IntKind.wrap .i64 (i + 1), wd (fun i => p i || q i), ()) := by
 obtain ⟨m, rfl⟩ : ∃ m, n = m + 5 := ⟨n - 5, by omega⟩
 have h := zOb p q
 have e : wd (fun i => p i || q i) = [bJ .u64 .or (word p 0) (word q 0), bJ .u64 .or (word p 1) (word q 1), bJ .u64 .or (word p 2) (word q 2), bJ .u64 .or (word p 3) (word q 3)] := by rw [h, h, h, h]; rfl
 rw [e]
 rfl
theorem Wy {n : Nat} (ps : List (Nat -> Bool)) (hn : 5 <= n) (hl : ps.length < n) (hm : ps.length < 1000) : kR n (ps.map wd) = some (wd fun i => ps.any (· i)) := by
 unfold kR
 simp only [List.length_map]
 have := Av (B := uK n) (r := some (wd fun i => ps.any (· i))) (N := ps.length) (fun i => (ps.map wd, (ps.length : Int), (i : Int), wd (fun j => (ps.take i).any (· j)), ()))
  (by
   intro i hi g
   rw [uK]
   simp only
   rw [aU (by simp; omega), aA (fU (by omega) (by simp; omega))]
   have hg : bA (Ty.dflt (.arr 4 (.int .u64))) (ps.map wd) (i : Int) = wd ps[i] := by
    simp [bA, List.getD_eq_getElem?_getD, hi]
   rw [hg, zGv hn, bG (by omega) (by omega)]
   have hw : wd (fun j => (ps.take i).any (· j) || ps[i] j) = wd (fun j => (ps.take (i + 1)).any (· j)) := by
    refine qB fun j hj => ?_
    rw [List.take_succ_eq_append_getElem hi, List.any_append]; simp
   rw [hw]; rfl)
  (by
   intro g
   rw [uK]
   simp only
   rw [aQ (by simp)]
   simp)
  ps.length 0 n (by omega) hl
 simpa [nL] using this
def ofP (s : List UInt8) : Nat -> Bool := fun i => s.any fun c => decide (c.toNat = i)
theorem nN {α : Type} {d : α} {s : List α} {i : Nat} (h : i < s.length) : bA d s (i : Int) = s[i] := by
 simp [bA, List.getD_eq_getElem?_getD, h]
theorem zBo {s : List UInt8} {i : Nat} (h : i < s.length) : ofP (s.take (i + 1)) = fun j => ofP (s.take i) j || decide (j = s[i].toNat) := by
 funext j
 simp only [ofP]
 rw [List.take_succ_eq_append_getElem h, List.any_append]
 simp [eq_comm]
theorem Lh {n : Nat} (s : List UInt8) (hl : s.length < n) (hm : s.length < 100000) : lY n s = some (wd (ofP s)) := by
 unfold lY
 simp only
 have := Av (B := uL n) (r := some (wd (ofP s))) (N := s.length) (fun i => (s, (s.length : Int), (i : Int), wd (ofP (s.take i)), ()))
  (by
   intro i hi g
   have hc : s[i].toNat < 256 := s[i].toNat_lt
   obtain ⟨s1, s2, s3⟩ := zQj hc
   rw [uL]
   simp only
   rw [nN hi, s1, s2]
   rw [aU (by simp; omega), aA (nU hi), aA (by decide), aA (fU (by omega) (by omega)), aA (by simp; omega), aA (nU hi), aA (by simpa using s3), aA (fU (by omega) (by omega)), aA (by simp; omega)]
   rw [bG (by omega) (by omega), Qm, Int.toNat_natCast, zIu _ hc, zBo hi]
   rfl)
  (by
   intro g
   rw [uL]
   simp only
   rw [aQ (by simp)]
   simp)
  s.length 0 n (by omega) hl
 have e : wd (ofP (s.take 0)) = [0, 0, 0, 0] := by rw [<- nL]; rfl
 simp only [e] at this
 simpa using this
theorem Vm {n a b : Nat} (hn : 300 <= n) (ha : a < 256) (hb : b < 256) : dN n ((a : Int), (b : Int)) = some (bx (aR a b)) := by
 unfold dN
 simp only
 rw [bG (by omega) (by omega)]
 by_cases hab : a <= b
 ·have := zEg (lo := a) (B := jN n) (r := some (bx (aR a b))) (N := b + 1) (fun i => ((b : Int), (i : Int), List.replicate 256 false, bx (fun j => decide (a <= j) && decide (j < i)), ()))
   (by
    intro i hlo hi g
    have hi2 : i < 256 := by omega
    rw [jN]
    simp only
    have hc : i <= b := by omega
    rw [bG (by omega) (by omega)]
    rw [aU (by simp; omega), aA (fU (by omega) (by omega)), aA (by simp; omega)]
    rw [bG (by omega) (by omega), Int.toNat_natCast, Aw]
    have : bx (fun j => if j = i then true else (decide (a <= j) && decide (j < i))) = bx (fun j => decide (a <= j) && decide (j < i + 1)) := by
     refine jI fun j hj => ?_
     rw [Bool.eq_iff_iff]; split <;> simp <;> omega
    rw [this]; rfl)
   (by
    intro g
    rw [jN]
    simp only
    rw [aQ (by rw [bG (by omega) (by omega)]; simp; omega)]
    refine Mx fun i hi => ?_
    simp only [aR]; rw [Bool.eq_iff_iff]; simp; omega)
   (b + 1 - a) a n (by omega) (by omega) (by omega)
  have e : bx (fun j => decide (a <= j) && decide (j < a)) = List.replicate 256 false := by
   rw [<- Eo]; refine jI fun j hj => ?_
   rw [Bool.eq_iff_iff]; simp
  simp only [e] at this
  exact this
 ·rw [cB (by omega), jN]
  simp only
  rw [aQ (by rw [bG (by omega) (by omega)]; simp; omega), <- Eo]
  refine Mx fun j hj => ?_
  simp only [aR]; rw [Bool.eq_iff_iff]; simp; omega
theorem zDe {n : Nat} (hn : 300 <= n) (p q : Nat -> Bool) : nV n (bx p, bx q) = some (bx fun i => p i || q i) := by
 unfold nV
 simp only
 have := Av (B := qN n) (r := some (bx fun i => p i || q i)) (N := 256) (fun i => ((i : Int), bx (fun j => if j < i then p j || q j else p j), bx q, List.replicate 256 false, ()))
  (by
   intro i hi g
   have key : ∀ b, b = (p i || q i) -> (g (((i + 1 : Nat) : Int), bx (fun j => if j = i then b else if j < i then p j || q j else p j), bx q, List.replicate 256 false, ()) = g (((i + 1 : Nat) : Int), bx (fun j => if j < i + 1 then p j || q j else p j), bx q, List.replicate 256 false, ())) := by
    intro b hb
    have : bx (fun j => if j = i then b else if j < i then p j || q j else p j) = bx (fun j => if j < i + 1 then p j || q j else p j) := by
     refine jI fun j hj => ?_
     by_cases e : j = i
     ·subst e; simp [hb]
     ·by_cases e2 : j < i
      ·simp [e, e2, Nat.lt_succ_of_lt e2]
      ·simp [e, e2, show ¬ j < i + 1 by omega]
    rw [this]
   rw [qN]
   simp only
   rw [aU (by simp; omega), aA (fU (by omega) (by omega)), aA (by simp; omega), aA (fU (by omega) (by omega)), aA (by simp; omega)]
   rw [bG (by omega) (by omega), Int.toNat_natCast, En _ hi, En _ hi, Aw, Aw, show (i : Int) + 1 = ((i + 1 : Nat) : Int) from rfl]
   simp only [Nat.lt_irrefl, if_false]
   cases hp : p i
   ·rw [aQ rfl, aA (fU (by omega) (by omega)), aA (decide_eq_true hi), aA (fU (by omega) (by omega)), aA (decide_eq_true hi)]; rw [key (q i) (by rw [hp]; rfl)]
   ·rw [aU rfl]; exact key true (by rw [hp]; rfl))
  (by
   intro g
   rw [qN]
   simp only
   rw [aQ (by simp)]
   refine Mx fun i hi => ?_
   simp [hi])
  256 0 n (by omega) (by omega)
 have e : bx (fun j => if j < 0 then p j || q j else p j) = bx p := jI fun j hj => by simp
 rw [e] at this
 exact this
theorem zDf {n : Nat} (s : List UInt8) (hl : s.length < n) (hm : s.length < 100000) : Ac n s = some (bx (ofP s)) := by
 unfold Ac
 simp only
 have := Av (B := qO n) (r := some (bx (ofP s))) (N := s.length) (fun i => (s, (i : Int), List.replicate 256 false, bx (ofP (s.take i)), ()))
  (by
   intro i hi g
   have hc : s[i].toNat < 256 := s[i].toNat_lt
   rw [qO]
   simp only
   rw [nN hi]
   rw [aU (by simp; omega), aA (nU hi), aA (fU (by omega) (by omega)), aA (by simp; omega)]
   rw [bG (by omega) (by omega), Int.toNat_natCast, Aw, zBo hi]
   have : bx (fun j => if j = s[i].toNat then true else ofP (s.take i) j) = bx (fun j => ofP (s.take i) j || decide (j = s[i].toNat)) := by
    refine jI fun j hj => ?_
    by_cases e : j = s[i].toNat
    ·rw [if_pos e]; simp [e]
    ·rw [if_neg e]; simp [e]
   rw [this]; rfl)
  (by
   intro g
   rw [qO]
   simp only
   rw [aQ (by simp)]
   simp)
  s.length 0 n (by omega) hl
 have e : bx (ofP (s.take 0)) = List.replicate 256 false := by rw [<- Eo]; rfl
 simp only [e] at this
 exact this
def aN (p : Nat -> Bool) : List UInt8 := ((List.range 256).filter p).map UInt8.ofNat
theorem wK {n : Nat} (hn : 300 <= n) (p : Nat -> Bool) : iW n (bx p) = some (aN p) := by
 unfold iW
 simp only
 have := Av (B := mW n) (r := some (aN p)) (N := 256) (fun i => ((i : Int), bx p, ((List.range i).filter p).map (fun j => ((j : Nat) : Int)), ()))
  (by
   intro i hi g
   have hle : ((List.range i).filter p).length <= i := by have := List.length_filter_le p (List.range i); simpa using this
   rw [mW]
   simp only
   rw [aU (by simp; omega), aA (fU (by omega) (by omega)), aA (by simp; omega)]
   rw [bG (by omega) (by omega), Int.toNat_natCast, En _ hi, show (i : Int) + 1 = ((i + 1 : Nat) : Int) from rfl, IntWalk.u8_in _ (by omega), List.range_succ]
   cases hp : p i
   ·rw [aQ rfl]; simp [hp]
   ·rw [aU rfl, aA (by simp [room]; omega)]; simp [hp])
  (by
   intro g
   rw [mW]
   simp only
   rw [aQ (by simp)]
   simp [cZ, aN])
  256 0 n (by omega) (by omega)
 exact this
theorem zGw (p : Nat -> Bool) : (aN p).length <= 256 := by
 have := List.length_filter_le p (List.range 256); simpa [aN] using this
theorem Ya {n : Nat} (hn : 300 <= n) (p : Nat -> Bool) : uP n (bx p) = some ((aN p).length : Int) := by
 unfold uP
 simp only
 rw [wK hn]; rfl
theorem zQk {p : Nat -> Bool} : wd p = [0, 0, 0, 0] <-> ∀ i, i < 256 -> p i = false := by
 rw [<- nL]
 exact ⟨fun h i hi => zQi h hi, fun h => qB h⟩
theorem zSq {p q : Nat -> Bool} : Ty.beq (.arr 4 (.int .u64)) (wd p) (wd q) = true <-> wd p = wd q := beq_iff rfl
def vN (p : Nat -> Bool) (i k : Nat) : Nat := bn (fun j => p (max i (64 * k) + j)) (64 * (k + 1) - max i (64 * k))
def vW (p : Nat -> Bool) (i : Nat) : List Int := [((vN p i 0 : Nat) : Int), ((vN p i 1 : Nat) : Int), ((vN p i 2 : Nat) : Int), ((vN p i 3 : Nat) : Int)]
theorem zRl (p : Nat -> Bool) (i k : Nat) : vN p i k < 2 ^ 64 := by
 unfold vN
 exact Nat.lt_of_lt_of_le (zGt _ _) (Nat.pow_le_pow_right (by omega) (by omega))
theorem zOd (p : Nat -> Bool) {i k : Nat} (h : i / 64 = k) : vN p i k = (p i).toNat + 2 * vN p (i + 1) k := by
 unfold vN
 have h1 : max i (64 * k) = i := by omega
 have h2 : max (i + 1) (64 * k) = i + 1 := by omega
 rw [h1, h2, show 64 * (k + 1) - i = (64 * (k + 1) - (i + 1)) + 1 by omega]
 rw [bn]
 congr 2
 apply Ql
 intro j hj
 show p (i + (j + 1)) = p (i + 1 + j)
 congr 1; omega
theorem zLr (p : Nat -> Bool) {i k : Nat} (h : i / 64 ≠ k) : vN p (i + 1) k = vN p i k := by
 unfold vN
 by_cases h1 : i < 64 * k
 ·have h1' : max i (64 * k) = 64 * k := by omega
  have h2 : max (i + 1) (64 * k) = 64 * k := by omega
  rw [h1', h2]
 ·have h3 : 64 * (k + 1) - max i (64 * k) = 0 := by omega
  have h4 : 64 * (k + 1) - max (i + 1) (64 * k) = 0 := by omega
  rw [h3, h4]; rfl
theorem zOe (p : Nat -> Bool) : vW p 0 = wd p := by
 unfold vW wd word jX vN
 simp [show ∀ k, max 0 (64 * k) = 64 * k by omega]
theorem zOf (p : Nat -> Bool) {i : Nat} (hi : i < 256) : (vW p i).set (i / 64) ((vN p (i + 1) (i / 64) : Nat) : Int) = vW p (i + 1) := by
 have hk : i / 64 = 0 ∨ i / 64 = 1 ∨ i / 64 = 2 ∨ i / 64 = 3 := by omega
 have ho : ∀ k, i / 64 ≠ k -> vN p (i + 1) k = vN p i k := fun k h => zLr p h
 rcases hk with h | h | h | h <;> rw [h] <;> simp only [vW, List.set_cons_zero, List.set_cons_succ]
 ·rw [ho 1 (by omega), ho 2 (by omega), ho 3 (by omega)]
 ·rw [ho 0 (by omega), ho 2 (by omega), ho 3 (by omega)]
 ·rw [ho 0 (by omega), ho 1 (by omega), ho 3 (by omega)]
 ·rw [ho 0 (by omega), ho 1 (by omega), ho 2 (by omega)]
theorem zQl (p : Nat -> Bool) {i k : Nat} (hk : k < 4) : (vW p i).getD k 0 = ((vN p i k : Nat) : Int) := by
 have : k = 0 ∨ k = 1 ∨ k = 2 ∨ k = 3 := by omega
 rcases this with rfl | rfl | rfl | rfl <;> rfl
theorem Yb {n : Nat} (hn : 300 <= n) (p : Nat -> Bool) : uQ n (wd p) = some (bx p) := by
 unfold uQ
 simp only
 have := Av (B := nW n) (r := some (bx p)) (N := 256) (fun i => ((i : Int), vW p i, List.replicate 256 false, bx (fun j => decide (j < i) && p j), ()))
  (by
   intro i hi g
   have hk : i / 64 < 4 := by omega
   have hv : IntKind.wrap .i64 (Int.tdiv (i : Int) 64) = ((i / 64 : Nat) : Int) := by
    rw [IntWalk.i64_quo _ _ (by omega)]; rfl
   have hs := zOd p (i := i) rfl
   have hlt := zRl p i (i / 64)
   rw [nW]
   simp only
   rw [hv, Int.toNat_natCast, Int.toNat_natCast, Qm, zQl p hk, Aw]
   have e1 : IntKind.wrap .u64 (Int.tdiv ((vN p i (i / 64) : Nat) : Int) 2) = ((vN p (i + 1) (i / 64) : Nat) : Int) := by
    rw [IntWalk.u64_quo _ _ (by omega)]
    cases hp : p i <;> rw [hp] at hs <;> simp at hs <;> omega
   have e2 : (Int.tmod ((vN p i (i / 64) : Nat) : Int) 2 == 1) = p i := by
    rw [Int.tmod_eq_emod_of_nonneg (by omega)]
    cases hp : p i <;> rw [hp] at hs <;> simp at hs <;> simp <;> omega
   rw [e1, e2, zOf p hi]
   rw [aU (by simp; omega), aA (by decide), aA (fU (by omega) (by omega)), aA (by simp; omega), aA (by decide), aA (fU (by omega) (by omega)), aA (by simp; omega), aA (by decide), aA (by decide), aA (fU (by omega) (by omega)), aA (by simp; omega), aA (by decide), aA (fU (by omega) (by omega)), aA (by simp; omega)]
   rw [bG (by omega) (by omega)]
   have : bx (fun j => if j = i then p i else decide (j < i) && p j) = bx (fun j => decide (j < i + 1) && p j) := by
    refine jI fun j hj => ?_
    by_cases e : j = i
    ·subst e; simp
    ·rw [if_neg e]; congr 1; apply decide_eq_decide.2; omega
   rw [this]; rfl)
  (by
   intro g
   rw [nW]
   simp only
   rw [aQ (by simp)]
   refine Mx fun i hi => ?_
   simp [hi])
  256 0 n (by omega) (by omega)
 have e : bx (fun j => decide (j < 0) && p j) = List.replicate 256 false := by rw [<- Eo]; exact jI fun j hj => by simp
 rw [e, zOe] at this
 exact this
theorem Tt {n : Nat} (hn : 300 <= n) (p q : Nat -> Bool) : fix (jO n) n (0, List.replicate 256 false, bx p, bx q, ()) = some (bx (fun i => q i && !p i), true) := by
 have := Av (B := jO n) (r := some (bx (fun i => q i && !p i), true)) (N := 256) (fun i => ((i : Int), List.replicate 256 false, bx p, bx (fun j => if j < i then q j && !p j else q j), ()))
  (by
   intro i hi g
   have key : ∀ b, b = (q i && !p i) -> (g (((i + 1 : Nat) : Int), List.replicate 256 false, bx p, bx (fun j => if j = i then b else if j < i then q j && !p j else q j), ()) = g (((i + 1 : Nat) : Int), List.replicate 256 false, bx p, bx (fun j => if j < i + 1 then q j && !p j else q j), ())) := by
    intro b hb
    have : bx (fun j => if j = i then b else if j < i then q j && !p j else q j) = bx (fun j => if j < i + 1 then q j && !p j else q j) := by
     refine jI fun j hj => ?_
     by_cases e : j = i
     ·subst e; simp [hb]
     ·by_cases e2 : j < i
      ·simp [e, e2, Nat.lt_succ_of_lt e2]
      ·simp [e, e2, show ¬ j < i + 1 by omega]
    rw [this]
   rw [jO]
   simp only
   rw [aU (by simp; omega), aA (fU (by omega) (by omega)), aA (by simp; omega)]
   rw [bG (by omega) (by omega), Int.toNat_natCast, En _ hi, En _ hi, Aw, Aw, show (i : Int) + 1 = ((i + 1 : Nat) : Int) from rfl]
   simp only [Nat.lt_irrefl, if_false]
   cases hq : q i
   ·rw [aQ rfl, aA (fU (by omega) (by omega)), aA (decide_eq_true hi)]; exact key false (by rw [hq]; rfl)
   ·rw [aU rfl, aA (fU (by omega) (by omega)), aA (decide_eq_true hi), aA (fU (by omega) (by omega)), aA (decide_eq_true hi)]; exact key (!p i) (by rw [hq]; rfl))
  (by
   intro g
   rw [jO]
   simp only
   rw [aQ (by simp)]
   have e : bx (fun j => if j < 256 then q j && !p j else q j) = bx (fun i => q i && !p i) := jI fun j hj => by simp [hj]
   rw [e])
  256 0 n (by omega) (by omega)
 have e : bx (fun j => if j < 0 then q j && !p j else q j) = bx q := jI fun j hj => by simp
 rw [e] at this
 exact this
def zBp (ps : List (Nat -> Bool)) : Nat -> Bool := fun i => ps.any (· i)
def Ep (s : List UInt8) : Option (Nat -> Bool) :=
 bif s == [117, 112, 112, 101, 114] then some (aR 65 90)
 else bif s == [108, 111, 119, 101, 114] then some (aR 97 122)
 else bif s == [97, 108, 112, 104, 97] then some (zBp [aR 65 90, aR 97 122])
 else bif s == [100, 105, 103, 105, 116] then some (aR 48 57)
 else bif s == [97, 108, 110, 117, 109] then some (zBp [aR 65 90, aR 97 122, aR 48 57])
 else bif s == [120, 100, 105, 103, 105, 116] then some (zBp [aR 48 57, aR 65 70, aR 97 102])
 else bif s == [98, 108, 97, 110, 107] then some (ofP [32, 9])
 else bif s == [115, 112, 97, 99, 101] then some (ofP [32, 9, 10, 11, 12, 13])
 else bif s == [99, 110, 116, 114, 108] then some (zBp [aR 0 31, ofP [127]])
 else bif s == [103, 114, 97, 112, 104] then some (aR 33 126)
 else bif s == [112, 114, 105, 110, 116] then some (aR 32 126)
 else bif s == [112, 117, 110, 99, 116] then some (zBp [aR 33 47, aR 58 64, aR 91 96, aR 123 126])
 else none
def zEi (o : Option (Nat -> Bool)) (a : Option (List Int × Bool)) (b : Option (List Bool × Bool)) : Prop := match o with
 | some p => a = some (wd p, true) ∧ b = some (bx p, true)
 | none => a = some (wd fun _ => false, false) ∧ ∃ p, b = some (bx p, false)
theorem fV {p q : Nat -> Bool} (h : ((List.range 256).all fun i => p i == q i) = true) (o : Option (List Int × Bool)) (o2 : Option (List Bool × Bool)) (h1 : o = some (wd p, true)) (h2 : o2 = some (bx q, true)) :
  zEi (some p) o o2 := by
 refine ⟨h1, ?_⟩
 rw [h2]
 have : bx q = bx p := jI fun i hi => by have := kW h hi; simp at this; exact this.symm
 rw [this]
theorem zGx {n : Nat} (hn : 300 <= n) (s : List UInt8) : zEi (Ep s) (xK n s) (Oa n s) := by
 have R : ∀ a b : Nat, a < 256 -> b < 256 -> bP n ((a : Int), (b : Int)) = some (wd (aR a b)) := fun a b ha hb => uZ hn ha hb
 have R2 : ∀ a b : Nat, a < 256 -> b < 256 -> dN n ((a : Int), (b : Int)) = some (bx (aR a b)) := fun a b ha hb => Vm hn ha hb
 have O : ∀ ps : List (Nat -> Bool), ps.length < 10 -> kR n (ps.map wd) = some (wd fun i => ps.any (· i)) := fun ps h => Wy ps (by omega) (by omega) (by omega)
 have O2 := fun p q => zDe hn p q
 have F : ∀ s : List UInt8, s.length < 10 -> lY n s = some (wd (ofP s)) := fun s h => Lh s (by omega) (by omega)
 have F2 : ∀ s : List UInt8, s.length < 10 -> Ac n s = some (bx (ofP s)) := fun s h => zDf s (by omega) (by omega)
 unfold xK Oa Ep
 simp only
 rw [show ((65 : Int), (90 : Int)) = (((65 : Nat) : Int), ((90 : Nat) : Int)) from rfl, show ((97 : Int), (122 : Int)) = (((97 : Nat) : Int), ((122 : Nat) : Int)) from rfl, show ((48 : Int), (57 : Int)) = (((48 : Nat) : Int), ((57 : Nat) : Int)) from rfl]
 rw [R 65 90 (by omega) (by omega), R 97 122 (by omega) (by omega), R 48 57 (by omega) (by omega), R2 65 90 (by omega) (by omega), R2 97 122 (by omega) (by omega), R2 48 57 (by omega) (by omega)]
 simp only [aL]
 rw [O2]
 simp only [aL]
 rw [O2]
 simp only [aL]
 cases s == [117, 112, 112, 101, 114]
 case true => exact fV (by decide +kernel) _ _ rfl rfl
 simp only [aZ, cond_false]
 cases s == [108, 111, 119, 101, 114]
 case true => exact fV (by decide +kernel) _ _ rfl rfl
 simp only [aZ, cond_false]
 cases s == [97, 108, 112, 104, 97]
 case true =>
  have := O [aR 65 90, aR 97 122] (by decide)
  simp only [List.map] at this
  simp only [bC, this, aL]
  exact fV (by decide +kernel) _ _ rfl rfl
 simp only [aZ, cond_false]
 cases s == [100, 105, 103, 105, 116]
 case true => exact fV (by decide +kernel) _ _ rfl rfl
 simp only [aZ, cond_false]
 cases s == [97, 108, 110, 117, 109]
 case true =>
  have := O [aR 65 90, aR 97 122, aR 48 57] (by decide)
  simp only [List.map] at this
  simp only [bC, this, aL]
  exact fV (by decide +kernel) _ _ rfl rfl
 simp only [aZ, cond_false]
 cases s == [120, 100, 105, 103, 105, 116]
 case true =>
  have := O [aR 48 57, aR 65 70, aR 97 102] (by decide)
  simp only [List.map] at this
  simp only [bC]
  rw [show ((65 : Int), (70 : Int)) = (((65 : Nat) : Int), ((70 : Nat) : Int)) from rfl, show ((97 : Int), (102 : Int)) = (((97 : Nat) : Int), ((102 : Nat) : Int)) from rfl]
  rw [R 65 70 (by omega) (by omega), R 97 102 (by omega) (by omega), R2 65 70 (by omega) (by omega), R2 97 102 (by omega) (by omega)]
  simp only [aL]
  rw [O2, this]
  simp only [aL]
  rw [O2]
  exact fV (by decide +kernel) _ _ rfl rfl
 simp only [aZ, cond_false]
 cases s == [98, 108, 97, 110, 107]
 case true =>
  simp only [bC]
  rw [F _ (by decide), F2 _ (by decide)]
  exact fV (by decide +kernel) _ _ rfl rfl
 simp only [aZ, cond_false]
 cases s == [115, 112, 97, 99, 101]
 case true =>
  simp only [bC]
  rw [show ((9 : Int), (13 : Int)) = (((9 : Nat) : Int), ((13 : Nat) : Int)) from rfl]
  rw [F _ (by decide), F2 _ (by decide), R2 9 13 (by omega) (by omega)]
  simp only [aL]
  rw [O2]
  exact fV (by decide +kernel) _ _ rfl rfl
 simp only [aZ, cond_false]
 cases s == [99, 110, 116, 114, 108]
 case true =>
  simp only [bC]
  rw [show ((0 : Int), (31 : Int)) = (((0 : Nat) : Int), ((31 : Nat) : Int)) from rfl, show ((127 : Int), (127 : Int)) = (((127 : Nat) : Int), ((127 : Nat) : Int)) from rfl]
  rw [R 0 31 (by omega) (by omega), R2 0 31 (by omega) (by omega), R2 127 127 (by omega) (by omega), F _ (by decide)]
  have := O [aR 0 31, ofP [127]] (by decide)
  simp only [List.map] at this
  simp only [aL]
  rw [O2, this]
  exact fV (by decide +kernel) _ _ rfl rfl
 simp only [aZ, cond_false]
 cases s == [103, 114, 97, 112, 104]
 case true =>
  simp only [bC]
  rw [show ((33 : Int), (126 : Int)) = (((33 : Nat) : Int), ((126 : Nat) : Int)) from rfl]
  rw [R 33 126 (by omega) (by omega), R2 33 126 (by omega) (by omega)]
  exact fV (by decide +kernel) _ _ rfl rfl
 simp only [aZ, cond_false]
 cases s == [112, 114, 105, 110, 116]
 case true =>
  simp only [bC]
  rw [show ((32 : Int), (126 : Int)) = (((32 : Nat) : Int), ((126 : Nat) : Int)) from rfl]
  rw [R 32 126 (by omega) (by omega), R2 32 126 (by omega) (by omega)]
  exact fV (by decide +kernel) _ _ rfl rfl
 simp only [aZ, cond_false]
 cases s == [112, 117, 110, 99, 116]
 case true =>
  simp only [bC]
  rw [show ((33 : Int), (126 : Int)) = (((33 : Nat) : Int), ((126 : Nat) : Int)) from rfl, show ((33 : Int), (47 : Int)) = (((33 : Nat) : Int), ((47 : Nat) : Int)) from rfl, show ((58 : Int), (64 : Int)) = (((58 : Nat) : Int), ((64 : Nat) : Int)) from rfl, show ((91 : Int), (96 : Int)) = (((91 : Nat) : Int), ((96 : Nat) : Int)) from rfl, show ((123 : Int), (126 : Int)) = (((123 : Nat) : Int), ((126 : Nat) : Int)) from rfl]
  rw [R 33 47 (by omega) (by omega), R 58 64 (by omega) (by omega), R 91 96 (by omega) (by omega), R 123 126 (by omega) (by omega), R2 33 126 (by omega) (by omega)]
  have := O [aR 33 47, aR 58 64, aR 91 96, aR 123 126] (by decide)
  simp only [List.map] at this
  simp only [aL]
  rw [this, Tt hn]
  exact fV (by decide +kernel) _ _ rfl rfl
 simp only [aZ, cond_false]
 exact ⟨by rw [nL], fun _ => false, by rw [Eo]⟩
end Go.Dec
namespace Go.Dec
theorem Ay {n : Nat} {r t : List UInt8} : strings_HasPrefix n (r, t) = some (t.isPrefixOf r) := by
 unfold strings_HasPrefix eB
 simp only
 by_cases h : t.length <= r.length
 ·rw [aU (by simp; omega), aA (by simp; omega)]
  simp only [aL, Int.toNat_natCast]
  congr 1
  rw [Bool.eq_iff_iff, List.isPrefixOf_iff_prefix, List.prefix_iff_eq_take, beq_iff_eq]
  exact eq_comm
 ·rw [aQ (by simp; omega)]
  simp only [aL]
  congr 1
  symm
  rw [Bool.eq_false_iff, ne_eq, List.isPrefixOf_iff_prefix]
  intro hp
  have := hp.length_le
  omega
theorem iF {n : Nat} {s t : List UInt8} {i : Nat} (hi : i <= s.length) : dA n (t, s, (i : Int), ()) = some (t.isPrefixOf (s.drop i), s, (i : Int), ()) := by
 unfold dA
 simp only
 rw [aA (by simp; omega), Ay]; rfl
theorem fG {r t : List UInt8} (h : t.isPrefixOf r = true) : t.length <= r.length := by
 rw [List.isPrefixOf_iff_prefix] at h; exact h.length_le
theorem kF {n : Nat} {s t : List UInt8} {i : Nat} (hi : i <= s.length) (hs : s.length < 1000000) (h : t.isPrefixOf (s.drop i) = true) : cK n (t, s, (i : Int), ()) = some (true, s, ((i + t.length : Nat) : Int), ()) := by
 have hl := fG h
 rw [List.length_drop] at hl
 unfold cK
 simp only
 rw [iF hi]
 simp only [aL, h, Bool.not_true, aZ]
 rw [bG (by omega) (by omega)]; rfl
theorem kG {n : Nat} {s t : List UInt8} {i : Nat} (hi : i <= s.length) (h : t.isPrefixOf (s.drop i) = false) : cK n (t, s, (i : Int), ()) = some (false, s, (i : Int), ()) := by
 unfold cK
 simp only
 rw [iF hi]
 simp only [aL, h, Bool.not_false, bC]
theorem eqI {c : UInt8} (k : UInt8) : ((c.toNat : Int) == (k.toNat : Int)) = (k == c) := by
 rw [Bool.eq_iff_iff, beq_iff_eq, beq_iff_eq, Int.ofNat_inj, UInt8.toNat_inj]; exact eq_comm
theorem Gs {s : List UInt8} {i j : Nat} {d c : UInt8} (h : (s.drop i)[j]? = some c) : bA d s ((i + j : Nat) : Int) = c := by
 rw [List.getElem?_drop] at h
 unfold bA
 rw [Int.toNat_natCast, List.getD_eq_getElem?_getD, h]; rfl
theorem xQ {s t : List UInt8} {i : Nat} {a : UInt8} (h : s.drop i = a :: t) : s.drop (i + 1) = t ∧ i < s.length := by
 refine ⟨?_, ?_⟩
 ·rw [<- List.drop_drop, h]; rfl
 ·have := congrArg List.length h
  rw [List.length_drop, List.length_cons] at this; omega
theorem Cu {r : List UInt8} {a b : UInt8} (h : [a, b].isPrefixOf r = true) : ∃ t, r = a :: b :: t := by
 rw [List.isPrefixOf_iff_prefix] at h
 obtain ⟨t, rfl⟩ := h
 exact ⟨t, rfl⟩
theorem zSr {r : List UInt8} {a : UInt8} (h : [a].isPrefixOf r = true) : ∃ t, r = a :: t := by
 rw [List.isPrefixOf_iff_prefix] at h
 obtain ⟨t, rfl⟩ := h
 exact ⟨t, rfl⟩
def sO (x : UInt8) (b : Bool) : List UInt8 -> Option (UInt8 × Nat × Bool)
 | _ :: _ :: c :: t => bif [x, 93].isPrefixOf t then some (c, 5, b) else none
 | _ => none
def mY (first ends : Bool) (r : List UInt8) : Option (UInt8 × Nat × Bool) :=
 bif [91, 46].isPrefixOf r then sO 46 true r
 else bif [91, 61].isPrefixOf r then sO 61 false r
 else bif [92, 110].isPrefixOf r then some (10, 2, true)
 else bif [91, 58].isPrefixOf r then none
 else bif [93].isPrefixOf r && !first then none
 else bif [45].isPrefixOf r && !first && !ends && !([45, 93].isPrefixOf r) then none
 else match r with | [] => none | c :: _ => some (c, 1, true)
theorem zIw {x : UInt8} {b : Bool} {c : UInt8} {k : Nat} {m : Bool} : ∀ {r : List UInt8}, sO x b r = some (c, k, m) -> 1 <= k ∧ k <= r.length
 | [], h => absurd h (by simp [sO])
 | [_], h => absurd h (by simp [sO])
 | [_, _], h => absurd h (by simp [sO])
 | _ :: _ :: d :: t, h => by
  unfold sO at h
  cases hp : [x, 93].isPrefixOf t <;> simp only [hp, cond_true, cond_false] at h
  ·exact absurd h (by simp)
  ·have := fG hp
   simp only [List.length_cons, List.length_nil, Option.some.injEq, Prod.mk.injEq] at this h ⊢
   omega
theorem Li {first ends : Bool} {r : List UInt8} {c : UInt8} {k : Nat} {m : Bool} (h : mY first ends r = some (c, k, m)) : 1 <= k ∧ k <= r.length := by
 have mk : ∀ {x : UInt8} {b : Bool}, sO x b r = some (c, k, m) -> 1 <= k ∧ k <= r.length := fun h => zIw h
 unfold mY at h
 cases h1 : [91, 46].isPrefixOf r <;> simp only [h1, cond_true, cond_false] at h
 ·cases h2 : [91, 61].isPrefixOf r <;> simp only [h2, cond_true, cond_false] at h
  ·cases h3 : [92, 110].isPrefixOf r <;> simp only [h3, cond_true, cond_false] at h
   ·cases h4 : [91, 58].isPrefixOf r <;> simp only [h4, cond_true, cond_false] at h
    ·cases h5 : [93].isPrefixOf r && !first <;> simp only [h5, cond_true, cond_false] at h
     ·cases h6 : [45].isPrefixOf r && !first && !ends && !([45, 93].isPrefixOf r) <;> simp only [h6, cond_true, cond_false] at h
      ·split at h
       ·exact absurd h (by simp)
       ·simp only [Option.some.injEq, Prod.mk.injEq, List.length_cons] at h ⊢
        omega
      ·exact absurd h (by simp)
     ·exact absurd h (by simp)
    ·exact absurd h (by simp)
   ·have := fG h3
    simp only [List.length_cons, List.length_nil, Option.some.injEq, Prod.mk.injEq] at this h
    omega
  ·exact mk h
 ·exact mk h
def rX (s : List UInt8) (i : Nat) (o : Option (UInt8 × Nat × Bool)) (e : Option (Sum (Int × Bool × List UInt8 × Int × Unit) (Int × Int × List UInt8 × Int × Unit))) : Prop := match o with
 | some (c, k, m) => e = some (.inl ((c.toNat : Int), m, s, ((i + k : Nat) : Int), ()))
 | none => ∃ a, e = some (.inr (42, 0, s, a, ()))
theorem oP {n : Nat} {x : List UInt8 × Int × Unit} : aX n x = some (.inr (42, 0, x)) := rfl
theorem Ol {n : Nat} {s : List UInt8} {i : Nat} {mk : UInt8} {t : List UInt8} (hi : i <= s.length) (hs : s.length < 1000000) (hr : s.drop i = 91 :: mk :: t) :
    rX s i (sO mk ([mk] == [46]) (s.drop i))
      (br ((s.length : Int) == ((i + 2 : Nat) : Int)) (ob2 (aX n (s, ((i + 2 : Nat) : Int), ())) (fun y17 => none) (fun y17 => some (.inr (y17.1, y17.2.1, y17.2.2.1, y17.2.2.2.1, ()))))
        (chk ((decide (0 <= IntKind.wrap .i64 (((i + 2 : Nat) : Int) + 1)) && decide (IntKind.wrap .i64 (((i + 2 : Nat) : Int) + 1) <= (s.length : Int)))) (
                chk (decide (([mk] : List UInt8).length + ([93] : List UInt8).length <= aG)) (
                  ob (strings_HasPrefix n (s.drop (IntKind.wrap .i64 (((i + 2 : Nat) : Int) + 1)).toNat, [mk] ++ [93])) fun y19 =>
                  br (!y19) (
                    ob2 (aX n (s, ((i + 2 : Nat) : Int), ())) (fun y20 =>
                      none) (fun y20 =>
                      some (.inr (y20.1, y20.2.1, y20.2.2.1, y20.2.2.2.1, ())))) (
                    jn (mQ n) ([mk], s, ((i + 2 : Nat) : Int), ())))))) := by
  obtain ⟨h1, h1'⟩ := xQ hr
  obtain ⟨h2, h2'⟩ := xQ h1
  have hlen : s.length = i + 2 + t.length := by
    have := congrArg List.length hr
    simp only [List.length_drop, List.length_cons] at this; omega
  rw [hr]
  cases t with
  | nil =>
    simp only [List.length_nil] at hlen
    rw [aU (by simp; omega), oP]
    simp only [gJ, rX, sO]
    exact ⟨_, rfl⟩
  | cons c t =>
    simp only [List.length_cons] at hlen
    obtain ⟨h3, h3'⟩ := xQ h2
    rw [aQ (by simp; omega)]
    have hw : IntKind.wrap .i64 (((i + 2 : Nat) : Int) + 1) = ((i + 1 + 1 + 1 : Nat) : Int) := by rw [bG (by omega) (by omega)]; omega
    rw [hw, aA (by simp; omega), aA (by simp [aG]), Int.toNat_natCast, h3, Ay]
    simp only [aL, List.cons_append, List.nil_append]
    cases hp : [mk, 93].isPrefixOf t
    · simp only [Bool.not_false, bC, oP, gJ, cond_false, rX, sO, hp]
      exact ⟨_, rfl⟩
    · simp only [Bool.not_true, aZ, cond_true, rX, oG, mQ, sO, hp]
      have := fG hp
      simp only [List.length_cons, List.length_nil] at this
      rw [aA (nU (by omega)), bG (by omega) (by omega), show ((i + 2 : Nat) : Int) = ((i + 2 : Nat) : Int) from rfl, Gs (c := c) (by rw [hr]; rfl)]
      rfl
theorem Tv {n : Nat} {s : List UInt8} {i : Nat} {first ends : Bool} (hn : 3 <= n) (hi : i <= s.length) (hs : s.length < 1000000) : rX s i (mY first ends (s.drop i)) (iL n (first, ends, s, (i : Int), ())) := by
  obtain ⟨m, rfl⟩ : ∃ m, n = m + 3 := ⟨n - 3, by omega⟩
  have hlen : (s.drop i).length = s.length - i := List.length_drop
  have hin : ∀ {t : List UInt8}, t.isPrefixOf (s.drop i) = true -> i + t.length <= s.length := fun h => by have := fG h; omega
  unfold iL mY
  simp only
  rw [Pm, iU]
  simp only
  rw [aU (by rfl), aA (by rfl), aA (by rfl), aA (by rfl)]
  rw [show [91] ++ List.getD [[46], [61]] (0 + Int.toNat 0) (Ty.dflt .str) = ([91, 46] : List UInt8) from rfl, show List.getD [[46], [61]] (0 + Int.toNat 0) (Ty.dflt .str) = ([46] : List UInt8) from rfl]
  cases h1 : [91, 46].isPrefixOf (s.drop i)
  case true =>
    obtain ⟨t, ht⟩ := Cu h1
    rw [kF hi hs h1]
    simp only [aL, Bool.not_true, aZ, cond_true]
    exact Ol hi hs ht
  rw [kG hi h1]
  simp only [aL, Bool.not_false, bC, cond_false]
  rw [show IntKind.wrap .i64 (0 + 1) = 1 from rfl, Pm, iU]
  simp only
  rw [aU (by rfl), aA (by rfl), aA (by rfl), aA (by rfl)]
  rw [show [91] ++ List.getD [[46], [61]] (0 + Int.toNat 1) (Ty.dflt .str) = ([91, 61] : List UInt8) from rfl, show List.getD [[46], [61]] (0 + Int.toNat 1) (Ty.dflt .str) = ([61] : List UInt8) from rfl]
  cases h2 : [91, 61].isPrefixOf (s.drop i)
  case true =>
    obtain ⟨t, ht⟩ := Cu h2
    rw [kF hi hs h2]
    simp only [aL, Bool.not_true, aZ, cond_true]
    exact Ol hi hs ht
  rw [kG hi h2]
  simp only [aL, Bool.not_false, bC, cond_false]
  rw [show IntKind.wrap .i64 (1 + 1) = 2 from rfl, Pm, iU]
  simp only
  rw [aQ (by rfl)]
  cases h3 : [92, 110].isPrefixOf (s.drop i)
  case true =>
    rw [kF hi hs h3]
    simp only [aL, bC, cond_true, rX]
    rfl
  rw [kG hi h3]
  have zRm : ∀ {c : UInt8} {t : List UInt8}, s.drop i = c :: t -> fP (m + 3) (s, (i : Int), ()) = some (.inl ((c.toNat : Int), true, s, ((i + 1 : Nat) : Int), ())) := by
    intro c t hr
    obtain ⟨_, h⟩ := xQ hr
    unfold fP
    simp only
    have e : IntKind.wrap .i64 (IntKind.wrap .i64 ((i : Int) + 1) - 1) = ((i + 0 : Nat) : Int) := by
      rw [bG (x := (i : Int) + 1) (by omega) (by omega), bG (by omega) (by omega)]; omega
    rw [e, aA (nU (by omega)), Gs (c := c) (by rw [hr]; rfl), bG (by omega) (by omega)]; rfl
  have Yt : ∀ bare : Bool, rX s i (bif [91, 58].isPrefixOf (s.drop i) then none
      else bif [93].isPrefixOf (s.drop i) && !first then none
      else bif bare then none
      else match s.drop i with | [] => none | c :: _ => some (c, 1, true)) (dX (m + 3) (first, bare, s, (i : Int), ())) := by
    intro bare
    unfold dX
    simp only
    cases hr : s.drop i with
    | nil =>
      rw [hr] at hlen
      simp only [List.length_nil] at hlen
      rw [aU (by simp; omega), oP]
      simp only [gJ]
      cases first <;> cases bare <;> exact ⟨_, rfl⟩
    | cons c t =>
      obtain ⟨_, hlt⟩ := xQ hr
      rw [aQ (by simp; omega), iF hi]
      simp only [aL]
      rw [<- hr]
      cases h4 : [91, 58].isPrefixOf (s.drop i)
      case true =>
        simp only [bC, oP, gJ, cond_true]
        exact ⟨_, rfl⟩
      simp only [aZ, cond_false]
      rw [iF hi]
      simp only [aL]
      have hb : rX s i (bif bare then none else some (c, 1, true)) (br bare (
            ob2 (aX (m + 3) (s, (i : Int), ())) (fun y40 => none) (fun y40 => some (.inr (y40.1, y40.2.1, y40.2.2.1, y40.2.2.2.1, ())))) (
            jn (fP (m + 3)) (s, (i : Int), ()))) := by
        cases bare
        · simp only [aZ, cond_false, oG]
          rw [zRm hr]; rfl
        · simp only [bC, cond_true, oP, gJ]
          exact ⟨_, rfl⟩
      cases h5 : [93].isPrefixOf (s.drop i)
      · simp only [aZ, Bool.false_and, cond_false]
        exact hb
      · cases first
        · simp only [bC, Bool.not_false, Bool.true_and, cond_true, oP, gJ]
          exact ⟨_, rfl⟩
        · simp only [bC, aZ, Bool.not_true, Bool.and_false, cond_false]
          exact hb
  simp only [aL, aZ, cond_false]
  rw [iF hi]
  simp only [aL]
  cases h6 : [45].isPrefixOf (s.drop i)
  · simp only [aZ, Bool.false_and]
    exact Yt false
  simp only [bC, Bool.true_and]
  cases first
  · simp only [Bool.not_false, bC, Bool.true_and]
    cases ends
    · simp only [Bool.not_false, bC, Bool.true_and]
      rw [iF hi]
      simp only [aL]
      exact Yt _
    · simp only [Bool.not_true, aZ, Bool.false_and]
      exact Yt false
  · simp only [Bool.not_true, aZ, Bool.false_and]
    exact Yt false
theorem Dn (a b : UInt8) : (a == b) = (b == a) := by rw [Bool.eq_iff_iff, beq_iff_eq, beq_iff_eq]; exact eq_comm
def wL : List UInt8 -> Option Nat
 | [] => none
 | c :: r => bif [58, 93].isPrefixOf (c :: r) then some 0 else (wL r).map (· + 1)
theorem Lj : ∀ {r : List UInt8} {k : Nat}, wL r = some k -> [58, 93].isPrefixOf (r.drop k) = true ∧ k + 2 <= r.length
 | [], k, h => absurd h (by simp [wL])
 | c :: r, k, h => by
  unfold wL at h
  cases hp : [58, 93].isPrefixOf (c :: r) <;> simp only [hp, cond_true, cond_false] at h
  ·cases hk : wL r with
   | none => rw [hk] at h; exact absurd h (by simp)
   | some j =>
    rw [hk] at h
    simp only [Option.map_some, Option.some.injEq] at h
    subst h
    obtain ⟨h1, h2⟩ := Lj hk
    exact ⟨h1, by simp only [List.length_cons]; omega⟩
  ·simp only [Option.some.injEq] at h
   subst h
   exact ⟨hp, by have := fG hp; simpa using this⟩
theorem Wz : ∀ r : List UInt8, Go.Lib.index r [58, 93] = match wL r with | some k => ((k : Nat) : Int) | none => -1
 | [] => by rfl
 | c :: r => by
  have ih := Wz r
  rw [Go.Lib.index, wL]
  cases hp : [58, 93].isPrefixOf (c :: r)
  ·simp only [Bool.false_eq_true, if_false, cond_false]
   rw [ih]
   cases wL r with
   | none => rfl
   | some k =>
    simp only [Option.map_some]
    rw [if_neg (by simp)]; rfl
  ·rfl
theorem zOg (r : List UInt8) : Go.Lib.cut r [58, 93] = match wL r with | some k => (r.take k, r.drop (k + 2), true) | none => (r, [], false) := by
 unfold Go.Lib.cut
 rw [Wz]
 cases wL r with
 | none => rfl
 | some k => simp
def mZ (first : Bool) (r : List UInt8) : Option ((Nat -> Bool) × Nat) :=
 bif [91, 58].isPrefixOf r then
  match wL (r.drop 2) with
  | none => none
  | some k => match Ep ((r.drop 2).take k) with
   | some p => some (p, k + 4)
   | none => none
 else match mY first false r with
  | none => none
  | some (a, k, may) =>
   bif [45].isPrefixOf (r.drop k) && !([45, 93].isPrefixOf (r.drop k)) && decide (1 < (r.drop k).length) then
    match mY false true (r.drop (k + 1)) with
    | none => none
    | some (b, m, is) => bif may && is && !(decide (b.toNat < a.toNat)) then some (aR a.toNat b.toNat, k + 1 + m) else none
   else some (aR a.toNat a.toNat, k)
theorem Ll {first : Bool} {r : List UInt8} {p : Nat -> Bool} {k : Nat} (h : mZ first r = some (p, k)) : 1 <= k ∧ k <= r.length := by
 unfold mZ at h
 cases h0 : [91, 58].isPrefixOf r <;> simp only [h0, cond_true, cond_false] at h
 ·cases h1 : mY first false r with
  | none => rw [h1] at h; exact absurd h (by simp)
  | some x =>
   obtain ⟨a, j, may⟩ := x
   have hl := Li h1
   rw [h1] at h
   simp only at h
   cases h2 : [45].isPrefixOf (r.drop j) && !([45, 93].isPrefixOf (r.drop j)) && decide (1 < (r.drop j).length) <;> simp only [h2, cond_true, cond_false] at h
   ·simp only [Option.some.injEq, Prod.mk.injEq] at h; omega
   ·cases h3 : mY false true (r.drop (j + 1)) with
    | none => rw [h3] at h; exact absurd h (by simp)
    | some y =>
     obtain ⟨b, m, is⟩ := y
     have hl3 := Li h3
     rw [h3] at h
     simp only at h
     rw [List.length_drop] at hl3
     cases h4 : may && is && !(decide (b.toNat < a.toNat)) <;> simp only [h4, cond_true, cond_false] at h
     ·exact absurd h (by simp)
     ·simp only [Option.some.injEq, Prod.mk.injEq] at h; omega
 ·cases h1 : wL (r.drop 2) with
  | none => rw [h1] at h; exact absurd h (by simp)
  | some j =>
   rw [h1] at h
   simp only at h
   have := (Lj h1).2
   rw [List.length_drop] at this
   cases h2 : Ep ((r.drop 2).take j) with
   | none => rw [h2] at h; exact absurd h (by simp)
   | some q =>
    rw [h2] at h
    simp only [Option.some.injEq, Prod.mk.injEq] at h; omega
def Tw (s : List UInt8) (i : Nat) (o : Option ((Nat -> Bool) × Nat)) (e : Option (Sum (List Int × List UInt8 × Int × Unit) (Int × Int × List UInt8 × Int × Unit))) : Prop := match o with
 | some (p, k) => e = some (.inl (wd p, s, ((i + k : Nat) : Int), ()))
 | none => ∃ a, e = some (.inr (42, 0, s, a, ()))
theorem zOh {n : Nat} {s : List UInt8} {i : Nat} {first : Bool} (hn : 300 <= n) (hi : i <= s.length) (hs : s.length < 1000000) : Tw s i (mZ first (s.drop i)) (jH n (first, s, (i : Int), ())) := by
 unfold jH mZ
 simp only
 cases h0 : [91, 58].isPrefixOf (s.drop i)
 case true =>
  have hl := fG h0
  simp only [List.length_drop, List.length_cons, List.length_nil] at hl
  rw [kF hi hs h0]
  simp only [aL, bC, cond_true]
  rw [aA (by simp; omega), Int.toNat_natCast, strings_Cut, aA (by simp; omega), show ([91, 58] : List UInt8).length = 2 from rfl]
  simp only [aL]
  rw [zOg, List.drop_drop]
  have hC := zGx (n := n) hn
  cases h1 : wL (s.drop (i + 2)) with
  | none =>
   simp only
   have h2 := hC (s.drop (i + 2))
   have zNa : ∀ (w : Bool), ∀ (x : List Int), ∃ a, (ob (ρ := Sum (List Int × List UInt8 × Int × Unit) (Int × Int × List UInt8 × Int × Unit)) (some (x, w)) fun y8 =>
    br (!y8.2) (
    ob2 (aX n (s, IntKind.wrap .i64 (((i + 2 : Nat) : Int) + ((s.drop (i + 2)).length : Int)), ())) (fun y9 =>
     none) (fun y9 =>
     some (.inr (y9.1, y9.2.1, y9.2.2.1, y9.2.2.2.1, ())))) (
    ob (cK n ([58, 93], s, IntKind.wrap .i64 (((i + 2 : Nat) : Int) + ((s.drop (i + 2)).length : Int)), ())) fun y10 =>
    br (!y10.1) (
     ob2 (aX n (y10.2.1, y10.2.2.1, ())) (fun y11 =>
      none) (fun y11 =>
      some (.inr (y11.1, y11.2.1, y11.2.2.1, y11.2.2.2.1, ())))) (
     some (.inl (y8.1, y10.2.1, y10.2.2.1, ()))))) = some (.inr (42, 0, s, a, ())) := by
    intro w x
    simp only [aL]
    cases w
    ·simp only [Bool.not_false, bC, oP, gJ]
     exact ⟨_, rfl⟩
    ·simp only [Bool.not_true, aZ]
     have e : IntKind.wrap .i64 (((i + 2 : Nat) : Int) + ((s.drop (i + 2)).length : Int)) = ((s.length : Nat) : Int) := by
      rw [List.length_drop, bG (by omega) (by omega)]; omega
     rw [e, kG (Nat.le_refl _) (by simp)]
     simp only [aL, Bool.not_false, bC, oP, gJ]
     exact ⟨_, rfl⟩
   cases hc : Ep (s.drop (i + 2)) with
   | none => rw [hc] at h2; rw [h2.1]; exact zNa _ _
   | some p => rw [hc] at h2; rw [h2.1]; exact zNa _ _
  | some k =>
   simp only
   obtain ⟨k1, k2⟩ := Lj h1
   rw [List.length_drop] at k2
   rw [List.drop_drop] at k1
   have h2 := hC ((s.drop (i + 2)).take k)
   have e : IntKind.wrap .i64 (((i + 2 : Nat) : Int) + (((s.drop (i + 2)).take k).length : Int)) = ((i + 2 + k : Nat) : Int) := by
    rw [List.length_take, List.length_drop, bG (by omega) (by omega)]; omega
   rw [e]
   cases hc : Ep ((s.drop (i + 2)).take k) with
   | none =>
    rw [hc] at h2; rw [h2.1]
    simp only [aL, Bool.not_false, bC, oP, gJ]
    exact ⟨_, rfl⟩
   | some p =>
    rw [hc] at h2; rw [h2.1]
    simp only [aL, Bool.not_true, aZ]
    rw [kF (by omega) hs k1]
    simp only [aL, Bool.not_true, aZ, Tw]
    rw [show i + 2 + k + ([58, 93] : List UInt8).length = i + (k + 4) by simp; omega]
 rw [kG hi h0]
 simp only [aL, aZ, cond_false]
 have hE := Tv (n := n) (first := first) (ends := false) (by omega) hi hs
 cases h1 : mY first false (s.drop i) with
 | none =>
  rw [h1] at hE
  obtain ⟨a, hE⟩ := hE
  rw [hE]
  simp only [gJ]
  exact ⟨_, rfl⟩
 | some x =>
  obtain ⟨a, k, may⟩ := x
  rw [h1] at hE
  simp only [rX] at hE
  rw [hE]
  have hk := Li h1
  rw [List.length_drop] at hk
  simp only [zF]
  have hik : i + k <= s.length := by omega
  have hR : bP n ((a.toNat : Int), (a.toNat : Int)) = some (wd (aR a.toNat a.toNat)) := uZ hn a.toNat_lt a.toNat_lt
  rw [iF hik, hR, List.drop_drop]
  simp only [aL]
  cases h2 : [45].isPrefixOf (s.drop (i + k))
  ·simp only [Bool.not_false, bC, Bool.false_and, cond_false]; rfl
  simp only [Bool.not_true, aZ, Bool.true_and]
  rw [iF hik]
  simp only [aL]
  cases h3 : [45, 93].isPrefixOf (s.drop (i + k))
  case true => simp only [bC, Bool.not_true, Bool.false_and, cond_false]; rfl
  simp only [aZ, Bool.not_false, Bool.true_and]
  have hp := fG h2
  rw [List.length_drop] at hp ⊢
  simp only [List.length_cons, List.length_nil] at hp
  rw [bG (by omega) (by omega)]
  by_cases h4 : 1 < s.length - (i + k)
  ·rw [aQ (by simp; omega), decide_eq_true h4]
   simp only [cond_true]
   have hE2 := Tv (n := n) (first := false) (ends := true) (s := s) (i := i + k + 1) (by omega) (by omega) hs
   rw [show ((i + k : Nat) : Int) + 1 = ((i + k + 1 : Nat) : Int) from rfl]
   rw [List.drop_drop, show i + (k + 1) = i + k + 1 by omega]
   cases h5 : mY false true (s.drop (i + k + 1)) with
   | none =>
    rw [h5] at hE2
    obtain ⟨a, hE2⟩ := hE2
    rw [hE2]
    simp only [gJ]
    exact ⟨_, rfl⟩
   | some y =>
    obtain ⟨b, m, is⟩ := y
    rw [h5] at hE2
    simp only [rX] at hE2
    rw [hE2]
    simp only [zF, oP, gJ]
    cases may
    ·simp only [Bool.not_false, bC, Bool.false_and, cond_false]; exact ⟨_, rfl⟩
    cases is
    ·simp only [Bool.not_false, bC, Bool.not_true, aZ, Bool.and_false, Bool.false_and, cond_false]; exact ⟨_, rfl⟩
    have hR2 : bP n ((a.toNat : Int), (b.toNat : Int)) = some (wd (aR a.toNat b.toNat)) := uZ hn a.toNat_lt b.toNat_lt
    rw [hR2, show decide ((b.toNat : Int) < (a.toNat : Int)) = decide (b.toNat < a.toNat) by simp]
    cases decide (b.toNat < a.toNat)
    ·simp only [Bool.not_false, Bool.not_true, aZ, Bool.and_true, cond_true, aL, Tw]
     rw [show i + (k + 1 + m) = i + k + 1 + m by omega]
    ·simp only [Bool.not_true, aZ, bC, Bool.and_false, cond_false]; exact ⟨_, rfl⟩
  ·rw [aU (by simp; omega), decide_eq_false h4]
   rfl
def vB : Nat -> Bool -> (Nat -> Bool) -> List UInt8 -> Option ((Nat -> Bool) × Nat)
 | 0, _, _, _ => none
 | f + 1, first, q, r =>
  bif [93].isPrefixOf r && !first then some (q, 1)
  else match mZ first r with
   | none => none
   | some (p, k) => match vB f false (fun j => q j || p j) (r.drop k) with
    | none => none
    | some (x, m) => some (x, k + m)
def fA (p : Nat -> Bool) : Bool := (List.range 256).all fun i => !p i
def vC (s : List UInt8) : Option ((Nat -> Bool) × Nat) :=
 bif [91].isPrefixOf s then
  let no := [94].isPrefixOf (s.drop 1)
  let i := bif no then 2 else 1
  match vB (s.length + 1) true (fun _ => false) (s.drop i) with
  | none => none
  | some (p, k) =>
   let p' := bif no then (fun j => !p j) else p
   bif fA p' then none else some (p', i + k)
 else none
theorem zBq : ∀ {f : Nat} {first : Bool} {q : Nat -> Bool} {r : List UInt8} {p : Nat -> Bool} {k : Nat}, vB f first q r = some (p, k) -> 1 <= k ∧ k <= r.length
 | 0, _, _, _, _, _, h => absurd h (by simp [vB])
 | f + 1, first, q, r, p, k, h => by
  unfold vB at h
  cases h0 : [93].isPrefixOf r && !first <;> simp only [h0, cond_true, cond_false] at h
  ·cases h1 : mZ first r with
   | none => rw [h1] at h; exact absurd h (by simp)
   | some x =>
    obtain ⟨p1, k1⟩ := x
    rw [h1] at h
    simp only at h
    have hk1 := Ll h1
    cases h2 : vB f false (fun j => q j || p1 j) (r.drop k1) with
    | none => rw [h2] at h; exact absurd h (by simp)
    | some y =>
     obtain ⟨p2, k2⟩ := y
     rw [h2] at h
     have hk2 := zBq h2
     rw [List.length_drop] at hk2
     simp only [Option.some.injEq, Prod.mk.injEq] at h; omega
  ·simp only [Bool.and_eq_true] at h0
   have := fG h0.1
   simp only [List.length_cons, List.length_nil, Option.some.injEq, Prod.mk.injEq] at this h; omega
theorem zBr {s : List UInt8} {p : Nat -> Bool} {k : Nat} (h : vC s = some (p, k)) : 1 <= k ∧ k <= s.length := by
 unfold vC at h
 cases h0 : [91].isPrefixOf s <;> simp only [h0, cond_true, cond_false] at h
 ·exact absurd h (by simp)
 ·cases h1 : vB (s.length + 1) true (fun _ => false) (s.drop (bif [94].isPrefixOf (s.drop 1) then 2 else 1)) with
  | none => rw [h1] at h; exact absurd h (by simp)
  | some x =>
   obtain ⟨q, j⟩ := x
   rw [h1] at h
   have hj := zBq h1
   rw [List.length_drop] at hj
   simp only at h
   cases h2 : fA (bif [94].isPrefixOf (s.drop 1) then (fun j => !q j) else q) <;> simp only [h2, cond_true, cond_false] at h
   ·simp only [Option.some.injEq, Prod.mk.injEq] at h; omega
   ·exact absurd h (by simp)
theorem Ch {p : Nat -> Bool} : Ty.beq (.arr 4 (.int .u64)) (wd p) [0, 0, 0, 0] = fA p := by
 rw [Bool.eq_iff_iff, <- nL, zSq, nL, zQk, fA, List.all_eq_true]
 simp
def Lm (s : List UInt8) (i : Nat) (no : Bool) (o : Option ((Nat -> Bool) × Nat)) (e : Option (Sum (List Int × List UInt8 × Int × Unit) (Int × Int × List Int × List UInt8 × Int × Unit))) : Prop := match o with
 | some (p, k) => bif fA (bif no then (fun j => !p j) else p) then ∃ a w, e = some (.inr (42, 0, w, s, a, ())) else e = some (.inl (wd (bif no then (fun j => !p j) else p), s, ((i + k : Nat) : Int), ()))
 | none => ∃ a w, e = some (.inr (42, 0, w, s, a, ()))
theorem zLs {n : Nat} {s : List UInt8} {no : Bool} (hn : 300 <= n) (hs : s.length < 1000000) : ∀ (f : Nat) (i m : Nat) (first : Bool) (q : Nat -> Bool), i <= s.length -> s.length - i < f -> f <= m ->
  Lm s i no (vB f first q (s.drop i)) (fix (iJ n) m (no, first, wd q, s, (i : Int), ())) := by
 intro f
 induction f with
 | zero => intro i m first q _ h; omega
 | succ f ih =>
  intro i m first q hi hf hm
  rw [cB (by omega), iJ]
  simp only
  have hO : ∀ p : Nat -> Bool, kR n [wd q, wd p] = some (wd fun j => q j || p j) := by
   intro p
   have := Wy (n := n) [q, p] (by omega) (by simp; omega) (by simp)
   simpa using this
  have hpart : Lm s i no (match mZ first (s.drop i) with
   | none => none
   | some (p, k) => match vB f false (fun j => q j || p j) ((s.drop i).drop k) with
    | none => none
    | some (x, m) => some (x, k + m)) (ob2 (jH n (first, s, (i : Int), ())) (fun y13 =>
   ob (kR n [wd q, y13.1]) fun y14 =>
   fix (iJ n) (m - 1) (no, false, y14, y13.2.1, y13.2.2.1, ())) (fun y13 =>
   some (.inr (y13.1, y13.2.1, wd q, y13.2.2.1, y13.2.2.2.1, ())))) := by
   have hp := zOh (n := n) (first := first) hn hi hs
   cases h1 : mZ first (s.drop i) with
   | none =>
    rw [h1] at hp
    obtain ⟨a, hp⟩ := hp
    rw [hp]
    exact ⟨_, _, rfl⟩
   | some x =>
    obtain ⟨p, k⟩ := x
    rw [h1] at hp
    simp only [Tw] at hp
    have hk := Ll h1
    rw [List.length_drop] at hk
    rw [hp]
    simp only [zF]
    rw [hO p]
    simp only [aL]
    have := ih (i + k) (m - 1) false (fun j => q j || p j) (by omega) (by omega) (by omega)
    rw [List.drop_drop]
    cases h2 : vB f false (fun j => q j || p j) (s.drop (i + k)) with
    | none => rw [h2] at this; exact this
    | some y =>
     obtain ⟨p2, k2⟩ := y
     rw [h2] at this
     simp only [Lm] at this ⊢
     rw [show i + (k + k2) = i + k + k2 by omega]
     exact this
  unfold vB
  cases first
  case true =>
   simp only [bC, Bool.not_true, Bool.and_false, cond_false]
   exact hpart
  simp only [aZ, Bool.not_false, Bool.and_true]
  cases h0 : [93].isPrefixOf (s.drop i)
  ·rw [kG hi h0]
   simp only [aL, Bool.not_false, bC, cond_false]
   exact hpart
  ·rw [kF hi hs h0]
   simp only [aL, Bool.not_true, aZ, cond_true, Lm]
   cases no
   ·simp only [aZ, cond_false]
    cases hq : fA q
    ·simp only [cond_false]
     rw [aQ (by exact Ch.trans hq)]; rfl
    ·simp only [cond_true]
     refine ⟨((i + [93].length : Nat) : Int), wd q, ?_⟩
     rw [aU (by exact Ch.trans hq)]; rfl
   ·simp only [bC, cond_true, Tq (n := n) (by omega), aL]
    cases hq : fA (fun j => !q j)
    ·simp only [cond_false]
     rw [aQ (by exact Ch.trans hq)]; rfl
    ·simp only [cond_true]
     refine ⟨((i + [93].length : Nat) : Int), wd (fun j => !q j), ?_⟩
     rw [aU (by exact Ch.trans hq)]; rfl
def zLt : Option ((Nat -> Bool) × Nat) -> List Int × Int × Int
 | some (p, k) => (wd p, ((k : Nat) : Int), 0)
 | none => ([0, 0, 0, 0], 0, 42)
theorem Vn {n : Nat} {s : List UInt8} (hn : 400 <= n) (hsn : s.length + 10 < n) (hs : s.length < 1000000) : mR n s = some (zLt (vC s)) := by
 have hT : ∀ e : Option (Sum (List Int × List UInt8 × Int × Unit) (Int × Int × List Int × List UInt8 × Int × Unit)), iE n ([0, 0, 0, 0], s, 0, ()) = e -> mR n s = ob (ob2 e (fun y => some (0, 0, y)) (fun y => some y)) fun y1 => br (y1.1 != 0) (some ([0, 0, 0, 0], 0, y1.1)) (some (y1.2.2.1, y1.2.2.2.2.1, 0)) := by
  intro e he
  unfold mR dL
  simp only
  rw [he]
 have hB : ∀ a w, iE n ([0, 0, 0, 0], s, 0, ()) = some (.inr (42, 0, w, s, a, ())) -> mR n s = some ([0, 0, 0, 0], 0, 42) := by
  intro a w h; rw [hT _ h]; rfl
 have h0 : iE n ([0, 0, 0, 0], s, 0, ()) = br (![91].isPrefixOf s) (some (.inr (42, 0, [0, 0, 0, 0], s, 0, ()))) (fix (iJ n) n ([94].isPrefixOf (s.drop 1), true, wd (fun _ => false), s, ((bif [94].isPrefixOf (s.drop 1) then 2 else 1 : Nat) : Int), ())) := by
  unfold iE
  simp only
  rw [show (0 : Int) = ((0 : Nat) : Int) from rfl]
  cases h1 : [91].isPrefixOf s
  ·rw [kG (by omega) (by rw [List.drop_zero]; exact h1)]; rfl
  ·rw [kF (by omega) hs (by rw [List.drop_zero]; exact h1)]
   have hl := fG h1
   simp only [List.length_cons, List.length_nil] at hl
   simp only [aL, Bool.not_true, aZ]
   rw [show 0 + ([91] : List UInt8).length = 1 from rfl]
   cases h2 : [94].isPrefixOf (s.drop 1)
   ·rw [kG (by omega) h2, nL]; rfl
   ·rw [kF (by omega) hs h2, nL]; rfl
 unfold vC
 cases h1 : [91].isPrefixOf s
 ·rw [h1] at h0; simp only [Bool.not_false, bC] at h0
  rw [hB _ _ h0]; rfl
 ·rw [h1] at h0; simp only [Bool.not_true, aZ] at h0
  simp only [cond_true]
  have hi : (bif [94].isPrefixOf (s.drop 1) then 2 else 1) <= s.length := by
   have hl := fG h1
   simp only [List.length_cons, List.length_nil] at hl
   cases h2 : [94].isPrefixOf (s.drop 1)
   ·simp only [cond_false]; omega
   ·have hl2 := fG h2
    rw [List.length_drop] at hl2
    simp only [List.length_cons, List.length_nil] at hl2
    simp only [cond_true]; omega
  have hL := zLs (n := n) (s := s) (no := [94].isPrefixOf (s.drop 1)) (by omega) hs (s.length + 1) _ n true (fun _ => false) hi (by omega) (by omega)
  rw [<- h0] at hL
  cases h3 : vB (s.length + 1) true (fun _ => false) (s.drop (bif [94].isPrefixOf (s.drop 1) then 2 else 1)) with
  | none =>
   rw [h3] at hL
   obtain ⟨a, w, hL⟩ := hL
   rw [hB _ _ hL]; rfl
  | some x =>
   obtain ⟨p, k⟩ := x
   rw [h3] at hL
   simp only [Lm] at hL
   simp only
   cases h4 : fA (bif [94].isPrefixOf (s.drop 1) then (fun j => !p j) else p) <;> rw [h4] at hL <;> simp only [cond_true, cond_false] at hL ⊢
   ·rw [hT _ hL]; rfl
   ·obtain ⟨a, w, hL⟩ := hL
    rw [hB _ _ hL]; rfl
end Go.Dec
