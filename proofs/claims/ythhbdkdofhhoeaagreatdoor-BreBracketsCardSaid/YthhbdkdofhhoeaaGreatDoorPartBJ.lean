/- Part of a proof over this seat: a library of my own, and what it says of this seat. No statement is proved here. -/
import Derived.Test.YthhbdkdofhhoeaaGreatDoorPartBB
import Derived.Test.YthhbdkdofhhoeaaGreatDoorPartAS
namespace Go.Dec

theorem chk_of {ρ : Type} {b : Bool} (h : b = true) (x : Option ρ) : chk b x = x := by subst h; rfl
theorem br_of {ρ : Type} {b : Bool} (h : b = true) (x y : Option ρ) : br b x y = x := by subst h; rfl
theorem br_not {ρ : Type} {b : Bool} (h : b = false) (x y : Option ρ) : br b x y = y := by subst h; rfl
@[simp] theorem ob2_l {α γ ρ : Type} (x : α) (k : α → Option ρ) (k' : γ → Option ρ) : ob2 (some (.inl x)) k k' = k x := rfl
@[simp] theorem ob2_r {α γ ρ : Type} (x : γ) (k : α → Option ρ) (k' : γ → Option ρ) : ob2 (some (.inr x)) k k' = k' x := rfl
theorem jn_e {ρ α : Type} (f : α → Option ρ) (x : α) : jn f x = f x := rfl

/-- A loop that counts up. -/
theorem fix_up {ρ α : Type} {B : (α → Option ρ) → α → Option ρ} (st : Nat → α) {N : Nat} {r : Option ρ}
    (h1 : ∀ i, i < N → ∀ g, B g (st i) = g (st (i + 1))) (h2 : ∀ g, B g (st N) = r) : ∀ k i n, i + k = N → k < n → fix B n (st i) = r := by
  intro k
  induction k with
  | zero => intro i n hi hn; rw [fix_pos hn]; have : i = N := by omega
            subst this; exact h2 _
  | succ k ih => intro i n hi hn; rw [fix_pos (by omega), h1 i (by omega)]; exact ih (i + 1) (n - 1) (by omega) (by omega)

theorem fix_upL {ρ α : Type} {B : (α → Option ρ) → α → Option ρ} (st : Nat → α) {lo N : Nat} {r : Option ρ}
    (h1 : ∀ i, lo ≤ i → i < N → ∀ g, B g (st i) = g (st (i + 1))) (h2 : ∀ g, B g (st N) = r) : ∀ k i n, i + k = N → lo ≤ i → k < n → fix B n (st i) = r := by
  intro k
  induction k with
  | zero => intro i n hi hl hn; rw [fix_pos hn]; have : i = N := by omega
            subst this; exact h2 _
  | succ k ih => intro i n hi hl hn; rw [fix_pos (by omega), h1 i hl (by omega)]; exact ih (i + 1) (n - 1) (by omega) (by omega) (by omega)

theorem all_lt {f : Nat → Bool} {n : Nat} (h : (List.range n).all f = true) {i : Nat} (hi : i < n) : f i = true := by
  rw [List.all_eq_true] at h; exact h i (by simpa using hi)

/-! ### Numbers of bits -/
def bn : (Nat → Bool) → Nat → Nat
  | _, 0 => 0
  | f, k + 1 => (f 0).toNat + 2 * bn (fun i => f (i + 1)) k

theorem bn_tb : ∀ (k : Nat) (f : Nat → Bool) (j : Nat), (bn f k).testBit j = (decide (j < k) && f j)
  | 0, f, j => by simp [bn]
  | k + 1, f, j => by
    unfold bn
    cases j with
    | zero => simp; cases f 0 <;> simp <;> omega
    | succ j =>
      rw [Nat.testBit_succ]
      have h : ((f 0).toNat + 2 * bn (fun i => f (i + 1)) k) / 2 = bn (fun i => f (i + 1)) k := by cases f 0 <;> simp <;> omega
      rw [h, bn_tb k]; simp

theorem bn_lt : ∀ (k : Nat) (f : Nat → Bool), bn f k < 2 ^ k
  | 0, f => by simp [bn]
  | k + 1, f => by
    have := bn_lt k (fun i => f (i + 1))
    unfold bn
    cases f 0 <;> simp [Nat.pow_succ] <;> omega

theorem bn_congr : ∀ (k : Nat) {f g : Nat → Bool}, (∀ j, j < k → f j = g j) → bn f k = bn g k
  | 0, f, g, h => rfl
  | k + 1, f, g, h => by
    unfold bn
    rw [h 0 (by omega), bn_congr k (fun j hj => h (j + 1) (by omega))]

theorem bn_eq {x k : Nat} {f : Nat → Bool} (hx : x < 2 ^ k) (h : ∀ j, j < k → x.testBit j = f j) : x = bn f k := by
  apply Nat.eq_of_testBit_eq
  intro j
  rw [bn_tb]
  by_cases hj : j < k
  · simp [hj, h j hj]
  · simp only [hj, decide_false, Bool.false_and]
    exact Nat.testBit_lt_two_pow (Nat.lt_of_lt_of_le hx (Nat.pow_le_pow_right (by omega) (by omega)))

/-- One word of a set, all four, and the row of 256. -/
def wordN (p : Nat → Bool) (k : Nat) : Nat := bn (fun j => p (64 * k + j)) 64
def word (p : Nat → Bool) (k : Nat) : Int := (wordN p k : Nat)
def wd (p : Nat → Bool) : List Int := [word p 0, word p 1, word p 2, word p 3]
def bx (p : Nat → Bool) : List Bool := (List.range 256).map p

theorem wordN_lt (p : Nat → Bool) (k : Nat) : wordN p k < 2 ^ 64 := bn_lt _ _
theorem wordN_tb (p : Nat → Bool) (k j : Nat) : (wordN p k).testBit j = (decide (j < 64) && p (64 * k + j)) := bn_tb _ _ _
theorem wordN_eq {x k : Nat} {p : Nat → Bool} (hx : x < 2 ^ 64) (h : ∀ j, j < 64 → x.testBit j = p (64 * k + j)) : x = wordN p k := bn_eq hx h
theorem word_congr {p q : Nat → Bool} {k : Nat} (h : ∀ i, 64 * k ≤ i → i < 64 * k + 64 → p i = q i) : word p k = word q k := by
  unfold word wordN; rw [bn_congr 64 (fun j hj => h (64 * k + j) (by omega) (by omega))]
theorem wd_congr {p q : Nat → Bool} (h : ∀ i, i < 256 → p i = q i) : wd p = wd q := by
  unfold wd
  rw [word_congr (fun i _ _ => h i (by omega)), word_congr (k := 1) (fun i _ _ => h i (by omega)), word_congr (k := 2) (fun i _ _ => h i (by omega)), word_congr (k := 3) (fun i _ _ => h i (by omega))]
theorem bx_congr {p q : Nat → Bool} (h : ∀ i, i < 256 → p i = q i) : bx p = bx q := by
  unfold bx; apply List.map_congr_left; intro i hi; exact h i (by simpa using hi)
theorem word_inj {p q : Nat → Bool} {k : Nat} (h : word p k = word q k) {i : Nat} (h1 : 64 * k ≤ i) (h2 : i < 64 * k + 64) : p i = q i := by
  have h : wordN p k = wordN q k := by unfold word at h; omega
  have := congrArg (fun x => x.testBit (i - 64 * k)) h
  simp only [wordN_tb] at this
  rw [show 64 * k + (i - 64 * k) = i by omega] at this
  have h3 : i - 64 * k < 64 := by omega
  simpa [h3] using this
theorem wd_inj {p q : Nat → Bool} (h : wd p = wd q) {i : Nat} (hi : i < 256) : p i = q i := by
  simp only [wd, List.cons.injEq, and_true] at h
  obtain ⟨h0, h1, h2, h3⟩ := h
  by_cases a : i < 64
  · exact word_inj h0 (by omega) (by omega)
  · by_cases b : i < 128
    · exact word_inj h1 (by omega) (by omega)
    · by_cases c : i < 192
      · exact word_inj h2 (by omega) (by omega)
      · exact word_inj h3 (by omega) (by omega)
theorem wd_len (p : Nat → Bool) : (wd p).length = 4 := rfl
theorem bx_len (p : Nat → Bool) : (bx p).length = 256 := by simp [bx]
theorem bx_get {p : Nat → Bool} {i : Nat} (d : Bool) (hi : i < 256) : (bx p).getD i d = p i := by
  simp [bx, List.getD_eq_getElem?_getD, hi]
theorem bx_set {p : Nat → Bool} {i : Nat} (b : Bool) : (bx p).set i b = bx (fun j => if j = i then b else p j) := by
  apply List.ext_getElem?
  intro j
  by_cases hj : j < 256
  · simp only [bx, List.getElem?_set, List.length_map, List.length_range, List.getElem?_map]
    by_cases e : i = j
    · subst e; simp [hj]
    · simp [e, Ne.symm e, hj]
  · simp only [bx, List.getElem?_set, List.length_map, List.length_range, List.getElem?_map]
    simp [hj]
    omega
theorem wd_none : wd (fun _ => false) = [0, 0, 0, 0] := by decide +kernel
theorem bx_none : bx (fun _ => false) = List.replicate 256 false := by decide +kernel

/-! ### Bits of words -/
theorem wrapN {x : Nat} (h : x < 2 ^ 64) : IntKind.u64.wrap ((x : Nat) : Int) = x := IntWalk.u64_in _ (by omega)
theorem bvN {x : Nat} (h : x < 2 ^ 64) : (BitVec.ofInt 64 ((x : Nat) : Int)).toNat = x := by
  rw [BitVec.toNat_ofInt]; omega
theorem ior {a b : Nat} (ha : a < 2 ^ 64) (hb : b < 2 ^ 64) : ibits .u64 .or (a : Int) (b : Int) = ((a ||| b : Nat) : Int) := by
  show IntKind.u64.wrap ((BitVec.ofInt 64 (a : Int) ||| BitVec.ofInt 64 (b : Int)).toNat : Int) = _
  rw [BitVec.toNat_or, bvN ha, bvN hb]
  exact wrapN (Nat.or_lt_two_pow ha hb)
theorem ixor {a b : Nat} (ha : a < 2 ^ 64) (hb : b < 2 ^ 64) : ibits .u64 .xor (a : Int) (b : Int) = ((a ^^^ b : Nat) : Int) := by
  show IntKind.u64.wrap ((BitVec.ofInt 64 (a : Int) ^^^ BitVec.ofInt 64 (b : Int)).toNat : Int) = _
  rw [BitVec.toNat_xor, bvN ha, bvN hb]
  exact wrapN (Nat.xor_lt_two_pow ha hb)
theorem iand {a b : Nat} (ha : a < 2 ^ 64) (hb : b < 2 ^ 64) : ibits .u64 .and (a : Int) (b : Int) = ((a &&& b : Nat) : Int) := by
  show IntKind.u64.wrap ((BitVec.ofInt 64 (a : Int) &&& BitVec.ofInt 64 (b : Int)).toNat : Int) = _
  rw [BitVec.toNat_and, bvN ha, bvN hb]
  exact wrapN (Nat.and_lt_two_pow _ hb)

theorem word_or (p q : Nat → Bool) (k : Nat) : ibits .u64 .or (word p k) (word q k) = word (fun i => p i || q i) k := by
  unfold word
  rw [ior (wordN_lt _ _) (wordN_lt _ _), wordN_eq (p := fun i => p i || q i) (Nat.or_lt_two_pow (wordN_lt p k) (wordN_lt q k))]
  intro j hj
  simp [wordN_tb, hj]
theorem ones_tb (j : Nat) : (18446744073709551615 : Nat).testBit j = decide (j < 64) := by
  have := Nat.testBit_two_pow_sub_one 64 j
  simpa using this
theorem word_not (p : Nat → Bool) (k : Nat) : ibits .u64 .xor 18446744073709551615 (word p k) = word (fun i => !p i) k := by
  unfold word
  rw [show (18446744073709551615 : Int) = ((18446744073709551615 : Nat) : Int) from rfl]
  rw [ixor (by omega) (wordN_lt _ _), wordN_eq (p := fun i => !p i) (Nat.xor_lt_two_pow (by omega) (wordN_lt p k))]
  intro j hj
  simp [Nat.testBit_xor, ones_tb, wordN_tb, hj]

/-- One byte more. -/
theorem wd_or1 (p : Nat → Bool) {i : Nat} (hi : i < 256) : (wd p).set (i / 64) (ibits .u64 .or ((wd p).getD (i / 64) 0) (((2 ^ (i % 64) : Nat)) : Int)) = wd (fun j => p j || decide (j = i)) := by
  have hb : 2 ^ (i % 64) < 2 ^ 64 := Nat.pow_lt_pow_right (by omega) (by omega)
  have hw : ∀ k, k = i / 64 → ibits .u64 .or (word p k) (((2 ^ (i % 64) : Nat)) : Int) = word (fun j => p j || decide (j = i)) k := by
    intro k hk
    unfold word
    rw [ior (wordN_lt _ _) hb, wordN_eq (p := fun j => p j || decide (j = i)) (Nat.or_lt_two_pow (wordN_lt p k) hb)]
    intro j hj
    simp only [Nat.testBit_or, wordN_tb, Nat.testBit_two_pow, hj, decide_true, Bool.true_and]
    congr 1
    apply decide_eq_decide.2
    omega
  have ho : ∀ k, k ≠ i / 64 → word p k = word (fun j => p j || decide (j = i)) k := by
    intro k hk
    apply word_congr
    intro j h1 h2
    have : j ≠ i := by omega
    simp [this]
  have hk : i / 64 = 0 ∨ i / 64 = 1 ∨ i / 64 = 2 ∨ i / 64 = 3 := by omega
  rcases hk with h | h | h | h <;> rw [h] <;> simp only [wd, List.getD_cons_zero, List.getD_cons_succ, List.set_cons_zero, List.set_cons_succ]
  · rw [hw 0 h.symm, ho 1 (by omega), ho 2 (by omega), ho 3 (by omega)]
  · rw [hw 1 h.symm, ho 0 (by omega), ho 2 (by omega), ho 3 (by omega)]
  · rw [hw 2 h.symm, ho 0 (by omega), ho 1 (by omega), ho 3 (by omega)]
  · rw [hw 3 h.symm, ho 0 (by omega), ho 1 (by omega), ho 2 (by omega)]

theorem sh_tab : ((List.range 256).all fun i => decide (ishr .i64 (i : Int) 6 = ((i / 64 : Nat) : Int)) && decide (ishl .u64 1 (ibits .i64 .and (i : Int) 63) = ((2 ^ (i % 64) : Nat) : Int)) && decide (0 ≤ ibits .i64 .and (i : Int) 63)
  && decide (ishr .u8 (i : Int) 6 = ((i / 64 : Nat) : Int)) && decide (ishl .u64 1 (ibits .u8 .and (i : Int) 63) = ((2 ^ (i % 64) : Nat) : Int)) && decide (0 ≤ ibits .u8 .and (i : Int) 63)) = true := by decide +kernel
theorem sh_i {i : Nat} (hi : i < 256) : ishr .i64 (i : Int) 6 = ((i / 64 : Nat) : Int) ∧ ishl .u64 1 (ibits .i64 .and (i : Int) 63) = ((2 ^ (i % 64) : Nat) : Int) ∧ 0 ≤ ibits .i64 .and (i : Int) 63 := by
  have := all_lt sh_tab hi
  simp only [Bool.and_eq_true, decide_eq_true_eq] at this
  exact ⟨this.1.1.1.1.1, this.1.1.1.1.2, this.1.1.1.2⟩
theorem sh_u {i : Nat} (hi : i < 256) : ishr .u8 (i : Int) 6 = ((i / 64 : Nat) : Int) ∧ ishl .u64 1 (ibits .u8 .and (i : Int) 63) = ((2 ^ (i % 64) : Nat) : Int) ∧ 0 ≤ ibits .u8 .and (i : Int) 63 := by
  have := all_lt sh_tab hi
  simp only [Bool.and_eq_true, decide_eq_true_eq] at this
  exact ⟨this.1.1.2, this.1.2, this.2⟩

/-! ### calender/set -/
theorem dflt_u64 : Ty.dflt (.int .u64) = (0 : Int) := rfl

def rangeP (a b : Nat) : Nat → Bool := fun i => decide (a ≤ i) && decide (i ≤ b)

theorem some_wd {p q : Nat → Bool} (h : ∀ i, i < 256 → p i = q i) : some (wd p) = some (wd q) := by rw [wd_congr h]
theorem some_bx {p q : Nat → Bool} (h : ∀ i, i < 256 → p i = q i) : some (bx p) = some (bx q) := by rw [bx_congr h]

theorem set_Range_eq {n a b : Nat} (hn : 300 ≤ n) (ha : a < 256) (hb : b < 256) : set_Range n ((a : Int), (b : Int)) = some (wd (rangeP a b)) := by
  unfold set_Range
  simp only
  rw [wrapI (by omega) (by omega)]
  by_cases hab : a ≤ b
  · have := fix_upL (lo := a) (B := set_Range_loop0 n) (r := some (wd (rangeP a b))) (N := b + 1) (fun i => ((b : Int), (i : Int), wd (fun j => decide (a ≤ j) && decide (j < i)), ()))
      (by
        intro i hlo hi g
        have hi2 : i < 256 := by omega
        obtain ⟨s1, s2, s3⟩ := sh_i hi2
        rw [set_Range_loop0]
        simp only
        have hc : i ≤ b := by omega
        rw [wrapI (by omega) (by omega), s1, s2]
        rw [br_of (by simp; omega), chk_of (by decide), chk_of (inB_t (by omega) (by omega)), chk_of (by simp; omega), chk_of (by simpa using s3), chk_of (inB_t (by omega) (by omega)), chk_of (by simp; omega)]
        rw [wrapI (by omega) (by omega), dflt_u64, Int.toNat_natCast, wd_or1 _ hi2]
        have : wd (fun j => (decide (a ≤ j) && decide (j < i)) || decide (j = i)) = wd (fun j => decide (a ≤ j) && decide (j < i + 1)) := by
          refine wd_congr fun j hj => ?_
          rw [Bool.eq_iff_iff]; simp; omega
        rw [this]; rfl)
      (by
        intro g
        rw [set_Range_loop0]
        simp only
        rw [br_not (by rw [wrapI (by omega) (by omega)]; simp; omega)]
        refine some_wd fun i hi => ?_
        simp only [rangeP]; rw [Bool.eq_iff_iff]; simp; omega)
      (b + 1 - a) a n (by omega) (by omega) (by omega)
    have e : wd (fun j => decide (a ≤ j) && decide (j < a)) = [0, 0, 0, 0] := by
      rw [← wd_none]; refine wd_congr fun j hj => ?_
      rw [Bool.eq_iff_iff]; simp
    simp only [e] at this
    exact this
  · rw [fix_pos (by omega), set_Range_loop0]
    simp only
    rw [br_not (by rw [wrapI (by omega) (by omega)]; simp; omega), ← wd_none]
    refine some_wd fun j hj => ?_
    simp only [rangeP]; rw [Bool.eq_iff_iff]; simp; omega

theorem set_Not_eq {n : Nat} (hn : 5 ≤ n) (p : Nat → Bool) : set_Not n (wd p) = some (wd fun i => !p i) := by
  obtain ⟨m, rfl⟩ : ∃ m, n = m + 5 := ⟨n - 5, by omega⟩
  have h := word_not p
  have e : wd (fun i => !p i) = [ibits .u64 .xor 18446744073709551615 (word p 0), ibits .u64 .xor 18446744073709551615 (word p 1), ibits .u64 .xor 18446744073709551615 (word p 2), ibits .u64 .xor 18446744073709551615 (word p 3)] := by rw [h, h, h, h]; rfl
  rw [e]
  rfl

theorem set_Or1_eq {n : Nat} (hn : 5 ≤ n) (g0 : List (List Int) × Int × Int × List Int × Unit → Option (List Int)) (l : List (List Int)) (c i : Int) (p q : Nat → Bool) :
    fix (set_Or_loop1 n g0) n (l, c, i, 0, wd p, wd q, ()) = g0 (l, c, IntKind.wrap .i64 (i + 1), wd (fun i => p i || q i), ()) := by
  obtain ⟨m, rfl⟩ : ∃ m, n = m + 5 := ⟨n - 5, by omega⟩
  have h := word_or p q
  have e : wd (fun i => p i || q i) = [ibits .u64 .or (word p 0) (word q 0), ibits .u64 .or (word p 1) (word q 1), ibits .u64 .or (word p 2) (word q 2), ibits .u64 .or (word p 3) (word q 3)] := by rw [h, h, h, h]; rfl
  rw [e]
  rfl

theorem set_Or_eq {n : Nat} (ps : List (Nat → Bool)) (hn : 5 ≤ n) (hl : ps.length < n) (hm : ps.length < 1000) : set_Or n (ps.map wd) = some (wd fun i => ps.any (· i)) := by
  unfold set_Or
  simp only [List.length_map]
  have := fix_up (B := set_Or_loop0 n) (r := some (wd fun i => ps.any (· i))) (N := ps.length) (fun i => (ps.map wd, (ps.length : Int), (i : Int), wd (fun j => (ps.take i).any (· j)), ()))
    (by
      intro i hi g
      rw [set_Or_loop0]
      simp only
      rw [br_of (by simp; omega), chk_of (inB_t (by omega) (by simp; omega))]
      have hg : getAt (Ty.dflt (.arr 4 (.int .u64))) (ps.map wd) (i : Int) = wd ps[i] := by
        simp [getAt, List.getD_eq_getElem?_getD, hi]
      rw [hg, set_Or1_eq hn, wrapI (by omega) (by omega)]
      have hw : wd (fun j => (ps.take i).any (· j) || ps[i] j) = wd (fun j => (ps.take (i + 1)).any (· j)) := by
        refine wd_congr fun j hj => ?_
        rw [List.take_succ_eq_append_getElem hi, List.any_append]; simp
      rw [hw]; rfl)
    (by
      intro g
      rw [set_Or_loop0]
      simp only
      rw [br_not (by simp)]
      simp)
    ps.length 0 n (by omega) hl
  simpa [wd_none] using this

def ofP (s : List UInt8) : Nat → Bool := fun i => s.any fun c => decide (c.toNat = i)

theorem getAt_nat {α : Type} {d : α} {s : List α} {i : Nat} (h : i < s.length) : getAt d s (i : Int) = s[i] := by
  simp [getAt, List.getD_eq_getElem?_getD, h]

theorem ofP_take {s : List UInt8} {i : Nat} (h : i < s.length) : ofP (s.take (i + 1)) = fun j => ofP (s.take i) j || decide (j = s[i].toNat) := by
  funext j
  simp only [ofP]
  rw [List.take_succ_eq_append_getElem h, List.any_append]
  simp [eq_comm]

theorem set_Of_eq {n : Nat} (s : List UInt8) (hl : s.length < n) (hm : s.length < 100000) : set_Of n s = some (wd (ofP s)) := by
  unfold set_Of
  simp only
  have := fix_up (B := set_Of_loop0 n) (r := some (wd (ofP s))) (N := s.length) (fun i => (s, (s.length : Int), (i : Int), wd (ofP (s.take i)), ()))
    (by
      intro i hi g
      have hc : s[i].toNat < 256 := s[i].toNat_lt
      obtain ⟨s1, s2, s3⟩ := sh_u hc
      rw [set_Of_loop0]
      simp only
      rw [getAt_nat hi, s1, s2]
      rw [br_of (by simp; omega), chk_of (inBn hi), chk_of (by decide), chk_of (inB_t (by omega) (by omega)), chk_of (by simp; omega), chk_of (inBn hi), chk_of (by simpa using s3), chk_of (inB_t (by omega) (by omega)), chk_of (by simp; omega)]
      rw [wrapI (by omega) (by omega), dflt_u64, Int.toNat_natCast, wd_or1 _ hc, ofP_take hi]
      rfl)
    (by
      intro g
      rw [set_Of_loop0]
      simp only
      rw [br_not (by simp)]
      simp)
    s.length 0 n (by omega) hl
  have e : wd (ofP (s.take 0)) = [0, 0, 0, 0] := by rw [← wd_none]; rfl
  simp only [e] at this
  simpa using this

/-! ### calender/calenderref02 -/
theorem ref02_Range_eq {n a b : Nat} (hn : 300 ≤ n) (ha : a < 256) (hb : b < 256) : ref02_Range n ((a : Int), (b : Int)) = some (bx (rangeP a b)) := by
  unfold ref02_Range
  simp only
  rw [wrapI (by omega) (by omega)]
  by_cases hab : a ≤ b
  · have := fix_upL (lo := a) (B := ref02_Range_loop0 n) (r := some (bx (rangeP a b))) (N := b + 1) (fun i => ((b : Int), (i : Int), List.replicate 256 false, bx (fun j => decide (a ≤ j) && decide (j < i)), ()))
      (by
        intro i hlo hi g
        have hi2 : i < 256 := by omega
        rw [ref02_Range_loop0]
        simp only
        have hc : i ≤ b := by omega
        rw [wrapI (by omega) (by omega)]
        rw [br_of (by simp; omega), chk_of (inB_t (by omega) (by omega)), chk_of (by simp; omega)]
        rw [wrapI (by omega) (by omega), Int.toNat_natCast, bx_set]
        have : bx (fun j => if j = i then true else (decide (a ≤ j) && decide (j < i))) = bx (fun j => decide (a ≤ j) && decide (j < i + 1)) := by
          refine bx_congr fun j hj => ?_
          rw [Bool.eq_iff_iff]; split <;> simp <;> omega
        rw [this]; rfl)
      (by
        intro g
        rw [ref02_Range_loop0]
        simp only
        rw [br_not (by rw [wrapI (by omega) (by omega)]; simp; omega)]
        refine some_bx fun i hi => ?_
        simp only [rangeP]; rw [Bool.eq_iff_iff]; simp; omega)
      (b + 1 - a) a n (by omega) (by omega) (by omega)
    have e : bx (fun j => decide (a ≤ j) && decide (j < a)) = List.replicate 256 false := by
      rw [← bx_none]; refine bx_congr fun j hj => ?_
      rw [Bool.eq_iff_iff]; simp
    simp only [e] at this
    exact this
  · rw [fix_pos (by omega), ref02_Range_loop0]
    simp only
    rw [br_not (by rw [wrapI (by omega) (by omega)]; simp; omega), ← bx_none]
    refine some_bx fun j hj => ?_
    simp only [rangeP]; rw [Bool.eq_iff_iff]; simp; omega

theorem ref02_Not_eq {n : Nat} (hn : 300 ≤ n) (p : Nat → Bool) : ref02_Not n (bx p) = some (bx fun i => !p i) := by
  unfold ref02_Not
  simp only
  have := fix_up (B := ref02_Not_loop0 n) (r := some (bx fun i => !p i)) (N := 256) (fun i => ((i : Int), bx (fun j => if j < i then !p j else p j), List.replicate 256 false, ()))
    (by
      intro i hi g
      rw [ref02_Not_loop0]
      simp only
      rw [br_of (by simp; omega), chk_of (inB_t (by omega) (by omega)), chk_of (by simp; omega), chk_of (inB_t (by omega) (by omega)), chk_of (by simp; omega)]
      rw [wrapI (by omega) (by omega), Int.toNat_natCast, bx_get _ hi, bx_set]
      have : bx (fun j => if j = i then !(if i < i then !p i else p i) else if j < i then !p j else p j) = bx (fun j => if j < i + 1 then !p j else p j) := by
        refine bx_congr fun j hj => ?_
        by_cases e : j = i
        · subst e; simp
        · by_cases e2 : j < i
          · simp [e, e2, Nat.lt_succ_of_lt e2]
          · simp [e, e2, show ¬ j < i + 1 by omega]
      rw [this]; rfl)
    (by
      intro g
      rw [ref02_Not_loop0]
      simp only
      rw [br_not (by simp)]
      refine some_bx fun i hi => ?_
      simp [hi])
    256 0 n (by omega) (by omega)
  have e : bx (fun j => if j < 0 then !p j else p j) = bx p := bx_congr fun j hj => by simp
  rw [e] at this
  exact this

theorem ref02_Or_eq {n : Nat} (hn : 300 ≤ n) (p q : Nat → Bool) : ref02_Or n (bx p, bx q) = some (bx fun i => p i || q i) := by
  unfold ref02_Or
  simp only
  have := fix_up (B := ref02_Or_loop0 n) (r := some (bx fun i => p i || q i)) (N := 256) (fun i => ((i : Int), bx (fun j => if j < i then p j || q j else p j), bx q, List.replicate 256 false, ()))
    (by
      intro i hi g
      have key : ∀ b, b = (p i || q i) → (g (((i + 1 : Nat) : Int), bx (fun j => if j = i then b else if j < i then p j || q j else p j), bx q, List.replicate 256 false, ()) = g (((i + 1 : Nat) : Int), bx (fun j => if j < i + 1 then p j || q j else p j), bx q, List.replicate 256 false, ())) := by
        intro b hb
        have : bx (fun j => if j = i then b else if j < i then p j || q j else p j) = bx (fun j => if j < i + 1 then p j || q j else p j) := by
          refine bx_congr fun j hj => ?_
          by_cases e : j = i
          · subst e; simp [hb]
          · by_cases e2 : j < i
            · simp [e, e2, Nat.lt_succ_of_lt e2]
            · simp [e, e2, show ¬ j < i + 1 by omega]
        rw [this]
      rw [ref02_Or_loop0]
      simp only
      rw [br_of (by simp; omega), chk_of (inB_t (by omega) (by omega)), chk_of (by simp; omega), chk_of (inB_t (by omega) (by omega)), chk_of (by simp; omega)]
      rw [wrapI (by omega) (by omega), Int.toNat_natCast, bx_get _ hi, bx_get _ hi, bx_set, bx_set, show (i : Int) + 1 = ((i + 1 : Nat) : Int) from rfl]
      simp only [Nat.lt_irrefl, if_false]
      cases hp : p i
      · rw [br_not rfl, chk_of (inB_t (by omega) (by omega)), chk_of (decide_eq_true hi), chk_of (inB_t (by omega) (by omega)), chk_of (decide_eq_true hi)]; rw [key (q i) (by rw [hp]; rfl)]
      · rw [br_of rfl]; exact key true (by rw [hp]; rfl))
    (by
      intro g
      rw [ref02_Or_loop0]
      simp only
      rw [br_not (by simp)]
      refine some_bx fun i hi => ?_
      simp [hi])
    256 0 n (by omega) (by omega)
  have e : bx (fun j => if j < 0 then p j || q j else p j) = bx p := bx_congr fun j hj => by simp
  rw [e] at this
  exact this

theorem ref02_Of_eq {n : Nat} (s : List UInt8) (hl : s.length < n) (hm : s.length < 100000) : ref02_Of n s = some (bx (ofP s)) := by
  unfold ref02_Of
  simp only
  have := fix_up (B := ref02_Of_loop0 n) (r := some (bx (ofP s))) (N := s.length) (fun i => (s, (i : Int), List.replicate 256 false, bx (ofP (s.take i)), ()))
    (by
      intro i hi g
      have hc : s[i].toNat < 256 := s[i].toNat_lt
      rw [ref02_Of_loop0]
      simp only
      rw [getAt_nat hi]
      rw [br_of (by simp; omega), chk_of (inBn hi), chk_of (inB_t (by omega) (by omega)), chk_of (by simp; omega)]
      rw [wrapI (by omega) (by omega), Int.toNat_natCast, bx_set, ofP_take hi]
      have : bx (fun j => if j = s[i].toNat then true else ofP (s.take i) j) = bx (fun j => ofP (s.take i) j || decide (j = s[i].toNat)) := by
        refine bx_congr fun j hj => ?_
        by_cases e : j = s[i].toNat
        · rw [if_pos e]; simp [e]
        · rw [if_neg e]; simp [e]
      rw [this]; rfl)
    (by
      intro g
      rw [ref02_Of_loop0]
      simp only
      rw [br_not (by simp)]
      simp)
    s.length 0 n (by omega) hl
  have e : bx (ofP (s.take 0)) = List.replicate 256 false := by rw [← bx_none]; rfl
  simp only [e] at this
  exact this

/-- The bytes of a set, rising. -/
def bytesP (p : Nat → Bool) : List UInt8 := ((List.range 256).filter p).map UInt8.ofNat

theorem ref02_Bytes_eq {n : Nat} (hn : 300 ≤ n) (p : Nat → Bool) : ref02_Bytes n (bx p) = some (bytesP p) := by
  unfold ref02_Bytes
  simp only
  have := fix_up (B := ref02_Bytes_loop0 n) (r := some (bytesP p)) (N := 256) (fun i => ((i : Int), bx p, ((List.range i).filter p).map (fun j => ((j : Nat) : Int)), ()))
    (by
      intro i hi g
      have hle : ((List.range i).filter p).length ≤ i := by have := List.length_filter_le p (List.range i); simpa using this
      rw [ref02_Bytes_loop0]
      simp only
      rw [br_of (by simp; omega), chk_of (inB_t (by omega) (by omega)), chk_of (by simp; omega)]
      rw [wrapI (by omega) (by omega), Int.toNat_natCast, bx_get _ hi, show (i : Int) + 1 = ((i + 1 : Nat) : Int) from rfl, IntWalk.u8_in _ (by omega), List.range_succ]
      cases hp : p i
      · rw [br_not rfl]; simp [hp]
      · rw [br_of rfl, chk_of (by simp [room]; omega)]; simp [hp])
    (by
      intro g
      rw [ref02_Bytes_loop0]
      simp only
      rw [br_not (by simp)]
      simp [bytesToS, bytesP])
    256 0 n (by omega) (by omega)
  exact this

theorem bytesP_len (p : Nat → Bool) : (bytesP p).length ≤ 256 := by
  have := List.length_filter_le p (List.range 256); simpa [bytesP] using this

theorem ref02_Size_eq {n : Nat} (hn : 300 ≤ n) (p : Nat → Bool) : ref02_Size n (bx p) = some ((bytesP p).length : Int) := by
  unfold ref02_Size
  simp only
  rw [ref02_Bytes_eq hn]; rfl

theorem bytesP_none {p : Nat → Bool} : (bytesP p).length = 0 ↔ ∀ i, i < 256 → p i = false := by
  simp [bytesP, List.filter_eq_nil_iff]

theorem wd_nil {p : Nat → Bool} : wd p = [0, 0, 0, 0] ↔ ∀ i, i < 256 → p i = false := by
  rw [← wd_none]
  exact ⟨fun h i hi => wd_inj h hi, fun h => wd_congr h⟩

theorem beqW {p q : Nat → Bool} : Ty.beq (.arr 4 (.int .u64)) (wd p) (wd q) = true ↔ wd p = wd q := beq_iff rfl

/-! ### Words -/
/-- What the words are when the bytes from a place on have gone in. -/
def vN (p : Nat → Bool) (i k : Nat) : Nat := bn (fun j => p (max i (64 * k) + j)) (64 * (k + 1) - max i (64 * k))
def vW (p : Nat → Bool) (i : Nat) : List Int := [((vN p i 0 : Nat) : Int), ((vN p i 1 : Nat) : Int), ((vN p i 2 : Nat) : Int), ((vN p i 3 : Nat) : Int)]
theorem vN_lt (p : Nat → Bool) (i k : Nat) : vN p i k < 2 ^ 64 := by
  unfold vN
  exact Nat.lt_of_lt_of_le (bn_lt _ _) (Nat.pow_le_pow_right (by omega) (by omega))
theorem vN_step (p : Nat → Bool) {i k : Nat} (h : i / 64 = k) : vN p i k = (p i).toNat + 2 * vN p (i + 1) k := by
  unfold vN
  have h1 : max i (64 * k) = i := by omega
  have h2 : max (i + 1) (64 * k) = i + 1 := by omega
  rw [h1, h2, show 64 * (k + 1) - i = (64 * (k + 1) - (i + 1)) + 1 by omega]
  rw [bn]
  congr 2
  apply bn_congr
  intro j hj
  show p (i + (j + 1)) = p (i + 1 + j)
  congr 1; omega
theorem vN_other (p : Nat → Bool) {i k : Nat} (h : i / 64 ≠ k) : vN p (i + 1) k = vN p i k := by
  unfold vN
  by_cases h1 : i < 64 * k
  · have h1' : max i (64 * k) = 64 * k := by omega
    have h2 : max (i + 1) (64 * k) = 64 * k := by omega
    rw [h1', h2]
  · have h3 : 64 * (k + 1) - max i (64 * k) = 0 := by omega
    have h4 : 64 * (k + 1) - max (i + 1) (64 * k) = 0 := by omega
    rw [h3, h4]; rfl
theorem vW_zero (p : Nat → Bool) : vW p 0 = wd p := by
  unfold vW wd word wordN vN
  simp [show ∀ k, max 0 (64 * k) = 64 * k by omega]
theorem vW_end (p : Nat → Bool) : vW p 256 = [0, 0, 0, 0] := rfl
theorem vW_set (p : Nat → Bool) {i : Nat} (hi : i < 256) : (vW p (i + 1)).set (i / 64) ((vN p i (i / 64) : Nat) : Int) = vW p i := by
  have hk : i / 64 = 0 ∨ i / 64 = 1 ∨ i / 64 = 2 ∨ i / 64 = 3 := by omega
  have ho : ∀ k, i / 64 ≠ k → vN p (i + 1) k = vN p i k := fun k h => vN_other p h
  rcases hk with h | h | h | h <;> rw [h] <;> simp only [vW, List.set_cons_zero, List.set_cons_succ]
  · rw [ho 1 (by omega), ho 2 (by omega), ho 3 (by omega)]
  · rw [ho 0 (by omega), ho 2 (by omega), ho 3 (by omega)]
  · rw [ho 0 (by omega), ho 1 (by omega), ho 3 (by omega)]
  · rw [ho 0 (by omega), ho 1 (by omega), ho 2 (by omega)]
theorem vW_set' (p : Nat → Bool) {i : Nat} (hi : i < 256) : (vW p i).set (i / 64) ((vN p (i + 1) (i / 64) : Nat) : Int) = vW p (i + 1) := by
  have hk : i / 64 = 0 ∨ i / 64 = 1 ∨ i / 64 = 2 ∨ i / 64 = 3 := by omega
  have ho : ∀ k, i / 64 ≠ k → vN p (i + 1) k = vN p i k := fun k h => vN_other p h
  rcases hk with h | h | h | h <;> rw [h] <;> simp only [vW, List.set_cons_zero, List.set_cons_succ]
  · rw [ho 1 (by omega), ho 2 (by omega), ho 3 (by omega)]
  · rw [ho 0 (by omega), ho 2 (by omega), ho 3 (by omega)]
  · rw [ho 0 (by omega), ho 1 (by omega), ho 3 (by omega)]
  · rw [ho 0 (by omega), ho 1 (by omega), ho 2 (by omega)]
theorem vW_get (p : Nat → Bool) {i k : Nat} (hk : k < 4) : (vW p i).getD k 0 = ((vN p i k : Nat) : Int) := by
  have : k = 0 ∨ k = 1 ∨ k = 2 ∨ k = 3 := by omega
  rcases this with rfl | rfl | rfl | rfl <;> rfl
theorem vW_len (p : Nat → Bool) (i : Nat) : (vW p i).length = 4 := rfl

theorem ref02_Words_eq {n : Nat} (hn : 300 ≤ n) (p : Nat → Bool) : ref02_Words n (bx p) = some (wd p) := by
  unfold ref02_Words
  simp only
  have := fix_up (B := ref02_Words_loop0 n) (r := some (wd p)) (N := 256) (fun i => (255 - (i : Int), bx p, [0, 0, 0, 0], vW p (256 - i), ()))
    (by
      intro i hi g
      obtain ⟨j, hj⟩ : ∃ j, j = 255 - i := ⟨_, rfl⟩
      have e1 : (255 : Int) - (i : Int) = (j : Int) := by omega
      have e2 : 256 - i = j + 1 := by omega
      have e3 : (255 : Int) - ((i + 1 : Nat) : Int) = (j : Int) - 1 := by omega
      have e4 : 256 - (i + 1) = j := by omega
      have hj2 : j < 256 := by omega
      have hk : j / 64 < 4 := by omega
      have hv : IntKind.wrap .i64 (Int.tdiv (j : Int) 64) = ((j / 64 : Nat) : Int) := by
        rw [IntWalk.i64_quo _ _ (by omega)]; rfl
      have hs := vN_step p (i := j) rfl
      have hlt := vN_lt p j (j / 64)
      rw [e1, e2, e3, e4, ref02_Words_loop0]
      simp only
      rw [br_of (by simp), chk_of (by decide), chk_of (by decide), hv, chk_of (inB_t (by omega) (by omega)), chk_of (by simp; omega), chk_of (inB_t (by omega) (by omega)), chk_of (by simp; omega), chk_of (inB_t (by omega) (by omega)), chk_of (by simp; omega)]
      rw [Int.toNat_natCast, Int.toNat_natCast, dflt_u64, vW_get p hk, bx_get _ hj2, wrapI (by omega) (by omega)]
      rw [← vW_set p hj2]
      cases hp : p j
      · rw [br_not rfl]
        rw [hp] at hs
        rw [IntWalk.u64_in _ (by simp at hs; omega)]
        have : ((vN p (j + 1) (j / 64) : Nat) : Int) * 2 = ((vN p j (j / 64) : Nat) : Int) := by simp at hs; omega
        rw [this]
      · rw [br_of rfl, chk_of (by decide), chk_of (inB_t (by omega) (by omega)), chk_of (by simp; omega), chk_of (inB_t (by omega) (by omega)), chk_of (by simp; omega)]
        rw [hp] at hs
        simp only [Bool.toNat_true] at hs
        rw [IntWalk.u64_in _ (by omega)]
        have hg : ∀ y, ((vW p (j + 1)).set (j / 64) y).getD (j / 64) 0 = y := by
          intro y
          rw [List.getD_eq_getElem?_getD, List.getElem?_set_self (by rw [vW_len]; exact hk)]; rfl
        rw [hg, IntWalk.u64_in _ (by omega), List.set_set]
        have : ((vN p (j + 1) (j / 64) : Nat) : Int) * 2 + 1 = ((vN p j (j / 64) : Nat) : Int) := by omega
        rw [this])
    (by
      intro g
      rw [ref02_Words_loop0]
      simp only
      rw [br_not (by simp)]
      rw [show 256 - 256 = 0 from rfl, vW_zero])
    256 0 n (by omega) (by omega)
  exact this

theorem ref02_Told_eq {n : Nat} (hn : 300 ≤ n) (p : Nat → Bool) : ref02_Told n (wd p) = some (bx p) := by
  unfold ref02_Told
  simp only
  have := fix_up (B := ref02_Told_loop0 n) (r := some (bx p)) (N := 256) (fun i => ((i : Int), vW p i, List.replicate 256 false, bx (fun j => decide (j < i) && p j), ()))
    (by
      intro i hi g
      have hk : i / 64 < 4 := by omega
      have hv : IntKind.wrap .i64 (Int.tdiv (i : Int) 64) = ((i / 64 : Nat) : Int) := by
        rw [IntWalk.i64_quo _ _ (by omega)]; rfl
      have hs := vN_step p (i := i) rfl
      have hlt := vN_lt p i (i / 64)
      rw [ref02_Told_loop0]
      simp only
      rw [hv, Int.toNat_natCast, Int.toNat_natCast, dflt_u64, vW_get p hk, bx_set]
      have e1 : IntKind.wrap .u64 (Int.tdiv ((vN p i (i / 64) : Nat) : Int) 2) = ((vN p (i + 1) (i / 64) : Nat) : Int) := by
        rw [IntWalk.u64_quo _ _ (by omega)]
        cases hp : p i <;> rw [hp] at hs <;> simp at hs <;> omega
      have e2 : (Int.tmod ((vN p i (i / 64) : Nat) : Int) 2 == 1) = p i := by
        rw [Int.tmod_eq_emod_of_nonneg (by omega)]
        cases hp : p i <;> rw [hp] at hs <;> simp at hs <;> simp <;> omega
      rw [e1, e2, vW_set' p hi]
      rw [br_of (by simp; omega), chk_of (by decide), chk_of (inB_t (by omega) (by omega)), chk_of (by simp; omega), chk_of (by decide), chk_of (inB_t (by omega) (by omega)), chk_of (by simp; omega), chk_of (by decide), chk_of (by decide), chk_of (inB_t (by omega) (by omega)), chk_of (by simp; omega), chk_of (by decide), chk_of (inB_t (by omega) (by omega)), chk_of (by simp; omega)]
      rw [wrapI (by omega) (by omega)]
      have : bx (fun j => if j = i then p i else decide (j < i) && p j) = bx (fun j => decide (j < i + 1) && p j) := by
        refine bx_congr fun j hj => ?_
        by_cases e : j = i
        · subst e; simp
        · rw [if_neg e]; congr 1; apply decide_eq_decide.2; omega
      rw [this]; rfl)
    (by
      intro g
      rw [ref02_Told_loop0]
      simp only
      rw [br_not (by simp)]
      refine some_bx fun i hi => ?_
      simp [hi])
    256 0 n (by omega) (by omega)
  have e : bx (fun j => decide (j < 0) && p j) = List.replicate 256 false := by rw [← bx_none]; exact bx_congr fun j hj => by simp
  rw [e, vW_zero] at this
  exact this

/-! ### Classes -/
theorem ref02_Class_cut {n : Nat} (hn : 300 ≤ n) (p q : Nat → Bool) : fix (ref02_Class_loop0 n) n (0, List.replicate 256 false, bx p, bx q, ()) = some (bx (fun i => q i && !p i), true) := by
  have := fix_up (B := ref02_Class_loop0 n) (r := some (bx (fun i => q i && !p i), true)) (N := 256) (fun i => ((i : Int), List.replicate 256 false, bx p, bx (fun j => if j < i then q j && !p j else q j), ()))
    (by
      intro i hi g
      have key : ∀ b, b = (q i && !p i) → (g (((i + 1 : Nat) : Int), List.replicate 256 false, bx p, bx (fun j => if j = i then b else if j < i then q j && !p j else q j), ()) = g (((i + 1 : Nat) : Int), List.replicate 256 false, bx p, bx (fun j => if j < i + 1 then q j && !p j else q j), ())) := by
        intro b hb
        have : bx (fun j => if j = i then b else if j < i then q j && !p j else q j) = bx (fun j => if j < i + 1 then q j && !p j else q j) := by
          refine bx_congr fun j hj => ?_
          by_cases e : j = i
          · subst e; simp [hb]
          · by_cases e2 : j < i
            · simp [e, e2, Nat.lt_succ_of_lt e2]
            · simp [e, e2, show ¬ j < i + 1 by omega]
        rw [this]
      rw [ref02_Class_loop0]
      simp only
      rw [br_of (by simp; omega), chk_of (inB_t (by omega) (by omega)), chk_of (by simp; omega)]
      rw [wrapI (by omega) (by omega), Int.toNat_natCast, bx_get _ hi, bx_get _ hi, bx_set, bx_set, show (i : Int) + 1 = ((i + 1 : Nat) : Int) from rfl]
      simp only [Nat.lt_irrefl, if_false]
      cases hq : q i
      · rw [br_not rfl, chk_of (inB_t (by omega) (by omega)), chk_of (decide_eq_true hi)]; exact key false (by rw [hq]; rfl)
      · rw [br_of rfl, chk_of (inB_t (by omega) (by omega)), chk_of (decide_eq_true hi), chk_of (inB_t (by omega) (by omega)), chk_of (decide_eq_true hi)]; exact key (!p i) (by rw [hq]; rfl))
    (by
      intro g
      rw [ref02_Class_loop0]
      simp only
      rw [br_not (by simp)]
      have e : bx (fun j => if j < 256 then q j && !p j else q j) = bx (fun i => q i && !p i) := bx_congr fun j hj => by simp [hj]
      rw [e])
    256 0 n (by omega) (by omega)
  have e : bx (fun j => if j < 0 then q j && !p j else q j) = bx q := bx_congr fun j hj => by simp
  rw [e] at this
  exact this

/-- The set of a name. -/
def anyP (ps : List (Nat → Bool)) : Nat → Bool := fun i => ps.any (· i)
def classP (s : List UInt8) : Option (Nat → Bool) :=
  bif s == [117, 112, 112, 101, 114] then some (rangeP 65 90)
  else bif s == [108, 111, 119, 101, 114] then some (rangeP 97 122)
  else bif s == [97, 108, 112, 104, 97] then some (anyP [rangeP 65 90, rangeP 97 122])
  else bif s == [100, 105, 103, 105, 116] then some (rangeP 48 57)
  else bif s == [97, 108, 110, 117, 109] then some (anyP [rangeP 65 90, rangeP 97 122, rangeP 48 57])
  else bif s == [120, 100, 105, 103, 105, 116] then some (anyP [rangeP 48 57, rangeP 65 70, rangeP 97 102])
  else bif s == [98, 108, 97, 110, 107] then some (ofP [32, 9])
  else bif s == [115, 112, 97, 99, 101] then some (ofP [32, 9, 10, 11, 12, 13])
  else bif s == [99, 110, 116, 114, 108] then some (anyP [rangeP 0 31, ofP [127]])
  else bif s == [103, 114, 97, 112, 104] then some (rangeP 33 126)
  else bif s == [112, 114, 105, 110, 116] then some (rangeP 32 126)
  else bif s == [112, 117, 110, 99, 116] then some (anyP [rangeP 33 47, rangeP 58 64, rangeP 91 96, rangeP 123 126])
  else none

def ClassOK (o : Option (Nat → Bool)) (a : Option (List Int × Bool)) (b : Option (List Bool × Bool)) : Prop := match o with
  | some p => a = some (wd p, true) ∧ b = some (bx p, true)
  | none => a = some (wd fun _ => false, false) ∧ ∃ p, b = some (bx p, false)

theorem class_pair {p q : Nat → Bool} (h : ((List.range 256).all fun i => p i == q i) = true) (o : Option (List Int × Bool)) (o2 : Option (List Bool × Bool)) (h1 : o = some (wd p, true)) (h2 : o2 = some (bx q, true)) :
    ClassOK (some p) o o2 := by
  refine ⟨h1, ?_⟩
  rw [h2]
  have : bx q = bx p := bx_congr fun i hi => by have := all_lt h hi; simp at this; exact this.symm
  rw [this]

theorem class_both {n : Nat} (hn : 300 ≤ n) (s : List UInt8) : ClassOK (classP s) (set_Class n s) (ref02_Class n s) := by
  have R : ∀ a b : Nat, a < 256 → b < 256 → set_Range n ((a : Int), (b : Int)) = some (wd (rangeP a b)) := fun a b ha hb => set_Range_eq hn ha hb
  have R2 : ∀ a b : Nat, a < 256 → b < 256 → ref02_Range n ((a : Int), (b : Int)) = some (bx (rangeP a b)) := fun a b ha hb => ref02_Range_eq hn ha hb
  have O : ∀ ps : List (Nat → Bool), ps.length < 10 → set_Or n (ps.map wd) = some (wd fun i => ps.any (· i)) := fun ps h => set_Or_eq ps (by omega) (by omega) (by omega)
  have O2 := fun p q => ref02_Or_eq hn p q
  have F : ∀ s : List UInt8, s.length < 10 → set_Of n s = some (wd (ofP s)) := fun s h => set_Of_eq s (by omega) (by omega)
  have F2 : ∀ s : List UInt8, s.length < 10 → ref02_Of n s = some (bx (ofP s)) := fun s h => ref02_Of_eq s (by omega) (by omega)
  unfold set_Class ref02_Class classP
  simp only
  rw [show ((65 : Int), (90 : Int)) = (((65 : Nat) : Int), ((90 : Nat) : Int)) from rfl, show ((97 : Int), (122 : Int)) = (((97 : Nat) : Int), ((122 : Nat) : Int)) from rfl, show ((48 : Int), (57 : Int)) = (((48 : Nat) : Int), ((57 : Nat) : Int)) from rfl]
  rw [R 65 90 (by omega) (by omega), R 97 122 (by omega) (by omega), R 48 57 (by omega) (by omega), R2 65 90 (by omega) (by omega), R2 97 122 (by omega) (by omega), R2 48 57 (by omega) (by omega)]
  simp only [ob_s]
  rw [O2]
  simp only [ob_s]
  rw [O2]
  simp only [ob_s]
  cases s == [117, 112, 112, 101, 114]
  case true => exact class_pair (by decide +kernel) _ _ rfl rfl
  simp only [br_f, cond_false]
  cases s == [108, 111, 119, 101, 114]
  case true => exact class_pair (by decide +kernel) _ _ rfl rfl
  simp only [br_f, cond_false]
  cases s == [97, 108, 112, 104, 97]
  case true =>
    have := O [rangeP 65 90, rangeP 97 122] (by decide)
    simp only [List.map] at this
    simp only [br_t, this, ob_s]
    exact class_pair (by decide +kernel) _ _ rfl rfl
  simp only [br_f, cond_false]
  cases s == [100, 105, 103, 105, 116]
  case true => exact class_pair (by decide +kernel) _ _ rfl rfl
  simp only [br_f, cond_false]
  cases s == [97, 108, 110, 117, 109]
  case true =>
    have := O [rangeP 65 90, rangeP 97 122, rangeP 48 57] (by decide)
    simp only [List.map] at this
    simp only [br_t, this, ob_s]
    exact class_pair (by decide +kernel) _ _ rfl rfl
  simp only [br_f, cond_false]
  cases s == [120, 100, 105, 103, 105, 116]
  case true =>
    have := O [rangeP 48 57, rangeP 65 70, rangeP 97 102] (by decide)
    simp only [List.map] at this
    simp only [br_t]
    rw [show ((65 : Int), (70 : Int)) = (((65 : Nat) : Int), ((70 : Nat) : Int)) from rfl, show ((97 : Int), (102 : Int)) = (((97 : Nat) : Int), ((102 : Nat) : Int)) from rfl]
    rw [R 65 70 (by omega) (by omega), R 97 102 (by omega) (by omega), R2 65 70 (by omega) (by omega), R2 97 102 (by omega) (by omega)]
    simp only [ob_s]
    rw [O2, this]
    simp only [ob_s]
    rw [O2]
    exact class_pair (by decide +kernel) _ _ rfl rfl
  simp only [br_f, cond_false]
  cases s == [98, 108, 97, 110, 107]
  case true =>
    simp only [br_t]
    rw [F _ (by decide), F2 _ (by decide)]
    exact class_pair (by decide +kernel) _ _ rfl rfl
  simp only [br_f, cond_false]
  cases s == [115, 112, 97, 99, 101]
  case true =>
    simp only [br_t]
    rw [show ((9 : Int), (13 : Int)) = (((9 : Nat) : Int), ((13 : Nat) : Int)) from rfl]
    rw [F _ (by decide), F2 _ (by decide), R2 9 13 (by omega) (by omega)]
    simp only [ob_s]
    rw [O2]
    exact class_pair (by decide +kernel) _ _ rfl rfl
  simp only [br_f, cond_false]
  cases s == [99, 110, 116, 114, 108]
  case true =>
    simp only [br_t]
    rw [show ((0 : Int), (31 : Int)) = (((0 : Nat) : Int), ((31 : Nat) : Int)) from rfl, show ((127 : Int), (127 : Int)) = (((127 : Nat) : Int), ((127 : Nat) : Int)) from rfl]
    rw [R 0 31 (by omega) (by omega), R2 0 31 (by omega) (by omega), R2 127 127 (by omega) (by omega), F _ (by decide)]
    have := O [rangeP 0 31, ofP [127]] (by decide)
    simp only [List.map] at this
    simp only [ob_s]
    rw [O2, this]
    exact class_pair (by decide +kernel) _ _ rfl rfl
  simp only [br_f, cond_false]
  cases s == [103, 114, 97, 112, 104]
  case true =>
    simp only [br_t]
    rw [show ((33 : Int), (126 : Int)) = (((33 : Nat) : Int), ((126 : Nat) : Int)) from rfl]
    rw [R 33 126 (by omega) (by omega), R2 33 126 (by omega) (by omega)]
    exact class_pair (by decide +kernel) _ _ rfl rfl
  simp only [br_f, cond_false]
  cases s == [112, 114, 105, 110, 116]
  case true =>
    simp only [br_t]
    rw [show ((32 : Int), (126 : Int)) = (((32 : Nat) : Int), ((126 : Nat) : Int)) from rfl]
    rw [R 32 126 (by omega) (by omega), R2 32 126 (by omega) (by omega)]
    exact class_pair (by decide +kernel) _ _ rfl rfl
  simp only [br_f, cond_false]
  cases s == [112, 117, 110, 99, 116]
  case true =>
    simp only [br_t]
    rw [show ((33 : Int), (126 : Int)) = (((33 : Nat) : Int), ((126 : Nat) : Int)) from rfl, show ((33 : Int), (47 : Int)) = (((33 : Nat) : Int), ((47 : Nat) : Int)) from rfl, show ((58 : Int), (64 : Int)) = (((58 : Nat) : Int), ((64 : Nat) : Int)) from rfl, show ((91 : Int), (96 : Int)) = (((91 : Nat) : Int), ((96 : Nat) : Int)) from rfl, show ((123 : Int), (126 : Int)) = (((123 : Nat) : Int), ((126 : Nat) : Int)) from rfl]
    rw [R 33 47 (by omega) (by omega), R 58 64 (by omega) (by omega), R 91 96 (by omega) (by omega), R 123 126 (by omega) (by omega), R2 33 126 (by omega) (by omega)]
    have := O [rangeP 33 47, rangeP 58 64, rangeP 91 96, rangeP 123 126] (by decide)
    simp only [List.map] at this
    simp only [ob_s]
    rw [this, ref02_Class_cut hn]
    exact class_pair (by decide +kernel) _ _ rfl rfl
  simp only [br_f, cond_false]
  exact ⟨by rw [wd_none], fun _ => false, by rw [bx_none]⟩
end Go.Dec
