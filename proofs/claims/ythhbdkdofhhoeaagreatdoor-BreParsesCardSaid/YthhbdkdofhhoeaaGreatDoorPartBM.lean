/- Part of a proof over this seat: a library of my own, and what it says of this seat. No statement is proved here. -/
import Derived.Test.YthhbdkdofhhoeaaGreatDoorPartBB
import Derived.Test.YthhbdkdofhhoeaaGreatDoorPartAS
namespace Go.Dec
theorem chk_of {ρ : Type} {b : Bool} (h : b = true) (x : Option ρ) : chk b x = x := by subst h; rfl
theorem br_of {ρ : Type} {b : Bool} (h : b = true) (x y : Option ρ) : br b x y = x := by subst h; rfl
theorem br_not {ρ : Type} {b : Bool} (h : b = false) (x y : Option ρ) : br b x y = y := by subst h; rfl
@[simp] theorem ob2_l {α γ ρ : Type} (x : α) (k : α → Option ρ) (k' : γ → Option ρ) : ob2 (some (.inl x)) k k' = k x := rfl
@[simp] theorem ob2_r {α γ ρ : Type} (x : γ) (k : α → Option ρ) (k' : γ → Option ρ) : ob2 (some (.inr x)) k k' = k' x := rfl
theorem jn_e {ρ α : Type} (f : α → Option ρ) (x : α) : jn f x = f x := rfl
theorem fix_up {ρ α : Type} {B : (α → Option ρ) → α → Option ρ} (st : Nat → α) {N : Nat} {r : Option ρ}
    (h1 : ∀ i, i < N → ∀ g, B g (st i) = g (st (i + 1))) (h2 : ∀ g, B g (st N) = r) : ∀ k i n, i + k = N → k < n → fix B n (st i) = r := by
  intro k
  induction k with
  | zero => intro i n hi hn; rw [fix_pos hn]; have : i = N := by omega
            subst this; exact h2 _
  | succ k ih => intro i n hi hn; rw [fix_pos (by omega), h1 i (by omega)]; exact ih (i + 1) (n - 1) (by omega) (by omega)
theorem fix_upL {ρ α : Type} {B : (α → Option ρ) → α → Option ρ} (st : Nat → α) {lo N : Nat} {r : Option ρ}
    (h1 : ∀ i, lo ≤ i → i < N → ∀ g, B g (st i) = g (st (i + 1))) (h2 : ∀ g, B g (st N) = r) : ∀ k i n, i + k = N → lo ≤ i → k < n → fix B n (st i) = r := by
  intro k
  induction k with
  | zero => intro i n hi hl hn; rw [fix_pos hn]; have : i = N := by omega
            subst this; exact h2 _
  | succ k ih => intro i n hi hl hn; rw [fix_pos (by omega), h1 i hl (by omega)]; exact ih (i + 1) (n - 1) (by omega) (by omega) (by omega)
theorem all_lt {f : Nat → Bool} {n : Nat} (h : (List.range n).all f = true) {i : Nat} (hi : i < n) : f i = true := by
  rw [List.all_eq_true] at h; exact h i (by simpa using hi)
def bn : (Nat → Bool) → Nat → Nat
  | _, 0 => 0
  | f, k + 1 => (f 0).toNat + 2 * bn (fun i => f (i + 1)) k
theorem bn_tb : ∀ (k : Nat) (f : Nat → Bool) (j : Nat), (bn f k).testBit j = (decide (j < k) && f j)
  | 0, f, j => by simp [bn]
  | k + 1, f, j => by
    unfold bn
    cases j with
    | zero => simp; cases f 0 <;> simp <;> omega
    | succ j =>
      rw [Nat.testBit_succ]
      have h : ((f 0).toNat + 2 * bn (fun i => f (i + 1)) k) / 2 = bn (fun i => f (i + 1)) k := by cases f 0 <;> simp <;> omega
      rw [h, bn_tb k]; simp
theorem bn_lt : ∀ (k : Nat) (f : Nat → Bool), bn f k < 2 ^ k
  | 0, f => by simp [bn]
  | k + 1, f => by
    have := bn_lt k (fun i => f (i + 1))
    unfold bn
    cases f 0 <;> simp [Nat.pow_succ] <;> omega
theorem bn_congr : ∀ (k : Nat) {f g : Nat → Bool}, (∀ j, j < k → f j = g j) → bn f k = bn g k
  | 0, f, g, h => rfl
  | k + 1, f, g, h => by
    unfold bn
    rw [h 0 (by omega), bn_congr k (fun j hj => h (j + 1) (by omega))]
theorem bn_eq {x k : Nat} {f : Nat → Bool} (hx : x < 2 ^ k) (h : ∀ j, j < k → x.testBit j = f j) : x = bn f k := by
  apply Nat.eq_of_testBit_eq
  intro j
  rw [bn_tb]
  by_cases hj : j < k
  · simp [hj, h j hj]
  · simp only [hj, decide_false, Bool.false_and]
    exact Nat.testBit_lt_two_pow (Nat.lt_of_lt_of_le hx (Nat.pow_le_pow_right (by omega) (by omega)))
def wordN (p : Nat → Bool) (k : Nat) : Nat := bn (fun j => p (64 * k + j)) 64
def word (p : Nat → Bool) (k : Nat) : Int := (wordN p k : Nat)
def wd (p : Nat → Bool) : List Int := [word p 0, word p 1, word p 2, word p 3]
def bx (p : Nat → Bool) : List Bool := (List.range 256).map p
theorem wordN_lt (p : Nat → Bool) (k : Nat) : wordN p k < 2 ^ 64 := bn_lt _ _
theorem wordN_tb (p : Nat → Bool) (k j : Nat) : (wordN p k).testBit j = (decide (j < 64) && p (64 * k + j)) := bn_tb _ _ _
theorem wordN_eq {x k : Nat} {p : Nat → Bool} (hx : x < 2 ^ 64) (h : ∀ j, j < 64 → x.testBit j = p (64 * k + j)) : x = wordN p k := bn_eq hx h
theorem word_congr {p q : Nat → Bool} {k : Nat} (h : ∀ i, 64 * k ≤ i → i < 64 * k + 64 → p i = q i) : word p k = word q k := by
  unfold word wordN; rw [bn_congr 64 (fun j hj => h (64 * k + j) (by omega) (by omega))]
theorem wd_congr {p q : Nat → Bool} (h : ∀ i, i < 256 → p i = q i) : wd p = wd q := by
  unfold wd
  rw [word_congr (fun i _ _ => h i (by omega)), word_congr (k := 1) (fun i _ _ => h i (by omega)), word_congr (k := 2) (fun i _ _ => h i (by omega)), word_congr (k := 3) (fun i _ _ => h i (by omega))]
theorem bx_congr {p q : Nat → Bool} (h : ∀ i, i < 256 → p i = q i) : bx p = bx q := by
  unfold bx; apply List.map_congr_left; intro i hi; exact h i (by simpa using hi)
theorem word_inj {p q : Nat → Bool} {k : Nat} (h : word p k = word q k) {i : Nat} (h1 : 64 * k ≤ i) (h2 : i < 64 * k + 64) : p i = q i := by
  have h : wordN p k = wordN q k := by unfold word at h; omega
  have := congrArg (fun x => x.testBit (i - 64 * k)) h
  simp only [wordN_tb] at this
  rw [show 64 * k + (i - 64 * k) = i by omega] at this
  have h3 : i - 64 * k < 64 := by omega
  simpa [h3] using this
theorem wd_inj {p q : Nat → Bool} (h : wd p = wd q) {i : Nat} (hi : i < 256) : p i = q i := by
  simp only [wd, List.cons.injEq, and_true] at h
  obtain ⟨h0, h1, h2, h3⟩ := h
  by_cases a : i < 64
  · exact word_inj h0 (by omega) (by omega)
  · by_cases b : i < 128
    · exact word_inj h1 (by omega) (by omega)
    · by_cases c : i < 192
      · exact word_inj h2 (by omega) (by omega)
      · exact word_inj h3 (by omega) (by omega)
theorem bx_get {p : Nat → Bool} {i : Nat} (d : Bool) (hi : i < 256) : (bx p).getD i d = p i := by
  simp [bx, List.getD_eq_getElem?_getD, hi]
theorem bx_set {p : Nat → Bool} {i : Nat} (b : Bool) : (bx p).set i b = bx (fun j => if j = i then b else p j) := by
  apply List.ext_getElem?
  intro j
  by_cases hj : j < 256
  · simp only [bx, List.getElem?_set, List.length_map, List.length_range, List.getElem?_map]
    by_cases e : i = j
    · subst e; simp [hj]
    · simp [e, Ne.symm e, hj]
  · simp only [bx, List.getElem?_set, List.length_map, List.length_range, List.getElem?_map]
    simp [hj]
    omega
theorem wd_none : wd (fun _ => false) = [0, 0, 0, 0] := by decide +kernel
theorem bx_none : bx (fun _ => false) = List.replicate 256 false := by decide +kernel
theorem wrapN {x : Nat} (h : x < 2 ^ 64) : IntKind.u64.wrap ((x : Nat) : Int) = x := IntWalk.u64_in _ (by omega)
theorem bvN {x : Nat} (h : x < 2 ^ 64) : (BitVec.ofInt 64 ((x : Nat) : Int)).toNat = x := by
  rw [BitVec.toNat_ofInt]; omega
theorem ior {a b : Nat} (ha : a < 2 ^ 64) (hb : b < 2 ^ 64) : ibits .u64 .or (a : Int) (b : Int) = ((a ||| b : Nat) : Int) := by
  show IntKind.u64.wrap ((BitVec.ofInt 64 (a : Int) ||| BitVec.ofInt 64 (b : Int)).toNat : Int) = _
  rw [BitVec.toNat_or, bvN ha, bvN hb]
  exact wrapN (Nat.or_lt_two_pow ha hb)
theorem ixor {a b : Nat} (ha : a < 2 ^ 64) (hb : b < 2 ^ 64) : ibits .u64 .xor (a : Int) (b : Int) = ((a ^^^ b : Nat) : Int) := by
  show IntKind.u64.wrap ((BitVec.ofInt 64 (a : Int) ^^^ BitVec.ofInt 64 (b : Int)).toNat : Int) = _
  rw [BitVec.toNat_xor, bvN ha, bvN hb]
  exact wrapN (Nat.xor_lt_two_pow ha hb)
theorem word_or (p q : Nat → Bool) (k : Nat) : ibits .u64 .or (word p k) (word q k) = word (fun i => p i || q i) k := by
  unfold word
  rw [ior (wordN_lt _ _) (wordN_lt _ _), wordN_eq (p := fun i => p i || q i) (Nat.or_lt_two_pow (wordN_lt p k) (wordN_lt q k))]
  intro j hj
  simp [wordN_tb, hj]
theorem ones_tb (j : Nat) : (18446744073709551615 : Nat).testBit j = decide (j < 64) := by
  have := Nat.testBit_two_pow_sub_one 64 j
  simpa using this
theorem word_not (p : Nat → Bool) (k : Nat) : ibits .u64 .xor 18446744073709551615 (word p k) = word (fun i => !p i) k := by
  unfold word
  rw [show (18446744073709551615 : Int) = ((18446744073709551615 : Nat) : Int) from rfl]
  rw [ixor (by omega) (wordN_lt _ _), wordN_eq (p := fun i => !p i) (Nat.xor_lt_two_pow (by omega) (wordN_lt p k))]
  intro j hj
  simp [Nat.testBit_xor, ones_tb, wordN_tb, hj]
theorem wd_or1 (p : Nat → Bool) {i : Nat} (hi : i < 256) : (wd p).set (i / 64) (ibits .u64 .or ((wd p).getD (i / 64) 0) (((2 ^ (i % 64) : Nat)) : Int)) = wd (fun j => p j || decide (j = i)) := by
  have hb : 2 ^ (i % 64) < 2 ^ 64 := Nat.pow_lt_pow_right (by omega) (by omega)
  have hw : ∀ k, k = i / 64 → ibits .u64 .or (word p k) (((2 ^ (i % 64) : Nat)) : Int) = word (fun j => p j || decide (j = i)) k := by
    intro k hk
    unfold word
    rw [ior (wordN_lt _ _) hb, wordN_eq (p := fun j => p j || decide (j = i)) (Nat.or_lt_two_pow (wordN_lt p k) hb)]
    intro j hj
    simp only [Nat.testBit_or, wordN_tb, Nat.testBit_two_pow, hj, decide_true, Bool.true_and]
    congr 1
    apply decide_eq_decide.2
    omega
  have ho : ∀ k, k ≠ i / 64 → word p k = word (fun j => p j || decide (j = i)) k := by
    intro k hk
    apply word_congr
    intro j h1 h2
    have : j ≠ i := by omega
    simp [this]
  have hk : i / 64 = 0 ∨ i / 64 = 1 ∨ i / 64 = 2 ∨ i / 64 = 3 := by omega
  rcases hk with h | h | h | h <;> rw [h] <;> simp only [wd, List.getD_cons_zero, List.getD_cons_succ, List.set_cons_zero, List.set_cons_succ]
  · rw [hw 0 h.symm, ho 1 (by omega), ho 2 (by omega), ho 3 (by omega)]
  · rw [hw 1 h.symm, ho 0 (by omega), ho 2 (by omega), ho 3 (by omega)]
  · rw [hw 2 h.symm, ho 0 (by omega), ho 1 (by omega), ho 3 (by omega)]
  · rw [hw 3 h.symm, ho 0 (by omega), ho 1 (by omega), ho 2 (by omega)]
theorem sh_tab : ((List.range 256).all fun i => decide (ishr .i64 (i : Int) 6 = ((i / 64 : Nat) : Int)) && decide (ishl .u64 1 (ibits .i64 .and (i : Int) 63) = ((2 ^ (i % 64) : Nat) : Int)) && decide (0 ≤ ibits .i64 .and (i : Int) 63)
  && decide (ishr .u8 (i : Int) 6 = ((i / 64 : Nat) : Int)) && decide (ishl .u64 1 (ibits .u8 .and (i : Int) 63) = ((2 ^ (i % 64) : Nat) : Int)) && decide (0 ≤ ibits .u8 .and (i : Int) 63)) = true := by decide +kernel
theorem sh_i {i : Nat} (hi : i < 256) : ishr .i64 (i : Int) 6 = ((i / 64 : Nat) : Int) ∧ ishl .u64 1 (ibits .i64 .and (i : Int) 63) = ((2 ^ (i % 64) : Nat) : Int) ∧ 0 ≤ ibits .i64 .and (i : Int) 63 := by
  have := all_lt sh_tab hi
  simp only [Bool.and_eq_true, decide_eq_true_eq] at this
  exact ⟨this.1.1.1.1.1, this.1.1.1.1.2, this.1.1.1.2⟩
theorem sh_u {i : Nat} (hi : i < 256) : ishr .u8 (i : Int) 6 = ((i / 64 : Nat) : Int) ∧ ishl .u64 1 (ibits .u8 .and (i : Int) 63) = ((2 ^ (i % 64) : Nat) : Int) ∧ 0 ≤ ibits .u8 .and (i : Int) 63 := by
  have := all_lt sh_tab hi
  simp only [Bool.and_eq_true, decide_eq_true_eq] at this
  exact ⟨this.1.1.2, this.1.2, this.2⟩
theorem dflt_u64 : Ty.dflt (.int .u64) = (0 : Int) := rfl
def rangeP (a b : Nat) : Nat → Bool := fun i => decide (a ≤ i) && decide (i ≤ b)
theorem some_wd {p q : Nat → Bool} (h : ∀ i, i < 256 → p i = q i) : some (wd p) = some (wd q) := by rw [wd_congr h]
theorem some_bx {p q : Nat → Bool} (h : ∀ i, i < 256 → p i = q i) : some (bx p) = some (bx q) := by rw [bx_congr h]
theorem set_Range_eq {n a b : Nat} (hn : 300 ≤ n) (ha : a < 256) (hb : b < 256) : set_Range n ((a : Int), (b : Int)) = some (wd (rangeP a b)) := by
  unfold set_Range
  simp only
  rw [wrapI (by omega) (by omega)]
  by_cases hab : a ≤ b
  · have := fix_upL (lo := a) (B := set_Range_loop0 n) (r := some (wd (rangeP a b))) (N := b + 1) (fun i => ((b : Int), (i : Int), wd (fun j => decide (a ≤ j) && decide (j < i)), ()))
      (by
        intro i hlo hi g
        have hi2 : i < 256 := by omega
        obtain ⟨s1, s2, s3⟩ := sh_i hi2
        rw [set_Range_loop0]
        simp only
        have hc : i ≤ b := by omega
        rw [wrapI (by omega) (by omega), s1, s2]
        rw [br_of (by simp; omega), chk_of (by decide), chk_of (inB_t (by omega) (by omega)), chk_of (by simp; omega), chk_of (by simpa using s3), chk_of (inB_t (by omega) (by omega)), chk_of (by simp; omega)]
        rw [wrapI (by omega) (by omega), dflt_u64, Int.toNat_natCast, wd_or1 _ hi2]
        have : wd (fun j => (decide (a ≤ j) && decide (j < i)) || decide (j = i)) = wd (fun j => decide (a ≤ j) && decide (j < i + 1)) := by
          refine wd_congr fun j hj => ?_
          rw [Bool.eq_iff_iff]; simp; omega
        rw [this]; rfl)
      (by
        intro g
        rw [set_Range_loop0]
        simp only
        rw [br_not (by rw [wrapI (by omega) (by omega)]; simp; omega)]
        refine some_wd fun i hi => ?_
        simp only [rangeP]; rw [Bool.eq_iff_iff]; simp; omega)
      (b + 1 - a) a n (by omega) (by omega) (by omega)
    have e : wd (fun j => decide (a ≤ j) && decide (j < a)) = [0, 0, 0, 0] := by
      rw [← wd_none]; refine wd_congr fun j hj => ?_
      rw [Bool.eq_iff_iff]; simp
    simp only [e] at this
    exact this
  · rw [fix_pos (by omega), set_Range_loop0]
    simp only
    rw [br_not (by rw [wrapI (by omega) (by omega)]; simp; omega), ← wd_none]
    refine some_wd fun j hj => ?_
    simp only [rangeP]; rw [Bool.eq_iff_iff]; simp; omega
theorem set_Not_eq {n : Nat} (hn : 5 ≤ n) (p : Nat → Bool) : set_Not n (wd p) = some (wd fun i => !p i) := by
  obtain ⟨m, rfl⟩ : ∃ m, n = m + 5 := ⟨n - 5, by omega⟩
  have h := word_not p
  have e : wd (fun i => !p i) = [ibits .u64 .xor 18446744073709551615 (word p 0), ibits .u64 .xor 18446744073709551615 (word p 1), ibits .u64 .xor 18446744073709551615 (word p 2), ibits .u64 .xor 18446744073709551615 (word p 3)] := by rw [h, h, h, h]; rfl
  rw [e]
  rfl
theorem set_Or1_eq {n : Nat} (hn : 5 ≤ n) (g0 : List (List Int) × Int × Int × List Int × Unit → Option (List Int)) (l : List (List Int)) (c i : Int) (p q : Nat → Bool) :
    fix (set_Or_loop1 n g0) n (l, c, i, 0, wd p, wd q, ()) = g0 (l, c, IntKind.wrap .i64 (i + 1), wd (fun i => p i || q i), ()) := by
  obtain ⟨m, rfl⟩ : ∃ m, n = m + 5 := ⟨n - 5, by omega⟩
  have h := word_or p q
  have e : wd (fun i => p i || q i) = [ibits .u64 .or (word p 0) (word q 0), ibits .u64 .or (word p 1) (word q 1), ibits .u64 .or (word p 2) (word q 2), ibits .u64 .or (word p 3) (word q 3)] := by rw [h, h, h, h]; rfl
  rw [e]
  rfl
theorem set_Or_eq {n : Nat} (ps : List (Nat → Bool)) (hn : 5 ≤ n) (hl : ps.length < n) (hm : ps.length < 1000) : set_Or n (ps.map wd) = some (wd fun i => ps.any (· i)) := by
  unfold set_Or
  simp only [List.length_map]
  have := fix_up (B := set_Or_loop0 n) (r := some (wd fun i => ps.any (· i))) (N := ps.length) (fun i => (ps.map wd, (ps.length : Int), (i : Int), wd (fun j => (ps.take i).any (· j)), ()))
    (by
      intro i hi g
      rw [set_Or_loop0]
      simp only
      rw [br_of (by simp; omega), chk_of (inB_t (by omega) (by simp; omega))]
      have hg : getAt (Ty.dflt (.arr 4 (.int .u64))) (ps.map wd) (i : Int) = wd ps[i] := by
        simp [getAt, List.getD_eq_getElem?_getD, hi]
      rw [hg, set_Or1_eq hn, wrapI (by omega) (by omega)]
      have hw : wd (fun j => (ps.take i).any (· j) || ps[i] j) = wd (fun j => (ps.take (i + 1)).any (· j)) := by
        refine wd_congr fun j hj => ?_
        rw [List.take_succ_eq_append_getElem hi, List.any_append]; simp
      rw [hw]; rfl)
    (by
      intro g
      rw [set_Or_loop0]
      simp only
      rw [br_not (by simp)]
      simp)
    ps.length 0 n (by omega) hl
  simpa [wd_none] using this
def ofP (s : List UInt8) : Nat → Bool := fun i => s.any fun c => decide (c.toNat = i)
theorem getAt_nat {α : Type} {d : α} {s : List α} {i : Nat} (h : i < s.length) : getAt d s (i : Int) = s[i] := by
  simp [getAt, List.getD_eq_getElem?_getD, h]
theorem ofP_take {s : List UInt8} {i : Nat} (h : i < s.length) : ofP (s.take (i + 1)) = fun j => ofP (s.take i) j || decide (j = s[i].toNat) := by
  funext j
  simp only [ofP]
  rw [List.take_succ_eq_append_getElem h, List.any_append]
  simp [eq_comm]
theorem set_Of_eq {n : Nat} (s : List UInt8) (hl : s.length < n) (hm : s.length < 100000) : set_Of n s = some (wd (ofP s)) := by
  unfold set_Of
  simp only
  have := fix_up (B := set_Of_loop0 n) (r := some (wd (ofP s))) (N := s.length) (fun i => (s, (s.length : Int), (i : Int), wd (ofP (s.take i)), ()))
    (by
      intro i hi g
      have hc : s[i].toNat < 256 := s[i].toNat_lt
      obtain ⟨s1, s2, s3⟩ := sh_u hc
      rw [set_Of_loop0]
      simp only
      rw [getAt_nat hi, s1, s2]
      rw [br_of (by simp; omega), chk_of (inBn hi), chk_of (by decide), chk_of (inB_t (by omega) (by omega)), chk_of (by simp; omega), chk_of (inBn hi), chk_of (by simpa using s3), chk_of (inB_t (by omega) (by omega)), chk_of (by simp; omega)]
      rw [wrapI (by omega) (by omega), dflt_u64, Int.toNat_natCast, wd_or1 _ hc, ofP_take hi]
      rfl)
    (by
      intro g
      rw [set_Of_loop0]
      simp only
      rw [br_not (by simp)]
      simp)
    s.length 0 n (by omega) hl
  have e : wd (ofP (s.take 0)) = [0, 0, 0, 0] := by rw [← wd_none]; rfl
  simp only [e] at this
  simpa using this
theorem ref02_Range_eq {n a b : Nat} (hn : 300 ≤ n) (ha : a < 256) (hb : b < 256) : ref02_Range n ((a : Int), (b : Int)) = some (bx (rangeP a b)) := by
  unfold ref02_Range
  simp only
  rw [wrapI (by omega) (by omega)]
  by_cases hab : a ≤ b
  · have := fix_upL (lo := a) (B := ref02_Range_loop0 n) (r := some (bx (rangeP a b))) (N := b + 1) (fun i => ((b : Int), (i : Int), List.replicate 256 false, bx (fun j => decide (a ≤ j) && decide (j < i)), ()))
      (by
        intro i hlo hi g
        have hi2 : i < 256 := by omega
        rw [ref02_Range_loop0]
        simp only
        have hc : i ≤ b := by omega
        rw [wrapI (by omega) (by omega)]
        rw [br_of (by simp; omega), chk_of (inB_t (by omega) (by omega)), chk_of (by simp; omega)]
        rw [wrapI (by omega) (by omega), Int.toNat_natCast, bx_set]
        have : bx (fun j => if j = i then true else (decide (a ≤ j) && decide (j < i))) = bx (fun j => decide (a ≤ j) && decide (j < i + 1)) := by
          refine bx_congr fun j hj => ?_
          rw [Bool.eq_iff_iff]; split <;> simp <;> omega
        rw [this]; rfl)
      (by
        intro g
        rw [ref02_Range_loop0]
        simp only
        rw [br_not (by rw [wrapI (by omega) (by omega)]; simp; omega)]
        refine some_bx fun i hi => ?_
        simp only [rangeP]; rw [Bool.eq_iff_iff]; simp; omega)
      (b + 1 - a) a n (by omega) (by omega) (by omega)
    have e : bx (fun j => decide (a ≤ j) && decide (j < a)) = List.replicate 256 false := by
      rw [← bx_none]; refine bx_congr fun j hj => ?_
      rw [Bool.eq_iff_iff]; simp
    simp only [e] at this
    exact this
  · rw [fix_pos (by omega), ref02_Range_loop0]
    simp only
    rw [br_not (by rw [wrapI (by omega) (by omega)]; simp; omega), ← bx_none]
    refine some_bx fun j hj => ?_
    simp only [rangeP]; rw [Bool.eq_iff_iff]; simp; omega
theorem ref02_Not_eq {n : Nat} (hn : 300 ≤ n) (p : Nat → Bool) : ref02_Not n (bx p) = some (bx fun i => !p i) := by
  unfold ref02_Not
  simp only
  have := fix_up (B := ref02_Not_loop0 n) (r := some (bx fun i => !p i)) (N := 256) (fun i => ((i : Int), bx (fun j => if j < i then !p j else p j), List.replicate 256 false, ()))
    (by
      intro i hi g
      rw [ref02_Not_loop0]
      simp only
      rw [br_of (by simp; omega), chk_of (inB_t (by omega) (by omega)), chk_of (by simp; omega), chk_of (inB_t (by omega) (by omega)), chk_of (by simp; omega)]
      rw [wrapI (by omega) (by omega), Int.toNat_natCast, bx_get _ hi, bx_set]
      have : bx (fun j => if j = i then !(if i < i then !p i else p i) else if j < i then !p j else p j) = bx (fun j => if j < i + 1 then !p j else p j) := by
        refine bx_congr fun j hj => ?_
        by_cases e : j = i
        · subst e; simp
        · by_cases e2 : j < i
          · simp [e, e2, Nat.lt_succ_of_lt e2]
          · simp [e, e2, show ¬ j < i + 1 by omega]
      rw [this]; rfl)
    (by
      intro g
      rw [ref02_Not_loop0]
      simp only
      rw [br_not (by simp)]
      refine some_bx fun i hi => ?_
      simp [hi])
    256 0 n (by omega) (by omega)
  have e : bx (fun j => if j < 0 then !p j else p j) = bx p := bx_congr fun j hj => by simp
  rw [e] at this
  exact this
theorem ref02_Or_eq {n : Nat} (hn : 300 ≤ n) (p q : Nat → Bool) : ref02_Or n (bx p, bx q) = some (bx fun i => p i || q i) := by
  unfold ref02_Or
  simp only
  have := fix_up (B := ref02_Or_loop0 n) (r := some (bx fun i => p i || q i)) (N := 256) (fun i => ((i : Int), bx (fun j => if j < i then p j || q j else p j), bx q, List.replicate 256 false, ()))
    (by
      intro i hi g
      have key : ∀ b, b = (p i || q i) → (g (((i + 1 : Nat) : Int), bx (fun j => if j = i then b else if j < i then p j || q j else p j), bx q, List.replicate 256 false, ()) = g (((i + 1 : Nat) : Int), bx (fun j => if j < i + 1 then p j || q j else p j), bx q, List.replicate 256 false, ())) := by
        intro b hb
        have : bx (fun j => if j = i then b else if j < i then p j || q j else p j) = bx (fun j => if j < i + 1 then p j || q j else p j) := by
          refine bx_congr fun j hj => ?_
          by_cases e : j = i
          · subst e; simp [hb]
          · by_cases e2 : j < i
            · simp [e, e2, Nat.lt_succ_of_lt e2]
            · simp [e, e2, show ¬ j < i + 1 by omega]
        rw [this]
      rw [ref02_Or_loop0]
      simp only
      rw [br_of (by simp; omega), chk_of (inB_t (by omega) (by omega)), chk_of (by simp; omega), chk_of (inB_t (by omega) (by omega)), chk_of (by simp; omega)]
      rw [wrapI (by omega) (by omega), Int.toNat_natCast, bx_get _ hi, bx_get _ hi, bx_set, bx_set, show (i : Int) + 1 = ((i + 1 : Nat) : Int) from rfl]
      simp only [Nat.lt_irrefl, if_false]
      cases hp : p i
      · rw [br_not rfl, chk_of (inB_t (by omega) (by omega)), chk_of (decide_eq_true hi), chk_of (inB_t (by omega) (by omega)), chk_of (decide_eq_true hi)]; rw [key (q i) (by rw [hp]; rfl)]
      · rw [br_of rfl]; exact key true (by rw [hp]; rfl))
    (by
      intro g
      rw [ref02_Or_loop0]
      simp only
      rw [br_not (by simp)]
      refine some_bx fun i hi => ?_
      simp [hi])
    256 0 n (by omega) (by omega)
  have e : bx (fun j => if j < 0 then p j || q j else p j) = bx p := bx_congr fun j hj => by simp
  rw [e] at this
  exact this
theorem ref02_Of_eq {n : Nat} (s : List UInt8) (hl : s.length < n) (hm : s.length < 100000) : ref02_Of n s = some (bx (ofP s)) := by
  unfold ref02_Of
  simp only
  have := fix_up (B := ref02_Of_loop0 n) (r := some (bx (ofP s))) (N := s.length) (fun i => (s, (i : Int), List.replicate 256 false, bx (ofP (s.take i)), ()))
    (by
      intro i hi g
      have hc : s[i].toNat < 256 := s[i].toNat_lt
      rw [ref02_Of_loop0]
      simp only
      rw [getAt_nat hi]
      rw [br_of (by simp; omega), chk_of (inBn hi), chk_of (inB_t (by omega) (by omega)), chk_of (by simp; omega)]
      rw [wrapI (by omega) (by omega), Int.toNat_natCast, bx_set, ofP_take hi]
      have : bx (fun j => if j = s[i].toNat then true else ofP (s.take i) j) = bx (fun j => ofP (s.take i) j || decide (j = s[i].toNat)) := by
        refine bx_congr fun j hj => ?_
        by_cases e : j = s[i].toNat
        · rw [if_pos e]; simp [e]
        · rw [if_neg e]; simp [e]
      rw [this]; rfl)
    (by
      intro g
      rw [ref02_Of_loop0]
      simp only
      rw [br_not (by simp)]
      simp)
    s.length 0 n (by omega) hl
  have e : bx (ofP (s.take 0)) = List.replicate 256 false := by rw [← bx_none]; rfl
  simp only [e] at this
  exact this
def bytesP (p : Nat → Bool) : List UInt8 := ((List.range 256).filter p).map UInt8.ofNat
theorem ref02_Bytes_eq {n : Nat} (hn : 300 ≤ n) (p : Nat → Bool) : ref02_Bytes n (bx p) = some (bytesP p) := by
  unfold ref02_Bytes
  simp only
  have := fix_up (B := ref02_Bytes_loop0 n) (r := some (bytesP p)) (N := 256) (fun i => ((i : Int), bx p, ((List.range i).filter p).map (fun j => ((j : Nat) : Int)), ()))
    (by
      intro i hi g
      have hle : ((List.range i).filter p).length ≤ i := by have := List.length_filter_le p (List.range i); simpa using this
      rw [ref02_Bytes_loop0]
      simp only
      rw [br_of (by simp; omega), chk_of (inB_t (by omega) (by omega)), chk_of (by simp; omega)]
      rw [wrapI (by omega) (by omega), Int.toNat_natCast, bx_get _ hi, show (i : Int) + 1 = ((i + 1 : Nat) : Int) from rfl, IntWalk.u8_in _ (by omega), List.range_succ]
      cases hp : p i
      · rw [br_not rfl]; simp [hp]
      · rw [br_of rfl, chk_of (by simp [room]; omega)]; simp [hp])
    (by
      intro g
      rw [ref02_Bytes_loop0]
      simp only
      rw [br_not (by simp)]
      simp [bytesToS, bytesP])
    256 0 n (by omega) (by omega)
  exact this
theorem ref02_Size_eq {n : Nat} (hn : 300 ≤ n) (p : Nat → Bool) : ref02_Size n (bx p) = some ((bytesP p).length : Int) := by
  unfold ref02_Size
  simp only
  rw [ref02_Bytes_eq hn]; rfl
theorem bytesP_none {p : Nat → Bool} : (bytesP p).length = 0 ↔ ∀ i, i < 256 → p i = false := by
  simp [bytesP, List.filter_eq_nil_iff]
theorem wd_nil {p : Nat → Bool} : wd p = [0, 0, 0, 0] ↔ ∀ i, i < 256 → p i = false := by
  rw [← wd_none]
  exact ⟨fun h i hi => wd_inj h hi, fun h => wd_congr h⟩
theorem beqW {p q : Nat → Bool} : Ty.beq (.arr 4 (.int .u64)) (wd p) (wd q) = true ↔ wd p = wd q := beq_iff rfl
def vN (p : Nat → Bool) (i k : Nat) : Nat := bn (fun j => p (max i (64 * k) + j)) (64 * (k + 1) - max i (64 * k))
def vW (p : Nat → Bool) (i : Nat) : List Int := [((vN p i 0 : Nat) : Int), ((vN p i 1 : Nat) : Int), ((vN p i 2 : Nat) : Int), ((vN p i 3 : Nat) : Int)]
theorem vN_lt (p : Nat → Bool) (i k : Nat) : vN p i k < 2 ^ 64 := by
  unfold vN
  exact Nat.lt_of_lt_of_le (bn_lt _ _) (Nat.pow_le_pow_right (by omega) (by omega))
theorem vN_step (p : Nat → Bool) {i k : Nat} (h : i / 64 = k) : vN p i k = (p i).toNat + 2 * vN p (i + 1) k := by
  unfold vN
  have h1 : max i (64 * k) = i := by omega
  have h2 : max (i + 1) (64 * k) = i + 1 := by omega
  rw [h1, h2, show 64 * (k + 1) - i = (64 * (k + 1) - (i + 1)) + 1 by omega]
  rw [bn]
  congr 2
  apply bn_congr
  intro j hj
  show p (i + (j + 1)) = p (i + 1 + j)
  congr 1; omega
theorem vN_other (p : Nat → Bool) {i k : Nat} (h : i / 64 ≠ k) : vN p (i + 1) k = vN p i k := by
  unfold vN
  by_cases h1 : i < 64 * k
  · have h1' : max i (64 * k) = 64 * k := by omega
    have h2 : max (i + 1) (64 * k) = 64 * k := by omega
    rw [h1', h2]
  · have h3 : 64 * (k + 1) - max i (64 * k) = 0 := by omega
    have h4 : 64 * (k + 1) - max (i + 1) (64 * k) = 0 := by omega
    rw [h3, h4]; rfl
theorem vW_zero (p : Nat → Bool) : vW p 0 = wd p := by
  unfold vW wd word wordN vN
  simp [show ∀ k, max 0 (64 * k) = 64 * k by omega]
theorem vW_set (p : Nat → Bool) {i : Nat} (hi : i < 256) : (vW p (i + 1)).set (i / 64) ((vN p i (i / 64) : Nat) : Int) = vW p i := by
  have hk : i / 64 = 0 ∨ i / 64 = 1 ∨ i / 64 = 2 ∨ i / 64 = 3 := by omega
  have ho : ∀ k, i / 64 ≠ k → vN p (i + 1) k = vN p i k := fun k h => vN_other p h
  rcases hk with h | h | h | h <;> rw [h] <;> simp only [vW, List.set_cons_zero, List.set_cons_succ]
  · rw [ho 1 (by omega), ho 2 (by omega), ho 3 (by omega)]
  · rw [ho 0 (by omega), ho 2 (by omega), ho 3 (by omega)]
  · rw [ho 0 (by omega), ho 1 (by omega), ho 3 (by omega)]
  · rw [ho 0 (by omega), ho 1 (by omega), ho 2 (by omega)]
theorem vW_get (p : Nat → Bool) {i k : Nat} (hk : k < 4) : (vW p i).getD k 0 = ((vN p i k : Nat) : Int) := by
  have : k = 0 ∨ k = 1 ∨ k = 2 ∨ k = 3 := by omega
  rcases this with rfl | rfl | rfl | rfl <;> rfl
theorem vW_len (p : Nat → Bool) (i : Nat) : (vW p i).length = 4 := rfl
theorem ref02_Words_eq {n : Nat} (hn : 300 ≤ n) (p : Nat → Bool) : ref02_Words n (bx p) = some (wd p) := by
  unfold ref02_Words
  simp only
  have := fix_up (B := ref02_Words_loop0 n) (r := some (wd p)) (N := 256) (fun i => (255 - (i : Int), bx p, [0, 0, 0, 0], vW p (256 - i), ()))
    (by
      intro i hi g
      obtain ⟨j, hj⟩ : ∃ j, j = 255 - i := ⟨_, rfl⟩
      have e1 : (255 : Int) - (i : Int) = (j : Int) := by omega
      have e2 : 256 - i = j + 1 := by omega
      have e3 : (255 : Int) - ((i + 1 : Nat) : Int) = (j : Int) - 1 := by omega
      have e4 : 256 - (i + 1) = j := by omega
      have hj2 : j < 256 := by omega
      have hk : j / 64 < 4 := by omega
      have hv : IntKind.wrap .i64 (Int.tdiv (j : Int) 64) = ((j / 64 : Nat) : Int) := by
        rw [IntWalk.i64_quo _ _ (by omega)]; rfl
      have hs := vN_step p (i := j) rfl
      have hlt := vN_lt p j (j / 64)
      rw [e1, e2, e3, e4, ref02_Words_loop0]
      simp only
      rw [br_of (by simp), chk_of (by decide), chk_of (by decide), hv, chk_of (inB_t (by omega) (by omega)), chk_of (by simp; omega), chk_of (inB_t (by omega) (by omega)), chk_of (by simp; omega), chk_of (inB_t (by omega) (by omega)), chk_of (by simp; omega)]
      rw [Int.toNat_natCast, Int.toNat_natCast, dflt_u64, vW_get p hk, bx_get _ hj2, wrapI (by omega) (by omega)]
      rw [← vW_set p hj2]
      cases hp : p j
      · rw [br_not rfl]
        rw [hp] at hs
        rw [IntWalk.u64_in _ (by simp at hs; omega)]
        have : ((vN p (j + 1) (j / 64) : Nat) : Int) * 2 = ((vN p j (j / 64) : Nat) : Int) := by simp at hs; omega
        rw [this]
      · rw [br_of rfl, chk_of (by decide), chk_of (inB_t (by omega) (by omega)), chk_of (by simp; omega), chk_of (inB_t (by omega) (by omega)), chk_of (by simp; omega)]
        rw [hp] at hs
        simp only [Bool.toNat_true] at hs
        rw [IntWalk.u64_in _ (by omega)]
        have hg : ∀ y, ((vW p (j + 1)).set (j / 64) y).getD (j / 64) 0 = y := by
          intro y
          rw [List.getD_eq_getElem?_getD, List.getElem?_set_self (by rw [vW_len]; exact hk)]; rfl
        rw [hg, IntWalk.u64_in _ (by omega), List.set_set]
        have : ((vN p (j + 1) (j / 64) : Nat) : Int) * 2 + 1 = ((vN p j (j / 64) : Nat) : Int) := by omega
        rw [this])
    (by
      intro g
      rw [ref02_Words_loop0]
      simp only
      rw [br_not (by simp)]
      rw [show 256 - 256 = 0 from rfl, vW_zero])
    256 0 n (by omega) (by omega)
  exact this
theorem ref02_Class_cut {n : Nat} (hn : 300 ≤ n) (p q : Nat → Bool) : fix (ref02_Class_loop0 n) n (0, List.replicate 256 false, bx p, bx q, ()) = some (bx (fun i => q i && !p i), true) := by
  have := fix_up (B := ref02_Class_loop0 n) (r := some (bx (fun i => q i && !p i), true)) (N := 256) (fun i => ((i : Int), List.replicate 256 false, bx p, bx (fun j => if j < i then q j && !p j else q j), ()))
    (by
      intro i hi g
      have key : ∀ b, b = (q i && !p i) → (g (((i + 1 : Nat) : Int), List.replicate 256 false, bx p, bx (fun j => if j = i then b else if j < i then q j && !p j else q j), ()) = g (((i + 1 : Nat) : Int), List.replicate 256 false, bx p, bx (fun j => if j < i + 1 then q j && !p j else q j), ())) := by
        intro b hb
        have : bx (fun j => if j = i then b else if j < i then q j && !p j else q j) = bx (fun j => if j < i + 1 then q j && !p j else q j) := by
          refine bx_congr fun j hj => ?_
          by_cases e : j = i
          · subst e; simp [hb]
          · by_cases e2 : j < i
            · simp [e, e2, Nat.lt_succ_of_lt e2]
            · simp [e, e2, show ¬ j < i + 1 by omega]
        rw [this]
      rw [ref02_Class_loop0]
      simp only
      rw [br_of (by simp; omega), chk_of (inB_t (by omega) (by omega)), chk_of (by simp; omega)]
      rw [wrapI (by omega) (by omega), Int.toNat_natCast, bx_get _ hi, bx_get _ hi, bx_set, bx_set, show (i : Int) + 1 = ((i + 1 : Nat) : Int) from rfl]
      simp only [Nat.lt_irrefl, if_false]
      cases hq : q i
      · rw [br_not rfl, chk_of (inB_t (by omega) (by omega)), chk_of (decide_eq_true hi)]; exact key false (by rw [hq]; rfl)
      · rw [br_of rfl, chk_of (inB_t (by omega) (by omega)), chk_of (decide_eq_true hi), chk_of (inB_t (by omega) (by omega)), chk_of (decide_eq_true hi)]; exact key (!p i) (by rw [hq]; rfl))
    (by
      intro g
      rw [ref02_Class_loop0]
      simp only
      rw [br_not (by simp)]
      have e : bx (fun j => if j < 256 then q j && !p j else q j) = bx (fun i => q i && !p i) := bx_congr fun j hj => by simp [hj]
      rw [e])
    256 0 n (by omega) (by omega)
  have e : bx (fun j => if j < 0 then q j && !p j else q j) = bx q := bx_congr fun j hj => by simp
  rw [e] at this
  exact this
def anyP (ps : List (Nat → Bool)) : Nat → Bool := fun i => ps.any (· i)
def classP (s : List UInt8) : Option (Nat → Bool) :=
  bif s == [117, 112, 112, 101, 114] then some (rangeP 65 90)
  else bif s == [108, 111, 119, 101, 114] then some (rangeP 97 122)
  else bif s == [97, 108, 112, 104, 97] then some (anyP [rangeP 65 90, rangeP 97 122])
  else bif s == [100, 105, 103, 105, 116] then some (rangeP 48 57)
  else bif s == [97, 108, 110, 117, 109] then some (anyP [rangeP 65 90, rangeP 97 122, rangeP 48 57])
  else bif s == [120, 100, 105, 103, 105, 116] then some (anyP [rangeP 48 57, rangeP 65 70, rangeP 97 102])
  else bif s == [98, 108, 97, 110, 107] then some (ofP [32, 9])
  else bif s == [115, 112, 97, 99, 101] then some (ofP [32, 9, 10, 11, 12, 13])
  else bif s == [99, 110, 116, 114, 108] then some (anyP [rangeP 0 31, ofP [127]])
  else bif s == [103, 114, 97, 112, 104] then some (rangeP 33 126)
  else bif s == [112, 114, 105, 110, 116] then some (rangeP 32 126)
  else bif s == [112, 117, 110, 99, 116] then some (anyP [rangeP 33 47, rangeP 58 64, rangeP 91 96, rangeP 123 126])
  else none
def ClassOK (o : Option (Nat → Bool)) (a : Option (List Int × Bool)) (b : Option (List Bool × Bool)) : Prop := match o with
  | some p => a = some (wd p, true) ∧ b = some (bx p, true)
  | none => a = some (wd fun _ => false, false) ∧ ∃ p, b = some (bx p, false)
theorem class_pair {p q : Nat → Bool} (h : ((List.range 256).all fun i => p i == q i) = true) (o : Option (List Int × Bool)) (o2 : Option (List Bool × Bool)) (h1 : o = some (wd p, true)) (h2 : o2 = some (bx q, true)) :
    ClassOK (some p) o o2 := by
  refine ⟨h1, ?_⟩
  rw [h2]
  have : bx q = bx p := bx_congr fun i hi => by have := all_lt h hi; simp at this; exact this.symm
  rw [this]
theorem class_both {n : Nat} (hn : 300 ≤ n) (s : List UInt8) : ClassOK (classP s) (set_Class n s) (ref02_Class n s) := by
  have R : ∀ a b : Nat, a < 256 → b < 256 → set_Range n ((a : Int), (b : Int)) = some (wd (rangeP a b)) := fun a b ha hb => set_Range_eq hn ha hb
  have R2 : ∀ a b : Nat, a < 256 → b < 256 → ref02_Range n ((a : Int), (b : Int)) = some (bx (rangeP a b)) := fun a b ha hb => ref02_Range_eq hn ha hb
  have O : ∀ ps : List (Nat → Bool), ps.length < 10 → set_Or n (ps.map wd) = some (wd fun i => ps.any (· i)) := fun ps h => set_Or_eq ps (by omega) (by omega) (by omega)
  have O2 := fun p q => ref02_Or_eq hn p q
  have F : ∀ s : List UInt8, s.length < 10 → set_Of n s = some (wd (ofP s)) := fun s h => set_Of_eq s (by omega) (by omega)
  have F2 : ∀ s : List UInt8, s.length < 10 → ref02_Of n s = some (bx (ofP s)) := fun s h => ref02_Of_eq s (by omega) (by omega)
  unfold set_Class ref02_Class classP
  simp only
  rw [show ((65 : Int), (90 : Int)) = (((65 : Nat) : Int), ((90 : Nat) : Int)) from rfl, show ((97 : Int), (122 : Int)) = (((97 : Nat) : Int), ((122 : Nat) : Int)) from rfl, show ((48 : Int), (57 : Int)) = (((48 : Nat) : Int), ((57 : Nat) : Int)) from rfl]
  rw [R 65 90 (by omega) (by omega), R 97 122 (by omega) (by omega), R 48 57 (by omega) (by omega), R2 65 90 (by omega) (by omega), R2 97 122 (by omega) (by omega), R2 48 57 (by omega) (by omega)]
  simp only [ob_s]
  rw [O2]
  simp only [ob_s]
  rw [O2]
  simp only [ob_s]
  cases s == [117, 112, 112, 101, 114]
  case true => exact class_pair (by decide +kernel) _ _ rfl rfl
  simp only [br_f, cond_false]
  cases s == [108, 111, 119, 101, 114]
  case true => exact class_pair (by decide +kernel) _ _ rfl rfl
  simp only [br_f, cond_false]
  cases s == [97, 108, 112, 104, 97]
  case true =>
    have := O [rangeP 65 90, rangeP 97 122] (by decide)
    simp only [List.map] at this
    simp only [br_t, this, ob_s]
    exact class_pair (by decide +kernel) _ _ rfl rfl
  simp only [br_f, cond_false]
  cases s == [100, 105, 103, 105, 116]
  case true => exact class_pair (by decide +kernel) _ _ rfl rfl
  simp only [br_f, cond_false]
  cases s == [97, 108, 110, 117, 109]
  case true =>
    have := O [rangeP 65 90, rangeP 97 122, rangeP 48 57] (by decide)
    simp only [List.map] at this
    simp only [br_t, this, ob_s]
    exact class_pair (by decide +kernel) _ _ rfl rfl
  simp only [br_f, cond_false]
  cases s == [120, 100, 105, 103, 105, 116]
  case true =>
    have := O [rangeP 48 57, rangeP 65 70, rangeP 97 102] (by decide)
    simp only [List.map] at this
    simp only [br_t]
    rw [show ((65 : Int), (70 : Int)) = (((65 : Nat) : Int), ((70 : Nat) : Int)) from rfl, show ((97 : Int), (102 : Int)) = (((97 : Nat) : Int), ((102 : Nat) : Int)) from rfl]
    rw [R 65 70 (by omega) (by omega), R 97 102 (by omega) (by omega), R2 65 70 (by omega) (by omega), R2 97 102 (by omega) (by omega)]
    simp only [ob_s]
    rw [O2, this]
    simp only [ob_s]
    rw [O2]
    exact class_pair (by decide +kernel) _ _ rfl rfl
  simp only [br_f, cond_false]
  cases s == [98, 108, 97, 110, 107]
  case true =>
    simp only [br_t]
    rw [F _ (by decide), F2 _ (by decide)]
    exact class_pair (by decide +kernel) _ _ rfl rfl
  simp only [br_f, cond_false]
  cases s == [115, 112, 97, 99, 101]
  case true =>
    simp only [br_t]
    rw [show ((9 : Int), (13 : Int)) = (((9 : Nat) : Int), ((13 : Nat) : Int)) from rfl]
    rw [F _ (by decide), F2 _ (by decide), R2 9 13 (by omega) (by omega)]
    simp only [ob_s]
    rw [O2]
    exact class_pair (by decide +kernel) _ _ rfl rfl
  simp only [br_f, cond_false]
  cases s == [99, 110, 116, 114, 108]
  case true =>
    simp only [br_t]
    rw [show ((0 : Int), (31 : Int)) = (((0 : Nat) : Int), ((31 : Nat) : Int)) from rfl, show ((127 : Int), (127 : Int)) = (((127 : Nat) : Int), ((127 : Nat) : Int)) from rfl]
    rw [R 0 31 (by omega) (by omega), R2 0 31 (by omega) (by omega), R2 127 127 (by omega) (by omega), F _ (by decide)]
    have := O [rangeP 0 31, ofP [127]] (by decide)
    simp only [List.map] at this
    simp only [ob_s]
    rw [O2, this]
    exact class_pair (by decide +kernel) _ _ rfl rfl
  simp only [br_f, cond_false]
  cases s == [103, 114, 97, 112, 104]
  case true =>
    simp only [br_t]
    rw [show ((33 : Int), (126 : Int)) = (((33 : Nat) : Int), ((126 : Nat) : Int)) from rfl]
    rw [R 33 126 (by omega) (by omega), R2 33 126 (by omega) (by omega)]
    exact class_pair (by decide +kernel) _ _ rfl rfl
  simp only [br_f, cond_false]
  cases s == [112, 114, 105, 110, 116]
  case true =>
    simp only [br_t]
    rw [show ((32 : Int), (126 : Int)) = (((32 : Nat) : Int), ((126 : Nat) : Int)) from rfl]
    rw [R 32 126 (by omega) (by omega), R2 32 126 (by omega) (by omega)]
    exact class_pair (by decide +kernel) _ _ rfl rfl
  simp only [br_f, cond_false]
  cases s == [112, 117, 110, 99, 116]
  case true =>
    simp only [br_t]
    rw [show ((33 : Int), (126 : Int)) = (((33 : Nat) : Int), ((126 : Nat) : Int)) from rfl, show ((33 : Int), (47 : Int)) = (((33 : Nat) : Int), ((47 : Nat) : Int)) from rfl, show ((58 : Int), (64 : Int)) = (((58 : Nat) : Int), ((64 : Nat) : Int)) from rfl, show ((91 : Int), (96 : Int)) = (((91 : Nat) : Int), ((96 : Nat) : Int)) from rfl, show ((123 : Int), (126 : Int)) = (((123 : Nat) : Int), ((126 : Nat) : Int)) from rfl]
    rw [R 33 47 (by omega) (by omega), R 58 64 (by omega) (by omega), R 91 96 (by omega) (by omega), R 123 126 (by omega) (by omega), R2 33 126 (by omega) (by omega)]
    have := O [rangeP 33 47, rangeP 58 64, rangeP 91 96, rangeP 123 126] (by decide)
    simp only [List.map] at this
    simp only [ob_s]
    rw [this, ref02_Class_cut hn]
    exact class_pair (by decide +kernel) _ _ rfl rfl
  simp only [br_f, cond_false]
  exact ⟨by rw [wd_none], fun _ => false, by rw [bx_none]⟩
end Go.Dec
namespace Go.Dec
theorem hasPrefix_eq {n : Nat} {r t : List UInt8} : strings_HasPrefix n (r, t) = some (t.isPrefixOf r) := by
  unfold strings_HasPrefix internal_stringslite_HasPrefix
  simp only
  by_cases h : t.length ≤ r.length
  · rw [br_of (by simp; omega), chk_of (by simp; omega)]
    simp only [ob_s, Int.toNat_natCast]
    congr 1
    rw [Bool.eq_iff_iff, List.isPrefixOf_iff_prefix, List.prefix_iff_eq_take, beq_iff_eq]
    exact eq_comm
  · rw [br_not (by simp; omega)]
    simp only [ob_s]
    congr 1
    symm
    rw [Bool.eq_false_iff, ne_eq, List.isPrefixOf_iff_prefix]
    intro hp
    have := hp.length_le
    omega
theorem list_ahead_eq {n : Nat} {s t : List UInt8} {i : Nat} (hi : i ≤ s.length) : bre_list_ahead n (t, s, (i : Int), ()) = some (t.isPrefixOf (s.drop i), s, (i : Int), ()) := by
  unfold bre_list_ahead
  simp only
  rw [chk_of (by simp; omega), hasPrefix_eq]; rfl
theorem pre_len {r t : List UInt8} (h : t.isPrefixOf r = true) : t.length ≤ r.length := by
  rw [List.isPrefixOf_iff_prefix] at h; exact h.length_le
theorem list_took_t {n : Nat} {s t : List UInt8} {i : Nat} (hi : i ≤ s.length) (hs : s.length < 1000000) (h : t.isPrefixOf (s.drop i) = true) : bre_list_took n (t, s, (i : Int), ()) = some (true, s, ((i + t.length : Nat) : Int), ()) := by
  have hl := pre_len h
  rw [List.length_drop] at hl
  unfold bre_list_took
  simp only
  rw [list_ahead_eq hi]
  simp only [ob_s, h, Bool.not_true, br_f]
  rw [wrapI (by omega) (by omega)]; rfl
theorem list_took_f {n : Nat} {s t : List UInt8} {i : Nat} (hi : i ≤ s.length) (h : t.isPrefixOf (s.drop i) = false) : bre_list_took n (t, s, (i : Int), ()) = some (false, s, (i : Int), ()) := by
  unfold bre_list_took
  simp only
  rw [list_ahead_eq hi]
  simp only [ob_s, h, Bool.not_false, br_t]
theorem eqI {c : UInt8} (k : UInt8) : ((c.toNat : Int) == (k.toNat : Int)) = (k == c) := by
  rw [Bool.eq_iff_iff, beq_iff_eq, beq_iff_eq, Int.ofNat_inj, UInt8.toNat_inj]; exact eq_comm
theorem getAt_drop {s : List UInt8} {i j : Nat} {d c : UInt8} (h : (s.drop i)[j]? = some c) : getAt d s ((i + j : Nat) : Int) = c := by
  rw [List.getElem?_drop] at h
  unfold getAt
  rw [Int.toNat_natCast, List.getD_eq_getElem?_getD, h]; rfl
theorem drop_next {s t : List UInt8} {i : Nat} {a : UInt8} (h : s.drop i = a :: t) : s.drop (i + 1) = t ∧ i < s.length := by
  refine ⟨?_, ?_⟩
  · rw [← List.drop_drop, h]; rfl
  · have := congrArg List.length h
    rw [List.length_drop, List.length_cons] at this; omega
theorem pre2 {r : List UInt8} {a b : UInt8} (h : [a, b].isPrefixOf r = true) : ∃ t, r = a :: b :: t := by
  rw [List.isPrefixOf_iff_prefix] at h
  obtain ⟨t, rfl⟩ := h
  exact ⟨t, rfl⟩
theorem pre1 {r : List UInt8} {a : UInt8} (h : [a].isPrefixOf r = true) : ∃ t, r = a :: t := by
  rw [List.isPrefixOf_iff_prefix] at h
  obtain ⟨t, rfl⟩ := h
  exact ⟨t, rfl⟩
def markS (x : UInt8) (b : Bool) : List UInt8 → Option (UInt8 × Nat × Bool)
  | _ :: _ :: c :: t => bif [x, 93].isPrefixOf t then some (c, 5, b) else none
  | _ => none
def elemS (first ends : Bool) (r : List UInt8) : Option (UInt8 × Nat × Bool) :=
  bif [91, 46].isPrefixOf r then markS 46 true r
  else bif [91, 61].isPrefixOf r then markS 61 false r
  else bif [92, 110].isPrefixOf r then some (10, 2, true)
  else bif [91, 58].isPrefixOf r then none
  else bif [93].isPrefixOf r && !first then none
  else bif [45].isPrefixOf r && !first && !ends && !([45, 93].isPrefixOf r) then none
  else match r with | [] => none | c :: _ => some (c, 1, true)
theorem markS_len {x : UInt8} {b : Bool} {c : UInt8} {k : Nat} {m : Bool} : ∀ {r : List UInt8}, markS x b r = some (c, k, m) → 1 ≤ k ∧ k ≤ r.length
  | [], h => absurd h (by simp [markS])
  | [_], h => absurd h (by simp [markS])
  | [_, _], h => absurd h (by simp [markS])
  | _ :: _ :: d :: t, h => by
    unfold markS at h
    cases hp : [x, 93].isPrefixOf t <;> simp only [hp, cond_true, cond_false] at h
    · exact absurd h (by simp)
    · have := pre_len hp
      simp only [List.length_cons, List.length_nil, Option.some.injEq, Prod.mk.injEq] at this h ⊢
      omega
theorem elemS_len {first ends : Bool} {r : List UInt8} {c : UInt8} {k : Nat} {m : Bool} (h : elemS first ends r = some (c, k, m)) : 1 ≤ k ∧ k ≤ r.length := by
  have mk : ∀ {x : UInt8} {b : Bool}, markS x b r = some (c, k, m) → 1 ≤ k ∧ k ≤ r.length := fun h => markS_len h
  unfold elemS at h
  cases h1 : [91, 46].isPrefixOf r <;> simp only [h1, cond_true, cond_false] at h
  · cases h2 : [91, 61].isPrefixOf r <;> simp only [h2, cond_true, cond_false] at h
    · cases h3 : [92, 110].isPrefixOf r <;> simp only [h3, cond_true, cond_false] at h
      · cases h4 : [91, 58].isPrefixOf r <;> simp only [h4, cond_true, cond_false] at h
        · cases h5 : [93].isPrefixOf r && !first <;> simp only [h5, cond_true, cond_false] at h
          · cases h6 : [45].isPrefixOf r && !first && !ends && !([45, 93].isPrefixOf r) <;> simp only [h6, cond_true, cond_false] at h
            · split at h
              · exact absurd h (by simp)
              · simp only [Option.some.injEq, Prod.mk.injEq, List.length_cons] at h ⊢
                omega
            · exact absurd h (by simp)
          · exact absurd h (by simp)
        · exact absurd h (by simp)
      · have := pre_len h3
        simp only [List.length_cons, List.length_nil, Option.some.injEq, Prod.mk.injEq] at this h
        omega
    · exact mk h
  · exact mk h
def ElemOK (s : List UInt8) (i : Nat) (o : Option (UInt8 × Nat × Bool)) (e : Option (Sum (Int × Bool × List UInt8 × Int × Unit) (Int × Int × List UInt8 × Int × Unit))) : Prop := match o with
  | some (c, k, m) => e = some (.inl ((c.toNat : Int), m, s, ((i + k : Nat) : Int), ()))
  | none => ∃ a, e = some (.inr (42, 0, s, a, ()))
theorem give_eq {n : Nat} {x : List UInt8 × Int × Unit} : bre_list_give n x = some (.inr (42, 0, x)) := rfl
theorem element_hit {n : Nat} {s : List UInt8} {i : Nat} {mk : UInt8} {t : List UInt8} (hi : i ≤ s.length) (hs : s.length < 1000000) (hr : s.drop i = 91 :: mk :: t) :
    ElemOK s i (markS mk ([mk] == [46]) (s.drop i))
      (br ((s.length : Int) == ((i + 2 : Nat) : Int)) (ob2 (bre_list_give n (s, ((i + 2 : Nat) : Int), ())) (fun y17 => none) (fun y17 => some (.inr (y17.1, y17.2.1, y17.2.2.1, y17.2.2.2.1, ()))))
        (chk ((decide (0 ≤ IntKind.wrap .i64 (((i + 2 : Nat) : Int) + 1)) && decide (IntKind.wrap .i64 (((i + 2 : Nat) : Int) + 1) ≤ (s.length : Int)))) (
                chk (decide (([mk] : List UInt8).length + ([93] : List UInt8).length ≤ maxStr)) (
                  ob (strings_HasPrefix n (s.drop (IntKind.wrap .i64 (((i + 2 : Nat) : Int) + 1)).toNat, [mk] ++ [93])) fun y19 =>
                  br (!y19) (
                    ob2 (bre_list_give n (s, ((i + 2 : Nat) : Int), ())) (fun y20 =>
                      none) (fun y20 =>
                      some (.inr (y20.1, y20.2.1, y20.2.2.1, y20.2.2.2.1, ())))) (
                    jn (bre_list_element_join0 n) ([mk], s, ((i + 2 : Nat) : Int), ())))))) := by
  obtain ⟨h1, h1'⟩ := drop_next hr
  obtain ⟨h2, h2'⟩ := drop_next h1
  have hlen : s.length = i + 2 + t.length := by
    have := congrArg List.length hr
    simp only [List.length_drop, List.length_cons] at this; omega
  rw [hr]
  cases t with
  | nil =>
    simp only [List.length_nil] at hlen
    rw [br_of (by simp; omega), give_eq]
    simp only [ob2_r, ElemOK, markS]
    exact ⟨_, rfl⟩
  | cons c t =>
    simp only [List.length_cons] at hlen
    obtain ⟨h3, h3'⟩ := drop_next h2
    rw [br_not (by simp; omega)]
    have hw : IntKind.wrap .i64 (((i + 2 : Nat) : Int) + 1) = ((i + 1 + 1 + 1 : Nat) : Int) := by rw [wrapI (by omega) (by omega)]; omega
    rw [hw, chk_of (by simp; omega), chk_of (by simp [maxStr]), Int.toNat_natCast, h3, hasPrefix_eq]
    simp only [ob_s, List.cons_append, List.nil_append]
    cases hp : [mk, 93].isPrefixOf t
    · simp only [Bool.not_false, br_t, give_eq, ob2_r, cond_false, ElemOK, markS, hp]
      exact ⟨_, rfl⟩
    · simp only [Bool.not_true, br_f, cond_true, ElemOK, jn_e, bre_list_element_join0, markS, hp]
      have := pre_len hp
      simp only [List.length_cons, List.length_nil] at this
      rw [chk_of (inBn (by omega)), wrapI (by omega) (by omega), show ((i + 2 : Nat) : Int) = ((i + 2 : Nat) : Int) from rfl, getAt_drop (c := c) (by rw [hr]; rfl)]
      rfl
theorem element_eq {n : Nat} {s : List UInt8} {i : Nat} {first ends : Bool} (hn : 3 ≤ n) (hi : i ≤ s.length) (hs : s.length < 1000000) : ElemOK s i (elemS first ends (s.drop i)) (bre_list_element n (first, ends, s, (i : Int), ())) := by
  obtain ⟨m, rfl⟩ : ∃ m, n = m + 3 := ⟨n - 3, by omega⟩
  have hlen : (s.drop i).length = s.length - i := List.length_drop
  have hin : ∀ {t : List UInt8}, t.isPrefixOf (s.drop i) = true → i + t.length ≤ s.length := fun h => by have := pre_len h; omega
  unfold bre_list_element elemS
  simp only
  rw [fix_succ, bre_list_element_loop0]
  simp only
  rw [br_of (by rfl), chk_of (by rfl), chk_of (by rfl), chk_of (by rfl)]
  rw [show [91] ++ List.getD [[46], [61]] (0 + Int.toNat 0) (Ty.dflt .str) = ([91, 46] : List UInt8) from rfl, show List.getD [[46], [61]] (0 + Int.toNat 0) (Ty.dflt .str) = ([46] : List UInt8) from rfl]
  cases h1 : [91, 46].isPrefixOf (s.drop i)
  case true =>
    obtain ⟨t, ht⟩ := pre2 h1
    rw [list_took_t hi hs h1]
    simp only [ob_s, Bool.not_true, br_f, cond_true]
    exact element_hit hi hs ht
  rw [list_took_f hi h1]
  simp only [ob_s, Bool.not_false, br_t, cond_false]
  rw [show IntKind.wrap .i64 (0 + 1) = 1 from rfl, fix_succ, bre_list_element_loop0]
  simp only
  rw [br_of (by rfl), chk_of (by rfl), chk_of (by rfl), chk_of (by rfl)]
  rw [show [91] ++ List.getD [[46], [61]] (0 + Int.toNat 1) (Ty.dflt .str) = ([91, 61] : List UInt8) from rfl, show List.getD [[46], [61]] (0 + Int.toNat 1) (Ty.dflt .str) = ([61] : List UInt8) from rfl]
  cases h2 : [91, 61].isPrefixOf (s.drop i)
  case true =>
    obtain ⟨t, ht⟩ := pre2 h2
    rw [list_took_t hi hs h2]
    simp only [ob_s, Bool.not_true, br_f, cond_true]
    exact element_hit hi hs ht
  rw [list_took_f hi h2]
  simp only [ob_s, Bool.not_false, br_t, cond_false]
  rw [show IntKind.wrap .i64 (1 + 1) = 2 from rfl, fix_succ, bre_list_element_loop0]
  simp only
  rw [br_not (by rfl)]
  cases h3 : [92, 110].isPrefixOf (s.drop i)
  case true =>
    rw [list_took_t hi hs h3]
    simp only [ob_s, br_t, cond_true, ElemOK]
    rfl
  rw [list_took_f hi h3]
  have join2 : ∀ {c : UInt8} {t : List UInt8}, s.drop i = c :: t → bre_list_element_join2 (m + 3) (s, (i : Int), ()) = some (.inl ((c.toNat : Int), true, s, ((i + 1 : Nat) : Int), ())) := by
    intro c t hr
    obtain ⟨_, h⟩ := drop_next hr
    unfold bre_list_element_join2
    simp only
    have e : IntKind.wrap .i64 (IntKind.wrap .i64 ((i : Int) + 1) - 1) = ((i + 0 : Nat) : Int) := by
      rw [wrapI (x := (i : Int) + 1) (by omega) (by omega), wrapI (by omega) (by omega)]; omega
    rw [e, chk_of (inBn (by omega)), getAt_drop (c := c) (by rw [hr]; rfl), wrapI (by omega) (by omega)]; rfl
  have join1 : ∀ bare : Bool, ElemOK s i (bif [91, 58].isPrefixOf (s.drop i) then none
      else bif [93].isPrefixOf (s.drop i) && !first then none
      else bif bare then none
      else match s.drop i with | [] => none | c :: _ => some (c, 1, true)) (bre_list_element_join1 (m + 3) (first, bare, s, (i : Int), ())) := by
    intro bare
    unfold bre_list_element_join1
    simp only
    cases hr : s.drop i with
    | nil =>
      rw [hr] at hlen
      simp only [List.length_nil] at hlen
      rw [br_of (by simp; omega), give_eq]
      simp only [ob2_r]
      cases first <;> cases bare <;> exact ⟨_, rfl⟩
    | cons c t =>
      obtain ⟨_, hlt⟩ := drop_next hr
      rw [br_not (by simp; omega), list_ahead_eq hi]
      simp only [ob_s]
      rw [← hr]
      cases h4 : [91, 58].isPrefixOf (s.drop i)
      case true =>
        simp only [br_t, give_eq, ob2_r, cond_true]
        exact ⟨_, rfl⟩
      simp only [br_f, cond_false]
      rw [list_ahead_eq hi]
      simp only [ob_s]
      have hb : ElemOK s i (bif bare then none else some (c, 1, true)) (br bare (
            ob2 (bre_list_give (m + 3) (s, (i : Int), ())) (fun y40 => none) (fun y40 => some (.inr (y40.1, y40.2.1, y40.2.2.1, y40.2.2.2.1, ())))) (
            jn (bre_list_element_join2 (m + 3)) (s, (i : Int), ()))) := by
        cases bare
        · simp only [br_f, cond_false, jn_e]
          rw [join2 hr]; rfl
        · simp only [br_t, cond_true, give_eq, ob2_r]
          exact ⟨_, rfl⟩
      cases h5 : [93].isPrefixOf (s.drop i)
      · simp only [br_f, Bool.false_and, cond_false]
        exact hb
      · cases first
        · simp only [br_t, Bool.not_false, Bool.true_and, cond_true, give_eq, ob2_r]
          exact ⟨_, rfl⟩
        · simp only [br_t, br_f, Bool.not_true, Bool.and_false, cond_false]
          exact hb
  simp only [ob_s, br_f, cond_false]
  rw [list_ahead_eq hi]
  simp only [ob_s]
  cases h6 : [45].isPrefixOf (s.drop i)
  · simp only [br_f, Bool.false_and]
    exact join1 false
  simp only [br_t, Bool.true_and]
  cases first
  · simp only [Bool.not_false, br_t, Bool.true_and]
    cases ends
    · simp only [Bool.not_false, br_t, Bool.true_and]
      rw [list_ahead_eq hi]
      simp only [ob_s]
      exact join1 _
    · simp only [Bool.not_true, br_f, Bool.false_and]
      exact join1 false
  · simp only [Bool.not_true, br_f, Bool.false_and]
    exact join1 false
def byteT : Option (UInt8 × Nat × Bool) → Int × Int × Bool
  | some (c, k, m) => ((c.toNat : Int), ((k : Nat) : Int), m)
  | none => (0, 0, false)
theorem cI (c : UInt8) : ((c.toNat : Int) == 91) = (91 == c) ∧ ((c.toNat : Int) == 46) = (46 == c) ∧ ((c.toNat : Int) == 61) = (61 == c) ∧ ((c.toNat : Int) == 58) = (58 == c) ∧ ((c.toNat : Int) == 92) = (92 == c) ∧ ((c.toNat : Int) == 110) = (110 == c) ∧ ((c.toNat : Int) == 93) = (93 == c) ∧ ((c.toNat : Int) == 45) = (45 == c) ∧ ((c.toNat : Int) == 94) = (94 == c) :=
  ⟨eqI 91, eqI 46, eqI 61, eqI 58, eqI 92, eqI 110, eqI 93, eqI 45, eqI 94⟩
theorem beqC (a b : UInt8) : (a == b) = (b == a) := by rw [Bool.eq_iff_iff, beq_iff_eq, beq_iff_eq]; exact eq_comm
theorem byteAt_eq {n : Nat} {s : List UInt8} {i : Nat} {first ends : Bool} (hi : i ≤ s.length) (hs : s.length < 1000000) : ref04_byteAt n (s, (i : Int), first, ends) = some (byteT (elemS first ends (s.drop i))) := by
  have hlen : (s.drop i).length = s.length - i := List.length_drop
  have hg : ∀ (j : Nat) (c : UInt8), (s.drop i)[j]? = some c → getAt 0 s ((i : Int) + (j : Nat)) = c := fun _ _ h => getAt_drop h
  unfold ref04_byteAt
  simp only
  cases hr : s.drop i with
  | nil =>
    rw [hr] at hlen
    simp only [List.length_nil] at hlen
    rw [br_of (by simp; omega)]
    cases first <;> rfl
  | cons c t =>
    rw [hr] at hlen hg
    simp only [List.length_cons] at hlen
    rw [br_not (by simp; omega), chk_of (inBn (by omega)), wrapI (by omega) (by omega)]
    have e0 : getAt 0 s (i : Int) = c := by have := hg 0 c rfl; simpa using this
    rw [e0]
    obtain ⟨q1, q2, q3, q4, q5, q6, q7, q8, q9⟩ := cI c
    have J4 : ∀ (x : Int), ref04_byteAt_join4 n (first, ends, (c.toNat : Int), x, ()) = some (byteT (bif [45].isPrefixOf (c :: t) && !first && !ends && (x != 93) then none else some (c, 1, true))) := by
      intro x
      unfold ref04_byteAt_join4
      simp only [q8, List.isPrefixOf, Bool.and_true]
      cases (45 == c) <;> cases first <;> cases ends <;> cases (x != 93) <;> rfl
    have J3 : ∀ (x : Int), ref04_byteAt_join3 n (first, ends, (c.toNat : Int), x, ()) = some (byteT (bif [93].isPrefixOf (c :: t) && !first then none else bif [45].isPrefixOf (c :: t) && !first && !ends && (x != 93) then none else some (c, 1, true))) := by
      intro x
      unfold ref04_byteAt_join3
      simp only [q7, jn_e, J4]
      have : [93].isPrefixOf (c :: t) = (93 == c) := by simp [List.isPrefixOf]
      rw [this]
      cases (93 == c) <;> cases first <;> rfl
    cases t with
    | nil =>
      simp only [List.length_nil] at hlen
      rw [br_not (by simp; omega), jn_e, ref04_byteAt_join0]
      simp only [q1]
      have J2 : ref04_byteAt_join2 n (s, (i : Int), first, ends, (c.toNat : Int), 0, ()) = some (byteT (elemS first ends [c])) := by
        unfold ref04_byteAt_join2 elemS
        simp only [jn_e, J3]
        cases (((c.toNat : Nat) : Int) == 92) <;> simp [List.isPrefixOf]
      cases (91 == c)
      · simp only [br_f, jn_e, ref04_byteAt_join1]; exact J2
      · simp only [br_t, jn_e, ref04_byteAt_join1]
        rw [br_not (by rfl), br_not (by rfl), br_not (by rfl)]
        exact J2
    | cons d t =>
      simp only [List.length_cons] at hlen
      have e1 : getAt 0 s ((i : Int) + 1) = d := hg 1 d rfl
      rw [br_of (by simp; omega), chk_of (inB_t (by omega) (by omega)), e1, jn_e, ref04_byteAt_join0]
      obtain ⟨d1, d2, d3, d4, d5, d6, d7, d8, d9⟩ := cI d
      have J2 : [91, 46].isPrefixOf (c :: d :: t) = false → [91, 61].isPrefixOf (c :: d :: t) = false → [91, 58].isPrefixOf (c :: d :: t) = false → ref04_byteAt_join2 n (s, (i : Int), first, ends, (c.toNat : Int), (d.toNat : Int), ()) = some (byteT (elemS first ends (c :: d :: t))) := by
        intro a1 a2 a3
        unfold ref04_byteAt_join2 elemS
        simp only [jn_e, J3, a1, a2, a3, q5, d6, cond_false]
        rw [wrapI (by omega) (by omega), show decide ((i : Int) + 1 < (s.length : Int)) = true by simp; omega]
        have x1 : [92, 110].isPrefixOf (c :: d :: t) = (92 == c && 110 == d) := by simp [List.isPrefixOf]
        have x2 : ([45].isPrefixOf (c :: d :: t) && !first && !ends && !([45, 93].isPrefixOf (c :: d :: t))) = ([45].isPrefixOf (c :: d :: t) && !first && !ends && ((d.toNat : Int) != 93)) := by
          simp only [bne, d7, List.isPrefixOf, Bool.and_true]
          cases (45 == c) <;> simp
        rw [x1, x2]
        cases (92 == c) <;> cases (110 == d) <;> rfl
      have M : ∀ mk : UInt8, c = 91 → d = mk → mk ≠ 58 → ref04_byteAt_join1 n (s, (i : Int), first, ends, (c.toNat : Int), (d.toNat : Int), true, ()) = some (byteT (markS mk (mk == 46) (c :: d :: t))) := by
        intro mk hc hd hm
        subst hc hd
        unfold ref04_byteAt_join1
        have hne : (d != 58) = true := by simp [hm]
        have hne2 : ((d.toNat : Int) != 58) = true := by rw [bne, d4]; rw [show (58 == d) = (d == 58) from beqC _ _]; exact hne
        simp only [br_t, hne2]
        rw [wrapI (x := (i : Int) + 4) (by omega) (by omega), wrapI (x := (i : Int) + 3) (by omega) (by omega), wrapI (x := (i : Int) + 2) (by omega) (by omega)]
        match t, hlen, hg with
        | [], hlen, hg => simp only [List.length_nil] at hlen; rw [br_not (by simp; omega)]; rfl
        | [e], hlen, hg => simp only [List.length_nil, List.length_cons] at hlen; rw [br_not (by simp; omega)]; rfl
        | [e, f], hlen, hg =>
          simp only [List.length_nil, List.length_cons] at hlen; rw [br_not (by simp; omega)]
          simp [markS, List.isPrefixOf, byteT]
        | e :: f :: g :: u, hlen, hg =>
          simp only [List.length_cons] at hlen
          have e2 : getAt 0 s ((i : Int) + 2) = e := hg 2 e rfl
          have e3 : getAt 0 s ((i : Int) + 3) = f := hg 3 f rfl
          have e4 : getAt 0 s ((i : Int) + 4) = g := hg 4 g rfl
          rw [br_of (by simp; omega), chk_of (inB_t (by omega) (by omega)), chk_of (inB_t (by omega) (by omega)), chk_of (inB_t (by omega) (by omega)), e2, e3, e4]
          have g1 : ((f.toNat : Int) == (d.toNat : Int)) = (d == f) := eqI d
          obtain ⟨_, _, _, _, _, _, g7, _, _⟩ := cI g
          simp only [g1, g7, markS, List.isPrefixOf, Bool.and_true]
          rw [d2, show (46 == d) = (d == 46) from beqC _ _]
          cases (d == f) <;> cases (93 == g) <;> rfl
      simp only [q1, d2, d3, d4, jn_e]
      rw [wrapI (by omega) (by omega), show decide ((i : Int) + 1 < (s.length : Int)) = true by simp; omega]
      cases hc : (91 == c)
      · simp only [br_f, ref04_byteAt_join1, jn_e]
        exact J2 (by simp [List.isPrefixOf, hc]) (by simp [List.isPrefixOf, hc]) (by simp [List.isPrefixOf, hc])
      · simp only [br_t]
        cases h46 : (46 == d)
        case true =>
          have hc' : c = 91 := (eq_of_beq hc).symm
          have hd' : d = 46 := (eq_of_beq h46).symm
          simp only [br_t]
          rw [M 46 hc' hd' (by decide)]
          subst hc' hd'
          rfl
        cases h61 : (61 == d)
        case true =>
          have hc' : c = 91 := (eq_of_beq hc).symm
          have hd' : d = 61 := (eq_of_beq h61).symm
          simp only [br_t, br_f]
          rw [M 61 hc' hd' (by decide)]
          subst hc' hd'
          rfl
        cases h58 : (58 == d)
        case true =>
          have hc' : c = 91 := (eq_of_beq hc).symm
          have hd' : d = 58 := (eq_of_beq h58).symm
          simp only [br_t, br_f]
          subst hc' hd'
          rfl
        simp only [br_f, ref04_byteAt_join1, jn_e]
        exact J2 (by simp [List.isPrefixOf, h46]) (by simp [List.isPrefixOf, h61]) (by simp [List.isPrefixOf, h58])
def clsS : List UInt8 → Option Nat
  | [] => none
  | c :: r => bif [58, 93].isPrefixOf (c :: r) then some 0 else (clsS r).map (· + 1)
theorem clsS_some : ∀ {r : List UInt8} {k : Nat}, clsS r = some k → [58, 93].isPrefixOf (r.drop k) = true ∧ k + 2 ≤ r.length
  | [], k, h => absurd h (by simp [clsS])
  | c :: r, k, h => by
    unfold clsS at h
    cases hp : [58, 93].isPrefixOf (c :: r) <;> simp only [hp, cond_true, cond_false] at h
    · cases hk : clsS r with
      | none => rw [hk] at h; exact absurd h (by simp)
      | some j =>
        rw [hk] at h
        simp only [Option.map_some, Option.some.injEq] at h
        subst h
        obtain ⟨h1, h2⟩ := clsS_some hk
        exact ⟨h1, by simp only [List.length_cons]; omega⟩
    · simp only [Option.some.injEq] at h
      subst h
      exact ⟨hp, by have := pre_len hp; simpa using this⟩
theorem index_cls : ∀ r : List UInt8, Go.Lib.index r [58, 93] = match clsS r with | some k => ((k : Nat) : Int) | none => -1
  | [] => by rfl
  | c :: r => by
    have ih := index_cls r
    rw [Go.Lib.index, clsS]
    cases hp : [58, 93].isPrefixOf (c :: r)
    · simp only [Bool.false_eq_true, if_false, cond_false]
      rw [ih]
      cases clsS r with
      | none => rfl
      | some k =>
        simp only [Option.map_some]
        rw [if_neg (by simp)]; rfl
    · rfl
theorem cut_cls (r : List UInt8) : Go.Lib.cut r [58, 93] = match clsS r with | some k => (r.take k, r.drop (k + 2), true) | none => (r, [], false) := by
  unfold Go.Lib.cut
  rw [index_cls]
  cases clsS r with
  | none => rfl
  | some k => simp
def partS (first : Bool) (r : List UInt8) : Option ((Nat → Bool) × Nat) :=
  bif [91, 58].isPrefixOf r then
    match clsS (r.drop 2) with
    | none => none
    | some k => match classP ((r.drop 2).take k) with
      | some p => some (p, k + 4)
      | none => none
  else match elemS first false r with
    | none => none
    | some (a, k, may) =>
      bif [45].isPrefixOf (r.drop k) && !([45, 93].isPrefixOf (r.drop k)) && decide (1 < (r.drop k).length) then
        match elemS false true (r.drop (k + 1)) with
        | none => none
        | some (b, m, is) => bif may && is && !(decide (b.toNat < a.toNat)) then some (rangeP a.toNat b.toNat, k + 1 + m) else none
      else some (rangeP a.toNat a.toNat, k)
theorem partS_len {first : Bool} {r : List UInt8} {p : Nat → Bool} {k : Nat} (h : partS first r = some (p, k)) : 1 ≤ k ∧ k ≤ r.length := by
  unfold partS at h
  cases h0 : [91, 58].isPrefixOf r <;> simp only [h0, cond_true, cond_false] at h
  · cases h1 : elemS first false r with
    | none => rw [h1] at h; exact absurd h (by simp)
    | some x =>
      obtain ⟨a, j, may⟩ := x
      have hl := elemS_len h1
      rw [h1] at h
      simp only at h
      cases h2 : [45].isPrefixOf (r.drop j) && !([45, 93].isPrefixOf (r.drop j)) && decide (1 < (r.drop j).length) <;> simp only [h2, cond_true, cond_false] at h
      · simp only [Option.some.injEq, Prod.mk.injEq] at h; omega
      · cases h3 : elemS false true (r.drop (j + 1)) with
        | none => rw [h3] at h; exact absurd h (by simp)
        | some y =>
          obtain ⟨b, m, is⟩ := y
          have hl3 := elemS_len h3
          rw [h3] at h
          simp only at h
          rw [List.length_drop] at hl3
          cases h4 : may && is && !(decide (b.toNat < a.toNat)) <;> simp only [h4, cond_true, cond_false] at h
          · exact absurd h (by simp)
          · simp only [Option.some.injEq, Prod.mk.injEq] at h; omega
  · cases h1 : clsS (r.drop 2) with
    | none => rw [h1] at h; exact absurd h (by simp)
    | some j =>
      rw [h1] at h
      simp only at h
      have := (clsS_some h1).2
      rw [List.length_drop] at this
      cases h2 : classP ((r.drop 2).take j) with
      | none => rw [h2] at h; exact absurd h (by simp)
      | some q =>
        rw [h2] at h
        simp only [Option.some.injEq, Prod.mk.injEq] at h; omega
def PartOK (s : List UInt8) (i : Nat) (o : Option ((Nat → Bool) × Nat)) (e : Option (Sum (List Int × List UInt8 × Int × Unit) (Int × Int × List UInt8 × Int × Unit))) : Prop := match o with
  | some (p, k) => e = some (.inl (wd p, s, ((i + k : Nat) : Int), ()))
  | none => ∃ a, e = some (.inr (42, 0, s, a, ()))
theorem part_eq {n : Nat} {s : List UInt8} {i : Nat} {first : Bool} (hn : 300 ≤ n) (hi : i ≤ s.length) (hs : s.length < 1000000) : PartOK s i (partS first (s.drop i)) (bre_list_part n (first, s, (i : Int), ())) := by
  unfold bre_list_part partS
  simp only
  cases h0 : [91, 58].isPrefixOf (s.drop i)
  case true =>
    have hl := pre_len h0
    simp only [List.length_drop, List.length_cons, List.length_nil] at hl
    rw [list_took_t hi hs h0]
    simp only [ob_s, br_t, cond_true]
    rw [chk_of (by simp; omega), Int.toNat_natCast, strings_Cut, chk_of (by simp; omega), show ([91, 58] : List UInt8).length = 2 from rfl]
    simp only [ob_s]
    rw [cut_cls, List.drop_drop]
    have hC := class_both (n := n) hn
    cases h1 : clsS (s.drop (i + 2)) with
    | none =>
      simp only
      have h2 := hC (s.drop (i + 2))
      have hgive : ∀ (w : Bool), ∀ (x : List Int), ∃ a, (ob (ρ := Sum (List Int × List UInt8 × Int × Unit) (Int × Int × List UInt8 × Int × Unit)) (some (x, w)) fun y8 =>
        br (!y8.2) (
        ob2 (bre_list_give n (s, IntKind.wrap .i64 (((i + 2 : Nat) : Int) + ((s.drop (i + 2)).length : Int)), ())) (fun y9 =>
          none) (fun y9 =>
          some (.inr (y9.1, y9.2.1, y9.2.2.1, y9.2.2.2.1, ())))) (
        ob (bre_list_took n ([58, 93], s, IntKind.wrap .i64 (((i + 2 : Nat) : Int) + ((s.drop (i + 2)).length : Int)), ())) fun y10 =>
        br (!y10.1) (
          ob2 (bre_list_give n (y10.2.1, y10.2.2.1, ())) (fun y11 =>
            none) (fun y11 =>
            some (.inr (y11.1, y11.2.1, y11.2.2.1, y11.2.2.2.1, ())))) (
          some (.inl (y8.1, y10.2.1, y10.2.2.1, ()))))) = some (.inr (42, 0, s, a, ())) := by
        intro w x
        simp only [ob_s]
        cases w
        · simp only [Bool.not_false, br_t, give_eq, ob2_r]
          exact ⟨_, rfl⟩
        · simp only [Bool.not_true, br_f]
          have e : IntKind.wrap .i64 (((i + 2 : Nat) : Int) + ((s.drop (i + 2)).length : Int)) = ((s.length : Nat) : Int) := by
            rw [List.length_drop, wrapI (by omega) (by omega)]; omega
          rw [e, list_took_f (Nat.le_refl _) (by simp)]
          simp only [ob_s, Bool.not_false, br_t, give_eq, ob2_r]
          exact ⟨_, rfl⟩
      cases hc : classP (s.drop (i + 2)) with
      | none => rw [hc] at h2; rw [h2.1]; exact hgive _ _
      | some p => rw [hc] at h2; rw [h2.1]; exact hgive _ _
    | some k =>
      simp only
      obtain ⟨k1, k2⟩ := clsS_some h1
      rw [List.length_drop] at k2
      rw [List.drop_drop] at k1
      have h2 := hC ((s.drop (i + 2)).take k)
      have e : IntKind.wrap .i64 (((i + 2 : Nat) : Int) + (((s.drop (i + 2)).take k).length : Int)) = ((i + 2 + k : Nat) : Int) := by
        rw [List.length_take, List.length_drop, wrapI (by omega) (by omega)]; omega
      rw [e]
      cases hc : classP ((s.drop (i + 2)).take k) with
      | none =>
        rw [hc] at h2; rw [h2.1]
        simp only [ob_s, Bool.not_false, br_t, give_eq, ob2_r]
        exact ⟨_, rfl⟩
      | some p =>
        rw [hc] at h2; rw [h2.1]
        simp only [ob_s, Bool.not_true, br_f]
        rw [list_took_t (by omega) hs k1]
        simp only [ob_s, Bool.not_true, br_f, PartOK]
        rw [show i + 2 + k + ([58, 93] : List UInt8).length = i + (k + 4) by simp; omega]
  rw [list_took_f hi h0]
  simp only [ob_s, br_f, cond_false]
  have hE := element_eq (n := n) (first := first) (ends := false) (by omega) hi hs
  cases h1 : elemS first false (s.drop i) with
  | none =>
    rw [h1] at hE
    obtain ⟨a, hE⟩ := hE
    rw [hE]
    simp only [ob2_r]
    exact ⟨_, rfl⟩
  | some x =>
    obtain ⟨a, k, may⟩ := x
    rw [h1] at hE
    simp only [ElemOK] at hE
    rw [hE]
    have hk := elemS_len h1
    rw [List.length_drop] at hk
    simp only [ob2_l]
    have hik : i + k ≤ s.length := by omega
    have hR : set_Range n ((a.toNat : Int), (a.toNat : Int)) = some (wd (rangeP a.toNat a.toNat)) := set_Range_eq hn a.toNat_lt a.toNat_lt
    rw [list_ahead_eq hik, hR, List.drop_drop]
    simp only [ob_s]
    cases h2 : [45].isPrefixOf (s.drop (i + k))
    · simp only [Bool.not_false, br_t, Bool.false_and, cond_false]; rfl
    simp only [Bool.not_true, br_f, Bool.true_and]
    rw [list_ahead_eq hik]
    simp only [ob_s]
    cases h3 : [45, 93].isPrefixOf (s.drop (i + k))
    case true => simp only [br_t, Bool.not_true, Bool.false_and, cond_false]; rfl
    simp only [br_f, Bool.not_false, Bool.true_and]
    have hp := pre_len h2
    rw [List.length_drop] at hp ⊢
    simp only [List.length_cons, List.length_nil] at hp
    rw [wrapI (by omega) (by omega)]
    by_cases h4 : 1 < s.length - (i + k)
    · rw [br_not (by simp; omega), decide_eq_true h4]
      simp only [cond_true]
      have hE2 := element_eq (n := n) (first := false) (ends := true) (s := s) (i := i + k + 1) (by omega) (by omega) hs
      rw [show ((i + k : Nat) : Int) + 1 = ((i + k + 1 : Nat) : Int) from rfl]
      rw [List.drop_drop, show i + (k + 1) = i + k + 1 by omega]
      cases h5 : elemS false true (s.drop (i + k + 1)) with
      | none =>
        rw [h5] at hE2
        obtain ⟨a, hE2⟩ := hE2
        rw [hE2]
        simp only [ob2_r]
        exact ⟨_, rfl⟩
      | some y =>
        obtain ⟨b, m, is⟩ := y
        rw [h5] at hE2
        simp only [ElemOK] at hE2
        rw [hE2]
        simp only [ob2_l, give_eq, ob2_r]
        cases may
        · simp only [Bool.not_false, br_t, Bool.false_and, cond_false]; exact ⟨_, rfl⟩
        cases is
        · simp only [Bool.not_false, br_t, Bool.not_true, br_f, Bool.and_false, Bool.false_and, cond_false]; exact ⟨_, rfl⟩
        have hR2 : set_Range n ((a.toNat : Int), (b.toNat : Int)) = some (wd (rangeP a.toNat b.toNat)) := set_Range_eq hn a.toNat_lt b.toNat_lt
        rw [hR2, show decide ((b.toNat : Int) < (a.toNat : Int)) = decide (b.toNat < a.toNat) by simp]
        cases decide (b.toNat < a.toNat)
        · simp only [Bool.not_false, Bool.not_true, br_f, Bool.and_true, cond_true, ob_s, PartOK]
          rw [show i + (k + 1 + m) = i + k + 1 + m by omega]
        · simp only [Bool.not_true, br_f, br_t, Bool.and_false, cond_false]; exact ⟨_, rfl⟩
    · rw [br_of (by simp; omega), decide_eq_false h4]
      rfl
theorem scan_eq {n : Nat} {g0 : List UInt8 × Int × Bool × Bool × List Bool × List Bool × List Bool × Unit → Option (List Bool × Int × Int)} {s : List UInt8} {i : Nat} {no : Bool} {b1 b2 b3 : List Bool} (hs : s.length < 1000000) :
    ∀ (r : List UInt8) (k m : Nat), s.drop k = r → k ≤ s.length → i + 2 ≤ k → r.length < m → fix (ref04_Bracket_loop1 n g0) m (s, (i : Int), no, (k : Int), b1, b2, b3, ()) = match clsS r with
      | some j => ref04_Bracket_join6 n g0 (s, (i : Int), no, ((k + j : Nat) : Int), b1, b2, b3, ())
      | none => some (b2, 0, 42) := by
  intro r
  induction r with
  | nil =>
    intro k m hr hk hik hm
    have hl : s.length = k := by have := congrArg List.length hr; simp only [List.length_drop, List.length_nil] at this; omega
    rw [fix_pos (by omega), ref04_Bracket_loop1]
    simp only
    rw [wrapI (by omega) (by omega), br_not (by simp; omega), jn_e, ref04_Bracket_join6]
    simp only
    rw [wrapI (by omega) (by omega), br_of (by simp; omega)]
    rfl
  | cons c r ih =>
    intro k m hr hk hik hm
    obtain ⟨hr2, hk2⟩ := drop_next hr
    have hl : s.length = k + (r.length + 1) := by have := congrArg List.length hr; simp only [List.length_drop, List.length_cons] at this; omega
    simp only [List.length_cons] at hm
    rw [fix_pos (by omega), ref04_Bracket_loop1]
    simp only
    rw [wrapI (by omega) (by omega)]
    rw [clsS]
    cases r with
    | nil =>
      simp only [List.length_nil] at hl
      rw [br_not (by simp; omega), jn_e, ref04_Bracket_join6]
      simp only
      rw [wrapI (by omega) (by omega), br_of (by simp; omega)]
      simp [List.isPrefixOf, clsS]
    | cons d r =>
      simp only [List.length_cons] at hl
      rw [br_of (by simp; omega), wrapI (by omega) (by omega), chk_of (by simp; omega)]
      have e : (s.take ((k : Int) + 2).toNat).drop (k : Int).toNat = [c, d] := by
        rw [Int.toNat_natCast, show ((k : Int) + 2).toNat = k + 2 by omega, List.drop_take, hr, show k + 2 - k = 2 by omega]; rfl
      rw [e]
      have e2 : ([c, d] == ([58, 93] : List UInt8)) = [58, 93].isPrefixOf (c :: d :: r) := by
        rw [Bool.eq_iff_iff, beq_iff_eq, List.isPrefixOf_iff_prefix, List.prefix_iff_eq_take]
        exact eq_comm
      rw [e2]
      cases hp : [58, 93].isPrefixOf (c :: d :: r)
      · simp only [Bool.not_false, br_t, cond_false]
        rw [show (k : Int) + 1 = ((k + 1 : Nat) : Int) from rfl, ih (k + 1) (m - 1) hr2 (by omega) (by omega) (by omega)]
        cases clsS (d :: r) with
        | none => rfl
        | some j => simp only [Option.map_some]; rw [show k + 1 + j = k + (j + 1) by omega]
      · simp only [Bool.not_true, br_f, cond_true, jn_e]
        rfl
theorem partR_eq {n : Nat} {g0 : List UInt8 × Int × Bool × Bool × List Bool × List Bool × List Bool × Unit → Option (List Bool × Int × Int)} {s : List UInt8} {i : Nat} {no first : Bool} {b1 b2 : List Bool} {q : Nat → Bool} (hn : 300 ≤ n) (hsn : s.length < n) (hi : i ≤ s.length) (hs : s.length < 1000000) :
    ref04_Bracket_join4 n g0 (s, (i : Int), no, first, b1, b2, bx q, ()) = match partS first (s.drop i) with
      | some (p, k) => g0 (s, ((i + k : Nat) : Int), no, false, b1, b2, bx (fun j => q j || p j), ())
      | none => some (b2, 0, 42) := by
  have hlen : (s.drop i).length = s.length - i := List.length_drop
  have J5 : ref04_Bracket_join4 n g0 (s, (i : Int), no, first, b1, b2, bx q, ()) = ref04_Bracket_join5 n g0 (s, (i : Int), no, first, [91, 58].isPrefixOf (s.drop i), b1, b2, bx q, ()) := by
    unfold ref04_Bracket_join4
    simp only [jn_e]
    rw [wrapI (by omega) (by omega)]
    by_cases h : i + 1 < s.length
    · rw [br_of (by simp; omega), wrapI (by omega) (by omega), chk_of (by simp; omega)]
      congr 6
      rw [Int.toNat_natCast, show ((i : Int) + 2).toNat = i + 2 by omega, List.drop_take, show i + 2 - i = 2 by omega]
      rw [Bool.eq_iff_iff, beq_iff_eq, List.isPrefixOf_iff_prefix, List.prefix_iff_eq_take]
      exact eq_comm
    · rw [br_not (by simp; omega)]
      congr 6
      symm
      rw [Bool.eq_false_iff]
      intro hp
      have := pre_len hp
      simp only [List.length_cons, List.length_nil] at this
      omega
  rw [J5]
  unfold ref04_Bracket_join5 partS
  simp only
  cases h0 : [91, 58].isPrefixOf (s.drop i)
  case true =>
    have hl := pre_len h0
    simp only [List.length_cons, List.length_nil] at hl
    simp only [br_t, cond_true]
    rw [wrapI (by omega) (by omega), show (i : Int) + 2 = ((i + 2 : Nat) : Int) from rfl, scan_eq hs (s.drop (i + 2)) (i + 2) n rfl (by omega) (by omega) (by rw [List.length_drop]; omega), List.drop_drop]
    cases h1 : clsS (s.drop (i + 2)) with
    | none => rfl
    | some k =>
      simp only
      obtain ⟨k1, k2⟩ := clsS_some h1
      rw [List.length_drop] at k2
      unfold ref04_Bracket_join6
      simp only
      rw [wrapI (by omega) (by omega), br_not (by simp; omega), wrapI (by omega) (by omega), chk_of (by simp; omega)]
      have e : (s.take ((i + 2 + k : Nat) : Int).toNat).drop ((i : Int) + 2).toNat = (s.drop (i + 2)).take k := by
        rw [Int.toNat_natCast, show ((i : Int) + 2).toNat = i + 2 by omega, List.drop_take, show i + 2 + k - (i + 2) = k by omega]
      rw [e]
      have h2 := class_both (n := n) hn ((s.drop (i + 2)).take k)
      cases hc : classP ((s.drop (i + 2)).take k) with
      | none =>
        rw [hc] at h2
        obtain ⟨_, p, h2⟩ := h2
        rw [h2]; rfl
      | some p =>
        rw [hc] at h2; rw [h2.2]
        simp only [ob_s, Bool.not_true, br_f]
        rw [ref02_Or_eq hn, wrapI (by omega) (by omega)]
        simp only [ob_s]
        rw [show i + (k + 4) = i + 2 + k + 2 by omega]; rfl
  simp only [br_f, cond_false, jn_e]
  have J7 : ∀ (A K : Int) (M : Bool), ref04_byteAt n (s, (i : Int), first, false) = some (A, K, M) → ref04_Bracket_join7 n g0 (s, (i : Int), no, first, b1, b2, bx q, ()) =
    br (K == 0) (some (b2, 0, 42)) (br (decide (IntKind.wrap .i64 (IntKind.wrap .i64 ((i : Int) + K) + 1) < (s.length : Int))) (
      chk (inB (IntKind.wrap .i64 ((i : Int) + K)) s.length) (
        br (((getAt 0 s (IntKind.wrap .i64 ((i : Int) + K))).toNat : Int) == 45) (
          chk (inB (IntKind.wrap .i64 (IntKind.wrap .i64 ((i : Int) + K) + 1)) s.length) (
            jn (ref04_Bracket_join8 n g0) (s, IntKind.wrap .i64 ((i : Int) + K), no, A, M, A, (((getAt 0 s (IntKind.wrap .i64 (IntKind.wrap .i64 ((i : Int) + K) + 1))).toNat : Int) != 93), b1, b2, bx q, ()))) (
          jn (ref04_Bracket_join8 n g0) (s, IntKind.wrap .i64 ((i : Int) + K), no, A, M, A, false, b1, b2, bx q, ())))) (
      jn (ref04_Bracket_join8 n g0) (s, IntKind.wrap .i64 ((i : Int) + K), no, A, M, A, false, b1, b2, bx q, ()))) := by
    intro A K M h
    unfold ref04_Bracket_join7
    simp only
    rw [h]; rfl
  cases h1 : elemS first false (s.drop i) with
  | none => rw [J7 0 0 false (by rw [byteAt_eq hi hs, h1]; rfl)]; rfl
  | some x =>
    obtain ⟨a, k, may⟩ := x
    have hk := elemS_len h1
    rw [List.length_drop] at hk
    have hik : i + k ≤ s.length := by omega
    rw [J7 (a.toNat : Int) (k : Int) may (by rw [byteAt_eq hi hs, h1]; rfl)]
    rw [br_not (by simp; omega), wrapI (x := (i : Int) + (k : Int)) (by omega) (by omega), wrapI (by omega) (by omega)]
    have J8f : ∀ t : Bool, t = false → ref04_Bracket_join8 n g0 (s, (i : Int) + (k : Int), no, (a.toNat : Int), may, (a.toNat : Int), t, b1, b2, bx q, ()) = g0 (s, ((i + k : Nat) : Int), no, false, b1, b2, bx (fun j => q j || rangeP a.toNat a.toNat j), ()) := by
      intro t ht
      subst ht
      unfold ref04_Bracket_join8
      have hR : ref02_Range n ((a.toNat : Int), (a.toNat : Int)) = some (bx (rangeP a.toNat a.toNat)) := ref02_Range_eq hn a.toNat_lt a.toNat_lt
      simp only [br_f, hR, ob_s]
      rw [ref02_Or_eq hn]; rfl
    simp only
    rw [List.drop_drop, List.length_drop]
    by_cases h4 : 1 < s.length - (i + k)
    · rw [br_of (by simp; omega), chk_of (inB_t (by omega) (by omega)), decide_eq_true h4, Bool.and_true]
      cases hr : s.drop (i + k) with
      | nil => have := congrArg List.length hr; simp only [List.length_drop, List.length_nil] at this; omega
      | cons c t =>
        obtain ⟨hr2, _⟩ := drop_next hr
        have e0 : getAt 0 s ((i : Int) + (k : Int)) = c := getAt_drop (i := i + k) (j := 0) (by rw [hr]; rfl)
        rw [e0, (cI c).2.2.2.2.2.2.2.1]
        cases t with
        | nil => have := congrArg List.length hr; simp only [List.length_drop, List.length_nil, List.length_cons] at this; omega
        | cons d t =>
          have e1 : getAt 0 s ((i : Int) + (k : Int) + 1) = d := getAt_drop (i := i + k) (j := 1) (by rw [hr]; rfl)
          simp only [List.isPrefixOf, Bool.and_true]
          cases h45 : (45 == c)
          · simp only [br_f, Bool.false_and, cond_false, jn_e]
            exact J8f _ rfl
          · simp only [br_t, Bool.true_and, jn_e]
            rw [chk_of (inB_t (by omega) (by omega)), e1, bne, (cI d).2.2.2.2.2.2.1]
            cases h93 : (93 == d)
            case true =>
              simp only [Bool.not_true, cond_false]
              exact J8f _ rfl
            simp only [Bool.not_false, cond_true]
            unfold ref04_Bracket_join8
            simp only [br_t]
            rw [wrapI (x := (i : Int) + (k : Int) + 1) (by omega) (by omega), show (i : Int) + (k : Int) + 1 = ((i + k + 1 : Nat) : Int) from rfl, byteAt_eq (by omega) hs]
            rw [List.drop_drop, show i + (k + 1) = i + k + 1 by omega]
            simp only [ob_s]
            cases h5 : elemS false true (s.drop (i + k + 1)) with
            | none => rfl
            | some y =>
              obtain ⟨b, m, is⟩ := y
              have hm := elemS_len h5
              rw [List.length_drop] at hm
              simp only [byteT]
              rw [br_not (by simp; omega)]
              cases is
              · simp only [Bool.not_false, br_t, Bool.and_false, Bool.false_and, cond_false]
              cases may
              · simp only [Bool.not_false, br_t, Bool.not_true, br_f, Bool.false_and, cond_false]
              rw [br_not (b := !true) rfl, br_not (b := !true) rfl]
              by_cases hba : b.toNat < a.toNat
              · rw [br_of (by exact decide_eq_true (by omega)), decide_eq_true hba]; rfl
              · have hR2 : ref02_Range n ((a.toNat : Int), (b.toNat : Int)) = some (bx (rangeP a.toNat b.toNat)) := ref02_Range_eq hn a.toNat_lt b.toNat_lt
                rw [br_not (by exact decide_eq_false (by omega)), decide_eq_false hba, hR2]
                simp only [ob_s, Bool.not_false, Bool.and_true, cond_true]
                rw [ref02_Or_eq hn, wrapI (x := 1 + (m : Int)) (by omega) (by omega), wrapI (by omega) (by omega)]
                simp only [ob_s]
                rw [show (i : Int) + (k : Int) + (1 + (m : Int)) = ((i + (k + 1 + m) : Nat) : Int) by omega]
    · rw [br_not (by simp; omega), decide_eq_false h4, Bool.and_false]
      simp only [jn_e, cond_false]
      exact J8f _ rfl
def brkL : Nat → Bool → (Nat → Bool) → List UInt8 → Option ((Nat → Bool) × Nat)
  | 0, _, _, _ => none
  | f + 1, first, q, r =>
    bif [93].isPrefixOf r && !first then some (q, 1)
    else match partS first r with
      | none => none
      | some (p, k) => match brkL f false (fun j => q j || p j) (r.drop k) with
        | none => none
        | some (x, m) => some (x, k + m)
def emptyP (p : Nat → Bool) : Bool := (List.range 256).all fun i => !p i
def brkS (s : List UInt8) : Option ((Nat → Bool) × Nat) :=
  bif [91].isPrefixOf s then
    let no := [94].isPrefixOf (s.drop 1)
    let i := bif no then 2 else 1
    match brkL (s.length + 1) true (fun _ => false) (s.drop i) with
    | none => none
    | some (p, k) =>
      let p' := bif no then (fun j => !p j) else p
      bif emptyP p' then none else some (p', i + k)
  else none
theorem brkL_len : ∀ {f : Nat} {first : Bool} {q : Nat → Bool} {r : List UInt8} {p : Nat → Bool} {k : Nat}, brkL f first q r = some (p, k) → 1 ≤ k ∧ k ≤ r.length
  | 0, _, _, _, _, _, h => absurd h (by simp [brkL])
  | f + 1, first, q, r, p, k, h => by
    unfold brkL at h
    cases h0 : [93].isPrefixOf r && !first <;> simp only [h0, cond_true, cond_false] at h
    · cases h1 : partS first r with
      | none => rw [h1] at h; exact absurd h (by simp)
      | some x =>
        obtain ⟨p1, k1⟩ := x
        rw [h1] at h
        simp only at h
        have hk1 := partS_len h1
        cases h2 : brkL f false (fun j => q j || p1 j) (r.drop k1) with
        | none => rw [h2] at h; exact absurd h (by simp)
        | some y =>
          obtain ⟨p2, k2⟩ := y
          rw [h2] at h
          have hk2 := brkL_len h2
          rw [List.length_drop] at hk2
          simp only [Option.some.injEq, Prod.mk.injEq] at h; omega
    · simp only [Bool.and_eq_true] at h0
      have := pre_len h0.1
      simp only [List.length_cons, List.length_nil, Option.some.injEq, Prod.mk.injEq] at this h; omega
theorem brkS_len {s : List UInt8} {p : Nat → Bool} {k : Nat} (h : brkS s = some (p, k)) : 1 ≤ k ∧ k ≤ s.length := by
  unfold brkS at h
  cases h0 : [91].isPrefixOf s <;> simp only [h0, cond_true, cond_false] at h
  · exact absurd h (by simp)
  · cases h1 : brkL (s.length + 1) true (fun _ => false) (s.drop (bif [94].isPrefixOf (s.drop 1) then 2 else 1)) with
    | none => rw [h1] at h; exact absurd h (by simp)
    | some x =>
      obtain ⟨q, j⟩ := x
      rw [h1] at h
      have hj := brkL_len h1
      rw [List.length_drop] at hj
      simp only at h
      cases h2 : emptyP (bif [94].isPrefixOf (s.drop 1) then (fun j => !q j) else q) <;> simp only [h2, cond_true, cond_false] at h
      · simp only [Option.some.injEq, Prod.mk.injEq] at h; omega
      · exact absurd h (by simp)
theorem emptyP_wd {p : Nat → Bool} : Ty.beq (.arr 4 (.int .u64)) (wd p) [0, 0, 0, 0] = emptyP p := by
  rw [Bool.eq_iff_iff, ← wd_none, beqW, wd_none, wd_nil, emptyP, List.all_eq_true]
  simp
theorem emptyP_bytes {p : Nat → Bool} : (((bytesP p).length : Int) == 0) = emptyP p := by
  rw [Bool.eq_iff_iff, emptyP, List.all_eq_true, beq_iff_eq]
  have := @bytesP_none p
  rw [show (((bytesP p).length : Int) = 0) ↔ (bytesP p).length = 0 by omega, this]
  simp
def LoopOK (s : List UInt8) (i : Nat) (no : Bool) (o : Option ((Nat → Bool) × Nat)) (e : Option (Sum (List Int × List UInt8 × Int × Unit) (Int × Int × List Int × List UInt8 × Int × Unit))) : Prop := match o with
  | some (p, k) => bif emptyP (bif no then (fun j => !p j) else p) then ∃ a w, e = some (.inr (42, 0, w, s, a, ())) else e = some (.inl (wd (bif no then (fun j => !p j) else p), s, ((i + k : Nat) : Int), ()))
  | none => ∃ a w, e = some (.inr (42, 0, w, s, a, ()))
theorem brk_loop {n : Nat} {s : List UInt8} {no : Bool} (hn : 300 ≤ n) (hs : s.length < 1000000) : ∀ (f : Nat) (i m : Nat) (first : Bool) (q : Nat → Bool), i ≤ s.length → s.length - i < f → f ≤ m →
    LoopOK s i no (brkL f first q (s.drop i)) (fix (bre_Bracket_1_loop0 n) m (no, first, wd q, s, (i : Int), ())) := by
  intro f
  induction f with
  | zero => intro i m first q _ h; omega
  | succ f ih =>
    intro i m first q hi hf hm
    rw [fix_pos (by omega), bre_Bracket_1_loop0]
    simp only
    have hO : ∀ p : Nat → Bool, set_Or n [wd q, wd p] = some (wd fun j => q j || p j) := by
      intro p
      have := set_Or_eq (n := n) [q, p] (by omega) (by simp; omega) (by simp)
      simpa using this
    have hpart : LoopOK s i no (match partS first (s.drop i) with
      | none => none
      | some (p, k) => match brkL f false (fun j => q j || p j) ((s.drop i).drop k) with
        | none => none
        | some (x, m) => some (x, k + m)) (ob2 (bre_list_part n (first, s, (i : Int), ())) (fun y13 =>
      ob (set_Or n [wd q, y13.1]) fun y14 =>
      fix (bre_Bracket_1_loop0 n) (m - 1) (no, false, y14, y13.2.1, y13.2.2.1, ())) (fun y13 =>
      some (.inr (y13.1, y13.2.1, wd q, y13.2.2.1, y13.2.2.2.1, ())))) := by
      have hp := part_eq (n := n) (first := first) hn hi hs
      cases h1 : partS first (s.drop i) with
      | none =>
        rw [h1] at hp
        obtain ⟨a, hp⟩ := hp
        rw [hp]
        exact ⟨_, _, rfl⟩
      | some x =>
        obtain ⟨p, k⟩ := x
        rw [h1] at hp
        simp only [PartOK] at hp
        have hk := partS_len h1
        rw [List.length_drop] at hk
        rw [hp]
        simp only [ob2_l]
        rw [hO p]
        simp only [ob_s]
        have := ih (i + k) (m - 1) false (fun j => q j || p j) (by omega) (by omega) (by omega)
        rw [List.drop_drop]
        cases h2 : brkL f false (fun j => q j || p j) (s.drop (i + k)) with
        | none => rw [h2] at this; exact this
        | some y =>
          obtain ⟨p2, k2⟩ := y
          rw [h2] at this
          simp only [LoopOK] at this ⊢
          rw [show i + (k + k2) = i + k + k2 by omega]
          exact this
    unfold brkL
    cases first
    case true =>
      simp only [br_t, Bool.not_true, Bool.and_false, cond_false]
      exact hpart
    simp only [br_f, Bool.not_false, Bool.and_true]
    cases h0 : [93].isPrefixOf (s.drop i)
    · rw [list_took_f hi h0]
      simp only [ob_s, Bool.not_false, br_t, cond_false]
      exact hpart
    · rw [list_took_t hi hs h0]
      simp only [ob_s, Bool.not_true, br_f, cond_true, LoopOK]
      cases no
      · simp only [br_f, cond_false]
        cases hq : emptyP q
        · simp only [cond_false]
          rw [br_not (by exact emptyP_wd.trans hq)]; rfl
        · simp only [cond_true]
          refine ⟨((i + [93].length : Nat) : Int), wd q, ?_⟩
          rw [br_of (by exact emptyP_wd.trans hq)]; rfl
      · simp only [br_t, cond_true, set_Not_eq (n := n) (by omega), ob_s]
        cases hq : emptyP (fun j => !q j)
        · simp only [cond_false]
          rw [br_not (by exact emptyP_wd.trans hq)]; rfl
        · simp only [cond_true]
          refine ⟨((i + [93].length : Nat) : Int), wd (fun j => !q j), ?_⟩
          rw [br_of (by exact emptyP_wd.trans hq)]; rfl
def brkT : Option ((Nat → Bool) × Nat) → List Int × Int × Int
  | some (p, k) => (wd p, ((k : Nat) : Int), 0)
  | none => ([0, 0, 0, 0], 0, 42)
theorem bre_Bracket_eq {n : Nat} {s : List UInt8} (hn : 400 ≤ n) (hsn : s.length + 10 < n) (hs : s.length < 1000000) : bre_Bracket n s = some (brkT (brkS s)) := by
  have hT : ∀ e : Option (Sum (List Int × List UInt8 × Int × Unit) (Int × Int × List Int × List UInt8 × Int × Unit)), bre_Bracket_1 n ([0, 0, 0, 0], s, 0, ()) = e → bre_Bracket n s = ob (ob2 e (fun y => some (0, 0, y)) (fun y => some y)) fun y1 => br (y1.1 != 0) (some ([0, 0, 0, 0], 0, y1.1)) (some (y1.2.2.1, y1.2.2.2.2.1, 0)) := by
    intro e he
    unfold bre_Bracket bre_tried__bre_Bracket_1
    simp only
    rw [he]
  have hB : ∀ a w, bre_Bracket_1 n ([0, 0, 0, 0], s, 0, ()) = some (.inr (42, 0, w, s, a, ())) → bre_Bracket n s = some ([0, 0, 0, 0], 0, 42) := by
    intro a w h; rw [hT _ h]; rfl
  have h0 : bre_Bracket_1 n ([0, 0, 0, 0], s, 0, ()) = br (![91].isPrefixOf s) (some (.inr (42, 0, [0, 0, 0, 0], s, 0, ()))) (fix (bre_Bracket_1_loop0 n) n ([94].isPrefixOf (s.drop 1), true, wd (fun _ => false), s, ((bif [94].isPrefixOf (s.drop 1) then 2 else 1 : Nat) : Int), ())) := by
    unfold bre_Bracket_1
    simp only
    rw [show (0 : Int) = ((0 : Nat) : Int) from rfl]
    cases h1 : [91].isPrefixOf s
    · rw [list_took_f (by omega) (by rw [List.drop_zero]; exact h1)]; rfl
    · rw [list_took_t (by omega) hs (by rw [List.drop_zero]; exact h1)]
      have hl := pre_len h1
      simp only [List.length_cons, List.length_nil] at hl
      simp only [ob_s, Bool.not_true, br_f]
      rw [show 0 + ([91] : List UInt8).length = 1 from rfl]
      cases h2 : [94].isPrefixOf (s.drop 1)
      · rw [list_took_f (by omega) h2, wd_none]; rfl
      · rw [list_took_t (by omega) hs h2, wd_none]; rfl
  unfold brkS
  cases h1 : [91].isPrefixOf s
  · rw [h1] at h0; simp only [Bool.not_false, br_t] at h0
    rw [hB _ _ h0]; rfl
  · rw [h1] at h0; simp only [Bool.not_true, br_f] at h0
    simp only [cond_true]
    have hi : (bif [94].isPrefixOf (s.drop 1) then 2 else 1) ≤ s.length := by
      have hl := pre_len h1
      simp only [List.length_cons, List.length_nil] at hl
      cases h2 : [94].isPrefixOf (s.drop 1)
      · simp only [cond_false]; omega
      · have hl2 := pre_len h2
        rw [List.length_drop] at hl2
        simp only [List.length_cons, List.length_nil] at hl2
        simp only [cond_true]; omega
    have hL := brk_loop (n := n) (s := s) (no := [94].isPrefixOf (s.drop 1)) (by omega) hs (s.length + 1) _ n true (fun _ => false) hi (by omega) (by omega)
    rw [← h0] at hL
    cases h3 : brkL (s.length + 1) true (fun _ => false) (s.drop (bif [94].isPrefixOf (s.drop 1) then 2 else 1)) with
    | none =>
      rw [h3] at hL
      obtain ⟨a, w, hL⟩ := hL
      rw [hB _ _ hL]; rfl
    | some x =>
      obtain ⟨p, k⟩ := x
      rw [h3] at hL
      simp only [LoopOK] at hL
      simp only
      cases h4 : emptyP (bif [94].isPrefixOf (s.drop 1) then (fun j => !p j) else p) <;> rw [h4] at hL <;> simp only [cond_true, cond_false] at hL ⊢
      · rw [hT _ hL]; rfl
      · obtain ⟨a, w, hL⟩ := hL
        rw [hB _ _ hL]; rfl
def brkR : Option ((Nat → Bool) × Nat) → (Nat → Bool) × Int × Int
  | some (p, k) => (p, ((k : Nat) : Int), 0)
  | none => (fun _ => false, 0, 42)
theorem ref_loop {n : Nat} {s : List UInt8} {no : Bool} {b1 : List Bool} (hn : 300 ≤ n) (hsn : s.length < n) (hs : s.length < 1000000) : ∀ (f : Nat) (i m : Nat) (first : Bool) (q : Nat → Bool), i ≤ s.length → s.length - i < f → f ≤ m →
    fix (ref04_Bracket_loop0 n) m (s, (i : Int), no, first, b1, bx (fun _ => false), bx q, ()) = match brkL f first q (s.drop i) with
      | some (p, k) => bif emptyP (bif no then (fun j => !p j) else p) then some (bx (fun _ => false), 0, 42) else some (bx (bif no then (fun j => !p j) else p), ((i + k : Nat) : Int), 0)
      | none => some (bx (fun _ => false), 0, 42) := by
  intro f
  induction f with
  | zero => intro i m first q _ h; omega
  | succ f ih =>
    intro i m first q hi hf hm
    rw [fix_pos (by omega), ref04_Bracket_loop0]
    simp only
    have hlen : (s.drop i).length = s.length - i := List.length_drop
    have hpart : ref04_Bracket_join4 n (fix (ref04_Bracket_loop0 n) (m - 1)) (s, (i : Int), no, first, b1, bx (fun _ => false), bx q, ()) = match (match partS first (s.drop i) with
      | none => none
      | some (p, k) => match brkL f false (fun j => q j || p j) ((s.drop i).drop k) with
        | none => none
        | some (x, m) => some (x, k + m)) with
      | some (p, k) => bif emptyP (bif no then (fun j => !p j) else p) then some (bx (fun _ => false), 0, 42) else some (bx (bif no then (fun j => !p j) else p), ((i + k : Nat) : Int), 0)
      | none => some (bx (fun _ => false), 0, 42) := by
      rw [partR_eq hn hsn hi hs]
      cases h1 : partS first (s.drop i) with
      | none => rfl
      | some x =>
        obtain ⟨p, k⟩ := x
        have hk := partS_len h1
        rw [List.length_drop] at hk
        simp only
        rw [ih (i + k) (m - 1) false _ (by omega) (by omega) (by omega), List.drop_drop]
        cases h2 : brkL f false (fun j => q j || p j) (s.drop (i + k)) with
        | none => rfl
        | some y =>
          obtain ⟨p2, k2⟩ := y
          simp only
          rw [show i + (k + k2) = i + k + k2 by omega]
    have J2 : 1 ≤ (s.drop i).length → ref04_Bracket_join2 n (IntKind.wrap .i64 ((i : Int) + 1), no, b1, bx (fun _ => false), bx q, ()) = bif emptyP (bif no then (fun j => !q j) else q) then some (bx (fun _ => false), 0, 42) else some (bx (bif no then (fun j => !q j) else q), ((i + 1 : Nat) : Int), 0) := by
      intro h
      rw [wrapI (by omega) (by omega)]
      unfold ref04_Bracket_join2
      simp only [jn_e]
      cases no
      · simp only [br_f, cond_false, ref04_Bracket_join3, ref02_Size_eq hn, ob_s, emptyP_bytes]
        cases emptyP q <;> rfl
      · simp only [br_t, cond_true, ref02_Not_eq hn, ref04_Bracket_join3, ref02_Size_eq hn, ob_s, emptyP_bytes]
        cases emptyP (fun j => !q j) <;> rfl
    rw [brkL]
    cases hr : s.drop i with
    | nil =>
      rw [hr] at hlen hpart
      simp only [List.length_nil] at hlen
      rw [br_not (by simp; omega), jn_e, hpart]
      rfl
    | cons c t =>
      rw [hr] at hlen hpart J2
      simp only [List.length_cons] at hlen
      have e0 : getAt 0 s (i : Int) = c := getAt_drop (i := i) (j := 0) (by rw [hr]; rfl)
      rw [br_of (by simp; omega), chk_of (inBn (by omega)), e0, (cI c).2.2.2.2.2.2.1, jn_e, jn_e]
      rw [show [93].isPrefixOf (c :: t) = (93 == c) by simp [List.isPrefixOf]]
      cases (93 == c)
      · simp only [br_f, Bool.false_and, cond_false]
        exact hpart
      · cases first
        · simp only [br_t, Bool.not_false, Bool.and_true, cond_true]
          exact J2 (by simp)
        · simp only [br_t, br_f, Bool.not_true, Bool.and_false, cond_false]
          exact hpart
theorem ref04_Bracket_eq {n : Nat} {s : List UInt8} (hn : 400 ≤ n) (hsn : s.length + 10 < n) (hs : s.length < 1000000) : ref04_Bracket n s = some (bx (brkR (brkS s)).1, (brkR (brkS s)).2.1, (brkR (brkS s)).2.2) := by
  unfold ref04_Bracket brkS
  simp only
  cases s with
  | nil => rw [br_of (by rfl), ← bx_none]; rfl
  | cons c t =>
    rw [br_not (by simp; omega), chk_of (inB_t (by omega) (by simp))]
    rw [show getAt 0 (c :: t) 0 = c from rfl, bne, (cI c).1, jn_e, show [91].isPrefixOf (c :: t) = (91 == c) by simp [List.isPrefixOf]]
    cases (91 == c)
    · simp only [Bool.not_false, br_t, cond_false, ← bx_none]; rfl
    simp only [Bool.not_true, br_f, cond_true, List.drop_one, List.tail_cons]
    have J1 : ∀ (i : Nat) (no : Bool), i ≤ (c :: t).length → ref04_Bracket_join1 n (c :: t, (i : Int), no, List.replicate 256 false, List.replicate 256 false, ()) = match brkL ((c :: t).length + 1) true (fun _ => false) ((c :: t).drop i) with
      | some (p, k) => bif emptyP (bif no then (fun j => !p j) else p) then some (bx (fun _ => false), 0, 42) else some (bx (bif no then (fun j => !p j) else p), ((i + k : Nat) : Int), 0)
      | none => some (bx (fun _ => false), 0, 42) := by
      intro i no hi
      unfold ref04_Bracket_join1
      simp only
      rw [← bx_none]
      exact ref_loop (by omega) (by omega) hs ((c :: t).length + 1) i n true _ hi (by omega) (by omega)
    have fin : ∀ (i : Nat) (no : Bool), (match brkL ((c :: t).length + 1) true (fun _ => false) ((c :: t).drop i) with
      | some (p, k) => bif emptyP (bif no then (fun j => !p j) else p) then some (bx (fun _ => false), 0, 42) else some (bx (bif no then (fun j => !p j) else p), ((i + k : Nat) : Int), 0)
      | none => some (bx (fun _ => false), 0, 42)) = some (bx (brkR (match brkL ((c :: t).length + 1) true (fun _ => false) ((c :: t).drop i) with
        | none => none
        | some (p, k) => bif emptyP (bif no then (fun j => !p j) else p) then none else some (bif no then (fun j => !p j) else p, i + k))).1, (brkR (match brkL ((c :: t).length + 1) true (fun _ => false) ((c :: t).drop i) with
        | none => none
        | some (p, k) => bif emptyP (bif no then (fun j => !p j) else p) then none else some (bif no then (fun j => !p j) else p, i + k))).2.1, (brkR (match brkL ((c :: t).length + 1) true (fun _ => false) ((c :: t).drop i) with
        | none => none
        | some (p, k) => bif emptyP (bif no then (fun j => !p j) else p) then none else some (bif no then (fun j => !p j) else p, i + k))).2.2) := by
      intro i no
      cases brkL ((c :: t).length + 1) true (fun _ => false) ((c :: t).drop i) with
      | none => rfl
      | some x =>
        obtain ⟨p, k⟩ := x
        simp only
        cases emptyP (bif no then (fun j => !p j) else p) <;> rfl
    unfold ref04_Bracket_join0
    simp only [jn_e]
    cases t with
    | nil =>
      rw [br_not (by simp), show (1 : Int) = ((1 : Nat) : Int) from rfl, J1 1 false (by simp), fin]; rfl
    | cons d t =>
      rw [br_of (by simp; omega), chk_of (inB_t (by omega) (by simp; omega)), show getAt 0 (c :: d :: t) 1 = d from rfl, (cI d).2.2.2.2.2.2.2.2, show [94].isPrefixOf (d :: t) = (94 == d) by simp [List.isPrefixOf]]
      cases (94 == d)
      · simp only [br_f, cond_false]
        rw [show (1 : Int) = ((1 : Nat) : Int) from rfl, J1 1 false (by simp), fin]; rfl
      · simp only [br_t, cond_true]
        rw [show IntKind.wrap .i64 (1 + 1) = ((2 : Nat) : Int) from rfl, J1 2 true (by simp), fin]; rfl
end Go.Dec
