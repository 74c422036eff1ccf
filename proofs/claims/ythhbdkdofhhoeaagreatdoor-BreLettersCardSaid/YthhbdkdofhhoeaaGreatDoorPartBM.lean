/- Part of a proof over this seat: a library of my own, and what it says of this seat. No statement is proved here. -/
import Derived.Test.YthhbdkdofhhoeaaGreatDoorPartBB
import Derived.Test.YthhbdkdofhhoeaaGreatDoorPartAS
namespace Go.Dec
theorem aC {ρ : Type} {b : Bool} (h : b = true) (x : Option ρ) : chk b x = x := by subst h; rfl
theorem aD {ρ : Type} {b : Bool} (h : b = true) (x y : Option ρ) : br b x y = x := by subst h; rfl
theorem aA {ρ : Type} {b : Bool} (h : b = false) (x y : Option ρ) : br b x y = y := by subst h; rfl
@[simp] theorem Ai {α γ ρ : Type} (x : α) (k : α -> Option ρ) (k' : γ -> Option ρ) : ob2 (some (.inl x)) k k' = k x := rfl
@[simp] theorem iF {α γ ρ : Type} (x : γ) (k : α -> Option ρ) (k' : γ -> Option ρ) : ob2 (some (.inr x)) k k' = k' x := rfl
theorem pG {ρ α : Type} (f : α -> Option ρ) (x : α) : jn f x = f x := rfl
theorem wJ {ρ α : Type} {B : (α -> Option ρ) -> α -> Option ρ} (st : Nat -> α) {N : Nat} {r : Option ρ}
    (h1 : ∀ i, i < N -> ∀ g, B g (st i) = g (st (i + 1))) (h2 : ∀ g, B g (st N) = r) : ∀ k i n, i + k = N -> k < n -> fix B n (st i) = r := by
  intro k
  induction k with
  | zero => intro i n hi hn; rw [dM hn]; have : i = N := by omega
            subst this; exact h2 _
  | succ k ih => intro i n hi hn; rw [dM (by omega), h1 i (by omega)]; exact ih (i + 1) (n - 1) (by omega) (by omega)
theorem zGi {ρ α : Type} {B : (α -> Option ρ) -> α -> Option ρ} (st : Nat -> α) {lo N : Nat} {r : Option ρ}
    (h1 : ∀ i, lo <= i -> i < N -> ∀ g, B g (st i) = g (st (i + 1))) (h2 : ∀ g, B g (st N) = r) : ∀ k i n, i + k = N -> lo <= i -> k < n -> fix B n (st i) = r := by
  intro k
  induction k with
  | zero => intro i n hi hl hn; rw [dM hn]; have : i = N := by omega
            subst this; exact h2 _
  | succ k ih => intro i n hi hl hn; rw [dM (by omega), h1 i hl (by omega)]; exact ih (i + 1) (n - 1) (by omega) (by omega) (by omega)
theorem Cg {f : Nat -> Bool} {n : Nat} (h : (List.range n).all f = true) {i : Nat} (hi : i < n) : f i = true := by
 rw [List.all_eq_true] at h; exact h i (by simpa using hi)
def bn : (Nat -> Bool) -> Nat -> Nat
 | _, 0 => 0
 | f, k + 1 => (f 0).toNat + 2 * bn (fun i => f (i + 1)) k
theorem zJb : ∀ (k : Nat) (f : Nat -> Bool) (j : Nat), (bn f k).testBit j = (decide (j < k) && f j)
 | 0, f, j => by simp [bn]
 | k + 1, f, j => by
  unfold bn
  cases j with
  | zero => simp; cases f 0 <;> simp <;> omega
  | succ j =>
   rw [Nat.testBit_succ]
   have h : ((f 0).toNat + 2 * bn (fun i => f (i + 1)) k) / 2 = bn (fun i => f (i + 1)) k := by cases f 0 <;> simp <;> omega
   rw [h, zJb k]; simp
theorem zJc : ∀ (k : Nat) (f : Nat -> Bool), bn f k < 2 ^ k
 | 0, f => by simp [bn]
 | k + 1, f => by
  have := zJc k (fun i => f (i + 1))
  unfold bn
  cases f 0 <;> simp [Nat.pow_succ] <;> omega
theorem Rx : ∀ (k : Nat) {f g : Nat -> Bool}, (∀ j, j < k -> f j = g j) -> bn f k = bn g k
 | 0, f, g, h => rfl
 | k + 1, f, g, h => by
  unfold bn
  rw [h 0 (by omega), Rx k (fun j hj => h (j + 1) (by omega))]
theorem zUf {x k : Nat} {f : Nat -> Bool} (hx : x < 2 ^ k) (h : ∀ j, j < k -> x.testBit j = f j) : x = bn f k := by
 apply Nat.eq_of_testBit_eq
 intro j
 rw [zJb]
 by_cases hj : j < k
 ·simp [hj, h j hj]
 ·simp only [hj, decide_false, Bool.false_and]
  exact Nat.testBit_lt_two_pow (Nat.lt_of_lt_of_le hx (Nat.pow_le_pow_right (by omega) (by omega)))
def Aj (p : Nat -> Bool) (k : Nat) : Nat := bn (fun j => p (64 * k + j)) 64
def word (p : Nat -> Bool) (k : Nat) : Int := (Aj p k : Nat)
def wd (p : Nat -> Bool) : List Int := [word p 0, word p 1, word p 2, word p 3]
def bx (p : Nat -> Bool) : List Bool := (List.range 256).map p
theorem qA (p : Nat -> Bool) (k : Nat) : Aj p k < 2 ^ 64 := zJc _ _
theorem Ch (p : Nat -> Bool) (k j : Nat) : (Aj p k).testBit j = (decide (j < 64) && p (64 * k + j)) := zJb _ _ _
theorem Ry {x k : Nat} {p : Nat -> Bool} (hx : x < 2 ^ 64) (h : ∀ j, j < 64 -> x.testBit j = p (64 * k + j)) : x = Aj p k := zUf hx h
theorem wK {p q : Nat -> Bool} {k : Nat} (h : ∀ i, 64 * k <= i -> i < 64 * k + 64 -> p i = q i) : word p k = word q k := by
 unfold word Aj; rw [Rx 64 (fun j hj => h (64 * k + j) (by omega) (by omega))]
theorem vF {p q : Nat -> Bool} (h : ∀ i, i < 256 -> p i = q i) : wd p = wd q := by
 unfold wd
 rw [wK (fun i _ _ => h i (by omega)), wK (k := 1) (fun i _ _ => h i (by omega)), wK (k := 2) (fun i _ _ => h i (by omega)), wK (k := 3) (fun i _ _ => h i (by omega))]
theorem kI {p q : Nat -> Bool} (h : ∀ i, i < 256 -> p i = q i) : bx p = bx q := by
 unfold bx; apply List.map_congr_left; intro i hi; exact h i (by simpa using hi)
theorem word_inj {p q : Nat -> Bool} {k : Nat} (h : word p k = word q k) {i : Nat} (h1 : 64 * k <= i) (h2 : i < 64 * k + 64) : p i = q i := by
 have h : Aj p k = Aj q k := by unfold word at h; omega
 have := congrArg (fun x => x.testBit (i - 64 * k)) h
 simp only [Ch] at this
 rw [show 64 * k + (i - 64 * k) = i by omega] at this
 have h3 : i - 64 * k < 64 := by omega
 simpa [h3] using this
theorem zSq {p q : Nat -> Bool} (h : wd p = wd q) {i : Nat} (hi : i < 256) : p i = q i := by
 simp only [wd, List.cons.injEq, and_true] at h
 obtain ⟨h0, h1, h2, h3⟩ := h
 by_cases a : i < 64
 ·exact word_inj h0 (by omega) (by omega)
 ·by_cases b : i < 128
  ·exact word_inj h1 (by omega) (by omega)
  ·by_cases c : i < 192
   ·exact word_inj h2 (by omega) (by omega)
   ·exact word_inj h3 (by omega) (by omega)
theorem Gf {p : Nat -> Bool} {i : Nat} (d : Bool) (hi : i < 256) : (bx p).getD i d = p i := by
 simp [bx, List.getD_eq_getElem?_getD, hi]
theorem Ci {p : Nat -> Bool} {i : Nat} (b : Bool) : (bx p).set i b = bx (fun j => if j = i then b else p j) := by
 apply List.ext_getElem?
 intro j
 by_cases hj : j < 256
 ·simp only [bx, List.getElem?_set, List.length_map, List.length_range, List.getElem?_map]
  by_cases e : i = j
  ·subst e; simp [hj]
  ·simp [e, Ne.symm e, hj]
 ·simp only [bx, List.getElem?_set, List.length_map, List.length_range, List.getElem?_map]
  simp [hj]
  omega
theorem nA : wd (fun _ => false) = [0, 0, 0, 0] := by decide +kernel
theorem Gg : bx (fun _ => false) = List.replicate 256 false := by decide +kernel
theorem wrapN {x : Nat} (h : x < 2 ^ 64) : IntKind.u64.wrap ((x : Nat) : Int) = x := IntWalk.u64_in _ (by omega)
theorem bvN {x : Nat} (h : x < 2 ^ 64) : (BitVec.ofInt 64 ((x : Nat) : Int)).toNat = x := by
 rw [BitVec.toNat_ofInt]; omega
theorem ior {a b : Nat} (ha : a < 2 ^ 64) (hb : b < 2 ^ 64) : dF .u64 .or (a : Int) (b : Int) = ((a ||| b : Nat) : Int) := by
 show IntKind.u64.wrap ((BitVec.ofInt 64 (a : Int) ||| BitVec.ofInt 64 (b : Int)).toNat : Int) = _
 rw [BitVec.toNat_or, bvN ha, bvN hb]
 exact wrapN (Nat.or_lt_two_pow ha hb)
theorem zVs {a b : Nat} (ha : a < 2 ^ 64) (hb : b < 2 ^ 64) : dF .u64 .xor (a : Int) (b : Int) = ((a ^^^ b : Nat) : Int) := by
 show IntKind.u64.wrap ((BitVec.ofInt 64 (a : Int) ^^^ BitVec.ofInt 64 (b : Int)).toNat : Int) = _
 rw [BitVec.toNat_xor, bvN ha, bvN hb]
 exact wrapN (Nat.xor_lt_two_pow ha hb)
theorem zQi (p q : Nat -> Bool) (k : Nat) : dF .u64 .or (word p k) (word q k) = word (fun i => p i || q i) k := by
 unfold word
 rw [ior (qA _ _) (qA _ _), Ry (p := fun i => p i || q i) (Nat.or_lt_two_pow (qA p k) (qA q k))]
 intro j hj
 simp [Ch, hj]
theorem zQj (j : Nat) : (18446744073709551615 : Nat).testBit j = decide (j < 64) := by
 have := Nat.testBit_two_pow_sub_one 64 j
 simpa using this
theorem zNp (p : Nat -> Bool) (k : Nat) : dF .u64 .xor 18446744073709551615 (word p k) = word (fun i => !p i) k := by
 unfold word
 rw [show (18446744073709551615 : Int) = ((18446744073709551615 : Nat) : Int) from rfl]
 rw [zVs (by omega) (qA _ _), Ry (p := fun i => !p i) (Nat.xor_lt_two_pow (by omega) (qA p k))]
 intro j hj
 simp [Nat.testBit_xor, zQj, Ch, hj]
theorem zLb (p : Nat -> Bool) {i : Nat} (hi : i < 256) : (wd p).set (i / 64) (dF .u64 .or ((wd p).getD (i / 64) 0) (((2 ^ (i % 64) : Nat)) : Int)) = wd (fun j => p j || decide (j = i)) := by
 have hb : 2 ^ (i % 64) < 2 ^ 64 := Nat.pow_lt_pow_right (by omega) (by omega)
 have hw : ∀ k, k = i / 64 -> dF .u64 .or (word p k) (((2 ^ (i % 64) : Nat)) : Int) = word (fun j => p j || decide (j = i)) k := by
  intro k hk
  unfold word
  rw [ior (qA _ _) hb, Ry (p := fun j => p j || decide (j = i)) (Nat.or_lt_two_pow (qA p k) hb)]
  intro j hj
  simp only [Nat.testBit_or, Ch, Nat.testBit_two_pow, hj, decide_true, Bool.true_and]
  congr 1
  apply decide_eq_decide.2
  omega
 have ho : ∀ k, k ≠ i / 64 -> word p k = word (fun j => p j || decide (j = i)) k := by
  intro k hk
  apply wK
  intro j h1 h2
  have : j ≠ i := by omega
  simp [this]
 have hk : i / 64 = 0 ∨ i / 64 = 1 ∨ i / 64 = 2 ∨ i / 64 = 3 := by omega
 rcases hk with h | h | h | h <;> rw [h] <;> simp only [wd, List.getD_cons_zero, List.getD_cons_succ, List.set_cons_zero, List.set_cons_succ]
 ·rw [hw 0 h.symm, ho 1 (by omega), ho 2 (by omega), ho 3 (by omega)]
 ·rw [hw 1 h.symm, ho 0 (by omega), ho 2 (by omega), ho 3 (by omega)]
 ·rw [hw 2 h.symm, ho 0 (by omega), ho 1 (by omega), ho 3 (by omega)]
 ·rw [hw 3 h.symm, ho 0 (by omega), ho 1 (by omega), ho 2 (by omega)]
theorem zLc : ((List.range 256).all fun i => decide (mU .i64 (i : Int) 6 = ((i / 64 : Nat) : Int)) && decide (Jq .u64 1 (dF .i64 .and (i : Int) 63) = ((2 ^ (i % 64) : Nat) : Int)) && decide (0 <= dF .i64 .and (i : Int) 63)
 && decide (mU .u8 (i : Int) 6 = ((i / 64 : Nat) : Int)) && decide (Jq .u64 1 (dF .u8 .and (i : Int) 63) = ((2 ^ (i % 64) : Nat) : Int)) && decide (0 <= dF .u8 .and (i : Int) 63)) = true := by decide +kernel
theorem zVt {i : Nat} (hi : i < 256) : mU .i64 (i : Int) 6 = ((i / 64 : Nat) : Int) ∧ Jq .u64 1 (dF .i64 .and (i : Int) 63) = ((2 ^ (i % 64) : Nat) : Int) ∧ 0 <= dF .i64 .and (i : Int) 63 := by
 have := Cg zLc hi
 simp only [Bool.and_eq_true, decide_eq_true_eq] at this
 exact ⟨this.1.1.1.1.1, this.1.1.1.1.2, this.1.1.1.2⟩
theorem zVu {i : Nat} (hi : i < 256) : mU .u8 (i : Int) 6 = ((i / 64 : Nat) : Int) ∧ Jq .u64 1 (dF .u8 .and (i : Int) 63) = ((2 ^ (i % 64) : Nat) : Int) ∧ 0 <= dF .u8 .and (i : Int) 63 := by
 have := Cg zLc hi
 simp only [Bool.and_eq_true, decide_eq_true_eq] at this
 exact ⟨this.1.1.2, this.1.2, this.2⟩
theorem Ii : Ty.dflt (.int .u64) = (0 : Int) := rfl
def bI (a b : Nat) : Nat -> Bool := fun i => decide (a <= i) && decide (i <= b)
theorem zGj {p q : Nat -> Bool} (h : ∀ i, i < 256 -> p i = q i) : some (wd p) = some (wd q) := by rw [vF h]
theorem Oj {p q : Nat -> Bool} (h : ∀ i, i < 256 -> p i = q i) : some (bx p) = some (bx q) := by rw [kI h]
theorem wL {n a b : Nat} (hn : 300 <= n) (ha : a < 256) (hb : b < 256) : bQ n ((a : Int), (b : Int)) = some (wd (bI a b)) := by
 unfold bQ
 simp only
 rw [bG (by omega) (by omega)]
 by_cases hab : a <= b
 ·have := zGi (lo := a) (B := nM n) (r := some (wd (bI a b))) (N := b + 1) (fun i => ((b : Int), (i : Int), wd (fun j => decide (a <= j) && decide (j < i)), ()))
   (by
    intro i hlo hi g
    have hi2 : i < 256 := by omega
    obtain ⟨s1, s2, s3⟩ := zVt hi2
    rw [nM]
    simp only
    have hc : i <= b := by omega
    rw [bG (by omega) (by omega), s1, s2]
    rw [aD (by simp; omega), aC (by decide), aC (fF (by omega) (by omega)), aC (by simp; omega), aC (by simpa using s3), aC (fF (by omega) (by omega)), aC (by simp; omega)]
    rw [bG (by omega) (by omega), Ii, Int.toNat_natCast, zLb _ hi2]
    have : wd (fun j => (decide (a <= j) && decide (j < i)) || decide (j = i)) = wd (fun j => decide (a <= j) && decide (j < i + 1)) := by
     refine vF fun j hj => ?_
     rw [Bool.eq_iff_iff]; simp; omega
    rw [this]; rfl)
   (by
    intro g
    rw [nM]
    simp only
    rw [aA (by rw [bG (by omega) (by omega)]; simp; omega)]
    refine zGj fun i hi => ?_
    simp only [bI]; rw [Bool.eq_iff_iff]; simp; omega)
   (b + 1 - a) a n (by omega) (by omega) (by omega)
  have e : wd (fun j => decide (a <= j) && decide (j < a)) = [0, 0, 0, 0] := by
   rw [<- nA]; refine vF fun j hj => ?_
   rw [Bool.eq_iff_iff]; simp
  simp only [e] at this
  exact this
 ·rw [dM (by omega), nM]
  simp only
  rw [aA (by rw [bG (by omega) (by omega)]; simp; omega), <- nA]
  refine zGj fun j hj => ?_
  simp only [bI]; rw [Bool.eq_iff_iff]; simp; omega
theorem Vh {n : Nat} (hn : 5 <= n) (p : Nat -> Bool) : Aq n (wd p) = some (wd fun i => !p i) := by
 obtain ⟨m, rfl⟩ : ∃ m, n = m + 5 := ⟨n - 5, by omega⟩
 have h := zNp p
 have e : wd (fun i => !p i) = [dF .u64 .xor 18446744073709551615 (word p 0), dF .u64 .xor 18446744073709551615 (word p 1), dF .u64 .xor 18446744073709551615 (word p 2), dF .u64 .xor 18446744073709551615 (word p 3)] := by rw [h, h, h, h]; rfl
 rw [e]
 rfl
theorem zJd {n : Nat} (hn : 5 <= n) (g0 : List (List Int) × Int × Int × List Int × Unit -> Option (List Int)) (l : List (List Int)) (c i : Int) (p q : Nat -> Bool) :
  fix (Lc n g0) n (l, c, i, 0, wd p, wd q, ()) = g0 (l, c, IntKind.wrap .i64 (i + 1), wd (fun i => p i || q i), ()) := by
 obtain ⟨m, rfl⟩ : ∃ m, n = m + 5 := ⟨n - 5, by omega⟩
 have h := zQi p q
 have e : wd (fun i => p i || q i) = [dF .u64 .or (word p 0) (word q 0), dF .u64 .or (word p 1) (word q 1), dF .u64 .or (word p 2) (word q 2), dF .u64 .or (word p 3) (word q 3)] := by rw [h, h, h, h]; rfl
 rw [e]
 rfl
theorem Yz {n : Nat} (ps : List (Nat -> Bool)) (hn : 5 <= n) (hl : ps.length < n) (hm : ps.length < 1000) : lW n (ps.map wd) = some (wd fun i => ps.any (· i)) := by
 unfold lW
 simp only [List.length_map]
 have := wJ (B := vU n) (r := some (wd fun i => ps.any (· i))) (N := ps.length) (fun i => (ps.map wd, (ps.length : Int), (i : Int), wd (fun j => (ps.take i).any (· j)), ()))
  (by
   intro i hi g
   rw [vU]
   simp only
   rw [aD (by simp; omega), aC (fF (by omega) (by simp; omega))]
   have hg : aQ (Ty.dflt (.arr 4 (.int .u64))) (ps.map wd) (i : Int) = wd ps[i] := by
    simp [aQ, List.getD_eq_getElem?_getD, hi]
   rw [hg, zJd hn, bG (by omega) (by omega)]
   have hw : wd (fun j => (ps.take i).any (· j) || ps[i] j) = wd (fun j => (ps.take (i + 1)).any (· j)) := by
    refine vF fun j hj => ?_
    rw [List.take_succ_eq_append_getElem hi, List.any_append]; simp
   rw [hw]; rfl)
  (by
   intro g
   rw [vU]
   simp only
   rw [aA (by simp)]
   simp)
  ps.length 0 n (by omega) hl
 simpa [nA] using this
def ofP (s : List UInt8) : Nat -> Bool := fun i => s.any fun c => decide (c.toNat = i)
theorem jC {α : Type} {d : α} {s : List α} {i : Nat} (h : i < s.length) : aQ d s (i : Int) = s[i] := by
 simp [aQ, List.getD_eq_getElem?_getD, h]
theorem zDi {s : List UInt8} {i : Nat} (h : i < s.length) : ofP (s.take (i + 1)) = fun j => ofP (s.take i) j || decide (j = s[i].toNat) := by
 funext j
 simp only [ofP]
 rw [List.take_succ_eq_append_getElem h, List.any_append]
 simp [eq_comm]
theorem Mx {n : Nat} (s : List UInt8) (hl : s.length < n) (hm : s.length < 100000) : nN n s = some (wd (ofP s)) := by
 unfold nN
 simp only
 have := wJ (B := vV n) (r := some (wd (ofP s))) (N := s.length) (fun i => (s, (s.length : Int), (i : Int), wd (ofP (s.take i)), ()))
  (by
   intro i hi g
   have hc : s[i].toNat < 256 := s[i].toNat_lt
   obtain ⟨s1, s2, s3⟩ := zVu hc
   rw [vV]
   simp only
   rw [jC hi, s1, s2]
   rw [aD (by simp; omega), aC (iN hi), aC (by decide), aC (fF (by omega) (by omega)), aC (by simp; omega), aC (iN hi), aC (by simpa using s3), aC (fF (by omega) (by omega)), aC (by simp; omega)]
   rw [bG (by omega) (by omega), Ii, Int.toNat_natCast, zLb _ hc, zDi hi]
   rfl)
  (by
   intro g
   rw [vV]
   simp only
   rw [aA (by simp)]
   simp)
  s.length 0 n (by omega) hl
 have e : wd (ofP (s.take 0)) = [0, 0, 0, 0] := by rw [<- nA]; rfl
 simp only [e] at this
 simpa using this
theorem Xn {n a b : Nat} (hn : 300 <= n) (ha : a < 256) (hb : b < 256) : eD n ((a : Int), (b : Int)) = some (bx (bI a b)) := by
 unfold eD
 simp only
 rw [bG (by omega) (by omega)]
 by_cases hab : a <= b
 ·have := zGi (lo := a) (B := kQ n) (r := some (bx (bI a b))) (N := b + 1) (fun i => ((b : Int), (i : Int), List.replicate 256 false, bx (fun j => decide (a <= j) && decide (j < i)), ()))
   (by
    intro i hlo hi g
    have hi2 : i < 256 := by omega
    rw [kQ]
    simp only
    have hc : i <= b := by omega
    rw [bG (by omega) (by omega)]
    rw [aD (by simp; omega), aC (fF (by omega) (by omega)), aC (by simp; omega)]
    rw [bG (by omega) (by omega), Int.toNat_natCast, Ci]
    have : bx (fun j => if j = i then true else (decide (a <= j) && decide (j < i))) = bx (fun j => decide (a <= j) && decide (j < i + 1)) := by
     refine kI fun j hj => ?_
     rw [Bool.eq_iff_iff]; split <;> simp <;> omega
    rw [this]; rfl)
   (by
    intro g
    rw [kQ]
    simp only
    rw [aA (by rw [bG (by omega) (by omega)]; simp; omega)]
    refine Oj fun i hi => ?_
    simp only [bI]; rw [Bool.eq_iff_iff]; simp; omega)
   (b + 1 - a) a n (by omega) (by omega) (by omega)
  have e : bx (fun j => decide (a <= j) && decide (j < a)) = List.replicate 256 false := by
   rw [<- Gg]; refine kI fun j hj => ?_
   rw [Bool.eq_iff_iff]; simp
  simp only [e] at this
  exact this
 ·rw [dM (by omega), kQ]
  simp only
  rw [aA (by rw [bG (by omega) (by omega)]; simp; omega), <- Gg]
  refine Oj fun j hj => ?_
  simp only [bI]; rw [Bool.eq_iff_iff]; simp; omega
theorem zFj {n : Nat} (hn : 300 <= n) (p q : Nat -> Bool) : pV n (bx p, bx q) = some (bx fun i => p i || q i) := by
 unfold pV
 simp only
 have := wJ (B := sD n) (r := some (bx fun i => p i || q i)) (N := 256) (fun i => ((i : Int), bx (fun j => if j < i then p j || q j else p j), bx q, List.replicate 256 false, ()))
  (by
   intro i hi g
   have key : ∀ b, b = (p i || q i) -> (g (((i + 1 : Nat) : Int), bx (fun j => if j = i then b else if j < i then p j || q j else p j), bx q, List.replicate 256 false, ()) = g (((i + 1 : Nat) : Int), bx (fun j => if j < i + 1 then p j || q j else p j), bx q, List.replicate 256 false, ())) := by
    intro b hb
    have : bx (fun j => if j = i then b else if j < i then p j || q j else p j) = bx (fun j => if j < i + 1 then p j || q j else p j) := by
     refine kI fun j hj => ?_
     by_cases e : j = i
     ·subst e; simp [hb]
     ·by_cases e2 : j < i
      ·simp [e, e2, Nat.lt_succ_of_lt e2]
      ·simp [e, e2, show ¬ j < i + 1 by omega]
    rw [this]
   rw [sD]
   simp only
   rw [aD (by simp; omega), aC (fF (by omega) (by omega)), aC (by simp; omega), aC (fF (by omega) (by omega)), aC (by simp; omega)]
   rw [bG (by omega) (by omega), Int.toNat_natCast, Gf _ hi, Gf _ hi, Ci, Ci, show (i : Int) + 1 = ((i + 1 : Nat) : Int) from rfl]
   simp only [Nat.lt_irrefl, if_false]
   cases hp : p i
   ·rw [aA rfl, aC (fF (by omega) (by omega)), aC (decide_eq_true hi), aC (fF (by omega) (by omega)), aC (decide_eq_true hi)]; rw [key (q i) (by rw [hp]; rfl)]
   ·rw [aD rfl]; exact key true (by rw [hp]; rfl))
  (by
   intro g
   rw [sD]
   simp only
   rw [aA (by simp)]
   refine Oj fun i hi => ?_
   simp [hi])
  256 0 n (by omega) (by omega)
 have e : bx (fun j => if j < 0 then p j || q j else p j) = bx p := kI fun j hj => by simp
 rw [e] at this
 exact this
theorem Qg {n : Nat} (s : List UInt8) (hl : s.length < n) (hm : s.length < 100000) : lZ n s = some (bx (ofP s)) := by
 unfold lZ
 simp only
 have := wJ (B := sF n) (r := some (bx (ofP s))) (N := s.length) (fun i => (s, (i : Int), List.replicate 256 false, bx (ofP (s.take i)), ()))
  (by
   intro i hi g
   have hc : s[i].toNat < 256 := s[i].toNat_lt
   rw [sF]
   simp only
   rw [jC hi]
   rw [aD (by simp; omega), aC (iN hi), aC (fF (by omega) (by omega)), aC (by simp; omega)]
   rw [bG (by omega) (by omega), Int.toNat_natCast, Ci, zDi hi]
   have : bx (fun j => if j = s[i].toNat then true else ofP (s.take i) j) = bx (fun j => ofP (s.take i) j || decide (j = s[i].toNat)) := by
    refine kI fun j hj => ?_
    by_cases e : j = s[i].toNat
    ·rw [if_pos e]; simp [e]
    ·rw [if_neg e]; simp [e]
   rw [this]; rfl)
  (by
   intro g
   rw [sF]
   simp only
   rw [aA (by simp)]
   simp)
  s.length 0 n (by omega) hl
 have e : bx (ofP (s.take 0)) = List.replicate 256 false := by rw [<- Gg]; rfl
 simp only [e] at this
 exact this
def mE (p : Nat -> Bool) : List UInt8 := ((List.range 256).filter p).map UInt8.ofNat
theorem Xo {n : Nat} (hn : 300 <= n) (p : Nat -> Bool) : tV n (bx p) = some (mE p) := by
 unfold tV
 simp only
 have := wJ (B := oK n) (r := some (mE p)) (N := 256) (fun i => ((i : Int), bx p, ((List.range i).filter p).map (fun j => ((j : Nat) : Int)), ()))
  (by
   intro i hi g
   have hle : ((List.range i).filter p).length <= i := by have := List.length_filter_le p (List.range i); simpa using this
   rw [oK]
   simp only
   rw [aD (by simp; omega), aC (fF (by omega) (by omega)), aC (by simp; omega)]
   rw [bG (by omega) (by omega), Int.toNat_natCast, Gf _ hi, show (i : Int) + 1 = ((i + 1 : Nat) : Int) from rfl, IntWalk.u8_in _ (by omega), List.range_succ]
   cases hp : p i
   ·rw [aA rfl]; simp [hp]
   ·rw [aD rfl, aC (by simp [room]; omega)]; simp [hp])
  (by
   intro g
   rw [oK]
   simp only
   rw [aA (by simp)]
   simp [lU, mE])
  256 0 n (by omega) (by omega)
 exact this
theorem Vi (p : Nat -> Bool) : (mE p).length <= 256 := by
 have := List.length_filter_le p (List.range 256); simpa [mE] using this
theorem zSr {p : Nat -> Bool} : wd p = [0, 0, 0, 0] <-> ∀ i, i < 256 -> p i = false := by
 rw [<- nA]
 exact ⟨fun h i hi => zSq h hi, fun h => vF h⟩
theorem zVv {p q : Nat -> Bool} : Ty.beq (.arr 4 (.int .u64)) (wd p) (wd q) = true <-> wd p = wd q := beq_iff rfl
def vN (p : Nat -> Bool) (i k : Nat) : Nat := bn (fun j => p (max i (64 * k) + j)) (64 * (k + 1) - max i (64 * k))
def vW (p : Nat -> Bool) (i : Nat) : List Int := [((vN p i 0 : Nat) : Int), ((vN p i 1 : Nat) : Int), ((vN p i 2 : Nat) : Int), ((vN p i 3 : Nat) : Int)]
theorem zPd (p : Nat -> Bool) (i k : Nat) : vN p i k < 2 ^ 64 := by
 unfold vN
 exact Nat.lt_of_lt_of_le (zJc _ _) (Nat.pow_le_pow_right (by omega) (by omega))
theorem zGk (p : Nat -> Bool) {i k : Nat} (h : i / 64 = k) : vN p i k = (p i).toNat + 2 * vN p (i + 1) k := by
 unfold vN
 have h1 : max i (64 * k) = i := by omega
 have h2 : max (i + 1) (64 * k) = i + 1 := by omega
 rw [h1, h2, show 64 * (k + 1) - i = (64 * (k + 1) - (i + 1)) + 1 by omega]
 rw [bn]
 congr 2
 apply Rx
 intro j hj
 show p (i + (j + 1)) = p (i + 1 + j)
 congr 1; omega
theorem zDj (p : Nat -> Bool) {i k : Nat} (h : i / 64 ≠ k) : vN p (i + 1) k = vN p i k := by
 unfold vN
 by_cases h1 : i < 64 * k
 ·have h1' : max i (64 * k) = 64 * k := by omega
  have h2 : max (i + 1) (64 * k) = 64 * k := by omega
  rw [h1', h2]
 ·have h3 : 64 * (k + 1) - max i (64 * k) = 0 := by omega
  have h4 : 64 * (k + 1) - max (i + 1) (64 * k) = 0 := by omega
  rw [h3, h4]; rfl
theorem zGl (p : Nat -> Bool) : vW p 0 = wd p := by
 unfold vW wd word Aj vN
 simp [show ∀ k, max 0 (64 * k) = 64 * k by omega]
theorem zSs (p : Nat -> Bool) {i : Nat} (hi : i < 256) : (vW p (i + 1)).set (i / 64) ((vN p i (i / 64) : Nat) : Int) = vW p i := by
 have hk : i / 64 = 0 ∨ i / 64 = 1 ∨ i / 64 = 2 ∨ i / 64 = 3 := by omega
 have ho : ∀ k, i / 64 ≠ k -> vN p (i + 1) k = vN p i k := fun k h => zDj p h
 rcases hk with h | h | h | h <;> rw [h] <;> simp only [vW, List.set_cons_zero, List.set_cons_succ]
 ·rw [ho 1 (by omega), ho 2 (by omega), ho 3 (by omega)]
 ·rw [ho 0 (by omega), ho 2 (by omega), ho 3 (by omega)]
 ·rw [ho 0 (by omega), ho 1 (by omega), ho 3 (by omega)]
 ·rw [ho 0 (by omega), ho 1 (by omega), ho 2 (by omega)]
theorem zQk (p : Nat -> Bool) {i : Nat} (hi : i < 256) : (vW p i).set (i / 64) ((vN p (i + 1) (i / 64) : Nat) : Int) = vW p (i + 1) := by
 have hk : i / 64 = 0 ∨ i / 64 = 1 ∨ i / 64 = 2 ∨ i / 64 = 3 := by omega
 have ho : ∀ k, i / 64 ≠ k -> vN p (i + 1) k = vN p i k := fun k h => zDj p h
 rcases hk with h | h | h | h <;> rw [h] <;> simp only [vW, List.set_cons_zero, List.set_cons_succ]
 ·rw [ho 1 (by omega), ho 2 (by omega), ho 3 (by omega)]
 ·rw [ho 0 (by omega), ho 2 (by omega), ho 3 (by omega)]
 ·rw [ho 0 (by omega), ho 1 (by omega), ho 3 (by omega)]
 ·rw [ho 0 (by omega), ho 1 (by omega), ho 2 (by omega)]
theorem zLd (p : Nat -> Bool) {i k : Nat} (hk : k < 4) : (vW p i).getD k 0 = ((vN p i k : Nat) : Int) := by
 have : k = 0 ∨ k = 1 ∨ k = 2 ∨ k = 3 := by omega
 rcases this with rfl | rfl | rfl | rfl <;> rfl
theorem zSt (p : Nat -> Bool) (i : Nat) : (vW p i).length = 4 := rfl
theorem Xp {n : Nat} (hn : 300 <= n) (p : Nat -> Bool) : lF n (bx p) = some (wd p) := by
 unfold lF
 simp only
 have := wJ (B := oL n) (r := some (wd p)) (N := 256) (fun i => (255 - (i : Int), bx p, [0, 0, 0, 0], vW p (256 - i), ()))
  (by
   intro i hi g
   obtain ⟨j, hj⟩ : ∃ j, j = 255 - i := ⟨_, rfl⟩
   have e1 : (255 : Int) - (i : Int) = (j : Int) := by omega
   have e2 : 256 - i = j + 1 := by omega
   have e3 : (255 : Int) - ((i + 1 : Nat) : Int) = (j : Int) - 1 := by omega
   have e4 : 256 - (i + 1) = j := by omega
   have hj2 : j < 256 := by omega
   have hk : j / 64 < 4 := by omega
   have hv : IntKind.wrap .i64 (Int.tdiv (j : Int) 64) = ((j / 64 : Nat) : Int) := by
    rw [IntWalk.i64_quo _ _ (by omega)]; rfl
   have hs := zGk p (i := j) rfl
   have hlt := zPd p j (j / 64)
   rw [e1, e2, e3, e4, oL]
   simp only
   rw [aD (by simp), aC (by decide), aC (by decide), hv, aC (fF (by omega) (by omega)), aC (by simp; omega), aC (fF (by omega) (by omega)), aC (by simp; omega), aC (fF (by omega) (by omega)), aC (by simp; omega)]
   rw [Int.toNat_natCast, Int.toNat_natCast, Ii, zLd p hk, Gf _ hj2, bG (by omega) (by omega)]
   rw [<- zSs p hj2]
   cases hp : p j
   ·rw [aA rfl]
    rw [hp] at hs
    rw [IntWalk.u64_in _ (by simp at hs; omega)]
    have : ((vN p (j + 1) (j / 64) : Nat) : Int) * 2 = ((vN p j (j / 64) : Nat) : Int) := by simp at hs; omega
    rw [this]
   ·rw [aD rfl, aC (by decide), aC (fF (by omega) (by omega)), aC (by simp; omega), aC (fF (by omega) (by omega)), aC (by simp; omega)]
    rw [hp] at hs
    simp only [Bool.toNat_true] at hs
    rw [IntWalk.u64_in _ (by omega)]
    have hg : ∀ y, ((vW p (j + 1)).set (j / 64) y).getD (j / 64) 0 = y := by
     intro y
     rw [List.getD_eq_getElem?_getD, List.getElem?_set_self (by rw [zSt]; exact hk)]; rfl
    rw [hg, IntWalk.u64_in _ (by omega), List.set_set]
    have : ((vN p (j + 1) (j / 64) : Nat) : Int) * 2 + 1 = ((vN p j (j / 64) : Nat) : Int) := by omega
    rw [this])
  (by
   intro g
   rw [oL]
   simp only
   rw [aA (by simp)]
   rw [show 256 - 256 = 0 from rfl, zGl])
  256 0 n (by omega) (by omega)
 exact this
theorem zAc {n : Nat} (hn : 300 <= n) (p : Nat -> Bool) : wD n (wd p) = some (bx p) := by
 unfold wD
 simp only
 have := wJ (B := pW n) (r := some (bx p)) (N := 256) (fun i => ((i : Int), vW p i, List.replicate 256 false, bx (fun j => decide (j < i) && p j), ()))
  (by
   intro i hi g
   have hk : i / 64 < 4 := by omega
   have hv : IntKind.wrap .i64 (Int.tdiv (i : Int) 64) = ((i / 64 : Nat) : Int) := by
    rw [IntWalk.i64_quo _ _ (by omega)]; rfl
   have hs := zGk p (i := i) rfl
   have hlt := zPd p i (i / 64)
   rw [pW]
   simp only
   rw [hv, Int.toNat_natCast, Int.toNat_natCast, Ii, zLd p hk, Ci]
   have e1 : IntKind.wrap .u64 (Int.tdiv ((vN p i (i / 64) : Nat) : Int) 2) = ((vN p (i + 1) (i / 64) : Nat) : Int) := by
    rw [IntWalk.u64_quo _ _ (by omega)]
    cases hp : p i <;> rw [hp] at hs <;> simp at hs <;> omega
   have e2 : (Int.tmod ((vN p i (i / 64) : Nat) : Int) 2 == 1) = p i := by
    rw [Int.tmod_eq_emod_of_nonneg (by omega)]
    cases hp : p i <;> rw [hp] at hs <;> simp at hs <;> simp <;> omega
   rw [e1, e2, zQk p hi]
   rw [aD (by simp; omega), aC (by decide), aC (fF (by omega) (by omega)), aC (by simp; omega), aC (by decide), aC (fF (by omega) (by omega)), aC (by simp; omega), aC (by decide), aC (by decide), aC (fF (by omega) (by omega)), aC (by simp; omega), aC (by decide), aC (fF (by omega) (by omega)), aC (by simp; omega)]
   rw [bG (by omega) (by omega)]
   have : bx (fun j => if j = i then p i else decide (j < i) && p j) = bx (fun j => decide (j < i + 1) && p j) := by
    refine kI fun j hj => ?_
    by_cases e : j = i
    ·subst e; simp
    ·rw [if_neg e]; congr 1; apply decide_eq_decide.2; omega
   rw [this]; rfl)
  (by
   intro g
   rw [pW]
   simp only
   rw [aA (by simp)]
   refine Oj fun i hi => ?_
   simp [hi])
  256 0 n (by omega) (by omega)
 have e : bx (fun j => decide (j < 0) && p j) = List.replicate 256 false := by rw [<- Gg]; exact kI fun j hj => by simp
 rw [e, zGl] at this
 exact this
theorem Vj {n : Nat} (hn : 300 <= n) (p q : Nat -> Bool) : fix (kR n) n (0, List.replicate 256 false, bx p, bx q, ()) = some (bx (fun i => q i && !p i), true) := by
 have := wJ (B := kR n) (r := some (bx (fun i => q i && !p i), true)) (N := 256) (fun i => ((i : Int), List.replicate 256 false, bx p, bx (fun j => if j < i then q j && !p j else q j), ()))
  (by
   intro i hi g
   have key : ∀ b, b = (q i && !p i) -> (g (((i + 1 : Nat) : Int), List.replicate 256 false, bx p, bx (fun j => if j = i then b else if j < i then q j && !p j else q j), ()) = g (((i + 1 : Nat) : Int), List.replicate 256 false, bx p, bx (fun j => if j < i + 1 then q j && !p j else q j), ())) := by
    intro b hb
    have : bx (fun j => if j = i then b else if j < i then q j && !p j else q j) = bx (fun j => if j < i + 1 then q j && !p j else q j) := by
     refine kI fun j hj => ?_
     by_cases e : j = i
     ·subst e; simp [hb]
     ·by_cases e2 : j < i
      ·simp [e, e2, Nat.lt_succ_of_lt e2]
      ·simp [e, e2, show ¬ j < i + 1 by omega]
    rw [this]
   rw [kR]
   simp only
   rw [aD (by simp; omega), aC (fF (by omega) (by omega)), aC (by simp; omega)]
   rw [bG (by omega) (by omega), Int.toNat_natCast, Gf _ hi, Gf _ hi, Ci, Ci, show (i : Int) + 1 = ((i + 1 : Nat) : Int) from rfl]
   simp only [Nat.lt_irrefl, if_false]
   cases hq : q i
   ·rw [aA rfl, aC (fF (by omega) (by omega)), aC (decide_eq_true hi)]; exact key false (by rw [hq]; rfl)
   ·rw [aD rfl, aC (fF (by omega) (by omega)), aC (decide_eq_true hi), aC (fF (by omega) (by omega)), aC (decide_eq_true hi)]; exact key (!p i) (by rw [hq]; rfl))
  (by
   intro g
   rw [kR]
   simp only
   rw [aA (by simp)]
   have e : bx (fun j => if j < 256 then q j && !p j else q j) = bx (fun i => q i && !p i) := kI fun j hj => by simp [hj]
   rw [e])
  256 0 n (by omega) (by omega)
 have e : bx (fun j => if j < 0 then q j && !p j else q j) = bx q := kI fun j hj => by simp
 rw [e] at this
 exact this
def zDk (ps : List (Nat -> Bool)) : Nat -> Bool := fun i => ps.any (· i)
def Gh (s : List UInt8) : Option (Nat -> Bool) :=
 bif s == [117, 112, 112, 101, 114] then some (bI 65 90)
 else bif s == [108, 111, 119, 101, 114] then some (bI 97 122)
 else bif s == [97, 108, 112, 104, 97] then some (zDk [bI 65 90, bI 97 122])
 else bif s == [100, 105, 103, 105, 116] then some (bI 48 57)
 else bif s == [97, 108, 110, 117, 109] then some (zDk [bI 65 90, bI 97 122, bI 48 57])
 else bif s == [120, 100, 105, 103, 105, 116] then some (zDk [bI 48 57, bI 65 70, bI 97 102])
 else bif s == [98, 108, 97, 110, 107] then some (ofP [32, 9])
 else bif s == [115, 112, 97, 99, 101] then some (ofP [32, 9, 10, 11, 12, 13])
 else bif s == [99, 110, 116, 114, 108] then some (zDk [bI 0 31, ofP [127]])
 else bif s == [103, 114, 97, 112, 104] then some (bI 33 126)
 else bif s == [112, 114, 105, 110, 116] then some (bI 32 126)
 else bif s == [112, 117, 110, 99, 116] then some (zDk [bI 33 47, bI 58 64, bI 91 96, bI 123 126])
 else none
def zGm (o : Option (Nat -> Bool)) (a : Option (List Int × Bool)) (b : Option (List Bool × Bool)) : Prop := match o with
 | some p => a = some (wd p, true) ∧ b = some (bx p, true)
 | none => a = some (wd fun _ => false, false) ∧ ∃ p, b = some (bx p, false)
theorem gY {p q : Nat -> Bool} (h : ((List.range 256).all fun i => p i == q i) = true) (o : Option (List Int × Bool)) (o2 : Option (List Bool × Bool)) (h1 : o = some (wd p, true)) (h2 : o2 = some (bx q, true)) :
  zGm (some p) o o2 := by
 refine ⟨h1, ?_⟩
 rw [h2]
 have : bx q = bx p := kI fun i hi => by have := Cg h hi; simp at this; exact this.symm
 rw [this]
theorem zJe {n : Nat} (hn : 300 <= n) (s : List UInt8) : zGm (Gh s) (yO n s) (Pz n s) := by
 have R : ∀ a b : Nat, a < 256 -> b < 256 -> bQ n ((a : Int), (b : Int)) = some (wd (bI a b)) := fun a b ha hb => wL hn ha hb
 have R2 : ∀ a b : Nat, a < 256 -> b < 256 -> eD n ((a : Int), (b : Int)) = some (bx (bI a b)) := fun a b ha hb => Xn hn ha hb
 have O : ∀ ps : List (Nat -> Bool), ps.length < 10 -> lW n (ps.map wd) = some (wd fun i => ps.any (· i)) := fun ps h => Yz ps (by omega) (by omega) (by omega)
 have O2 := fun p q => zFj hn p q
 have F : ∀ s : List UInt8, s.length < 10 -> nN n s = some (wd (ofP s)) := fun s h => Mx s (by omega) (by omega)
 have F2 : ∀ s : List UInt8, s.length < 10 -> lZ n s = some (bx (ofP s)) := fun s h => Qg s (by omega) (by omega)
 unfold yO Pz Gh
 simp only
 rw [show ((65 : Int), (90 : Int)) = (((65 : Nat) : Int), ((90 : Nat) : Int)) from rfl, show ((97 : Int), (122 : Int)) = (((97 : Nat) : Int), ((122 : Nat) : Int)) from rfl, show ((48 : Int), (57 : Int)) = (((48 : Nat) : Int), ((57 : Nat) : Int)) from rfl]
 rw [R 65 90 (by omega) (by omega), R 97 122 (by omega) (by omega), R 48 57 (by omega) (by omega), R2 65 90 (by omega) (by omega), R2 97 122 (by omega) (by omega), R2 48 57 (by omega) (by omega)]
 simp only [aI]
 rw [O2]
 simp only [aI]
 rw [O2]
 simp only [aI]
 cases s == [117, 112, 112, 101, 114]
 case true => exact gY (by decide +kernel) _ _ rfl rfl
 simp only [bC, cond_false]
 cases s == [108, 111, 119, 101, 114]
 case true => exact gY (by decide +kernel) _ _ rfl rfl
 simp only [bC, cond_false]
 cases s == [97, 108, 112, 104, 97]
 case true =>
  have := O [bI 65 90, bI 97 122] (by decide)
  simp only [List.map] at this
  simp only [bX, this, aI]
  exact gY (by decide +kernel) _ _ rfl rfl
 simp only [bC, cond_false]
 cases s == [100, 105, 103, 105, 116]
 case true => exact gY (by decide +kernel) _ _ rfl rfl
 simp only [bC, cond_false]
 cases s == [97, 108, 110, 117, 109]
 case true =>
  have := O [bI 65 90, bI 97 122, bI 48 57] (by decide)
  simp only [List.map] at this
  simp only [bX, this, aI]
  exact gY (by decide +kernel) _ _ rfl rfl
 simp only [bC, cond_false]
 cases s == [120, 100, 105, 103, 105, 116]
 case true =>
  have := O [bI 48 57, bI 65 70, bI 97 102] (by decide)
  simp only [List.map] at this
  simp only [bX]
  rw [show ((65 : Int), (70 : Int)) = (((65 : Nat) : Int), ((70 : Nat) : Int)) from rfl, show ((97 : Int), (102 : Int)) = (((97 : Nat) : Int), ((102 : Nat) : Int)) from rfl]
  rw [R 65 70 (by omega) (by omega), R 97 102 (by omega) (by omega), R2 65 70 (by omega) (by omega), R2 97 102 (by omega) (by omega)]
  simp only [aI]
  rw [O2, this]
  simp only [aI]
  rw [O2]
  exact gY (by decide +kernel) _ _ rfl rfl
 simp only [bC, cond_false]
 cases s == [98, 108, 97, 110, 107]
 case true =>
  simp only [bX]
  rw [F _ (by decide), F2 _ (by decide)]
  exact gY (by decide +kernel) _ _ rfl rfl
 simp only [bC, cond_false]
 cases s == [115, 112, 97, 99, 101]
 case true =>
  simp only [bX]
  rw [show ((9 : Int), (13 : Int)) = (((9 : Nat) : Int), ((13 : Nat) : Int)) from rfl]
  rw [F _ (by decide), F2 _ (by decide), R2 9 13 (by omega) (by omega)]
  simp only [aI]
  rw [O2]
  exact gY (by decide +kernel) _ _ rfl rfl
 simp only [bC, cond_false]
 cases s == [99, 110, 116, 114, 108]
 case true =>
  simp only [bX]
  rw [show ((0 : Int), (31 : Int)) = (((0 : Nat) : Int), ((31 : Nat) : Int)) from rfl, show ((127 : Int), (127 : Int)) = (((127 : Nat) : Int), ((127 : Nat) : Int)) from rfl]
  rw [R 0 31 (by omega) (by omega), R2 0 31 (by omega) (by omega), R2 127 127 (by omega) (by omega), F _ (by decide)]
  have := O [bI 0 31, ofP [127]] (by decide)
  simp only [List.map] at this
  simp only [aI]
  rw [O2, this]
  exact gY (by decide +kernel) _ _ rfl rfl
 simp only [bC, cond_false]
 cases s == [103, 114, 97, 112, 104]
 case true =>
  simp only [bX]
  rw [show ((33 : Int), (126 : Int)) = (((33 : Nat) : Int), ((126 : Nat) : Int)) from rfl]
  rw [R 33 126 (by omega) (by omega), R2 33 126 (by omega) (by omega)]
  exact gY (by decide +kernel) _ _ rfl rfl
 simp only [bC, cond_false]
 cases s == [112, 114, 105, 110, 116]
 case true =>
  simp only [bX]
  rw [show ((32 : Int), (126 : Int)) = (((32 : Nat) : Int), ((126 : Nat) : Int)) from rfl]
  rw [R 32 126 (by omega) (by omega), R2 32 126 (by omega) (by omega)]
  exact gY (by decide +kernel) _ _ rfl rfl
 simp only [bC, cond_false]
 cases s == [112, 117, 110, 99, 116]
 case true =>
  simp only [bX]
  rw [show ((33 : Int), (126 : Int)) = (((33 : Nat) : Int), ((126 : Nat) : Int)) from rfl, show ((33 : Int), (47 : Int)) = (((33 : Nat) : Int), ((47 : Nat) : Int)) from rfl, show ((58 : Int), (64 : Int)) = (((58 : Nat) : Int), ((64 : Nat) : Int)) from rfl, show ((91 : Int), (96 : Int)) = (((91 : Nat) : Int), ((96 : Nat) : Int)) from rfl, show ((123 : Int), (126 : Int)) = (((123 : Nat) : Int), ((126 : Nat) : Int)) from rfl]
  rw [R 33 47 (by omega) (by omega), R 58 64 (by omega) (by omega), R 91 96 (by omega) (by omega), R 123 126 (by omega) (by omega), R2 33 126 (by omega) (by omega)]
  have := O [bI 33 47, bI 58 64, bI 91 96, bI 123 126] (by decide)
  simp only [List.map] at this
  simp only [aI]
  rw [this, Vj hn]
  exact gY (by decide +kernel) _ _ rfl rfl
 simp only [bC, cond_false]
 exact ⟨by rw [nA], fun _ => false, by rw [Gg]⟩
end Go.Dec
namespace Go.Dec
theorem Cj {n : Nat} {r t : List UInt8} : strings_HasPrefix n (r, t) = some (t.isPrefixOf r) := by
 unfold strings_HasPrefix fJ
 simp only
 by_cases h : t.length <= r.length
 ·rw [aD (by simp; omega), aC (by simp; omega)]
  simp only [aI, Int.toNat_natCast]
  congr 1
  rw [Bool.eq_iff_iff, List.isPrefixOf_iff_prefix, List.prefix_iff_eq_take, beq_iff_eq]
  exact eq_comm
 ·rw [aA (by simp; omega)]
  simp only [aI]
  congr 1
  symm
  rw [Bool.eq_false_iff, ne_eq, List.isPrefixOf_iff_prefix]
  intro hp
  have := hp.length_le
  omega
theorem jD {n : Nat} {s t : List UInt8} {i : Nat} (hi : i <= s.length) : dI n (t, s, (i : Int), ()) = some (t.isPrefixOf (s.drop i), s, (i : Int), ()) := by
 unfold dI
 simp only
 rw [aC (by simp; omega), Cj]; rfl
theorem gI {r t : List UInt8} (h : t.isPrefixOf r = true) : t.length <= r.length := by
 rw [List.isPrefixOf_iff_prefix] at h; exact h.length_le
theorem lG {n : Nat} {s t : List UInt8} {i : Nat} (hi : i <= s.length) (hs : s.length < 1000000) (h : t.isPrefixOf (s.drop i) = true) : dD n (t, s, (i : Int), ()) = some (true, s, ((i + t.length : Nat) : Int), ()) := by
 have hl := gI h
 rw [List.length_drop] at hl
 unfold dD
 simp only
 rw [jD hi]
 simp only [aI, h, Bool.not_true, bC]
 rw [bG (by omega) (by omega)]; rfl
theorem lH {n : Nat} {s t : List UInt8} {i : Nat} (hi : i <= s.length) (h : t.isPrefixOf (s.drop i) = false) : dD n (t, s, (i : Int), ()) = some (false, s, (i : Int), ()) := by
 unfold dD
 simp only
 rw [jD hi]
 simp only [aI, h, Bool.not_false, bX]
theorem eqI {c : UInt8} (k : UInt8) : ((c.toNat : Int) == (k.toNat : Int)) = (k == c) := by
 rw [Bool.eq_iff_iff, beq_iff_eq, beq_iff_eq, Int.ofNat_inj, UInt8.toNat_inj]; exact eq_comm
theorem Ak {s : List UInt8} {i j : Nat} {d c : UInt8} (h : (s.drop i)[j]? = some c) : aQ d s ((i + j : Nat) : Int) = c := by
 rw [List.getElem?_drop] at h
 unfold aQ
 rw [Int.toNat_natCast, List.getD_eq_getElem?_getD, h]; rfl
theorem yU {s t : List UInt8} {i : Nat} {a : UInt8} (h : s.drop i = a :: t) : s.drop (i + 1) = t ∧ i < s.length := by
 refine ⟨?_, ?_⟩
 ·rw [<- List.drop_drop, h]; rfl
 ·have := congrArg List.length h
  rw [List.length_drop, List.length_cons] at this; omega
theorem Dz {r : List UInt8} {a b : UInt8} (h : [a, b].isPrefixOf r = true) : ∃ t, r = a :: b :: t := by
 rw [List.isPrefixOf_iff_prefix] at h
 obtain ⟨t, rfl⟩ := h
 exact ⟨t, rfl⟩
theorem zVw {r : List UInt8} {a : UInt8} (h : [a].isPrefixOf r = true) : ∃ t, r = a :: t := by
 rw [List.isPrefixOf_iff_prefix] at h
 obtain ⟨t, rfl⟩ := h
 exact ⟨t, rfl⟩
def uS (x : UInt8) (b : Bool) : List UInt8 -> Option (UInt8 × Nat × Bool)
 | _ :: _ :: c :: t => bif [x, 93].isPrefixOf t then some (c, 5, b) else none
 | _ => none
def yG (first ends : Bool) (r : List UInt8) : Option (UInt8 × Nat × Bool) :=
 bif [91, 46].isPrefixOf r then uS 46 true r
 else bif [91, 61].isPrefixOf r then uS 61 false r
 else bif [92, 110].isPrefixOf r then some (10, 2, true)
 else bif [91, 58].isPrefixOf r then none
 else bif [93].isPrefixOf r && !first then none
 else bif [45].isPrefixOf r && !first && !ends && !([45, 93].isPrefixOf r) then none
 else match r with | [] => none | c :: _ => some (c, 1, true)
theorem zLe {x : UInt8} {b : Bool} {c : UInt8} {k : Nat} {m : Bool} : ∀ {r : List UInt8}, uS x b r = some (c, k, m) -> 1 <= k ∧ k <= r.length
 | [], h => absurd h (by simp [uS])
 | [_], h => absurd h (by simp [uS])
 | [_, _], h => absurd h (by simp [uS])
 | _ :: _ :: d :: t, h => by
  unfold uS at h
  cases hp : [x, 93].isPrefixOf t <;> simp only [hp, cond_true, cond_false] at h
  ·exact absurd h (by simp)
  ·have := gI hp
   simp only [List.length_cons, List.length_nil, Option.some.injEq, Prod.mk.injEq] at this h ⊢
   omega
theorem Na {first ends : Bool} {r : List UInt8} {c : UInt8} {k : Nat} {m : Bool} (h : yG first ends r = some (c, k, m)) : 1 <= k ∧ k <= r.length := by
 have mk : ∀ {x : UInt8} {b : Bool}, uS x b r = some (c, k, m) -> 1 <= k ∧ k <= r.length := fun h => zLe h
 unfold yG at h
 cases h1 : [91, 46].isPrefixOf r <;> simp only [h1, cond_true, cond_false] at h
 ·cases h2 : [91, 61].isPrefixOf r <;> simp only [h2, cond_true, cond_false] at h
  ·cases h3 : [92, 110].isPrefixOf r <;> simp only [h3, cond_true, cond_false] at h
   ·cases h4 : [91, 58].isPrefixOf r <;> simp only [h4, cond_true, cond_false] at h
    ·cases h5 : [93].isPrefixOf r && !first <;> simp only [h5, cond_true, cond_false] at h
     ·cases h6 : [45].isPrefixOf r && !first && !ends && !([45, 93].isPrefixOf r) <;> simp only [h6, cond_true, cond_false] at h
      ·split at h
       ·exact absurd h (by simp)
       ·simp only [Option.some.injEq, Prod.mk.injEq, List.length_cons] at h ⊢
        omega
      ·exact absurd h (by simp)
     ·exact absurd h (by simp)
    ·exact absurd h (by simp)
   ·have := gI h3
    simp only [List.length_cons, List.length_nil, Option.some.injEq, Prod.mk.injEq] at this h
    omega
  ·exact mk h
 ·exact mk h
def tZ (s : List UInt8) (i : Nat) (o : Option (UInt8 × Nat × Bool)) (e : Option (Sum (Int × Bool × List UInt8 × Int × Unit) (Int × Int × List UInt8 × Int × Unit))) : Prop := match o with
 | some (c, k, m) => e = some (.inl ((c.toNat : Int), m, s, ((i + k : Nat) : Int), ()))
 | none => ∃ a, e = some (.inr (42, 0, s, a, ()))
theorem qK {n : Nat} {x : List UInt8 × Int × Unit} : aW n x = some (.inr (42, 0, x)) := rfl
theorem Qh {n : Nat} {s : List UInt8} {i : Nat} {mk : UInt8} {t : List UInt8} (hi : i <= s.length) (hs : s.length < 1000000) (hr : s.drop i = 91 :: mk :: t) :
    tZ s i (uS mk ([mk] == [46]) (s.drop i))
      (br ((s.length : Int) == ((i + 2 : Nat) : Int)) (ob2 (aW n (s, ((i + 2 : Nat) : Int), ())) (fun y17 => none) (fun y17 => some (.inr (y17.1, y17.2.1, y17.2.2.1, y17.2.2.2.1, ()))))
        (chk ((decide (0 <= IntKind.wrap .i64 (((i + 2 : Nat) : Int) + 1)) && decide (IntKind.wrap .i64 (((i + 2 : Nat) : Int) + 1) <= (s.length : Int)))) (
                chk (decide (([mk] : List UInt8).length + ([93] : List UInt8).length <= aG)) (
                  ob (strings_HasPrefix n (s.drop (IntKind.wrap .i64 (((i + 2 : Nat) : Int) + 1)).toNat, [mk] ++ [93])) fun y19 =>
                  br (!y19) (
                    ob2 (aW n (s, ((i + 2 : Nat) : Int), ())) (fun y20 =>
                      none) (fun y20 =>
                      some (.inr (y20.1, y20.2.1, y20.2.2.1, y20.2.2.2.1, ())))) (
                    jn (oF n) ([mk], s, ((i + 2 : Nat) : Int), ())))))) := by
  obtain ⟨h1, h1'⟩ := yU hr
  obtain ⟨h2, h2'⟩ := yU h1
  have hlen : s.length = i + 2 + t.length := by
    have := congrArg List.length hr
    simp only [List.length_drop, List.length_cons] at this; omega
  rw [hr]
  cases t with
  | nil =>
    simp only [List.length_nil] at hlen
    rw [aD (by simp; omega), qK]
    simp only [iF, tZ, uS]
    exact ⟨_, rfl⟩
  | cons c t =>
    simp only [List.length_cons] at hlen
    obtain ⟨h3, h3'⟩ := yU h2
    rw [aA (by simp; omega)]
    have hw : IntKind.wrap .i64 (((i + 2 : Nat) : Int) + 1) = ((i + 1 + 1 + 1 : Nat) : Int) := by rw [bG (by omega) (by omega)]; omega
    rw [hw, aC (by simp; omega), aC (by simp [aG]), Int.toNat_natCast, h3, Cj]
    simp only [aI, List.cons_append, List.nil_append]
    cases hp : [mk, 93].isPrefixOf t
    · simp only [Bool.not_false, bX, qK, iF, cond_false, tZ, uS, hp]
      exact ⟨_, rfl⟩
    · simp only [Bool.not_true, bC, cond_true, tZ, pG, oF, uS, hp]
      have := gI hp
      simp only [List.length_cons, List.length_nil] at this
      rw [aC (iN (by omega)), bG (by omega) (by omega), show ((i + 2 : Nat) : Int) = ((i + 2 : Nat) : Int) from rfl, Ak (c := c) (by rw [hr]; rfl)]
      rfl
theorem Vk {n : Nat} {s : List UInt8} {i : Nat} {first ends : Bool} (hn : 3 <= n) (hi : i <= s.length) (hs : s.length < 1000000) : tZ s i (yG first ends (s.drop i)) (jL n (first, ends, s, (i : Int), ())) := by
  obtain ⟨m, rfl⟩ : ∃ m, n = m + 3 := ⟨n - 3, by omega⟩
  have hlen : (s.drop i).length = s.length - i := List.length_drop
  have hin : ∀ {t : List UInt8}, t.isPrefixOf (s.drop i) = true -> i + t.length <= s.length := fun h => by have := gI h; omega
  unfold jL yG
  simp only
  rw [Qw, jR]
  simp only
  rw [aD (by rfl), aC (by rfl), aC (by rfl), aC (by rfl)]
  rw [show [91] ++ List.getD [[46], [61]] (0 + Int.toNat 0) (Ty.dflt .str) = ([91, 46] : List UInt8) from rfl, show List.getD [[46], [61]] (0 + Int.toNat 0) (Ty.dflt .str) = ([46] : List UInt8) from rfl]
  cases h1 : [91, 46].isPrefixOf (s.drop i)
  case true =>
    obtain ⟨t, ht⟩ := Dz h1
    rw [lG hi hs h1]
    simp only [aI, Bool.not_true, bC, cond_true]
    exact Qh hi hs ht
  rw [lH hi h1]
  simp only [aI, Bool.not_false, bX, cond_false]
  rw [show IntKind.wrap .i64 (0 + 1) = 1 from rfl, Qw, jR]
  simp only
  rw [aD (by rfl), aC (by rfl), aC (by rfl), aC (by rfl)]
  rw [show [91] ++ List.getD [[46], [61]] (0 + Int.toNat 1) (Ty.dflt .str) = ([91, 61] : List UInt8) from rfl, show List.getD [[46], [61]] (0 + Int.toNat 1) (Ty.dflt .str) = ([61] : List UInt8) from rfl]
  cases h2 : [91, 61].isPrefixOf (s.drop i)
  case true =>
    obtain ⟨t, ht⟩ := Dz h2
    rw [lG hi hs h2]
    simp only [aI, Bool.not_true, bC, cond_true]
    exact Qh hi hs ht
  rw [lH hi h2]
  simp only [aI, Bool.not_false, bX, cond_false]
  rw [show IntKind.wrap .i64 (1 + 1) = 2 from rfl, Qw, jR]
  simp only
  rw [aA (by rfl)]
  cases h3 : [92, 110].isPrefixOf (s.drop i)
  case true =>
    rw [lG hi hs h3]
    simp only [aI, bX, cond_true, tZ]
    rfl
  rw [lH hi h3]
  have zUg : ∀ {c : UInt8} {t : List UInt8}, s.drop i = c :: t -> gP (m + 3) (s, (i : Int), ()) = some (.inl ((c.toNat : Int), true, s, ((i + 1 : Nat) : Int), ())) := by
    intro c t hr
    obtain ⟨_, h⟩ := yU hr
    unfold gP
    simp only
    have e : IntKind.wrap .i64 (IntKind.wrap .i64 ((i : Int) + 1) - 1) = ((i + 0 : Nat) : Int) := by
      rw [bG (x := (i : Int) + 1) (by omega) (by omega), bG (by omega) (by omega)]; omega
    rw [e, aC (iN (by omega)), Ak (c := c) (by rw [hr]; rfl), bG (by omega) (by omega)]; rfl
  have zAv : ∀ bare : Bool, tZ s i (bif [91, 58].isPrefixOf (s.drop i) then none
      else bif [93].isPrefixOf (s.drop i) && !first then none
      else bif bare then none
      else match s.drop i with | [] => none | c :: _ => some (c, 1, true)) (fG (m + 3) (first, bare, s, (i : Int), ())) := by
    intro bare
    unfold fG
    simp only
    cases hr : s.drop i with
    | nil =>
      rw [hr] at hlen
      simp only [List.length_nil] at hlen
      rw [aD (by simp; omega), qK]
      simp only [iF]
      cases first <;> cases bare <;> exact ⟨_, rfl⟩
    | cons c t =>
      obtain ⟨_, hlt⟩ := yU hr
      rw [aA (by simp; omega), jD hi]
      simp only [aI]
      rw [<- hr]
      cases h4 : [91, 58].isPrefixOf (s.drop i)
      case true =>
        simp only [bX, qK, iF, cond_true]
        exact ⟨_, rfl⟩
      simp only [bC, cond_false]
      rw [jD hi]
      simp only [aI]
      have hb : tZ s i (bif bare then none else some (c, 1, true)) (br bare (
            ob2 (aW (m + 3) (s, (i : Int), ())) (fun y40 => none) (fun y40 => some (.inr (y40.1, y40.2.1, y40.2.2.1, y40.2.2.2.1, ())))) (
            jn (gP (m + 3)) (s, (i : Int), ()))) := by
        cases bare
        · simp only [bC, cond_false, pG]
          rw [zUg hr]; rfl
        · simp only [bX, cond_true, qK, iF]
          exact ⟨_, rfl⟩
      cases h5 : [93].isPrefixOf (s.drop i)
      · simp only [bC, Bool.false_and, cond_false]
        exact hb
      · cases first
        · simp only [bX, Bool.not_false, Bool.true_and, cond_true, qK, iF]
          exact ⟨_, rfl⟩
        · simp only [bX, bC, Bool.not_true, Bool.and_false, cond_false]
          exact hb
  simp only [aI, bC, cond_false]
  rw [jD hi]
  simp only [aI]
  cases h6 : [45].isPrefixOf (s.drop i)
  · simp only [bC, Bool.false_and]
    exact zAv false
  simp only [bX, Bool.true_and]
  cases first
  · simp only [Bool.not_false, bX, Bool.true_and]
    cases ends
    · simp only [Bool.not_false, bX, Bool.true_and]
      rw [jD hi]
      simp only [aI]
      exact zAv _
    · simp only [Bool.not_true, bC, Bool.false_and]
      exact zAv false
  · simp only [Bool.not_true, bC, Bool.false_and]
    exact zAv false
theorem Xq (a b : UInt8) : (a == b) = (b == a) := by rw [Bool.eq_iff_iff, beq_iff_eq, beq_iff_eq]; exact eq_comm
def xL : List UInt8 -> Option Nat
 | [] => none
 | c :: r => bif [58, 93].isPrefixOf (c :: r) then some 0 else (xL r).map (· + 1)
theorem Nb : ∀ {r : List UInt8} {k : Nat}, xL r = some k -> [58, 93].isPrefixOf (r.drop k) = true ∧ k + 2 <= r.length
 | [], k, h => absurd h (by simp [xL])
 | c :: r, k, h => by
  unfold xL at h
  cases hp : [58, 93].isPrefixOf (c :: r) <;> simp only [hp, cond_true, cond_false] at h
  ·cases hk : xL r with
   | none => rw [hk] at h; exact absurd h (by simp)
   | some j =>
    rw [hk] at h
    simp only [Option.map_some, Option.some.injEq] at h
    subst h
    obtain ⟨h1, h2⟩ := Nb hk
    exact ⟨h1, by simp only [List.length_cons]; omega⟩
  ·simp only [Option.some.injEq] at h
   subst h
   exact ⟨hp, by have := gI hp; simpa using this⟩
theorem Za : ∀ r : List UInt8, Go.Lib.index r [58, 93] = match xL r with | some k => ((k : Nat) : Int) | none => -1
 | [] => by rfl
 | c :: r => by
  have ih := Za r
  rw [Go.Lib.index, xL]
  cases hp : [58, 93].isPrefixOf (c :: r)
  ·simp only [Bool.false_eq_true, if_false, cond_false]
   rw [ih]
   cases xL r with
   | none => rfl
   | some k =>
    simp only [Option.map_some]
    rw [if_neg (by simp)]; rfl
  ·rfl
theorem zQl (r : List UInt8) : Go.Lib.cut r [58, 93] = match xL r with | some k => (r.take k, r.drop (k + 2), true) | none => (r, [], false) := by
 unfold Go.Lib.cut
 rw [Za]
 cases xL r with
 | none => rfl
 | some k => simp
def Al (first : Bool) (r : List UInt8) : Option ((Nat -> Bool) × Nat) :=
 bif [91, 58].isPrefixOf r then
  match xL (r.drop 2) with
  | none => none
  | some k => match Gh ((r.drop 2).take k) with
   | some p => some (p, k + 4)
   | none => none
 else match yG first false r with
  | none => none
  | some (a, k, may) =>
   bif [45].isPrefixOf (r.drop k) && !([45, 93].isPrefixOf (r.drop k)) && decide (1 < (r.drop k).length) then
    match yG false true (r.drop (k + 1)) with
    | none => none
    | some (b, m, is) => bif may && is && !(decide (b.toNat < a.toNat)) then some (bI a.toNat b.toNat, k + 1 + m) else none
   else some (bI a.toNat a.toNat, k)
theorem Nc {first : Bool} {r : List UInt8} {p : Nat -> Bool} {k : Nat} (h : Al first r = some (p, k)) : 1 <= k ∧ k <= r.length := by
 unfold Al at h
 cases h0 : [91, 58].isPrefixOf r <;> simp only [h0, cond_true, cond_false] at h
 ·cases h1 : yG first false r with
  | none => rw [h1] at h; exact absurd h (by simp)
  | some x =>
   obtain ⟨a, j, may⟩ := x
   have hl := Na h1
   rw [h1] at h
   simp only at h
   cases h2 : [45].isPrefixOf (r.drop j) && !([45, 93].isPrefixOf (r.drop j)) && decide (1 < (r.drop j).length) <;> simp only [h2, cond_true, cond_false] at h
   ·simp only [Option.some.injEq, Prod.mk.injEq] at h; omega
   ·cases h3 : yG false true (r.drop (j + 1)) with
    | none => rw [h3] at h; exact absurd h (by simp)
    | some y =>
     obtain ⟨b, m, is⟩ := y
     have hl3 := Na h3
     rw [h3] at h
     simp only at h
     rw [List.length_drop] at hl3
     cases h4 : may && is && !(decide (b.toNat < a.toNat)) <;> simp only [h4, cond_true, cond_false] at h
     ·exact absurd h (by simp)
     ·simp only [Option.some.injEq, Prod.mk.injEq] at h; omega
 ·cases h1 : xL (r.drop 2) with
  | none => rw [h1] at h; exact absurd h (by simp)
  | some j =>
   rw [h1] at h
   simp only at h
   have := (Nb h1).2
   rw [List.length_drop] at this
   cases h2 : Gh ((r.drop 2).take j) with
   | none => rw [h2] at h; exact absurd h (by simp)
   | some q =>
    rw [h2] at h
    simp only [Option.some.injEq, Prod.mk.injEq] at h; omega
def Vl (s : List UInt8) (i : Nat) (o : Option ((Nat -> Bool) × Nat)) (e : Option (Sum (List Int × List UInt8 × Int × Unit) (Int × Int × List UInt8 × Int × Unit))) : Prop := match o with
 | some (p, k) => e = some (.inl (wd p, s, ((i + k : Nat) : Int), ()))
 | none => ∃ a, e = some (.inr (42, 0, s, a, ()))
theorem zQm {n : Nat} {s : List UInt8} {i : Nat} {first : Bool} (hn : 300 <= n) (hi : i <= s.length) (hs : s.length < 1000000) : Vl s i (Al first (s.drop i)) (kG n (first, s, (i : Int), ())) := by
 unfold kG Al
 simp only
 cases h0 : [91, 58].isPrefixOf (s.drop i)
 case true =>
  have hl := gI h0
  simp only [List.length_drop, List.length_cons, List.length_nil] at hl
  rw [lG hi hs h0]
  simp only [aI, bX, cond_true]
  rw [aC (by simp; omega), Int.toNat_natCast, strings_Cut, aC (by simp; omega), show ([91, 58] : List UInt8).length = 2 from rfl]
  simp only [aI]
  rw [zQl, List.drop_drop]
  have hC := zJe (n := n) hn
  cases h1 : xL (s.drop (i + 2)) with
  | none =>
   simp only
   have h2 := hC (s.drop (i + 2))
   have zPe : ∀ (w : Bool), ∀ (x : List Int), ∃ a, (ob (ρ := Sum (List Int × List UInt8 × Int × Unit) (Int × Int × List UInt8 × Int × Unit)) (some (x, w)) fun y8 =>
    br (!y8.2) (
    ob2 (aW n (s, IntKind.wrap .i64 (((i + 2 : Nat) : Int) + ((s.drop (i + 2)).length : Int)), ())) (fun y9 =>
     none) (fun y9 =>
     some (.inr (y9.1, y9.2.1, y9.2.2.1, y9.2.2.2.1, ())))) (
    ob (dD n ([58, 93], s, IntKind.wrap .i64 (((i + 2 : Nat) : Int) + ((s.drop (i + 2)).length : Int)), ())) fun y10 =>
    br (!y10.1) (
     ob2 (aW n (y10.2.1, y10.2.2.1, ())) (fun y11 =>
      none) (fun y11 =>
      some (.inr (y11.1, y11.2.1, y11.2.2.1, y11.2.2.2.1, ())))) (
     some (.inl (y8.1, y10.2.1, y10.2.2.1, ()))))) = some (.inr (42, 0, s, a, ())) := by
    intro w x
    simp only [aI]
    cases w
    ·simp only [Bool.not_false, bX, qK, iF]
     exact ⟨_, rfl⟩
    ·simp only [Bool.not_true, bC]
     have e : IntKind.wrap .i64 (((i + 2 : Nat) : Int) + ((s.drop (i + 2)).length : Int)) = ((s.length : Nat) : Int) := by
      rw [List.length_drop, bG (by omega) (by omega)]; omega
     rw [e, lH (Nat.le_refl _) (by simp)]
     simp only [aI, Bool.not_false, bX, qK, iF]
     exact ⟨_, rfl⟩
   cases hc : Gh (s.drop (i + 2)) with
   | none => rw [hc] at h2; rw [h2.1]; exact zPe _ _
   | some p => rw [hc] at h2; rw [h2.1]; exact zPe _ _
  | some k =>
   simp only
   obtain ⟨k1, k2⟩ := Nb h1
   rw [List.length_drop] at k2
   rw [List.drop_drop] at k1
   have h2 := hC ((s.drop (i + 2)).take k)
   have e : IntKind.wrap .i64 (((i + 2 : Nat) : Int) + (((s.drop (i + 2)).take k).length : Int)) = ((i + 2 + k : Nat) : Int) := by
    rw [List.length_take, List.length_drop, bG (by omega) (by omega)]; omega
   rw [e]
   cases hc : Gh ((s.drop (i + 2)).take k) with
   | none =>
    rw [hc] at h2; rw [h2.1]
    simp only [aI, Bool.not_false, bX, qK, iF]
    exact ⟨_, rfl⟩
   | some p =>
    rw [hc] at h2; rw [h2.1]
    simp only [aI, Bool.not_true, bC]
    rw [lG (by omega) hs k1]
    simp only [aI, Bool.not_true, bC, Vl]
    rw [show i + 2 + k + ([58, 93] : List UInt8).length = i + (k + 4) by simp; omega]
 rw [lH hi h0]
 simp only [aI, bC, cond_false]
 have hE := Vk (n := n) (first := first) (ends := false) (by omega) hi hs
 cases h1 : yG first false (s.drop i) with
 | none =>
  rw [h1] at hE
  obtain ⟨a, hE⟩ := hE
  rw [hE]
  simp only [iF]
  exact ⟨_, rfl⟩
 | some x =>
  obtain ⟨a, k, may⟩ := x
  rw [h1] at hE
  simp only [tZ] at hE
  rw [hE]
  have hk := Na h1
  rw [List.length_drop] at hk
  simp only [Ai]
  have hik : i + k <= s.length := by omega
  have hR : bQ n ((a.toNat : Int), (a.toNat : Int)) = some (wd (bI a.toNat a.toNat)) := wL hn a.toNat_lt a.toNat_lt
  rw [jD hik, hR, List.drop_drop]
  simp only [aI]
  cases h2 : [45].isPrefixOf (s.drop (i + k))
  ·simp only [Bool.not_false, bX, Bool.false_and, cond_false]; rfl
  simp only [Bool.not_true, bC, Bool.true_and]
  rw [jD hik]
  simp only [aI]
  cases h3 : [45, 93].isPrefixOf (s.drop (i + k))
  case true => simp only [bX, Bool.not_true, Bool.false_and, cond_false]; rfl
  simp only [bC, Bool.not_false, Bool.true_and]
  have hp := gI h2
  rw [List.length_drop] at hp ⊢
  simp only [List.length_cons, List.length_nil] at hp
  rw [bG (by omega) (by omega)]
  by_cases h4 : 1 < s.length - (i + k)
  ·rw [aA (by simp; omega), decide_eq_true h4]
   simp only [cond_true]
   have hE2 := Vk (n := n) (first := false) (ends := true) (s := s) (i := i + k + 1) (by omega) (by omega) hs
   rw [show ((i + k : Nat) : Int) + 1 = ((i + k + 1 : Nat) : Int) from rfl]
   rw [List.drop_drop, show i + (k + 1) = i + k + 1 by omega]
   cases h5 : yG false true (s.drop (i + k + 1)) with
   | none =>
    rw [h5] at hE2
    obtain ⟨a, hE2⟩ := hE2
    rw [hE2]
    simp only [iF]
    exact ⟨_, rfl⟩
   | some y =>
    obtain ⟨b, m, is⟩ := y
    rw [h5] at hE2
    simp only [tZ] at hE2
    rw [hE2]
    simp only [Ai, qK, iF]
    cases may
    ·simp only [Bool.not_false, bX, Bool.false_and, cond_false]; exact ⟨_, rfl⟩
    cases is
    ·simp only [Bool.not_false, bX, Bool.not_true, bC, Bool.and_false, Bool.false_and, cond_false]; exact ⟨_, rfl⟩
    have hR2 : bQ n ((a.toNat : Int), (b.toNat : Int)) = some (wd (bI a.toNat b.toNat)) := wL hn a.toNat_lt b.toNat_lt
    rw [hR2, show decide ((b.toNat : Int) < (a.toNat : Int)) = decide (b.toNat < a.toNat) by simp]
    cases decide (b.toNat < a.toNat)
    ·simp only [Bool.not_false, Bool.not_true, bC, Bool.and_true, cond_true, aI, Vl]
     rw [show i + (k + 1 + m) = i + k + 1 + m by omega]
    ·simp only [Bool.not_true, bC, bX, Bool.and_false, cond_false]; exact ⟨_, rfl⟩
  ·rw [aD (by simp; omega), decide_eq_false h4]
   rfl
def vG : Nat -> Bool -> (Nat -> Bool) -> List UInt8 -> Option ((Nat -> Bool) × Nat)
 | 0, _, _, _ => none
 | f + 1, first, q, r =>
  bif [93].isPrefixOf r && !first then some (q, 1)
  else match Al first r with
   | none => none
   | some (p, k) => match vG f false (fun j => q j || p j) (r.drop k) with
    | none => none
    | some (x, m) => some (x, k + m)
def iR (p : Nat -> Bool) : Bool := (List.range 256).all fun i => !p i
def Ck (s : List UInt8) : Option ((Nat -> Bool) × Nat) :=
 bif [91].isPrefixOf s then
  let no := [94].isPrefixOf (s.drop 1)
  let i := bif no then 2 else 1
  match vG (s.length + 1) true (fun _ => false) (s.drop i) with
  | none => none
  | some (p, k) =>
   let p' := bif no then (fun j => !p j) else p
   bif iR p' then none else some (p', i + k)
 else none
theorem zDl : ∀ {f : Nat} {first : Bool} {q : Nat -> Bool} {r : List UInt8} {p : Nat -> Bool} {k : Nat}, vG f first q r = some (p, k) -> 1 <= k ∧ k <= r.length
 | 0, _, _, _, _, _, h => absurd h (by simp [vG])
 | f + 1, first, q, r, p, k, h => by
  unfold vG at h
  cases h0 : [93].isPrefixOf r && !first <;> simp only [h0, cond_true, cond_false] at h
  ·cases h1 : Al first r with
   | none => rw [h1] at h; exact absurd h (by simp)
   | some x =>
    obtain ⟨p1, k1⟩ := x
    rw [h1] at h
    simp only at h
    have hk1 := Nc h1
    cases h2 : vG f false (fun j => q j || p1 j) (r.drop k1) with
    | none => rw [h2] at h; exact absurd h (by simp)
    | some y =>
     obtain ⟨p2, k2⟩ := y
     rw [h2] at h
     have hk2 := zDl h2
     rw [List.length_drop] at hk2
     simp only [Option.some.injEq, Prod.mk.injEq] at h; omega
  ·simp only [Bool.and_eq_true] at h0
   have := gI h0.1
   simp only [List.length_cons, List.length_nil, Option.some.injEq, Prod.mk.injEq] at this h; omega
theorem zDm {s : List UInt8} {p : Nat -> Bool} {k : Nat} (h : Ck s = some (p, k)) : 1 <= k ∧ k <= s.length := by
 unfold Ck at h
 cases h0 : [91].isPrefixOf s <;> simp only [h0, cond_true, cond_false] at h
 ·exact absurd h (by simp)
 ·cases h1 : vG (s.length + 1) true (fun _ => false) (s.drop (bif [94].isPrefixOf (s.drop 1) then 2 else 1)) with
  | none => rw [h1] at h; exact absurd h (by simp)
  | some x =>
   obtain ⟨q, j⟩ := x
   rw [h1] at h
   have hj := zDl h1
   rw [List.length_drop] at hj
   simp only at h
   cases h2 : iR (bif [94].isPrefixOf (s.drop 1) then (fun j => !q j) else q) <;> simp only [h2, cond_true, cond_false] at h
   ·simp only [Option.some.injEq, Prod.mk.injEq] at h; omega
   ·exact absurd h (by simp)
theorem lI {p : Nat -> Bool} : Ty.beq (.arr 4 (.int .u64)) (wd p) [0, 0, 0, 0] = iR p := by
 rw [Bool.eq_iff_iff, <- nA, zVv, nA, zSr, iR, List.all_eq_true]
 simp
def Nf (s : List UInt8) (i : Nat) (no : Bool) (o : Option ((Nat -> Bool) × Nat)) (e : Option (Sum (List Int × List UInt8 × Int × Unit) (Int × Int × List Int × List UInt8 × Int × Unit))) : Prop := match o with
 | some (p, k) => bif iR (bif no then (fun j => !p j) else p) then ∃ a w, e = some (.inr (42, 0, w, s, a, ())) else e = some (.inl (wd (bif no then (fun j => !p j) else p), s, ((i + k : Nat) : Int), ()))
 | none => ∃ a w, e = some (.inr (42, 0, w, s, a, ()))
theorem zNq {n : Nat} {s : List UInt8} {no : Bool} (hn : 300 <= n) (hs : s.length < 1000000) : ∀ (f : Nat) (i m : Nat) (first : Bool) (q : Nat -> Bool), i <= s.length -> s.length - i < f -> f <= m ->
  Nf s i no (vG f first q (s.drop i)) (fix (jJ n) m (no, first, wd q, s, (i : Int), ())) := by
 intro f
 induction f with
 | zero => intro i m first q _ h; omega
 | succ f ih =>
  intro i m first q hi hf hm
  rw [dM (by omega), jJ]
  simp only
  have hO : ∀ p : Nat -> Bool, lW n [wd q, wd p] = some (wd fun j => q j || p j) := by
   intro p
   have := Yz (n := n) [q, p] (by omega) (by simp; omega) (by simp)
   simpa using this
  have hpart : Nf s i no (match Al first (s.drop i) with
   | none => none
   | some (p, k) => match vG f false (fun j => q j || p j) ((s.drop i).drop k) with
    | none => none
    | some (x, m) => some (x, k + m)) (ob2 (kG n (first, s, (i : Int), ())) (fun y13 =>
   ob (lW n [wd q, y13.1]) fun y14 =>
   fix (jJ n) (m - 1) (no, false, y14, y13.2.1, y13.2.2.1, ())) (fun y13 =>
   some (.inr (y13.1, y13.2.1, wd q, y13.2.2.1, y13.2.2.2.1, ())))) := by
   have hp := zQm (n := n) (first := first) hn hi hs
   cases h1 : Al first (s.drop i) with
   | none =>
    rw [h1] at hp
    obtain ⟨a, hp⟩ := hp
    rw [hp]
    exact ⟨_, _, rfl⟩
   | some x =>
    obtain ⟨p, k⟩ := x
    rw [h1] at hp
    simp only [Vl] at hp
    have hk := Nc h1
    rw [List.length_drop] at hk
    rw [hp]
    simp only [Ai]
    rw [hO p]
    simp only [aI]
    have := ih (i + k) (m - 1) false (fun j => q j || p j) (by omega) (by omega) (by omega)
    rw [List.drop_drop]
    cases h2 : vG f false (fun j => q j || p j) (s.drop (i + k)) with
    | none => rw [h2] at this; exact this
    | some y =>
     obtain ⟨p2, k2⟩ := y
     rw [h2] at this
     simp only [Nf] at this ⊢
     rw [show i + (k + k2) = i + k + k2 by omega]
     exact this
  unfold vG
  cases first
  case true =>
   simp only [bX, Bool.not_true, Bool.and_false, cond_false]
   exact hpart
  simp only [bC, Bool.not_false, Bool.and_true]
  cases h0 : [93].isPrefixOf (s.drop i)
  ·rw [lH hi h0]
   simp only [aI, Bool.not_false, bX, cond_false]
   exact hpart
  ·rw [lG hi hs h0]
   simp only [aI, Bool.not_true, bC, cond_true, Nf]
   cases no
   ·simp only [bC, cond_false]
    cases hq : iR q
    ·simp only [cond_false]
     rw [aA (by exact lI.trans hq)]; rfl
    ·simp only [cond_true]
     refine ⟨((i + [93].length : Nat) : Int), wd q, ?_⟩
     rw [aD (by exact lI.trans hq)]; rfl
   ·simp only [bX, cond_true, Vh (n := n) (by omega), aI]
    cases hq : iR (fun j => !q j)
    ·simp only [cond_false]
     rw [aA (by exact lI.trans hq)]; rfl
    ·simp only [cond_true]
     refine ⟨((i + [93].length : Nat) : Int), wd (fun j => !q j), ?_⟩
     rw [aD (by exact lI.trans hq)]; rfl
def zNr : Option ((Nat -> Bool) × Nat) -> List Int × Int × Int
 | some (p, k) => (wd p, ((k : Nat) : Int), 0)
 | none => ([0, 0, 0, 0], 0, 42)
theorem Xr {n : Nat} {s : List UInt8} (hn : 400 <= n) (hsn : s.length + 10 < n) (hs : s.length < 1000000) : oG n s = some (zNr (Ck s)) := by
 have hT : ∀ e : Option (Sum (List Int × List UInt8 × Int × Unit) (Int × Int × List Int × List UInt8 × Int × Unit)), jB n ([0, 0, 0, 0], s, 0, ()) = e -> oG n s = ob (ob2 e (fun y => some (0, 0, y)) (fun y => some y)) fun y1 => br (y1.1 != 0) (some ([0, 0, 0, 0], 0, y1.1)) (some (y1.2.2.1, y1.2.2.2.2.1, 0)) := by
  intro e he
  unfold oG dY
  simp only
  rw [he]
 have hB : ∀ a w, jB n ([0, 0, 0, 0], s, 0, ()) = some (.inr (42, 0, w, s, a, ())) -> oG n s = some ([0, 0, 0, 0], 0, 42) := by
  intro a w h; rw [hT _ h]; rfl
 have h0 : jB n ([0, 0, 0, 0], s, 0, ()) = br (![91].isPrefixOf s) (some (.inr (42, 0, [0, 0, 0, 0], s, 0, ()))) (fix (jJ n) n ([94].isPrefixOf (s.drop 1), true, wd (fun _ => false), s, ((bif [94].isPrefixOf (s.drop 1) then 2 else 1 : Nat) : Int), ())) := by
  unfold jB
  simp only
  rw [show (0 : Int) = ((0 : Nat) : Int) from rfl]
  cases h1 : [91].isPrefixOf s
  ·rw [lH (by omega) (by rw [List.drop_zero]; exact h1)]; rfl
  ·rw [lG (by omega) hs (by rw [List.drop_zero]; exact h1)]
   have hl := gI h1
   simp only [List.length_cons, List.length_nil] at hl
   simp only [aI, Bool.not_true, bC]
   rw [show 0 + ([91] : List UInt8).length = 1 from rfl]
   cases h2 : [94].isPrefixOf (s.drop 1)
   ·rw [lH (by omega) h2, nA]; rfl
   ·rw [lG (by omega) hs h2, nA]; rfl
 unfold Ck
 cases h1 : [91].isPrefixOf s
 ·rw [h1] at h0; simp only [Bool.not_false, bX] at h0
  rw [hB _ _ h0]; rfl
 ·rw [h1] at h0; simp only [Bool.not_true, bC] at h0
  simp only [cond_true]
  have hi : (bif [94].isPrefixOf (s.drop 1) then 2 else 1) <= s.length := by
   have hl := gI h1
   simp only [List.length_cons, List.length_nil] at hl
   cases h2 : [94].isPrefixOf (s.drop 1)
   ·simp only [cond_false]; omega
   ·have hl2 := gI h2
    rw [List.length_drop] at hl2
    simp only [List.length_cons, List.length_nil] at hl2
    simp only [cond_true]; omega
  have hL := zNq (n := n) (s := s) (no := [94].isPrefixOf (s.drop 1)) (by omega) hs (s.length + 1) _ n true (fun _ => false) hi (by omega) (by omega)
  rw [<- h0] at hL
  cases h3 : vG (s.length + 1) true (fun _ => false) (s.drop (bif [94].isPrefixOf (s.drop 1) then 2 else 1)) with
  | none =>
   rw [h3] at hL
   obtain ⟨a, w, hL⟩ := hL
   rw [hB _ _ hL]; rfl
  | some x =>
   obtain ⟨p, k⟩ := x
   rw [h3] at hL
   simp only [Nf] at hL
   simp only
   cases h4 : iR (bif [94].isPrefixOf (s.drop 1) then (fun j => !p j) else p) <;> rw [h4] at hL <;> simp only [cond_true, cond_false] at hL ⊢
   ·rw [hT _ hL]; rfl
   ·obtain ⟨a, w, hL⟩ := hL
    rw [hB _ _ hL]; rfl
end Go.Dec
