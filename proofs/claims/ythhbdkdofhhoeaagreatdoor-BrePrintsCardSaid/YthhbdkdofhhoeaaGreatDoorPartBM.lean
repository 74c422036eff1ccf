/- Part of a proof over this seat: a library of my own, and what it says of this seat. No statement is proved here. -/
import Derived.Test.YthhbdkdofhhoeaaGreatDoorPartBB
import Derived.Test.YthhbdkdofhhoeaaGreatDoorPartAS
namespace Go.Dec
theorem ah {ρ : Type} {b : Bool} (h : b = true) (x : Option ρ) : chk b x = x := by subst h; rfl
theorem au {ρ : Type} {b : Bool} (h : b = true) (x y : Option ρ) : br b x y = x := by subst h; rfl
theorem aj {ρ : Type} {b : Bool} (h : b = false) (x y : Option ρ) : br b x y = y := by subst h; rfl
@[simp] theorem zZ {α γ ρ : Type} (x : α) (k : α -> Option ρ) (k' : γ -> Option ρ) : ob2 (some (.inl x)) k k' = k x := rfl
@[simp] theorem iR {α γ ρ : Type} (x : γ) (k : α -> Option ρ) (k' : γ -> Option ρ) : ob2 (some (.inr x)) k k' = k' x := rfl
theorem bX {ρ α : Type} (f : α -> Option ρ) (x : α) : jn f x = f x := rfl
theorem rO {ρ α : Type} {B : (α -> Option ρ) -> α -> Option ρ} (st : Nat -> α) {N : Nat} {r : Option ρ}
    (h1 : ∀ i, i < N -> ∀ g, B g (st i) = g (st (i + 1))) (h2 : ∀ g, B g (st N) = r) : ∀ k i n, i + k = N -> k < n -> fix B n (st i) = r := by
  intro k
  induction k with
  | zero => intro i n hi hn; rw [aX hn]; have : i = N := by omega
            subst this; exact h2 _
  | succ k ih => intro i n hi hn; rw [aX (by omega), h1 i (by omega)]; exact ih (i + 1) (n - 1) (by omega) (by omega)
theorem UR {ρ α : Type} {B : (α -> Option ρ) -> α -> Option ρ} (st : Nat -> α) {lo N : Nat} {r : Option ρ}
    (h1 : ∀ i, lo <= i -> i < N -> ∀ g, B g (st i) = g (st (i + 1))) (h2 : ∀ g, B g (st N) = r) : ∀ k i n, i + k = N -> lo <= i -> k < n -> fix B n (st i) = r := by
  intro k
  induction k with
  | zero => intro i n hi hl hn; rw [aX hn]; have : i = N := by omega
            subst this; exact h2 _
  | succ k ih => intro i n hi hl hn; rw [aX (by omega), h1 i hl (by omega)]; exact ih (i + 1) (n - 1) (by omega) (by omega) (by omega)
theorem qh {f : Nat -> Bool} {n : Nat} (h : (List.range n).all f = true) {i : Nat} (hi : i < n) : f i = true := by
 rw [List.all_eq_true] at h; exact h i (by simpa using hi)
def bn : (Nat -> Bool) -> Nat -> Nat
 | _, 0 => 0
 | f, k + 1 => (f 0).toNat + 2 * bn (fun i => f (i + 1)) k
theorem Wu : ∀ (k : Nat) (f : Nat -> Bool) (j : Nat), (bn f k).testBit j = (decide (j < k) && f j)
 | 0, f, j => by simp [bn]
 | k + 1, f, j => by
  unfold bn
  cases j with
  | zero => simp; cases f 0 <;> simp <;> omega
  | succ j =>
   rw [Nat.testBit_succ]
   have h : ((f 0).toNat + 2 * bn (fun i => f (i + 1)) k) / 2 = bn (fun i => f (i + 1)) k := by cases f 0 <;> simp <;> omega
   rw [h, Wu k]; simp
theorem Wv : ∀ (k : Nat) (f : Nat -> Bool), bn f k < 2 ^ k
 | 0, f => by simp [bn]
 | k + 1, f => by
  have := Wv k (fun i => f (i + 1))
  unfold bn
  cases f 0 <;> simp [Nat.pow_succ] <;> omega
theorem KP : ∀ (k : Nat) {f g : Nat -> Bool}, (∀ j, j < k -> f j = g j) -> bn f k = bn g k
 | 0, f, g, h => rfl
 | k + 1, f, g, h => by
  unfold bn
  rw [h 0 (by omega), KP k (fun j hj => h (j + 1) (by omega))]
theorem zdk {x k : Nat} {f : Nat -> Bool} (hx : x < 2 ^ k) (h : ∀ j, j < k -> x.testBit j = f j) : x = bn f k := by
 apply Nat.eq_of_testBit_eq
 intro j
 rw [Wu]
 by_cases hj : j < k
 ·simp [hj, h j hj]
 ·simp only [hj, decide_false, Bool.false_and]
  exact Nat.testBit_lt_two_pow (Nat.lt_of_lt_of_le hx (Nat.pow_le_pow_right (by omega) (by omega)))
def yu (p : Nat -> Bool) (k : Nat) : Nat := bn (fun j => p (64 * k + j)) 64
def word (p : Nat -> Bool) (k : Nat) : Int := (yu p k : Nat)
def wd (p : Nat -> Bool) : List Int := [word p 0, word p 1, word p 2, word p 3]
def bx (p : Nat -> Bool) : List Bool := (List.range 256).map p
theorem nZ (p : Nat -> Bool) (k : Nat) : yu p k < 2 ^ 64 := Wv _ _
theorem xJ (p : Nat -> Bool) (k j : Nat) : (yu p k).testBit j = (decide (j < 64) && p (64 * k + j)) := Wu _ _ _
theorem EJ {x k : Nat} {p : Nat -> Bool} (hx : x < 2 ^ 64) (h : ∀ j, j < 64 -> x.testBit j = p (64 * k + j)) : x = yu p k := zdk hx h
theorem wK {p q : Nat -> Bool} {k : Nat} (h : ∀ i, 64 * k <= i -> i < 64 * k + 64 -> p i = q i) : word p k = word q k := by
 unfold word yu; rw [KP 64 (fun j hj => h (64 * k + j) (by omega) (by omega))]
theorem rP {p q : Nat -> Bool} (h : ∀ i, i < 256 -> p i = q i) : wd p = wd q := by
 unfold wd
 rw [wK (fun i _ _ => h i (by omega)), wK (k := 1) (fun i _ _ => h i (by omega)), wK (k := 2) (fun i _ _ => h i (by omega)), wK (k := 3) (fun i _ _ => h i (by omega))]
theorem ig {p q : Nat -> Bool} (h : ∀ i, i < 256 -> p i = q i) : bx p = bx q := by
 unfold bx; apply List.map_congr_left; intro i hi; exact h i (by simpa using hi)
theorem word_inj {p q : Nat -> Bool} {k : Nat} (h : word p k = word q k) {i : Nat} (h1 : 64 * k <= i) (h2 : i < 64 * k + 64) : p i = q i := by
 have h : yu p k = yu q k := by unfold word at h; omega
 have := congrArg (fun x => x.testBit (i - 64 * k)) h
 simp only [xJ] at this
 rw [show 64 * k + (i - 64 * k) = i by omega] at this
 have h3 : i - 64 * k < 64 := by omega
 simpa [h3] using this
theorem zcw {p q : Nat -> Bool} (h : wd p = wd q) {i : Nat} (hi : i < 256) : p i = q i := by
 simp only [wd, List.cons.injEq, and_true] at h
 obtain ⟨h0, h1, h2, h3⟩ := h
 by_cases a : i < 64
 ·exact word_inj h0 (by omega) (by omega)
 ·by_cases b : i < 128
  ·exact word_inj h1 (by omega) (by omega)
  ·by_cases c : i < 192
   ·exact word_inj h2 (by omega) (by omega)
   ·exact word_inj h3 (by omega) (by omega)
theorem yQ {p : Nat -> Bool} {i : Nat} (d : Bool) (hi : i < 256) : (bx p).getD i d = p i := by
 simp [bx, List.getD_eq_getElem?_getD, hi]
theorem yR {p : Nat -> Bool} {i : Nat} (b : Bool) : (bx p).set i b = bx (fun j => if j = i then b else p j) := by
 apply List.ext_getElem?
 intro j
 by_cases hj : j < 256
 ·simp only [bx, List.getElem?_set, List.length_map, List.length_range, List.getElem?_map]
  by_cases e : i = j
  ·subst e; simp [hj]
  ·simp [e, Ne.symm e, hj]
 ·simp only [bx, List.getElem?_set, List.length_map, List.length_range, List.getElem?_map]
  simp [hj]
  omega
theorem mM : wd (fun _ => false) = [0, 0, 0, 0] := by decide +kernel
theorem vJ : bx (fun _ => false) = List.replicate 256 false := by decide +kernel
theorem wrapN {x : Nat} (h : x < 2 ^ 64) : IntKind.u64.wrap ((x : Nat) : Int) = x := IntWalk.u64_in _ (by omega)
theorem bvN {x : Nat} (h : x < 2 ^ 64) : (BitVec.ofInt 64 ((x : Nat) : Int)).toNat = x := by
 rw [BitVec.toNat_ofInt]; omega
theorem ior {a b : Nat} (ha : a < 2 ^ 64) (hb : b < 2 ^ 64) : dG .u64 .or (a : Int) (b : Int) = ((a ||| b : Nat) : Int) := by
 show IntKind.u64.wrap ((BitVec.ofInt 64 (a : Int) ||| BitVec.ofInt 64 (b : Int)).toNat : Int) = _
 rw [BitVec.toNat_or, bvN ha, bvN hb]
 exact wrapN (Nat.or_lt_two_pow ha hb)
theorem zeh {a b : Nat} (ha : a < 2 ^ 64) (hb : b < 2 ^ 64) : dG .u64 .xor (a : Int) (b : Int) = ((a ^^^ b : Nat) : Int) := by
 show IntKind.u64.wrap ((BitVec.ofInt 64 (a : Int) ^^^ BitVec.ofInt 64 (b : Int)).toNat : Int) = _
 rw [BitVec.toNat_xor, bvN ha, bvN hb]
 exact wrapN (Nat.xor_lt_two_pow ha hb)
theorem zei {a b : Nat} (ha : a < 2 ^ 64) (hb : b < 2 ^ 64) : dG .u64 .and (a : Int) (b : Int) = ((a &&& b : Nat) : Int) := by
 show IntKind.u64.wrap ((BitVec.ofInt 64 (a : Int) &&& BitVec.ofInt 64 (b : Int)).toNat : Int) = _
 rw [BitVec.toNat_and, bvN ha, bvN hb]
 exact wrapN (Nat.and_lt_two_pow _ hb)
theorem za4 (p q : Nat -> Bool) (k : Nat) : dG .u64 .or (word p k) (word q k) = word (fun i => p i || q i) k := by
 unfold word
 rw [ior (nZ _ _) (nZ _ _), EJ (p := fun i => p i || q i) (Nat.or_lt_two_pow (nZ p k) (nZ q k))]
 intro j hj
 simp [xJ, hj]
theorem za5 (j : Nat) : (18446744073709551615 : Nat).testBit j = decide (j < 64) := by
 have := Nat.testBit_two_pow_sub_one 64 j
 simpa using this
theorem Zn (p : Nat -> Bool) (k : Nat) : dG .u64 .xor 18446744073709551615 (word p k) = word (fun i => !p i) k := by
 unfold word
 rw [show (18446744073709551615 : Int) = ((18446744073709551615 : Nat) : Int) from rfl]
 rw [zeh (by omega) (nZ _ _), EJ (p := fun i => !p i) (Nat.xor_lt_two_pow (by omega) (nZ p k))]
 intro j hj
 simp [Nat.testBit_xor, za5, xJ, hj]
theorem XQ (p : Nat -> Bool) {i : Nat} (hi : i < 256) : (wd p).set (i / 64) (dG .u64 .or ((wd p).getD (i / 64) 0) (((2 ^ (i % 64) : Nat)) : Int)) = wd (fun j => p j || decide (j = i)) := by
 have hb : 2 ^ (i % 64) < 2 ^ 64 := Nat.pow_lt_pow_right (by omega) (by omega)
 have hw : ∀ k, k = i / 64 -> dG .u64 .or (word p k) (((2 ^ (i % 64) : Nat)) : Int) = word (fun j => p j || decide (j = i)) k := by
  intro k hk
  unfold word
  rw [ior (nZ _ _) hb, EJ (p := fun j => p j || decide (j = i)) (Nat.or_lt_two_pow (nZ p k) hb)]
  intro j hj
  simp only [Nat.testBit_or, xJ, Nat.testBit_two_pow, hj, decide_true, Bool.true_and]
  congr 1
  apply decide_eq_decide.2
  omega
 have ho : ∀ k, k ≠ i / 64 -> word p k = word (fun j => p j || decide (j = i)) k := by
  intro k hk
  apply wK
  intro j h1 h2
  have : j ≠ i := by omega
  simp [this]
 have hk : i / 64 = 0 ∨ i / 64 = 1 ∨ i / 64 = 2 ∨ i / 64 = 3 := by omega
 rcases hk with h | h | h | h <;> rw [h] <;> simp only [wd, List.getD_cons_zero, List.getD_cons_succ, List.set_cons_zero, List.set_cons_succ]
 ·rw [hw 0 h.symm, ho 1 (by omega), ho 2 (by omega), ho 3 (by omega)]
 ·rw [hw 1 h.symm, ho 0 (by omega), ho 2 (by omega), ho 3 (by omega)]
 ·rw [hw 2 h.symm, ho 0 (by omega), ho 1 (by omega), ho 3 (by omega)]
 ·rw [hw 3 h.symm, ho 0 (by omega), ho 1 (by omega), ho 2 (by omega)]
theorem XR : ((List.range 256).all fun i => decide (kP .i64 (i : Int) 6 = ((i / 64 : Nat) : Int)) && decide (FU .u64 1 (dG .i64 .and (i : Int) 63) = ((2 ^ (i % 64) : Nat) : Int)) && decide (0 <= dG .i64 .and (i : Int) 63)
 && decide (kP .u8 (i : Int) 6 = ((i / 64 : Nat) : Int)) && decide (FU .u64 1 (dG .u8 .and (i : Int) 63) = ((2 ^ (i % 64) : Nat) : Int)) && decide (0 <= dG .u8 .and (i : Int) 63)) = true := by decide +kernel
theorem zej {i : Nat} (hi : i < 256) : kP .i64 (i : Int) 6 = ((i / 64 : Nat) : Int) ∧ FU .u64 1 (dG .i64 .and (i : Int) 63) = ((2 ^ (i % 64) : Nat) : Int) ∧ 0 <= dG .i64 .and (i : Int) 63 := by
 have := qh XR hi
 simp only [Bool.and_eq_true, decide_eq_true_eq] at this
 exact ⟨this.1.1.1.1.1, this.1.1.1.1.2, this.1.1.1.2⟩
theorem zcx {i : Nat} (hi : i < 256) : kP .u8 (i : Int) 6 = ((i / 64 : Nat) : Int) ∧ FU .u64 1 (dG .u8 .and (i : Int) 63) = ((2 ^ (i % 64) : Nat) : Int) ∧ 0 <= dG .u8 .and (i : Int) 63 := by
 have := qh XR hi
 simp only [Bool.and_eq_true, decide_eq_true_eq] at this
 exact ⟨this.1.1.2, this.1.2, this.2⟩
theorem EK : Ty.dflt (.int .u64) = (0 : Int) := rfl
def bE (a b : Nat) : Nat -> Bool := fun i => decide (a <= i) && decide (i <= b)
theorem UU {p q : Nat -> Bool} (h : ∀ i, i < 256 -> p i = q i) : some (wd p) = some (wd q) := by rw [rP h]
theorem DU {p q : Nat -> Bool} (h : ∀ i, i < 256 -> p i = q i) : some (bx p) = some (bx q) := by rw [ig h]
theorem wL {n a b : Nat} (hn : 300 <= n) (ha : a < 256) (hb : b < 256) : bU n ((a : Int), (b : Int)) = some (wd (bE a b)) := by
 unfold bU
 simp only
 rw [aK (by omega) (by omega)]
 by_cases hab : a <= b
 ·have := UR (lo := a) (B := mZ n) (r := some (wd (bE a b))) (N := b + 1) (fun i => ((b : Int), (i : Int), wd (fun j => decide (a <= j) && decide (j < i)), ()))
   (by
    intro i hlo hi g
    have hi2 : i < 256 := by omega
    obtain ⟨s1, s2, s3⟩ := zej hi2
    rw [mZ]
    simp only
    have hc : i <= b := by omega
    rw [aK (by omega) (by omega), s1, s2]
    rw [au (by simp; omega), ah (by decide), ah (cK (by omega) (by omega)), ah (by simp; omega), ah (by simpa using s3), ah (cK (by omega) (by omega)), ah (by simp; omega)]
    rw [aK (by omega) (by omega), EK, Int.toNat_natCast, XQ _ hi2]
    have : wd (fun j => (decide (a <= j) && decide (j < i)) || decide (j = i)) = wd (fun j => decide (a <= j) && decide (j < i + 1)) := by
     refine rP fun j hj => ?_
     rw [Bool.eq_iff_iff]; simp; omega
    rw [this]; rfl)
   (by
    intro g
    rw [mZ]
    simp only
    rw [aj (by rw [aK (by omega) (by omega)]; simp; omega)]
    refine UU fun i hi => ?_
    simp only [bE]; rw [Bool.eq_iff_iff]; simp; omega)
   (b + 1 - a) a n (by omega) (by omega) (by omega)
  have e : wd (fun j => decide (a <= j) && decide (j < a)) = [0, 0, 0, 0] := by
   rw [<- mM]; refine rP fun j hj => ?_
   rw [Bool.eq_iff_iff]; simp
  simp only [e] at this
  exact this
 ·rw [aX (by omega), mZ]
  simp only
  rw [aj (by rw [aK (by omega) (by omega)]; simp; omega), <- mM]
  refine UU fun j hj => ?_
  simp only [bE]; rw [Bool.eq_iff_iff]; simp; omega
theorem MJ {n : Nat} (hn : 5 <= n) (p : Nat -> Bool) : Ae n (wd p) = some (wd fun i => !p i) := by
 obtain ⟨m, rfl⟩ : ∃ m, n = m + 5 := ⟨n - 5, by omega⟩
 have h := Zn p
 have e : wd (fun i => !p i) = [dG .u64 .xor 18446744073709551615 (word p 0), dG .u64 .xor 18446744073709551615 (word p 1), dG .u64 .xor 18446744073709551615 (word p 2), dG .u64 .xor 18446744073709551615 (word p 3)] := by rw [h, h, h, h]; rfl
 rw [e]
 rfl
theorem Ww {n : Nat} (hn : 5 <= n) (g0 : List (List Int) × Int × Int × List Int × Unit -> Option (List Int)) (l : List (List Int)) (c i : Int) (p q : Nat -> Bool) :
  fix (Gt n g0) n (l, c, i, 0, wd p, wd q, ()) = g0 (l, c, IntKind.wrap .i64 (i + 1), wd (fun i => p i || q i), ()) := by
 obtain ⟨m, rfl⟩ : ∃ m, n = m + 5 := ⟨n - 5, by omega⟩
 have h := za4 p q
 have e : wd (fun i => p i || q i) = [dG .u64 .or (word p 0) (word q 0), dG .u64 .or (word p 1) (word q 1), dG .u64 .or (word p 2) (word q 2), dG .u64 .or (word p 3) (word q 3)] := by rw [h, h, h, h]; rfl
 rw [e]
 rfl
theorem O7 {n : Nat} (ps : List (Nat -> Bool)) (hn : 5 <= n) (hl : ps.length < n) (hm : ps.length < 1000) : lS n (ps.map wd) = some (wd fun i => ps.any (· i)) := by
 unfold lS
 simp only [List.length_map]
 have := rO (B := vV n) (r := some (wd fun i => ps.any (· i))) (N := ps.length) (fun i => (ps.map wd, (ps.length : Int), (i : Int), wd (fun j => (ps.take i).any (· j)), ()))
  (by
   intro i hi g
   rw [vV]
   simp only
   rw [au (by simp; omega), ah (cK (by omega) (by simp; omega))]
   have hg : aG (Ty.dflt (.arr 4 (.int .u64))) (ps.map wd) (i : Int) = wd ps[i] := by
    simp [aG, List.getD_eq_getElem?_getD, hi]
   rw [hg, Ww hn, aK (by omega) (by omega)]
   have hw : wd (fun j => (ps.take i).any (· j) || ps[i] j) = wd (fun j => (ps.take (i + 1)).any (· j)) := by
    refine rP fun j hj => ?_
    rw [List.take_succ_eq_append_getElem hi, List.any_append]; simp
   rw [hw]; rfl)
  (by
   intro g
   rw [vV]
   simp only
   rw [aj (by simp)]
   simp)
  ps.length 0 n (by omega) hl
 simpa [mM] using this
def ofP (s : List UInt8) : Nat -> Bool := fun i => s.any fun c => decide (c.toNat = i)
theorem eT {α : Type} {d : α} {s : List α} {i : Nat} (h : i < s.length) : aG d s (i : Int) = s[i] := by
 simp [aG, List.getD_eq_getElem?_getD, h]
theorem Sk {s : List UInt8} {i : Nat} (h : i < s.length) : ofP (s.take (i + 1)) = fun j => ofP (s.take i) j || decide (j = s[i].toNat) := by
 funext j
 simp only [ofP]
 rw [List.take_succ_eq_append_getElem h, List.any_append]
 simp [eq_comm]
theorem H8 {n : Nat} (s : List UInt8) (hl : s.length < n) (hm : s.length < 100000) : ng n s = some (wd (ofP s)) := by
 unfold ng
 simp only
 have := rO (B := vX n) (r := some (wd (ofP s))) (N := s.length) (fun i => (s, (s.length : Int), (i : Int), wd (ofP (s.take i)), ()))
  (by
   intro i hi g
   have hc : s[i].toNat < 256 := s[i].toNat_lt
   obtain ⟨s1, s2, s3⟩ := zcx hc
   rw [vX]
   simp only
   rw [eT hi, s1, s2]
   rw [au (by simp; omega), ah (dM hi), ah (by decide), ah (cK (by omega) (by omega)), ah (by simp; omega), ah (dM hi), ah (by simpa using s3), ah (cK (by omega) (by omega)), ah (by simp; omega)]
   rw [aK (by omega) (by omega), EK, Int.toNat_natCast, XQ _ hc, Sk hi]
   rfl)
  (by
   intro g
   rw [vX]
   simp only
   rw [aj (by simp)]
   simp)
  s.length 0 n (by omega) hl
 have e : wd (ofP (s.take 0)) = [0, 0, 0, 0] := by rw [<- mM]; rfl
 simp only [e] at this
 simpa using this
theorem sU {n a b : Nat} (hn : 300 <= n) (ha : a < 256) (hb : b < 256) : bS n ((a : Int), (b : Int)) = some (bx (bE a b)) := by
 unfold bS
 simp only
 rw [aK (by omega) (by omega)]
 by_cases hab : a <= b
 ·have := UR (lo := a) (B := kK n) (r := some (bx (bE a b))) (N := b + 1) (fun i => ((b : Int), (i : Int), List.replicate 256 false, bx (fun j => decide (a <= j) && decide (j < i)), ()))
   (by
    intro i hlo hi g
    have hi2 : i < 256 := by omega
    rw [kK]
    simp only
    have hc : i <= b := by omega
    rw [aK (by omega) (by omega)]
    rw [au (by simp; omega), ah (cK (by omega) (by omega)), ah (by simp; omega)]
    rw [aK (by omega) (by omega), Int.toNat_natCast, yR]
    have : bx (fun j => if j = i then true else (decide (a <= j) && decide (j < i))) = bx (fun j => decide (a <= j) && decide (j < i + 1)) := by
     refine ig fun j hj => ?_
     rw [Bool.eq_iff_iff]; split <;> simp <;> omega
    rw [this]; rfl)
   (by
    intro g
    rw [kK]
    simp only
    rw [aj (by rw [aK (by omega) (by omega)]; simp; omega)]
    refine DU fun i hi => ?_
    simp only [bE]; rw [Bool.eq_iff_iff]; simp; omega)
   (b + 1 - a) a n (by omega) (by omega) (by omega)
  have e : bx (fun j => decide (a <= j) && decide (j < a)) = List.replicate 256 false := by
   rw [<- vJ]; refine ig fun j hj => ?_
   rw [Bool.eq_iff_iff]; simp
  simp only [e] at this
  exact this
 ·rw [aX (by omega), kK]
  simp only
  rw [aj (by rw [aK (by omega) (by omega)]; simp; omega), <- vJ]
  refine DU fun j hj => ?_
  simp only [bE]; rw [Bool.eq_iff_iff]; simp; omega
theorem Sl {n : Nat} (hn : 300 <= n) (p : Nat -> Bool) : yK n (bx p) = some (bx fun i => !p i) := by
 unfold yK
 simp only
 have := rO (B := qO n) (r := some (bx fun i => !p i)) (N := 256) (fun i => ((i : Int), bx (fun j => if j < i then !p j else p j), List.replicate 256 false, ()))
  (by
   intro i hi g
   rw [qO]
   simp only
   rw [au (by simp; omega), ah (cK (by omega) (by omega)), ah (by simp; omega), ah (cK (by omega) (by omega)), ah (by simp; omega)]
   rw [aK (by omega) (by omega), Int.toNat_natCast, yQ _ hi, yR]
   have : bx (fun j => if j = i then !(if i < i then !p i else p i) else if j < i then !p j else p j) = bx (fun j => if j < i + 1 then !p j else p j) := by
    refine ig fun j hj => ?_
    by_cases e : j = i
    ·subst e; simp
    ·by_cases e2 : j < i
     ·simp [e, e2, Nat.lt_succ_of_lt e2]
     ·simp [e, e2, show ¬ j < i + 1 by omega]
   rw [this]; rfl)
  (by
   intro g
   rw [qO]
   simp only
   rw [aj (by simp)]
   refine DU fun i hi => ?_
   simp [hi])
  256 0 n (by omega) (by omega)
 have e : bx (fun j => if j < 0 then !p j else p j) = bx p := ig fun j hj => by simp
 rw [e] at this
 exact this
theorem yw {n : Nat} (hn : 300 <= n) (p q : Nat -> Bool) : iH n (bx p, bx q) = some (bx fun i => p i || q i) := by
 unfold iH
 simp only
 have := rO (B := sG n) (r := some (bx fun i => p i || q i)) (N := 256) (fun i => ((i : Int), bx (fun j => if j < i then p j || q j else p j), bx q, List.replicate 256 false, ()))
  (by
   intro i hi g
   have key : ∀ b, b = (p i || q i) -> (g (((i + 1 : Nat) : Int), bx (fun j => if j = i then b else if j < i then p j || q j else p j), bx q, List.replicate 256 false, ()) = g (((i + 1 : Nat) : Int), bx (fun j => if j < i + 1 then p j || q j else p j), bx q, List.replicate 256 false, ())) := by
    intro b hb
    have : bx (fun j => if j = i then b else if j < i then p j || q j else p j) = bx (fun j => if j < i + 1 then p j || q j else p j) := by
     refine ig fun j hj => ?_
     by_cases e : j = i
     ·subst e; simp [hb]
     ·by_cases e2 : j < i
      ·simp [e, e2, Nat.lt_succ_of_lt e2]
      ·simp [e, e2, show ¬ j < i + 1 by omega]
    rw [this]
   rw [sG]
   simp only
   rw [au (by simp; omega), ah (cK (by omega) (by omega)), ah (by simp; omega), ah (cK (by omega) (by omega)), ah (by simp; omega)]
   rw [aK (by omega) (by omega), Int.toNat_natCast, yQ _ hi, yQ _ hi, yR, yR, show (i : Int) + 1 = ((i + 1 : Nat) : Int) from rfl]
   simp only [Nat.lt_irrefl, if_false]
   cases hp : p i
   ·rw [aj rfl, ah (cK (by omega) (by omega)), ah (decide_eq_true hi), ah (cK (by omega) (by omega)), ah (decide_eq_true hi)]; rw [key (q i) (by rw [hp]; rfl)]
   ·rw [au rfl]; exact key true (by rw [hp]; rfl))
  (by
   intro g
   rw [sG]
   simp only
   rw [aj (by simp)]
   refine DU fun i hi => ?_
   simp [hi])
  256 0 n (by omega) (by omega)
 have e : bx (fun j => if j < 0 then p j || q j else p j) = bx p := ig fun j hj => by simp
 rw [e] at this
 exact this
theorem yx {n : Nat} (s : List UInt8) (hl : s.length < n) (hm : s.length < 100000) : iI n s = some (bx (ofP s)) := by
 unfold iI
 simp only
 have := rO (B := sH n) (r := some (bx (ofP s))) (N := s.length) (fun i => (s, (i : Int), List.replicate 256 false, bx (ofP (s.take i)), ()))
  (by
   intro i hi g
   have hc : s[i].toNat < 256 := s[i].toNat_lt
   rw [sH]
   simp only
   rw [eT hi]
   rw [au (by simp; omega), ah (dM hi), ah (cK (by omega) (by omega)), ah (by simp; omega)]
   rw [aK (by omega) (by omega), Int.toNat_natCast, yR, Sk hi]
   have : bx (fun j => if j = s[i].toNat then true else ofP (s.take i) j) = bx (fun j => ofP (s.take i) j || decide (j = s[i].toNat)) := by
    refine ig fun j hj => ?_
    by_cases e : j = s[i].toNat
    ·rw [if_pos e]; simp [e]
    ·rw [if_neg e]; simp [e]
   rw [this]; rfl)
  (by
   intro g
   rw [sH]
   simp only
   rw [aj (by simp)]
   simp)
  s.length 0 n (by omega) hl
 have e : bx (ofP (s.take 0)) = List.replicate 256 false := by rw [<- vJ]; rfl
 simp only [e] at this
 exact this
def aU (p : Nat -> Bool) : List UInt8 := ((List.range 256).filter p).map UInt8.ofNat
theorem xK {n : Nat} (hn : 300 <= n) (p : Nat -> Bool) : jQ n (bx p) = some (aU p) := by
 unfold jQ
 simp only
 have := rO (B := oh n) (r := some (aU p)) (N := 256) (fun i => ((i : Int), bx p, ((List.range i).filter p).map (fun j => ((j : Nat) : Int)), ()))
  (by
   intro i hi g
   have hle : ((List.range i).filter p).length <= i := by have := List.length_filter_le p (List.range i); simpa using this
   rw [oh]
   simp only
   rw [au (by simp; omega), ah (cK (by omega) (by omega)), ah (by simp; omega)]
   rw [aK (by omega) (by omega), Int.toNat_natCast, yQ _ hi, show (i : Int) + 1 = ((i + 1 : Nat) : Int) from rfl, IntWalk.u8_in _ (by omega), List.range_succ]
   cases hp : p i
   ·rw [aj rfl]; simp [hp]
   ·rw [au rfl, ah (by simp [room]; omega)]; simp [hp])
  (by
   intro g
   rw [oh]
   simp only
   rw [aj (by simp)]
   simp [dQ, aU])
  256 0 n (by omega) (by omega)
 exact this
theorem EL (p : Nat -> Bool) : (aU p).length <= 256 := by
 have := List.length_filter_le p (List.range 256); simpa [aU] using this
theorem zm {n : Nat} (hn : 300 <= n) (p : Nat -> Bool) : pI n (bx p) = some ((aU p).length : Int) := by
 unfold pI
 simp only
 rw [xK hn]; rfl
theorem Ud {p : Nat -> Bool} : (aU p).length = 0 <-> ∀ i, i < 256 -> p i = false := by
 simp [aU, List.filter_eq_nil_iff]
theorem zcy {p : Nat -> Bool} : wd p = [0, 0, 0, 0] <-> ∀ i, i < 256 -> p i = false := by
 rw [<- mM]
 exact ⟨fun h i hi => zcw h hi, fun h => rP h⟩
theorem zek {p q : Nat -> Bool} : Ty.beq (.arr 4 (.int .u64)) (wd p) (wd q) = true <-> wd p = wd q := beq_iff rfl
def vN (p : Nat -> Bool) (i k : Nat) : Nat := bn (fun j => p (max i (64 * k) + j)) (64 * (k + 1) - max i (64 * k))
def vW (p : Nat -> Bool) (i : Nat) : List Int := [((vN p i 0 : Nat) : Int), ((vN p i 1 : Nat) : Int), ((vN p i 2 : Nat) : Int), ((vN p i 3 : Nat) : Int)]
theorem zaj (p : Nat -> Bool) (i k : Nat) : vN p i k < 2 ^ 64 := by
 unfold vN
 exact Nat.lt_of_lt_of_le (Wv _ _) (Nat.pow_le_pow_right (by omega) (by omega))
theorem UW (p : Nat -> Bool) {i k : Nat} (h : i / 64 = k) : vN p i k = (p i).toNat + 2 * vN p (i + 1) k := by
 unfold vN
 have h1 : max i (64 * k) = i := by omega
 have h2 : max (i + 1) (64 * k) = i + 1 := by omega
 rw [h1, h2, show 64 * (k + 1) - i = (64 * (k + 1) - (i + 1)) + 1 by omega]
 rw [bn]
 congr 2
 apply KP
 intro j hj
 show p (i + (j + 1)) = p (i + 1 + j)
 congr 1; omega
theorem Sm (p : Nat -> Bool) {i k : Nat} (h : i / 64 ≠ k) : vN p (i + 1) k = vN p i k := by
 unfold vN
 by_cases h1 : i < 64 * k
 ·have h1' : max i (64 * k) = 64 * k := by omega
  have h2 : max (i + 1) (64 * k) = 64 * k := by omega
  rw [h1', h2]
 ·have h3 : 64 * (k + 1) - max i (64 * k) = 0 := by omega
  have h4 : 64 * (k + 1) - max (i + 1) (64 * k) = 0 := by omega
  rw [h3, h4]; rfl
theorem UY (p : Nat -> Bool) : vW p 0 = wd p := by
 unfold vW wd word yu vN
 simp [show ∀ k, max 0 (64 * k) = 64 * k by omega]
theorem zcz (p : Nat -> Bool) {i : Nat} (hi : i < 256) : (vW p (i + 1)).set (i / 64) ((vN p i (i / 64) : Nat) : Int) = vW p i := by
 have hk : i / 64 = 0 ∨ i / 64 = 1 ∨ i / 64 = 2 ∨ i / 64 = 3 := by omega
 have ho : ∀ k, i / 64 ≠ k -> vN p (i + 1) k = vN p i k := fun k h => Sm p h
 rcases hk with h | h | h | h <;> rw [h] <;> simp only [vW, List.set_cons_zero, List.set_cons_succ]
 ·rw [ho 1 (by omega), ho 2 (by omega), ho 3 (by omega)]
 ·rw [ho 0 (by omega), ho 2 (by omega), ho 3 (by omega)]
 ·rw [ho 0 (by omega), ho 1 (by omega), ho 3 (by omega)]
 ·rw [ho 0 (by omega), ho 1 (by omega), ho 2 (by omega)]
theorem za6 (p : Nat -> Bool) {i : Nat} (hi : i < 256) : (vW p i).set (i / 64) ((vN p (i + 1) (i / 64) : Nat) : Int) = vW p (i + 1) := by
 have hk : i / 64 = 0 ∨ i / 64 = 1 ∨ i / 64 = 2 ∨ i / 64 = 3 := by omega
 have ho : ∀ k, i / 64 ≠ k -> vN p (i + 1) k = vN p i k := fun k h => Sm p h
 rcases hk with h | h | h | h <;> rw [h] <;> simp only [vW, List.set_cons_zero, List.set_cons_succ]
 ·rw [ho 1 (by omega), ho 2 (by omega), ho 3 (by omega)]
 ·rw [ho 0 (by omega), ho 2 (by omega), ho 3 (by omega)]
 ·rw [ho 0 (by omega), ho 1 (by omega), ho 3 (by omega)]
 ·rw [ho 0 (by omega), ho 1 (by omega), ho 2 (by omega)]
theorem XT (p : Nat -> Bool) {i k : Nat} (hk : k < 4) : (vW p i).getD k 0 = ((vN p i k : Nat) : Int) := by
 have : k = 0 ∨ k = 1 ∨ k = 2 ∨ k = 3 := by omega
 rcases this with rfl | rfl | rfl | rfl <;> rfl
theorem zcA (p : Nat -> Bool) (i : Nat) : (vW p i).length = 4 := rfl
theorem Oh {n : Nat} (hn : 300 <= n) (p : Nat -> Bool) : ug n (bx p) = some (wd p) := by
 unfold ug
 simp only
 have := rO (B := oo n) (r := some (wd p)) (N := 256) (fun i => (255 - (i : Int), bx p, [0, 0, 0, 0], vW p (256 - i), ()))
  (by
   intro i hi g
   obtain ⟨j, hj⟩ : ∃ j, j = 255 - i := ⟨_, rfl⟩
   have e1 : (255 : Int) - (i : Int) = (j : Int) := by omega
   have e2 : 256 - i = j + 1 := by omega
   have e3 : (255 : Int) - ((i + 1 : Nat) : Int) = (j : Int) - 1 := by omega
   have e4 : 256 - (i + 1) = j := by omega
   have hj2 : j < 256 := by omega
   have hk : j / 64 < 4 := by omega
   have hv : IntKind.wrap .i64 (Int.tdiv (j : Int) 64) = ((j / 64 : Nat) : Int) := by
    rw [IntWalk.i64_quo _ _ (by omega)]; rfl
   have hs := UW p (i := j) rfl
   have hlt := zaj p j (j / 64)
   rw [e1, e2, e3, e4, oo]
   simp only
   rw [au (by simp), ah (by decide), ah (by decide), hv, ah (cK (by omega) (by omega)), ah (by simp; omega), ah (cK (by omega) (by omega)), ah (by simp; omega), ah (cK (by omega) (by omega)), ah (by simp; omega)]
   rw [Int.toNat_natCast, Int.toNat_natCast, EK, XT p hk, yQ _ hj2, aK (by omega) (by omega)]
   rw [<- zcz p hj2]
   cases hp : p j
   ·rw [aj rfl]
    rw [hp] at hs
    rw [IntWalk.u64_in _ (by simp at hs; omega)]
    have : ((vN p (j + 1) (j / 64) : Nat) : Int) * 2 = ((vN p j (j / 64) : Nat) : Int) := by simp at hs; omega
    rw [this]
   ·rw [au rfl, ah (by decide), ah (cK (by omega) (by omega)), ah (by simp; omega), ah (cK (by omega) (by omega)), ah (by simp; omega)]
    rw [hp] at hs
    simp only [Bool.toNat_true] at hs
    rw [IntWalk.u64_in _ (by omega)]
    have hg : ∀ y, ((vW p (j + 1)).set (j / 64) y).getD (j / 64) 0 = y := by
     intro y
     rw [List.getD_eq_getElem?_getD, List.getElem?_set_self (by rw [zcA]; exact hk)]; rfl
    rw [hg, IntWalk.u64_in _ (by omega), List.set_set]
    have : ((vN p (j + 1) (j / 64) : Nat) : Int) * 2 + 1 = ((vN p j (j / 64) : Nat) : Int) := by omega
    rw [this])
  (by
   intro g
   rw [oo]
   simp only
   rw [aj (by simp)]
   rw [show 256 - 256 = 0 from rfl, UY])
  256 0 n (by omega) (by omega)
 exact this
theorem Qd {n : Nat} (hn : 300 <= n) (p : Nat -> Bool) : wu n (wd p) = some (bx p) := by
 unfold wu
 simp only
 have := rO (B := pJ n) (r := some (bx p)) (N := 256) (fun i => ((i : Int), vW p i, List.replicate 256 false, bx (fun j => decide (j < i) && p j), ()))
  (by
   intro i hi g
   have hk : i / 64 < 4 := by omega
   have hv : IntKind.wrap .i64 (Int.tdiv (i : Int) 64) = ((i / 64 : Nat) : Int) := by
    rw [IntWalk.i64_quo _ _ (by omega)]; rfl
   have hs := UW p (i := i) rfl
   have hlt := zaj p i (i / 64)
   rw [pJ]
   simp only
   rw [hv, Int.toNat_natCast, Int.toNat_natCast, EK, XT p hk, yR]
   have e1 : IntKind.wrap .u64 (Int.tdiv ((vN p i (i / 64) : Nat) : Int) 2) = ((vN p (i + 1) (i / 64) : Nat) : Int) := by
    rw [IntWalk.u64_quo _ _ (by omega)]
    cases hp : p i <;> rw [hp] at hs <;> simp at hs <;> omega
   have e2 : (Int.tmod ((vN p i (i / 64) : Nat) : Int) 2 == 1) = p i := by
    rw [Int.tmod_eq_emod_of_nonneg (by omega)]
    cases hp : p i <;> rw [hp] at hs <;> simp at hs <;> simp <;> omega
   rw [e1, e2, za6 p hi]
   rw [au (by simp; omega), ah (by decide), ah (cK (by omega) (by omega)), ah (by simp; omega), ah (by decide), ah (cK (by omega) (by omega)), ah (by simp; omega), ah (by decide), ah (by decide), ah (cK (by omega) (by omega)), ah (by simp; omega), ah (by decide), ah (cK (by omega) (by omega)), ah (by simp; omega)]
   rw [aK (by omega) (by omega)]
   have : bx (fun j => if j = i then p i else decide (j < i) && p j) = bx (fun j => decide (j < i + 1) && p j) := by
    refine ig fun j hj => ?_
    by_cases e : j = i
    ·subst e; simp
    ·rw [if_neg e]; congr 1; apply decide_eq_decide.2; omega
   rw [this]; rfl)
  (by
   intro g
   rw [pJ]
   simp only
   rw [aj (by simp)]
   refine DU fun i hi => ?_
   simp [hi])
  256 0 n (by omega) (by omega)
 have e : bx (fun j => decide (j < 0) && p j) = List.replicate 256 false := by rw [<- vJ]; exact ig fun j hj => by simp
 rw [e, UY] at this
 exact this
theorem MK {n : Nat} (hn : 300 <= n) (p q : Nat -> Bool) : fix (kL n) n (0, List.replicate 256 false, bx p, bx q, ()) = some (bx (fun i => q i && !p i), true) := by
 have := rO (B := kL n) (r := some (bx (fun i => q i && !p i), true)) (N := 256) (fun i => ((i : Int), List.replicate 256 false, bx p, bx (fun j => if j < i then q j && !p j else q j), ()))
  (by
   intro i hi g
   have key : ∀ b, b = (q i && !p i) -> (g (((i + 1 : Nat) : Int), List.replicate 256 false, bx p, bx (fun j => if j = i then b else if j < i then q j && !p j else q j), ()) = g (((i + 1 : Nat) : Int), List.replicate 256 false, bx p, bx (fun j => if j < i + 1 then q j && !p j else q j), ())) := by
    intro b hb
    have : bx (fun j => if j = i then b else if j < i then q j && !p j else q j) = bx (fun j => if j < i + 1 then q j && !p j else q j) := by
     refine ig fun j hj => ?_
     by_cases e : j = i
     ·subst e; simp [hb]
     ·by_cases e2 : j < i
      ·simp [e, e2, Nat.lt_succ_of_lt e2]
      ·simp [e, e2, show ¬ j < i + 1 by omega]
    rw [this]
   rw [kL]
   simp only
   rw [au (by simp; omega), ah (cK (by omega) (by omega)), ah (by simp; omega)]
   rw [aK (by omega) (by omega), Int.toNat_natCast, yQ _ hi, yQ _ hi, yR, yR, show (i : Int) + 1 = ((i + 1 : Nat) : Int) from rfl]
   simp only [Nat.lt_irrefl, if_false]
   cases hq : q i
   ·rw [aj rfl, ah (cK (by omega) (by omega)), ah (decide_eq_true hi)]; exact key false (by rw [hq]; rfl)
   ·rw [au rfl, ah (cK (by omega) (by omega)), ah (decide_eq_true hi), ah (cK (by omega) (by omega)), ah (decide_eq_true hi)]; exact key (!p i) (by rw [hq]; rfl))
  (by
   intro g
   rw [kL]
   simp only
   rw [aj (by simp)]
   have e : bx (fun j => if j < 256 then q j && !p j else q j) = bx (fun i => q i && !p i) := ig fun j hj => by simp [hj]
   rw [e])
  256 0 n (by omega) (by omega)
 have e : bx (fun j => if j < 0 then q j && !p j else q j) = bx q := ig fun j hj => by simp
 rw [e] at this
 exact this
def Sn (ps : List (Nat -> Bool)) : Nat -> Bool := fun i => ps.any (· i)
def Bt (s : List UInt8) : Option (Nat -> Bool) :=
 bif s == [117, 112, 112, 101, 114] then some (bE 65 90)
 else bif s == [108, 111, 119, 101, 114] then some (bE 97 122)
 else bif s == [97, 108, 112, 104, 97] then some (Sn [bE 65 90, bE 97 122])
 else bif s == [100, 105, 103, 105, 116] then some (bE 48 57)
 else bif s == [97, 108, 110, 117, 109] then some (Sn [bE 65 90, bE 97 122, bE 48 57])
 else bif s == [120, 100, 105, 103, 105, 116] then some (Sn [bE 48 57, bE 65 70, bE 97 102])
 else bif s == [98, 108, 97, 110, 107] then some (ofP [32, 9])
 else bif s == [115, 112, 97, 99, 101] then some (ofP [32, 9, 10, 11, 12, 13])
 else bif s == [99, 110, 116, 114, 108] then some (Sn [bE 0 31, ofP [127]])
 else bif s == [103, 114, 97, 112, 104] then some (bE 33 126)
 else bif s == [112, 114, 105, 110, 116] then some (bE 32 126)
 else bif s == [112, 117, 110, 99, 116] then some (Sn [bE 33 47, bE 58 64, bE 91 96, bE 123 126])
 else none
def UZ (o : Option (Nat -> Bool)) (a : Option (List Int × Bool)) (b : Option (List Bool × Bool)) : Prop := match o with
 | some p => a = some (wd p, true) ∧ b = some (bx p, true)
 | none => a = some (wd fun _ => false, false) ∧ ∃ p, b = some (bx p, false)
theorem iF {p q : Nat -> Bool} (h : ((List.range 256).all fun i => p i == q i) = true) (o : Option (List Int × Bool)) (o2 : Option (List Bool × Bool)) (h1 : o = some (wd p, true)) (h2 : o2 = some (bx q, true)) :
  UZ (some p) o o2 := by
 refine ⟨h1, ?_⟩
 rw [h2]
 have : bx q = bx p := ig fun i hi => by have := qh h hi; simp at this; exact this.symm
 rw [this]
theorem ML {n : Nat} (hn : 300 <= n) (s : List UInt8) : UZ (Bt s) (yI n s) (uf n s) := by
 have R : ∀ a b : Nat, a < 256 -> b < 256 -> bU n ((a : Int), (b : Int)) = some (wd (bE a b)) := fun a b ha hb => wL hn ha hb
 have R2 : ∀ a b : Nat, a < 256 -> b < 256 -> bS n ((a : Int), (b : Int)) = some (bx (bE a b)) := fun a b ha hb => sU hn ha hb
 have O : ∀ ps : List (Nat -> Bool), ps.length < 10 -> lS n (ps.map wd) = some (wd fun i => ps.any (· i)) := fun ps h => O7 ps (by omega) (by omega) (by omega)
 have O2 := fun p q => yw hn p q
 have F : ∀ s : List UInt8, s.length < 10 -> ng n s = some (wd (ofP s)) := fun s h => H8 s (by omega) (by omega)
 have F2 : ∀ s : List UInt8, s.length < 10 -> iI n s = some (bx (ofP s)) := fun s h => yx s (by omega) (by omega)
 unfold yI uf Bt
 simp only
 rw [show ((65 : Int), (90 : Int)) = (((65 : Nat) : Int), ((90 : Nat) : Int)) from rfl, show ((97 : Int), (122 : Int)) = (((97 : Nat) : Int), ((122 : Nat) : Int)) from rfl, show ((48 : Int), (57 : Int)) = (((48 : Nat) : Int), ((57 : Nat) : Int)) from rfl]
 rw [R 65 90 (by omega) (by omega), R 97 122 (by omega) (by omega), R 48 57 (by omega) (by omega), R2 65 90 (by omega) (by omega), R2 97 122 (by omega) (by omega), R2 48 57 (by omega) (by omega)]
 simp only [aA]
 rw [O2]
 simp only [aA]
 rw [O2]
 simp only [aA]
 cases s == [117, 112, 112, 101, 114]
 case true => exact iF (by decide +kernel) _ _ rfl rfl
 simp only [aM, cond_false]
 cases s == [108, 111, 119, 101, 114]
 case true => exact iF (by decide +kernel) _ _ rfl rfl
 simp only [aM, cond_false]
 cases s == [97, 108, 112, 104, 97]
 case true =>
  have := O [bE 65 90, bE 97 122] (by decide)
  simp only [List.map] at this
  simp only [aR, this, aA]
  exact iF (by decide +kernel) _ _ rfl rfl
 simp only [aM, cond_false]
 cases s == [100, 105, 103, 105, 116]
 case true => exact iF (by decide +kernel) _ _ rfl rfl
 simp only [aM, cond_false]
 cases s == [97, 108, 110, 117, 109]
 case true =>
  have := O [bE 65 90, bE 97 122, bE 48 57] (by decide)
  simp only [List.map] at this
  simp only [aR, this, aA]
  exact iF (by decide +kernel) _ _ rfl rfl
 simp only [aM, cond_false]
 cases s == [120, 100, 105, 103, 105, 116]
 case true =>
  have := O [bE 48 57, bE 65 70, bE 97 102] (by decide)
  simp only [List.map] at this
  simp only [aR]
  rw [show ((65 : Int), (70 : Int)) = (((65 : Nat) : Int), ((70 : Nat) : Int)) from rfl, show ((97 : Int), (102 : Int)) = (((97 : Nat) : Int), ((102 : Nat) : Int)) from rfl]
  rw [R 65 70 (by omega) (by omega), R 97 102 (by omega) (by omega), R2 65 70 (by omega) (by omega), R2 97 102 (by omega) (by omega)]
  simp only [aA]
  rw [O2, this]
  simp only [aA]
  rw [O2]
  exact iF (by decide +kernel) _ _ rfl rfl
 simp only [aM, cond_false]
 cases s == [98, 108, 97, 110, 107]
 case true =>
  simp only [aR]
  rw [F _ (by decide), F2 _ (by decide)]
  exact iF (by decide +kernel) _ _ rfl rfl
 simp only [aM, cond_false]
 cases s == [115, 112, 97, 99, 101]
 case true =>
  simp only [aR]
  rw [show ((9 : Int), (13 : Int)) = (((9 : Nat) : Int), ((13 : Nat) : Int)) from rfl]
  rw [F _ (by decide), F2 _ (by decide), R2 9 13 (by omega) (by omega)]
  simp only [aA]
  rw [O2]
  exact iF (by decide +kernel) _ _ rfl rfl
 simp only [aM, cond_false]
 cases s == [99, 110, 116, 114, 108]
 case true =>
  simp only [aR]
  rw [show ((0 : Int), (31 : Int)) = (((0 : Nat) : Int), ((31 : Nat) : Int)) from rfl, show ((127 : Int), (127 : Int)) = (((127 : Nat) : Int), ((127 : Nat) : Int)) from rfl]
  rw [R 0 31 (by omega) (by omega), R2 0 31 (by omega) (by omega), R2 127 127 (by omega) (by omega), F _ (by decide)]
  have := O [bE 0 31, ofP [127]] (by decide)
  simp only [List.map] at this
  simp only [aA]
  rw [O2, this]
  exact iF (by decide +kernel) _ _ rfl rfl
 simp only [aM, cond_false]
 cases s == [103, 114, 97, 112, 104]
 case true =>
  simp only [aR]
  rw [show ((33 : Int), (126 : Int)) = (((33 : Nat) : Int), ((126 : Nat) : Int)) from rfl]
  rw [R 33 126 (by omega) (by omega), R2 33 126 (by omega) (by omega)]
  exact iF (by decide +kernel) _ _ rfl rfl
 simp only [aM, cond_false]
 cases s == [112, 114, 105, 110, 116]
 case true =>
  simp only [aR]
  rw [show ((32 : Int), (126 : Int)) = (((32 : Nat) : Int), ((126 : Nat) : Int)) from rfl]
  rw [R 32 126 (by omega) (by omega), R2 32 126 (by omega) (by omega)]
  exact iF (by decide +kernel) _ _ rfl rfl
 simp only [aM, cond_false]
 cases s == [112, 117, 110, 99, 116]
 case true =>
  simp only [aR]
  rw [show ((33 : Int), (126 : Int)) = (((33 : Nat) : Int), ((126 : Nat) : Int)) from rfl, show ((33 : Int), (47 : Int)) = (((33 : Nat) : Int), ((47 : Nat) : Int)) from rfl, show ((58 : Int), (64 : Int)) = (((58 : Nat) : Int), ((64 : Nat) : Int)) from rfl, show ((91 : Int), (96 : Int)) = (((91 : Nat) : Int), ((96 : Nat) : Int)) from rfl, show ((123 : Int), (126 : Int)) = (((123 : Nat) : Int), ((126 : Nat) : Int)) from rfl]
  rw [R 33 47 (by omega) (by omega), R 58 64 (by omega) (by omega), R 91 96 (by omega) (by omega), R 123 126 (by omega) (by omega), R2 33 126 (by omega) (by omega)]
  have := O [bE 33 47, bE 58 64, bE 91 96, bE 123 126] (by decide)
  simp only [List.map] at this
  simp only [aA]
  rw [this, MK hn]
  exact iF (by decide +kernel) _ _ rfl rfl
 simp only [aM, cond_false]
 exact ⟨by rw [mM], fun _ => false, by rw [vJ]⟩
end Go.Dec
namespace Go.Dec
theorem Bu {n : Nat} {r t : List UInt8} : strings_HasPrefix n (r, t) = some (t.isPrefixOf r) := by
 unfold strings_HasPrefix gB
 simp only
 by_cases h : t.length <= r.length
 ·rw [au (by simp; omega), ah (by simp; omega)]
  simp only [aA, Int.toNat_natCast]
  congr 1
  rw [Bool.eq_iff_iff, List.isPrefixOf_iff_prefix, List.prefix_iff_eq_take, beq_iff_eq]
  exact eq_comm
 ·rw [aj (by simp; omega)]
  simp only [aA]
  congr 1
  symm
  rw [Bool.eq_false_iff, ne_eq, List.isPrefixOf_iff_prefix]
  intro hp
  have := hp.length_le
  omega
theorem jr {n : Nat} {s t : List UInt8} {i : Nat} (hi : i <= s.length) : dU n (t, s, (i : Int), ()) = some (t.isPrefixOf (s.drop i), s, (i : Int), ()) := by
 unfold dU
 simp only
 rw [ah (by simp; omega), Bu]; rfl
theorem dD {r t : List UInt8} (h : t.isPrefixOf r = true) : t.length <= r.length := by
 rw [List.isPrefixOf_iff_prefix] at h; exact h.length_le
theorem lq {n : Nat} {s t : List UInt8} {i : Nat} (hi : i <= s.length) (hs : s.length < 1000000) (h : t.isPrefixOf (s.drop i) = true) : dF n (t, s, (i : Int), ()) = some (true, s, ((i + t.length : Nat) : Int), ()) := by
 have hl := dD h
 rw [List.length_drop] at hl
 unfold dF
 simp only
 rw [jr hi]
 simp only [aA, h, Bool.not_true, aM]
 rw [aK (by omega) (by omega)]; rfl
theorem lu {n : Nat} {s t : List UInt8} {i : Nat} (hi : i <= s.length) (h : t.isPrefixOf (s.drop i) = false) : dF n (t, s, (i : Int), ()) = some (false, s, (i : Int), ()) := by
 unfold dF
 simp only
 rw [jr hi]
 simp only [aA, h, Bool.not_false, aR]
theorem eqI {c : UInt8} (k : UInt8) : ((c.toNat : Int) == (k.toNat : Int)) = (k == c) := by
 rw [Bool.eq_iff_iff, beq_iff_eq, beq_iff_eq, Int.ofNat_inj, UInt8.toNat_inj]; exact eq_comm
theorem pW {s : List UInt8} {i j : Nat} {d c : UInt8} (h : (s.drop i)[j]? = some c) : aG d s ((i + j : Nat) : Int) = c := by
 rw [List.getElem?_drop] at h
 unfold aG
 rw [Int.toNat_natCast, List.getD_eq_getElem?_getD, h]; rfl
theorem rQ {s t : List UInt8} {i : Nat} {a : UInt8} (h : s.drop i = a :: t) : s.drop (i + 1) = t ∧ i < s.length := by
 refine ⟨?_, ?_⟩
 ·rw [<- List.drop_drop, h]; rfl
 ·have := congrArg List.length h
  rw [List.length_drop, List.length_cons] at this; omega
theorem Cy {r : List UInt8} {a b : UInt8} (h : [a, b].isPrefixOf r = true) : ∃ t, r = a :: b :: t := by
 rw [List.isPrefixOf_iff_prefix] at h
 obtain ⟨t, rfl⟩ := h
 exact ⟨t, rfl⟩
theorem zel {r : List UInt8} {a : UInt8} (h : [a].isPrefixOf r = true) : ∃ t, r = a :: t := by
 rw [List.isPrefixOf_iff_prefix] at h
 obtain ⟨t, rfl⟩ := h
 exact ⟨t, rfl⟩
def pX (x : UInt8) (b : Bool) : List UInt8 -> Option (UInt8 × Nat × Bool)
 | _ :: _ :: c :: t => bif [x, 93].isPrefixOf t then some (c, 5, b) else none
 | _ => none
def nL (first ends : Bool) (r : List UInt8) : Option (UInt8 × Nat × Bool) :=
 bif [91, 46].isPrefixOf r then pX 46 true r
 else bif [91, 61].isPrefixOf r then pX 61 false r
 else bif [92, 110].isPrefixOf r then some (10, 2, true)
 else bif [91, 58].isPrefixOf r then none
 else bif [93].isPrefixOf r && !first then none
 else bif [45].isPrefixOf r && !first && !ends && !([45, 93].isPrefixOf r) then none
 else match r with | [] => none | c :: _ => some (c, 1, true)
theorem XU {x : UInt8} {b : Bool} {c : UInt8} {k : Nat} {m : Bool} : ∀ {r : List UInt8}, pX x b r = some (c, k, m) -> 1 <= k ∧ k <= r.length
 | [], h => absurd h (by simp [pX])
 | [_], h => absurd h (by simp [pX])
 | [_, _], h => absurd h (by simp [pX])
 | _ :: _ :: d :: t, h => by
  unfold pX at h
  cases hp : [x, 93].isPrefixOf t <;> simp only [hp, cond_true, cond_false] at h
  ·exact absurd h (by simp)
  ·have := dD hp
   simp only [List.length_cons, List.length_nil, Option.some.injEq, Prod.mk.injEq] at this h ⊢
   omega
theorem yS {first ends : Bool} {r : List UInt8} {c : UInt8} {k : Nat} {m : Bool} (h : nL first ends r = some (c, k, m)) : 1 <= k ∧ k <= r.length := by
 have mk : ∀ {x : UInt8} {b : Bool}, pX x b r = some (c, k, m) -> 1 <= k ∧ k <= r.length := fun h => XU h
 unfold nL at h
 cases h1 : [91, 46].isPrefixOf r <;> simp only [h1, cond_true, cond_false] at h
 ·cases h2 : [91, 61].isPrefixOf r <;> simp only [h2, cond_true, cond_false] at h
  ·cases h3 : [92, 110].isPrefixOf r <;> simp only [h3, cond_true, cond_false] at h
   ·cases h4 : [91, 58].isPrefixOf r <;> simp only [h4, cond_true, cond_false] at h
    ·cases h5 : [93].isPrefixOf r && !first <;> simp only [h5, cond_true, cond_false] at h
     ·cases h6 : [45].isPrefixOf r && !first && !ends && !([45, 93].isPrefixOf r) <;> simp only [h6, cond_true, cond_false] at h
      ·split at h
       ·exact absurd h (by simp)
       ·simp only [Option.some.injEq, Prod.mk.injEq, List.length_cons] at h ⊢
        omega
      ·exact absurd h (by simp)
     ·exact absurd h (by simp)
    ·exact absurd h (by simp)
   ·have := dD h3
    simp only [List.length_cons, List.length_nil, Option.some.injEq, Prod.mk.injEq] at this h
    omega
  ·exact mk h
 ·exact mk h
def uq (s : List UInt8) (i : Nat) (o : Option (UInt8 × Nat × Bool)) (e : Option (Sum (Int × Bool × List UInt8 × Int × Unit) (Int × Int × List UInt8 × Int × Unit))) : Prop := match o with
 | some (c, k, m) => e = some (.inl ((c.toNat : Int), m, s, ((i + k : Nat) : Int), ()))
 | none => ∃ a, e = some (.inr (42, 0, s, a, ()))
theorem qB {n : Nat} {x : List UInt8 × Int × Unit} : bA n x = some (.inr (42, 0, x)) := rfl
theorem JL {n : Nat} {s : List UInt8} {i : Nat} {mk : UInt8} {t : List UInt8} (hi : i <= s.length) (hs : s.length < 1000000) (hr : s.drop i = 91 :: mk :: t) :
    uq s i (pX mk ([mk] == [46]) (s.drop i))
      (br ((s.length : Int) == ((i + 2 : Nat) : Int)) (ob2 (bA n (s, ((i + 2 : Nat) : Int), ())) (fun y17 => none) (fun y17 => some (.inr (y17.1, y17.2.1, y17.2.2.1, y17.2.2.2.1, ()))))
        (chk ((decide (0 <= IntKind.wrap .i64 (((i + 2 : Nat) : Int) + 1)) && decide (IntKind.wrap .i64 (((i + 2 : Nat) : Int) + 1) <= (s.length : Int)))) (
                chk (decide (([mk] : List UInt8).length + ([93] : List UInt8).length <= av)) (
                  ob (strings_HasPrefix n (s.drop (IntKind.wrap .i64 (((i + 2 : Nat) : Int) + 1)).toNat, [mk] ++ [93])) fun y19 =>
                  br (!y19) (
                    ob2 (bA n (s, ((i + 2 : Nat) : Int), ())) (fun y20 =>
                      none) (fun y20 =>
                      some (.inr (y20.1, y20.2.1, y20.2.2.1, y20.2.2.2.1, ())))) (
                    jn (nV n) ([mk], s, ((i + 2 : Nat) : Int), ())))))) := by
  obtain ⟨h1, h1'⟩ := rQ hr
  obtain ⟨h2, h2'⟩ := rQ h1
  have hlen : s.length = i + 2 + t.length := by
    have := congrArg List.length hr
    simp only [List.length_drop, List.length_cons] at this; omega
  rw [hr]
  cases t with
  | nil =>
    simp only [List.length_nil] at hlen
    rw [au (by simp; omega), qB]
    simp only [iR, uq, pX]
    exact ⟨_, rfl⟩
  | cons c t =>
    simp only [List.length_cons] at hlen
    obtain ⟨h3, h3'⟩ := rQ h2
    rw [aj (by simp; omega)]
    have hw : IntKind.wrap .i64 (((i + 2 : Nat) : Int) + 1) = ((i + 1 + 1 + 1 : Nat) : Int) := by rw [aK (by omega) (by omega)]; omega
    rw [hw, ah (by simp; omega), ah (by simp [av]), Int.toNat_natCast, h3, Bu]
    simp only [aA, List.cons_append, List.nil_append]
    cases hp : [mk, 93].isPrefixOf t
    · simp only [Bool.not_false, aR, qB, iR, cond_false, uq, pX, hp]
      exact ⟨_, rfl⟩
    · simp only [Bool.not_true, aM, cond_true, uq, bX, nV, pX, hp]
      have := dD hp
      simp only [List.length_cons, List.length_nil] at this
      rw [ah (dM (by omega)), aK (by omega) (by omega), show ((i + 2 : Nat) : Int) = ((i + 2 : Nat) : Int) from rfl, pW (c := c) (by rw [hr]; rfl)]
      rfl
theorem MN {n : Nat} {s : List UInt8} {i : Nat} {first ends : Bool} (hn : 3 <= n) (hi : i <= s.length) (hs : s.length < 1000000) : uq s i (nL first ends (s.drop i)) (jG n (first, ends, s, (i : Int), ())) := by
  obtain ⟨m, rfl⟩ : ∃ m, n = m + 3 := ⟨n - 3, by omega⟩
  have hlen : (s.drop i).length = s.length - i := List.length_drop
  have hin : ∀ {t : List UInt8}, t.isPrefixOf (s.drop i) = true -> i + t.length <= s.length := fun h => by have := dD h; omega
  unfold jG nL
  simp only
  rw [Ke, jO]
  simp only
  rw [au (by rfl), ah (by rfl), ah (by rfl), ah (by rfl)]
  rw [show [91] ++ List.getD [[46], [61]] (0 + Int.toNat 0) (Ty.dflt .str) = ([91, 46] : List UInt8) from rfl, show List.getD [[46], [61]] (0 + Int.toNat 0) (Ty.dflt .str) = ([46] : List UInt8) from rfl]
  cases h1 : [91, 46].isPrefixOf (s.drop i)
  case true =>
    obtain ⟨t, ht⟩ := Cy h1
    rw [lq hi hs h1]
    simp only [aA, Bool.not_true, aM, cond_true]
    exact JL hi hs ht
  rw [lu hi h1]
  simp only [aA, Bool.not_false, aR, cond_false]
  rw [show IntKind.wrap .i64 (0 + 1) = 1 from rfl, Ke, jO]
  simp only
  rw [au (by rfl), ah (by rfl), ah (by rfl), ah (by rfl)]
  rw [show [91] ++ List.getD [[46], [61]] (0 + Int.toNat 1) (Ty.dflt .str) = ([91, 61] : List UInt8) from rfl, show List.getD [[46], [61]] (0 + Int.toNat 1) (Ty.dflt .str) = ([61] : List UInt8) from rfl]
  cases h2 : [91, 61].isPrefixOf (s.drop i)
  case true =>
    obtain ⟨t, ht⟩ := Cy h2
    rw [lq hi hs h2]
    simp only [aA, Bool.not_true, aM, cond_true]
    exact JL hi hs ht
  rw [lu hi h2]
  simp only [aA, Bool.not_false, aR, cond_false]
  rw [show IntKind.wrap .i64 (1 + 1) = 2 from rfl, Ke, jO]
  simp only
  rw [aj (by rfl)]
  cases h3 : [92, 110].isPrefixOf (s.drop i)
  case true =>
    rw [lq hi hs h3]
    simp only [aA, aR, cond_true, uq]
    rfl
  rw [lu hi h3]
  have zdl : ∀ {c : UInt8} {t : List UInt8}, s.drop i = c :: t -> iC (m + 3) (s, (i : Int), ()) = some (.inl ((c.toNat : Int), true, s, ((i + 1 : Nat) : Int), ())) := by
    intro c t hr
    obtain ⟨_, h⟩ := rQ hr
    unfold iC
    simp only
    have e : IntKind.wrap .i64 (IntKind.wrap .i64 ((i : Int) + 1) - 1) = ((i + 0 : Nat) : Int) := by
      rw [aK (x := (i : Int) + 1) (by omega) (by omega), aK (by omega) (by omega)]; omega
    rw [e, ah (dM (by omega)), pW (c := c) (by rw [hr]; rfl), aK (by omega) (by omega)]; rfl
  have Qy : ∀ bare : Bool, uq s i (bif [91, 58].isPrefixOf (s.drop i) then none
      else bif [93].isPrefixOf (s.drop i) && !first then none
      else bif bare then none
      else match s.drop i with | [] => none | c :: _ => some (c, 1, true)) (fZ (m + 3) (first, bare, s, (i : Int), ())) := by
    intro bare
    unfold fZ
    simp only
    cases hr : s.drop i with
    | nil =>
      rw [hr] at hlen
      simp only [List.length_nil] at hlen
      rw [au (by simp; omega), qB]
      simp only [iR]
      cases first <;> cases bare <;> exact ⟨_, rfl⟩
    | cons c t =>
      obtain ⟨_, hlt⟩ := rQ hr
      rw [aj (by simp; omega), jr hi]
      simp only [aA]
      rw [<- hr]
      cases h4 : [91, 58].isPrefixOf (s.drop i)
      case true =>
        simp only [aR, qB, iR, cond_true]
        exact ⟨_, rfl⟩
      simp only [aM, cond_false]
      rw [jr hi]
      simp only [aA]
      have hb : uq s i (bif bare then none else some (c, 1, true)) (br bare (
            ob2 (bA (m + 3) (s, (i : Int), ())) (fun y40 => none) (fun y40 => some (.inr (y40.1, y40.2.1, y40.2.2.1, y40.2.2.2.1, ())))) (
            jn (iC (m + 3)) (s, (i : Int), ()))) := by
        cases bare
        · simp only [aM, cond_false, bX]
          rw [zdl hr]; rfl
        · simp only [aR, cond_true, qB, iR]
          exact ⟨_, rfl⟩
      cases h5 : [93].isPrefixOf (s.drop i)
      · simp only [aM, Bool.false_and, cond_false]
        exact hb
      · cases first
        · simp only [aR, Bool.not_false, Bool.true_and, cond_true, qB, iR]
          exact ⟨_, rfl⟩
        · simp only [aR, aM, Bool.not_true, Bool.and_false, cond_false]
          exact hb
  simp only [aA, aM, cond_false]
  rw [jr hi]
  simp only [aA]
  cases h6 : [45].isPrefixOf (s.drop i)
  · simp only [aM, Bool.false_and]
    exact Qy false
  simp only [aR, Bool.true_and]
  cases first
  · simp only [Bool.not_false, aR, Bool.true_and]
    cases ends
    · simp only [Bool.not_false, aR, Bool.true_and]
      rw [jr hi]
      simp only [aA]
      exact Qy _
    · simp only [Bool.not_true, aM, Bool.false_and]
      exact Qy false
  · simp only [Bool.not_true, aM, Bool.false_and]
    exact Qy false
def Cj : Option (UInt8 × Nat × Bool) -> Int × Int × Bool
 | some (c, k, m) => ((c.toNat : Int), ((k : Nat) : Int), m)
 | none => (0, 0, false)
theorem cI (c : UInt8) : ((c.toNat : Int) == 91) = (91 == c) ∧ ((c.toNat : Int) == 46) = (46 == c) ∧ ((c.toNat : Int) == 61) = (61 == c) ∧ ((c.toNat : Int) == 58) = (58 == c) ∧ ((c.toNat : Int) == 92) = (92 == c) ∧ ((c.toNat : Int) == 110) = (110 == c) ∧ ((c.toNat : Int) == 93) = (93 == c) ∧ ((c.toNat : Int) == 45) = (45 == c) ∧ ((c.toNat : Int) == 94) = (94 == c) :=
 ⟨eqI 91, eqI 46, eqI 61, eqI 58, eqI 92, eqI 110, eqI 93, eqI 45, eqI 94⟩
theorem qK (a b : UInt8) : (a == b) = (b == a) := by rw [Bool.eq_iff_iff, beq_iff_eq, beq_iff_eq]; exact eq_comm
theorem H9 {n : Nat} {s : List UInt8} {i : Nat} {first ends : Bool} (hi : i <= s.length) (hs : s.length < 1000000) : lV n (s, (i : Int), first, ends) = some (Cj (nL first ends (s.drop i))) := by
 have hlen : (s.drop i).length = s.length - i := List.length_drop
 have hg : ∀ (j : Nat) (c : UInt8), (s.drop i)[j]? = some c -> aG 0 s ((i : Int) + (j : Nat)) = c := fun _ _ h => pW h
 unfold lV
 simp only
 cases hr : s.drop i with
 | nil =>
  rw [hr] at hlen
  simp only [List.length_nil] at hlen
  rw [au (by simp; omega)]
  cases first <;> rfl
 | cons c t =>
  rw [hr] at hlen hg
  simp only [List.length_cons] at hlen
  rw [aj (by simp; omega), ah (dM (by omega)), aK (by omega) (by omega)]
  have e0 : aG 0 s (i : Int) = c := by have := hg 0 c rfl; simpa using this
  rw [e0]
  obtain ⟨q1, q2, q3, q4, q5, q6, q7, q8, q9⟩ := cI c
  have J4 : ∀ (x : Int), nu n (first, ends, (c.toNat : Int), x, ()) = some (Cj (bif [45].isPrefixOf (c :: t) && !first && !ends && (x != 93) then none else some (c, 1, true))) := by
   intro x
   unfold nu
   simp only [q8, List.isPrefixOf, Bool.and_true]
   cases (45 == c) <;> cases first <;> cases ends <;> cases (x != 93) <;> rfl
  have J3 : ∀ (x : Int), jS n (first, ends, (c.toNat : Int), x, ()) = some (Cj (bif [93].isPrefixOf (c :: t) && !first then none else bif [45].isPrefixOf (c :: t) && !first && !ends && (x != 93) then none else some (c, 1, true))) := by
   intro x
   unfold jS
   simp only [q7, bX, J4]
   have : [93].isPrefixOf (c :: t) = (93 == c) := by simp [List.isPrefixOf]
   rw [this]
   cases (93 == c) <;> cases first <;> rfl
  cases t with
  | nil =>
   simp only [List.length_nil] at hlen
   rw [aj (by simp; omega), bX, ny]
   simp only [q1]
   have J2 : jT n (s, (i : Int), first, ends, (c.toNat : Int), 0, ()) = some (Cj (nL first ends [c])) := by
    unfold jT nL
    simp only [bX, J3]
    cases (((c.toNat : Nat) : Int) == 92) <;> simp [List.isPrefixOf]
   cases (91 == c)
   ·simp only [aM, bX, dI]; exact J2
   ·simp only [aR, bX, dI]
    rw [aj (by rfl), aj (by rfl), aj (by rfl)]
    exact J2
  | cons d t =>
   simp only [List.length_cons] at hlen
   have e1 : aG 0 s ((i : Int) + 1) = d := hg 1 d rfl
   rw [au (by simp; omega), ah (cK (by omega) (by omega)), e1, bX, ny]
   obtain ⟨d1, d2, d3, d4, d5, d6, d7, d8, d9⟩ := cI d
   have J2 : [91, 46].isPrefixOf (c :: d :: t) = false -> [91, 61].isPrefixOf (c :: d :: t) = false -> [91, 58].isPrefixOf (c :: d :: t) = false -> jT n (s, (i : Int), first, ends, (c.toNat : Int), (d.toNat : Int), ()) = some (Cj (nL first ends (c :: d :: t))) := by
    intro a1 a2 a3
    unfold jT nL
    simp only [bX, J3, a1, a2, a3, q5, d6, cond_false]
    rw [aK (by omega) (by omega), show decide ((i : Int) + 1 < (s.length : Int)) = true by simp; omega]
    have x1 : [92, 110].isPrefixOf (c :: d :: t) = (92 == c && 110 == d) := by simp [List.isPrefixOf]
    have x2 : ([45].isPrefixOf (c :: d :: t) && !first && !ends && !([45, 93].isPrefixOf (c :: d :: t))) = ([45].isPrefixOf (c :: d :: t) && !first && !ends && ((d.toNat : Int) != 93)) := by
     simp only [bne, d7, List.isPrefixOf, Bool.and_true]
     cases (45 == c) <;> simp
    rw [x1, x2]
    cases (92 == c) <;> cases (110 == d) <;> rfl
   have M : ∀ mk : UInt8, c = 91 -> d = mk -> mk ≠ 58 -> dI n (s, (i : Int), first, ends, (c.toNat : Int), (d.toNat : Int), true, ()) = some (Cj (pX mk (mk == 46) (c :: d :: t))) := by
    intro mk hc hd hm
    subst hc hd
    unfold dI
    have hne : (d != 58) = true := by simp [hm]
    have hne2 : ((d.toNat : Int) != 58) = true := by rw [bne, d4]; rw [show (58 == d) = (d == 58) from qK _ _]; exact hne
    simp only [aR, hne2]
    rw [aK (x := (i : Int) + 4) (by omega) (by omega), aK (x := (i : Int) + 3) (by omega) (by omega), aK (x := (i : Int) + 2) (by omega) (by omega)]
    match t, hlen, hg with
    | [], hlen, hg => simp only [List.length_nil] at hlen; rw [aj (by simp; omega)]; rfl
    | [e], hlen, hg => simp only [List.length_nil, List.length_cons] at hlen; rw [aj (by simp; omega)]; rfl
    | [e, f], hlen, hg =>
     simp only [List.length_nil, List.length_cons] at hlen; rw [aj (by simp; omega)]
     simp [pX, List.isPrefixOf, Cj]
    | e :: f :: g :: u, hlen, hg =>
     simp only [List.length_cons] at hlen
     have e2 : aG 0 s ((i : Int) + 2) = e := hg 2 e rfl
     have e3 : aG 0 s ((i : Int) + 3) = f := hg 3 f rfl
     have e4 : aG 0 s ((i : Int) + 4) = g := hg 4 g rfl
     rw [au (by simp; omega), ah (cK (by omega) (by omega)), ah (cK (by omega) (by omega)), ah (cK (by omega) (by omega)), e2, e3, e4]
     have g1 : ((f.toNat : Int) == (d.toNat : Int)) = (d == f) := eqI d
     obtain ⟨_, _, _, _, _, _, g7, _, _⟩ := cI g
     simp only [g1, g7, pX, List.isPrefixOf, Bool.and_true]
     rw [d2, show (46 == d) = (d == 46) from qK _ _]
     cases (d == f) <;> cases (93 == g) <;> rfl
   simp only [q1, d2, d3, d4, bX]
   rw [aK (by omega) (by omega), show decide ((i : Int) + 1 < (s.length : Int)) = true by simp; omega]
   cases hc : (91 == c)
   ·simp only [aM, dI, bX]
    exact J2 (by simp [List.isPrefixOf, hc]) (by simp [List.isPrefixOf, hc]) (by simp [List.isPrefixOf, hc])
   ·simp only [aR]
    cases h46 : (46 == d)
    case true =>
     have hc' : c = 91 := (eq_of_beq hc).symm
     have hd' : d = 46 := (eq_of_beq h46).symm
     simp only [aR]
     rw [M 46 hc' hd' (by decide)]
     subst hc' hd'
     rfl
    cases h61 : (61 == d)
    case true =>
     have hc' : c = 91 := (eq_of_beq hc).symm
     have hd' : d = 61 := (eq_of_beq h61).symm
     simp only [aR, aM]
     rw [M 61 hc' hd' (by decide)]
     subst hc' hd'
     rfl
    cases h58 : (58 == d)
    case true =>
     have hc' : c = 91 := (eq_of_beq hc).symm
     have hd' : d = 58 := (eq_of_beq h58).symm
     simp only [aR, aM]
     subst hc' hd'
     rfl
    simp only [aM, dI, bX]
    exact J2 (by simp [List.isPrefixOf, h46]) (by simp [List.isPrefixOf, h61]) (by simp [List.isPrefixOf, h58])
def qL : List UInt8 -> Option Nat
 | [] => none
 | c :: r => bif [58, 93].isPrefixOf (c :: r) then some 0 else (qL r).map (· + 1)
theorem Ck : ∀ {r : List UInt8} {k : Nat}, qL r = some k -> [58, 93].isPrefixOf (r.drop k) = true ∧ k + 2 <= r.length
 | [], k, h => absurd h (by simp [qL])
 | c :: r, k, h => by
  unfold qL at h
  cases hp : [58, 93].isPrefixOf (c :: r) <;> simp only [hp, cond_true, cond_false] at h
  ·cases hk : qL r with
   | none => rw [hk] at h; exact absurd h (by simp)
   | some j =>
    rw [hk] at h
    simp only [Option.map_some, Option.some.injEq] at h
    subst h
    obtain ⟨h1, h2⟩ := Ck hk
    exact ⟨h1, by simp only [List.length_cons]; omega⟩
  ·simp only [Option.some.injEq] at h
   subst h
   exact ⟨hp, by have := dD hp; simpa using this⟩
theorem O8 : ∀ r : List UInt8, Go.Lib.index r [58, 93] = match qL r with | some k => ((k : Nat) : Int) | none => -1
 | [] => by rfl
 | c :: r => by
  have ih := O8 r
  rw [Go.Lib.index, qL]
  cases hp : [58, 93].isPrefixOf (c :: r)
  ·simp only [Bool.false_eq_true, if_false, cond_false]
   rw [ih]
   cases qL r with
   | none => rfl
   | some k =>
    simp only [Option.map_some]
    rw [if_neg (by simp)]; rfl
  ·rfl
theorem za7 (r : List UInt8) : Go.Lib.cut r [58, 93] = match qL r with | some k => (r.take k, r.drop (k + 2), true) | none => (r, [], false) := by
 unfold Go.Lib.cut
 rw [O8]
 cases qL r with
 | none => rfl
 | some k => simp
def uP (first : Bool) (r : List UInt8) : Option ((Nat -> Bool) × Nat) :=
 bif [91, 58].isPrefixOf r then
  match qL (r.drop 2) with
  | none => none
  | some k => match Bt ((r.drop 2).take k) with
   | some p => some (p, k + 4)
   | none => none
 else match nL first false r with
  | none => none
  | some (a, k, may) =>
   bif [45].isPrefixOf (r.drop k) && !([45, 93].isPrefixOf (r.drop k)) && decide (1 < (r.drop k).length) then
    match nL false true (r.drop (k + 1)) with
    | none => none
    | some (b, m, is) => bif may && is && !(decide (b.toNat < a.toNat)) then some (bE a.toNat b.toNat, k + 1 + m) else none
   else some (bE a.toNat a.toNat, k)
theorem Ia {first : Bool} {r : List UInt8} {p : Nat -> Bool} {k : Nat} (h : uP first r = some (p, k)) : 1 <= k ∧ k <= r.length := by
 unfold uP at h
 cases h0 : [91, 58].isPrefixOf r <;> simp only [h0, cond_true, cond_false] at h
 ·cases h1 : nL first false r with
  | none => rw [h1] at h; exact absurd h (by simp)
  | some x =>
   obtain ⟨a, j, may⟩ := x
   have hl := yS h1
   rw [h1] at h
   simp only at h
   cases h2 : [45].isPrefixOf (r.drop j) && !([45, 93].isPrefixOf (r.drop j)) && decide (1 < (r.drop j).length) <;> simp only [h2, cond_true, cond_false] at h
   ·simp only [Option.some.injEq, Prod.mk.injEq] at h; omega
   ·cases h3 : nL false true (r.drop (j + 1)) with
    | none => rw [h3] at h; exact absurd h (by simp)
    | some y =>
     obtain ⟨b, m, is⟩ := y
     have hl3 := yS h3
     rw [h3] at h
     simp only at h
     rw [List.length_drop] at hl3
     cases h4 : may && is && !(decide (b.toNat < a.toNat)) <;> simp only [h4, cond_true, cond_false] at h
     ·exact absurd h (by simp)
     ·simp only [Option.some.injEq, Prod.mk.injEq] at h; omega
 ·cases h1 : qL (r.drop 2) with
  | none => rw [h1] at h; exact absurd h (by simp)
  | some j =>
   rw [h1] at h
   simp only at h
   have := (Ck h1).2
   rw [List.length_drop] at this
   cases h2 : Bt ((r.drop 2).take j) with
   | none => rw [h2] at h; exact absurd h (by simp)
   | some q =>
    rw [h2] at h
    simp only [Option.some.injEq, Prod.mk.injEq] at h; omega
def MO (s : List UInt8) (i : Nat) (o : Option ((Nat -> Bool) × Nat)) (e : Option (Sum (List Int × List UInt8 × Int × Unit) (Int × Int × List UInt8 × Int × Unit))) : Prop := match o with
 | some (p, k) => e = some (.inl (wd p, s, ((i + k : Nat) : Int), ()))
 | none => ∃ a, e = some (.inr (42, 0, s, a, ()))
theorem za8 {n : Nat} {s : List UInt8} {i : Nat} {first : Bool} (hn : 300 <= n) (hi : i <= s.length) (hs : s.length < 1000000) : MO s i (uP first (s.drop i)) (ku n (first, s, (i : Int), ())) := by
 unfold ku uP
 simp only
 cases h0 : [91, 58].isPrefixOf (s.drop i)
 case true =>
  have hl := dD h0
  simp only [List.length_drop, List.length_cons, List.length_nil] at hl
  rw [lq hi hs h0]
  simp only [aA, aR, cond_true]
  rw [ah (by simp; omega), Int.toNat_natCast, strings_Cut, ah (by simp; omega), show ([91, 58] : List UInt8).length = 2 from rfl]
  simp only [aA]
  rw [za7, List.drop_drop]
  have hC := ML (n := n) hn
  cases h1 : qL (s.drop (i + 2)) with
  | none =>
   simp only
   have h2 := hC (s.drop (i + 2))
   have zak : ∀ (w : Bool), ∀ (x : List Int), ∃ a, (ob (ρ := Sum (List Int × List UInt8 × Int × Unit) (Int × Int × List UInt8 × Int × Unit)) (some (x, w)) fun y8 =>
    br (!y8.2) (
    ob2 (bA n (s, IntKind.wrap .i64 (((i + 2 : Nat) : Int) + ((s.drop (i + 2)).length : Int)), ())) (fun y9 =>
     none) (fun y9 =>
     some (.inr (y9.1, y9.2.1, y9.2.2.1, y9.2.2.2.1, ())))) (
    ob (dF n ([58, 93], s, IntKind.wrap .i64 (((i + 2 : Nat) : Int) + ((s.drop (i + 2)).length : Int)), ())) fun y10 =>
    br (!y10.1) (
     ob2 (bA n (y10.2.1, y10.2.2.1, ())) (fun y11 =>
      none) (fun y11 =>
      some (.inr (y11.1, y11.2.1, y11.2.2.1, y11.2.2.2.1, ())))) (
     some (.inl (y8.1, y10.2.1, y10.2.2.1, ()))))) = some (.inr (42, 0, s, a, ())) := by
    intro w x
    simp only [aA]
    cases w
    ·simp only [Bool.not_false, aR, qB, iR]
     exact ⟨_, rfl⟩
    ·simp only [Bool.not_true, aM]
     have e : IntKind.wrap .i64 (((i + 2 : Nat) : Int) + ((s.drop (i + 2)).length : Int)) = ((s.length : Nat) : Int) := by
      rw [List.length_drop, aK (by omega) (by omega)]; omega
     rw [e, lu (Nat.le_refl _) (by simp)]
     simp only [aA, Bool.not_false, aR, qB, iR]
     exact ⟨_, rfl⟩
   cases hc : Bt (s.drop (i + 2)) with
   | none => rw [hc] at h2; rw [h2.1]; exact zak _ _
   | some p => rw [hc] at h2; rw [h2.1]; exact zak _ _
  | some k =>
   simp only
   obtain ⟨k1, k2⟩ := Ck h1
   rw [List.length_drop] at k2
   rw [List.drop_drop] at k1
   have h2 := hC ((s.drop (i + 2)).take k)
   have e : IntKind.wrap .i64 (((i + 2 : Nat) : Int) + (((s.drop (i + 2)).take k).length : Int)) = ((i + 2 + k : Nat) : Int) := by
    rw [List.length_take, List.length_drop, aK (by omega) (by omega)]; omega
   rw [e]
   cases hc : Bt ((s.drop (i + 2)).take k) with
   | none =>
    rw [hc] at h2; rw [h2.1]
    simp only [aA, Bool.not_false, aR, qB, iR]
    exact ⟨_, rfl⟩
   | some p =>
    rw [hc] at h2; rw [h2.1]
    simp only [aA, Bool.not_true, aM]
    rw [lq (by omega) hs k1]
    simp only [aA, Bool.not_true, aM, MO]
    rw [show i + 2 + k + ([58, 93] : List UInt8).length = i + (k + 4) by simp; omega]
 rw [lu hi h0]
 simp only [aA, aM, cond_false]
 have hE := MN (n := n) (first := first) (ends := false) (by omega) hi hs
 cases h1 : nL first false (s.drop i) with
 | none =>
  rw [h1] at hE
  obtain ⟨a, hE⟩ := hE
  rw [hE]
  simp only [iR]
  exact ⟨_, rfl⟩
 | some x =>
  obtain ⟨a, k, may⟩ := x
  rw [h1] at hE
  simp only [uq] at hE
  rw [hE]
  have hk := yS h1
  rw [List.length_drop] at hk
  simp only [zZ]
  have hik : i + k <= s.length := by omega
  have hR : bU n ((a.toNat : Int), (a.toNat : Int)) = some (wd (bE a.toNat a.toNat)) := wL hn a.toNat_lt a.toNat_lt
  rw [jr hik, hR, List.drop_drop]
  simp only [aA]
  cases h2 : [45].isPrefixOf (s.drop (i + k))
  ·simp only [Bool.not_false, aR, Bool.false_and, cond_false]; rfl
  simp only [Bool.not_true, aM, Bool.true_and]
  rw [jr hik]
  simp only [aA]
  cases h3 : [45, 93].isPrefixOf (s.drop (i + k))
  case true => simp only [aR, Bool.not_true, Bool.false_and, cond_false]; rfl
  simp only [aM, Bool.not_false, Bool.true_and]
  have hp := dD h2
  rw [List.length_drop] at hp ⊢
  simp only [List.length_cons, List.length_nil] at hp
  rw [aK (by omega) (by omega)]
  by_cases h4 : 1 < s.length - (i + k)
  ·rw [aj (by simp; omega), decide_eq_true h4]
   simp only [cond_true]
   have hE2 := MN (n := n) (first := false) (ends := true) (s := s) (i := i + k + 1) (by omega) (by omega) hs
   rw [show ((i + k : Nat) : Int) + 1 = ((i + k + 1 : Nat) : Int) from rfl]
   rw [List.drop_drop, show i + (k + 1) = i + k + 1 by omega]
   cases h5 : nL false true (s.drop (i + k + 1)) with
   | none =>
    rw [h5] at hE2
    obtain ⟨a, hE2⟩ := hE2
    rw [hE2]
    simp only [iR]
    exact ⟨_, rfl⟩
   | some y =>
    obtain ⟨b, m, is⟩ := y
    rw [h5] at hE2
    simp only [uq] at hE2
    rw [hE2]
    simp only [zZ, qB, iR]
    cases may
    ·simp only [Bool.not_false, aR, Bool.false_and, cond_false]; exact ⟨_, rfl⟩
    cases is
    ·simp only [Bool.not_false, aR, Bool.not_true, aM, Bool.and_false, Bool.false_and, cond_false]; exact ⟨_, rfl⟩
    have hR2 : bU n ((a.toNat : Int), (b.toNat : Int)) = some (wd (bE a.toNat b.toNat)) := wL hn a.toNat_lt b.toNat_lt
    rw [hR2, show decide ((b.toNat : Int) < (a.toNat : Int)) = decide (b.toNat < a.toNat) by simp]
    cases decide (b.toNat < a.toNat)
    ·simp only [Bool.not_false, Bool.not_true, aM, Bool.and_true, cond_true, aA, MO]
     rw [show i + (k + 1 + m) = i + k + 1 + m by omega]
    ·simp only [Bool.not_true, aM, aR, Bool.and_false, cond_false]; exact ⟨_, rfl⟩
  ·rw [au (by simp; omega), decide_eq_false h4]
   rfl
theorem za9 {n : Nat} {g0 : List UInt8 × Int × Bool × Bool × List Bool × List Bool × List Bool × Unit -> Option (List Bool × Int × Int)} {s : List UInt8} {i : Nat} {no : Bool} {b1 b2 b3 : List Bool} (hs : s.length < 1000000) :
  ∀ (r : List UInt8) (k m : Nat), s.drop k = r -> k <= s.length -> i + 2 <= k -> r.length < m -> fix (mq n g0) m (s, (i : Int), no, (k : Int), b1, b2, b3, ()) = match qL r with
   | some j => iB n g0 (s, (i : Int), no, ((k + j : Nat) : Int), b1, b2, b3, ())
   | none => some (b2, 0, 42) := by
 intro r
 induction r with
 | nil =>
  intro k m hr hk hik hm
  have hl : s.length = k := by have := congrArg List.length hr; simp only [List.length_drop, List.length_nil] at this; omega
  rw [aX (by omega), mq]
  simp only
  rw [aK (by omega) (by omega), aj (by simp; omega), bX, iB]
  simp only
  rw [aK (by omega) (by omega), au (by simp; omega)]
  rfl
 | cons c r ih =>
  intro k m hr hk hik hm
  obtain ⟨hr2, hk2⟩ := rQ hr
  have hl : s.length = k + (r.length + 1) := by have := congrArg List.length hr; simp only [List.length_drop, List.length_cons] at this; omega
  simp only [List.length_cons] at hm
  rw [aX (by omega), mq]
  simp only
  rw [aK (by omega) (by omega)]
  rw [qL]
  cases r with
  | nil =>
   simp only [List.length_nil] at hl
   rw [aj (by simp; omega), bX, iB]
   simp only
   rw [aK (by omega) (by omega), au (by simp; omega)]
   simp [List.isPrefixOf, qL]
  | cons d r =>
   simp only [List.length_cons] at hl
   rw [au (by simp; omega), aK (by omega) (by omega), ah (by simp; omega)]
   have e : (s.take ((k : Int) + 2).toNat).drop (k : Int).toNat = [c, d] := by
    rw [Int.toNat_natCast, show ((k : Int) + 2).toNat = k + 2 by omega, List.drop_take, hr, show k + 2 - k = 2 by omega]; rfl
   rw [e]
   have e2 : ([c, d] == ([58, 93] : List UInt8)) = [58, 93].isPrefixOf (c :: d :: r) := by
    rw [Bool.eq_iff_iff, beq_iff_eq, List.isPrefixOf_iff_prefix, List.prefix_iff_eq_take]
    exact eq_comm
   rw [e2]
   cases hp : [58, 93].isPrefixOf (c :: d :: r)
   ·simp only [Bool.not_false, aR, cond_false]
    rw [show (k : Int) + 1 = ((k + 1 : Nat) : Int) from rfl, ih (k + 1) (m - 1) hr2 (by omega) (by omega) (by omega)]
    cases qL (d :: r) with
    | none => rfl
    | some j => simp only [Option.map_some]; rw [show k + 1 + j = k + (j + 1) by omega]
   ·simp only [Bool.not_true, aM, cond_true, bX]
    rfl
theorem Zo {n : Nat} {g0 : List UInt8 × Int × Bool × Bool × List Bool × List Bool × List Bool × Unit -> Option (List Bool × Int × Int)} {s : List UInt8} {i : Nat} {no first : Bool} {b1 b2 : List Bool} {q : Nat -> Bool} (hn : 300 <= n) (hsn : s.length < n) (hi : i <= s.length) (hs : s.length < 1000000) :
  gu n g0 (s, (i : Int), no, first, b1, b2, bx q, ()) = match uP first (s.drop i) with
   | some (p, k) => g0 (s, ((i + k : Nat) : Int), no, false, b1, b2, bx (fun j => q j || p j), ())
   | none => some (b2, 0, 42) := by
 have hlen : (s.drop i).length = s.length - i := List.length_drop
 have J5 : gu n g0 (s, (i : Int), no, first, b1, b2, bx q, ()) = mD n g0 (s, (i : Int), no, first, [91, 58].isPrefixOf (s.drop i), b1, b2, bx q, ()) := by
  unfold gu
  simp only [bX]
  rw [aK (by omega) (by omega)]
  by_cases h : i + 1 < s.length
  ·rw [au (by simp; omega), aK (by omega) (by omega), ah (by simp; omega)]
   congr 6
   rw [Int.toNat_natCast, show ((i : Int) + 2).toNat = i + 2 by omega, List.drop_take, show i + 2 - i = 2 by omega]
   rw [Bool.eq_iff_iff, beq_iff_eq, List.isPrefixOf_iff_prefix, List.prefix_iff_eq_take]
   exact eq_comm
  ·rw [aj (by simp; omega)]
   congr 6
   symm
   rw [Bool.eq_false_iff]
   intro hp
   have := dD hp
   simp only [List.length_cons, List.length_nil] at this
   omega
 rw [J5]
 unfold mD uP
 simp only
 cases h0 : [91, 58].isPrefixOf (s.drop i)
 case true =>
  have hl := dD h0
  simp only [List.length_cons, List.length_nil] at hl
  simp only [aR, cond_true]
  rw [aK (by omega) (by omega), show (i : Int) + 2 = ((i + 2 : Nat) : Int) from rfl, za9 hs (s.drop (i + 2)) (i + 2) n rfl (by omega) (by omega) (by rw [List.length_drop]; omega), List.drop_drop]
  cases h1 : qL (s.drop (i + 2)) with
  | none => rfl
  | some k =>
   simp only
   obtain ⟨k1, k2⟩ := Ck h1
   rw [List.length_drop] at k2
   unfold iB
   simp only
   rw [aK (by omega) (by omega), aj (by simp; omega), aK (by omega) (by omega), ah (by simp; omega)]
   have e : (s.take ((i + 2 + k : Nat) : Int).toNat).drop ((i : Int) + 2).toNat = (s.drop (i + 2)).take k := by
    rw [Int.toNat_natCast, show ((i : Int) + 2).toNat = i + 2 by omega, List.drop_take, show i + 2 + k - (i + 2) = k by omega]
   rw [e]
   have h2 := ML (n := n) hn ((s.drop (i + 2)).take k)
   cases hc : Bt ((s.drop (i + 2)).take k) with
   | none =>
    rw [hc] at h2
    obtain ⟨_, p, h2⟩ := h2
    rw [h2]; rfl
   | some p =>
    rw [hc] at h2; rw [h2.2]
    simp only [aA, Bool.not_true, aM]
    rw [yw hn, aK (by omega) (by omega)]
    simp only [aA]
    rw [show i + (k + 4) = i + 2 + k + 2 by omega]; rfl
 simp only [aM, cond_false, bX]
 have J7 : ∀ (A K : Int) (M : Bool), lV n (s, (i : Int), first, false) = some (A, K, M) -> qF n g0 (s, (i : Int), no, first, b1, b2, bx q, ()) =
  br (K == 0) (some (b2, 0, 42)) (br (decide (IntKind.wrap .i64 (IntKind.wrap .i64 ((i : Int) + K) + 1) < (s.length : Int))) (
   chk (inB (IntKind.wrap .i64 ((i : Int) + K)) s.length) (
    br (((aG 0 s (IntKind.wrap .i64 ((i : Int) + K))).toNat : Int) == 45) (
     chk (inB (IntKind.wrap .i64 (IntKind.wrap .i64 ((i : Int) + K) + 1)) s.length) (
      jn (dY n g0) (s, IntKind.wrap .i64 ((i : Int) + K), no, A, M, A, (((aG 0 s (IntKind.wrap .i64 (IntKind.wrap .i64 ((i : Int) + K) + 1))).toNat : Int) != 93), b1, b2, bx q, ()))) (
     jn (dY n g0) (s, IntKind.wrap .i64 ((i : Int) + K), no, A, M, A, false, b1, b2, bx q, ())))) (
   jn (dY n g0) (s, IntKind.wrap .i64 ((i : Int) + K), no, A, M, A, false, b1, b2, bx q, ()))) := by
  intro A K M h
  unfold qF
  simp only
  rw [h]; rfl
 cases h1 : nL first false (s.drop i) with
 | none => rw [J7 0 0 false (by rw [H9 hi hs, h1]; rfl)]; rfl
 | some x =>
  obtain ⟨a, k, may⟩ := x
  have hk := yS h1
  rw [List.length_drop] at hk
  have hik : i + k <= s.length := by omega
  rw [J7 (a.toNat : Int) (k : Int) may (by rw [H9 hi hs, h1]; rfl)]
  rw [aj (by simp; omega), aK (x := (i : Int) + (k : Int)) (by omega) (by omega), aK (by omega) (by omega)]
  have J8f : ∀ t : Bool, t = false -> dY n g0 (s, (i : Int) + (k : Int), no, (a.toNat : Int), may, (a.toNat : Int), t, b1, b2, bx q, ()) = g0 (s, ((i + k : Nat) : Int), no, false, b1, b2, bx (fun j => q j || bE a.toNat a.toNat j), ()) := by
   intro t ht
   subst ht
   unfold dY
   have hR : bS n ((a.toNat : Int), (a.toNat : Int)) = some (bx (bE a.toNat a.toNat)) := sU hn a.toNat_lt a.toNat_lt
   simp only [aM, hR, aA]
   rw [yw hn]; rfl
  simp only
  rw [List.drop_drop, List.length_drop]
  by_cases h4 : 1 < s.length - (i + k)
  ·rw [au (by simp; omega), ah (cK (by omega) (by omega)), decide_eq_true h4, Bool.and_true]
   cases hr : s.drop (i + k) with
   | nil => have := congrArg List.length hr; simp only [List.length_drop, List.length_nil] at this; omega
   | cons c t =>
    obtain ⟨hr2, _⟩ := rQ hr
    have e0 : aG 0 s ((i : Int) + (k : Int)) = c := pW (i := i + k) (j := 0) (by rw [hr]; rfl)
    rw [e0, (cI c).2.2.2.2.2.2.2.1]
    cases t with
    | nil => have := congrArg List.length hr; simp only [List.length_drop, List.length_nil, List.length_cons] at this; omega
    | cons d t =>
     have e1 : aG 0 s ((i : Int) + (k : Int) + 1) = d := pW (i := i + k) (j := 1) (by rw [hr]; rfl)
     simp only [List.isPrefixOf, Bool.and_true]
     cases h45 : (45 == c)
     ·simp only [aM, Bool.false_and, cond_false, bX]
      exact J8f _ rfl
     ·simp only [aR, Bool.true_and, bX]
      rw [ah (cK (by omega) (by omega)), e1, bne, (cI d).2.2.2.2.2.2.1]
      cases h93 : (93 == d)
      case true =>
       simp only [Bool.not_true, cond_false]
       exact J8f _ rfl
      simp only [Bool.not_false, cond_true]
      unfold dY
      simp only [aR]
      rw [aK (x := (i : Int) + (k : Int) + 1) (by omega) (by omega), show (i : Int) + (k : Int) + 1 = ((i + k + 1 : Nat) : Int) from rfl, H9 (by omega) hs]
      rw [List.drop_drop, show i + (k + 1) = i + k + 1 by omega]
      simp only [aA]
      cases h5 : nL false true (s.drop (i + k + 1)) with
      | none => rfl
      | some y =>
       obtain ⟨b, m, is⟩ := y
       have hm := yS h5
       rw [List.length_drop] at hm
       simp only [Cj]
       rw [aj (by simp; omega)]
       cases is
       ·simp only [Bool.not_false, aR, Bool.and_false, Bool.false_and, cond_false]
       cases may
       ·simp only [Bool.not_false, aR, Bool.not_true, aM, Bool.false_and, cond_false]
       rw [aj (b := !true) rfl, aj (b := !true) rfl]
       by_cases hba : b.toNat < a.toNat
       ·rw [au (by exact decide_eq_true (by omega)), decide_eq_true hba]; rfl
       ·have hR2 : bS n ((a.toNat : Int), (b.toNat : Int)) = some (bx (bE a.toNat b.toNat)) := sU hn a.toNat_lt b.toNat_lt
        rw [aj (by exact decide_eq_false (by omega)), decide_eq_false hba, hR2]
        simp only [aA, Bool.not_false, Bool.and_true, cond_true]
        rw [yw hn, aK (x := 1 + (m : Int)) (by omega) (by omega), aK (by omega) (by omega)]
        simp only [aA]
        rw [show (i : Int) + (k : Int) + (1 + (m : Int)) = ((i + (k + 1 + m) : Nat) : Int) by omega]
  ·rw [aj (by simp; omega), decide_eq_false h4, Bool.and_false]
   simp only [bX, cond_false]
   exact J8f _ rfl
def lY : Nat -> Bool -> (Nat -> Bool) -> List UInt8 -> Option ((Nat -> Bool) × Nat)
 | 0, _, _, _ => none
 | f + 1, first, q, r =>
  bif [93].isPrefixOf r && !first then some (q, 1)
  else match uP first r with
   | none => none
   | some (p, k) => match lY f false (fun j => q j || p j) (r.drop k) with
    | none => none
    | some (x, m) => some (x, k + m)
def dR (p : Nat -> Bool) : Bool := (List.range 256).all fun i => !p i
def tO (s : List UInt8) : Option ((Nat -> Bool) × Nat) :=
 bif [91].isPrefixOf s then
  let no := [94].isPrefixOf (s.drop 1)
  let i := bif no then 2 else 1
  match lY (s.length + 1) true (fun _ => false) (s.drop i) with
  | none => none
  | some (p, k) =>
   let p' := bif no then (fun j => !p j) else p
   bif dR p' then none else some (p', i + k)
 else none
theorem Sq : ∀ {f : Nat} {first : Bool} {q : Nat -> Bool} {r : List UInt8} {p : Nat -> Bool} {k : Nat}, lY f first q r = some (p, k) -> 1 <= k ∧ k <= r.length
 | 0, _, _, _, _, _, h => absurd h (by simp [lY])
 | f + 1, first, q, r, p, k, h => by
  unfold lY at h
  cases h0 : [93].isPrefixOf r && !first <;> simp only [h0, cond_true, cond_false] at h
  ·cases h1 : uP first r with
   | none => rw [h1] at h; exact absurd h (by simp)
   | some x =>
    obtain ⟨p1, k1⟩ := x
    rw [h1] at h
    simp only at h
    have hk1 := Ia h1
    cases h2 : lY f false (fun j => q j || p1 j) (r.drop k1) with
    | none => rw [h2] at h; exact absurd h (by simp)
    | some y =>
     obtain ⟨p2, k2⟩ := y
     rw [h2] at h
     have hk2 := Sq h2
     rw [List.length_drop] at hk2
     simp only [Option.some.injEq, Prod.mk.injEq] at h; omega
  ·simp only [Bool.and_eq_true] at h0
   have := dD h0.1
   simp only [List.length_cons, List.length_nil, Option.some.injEq, Prod.mk.injEq] at this h; omega
theorem KQ {s : List UInt8} {p : Nat -> Bool} {k : Nat} (h : tO s = some (p, k)) : 1 <= k ∧ k <= s.length := by
 unfold tO at h
 cases h0 : [91].isPrefixOf s <;> simp only [h0, cond_true, cond_false] at h
 ·exact absurd h (by simp)
 ·cases h1 : lY (s.length + 1) true (fun _ => false) (s.drop (bif [94].isPrefixOf (s.drop 1) then 2 else 1)) with
  | none => rw [h1] at h; exact absurd h (by simp)
  | some x =>
   obtain ⟨q, j⟩ := x
   rw [h1] at h
   have hj := Sq h1
   rw [List.length_drop] at hj
   simp only at h
   cases h2 : dR (bif [94].isPrefixOf (s.drop 1) then (fun j => !q j) else q) <;> simp only [h2, cond_true, cond_false] at h
   ·simp only [Option.some.injEq, Prod.mk.injEq] at h; omega
   ·exact absurd h (by simp)
theorem lC {p : Nat -> Bool} : Ty.beq (.arr 4 (.int .u64)) (wd p) [0, 0, 0, 0] = dR p := by
 rw [Bool.eq_iff_iff, <- mM, zek, mM, zcy, dR, List.all_eq_true]
 simp
theorem Ib {p : Nat -> Bool} : (((aU p).length : Int) == 0) = dR p := by
 rw [Bool.eq_iff_iff, dR, List.all_eq_true, beq_iff_eq]
 have := @Ud p
 rw [show (((aU p).length : Int) = 0) <-> (aU p).length = 0 by omega, this]
 simp
def Ic (s : List UInt8) (i : Nat) (no : Bool) (o : Option ((Nat -> Bool) × Nat)) (e : Option (Sum (List Int × List UInt8 × Int × Unit) (Int × Int × List Int × List UInt8 × Int × Unit))) : Prop := match o with
 | some (p, k) => bif dR (bif no then (fun j => !p j) else p) then ∃ a w, e = some (.inr (42, 0, w, s, a, ())) else e = some (.inl (wd (bif no then (fun j => !p j) else p), s, ((i + k : Nat) : Int), ()))
 | none => ∃ a w, e = some (.inr (42, 0, w, s, a, ()))
theorem Zp {n : Nat} {s : List UInt8} {no : Bool} (hn : 300 <= n) (hs : s.length < 1000000) : ∀ (f : Nat) (i m : Nat) (first : Bool) (q : Nat -> Bool), i <= s.length -> s.length - i < f -> f <= m ->
  Ic s i no (lY f first q (s.drop i)) (fix (jD n) m (no, first, wd q, s, (i : Int), ())) := by
 intro f
 induction f with
 | zero => intro i m first q _ h; omega
 | succ f ih =>
  intro i m first q hi hf hm
  rw [aX (by omega), jD]
  simp only
  have hO : ∀ p : Nat -> Bool, lS n [wd q, wd p] = some (wd fun j => q j || p j) := by
   intro p
   have := O7 (n := n) [q, p] (by omega) (by simp; omega) (by simp)
   simpa using this
  have hpart : Ic s i no (match uP first (s.drop i) with
   | none => none
   | some (p, k) => match lY f false (fun j => q j || p j) ((s.drop i).drop k) with
    | none => none
    | some (x, m) => some (x, k + m)) (ob2 (ku n (first, s, (i : Int), ())) (fun y13 =>
   ob (lS n [wd q, y13.1]) fun y14 =>
   fix (jD n) (m - 1) (no, false, y14, y13.2.1, y13.2.2.1, ())) (fun y13 =>
   some (.inr (y13.1, y13.2.1, wd q, y13.2.2.1, y13.2.2.2.1, ())))) := by
   have hp := za8 (n := n) (first := first) hn hi hs
   cases h1 : uP first (s.drop i) with
   | none =>
    rw [h1] at hp
    obtain ⟨a, hp⟩ := hp
    rw [hp]
    exact ⟨_, _, rfl⟩
   | some x =>
    obtain ⟨p, k⟩ := x
    rw [h1] at hp
    simp only [MO] at hp
    have hk := Ia h1
    rw [List.length_drop] at hk
    rw [hp]
    simp only [zZ]
    rw [hO p]
    simp only [aA]
    have := ih (i + k) (m - 1) false (fun j => q j || p j) (by omega) (by omega) (by omega)
    rw [List.drop_drop]
    cases h2 : lY f false (fun j => q j || p j) (s.drop (i + k)) with
    | none => rw [h2] at this; exact this
    | some y =>
     obtain ⟨p2, k2⟩ := y
     rw [h2] at this
     simp only [Ic] at this ⊢
     rw [show i + (k + k2) = i + k + k2 by omega]
     exact this
  unfold lY
  cases first
  case true =>
   simp only [aR, Bool.not_true, Bool.and_false, cond_false]
   exact hpart
  simp only [aM, Bool.not_false, Bool.and_true]
  cases h0 : [93].isPrefixOf (s.drop i)
  ·rw [lu hi h0]
   simp only [aA, Bool.not_false, aR, cond_false]
   exact hpart
  ·rw [lq hi hs h0]
   simp only [aA, Bool.not_true, aM, cond_true, Ic]
   cases no
   ·simp only [aM, cond_false]
    cases hq : dR q
    ·simp only [cond_false]
     rw [aj (by exact lC.trans hq)]; rfl
    ·simp only [cond_true]
     refine ⟨((i + [93].length : Nat) : Int), wd q, ?_⟩
     rw [au (by exact lC.trans hq)]; rfl
   ·simp only [aR, cond_true, MJ (n := n) (by omega), aA]
    cases hq : dR (fun j => !q j)
    ·simp only [cond_false]
     rw [aj (by exact lC.trans hq)]; rfl
    ·simp only [cond_true]
     refine ⟨((i + [93].length : Nat) : Int), wd (fun j => !q j), ?_⟩
     rw [au (by exact lC.trans hq)]; rfl
def Zq : Option ((Nat -> Bool) × Nat) -> List Int × Int × Int
 | some (p, k) => (wd p, ((k : Nat) : Int), 0)
 | none => ([0, 0, 0, 0], 0, 42)
theorem Oi {n : Nat} {s : List UInt8} (hn : 400 <= n) (hsn : s.length + 10 < n) (hs : s.length < 1000000) : nW n s = some (Zq (tO s)) := by
 have hT : ∀ e : Option (Sum (List Int × List UInt8 × Int × Unit) (Int × Int × List Int × List UInt8 × Int × Unit)), jo n ([0, 0, 0, 0], s, 0, ()) = e -> nW n s = ob (ob2 e (fun y => some (0, 0, y)) (fun y => some y)) fun y1 => br (y1.1 != 0) (some ([0, 0, 0, 0], 0, y1.1)) (some (y1.2.2.1, y1.2.2.2.2.1, 0)) := by
  intro e he
  unfold nW eZ
  simp only
  rw [he]
 have hB : ∀ a w, jo n ([0, 0, 0, 0], s, 0, ()) = some (.inr (42, 0, w, s, a, ())) -> nW n s = some ([0, 0, 0, 0], 0, 42) := by
  intro a w h; rw [hT _ h]; rfl
 have h0 : jo n ([0, 0, 0, 0], s, 0, ()) = br (![91].isPrefixOf s) (some (.inr (42, 0, [0, 0, 0, 0], s, 0, ()))) (fix (jD n) n ([94].isPrefixOf (s.drop 1), true, wd (fun _ => false), s, ((bif [94].isPrefixOf (s.drop 1) then 2 else 1 : Nat) : Int), ())) := by
  unfold jo
  simp only
  rw [show (0 : Int) = ((0 : Nat) : Int) from rfl]
  cases h1 : [91].isPrefixOf s
  ·rw [lu (by omega) (by rw [List.drop_zero]; exact h1)]; rfl
  ·rw [lq (by omega) hs (by rw [List.drop_zero]; exact h1)]
   have hl := dD h1
   simp only [List.length_cons, List.length_nil] at hl
   simp only [aA, Bool.not_true, aM]
   rw [show 0 + ([91] : List UInt8).length = 1 from rfl]
   cases h2 : [94].isPrefixOf (s.drop 1)
   ·rw [lu (by omega) h2, mM]; rfl
   ·rw [lq (by omega) hs h2, mM]; rfl
 unfold tO
 cases h1 : [91].isPrefixOf s
 ·rw [h1] at h0; simp only [Bool.not_false, aR] at h0
  rw [hB _ _ h0]; rfl
 ·rw [h1] at h0; simp only [Bool.not_true, aM] at h0
  simp only [cond_true]
  have hi : (bif [94].isPrefixOf (s.drop 1) then 2 else 1) <= s.length := by
   have hl := dD h1
   simp only [List.length_cons, List.length_nil] at hl
   cases h2 : [94].isPrefixOf (s.drop 1)
   ·simp only [cond_false]; omega
   ·have hl2 := dD h2
    rw [List.length_drop] at hl2
    simp only [List.length_cons, List.length_nil] at hl2
    simp only [cond_true]; omega
  have hL := Zp (n := n) (s := s) (no := [94].isPrefixOf (s.drop 1)) (by omega) hs (s.length + 1) _ n true (fun _ => false) hi (by omega) (by omega)
  rw [<- h0] at hL
  cases h3 : lY (s.length + 1) true (fun _ => false) (s.drop (bif [94].isPrefixOf (s.drop 1) then 2 else 1)) with
  | none =>
   rw [h3] at hL
   obtain ⟨a, w, hL⟩ := hL
   rw [hB _ _ hL]; rfl
  | some x =>
   obtain ⟨p, k⟩ := x
   rw [h3] at hL
   simp only [Ic] at hL
   simp only
   cases h4 : dR (bif [94].isPrefixOf (s.drop 1) then (fun j => !p j) else p) <;> rw [h4] at hL <;> simp only [cond_true, cond_false] at hL ⊢
   ·rw [hT _ hL]; rfl
   ·obtain ⟨a, w, hL⟩ := hL
    rw [hB _ _ hL]; rfl
def Ie : Option ((Nat -> Bool) × Nat) -> (Nat -> Bool) × Int × Int
 | some (p, k) => (p, ((k : Nat) : Int), 0)
 | none => (fun _ => false, 0, 42)
theorem Zr {n : Nat} {s : List UInt8} {no : Bool} {b1 : List Bool} (hn : 300 <= n) (hsn : s.length < n) (hs : s.length < 1000000) : ∀ (f : Nat) (i m : Nat) (first : Bool) (q : Nat -> Bool), i <= s.length -> s.length - i < f -> f <= m ->
  fix (mE n) m (s, (i : Int), no, first, b1, bx (fun _ => false), bx q, ()) = match lY f first q (s.drop i) with
   | some (p, k) => bif dR (bif no then (fun j => !p j) else p) then some (bx (fun _ => false), 0, 42) else some (bx (bif no then (fun j => !p j) else p), ((i + k : Nat) : Int), 0)
   | none => some (bx (fun _ => false), 0, 42) := by
 intro f
 induction f with
 | zero => intro i m first q _ h; omega
 | succ f ih =>
  intro i m first q hi hf hm
  rw [aX (by omega), mE]
  simp only
  have hlen : (s.drop i).length = s.length - i := List.length_drop
  have hpart : gu n (fix (mE n) (m - 1)) (s, (i : Int), no, first, b1, bx (fun _ => false), bx q, ()) = match (match uP first (s.drop i) with
   | none => none
   | some (p, k) => match lY f false (fun j => q j || p j) ((s.drop i).drop k) with
    | none => none
    | some (x, m) => some (x, k + m)) with
   | some (p, k) => bif dR (bif no then (fun j => !p j) else p) then some (bx (fun _ => false), 0, 42) else some (bx (bif no then (fun j => !p j) else p), ((i + k : Nat) : Int), 0)
   | none => some (bx (fun _ => false), 0, 42) := by
   rw [Zo hn hsn hi hs]
   cases h1 : uP first (s.drop i) with
   | none => rfl
   | some x =>
    obtain ⟨p, k⟩ := x
    have hk := Ia h1
    rw [List.length_drop] at hk
    simp only
    rw [ih (i + k) (m - 1) false _ (by omega) (by omega) (by omega), List.drop_drop]
    cases h2 : lY f false (fun j => q j || p j) (s.drop (i + k)) with
    | none => rfl
    | some y =>
     obtain ⟨p2, k2⟩ := y
     simp only
     rw [show i + (k + k2) = i + k + k2 by omega]
  have J2 : 1 <= (s.drop i).length -> qE n (IntKind.wrap .i64 ((i : Int) + 1), no, b1, bx (fun _ => false), bx q, ()) = bif dR (bif no then (fun j => !q j) else q) then some (bx (fun _ => false), 0, 42) else some (bx (bif no then (fun j => !q j) else q), ((i + 1 : Nat) : Int), 0) := by
   intro h
   rw [aK (by omega) (by omega)]
   unfold qE
   simp only [bX]
   cases no
   ·simp only [aM, cond_false, mo, zm hn, aA, Ib]
    cases dR q <;> rfl
   ·simp only [aR, cond_true, Sl hn, mo, zm hn, aA, Ib]
    cases dR (fun j => !q j) <;> rfl
  rw [lY]
  cases hr : s.drop i with
  | nil =>
   rw [hr] at hlen hpart
   simp only [List.length_nil] at hlen
   rw [aj (by simp; omega), bX, hpart]
   rfl
  | cons c t =>
   rw [hr] at hlen hpart J2
   simp only [List.length_cons] at hlen
   have e0 : aG 0 s (i : Int) = c := pW (i := i) (j := 0) (by rw [hr]; rfl)
   rw [au (by simp; omega), ah (dM (by omega)), e0, (cI c).2.2.2.2.2.2.1, bX, bX]
   rw [show [93].isPrefixOf (c :: t) = (93 == c) by simp [List.isPrefixOf]]
   cases (93 == c)
   ·simp only [aM, Bool.false_and, cond_false]
    exact hpart
   ·cases first
    ·simp only [aR, Bool.not_false, Bool.and_true, cond_true]
     exact J2 (by simp)
    ·simp only [aR, aM, Bool.not_true, Bool.and_false, cond_false]
     exact hpart
theorem KR {n : Nat} {s : List UInt8} (hn : 400 <= n) (hsn : s.length + 10 < n) (hs : s.length < 1000000) : qd n s = some (bx (Ie (tO s)).1, (Ie (tO s)).2.1, (Ie (tO s)).2.2) := by
 unfold qd tO
 simp only
 cases s with
 | nil => rw [au (by rfl), <- vJ]; rfl
 | cons c t =>
  rw [aj (by simp; omega), ah (cK (by omega) (by simp))]
  rw [show aG 0 (c :: t) 0 = c from rfl, bne, (cI c).1, bX, show [91].isPrefixOf (c :: t) = (91 == c) by simp [List.isPrefixOf]]
  cases (91 == c)
  ·simp only [Bool.not_false, aR, cond_false, <- vJ]; rfl
  simp only [Bool.not_true, aM, cond_true, List.drop_one, List.tail_cons]
  have J1 : ∀ (i : Nat) (no : Bool), i <= (c :: t).length -> jE n (c :: t, (i : Int), no, List.replicate 256 false, List.replicate 256 false, ()) = match lY ((c :: t).length + 1) true (fun _ => false) ((c :: t).drop i) with
   | some (p, k) => bif dR (bif no then (fun j => !p j) else p) then some (bx (fun _ => false), 0, 42) else some (bx (bif no then (fun j => !p j) else p), ((i + k : Nat) : Int), 0)
   | none => some (bx (fun _ => false), 0, 42) := by
   intro i no hi
   unfold jE
   simp only
   rw [<- vJ]
   exact Zr (by omega) (by omega) hs ((c :: t).length + 1) i n true _ hi (by omega) (by omega)
  have fin : ∀ (i : Nat) (no : Bool), (match lY ((c :: t).length + 1) true (fun _ => false) ((c :: t).drop i) with
   | some (p, k) => bif dR (bif no then (fun j => !p j) else p) then some (bx (fun _ => false), 0, 42) else some (bx (bif no then (fun j => !p j) else p), ((i + k : Nat) : Int), 0)
   | none => some (bx (fun _ => false), 0, 42)) = some (bx (Ie (match lY ((c :: t).length + 1) true (fun _ => false) ((c :: t).drop i) with
    | none => none
    | some (p, k) => bif dR (bif no then (fun j => !p j) else p) then none else some (bif no then (fun j => !p j) else p, i + k))).1, (Ie (match lY ((c :: t).length + 1) true (fun _ => false) ((c :: t).drop i) with
    | none => none
    | some (p, k) => bif dR (bif no then (fun j => !p j) else p) then none else some (bif no then (fun j => !p j) else p, i + k))).2.1, (Ie (match lY ((c :: t).length + 1) true (fun _ => false) ((c :: t).drop i) with
    | none => none
    | some (p, k) => bif dR (bif no then (fun j => !p j) else p) then none else some (bif no then (fun j => !p j) else p, i + k))).2.2) := by
   intro i no
   cases lY ((c :: t).length + 1) true (fun _ => false) ((c :: t).drop i) with
   | none => rfl
   | some x =>
    obtain ⟨p, k⟩ := x
    simp only
    cases dR (bif no then (fun j => !p j) else p) <;> rfl
  unfold wP
  simp only [bX]
  cases t with
  | nil =>
   rw [aj (by simp), show (1 : Int) = ((1 : Nat) : Int) from rfl, J1 1 false (by simp), fin]; rfl
  | cons d t =>
   rw [au (by simp; omega), ah (cK (by omega) (by simp; omega)), show aG 0 (c :: d :: t) 1 = d from rfl, (cI d).2.2.2.2.2.2.2.2, show [94].isPrefixOf (d :: t) = (94 == d) by simp [List.isPrefixOf]]
   cases (94 == d)
   ·simp only [aM, cond_false]
    rw [show (1 : Int) = ((1 : Nat) : Int) from rfl, J1 1 false (by simp), fin]; rfl
   ·simp only [aR, cond_true]
    rw [show IntKind.wrap .i64 (1 + 1) = ((2 : Nat) : Int) from rfl, J1 2 true (by simp), fin]; rfl
end Go.Dec
