/- Part of a proof over this seat: a library of my own, and what it says of this seat. No statement is proved here. -/
import Derived.Test.YthhbdkdofhhoeaaGreatDoorPartBQ
namespace Go.Dec
theorem and_split {y a M M' c : Nat} (hM : M = 2 ^ 8 * M' + c) (hM2 : M = 2 ^ 56 * c + M') (hc : c < 2 ^ 8) (hM' : M' < 2 ^ 56) (hy : y < 2 ^ 56) (ha : a < 2 ^ 8) : (2 ^ 8 * y + a) &&& M = 2 ^ 8 * (y &&& M) + (a &&& c) := by
 have e : y &&& M = y &&& M' := by
  apply Nat.eq_of_testBit_eq
  intro j
  rw [Nat.testBit_and, Nat.testBit_and, hM2, Nat.testBit_two_pow_mul_add _ hM']
  by_cases hj : j < 56
  ·rw [if_pos hj]
  ·rw [Nat.testBit_lt_two_pow (Nat.lt_of_lt_of_le hy (Nat.pow_le_pow_right (by omega) (show 56 <= j by omega)))]; simp
 rw [e]
 conv => lhs; rw [hM]
 apply Nat.eq_of_testBit_eq
 intro j
 rw [Nat.testBit_and, Nat.testBit_two_pow_mul_add _ ha, Nat.testBit_two_pow_mul_add _ hc, Nat.testBit_two_pow_mul_add _ (Nat.and_lt_two_pow _ hc)]
 by_cases hj : j < 8
 ·simp [hj]
 ·simp [hj]
def M1 : Nat := 6148914691236517205
def M2 : Nat := 3689348814741910323
def M3 : Nat := 1085102592571150095
theorem and1 {y a : Nat} (hy : y < 2 ^ 56) (ha : a < 256) : (256 * y + a) &&& M1 = 256 * (y &&& M1) + (a &&& 85) := and_split (M' := 24019198012642645) (by decide) (by decide) (by decide) (by decide) hy ha
theorem zQu {y a : Nat} (hy : y < 2 ^ 56) (ha : a < 256) : (256 * y + a) &&& M2 = 256 * (y &&& M2) + (a &&& 51) := and_split (M' := 14411518807585587) (by decide) (by decide) (by decide) (by decide) hy ha
theorem zSx {y a : Nat} (hy : y < 2 ^ 56) (ha : a < 256) : (256 * y + a) &&& M3 = 256 * (y &&& M3) + (a &&& 15) := and_split (M' := 4238682002231055) (by decide) (by decide) (by decide) (by decide) hy ha
def DG : List Nat -> Nat
 | [] => 0
 | b :: l => 256 * DG l + b
theorem Yv : ∀ (l : List Nat), (∀ b ∈ l, b < 256) -> DG l < 2 ^ (8 * l.length)
 | [], _ => by decide
 | b :: l, h => by
  have h1 := Yv l (fun x hx => h x (by simp [hx]))
  have h2 := h b (by simp)
  rw [List.length_cons, show 8 * (l.length + 1) = 8 * l.length + 8 by omega, Nat.pow_add]
  simp only [DG]; omega
theorem Yw : ∀ (l : List Nat), (∀ b ∈ l, b <= 102) -> 255 * DG l + 102 <= 102 * 2 ^ (8 * l.length)
 | [], _ => by decide
 | b :: l, h => by
  have h1 := Yw l (fun x hx => h x (by simp [hx]))
  have h2 := h b (by simp)
  rw [List.length_cons, show 8 * (l.length + 1) = 8 * l.length + 8 by omega, Nat.pow_add]
  simp only [DG]; omega
theorem zHk {l : List Nat} (h : ∀ b ∈ l, b < 256) (hl : l.length <= 7) : DG l < 2 ^ 56 := Nat.lt_of_lt_of_le (Yv l h) (Nat.pow_le_pow_right (by omega) (by omega))
def u1 (a : Nat) : Nat := (a / 2 &&& 85) + (a &&& 85)
def u2 (a : Nat) : Nat := (a / 4 &&& 51) + (a &&& 51)
def u3 (a : Nat) : Nat := (a / 16 + a) &&& 15
theorem zSy : ((List.range 256).all fun a => decide ((a / 2 &&& 85) + (a &&& 85) = ((128 + a / 2) &&& 85) + (a &&& 85)) && decide (u1 a < 256)) = true := by decide +kernel
theorem zSz : ((List.range 256).all fun a => ((List.range 4).all fun q => decide ((a / 4 &&& 51) = ((q * 64 + a / 4) &&& 51))) && (decide (u2 a < 256) && (decide (u2 a % 16 <= 6) && decide (u2 a / 16 <= 6)))) = true := by decide +kernel
theorem zTa : ((List.range 256).all fun a => (decide (a % 16 > 6) || decide (a / 16 > 6)) || ((List.range 7).all fun q => decide (((q * 16 + a / 16 + a) &&& 15) = u3 a))) = true := by decide +kernel
theorem zTb : ((List.range 256).all fun a => decide (u3 (u2 (u1 a)) <= 8) && (decide (u3 (u2 (u1 a)) = 0) == decide (a = 0))) = true := by decide +kernel
theorem V1 : ∀ (l : List Nat), (∀ b ∈ l, b < 256) -> l.length <= 8 -> (DG l / 2 &&& M1) + (DG l &&& M1) = DG (l.map u1) ∧ ∀ b ∈ l.map u1, b < 256
 | [], _, _ => ⟨by decide, by simp⟩
 | b :: l, h, hl => by
  obtain ⟨h1, h2⟩ := V1 l (fun x hx => h x (by simp [hx])) (by simp at hl; omega)
  have hb := h b (by simp)
  have hd := zHk (l := l) (fun x hx => h x (by simp [hx])) (by simp at hl; omega)
  have ht := kW zSy hb
  simp only [Bool.and_eq_true, decide_eq_true_eq] at ht
  refine ⟨?_, by
   intro x hx
   rw [List.map_cons, List.mem_cons] at hx
   rcases hx with rfl | hx
   ·exact ht.2
   ·exact h2 x hx⟩
  simp only [DG, List.map_cons]
  rw [and1 hd hb]
  have e : (256 * DG l + b) / 2 = 256 * (DG l / 2) + (DG l % 2 * 128 + b / 2) := by omega
  rw [e, and1 (by omega) (by omega), <- h1]
  have e2 : ((DG l % 2 * 128 + b / 2) &&& 85) + (b &&& 85) = u1 b := by
   have : DG l % 2 = 0 ∨ DG l % 2 = 1 := by omega
   rcases this with h0 | h0 <;> rw [h0]
   ·simp [u1]
   ·rw [Nat.one_mul]; unfold u1; exact ht.1.symm
  omega
theorem V2 : ∀ (l : List Nat), (∀ b ∈ l, b < 256) -> l.length <= 8 -> (DG l / 4 &&& M2) + (DG l &&& M2) = DG (l.map u2) ∧ ∀ b ∈ l.map u2, b < 256 ∧ b % 16 <= 6 ∧ b / 16 <= 6
 | [], _, _ => ⟨by decide, by simp⟩
 | b :: l, h, hl => by
  obtain ⟨h1, h2⟩ := V2 l (fun x hx => h x (by simp [hx])) (by simp at hl; omega)
  have hb := h b (by simp)
  have hd := zHk (l := l) (fun x hx => h x (by simp [hx])) (by simp at hl; omega)
  have ht := kW zSz hb
  simp only [Bool.and_eq_true, decide_eq_true_eq] at ht
  refine ⟨?_, by
   intro x hx
   rw [List.map_cons, List.mem_cons] at hx
   rcases hx with rfl | hx
   ·exact ht.2
   ·exact h2 x hx⟩
  simp only [DG, List.map_cons]
  rw [zQu hd hb]
  have e : (256 * DG l + b) / 4 = 256 * (DG l / 4) + (DG l % 4 * 64 + b / 4) := by omega
  rw [e, zQu (by omega) (by omega), <- h1]
  have e2 := kW ht.1 (show DG l % 4 < 4 by omega)
  simp only [decide_eq_true_eq] at e2
  rw [<- e2]
  unfold u2
  omega
theorem V3 : ∀ (l : List Nat), (∀ b ∈ l, b < 256 ∧ b % 16 <= 6 ∧ b / 16 <= 6) -> l.length <= 8 -> ((DG l / 16 + DG l) &&& M3) = DG (l.map u3)
 | [], _, _ => by decide
 | b :: l, h, hl => by
  have h1 := V3 l (fun x hx => h x (by simp [hx])) (by simp at hl; omega)
  have hb := h b (by simp)
  have hd := zHk (l := l) (fun x hx => (h x (by simp [hx])).1) (by simp at hl; omega)
  have hq : DG l % 16 <= 6 := by
   cases l with
   | nil => decide
   | cons c l =>
    have := (h c (by simp)).2.1
    simp only [DG]; omega
  have hd2 : DG l / 16 + DG l < 2 ^ 56 := by
   have hle := Yw l (fun x hx => by have := h x (by simp [hx]); omega)
   have hp : 2 ^ (8 * l.length) <= 2 ^ 56 := Nat.pow_le_pow_right (by omega) (by simp at hl; omega)
   omega
  have ht := kW zTa hb.1
  simp only [Bool.or_eq_true, decide_eq_true_eq] at ht
  have ht : ((List.range 7).all fun q => decide (((q * 16 + b / 16 + b) &&& 15) = u3 b)) = true := by
   rcases ht with (ht | ht) | ht
   ·omega
   ·omega
   ·exact ht
  have e2 := kW ht (show DG l % 16 < 7 by omega)
  simp only [decide_eq_true_eq] at e2
  simp only [DG, List.map_cons]
  have e : (256 * DG l + b) / 16 + (256 * DG l + b) = 256 * (DG l / 16 + DG l) + (DG l % 16 * 16 + b / 16 + b) := by omega
  rw [e, zSx hd2 (by omega), h1, e2]
theorem zRq (x : Nat) : eP .u64 (x : Int) 1 = ((x / 2 : Nat) : Int) := wO (k := 1) (by omega)
theorem zRr (x : Nat) : eP .u64 (x : Int) 2 = ((x / 4 : Nat) : Int) := wO (k := 2) (by omega)
theorem zRs (x : Nat) : eP .u64 (x : Int) 4 = ((x / 16 : Nat) : Int) := wO (k := 4) (by omega)
theorem zRt (x : Nat) : eP .u64 (x : Int) 8 = ((x / 256 : Nat) : Int) := wO (k := 8) (by omega)
theorem zQv (x : Nat) : eP .u64 (x : Int) 16 = ((x / 65536 : Nat) : Int) := wO (k := 16) (by omega)
theorem zQw (x : Nat) : eP .u64 (x : Int) 32 = ((x / 4294967296 : Nat) : Int) := wO (k := 32) (by omega)
theorem ia1 {x : Nat} (h : x < 2 ^ 64) : bJ .u64 .and (x : Int) 6148914691236517205 = ((x &&& M1 : Nat) : Int) := zGu h (by decide)
theorem ia2 {x : Nat} (h : x < 2 ^ 64) : bJ .u64 .and (x : Int) 3689348814741910323 = ((x &&& M2 : Nat) : Int) := zGu h (by decide)
theorem ia3 {x : Nat} (h : x < 2 ^ 64) : bJ .u64 .and (x : Int) 1085102592571150095 = ((x &&& M3 : Nat) : Int) := zGu h (by decide)
theorem zRu {x : Nat} (h : x < 2 ^ 63) : bJ .i64 .and (x : Int) 127 = ((x % 128 : Nat) : Int) := by
 show IntKind.i64.wrap ((BitVec.ofInt 64 (x : Int) &&& BitVec.ofInt 64 ((127 : Nat) : Int)).toNat : Int) = _
 rw [BitVec.toNat_and, bvN (by omega), bvN (by omega), show (127 : Nat) = 2 ^ 7 - 1 from rfl, Nat.and_two_pow_sub_one_eq_mod]
 exact bG (by omega) (by omega)
theorem zQx {x : Nat} (hx : x < 2 ^ 64) : ∃ l : List Nat, l.length = 8 ∧ (∀ b ∈ l, b < 256) ∧ x = DG l := by
 have key : ∀ (k x : Nat), x < 256 ^ k -> ∃ l : List Nat, l.length = k ∧ (∀ b ∈ l, b < 256) ∧ x = DG l := by
  intro k
  induction k with
  | zero => intro x h; exact ⟨[], rfl, by simp, by simp at h; simp [DG, h]⟩
  | succ k ih =>
   intro x h
   obtain ⟨l, h1, h2, h3⟩ := ih (x / 256) (by rw [Nat.pow_succ] at h; omega)
   refine ⟨x % 256 :: l, by simp [h1], ?_, ?_⟩
   ·intro b hb
    rcases List.mem_cons.1 hb with rfl | hb
    ·omega
    ·exact h2 b hb
   ·simp only [DG, <- h3]; omega
 exact key 8 x (by simpa using hx)
theorem xS {c : Nat} {l : List Nat} (h : c < 256) : DG (c :: l) / 256 = DG l := by simp only [DG]; omega
theorem Uj : ∀ (a b : List Nat), DG a + DG b = DG (List.zipWith (· + ·) a b ++ (a.drop b.length ++ b.drop a.length))
 | [], b => by simp [DG]
 | a :: l, [] => by simp [DG]
 | a :: l, b :: m => by
  have := Uj l m
  simp only [List.zipWith_cons_cons, List.length_cons, List.drop_succ_cons, List.cons_append, DG]
  omega
theorem zJs {c0 c1 c2 c3 c4 c5 c6 c7 y z v : Nat} (h0 : c0 <= 8) (h1 : c1 <= 8) (h2 : c2 <= 8) (h3 : c3 <= 8) (h4 : c4 <= 8) (h5 : c5 <= 8) (h6 : c6 <= 8) (h7 : c7 <= 8)
  (hy : DG [c0, c1, c2, c3, c4, c5, c6, c7] = y) (hz : y + y / 256 = z) (hv : z + z / 65536 = v) : z < 2 ^ 63 ∧ v < 2 ^ 63 ∧ v + v / 4294967296 < 2 ^ 63 ∧ (v + v / 4294967296) % 128 = c0 + c1 + c2 + c3 + c4 + c5 + c6 + c7 := by
 have e1 : y / 256 = DG [c1, c2, c3, c4, c5, c6, c7] := by rw [<- hy, xS (by omega)]
 have e2 : z = DG [c0 + c1, c1 + c2, c2 + c3, c3 + c4, c4 + c5, c5 + c6, c6 + c7, c7] := by rw [<- hz, <- hy, xS (by omega), Uj]; rfl
 have e3 : z / 65536 = DG [c2 + c3, c3 + c4, c4 + c5, c5 + c6, c6 + c7, c7] := by
  rw [show (65536 : Nat) = 256 * 256 from rfl, <- Nat.div_div_eq_div_mul, e2, xS (by omega), xS (by omega)]
 have e4 : v = DG [c0 + c1 + (c2 + c3), c1 + c2 + (c3 + c4), c2 + c3 + (c4 + c5), c3 + c4 + (c5 + c6), c4 + c5 + (c6 + c7), c5 + c6 + c7, c6 + c7, c7] := by
  rw [<- hv, e3, e2, Uj]; rfl
 have e5 : v / 4294967296 = DG [c4 + c5 + (c6 + c7), c5 + c6 + c7, c6 + c7, c7] := by
  rw [show (4294967296 : Nat) = 256 * 256 * 256 * 256 from rfl, <- Nat.div_div_eq_div_mul, <- Nat.div_div_eq_div_mul, <- Nat.div_div_eq_div_mul, e4, xS (by omega), xS (by omega), xS (by omega), xS (by omega)]
 have e6 : v + v / 4294967296 = DG [c0 + c1 + (c2 + c3) + (c4 + c5 + (c6 + c7)), c1 + c2 + (c3 + c4) + (c5 + c6 + c7), c2 + c3 + (c4 + c5) + (c6 + c7), c3 + c4 + (c5 + c6) + c7, c4 + c5 + (c6 + c7), c5 + c6 + c7, c6 + c7, c7] := by
  rw [e5, e4, Uj]; rfl
 have hle := fun (l : List Nat) (h : ∀ b ∈ l, b <= 102) (hl : l.length = 8) => (by
  have := Yw l h
  rw [hl] at this
  omega : DG l < 2 ^ 63)
 refine ⟨?_, ?_, ?_, ?_⟩
 ·rw [e2]; exact hle _ (by simp; omega) rfl
 ·rw [e4]; exact hle _ (by simp; omega) rfl
 ·rw [e6]; exact hle _ (by simp; omega) rfl
 ·rw [e6]
  generalize hq : DG [c1 + c2 + (c3 + c4) + (c5 + c6 + c7), c2 + c3 + (c4 + c5) + (c6 + c7), c3 + c4 + (c5 + c6) + c7, c4 + c5 + (c6 + c7), c5 + c6 + c7, c6 + c7, c7] = q
  rw [DG, hq]; omega
theorem Nb {n x : Nat} (hx : x < 2 ^ 64) : ∃ c : Nat, gH n (x : Int) = some (c : Int) ∧ c <= 64 ∧ (c = 0 <-> x = 0) := by
 obtain ⟨l, hl, hall, hxe⟩ := zQx hx
 obtain ⟨e1, e2⟩ := V1 l hall (by omega)
 obtain ⟨e3, e4⟩ := V2 _ e2 (by simp; omega)
 have e5 := V3 _ e4 (by simp; omega)
 rw [<- hxe] at e1
 have l1 := Yv _ e2
 have l2 := Yv _ (fun b hb => (e4 b hb).1)
 have l3 := Yw _ (fun b hb => (show b <= 102 by have := e4 b hb; omega))
 simp only [List.length_map, hl] at l1 l2 l3
 have a1 : (x / 2 &&& M1) <= M1 := Nat.and_le_right
 have a2 : (x &&& M1) <= M1 := Nat.and_le_right
 match l, hl with
 | [b0, b1, b2, b3, b4, b5, b6, b7], _ =>
  have t4 := fun {a} (h : a < 256) => by
   have := kW zTb h
   simp only [Bool.and_eq_true, decide_eq_true_eq, beq_iff_eq, decide_eq_decide] at this
   exact this
  have q0 := t4 (hall b0 (by simp))
  have q1 := t4 (hall b1 (by simp))
  have q2 := t4 (hall b2 (by simp))
  have q3 := t4 (hall b3 (by simp))
  have q4 := t4 (hall b4 (by simp))
  have q5 := t4 (hall b5 (by simp))
  have q6 := t4 (hall b6 (by simp))
  have q7 := t4 (hall b7 (by simp))
  have hx0 : x = 0 <-> (b0 = 0 ∧ b1 = 0 ∧ b2 = 0 ∧ b3 = 0 ∧ b4 = 0 ∧ b5 = 0 ∧ b6 = 0 ∧ b7 = 0) := by
   rw [hxe]; simp only [DG]; omega
  unfold gH
  simp only
  have a3 := Nat.and_le_right (n := DG (([b0, b1, b2, b3, b4, b5, b6, b7]).map u1) / 4) (m := M2)
  have a4 := Nat.and_le_right (n := DG (([b0, b1, b2, b3, b4, b5, b6, b7]).map u1)) (m := M2)
  generalize hw1 : DG (([b0, b1, b2, b3, b4, b5, b6, b7]).map u1) = w1 at *
  generalize hw2 : DG ((([b0, b1, b2, b3, b4, b5, b6, b7]).map u1).map u2) = w2 at *
  have hc : ∀ y : Nat, y < 2 ^ 64 -> IntKind.u64.wrap (y : Int) = y := fun y h => wrapN h
  rw [aA (by decide), aA (by decide), aA (by decide), aA (by decide), aA (by decide), aA (by decide)]
  have s1 : (((x / 2 &&& M1 : Nat) : Int) + ((x &&& M1 : Nat) : Int)) = ((w1 : Nat) : Int) := by rw [<- e1]; exact (Int.natCast_add _ _).symm
  have s2 : (((w1 / 4 &&& M2 : Nat) : Int) + ((w1 &&& M2 : Nat) : Int)) = ((w2 : Nat) : Int) := by rw [<- e3]; exact (Int.natCast_add _ _).symm
  have s3 : (((w2 / 16 : Nat) : Int) + (w2 : Int)) = ((w2 / 16 + w2 : Nat) : Int) := (Int.natCast_add _ _).symm
  have x2 : x / 2 < 2 ^ 64 := by omega
  have w12 : w1 < 2 ^ 64 := l1
  have w14 : w1 / 4 < 2 ^ 64 := by omega
  have w22 : w2 < 2 ^ 64 := l2
  have w23 : w2 / 16 + w2 < 2 ^ 64 := by omega
  rw [zRq, ia1 x2, ia1 hx, s1, hc _ w12, zRr, ia2 w14, ia2 w12, s2, hc _ w22, zRs, s3, hc _ w23, ia3 w23, e5]
  simp only [List.map_cons, List.map_nil]
  generalize u3 (u2 (u1 b0)) = c0 at *
  generalize u3 (u2 (u1 b1)) = c1 at *
  generalize u3 (u2 (u1 b2)) = c2 at *
  generalize u3 (u2 (u1 b3)) = c3 at *
  generalize u3 (u2 (u1 b4)) = c4 at *
  generalize u3 (u2 (u1 b5)) = c5 at *
  generalize u3 (u2 (u1 b6)) = c6 at *
  generalize u3 (u2 (u1 b7)) = c7 at *
  generalize hy : DG [c0, c1, c2, c3, c4, c5, c6, c7] = y
  generalize hz : y + y / 256 = z
  generalize hv : z + z / 65536 = v
  obtain ⟨r1, r2, r3, r4⟩ := zJs q0.1 q1.1 q2.1 q3.1 q4.1 q5.1 q6.1 q7.1 hy hz hv
  have s4 : ((y : Int) + ((y / 256 : Nat) : Int)) = (z : Int) := by rw [<- hz]; exact (Int.natCast_add _ _).symm
  have s5 : ((z : Int) + ((z / 65536 : Nat) : Int)) = (v : Int) := by rw [<- hv]; exact (Int.natCast_add _ _).symm
  have s6 : ((v : Int) + ((v / 4294967296 : Nat) : Int)) = ((v + v / 4294967296 : Nat) : Int) := (Int.natCast_add _ _).symm
  rw [zRt, s4, hc _ (by omega), zQv, s5, hc _ (by omega), zQw, s6, hc _ (by omega), bG (by omega) (by omega), zRu r3, r4]
  refine ⟨_, rfl, by omega, ?_⟩
  rw [hx0, <- q0.2, <- q1.2, <- q2.2, <- q3.2, <- q4.2, <- q5.2, <- q6.2, <- q7.2]
  omega
end Go.Dec
namespace Go.Dec
theorem zJ {p : Nat -> Bool} {k : Nat} : jX p k = 0 <-> ∀ j, j < 64 -> p (64 * k + j) = false := by
 constructor
 ·intro h j hj
  have := qA p k j
  rw [h, decide_eq_true hj, Bool.true_and] at this
  rw [<- this]; simp
 ·intro h
  apply Nat.eq_of_testBit_eq
  intro j
  rw [qA]
  by_cases hj : j < 64
  ·rw [h j hj]; simp
  ·simp [hj]
theorem zDi {p : Nat -> Bool} : fA p = true <-> (jX p 0 = 0 ∧ jX p 1 = 0 ∧ jX p 2 = 0 ∧ jX p 3 = 0) := by
 rw [zI, zJ, zJ, zJ, zJ]
 constructor
 ·intro h
  exact ⟨fun j hj => h _ (by omega), fun j hj => h _ (by omega), fun j hj => h _ (by omega), fun j hj => h _ (by omega)⟩
 ·rintro ⟨h0, h1, h2, h3⟩ i hi
  by_cases a : i < 64
  ·have := h0 i a; rwa [show 64 * 0 + i = i by omega] at this
  ·by_cases b : i < 128
   ·have := h1 (i - 64) (by omega); rwa [show 64 * 1 + (i - 64) = i by omega] at this
   ·by_cases c : i < 192
    ·have := h2 (i - 128) (by omega); rwa [show 64 * 2 + (i - 128) = i by omega] at this
    ·have := h3 (i - 192) (by omega); rwa [show 64 * 3 + (i - 192) = i by omega] at this
theorem zDj {n : Nat} (hn : 5 <= n) (p : Nat -> Bool) : ∃ c : Int, Ae n (wd p) = some c ∧ (c == 0) = fA p := by
 obtain ⟨c0, a0, b0, d0⟩ := Nb (n := n) (gX p 0)
 obtain ⟨c1, a1, b1, d1⟩ := Nb (n := n) (gX p 1)
 obtain ⟨c2, a2, b2, d2⟩ := Nb (n := n) (gX p 2)
 obtain ⟨c3, a3, b3, d3⟩ := Nb (n := n) (gX p 3)
 refine ⟨((c0 + c1 + c2 + c3 : Nat) : Int), ?_, ?_⟩
 ·unfold Ae
  simp only
  have g0 : bA (Ty.dflt (.int .u64)) (wd p) 0 = ((jX p 0 : Nat) : Int) := rfl
  have g1 : bA (Ty.dflt (.int .u64)) (wd p) 1 = ((jX p 1 : Nat) : Int) := rfl
  have g2 : bA (Ty.dflt (.int .u64)) (wd p) 2 = ((jX p 2 : Nat) : Int) := rfl
  have g3 : bA (Ty.dflt (.int .u64)) (wd p) 3 = ((jX p 3 : Nat) : Int) := rfl
  rw [cB (by omega), kK]
  simp only
  rw [aU (by rfl), aA (by rfl), g0, a0]
  simp only [aL]
  rw [bG (by omega) (by omega), show IntKind.wrap .i64 ((0 : Int) + 1) = 1 from rfl, cB (by omega), kK]
  simp only
  rw [aU (by rfl), aA (by rfl), g1, a1]
  simp only [aL]
  rw [bG (by omega) (by omega), show IntKind.wrap .i64 ((1 : Int) + 1) = 2 from rfl, cB (by omega), kK]
  simp only
  rw [aU (by rfl), aA (by rfl), g2, a2]
  simp only [aL]
  rw [bG (by omega) (by omega), show IntKind.wrap .i64 ((2 : Int) + 1) = 3 from rfl, cB (by omega), kK]
  simp only
  rw [aU (by rfl), aA (by rfl), g3, a3]
  simp only [aL]
  rw [bG (by omega) (by omega), show IntKind.wrap .i64 ((3 : Int) + 1) = 4 from rfl, cB (by omega), kK]
  simp only
  rw [aQ (by rfl)]
  refine congrArg some ?_
  omega
 ·rw [Bool.eq_iff_iff, beq_iff_eq, zDi]
  omega
theorem zHl {p : Nat -> Bool} (he : fA p = false) : ∃ x, Tz (dI p) = .inl (.bytes x) ∧ ∀ j, j < 256 -> x j = p j := by
 obtain ⟨q1, q2, q3, q4, q5⟩ := zOp he []
 obtain ⟨x, h1, h2⟩ := zJr (row := fB 10) (first := true) (b := 0) (en := vE) he []
 rw [List.append_nil] at q1 q2 q3 h1
 refine ⟨x, ?_, h2⟩
 have hne : dI p ≠ [] := by intro h; rw [h] at q1; simp [iR] at q1
 have hlen : 1 <= (dI p).length := by
  cases hs : dI p with
  | nil => exact absurd hs hne
  | cons _ _ => simp
 rw [zHj hne]
 have hr : fB 11 (dI p) 0 vE = .ok (some (.bytes x)) [] 0 vE := by
  unfold fB
  simp only
  rw [q3]
  simp only [cond_false]
  have hi : jP (fB 10) ((dI p).length + 1) true (dI p) 0 vE [] = .ok [.bytes x] [] 0 vE := by
   obtain ⟨m, hm⟩ : ∃ m, (dI p).length = m + 1 := ⟨(dI p).length - 1, by omega⟩
   rw [hm]
   unfold jP
   rw [q1, q2, h1]
   rfl
  rw [hi]; rfl
 rw [hr]; rfl
theorem Et (l : List Int) (hl : Rq [.arr 4 (.int .u64)] l) : vY 200000 l = some true := by
 obtain ⟨p, rfl⟩ := zQq l hl.1 hl.2
 unfold vY
 simp only
 rw [zDh (by omega), aL, Yb (by omega), aL, Ye (by omega), aL, zJn]
 rw [aQ (by simp)]
 simp only [aL, Bool.not_true, aZ]
 have hlen := zJm p
 rw [zCa (by omega) (by omega)]
 obtain ⟨c, h1, h2⟩ := zDj (n := 200000) (by omega) p
 simp only [aL]
 rw [h1, aL, h2]
 cases he : fA p
 ·obtain ⟨x, x1, x2⟩ := zHl he
  rw [x1]
  simp only [zJc, aZ]
  rw [aU (by rfl), aU (by rfl), aA (by rfl)]
  have hg : bA (Ty.dflt aB) ((Pt.bytes x).enc 0) 0 = ((1, wd x, 0, 0, 0, 0, 0, ()) : Nd) := rfl
  rw [hg, aU (by rfl), aA (by rfl)]
  simp only
  rw [qB x2]
  exact congrArg some ((@beq_iff (.arr 4 (.int .u64)) rfl _ _).2 rfl)
 ·have hb : aN p = [] := by
   unfold aN
   rw [List.filter_eq_nil_iff.2 (fun i hi => by rw [zI.1 he i (by simpa using hi)]; simp)]; rfl
  have : dI p = [] := by unfold dI; rw [hb]
  rw [this]; rfl
end Go.Dec
