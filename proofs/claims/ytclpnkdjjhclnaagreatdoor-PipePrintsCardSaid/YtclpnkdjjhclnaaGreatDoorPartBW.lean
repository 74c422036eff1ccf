/- Part of a proof over this seat: a library of my own, and what it says of this seat. No statement is proved here. -/
import Derived.Test.YtclpnkdjjhclnaaGreatDoorPartBT
import Derived.Test.YtclpnkdjjhclnaaGreatDoorPartBI
namespace Go.Dec
abbrev uL : List UInt8 := [95, 45, 46, 47, 44, 58, 61, 43, 64, 37]
def inM (v : Int) : Bool := uL.any fun x => (x.toNat : Int) == v
def strange (v : Int) : Bool := (decide (v < 97) || decide (v > 122)) && ((decide (v < 65) || decide (v > 90)) && ((decide (v < 48) || decide (v > 57)) && !inM v))
def st (c : UInt8) : Bool := strange (c.toNat : Int)
theorem zIl : ∀ k : Fin 256, decide (Go.Lib.indexByte uL (k.val.toUInt8) < 0) = !(inM (k.val : Int)) := by decide +kernel
theorem zJc (c : UInt8) : decide (Go.Lib.indexByte uL ((c.toNat : Int).toNat.toUInt8) < 0) = !(inM (c.toNat : Int)) := by
 have := zIl ⟨c.toNat, c.toNat_lt⟩
 simpa using this
theorem zBo (n : Nat) (c : UInt8) : kU n (c.toNat : Int) = some (st c) := by
 unfold kU
 simp only [strings_IndexByte, mP]
 have h := zJc c
 simp only [uL] at h
 simp only [h, st, strange]
 generalize hm : inM (c.toNat : Int) = q
 generalize (c.toNat : Int) = v
 by_cases h1 : v < 97 <;> by_cases h2 : v > 122 <;> by_cases h3 : v < 65 <;> by_cases h4 : v > 90 <;> by_cases h5 : v < 48 <;> by_cases h6 : v > 57 <;> simp [h1, h2, h3, h4, h5, h6]
theorem Zo {s pre r : List UInt8} {c : UInt8} (h : s = pre ++ c :: r) : aY (Ty.dflt (.int .u8)) (aO s) (pre.length : Int) = (c.toNat : Int) := by
 have h2 : aO s = aO pre ++ (c.toNat : Int) :: aO r := by rw [h]; simp [aO]
 have := gW (d := Ty.dflt (.int .u8)) h2
 rwa [uH] at this
theorem zIm {n : Nat} {w : List UInt8} (hw : w.length <= 1000) : ∀ (r pre : List UInt8) (m : Nat), w = pre ++ r -> r.length < m ->
  ∃ i : Int, fix (bD n) m (aO w, (w.length : Int), (pre.length : Int), ()) = some (i, ()) ∧ decide (i ≥ 0) = r.any st := by
 intro r
 induction r with
 | nil =>
  intro pre m hp hm
  have hp : pre = w := by simpa using hp.symm
  subst hp
  rw [dF (by omega), bD]
  simp only
  rw [cZ (by simp)]
  exact ⟨_, rfl, by decide⟩
 | cons c r ih =>
  intro pre m hp hm
  have hm' : r.length + 1 < m := hm
  have hlen : w.length = pre.length + r.length + 1 := by rw [hp]; simp; omega
  have hi := ih (pre ++ [c]) (m - 1) (by rw [hp]; simp) (by omega)
  rw [show ((pre ++ [c]).length : Int) = (pre.length : Int) + 1 by simp] at hi
  rw [dF (by omega), bD]
  simp only
  rw [dS (decide_eq_true (by omega)), bB (by rw [uH]; exact kG (by omega)), Zo hp, zBo]
  simp only [mP]
  cases hs : st c with
  | true =>
   refine ⟨_, dS rfl _ _, ?_⟩
   simp [hs]
  | false =>
   rw [Ku, nQ (by omega) (by omega)]
   obtain ⟨i, h1, h2⟩ := hi
   exact ⟨i, h1, by rw [h2]; simp [hs]⟩
theorem zGh {n : Nat} {w : List UInt8} (hw : w.length <= 1000) (hn : w.length < n) : aZ n (aO w, ()) = some (w.any st, ()) := by
 unfold aZ bK
 simp only [uH]
 obtain ⟨i, h1, h2⟩ := zIm (n := n) hw w [] n rfl hn
 simp only [List.length_nil] at h1
 rw [show ((0 : Nat) : Int) = 0 from rfl] at h1
 rw [h1]
 simp only [mP]
 rw [h2]
abbrev qt : List UInt8 := [39, 92, 39, 39]
def qS (w : List UInt8) : List UInt8 := if (!(w == []) && !(w.any st)) = true then w else [39] ++ fP 39 qt w ++ [39]
theorem Bu (o : UInt8) (new : List UInt8) (h : 1 <= new.length) : ∀ s : List UInt8, (fP o new s).length <= new.length * s.length
 | [] => by simp [fP]
 | c :: r => by
  have ih := Bu o new h r
  have e : new.length * (c :: r).length = new.length + new.length * r.length := by simp only [List.length_cons, Nat.mul_add, Nat.mul_one]; omega
  rw [e]
  simp only [fP]
  split
  ·simp only [List.length_append]; omega
  ·simp only [List.length_cons]; omega
theorem zBp (w : List UInt8) : (qS w).length <= 4 * w.length + 2 := by
 unfold qS
 have h := Bu 39 qt (by simp) w
 simp only [List.length_cons, List.length_nil] at h
 split
 ·omega
 ·simp only [List.length_append, List.length_cons, List.length_nil]; omega
theorem quote_eq {n : Nat} {w : List UInt8} (hw : w.length <= 1000) (hn : w.length < n) : jR n w = some (qS w) := by
 have hr := Bu 39 qt (by simp) w
 simp only [List.length_cons, List.length_nil] at hr
 simp only [qt] at hr
 have tail : (ob (strings_ReplaceAll n (w, [39], [39, 92, 39, 39])) fun y3 => chk (decide ([39].length + y3.length <= bL)) (chk (decide (([39] ++ y3).length + ([39] : List UInt8).length <= bL)) (some (([39] ++ y3) ++ [39])))) = some ([39] ++ fP 39 qt w ++ [39]) := by
  unfold strings_ReplaceAll
  simp only
  rw [bB (by simp; omega)]
  simp only [mP]
  rw [bB (decide_eq_true (by simp [bL]; omega)), bB (decide_eq_true (by simp [bL]; omega))]
 unfold jR
 simp only
 cases hz : w == [] with
 | true =>
  rw [cZ (by rfl)]
  rw [tail]
  unfold qS
  rw [hz]
  simp
 | false =>
  rw [dS (by rfl), bB (by simp [room]; omega), zGh hw hn]
  simp only [mP]
  cases ha : w.any st with
  | true =>
   rw [cZ (by rfl), tail]
   unfold qS
   rw [hz, ha]
   simp
  | false =>
   rw [dS (by rfl)]
   unfold qS
   rw [hz, ha]
   simp
end Go.Dec
namespace Go.Dec
theorem zJd {n : Nat} {s : List UInt8} {b : Int} (hs : s.length <= 1000) : ∀ (r pre : List UInt8) (m : Nat), s = pre ++ r -> r.length < m -> fix (lK n) m (s, b, (pre.length : Int), ()) = some (r.any fun x => (x.toNat : Int) == b) := by
 intro r
 induction r with
 | nil =>
  intro pre m hp hm
  have hp : pre = s := by simpa using hp.symm
  subst hp
  rw [dF (by omega), lK]
  simp only
  rw [cZ (by simp)]
  rfl
 | cons c r ih =>
  intro pre m hp hm
  have hm' : r.length + 1 < m := hm
  have hlen : s.length = pre.length + r.length + 1 := by rw [hp]; simp; omega
  have hi := ih (pre ++ [c]) (m - 1) (by rw [hp]; simp) (by omega)
  rw [show ((pre ++ [c]).length : Int) = (pre.length : Int) + 1 by simp] at hi
  rw [dF (by omega), lK]
  simp only
  rw [dS (decide_eq_true (by omega)), bB (kG (by omega)), gW hp]
  cases hc : ((c.toNat : Int) == b) with
  | true => rw [zHp]; simp [hc]
  | false => rw [Ku, nQ (by omega) (by omega), hi]; simp [hc]
theorem zJe {n : Nat} (hn : 100 < n) (b : Int) : bM n ([95, 45, 46, 47, 44, 58, 61, 43, 64, 37], b) = some (inM b) := by
 have := zJd (n := n) (s := uL) (b := b) (by decide) uL [] n rfl (by simp [uL]; omega)
 unfold bM
 simpa [inM] using this
theorem zGi {n : Nat} (hn : 100 < n) (v : Int) (X Y : Option (List UInt8)) (w : List UInt8) (p : Bool) (out : List UInt8) (i : Int) (g0 : List UInt8 × Bool × List UInt8 × Int × Unit -> Option (List UInt8)) :
    (br (decide (v < 97)) (
    br (decide (v < 65)) (
     br (decide (v < 48)) (
      ob (bM n ([95, 45, 46, 47, 44, 58, 61, 43, 64, 37], v)) fun y7 => br (!y7) X Y) (
      br (decide (v > 57)) (
       ob (bM n ([95, 45, 46, 47, 44, 58, 61, 43, 64, 37], v)) fun y19 => br (!y19) X Y) Y)) (
     br (decide (v > 90)) (
      br (decide (v < 48)) (
       ob (bM n ([95, 45, 46, 47, 44, 58, 61, 43, 64, 37], v)) fun y20 => br (!y20) X Y) (
       br (decide (v > 57)) (
        ob (bM n ([95, 45, 46, 47, 44, 58, 61, 43, 64, 37], v)) fun y21 => br (!y21) X Y) Y)) Y)) (
    br (decide (v > 122)) (
     br (decide (v < 65)) (
      br (decide (v < 48)) (
       ob (bM n ([95, 45, 46, 47, 44, 58, 61, 43, 64, 37], v)) fun y22 => br (!y22) X Y) (
       br (decide (v > 57)) (
        ob (bM n ([95, 45, 46, 47, 44, 58, 61, 43, 64, 37], v)) fun y23 => br (!y23) X Y) Y)) (
      br (decide (v > 90)) (
       br (decide (v < 48)) (
        ob (bM n ([95, 45, 46, 47, 44, 58, 61, 43, 64, 37], v)) fun y24 => br (!y24) X Y) (
        br (decide (v > 57)) (
         ob (bM n ([95, 45, 46, 47, 44, 58, 61, 43, 64, 37], v)) fun y25 => br (!y25) X Y) Y)) Y)) Y)) = br (strange v) X Y := by
  simp only [zJe hn, mP, strange]
  generalize inM v = q
  by_cases h1 : v < 97 <;> by_cases h2 : v > 122 <;> by_cases h3 : v < 65 <;> by_cases h4 : v > 90 <;> by_cases h5 : v < 48 <;> by_cases h6 : v > 57 <;> simp [h1, h2, h3, h4, h5, h6]
theorem zJf {n : Nat} (hn : 100 < n) {w : List UInt8} (hw : w.length <= 1000) : ∀ (r pre : List UInt8) (p : Bool) (out : List UInt8) (m : Nat), w = pre ++ r -> r.length < m -> out.length <= 4 * pre.length + 1 ->
  fix (dJ n) m (w, p, out, (pre.length : Int), ()) = some (if (p && !(r.any st)) = true then w else out ++ fP 39 qt r ++ [39]) := by
 intro r
 induction r with
 | nil =>
  intro pre p out m hp hm ho
  have hp : pre = w := by simpa using hp.symm
  subst hp
  rw [dF (by omega), dJ]
  simp only
  rw [cZ (by simp)]
  cases p with
  | true => simp
  | false =>
   rw [Ku, bB (decide_eq_true (by simp [bL]; omega))]
   simp [fP]
 | cons c r ih =>
  intro pre p out m hp hm ho
  have hm' : r.length + 1 < m := hm
  have hlen : w.length = pre.length + r.length + 1 := by rw [hp]; simp; omega
  have hi : ∀ (p' : Bool) (out' : List UInt8), out'.length <= 4 * (pre.length + 1) + 1 -> fix (dJ n) (m - 1) (w, p', out', (pre.length : Int) + 1, ()) = some (if (p' && !(r.any st)) = true then w else out' ++ fP 39 qt r ++ [39]) := fun p' out' h1 => by
   have := ih (pre ++ [c]) p' out' (m - 1) (by rw [hp]; simp) (by omega) (by simpa using h1)
   rwa [show ((pre ++ [c]).length : Int) = (pre.length : Int) + 1 by simp] at this
  have hj : ∀ p' : Bool, jn (aG n (fix (dJ n) (m - 1))) (w, p', out, (pre.length : Int), (c.toNat : Int), ()) = some (if (p' && !(r.any st)) = true then w else out ++ fP 39 qt (c :: r) ++ [39]) := fun p' => by
   unfold jn aG
   simp only
   by_cases hc : c = 39
   ·subst hc
    rw [dS (by decide), bB (decide_eq_true (by simp [bL]; omega)), nQ (by omega) (by omega), hi _ _ (by simp; omega)]
    simp [fP]
   ·have hne : ((c.toNat : Int) == 39) = false := by
     rw [beq_eq_false_iff_ne]
     intro h
     have : c.toNat = (39 : UInt8).toNat := by
      have h2 : (39 : UInt8).toNat = 39 := rfl
      omega
     exact hc (UInt8.toNat_inj.1 this)
    have ht : (w.take ((pre.length : Int) + 1).toNat).drop (pre.length : Int).toNat = [c] := by
     have e1 : ((pre.length : Int) + 1).toNat = pre.length + 1 := by omega
     rw [e1, Int.toNat_natCast, hp, List.take_length_add_append]
     simp
    rw [cZ hne, nQ (by omega) (by omega), bB (by simp; omega), ht, bB (decide_eq_true (by simp [bL]; omega)), hi _ _ (by simp; omega)]
    simp [fP, hc]
  rw [dF (by omega), dJ]
  simp only
  rw [dS (decide_eq_true (by omega)), bB (kG (by omega)), gW hp]
  refine (zGi hn (c.toNat : Int) _ _ w p out (pre.length : Int) (fix (dJ n) (m - 1))).trans ?_
  rw [hj, hj]
  cases hs : strange (c.toNat : Int) with
  | true => rw [zHp]; simp [st, hs]
  | false => rw [Ku]; simp [st, hs]
theorem Bv {n : Nat} (hn : 100 < n) {w : List UInt8} (hw : w.length <= 1000) (hwn : w.length < n) : eH n w = some (qS w) := by
 have := zJf hn hw w [] (!(w == [])) [39] n rfl hwn (by simp)
 unfold eH
 simp only
 exact this
end Go.Dec
namespace Go.Dec
theorem yZ (sep : List UInt8) (x : List UInt8) : ∀ (a : List (List UInt8)), a ≠ [] -> bN (a ++ [x]) sep = bN a sep ++ sep ++ x
 | [], h => absurd rfl h
 | [y], _ => by simp [bN]
 | y :: z :: r, _ => by
  have ih := yZ sep x (z :: r) (by simp)
  simp only [List.cons_append] at ih ⊢
  simp only [bN]
  rw [ih]
  simp
theorem vM (sep : List UInt8) (B : Nat) : ∀ (a : List (List UInt8)), (∀ x ∈ a, x.length <= B) -> (bN a sep).length <= a.length * (B + sep.length)
 | [], _ => by simp [bN]
 | [y], h => by have := h y (by simp); simp [bN]; omega
 | y :: z :: r, h => by
  have ih := vM sep B (z :: r) (fun x hx => h x (List.mem_cons_of_mem _ hx))
  have h1 := h y (by simp)
  have e : (y :: z :: r).length * (B + sep.length) = (B + sep.length) + (z :: r).length * (B + sep.length) := by simp only [List.length_cons, Nat.add_mul, Nat.one_mul]; omega
  rw [e]
  simp only [bN, List.length_append]
  omega
def jU (ws : List (List UInt8)) : List UInt8 := bN (ws.map qS) [32]
def sM : List (List UInt8) -> Bool
 | [] => false
 | w :: _ => w == [115, 101, 100]
def mD (ws : List (List UInt8)) : Prop := ws.length <= 12 ∧ ∀ w ∈ ws, w.length <= 100
theorem zBq {ws : List (List UInt8)} (h : ∀ w ∈ ws, w.length <= 100) : ∀ x ∈ ws.map qS, x.length <= 402 := by
 intro x hx
 obtain ⟨w, hw, rfl⟩ := List.mem_map.1 hx
 have := zBp w
 have := h w hw
 omega
theorem Fp {ws : List (List UInt8)} (h : mD ws) : (jU ws).length <= 5000 := by
 have := vM [32] 402 (ws.map qS) (zBq h.2)
 have h1 := h.1
 simp only [List.length_map, List.length_cons, List.length_nil] at this
 unfold jU
 have : ws.length * 403 <= 12 * 403 := Nat.mul_le_mul_right _ h1
 omega
theorem Nt {pre : List (List (List UInt8))} (hl : pre.length <= 8) (h : ∀ ws ∈ pre, mD ws) (sep : List UInt8) (hs : sep.length <= 3) : (bN (pre.map jU) sep).length <= 50000 := by
 have := vM sep 5000 (pre.map jU) fun x hx => by
  obtain ⟨w, hw, rfl⟩ := List.mem_map.1 hx
  exact Fp (h w hw)
 simp only [List.length_map] at this
 have h2 : pre.length * (5000 + sep.length) <= 8 * (5000 + sep.length) := Nat.mul_le_mul_right _ hl
 omega
theorem join_eq {n : Nat} {a : List (List UInt8)} {sep : List UInt8} (h1 : a.length <= 1000) (h2 : (bN a sep).length <= 100000) : strings_Join n (a, sep) = some (bN a sep) := by
 unfold strings_Join
 simp only
 rw [bB (by simp [room]; omega)]
theorem zIn {n : Nat} (hn : 2000 <= n) {l : List (List (List UInt8))} {row : List (List UInt8)} {L i : Int} {ws : List (List UInt8)} (hw : mD ws) (hr : row.length <= 8) (hi : 0 <= i ∧ i < 100) (g0 : List (List (List UInt8)) × Int × Int × List (List UInt8) × Unit -> Option (List UInt8 × Int)) :
  ∀ (r pre : List (List UInt8)) (m : Nat), ws = pre ++ r -> r.length < m -> fix (jS n g0) m (l, L, i, ws, (ws.length : Int), (pre.length : Int), row, pre.map qS, ()) = g0 (l, L, i + 1, row ++ [jU ws], ()) := by
 have hw1 := hw.1
 intro r
 induction r with
 | nil =>
  intro pre m hp hm
  have hp : pre = ws := by simpa using hp.symm
  subst hp
  have hll := Fp hw
  rw [dF (by omega), jS]
  simp only
  rw [cZ (by simp), join_eq (by simp; omega) (by have := Fp hw; unfold jU at this; omega)]
  simp only [mP]
  rw [bB (by simp [room]; omega), nQ (by omega) (by omega)]
  rfl
 | cons c r ih =>
  intro pre m hp hm
  have hm' : r.length + 1 < m := hm
  have hlen : ws.length = pre.length + r.length + 1 := by rw [hp]; simp; omega
  have hc : c.length <= 100 := hw.2 c (by rw [hp]; simp)
  have h := ih (pre ++ [c]) (m - 1) (by rw [hp]; simp) (by omega)
  rw [show ((pre ++ [c]).length : Int) = (pre.length : Int) + 1 by simp, List.map_append, List.map_cons, List.map_nil] at h
  rw [dF (by omega), jS]
  simp only
  rw [dS (decide_eq_true (by omega)), bB (kG (by omega)), gW hp, quote_eq (by omega) (by omega)]
  simp only [mP]
  rw [bB (by simp [room]; omega), nQ (by omega) (by omega)]
  exact h
abbrev zA : List UInt8 := [32, 124, 32]
theorem zJg {n : Nat} (hn : 2000 <= n) {l : List (List (List UInt8))} (hl : l.length <= 8) (hs : ∀ ws ∈ l, mD ws) : ∀ (r pre : List (List (List UInt8))) (m : Nat), l = pre ++ r -> r.length < m ->
  fix (iF n) m (l, (l.length : Int), (pre.length : Int), pre.map jU, ()) = some (if r.all sM = true then (bN (l.map jU) zA, 0) else ([], 1)) := by
 intro r
 induction r with
 | nil =>
  intro pre m hp hm
  have hp : pre = l := by simpa using hp.symm
  subst hp
  have hj := Nt hl hs zA (by simp)
  rw [dF (by omega), iF]
  simp only
  rw [cZ (by simp), join_eq (by simp; omega) (Nat.le_trans hj (by omega))]
  simp [mP]
 | cons ws r ih =>
  intro pre m hp hm
  have hm' : r.length + 1 < m := hm
  have hlen : l.length = pre.length + r.length + 1 := by rw [hp]; simp; omega
  have hw : mD ws := hs ws (by rw [hp]; simp)
  have h := ih (pre ++ [ws]) (m - 1) (by rw [hp]; simp) (by omega)
  rw [show ((pre ++ [ws]).length : Int) = (pre.length : Int) + 1 by simp, List.map_append, List.map_cons, List.map_nil] at h
  rw [dF (by omega), iF]
  simp only
  rw [dS (decide_eq_true (by omega)), bB (kG (by omega)), gW hp]
  cases ws with
  | nil => rw [dS (by rfl)]; simp [sM]
  | cons w q =>
   rw [cZ (by rw [beq_eq_false_iff_ne]; simp only [List.length_cons]; omega), bB (Xv (by omega) (by simp only [List.length_cons]; omega))]
   have hg : aY (Ty.dflt .str) (w :: q) 0 = w := rfl
   rw [hg]
   cases hh : w == ([115, 101, 100] : List UInt8) with
   | false => rw [dS (by rfl)]; simp [sM, hh]
   | true =>
    rw [cZ (by rfl)]
    have hp1 := zIn hn (l := l) (row := pre.map jU) (L := (l.length : Int)) (i := (pre.length : Int)) hw (by simp; omega) (by omega) (fix (iF n) (m - 1)) (w :: q) [] n rfl (by have := hw.1; omega)
    simp only [List.map_nil, List.length_nil] at hp1
    rw [show ((0 : Nat) : Int) = 0 from rfl] at hp1
    rw [hp1, h]
    simp [sM, hh]
theorem zBr {n : Nat} (hn : 2000 <= n) {l : List (List (List UInt8))} {i : Nat} {s : List UInt8} {ws : List (List UInt8)} (hi : i < l.length) (hl : l.length <= 8) (hg : aY (Ty.dflt (.slice .str)) l (i : Int) = ws) (hw : mD ws) (hsl : s.length <= 100000) (g0 : List (List (List UInt8)) × List UInt8 × Int × Unit -> Option (List UInt8 × Int)) :
  ∀ (r pre : List (List UInt8)) (m : Nat), ws = pre ++ r -> r.length < m -> fix (gL n g0) m (l, s ++ bN (pre.map qS) [32], (i : Int), (pre.length : Int), ()) = g0 (l, s ++ jU ws, (i : Int) + 1, ()) := by
 have hw1 := hw.1
 intro r
 induction r with
 | nil =>
  intro pre m hp hm
  have hp : pre = ws := by simpa using hp.symm
  subst hp
  rw [dF (by omega), gL]
  simp only
  rw [bB (kG hi), hg, cZ (by simp), nQ (by omega) (by omega)]
  rfl
 | cons c r ih =>
  intro pre m hp hm
  have hm' : r.length + 1 < m := hm
  have hlen : ws.length = pre.length + r.length + 1 := by rw [hp]; simp; omega
  have hc : c.length <= 100 := hw.2 c (by rw [hp]; simp)
  have hq := zBp c
  have hj := vM [32] 402 (pre.map qS) (zBq fun w h => hw.2 w (by rw [hp]; simp [h]))
  simp only [List.length_map, List.length_cons, List.length_nil] at hj
  have hjj : pre.length * 403 <= 12 * 403 := Nat.mul_le_mul_right _ (by omega)
  have h := ih (pre ++ [c]) (m - 1) (by rw [hp]; simp) (by omega)
  rw [show ((pre ++ [c]).length : Int) = (pre.length : Int) + 1 by simp, List.map_append, List.map_cons, List.map_nil] at h
  rw [dF (by omega), gL]
  simp only
  rw [bB (kG hi), hg, dS (decide_eq_true (by omega))]
  cases hpre : pre with
  | nil =>
   rw [<- hpre]
   have hz : pre.length = 0 := by rw [hpre]; rfl
   have hgc : aY (Ty.dflt .str) ws (pre.length : Int) = c := gW hp
   have hm0 : pre.map qS = [] := by rw [hpre]; rfl
   rw [cZ (decide_eq_false (by omega)), bB (kG hi), bB (kG (by omega)), hgc, Bv (by omega) (by omega) (by omega)]
   rw [hm0] at h ⊢
   simp only [mP, bN, List.append_nil, List.nil_append] at h ⊢
   rw [bB (decide_eq_true (by simp only [bL]; omega)), nQ (by omega) (by omega)]
   exact h
  | cons p0 p =>
   rw [<- hpre]
   have hz : 0 < pre.length := by rw [hpre]; simp
   rw [dS (decide_eq_true (by omega)), bB (decide_eq_true (by simp [bL]; omega)), bB (kG hi), bB (kG (by omega)), gW hp, Bv (by omega) (by omega) (by omega)]
   simp only [mP]
   rw [bB (decide_eq_true (by simp [bL]; omega)), nQ (by omega) (by omega)]
   rw [yZ _ _ _ (by rw [hpre]; simp)] at h
   simpa using h
end Go.Dec
namespace Go.Dec
theorem zBs (n : Nat) : qR n = gL n := rfl
theorem zJh {n : Nat} (hn : 2000 <= n) {l : List (List (List UInt8))} (hl : l.length <= 8) (hs : ∀ ws ∈ l, mD ws) : ∀ (r pre : List (List (List UInt8))) (m : Nat), l = pre ++ r -> r.length < m ->
  fix (eX n) m (l, bN (pre.map jU) zA, (pre.length : Int), ()) = some (if r.all sM = true then (bN (l.map jU) zA, 0) else ([], 1)) := by
 intro r
 induction r with
 | nil =>
  intro pre m hp hm
  have hp : pre = l := by simpa using hp.symm
  subst hp
  rw [dF (by omega), eX]
  simp only
  rw [cZ (by simp)]
  simp
 | cons ws r ih =>
  intro pre m hp hm
  have hm' : r.length + 1 < m := hm
  have hlen : l.length = pre.length + r.length + 1 := by rw [hp]; simp; omega
  have hw : mD ws := hs ws (by rw [hp]; simp)
  have hj : (bN (pre.map jU) zA).length <= 50000 := Nt (by omega) (fun w h => hs w (by rw [hp]; simp [h])) zA (by simp)
  have h := ih (pre ++ [ws]) (m - 1) (by rw [hp]; simp) (by omega)
  rw [show ((pre ++ [ws]).length : Int) = (pre.length : Int) + 1 by simp, List.map_append, List.map_cons, List.map_nil] at h
  have hg := gW (d := Ty.dflt (.slice .str)) hp
  rw [dF (by omega), eX]
  simp only
  rw [dS (decide_eq_true (by omega)), bB (kG (by omega)), hg]
  cases ws with
  | nil => rw [dS (by rfl)]; simp [sM]
  | cons w q =>
   rw [cZ (by rw [beq_eq_false_iff_ne]; simp only [List.length_cons]; omega), bB (kG (by omega)), bB (Xv (by omega) (by simp only [List.length_cons]; omega))]
   have hgw : aY (Ty.dflt .str) (w :: q) 0 = w := rfl
   rw [hgw]
   cases hh : w == ([115, 101, 100] : List UInt8) with
   | false => rw [dS (by rfl)]; simp [sM, hh]
   | true =>
    rw [cZ (by rfl)]
    have hqn : (w :: q).length < n := by have := hw.1; omega
    rcases List.eq_nil_or_concat pre with h0 | ⟨p0, x, h0⟩
    ·have hz : pre.length = 0 := by rw [h0]; rfl
     have hm0 : pre.map jU = [] := by rw [h0]; rfl
     have hr := zBr hn (l := l) (i := pre.length) (s := []) (by omega) hl hg hw (by simp) (fix (eX n) (m - 1)) (w :: q) [] n rfl hqn
     simp only [List.map_nil, List.length_nil, bN, List.append_nil, List.nil_append] at hr
     rw [show ((0 : Nat) : Int) = 0 from rfl] at hr
     rw [hm0] at h ⊢
     simp only [bN, List.nil_append] at h ⊢
     rw [cZ (decide_eq_false (by omega)), zBs, hr, h]
     simp [sM, hh]
    ·have hz : 0 < pre.length := by rw [h0]; simp
     have hr := zBr hn (l := l) (i := pre.length) (s := bN (pre.map jU) zA ++ zA) (by omega) hl hg hw (by simp only [List.length_append, List.length_cons, List.length_nil]; omega) (fix (eX n) (m - 1)) (w :: q) [] n rfl hqn
     simp only [List.map_nil, List.length_nil, bN, List.append_nil] at hr
     rw [show ((0 : Nat) : Int) = 0 from rfl] at hr
     rw [yZ _ _ _ (by rw [h0]; simp)] at h
     rw [dS (decide_eq_true (by omega)), bB (decide_eq_true (by simp only [bL, List.length_cons, List.length_nil]; omega)), hr, h]
     simp [sM, hh]
def qF : List (List (List UInt8)) -> Nat
 | [] => 0
 | ws :: r => ws.length + 1 + qF r
theorem Nu {ws : List (List UInt8)} : ∀ {l : List (List (List UInt8))}, ws ∈ l -> ws.length <= qF l
 | [], h => by cases h
 | a :: r, h => by
  rcases List.mem_cons.1 h with rfl | h
  ·simp only [qF]; omega
  ·have := Nu h; simp only [qF]; omega
theorem Nv : ∀ (l : List (List (List UInt8))), l.length <= qF l
 | [] => by simp
 | a :: r => by have := Nv r; simp only [qF, List.length_cons]; omega
theorem zIo {n : Nat} {l : List (List (List UInt8))} {i : Nat} {ws : List (List UInt8)} (hi : i < l.length) (hl : l.length <= maxLen) (hg : aY (Ty.dflt (.slice .str)) l (i : Int) = ws) (hw : ws.length <= maxLen) (g0 : List (List (List UInt8)) × List (List UInt8 × List UInt8 × Unit) × Int × Unit -> Option Bool) :
  ∀ (r pre : List (List UInt8)) (m : Nat), ws = pre ++ r -> r.length < m ->
  fix (fG n g0) m (l, [], (i : Int), (pre.length : Int), ()) = some false ∨ ((∀ w ∈ r, w.length <= 100) ∧ ws.length <= 12 ∧ fix (fG n g0) m (l, [], (i : Int), (pre.length : Int), ()) = g0 (l, [], (i : Int) + 1, ())) := by
 simp only [maxLen] at hl hw
 intro r
 induction r with
 | nil =>
  intro pre m hp hm
  have hp : pre = ws := by simpa using hp.symm
  subst hp
  rw [dF (by omega), fG]
  simp only
  rw [bB (kG hi), hg, cZ (by simp), bB (kG hi)]
  by_cases h12 : (pre.length : Int) > 12
  ·rw [dS (decide_eq_true h12)]
   exact .inl rfl
  ·rw [cZ (decide_eq_false h12), nQ (by omega) (by omega)]
   exact .inr ⟨(by simp), by omega, rfl⟩
 | cons c r ih =>
  intro pre m hp hm
  have hm' : r.length + 1 < m := hm
  have hlen : ws.length = pre.length + r.length + 1 := by rw [hp]; simp; omega
  have h := ih (pre ++ [c]) (m - 1) (by rw [hp]; simp) (by omega)
  rw [show ((pre ++ [c]).length : Int) = (pre.length : Int) + 1 by simp] at h
  rw [dF (by omega), fG]
  simp only
  rw [bB (kG hi), hg, dS (decide_eq_true (by omega)), bB (kG hi), bB (kG (by omega)), gW hp]
  by_cases h1 : (c.length : Int) > 100
  ·rw [dS (decide_eq_true h1)]
   exact .inl rfl
  ·rw [cZ (decide_eq_false h1), nQ (by omega) (by omega)]
   rcases h with h | ⟨h2, h3, h4⟩
   ·exact .inl h
   ·refine .inr ⟨fun w hw => ?_, h3, h4⟩
    rcases List.mem_cons.1 hw with rfl | hw
    ·omega
    ·exact h2 w hw
theorem zJi {n : Nat} {l : List (List (List UInt8))} (hl : l.length <= maxLen) (hls : ∀ ws ∈ l, ws.length <= maxLen) (hn : qF l < n) : ∀ (r pre : List (List (List UInt8))) (m : Nat), l = pre ++ r -> r.length < m -> (∀ ws ∈ pre, mD ws) ->
  fix (dO n) m (l, [], (pre.length : Int), ()) = some false ∨ (fix (dO n) m (l, [], (pre.length : Int), ()) = some true ∧ l.length <= 8 ∧ ∀ ws ∈ l, mD ws) := by
 have hl2 := hl
 simp only [maxLen] at hl2
 intro r
 induction r with
 | nil =>
  intro pre m hp hm hall
  have hp : pre = l := by simpa using hp.symm
  subst hp
  rw [dF (by omega), dO]
  simp only
  rw [cZ (by simp), dF (by omega), nZ]
  simp only
  rw [cZ (by simp)]
  by_cases h8 : (pre.length : Int) <= 8
  ·rw [dS (decide_eq_true h8)]
   exact .inr ⟨rfl, by omega, hall⟩
  ·rw [cZ (decide_eq_false h8)]
   exact .inl rfl
 | cons ws r ih =>
  intro pre m hp hm hall
  have hm' : r.length + 1 < m := hm
  have hlen : l.length = pre.length + r.length + 1 := by rw [hp]; simp; omega
  have hmem : ws ∈ l := by rw [hp]; simp
  have hws := Nu hmem
  rw [dF (by omega), dO]
  simp only
  rw [dS (decide_eq_true (by omega))]
  have hb := zIo (n := n) (i := pre.length) (by omega) hl (gW (d := Ty.dflt (.slice .str)) hp) (hls ws hmem) (fix (dO n) (m - 1)) ws [] n rfl (by omega)
  simp only [List.length_nil] at hb
  rw [show ((0 : Nat) : Int) = 0 from rfl] at hb
  rcases hb with hb | ⟨h1, h2, hb⟩
  ·exact .inl hb
  ·rw [hb]
   have h := ih (pre ++ [ws]) (m - 1) (by rw [hp]; simp) (by omega) (fun v hv => by
    rcases List.mem_append.1 hv with hv | hv
    ·exact hall v hv
    ·simp only [List.mem_singleton] at hv
     subst hv
     exact ⟨h2, h1⟩)
   rw [show ((pre ++ [ws]).length : Int) = (pre.length : Int) + 1 by simp] at h
   exact h
def lQ (x : List (List (List UInt8)) × List UInt8) : Option Bool := mW (2000 + qF x.1) x
theorem vO (x : bV [.slice (.slice .str), .str]) (h : Gu [.slice (.slice .str), .str] x) : lQ x = some true := by
 obtain ⟨l, w⟩ := x
 have hl : l.length <= maxLen := h.1.1
 have hls : ∀ ws ∈ l, ws.length <= maxLen := fun ws hw => (h.1.2 ws hw).1
 unfold lQ mW
 generalize hN : 2000 + qF l = N
 have hbd := zJi (n := N) hl hls (by omega) l [] N rfl (by have := Nv l; omega) (by simp)
 simp only [List.length_nil] at hbd
 rw [show ((0 : Nat) : Int) = 0 from rfl] at hbd
 simp only [hN, mJ, shown21, mP, Bool.not_true, Ku]
 rcases hbd with hb | ⟨hb, h8, hsm⟩
 ·rw [hb]
  rfl
 ·rw [hb]
  simp only [mP, Bool.not_true, Ku]
  by_cases hw : (w.length : Int) > 100
  ·rw [dS (decide_eq_true hw)]
  ·rw [cZ (decide_eq_false hw)]
   have h1 := zJg (n := N) (by omega) h8 hsm l [] N rfl (by omega)
   have h2 := zJh (n := N) (by omega) h8 hsm l [] N rfl (by omega)
   simp only [List.length_nil, List.map_nil] at h1 h2
   rw [show ((0 : Nat) : Int) = 0 from rfl] at h1 h2
   rw [show bN ([] : List (List UInt8)) zA = [] from rfl] at h2
   unfold sK qD
   simp only [h1, h2, mP]
   rw [dS (by simp), dS (by simp), quote_eq (by omega) (by omega), Bv (by omega) (by omega) (by omega)]
   simp [mP]
end Go.Dec
