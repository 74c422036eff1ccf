/- Part of a proof over this seat: a library of my own, and what it says of this seat. No statement is proved here. -/
import Derived.Test.YthhbdkdofhhoeaaGreatDoorPartBP
import Derived.Test.YthhbdkdofhhoeaaGreatDoorPartBO
namespace Go.Dec
def zQp (lo hi : Int) : List UInt8 :=
 bif hi == -1 then (bif lo == 0 then [42] else [92, 123] ++ Bw lo ++ [44, 92, 125])
 else bif hi == lo then [92, 123] ++ Bw lo ++ [92, 125] else [92, 123] ++ Bw lo ++ [44] ++ Bw hi ++ [92, 125]
def Lv : Pt -> List UInt8
 | .empty => []
 | .bytes p => dI p
 | .bol => [94]
 | .eol => [36]
 | .cat a b => Lv a ++ Lv b
 | .alt _ _ => [124]
 | .times a lo hi => Lv a ++ zQp lo hi
 | .group a _ => [92, 40] ++ Lv a ++ [92, 41]
 | .ref m => [92] ++ Bw (m : Int)
theorem zMi (p : Nat -> Bool) : (bT (aJ p) 257 0).length <= 256 := by
 rw [<- Ls (aJ p) 256 0 257 (by omega) (by omega)]
 have h1 := Gy (fM (eH (aJ p) 0))
 rw [zG] at h1
 have := Xh (aJ p)
 omega
theorem zJm (p : Nat -> Bool) : (dI p).length <= 270 := by
 unfold dI
 split
 ·simp
 ·unfold vG
  rename_i c _
  cases c == 10 <;> cases fC.contains c <;> simp
 ·have hl : (sS p).length <= 270 := by
   have := zMi p
   simp only [sS, Ck, sQ, List.length_append]
   cases p 93 <;> cases p 10 <;> cases p 91 <;> cases p 92 <;> cases p 94 <;> cases p 45 <;> simp <;> omega
  cases (aN p).length == 256
  ·cases aN p == [45, 94]
   ·exact hl
   ·simp
  ·simp
section
variable {n : Nat} {l : List Nd}
end
end Go.Dec
namespace Go.Dec
section
variable {n : Nat} {l : List Nd}
end
end Go.Dec
namespace Go.Dec
theorem zQq (w : List Int) (h1 : w.length = 4) (h2 : ∀ x ∈ w, 0 <= x ∧ x <= 18446744073709551615) : ∃ p, w = wd p := by
 match w, h1 with
 | [a, b, c, d], _ =>
  have ha := h2 a (by simp)
  have hb := h2 b (by simp)
  have hc := h2 c (by simp)
  have hd := h2 d (by simp)
  let p : Nat -> Bool := fun i => (([a, b, c, d] : List Int).getD (i / 64) 0).toNat.testBit (i % 64)
  refine ⟨p, ?_⟩
  have hw : ∀ (k : Nat) (x : Int), ([a, b, c, d] : List Int).getD k 0 = x -> 0 <= x -> x <= 18446744073709551615 -> word p k = x := by
   intro k x hx h0 h1
   unfold word
   rw [<- Gr (x := x.toNat) (k := k) (p := p) (by omega) (fun j hj => by
    show x.toNat.testBit j = (([a, b, c, d] : List Int).getD ((64 * k + j) / 64) 0).toNat.testBit ((64 * k + j) % 64)
    rw [show (64 * k + j) / 64 = k by omega, show (64 * k + j) % 64 = j by omega, hx])]
   omega
  simp only [wd, hw 0 a rfl ha.1 ha.2, hw 1 b rfl hb.1 hb.2, hw 2 c rfl hc.1 hc.2, hw 3 d rfl hd.1 hd.2]
theorem zJn : wZ 200000 () = some true := by decide +kernel
end Go.Dec
namespace Go.Dec
def BK (first : Bool) (acc : Nat -> Bool) (r : List UInt8) (S : Nat -> Bool) (k : Nat) : Prop :=
 ∃ x, (∀ f, r.length < f -> vB f first acc r = some (x, k)) ∧ ∀ j, j < 256 -> x j = (acc j || S j)
theorem BK.end {acc : Nat -> Bool} {r : List UInt8} : BK false acc (93 :: r) (fun _ => false) 1 := by
 refine ⟨acc, fun f hf => ?_, fun j _ => by simp⟩
 obtain ⟨f, rfl⟩ : ∃ k, f = k + 1 := ⟨f - 1, by simp at hf; omega⟩
 rfl
theorem BK.step {first : Bool} {acc p S T : Nat -> Bool} {r r' : List UInt8} {k1 k : Nat} (hno : ([93].isPrefixOf r && !first) = false) (hp : mZ first r = some (p, k1)) (hr : r.drop k1 = r') (h : BK false (fun j => acc j || p j) r' S k) (hT : ∀ j, j < 256 -> T j = (p j || S j)) : BK first acc r T (k1 + k) := by
 obtain ⟨x, h1, h2⟩ := h
 have hl := Ll hp
 refine ⟨x, fun f hf => ?_, fun j hj => ?_⟩
 ·obtain ⟨f, rfl⟩ : ∃ k, f = k + 1 := ⟨f - 1, by omega⟩
  unfold vB
  rw [hno, hp]
  simp only [cond_false]
  rw [hr, h1 f (by rw [<- hr, List.length_drop]; omega)]
 ·rw [h2 j hj, hT j hj, Bool.or_assoc]
def ND (r : List UInt8) : Bool := !([45].isPrefixOf r && !([45, 93].isPrefixOf r))
theorem Es {c : UInt8} {r : List UInt8} (h : c ≠ 45) : ND (c :: r) = true := by
 have : [45].isPrefixOf (c :: r) = false := by simp [List.isPrefixOf, Ne.symm h]
 unfold ND; rw [this]; rfl
theorem qY {first may : Bool} {a : UInt8} {k : Nat} {r : List UInt8} (h1 : [91, 58].isPrefixOf r = false) (h2 : mY first false r = some (a, k, may)) (h3 : ND (r.drop k) = true) : mZ first r = some (aR a.toNat a.toNat, k) := by
 unfold mZ
 rw [h1, h2]
 unfold ND at h3
 simp only [Bool.not_eq_true', cond_false] at h3 ⊢
 rw [h3, Bool.false_and]; rfl
theorem Qo {c : UInt8} (h : cO.contains c = false) : c ≠ 93 ∧ c ≠ 91 ∧ c ≠ 92 ∧ c ≠ 94 ∧ c ≠ 45 ∧ c ≠ 10 := by
 simpa [cO, List.contains_cons] using h
theorem Hf {first ends : Bool} {c : UInt8} {r : List UInt8} (h : cO.contains c = false) : mY first ends (c :: r) = some (c, 1, true) := by
 have h2 : c ≠ 93 ∧ c ≠ 91 ∧ c ≠ 92 ∧ c ≠ 94 ∧ c ≠ 45 ∧ c ≠ 10 := by
  simpa [cO, List.contains_cons] using h
 obtain ⟨h93, h91, h92, _, h45, _⟩ := h2
 have e1 : ∀ a : UInt8, [91, a].isPrefixOf (c :: r) = false := fun a => by simp [List.isPrefixOf, Ne.symm h91]
 have e2 : [92, 110].isPrefixOf (c :: r) = false := by simp [List.isPrefixOf, Ne.symm h92]
 have e3 : [93].isPrefixOf (c :: r) = false := by simp [List.isPrefixOf, Ne.symm h93]
 have e4 : [45].isPrefixOf (c :: r) = false := by simp [List.isPrefixOf, Ne.symm h45]
 unfold mY
 rw [e1, e1, e2, e1, e3, e4]; rfl
theorem Hg {c : UInt8} {r : List UInt8} (h : cO.contains c = false) : [91, 58].isPrefixOf (c :: r) = false ∧ [93].isPrefixOf (c :: r) = false := by
 have h2 : c ≠ 93 ∧ c ≠ 91 ∧ c ≠ 92 ∧ c ≠ 94 ∧ c ≠ 45 ∧ c ≠ 10 := by
  simpa [cO, List.contains_cons] using h
 exact ⟨by simp [List.isPrefixOf, Ne.symm h2.2.1], by simp [List.isPrefixOf, Ne.symm h2.1]⟩
theorem zHg {first : Bool} {c : UInt8} {r : List UInt8} (h : cO.contains c = false) (hr : ND r = true) : mZ first (c :: r) = some (aR c.toNat c.toNat, 1) :=
 qY (Hg h).1 (Hf h) hr
theorem zHh {first : Bool} {c d : UInt8} {r : List UInt8} (h : cO.contains c = false) (hd : cO.contains d = false) (hcd : c.toNat <= d.toNat) : mZ first (c :: 45 :: d :: r) = some (aR c.toNat d.toNat, 3) := by
 have h93 : d ≠ 93 := (Qo hd).1
 unfold mZ
 rw [(Hg h).1, Hf h]
 simp only [cond_false, List.drop_succ_cons, List.drop_zero]
 rw [show [45].isPrefixOf (45 :: d :: r) = true by simp [List.isPrefixOf], show [45, 93].isPrefixOf (45 :: d :: r) = false by simp [List.isPrefixOf, Ne.symm h93]]
 rw [Hf hd]
 simp [Nat.not_lt.2 hcd]
theorem range_one {c : UInt8} {j : Nat} : aR c.toNat c.toNat j = decide (j = c.toNat) := by
 unfold aR; rw [Bool.eq_iff_iff]; simp; omega
def t5 (r : List UInt8) : List UInt8 := 93 :: r
def t4 (p : Nat -> Bool) (r : List UInt8) : List UInt8 := (bif p 45 then [45] else []) ++ t5 r
def t3 (p : Nat -> Bool) (r : List UInt8) : List UInt8 := (bif p 94 then [94] else []) ++ t4 p r
def t2 (p : Nat -> Bool) (r : List UInt8) : List UInt8 := (bif p 92 then [92] else []) ++ t3 p r
def t1 (p : Nat -> Bool) (r : List UInt8) : List UInt8 := (bif p 91 then [91] else []) ++ t2 p r
def t0 (p : Nat -> Bool) (r : List UInt8) : List UInt8 := (bif p 10 then [92, 110] else []) ++ t1 p r
theorem zOm (p : Nat -> Bool) (r : List UInt8) : sQ p ++ r = t0 p r := by
 simp only [sQ, t0, t1, t2, t3, t4, t5, List.append_assoc, List.singleton_append]
theorem nd4 {p : Nat -> Bool} {r : List UInt8} : ND (t4 p r) = true := by
 unfold t4 t5; cases p 45 <;> rfl
theorem nd3 {p : Nat -> Bool} {r : List UInt8} : ND (t3 p r) = true := by
 unfold t3; cases p 94
 ·exact nd4
 ·exact Es (by decide)
theorem nd2 {p : Nat -> Bool} {r : List UInt8} : ND (t2 p r) = true := by
 unfold t2; cases p 92
 ·exact nd3
 ·exact Es (by decide)
theorem nd1 {p : Nat -> Bool} {r : List UInt8} : ND (t1 p r) = true := by
 unfold t1; cases p 91
 ·exact nd2
 ·exact Es (by decide)
theorem nd0 {p : Nat -> Bool} {r : List UInt8} : ND (t0 p r) = true := by
 unfold t0; cases p 10
 ·exact nd1
 ·exact Es (by decide)
theorem zRo {p : Nat -> Bool} {r : List UInt8} : ∃ c s, t4 p r = c :: s ∧ (c = 45 ∨ c = 93) := by
 unfold t4 t5; cases p 45 <;> exact ⟨_, _, rfl, by simp⟩
theorem zNc {p : Nat -> Bool} {r : List UInt8} : ∃ c s, t3 p r = c :: s ∧ (c = 94 ∨ c = 45 ∨ c = 93) := by
 unfold t3; cases p 94
 ·obtain ⟨c, s, h, hc⟩ := @zRo p r; exact ⟨c, s, h, Or.inr hc⟩
 ·exact ⟨_, _, rfl, Or.inl rfl⟩
theorem zRp {p : Nat -> Bool} {r : List UInt8} : ∃ c s, t2 p r = c :: s ∧ (c = 92 ∨ c = 94 ∨ c = 45 ∨ c = 93) := by
 unfold t2; cases p 92
 ·obtain ⟨c, s, h, hc⟩ := @zNc p r; exact ⟨c, s, h, Or.inr hc⟩
 ·exact ⟨_, _, rfl, Or.inl rfl⟩
theorem bk4 {first : Bool} {acc p : Nat -> Bool} {r : List UInt8} (hf : first = true -> p 45 = true) : BK first acc (t4 p r) (fun j => p j && decide (j = 45)) ((t4 p r).length - r.length) := by
 unfold t4
 cases h : p 45
 ·have hff : first = false := by cases first; rfl; exact absurd (hf rfl) (by simp [h])
  subst hff
  obtain ⟨x, h1, h2⟩ := BK.end (acc := acc) (r := r)
  refine ⟨x, ?_, fun j hj => ?_⟩
  ·intro f hf
   have := h1 f hf
   simpa [t5] using this
  ·rw [h2 j hj]
   by_cases hj2 : j = 45
   ·subst hj2; simp [h]
   ·simp [hj2]
 ·have hp : mZ first (45 :: t5 r) = some (aR 45 45, 1) := by
   refine qY (a := 45) (may := true) rfl ?_ rfl
   unfold mY
   cases first <;> rfl
  have := BK.step (first := first) (acc := acc) (T := fun j => p j && decide (j = 45)) (by rfl) hp (r' := t5 r) rfl BK.end (fun j hj => by
   show _ = (aR 45 45 j || false)
   have e := @range_one 45 j
   rw [show (45 : UInt8).toNat = 45 from rfl] at e
   rw [e]
   by_cases hj2 : j = 45
   ·subst hj2; simp [h]
   ·simp [hj2])
  have hlen : (([45] ++ t5 r).length - r.length) = 1 + 1 := by simp [t5]; omega
  simp only [cond_true, hlen]
  exact this
theorem Ui {first : Bool} {acc p S : Nat -> Bool} {c : UInt8} {r r' w : List UInt8} {k : Nat} (hw : w.length = k ∧ (w ++ r').drop k = r')
  (hpart : ∀ first, mZ first (w ++ r') = some (aR c.toNat c.toNat, k)) (h93 : [93].isPrefixOf (w ++ r') = false)
  (hsub : ∀ (first : Bool) (acc : Nat -> Bool), (first = true -> p c.toNat = false -> False ∨ True) -> True)
  (hf : BK false (fun j => acc j || aR c.toNat c.toNat j) r' S (r'.length - r.length)) (ht : BK first acc r' S (r'.length - r.length) ∨ p c.toNat = true) (hrl : r.length <= r'.length) :
  BK first acc ((bif p c.toNat then w else []) ++ r') (fun j => (p j && decide (j = c.toNat)) || S j) (((bif p c.toNat then w else []) ++ r').length - r.length) := by
 cases h : p c.toNat
 ·rcases ht with ht | ht
  ·obtain ⟨x, h1, h2⟩ := ht
   refine ⟨x, fun f hf => h1 f hf, fun j hj => ?_⟩
   rw [h2 j hj]
   by_cases hj2 : j = c.toNat
   ·subst hj2; simp [h]
   ·simp [hj2]
  ·rw [h] at ht; simp at ht
 ·simp only [cond_true]
  have := BK.step (first := first) (acc := acc) (T := fun j => (p j && decide (j = c.toNat)) || S j) (by rw [h93]; rfl) (hpart first) hw.2 hf (fun j hj => by
   rw [range_one]
   by_cases hj2 : j = c.toNat
   ·subst hj2; simp [h]
   ·simp [hj2])
  rw [List.length_append, hw.1, show k + r'.length - r.length = k + (r'.length - r.length) by omega]
  exact this
theorem zQr {p : Nat -> Bool} {r : List UInt8} : r.length <= (t4 p r).length := by unfold t4 t5; simp; omega
theorem zQs {p : Nat -> Bool} {r : List UInt8} : r.length <= (t3 p r).length := by unfold t3; have := @zQr p r; simp; omega
theorem len2 {p : Nat -> Bool} {r : List UInt8} : r.length <= (t2 p r).length := by unfold t2; have := @zQs p r; simp; omega
theorem len1 {p : Nat -> Bool} {r : List UInt8} : r.length <= (t1 p r).length := by unfold t1; have := @len2 p r; simp; omega
theorem zKb {p : Nat -> Bool} {r : List UInt8} : r.length <= (t0 p r).length := by unfold t0; have := @len1 p r; simp; omega
theorem bk3 {first : Bool} {acc p : Nat -> Bool} {r : List UInt8} (hf : first = true -> p 94 = true ∨ p 45 = true) : BK first acc (t3 p r) (fun j => (p j && decide (j = 94)) || (p j && decide (j = 45))) ((t3 p r).length - r.length) := by
 refine Ui (c := 94) (w := [94]) (k := 1) ⟨rfl, rfl⟩ (fun first => qY (may := true) rfl (by cases first <;> rfl) nd4) rfl (fun _ _ _ => trivial) (bk4 (by simp)) ?_ zQr
 cases h : p 94
 ·left; exact bk4 (fun hh => by rcases hf hh with h2 | h2; rw [h] at h2; simp at h2; exact h2)
 ·right; exact h
theorem bk2 {first : Bool} {acc p : Nat -> Bool} {r : List UInt8} (hf : first = true -> p 92 = true ∨ p 94 = true ∨ p 45 = true) : BK first acc (t2 p r) (fun j => (p j && decide (j = 92)) || ((p j && decide (j = 94)) || (p j && decide (j = 45)))) ((t2 p r).length - r.length) := by
 have hn : [92, 110].isPrefixOf (92 :: t3 p r) = false := by
  obtain ⟨c, s, h, hc⟩ := @zNc p r
  rw [h]
  rcases hc with rfl | rfl | rfl <;> rfl
 refine Ui (c := 92) (w := [92]) (k := 1) ⟨rfl, rfl⟩ (fun first => qY (may := true) rfl (by
  unfold mY
  rw [show ([92] ++ t3 p r) = 92 :: t3 p r from rfl, hn]
  cases first <;> rfl) nd3) rfl (fun _ _ _ => trivial) (bk3 (by simp)) ?_ zQs
 cases h : p 92
 ·left; exact bk3 (fun hh => by rcases hf hh with h2 | h2; rw [h] at h2; simp at h2; exact h2)
 ·right; exact h
theorem bk1 {first : Bool} {acc p : Nat -> Bool} {r : List UInt8} (hf : first = true -> p 91 = true ∨ p 92 = true ∨ p 94 = true ∨ p 45 = true) : BK first acc (t1 p r) (fun j => (p j && decide (j = 91)) || ((p j && decide (j = 92)) || ((p j && decide (j = 94)) || (p j && decide (j = 45))))) ((t1 p r).length - r.length) := by
 have hn : ∀ a : UInt8, a = 46 ∨ a = 61 ∨ a = 58 -> [91, a].isPrefixOf (91 :: t2 p r) = false := by
  intro a ha
  obtain ⟨c, s, h, hc⟩ := @zRp p r
  rw [h]
  rcases ha with rfl | rfl | rfl <;> rcases hc with rfl | rfl | rfl | rfl <;> rfl
 refine Ui (c := 91) (w := [91]) (k := 1) ⟨rfl, rfl⟩ (fun first => qY (may := true) (hn 58 (by simp)) (by
  unfold mY
  rw [show ([91] ++ t2 p r) = 91 :: t2 p r from rfl, hn 46 (by simp), hn 61 (by simp), hn 58 (by simp)]
  cases first <;> rfl) nd2) rfl (fun _ _ _ => trivial) (bk2 (by simp)) ?_ len2
 cases h : p 91
 ·left; exact bk2 (fun hh => by rcases hf hh with h2 | h2; rw [h] at h2; simp at h2; exact h2)
 ·right; exact h
def vH (p : Nat -> Bool) : Nat -> Bool := fun j => (p j && decide (j = 10)) || ((p j && decide (j = 91)) || ((p j && decide (j = 92)) || ((p j && decide (j = 94)) || (p j && decide (j = 45)))))
theorem bk0 {first : Bool} {acc p : Nat -> Bool} {r : List UInt8} (hf : first = true -> p 10 = true ∨ p 91 = true ∨ p 92 = true ∨ p 94 = true ∨ p 45 = true) : BK first acc (t0 p r) (vH p) ((t0 p r).length - r.length) := by
 refine Ui (c := 10) (w := [92, 110]) (k := 2) ⟨rfl, rfl⟩ (fun first => qY (may := true) rfl (by cases first <;> rfl) nd1) rfl (fun _ _ _ => trivial) (bk1 (by simp)) ?_ len1
 cases h : p 10
 ·left; exact bk1 (fun hh => by rcases hf hh with h2 | h2; rw [h] at h2; simp at h2; exact h2)
 ·right; exact h
theorem xB {p : Nat -> Bool} {i : Nat} (h : aJ p i = true) : cO.contains (UInt8.ofNat i) = false := by
 unfold aJ at h
 simp only [Bool.and_eq_true, Bool.not_eq_true'] at h
 exact h.2
theorem Vp {p : Nat -> Bool} {r : List UInt8} (hr : ND r = true) : ∀ (f i : Nat), ND (bT (aJ p) f i ++ r) = true
 | 0, i => hr
 | f + 1, i => by
  unfold bT
  split
  ·cases hq : aJ p i
   ·exact Vp hr f (i + 1)
   ·have h2 := xB hq
    have h45 : UInt8.ofNat i ≠ 45 := (Qo h2).2.2.2.2.1
    simp only [cond_true]
    cases decide (i + 2 <= lJ (aJ p) 256 i) <;> exact Es h45
  ·exact hr
theorem zOn {p S : Nat -> Bool} {T r : List UInt8} (hT : ND T = true) (hrl : r.length <= T.length) (hS : ∀ (first : Bool) (acc : Nat -> Bool), (first = true -> ∃ j, j < 256 ∧ S j = true) -> BK first acc T S (T.length - r.length)) :
  ∀ (d i f : Nat) (first : Bool) (acc : Nat -> Bool), 256 - i <= d -> 256 - i < f -> (first = true -> (∃ j, j < 256 ∧ S j = true) ∨ ∃ j, i <= j ∧ j < 256 ∧ aJ p j = true) ->
   BK first acc (bT (aJ p) f i ++ T) (fun j => (aJ p j && decide (i <= j)) || S j) ((bT (aJ p) f i ++ T).length - r.length) := by
 intro d
 induction d with
 | zero =>
  intro i f first acc h1 h2 hf
  obtain ⟨f, rfl⟩ : ∃ k, f = k + 1 := ⟨f - 1, by omega⟩
  rw [bT, if_neg (by omega), List.nil_append]
  obtain ⟨x, k1, k2⟩ := hS first acc (fun hh => by rcases hf hh with h | ⟨j, a, b, _⟩; exact h; omega)
  exact ⟨x, k1, fun j hj => by show x j = (acc j || ((aJ p j && decide (i <= j)) || S j)); rw [k2 j hj, decide_eq_false (show ¬ i <= j by omega)]; simp⟩
 | succ d ih =>
  intro i f first acc h1 h2 hf
  obtain ⟨f, rfl⟩ : ∃ k, f = k + 1 := ⟨f - 1, by omega⟩
  by_cases hi : i < 256
  case neg =>
   rw [bT, if_neg hi, List.nil_append]
   obtain ⟨x, k1, k2⟩ := hS first acc (fun hh => by rcases hf hh with h | ⟨j, a, b, _⟩; exact h; omega)
   exact ⟨x, k1, fun j hj => by show x j = (acc j || ((aJ p j && decide (i <= j)) || S j)); rw [k2 j hj, decide_eq_false (show ¬ i <= j by omega)]; simp⟩
  rw [bT, if_pos hi]
  cases hq : aJ p i
  ·simp only [cond_false]
   obtain ⟨x, k1, k2⟩ := ih (i + 1) f first acc (by omega) (by omega) (fun hh => by
    rcases hf hh with h | ⟨j, a, b, c⟩
    ·exact Or.inl h
    ·right
     refine ⟨j, ?_, b, c⟩
     have : j ≠ i := fun e => by rw [e, hq] at c; simp at c
     omega)
   refine ⟨x, k1, fun j hj => ?_⟩
   rw [k2 j hj]
   show (acc j || ((aJ p j && decide (i + 1 <= j)) || S j)) = (acc j || ((aJ p j && decide (i <= j)) || S j))
   by_cases hj2 : j = i
   ·subst hj2; simp [hq]
   ·rw [show decide (i + 1 <= j) = decide (i <= j) from decide_eq_decide.2 (by omega)]
  ·simp only [cond_true]
   have hap := xB hq
   have hti : (UInt8.ofNat i).toNat = i := by rw [UInt8.toNat_ofNat']; omega
   obtain ⟨a1, a2, a3, a4⟩ := Cj (aJ p) 256 i hi (by omega)
   generalize hk : lJ (aJ p) 256 i = k at *
   have htk : (UInt8.ofNat k).toNat = k := by rw [UInt8.toNat_ofNat']; omega
   by_cases h3 : i + 2 <= k
   ·rw [decide_eq_true h3]
    simp only [cond_true]
    have hpk : aJ p k = true := a3 k (by omega) (Nat.le_refl _)
    have := BK.step (first := first) (acc := acc) (r := [UInt8.ofNat i, 45, UInt8.ofNat k] ++ bT (aJ p) f (k + 1) ++ T) (r' := bT (aJ p) f (k + 1) ++ T) (T := fun j => (aJ p j && decide (i <= j)) || S j) (by
     show ([93].isPrefixOf (UInt8.ofNat i :: _) && !first) = false
     rw [(Hg hap).2]; rfl) (zHh hap (xB hpk) (by rw [hti, htk]; omega)) rfl (ih (k + 1) f false _ (by omega) (by omega) (by simp)) (fun j hj => by
     rw [hti, htk]
     unfold aR
     by_cases b1 : i <= j
     ·by_cases b2 : j <= k
      ·have hpj : aJ p j = true := by
        by_cases b3 : j = i
        ·rw [b3]; exact hq
        ·exact a3 j (by omega) b2
       simp [b1, b2, hpj]
      ·rw [show decide (k + 1 <= j) = true from decide_eq_true (by omega)]; simp [b1, b2]
     ·rw [show decide (k + 1 <= j) = false from decide_eq_false (by omega)]; simp [b1])
    have hl : ([UInt8.ofNat i, 45, UInt8.ofNat k] ++ bT (aJ p) f (k + 1) ++ T).length - r.length = 3 + ((bT (aJ p) f (k + 1) ++ T).length - r.length) := by
     simp only [List.length_append, List.length_cons, List.length_nil]; omega
    rw [hl]
    exact this
   ·rw [decide_eq_false h3]
    simp only [cond_false]
    have := BK.step (first := first) (acc := acc) (r := [UInt8.ofNat i] ++ bT (aJ p) f (i + 1) ++ T) (r' := bT (aJ p) f (i + 1) ++ T) (T := fun j => (aJ p j && decide (i <= j)) || S j) (by
     show ([93].isPrefixOf (UInt8.ofNat i :: _) && !first) = false
     rw [(Hg hap).2]; rfl) (zHg hap (Vp hT f (i + 1))) rfl (ih (i + 1) f false _ (by omega) (by omega) (by simp)) (fun j hj => by
     rw [hti]
     unfold aR
     by_cases b1 : j = i
     ·subst b1; simp [hq]
     ·rw [show decide (i + 1 <= j) = decide (i <= j) from decide_eq_decide.2 (by omega)]
      have : (decide (i <= j) && decide (j <= i)) = false := by simp; omega
      rw [this]; simp)
    have hl : ([UInt8.ofNat i] ++ bT (aJ p) f (i + 1) ++ T).length - r.length = 1 + ((bT (aJ p) f (i + 1) ++ T).length - r.length) := by
     simp only [List.length_append, List.length_cons, List.length_nil]; omega
    rw [hl]
    exact this
end Go.Dec
namespace Go.Dec
theorem zCi {p q : Nat -> Bool} (h : ∀ i, i < 256 -> p i = q i) : aN p = aN q := by
 unfold aN
 rw [List.filter_congr (fun x hx => h x (by simpa using hx))]
theorem Lx {p : Nat -> Bool} (h : 2 <= (aN p).length) (c : Nat) : ∃ j, j < 256 ∧ j ≠ c ∧ p j = true := by
 unfold aN at h
 rw [List.length_map] at h
 have hpw : ((List.range 256).filter p).Pairwise (· < ·) := List.pairwise_lt_range.filter p
 have hm : ∀ x ∈ (List.range 256).filter p, x < 256 ∧ p x = true := fun x hx => by simpa using hx
 match hl : (List.range 256).filter p, h with
 | a :: b :: l, _ =>
  rw [hl] at hpw hm
  have hab : a < b := (List.pairwise_cons.1 hpw).1 b (by simp)
  have ha := hm a (by simp)
  have hb := hm b (by simp)
  by_cases e : a = c
  ·exact ⟨b, hb.1, by omega, hb.2⟩
  ·exact ⟨a, ha.1, e, ha.2⟩
theorem zI {p : Nat -> Bool} : fA p = true <-> ∀ i, i < 256 -> p i = false := by
 unfold fA; simp
theorem Ma {j : Nat} (hj : j < 256) : cO.contains (UInt8.ofNat j) = (decide (j = 93) || (decide (j = 91) || (decide (j = 92) || (decide (j = 94) || (decide (j = 45) || decide (j = 10)))))) := by
 have : ((List.range 256).all fun j => cO.contains (UInt8.ofNat j) == (decide (j = 93) || (decide (j = 91) || (decide (j = 92) || (decide (j = 94) || (decide (j = 45) || decide (j = 10))))))) = true := by decide +kernel
 have := kW this hj
 simpa using this
theorem zEm {p : Nat -> Bool} {T : List UInt8} : ∀ (f i : Nat), 256 - i < f -> ([94].isPrefixOf T = false ∨ ∃ j, i <= j ∧ j < 256 ∧ aJ p j = true) -> [94].isPrefixOf (bT (aJ p) f i ++ T) = false
 | 0, i, h, _ => by omega
 | f + 1, i, h, hh => by
  unfold bT
  split
  ·cases hq : aJ p i
   ·refine zEm f (i + 1) (by omega) ?_
    rcases hh with hh | ⟨j, h1, h2, h3⟩
    ·exact Or.inl hh
    ·right
     refine ⟨j, ?_, h2, h3⟩
     have : j ≠ i := fun e => by rw [e, hq] at h3; simp at h3
     omega
   ·have h2 := xB hq
    have h94 : UInt8.ofNat i ≠ 94 := (Qo h2).2.2.2.1
    have : ∀ w, [94].isPrefixOf (UInt8.ofNat i :: w) = false := fun w => by simp [List.isPrefixOf, Ne.symm h94]
    simp only [cond_true]
    cases decide (i + 2 <= lJ (aJ p) 256 i) <;> exact this _
  ·rcases hh with hh | ⟨j, h1, h2, h3⟩
   ·exact hh
   ·omega
theorem zJo {p x : Nat -> Bool} (hx : ∀ j, j < 256 -> x j = ((p j && decide (j = 93)) || ((aJ p j && decide (0 <= j)) || vH p j))) {j : Nat} (hj : j < 256) : x j = p j := by
 rw [hx j hj]
 simp only [aJ, vH, Ma hj, decide_eq_true (Nat.zero_le j), Bool.and_true]
 cases p j
 ·simp
 ·simp only [Bool.true_and]
  cases decide (j = 93) <;> cases decide (j = 91) <;> cases decide (j = 92) <;> cases decide (j = 94) <;> cases decide (j = 45) <;> cases decide (j = 10) <;> rfl
theorem zCj {C rest w : List UInt8} {p S : Nat -> Bool} (hC : BK true (fun _ => false) C S (C.length - rest.length)) (hS : ∀ x : Nat -> Bool, (∀ j, j < 256 -> x j = S j) -> ∀ j, j < 256 -> x j = p j)
  (hno : [94].isPrefixOf C = false) (he : fA p = false) (hw : w ++ rest = 91 :: C) (hl : rest.length <= C.length) : ∃ x, vC (w ++ rest) = some (x, w.length) ∧ ∀ j, j < 256 -> x j = p j := by
 obtain ⟨x, h1, h2⟩ := hC
 have hx := hS x (fun j hj => by rw [h2 j hj]; rfl)
 refine ⟨x, ?_, hx⟩
 rw [hw]
 unfold vC
 rw [show [91].isPrefixOf (91 :: C) = true from rfl]
 simp only [cond_true, List.drop_succ_cons, List.drop_zero, hno, cond_false]
 rw [h1 _ (by rw [List.length_cons]; omega)]
 simp only
 have hxe : fA x = false := by
  rw [Bool.eq_false_iff, ne_eq, zI] at he ⊢
  intro h; exact he fun i hi => by rw [<- hx i hi]; exact h i hi
 rw [hxe]
 have := congrArg List.length hw
 simp only [List.length_append, List.length_cons] at this
 simp only [cond_false, Option.some.injEq, Prod.mk.injEq, true_and]
 omega
theorem zMj {p : Nat -> Bool} {rest : List UInt8} (h2 : 2 <= (aN p).length) (hn : aN p ≠ [45, 94]) : ∃ x, vC (sS p ++ rest) = some (x, (sS p).length) ∧ ∀ j, j < 256 -> x j = p j := by
 obtain ⟨j0, j1, j2, j3⟩ := Lx h2 93
 have hT : ND (t0 p rest) = true := nd0
 have hS : ∀ (first : Bool) (acc : Nat -> Bool), (first = true -> ∃ j, j < 256 ∧ vH p j = true) -> BK first acc (t0 p rest) (vH p) ((t0 p rest).length - rest.length) := by
  intro first acc h
  refine bk0 fun hf => ?_
  obtain ⟨j, _, hj⟩ := h hf
  simp only [vH, Bool.or_eq_true, Bool.and_eq_true, decide_eq_true_eq] at hj
  rcases hj with ⟨a, rfl⟩ | ⟨a, rfl⟩ | ⟨a, rfl⟩ | ⟨a, rfl⟩ | ⟨a, rfl⟩
  ·exact Or.inl a
  ·exact Or.inr (Or.inl a)
  ·exact Or.inr (Or.inr (Or.inl a))
  ·exact Or.inr (Or.inr (Or.inr (Or.inl a)))
  ·exact Or.inr (Or.inr (Or.inr (Or.inr a)))
 have hsc := fun first acc => zOn (p := p) hT zKb hS 256 0 257 first acc (by omega) (by omega)
 have hcase : (∃ j, j < 256 ∧ vH p j = true) ∨ ∃ j, 0 <= j ∧ j < 256 ∧ aJ p j = true := by
  by_cases hap : cO.contains (UInt8.ofNat j0) = true
  ·left
   refine ⟨j0, j1, ?_⟩
   rw [Ma j1] at hap
   simp only [Bool.or_eq_true, decide_eq_true_eq] at hap
   simp only [vH, j3, Bool.true_and, Bool.or_eq_true, decide_eq_true_eq]
   omega
  ·right
   exact ⟨j0, Nat.zero_le _, j1, by unfold aJ; rw [j3, Bool.true_and]; simpa using hap⟩
 have e : sS p ++ rest = 91 :: ((bif p 93 then [93] else []) ++ (bT (aJ p) 257 0 ++ t0 p rest)) := by
  simp only [sS, Ck, List.append_assoc, zOm, List.singleton_append, List.cons_append, List.nil_append]
 have hlen : rest.length <= (bT (aJ p) 257 0 ++ t0 p rest).length := by rw [List.length_append]; have := @zKb p rest; omega
 have hemp : fA p = false := zCc j1 j3
 cases h93 : p 93
 ·rw [h93] at e
  refine zCj (p := p) (hsc true _ (fun _ => hcase)) (fun x hx j hj => zJo (fun j hj => ?_) hj) ?_ hemp e hlen
  ·rw [hx j hj]
   by_cases e2 : j = 93
   ·subst e2; rw [h93]; simp
   ·rw [decide_eq_false e2, Bool.and_false, Bool.false_or]
  ·refine zEm 257 0 (by omega) ?_
   by_cases hpl : ∃ j, 0 <= j ∧ j < 256 ∧ aJ p j = true
   ·exact Or.inr hpl
   ·left
    unfold t0 t1 t2 t3
    cases h10 : p 10 <;> simp only [cond_true, cond_false, List.nil_append] <;> try rfl
    cases h91 : p 91 <;> simp only [cond_true, cond_false, List.nil_append] <;> try rfl
    cases h92 : p 92 <;> simp only [cond_true, cond_false, List.nil_append] <;> try rfl
    have hall : ∀ j, j < 256 -> p j = true -> j = 94 ∨ j = 45 := by
     intro j hj hp
     have : ¬ cO.contains (UInt8.ofNat j) = false := fun h => hpl ⟨j, Nat.zero_le _, hj, by unfold aJ; rw [hp, h]; rfl⟩
     rw [Bool.not_eq_false, Ma hj] at this
     simp only [Bool.or_eq_true, decide_eq_true_eq] at this
     rcases this with rfl | rfl | rfl | rfl | rfl | rfl
     ·rw [h93] at hp; simp at hp
     ·rw [h91] at hp; simp at hp
     ·rw [h92] at hp; simp at hp
     ·exact Or.inl rfl
     ·exact Or.inr rfl
     ·rw [h10] at hp; simp at hp
    obtain ⟨a, a1, a2, a3⟩ := Lx h2 45
    obtain ⟨b, b1, b2, b3⟩ := Lx h2 94
    have ha := hall a a1 a3
    have hb := hall b b1 b3
    have ha : a = 94 := by omega
    have hb : b = 45 := by omega
    subst ha hb
    exfalso
    apply hn
    rw [zCi (q := fun j => decide (j = 94) || decide (j = 45)) (fun j hj => by
     rw [Bool.eq_iff_iff]
     simp only [Bool.or_eq_true, decide_eq_true_eq]
     exact ⟨hall j hj, fun h => by rcases h with rfl | rfl; exact a3; exact b3⟩)]
    decide +kernel
 ·rw [h93] at e
  simp only [cond_true] at e
  have hb := BK.step (first := true) (acc := fun _ => false) (p := aR 93 93) (k1 := 1) (r := [93] ++ (bT (aJ p) 257 0 ++ t0 p rest)) (T := fun j => (p j && decide (j = 93)) || ((aJ p j && decide (0 <= j)) || vH p j)) (by simp)
   (qY (a := 93) (may := true) rfl rfl (by show ND (bT (aJ p) 257 0 ++ t0 p rest) = true; exact Vp hT 257 0)) rfl (hsc false _ (by simp)) (fun j hj => by
    have e := @range_one 93 j
    rw [show (93 : UInt8).toNat = 93 from rfl] at e
    rw [e]
    by_cases e2 : j = 93
    ·subst e2; rw [h93]; rfl
    ·rw [decide_eq_false e2, Bool.and_false])
  have hk : ([93] ++ (bT (aJ p) 257 0 ++ t0 p rest)).length - rest.length = 1 + ((bT (aJ p) 257 0 ++ t0 p rest).length - rest.length) := by
   rw [List.length_append, List.length_singleton]; omega
  rw [<- hk] at hb
  exact zCj (p := p) hb (fun x hx j hj => zJo hx hj) rfl hemp e (by rw [List.length_append, List.length_singleton]; omega)
theorem zQt {p : Nat -> Bool} {rest : List UInt8} (hp : aN p = [45, 94]) : ∃ x, vC ([91, 45, 94, 93] ++ rest) = some (x, 4) ∧ ∀ j, j < 256 -> x j = p j := by
 have hpj : ∀ j, j < 256 -> p j = (decide (j = 45) || decide (j = 94)) := by
  intro j hj
  have h := zH (p := p) hj
  have hq := zH (p := fun j => decide (j = 45) || decide (j = 94)) hj
  rw [show aN (fun j => decide (j = 45) || decide (j = 94)) = [45, 94] by decide +kernel, <- hp] at hq
  rw [Bool.eq_iff_iff, h, <- hq]
 have h1 : BK false (fun j => (false || aR 45 45 j)) (94 :: 93 :: rest) (aR 94 94) (1 + 1) :=
  BK.step (p := aR 94 94) (r' := 93 :: rest) rfl (qY (a := 94) (may := true) rfl rfl rfl) rfl BK.end (fun j _ => by simp)
 have h2 : BK true (fun _ => false) (45 :: 94 :: 93 :: rest) (fun j => aR 45 45 j || aR 94 94 j) (1 + (1 + 1)) :=
  BK.step (p := aR 45 45) (r' := 94 :: 93 :: rest) rfl (qY (a := 45) (may := true) rfl rfl rfl) rfl h1 (fun j _ => rfl)
 have hk : (45 :: 94 :: 93 :: rest).length - rest.length = 1 + (1 + 1) := by simp only [List.length_cons]; omega
 rw [<- hk] at h2
 refine zCj (p := p) (w := [91, 45, 94, 93]) h2 (fun x hx j hj => ?_) rfl (zCc (i := 45) (by omega) (by rw [hpj 45 (by omega)]; rfl)) rfl (by simp only [List.length_cons]; omega)
 have e1 := @range_one 45 j
 have e2 := @range_one 94 j
 rw [show (45 : UInt8).toNat = 45 from rfl] at e1
 rw [show (94 : UInt8).toNat = 94 from rfl] at e2
 rw [hx j hj, e1, e2, hpj j hj]
theorem zHi {p : Nat -> Bool} (h : (aN p).length = 256) {j : Nat} (hj : j < 256) : p j = true := by
 unfold aN at h
 rw [List.length_map] at h
 have := List.length_filter_eq_length_iff.1 (show ((List.range 256).filter p).length = (List.range 256).length by rw [h, List.length_range])
 exact this j (by simpa using hj)
def HB (s : List UInt8) : Prop := ∀ y, iR (s ++ y) = false ∧ [36].isPrefixOf (s ++ y) = false ∧ [94].isPrefixOf (s ++ y) = false ∧ [42].isPrefixOf (s ++ y) = false ∧ [92, 123].isPrefixOf (s ++ y) = false
theorem zCk {c : UInt8} {s : List UInt8} (h1 : c ≠ 92) (h2 : c ≠ 36) (h3 : c ≠ 94) (h4 : c ≠ 42) : HB (c :: s) := fun y => by
 simp [iR, List.isPrefixOf, Ne.symm h1, Ne.symm h2, Ne.symm h3, Ne.symm h4]
theorem zJp {d : UInt8} {s : List UInt8} (h1 : d ≠ 41) (h2 : d ≠ 123) : HB (92 :: d :: s) := fun y => by
 simp [iR, List.isPrefixOf, Ne.symm h1, Ne.symm h2]
theorem show_cases {p : Nat -> Bool} (he : fA p = false) : (∃ c, dI p = vG c ∧ ∀ j, j < 256 -> p j = yA c j) ∨ (dI p = [46] ∧ ∀ j, j < 256 -> p j = true) ∨ (dI p).head? = some 91 ∧ ∀ rest, ∃ x, vC (dI p ++ rest) = some (x, (dI p).length) ∧ ∀ j, j < 256 -> x j = p j := by
 have hmem := fun {j} (hj : j < 256) => zH (p := p) hj
 match hb : aN p with
 | [] =>
  rw [Bool.eq_false_iff, ne_eq, zI] at he
  exact absurd (fun i hi => by
   have := hmem hi
   rw [hb] at this
   simpa using this) he
 | [c] =>
  left
  refine ⟨c, by unfold dI; rw [hb], fun j hj => ?_⟩
  have := hmem hj
  rw [hb, List.mem_singleton] at this
  rw [Bool.eq_iff_iff, this]
  simp only [yA, decide_eq_true_eq]
  rw [<- UInt8.toNat_inj, UInt8.toNat_ofNat']
  omega
 | c :: d :: l =>
  right
  have e : dI p = bif (c :: d :: l).length == 256 then [46] else bif (c :: d :: l) == [45, 94] then [91, 45, 94, 93] else sS p := by
   unfold dI; rw [hb]
  rw [<- hb] at e
  rw [e]
  cases h : (aN p).length == 256
  ·right
   simp only [cond_false]
   cases h2 : aN p == [45, 94]
   ·simp only [cond_false]
    refine ⟨rfl, fun rest => zMj (by rw [hb]; simp) (by intro h3; rw [h3] at h2; simp at h2)⟩
   ·simp only [cond_true]
    exact ⟨rfl, fun rest => zQt (by simpa using h2)⟩
  ·left
   exact ⟨rfl, fun j hj => zHi (by simpa using h) hj⟩
theorem Xi {c : UInt8} (h : fC.contains c = true) : c = 46 ∨ c = 91 ∨ c = 92 ∨ c = 42 ∨ c = 94 ∨ c = 36 := by
 simpa [fC, List.contains_cons] using h
theorem zOo (c : UInt8) : HB (vG c) := by
 unfold vG
 by_cases h10 : c = 10
 ·subst h10; exact zJp (by decide) (by decide)
 ·rw [beq_false_of_ne h10]
  simp only [cond_false]
  cases h6 : fC.contains c
  ·have h : c ≠ 46 ∧ c ≠ 91 ∧ c ≠ 92 ∧ c ≠ 42 ∧ c ≠ 94 ∧ c ≠ 36 := by simpa [fC, List.contains_cons] using h6
   exact zCk h.2.2.1 h.2.2.2.2.2 h.2.2.2.2.1 h.2.2.2.1
  ·rcases Xi h6 with rfl | rfl | rfl | rfl | rfl | rfl <;> exact zJp (by decide) (by decide)
theorem zOp {p : Nat -> Bool} (he : fA p = false) : HB (dI p) := by
 rcases show_cases he with ⟨c, h, _⟩ | ⟨h, _⟩ | ⟨h, _⟩
 ·rw [h]; exact zOo c
 ·rw [h]; exact zCk (by decide) (by decide) (by decide) (by decide)
 ·cases hs : dI p with
  | nil => rw [hs] at h; simp at h
  | cons d s =>
   rw [hs] at h
   simp only [List.head?_cons, Option.some.injEq] at h
   subst h
   exact zCk (by decide) (by decide) (by decide) (by decide)
section
variable {row : List UInt8 -> Nat -> List Bool -> Res (Option Pt)} {first : Bool} {b : Nat} {en : List Bool}
theorem zJq (c : UInt8) (y : List UInt8) : mG row first (vG c ++ y) b en = .ok (.bytes (yA c)) y b en := by
 unfold vG
 by_cases h10 : c = 10
 ·subst h10; rfl
 ·rw [beq_false_of_ne h10]
  simp only [cond_false]
  cases h6 : fC.contains c
  ·have h : c ≠ 46 ∧ c ≠ 91 ∧ c ≠ 92 ∧ c ≠ 42 ∧ c ≠ 94 ∧ c ≠ 36 := by simpa [fC, List.contains_cons] using h6
   simp only [cond_false, List.singleton_append]
   unfold mG
   simp only
   rw [beq_false_of_ne h.1, beq_false_of_ne h.2.1, beq_false_of_ne h.2.2.1]; rfl
  ·rcases Xi h6 with rfl | rfl | rfl | rfl | rfl | rfl <;> rfl
theorem zJr {p : Nat -> Bool} (he : fA p = false) (y : List UInt8) : ∃ x, mG row first (dI p ++ y) b en = .ok (.bytes x) y b en ∧ ∀ j, j < 256 -> x j = p j := by
 rcases show_cases he with ⟨c, h, h2⟩ | ⟨h, h2⟩ | ⟨h, h2⟩
 ·rw [h]; exact ⟨_, zJq c y, fun j hj => (h2 j hj).symm⟩
 ·rw [h]; exact ⟨_, rfl, fun j hj => (h2 j hj).symm⟩
 ·obtain ⟨x, h3, h4⟩ := h2 y
  cases hs : dI p with
  | nil => rw [hs] at h; simp at h
  | cons d s =>
   rw [hs] at h h3
   simp only [List.head?_cons, Option.some.injEq] at h
   subst h
   refine ⟨x, ?_, h4⟩
   have e : mG row first (91 :: (s ++ y)) b en = match vC (91 :: (s ++ y)) with
    | none => .er 42 (91 :: (s ++ y)).length
    | some (p, k) => .ok (.bytes p) ((91 :: (s ++ y)).drop k) b en := rfl
   rw [List.cons_append] at h3 ⊢
   rw [e, h3]
   simp only
   rw [<- List.cons_append, List.drop_left]
end
end Go.Dec
namespace Go.Dec
def flat (ts : List Pt) : List UInt8 := ts.flatMap Lv
end Go.Dec
namespace Go.Dec
theorem zHj {s : List UInt8} (h : s ≠ []) : Tz s = match fB 11 s 0 vE with
  | .er e k => .inr (e, s.length - k)
  | .ok t r _ _ =>
   match r with
   | [] => match t with
    | none => .inr (41, s.length)
    | some t => bif decide (t.sz > 120) then .inr (2, 0) else .inl t
   | _ => .inr (41, s.length - r.length) := by
 cases s with
 | nil => exact absurd rfl h
 | cons c s => rfl
end Go.Dec
namespace Go.Dec
end Go.Dec
