/- Part of a proof over this seat: a library of my own, and what it says of this seat. No statement is proved here. -/
import Derived.Test.YthhbdkdofhhoeaaGreatDoorPartBO
namespace Go.Dec
theorem zMd (p : Nat -> Bool) (k : Nat) : Rt k (jX p k) = ((List.range 64).filter fun j => p (64 * k + j)).map fun j => UInt8.ofNat (64 * k + j) := by
 unfold Rt
 congr 1
 apply List.filter_congr
 intro j hj
 rw [qA]
 have : j < 64 := by simpa using hj
 simp [this]
theorem zHb (p : Nat -> Bool) (k : Nat) : (((List.range 64).map fun j => 64 * k + j).filter p).map UInt8.ofNat = ((List.range 64).filter fun j => p (64 * k + j)).map fun j => UInt8.ofNat (64 * k + j) := by
 rw [List.filter_map, List.map_map]; rfl
theorem zJd (p : Nat -> Bool) : jL (wd p) = aN p := by
 have e : List.range 256 = (List.range 64).map (fun j => 64 * 0 + j) ++ (List.range 64).map (fun j => 64 * 1 + j) ++ (List.range 64).map (fun j => 64 * 2 + j) ++ (List.range 64).map (fun j => 64 * 3 + j) := by decide +kernel
 unfold aN
 rw [e]
 simp only [List.filter_append, List.map_append, zHb]
 unfold jL wd
 simp only [yV, word, Int.toNat_natCast, zMd, List.append_nil, List.append_assoc]
theorem zCd {n : Nat} (p : Nat -> Bool) : pU n (wd p) = some (aN p) := by
 unfold pU
 have h : ∀ k, 0 <= word p k ∧ word p k < 18446744073709551616 := fun k => by have := gX p k; unfold word; omega
 rw [aA (by
  rw [Bool.and_eq_true, List.all_eq_true]
  refine ⟨rfl, fun w hw => ?_⟩
  have : w = word p 0 ∨ w = word p 1 ∨ w = word p 2 ∨ w = word p 3 := by simpa [wd] using hw
  rcases this with rfl | rfl | rfl | rfl <;> simp [h]), zJd]
section
variable {n : Nat} {l : List Nd}
theorem Gw (bs : List UInt8) : (aT bs).length = bs.length := by simp [aT]
theorem zMe {bs : List UInt8} {i : Nat} (h : i < bs.length) (d : Int) : bA d (aT bs) (i : Int) = (bs[i].toNat : Int) := by
 rw [nN (by rw [Gw]; exact h)]; simp [aT]
end
end Go.Dec
namespace Go.Dec
section
variable {n : Nat} {w : List Int} {a b lo hi m : Int} {u : Unit}
end
end Go.Dec
namespace Go.Dec
section
variable {l : List Nd}
theorem At.take {o : Nat} {t : Pt} (h : At l o t) : l.take (o + t.sz) = l.take o ++ t.enc o := by
 obtain ⟨pre, post, rfl, hp⟩ := h
 subst hp
 have h1 : (pre ++ t.enc pre.length ++ post).take (pre.length + t.sz) = pre ++ t.enc pre.length := by
  rw [List.take_append_of_le_length (by rw [List.length_append, Pt.fO]; exact Nat.le_refl _), List.take_of_length_le (by rw [List.length_append, Pt.fO]; exact Nat.le_refl _)]
 rw [h1, List.append_assoc, List.take_left]
end
end Go.Dec
namespace Go.Dec
end Go.Dec
namespace Go.Dec
def cO : List UInt8 := [93, 91, 92, 94, 45, 10]
def fC : List UInt8 := [46, 91, 92, 42, 94, 36]
def vG (c : UInt8) : List UInt8 := bif c == 10 then [92, 110] else bif fC.contains c then [92, c] else [c]
def fM : List UInt8 -> List (List UInt8)
 | [] => []
 | c :: r => match fM r with
  | (d :: x) :: rest => bif d == c + 1 then (c :: d :: x) :: rest else [c] :: (d :: x) :: rest
  | rest => [c] :: rest
def nM (r : List UInt8) : List UInt8 := bif decide (r.length > 2) then r.take 1 ++ [45] ++ r.drop (r.length - 1) else r
theorem Dp (c : UInt8) (r : List UInt8) : ∃ x rest, fM (c :: r) = (c :: x) :: rest := by
 unfold fM
 split
 ·rename_i d x rest h
  cases d == c + 1
  ·exact ⟨_, _, rfl⟩
  ·exact ⟨_, _, rfl⟩
 ·exact ⟨_, _, rfl⟩
def Yu (out : List (List UInt8)) (b : Bool) (c : UInt8) : List (List UInt8) :=
 bif b then out.set (out.length - 1) (out.getD (out.length - 1) [] ++ [c]) else out ++ [[c]]
theorem Ud : ∀ (s : List UInt8) (l c : UInt8), fM (s ++ [l, c]) = Yu (fM (s ++ [l])) (c == l + 1) c
 | [], l, c => by
  simp only [List.nil_append, fM, Yu]
  cases c == l + 1 <;> rfl
 | a :: s, l, c => by
  have ih := Ud s l c
  simp only [List.cons_append] at ih ⊢
  obtain ⟨h, t, hs⟩ : ∃ h t, s ++ [l] = h :: t := by cases s with
   | nil => exact ⟨_, _, rfl⟩
   | cons h t => exact ⟨_, _, rfl⟩
  have hs2 : s ++ [l, c] = h :: (t ++ [c]) := by rw [show [l, c] = [l] ++ [c] from rfl, <- List.append_assoc, hs]; rfl
  obtain ⟨x, rest, e1⟩ := Dp h t
  rw [hs2, hs] at ih ⊢
  rw [e1] at ih
  have hcc : ∀ r, fM (a :: r) = (match fM r with
    | (d :: x) :: rest => bif d == a + 1 then (a :: d :: x) :: rest else [a] :: (d :: x) :: rest
    | rest => [a] :: rest) := fun _ => rfl
  rw [hcc, hcc, e1, ih]
  unfold Yu
  cases hb : c == l + 1
  ·simp only [cond_false, List.cons_append]
   cases h == a + 1 <;> simp
  ·simp only [cond_true]
   cases rest with
   | nil =>
    simp only [List.length_cons, List.length_nil, Nat.zero_add, Nat.sub_self, List.set_cons_zero, List.getD_cons_zero, List.cons_append]
    cases h == a + 1 <;> simp
   | cons r1 rest =>
    simp only [List.length_cons, Nat.add_sub_cancel, List.set_cons_succ, List.getD_cons_succ]
    cases h == a + 1 <;> simp
section
variable {n : Nat}
theorem Xf {s : List UInt8} : ∀ {s : List UInt8}, (fM s).length <= s.length := by
 intro s
 induction s with
 | nil => exact Nat.le_refl _
 | cons c r ih =>
  unfold fM
  split
  ·rename_i d x rest h
   rw [h] at ih
   simp only [List.length_cons] at ih ⊢
   cases d == c + 1 <;> simp <;> omega
  ·simp only [List.length_cons]; omega
theorem zG : ∀ s : List UInt8, (fM s).flatten = s
 | [] => rfl
 | c :: r => by
  have ih := zG r
  unfold fM
  split
  ·rename_i d x rest h
   rw [h] at ih
   simp only [List.flatten_cons, List.cons_append] at ih
   cases d == c + 1
   ·simp [<- ih]
   ·simp [<- ih]
  ·simp only [List.flatten_cons, List.singleton_append]; rw [ih]
theorem zJe {s r : List UInt8} (h : r ∈ fM s) : r.length <= s.length := by
 have h2 := zG s
 have : ∀ (l : List (List UInt8)), r ∈ l -> r.length <= l.flatten.length := by
  intro l
  induction l with
  | nil => intro h; simp at h
  | cons a l ih =>
   intro h
   simp only [List.flatten_cons, List.length_append]
   rcases List.mem_cons.1 h with rfl | h
   ·omega
   ·have := ih h; omega
 have := this _ h
 rw [h2] at this; exact this
theorem zOk {s : List UInt8} (hs : s.length < n) (hs2 : s.length < 100000) (hasc : ∀ i, i + 1 < s.length -> (s.getD i 0).toNat + 1 < 256) : Ab n s = some (fM s) := by
 unfold Ab
 simp only
 have hlen : ∀ r : List UInt8, (fM r).length <= r.length := fun r => Xf (s := [])
 have key : ∀ k i m, i + k = s.length -> k < m -> fix (qL n) m (s, (s.length : Int), (i : Int), fM (s.take i), ()) = some (fM s) := by
  intro k
  induction k with
  | zero =>
   intro i m hi hm
   rw [cB hm, qL]
   simp only
   rw [aQ (by simp; omega), List.take_of_length_le (by omega)]
  | succ k ih =>
   intro i m hi hm
   have hil : i < s.length := by omega
   have hit : s.take (i + 1) = s.take i ++ [s[i]] := by rw [List.take_add_one, List.getElem?_eq_getElem hil]; rfl
   have hi1 : IntKind.wrap .i64 ((i : Int) + 1) = ((i + 1 : Nat) : Int) := by rw [bG (by omega) (by omega)]; rfl
   have hcut : (s.take (i + 1)).drop i = [s[i]] := by
    rw [hit, List.drop_append_of_le_length (by rw [List.length_take]; omega), List.drop_of_length_le (by rw [List.length_take]; omega)]; rfl
   have hrl := hlen (s.take i)
   have htl : (s.take i).length = i := by rw [List.length_take]; omega
   rw [htl] at hrl
   have ih := ih (i + 1) (m - 1) (by omega) (by omega)
   rw [hit] at ih
   rw [cB (by omega), qL]
   simp only
   rw [aU (by simp; omega), hi1]
   cases i with
   | zero =>
    simp only [List.take_zero, fM, List.nil_append] at ih ⊢
    rw [aQ (by rfl), aA (by simp; omega), Int.toNat_natCast, Int.toNat_natCast, hcut, aA (by simp [room])]
    exact ih
   | succ j =>
    have hjl : j < s.length := by omega
    have hjt : s.take (j + 1) = s.take j ++ [s[j]] := by rw [List.take_add_one, List.getElem?_eq_getElem hjl]; rfl
    rw [hjt] at ih hrl ⊢
    rw [List.append_assoc, List.singleton_append, Ud] at ih
    obtain ⟨x, rest, e1⟩ : ∃ x rest, fM (s.take j ++ [s[j]]) = x :: rest := by
     obtain ⟨a, b, hh⟩ := List.exists_cons_of_ne_nil (show s.take j ++ [s[j]] ≠ [] from fun h => by have := congrArg List.length h; rw [List.length_append, List.length_cons] at this; simp only [List.length_nil] at this; omega)
     rw [hh]
     obtain ⟨x, rest, h⟩ := Dp a b
     exact ⟨_, _, h⟩
    generalize hR : fM (s.take j ++ [s[j]]) = R at *
    have hRp : 1 <= R.length := by rw [e1]; simp
    have hv7 : IntKind.wrap .i64 ((R.length : Int) - 1) = ((R.length - 1 : Nat) : Int) := by rw [bG (by omega) (by omega)]; omega
    have hj1 : IntKind.wrap .i64 (((j + 1 : Nat) : Int) - 1) = (j : Int) := by rw [bG (by omega) (by omega)]; omega
    have hb := hasc j (by omega)
    rw [List.getD_eq_getElem?_getD, List.getElem?_eq_getElem hjl] at hb
    simp only [Option.getD_some] at hb
    have hw : IntKind.wrap .u8 ((s[j].toNat : Int) + 1) = ((s[j].toNat + 1 : Nat) : Int) := by rw [IntWalk.u8_in _ (by omega)]; rfl
    rw [hv7, aU (by simp), aA (nU hil), nN hil, hj1, aA (nU hjl), nN hjl, hw]
    have he : ((s[j + 1].toNat : Int) == ((s[j].toNat + 1 : Nat) : Int)) = (s[j + 1] == s[j] + 1) := by
     rw [Bool.eq_iff_iff, beq_iff_eq, beq_iff_eq, <- UInt8.toNat_inj, UInt8.toNat_add]
     have : (1 : UInt8).toNat = 1 := rfl
     rw [this, Nat.mod_eq_of_lt hb]; omega
    rw [he]
    unfold Yu at ih
    cases hc : s[j + 1] == s[j] + 1
    ·rw [hc] at ih
     simp only [cond_false] at ih
     rw [aZ, aA (by simp; omega), Int.toNat_natCast, Int.toNat_natCast, hcut, aA (by simp [room]; omega)]
     exact ih
    ·rw [hc] at ih
     simp only [cond_true] at ih
     rw [bC, aA (by rw [nU (by omega)]; simp), Int.toNat_natCast, Nat.zero_add, aA (by simp; omega), show Ty.dflt .str = ([] : List UInt8) from rfl, aA (by simp; omega), Int.toNat_natCast, Int.toNat_natCast, hcut]
     have hRl : (R.getD (R.length - 1) []).length <= s.length := by
      rw [List.getD_eq_getElem?_getD, List.getElem?_eq_getElem (by omega)]
      simp only [Option.getD_some]
      have := zJe (s := s.take j ++ [s[j]]) (r := R[R.length - 1]) (by rw [hR]; exact List.getElem_mem _)
      rw [<- hjt, htl] at this; omega
     rw [aA (by exact decide_eq_true (by simp only [aG, List.length_cons, List.length_nil]; omega)), aA (by rw [nU (by omega)]; simp), aA (by simp; omega)]
     exact ih
 exact key s.length 0 n (by omega) (by omega)
end
def lJ (q : Nat -> Bool) : Nat -> Nat -> Nat
 | 0, k => k
 | f + 1, k => bif decide (k + 1 < 256) && q (k + 1) then lJ q f (k + 1) else k
def bT (q : Nat -> Bool) : Nat -> Nat -> List UInt8
 | 0, _ => []
 | f + 1, i => if i < 256 then (bif q i then (bif decide (i + 2 <= lJ q 256 i) then [UInt8.ofNat i, 45, UInt8.ofNat (lJ q 256 i)] ++ bT q f (lJ q 256 i + 1) else [UInt8.ofNat i] ++ bT q f (i + 1)) else bT q f (i + 1)) else []
theorem Cj (q : Nat -> Bool) : ∀ (f k : Nat), k < 256 -> 256 - k <= f -> k <= lJ q f k ∧ lJ q f k < 256 ∧ (∀ j, k < j -> j <= lJ q f k -> q j = true) ∧ (lJ q f k + 1 = 256 ∨ q (lJ q f k + 1) = false)
 | 0, k, h1, h2 => by omega
 | f + 1, k, h1, h2 => by
  unfold lJ
  cases hc : decide (k + 1 < 256) && q (k + 1)
  ·simp only [cond_false]
   refine ⟨Nat.le_refl _, h1, fun j a b => by omega, ?_⟩
   simp only [Bool.and_eq_false_iff, decide_eq_false_iff_not] at hc
   rcases hc with hc | hc
   ·left; omega
   ·right; exact hc
  ·simp only [cond_true]
   simp only [Bool.and_eq_true, decide_eq_true_eq] at hc
   obtain ⟨a1, a2, a3, a4⟩ := Cj q f (k + 1) hc.1 (by omega)
   refine ⟨by omega, a2, fun j b c => ?_, a4⟩
   by_cases hj : j = k + 1
   ·rw [hj]; exact hc.2
   ·exact a3 j (by omega) c
def jY (i m : Nat) : List UInt8 := (List.range' i m).map UInt8.ofNat
def eH (q : Nat -> Bool) (i : Nat) : List UInt8 := ((List.range' i (256 - i)).filter q).map UInt8.ofNat
theorem ofNat_succ {i : Nat} : UInt8.ofNat i + 1 = UInt8.ofNat (i + 1) := by
 rw [<- UInt8.toNat_inj, UInt8.toNat_add]; simp
theorem zCe (rest : List UInt8) : ∀ (m i : Nat), (∀ d r, rest = d :: r -> (d == UInt8.ofNat (i + m + 1)) = false) -> fM (jY i (m + 1) ++ rest) = jY i (m + 1) :: fM rest
 | 0, i, h => by
  have e : jY i 1 = [UInt8.ofNat i] := rfl
  rw [Nat.zero_add, e, List.singleton_append]
  cases rest with
  | nil => rfl
  | cons d r =>
   obtain ⟨x, rest, e1⟩ := Dp d r
   have hd := h d r rfl
   rw [Nat.add_zero, <- ofNat_succ] at hd
   rw [fM, e1]
   simp only [hd, cond_false]
 | m + 1, i, h => by
  have e : ∀ m, jY i (m + 1) = UInt8.ofNat i :: jY (i + 1) m := fun m => by simp [jY, List.range'_succ]
  have ih := zCe rest m (i + 1) (fun d r hr => by have := h d r hr; rw [show i + 1 + m + 1 = i + (m + 1) + 1 by omega]; exact this)
  have e2 : jY (i + 1) (m + 1) = UInt8.ofNat (i + 1) :: jY (i + 1 + 1) m := by simp [jY, List.range'_succ]
  rw [e (m + 1), List.cons_append, fM, ih, e2]
  simp only [ofNat_succ, beq_self_eq_true, cond_true]
theorem zMf {q : Nat -> Bool} {i : Nat} (hi : i < 256) (h : q i = false) : eH q i = eH q (i + 1) := by
 unfold eH
 rw [show 256 - i = (256 - (i + 1)) + 1 by omega, List.range'_succ, List.filter_cons_of_neg (by simp [h])]
theorem Xg {q : Nat -> Bool} : ∀ (m i : Nat), i + m <= 256 -> (∀ j, i <= j -> j < i + m -> q j = true) -> eH q i = jY i m ++ eH q (i + m)
 | 0, i, _, _ => by simp [jY]
 | m + 1, i, h1, h2 => by
  have ih := Xg m (i + 1) (by omega) (fun j a b => h2 j (by omega) (by omega))
  have e : eH q i = UInt8.ofNat i :: eH q (i + 1) := by
   unfold eH
   rw [show 256 - i = (256 - (i + 1)) + 1 by omega, List.range'_succ, List.filter_cons_of_pos (h2 i (by omega) (by omega)), List.map_cons]
  rw [e, ih, show i + (m + 1) = i + 1 + m by omega]
  simp [jY, List.range'_succ]
theorem zHc {q : Nat -> Bool} {i : Nat} {d : UInt8} {r : List UInt8} (h : eH q i = d :: r) : ∃ j, i <= j ∧ j < 256 ∧ d = UInt8.ofNat j ∧ q j = true := by
 have hm : d ∈ eH q i := by rw [h]; simp
 unfold eH at hm
 obtain ⟨j, hj, rfl⟩ := List.mem_map.1 hm
 obtain ⟨h1, h2⟩ := List.mem_filter.1 hj
 rw [List.mem_range'_1] at h1
 exact ⟨j, h1.1, by omega, rfl, h2⟩
theorem Gx (i m : Nat) : (jY i m).length = m := by simp [jY]
theorem zMg {i j : Nat} (hi : i < 256) (hj : j < 256) (h : i ≠ j) : (UInt8.ofNat i == UInt8.ofNat j) = false := by
 rw [Bool.eq_false_iff, ne_eq, beq_iff_eq, <- UInt8.toNat_inj, UInt8.toNat_ofNat', UInt8.toNat_ofNat']
 omega
theorem Ls (q : Nat -> Bool) : ∀ (n i f : Nat), 256 - i <= n -> 256 - i < f -> ((fM (eH q i)).map nM).flatten = bT q f i := by
 intro n
 induction n with
 | zero =>
  intro i f h hf
  obtain ⟨f, rfl⟩ : ∃ k, f = k + 1 := ⟨f - 1, by omega⟩
  have e : eH q i = [] := by unfold eH; rw [show 256 - i = 0 by omega]; rfl
  rw [e]; unfold bT; rw [if_neg (by omega)]; rfl
 | succ n ih =>
  intro i f h hf
  obtain ⟨f, rfl⟩ : ∃ k, f = k + 1 := ⟨f - 1, by omega⟩
  by_cases hi : i < 256
  case neg =>
   have e : eH q i = [] := by unfold eH; rw [show 256 - i = 0 by omega]; rfl
   rw [e]; unfold bT; rw [if_neg hi]; rfl
  unfold bT
  rw [if_pos hi]
  cases hq : q i
  ·simp only [cond_false]
   rw [zMf hi hq]
   exact ih (i + 1) f (by omega) (by omega)
  ·simp only [cond_true]
   obtain ⟨a1, a2, a3, a4⟩ := Cj q 256 i hi (by omega)
   generalize hk : lJ q 256 i = k at *
   have hrest : ∀ (m : Nat), i + m = k -> ∀ d r, eH q (k + 1) = d :: r -> (d == UInt8.ofNat (i + m + 1)) = false := by
    intro m hm d r hr
    obtain ⟨j, b1, b2, rfl, b4⟩ := zHc hr
    rw [hm]
    refine zMg b2 (by omega) ?_
    intro hj
    subst hj
    rcases a4 with a4 | a4
    ·omega
    ·rw [a4] at b4; simp at b4
   have hF := Xg (q := q) (k - i + 1) i (by omega) (fun j c1 c2 => by
    by_cases hj : j = i
    ·rw [hj]; exact hq
    ·exact a3 j (by omega) (by omega))
   rw [show i + (k - i + 1) = k + 1 by omega] at hF
   have hR := zCe (eH q (k + 1)) (k - i) i (hrest (k - i) (by omega))
   rw [hF, hR, List.map_cons, List.flatten_cons, ih (k + 1) f (by omega) (by omega)]
   by_cases h2 : i + 2 <= k
   ·rw [decide_eq_true h2]
    simp only [cond_true]
    have hs : nM (jY i (k - i + 1)) = [UInt8.ofNat i, 45, UInt8.ofNat k] := by
     unfold nM
     rw [Gx, decide_eq_true (show k - i + 1 > 2 by omega)]
     simp only [cond_true, Nat.add_sub_cancel]
     have h1 : (jY i (k - i + 1)).take 1 = [UInt8.ofNat i] := by simp [jY, List.range'_succ]
     have h3 : (jY i (k - i + 1)).drop (k - i) = [UInt8.ofNat k] := by
      have : jY i (k - i + 1) = jY i (k - i) ++ [UInt8.ofNat k] := by
       unfold jY; rw [List.range'_concat, List.map_append, Nat.one_mul, show i + (k - i) = k by omega]; rfl
      rw [this, List.drop_append_of_le_length (by rw [Gx]; omega), List.drop_of_length_le (by rw [Gx]; omega)]; rfl
     rw [h1, h3]; rfl
    rw [hs]
   ·rw [decide_eq_false h2]
    simp only [cond_false]
    have hs : nM (jY i (k - i + 1)) = jY i (k - i + 1) := by
     unfold nM
     rw [Gx, decide_eq_false (show ¬ k - i + 1 > 2 by omega)]; rfl
    rw [hs]
    by_cases h0 : k = i
    ·subst h0
     rw [Nat.sub_self]; rfl
    ·have h1 : k = i + 1 := by omega
     subst h1
     rw [show i + 1 - i + 1 = 2 by omega, show jY i 2 = [UInt8.ofNat i, UInt8.ofNat (i + 1)] from rfl]
     obtain ⟨f, rfl⟩ : ∃ k, f = k + 1 := ⟨f - 1, by omega⟩
     have hq1 := a3 (i + 1) (by omega) (by omega)
     have hend : lJ q 256 (i + 1) = i + 1 := by
      unfold lJ
      rcases a4 with a4 | a4
      ·rw [show decide (i + 1 + 1 < 256) = false from decide_eq_false (by omega)]; rfl
      ·rw [a4, Bool.and_false]; rfl
     have hsc : bT q (f + 1) (i + 1) = [UInt8.ofNat (i + 1)] ++ bT q f (i + 1 + 1) := by
      rw [bT, if_pos (by omega), hq1, hend]
      simp only [cond_true]
      rw [decide_eq_false (by omega)]; rfl
     rw [hsc]
     have hfu : bT q (f + 1) (i + 1 + 1) = bT q f (i + 1 + 1) := by
      rw [<- ih (i + 1 + 1) (f + 1) (by omega) (by omega), <- ih (i + 1 + 1) f (by omega) (by omega)]
     rw [hfu]; rfl
end Go.Dec
namespace Go.Dec
theorem zJf : ((List.range 256).all fun i => decide (bJ .u8 .and (i : Int) 63 = ((i % 64 : Nat) : Int))) = true := by decide +kernel
theorem wO {x k : Nat} (hk : k < 64) : eP .u64 (x : Int) (k : Int) = ((x / 2 ^ k : Nat) : Int) := by
 unfold eP
 rw [Int.toNat_natCast, show IntKind.u64.bits = 64 from rfl, Nat.min_eq_left (show k <= 64 by omega)]
 rw [show ((2 : Int) ^ k) = ((2 ^ k : Nat) : Int) by simp]
 rw [Int.fdiv_eq_ediv_of_nonneg _ (Int.natCast_nonneg _)]
 exact (Int.natCast_ediv x (2 ^ k)).symm
theorem Ue {n : Nat} (p : Nat -> Bool) {c : Nat} (hc : c < 256) : oO n (wd p, (c : Int)) = some (p c) := by
 unfold oO
 simp only
 have h1 := zQj hc
 have h2 := kW zJf hc
 simp only [decide_eq_true_eq] at h2
 rw [aA (by decide), h1.1, aA (nU (i := c / 64) (n := 4) (by omega)), aA (by simp; omega), Int.toNat_natCast, h2, aA (by simp; omega)]
 have hk : c / 64 = 0 ∨ c / 64 = 1 ∨ c / 64 = 2 ∨ c / 64 = 3 := by omega
 have hg : (wd p).getD (c / 64) (Ty.dflt (.int .u64)) = ((jX p (c / 64) : Nat) : Int) := by
  rcases hk with h | h | h | h <;> rw [h] <;> rfl
 rw [hg, wO (by omega)]
 have hlt := gX p (c / 64)
 rw [show (1 : Int) = ((1 : Nat) : Int) from rfl, zGu (Nat.lt_of_le_of_lt (Nat.div_le_self _ _) hlt) (by omega)]
 have ht := qA p (c / 64) (c % 64)
 rw [decide_eq_true (show c % 64 < 64 by omega), Bool.true_and, show 64 * (c / 64) + c % 64 = c by omega] at ht
 rw [<- ht, Nat.testBit_eq_decide_div_mod_eq]
 congr 1
 rw [Nat.and_one_is_mod, Bool.eq_iff_iff, beq_iff_eq, decide_eq_true_eq]
 omega
def aJ (p : Nat -> Bool) : Nat -> Bool := fun i => p i && !(cO.contains (UInt8.ofNat i))
def sQ (p : Nat -> Bool) : List UInt8 := (bif p 10 then [92, 110] else []) ++ ((bif p 91 then [91] else []) ++ ((bif p 92 then [92] else []) ++ ((bif p 94 then [94] else []) ++ ((bif p 45 then [45] else []) ++ [93]))))
def Ck (p : Nat -> Bool) : List UInt8 := [91] ++ (bif p 93 then [93] else [])
def sS (p : Nat -> Bool) : List UInt8 := Ck p ++ bT (aJ p) 257 0 ++ sQ p
def dI (p : Nat -> Bool) : List UInt8 :=
 match aN p with
 | [] => []
 | [c] => vG c
 | l => bif l.length == 256 then [46] else bif l == [45, 94] then [91, 45, 94, 93] else sS p
theorem zJg (l : List UInt8) : cZ (aT l) = l := by
 simp [cZ, aT, List.map_map, Function.comp_def]
theorem zJh : ((List.range 256).all fun i => decide (Go.Lib.indexByte cO (UInt8.ofNat i) < 0) == !(cO.contains (UInt8.ofNat i))) = true := by decide +kernel
theorem zCf : ((List.range 256).all fun i => decide (Go.Lib.indexByte fC (UInt8.ofNat i) ≥ 0) == fC.contains (UInt8.ofNat i)) = true := by decide +kernel
theorem apart_eq {n : Nat} {ρ : Type} (d : UInt8) (X Y : Option ρ) : (ob (strings_IndexByte n ([93, 91, 92, 94, 45, 10], (d.toNat : Int))) fun y => br (decide (y < 0)) X Y) = bif !(cO.contains d) then X else Y := by
 have := kW zJh d.toNat_lt
 rw [beq_iff_eq, Na] at this
 unfold strings_IndexByte
 simp only [aL, Int.toNat_natCast]
 rw [show (d.toNat).toUInt8 = d from Na d, <- zCb, <- this]; rfl
theorem zOl {n : Nat} (d : UInt8) : Aa n (d.toNat : Int) = some (vG d) := by
 have := kW zCf d.toNat_lt
 rw [beq_iff_eq, Na] at this
 unfold Aa vG
 simp only
 have hb : cZ [(d.toNat : Int)] = [d] := by simp [cZ]
 rw [show ((d.toNat : Int) == 10) = (d == 10) by rw [Dn]; exact eqI 10]
 unfold strings_IndexByte
 simp only [aL, Int.toNat_natCast]
 rw [show (d.toNat).toUInt8 = d from Na d, hb]
 cases d == 10
 ·simp only [aZ, cond_false]
  rw [show ([46, 91, 92, 42, 94, 36] : List UInt8) = fC from rfl, this, aA (by simp [aG]), zCb]
  cases fC.contains d <;> rfl
 ·rfl
theorem zJi (r : List UInt8) : (nM r).length <= r.length := by
 unfold nM
 by_cases h : r.length > 2
 ·rw [decide_eq_true h]; simp; omega
 ·rw [decide_eq_false h]; exact Nat.le_refl _
theorem Gy : ∀ l : List (List UInt8), ((l.map nM).flatten).length <= l.flatten.length
 | [] => Nat.le_refl _
 | a :: l => by have := Gy l; have := zJi a; simp only [List.map_cons, List.flatten_cons, List.length_append]; omega
theorem Uf (p : Nat -> Bool) : (aN p).filter (fun c => !(cO.contains c)) = eH (aJ p) 0 := by
 unfold aN eH aJ
 rw [List.filter_map, List.filter_filter, <- List.range_eq_range']
 congr 1
 apply List.filter_congr
 intro i _
 simp only [Function.comp, Bool.and_comm]
theorem zJj (q : Nat -> Bool) : ∀ i, i + 1 < (eH q 0).length -> ((eH q 0).getD i 0).toNat + 1 < 256 := by
 intro i hi
 have hp : (List.range' 0 256).Pairwise (· < ·) := List.pairwise_lt_range'
 have hq : ((List.range' 0 256).filter q).Pairwise (· < ·) := hp.filter q
 rw [List.pairwise_iff_getElem] at hq
 unfold eH at hi ⊢
 rw [Nat.sub_zero] at hi ⊢
 rw [List.length_map] at hi
 have h := hq i (i + 1) (by omega) hi (by omega)
 have hm : ((List.range' 0 256).filter q)[i + 1] ∈ (List.range' 0 256).filter q := List.getElem_mem _
 have hm2 := (List.mem_filter.1 hm).1
 rw [List.mem_range'_1] at hm2
 rw [List.getD_eq_getElem?_getD, List.getElem?_map, List.getElem?_eq_getElem (by omega)]
 simp only [Option.map_some, Option.getD_some, UInt8.toNat_ofNat']
 omega
theorem Xh (q : Nat -> Bool) : (eH q 0).length <= 256 := by
 unfold eH
 rw [List.length_map]
 have := List.length_filter_le q (List.range' 0 256)
 simpa using this
section
variable {n : Nat}
theorem zHd {b : List UInt8} {p : Nat -> Bool} (hn : 10 <= n) (hb : b.length < 1000) : fix (kI n) n (b, (([[10], [91], [92], [94], [45]] : List (List UInt8)).length : Int), 0, wd p, [[10], [91], [92], [94], [45]], ()) = some (b ++ sQ p) := by
 obtain ⟨n, rfl⟩ : ∃ m, n = m + 6 := ⟨n - 6, by omega⟩
 have has : ∀ c : Nat, c < 256 -> oO (n + 6) (wd p, (c : Int)) = some (p c) := fun c hc => Ue p hc
 have h10 := has 10 (by omega)
 have h91 := has 91 (by omega)
 have h92 := has 92 (by omega)
 have h94 := has 94 (by omega)
 have h45 := has 45 (by omega)
 have step : ∀ (m : Nat) (b : List UInt8) (i : Nat) (c : UInt8), i < 5 -> b.length < 1010 -> ([[10], [91], [92], [94], [45]] : List (List UInt8)).getD i [] = [c] -> c.toNat < 256 ->
   fix (kI (n + 6)) (m + 1) (b, 5, (i : Int), wd p, [[10], [91], [92], [94], [45]], ()) = fix (kI (n + 6)) m (b ++ (bif p c.toNat then (bif c == 10 then [92, 110] else [c]) else []), 5, ((i + 1 : Nat) : Int), wd p, [[10], [91], [92], [94], [45]], ()) := by
  intro m b i c hi hb hc hc2
  rw [cB (by omega), kI]
  simp only
  rw [aU (by simp; omega), aA (by rw [nU (by exact hi)]; rfl), Int.toNat_natCast, Nat.zero_add, aA (by simp; omega), show Ty.dflt .str = ([] : List UInt8) from rfl, hc]
  rw [aA (by rfl), show bA 0 [c] 0 = c from rfl, has c.toNat hc2]
  simp only [aL, Nat.add_sub_cancel]
  rw [bG (by omega) (by omega), show (i : Int) + 1 = ((i + 1 : Nat) : Int) from rfl]
  rw [show ([c] == [10]) = (c == 10) by simp]
  cases hp : p c.toNat
  ·simp only [aZ, cond_false, List.append_nil]
   first | rfl | (rw [aA (by rfl)]; done) | (rw [aA (by rfl), show bA 0 [c] 0 = c from rfl, has c.toNat hc2, hp]; rfl)
  ·simp only [bC, cond_true]
   cases c == 10
   ·simp only [aZ, cond_false]
    rw [aA (by rfl), aA (by simp [aG]; omega)]
   ·simp only [bC, cond_true]
    rw [aA (by simp [aG]; omega)]
 have l1 : ∀ (x : Bool) (y : List UInt8), y.length <= 2 -> (bif x then y else []).length <= 2 := by intro x y h; cases x <;> simp [h]
 rw [show (([[10], [91], [92], [94], [45]] : List (List UInt8)).length : Int) = 5 from rfl, show (0 : Int) = ((0 : Nat) : Int) from rfl]
 have hlen : ∀ (b : List UInt8) (k : Nat) (c : UInt8), b.length < k -> (b ++ (bif p c.toNat then (bif c == 10 then [92, 110] else [c]) else [])).length < k + 2 := by
  intro b k c h
  rw [List.length_append]
  cases p c.toNat <;> cases c == 10 <;> simp <;> omega
 have b1 := hlen b 1000 10 hb
 have b2 := hlen _ 1002 91 b1
 have b3 := hlen _ 1004 92 b2
 have b4 := hlen _ 1006 94 b3
 have b5 := hlen _ 1008 45 b4
 rw [step (n + 5) b 0 10 (by omega) (by omega) rfl (by decide), step (n + 4) _ 1 91 (by omega) (by omega) rfl (by decide), step (n + 3) _ 2 92 (by omega) (by omega) rfl (by decide), step (n + 2) _ 3 94 (by omega) (by omega) rfl (by decide), step (n + 1) _ 4 45 (by omega) (by omega) rfl (by decide)]
 rw [cB (by omega), kI]
 simp only
 rw [aQ (by rfl), aA (by exact decide_eq_true (Nat.le_trans (Nat.add_le_add_right (Nat.le_of_lt b5) _) (by decide)))]
 simp only [sQ, List.append_assoc]
 rfl
theorem zHe {b0 : List UInt8} {p : Nat -> Bool} {rs : List (List UInt8)} (hn : 400 <= n) (hb : b0.length <= 2) (hrs : rs.flatten.length <= 256) (hrl : rs.length <= 256) : fix (nG n) n (b0, rs, (rs.length : Int), 0, wd p, ()) = some (b0 ++ (rs.map nM).flatten ++ sQ p) := by
 have hl : ∀ i, ((rs.take i).map nM).flatten.length <= 256 := by
  intro i
  have h1 := Gy (rs.take i)
  have h2 : (rs.take i).flatten.length <= rs.flatten.length := by
   have : rs.flatten = (rs.take i).flatten ++ (rs.drop i).flatten := by rw [<- List.flatten_append, List.take_append_drop]
   rw [this, List.length_append]; omega
  omega
 have key : ∀ k i m, i + k = rs.length -> k < m -> fix (nG n) m (b0 ++ ((rs.take i).map nM).flatten, rs, (rs.length : Int), (i : Int), wd p, ()) = some (b0 ++ (rs.map nM).flatten ++ sQ p) := by
  intro k
  induction k with
  | zero =>
   intro i m hi hm
   have := hl rs.length
   rw [List.take_of_length_le (Nat.le_refl _)] at this
   rw [cB hm, nG]
   simp only
   rw [aQ (by simp; omega), List.take_of_length_le (by omega)]
   exact zHd (by omega) (by rw [List.length_append]; omega)
  | succ k ih =>
   intro i m hi hm
   have hil : i < rs.length := by omega
   have hli := hl i
   have Gz := hl (i + 1)
   have htk : rs.take (i + 1) = rs.take i ++ [rs[i]] := by rw [List.take_add_one, List.getElem?_eq_getElem hil]; rfl
   have ih := ih (i + 1) (m - 1) (by omega) (by omega)
   rw [htk, List.map_append, List.flatten_append] at ih Gz
   simp only [List.map_cons, List.map_nil, List.flatten_cons, List.flatten_nil, List.append_nil] at ih Gz
   rw [List.length_append] at Gz
   have hri : rs[i].length <= 256 := by
    have : ∀ (l : List (List UInt8)) (r : List UInt8), r ∈ l -> r.length <= l.flatten.length := by
     intro l r
     induction l with
     | nil => intro h; simp at h
     | cons a l ih =>
      intro h
      simp only [List.flatten_cons, List.length_append]
      rcases List.mem_cons.1 h with rfl | h
      ·omega
      ·have := ih h; omega
    have := this rs rs[i] (List.getElem_mem _)
    omega
   rw [cB (by omega), nG]
   simp only
   rw [aU (by simp; omega), aA (nU hil), nN hil, bG (x := (i : Int) + 1) (by omega) (by omega), show (i : Int) + 1 = ((i + 1 : Nat) : Int) from rfl]
   unfold nM at ih Gz
   by_cases h2 : rs[i].length > 2
   ·rw [decide_eq_true h2] at ih Gz
    simp only [cond_true] at ih Gz
    rw [aU (by simp; omega), aA (by simp; omega), show (1 : Int).toNat = 1 from rfl, aA (by simp [aG]; omega), bG (by omega) (by omega), aA (by simp; omega)]
    rw [show ((rs[i].length : Int) - 1).toNat = rs[i].length - 1 by omega]
    rw [aA (by simp [aG]; omega), aA (by rw [List.length_append, List.length_append]; exact decide_eq_true (by simp only [aG]; simp only [List.length_append] at Gz ⊢; omega))]
    rw [List.append_assoc b0]
    exact ih
   ·rw [decide_eq_false h2] at ih Gz
    simp only [cond_false] at ih Gz
    rw [aQ (by simp; omega), aA (by rw [List.length_append]; exact decide_eq_true (by simp only [aG]; omega))]
    rw [List.append_assoc b0]
    exact ih
 have := key rs.length 0 n (by omega) (by omega)
 simpa using this
theorem Ug {b0 : List UInt8} {p : Nat -> Bool} (hn : 400 <= n) (hb : b0.length <= 2) : kJ n (aN p, b0, wd p, ()) = some (b0 ++ bT (aJ p) 257 0 ++ sQ p) := by
 unfold kJ
 simp only
 have hbl := zGw p
 rw [aA (by simp [room]; omega), Gw]
 have hfin : ∀ g, nH n g (b0, aT (aN p), ((aN p).length : Int), ((aN p).length : Int), wd p, aT ((aN p).filter fun c => !(cO.contains c)), ()) = some (b0 ++ bT (aJ p) 257 0 ++ sQ p) := by
  intro g
  unfold nH
  simp only
  have hfl := Xh (aJ p)
  rw [aQ (by simp), zJg, Uf, zOk (by omega) (by omega) (zJj _)]
  simp only [aL]
  have h1 := zG (eH (aJ p) 0)
  have h2 := @Xf [] (eH (aJ p) 0)
  rw [zHe hn hb (by rw [h1]; omega) (by omega), Ls (aJ p) 256 0 257 (by omega) (by omega)]
 have key : ∀ k i m, i + k = (aN p).length -> k < m -> fix (nH n) m (b0, aT (aN p), ((aN p).length : Int), (i : Int), wd p, aT (((aN p).take i).filter fun c => !(cO.contains c)), ()) = some (b0 ++ bT (aJ p) 257 0 ++ sQ p) := by
  intro k
  induction k with
  | zero =>
   intro i m hi hm
   rw [cB hm, List.take_of_length_le (by omega), show i = (aN p).length by omega]
   exact hfin _
  | succ k ih =>
   intro i m hi hm
   have hil : i < (aN p).length := by omega
   have ih := ih (i + 1) (m - 1) (by omega) (by omega)
   have htk : (aN p).take (i + 1) = (aN p).take i ++ [(aN p)[i]] := by rw [List.take_add_one, List.getElem?_eq_getElem hil]; rfl
   rw [htk, List.filter_append] at ih
   rw [cB (by omega), nH]
   simp only
   rw [aU (by simp; omega), aA (nU (by rw [Gw]; exact hil)), zMe hil, apart_eq, bG (by omega) (by omega), show (i : Int) + 1 = ((i + 1 : Nat) : Int) from rfl]
   have hfl : (((aN p).take i).filter fun c => !(cO.contains c)).length <= 256 := by
    have := List.length_filter_le (fun c => !(cO.contains c)) ((aN p).take i)
    rw [List.length_take] at this; omega
   cases hc : cO.contains (aN p)[i]
   ·simp only [Bool.not_false, cond_true]
    rw [List.filter_cons_of_pos (by show (!(cO.contains _)) = true; rw [hc]; rfl), List.filter_nil] at ih
    rw [aA (by rw [Gw, Nat.ble_eq]; unfold room; simp only [List.length_cons, List.length_nil]; omega)]
    have e : ∀ (l : List UInt8) (c : UInt8), aT (l ++ [c]) = aT l ++ [(c.toNat : Int)] := fun l c => by simp [aT]
    rw [e] at ih
    exact ih
   ·simp only [Bool.not_true, cond_false]
    rw [List.filter_cons_of_neg (by show ¬ (!(cO.contains _)) = true; rw [hc]; simp), List.filter_nil, List.append_nil] at ih
    exact ih
 have := key (aN p).length 0 n (by omega) (by omega)
 simpa [aT] using this
theorem zDh {p : Nat -> Bool} (hn : 400 <= n) : tF n (wd p) = some (dI p) := by
 unfold tF
 simp only
 rw [zCd, aL]
 have h93 := Ue (n := n) p (c := 93) (by omega)
 have hj : (ob (oO n (wd p, 93)) fun y4 => br y4 (chk (decide ([91].length + ([93] : List UInt8).length <= aG)) (jn (kJ n) (aN p, [91] ++ [93], wd p, ()))) (jn (kJ n) (aN p, [91], wd p, ()))) = some (sS p) := by
  rw [show (93 : Int) = ((93 : Nat) : Int) from rfl, h93, aL]
  unfold sS Ck
  cases p 93
  ·simp only [aZ, oG, cond_false, List.append_nil]
   exact Ug hn (by simp)
  ·simp only [bC, oG, cond_true]
   rw [aA (by decide)]
   exact Ug hn (by simp)
 rw [hj]
 unfold dI
 match aN p with
 | [] => rfl
 | [c] =>
  rw [aQ (by rfl), aU (by rfl), aA (by rfl), show bA 0 [c] 0 = c from rfl, zOl]; rfl
 | a :: b :: l =>
  rw [aQ (by simp; omega), aQ (by simp; omega)]
  rw [show (((a :: b :: l).length : Int) == 256) = ((a :: b :: l).length == 256) by rw [Bool.eq_iff_iff, beq_iff_eq, beq_iff_eq]; omega]
  simp only
  cases ((a :: b :: l).length == 256)
  ·cases (a :: b :: l == [45, 94]) <;> rfl
  ·rfl
end
end Go.Dec
namespace Go.Dec
def Cm (p : Nat -> Bool) : List UInt8 := (bif p 10 then [92, 110] else []) ++ ((bif p 91 then [91] else []) ++ ((bif p 92 then [92] else []) ++ (bif aN p == [45, 94] then [45, 94, 93] else ((bif p 94 then [94] else []) ++ ((bif p 45 then [45] else []) ++ [93])))))
theorem zH {p : Nat -> Bool} {i : Nat} (hi : i < 256) : p i = true <-> UInt8.ofNat i ∈ aN p := by
 unfold aN
 constructor
 ·intro h
  exact List.mem_map.2 ⟨i, List.mem_filter.2 ⟨by simpa using hi, h⟩, rfl⟩
 ·intro h
  obtain ⟨j, hj, e⟩ := List.mem_map.1 h
  obtain ⟨h1, h2⟩ := List.mem_filter.1 hj
  have hj2 : j < 256 := by simpa using h1
  have e2 := congrArg UInt8.toNat e
  simp only [UInt8.toNat_ofNat'] at e2
  have : j = i := by omega
  rw [<- this]; exact h2
theorem Lu {p : Nat -> Bool} {c : Nat} (hc : c < 256) : (bx p).getD ((c : Int).toNat) (Ty.dflt .bool) = p c := by
 rw [Int.toNat_natCast]; exact En false hc
section
variable {n : Nat} {p : Nat -> Bool}
theorem Uh {out : List UInt8} (hn : 300 <= n) (ho : out.length < 2000) : nY n (out, bx p, ()) = some (out ++ (bif aN p == [45, 94] then [45, 94, 93] else ((bif p 94 then [94] else []) ++ ((bif p 45 then [45] else []) ++ [93])))) := by
 unfold nY
 simp only
 have h94 := @Lu p 94 (by omega)
 have h45 := @Lu p 45 (by omega)
 rw [show ((94 : Nat) : Int) = 94 from rfl] at h94
 rw [show ((45 : Nat) : Int) = 45 from rfl] at h45
 rw [wK hn, aL, h94, h45]
 cases aN p == [45, 94]
 ·rw [aZ, aA (by decide), aA (by decide)]
  cases p 94 <;> cases p 45
  ·rw [aZ, aA (by decide), aA (by decide), aZ, aA (by simp [aG]; omega)]; simp
  ·rw [aZ, aA (by decide), aA (by decide), bC, aA (by simp [aG]; omega), aA (by simp [aG]; omega)]; simp
  ·rw [bC, aA (by simp [aG]; omega), aA (by decide), aA (by decide), aZ, aA (by simp [aG]; omega)]; simp
  ·rw [bC, aA (by simp [aG]; omega), aA (by decide), aA (by decide), bC, aA (by simp [aG]; omega), aA (by simp [aG]; omega)]; simp
 ·rw [bC, aA (by simp [aG]; omega)]; rfl
theorem zCg {out : List UInt8} {g : List UInt8 × Int × List Bool × Unit -> Option (List UInt8)} {i : Nat} (hn : 300 <= n) (ho : out.length < 1000) (hi : 256 <= i) : iM n g (out, (i : Int), bx p, ()) = some (out ++ Cm p) := by
 unfold iM
 simp only
 have h10 := @Lu p 10 (by omega)
 have h91 := @Lu p 91 (by omega)
 have h92 := @Lu p 92 (by omega)
 rw [show ((10 : Nat) : Int) = 10 from rfl] at h10
 rw [show ((91 : Nat) : Int) = 91 from rfl] at h91
 rw [show ((92 : Nat) : Int) = 92 from rfl] at h92
 have j4 : ∀ out : List UInt8, out.length < 1010 -> nZ n (out, bx p, ()) = some (out ++ ((bif p 92 then [92] else []) ++ (bif aN p == [45, 94] then [45, 94, 93] else ((bif p 94 then [94] else []) ++ ((bif p 45 then [45] else []) ++ [93]))))) := by
  intro out ho
  unfold nZ
  simp only [oG]
  rw [aA (by decide), aA (by decide), h92]
  cases p 92
  ·rw [aZ, Uh hn (by omega)]; simp
  ·rw [bC, aA (by simp [aG]; omega), Uh hn (by simp; omega)]; simp
 have j3 : ∀ out : List UInt8, out.length < 1005 -> oC n (out, bx p, ()) = some (out ++ ((bif p 91 then [91] else []) ++ ((bif p 92 then [92] else []) ++ (bif aN p == [45, 94] then [45, 94, 93] else ((bif p 94 then [94] else []) ++ ((bif p 45 then [45] else []) ++ [93])))))) := by
  intro out ho
  unfold oC
  simp only [oG]
  rw [aA (by decide), aA (by decide), h91]
  cases p 91
  ·rw [aZ, j4 _ (by omega)]; simp
  ·rw [bC, aA (by simp [aG]; omega), j4 _ (by simp; omega)]; simp
 rw [aQ (by simp; omega), aA (by decide), aA (by decide), h10, oG, oG]
 unfold Cm
 cases p 10
 ·rw [aZ, j3 _ (by omega)]; simp
 ·rw [bC, aA (by simp [aG]; omega), j3 _ (by simp; omega)]; simp
theorem zCh {i : Nat} (hn : 300 <= n) (hi : i < 256) : nX n ([93, 91, 92, 94, 45, 10], IntKind.wrap .u8 (i : Int)) = some (cO.contains (UInt8.ofNat i)) := by
 rw [IntWalk.u8_in _ (by omega)]
 have h := Om (n := n) cO (by simp [cO]; omega) (by simp [cO]) (UInt8.ofNat i)
 rw [UInt8.toNat_ofNat'] at h
 rw [show i % 2 ^ 8 = i by omega] at h
 exact h
theorem zMh {out : List UInt8} {g : List UInt8 × Int × List Bool × Unit -> Option (List UInt8)} {i : Nat} {t u : Int} {v : Bool} (hn : 300 <= n) : ∀ (f k m : Nat), k < 256 -> 256 - k <= f -> f < m ->
  fix (tJ n g) m (out, (i : Int), (k : Int), t, u, v, bx p, ()) = kU n g (out, (i : Int), ((lJ (aJ p) f k : Nat) : Int), t, u, v, bx p, ()) := by
 intro f
 induction f with
 | zero => intro k m h1 h2; omega
 | succ f ih =>
  intro k m h1 h2 hm
  rw [cB (by omega), tJ]
  simp only
  rw [bG (by omega) (by omega), show (k : Int) + 1 = ((k + 1 : Nat) : Int) from rfl]
  unfold lJ
  by_cases hk : k + 1 < 256
  ·rw [aU (by simp; omega), aA (nU (i := k + 1) (n := 256) hk), aA (by simp; omega), Lu hk, decide_eq_true hk, Bool.true_and, oG]
   have hpl : aJ p (k + 1) = (p (k + 1) && !(cO.contains (UInt8.ofNat (k + 1)))) := rfl
   rw [hpl]
   cases hp : p (k + 1)
   ·rw [aZ, Bool.false_and]; rfl
   ·rw [bC, zCh hn hk, aL, Bool.true_and]
    cases cO.contains (UInt8.ofNat (k + 1))
    ·rw [Bool.not_false, bC]
     exact ih (k + 1) (m - 1) hk (by omega) (by omega)
    ·rw [Bool.not_true, aZ]; rfl
  ·rw [aQ (by simp; omega), decide_eq_false hk, oG]; rfl
theorem zJk (hn : 300 <= n) : ∀ (d i f m : Nat) (out : List UInt8), 256 - i <= d -> 256 - i < f -> d < m -> i <= 256 -> out.length <= 3 * i + 3 ->
  fix (iM n) m (out, (i : Int), bx p, ()) = some (out ++ bT (aJ p) f i ++ Cm p) := by
 intro d
 induction d with
 | zero =>
  intro i f m out h1 h2 hm hi ho
  obtain ⟨f, rfl⟩ : ∃ k, f = k + 1 := ⟨f - 1, by omega⟩
  rw [cB hm, zCg hn (by omega) (by omega), bT, if_neg (by omega)]; simp
 | succ d ih =>
  intro i f m out h1 h2 hm hi ho
  obtain ⟨f, rfl⟩ : ∃ k, f = k + 1 := ⟨f - 1, by omega⟩
  by_cases hlt : i < 256
  case neg => rw [cB (by omega), zCg hn (by omega) (by omega), bT, if_neg hlt]; simp
  rw [cB (by omega), iM]
  simp only
  rw [aU (by simp; omega), aA (nU (i := i) (n := 256) hlt), aA (by simp; omega), Lu hlt, bG (x := (i : Int) + 1) (by omega) (by omega), show (i : Int) + 1 = ((i + 1 : Nat) : Int) from rfl]
  unfold bT
  rw [if_pos hlt]
  have hpl : aJ p i = (p i && !(cO.contains (UInt8.ofNat i))) := rfl
  have next : aJ p i = false -> fix (iM n) (m - 1) (out, ((i + 1 : Nat) : Int), bx p, ()) = some (out ++ (bif aJ p i then (bif decide (i + 2 <= lJ (aJ p) 256 i) then [UInt8.ofNat i, 45, UInt8.ofNat (lJ (aJ p) 256 i)] ++ bT (aJ p) f (lJ (aJ p) 256 i + 1) else [UInt8.ofNat i] ++ bT (aJ p) f (i + 1)) else bT (aJ p) f (i + 1)) ++ Cm p) := by
   intro h
   rw [h]
   exact ih (i + 1) f (m - 1) out (by omega) (by omega) (by omega) (by omega) (by omega)
  cases hp : p i
  ·rw [Bool.not_false, bC]
   exact next (by rw [hpl, hp]; rfl)
  ·rw [Bool.not_true, aZ, zCh hn hlt, aL]
   cases ha : cO.contains (UInt8.ofNat i)
   ·rw [aZ, oG, show aJ p i = true by rw [hpl, hp, ha]; rfl]
    simp only [cond_true]
    unfold Ad
    simp only
    rw [zMh hn 256 i n hlt (by omega) (by omega)]
    obtain ⟨a1, a2, a3, a4⟩ := Cj (aJ p) 256 i hlt (by omega)
    generalize lJ (aJ p) 256 i = k at *
    unfold kU
    simp only
    rw [bG (x := (k : Int) - (i : Int)) (by omega) (by omega), IntWalk.u8_in (i : Int) (by omega), IntWalk.u8_in (k : Int) (by omega)]
    have hb1 : cZ [(i : Int)] = [UInt8.ofNat i] := rfl
    have hb3 : cZ [(i : Int), 45, (k : Int)] = [UInt8.ofNat i, 45, UInt8.ofNat k] := rfl
    rw [hb1, hb3]
    by_cases h3 : i + 2 <= k
    ·rw [aU (by simp; omega), decide_eq_true h3, aA (by simp [aG]; omega), bG (by omega) (by omega), show (k : Int) + 1 = ((k + 1 : Nat) : Int) from rfl]
     simp only [cond_true]
     rw [ih (k + 1) f (m - 1) _ (by omega) (by omega) (by omega) (by omega) (by simp; omega)]
     simp
    ·rw [aQ (by simp; omega), decide_eq_false h3, aA (by simp [aG]; omega), bG (by omega) (by omega), show (i : Int) + 1 = ((i + 1 : Nat) : Int) from rfl]
     simp only [cond_false]
     rw [ih (i + 1) f (m - 1) _ (by omega) (by omega) (by omega) (by omega) (by simp; omega)]
     simp
   ·rw [bC]
    exact next (by rw [hpl, hp, ha]; rfl)
theorem Yd (hn : 300 <= n) : uR n (bx p) = some (Ck p ++ bT (aJ p) 257 0 ++ Cm p) := by
 unfold uR
 simp only
 have h93 := @Lu p 93 (by omega)
 rw [show ((93 : Nat) : Int) = 93 from rfl] at h93
 rw [aA (by decide), aA (by decide), h93, oG, oG]
 unfold Ck tK
 simp only
 have := fun out h => zJk (n := n) (p := p) hn 256 0 257 n out (by omega) (by omega) (by omega) (by omega) h
 rw [show ((0 : Nat) : Int) = 0 from rfl] at this
 cases p 93
 ·rw [aZ, this _ (by simp)]; simp
 ·rw [bC, aA (by decide), this _ (by simp)]; rfl
theorem zHf {c : UInt8} (hn : 300 <= n) : oK n ((c.toNat : Int), [46, 91, 92, 42, 94, 36]) = some (vG c) := by
 unfold oK vG
 simp only
 have hb : cZ [(c.toNat : Int)] = [c] := by simp [cZ]
 rw [show ((c.toNat : Int) == 10) = (c == 10) by rw [Dn]; exact eqI 10, hb]
 cases c == 10
 ·have h := Om (n := n) fC (by simp [fC]; omega) (by simp [fC]) c
  rw [aZ, show ([46, 91, 92, 42, 94, 36] : List UInt8) = fC from rfl, h, aL, aA (by simp [aG]), zCb]
  simp only [cond_false]
  cases fC.contains c <;> rfl
 ·rfl
theorem zJl (h2 : 2 <= (aN p).length) (He : (aN p).length ≠ 256) : dI p = Ck p ++ bT (aJ p) 257 0 ++ Cm p := by
 have hsh : dI p = bif aN p == [45, 94] then [91, 45, 94, 93] else sS p := by
  unfold dI
  match hb : aN p, h2, He with
  | [], h2, _ => simp at h2
  | [c], h2, _ => simp at h2
  | a :: b :: l, _, He =>
   simp only
   have : ((a :: b :: l).length == 256) = false := by rw [Bool.eq_false_iff, ne_eq, beq_iff_eq]; exact He
   rw [this]; rfl
 rw [hsh]
 cases hb : aN p == [45, 94]
 ·unfold sS Cm sQ
  rw [hb]; rfl
 ·have hb2 : aN p = [45, 94] := by simpa using hb
  have hnot : ∀ i, i < 256 -> i ≠ 45 -> i ≠ 94 -> p i = false := by
   intro i hi h1 h2
   cases hp : p i
   ·rfl
   ·have := (zH (p := p) hi).1 hp
    rw [hb2] at this
    simp only [List.mem_cons, List.not_mem_nil, or_false] at this
    rcases this with h | h
    ·have := congrArg UInt8.toNat h; simp only [UInt8.toNat_ofNat'] at this; exact absurd (show i = 45 by have h45 : (45 : UInt8).toNat = 45 := rfl; omega) h1
    ·have := congrArg UInt8.toNat h; simp only [UInt8.toNat_ofNat'] at this; exact absurd (show i = 94 by have h45 : (94 : UInt8).toNat = 94 := rfl; omega) h2
  have hsc : bT (aJ p) 257 0 = [] := by
   have hf : eH (aJ p) 0 = [] := by
    rw [<- Uf, hb2]; decide
   have := Ls (aJ p) 256 0 257 (by omega) (by omega)
   rw [hf] at this
   exact this.symm
  unfold Ck Cm
  rw [hsc, hb, hnot 93 (by omega) (by omega) (by omega), hnot 10 (by omega) (by omega) (by omega), hnot 91 (by omega) (by omega) (by omega), hnot 92 (by omega) (by omega) (by omega)]
  rfl
theorem Ye (hn : 400 <= n) : uS n (bx p) = some (dI p) := by
 unfold uS xA
 simp only
 rw [Ya (by omega), aL, wK (by omega), Yd (by omega)]
 by_cases h0 : (aN p).length = 0
 ·rw [aU (by simp [h0])]
  have : aN p = [] := List.length_eq_zero_iff.1 h0
  unfold dI; rw [this]; rfl
 ·rw [aQ (by rw [Bool.eq_false_iff, ne_eq, beq_iff_eq]; omega)]
  by_cases h1 : (aN p).length = 1
  ·rw [aU (by simp [h1])]
   obtain ⟨c, hc⟩ := List.length_eq_one_iff.1 h1
   unfold dI
   rw [hc]
   simp only [aL]
   rw [aA (by rfl), show bA 0 [c] 0 = c from rfl, zHf (by omega)]
   rfl
  ·rw [aQ (by rw [Bool.eq_false_iff, ne_eq, beq_iff_eq]; omega)]
   by_cases He : (aN p).length = 256
   ·rw [aU (by simp [He])]
    unfold dI
    match hb : aN p, h0, h1, He with
    | [], h0, _, _ => simp at h0
    | [c], _, h1, _ => simp at h1
    | a :: b :: l, _, _, He =>
     simp only
     rw [show ((a :: b :: l).length == 256) = true by rw [beq_iff_eq]; exact He]; rfl
   ·rw [aQ (by rw [Bool.eq_false_iff, ne_eq, beq_iff_eq]; omega), zJl (by omega) He]; rfl
end
end Go.Dec
