/- Part of a proof over this seat: a library of my own, and what it says of this seat. No statement is proved here. -/
import Derived.Test.YtlimifngdjkogaaGreatDoorPartBT
import Derived.Test.YtlimifngdjkogaaGreatDoorPartBI
namespace Go.Dec
abbrev iN := List UInt8 × Bool × Unit
def bK : List UInt8 -> List iN -> List UInt8
 | _, [] => []
 | g, e :: r => g ++ e.1 ++ (if e.2.1 then [10] ++ bK [] r else bK [10] r)
def bG : List iN -> Nat
 | [] => 0
 | e :: r => e.1.length + 1 + bG r
theorem oN : ∀ (a b : List iN), bG (a ++ b) = bG a + bG b
 | [], b => by simp [bG]
 | e :: a, b => by simp only [List.cons_append, bG, oN a b]; omega
theorem zEj {n : Nat} {s : List UInt8} {a : List UInt8} (h : a.length + s.length <= 1000000) : bE n (s, aL a, ()) = some ((s.length : Int), false, aL (a ++ s), ()) := by
 unfold bE lT
 simp only [Qc]
 rw [dF (by simp only [Rs]; simp [room]; omega), He]
def nM (pre : List iN) : List UInt8 := match pre.getLast? with
 | none => []
 | some e => if e.2.1 then [] else [10]
theorem zDr {n : Nat} {l : List iN} (hl : l.length <= 60) (hs : bG l <= 10000) : ∀ (r pre : List iN) (g a : List UInt8) (m : Nat), l = pre ++ r -> r.length < m -> a.length + g.length <= bG pre ->
  fix (iC n) m (g, l, (l.length : Int), (pre.length : Int), aL a, ()) = some (a ++ bK g r) := by
 intro r
 induction r with
 | nil =>
  intro pre g a m hp hm ha
  have hp : pre = l := by simpa using hp.symm
  subst hp
  rw [mM (by omega), iC]
  simp only
  rw [nI (by simp), Tw]
  simp [bK]
 | cons e r ih =>
  intro pre g a m hp hm ha
  have hm' : r.length + 1 < m := hm
  have hlen : l.length = pre.length + r.length + 1 := by rw [hp]; simp; omega
  have hsum : bG l = bG pre + (e.1.length + 1 + bG r) := by rw [hp, oN]; rfl
  have hsp : bG (pre ++ [e]) = bG pre + (e.1.length + 1) := by rw [oN]; simp [bG]
  have hi : ∀ (g' a' : List UInt8), a'.length + g'.length <= bG (pre ++ [e]) -> fix (iC n) (m - 1) (g', l, (l.length : Int), (pre.length : Int) + 1, aL a', ()) = some (a' ++ bK g' r) := fun g' a' h1 => by
   have := ih (pre ++ [e]) g' a' (m - 1) (by rw [hp]; simp) (by omega) h1
   rwa [show ((pre ++ [e]).length : Int) = (pre.length : Int) + 1 by simp] at this
  rw [mM (by omega), iC]
  simp only
  rw [lU (decide_eq_true (by omega)), dF (uO (by omega)), jE hp, dF (decide_eq_true (by simp [eY]; omega)), zEj (by simp; omega)]
  simp only [Qc]
  cases he : e.2.1 with
  | true =>
   simp only [Ww]
   rw [zEj (by simp; omega)]
   simp only [Qc]
   rw [jK (by omega) (by omega), hi _ _ (by simp; omega)]
   simp [bK, he]
  | false =>
   simp only [Qb]
   rw [jK (by omega) (by omega), hi _ _ (by simp; omega)]
   simp [bK, he]
theorem zDs {n : Nat} {l : List iN} (hl : l.length <= 60) : ∀ (r pre : List iN) (m : Nat), l = pre ++ r -> r.length < m -> fix (iW n) m (l, (pre.length : Int), pre, ()) = some l := by
 intro r
 induction r with
 | nil =>
  intro pre m hp hm
  have hp : pre = l := by simpa using hp.symm
  subst hp
  rw [mM (by omega), iW]
  simp only
  rw [nI (by simp)]
 | cons e r ih =>
  intro pre m hp hm
  have hm' : r.length + 1 < m := hm
  have hlen : l.length = pre.length + r.length + 1 := by rw [hp]; simp; omega
  have hi := ih (pre ++ [e]) (m - 1) (by rw [hp]; simp) (by omega)
  rw [show ((pre ++ [e]).length : Int) = (pre.length : Int) + 1 by simp] at hi
  rw [mM (by omega), iW]
  simp only
  rw [lU (decide_eq_true (by omega)), dF (uO (by omega)), jE hp, dF (by simp [room]; omega), jK (by omega) (by omega)]
  exact hi
theorem zIs {n : Nat} {l : List iN} (hl : l.length <= 60) (hs : bG l <= 10000) : ∀ (r pre : List iN) (a : List UInt8) (m : Nat), l = pre ++ r -> r.length < m -> a.length + (nM pre).length <= bG pre ->
  fix (gD n) m (l, a, (pre.length : Int), ()) = some (a ++ bK (nM pre) r) := by
 intro r
 induction r with
 | nil =>
  intro pre a m hp hm ha
  have hp : pre = l := by simpa using hp.symm
  subst hp
  rw [mM (by omega), gD]
  simp only
  rw [nI (by simp)]
  simp [bK]
 | cons e r ih =>
  intro pre a m hp hm ha
  have hm' : r.length + 1 < m := hm
  have hlen : l.length = pre.length + r.length + 1 := by rw [hp]; simp; omega
  have hsum : bG l = bG pre + (e.1.length + 1 + bG r) := by rw [hp, oN]; rfl
  have hsp : bG (pre ++ [e]) = bG pre + (e.1.length + 1) := by rw [oN]; simp [bG]
  have zKl : nM (pre ++ [e]) = if e.2.1 then [] else [10] := by simp [nM]
  have hi : ∀ (a' : List UInt8), a'.length + (nM (pre ++ [e])).length <= bG (pre ++ [e]) -> fix (gD n) (m - 1) (l, a', (pre.length : Int) + 1, ()) = some (a' ++ bK (nM (pre ++ [e])) r) := fun a' h1 => by
   have := ih (pre ++ [e]) a' (m - 1) (by rw [hp]; simp) (by omega) h1
   rwa [show ((pre ++ [e]).length : Int) = (pre.length : Int) + 1 by simp] at this
  rw [zKl] at hi
  rw [mM (by omega), gD]
  simp only
  rw [lU (decide_eq_true (by omega))]
  rcases List.eq_nil_or_concat pre with h0 | ⟨p0, x, h0⟩
  ·have hg0 : nM pre = [] := by rw [h0]; rfl
   have hl0 : (pre.length : Int) = 0 := by rw [h0]; rfl
   rw [hg0] at ha ⊢
   simp only [List.length_nil] at ha
   rw [nI (by rw [hl0]; rfl), dF (uO (by omega)), jE hp, dF (decide_eq_true (by simp [eY]; omega)), dF (uO (by omega))]
   cases he : e.2.1 with
   | true =>
    rw [he] at hi
    simp only [if_true] at hi
    rw [Ww, dF (decide_eq_true (by simp [eY]; omega)), jK (by omega) (by omega), hi _ (by simp; omega)]
    simp [bK, he]
   | false =>
    rw [he] at hi
    simp only [Bool.false_eq_true, if_false] at hi
    rw [Qb, jK (by omega) (by omega), hi _ (by simp; omega)]
    simp [bK, he]
  ·have hx : bZ (Ty.dflt dA) l ((pre.length : Int) - 1) = x := by
    have : ((pre.length : Int) - 1) = (p0.length : Int) := by rw [h0]; simp
    rw [this]
    exact jE (r := e :: r) (by rw [hp, h0]; simp)
   have hpos : 0 < pre.length := by rw [h0]; simp
   have hgx : nM pre = if x.2.1 then [] else [10] := by rw [h0]; simp [nM]
   rw [lU (decide_eq_true (by omega)), jK (by omega) (by omega), dF (Wx (by omega) (by omega)), hx]
   cases hxe : x.2.1 with
   | true =>
    rw [hxe] at hgx
    simp only [if_true] at hgx
    rw [hgx] at ha ⊢
    simp only [List.length_nil] at ha
    rw [nI (by rfl), dF (uO (by omega)), jE hp, dF (decide_eq_true (by simp [eY]; omega)), dF (uO (by omega))]
    cases he : e.2.1 with
    | true =>
     rw [he] at hi
     simp only [if_true] at hi
     rw [Ww, dF (decide_eq_true (by simp [eY]; omega)), jK (by omega) (by omega), hi _ (by simp; omega)]
     simp [bK, he]
    | false =>
     rw [he] at hi
     simp only [Bool.false_eq_true, if_false] at hi
     rw [Qb, jK (by omega) (by omega), hi _ (by simp; omega)]
     simp [bK, he]
   | false =>
    rw [hxe] at hgx
    simp only [Bool.false_eq_true, if_false] at hgx
    rw [hgx] at ha ⊢
    simp only [List.length_cons, List.length_nil] at ha
    rw [lU (by rfl), dF (decide_eq_true (by simp [eY]; omega)), dF (uO (by omega)), jE hp, dF (decide_eq_true (by simp [eY]; omega)), dF (uO (by omega))]
    cases he : e.2.1 with
    | true =>
     rw [he] at hi
     simp only [if_true] at hi
     rw [Ww, dF (decide_eq_true (by simp [eY]; omega)), jK (by omega) (by omega), hi _ (by simp; omega)]
     simp [bK, he]
    | false =>
     rw [he] at hi
     simp only [Bool.false_eq_true, if_false] at hi
     rw [Qb, jK (by omega) (by omega), hi _ (by simp; omega)]
     simp [bK, he]
theorem xX : ∀ (l : List iN) (g : List UInt8), (bK g l).length + (match l.getLast? with | none => 0 | some e => if e.2.1 then 0 else 1) = (match l with | [] => 0 | _ => g.length) + bG l
 | [], g => by simp [bK, bG]
 | [e], g => by
  cases he : e.2.1 <;> simp [bK, bG, he] <;> omega
 | e :: f :: r, g => by
  have h1 := xX (f :: r) []
  have h2 := xX (f :: r) [10]
  have h3 : (e :: f :: r).getLast? = (f :: r).getLast? := by simp [List.getLast?_cons_cons]
  rw [h3]
  generalize (match (f :: r).getLast? with | none => 0 | some e => if e.2.1 then 0 else 1) = q at h1 h2 ⊢
  simp only [List.length_nil, List.length_cons] at h1 h2
  cases he : e.2.1 with
  | true =>
   have e1 : bK g (e :: f :: r) = g ++ e.1 ++ ([10] ++ bK [] (f :: r)) := by simp [bK, he]
   have e2 : bG (e :: f :: r) = e.1.length + 1 + bG (f :: r) := rfl
   rw [e1, e2]
   simp only [List.length_append, List.length_cons, List.length_nil]
   omega
  | false =>
   have e1 : bK g (e :: f :: r) = g ++ e.1 ++ (bK [10] (f :: r)) := by simp [bK, he]
   have e2 : bG (e :: f :: r) = e.1.length + 1 + bG (f :: r) := rfl
   rw [e1, e2]
   simp only [List.length_append]
   omega
theorem zFy {n : Nat} {l : List iN} (hl : l.length <= 60) (hs : bG l <= 10000) (hn : 60 < n) : nK n l = some (bK [] l) := by
 have := zDr (n := n) hl hs l [] [] [] n rfl (by omega) (by simp [bG])
 unfold nK
 simpa [Rq] using this
theorem zIt {n : Nat} {l : List iN} (hl : l.length <= 60) (hs : bG l <= 10000) (hn : 60 < n) : iT n l = some (bK [] l) := by
 have := zIs (n := n) hl hs l [] [] n rfl (by omega) (by simp [bG, nM])
 unfold iT
 simpa [nM] using this
theorem zDt {n : Nat} {l : List iN} (hl : l.length <= 60) (hn : 60 < n) : iR n l = some l := by
 have := zDs (n := n) hl l [] n rfl (by omega)
 unfold iR
 simpa using this
theorem zIu {n : Nat} (hn : 60 < n) {l : List iN} (hl : l.length <= 60) : ∀ (r pre : List iN) (m : Nat), l = pre ++ r -> r.length < m -> bG pre <= 101 * pre.length ->
  fix (fT n) m (l, (bG pre : Int), (pre.length : Int), ()) = some true := by
 intro r
 induction r with
 | nil =>
  intro pre m hp hm hb
  have hp : pre = l := by simpa using hp.symm
  subst hp
  have hs : bG pre <= 10000 := by omega
  have hsum := xX pre []
  rw [mM (by omega), fT]
  simp only
  rw [nI (by simp), zFy hl hs hn]
  simp only [Qc, zDt hl hn, zIt hl hs hn]
  rcases List.eq_nil_or_concat pre with h0 | ⟨p0, x, h0⟩
  ·subst h0
   rfl
  ·have hpos : 0 < pre.length := by rw [h0]; simp
   have hx : bZ (Ty.dflt dA) pre ((pre.length : Int) - 1) = x := by
    have : ((pre.length : Int) - 1) = (p0.length : Int) := by rw [h0]; simp
    rw [this]
    exact jE (r := []) (by rw [h0]; simp)
   have hgl : pre.getLast? = some x := by rw [h0]; simp
   rw [hgl] at hsum
   have hne : (match pre with | [] => 0 | _ => ([] : List UInt8).length) = 0 := by cases pre <;> rfl
   rw [hne] at hsum
   rw [lU (decide_eq_true (by omega)), jK (by omega) (by omega), dF (Wx (by omega) (by omega)), hx]
   have hbb : (bK [] pre == bK [] pre) = true := by simp
   cases hxe : x.2.1 with
   | true =>
    simp only [hxe, if_true] at hsum
    rw [nI (by rfl), lU hbb]
    congr 1
    rw [beq_iff_eq]
    omega
   | false =>
    simp only [hxe, Bool.false_eq_true, if_false] at hsum
    rw [lU (by rfl), lU hbb, jK (by omega) (by omega)]
    congr 1
    rw [beq_iff_eq]
    omega
 | cons e r ih =>
  intro pre m hp hm hb
  have hm' : r.length + 1 < m := hm
  have hlen : l.length = pre.length + r.length + 1 := by rw [hp]; simp; omega
  have hsp : bG (pre ++ [e]) = bG pre + (e.1.length + 1) := by rw [oN]; simp [bG]
  rw [mM (by omega), fT]
  simp only
  rw [lU (decide_eq_true (by omega)), dF (uO (by omega)), jE hp]
  by_cases hlong : (e.1.length : Int) > 100
  ·rw [lU (decide_eq_true hlong)]
   rfl
  ·rw [nI (decide_eq_false hlong), dF (uO (by omega))]
   have hi := ih (pre ++ [e]) (m - 1) (by rw [hp]; simp) (by omega) (by rw [hsp]; simp; omega)
   rw [show ((pre ++ [e]).length : Int) = (pre.length : Int) + 1 by simp, hsp] at hi
   have hc : ((bG pre + (e.1.length + 1) : Nat) : Int) = (bG pre : Int) + ((e.1.length : Int) + 1) := by omega
   rw [hc] at hi
   rw [jK (x := (e.1.length : Int) + 1) (by omega) (by omega), jK (x := (bG pre : Int) + ((e.1.length : Int) + 1)) (by omega) (by omega), jK (by omega) (by omega)]
   exact hi
theorem uW (l : List iN) : nL 2000 l = some true := by
 unfold nL
 simp only
 by_cases h : (l.length : Int) > 60
 ·rw [lU (decide_eq_true h)]
  rfl
 ·rw [nI (decide_eq_false h)]
  simp only [shown15, Qc, Bool.not_true, Qb]
  have := zIu (n := 2000) (by omega) (l := l) (by omega) l [] 2000 rfl (by omega) (by simp [bG])
  simpa [bG] using this
end Go.Dec
