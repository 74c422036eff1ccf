/- Part of a proof over this seat: a library of my own, and what it says of this seat. No statement is proved here. -/
import Derived.Test.YtlimifngdjkogaaGreatDoorPartBT
import Derived.Test.YtlimifngdjkogaaGreatDoorPartBI
namespace Go.Dec
abbrev iM := List UInt8 × Bool × Unit
def bJ : List UInt8 -> List iM -> List UInt8
 | _, [] => []
 | g, e :: r => g ++ e.1 ++ (if e.2.1 then [10] ++ bJ [] r else bJ [10] r)
def bF : List iM -> Nat
 | [] => 0
 | e :: r => e.1.length + 1 + bF r
theorem oM : ∀ (a b : List iM), bF (a ++ b) = bF a + bF b
 | [], b => by simp [bF]
 | e :: a, b => by simp only [List.cons_append, bF, oM a b]; omega
theorem zEi {n : Nat} {s : List UInt8} {a : List UInt8} (h : a.length + s.length <= 1000000) : bD n (s, aK a, ()) = some ((s.length : Int), false, aK (a ++ s), ()) := by
 unfold bD lS
 simp only [Qb]
 rw [dD (by simp only [Rq]; simp [room]; omega), Gz]
def nL (pre : List iM) : List UInt8 := match pre.getLast? with
 | none => []
 | some e => if e.2.1 then [] else [10]
theorem zDq {n : Nat} {l : List iM} (hl : l.length <= 60) (hs : bF l <= 10000) : ∀ (r pre : List iM) (g a : List UInt8) (m : Nat), l = pre ++ r -> r.length < m -> a.length + g.length <= bF pre ->
  fix (iB n) m (g, l, (l.length : Int), (pre.length : Int), aK a, ()) = some (a ++ bJ g r) := by
 intro r
 induction r with
 | nil =>
  intro pre g a m hp hm ha
  have hp : pre = l := by simpa using hp.symm
  subst hp
  rw [mK (by omega), iB]
  simp only
  rw [nH (by simp), Tv]
  simp [bJ]
 | cons e r ih =>
  intro pre g a m hp hm ha
  have hm' : r.length + 1 < m := hm
  have hlen : l.length = pre.length + r.length + 1 := by rw [hp]; simp; omega
  have hsum : bF l = bF pre + (e.1.length + 1 + bF r) := by rw [hp, oM]; rfl
  have hsp : bF (pre ++ [e]) = bF pre + (e.1.length + 1) := by rw [oM]; simp [bF]
  have hi : ∀ (g' a' : List UInt8), a'.length + g'.length <= bF (pre ++ [e]) -> fix (iB n) (m - 1) (g', l, (l.length : Int), (pre.length : Int) + 1, aK a', ()) = some (a' ++ bJ g' r) := fun g' a' h1 => by
   have := ih (pre ++ [e]) g' a' (m - 1) (by rw [hp]; simp) (by omega) h1
   rwa [show ((pre ++ [e]).length : Int) = (pre.length : Int) + 1 by simp] at this
  rw [mK (by omega), iB]
  simp only
  rw [lT (decide_eq_true (by omega)), dD (uN (by omega)), jD hp, dD (decide_eq_true (by simp [eX]; omega)), zEi (by simp; omega)]
  simp only [Qb]
  cases he : e.2.1 with
  | true =>
   simp only [Wv]
   rw [zEi (by simp; omega)]
   simp only [Qb]
   rw [jJ (by omega) (by omega), hi _ _ (by simp; omega)]
   simp [bJ, he]
  | false =>
   simp only [Qa]
   rw [jJ (by omega) (by omega), hi _ _ (by simp; omega)]
   simp [bJ, he]
theorem zDr {n : Nat} {l : List iM} (hl : l.length <= 60) : ∀ (r pre : List iM) (m : Nat), l = pre ++ r -> r.length < m -> fix (iV n) m (l, (pre.length : Int), pre, ()) = some l := by
 intro r
 induction r with
 | nil =>
  intro pre m hp hm
  have hp : pre = l := by simpa using hp.symm
  subst hp
  rw [mK (by omega), iV]
  simp only
  rw [nH (by simp)]
 | cons e r ih =>
  intro pre m hp hm
  have hm' : r.length + 1 < m := hm
  have hlen : l.length = pre.length + r.length + 1 := by rw [hp]; simp; omega
  have hi := ih (pre ++ [e]) (m - 1) (by rw [hp]; simp) (by omega)
  rw [show ((pre ++ [e]).length : Int) = (pre.length : Int) + 1 by simp] at hi
  rw [mK (by omega), iV]
  simp only
  rw [lT (decide_eq_true (by omega)), dD (uN (by omega)), jD hp, dD (by simp [room]; omega), jJ (by omega) (by omega)]
  exact hi
theorem zIr {n : Nat} {l : List iM} (hl : l.length <= 60) (hs : bF l <= 10000) : ∀ (r pre : List iM) (a : List UInt8) (m : Nat), l = pre ++ r -> r.length < m -> a.length + (nL pre).length <= bF pre ->
  fix (gB n) m (l, a, (pre.length : Int), ()) = some (a ++ bJ (nL pre) r) := by
 intro r
 induction r with
 | nil =>
  intro pre a m hp hm ha
  have hp : pre = l := by simpa using hp.symm
  subst hp
  rw [mK (by omega), gB]
  simp only
  rw [nH (by simp)]
  simp [bJ]
 | cons e r ih =>
  intro pre a m hp hm ha
  have hm' : r.length + 1 < m := hm
  have hlen : l.length = pre.length + r.length + 1 := by rw [hp]; simp; omega
  have hsum : bF l = bF pre + (e.1.length + 1 + bF r) := by rw [hp, oM]; rfl
  have hsp : bF (pre ++ [e]) = bF pre + (e.1.length + 1) := by rw [oM]; simp [bF]
  have zKk : nL (pre ++ [e]) = if e.2.1 then [] else [10] := by simp [nL]
  have hi : ∀ (a' : List UInt8), a'.length + (nL (pre ++ [e])).length <= bF (pre ++ [e]) -> fix (gB n) (m - 1) (l, a', (pre.length : Int) + 1, ()) = some (a' ++ bJ (nL (pre ++ [e])) r) := fun a' h1 => by
   have := ih (pre ++ [e]) a' (m - 1) (by rw [hp]; simp) (by omega) h1
   rwa [show ((pre ++ [e]).length : Int) = (pre.length : Int) + 1 by simp] at this
  rw [zKk] at hi
  rw [mK (by omega), gB]
  simp only
  rw [lT (decide_eq_true (by omega))]
  rcases List.eq_nil_or_concat pre with h0 | ⟨p0, x, h0⟩
  ·have hg0 : nL pre = [] := by rw [h0]; rfl
   have hl0 : (pre.length : Int) = 0 := by rw [h0]; rfl
   rw [hg0] at ha ⊢
   simp only [List.length_nil] at ha
   rw [nH (by rw [hl0]; rfl), dD (uN (by omega)), jD hp, dD (decide_eq_true (by simp [eX]; omega)), dD (uN (by omega))]
   cases he : e.2.1 with
   | true =>
    rw [he] at hi
    simp only [if_true] at hi
    rw [Wv, dD (decide_eq_true (by simp [eX]; omega)), jJ (by omega) (by omega), hi _ (by simp; omega)]
    simp [bJ, he]
   | false =>
    rw [he] at hi
    simp only [Bool.false_eq_true, if_false] at hi
    rw [Qa, jJ (by omega) (by omega), hi _ (by simp; omega)]
    simp [bJ, he]
  ·have hx : bY (Ty.dflt cZ) l ((pre.length : Int) - 1) = x := by
    have : ((pre.length : Int) - 1) = (p0.length : Int) := by rw [h0]; simp
    rw [this]
    exact jD (r := e :: r) (by rw [hp, h0]; simp)
   have hpos : 0 < pre.length := by rw [h0]; simp
   have hgx : nL pre = if x.2.1 then [] else [10] := by rw [h0]; simp [nL]
   rw [lT (decide_eq_true (by omega)), jJ (by omega) (by omega), dD (Ww (by omega) (by omega)), hx]
   cases hxe : x.2.1 with
   | true =>
    rw [hxe] at hgx
    simp only [if_true] at hgx
    rw [hgx] at ha ⊢
    simp only [List.length_nil] at ha
    rw [nH (by rfl), dD (uN (by omega)), jD hp, dD (decide_eq_true (by simp [eX]; omega)), dD (uN (by omega))]
    cases he : e.2.1 with
    | true =>
     rw [he] at hi
     simp only [if_true] at hi
     rw [Wv, dD (decide_eq_true (by simp [eX]; omega)), jJ (by omega) (by omega), hi _ (by simp; omega)]
     simp [bJ, he]
    | false =>
     rw [he] at hi
     simp only [Bool.false_eq_true, if_false] at hi
     rw [Qa, jJ (by omega) (by omega), hi _ (by simp; omega)]
     simp [bJ, he]
   | false =>
    rw [hxe] at hgx
    simp only [Bool.false_eq_true, if_false] at hgx
    rw [hgx] at ha ⊢
    simp only [List.length_cons, List.length_nil] at ha
    rw [lT (by rfl), dD (decide_eq_true (by simp [eX]; omega)), dD (uN (by omega)), jD hp, dD (decide_eq_true (by simp [eX]; omega)), dD (uN (by omega))]
    cases he : e.2.1 with
    | true =>
     rw [he] at hi
     simp only [if_true] at hi
     rw [Wv, dD (decide_eq_true (by simp [eX]; omega)), jJ (by omega) (by omega), hi _ (by simp; omega)]
     simp [bJ, he]
    | false =>
     rw [he] at hi
     simp only [Bool.false_eq_true, if_false] at hi
     rw [Qa, jJ (by omega) (by omega), hi _ (by simp; omega)]
     simp [bJ, he]
theorem xW : ∀ (l : List iM) (g : List UInt8), (bJ g l).length + (match l.getLast? with | none => 0 | some e => if e.2.1 then 0 else 1) = (match l with | [] => 0 | _ => g.length) + bF l
 | [], g => by simp [bJ, bF]
 | [e], g => by
  cases he : e.2.1 <;> simp [bJ, bF, he] <;> omega
 | e :: f :: r, g => by
  have h1 := xW (f :: r) []
  have h2 := xW (f :: r) [10]
  have h3 : (e :: f :: r).getLast? = (f :: r).getLast? := by simp [List.getLast?_cons_cons]
  rw [h3]
  generalize (match (f :: r).getLast? with | none => 0 | some e => if e.2.1 then 0 else 1) = q at h1 h2 ⊢
  simp only [List.length_nil, List.length_cons] at h1 h2
  cases he : e.2.1 with
  | true =>
   have e1 : bJ g (e :: f :: r) = g ++ e.1 ++ ([10] ++ bJ [] (f :: r)) := by simp [bJ, he]
   have e2 : bF (e :: f :: r) = e.1.length + 1 + bF (f :: r) := rfl
   rw [e1, e2]
   simp only [List.length_append, List.length_cons, List.length_nil]
   omega
  | false =>
   have e1 : bJ g (e :: f :: r) = g ++ e.1 ++ (bJ [10] (f :: r)) := by simp [bJ, he]
   have e2 : bF (e :: f :: r) = e.1.length + 1 + bF (f :: r) := rfl
   rw [e1, e2]
   simp only [List.length_append]
   omega
theorem zFx {n : Nat} {l : List iM} (hl : l.length <= 60) (hs : bF l <= 10000) (hn : 60 < n) : nJ n l = some (bJ [] l) := by
 have := zDq (n := n) hl hs l [] [] [] n rfl (by omega) (by simp [bF])
 unfold nJ
 simpa [Rp] using this
theorem zIs {n : Nat} {l : List iM} (hl : l.length <= 60) (hs : bF l <= 10000) (hn : 60 < n) : iR n l = some (bJ [] l) := by
 have := zIr (n := n) hl hs l [] [] n rfl (by omega) (by simp [bF, nL])
 unfold iR
 simpa [nL] using this
theorem zDs {n : Nat} {l : List iM} (hl : l.length <= 60) (hn : 60 < n) : iQ n l = some l := by
 have := zDr (n := n) hl l [] n rfl (by omega)
 unfold iQ
 simpa using this
theorem zIt {n : Nat} (hn : 60 < n) {l : List iM} (hl : l.length <= 60) : ∀ (r pre : List iM) (m : Nat), l = pre ++ r -> r.length < m -> bF pre <= 101 * pre.length ->
  fix (fQ n) m (l, (bF pre : Int), (pre.length : Int), ()) = some true := by
 intro r
 induction r with
 | nil =>
  intro pre m hp hm hb
  have hp : pre = l := by simpa using hp.symm
  subst hp
  have hs : bF pre <= 10000 := by omega
  have hsum := xW pre []
  rw [mK (by omega), fQ]
  simp only
  rw [nH (by simp), zFx hl hs hn]
  simp only [Qb, zDs hl hn, zIs hl hs hn]
  rcases List.eq_nil_or_concat pre with h0 | ⟨p0, x, h0⟩
  ·subst h0
   rfl
  ·have hpos : 0 < pre.length := by rw [h0]; simp
   have hx : bY (Ty.dflt cZ) pre ((pre.length : Int) - 1) = x := by
    have : ((pre.length : Int) - 1) = (p0.length : Int) := by rw [h0]; simp
    rw [this]
    exact jD (r := []) (by rw [h0]; simp)
   have hgl : pre.getLast? = some x := by rw [h0]; simp
   rw [hgl] at hsum
   have hne : (match pre with | [] => 0 | _ => ([] : List UInt8).length) = 0 := by cases pre <;> rfl
   rw [hne] at hsum
   rw [lT (decide_eq_true (by omega)), jJ (by omega) (by omega), dD (Ww (by omega) (by omega)), hx]
   have hbb : (bJ [] pre == bJ [] pre) = true := by simp
   cases hxe : x.2.1 with
   | true =>
    simp only [hxe, if_true] at hsum
    rw [nH (by rfl), lT hbb]
    congr 1
    rw [beq_iff_eq]
    omega
   | false =>
    simp only [hxe, Bool.false_eq_true, if_false] at hsum
    rw [lT (by rfl), lT hbb, jJ (by omega) (by omega)]
    congr 1
    rw [beq_iff_eq]
    omega
 | cons e r ih =>
  intro pre m hp hm hb
  have hm' : r.length + 1 < m := hm
  have hlen : l.length = pre.length + r.length + 1 := by rw [hp]; simp; omega
  have hsp : bF (pre ++ [e]) = bF pre + (e.1.length + 1) := by rw [oM]; simp [bF]
  rw [mK (by omega), fQ]
  simp only
  rw [lT (decide_eq_true (by omega)), dD (uN (by omega)), jD hp]
  by_cases hlong : (e.1.length : Int) > 100
  ·rw [lT (decide_eq_true hlong)]
   rfl
  ·rw [nH (decide_eq_false hlong), dD (uN (by omega))]
   have hi := ih (pre ++ [e]) (m - 1) (by rw [hp]; simp) (by omega) (by rw [hsp]; simp; omega)
   rw [show ((pre ++ [e]).length : Int) = (pre.length : Int) + 1 by simp, hsp] at hi
   have hc : ((bF pre + (e.1.length + 1) : Nat) : Int) = (bF pre : Int) + ((e.1.length : Int) + 1) := by omega
   rw [hc] at hi
   rw [jJ (x := (e.1.length : Int) + 1) (by omega) (by omega), jJ (x := (bF pre : Int) + ((e.1.length : Int) + 1)) (by omega) (by omega), jJ (by omega) (by omega)]
   exact hi
theorem uV (l : List iM) : nK 2000 l = some true := by
 unfold nK
 simp only
 by_cases h : (l.length : Int) > 60
 ·rw [lT (decide_eq_true h)]
  rfl
 ·rw [nH (decide_eq_false h)]
  simp only [shown15, Qb, Bool.not_true, Qa]
  have := zIt (n := 2000) (by omega) (l := l) (by omega) l [] 2000 rfl (by omega) (by simp [bF])
  simpa [bF] using this
end Go.Dec
