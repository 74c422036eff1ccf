/- What the document's own lines and links come to. No statement is proved here. -/
import Derived.Test.YtpehkjgbhnegmaaFuns
import Derived.Test.YtpehkjgbhnegmaaPlainC
namespace Go.Dec

theorem chk_of {ρ : Type} {b : Bool} (h : b = true) (x : Option ρ) : chk b x = x := by subst h; rfl
theorem br_of {ρ : Type} {b : Bool} (h : b = true) (x y : Option ρ) : br b x y = x := by subst h; rfl
theorem br_not {ρ : Type} {b : Bool} (h : b = false) (x y : Option ρ) : br b x y = y := by subst h; rfl

theorem take_drop_one {s pre r : List UInt8} {c : UInt8} (h : s = pre ++ c :: r) : (s.take (pre.length + 1)).drop pre.length = [c] := by
  subst h
  rw [List.take_length_add_append]
  simp

theorem getAt_mid {α : Type} {d : α} {s pre r : List α} {c : α} (h : s = pre ++ c :: r) : getAt d s (pre.length : Int) = c := by
  subst h
  simp [getAt, List.getD_eq_getElem?_getD]

theorem ref08_Split_go {n : Nat} {s : List UInt8} (hs : s.length ≤ 1000000) : ∀ (r pre w : List UInt8) (row : List Line) (m : Nat), s = pre ++ r → row.length ≤ pre.length → w.length ≤ pre.length → r.length < m →
    fix (ref08_Split_loop0 n) m (s, w, (pre.length : Int), row, ()) = some (row ++ splitA w r)
  | [], pre, w, row, m, hp, hr, hw, hm => by
    have hl : s.length = pre.length := by simp [hp]
    rw [fix_pos hm]
    rw [ref08_Split_loop0]
    simp only
    rw [br_not (by simp; omega)]
    cases w with
    | nil => simp [splitA]
    | cons a w =>
      rw [br_of (by simp), chk_of (by simp [room]; simp at hw; omega)]
      simp [splitA]
  | c :: r, pre, w, row, m, hp, hr, hw, hm => by
    have hl : s.length = pre.length + (r.length + 1) := by simp [hp]
    have hp2 : s = (pre ++ [c]) ++ r := by simp [hp]
    have hpl : ((pre ++ [c]).length : Int) = (pre.length : Int) + 1 := by simp
    simp only [List.length_cons] at hm
    rw [fix_pos (by omega)]
    rw [ref08_Split_loop0]
    simp only
    rw [br_of (by simp; omega), chk_of (inBn (by omega)), wrapI (by omega) (by omega), getAt_mid hp, ← hpl]
    by_cases hc : c = 10
    · subst hc
      rw [br_of (by decide), chk_of (by simp [room]; omega)]
      rw [ref08_Split_go hs r (pre ++ [10]) [] (row ++ [(w, true, ())]) (m - 1) hp2 (by simp; omega) (by simp) (by omega)]
      simp [splitA]
    · have hcn : ((c.toNat : Int) == 10) = false := by
        simp only [beq_eq_false_iff_ne, ne_eq]
        intro h
        have h2 : c.toNat = (10 : UInt8).toNat := by show c.toNat = 10; omega
        exact hc (UInt8.toNat_inj.1 h2)
      rw [br_not hcn, chk_of (by simp; omega)]
      have ht : (s.take ((pre ++ [c]).length : Int).toNat).drop (pre.length : Int).toNat = [c] := by
        have := take_drop_one hp
        simpa using this
      rw [ht, chk_of (by simp [maxStr]; omega)]
      rw [ref08_Split_go hs r (pre ++ [c]) (w ++ [c]) row (m - 1) hp2 (by simp; omega) (by simp; omega) (by omega)]
      simp [splitA, hc]

theorem ref08_Split_eq {n : Nat} {s : List UInt8} (hs : s.length ≤ 1000000) (hn : s.length < n) : ref08_Split n s = some (splitL s) := by
  have := ref08_Split_go (n := n) hs s [] [] [] n rfl (by simp) (by simp) hn
  simpa [ref08_Split, splitL] using this

theorem ref08_Join_go {n : Nat} {l : List Line} (hs : (joinL l).length ≤ 1000000) (hl : l.length ≤ 1000000) : ∀ (r pre : List Line) (m : Nat), l = pre ++ r → r.length < m →
    fix (ref08_Join_loop0 n) m (l, joinL pre, (pre.length : Int), ()) = some (joinL l)
  | [], pre, m, hp, hm => by
    have hl : l.length = pre.length := by simp [hp]
    rw [fix_pos hm]
    rw [ref08_Join_loop0]
    simp only
    rw [br_not (by simp; omega)]
    simp [hp]
  | x :: r, pre, m, hp, hm => by
    have hl2 : l.length = pre.length + (r.length + 1) := by simp [hp]
    have hp2 : l = (pre ++ [x]) ++ r := by simp [hp]
    have hpl : ((pre ++ [x]).length : Int) = (pre.length : Int) + 1 := by simp
    have hj : (joinL l).length = (joinL pre).length + ((line1 x).length + (joinL r).length) := by simp [hp, joinL]
    have hx : (line1 x).length = x.1.length + (if x.2.1 then [10] else [] : List UInt8).length := by simp [line1]
    simp only [List.length_cons] at hm
    rw [fix_pos (by omega)]
    rw [ref08_Join_loop0]
    simp only
    rw [br_of (by simp; omega), chk_of (inBn (by omega)), getAt_mid hp, chk_of (decide_eq_true (by unfold maxStr; omega)), chk_of (inBn (by omega)), wrapI (by omega) (by omega), ← hpl]
    have ih := ref08_Join_go (n := n) hs hl r (pre ++ [x]) (m - 1) hp2 (by omega)
    have e : joinL (pre ++ [x]) = joinL pre ++ line1 x := by simp [joinL]
    rw [e] at ih
    cases he : x.2.1 with
    | true =>
      rw [he] at hx
      simp only [if_true] at hx
      simp only [List.length_singleton] at hx
      rw [br_of rfl, chk_of (decide_eq_true (by simp only [List.length_append, List.length_singleton]; unfold maxStr; omega))]
      have e2 : line1 x = x.1 ++ [10] := by simp [line1, he]
      rw [e2] at ih
      rw [← ih]
      simp
    | false =>
      rw [br_not rfl]
      have e2 : line1 x = x.1 := by simp [line1, he]
      rw [e2] at ih
      exact ih

theorem ref08_Join_eq {n : Nat} {l : List Line} (hs : (joinL l).length ≤ 1000000) (hl : l.length ≤ 1000000) (hn : l.length < n) : ref08_Join n l = some (joinL l) := by
  have := ref08_Join_go (n := n) hs hl l [] n rfl hn
  simpa [ref08_Join, joinL] using this
end Go.Dec
