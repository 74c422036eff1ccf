/- The law of TableBack over plain functions. No statement is proved here. -/
import Derived.Test.YtpehkjgbhnegmaaLinkLinesLaw
namespace Go.Dec

theorem WriteByte_eq {n : Nat} {c : Int} {row : List Int} (h : row.length ≤ 1000000) : strings_Builder_WriteByte n (c, row, ()) = some (false, row ++ [c], ()) := by
  unfold strings_Builder_WriteByte
  simp only [Builder_check, ob_s]
  rw [chk_of (by rw [Nat.ble_eq]; simp [room]; omega)]

theorem joinL_app (a b : List Line) : joinL (a ++ b) = joinL a ++ joinL b := by simp [joinL]

theorem table_Join_go {n : Nat} {l : List Line} (hl : l.length ≤ 100000) (hj : (joinL l).length ≤ 100000) : ∀ (r pre : List Line) (m : Nat), l = pre ++ r → r.length < m →
    fix (table_Join_loop0 n) m (l, (l.length : Int), (pre.length : Int), sToBytes (joinL pre), ()) = some (joinL l) := by
  intro r
  induction r with
  | nil =>
    intro pre m hp hm
    have hp : pre = l := by simpa using hp.symm
    subst hp
    rw [fix_pos (by omega), table_Join_loop0]
    simp only
    rw [br_not (by simp), String_eq, ob_s]
  | cons e r ih =>
    intro pre m hp hm
    have hm' : r.length + 1 < m := hm
    have hlen : l.length = pre.length + r.length + 1 := by rw [hp]; simp; omega
    have hjl : (joinL pre).length + (line1 e).length + (joinL r).length = (joinL l).length := by rw [hp, joinL_app]; simp [joinL]; omega
    have he1 : e.1.length ≤ (line1 e).length := by simp [line1]
    have hi := ih (pre ++ [e]) (m - 1) (by rw [hp]; simp) (by omega)
    rw [joinL_mid, show ((pre ++ [e]).length : Int) = (pre.length : Int) + 1 by simp] at hi
    rw [fix_pos (by omega), table_Join_loop0]
    simp only
    rw [br_of (decide_eq_true (by omega)), chk_of (inBn (by omega)), getAt_mid hp, WriteString_eq (by rw [sToBytes_len]; omega), ob_s]
    simp only
    rw [wrapI (by omega) (by omega)]
    cases hE : e.2.1
    · rw [br_f]
      rw [show sToBytes (joinL pre) ++ sToBytes e.1 = sToBytes (joinL pre ++ line1 e) by simp [sToBytes_app, line1, hE]]
      exact hi
    · rw [br_t, WriteByte_eq (by simp [sToBytes_len]; omega), ob_s]
      rw [show sToBytes (joinL pre) ++ sToBytes e.1 ++ [10] = sToBytes (joinL pre ++ line1 e) by simp [sToBytes_app, line1, hE]; rfl]
      exact hi

theorem table_Join_eq {n : Nat} {l : List Line} (hl : l.length ≤ 100000) (hj : (joinL l).length ≤ 100000) (hn : l.length < n) : table_Join n l = some (joinL l) := by
  have := table_Join_go (n := n) hl hj l [] n rfl hn
  simpa [table_Join, joinL, sToBytes] using this

/-- What lines of a text are. -/
def okL : List Line → Prop
  | [] => True
  | e :: r => (10 ∉ e.1 ∧ (e.2.1 = false → r = [] ∧ e.1 ≠ [])) ∧ okL r

theorem okL_splitA : ∀ (s w : List UInt8), 10 ∉ w → okL (splitA w s)
  | [], [], _ => trivial
  | [], c :: w, h => ⟨⟨h, fun _ => ⟨rfl, by simp⟩⟩, trivial⟩
  | c :: s, w, h => by
    unfold splitA
    split
    · exact ⟨⟨h, fun e => by cases e⟩, okL_splitA s [] (by simp)⟩
    · rename_i hc
      exact okL_splitA s (w ++ [c]) (by simp [h]; exact fun e => hc e.symm)

theorem okL_mid : ∀ {pre : List Line} {e : Line} {r : List Line}, okL (pre ++ e :: r) → 10 ∉ e.1 ∧ (e.2.1 = false → r = [] ∧ e.1 ≠ [])
  | [], _, _, h => h.1
  | _ :: pre, _, _, h => okL_mid (pre := pre) h.2

theorem back_inner {n : Nat} {s : List UInt8} {l pre r : List Line} {e : Line} (hp : l = pre ++ e :: r) (hl : l.length ≤ 100000) (he : e.1.length ≤ 100000) (h10 : 10 ∉ e.1) (hlast : e.2.1 = false → r = [] ∧ e.1 ≠ []) (g0 : List UInt8 × List (List UInt8 × Bool × Unit) × Int × Unit → Option (Bool)) :
    ∀ (t q : List UInt8) (m : Nat), e.1 = q ++ t → t.length < m → fix (law08_TableBack_loop1 n g0) m (s, l, (pre.length : Int), (q.length : Int), ()) = g0 (s, l, (pre.length : Int) + 1, ()) := by
  have hlen : l.length = pre.length + r.length + 1 := by rw [hp]; simp; omega
  intro t
  induction t with
  | nil =>
    intro q m hq hm
    have hq : q = e.1 := by simpa using hq.symm
    subst hq
    rw [fix_pos (by omega), law08_TableBack_loop1]
    simp only
    rw [chk_of (inBn (by omega)), getAt_mid hp, br_not (by simp), chk_of (inBn (by omega)), wrapI (by omega) (by omega)]
    cases hE : e.2.1
    · obtain ⟨h1, h2⟩ := hlast hE
      subst h1
      simp only [Bool.not_false, br_t]
      rw [wrapI (by omega) (by omega), br_not (decide_eq_false (by simp at hlen; omega)), chk_of (inBn (by omega)), br_not (by simpa using h2)]
    · simp only [Bool.not_true, br_f]
      rw [wrapI (by omega) (by omega)]
  | cons c t ih =>
    intro q m hq hm
    have hm' : t.length + 1 < m := hm
    have hel : e.1.length = q.length + t.length + 1 := by rw [hq]; simp; omega
    have hc : c ≠ 10 := fun h => h10 (by rw [hq, h]; simp)
    have hi := ih (q ++ [c]) (m - 1) (by rw [hq]; simp) (by omega)
    rw [show ((q ++ [c]).length : Int) = (q.length : Int) + 1 by simp] at hi
    rw [fix_pos (by omega), law08_TableBack_loop1]
    simp only
    rw [chk_of (inBn (by omega)), getAt_mid hp, br_of (decide_eq_true (by omega)), chk_of (inBn (by omega)), chk_of (inBn (by omega)), getAt_mid hq, wrapI (by omega) (by omega)]
    rw [br_not (by
      have : c.toNat ≠ 10 := fun h => hc (UInt8.toNat_inj.1 h)
      simp; omega)]
    exact hi

theorem back_outer {n : Nat} {s : List UInt8} {l : List Line} (hs : s.length ≤ 1000) (hl : l = splitL s) (hn : 2000 ≤ n) : ∀ (r pre : List Line) (m : Nat), l = pre ++ r → r.length < m →
    fix (law08_TableBack_loop0 n) m (s, l, (pre.length : Int), ()) = some true := by
  have hll : l.length ≤ s.length + 1 := by rw [hl]; exact splitA_len s []
  have hj : joinL l = s := by rw [hl]; exact joinL_splitL s
  have hok : okL l := by rw [hl]; exact okL_splitA s [] (by simp)
  intro r
  induction r with
  | nil =>
    intro pre m hp hm
    have hp : pre = l := by simpa using hp.symm
    subst hp
    rw [fix_pos (by omega), law08_TableBack_loop0]
    simp only
    rw [br_not (by simp), table_Join_eq (by omega) (by rw [hj]; omega) (by omega), ob_s, hj]
    simp
  | cons e r ih =>
    intro pre m hp hm
    have hm' : r.length + 1 < m := hm
    have hlen : l.length = pre.length + r.length + 1 := by rw [hp]; simp; omega
    obtain ⟨h1, h2⟩ := okL_mid (by rw [hp] at hok; exact hok)
    have hel : e.1.length ≤ s.length := by
      rw [← hj, hp, joinL_app]
      simp [joinL, line1]
      omega
    have hi := ih (pre ++ [e]) (m - 1) (by rw [hp]; simp) (by omega)
    rw [show ((pre ++ [e]).length : Int) = (pre.length : Int) + 1 by simp] at hi
    rw [fix_pos (by omega), law08_TableBack_loop0]
    simp only
    rw [br_of (decide_eq_true (by omega))]
    have := back_inner (n := n) (s := s) hp (by omega) (by omega) h1 h2 (fix (law08_TableBack_loop0 n) (m - 1)) e.1 [] n rfl (by omega)
    rw [show (([] : List UInt8).length : Int) = 0 from rfl] at this
    rw [this]
    exact hi

theorem law08_shown_t : law08_shown 2000 () = some true := by kernel_rfl

theorem law08_TableBack_true (s : List UInt8) : law08_TableBack 2000 s = some true := by
  unfold law08_TableBack
  simp only [law08_shown_t, ob_s]
  by_cases h1 : (s.length : Int) > 500
  · rw [br_of (by simpa using h1)]
  rw [br_not (by simpa using h1)]
  simp only [Bool.not_true, br_f]
  rw [table_Split_eq _ (by omega), ob_s]
  exact back_outer (by omega) rfl (Nat.le_refl _) (splitL s) [] 2000 rfl (by have := splitA_len s []; simp only [splitL]; omega)

theorem law08_TableBack_claim (x : Dens [.str]) (_ : DensWF [.str] x) : law08_TableBack 2000 x = some true := law08_TableBack_true x
end Go.Dec
