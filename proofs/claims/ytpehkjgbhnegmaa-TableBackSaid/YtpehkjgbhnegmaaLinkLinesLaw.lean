/- The law of LinkLines over plain functions, to its end. No statement is proved here. -/
import Derived.Test.YtpehkjgbhnegmaaLinkBytesLaw
namespace Go.Dec

def goodL (row : List Line) : Prop := ∀ x ∈ row, x.2.1 = true ∧ 10 ∉ x.1

theorem splitA_good : ∀ (t w r : List UInt8), 10 ∉ t → splitA w (t ++ 10 :: r) = (w ++ t, true, ()) :: splitL r
  | [], w, r, _ => by simp [splitA, splitL]
  | c :: t, w, r, h => by
    have hc : c ≠ 10 := fun e => h (by simp [e])
    have ht : 10 ∉ t := fun e => h (by simp [e])
    have := splitA_good t (w ++ [c]) r ht
    simp only [List.cons_append, splitA, hc, if_false, this]
    simp

theorem splitL_app : ∀ (row : List Line) (d : List UInt8), goodL row → splitL (joinL row ++ d) = row ++ splitL d
  | [], d, _ => by simp [joinL]
  | (t, e, u) :: row, d, h => by
    obtain ⟨h1, h2⟩ := h (t, e, u) (.head _)
    simp only at h1 h2
    subst h1
    have ih := splitL_app row d fun q hq => h q (.tail _ hq)
    have e1 : joinL ((t, true, u) :: row) ++ d = t ++ 10 :: (joinL row ++ d) := by simp [joinL, line1]
    rw [e1]
    show splitA [] _ = _
    rw [splitA_good t [] _ h2, ih]
    simp

theorem goodL_len : ∀ (row : List Line), goodL row → row.length ≤ (joinL row).length
  | [], _ => by simp
  | (t, e, u) :: row, h => by
    obtain ⟨h1, _⟩ := h (t, e, u) (.head _)
    have ih := goodL_len row fun q hq => h q (.tail _ hq)
    simp only at h1
    subst h1
    have e1 : joinL ((t, true, u) :: row) = t ++ 10 :: joinL row := by simp [joinL, line1]
    rw [e1]
    simp
    omega

theorem cutLf_true : ∀ (s : List UInt8), (cutLf s).2.2 = true → s = (cutLf s).1 ++ 10 :: (cutLf s).2.1 ∧ 10 ∉ (cutLf s).1
  | [], h => by simp [cutLf] at h
  | c :: r, h => by
    unfold cutLf at h ⊢
    split
    · rename_i hc; simp [hc]
    · rename_i hc
      rw [if_neg hc] at h
      obtain ⟨h1, h2⟩ := cutLf_true r h
      refine ⟨?_, ?_⟩
      · simp only [List.cons_append, List.cons.injEq, true_and]; exact h1
      · simp only [List.mem_cons, not_or]; exact ⟨fun e => hc e.symm, h2⟩
theorem cutLf_false : ∀ (s : List UInt8), (cutLf s).2.2 = false → (cutLf s).2.1 = []
  | [], _ => by simp [cutLf]
  | c :: r, h => by
    unfold cutLf at h ⊢
    split
    · rename_i hc; rw [if_pos hc] at h; cases h
    · rename_i hc
      rw [if_neg hc] at h
      exact cutLf_false r h

theorem goodL_mid {row : List Line} {x : Line} (h : goodL row) (h1 : x.2.1 = true) (h2 : 10 ∉ x.1) : goodL (row ++ [x]) := by
  intro q hq
  rcases List.mem_append.1 hq with hq | hq
  · exact h q hq
  · simp at hq; subst hq; exact ⟨h1, h2⟩

theorem joinL_mid (row : List Line) (x : Line) : joinL (row ++ [x]) = joinL row ++ line1 x := by simp [joinL]

theorem takeS_no {s : List UInt8} {g c : Bool} {u : Unit} (h : s = [] ∨ ((cutLf s).2.1 = [] ∧ c = false)) : takeS (s, g, c, u) = ((s, g, c, u), ([], false, ()), false, false) := if_pos h
theorem takeS_yes {s : List UInt8} {g c : Bool} {u : Unit} (h : ¬ (s = [] ∨ ((cutLf s).2.1 = [] ∧ c = false))) : takeS (s, g, c, u) = (((cutLf s).2.1, g, c, u), ((cutLf s).1, (cutLf s).2.2, ()), ((cutLf s).2.1 == []), true) := if_neg h

theorem room24 {a : Nat} (h : a ≤ 100000) : Nat.ble (a * 24) room = true := by rw [Nat.ble_eq]; unfold room; omega

theorem lines_open {n : Nat} {l : List Line} {takes : List Bool} {i : Nat} (hi : i < l.length) (hl : l.length ≤ 40) (g0 : List (List UInt8 × Bool × Unit) × List (Bool) × Int × Int × List UInt8 × Bool × Bool × List (List UInt8 × Bool × Unit) × Unit → Option (Bool)) (G : Bool) :
    ∀ (m : Nat) (D : List UInt8) (row : List Line), D.length < m → goodL row → (joinL row ++ D).length ≤ 3000 → (row = [] ∨ D ≠ []) →
    ∃ D' row', (row' = [] ∨ D' ≠ []) ∧ goodL row' ∧ joinL row' ++ D' = joinL row ++ D ∧ fix (law18_LinkLines_loop1 n g0) m (l, takes, 0, (i : Int), D, G, false, row, ()) = g0 (l, takes, 0, (i : Int) + 1, D', G, false, row', ()) := by
  intro m
  induction m with
  | zero => intro D row h; omega
  | succ m ih =>
    intro D row hm hg hb hv0
    have hrl := goodL_len row hg
    have hb' : (joinL row).length + D.length ≤ 3000 := by simpa using hb
    rw [fix_succ, law18_LinkLines_loop1]
    simp only
    rw [br_not (by simp; omega), wrapI (by omega) (by omega)]
    by_cases h1 : (i : Int) < (takes.length : Int)
    · rw [br_of (decide_eq_true h1), chk_of (inB_t (by omega) h1)]
      cases hv : getAt (Ty.dflt .bool) takes (i : Int)
      · rw [br_f]
        exact ⟨D, row, hv0, hg, rfl, rfl⟩
      · rw [br_t, link_Take_eq n _ (by simp only; omega), ob_s]
        by_cases h2 : D = [] ∨ ((cutLf D).2.1 = [] ∧ false = false)
        · rw [takeS_no h2]
          simp only [Bool.not_false, br_t]
          exact ⟨D, row, hv0, hg, rfl, rfl⟩
        · rw [takeS_yes h2]
          have hD : D ≠ [] := fun h => h2 (.inl h)
          have hR : (cutLf D).2.1 ≠ [] := fun h => h2 (.inr ⟨h, rfl⟩)
          have hT : (cutLf D).2.2 = true := by
            cases hc : (cutLf D).2.2
            · exact absurd (cutLf_false D hc) hR
            · rfl
          obtain ⟨hs1, hs2⟩ := cutLf_true D hT
          have hsh := cutLf_short hD
          simp only [Bool.not_true, br_f, beq_false_of_ne hR, hT]
          rw [br_not (by simp), chk_of (room24 (by simp; omega))]
          have hj : joinL (row ++ [((cutLf D).1, true, ())]) ++ (cutLf D).2.1 = joinL row ++ D := by
            rw [joinL_mid]
            conv => rhs; rw [hs1]
            simp [line1]
          obtain ⟨D', row', q0, q1, q2, q3⟩ := ih (cutLf D).2.1 (row ++ [((cutLf D).1, true, ())]) (by omega) (goodL_mid hg rfl hs2) (by rw [hj]; exact hb) (.inr hR)
          exact ⟨D', row', q0, q1, q2.trans hj, q3⟩
    · rw [br_not (decide_eq_false h1)]
      exact ⟨D, row, hv0, hg, rfl, rfl⟩

theorem lines_end {n : Nat} {l : List Line} {takes : List Bool} (hl : l.length ≤ 40) (g0 : List (List UInt8 × Bool × Unit) × List (Bool) × Int × Int × List UInt8 × Bool × Bool × List (List UInt8 × Bool × Unit) × Unit → Option (Bool)) (G : Bool) (m : Nat) (lasts : Int) (row : List Line) (hm : 0 < m) :
    fix (law18_LinkLines_loop1b n g0) m (l, takes, lasts, (l.length : Int), [], G, true, row, ()) = g0 (l, takes, lasts, (l.length : Int) + 1, [], G, true, row, ()) := by
  rw [fix_pos hm, law18_LinkLines_loop1b]
  simp only
  rw [br_of (by simp), wrapI (by omega) (by omega), link_Take_eq n _ (by simp), ob_s, takeS_no (.inl rfl)]
  simp only [Bool.not_false, br_t]

theorem lines_closed {n : Nat} {l : List Line} {takes : List Bool} (hl : l.length ≤ 40) (g0 : List (List UInt8 × Bool × Unit) × List (Bool) × Int × Int × List UInt8 × Bool × Bool × List (List UInt8 × Bool × Unit) × Unit → Option (Bool)) (G : Bool) :
    ∀ (m : Nat) (D : List UInt8) (row : List Line), D.length + 1 < m → D.length + row.length ≤ 6000 → D ≠ [] →
    fix (law18_LinkLines_loop1b n g0) m (l, takes, 0, (l.length : Int), D, G, true, row, ()) = g0 (l, takes, 1, (l.length : Int) + 1, [], G, true, row ++ splitL D, ()) := by
  intro m
  induction m with
  | zero => intro D row h; omega
  | succ m ih =>
    intro D row hm hb hD
    have hsh := cutLf_short hD
    rw [fix_succ, law18_LinkLines_loop1b]
    simp only
    rw [br_of (by simp), link_Take_eq n _ (by simp only; omega), ob_s, takeS_yes (by simp [hD])]
    simp only [Bool.not_true, br_f]
    rw [br_not (by simp), splitL_cut hD]
    by_cases hR : (cutLf D).2.1 = []
    · rw [br_of (by simp [hR]), chk_of (room24 (by simp; omega)), hR, wrapI (by omega) (by omega), lines_end hl g0 G m _ _ (by omega), splitL_nil]
      simp
    · rw [br_not (by simp [hR]), chk_of (room24 (by simp; omega)), ih _ _ (by omega) (by simp; omega) hR]
      simp

theorem link_Push_eq (n : Nat) (D : List UInt8) (G : Bool) (u : Unit) (e : Line) (h : D.length ≤ 100000) (he : e.1.length ≤ 100000) : link_Push n ((D, G, false, u), e) = some ((pushS (D, G) e).1, (pushS (D, G) e).2, false, u) := by
  obtain ⟨t, en, v⟩ := e
  have m : maxStr = 4611686018427387904 := rfl
  simp only at he
  unfold link_Push pushS
  simp only
  cases G
  · cases en
    · rw [br_f, br_f, chk_of (by simp; omega), br_f]; simp
    · rw [br_f, br_f, chk_of (by simp; omega), br_t, chk_of (by simp; omega)]; simp
  · cases en
    · rw [br_f, br_t, chk_of (by simp; omega), chk_of (by simp; omega), br_f]; simp
    · rw [br_f, br_t, chk_of (by simp; omega), chk_of (by simp; omega), br_t, chk_of (by simp; omega)]; simp

theorem lines_same {n : Nat} {w : List Line} (hw : w.length ≤ 100000) : ∀ (r pre : List Line) (m : Nat), w = pre ++ r → r.length < m → fix (law18_LinkLines_loop2 n) m (w, (pre.length : Int), w, ()) = some true := by
  intro r
  induction r with
  | nil =>
    intro pre m hp hm
    have hp : pre = w := by simpa using hp.symm
    subst hp
    rw [fix_pos (by omega), law18_LinkLines_loop2]
    simp only
    rw [br_not (by simp)]
  | cons e r ih =>
    intro pre m hp hm
    have hlen : w.length = pre.length + r.length + 1 := by rw [hp]; simp; omega
    have hm' : r.length + 1 < m := hm
    have hi := ih (pre ++ [e]) (m - 1) (by rw [hp]; simp) (by omega)
    have hgd : w.getD (0 + (pre.length : Int).toNat) (Ty.dflt TSsbE) = e := by
      have := getAt_mid (d := Ty.dflt TSsbE) hp
      simpa [getAt] using this
    rw [fix_pos (by omega), law18_LinkLines_loop2]
    simp only
    rw [br_of (decide_eq_true (by omega)), chk_of (by simp [inBn (show pre.length < w.length by omega)]), chk_of (decide_eq_true (by simp; omega)), chk_of (inBn (by omega)), getAt_mid hp, hgd,
      beq_self (show TSsbE.cmp = true from rfl), wrapI (by omega) (by omega)]
    simp only [Bool.not_true, br_f]
    rw [show ((pre ++ [e]).length : Int) = (pre.length : Int) + 1 by simp] at hi
    exact hi

theorem lines_outer {n : Nat} {l : List Line} {takes : List Bool} (hl : l.length ≤ 40) (hn : 5000 ≤ n) : ∀ (r pre : List Line) (m : Nat) (D : List UInt8) (row : List Line), l = pre ++ r → r.length + 2 < m → (∀ e ∈ pre, e.1.length ≤ 60) → goodL row → joinL row ++ D = (datS pre).1 → (row = [] ∨ D ≠ []) →
    fix (law18_LinkLines_loop0 n) m (l, takes, 0, (pre.length : Int), D, (datS pre).2, false, row, ()) = some true := by
  intro r
  induction r with
  | nil =>
    intro pre m D row hp hm hpre hg hj hv0
    have hp : pre = l := by simpa using hp.symm
    subst hp
    have hdl := datS_len pre hpre
    have hrl := goodL_len row hg
    have hjl : (joinL row).length + D.length = (datS pre).1.length := by rw [← hj]; simp
    rw [fix_pos (by omega), law18_LinkLines_loop0]
    simp only
    rw [br_of (decide_eq_true (by omega)), br_not (by simp)]
    simp only [link_Close, ob_s]
    have fin : ∀ (lasts : Int), lasts = (if D = [] then 0 else 1) → fix (law18_LinkLines_loop0 n) (m - 1) (pre, takes, lasts, (pre.length : Int) + 1, [], (datS pre).2, true, row ++ splitL D, ()) = some true := by
      intro lasts hlast
      have hsp : splitL (datS pre).1 = row ++ splitL D := by rw [← hj, splitL_app row D hg]
      rw [fix_pos (by omega), law18_LinkLines_loop0]
      simp only
      rw [br_not (decide_eq_false (by omega)), bank_Bytes_eq (by omega) hpre (by omega), ob_s, table_Split_eq n (by omega), ob_s, hsp, link_Ended_eq]
      have hl2 : ((lasts == 1) != decide (((row ++ splitL D).length : Int) > 0)) = false := by
        by_cases hD : D = []
        · have hrow : row = [] := by
            rcases hv0 with h | h
            · exact h
            · exact absurd hD h
          subst hD hrow
          simp [hlast, splitL_nil]
        · rw [hlast, if_neg hD, splitL_cut hD]
          simp
          omega
      have hsame := lines_same (n := n) (w := row ++ splitL D) (by rw [← hsp]; have := splitA_len (datS pre).1 []; simp only [splitL]; omega) (row ++ splitL D) [] n rfl (by rw [← hsp]; have := splitA_len (datS pre).1 []; simp only [splitL]; omega)
      simp only [bne_self_eq_false, br_f, ob_s, hl2, Bool.true_and, beq_self_eq_true, Bool.not_true]
      exact hsame
    by_cases hD : D = []
    · subst hD
      rw [lines_end hl _ _ n _ _ (by omega)]
      have := fin 0 (by simp)
      simpa [splitL_nil] using this
    · rw [lines_closed hl _ _ n D row (by omega) (by omega) hD]
      exact fin 1 (by simp [hD])
  | cons e r ih =>
    intro pre m D row hp hm hpre hg hj hv0
    have hlen : l.length = pre.length + r.length + 1 := by rw [hp]; simp; omega
    have hm' : r.length + 1 + 2 < m := hm
    have hdl := datS_len pre hpre
    have hjl : (joinL row).length + D.length = (datS pre).1.length := by rw [← hj]; simp
    rw [fix_pos (by omega), law18_LinkLines_loop0]
    simp only
    rw [br_of (decide_eq_true (by omega)), br_of (decide_eq_true (by omega)), chk_of (inBn (by omega)), getAt_mid hp]
    by_cases h60 : (e.1.length : Int) > 60
    · rw [br_of (decide_eq_true h60), law18_shown_t, ob_s]
    · rw [br_not (decide_eq_false h60), chk_of (inBn (by omega)), link_Push_eq n D _ _ e (by omega) (by omega), ob_s]
      simp only
      have hpl := pushS_len (D, (datS pre).2) e (by omega)
      obtain ⟨D', row', q0, q1, q2, q3⟩ := lines_open (n := n) (l := l) (takes := takes) (i := pre.length) (by omega) hl (fix (law18_LinkLines_loop0 n) (m - 1)) (pushS (D, (datS pre).2) e).2 n (pushS (D, (datS pre).2) e).1 row (by simp only at hpl; omega) hg (by simp only [List.length_append] at *; omega) (hv0.imp (fun h => h) (fun h => by unfold pushS; simp [h]))
      rw [q3]
      have hi := ih (pre ++ [e]) (m - 1) D' row' (by rw [hp]; simp) (by omega) (by
        intro q hq
        rcases List.mem_append.1 hq with hq | hq
        · exact hpre q hq
        · simp at hq; subst hq; omega) q1 (by
        rw [q2, datS_mid]
        unfold pushS
        simp only
        rw [← hj]
        simp) q0
      rw [datS_mid, show ((pre ++ [e]).length : Int) = (pre.length : Int) + 1 by simp] at hi
      exact hi

theorem law18_LinkLines_true {n : Nat} (hn : 5000 ≤ n) (x : List Line × List Bool) : law18_LinkLines n x = some true := by
  obtain ⟨l, takes⟩ := x
  unfold law18_LinkLines
  simp only [law18_shown_t, ob_s]
  by_cases h1 : (l.length : Int) > 40
  · rw [br_of (by simpa using h1)]
  rw [br_not (by simpa using h1)]
  simp only [Bool.not_true, br_f]
  have := lines_outer (n := n) (takes := takes) (l := l) (by omega) hn l [] n [] [] rfl (by omega) (by simp) (by simp [goodL]) (by simp [joinL, datS]) (.inl rfl)
  simpa [datS] using this

theorem law18_LinkLines_claim (x : Dens [.slice TSsbE, .slice .bool]) (_ : DensWF [.slice TSsbE, .slice .bool] x) : law18_LinkLines 5000 x = some true := law18_LinkLines_true (Nat.le_refl _) x
end Go.Dec
