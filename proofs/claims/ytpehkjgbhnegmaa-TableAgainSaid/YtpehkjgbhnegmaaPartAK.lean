/- Part of a proof over this seat: a library of my own, and what it says of this seat. No statement is proved here. -/
import Derived.Test.YtpehkjgbhnegmaaPartAI
import Derived.Test.YtpehkjgbhnegmaaPartAG
namespace Go.Dec

theorem chk_of {ρ : Type} {b : Bool} (h : b = true) (x : Option ρ) : chk b x = x := by subst h; rfl
theorem br_of {ρ : Type} {b : Bool} (h : b = true) (x y : Option ρ) : br b x y = x := by subst h; rfl
theorem br_not {ρ : Type} {b : Bool} (h : b = false) (x y : Option ρ) : br b x y = y := by subst h; rfl

theorem take_drop_one {s pre r : List UInt8} {c : UInt8} (h : s = pre ++ c :: r) : (s.take (pre.length + 1)).drop pre.length = [c] := by
  subst h
  rw [List.take_length_add_append]
  simp

theorem getAt_mid {α : Type} {d : α} {s pre r : List α} {c : α} (h : s = pre ++ c :: r) : getAt d s (pre.length : Int) = c := by
  subst h
  simp [getAt, List.getD_eq_getElem?_getD]

theorem ref08_Split_go {n : Nat} {s : List UInt8} (hs : s.length ≤ 1000000) : ∀ (r pre w : List UInt8) (row : List Line) (m : Nat), s = pre ++ r → row.length ≤ pre.length → w.length ≤ pre.length → r.length < m →
    fix (ref08_Split_loop0 n) m (s, w, (pre.length : Int), row, ()) = some (row ++ splitA w r)
  | [], pre, w, row, m, hp, hr, hw, hm => by
    have hl : s.length = pre.length := by simp [hp]
    rw [fix_pos hm]
    rw [ref08_Split_loop0]
    simp only
    rw [br_not (by simp; omega)]
    cases w with
    | nil => simp [splitA]
    | cons a w =>
      rw [br_of (by simp), chk_of (by simp [room]; simp at hw; omega)]
      simp [splitA]
  | c :: r, pre, w, row, m, hp, hr, hw, hm => by
    have hl : s.length = pre.length + (r.length + 1) := by simp [hp]
    have hp2 : s = (pre ++ [c]) ++ r := by simp [hp]
    have hpl : ((pre ++ [c]).length : Int) = (pre.length : Int) + 1 := by simp
    simp only [List.length_cons] at hm
    rw [fix_pos (by omega)]
    rw [ref08_Split_loop0]
    simp only
    rw [br_of (by simp; omega), chk_of (inBn (by omega)), wrapI (by omega) (by omega), getAt_mid hp, ← hpl]
    by_cases hc : c = 10
    · subst hc
      rw [br_of (by decide), chk_of (by simp [room]; omega)]
      rw [ref08_Split_go hs r (pre ++ [10]) [] (row ++ [(w, true, ())]) (m - 1) hp2 (by simp; omega) (by simp) (by omega)]
      simp [splitA]
    · have hcn : ((c.toNat : Int) == 10) = false := by
        simp only [beq_eq_false_iff_ne, ne_eq]
        intro h
        have h2 : c.toNat = (10 : UInt8).toNat := by show c.toNat = 10; omega
        exact hc (UInt8.toNat_inj.1 h2)
      rw [br_not hcn, chk_of (by simp; omega)]
      have ht : (s.take ((pre ++ [c]).length : Int).toNat).drop (pre.length : Int).toNat = [c] := by
        have := take_drop_one hp
        simpa using this
      rw [ht, chk_of (by simp [maxStr]; omega)]
      rw [ref08_Split_go hs r (pre ++ [c]) (w ++ [c]) row (m - 1) hp2 (by simp; omega) (by simp; omega) (by omega)]
      simp [splitA, hc]

theorem ref08_Split_eq {n : Nat} {s : List UInt8} (hs : s.length ≤ 1000000) (hn : s.length < n) : ref08_Split n s = some (splitL s) := by
  have := ref08_Split_go (n := n) hs s [] [] [] n rfl (by simp) (by simp) hn
  simpa [ref08_Split, splitL] using this

theorem ref08_Join_go {n : Nat} {l : List Line} (hs : (joinL l).length ≤ 1000000) (hl : l.length ≤ 1000000) : ∀ (r pre : List Line) (m : Nat), l = pre ++ r → r.length < m →
    fix (ref08_Join_loop0 n) m (l, joinL pre, (pre.length : Int), ()) = some (joinL l)
  | [], pre, m, hp, hm => by
    have hl : l.length = pre.length := by simp [hp]
    rw [fix_pos hm]
    rw [ref08_Join_loop0]
    simp only
    rw [br_not (by simp; omega)]
    simp [hp]
  | x :: r, pre, m, hp, hm => by
    have hl2 : l.length = pre.length + (r.length + 1) := by simp [hp]
    have hp2 : l = (pre ++ [x]) ++ r := by simp [hp]
    have hpl : ((pre ++ [x]).length : Int) = (pre.length : Int) + 1 := by simp
    have hj : (joinL l).length = (joinL pre).length + ((line1 x).length + (joinL r).length) := by simp [hp, joinL]
    have hx : (line1 x).length = x.1.length + (if x.2.1 then [10] else [] : List UInt8).length := by simp [line1]
    simp only [List.length_cons] at hm
    rw [fix_pos (by omega)]
    rw [ref08_Join_loop0]
    simp only
    rw [br_of (by simp; omega), chk_of (inBn (by omega)), getAt_mid hp, chk_of (decide_eq_true (by unfold maxStr; omega)), chk_of (inBn (by omega)), wrapI (by omega) (by omega), ← hpl]
    have ih := ref08_Join_go (n := n) hs hl r (pre ++ [x]) (m - 1) hp2 (by omega)
    have e : joinL (pre ++ [x]) = joinL pre ++ line1 x := by simp [joinL]
    rw [e] at ih
    cases he : x.2.1 with
    | true =>
      rw [he] at hx
      simp only [if_true] at hx
      simp only [List.length_singleton] at hx
      rw [br_of rfl, chk_of (decide_eq_true (by simp only [List.length_append, List.length_singleton]; unfold maxStr; omega))]
      have e2 : line1 x = x.1 ++ [10] := by simp [line1, he]
      rw [e2] at ih
      rw [← ih]
      simp
    | false =>
      rw [br_not rfl]
      have e2 : line1 x = x.1 := by simp [line1, he]
      rw [e2] at ih
      exact ih

theorem ref08_Join_eq {n : Nat} {l : List Line} (hs : (joinL l).length ≤ 1000000) (hl : l.length ≤ 1000000) (hn : l.length < n) : ref08_Join n l = some (joinL l) := by
  have := ref08_Join_go (n := n) hs hl l [] n rfl hn
  simpa [ref08_Join, joinL] using this
end Go.Dec

namespace Go.Dec

/-- What is taken of a link. -/
def takeS (k : List UInt8 × Bool × Bool × Unit) : (List UInt8 × Bool × Bool × Unit) × Line × Bool × Bool :=
  if k.1 = [] ∨ ((cutLf k.1).2.1 = [] ∧ k.2.2.1 = false) then (k, ([], false, ()), false, false)
  else (((cutLf k.1).2.1, k.2), ((cutLf k.1).1, (cutLf k.1).2.2, ()), ((cutLf k.1).2.1 == []), true)

theorem strings_Cut_lf (n : Nat) {s : List UInt8} (h : s.length < 4294967281) : strings_Cut n (s, [10]) = some (cutLf s) := by
  unfold strings_Cut
  rw [cut_lf, chk_of (decide_eq_true h)]

theorem link_Take_eq (n : Nat) (k : List UInt8 × Bool × Bool × Unit) (h : k.1.length < 4294967281) : link_Take n k = some (takeS k) := by
  obtain ⟨s, g, c, u⟩ := k
  simp only at h
  unfold link_Take takeS
  simp only [strings_Cut_lf n h, ob_s]
  rcases hc : cutLf s with ⟨a, r, e⟩
  by_cases hr : r = []
  · subst hr
    cases c
    · simp
    · by_cases hs : s = []
      · subst hs
        simp
      · have hs2 : (s == []) = false := by simpa using hs
        simp [hs, hs2]
  · have h0 : s ≠ [] := by
      rintro rfl
      simp [cutLf] at hc
      exact hr hc.2.1
    have h1 : (r == []) = false := by simpa using hr
    have h2 : (s == []) = false := by simpa using h0
    simp [h1, h2, hr, h0]

theorem cutLf_len (s : List UInt8) : (cutLf s).2.1.length ≤ s.length := by
  induction s with
  | nil => simp [cutLf]
  | cons c r ih => unfold cutLf; split <;> simp; omega

theorem splitL_eq_nil {s : List UInt8} : splitL s = [] ↔ s = [] := by
  constructor
  · intro h
    have := joinL_splitL s
    rw [h] at this
    simpa [joinL] using this.symm
  · rintro rfl; rfl

theorem ref18_Take_eq {n : Nat} (k : List UInt8 × Bool × Bool × Unit) (h : k.1.length ≤ 100000) (hn : k.1.length + 1 < n) : ref18_Take n k = some (takeS k) := by
  obtain ⟨s, g, c, u⟩ := k
  simp only at h hn
  unfold ref18_Take takeS
  simp only [ref08_Split_eq (n := n) (s := s) (by omega) (by omega), ob_s]
  by_cases hs : s = []
  · subst hs
    simp [splitL_nil]
  · rw [splitL_cut hs]
    have hcl := cutLf_len s
    rcases hc : cutLf s with ⟨a, r, e⟩
    rw [hc] at hcl
    simp only at hcl ⊢
    have hlr : (splitL r).length ≤ r.length + 1 := splitA_len r []
    have hj : ref08_Join n (splitL r) = some r := by
      rw [ref08_Join_eq (by rw [joinL_splitL]; omega) (by omega) (by omega), joinL_splitL]
    have h0 : (((a, e, ()) :: splitL r : List Line).length : Int) = ((splitL r).length : Int) + 1 := by simp
    by_cases hr : r = []
    · subst hr
      cases c
      · simp [splitL_nil]
      · simp [splitL_nil, hs, show ref08_Join n [] = some [] from by simpa [splitL_nil] using hj, inB, getAt]
    · have h1 : splitL r ≠ [] := fun h => hr (splitL_eq_nil.1 h)
      have h2 : 0 < (splitL r).length := List.length_pos_iff.2 h1
      have h3 : ((((a, e, ()) :: splitL r : List Line).length : Int) == 0) = false := by simp; omega
      have h4 : ((((a, e, ()) :: splitL r : List Line).length : Int) == 1) = false := by rw [h0]; simp; omega
      simp only [h3, h4, br_f, Int.toNat_one, List.drop_succ_cons, List.drop_zero, hj, ob_s]
      rw [chk_of (by simp; omega), chk_of (inB_t (by omega) (by simp))]
      simp [hs, hr, getAt]

theorem law18_shown_t (n : Nat) : law18_shown n () = some true := by kernel_rfl

theorem beqS {α : Type} [BEq α] [LawfulBEq α] (a : α) : (a == a) = true := by simp

theorem law18_LinkTells_true {n : Nat} (hn : 1000 ≤ n) (x : (List UInt8 × Bool × Bool × Unit) × List UInt8 × Bool × Unit) : law18_LinkTells n x = some true := by
  obtain ⟨⟨s, g, c, u⟩, t, en, v⟩ := x
  unfold law18_LinkTells
  simp only [law18_shown_t, ob_s]
  by_cases h1 : (s.length : Int) > 300
  · rw [br_of (by simpa using h1)]
  rw [br_not (by simpa using h1)]
  by_cases h2 : (t.length : Int) > 300
  · rw [br_of (by simpa using h2)]
  rw [br_not (by simpa using h2)]
  simp only [Bool.not_true, br_f]
  have hk : link_Known n (s, g, c, u) = some ((takeS (s, g, c, u)).2.1, (takeS (s, g, c, u)).2.2.1, (takeS (s, g, c, u)).2.2.2) := by
    unfold link_Known
    simp only [link_Take_eq n (s, g, c, u) (by simp only; omega), ob_s]
  have hits : ∀ y, law18_its n y = some y := fun y => rfl
  have hp : link_Push n ((s, g, c, u), t, en, v) = ref18_Push n ((s, g, c, u), t, en, v) := rfl
  have hr : ∃ y, ref18_Push n ((s, g, c, u), t, en, v) = some y := by
    unfold ref18_Push
    simp only
    have m : maxStr = 4611686018427387904 := rfl
    cases c
    · cases g
      · cases en
        · rw [br_f, br_f, chk_of (by simp; omega), br_f]; exact ⟨_, rfl⟩
        · rw [br_f, br_f, chk_of (by simp; omega), br_t, chk_of (by simp; omega)]; exact ⟨_, rfl⟩
      · cases en
        · rw [br_f, br_t, chk_of (by simp; omega), chk_of (by simp; omega), br_f]; exact ⟨_, rfl⟩
        · rw [br_f, br_t, chk_of (by simp; omega), chk_of (by simp; omega), br_t, chk_of (by simp; omega)]; exact ⟨_, rfl⟩
    · exact ⟨_, rfl⟩
  obtain ⟨y, hy⟩ := hr
  simp only [link_Take_eq n (s, g, c, u) (by simp only; omega), ref18_Take_eq (n := n) (s, g, c, u) (by simp only; omega) (by simp only; omega), hk, hits, ob_s, hp, hy, beq_self (show TSsbbE.cmp = true from rfl), beq_self (show TSsbE.cmp = true from rfl), beqS, br_t,
    link_Close, ref18_Close, link_Ended, ref18_Ended]
  cases c <;> simp
theorem law18_LinkTells_claim (x : Dens [TSsbbE, TSsbE]) (_ : DensWF [TSsbbE, TSsbE] x) : law18_LinkTells 1000 x = some true := law18_LinkTells_true (Nat.le_refl _) x
end Go.Dec

namespace Go.Dec

theorem table_Split_eq (n : Nat) {s : List UInt8} (h : s.length < 4294967281) : table_Split n s = some (splitL s) := by
  unfold table_Split
  rw [chk_of (decide_eq_true h)]

theorem link_Ended_eq (n : Nat) (s : List UInt8) (g c : Bool) (u : Unit) : link_Ended n (s, g, c, u) = some (c && (s == [])) := by
  cases c <;> rfl

theorem law18_LinkHolds_true {n : Nat} (x : List UInt8 × Bool × Bool × Unit) : law18_LinkHolds n x = some true := by
  obtain ⟨s, g, c, u⟩ := x
  unfold law18_LinkHolds
  simp only [law18_shown_t, ob_s]
  by_cases h1 : (s.length : Int) > 300
  · rw [br_of (by simpa using h1)]
  rw [br_not (by simpa using h1)]
  simp only [Bool.not_true, br_f]
  have hk : link_Known n (s, g, c, u) = some ((takeS (s, g, c, u)).2.1, (takeS (s, g, c, u)).2.2.1, (takeS (s, g, c, u)).2.2.2) := by
    unfold link_Known
    simp only [link_Take_eq n (s, g, c, u) (by simp only; omega), ob_s]
  rw [hk, ob_s, table_Split_eq n (by omega)]
  simp only [ob_s]
  unfold takeS
  simp only
  by_cases h2 : s = [] ∨ ((cutLf s).2.1 = [] ∧ c = false)
  · rw [if_pos h2]
    simp only [br_f]
    rcases h2 with rfl | ⟨h2, rfl⟩
    · cases c <;> simp [splitL_nil, br]
    · by_cases h3 : s = []
      · subst h3; simp [splitL_nil, br]
      · rw [splitL_cut h3, h2]
        simp [splitL_nil, br]
  · rw [if_neg h2]
    simp [br]

theorem law18_LinkClosed_go {n : Nat} {D : List UInt8} {G C g : Bool} (hD : D.length < 4294967281) : ∀ (m : Nat) (d : List UInt8) (cnt : Nat), d.length < m → d.length ≤ 300 → cnt + d.length ≤ 300 →
    fix (law18_LinkClosed_loop0 n) m ((cnt : Int), D, G, C, d, g, true, ()) = some (((cnt + (splitL d).length : Nat) : Int) == ((splitL D).length : Int)) := by
  intro m
  induction m with
  | zero => intro d cnt h; omega
  | succ m ih =>
    intro d cnt hm hd hc
    rw [fix_succ, law18_LinkClosed_loop0]
    simp only [link_Ended_eq, ob_s, Bool.true_and]
    by_cases he : d = []
    · subst he
      rw [br_not (by simp), table_Split_eq n hD, ob_s]
      simp [splitL_nil]
    · have h1 := splitL_cut he
      have hsh := cutLf_short he
      rw [br_of (by simpa using he), link_Take_eq n _ (by simp only; omega), ob_s]
      have ht : takeS (d, g, true, ()) = (((cutLf d).2.1, g, true, ()), ((cutLf d).1, (cutLf d).2.2, ()), ((cutLf d).2.1 == []), true) := by
        unfold takeS
        simp [he]
      rw [ht]
      simp only [Bool.not_true, br_f, link_Ended_eq, ob_s, Bool.true_and, bne_self_eq_false]
      rw [wrapI (by omega) (by omega)]
      have hi := ih (cutLf d).2.1 (cnt + 1) (by omega) (by omega) (by omega)
      rw [show ((cnt + 1 : Nat) : Int) = (cnt : Int) + 1 by omega] at hi
      rw [hi, h1]
      simp only [List.length_cons]
      congr 3
      omega

theorem law18_LinkClosed_true {n : Nat} (hn : 1000 ≤ n) (x : (List UInt8 × Bool × Bool × Unit) × List UInt8 × Bool × Unit) : law18_LinkClosed n x = some true := by
  obtain ⟨⟨s, g, c, u⟩, t, en, v⟩ := x
  unfold law18_LinkClosed
  simp only [law18_shown_t, ob_s]
  by_cases h1 : (s.length : Int) > 300
  · rw [br_of (by simpa using h1)]
  rw [br_not (by simpa using h1)]
  by_cases h2 : (t.length : Int) > 300
  · rw [br_of (by simpa using h2)]
  rw [br_not (by simpa using h2)]
  simp only [Bool.not_true, br_f]
  have hp : link_Push n ((s, g, true, u), t, en, v) = some (s, g, true, u) := rfl
  simp only [link_Close, ob_s, hp, beq_self (show TSsbbE.cmp = true from rfl), Bool.not_true, br_f]
  have := law18_LinkClosed_go (n := n) (D := s) (G := g) (C := c) (g := g) (by omega) n s 0 (by omega) (by omega) (by omega)
  simp only [Nat.zero_add] at this
  rw [show ((0 : Nat) : Int) = 0 from rfl] at this
  rw [this]
  simp

theorem law18_LinkHolds_claim (x : Dens [TSsbbE]) (_ : DensWF [TSsbbE] x) : law18_LinkHolds 1000 x = some true := law18_LinkHolds_true x
theorem law18_LinkClosed_claim (x : Dens [TSsbbE, TSsbE]) (_ : DensWF [TSsbbE, TSsbE] x) : law18_LinkClosed 1000 x = some true := law18_LinkClosed_true (Nat.le_refl _) x
end Go.Dec

namespace Go.Dec

/-- What a push makes of the bytes, and whether a byte 10 comes ahead of the next. -/
def pushS (x : List UInt8 × Bool) (e : Line) : List UInt8 × Bool := (x.1 ++ (if x.2 then [10] else []) ++ e.1 ++ (if e.2.1 then [10] else []), !e.2.1)
def datS (l : List Line) : List UInt8 × Bool := l.foldl pushS ([], false)
theorem datS_mid (l : List Line) (e : Line) : datS (l ++ [e]) = pushS (datS l) e := by simp [datS]

theorem pushS_len (x : List UInt8 × Bool) (e : Line) (h : e.1.length ≤ 60) : (pushS x e).1.length ≤ x.1.length + 62 := by
  unfold pushS
  simp only [List.length_append]
  split <;> split <;> simp <;> omega
theorem foldS_len : ∀ (l : List Line) (x : List UInt8 × Bool), (∀ e ∈ l, e.1.length ≤ 60) → (l.foldl pushS x).1.length ≤ x.1.length + 62 * l.length
  | [], x, _ => by simp
  | e :: l, x, h => by
    have h1 := pushS_len x e (h e (.head _))
    have h2 := foldS_len l (pushS x e) fun q hq => h q (.tail _ hq)
    simp only [List.foldl_cons, List.length_cons]
    omega
theorem datS_len (l : List Line) (h : ∀ e ∈ l, e.1.length ≤ 60) : (datS l).1.length ≤ 62 * l.length := by
  have := foldS_len l ([], false) h
  simpa [datS] using this

theorem WriteString_eq {n : Nat} {s : List UInt8} {row : List Int} (h : row.length + s.length ≤ 1000000) : strings_Builder_WriteString n (s, row, ()) = some ((s.length : Int), false, row ++ sToBytes s, ()) := by
  unfold strings_Builder_WriteString
  simp only [Builder_check, ob_s]
  rw [chk_of (by rw [Nat.ble_eq]; simp [room]; omega)]

theorem bytes_back (d : List UInt8) : bytesToS (sToBytes d) = d := by
  unfold bytesToS sToBytes
  rw [List.map_map]
  have : ((fun n : Int => UInt8.ofNat n.toNat) ∘ fun b : UInt8 => (b.toNat : Int)) = id := by
    funext b
    simp
  rw [this, List.map_id]

theorem String_eq {n : Nat} (d : List UInt8) : Builder_String n (sToBytes d, ()) = some (d, [], ()) := by
  unfold Builder_String
  rw [chk_of, bytes_back]
  simp only [sToBytes, List.all_map, List.all_eq_true]
  intro b _
  have := b.toNat_lt
  simp
  omega

theorem sToBytes_app (a b : List UInt8) : sToBytes (a ++ b) = sToBytes a ++ sToBytes b := by simp [sToBytes]
theorem sToBytes_len (a : List UInt8) : (sToBytes a).length = a.length := by simp [sToBytes]

theorem bank_Bytes_go {n : Nat} {l : List Line} (hl : l.length ≤ 100) (ht : ∀ e ∈ l, e.1.length ≤ 60) : ∀ (r pre : List Line) (m : Nat), l = pre ++ r → r.length < m →
    fix (bank_Bytes_loop0 n) m ((if (datS pre).2 then [10] else []), l, (l.length : Int), (pre.length : Int), sToBytes (datS pre).1, ()) = some (datS l).1 := by
  intro r
  induction r with
  | nil =>
    intro pre m hp hm
    have hp : pre = l := by simpa using hp.symm
    subst hp
    rw [fix_pos (by omega), bank_Bytes_loop0]
    simp only
    rw [br_not (by simp), String_eq, ob_s]
  | cons e r ih =>
    intro pre m hp hm
    have hm' : r.length + 1 < m := hm
    have hlen : l.length = pre.length + r.length + 1 := by rw [hp]; simp; omega
    have hd : (datS pre).1.length ≤ 62 * pre.length := datS_len pre fun q hq => ht q (by rw [hp]; exact List.mem_append_left _ hq)
    have he : e.1.length ≤ 60 := ht e (by rw [hp]; simp)
    have hg : (if (datS pre).2 then [10] else [] : List UInt8).length ≤ 1 := by split <;> simp
    have hi := ih (pre ++ [e]) (m - 1) (by rw [hp]; simp) (by omega)
    rw [datS_mid] at hi
    rw [fix_pos (by omega), bank_Bytes_loop0]
    simp only
    rw [br_of (decide_eq_true (by omega)), chk_of (inBn (by omega)), getAt_mid hp, chk_of (decide_eq_true (by simp [maxStr]; omega)),
      WriteString_eq (by rw [sToBytes_len]; simp; omega), ob_s]
    simp only
    rw [wrapI (by omega) (by omega)]
    rw [show ((pre ++ [e]).length : Int) = (pre.length : Int) + 1 by simp] at hi
    cases hE : e.2.1
    · rw [br_f]
      simp only [pushS, hE] at hi
      rw [show sToBytes (datS pre).1 ++ sToBytes ((if (datS pre).2 = true then [10] else []) ++ e.1) = sToBytes ((datS pre).1 ++ (if (datS pre).2 = true then [10] else []) ++ e.1 ++ (if false = true then [10] else [])) by simp [sToBytes_app]]
      simpa using hi
    · rw [br_t, WriteString_eq (by simp [sToBytes_len]; omega), ob_s]
      simp only [pushS, hE] at hi
      rw [show sToBytes (datS pre).1 ++ sToBytes ((if (datS pre).2 = true then [10] else []) ++ e.1) ++ sToBytes [10] = sToBytes ((datS pre).1 ++ (if (datS pre).2 = true then [10] else []) ++ e.1 ++ (if true = true then [10] else [])) by simp [sToBytes_app]]
      simpa using hi

theorem bank_Bytes_eq {n : Nat} {l : List Line} (hl : l.length ≤ 100) (ht : ∀ e ∈ l, e.1.length ≤ 60) (hn : l.length < n) : bank_Bytes n l = some (datS l).1 := by
  have := bank_Bytes_go (n := n) hl ht l [] n rfl hn
  simpa [bank_Bytes, datS, sToBytes] using this
end Go.Dec

namespace Go.Dec

def goodL (row : List Line) : Prop := ∀ x ∈ row, x.2.1 = true ∧ 10 ∉ x.1

theorem splitA_good : ∀ (t w r : List UInt8), 10 ∉ t → splitA w (t ++ 10 :: r) = (w ++ t, true, ()) :: splitL r
  | [], w, r, _ => by simp [splitA, splitL]
  | c :: t, w, r, h => by
    have hc : c ≠ 10 := fun e => h (by simp [e])
    have ht : 10 ∉ t := fun e => h (by simp [e])
    have := splitA_good t (w ++ [c]) r ht
    simp only [List.cons_append, splitA, hc, if_false, this]
    simp

theorem splitL_app : ∀ (row : List Line) (d : List UInt8), goodL row → splitL (joinL row ++ d) = row ++ splitL d
  | [], d, _ => by simp [joinL]
  | (t, e, u) :: row, d, h => by
    obtain ⟨h1, h2⟩ := h (t, e, u) (.head _)
    simp only at h1 h2
    subst h1
    have ih := splitL_app row d fun q hq => h q (.tail _ hq)
    have e1 : joinL ((t, true, u) :: row) ++ d = t ++ 10 :: (joinL row ++ d) := by simp [joinL, line1]
    rw [e1]
    show splitA [] _ = _
    rw [splitA_good t [] _ h2, ih]
    simp

theorem goodL_len : ∀ (row : List Line), goodL row → row.length ≤ (joinL row).length
  | [], _ => by simp
  | (t, e, u) :: row, h => by
    obtain ⟨h1, _⟩ := h (t, e, u) (.head _)
    have ih := goodL_len row fun q hq => h q (.tail _ hq)
    simp only at h1
    subst h1
    have e1 : joinL ((t, true, u) :: row) = t ++ 10 :: joinL row := by simp [joinL, line1]
    rw [e1]
    simp
    omega

theorem cutLf_true : ∀ (s : List UInt8), (cutLf s).2.2 = true → s = (cutLf s).1 ++ 10 :: (cutLf s).2.1 ∧ 10 ∉ (cutLf s).1
  | [], h => by simp [cutLf] at h
  | c :: r, h => by
    unfold cutLf at h ⊢
    split
    · rename_i hc; simp [hc]
    · rename_i hc
      rw [if_neg hc] at h
      obtain ⟨h1, h2⟩ := cutLf_true r h
      refine ⟨?_, ?_⟩
      · simp only [List.cons_append, List.cons.injEq, true_and]; exact h1
      · simp only [List.mem_cons, not_or]; exact ⟨fun e => hc e.symm, h2⟩
theorem cutLf_false : ∀ (s : List UInt8), (cutLf s).2.2 = false → (cutLf s).2.1 = []
  | [], _ => by simp [cutLf]
  | c :: r, h => by
    unfold cutLf at h ⊢
    split
    · rename_i hc; rw [if_pos hc] at h; cases h
    · rename_i hc
      rw [if_neg hc] at h
      exact cutLf_false r h

theorem goodL_mid {row : List Line} {x : Line} (h : goodL row) (h1 : x.2.1 = true) (h2 : 10 ∉ x.1) : goodL (row ++ [x]) := by
  intro q hq
  rcases List.mem_append.1 hq with hq | hq
  · exact h q hq
  · simp at hq; subst hq; exact ⟨h1, h2⟩

theorem joinL_mid (row : List Line) (x : Line) : joinL (row ++ [x]) = joinL row ++ line1 x := by simp [joinL]

theorem takeS_no {s : List UInt8} {g c : Bool} {u : Unit} (h : s = [] ∨ ((cutLf s).2.1 = [] ∧ c = false)) : takeS (s, g, c, u) = ((s, g, c, u), ([], false, ()), false, false) := if_pos h
theorem takeS_yes {s : List UInt8} {g c : Bool} {u : Unit} (h : ¬ (s = [] ∨ ((cutLf s).2.1 = [] ∧ c = false))) : takeS (s, g, c, u) = (((cutLf s).2.1, g, c, u), ((cutLf s).1, (cutLf s).2.2, ()), ((cutLf s).2.1 == []), true) := if_neg h

theorem room24 {a : Nat} (h : a ≤ 100000) : Nat.ble (a * 24) room = true := by rw [Nat.ble_eq]; unfold room; omega

theorem lines_open {n : Nat} {l : List Line} {takes : List Bool} {i : Nat} (hi : i < l.length) (hl : l.length ≤ 40) (g0 : List (List UInt8 × Bool × Unit) × List (Bool) × Int × Int × List UInt8 × Bool × Bool × List (List UInt8 × Bool × Unit) × Unit → Option (Bool)) (G : Bool) :
    ∀ (m : Nat) (D : List UInt8) (row : List Line), D.length < m → goodL row → (joinL row ++ D).length ≤ 3000 → (row = [] ∨ D ≠ []) →
    ∃ D' row', (row' = [] ∨ D' ≠ []) ∧ goodL row' ∧ joinL row' ++ D' = joinL row ++ D ∧ fix (law18_LinkLines_loop1 n g0) m (l, takes, 0, (i : Int), D, G, false, row, ()) = g0 (l, takes, 0, (i : Int) + 1, D', G, false, row', ()) := by
  intro m
  induction m with
  | zero => intro D row h; omega
  | succ m ih =>
    intro D row hm hg hb hv0
    have hrl := goodL_len row hg
    have hb' : (joinL row).length + D.length ≤ 3000 := by simpa using hb
    rw [fix_succ, law18_LinkLines_loop1]
    simp only
    rw [br_not (by simp; omega), wrapI (by omega) (by omega)]
    by_cases h1 : (i : Int) < (takes.length : Int)
    · rw [br_of (decide_eq_true h1), chk_of (inB_t (by omega) h1)]
      cases hv : getAt (Ty.dflt .bool) takes (i : Int)
      · rw [br_f]
        exact ⟨D, row, hv0, hg, rfl, rfl⟩
      · rw [br_t, link_Take_eq n _ (by simp only; omega), ob_s]
        by_cases h2 : D = [] ∨ ((cutLf D).2.1 = [] ∧ false = false)
        · rw [takeS_no h2]
          simp only [Bool.not_false, br_t]
          exact ⟨D, row, hv0, hg, rfl, rfl⟩
        · rw [takeS_yes h2]
          have hD : D ≠ [] := fun h => h2 (.inl h)
          have hR : (cutLf D).2.1 ≠ [] := fun h => h2 (.inr ⟨h, rfl⟩)
          have hT : (cutLf D).2.2 = true := by
            cases hc : (cutLf D).2.2
            · exact absurd (cutLf_false D hc) hR
            · rfl
          obtain ⟨hs1, hs2⟩ := cutLf_true D hT
          have hsh := cutLf_short hD
          simp only [Bool.not_true, br_f, beq_false_of_ne hR, hT]
          rw [br_not (by simp), chk_of (room24 (by simp; omega))]
          have hj : joinL (row ++ [((cutLf D).1, true, ())]) ++ (cutLf D).2.1 = joinL row ++ D := by
            rw [joinL_mid]
            conv => rhs; rw [hs1]
            simp [line1]
          obtain ⟨D', row', q0, q1, q2, q3⟩ := ih (cutLf D).2.1 (row ++ [((cutLf D).1, true, ())]) (by omega) (goodL_mid hg rfl hs2) (by rw [hj]; exact hb) (.inr hR)
          exact ⟨D', row', q0, q1, q2.trans hj, q3⟩
    · rw [br_not (decide_eq_false h1)]
      exact ⟨D, row, hv0, hg, rfl, rfl⟩

theorem lines_end {n : Nat} {l : List Line} {takes : List Bool} (hl : l.length ≤ 40) (g0 : List (List UInt8 × Bool × Unit) × List (Bool) × Int × Int × List UInt8 × Bool × Bool × List (List UInt8 × Bool × Unit) × Unit → Option (Bool)) (G : Bool) (m : Nat) (lasts : Int) (row : List Line) (hm : 0 < m) :
    fix (law18_LinkLines_loop1b n g0) m (l, takes, lasts, (l.length : Int), [], G, true, row, ()) = g0 (l, takes, lasts, (l.length : Int) + 1, [], G, true, row, ()) := by
  rw [fix_pos hm, law18_LinkLines_loop1b]
  simp only
  rw [br_of (by simp), wrapI (by omega) (by omega), link_Take_eq n _ (by simp), ob_s, takeS_no (.inl rfl)]
  simp only [Bool.not_false, br_t]

theorem lines_closed {n : Nat} {l : List Line} {takes : List Bool} (hl : l.length ≤ 40) (g0 : List (List UInt8 × Bool × Unit) × List (Bool) × Int × Int × List UInt8 × Bool × Bool × List (List UInt8 × Bool × Unit) × Unit → Option (Bool)) (G : Bool) :
    ∀ (m : Nat) (D : List UInt8) (row : List Line), D.length + 1 < m → D.length + row.length ≤ 6000 → D ≠ [] →
    fix (law18_LinkLines_loop1b n g0) m (l, takes, 0, (l.length : Int), D, G, true, row, ()) = g0 (l, takes, 1, (l.length : Int) + 1, [], G, true, row ++ splitL D, ()) := by
  intro m
  induction m with
  | zero => intro D row h; omega
  | succ m ih =>
    intro D row hm hb hD
    have hsh := cutLf_short hD
    rw [fix_succ, law18_LinkLines_loop1b]
    simp only
    rw [br_of (by simp), link_Take_eq n _ (by simp only; omega), ob_s, takeS_yes (by simp [hD])]
    simp only [Bool.not_true, br_f]
    rw [br_not (by simp), splitL_cut hD]
    by_cases hR : (cutLf D).2.1 = []
    · rw [br_of (by simp [hR]), chk_of (room24 (by simp; omega)), hR, wrapI (by omega) (by omega), lines_end hl g0 G m _ _ (by omega), splitL_nil]
      simp
    · rw [br_not (by simp [hR]), chk_of (room24 (by simp; omega)), ih _ _ (by omega) (by simp; omega) hR]
      simp

theorem link_Push_eq (n : Nat) (D : List UInt8) (G : Bool) (u : Unit) (e : Line) (h : D.length ≤ 100000) (he : e.1.length ≤ 100000) : link_Push n ((D, G, false, u), e) = some ((pushS (D, G) e).1, (pushS (D, G) e).2, false, u) := by
  obtain ⟨t, en, v⟩ := e
  have m : maxStr = 4611686018427387904 := rfl
  simp only at he
  unfold link_Push pushS
  simp only
  cases G
  · cases en
    · rw [br_f, br_f, chk_of (by simp; omega), br_f]; simp
    · rw [br_f, br_f, chk_of (by simp; omega), br_t, chk_of (by simp; omega)]; simp
  · cases en
    · rw [br_f, br_t, chk_of (by simp; omega), chk_of (by simp; omega), br_f]; simp
    · rw [br_f, br_t, chk_of (by simp; omega), chk_of (by simp; omega), br_t, chk_of (by simp; omega)]; simp

theorem lines_same {n : Nat} {w : List Line} (hw : w.length ≤ 100000) : ∀ (r pre : List Line) (m : Nat), w = pre ++ r → r.length < m → fix (law18_LinkLines_loop2 n) m (w, (pre.length : Int), w, ()) = some true := by
  intro r
  induction r with
  | nil =>
    intro pre m hp hm
    have hp : pre = w := by simpa using hp.symm
    subst hp
    rw [fix_pos (by omega), law18_LinkLines_loop2]
    simp only
    rw [br_not (by simp)]
  | cons e r ih =>
    intro pre m hp hm
    have hlen : w.length = pre.length + r.length + 1 := by rw [hp]; simp; omega
    have hm' : r.length + 1 < m := hm
    have hi := ih (pre ++ [e]) (m - 1) (by rw [hp]; simp) (by omega)
    have hgd : w.getD (0 + (pre.length : Int).toNat) (Ty.dflt TSsbE) = e := by
      have := getAt_mid (d := Ty.dflt TSsbE) hp
      simpa [getAt] using this
    rw [fix_pos (by omega), law18_LinkLines_loop2]
    simp only
    rw [br_of (decide_eq_true (by omega)), chk_of (by simp [inBn (show pre.length < w.length by omega)]), chk_of (decide_eq_true (by simp; omega)), chk_of (inBn (by omega)), getAt_mid hp, hgd,
      beq_self (show TSsbE.cmp = true from rfl), wrapI (by omega) (by omega)]
    simp only [Bool.not_true, br_f]
    rw [show ((pre ++ [e]).length : Int) = (pre.length : Int) + 1 by simp] at hi
    exact hi

theorem lines_outer {n : Nat} {l : List Line} {takes : List Bool} (hl : l.length ≤ 40) (hn : 5000 ≤ n) : ∀ (r pre : List Line) (m : Nat) (D : List UInt8) (row : List Line), l = pre ++ r → r.length + 2 < m → (∀ e ∈ pre, e.1.length ≤ 60) → goodL row → joinL row ++ D = (datS pre).1 → (row = [] ∨ D ≠ []) →
    fix (law18_LinkLines_loop0 n) m (l, takes, 0, (pre.length : Int), D, (datS pre).2, false, row, ()) = some true := by
  intro r
  induction r with
  | nil =>
    intro pre m D row hp hm hpre hg hj hv0
    have hp : pre = l := by simpa using hp.symm
    subst hp
    have hdl := datS_len pre hpre
    have hrl := goodL_len row hg
    have hjl : (joinL row).length + D.length = (datS pre).1.length := by rw [← hj]; simp
    rw [fix_pos (by omega), law18_LinkLines_loop0]
    simp only
    rw [br_of (decide_eq_true (by omega)), br_not (by simp)]
    simp only [link_Close, ob_s]
    have fin : ∀ (lasts : Int), lasts = (if D = [] then 0 else 1) → fix (law18_LinkLines_loop0 n) (m - 1) (pre, takes, lasts, (pre.length : Int) + 1, [], (datS pre).2, true, row ++ splitL D, ()) = some true := by
      intro lasts hlast
      have hsp : splitL (datS pre).1 = row ++ splitL D := by rw [← hj, splitL_app row D hg]
      rw [fix_pos (by omega), law18_LinkLines_loop0]
      simp only
      rw [br_not (decide_eq_false (by omega)), bank_Bytes_eq (by omega) hpre (by omega), ob_s, table_Split_eq n (by omega), ob_s, hsp, link_Ended_eq]
      have hl2 : ((lasts == 1) != decide (((row ++ splitL D).length : Int) > 0)) = false := by
        by_cases hD : D = []
        · have hrow : row = [] := by
            rcases hv0 with h | h
            · exact h
            · exact absurd hD h
          subst hD hrow
          simp [hlast, splitL_nil]
        · rw [hlast, if_neg hD, splitL_cut hD]
          simp
          omega
      have hsame := lines_same (n := n) (w := row ++ splitL D) (by rw [← hsp]; have := splitA_len (datS pre).1 []; simp only [splitL]; omega) (row ++ splitL D) [] n rfl (by rw [← hsp]; have := splitA_len (datS pre).1 []; simp only [splitL]; omega)
      simp only [bne_self_eq_false, br_f, ob_s, hl2, Bool.true_and, beq_self_eq_true, Bool.not_true]
      exact hsame
    by_cases hD : D = []
    · subst hD
      rw [lines_end hl _ _ n _ _ (by omega)]
      have := fin 0 (by simp)
      simpa [splitL_nil] using this
    · rw [lines_closed hl _ _ n D row (by omega) (by omega) hD]
      exact fin 1 (by simp [hD])
  | cons e r ih =>
    intro pre m D row hp hm hpre hg hj hv0
    have hlen : l.length = pre.length + r.length + 1 := by rw [hp]; simp; omega
    have hm' : r.length + 1 + 2 < m := hm
    have hdl := datS_len pre hpre
    have hjl : (joinL row).length + D.length = (datS pre).1.length := by rw [← hj]; simp
    rw [fix_pos (by omega), law18_LinkLines_loop0]
    simp only
    rw [br_of (decide_eq_true (by omega)), br_of (decide_eq_true (by omega)), chk_of (inBn (by omega)), getAt_mid hp]
    by_cases h60 : (e.1.length : Int) > 60
    · rw [br_of (decide_eq_true h60), law18_shown_t, ob_s]
    · rw [br_not (decide_eq_false h60), chk_of (inBn (by omega)), link_Push_eq n D _ _ e (by omega) (by omega), ob_s]
      simp only
      have hpl := pushS_len (D, (datS pre).2) e (by omega)
      obtain ⟨D', row', q0, q1, q2, q3⟩ := lines_open (n := n) (l := l) (takes := takes) (i := pre.length) (by omega) hl (fix (law18_LinkLines_loop0 n) (m - 1)) (pushS (D, (datS pre).2) e).2 n (pushS (D, (datS pre).2) e).1 row (by simp only at hpl; omega) hg (by simp only [List.length_append] at *; omega) (hv0.imp (fun h => h) (fun h => by unfold pushS; simp [h]))
      rw [q3]
      have hi := ih (pre ++ [e]) (m - 1) D' row' (by rw [hp]; simp) (by omega) (by
        intro q hq
        rcases List.mem_append.1 hq with hq | hq
        · exact hpre q hq
        · simp at hq; subst hq; omega) q1 (by
        rw [q2, datS_mid]
        unfold pushS
        simp only
        rw [← hj]
        simp) q0
      rw [datS_mid, show ((pre ++ [e]).length : Int) = (pre.length : Int) + 1 by simp] at hi
      exact hi

theorem law18_LinkLines_true {n : Nat} (hn : 5000 ≤ n) (x : List Line × List Bool) : law18_LinkLines n x = some true := by
  obtain ⟨l, takes⟩ := x
  unfold law18_LinkLines
  simp only [law18_shown_t, ob_s]
  by_cases h1 : (l.length : Int) > 40
  · rw [br_of (by simpa using h1)]
  rw [br_not (by simpa using h1)]
  simp only [Bool.not_true, br_f]
  have := lines_outer (n := n) (takes := takes) (l := l) (by omega) hn l [] n [] [] rfl (by omega) (by simp) (by simp [goodL]) (by simp [joinL, datS]) (.inl rfl)
  simpa [datS] using this

theorem law18_LinkLines_claim (x : Dens [.slice TSsbE, .slice .bool]) (_ : DensWF [.slice TSsbE, .slice .bool] x) : law18_LinkLines 5000 x = some true := law18_LinkLines_true (Nat.le_refl _) x
end Go.Dec

namespace Go.Dec

theorem WriteByte_eq {n : Nat} {c : Int} {row : List Int} (h : row.length ≤ 1000000) : strings_Builder_WriteByte n (c, row, ()) = some (false, row ++ [c], ()) := by
  unfold strings_Builder_WriteByte
  simp only [Builder_check, ob_s]
  rw [chk_of (by rw [Nat.ble_eq]; simp [room]; omega)]

theorem joinL_app (a b : List Line) : joinL (a ++ b) = joinL a ++ joinL b := by simp [joinL]

theorem table_Join_go {n : Nat} {l : List Line} (hl : l.length ≤ 100000) (hj : (joinL l).length ≤ 100000) : ∀ (r pre : List Line) (m : Nat), l = pre ++ r → r.length < m →
    fix (table_Join_loop0 n) m (l, (l.length : Int), (pre.length : Int), sToBytes (joinL pre), ()) = some (joinL l) := by
  intro r
  induction r with
  | nil =>
    intro pre m hp hm
    have hp : pre = l := by simpa using hp.symm
    subst hp
    rw [fix_pos (by omega), table_Join_loop0]
    simp only
    rw [br_not (by simp), String_eq, ob_s]
  | cons e r ih =>
    intro pre m hp hm
    have hm' : r.length + 1 < m := hm
    have hlen : l.length = pre.length + r.length + 1 := by rw [hp]; simp; omega
    have hjl : (joinL pre).length + (line1 e).length + (joinL r).length = (joinL l).length := by rw [hp, joinL_app]; simp [joinL]; omega
    have he1 : e.1.length ≤ (line1 e).length := by simp [line1]
    have hi := ih (pre ++ [e]) (m - 1) (by rw [hp]; simp) (by omega)
    rw [joinL_mid, show ((pre ++ [e]).length : Int) = (pre.length : Int) + 1 by simp] at hi
    rw [fix_pos (by omega), table_Join_loop0]
    simp only
    rw [br_of (decide_eq_true (by omega)), chk_of (inBn (by omega)), getAt_mid hp, WriteString_eq (by rw [sToBytes_len]; omega), ob_s]
    simp only
    rw [wrapI (by omega) (by omega)]
    cases hE : e.2.1
    · rw [br_f]
      rw [show sToBytes (joinL pre) ++ sToBytes e.1 = sToBytes (joinL pre ++ line1 e) by simp [sToBytes_app, line1, hE]]
      exact hi
    · rw [br_t, WriteByte_eq (by simp [sToBytes_len]; omega), ob_s]
      rw [show sToBytes (joinL pre) ++ sToBytes e.1 ++ [10] = sToBytes (joinL pre ++ line1 e) by simp [sToBytes_app, line1, hE]; rfl]
      exact hi

theorem table_Join_eq {n : Nat} {l : List Line} (hl : l.length ≤ 100000) (hj : (joinL l).length ≤ 100000) (hn : l.length < n) : table_Join n l = some (joinL l) := by
  have := table_Join_go (n := n) hl hj l [] n rfl hn
  simpa [table_Join, joinL, sToBytes] using this

/-- What lines of a text are. -/
def okL : List Line → Prop
  | [] => True
  | e :: r => (10 ∉ e.1 ∧ (e.2.1 = false → r = [] ∧ e.1 ≠ [])) ∧ okL r

theorem okL_splitA : ∀ (s w : List UInt8), 10 ∉ w → okL (splitA w s)
  | [], [], _ => trivial
  | [], c :: w, h => ⟨⟨h, fun _ => ⟨rfl, by simp⟩⟩, trivial⟩
  | c :: s, w, h => by
    unfold splitA
    split
    · exact ⟨⟨h, fun e => by cases e⟩, okL_splitA s [] (by simp)⟩
    · rename_i hc
      exact okL_splitA s (w ++ [c]) (by simp [h]; exact fun e => hc e.symm)

theorem okL_mid : ∀ {pre : List Line} {e : Line} {r : List Line}, okL (pre ++ e :: r) → 10 ∉ e.1 ∧ (e.2.1 = false → r = [] ∧ e.1 ≠ [])
  | [], _, _, h => h.1
  | _ :: pre, _, _, h => okL_mid (pre := pre) h.2

theorem back_inner {n : Nat} {s : List UInt8} {l pre r : List Line} {e : Line} (hp : l = pre ++ e :: r) (hl : l.length ≤ 100000) (he : e.1.length ≤ 100000) (h10 : 10 ∉ e.1) (hlast : e.2.1 = false → r = [] ∧ e.1 ≠ []) (g0 : List UInt8 × List (List UInt8 × Bool × Unit) × Int × Unit → Option (Bool)) :
    ∀ (t q : List UInt8) (m : Nat), e.1 = q ++ t → t.length < m → fix (law08_TableBack_loop1 n g0) m (s, l, (pre.length : Int), (q.length : Int), ()) = g0 (s, l, (pre.length : Int) + 1, ()) := by
  have hlen : l.length = pre.length + r.length + 1 := by rw [hp]; simp; omega
  intro t
  induction t with
  | nil =>
    intro q m hq hm
    have hq : q = e.1 := by simpa using hq.symm
    subst hq
    rw [fix_pos (by omega), law08_TableBack_loop1]
    simp only
    rw [chk_of (inBn (by omega)), getAt_mid hp, br_not (by simp), chk_of (inBn (by omega)), wrapI (by omega) (by omega)]
    cases hE : e.2.1
    · obtain ⟨h1, h2⟩ := hlast hE
      subst h1
      simp only [Bool.not_false, br_t]
      rw [wrapI (by omega) (by omega), br_not (decide_eq_false (by simp at hlen; omega)), chk_of (inBn (by omega)), br_not (by simpa using h2)]
    · simp only [Bool.not_true, br_f]
      rw [wrapI (by omega) (by omega)]
  | cons c t ih =>
    intro q m hq hm
    have hm' : t.length + 1 < m := hm
    have hel : e.1.length = q.length + t.length + 1 := by rw [hq]; simp; omega
    have hc : c ≠ 10 := fun h => h10 (by rw [hq, h]; simp)
    have hi := ih (q ++ [c]) (m - 1) (by rw [hq]; simp) (by omega)
    rw [show ((q ++ [c]).length : Int) = (q.length : Int) + 1 by simp] at hi
    rw [fix_pos (by omega), law08_TableBack_loop1]
    simp only
    rw [chk_of (inBn (by omega)), getAt_mid hp, br_of (decide_eq_true (by omega)), chk_of (inBn (by omega)), chk_of (inBn (by omega)), getAt_mid hq, wrapI (by omega) (by omega)]
    rw [br_not (by
      have : c.toNat ≠ 10 := fun h => hc (UInt8.toNat_inj.1 h)
      simp; omega)]
    exact hi

theorem back_outer {n : Nat} {s : List UInt8} {l : List Line} (hs : s.length ≤ 1000) (hl : l = splitL s) (hn : 2000 ≤ n) : ∀ (r pre : List Line) (m : Nat), l = pre ++ r → r.length < m →
    fix (law08_TableBack_loop0 n) m (s, l, (pre.length : Int), ()) = some true := by
  have hll : l.length ≤ s.length + 1 := by rw [hl]; exact splitA_len s []
  have hj : joinL l = s := by rw [hl]; exact joinL_splitL s
  have hok : okL l := by rw [hl]; exact okL_splitA s [] (by simp)
  intro r
  induction r with
  | nil =>
    intro pre m hp hm
    have hp : pre = l := by simpa using hp.symm
    subst hp
    rw [fix_pos (by omega), law08_TableBack_loop0]
    simp only
    rw [br_not (by simp), table_Join_eq (by omega) (by rw [hj]; omega) (by omega), ob_s, hj]
    simp
  | cons e r ih =>
    intro pre m hp hm
    have hm' : r.length + 1 < m := hm
    have hlen : l.length = pre.length + r.length + 1 := by rw [hp]; simp; omega
    obtain ⟨h1, h2⟩ := okL_mid (by rw [hp] at hok; exact hok)
    have hel : e.1.length ≤ s.length := by
      rw [← hj, hp, joinL_app]
      simp [joinL, line1]
      omega
    have hi := ih (pre ++ [e]) (m - 1) (by rw [hp]; simp) (by omega)
    rw [show ((pre ++ [e]).length : Int) = (pre.length : Int) + 1 by simp] at hi
    rw [fix_pos (by omega), law08_TableBack_loop0]
    simp only
    rw [br_of (decide_eq_true (by omega))]
    have := back_inner (n := n) (s := s) hp (by omega) (by omega) h1 h2 (fix (law08_TableBack_loop0 n) (m - 1)) e.1 [] n rfl (by omega)
    rw [show (([] : List UInt8).length : Int) = 0 from rfl] at this
    rw [this]
    exact hi

theorem law08_shown_t : law08_shown 2000 () = some true := by kernel_rfl

theorem law08_TableBack_true (s : List UInt8) : law08_TableBack 2000 s = some true := by
  unfold law08_TableBack
  simp only [law08_shown_t, ob_s]
  by_cases h1 : (s.length : Int) > 500
  · rw [br_of (by simpa using h1)]
  rw [br_not (by simpa using h1)]
  simp only [Bool.not_true, br_f]
  rw [table_Split_eq _ (by omega), ob_s]
  exact back_outer (by omega) rfl (Nat.le_refl _) (splitL s) [] 2000 rfl (by have := splitA_len s []; simp only [splitL]; omega)

theorem law08_TableBack_claim (x : Dens [.str]) (_ : DensWF [.str] x) : law08_TableBack 2000 x = some true := law08_TableBack_true x
end Go.Dec

namespace Go.Dec

theorem lines_go {n : Nat} {l : List Line} (hl : l.length ≤ 100000) : ∀ (r pre : List Line) (m : Nat), l = pre ++ r → r.length < m → fix (law08_lines_loop0 n) m (l, (pre.length : Int), pre, ()) = some l := by
  intro r
  induction r with
  | nil =>
    intro pre m hp hm
    have hp : pre = l := by simpa using hp.symm
    subst hp
    rw [fix_pos (by omega), law08_lines_loop0]
    simp only
    rw [br_not (by simp)]
  | cons e r ih =>
    intro pre m hp hm
    have hm' : r.length + 1 < m := hm
    have hlen : l.length = pre.length + r.length + 1 := by rw [hp]; simp; omega
    have hi := ih (pre ++ [e]) (m - 1) (by rw [hp]; simp) (by omega)
    rw [show ((pre ++ [e]).length : Int) = (pre.length : Int) + 1 by simp] at hi
    rw [fix_pos (by omega), law08_lines_loop0]
    simp only
    rw [br_of (decide_eq_true (by omega)), chk_of (inBn (by omega)), getAt_mid hp, chk_of (room24 (by simp; omega)), wrapI (by omega) (by omega)]
    exact hi
theorem lines_id {n : Nat} {l : List Line} (hl : l.length ≤ 100000) (hn : l.length < n) : law08_lines n l = some l := by
  have := lines_go (n := n) hl l [] n rfl hn
  simpa [law08_lines] using this

theorem same_go {n : Nat} {l : List Line} (hl : l.length ≤ 100000) : ∀ (r pre : List Line) (m : Nat), l = pre ++ r → r.length < m → fix (ref08_SameLines_loop0 n) m (l, l, (pre.length : Int), ()) = some true := by
  intro r
  induction r with
  | nil =>
    intro pre m hp hm
    have hp : pre = l := by simpa using hp.symm
    subst hp
    rw [fix_pos (by omega), ref08_SameLines_loop0]
    simp only
    rw [br_not (by simp)]
  | cons e r ih =>
    intro pre m hp hm
    have hm' : r.length + 1 < m := hm
    have hlen : l.length = pre.length + r.length + 1 := by rw [hp]; simp; omega
    have hi := ih (pre ++ [e]) (m - 1) (by rw [hp]; simp) (by omega)
    rw [show ((pre ++ [e]).length : Int) = (pre.length : Int) + 1 by simp] at hi
    rw [fix_pos (by omega), ref08_SameLines_loop0]
    simp only
    rw [br_of (decide_eq_true (by omega)), chk_of (inBn (by omega)), getAt_mid hp, chk_of (inBn (by omega)), beq_self (show TSsbE.cmp = true from rfl), wrapI (by omega) (by omega)]
    simp only [Bool.not_true, br_f]
    exact hi
theorem same_id {n : Nat} {l : List Line} (hl : l.length ≤ 100000) (hn : l.length < n) : ref08_SameLines n (l, l) = some true := by
  have := same_go (n := n) hl l [] n rfl hn
  unfold ref08_SameLines
  simp only [bne_self_eq_false, br_f]
  simpa using this

theorem joinL_len : ∀ (l : List Line), (∀ e ∈ l, e.1.length ≤ 100) → (joinL l).length ≤ 101 * l.length
  | [], _ => by simp [joinL]
  | e :: l, h => by
    have h1 := h e (.head _)
    have ih := joinL_len l fun q hq => h q (.tail _ hq)
    have h2 : (line1 e).length ≤ e.1.length + 1 := by unfold line1; split <;> simp
    have h3 : (joinL (e :: l)).length = (line1 e).length + (joinL l).length := by simp [joinL]
    simp only [List.length_cons]
    omega

theorem splits_go {s : List UInt8} {l : List Line} (hs : s.length ≤ 500) (hl : l.length ≤ 60) : ∀ (r pre : List Line) (m : Nat), l = pre ++ r → r.length < m → (∀ e ∈ pre, e.1.length ≤ 100) → fix (law08_TableSplits_loop0 2000) m (s, l, (pre.length : Int), ()) = some true := by
  intro r
  induction r with
  | nil =>
    intro pre m hp hm hpre
    have hp : pre = l := by simpa using hp.symm
    subst hp
    have hjl := joinL_len pre hpre
    have hsl : (splitL s).length ≤ s.length + 1 := splitA_len s []
    rw [fix_pos (by omega), law08_TableSplits_loop0]
    simp only
    rw [br_not (by simp), table_Split_eq _ (by omega), ob_s, lines_id (by omega) (by omega), ob_s, ref08_Split_eq (by omega) (by omega), ob_s, same_id (by omega) (by omega), ob_s, br_t,
      table_Join_eq (by omega) (by omega) (by omega), ob_s, lines_id (by omega) (by omega), ob_s, ref08_Join_eq (by omega) (by omega) (by omega), ob_s]
    simp
  | cons e r ih =>
    intro pre m hp hm hpre
    have hm' : r.length + 1 < m := hm
    have hlen : l.length = pre.length + r.length + 1 := by rw [hp]; simp; omega
    rw [fix_pos (by omega), law08_TableSplits_loop0]
    simp only
    rw [br_of (decide_eq_true (by omega)), chk_of (inBn (by omega)), getAt_mid hp]
    by_cases h100 : (e.1.length : Int) > 100
    · rw [br_of (decide_eq_true h100), law08_shown_t, ob_s]
    · rw [br_not (decide_eq_false h100), wrapI (by omega) (by omega)]
      have hi := ih (pre ++ [e]) (m - 1) (by rw [hp]; simp) (by omega) (by
        intro q hq
        rcases List.mem_append.1 hq with hq | hq
        · exact hpre q hq
        · simp at hq; subst hq; omega)
      rw [show ((pre ++ [e]).length : Int) = (pre.length : Int) + 1 by simp] at hi
      exact hi

theorem law08_TableSplits_claim (x : Dens [.str, .slice TSsbE]) (_ : DensWF [.str, .slice TSsbE] x) : law08_TableSplits 2000 x = some true := by
  obtain ⟨s, l⟩ := x
  unfold law08_TableSplits
  simp only [law08_shown_t, ob_s]
  by_cases h1 : (s.length : Int) > 500
  · rw [br_of (by simpa using h1)]
  rw [br_not (by simpa using h1)]
  by_cases h2 : (l.length : Int) > 60
  · rw [br_of (by simpa using h2)]
  rw [br_not (by simpa using h2)]
  simp only [Bool.not_true, br_f]
  exact splits_go (by omega) (by omega) l [] 2000 rfl (by omega) (by simp)
end Go.Dec

namespace Go.Dec

abbrev less := Op.bytesLess

theorem less_nil (a : List UInt8) : less a [] = false := by cases a <;> rfl
theorem less_irrefl : ∀ a : List UInt8, less a a = false
  | [] => rfl
  | c :: a => by
    have := less_irrefl a
    simp only [less] at this
    simp [less, Op.bytesLess, this]
theorem less_total : ∀ {a b : List UInt8}, less a b = false → a ≠ b → less b a = true
  | a, [], _, h => by
    cases a with
    | nil => exact absurd rfl h
    | cons c a => rfl
  | [], _ :: _, h, _ => by simp [less, Op.bytesLess] at h
  | c :: a, d :: b, h, hn => by
    simp only [less, Op.bytesLess, Bool.or_eq_false_iff, decide_eq_false_iff_not, Bool.and_eq_false_imp, beq_iff_eq] at h ⊢
    obtain ⟨h1, h2⟩ := h
    by_cases hcd : c = d
    · subst hcd
      have h3 := less_total (a := a) (b := b) (h2 rfl) (fun e => hn (by rw [e]))
      simp only [less] at h3
      simp [h3]
    · have : d < c := by
        rw [UInt8.lt_iff_toNat_lt] at *
        have : c.toNat ≠ d.toNat := fun e => hcd (UInt8.toNat_inj.1 e)
        omega
      simp [this]
theorem less_trans : ∀ {a b c : List UInt8}, less a b = true → less b c = true → less a c = true
  | _, _, [], _, h => by rw [less_nil] at h; cases h
  | _, [], _ :: _, h, _ => by rw [less_nil] at h; cases h
  | [], _ :: _, _ :: _, _, _ => rfl
  | x :: a, y :: b, z :: c, h1, h2 => by
    simp only [less, Op.bytesLess, Bool.or_eq_true, decide_eq_true_eq, Bool.and_eq_true, beq_iff_eq] at h1 h2 ⊢
    rcases h1 with h1 | ⟨rfl, h1⟩
    · rcases h2 with h2 | ⟨rfl, h2⟩
      · exact .inl (UInt8.lt_trans h1 h2)
      · exact .inl h1
    · rcases h2 with h2 | ⟨rfl, h2⟩
      · exact .inl h2
      · exact .inr ⟨rfl, less_trans h1 h2⟩
theorem less_asymm {a b : List UInt8} (h : less a b = true) : less b a = false := by
  cases h2 : less b a with
  | false => rfl
  | true => have := less_trans h h2; rw [less_irrefl] at this; cases this
theorem less_ne {a b : List UInt8} (h : less a b = true) : a ≠ b := fun e => by rw [e, less_irrefl] at h; cases h

/-- What a table has of a name. -/
def getL (nm : List UInt8) : List FileD → List UInt8 × Bool
  | [] => ([], false)
  | e :: r => if e.1 == nm then (e.2.1, true) else getL nm r
/-- Whether files are a table. -/
def mayL (last : List UInt8) : List FileD → Bool
  | [] => true
  | e :: r => less last e.1 && mayL e.1 r
/-- A file is put. -/
def putL (nm d : List UInt8) : List FileD → List FileD
  | [] => [(nm, d, ())]
  | e :: r => if less e.1 nm then e :: putL nm d r else if e.1 == nm then (nm, d, ()) :: r else (nm, d, ()) :: e :: r
def putT (nm d : List UInt8) (l : List FileD) : List FileD := if nm == [] then l else putL nm d l
def addT (nm d : List UInt8) (l : List FileD) : List FileD := putT nm ((getL nm l).1 ++ d) l

theorem mid_lt {α : Type} {l q t : List α} {e : α} (h : l = q ++ e :: t) : (q.length : Int) < (l.length : Int) := by rw [h]; simp; omega
theorem mid_len {α : Type} {l q t : List α} {e : α} (h : l = q ++ e :: t) : l.length = q.length + t.length + 1 := by rw [h]; simp; omega
theorem mid_app {α : Type} {l q t : List α} {e : α} (h : l = q ++ e :: t) : l = (q ++ [e]) ++ t := by rw [h]; simp
theorem len_succ {α : Type} (q : List α) (e : α) : ((q ++ [e]).length : Int) = (q.length : Int) + 1 := by simp

theorem getL_split {nm : List UInt8} : ∀ {q t : List FileD}, (∀ e ∈ q, (e.1 == nm) = false) → getL nm (q ++ t) = getL nm t
  | [], _, _ => rfl
  | e :: q, t, h => by
    have h1 := h e (.head _)
    simp only [List.cons_append, getL, h1, Bool.false_eq_true, if_false]
    exact getL_split fun x hx => h x (.tail _ hx)

theorem ref08_Get_eq {n : Nat} {l : List FileD} {nm : List UInt8} (hl : l.length ≤ 100000000) (hn : l.length < n) : ref08_Get n (l, nm) = some (getL nm l) := by
  have key : ∀ (t q : List FileD) (m : Nat), l = q ++ t → t.length < m → fix (ref08_Get_loop0 n) m (l, nm, (q.length : Int), ()) = some (getL nm t) := by
    intro t
    induction t with
    | nil =>
      intro q m hq hm
      have hq : q = l := by simpa using hq.symm
      subst hq
      rw [fix_pos (by omega), ref08_Get_loop0]
      simp only
      rw [br_not (by simp)]
      rfl
    | cons e t ih =>
      intro q m hq hm
      have hm' : t.length + 1 < m := hm
      have hlen := mid_len hq
      rw [fix_pos (by omega), ref08_Get_loop0]
      simp only
      rw [br_of (decide_eq_true (by omega)), chk_of (inBn (by omega)), getAt_mid hq, wrapI (by omega) (by omega)]
      have hi := ih (q ++ [e]) (m - 1) (mid_app hq) (by omega)
      rw [len_succ] at hi
      rw [getL]
      cases he : e.1 == nm
      · rw [br_f, hi]; rfl
      · rw [br_t, chk_of (inBn (by omega))]; rfl
  have := key l [] n rfl hn
  exact this

theorem indexGet {n : Nat} {l : List FileD} {nm : List UInt8} (hl : l.length ≤ 100000000) : ∀ (t q : List FileD) (m : Nat), l = q ++ t → t.length < m →
    ∃ i : Int, fix (slices_IndexFunc_File__table_Get_1_loop0 n) m (l, (l.length : Int), (q.length : Int), nm, ()) = some (i, nm, ()) ∧
      ((i < 0 ∧ getL nm t = ([], false)) ∨ (¬ i < 0 ∧ inB i l.length = true ∧ getL nm t = ((getAt (Ty.dflt TSssE) l i).2.1, true))) := by
  intro t
  induction t with
  | nil =>
    intro q m hq hm
    have hq : q = l := by simpa using hq.symm
    subst hq
    refine ⟨-1, ?_, .inl ⟨by omega, rfl⟩⟩
    rw [fix_pos (by omega), slices_IndexFunc_File__table_Get_1_loop0]
    simp only
    rw [br_not (by simp)]
  | cons e t ih =>
    intro q m hq hm
    have hm' : t.length + 1 < m := hm
    have hlen := mid_len hq
    rw [fix_pos (by omega), slices_IndexFunc_File__table_Get_1_loop0]
    simp only
    rw [br_of (decide_eq_true (by omega)), chk_of (inBn (by omega)), getAt_mid hq, wrapI (by omega) (by omega)]
    simp only [table_Get_1, ob_s]
    have hi := ih (q ++ [e]) (m - 1) (mid_app hq) (by omega)
    rw [len_succ] at hi
    rw [getL]
    cases he : e.1 == nm
    · rw [br_f]; exact hi
    · rw [br_t]
      exact ⟨_, rfl, .inr ⟨by omega, inBn (by omega), by rw [getAt_mid hq]; rfl⟩⟩

theorem table_Get_eq {n : Nat} {l : List FileD} {nm : List UInt8} (hl : l.length ≤ 100000000) (hn : l.length < n) : table_Get n (l, nm) = some (getL nm l) := by
  obtain ⟨i, hi, h⟩ := indexGet (n := n) (nm := nm) hl l [] n rfl hn
  unfold table_Get slices_IndexFunc_File__table_Get_1
  simp only
  rw [show (([] : List FileD).length : Int) = 0 by simp] at hi
  rw [hi, ob_s]
  simp only
  rcases h with ⟨h1, h2⟩ | ⟨h1, h2, h3⟩
  · rw [br_of (decide_eq_true h1), h2]
  · rw [br_not (decide_eq_false h1), chk_of h2, h3]

/-- The place of a name. -/
def placeL (nm : List UInt8) : Nat → List FileD → Nat × Bool
  | k, [] => (k, false)
  | k, e :: r => if less e.1 nm then placeL nm (k + 1) r else (k, e.1 == nm)

theorem indexPlace {n : Nat} {l : List FileD} {nm : List UInt8} (hl : l.length ≤ 100000000) : ∀ (t q : List FileD) (m : Nat), l = q ++ t → t.length < m →
    ∃ i : Int, fix (pl_slices_IndexFunc_File__table_place_File_1_loop0 n) m (l, (l.length : Int), (q.length : Int), nm, ()) = some (i, nm, ()) ∧
      ((i < 0 ∧ placeL nm q.length t = (l.length, false)) ∨ (¬ i < 0 ∧ inB i l.length = true ∧ placeL nm q.length t = (i.toNat, (getAt (Ty.dflt pl_TSssE) l i).1 == nm))) := by
  intro t
  induction t with
  | nil =>
    intro q m hq hm
    have hq : q = l := by simpa using hq.symm
    subst hq
    refine ⟨-1, ?_, .inl ⟨by omega, rfl⟩⟩
    rw [fix_pos (by omega), pl_slices_IndexFunc_File__table_place_File_1_loop0]
    simp only
    rw [br_not (by simp)]
  | cons e t ih =>
    intro q m hq hm
    have hm' : t.length + 1 < m := hm
    have hlen := mid_len hq
    rw [fix_pos (by omega), pl_slices_IndexFunc_File__table_place_File_1_loop0]
    simp only
    rw [br_of (decide_eq_true (by omega)), chk_of (inBn (by omega)), getAt_mid hq, wrapI (by omega) (by omega)]
    simp only [pl_table_place_File_1, pl_table_name, ob_s]
    have hi := ih (q ++ [e]) (m - 1) (mid_app hq) (by omega)
    rw [len_succ] at hi
    rw [placeL]
    rw [show (q ++ [e]).length = q.length + 1 by simp] at hi
    show ∃ i : Int, br (!less e.1 nm) _ _ = _ ∧ _
    cases he : less e.1 nm
    · rw [Bool.not_false, br_t]
      exact ⟨_, rfl, .inr ⟨by omega, inBn (by omega), by rw [getAt_mid hq]; rfl⟩⟩
    · rw [Bool.not_true, br_f]; exact hi

theorem table_place_eq {n : Nat} {l : List FileD} {nm : List UInt8} (hl : l.length ≤ 100000000) (hn : l.length < n) : table_place n (l, nm, .func (.func 52) #[] #[]) = some (((placeL nm 0 l).1 : Int), (placeL nm 0 l).2) := by
  obtain ⟨i, hi, h⟩ := indexPlace (n := n) (nm := nm) hl l [] n rfl hn
  have hc : placeConv (l, nm, .func (.func 52) #[] #[]) = some (l, nm, ()) := rfl
  unfold table_place
  rw [hc]
  simp only
  unfold pl_table_place_File__table_name pl_slices_IndexFunc_File__table_place_File_1
  simp only
  rw [show (([] : List FileD).length : Int) = 0 by simp] at hi
  rw [hi, ob_s]
  simp only
  rcases h with ⟨h1, h2⟩ | ⟨h1, h2, h3⟩
  · rw [br_of (decide_eq_true h1)]
    simp only [List.length_nil] at h2
    rw [h2]
  · rw [br_not (decide_eq_false h1), chk_of h2]
    simp only [pl_table_name, ob_s]
    simp only [List.length_nil] at h3
    rw [h3]
    simp only
    rw [show ((i.toNat : Nat) : Int) = i by omega]

theorem put_of_place {nm d : List UInt8} : ∀ (t q : List FileD), (placeL nm q.length t).1 ≤ (q ++ t).length ∧
    (if (placeL nm q.length t).2 then (placeL nm q.length t).1 < (q ++ t).length ∧ ((q ++ t).getD (placeL nm q.length t).1 (Ty.dflt TSssE)).1 = nm ∧ (q ++ t).set (placeL nm q.length t).1 (nm, d, ()) = q ++ putL nm d t
      else (q ++ t).take (placeL nm q.length t).1 ++ [(nm, d, ())] ++ (q ++ t).drop (placeL nm q.length t).1 = q ++ putL nm d t) := by
  intro t
  induction t with
  | nil => intro q; simp [placeL, putL]
  | cons e t ih =>
    intro q
    have hi := ih (q ++ [e])
    rw [show (q ++ [e]).length = q.length + 1 by simp, show (q ++ [e]) ++ t = q ++ e :: t by simp] at hi
    rw [placeL, putL]
    cases he : less e.1 nm
    · simp only [Bool.false_eq_true, if_false]
      refine ⟨by simp, ?_⟩
      cases hn : e.1 == nm
      · simp
      · have hn : e.1 = nm := by simpa using hn
        simp [hn]
    · simp only [if_true]
      rw [show (q ++ [e]) ++ putL nm d t = q ++ e :: putL nm d t by simp] at hi
      exact hi

theorem table_Put_eq {n : Nat} {l : List FileD} {nm d : List UInt8} (hl : l.length ≤ 100000000) (hn : l.length < n) : table_Put n (l, nm, d) = some (putT nm d l) := by
  unfold table_Put putT
  simp only
  cases he : nm == []
  · rw [br_f]
    unfold slices_Clone_tableFile cloneG
    rw [chk_of (by rw [Nat.ble_eq]; simp only [room]; omega), ob_s]
    simp only
    rw [table_place_eq hl hn, ob_s]
    simp only
    have h := put_of_place (nm := nm) (d := d) l []
    simp only [List.length_nil, List.nil_append] at h
    obtain ⟨h1, h2⟩ := h
    cases hp : (placeL nm 0 l).2
    · rw [hp] at h2
      simp only [Bool.false_eq_true, if_false] at h2
      rw [br_f]
      unfold slices_Insert
      simp only
      rw [chk_of (by simp [room]; omega), ob_s]
      simp only [Int.toNat_natCast]
      rw [h2]
      rfl
    · rw [hp] at h2
      simp only [if_true] at h2
      obtain ⟨h3, h4, h5⟩ := h2
      rw [br_t, chk_of (by simp; exact inBn h3), chk_of (by simp; exact h3)]
      simp only [Int.toNat_natCast, Nat.zero_add]
      rw [h4, h5]
      rfl
  · rw [br_t]; rfl
end Go.Dec

namespace Go.Dec

theorem putL_len {nm d : List UInt8} : ∀ l : List FileD, l.length ≤ (putL nm d l).length ∧ (putL nm d l).length ≤ l.length + 1
  | [] => by simp [putL]
  | e :: r => by
    have ih := putL_len (nm := nm) (d := d) r
    unfold putL
    split
    · simp; omega
    · split <;> simp
theorem putT_len {nm d : List UInt8} (l : List FileD) : l.length ≤ (putT nm d l).length ∧ (putT nm d l).length ≤ l.length + 1 := by
  unfold putT
  split
  · omega
  · exact putL_len l

theorem getL_dlen {nm : List UInt8} {k : Nat} : ∀ {l : List FileD}, (∀ e ∈ l, e.2.1.length ≤ k) → (getL nm l).1.length ≤ k
  | [], _ => by simp [getL]
  | e :: r, h => by
    unfold getL
    split
    · exact h e (.head _)
    · exact getL_dlen fun x hx => h x (.tail _ hx)
theorem table_Add_eq {n : Nat} {l : List FileD} {nm d : List UInt8} (hl : l.length ≤ 100000000) (hn : l.length < n) (hd : (getL nm l).1.length + d.length ≤ maxStr) : table_Add n (l, nm, d) = some (addT nm d l) := by
  unfold table_Add
  simp only
  rw [table_Get_eq hl hn, ob_s, chk_of (decide_eq_true hd), table_Put_eq hl hn]
  rfl

theorem its_eq {n : Nat} {l : List FileD} (hl : l.length ≤ 100000000) (hn : l.length < n) : law08_its n l = some l := by
  have key : ∀ (r pre : List FileD) (m : Nat), l = pre ++ r → r.length < m → fix (law08_its_loop0 n) m (l, (pre.length : Int), pre, ()) = some l := by
    intro r
    induction r with
    | nil =>
      intro pre m hp hm
      have hp : pre = l := by simpa using hp.symm
      subst hp
      rw [fix_pos (by omega), law08_its_loop0]
      simp only
      rw [br_not (by simp)]
    | cons e r ih =>
      intro pre m hp hm
      have hm' : r.length + 1 < m := hm
      have hlen := mid_len hp
      have hi := ih (pre ++ [e]) (m - 1) (mid_app hp) (by omega)
      rw [len_succ] at hi
      rw [fix_pos (by omega), law08_its_loop0]
      simp only
      rw [br_of (decide_eq_true (by omega)), chk_of (inBn (by omega)), getAt_mid hp, chk_of (by rw [Nat.ble_eq]; simp [room]; omega), wrapI (by omega) (by omega)]
      exact hi
  exact key l [] n rfl hn

theorem ref08_Same_self {n : Nat} {l : List FileD} (hl : l.length ≤ 100000000) (hn : l.length < n) : ref08_Same n (l, l) = some true := by
  have key : ∀ (r pre : List FileD) (m : Nat), l = pre ++ r → r.length < m → fix (ref08_Same_loop0 n) m (l, l, (pre.length : Int), ()) = some true := by
    intro r
    induction r with
    | nil =>
      intro pre m hp hm
      have hp : pre = l := by simpa using hp.symm
      subst hp
      rw [fix_pos (by omega), ref08_Same_loop0]
      simp only
      rw [br_not (by simp)]
    | cons e r ih =>
      intro pre m hp hm
      have hm' : r.length + 1 < m := hm
      have hlen := mid_len hp
      have hi := ih (pre ++ [e]) (m - 1) (mid_app hp) (by omega)
      rw [len_succ] at hi
      rw [fix_pos (by omega), ref08_Same_loop0]
      simp only
      rw [br_of (decide_eq_true (by omega)), chk_of (inBn (by omega)), getAt_mid hp, chk_of (inBn (by omega)), beq_self (show TSssE.cmp = true from rfl), wrapI (by omega) (by omega)]
      simp only [Bool.not_true, br_f]
      exact hi
  have := key l [] n rfl hn
  unfold ref08_Same
  simp only [bne_self_eq_false, br_f]
  exact this

theorem may_step (a b : List UInt8) : (Op.bytesLess b a || b == a) = !less a b := by
  cases h : less a b
  · by_cases e : a = b
    · subst e; simp
    · have := less_total h e
      simp only [less] at this
      simp [this]
  · have h1 := less_asymm h
    have h2 : (b == a) = false := by simpa using fun e => less_ne h e.symm
    simp only [less] at h1
    simp [h1, h2]

theorem table_May_eq {n : Nat} {l : List FileD} (hl : l.length ≤ 100000000) (hn : l.length < n) : table_May n l = some (mayL [] l) := by
  have key : ∀ (r pre : List FileD) (last : List UInt8) (m : Nat), l = pre ++ r → r.length < m → fix (table_May_loop0 n) m (last, l, (l.length : Int), (pre.length : Int), ()) = some (mayL last r) := by
    intro r
    induction r with
    | nil =>
      intro pre last m hp hm
      have hp : pre = l := by simpa using hp.symm
      subst hp
      rw [fix_pos (by omega), table_May_loop0]
      simp only
      rw [br_not (by simp)]
      rfl
    | cons e r ih =>
      intro pre last m hp hm
      have hm' : r.length + 1 < m := hm
      have hlen := mid_len hp
      have hi := ih (pre ++ [e]) e.1 (m - 1) (mid_app hp) (by omega)
      rw [len_succ] at hi
      rw [fix_pos (by omega), table_May_loop0]
      simp only
      rw [br_of (decide_eq_true (by omega)), chk_of (inBn (by omega)), getAt_mid hp, wrapI (by omega) (by omega), may_step, mayL]
      cases less last e.1
      · rw [Bool.not_false, br_t]; rfl
      · rw [Bool.not_true, br_f, hi]; rfl
  exact key l [] [] n rfl hn

theorem mayL_nil (e : FileD) (r : List FileD) : mayL [] (e :: r) = (!(e.1 == []) && mayL e.1 r) := by
  have h1 : less [] e.1 = !(e.1 == []) := by cases e.1 <;> rfl
  rw [mayL, h1]

theorem ref08_May_eq {n : Nat} {l : List FileD} (hl : l.length ≤ 100000000) (hn : l.length < n) : ref08_May n l = some (mayL [] l) := by
  have key : ∀ (r pre : List FileD) (p : FileD) (m : Nat), l = pre ++ p :: r → r.length < m → fix (ref08_May_loop0 n) m (l, ((pre.length + 1 : Nat) : Int), ()) = some (mayL p.1 r) := by
    intro r
    induction r with
    | nil =>
      intro pre p m hp hm
      have hlen := mid_len hp
      simp only [List.length_nil] at hlen
      rw [fix_pos (by omega), ref08_May_loop0]
      simp only
      rw [br_not (decide_eq_false (by omega))]
      rfl
    | cons e r ih =>
      intro pre p m hp hm
      have hm' : r.length + 1 < m := hm
      have hlen := mid_len hp
      simp only [List.length_cons] at hlen
      have hp2 : l = (pre ++ [p]) ++ e :: r := by rw [hp]; simp
      have hi := ih (pre ++ [p]) e (m - 1) hp2 (by omega)
      have g1 : getAt (Ty.dflt TSssE) l ((pre.length + 1 : Nat) : Int) = e := by
        have := getAt_mid (d := Ty.dflt TSssE) hp2
        rw [show (pre ++ [p]).length = pre.length + 1 by simp] at this
        exact this
      rw [show (pre ++ [p]).length + 1 = pre.length + 1 + 1 by simp] at hi
      rw [fix_pos (by omega), ref08_May_loop0]
      simp only
      rw [br_of (decide_eq_true (by omega)), chk_of (inBn (by omega)), g1]
      rw [mayL]
      cases he : e.1 == []
      · rw [br_f, br_of (decide_eq_true (by omega)), wrapI (x := ((pre.length + 1 : Nat) : Int) - 1) (by omega) (by omega), show ((pre.length + 1 : Nat) : Int) - 1 = (pre.length : Int) by omega,
          chk_of (inBn (by omega)), getAt_mid hp, chk_of (inBn (by omega)), wrapI (by omega) (by omega)]
        show br (!less p.1 e.1) _ _ = _
        cases less p.1 e.1
        · rw [Bool.not_false, br_t]; rfl
        · rw [Bool.not_true, br_f, Bool.true_and]
          rw [← hi]; rfl
      · have he : e.1 = [] := by simpa using he
        rw [br_t, he, less_nil]; rfl
  cases l with
  | nil =>
    unfold ref08_May
    simp only
    rw [fix_pos (by omega), ref08_May_loop0]
    simp only
    rw [br_not (by simp)]
    rfl
  | cons e r =>
    have hm' : r.length + 1 < n := hn
    have hl' : r.length + 1 ≤ 100000000 := hl
    have hi := key r [] e (n - 1) rfl (by omega)
    unfold ref08_May
    simp only
    rw [fix_pos (by omega), ref08_May_loop0]
    simp only
    rw [br_of (decide_eq_true (by simp only [List.length_cons]; omega)), chk_of (inB_t (by omega) (by simp)), show getAt (Ty.dflt TSssE) (e :: r) 0 = e from getAt_mid (pre := []) rfl, mayL_nil]
    cases e.1 == []
    · rw [br_f, br_not (by simp), wrapI (by omega) (by omega)]
      simp only [Bool.not_false, Bool.true_and]
      rw [← hi]; rfl
    · rw [br_t]; rfl

theorem bounded_some {n : Nat} {l : List FileD} (hl : l.length ≤ 9223372036854775807) (hn : l.length < n) : ∃ b, law08_bounded n l = some b ∧ (b = true → l.length ≤ 40 ∧ ∀ e ∈ l, e.1.length ≤ 100 ∧ e.2.1.length ≤ 300) := by
  have key : ∀ (r pre : List FileD) (m : Nat), l = pre ++ r → r.length < m → (∀ e ∈ pre, e.1.length ≤ 100 ∧ e.2.1.length ≤ 300) → ∃ b, fix (law08_bounded_loop0 n) m (l, (pre.length : Int), ()) = some b ∧ (b = true → l.length ≤ 40 ∧ ∀ e ∈ l, e.1.length ≤ 100 ∧ e.2.1.length ≤ 300) := by
    intro r
    induction r with
    | nil =>
      intro pre m hp hm hb
      have hp : pre = l := by simpa using hp.symm
      subst hp
      rw [fix_pos (by omega), law08_bounded_loop0]
      simp only
      rw [br_not (by simp)]
      exact ⟨_, rfl, fun h => ⟨by have := of_decide_eq_true h; omega, hb⟩⟩
    | cons e r ih =>
      intro pre m hp hm hb
      have hm' : r.length + 1 < m := hm
      have hlen := mid_len hp
      rw [fix_pos (by omega), law08_bounded_loop0]
      simp only
      rw [br_of (decide_eq_true (by omega)), chk_of (inBn (by omega)), getAt_mid hp]
      by_cases h1 : (e.1.length : Int) > 100
      · rw [br_of (decide_eq_true h1)]; exact ⟨_, rfl, fun h => by cases h⟩
      rw [br_not (decide_eq_false h1), chk_of (inBn (by omega))]
      by_cases h2 : (e.2.1.length : Int) > 300
      · rw [br_of (decide_eq_true h2)]; exact ⟨_, rfl, fun h => by cases h⟩
      rw [br_not (decide_eq_false h2), wrapI (by omega) (by omega)]
      have hi := ih (pre ++ [e]) (m - 1) (mid_app hp) (by omega) (by
        intro x hx
        rcases List.mem_append.1 hx with hx | hx
        · exact hb x hx
        · simp at hx; subst hx; omega)
      rw [len_succ] at hi
      exact hi
  exact key l [] n rfl hn (by simp)

theorem shown_t {n : Nat} (hn : 100 < n) : law08_shown n () = some true := by
  unfold law08_shown
  rw [table_Put_eq (by simp) (by simp; omega), ob_s, table_Put_eq (by have := (putT_len (nm := [98]) (d := [50]) []).2; simp at this; omega) (by have := (putT_len (nm := [98]) (d := [50]) []).2; simp at this; omega), ob_s]
  rw [show putT [97] [49] (putT [98] [50] []) = [([97], [49], ()), ([98], [50], ())] from by decide +kernel]
  rw [table_Add_eq (by simp) (by simp; omega) (by decide +kernel), ob_s, show addT [98] [51] [([97], [49], ()), ([98], [50], ())] = [([97], [49], ()), ([98], [50, 51], ())] from by decide +kernel]
  rw [table_Get_eq (by simp) (by simp; omega), ob_s, table_Split_eq _ (by simp), ob_s]
  decide +kernel

/-- What is left where the bound isn't held. -/
theorem ob_shown {n : Nat} (hn : 100 < n) : (ob (law08_shown n ()) fun y => some y) = some true := by rw [shown_t hn]; rfl

theorem law08_TableTells_claim (n : Nat) (x : List FileD × List UInt8) (hx : x.1.length ≤ 9223372036854775807) (hn : x.1.length + 200 < n) : law08_TableTells n x = some true := by
  obtain ⟨l, nm⟩ := x
  simp only at hx hn
  obtain ⟨b, h1, h2⟩ := bounded_some hx (by omega : l.length < n)
  unfold law08_TableTells
  simp only
  rw [h1, ob_s]
  simp only [ob_shown (by omega : 100 < n)]
  cases b
  · rfl
  obtain ⟨h3, h4⟩ := h2 rfl
  simp only [Bool.not_true, br_f]
  by_cases h5 : (nm.length : Int) > 100
  · rw [br_of (decide_eq_true h5)]
  rw [br_not (decide_eq_false h5), shown_t (by omega), ob_s, Bool.not_true, br_f]
  rw [table_Get_eq (by omega) (by omega), ob_s, its_eq (by omega) (by omega), ob_s, ref08_Get_eq (by omega) (by omega), ob_s, table_May_eq (by omega) (by omega), ob_s, ob_s, ref08_May_eq (by omega) (by omega), ob_s]
  simp

theorem getL_put_other {nm d o : List UInt8} (h : (o == nm) = false) : ∀ l : List FileD, getL o (putL nm d l) = getL o l
  | [] => by
    have : (nm == o) = false := by rw [beq_eq_false_iff_ne] at *; exact fun e => h e.symm
    simp [putL, getL, this]
  | e :: r => by
    have hh : (nm == o) = false := by rw [beq_eq_false_iff_ne] at *; exact fun e => h e.symm
    have ih := getL_put_other (d := d) h r
    unfold putL
    split
    · simp only [getL, ih]
    · split
      · rename_i he
        have he : e.1 = nm := by simpa using he
        simp [getL, hh, he]
      · simp [getL, hh]
theorem getL_put_same {nm d : List UInt8} : ∀ l : List FileD, getL nm (putL nm d l) = (d, true)
  | [] => by simp [putL, getL]
  | e :: r => by
    have ih := getL_put_same (nm := nm) (d := d) r
    unfold putL
    split
    · rename_i he
      have : (e.1 == nm) = false := by rw [beq_eq_false_iff_ne]; exact less_ne he
      simp [getL, this, ih]
    · split <;> simp [getL]
theorem mayL_put {nm d : List UInt8} : ∀ {l : List FileD} {last : List UInt8}, less last nm = true → mayL last l = true → mayL last (putL nm d l) = true
  | [], last, h, _ => by simp [putL, mayL, h]
  | e :: r, last, h, hm => by
    simp only [mayL, Bool.and_eq_true] at hm
    unfold putL
    split
    · rename_i he
      simp only [mayL, Bool.and_eq_true]
      exact ⟨hm.1, mayL_put he hm.2⟩
    · rename_i he
      split
      · rename_i hn
        have hn : e.1 = nm := by simpa using hn
        simp only [mayL, Bool.and_eq_true]
        exact ⟨h, hn ▸ hm.2⟩
      · rename_i hn
        simp only [mayL, Bool.and_eq_true]
        exact ⟨h, less_total (by simpa using he) (by simpa using hn), hm.2⟩
theorem nil_less {nm : List UInt8} (h : (nm == []) = false) : less [] nm = true := by
  cases nm with
  | nil => simp at h
  | cons c r => rfl

theorem law08_TableOthers_claim (n : Nat) (x : List FileD × List UInt8 × List UInt8 × List UInt8) (hx : x.1.length ≤ 9223372036854775807) (hn : x.1.length + 200 < n) : law08_TableOthers n x = some true := by
  obtain ⟨l, nm, d, o⟩ := x
  simp only at hx hn
  obtain ⟨b, h1, h2⟩ := bounded_some hx (by omega : l.length < n)
  unfold law08_TableOthers
  simp only
  rw [h1, ob_s]
  simp only [ob_shown (by omega : 100 < n)]
  cases b
  · rfl
  obtain ⟨h3, h4⟩ := h2 rfl
  simp only [Bool.not_true, br_f]
  by_cases h5 : (nm.length : Int) > 100
  · rw [br_of (decide_eq_true h5)]
  rw [br_not (decide_eq_false h5)]
  by_cases h6 : (d.length : Int) > 300
  · rw [br_of (decide_eq_true h6)]
  rw [br_not (decide_eq_false h6)]
  by_cases h7 : (o.length : Int) > 100
  · rw [br_of (decide_eq_true h7)]
  rw [br_not (decide_eq_false h7)]
  cases h8 : nm == []
  case true => rfl
  cases h9 : o == nm
  case true => rfl
  rw [br_f, br_f, table_May_eq (by omega) (by omega), ob_s]
  cases h10 : mayL [] l
  case false => rfl
  rw [Bool.not_true, br_f, shown_t (by omega), ob_s, Bool.not_true, br_f]
  have hp : putT nm d l = putL nm d l := by simp [putT, h8]
  have hlen := (putT_len (nm := nm) (d := d) l).2
  rw [table_Put_eq (by omega) (by omega), ob_s]
  simp only [table_Get_eq (n := n) (l := putT nm d l) (by omega) (by omega), ob_s]
  rw [table_Get_eq (by omega) (by omega), ob_s, table_May_eq (by omega) (by omega), ob_s, hp, getL_put_other h9, getL_put_same, mayL_put (nil_less h8) h10]
  simp

theorem putL_twice {nm a b : List UInt8} : ∀ l : List FileD, putL nm b (putL nm a l) = putL nm b l
  | [] => by simp [putL, less_irrefl]
  | e :: r => by
    have ih := putL_twice (nm := nm) (a := a) (b := b) r
    by_cases he : less e.1 nm = true
    · simp [putL, he, ih]
    · have he : less e.1 nm = false := by simpa using he
      cases h : e.1 == nm <;> simp [putL, he, h, less_irrefl]
theorem putT_twice {nm a b : List UInt8} (l : List FileD) : putT nm b (putT nm a l) = putT nm b l := by
  unfold putT
  split
  · rfl
  · exact putL_twice l
theorem addT_put {nm a b : List UInt8} (l : List FileD) (h : (nm == []) = false) : addT nm b (putT nm a l) = putT nm (a ++ b) l := by
  unfold addT putT
  simp only [h, Bool.false_eq_true, if_false, getL_put_same, putL_twice]
theorem addT_nil {nm a b : List UInt8} (l : List FileD) (h : (nm == []) = true) : addT nm b (putT nm a l) = putT nm (a ++ b) l := by
  unfold addT putT
  simp only [h, if_true]

theorem law08_TableAgain_claim (n : Nat) (x : List FileD × List UInt8 × List UInt8 × List UInt8) (hx : x.1.length ≤ 9223372036854775807) (hn : x.1.length + 200 < n) : law08_TableAgain n x = some true := by
  obtain ⟨l, nm, a, c⟩ := x
  simp only at hx hn
  obtain ⟨b, h1, h2⟩ := bounded_some hx (by omega : l.length < n)
  unfold law08_TableAgain
  simp only
  rw [h1, ob_s]
  simp only [ob_shown (by omega : 100 < n)]
  cases b
  · rfl
  obtain ⟨h3, h4⟩ := h2 rfl
  simp only [Bool.not_true, br_f]
  by_cases h5 : (nm.length : Int) > 100
  · rw [br_of (decide_eq_true h5)]
  rw [br_not (decide_eq_false h5)]
  by_cases h6 : (a.length : Int) > 300
  · rw [br_of (decide_eq_true h6)]
  rw [br_not (decide_eq_false h6)]
  by_cases h7 : (c.length : Int) > 300
  · rw [br_of (decide_eq_true h7)]
  rw [br_not (decide_eq_false h7)]
  rw [table_May_eq (by omega) (by omega), ob_s]
  cases h10 : mayL [] l
  case false => rfl
  rw [Bool.not_true, br_f, shown_t (by omega), ob_s, Bool.not_true, br_f]
  have hl1 := (putT_len (nm := nm) (d := a) l).2
  have hl2 := (putT_len (nm := nm) (d := c) l).2
  have hl3 := (putT_len (nm := nm) (d := a ++ c) l).2
  have hg : (getL nm (putT nm a l)).1.length ≤ 300 := by
    unfold putT
    split
    · exact getL_dlen fun e he => (h4 e he).2
    · rw [getL_put_same]; simp only; omega
  have hadd : addT nm c (putT nm a l) = putT nm (a ++ c) l := by
    cases h8 : nm == []
    · exact addT_put l h8
    · exact addT_nil l h8
  rw [table_Put_eq (l := l) (d := a) (by omega) (by omega), ob_s, table_Put_eq (l := putT nm a l) (by omega) (by omega), ob_s, table_Put_eq (l := l) (d := c) (by omega) (by omega), ob_s, ob_s,
    table_Add_eq (by omega) (by omega) (by simp only [maxStr]; omega), ob_s, chk_of (decide_eq_true (by simp only [maxStr]; omega)), table_Put_eq (l := l) (d := a ++ c) (by omega) (by omega), ob_s, putT_twice, hadd]
  simp only [its_eq (n := n) (l := putT nm c l) (by omega) (by omega), ob_s]
  rw [ref08_Same_self (by omega) (by omega), ob_s, br_t]
  simp only [its_eq (n := n) (l := putT nm (a ++ c) l) (by omega) (by omega), ob_s]
  rw [ref08_Same_self (by omega) (by omega), ob_s]
end Go.Dec

namespace Go.Dec

theorem pure_dep {P : Program} {f : FuncId} {ts rs : List Ty} {G : Nat → Dens ts → Option (Dens rs)} (N : Dens ts → Nat) (h : ∀ n, Pure P f ts rs (G n)) : Pure P f ts rs (fun x => G (N x) x) :=
  ⟨(h 0).1, fun x y hy => (h (N x)).2 x y hy⟩

theorem mayL_gt : ∀ {l : List FileD} {x : List UInt8}, mayL x l = true → ∀ e ∈ l, less x e.1 = true
  | e :: r, x, h, y, hy => by
    simp only [mayL, Bool.and_eq_true] at h
    rcases List.mem_cons.1 hy with rfl | hy
    · exact h.1
    · exact less_trans h.1 (mayL_gt h.2 y hy)

theorem ref08_Put_eq {n : Nat} {l : List FileD} {nm d last : List UInt8} (hl : l.length ≤ 100000000) (hn : l.length < n) (hm : mayL last l = true) : ref08_Put n (l, nm, d) = some (putT nm d l) := by
  have key2 : ∀ (r pre row : List FileD) (m : Nat), l = pre ++ r → r.length < m → row.length ≤ pre.length + 1 → (∀ e ∈ r, (e.1 == nm) = false) →
      fix (ref08_Put_loop0 n) m (l, nm, d, true, (pre.length : Int), row, ()) = some (row ++ r) := by
    intro r
    induction r with
    | nil =>
      intro pre row m hp hm _ _
      have hp : pre = l := by simpa using hp.symm
      subst hp
      rw [fix_pos (by omega), ref08_Put_loop0]
      simp only
      rw [br_not (by simp), Bool.not_true, br_f, List.append_nil]
    | cons e r ih =>
      intro pre row m hp hm hw hne
      have hm' : r.length + 1 < m := hm
      have hlen := mid_len hp
      have hi := ih (pre ++ [e]) (row ++ [e]) (m - 1) (mid_app hp) (by omega) (by simp; omega) fun x hx => hne x (.tail _ hx)
      rw [len_succ] at hi
      rw [fix_pos (by omega), ref08_Put_loop0]
      simp only
      rw [br_of (decide_eq_true (by omega)), Bool.not_true, br_f, chk_of (inBn (by omega)), getAt_mid hp, hne e (.head _), Bool.not_false, br_t, chk_of (inBn (by omega)),
        chk_of (by rw [Nat.ble_eq]; simp [room]; omega), wrapI (by omega) (by omega), hi]
      simp
  have key1 : ∀ (r pre : List FileD) (x : List UInt8) (m : Nat), l = pre ++ r → r.length < m → mayL x r = true →
      fix (ref08_Put_loop0 n) m (l, nm, d, false, (pre.length : Int), pre, ()) = some (pre ++ putL nm d r) := by
    intro r
    induction r with
    | nil =>
      intro pre x m hp hm _
      have hp : pre = l := by simpa using hp.symm
      subst hp
      rw [fix_pos (by omega), ref08_Put_loop0]
      simp only
      rw [br_not (by simp), Bool.not_false, br_t, chk_of (by rw [Nat.ble_eq]; simp [room]; omega)]
      rfl
    | cons e r ih =>
      intro pre x m hp hm hs
      have hm' : r.length + 1 < m := hm
      have hlen := mid_len hp
      simp only [mayL, Bool.and_eq_true] at hs
      have hi := ih (pre ++ [e]) e.1 (m - 1) (mid_app hp) (by omega) hs.2
      rw [len_succ] at hi
      rw [fix_pos (by omega), ref08_Put_loop0]
      simp only
      rw [br_of (decide_eq_true (by omega)), Bool.not_false, br_t, chk_of (inBn (by omega)), getAt_mid hp, putL]
      show br (!less e.1 nm) _ _ = _
      cases he : less e.1 nm
      · rw [Bool.not_false, br_t, chk_of (by rw [Nat.ble_eq]; simp [room]; omega), chk_of (inBn (by omega))]
        simp only [Bool.false_eq_true, if_false]
        have hgt := mayL_gt hs.2
        cases hen : e.1 == nm
        · have hen' : e.1 ≠ nm := by simpa using hen
          have hlt := less_total he hen'
          rw [Bool.not_false, br_t, chk_of (inBn (by omega)), chk_of (by rw [Nat.ble_eq]; simp [room]; omega), wrapI (by omega) (by omega)]
          have h2 := key2 r (pre ++ [e]) (pre ++ [(nm, d, ())] ++ [e]) (m - 1) (mid_app hp) (by omega) (by simp) fun y hy => by
            rw [beq_eq_false_iff_ne]; exact fun h => less_ne (less_trans hlt (hgt y hy)) h.symm
          rw [len_succ] at h2
          rw [h2]
          simp
        · have hen' : e.1 = nm := by simpa using hen
          rw [Bool.not_true, br_f, wrapI (by omega) (by omega)]
          have h2 := key2 r (pre ++ [e]) (pre ++ [(nm, d, ())]) (m - 1) (mid_app hp) (by omega) (by simp) fun y hy => by
            rw [beq_eq_false_iff_ne]; exact fun h => less_ne (hen' ▸ hgt y hy) h.symm
          rw [len_succ] at h2
          rw [h2]
          simp
      · rw [Bool.not_true, br_f, chk_of (inBn (by omega)), show (e.1 == nm) = false from by rw [beq_eq_false_iff_ne]; exact less_ne he, Bool.not_false, br_t, chk_of (inBn (by omega)),
          chk_of (by rw [Nat.ble_eq]; simp [room]; omega), wrapI (by omega) (by omega), hi]
        simp
  unfold ref08_Put putT
  simp only
  cases nm == []
  · rw [br_f]
    exact key1 l [] last n rfl hn hm
  · rw [br_t]; rfl

theorem mayT_put {nm d : List UInt8} {l : List FileD} (h : mayL [] l = true) : mayL [] (putT nm d l) = true := by
  unfold putT
  cases hn : nm == []
  · exact mayL_put (nil_less hn) h
  · exact h

theorem putL_dlen {nm d : List UInt8} {k : Nat} (hd : d.length ≤ k) : ∀ {l : List FileD}, (∀ e ∈ l, e.2.1.length ≤ k) → ∀ e ∈ putL nm d l, e.2.1.length ≤ k
  | [], _, e, he => by simp [putL] at he; subst he; exact hd
  | x :: r, h, e, he => by
    unfold putL at he
    split at he
    · rcases List.mem_cons.1 he with rfl | he
      · exact h _ (.head _)
      · exact putL_dlen hd (fun y hy => h y (.tail _ hy)) e he
    · split at he
      · rcases List.mem_cons.1 he with rfl | he
        · exact hd
        · exact h _ (.tail _ he)
      · rcases List.mem_cons.1 he with rfl | he
        · exact hd
        · exact h _ he
theorem putT_dlen {nm d : List UInt8} {k : Nat} (hd : d.length ≤ k) {l : List FileD} (h : ∀ e ∈ l, e.2.1.length ≤ k) : ∀ e ∈ putT nm d l, e.2.1.length ≤ k := by
  unfold putT
  split
  · exact h
  · exact putL_dlen hd h

theorem ref08_Add_eq {n : Nat} {l : List FileD} {nm d last : List UInt8} (hl : l.length ≤ 100000000) (hn : l.length < n) (hm : mayL last l = true) (hd : (getL nm l).1.length + d.length ≤ maxStr) : ref08_Add n (l, nm, d) = some (addT nm d l) := by
  unfold ref08_Add
  simp only
  rw [ref08_Get_eq hl hn, ob_s, chk_of (decide_eq_true hd), ref08_Put_eq hl hn hm]
  rfl

/-- A round's end. -/
theorem puts_end {n : Nat} {t : List FileD} (hl : t.length ≤ 100000000) (hn : t.length < n) (hm : mayL [] t = true) (g : Option Bool) :
    (ob (law08_its n t) fun y18 => ob (ref08_Same n (y18, t)) fun y19 => br (!y19) (some false) (ob (table_May n t) fun y20 => br (!y20) (some false) g)) = g := by
  rw [its_eq hl hn, ob_s, ref08_Same_self hl hn, ob_s, Bool.not_true, br_f, table_May_eq hl hn, ob_s, hm, Bool.not_true, br_f]

theorem law08_TablePuts_claim (n : Nat) (x : List FileD × List Bool) (hx : x.1.length ≤ 9223372036854775807) (hn : x.1.length + 200 < n) : law08_TablePuts n x = some true := by
  obtain ⟨l, add⟩ := x
  simp only at hx hn
  obtain ⟨b, h1, h2⟩ := bounded_some hx (by omega : l.length < n)
  unfold law08_TablePuts
  simp only
  rw [h1, ob_s]
  simp only [ob_shown (by omega : 100 < n)]
  cases b
  · rfl
  obtain ⟨h3, h4⟩ := h2 rfl
  simp only [Bool.not_true, br_f]
  rw [shown_t (by omega), ob_s, Bool.not_true, br_f]
  have key : ∀ (r pre t : List FileD) (m : Nat), l = pre ++ r → r.length < m → t.length ≤ pre.length → mayL [] t = true → (∀ e ∈ t, e.2.1.length ≤ 300 * pre.length) →
      fix (law08_TablePuts_loop0 n) m (l, add, t, t, (pre.length : Int), ()) = some true := by
    intro r
    induction r with
    | nil =>
      intro pre t m hp hm _ _ _
      have hp : pre = l := by simpa using hp.symm
      subst hp
      rw [fix_pos (by omega), law08_TablePuts_loop0]
      simp only
      rw [br_not (by simp)]
    | cons e r ih =>
      intro pre t m hp hm ht hmay hd
      have hm' : r.length + 1 < m := hm
      have hlen := mid_len hp
      have he := (h4 e (by rw [hp]; simp)).2
      have hg := getL_dlen (nm := e.1) hd
      have hl1 := (putT_len (nm := e.1) (d := e.2.1) t).2
      have hl2 := (putT_len (nm := e.1) (d := (getL e.1 t).1 ++ e.2.1) t).2
      have hput : fix (law08_TablePuts_loop0 n) (m - 1) (l, add, putT e.1 e.2.1 t, putT e.1 e.2.1 t, (pre.length : Int) + 1, ()) = some true := by
        have := ih (pre ++ [e]) (putT e.1 e.2.1 t) (m - 1) (mid_app hp) (by omega) (by simp; omega) (mayT_put hmay) (putT_dlen (by simp; omega) fun x hx => by have := hd x hx; simp; omega)
        rw [len_succ] at this
        exact this
      have hadd : fix (law08_TablePuts_loop0 n) (m - 1) (l, add, addT e.1 e.2.1 t, addT e.1 e.2.1 t, (pre.length : Int) + 1, ()) = some true := by
        have := ih (pre ++ [e]) (addT e.1 e.2.1 t) (m - 1) (mid_app hp) (by omega) (by unfold addT; simp; omega) (mayT_put hmay) (putT_dlen (by simp; omega) fun x hx => by have := hd x hx; simp; omega)
        rw [len_succ] at this
        exact this
      rw [fix_pos (by omega), law08_TablePuts_loop0]
      simp only
      rw [br_of (decide_eq_true (by omega))]
      have hma : mayL [] (addT e.1 e.2.1 t) = true := mayT_put hmay
      have hb := fun (k : Option Bool) => chk_of (inBn (i := pre.length) (n := l.length) (by omega)) k
      simp only [hb, getAt_mid hp]
      have hs : ∀ g : Option Bool, (ob (table_Put n (t, e.1, e.2.1)) fun y34 => ob (ref08_Put n (t, e.1, e.2.1)) fun y37 => ob (law08_its n y34) fun y18 => ob (ref08_Same n (y18, y37)) fun y19 => br (!y19) (some false) (ob (table_May n y34) fun y20 => br (!y20) (some false)
          (fix (law08_TablePuts_loop0 n) (m - 1) (l, add, y34, y37, IntKind.wrap .i64 ((pre.length : Int) + 1), ())))) = some true := by
        intro _
        rw [table_Put_eq (by omega) (by omega), ob_s, ref08_Put_eq (by omega) (by omega) hmay, ob_s, puts_end (by omega) (by omega) (mayT_put hmay), wrapI (by omega) (by omega), hput]
      have hs2 : ∀ g : Option Bool, (ob (table_Add n (t, e.1, e.2.1)) fun y34 => ob (ref08_Add n (t, e.1, e.2.1)) fun y37 => ob (law08_its n y34) fun y18 => ob (ref08_Same n (y18, y37)) fun y19 => br (!y19) (some false) (ob (table_May n y34) fun y20 => br (!y20) (some false)
          (fix (law08_TablePuts_loop0 n) (m - 1) (l, add, y34, y37, IntKind.wrap .i64 ((pre.length : Int) + 1), ())))) = some true := by
        intro _
        rw [table_Add_eq (by omega) (by omega) (by simp only [maxStr]; omega), ob_s, ref08_Add_eq (by omega) (by omega) hmay (by simp only [maxStr]; omega), ob_s, puts_end (by unfold addT; omega) (by unfold addT; omega) hma, wrapI (by omega) (by omega), hadd]
      by_cases ha : (pre.length : Int) < (add.length : Int)
      · rw [br_of (decide_eq_true ha), chk_of (inBn (by omega))]
        cases getAt (Ty.dflt .bool) add (pre.length : Int)
        · rw [br_f]; exact hs none
        · rw [br_t]; exact hs2 none
      · rw [br_not (decide_eq_false ha)]; exact hs none
  exact key l [] [] n rfl (by omega) (by simp) rfl (by simp)

def law08_TableTellsN (_ : Nat) (x : List FileD × List UInt8) : Option Bool := law08_TableTells (x.1.length + 201) x
theorem law08_TableTellsN_claim (x : Dens [.slice TSssE, .str]) (h : DensWF [.slice TSssE, .str] x) : law08_TableTellsN 0 x = some true :=
  law08_TableTells_claim _ x (by have := h.1.1; simp only [maxLen] at this; omega) (Nat.lt_succ_self _)
def law08_TablePutsN (_ : Nat) (x : List FileD × List Bool) : Option Bool := law08_TablePuts (x.1.length + 201) x
theorem law08_TablePutsN_claim (x : Dens [.slice TSssE, .slice .bool]) (h : DensWF [.slice TSssE, .slice .bool] x) : law08_TablePutsN 0 x = some true :=
  law08_TablePuts_claim _ x (by have := h.1.1; simp only [maxLen] at this; omega) (Nat.lt_succ_self _)
def law08_TableOthersN (_ : Nat) (x : List FileD × List UInt8 × List UInt8 × List UInt8) : Option Bool := law08_TableOthers (x.1.length + 201) x
theorem law08_TableOthersN_claim (x : Dens [.slice TSssE, .str, .str, .str]) (h : DensWF [.slice TSssE, .str, .str, .str] x) : law08_TableOthersN 0 x = some true :=
  law08_TableOthers_claim _ x (by have := h.1.1; simp only [maxLen] at this; omega) (Nat.lt_succ_self _)
def law08_TableAgainN (_ : Nat) (x : List FileD × List UInt8 × List UInt8 × List UInt8) : Option Bool := law08_TableAgain (x.1.length + 201) x
theorem law08_TableAgainN_claim (x : Dens [.slice TSssE, .str, .str, .str]) (h : DensWF [.slice TSssE, .str, .str, .str] x) : law08_TableAgainN 0 x = some true :=
  law08_TableAgain_claim _ x (by have := h.1.1; simp only [maxLen] at this; omega) (Nat.lt_succ_self _)
end Go.Dec
