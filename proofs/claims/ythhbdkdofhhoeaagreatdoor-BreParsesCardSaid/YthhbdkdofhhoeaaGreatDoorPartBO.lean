/- Part of a proof over this seat: a library of my own, and what it says of this seat. No statement is proved here. -/
import Derived.Test.YthhbdkdofhhoeaaGreatDoorPartBN
namespace Go.Dec
theorem items_closes {row : List UInt8 → Nat → List Bool → Res (Option Pt)} : ∀ (f : Nat) (first : Bool) (r : List UInt8) (b : Nat) (en : List Bool) (acc ts : List Pt) (r' : List UInt8) (b' : Nat) (en' : List Bool), itemsS row f first r b en acc = .ok ts r' b' en' → closesS r' = true := by
  intro f
  induction f with
  | zero => intro first r b en acc ts r' b' en' h; simp [itemsS] at h
  | succ f ih =>
    intro first r b en acc ts r' b' en' h
    unfold itemsS at h
    cases hc : closesS r <;> rw [hc] at h <;> simp only [cond_true, cond_false, Res.ok.injEq] at h
    case true => rw [← h.2.1]; exact hc
    cases hd : [36].isPrefixOf r && closesS (r.drop 1) <;> rw [hd] at h <;> simp only [cond_true, cond_false, Res.ok.injEq] at h
    case true =>
      rw [Bool.and_eq_true] at hd
      rw [← h.2.1]; exact hd.2
    cases ho : atomS row first r b en with
    | er e k => rw [ho] at h; simp at h
    | ok t r1 b1 en1 =>
      rw [ho] at h
      simp only at h
      cases ho2 : timesS t r1 b1 en1 with
      | er e k => rw [ho2] at h; simp at h
      | ok t2 r2 b2 en2 =>
        rw [ho2] at h
        exact ih _ _ _ _ _ _ _ _ _ h
theorem row_closes {f : Nat} {r r' : List UInt8} {b b' : Nat} {en en' : List Bool} {t : Option Pt} (h : rowS f r b en = .ok t r' b' en') : closesS r' = true := by
  cases f with
  | zero => simp [rowS] at h
  | succ f =>
    unfold rowS at h
    simp only at h
    cases ho : itemsS (rowS f) ((bif [94].isPrefixOf r then r.drop 1 else r).length + 1) true (bif [94].isPrefixOf r then r.drop 1 else r) b en (bif [94].isPrefixOf r then [Pt.bol] else []) with
    | er e k => rw [ho] at h; simp at h
    | ok ts r2 b2 en2 =>
      rw [ho] at h
      simp only [Res.ok.injEq] at h
      rw [← h.2.1]
      exact items_closes _ _ _ _ _ _ _ _ _ _ ho
def SOK (s : List UInt8) (l : List Nd) (o : Res (Option Pt)) (e : Option (StT × Int)) : Prop := match o with
  | .ok none r b en => e = some ((l, (b : Int), en, 0, 0, ()), psn s r)
  | .ok (some t) r b en => e = some ((l ++ t.enc l.length, (b : Int), en, 0, 0, ()), psn s r)
  | .er c k => ∃ (l' : List Nd) (b' : Int) (en' : List Bool) (i' : Int), e = some ((l', b', en', ((s.length - k : Nat) : Int), (c : Int), ()), i')
theorem ref04_in_eq {n : Nat} (s : List UInt8) (hs : s.length < n) (hs2 : s.length < 1000000) (d : UInt8) : ref04_in n (s, (d.toNat : Int)) = some (s.contains d) := by
  unfold ref04_in
  simp only
  have key : ∀ k i m, i + k = s.length → k < m → fix (ref04_in_loop0 n) m (s, (d.toNat : Int), (i : Int), ()) = some ((s.drop i).contains d) := by
    intro k
    induction k with
    | zero =>
      intro i m hi hm
      rw [fix_pos hm, ref04_in_loop0]
      simp only
      rw [br_not (by simp; omega), List.drop_of_length_le (by omega)]; rfl
    | succ k ih =>
      intro i m hi hm
      rw [fix_pos (by omega), ref04_in_loop0]
      simp only
      have hil : i < s.length := by omega
      rw [br_of (by simp; omega), chk_of (inBn hil), getAt_nat hil, wrapI (by omega) (by omega), show (i : Int) + 1 = ((i + 1 : Nat) : Int) by omega, ih (i + 1) (m - 1) (by omega) (by omega)]
      rw [List.drop_eq_getElem_cons hil, List.contains_cons, beqC d]
      have e : ((s[i].toNat : Int) == (d.toNat : Int)) = (s[i] == d) := by rw [eqI d, beqC]
      rw [e]
      cases (s[i] == d) <;> rfl
  have := key s.length 0 n (by omega) (by omega)
  simpa using this
section
variable {n : Nat} {s r : List UInt8} {b : Nat} {en : List Bool} {l : List Nd} {rw' : List UInt8 × Int × StT → Option (StT × Int)} {row : List UInt8 → Nat → List Bool → Res (Option Pt)}
theorem q_one {p : Nat → Bool} {i : Int} (hn : 300 ≤ n) (hl : l.length < 900000) (hi : i = psn s r) : QOK s l (.ok (.bytes p) r b en) (ob (ref04_bytes n ((l, (b : Int), en, 0, 0, ()), bx p)) fun y => some (y, i)) := by
  rw [q_bytes hn (by omega), hi]; rfl
theorem q_group {rA : List UInt8} {k : Nat} {v : Int} (h : r <:+ s) (hs : s.length < 100000) (hl : l.length + 3 * r.length < 800000) (he : en.length = 10) (hb : b ≤ 9) (hk : k = rA.length)
    (hcl : ∀ t r' b' en', row r (b + 1) en = .ok t r' b' en' → closesS r' = true)
    (hrow : b + 1 ≤ 9 → RowGood r (row r (b + 1) en) ∧ SOK s l (row r (b + 1) en) (rw' (s, psn s r, (l, ((b + 1 : Nat) : Int), en, 0, 0, ())))) :
    QOK s l (bif b == 9 then .er 41 k
          else match row r (b + 1) en with
            | .er e k => .er e k
            | .ok none _ _ _ => .er 41 k
            | .ok (some t) r3 b3 en3 => bif [92, 41].isPrefixOf r3 then .ok (.group t (b + 1)) (r3.drop 2) b3 (en3.set (b + 1) true) else .er 41 k)
      (br ((b : Int) == 9) (
                  ob (ref04_wrong n ((l, (b : Int), en, 0, 0, ()), psn s rA, 41)) fun y18 =>
                  some (y18, psn s rA)) (
                  ob (rw' (s, psn s r, (l, (IntKind.wrap .i64 ((b : Int) + 1), (en, (0, (0, ()))))))) fun y21 =>
                  br (y21.1.2.2.2.2.1 != 0) (
                    some (y21.1, y21.2)) (
                    br (y21.2 == (s.length : Int)) (
                      ob (ref04_wrong n ((l, (IntKind.wrap .i64 ((b : Int) + 1), (en, (0, (0, ()))))), psn s rA, 41)) fun y22 =>
                      some (y22, psn s rA)) (
                      br ((y21.1.1.length : Int) == (l.length : Int)) (
                        ob (ref04_wrong n ((l, (IntKind.wrap .i64 ((b : Int) + 1), (en, (0, (0, ()))))), psn s rA, 41)) fun y23 =>
                        some (y23, psn s rA)) (
                        chk (inB (IntKind.wrap .i64 ((b : Int) + 1)) 10) (
                          chk (decide ((IntKind.wrap .i64 ((b : Int) + 1)).toNat < 10)) (
                            ob (ref04_leaf n ((y21.1.1, (y21.1.2.1, (y21.1.2.2.1.set ((IntKind.wrap .i64 ((b : Int) + 1)).toNat) true, y21.1.2.2.2))), (7, ([0, 0, 0, 0], (IntKind.wrap .i64 ((y21.1.1.length : Int) - 1), (0, (0, (0, ((IntKind.wrap .i64 ((b : Int) + 1)), ()))))))))) fun y25 =>
                            some (y25, IntKind.wrap .i64 (y21.2 + 2))))))))) := by
  have hg : ∀ {x : List Nd} {y : Int} {z : List Bool} {i : Int}, QOK s l (.er 41 k) (some ((x, y, z, psn s rA, 41, ()), i)) := fun {x y z i} => ⟨x, y, z, i, by rw [hk]; rfl⟩
  cases h9 : b == 9
  case true =>
    have : b = 9 := by simpa using h9
    rw [br_of (by simp [this])]
    simp only [q_wrong, ob_s, cond_true]
    exact hg
  have h9 : b ≠ 9 := by simpa using h9
  rw [br_not (by simp; omega), wrapI (x := (b : Int) + 1) (by omega) (by omega)]
  obtain ⟨hgood, hok⟩ := hrow (by omega)
  rw [show (b : Int) + 1 = ((b + 1 : Nat) : Int) from rfl]
  simp only [cond_false]
  cases ho : row r (b + 1) en with
  | er e k2 =>
    rw [ho] at hok hgood
    obtain ⟨l', b', en', i', hok⟩ := hok
    obtain ⟨e1, e2⟩ := hgood
    rw [hok]
    simp only [ob_s]
    rw [br_of (by simp; omega)]
    exact ⟨_, _, _, _, rfl⟩
  | ok t r3 b3 en3 =>
    have hc3 := hcl _ _ _ _ ho
    rw [ho] at hok hgood
    obtain ⟨g1, g2, g3, g4⟩ := hgood
    have hs3 : r3 <:+ s := g1.trans h
    have hl3 := suf_le hs3
    have hend : (psn s r3 == (s.length : Int)) = r3.isEmpty := psn_end hs3
    have hemp : ([92, 41].isPrefixOf r3) = !r3.isEmpty := by
      unfold closesS at hc3
      cases r3 with
      | nil => rfl
      | cons c r4 => simpa using hc3
    cases t with
    | none =>
      simp only [SOK] at hok
      rw [hok]
      simp only [ob_s, q_wrong]
      rw [br_not (by rfl), hend]
      cases r3.isEmpty
      · rw [br_f, br_of (by simp)]
        exact hg
      · exact hg
    | some t =>
      simp only [SOK] at hok
      rw [hok]
      simp only [ob_s, q_wrong]
      rw [br_not (by rfl), hend, hemp]
      have htp := t.sz_pos
      cases he3 : r3.isEmpty
      · simp only at g2
        rw [br_f, br_not (by rw [List.length_append, Pt.enc_len]; simp; omega), chk_of (inB_t (by omega) (by omega)), chk_of (by simp; omega), q_leaf (by rw [List.length_append, Pt.enc_len]; omega)]
        rw [he3] at hemp
        have hp2 : 2 ≤ r3.length := pre_len (by simpa using hemp : [92, 41].isPrefixOf r3 = true)
        simp only [ob_s, Bool.not_false, cond_true, QOK, Pt.enc, List.append_assoc, Int.toNat_natCast]
        rw [show (2 : Int) = ((2 : Nat) : Int) from rfl, psn_wrap hs3 (by omega) hp2, wrapI (by rw [List.length_append, Pt.enc_len]; omega) (by rw [List.length_append, Pt.enc_len]; omega), List.length_append, Pt.enc_len]
        rfl
      · exact hg
theorem bx_all : bx (rangeP 0 255) = bx (fun _ => true) := bx_congr fun i hi => by simp [rangeP]; omega
theorem bx_of1 (d : UInt8) : bx (ofP [d]) = bx (oneP d) := bx_congr fun i hi => by
  simp only [ofP, oneP]; rw [Bool.eq_iff_iff]; simp; omega
theorem q_atom {first : Bool} (h : r <:+ s) (hne : r ≠ []) (hs : s.length < 100000) (hn : s.length + 500 ≤ n) (hl : l.length + 3 * r.length < 800000) (he : en.length = 10) (hb : b ≤ 9)
    (hcl : ∀ r b t r' b' en', row r b en = .ok t r' b' en' → closesS r' = true)
    (hrow : ∀ r2, r2 <:+ r → r2.length < r.length → b + 1 ≤ 9 → RowGood r2 (row r2 (b + 1) en) ∧ SOK s l (row r2 (b + 1) en) (rw' (s, psn s r2, (l, ((b + 1 : Nat) : Int), en, 0, 0, ())))) :
    QOK s l (atomS row first r b en) (ref04_atom n rw' (s, psn s r, first, (l, (b : Int), en, 0, 0, ()))) := by
  have hlen := suf_le h
  unfold ref04_atom atomS
  cases r with
  | nil => exact absurd rfl hne
  | cons c r1 =>
    simp only
    simp only [List.length_cons] at hl hlen
    have h1 : r1 <:+ s := (List.suffix_cons _ _).trans h
    have hgc : getAt 0 s (psn s (c :: r1)) = c := by
      have := psn_get (d := 0) h (j := 0) (c := c) rfl
      simpa using this
    have hin : inB (psn s (c :: r1)) s.length = true := inB_t (by unfold psn; omega) (by unfold psn; simp only [List.length_cons]; omega)
    rw [chk_of hin, hgc]
    have e46 : ((c.toNat : Int) == 46) = (c == 46) := by rw [beqC]; exact eqI 46
    have e91 : ((c.toNat : Int) == 91) = (c == 91) := by rw [beqC]; exact eqI 91
    have e92 : ((c.toNat : Int) == 92) = (c == 92) := by rw [beqC]; exact eqI 92
    rw [e46, e91, bne, e92]
    have hp1 : IntKind.wrap .i64 (psn s (c :: r1) + 1) = psn s r1 := psn_wrap h (by omega) (k := 1) (by simp)
    rw [hp1]
    cases h46 : c == 46
    case true =>
      simp only [br_t, cond_true]
      have := ref02_Range_eq (n := n) (a := 0) (b := 255) (by omega) (by omega) (by omega)
      rw [show ((0 : Nat) : Int) = 0 from rfl, show ((255 : Nat) : Int) = 255 from rfl] at this
      rw [this, bx_all]
      simp only [ob_s]
      exact q_one (r := r1) (by omega) (by omega) rfl
    simp only [br_f, cond_false]
    cases h91 : c == 91
    case true =>
      simp only [br_t, cond_true]
      rw [chk_of (psn_in h), psn_nat, suf_drop h, ref04_Bracket_eq (by omega) (by simp only [List.length_cons]; omega) (by simp only [List.length_cons]; omega)]
      simp only [ob_s]
      cases hk : brkS (c :: r1) with
      | none =>
        simp only [brkR]
        rw [br_of (by rfl)]
        exact ⟨_, _, _, _, rfl⟩
      | some x =>
        obtain ⟨p, k⟩ := x
        have hk2 := brkS_len hk
        simp only [brkR]
        rw [br_not (by rfl), psn_wrap h (by omega) hk2.2]
        exact q_one (r := (c :: r1).drop k) (by omega) (by omega) rfl
    simp only [br_f, cond_false]
    cases h92 : c == 92
    case false =>
      simp only [Bool.not_false, br_t, cond_false]
      have hps : psn s (c :: r1) = ((s.length - (r1.length + 1) : Nat) : Int) := rfl
      have hps1 : psn s r1 = ((s.length - r1.length : Nat) : Int) := rfl
      rw [chk_of (by rw [hps, hps1]; simp; omega)]
      have e : (s.take (psn s r1).toNat).drop (psn s (c :: r1)).toNat = [c] := take_at h (k := 1) (by simp)
      rw [e, ref02_Of_eq _ (by simp; omega) (by simp), bx_of1]
      simp only [ob_s]
      exact q_one (r := r1) (by omega) (by omega) rfl
    simp only [Bool.not_true, br_f, cond_true]
    rw [psn_end h1]
    cases r1 with
    | nil =>
      simp only [List.isEmpty_nil, br_t]
      exact ⟨_, _, _, _, rfl⟩
    | cons d r2 =>
      have h2 : r2 <:+ s := (List.suffix_cons _ _).trans h1
      simp only [List.length_cons] at hlen hl
      simp only [List.isEmpty_cons, br_f]
      have hin : inB (psn s (d :: r2)) s.length = true := inB_t (by unfold psn; omega) (by unfold psn; simp only [List.length_cons]; omega)
      have hgd : getAt 0 s (psn s (d :: r2)) = d := by
        have := psn_get (d := 0) h1 (j := 0) (c := d) rfl
        simpa using this
      have hp2 : IntKind.wrap .i64 (psn s (c :: d :: r2) + 2) = psn s r2 := psn_wrap h (by omega) (k := 2) (by simp)
      rw [chk_of hin, hgd, hp2]
      have e40 : ((d.toNat : Int) == 40) = (d == 40) := by rw [beqC]; exact eqI 40
      have e110 : ((d.toNat : Int) == 110) = (d == 110) := by rw [beqC]; exact eqI 110
      have e123 : ((d.toNat : Int) == 123) = (d == 123) := by rw [beqC]; exact eqI 123
      rw [e40, e110, e123]
      cases h40 : (d == 40)
      case true =>
        simp only [br_t, cond_true]
        exact q_group (n := n) (row := row) (rw' := rw') (rA := c :: d :: r2) (l := l) (en := en) (b := b) (v := 0) h2 hs (by omega) he hb rfl (fun t r' b' en' => hcl r2 (b + 1) t r' b' en') (fun hb9 => hrow r2 ((List.suffix_cons _ _).trans (List.suffix_cons _ _)) (by simp only [List.length_cons]; omega) hb9)
      simp only [br_f, cond_false]
      have hin7 : ref04_in n ([46, 91, 92, 42, 94, 36, 47], (d.toNat : Int)) = some (special7.contains d) := ref04_in_eq special7 (by simp [special7]; omega) (by simp [special7]) d
      have hps1 : psn s (d :: r2) = ((s.length - (r2.length + 1) : Nat) : Int) := rfl
      have hps2 : psn s r2 = ((s.length - r2.length : Nat) : Int) := rfl
      have etk : (s.take (psn s r2).toNat).drop (psn s (d :: r2)).toNat = [d] := take_at h1 (k := 1) (by simp)
      have hrest : QOK s l (bif d == 110 then .ok (.bytes (oneP 10)) r2 b en
        else bif special7.contains d then .ok (.bytes (oneP d)) r2 b en
        else bif d == 123 && first then .er 43 (c :: d :: r2).length
        else .er 40 (c :: d :: r2).length) (
                  br (d == 110) (
                    ob (ref02_Of n [10]) fun y45 =>
                    ob (ref04_bytes n ((l, (b : Int), en, 0, 0, ()), y45)) fun y46 =>
                    some (y46, psn s r2)) (
                    ob (ref04_in n ([46, 91, 92, 42, 94, 36, 47], (d.toNat : Int))) fun y48 =>
                    br y48 (
                      chk ((decide (0 ≤ psn s r2) && decide (psn s r2 ≤ (s.length : Int)) && (decide (0 ≤ psn s (d :: r2)) && decide (psn s (d :: r2) ≤ psn s r2)))) (
                        ob (ref02_Of n ((s.take (psn s r2).toNat).drop (psn s (d :: r2)).toNat)) fun y52 =>
                        ob (ref04_bytes n ((l, (b : Int), en, 0, 0, ()), y52)) fun y53 =>
                        some (y53, psn s r2))) (
                      br (d == 123) (
                        br first (
                          ob (ref04_wrong n ((l, (b : Int), en, 0, 0, ()), psn s (c :: d :: r2), 43)) fun y55 =>
                          some (y55, psn s (c :: d :: r2))) (
                          ob (ref04_wrong n ((l, (b : Int), en, 0, 0, ()), psn s (c :: d :: r2), 40)) fun y56 =>
                          some (y56, psn s (c :: d :: r2)))) (
                        ob (ref04_wrong n ((l, (b : Int), en, 0, 0, ()), psn s (c :: d :: r2), 40)) fun y57 =>
                        some (y57, psn s (c :: d :: r2)))))) := by
        cases h110 : (d == 110)
        case true =>
          simp only [br_t, cond_true]
          rw [ref02_Of_eq _ (by simp; omega) (by simp), bx_of1]
          simp only [ob_s]
          exact q_one (by omega) (by omega) rfl
        simp only [br_f, cond_false]
        rw [hin7]
        simp only [ob_s]
        cases special7.contains d
        case true =>
          simp only [br_t, cond_true]
          rw [chk_of (by rw [hps1, hps2]; simp; omega), etk, ref02_Of_eq _ (by simp; omega) (by simp), bx_of1]
          simp only [ob_s]
          exact q_one (by omega) (by omega) rfl
        simp only [br_f, cond_false]
        cases (d == 123) <;> cases first <;> exact ⟨_, _, _, _, rfl⟩
      by_cases h49 : 49 ≤ d.toNat
      · rw [br_of (by simp; omega), decide_eq_true h49]
        by_cases h57 : d.toNat ≤ 57
        · rw [br_of (by simp; omega), decide_eq_true h57]
          simp only [Bool.and_self, cond_true]
          have hv : IntKind.wrap .i64 (IntKind.wrap .u8 ((d.toNat : Int) - 48)) = ((d.toNat - 48 : Nat) : Int) := by
            rw [IntWalk.u8_in _ (by omega), wrapI (by omega) (by omega)]; omega
          rw [hv, chk_of (inB_t (by omega) (by omega)), chk_of (by simp; omega), Int.toNat_natCast, show Ty.dflt .bool = false from rfl]
          cases en.getD (d.toNat - 48) false
          · simp only [Bool.not_false, br_t, cond_false]
            exact ⟨_, _, _, _, rfl⟩
          · simp only [Bool.not_true, br_f, cond_true]
            rw [q_leaf (by omega)]
            rfl
        · rw [br_not (by simp; omega), decide_eq_false h57, Bool.and_false]
          simp only [cond_false]
          exact hrest
      · rw [br_not (by simp; omega), decide_eq_false h49, Bool.false_and]
        simp only [cond_false]
        exact hrest
theorem q_cat {i : Int} {en0 : List Bool} {bb b0 a0 e0 : Int} {l0 : List Nd} {ts : List Pt} (hl : l.length + szL ts < 900000) : ∀ (k m : Nat) (pre suf : List Pt) (u : Pt), pre.length = k → ts = pre ++ suf → szA pre + u.sz + pre.length ≤ szL ts → k < m →
    fix (ref04_row_loop1 n) m (i, (k : Int) - 1, l ++ seqE l.length pre ++ u.enc (l.length + szA pre), bb, en, 0, 0, l0, b0, en0, a0, e0, topsL l.length ts, ()) =
      some ((l ++ (pre.foldr Pt.cat u).enc l.length, bb, en, 0, 0, ()), i) := by
  intro k
  induction k with
  | zero =>
    intro m pre suf u hk hts hsz hm
    have : pre = [] := List.eq_nil_of_length_eq_zero hk
    subst this
    rw [fix_pos hm, ref04_row_loop1]
    simp only
    rw [br_not (by simp)]
    simp [seqE, szA]
  | succ k ih =>
    intro m pre suf u hk hts hsz hm
    obtain ⟨pre', t, rfl⟩ : ∃ pre' t, pre = pre' ++ [t] := by
      rcases List.eq_nil_or_concat pre with rfl | ⟨p, t, rfl⟩
      · simp at hk
      · exact ⟨p, t, by simp⟩
    have hk' : pre'.length = k := by simpa using hk
    have hts' : ts = pre' ++ t :: suf := by rw [hts]; simp
    have hat := topsL_at pre' t suf l.length 0
    rw [← hts', hk'] at hat
    have hlen : (topsL l.length ts).length = ts.length := topsL_len _ _
    have htl : k < ts.length := by rw [hts']; simp; omega
    rw [fix_pos (by omega), ref04_row_loop1]
    simp only
    rw [show ((k + 1 : Nat) : Int) - 1 = (k : Int) by omega]
    rw [br_of (by simp), hlen, chk_of (by rw [inBn htl]; simp), Int.toNat_natCast, Nat.zero_add, chk_of (by simp; omega), show Ty.dflt (.int .i64) = (0 : Int) from rfl, hat]
    rw [szA_app] at hsz
    simp only [szA, List.length_append, List.length_cons, List.length_nil] at hsz
    rw [q_leaf (by simp only [List.length_append, seqE_len, szA_app, Pt.enc_len, szA]; omega)]
    simp only [ob_s]
    rw [wrapI (x := (k : Int) - 1) (by omega) (by omega)]
    have hc := ih (m - 1) pre' (t :: suf) (.cat t u) hk' hts' (by simp only [Pt.sz]; omega) (by omega)
    have hup := u.sz_pos
    have e1 : IntKind.wrap .i64 (((l ++ seqE l.length (pre' ++ [t]) ++ u.enc (l.length + szA (pre' ++ [t]))).length : Int) - 1) = u.top (l.length + szA (pre' ++ [t])) := by
      have e : (l ++ seqE l.length (pre' ++ [t]) ++ u.enc (l.length + szA (pre' ++ [t]))).length = l.length + szA (pre' ++ [t]) + u.sz := by
        simp only [List.length_append, seqE_len, Pt.enc_len]
      have hs2 : szA (pre' ++ [t]) = szA pre' + t.sz := by rw [szA_app]; simp [szA]
      rw [e, wrapI (by omega) (by omega)]; rfl
    have e2 : l ++ seqE l.length (pre' ++ [t]) ++ u.enc (l.length + szA (pre' ++ [t])) ++ [(4, [0, 0, 0, 0], t.top (l.length + szA pre'), u.top (l.length + szA (pre' ++ [t])), 0, 0, 0, ())] = l ++ seqE l.length pre' ++ (Pt.cat t u).enc (l.length + szA pre') := by
      simp only [seqE_app, szA_app, szA, Pt.enc, List.append_assoc, Nat.add_zero, Nat.add_assoc]
    rw [e1, e2, hc, List.foldr_append]; rfl
theorem q_join3 {l0 : List Nd} {b0 a0 e0 : Int} {en0 : List Bool} {ts : List Pt} (hn : szL ts + 10 ≤ n) (hl : l.length + szL ts < 900000) :
    SOK s l (.ok (catL ts) r b en) (ref04_row_join3 n (psn s r, l ++ seqE l.length ts, (b : Int), en, 0, 0, l0, b0, en0, a0, e0, topsL l.length ts, ())) := by
  unfold ref04_row_join3
  simp only
  rw [topsL_len]
  have hsl := szA_le ts
  rcases List.eq_nil_or_concat ts with rfl | ⟨pre, t, h⟩
  · rw [fix_pos (by omega), ref04_row_loop1]
    simp only
    rw [br_not (by rfl)]
    simp [catL, SOK, seqE]
  · have hts : ts = pre ++ [t] := by rw [h]; simp
    have hlen : ts.length = pre.length + 1 := by rw [hts]; simp
    rw [hlen, wrapI (by omega) (by omega), show ((pre.length + 1 : Nat) : Int) - 2 = (pre.length : Int) - 1 by omega]
    have hc := q_cat (n := n) (i := psn s r) (l := l) (bb := (b : Int)) (en := en) (l0 := l0) (b0 := b0) (en0 := en0) (a0 := a0) (e0 := e0) (ts := ts) hl pre.length n pre [t] t rfl hts (by rw [hts, szA_app] at hsl; simp only [szA] at hsl; rw [hts]; simp only [List.length_append, List.length_cons, List.length_nil] at hsl; omega) (by omega)
    have e : l ++ seqE l.length ts = l ++ seqE l.length pre ++ t.enc (l.length + szA pre) := by rw [hts, seqE_app, List.append_assoc]
    rw [e, hc]
    have hcat : catL ts = some (pre.foldr Pt.cat t) := by rw [hts]; exact catL_app pre t
    rw [hcat]
    rfl
theorem q_items {f0 R : Nat} {l0 : List Nd} {b0 a0 e0 : Int} {en0 : List Bool} (hs : s.length < 100000) (hn : 3 * s.length + 500 ≤ n)
    (hrow : ∀ r2 b2 en2 l2, r2 <:+ s → r2.length < R → b2 + 1 ≤ 9 → 11 ≤ f0 + (b2 + 1) → en2.length = 10 → l2.length + 3 * r2.length < 800000 → SOK s l2 (rowS f0 r2 (b2 + 1) en2) (rw' (s, psn s r2, (l2, ((b2 + 1 : Nat) : Int), en2, 0, 0, ())))) :
    ∀ (f m : Nat) (first : Bool) (r : List UInt8) (b : Nat) (en : List Bool) (acc : List Pt), r <:+ s → r.length ≤ R → r.length < f → f ≤ m → b ≤ 9 → en.length = 10 → 10 ≤ f0 + b → l.length + szL acc + 3 * r.length < 800000 → szL acc + 3 * r.length ≤ 3 * s.length →
      SOK s l (match itemsS (rowS f0) f first r b en acc with
        | .er e k => .er e k
        | .ok ts r2 b2 en2 => .ok (catL ts) r2 b2 en2) (fix (ref04_row_loop0 n rw') m (s, psn s r, first, l ++ seqE l.length acc, (b : Int), en, 0, 0, l0, b0, en0, a0, e0, topsL l.length acc, ())) := by
  intro f
  induction f with
  | zero => intro m first r b en acc _ _ h; omega
  | succ f ih =>
    intro m first r b en acc h hR hf hm hb he hf0 hl hsz
    have hle := suf_le h
    have hal := szA_le acc
    rw [fix_pos (by omega), ref04_row_loop0]
    simp only
    rw [q_closes h (by omega)]
    unfold itemsS
    simp only [ob_s]
    cases hc : closesS r
    case true =>
      simp only [Bool.not_true, br_f, cond_true, jn_e]
      exact q_join3 (by omega) (by omega)
    simp only [Bool.not_false, br_t, cond_false]
    have hne : r ≠ [] := by intro e; subst e; simp [closesS] at hc
    have hll : (l ++ seqE l.length acc).length = l.length + szA acc := by rw [List.length_append, seqE_len]
    have hgo : SOK s l (match (match atomS (rowS f0) first r b en with
      | .er e k => (.er e k : Res (List Pt))
      | .ok t r1 b1 en1 => match timesS t r1 b1 en1 with
        | .er e k => .er e k
        | .ok t2 r2 b2 en2 => itemsS (rowS f0) f false r2 b2 en2 (acc ++ [t2])) with
        | .er e k => .er e k
        | .ok ts r2 b2 en2 => .ok (catL ts) r2 b2 en2) (ref04_row_join2 n rw' (fix (ref04_row_loop0 n rw') (m - 1)) (s, psn s r, first, false, l ++ seqE l.length acc, (b : Int), en, 0, 0, l0, b0, en0, a0, e0, topsL l.length acc, ())) := by
      unfold ref04_row_join2
      simp only [br_f, jn_e]
      unfold ref04_row_join4
      simp only
      have ha := q_atom (n := n) (rw' := rw') (row := rowS f0) (l := l ++ seqE l.length acc) (first := first) h hne hs (by omega) (by rw [hll]; omega) he hb
        (fun r b t r' b' en' hh => row_closes hh)
        (fun r2 hr2 hlt hb1 => ⟨(row_good f0 r2 (b + 1) en (by omega) hb1 he).1, hrow r2 b en _ (hr2.trans h) (by omega) hb1 (by omega) he (by rw [hll]; omega)⟩)
      have hg := atom_good (row := rowS f0) (first := first) (r := r) hb he (fun r hb1 => (row_good f0 r (b + 1) en (by omega) hb1 he).1)
      cases ho : atomS (rowS f0) first r b en with
      | er e k =>
        rw [ho] at ha hg
        obtain ⟨l', b', en', i', ha⟩ := ha
        obtain ⟨g1, g2⟩ := hg
        rw [ha]
        simp only [ob_s, jn_e]
        have he1 : ((e : Int) == 0) = false := by rw [Bool.eq_false_iff, ne_eq, beq_iff_eq]; omega
        rw [br_not he1]
        unfold ref04_row_join5
        simp only
        rw [br_of (by rw [bne, he1]; rfl)]
        exact ⟨_, _, _, _, rfl⟩
      | ok t r1 b1 en1 =>
        rw [ho] at ha hg
        obtain ⟨g1, g2, g3, g4⟩ := hg
        simp only [QOK] at ha
        rw [ha]
        simp only [ob_s, jn_e]
        rw [br_of (by rfl)]
        have h1 : r1 <:+ s := g1.trans h
        have htm := q_times (n := n) (l := l ++ seqE l.length acc) (t := t) (b := b1) (en := en1) h1 (by omega) (by omega) (by rw [hll]; omega)
        have htg := times_good t r1 b1 en1
        have htp := t.sz_pos
        rw [hll] at htm ⊢
        cases ho2 : timesS t r1 b1 en1 with
        | er e k =>
          rw [ho2] at htm htg
          obtain ⟨l', b', en', i', htm⟩ := htm
          obtain ⟨g1, g2⟩ := htg
          rw [htm]
          simp only [ob_s]
          have he1 : ((e : Int) == 0) = false := by rw [Bool.eq_false_iff, ne_eq, beq_iff_eq]; omega
          unfold ref04_row_join5
          simp only
          rw [br_of (by rw [bne, he1]; rfl)]
          exact ⟨_, _, _, _, rfl⟩
        | ok t2 r2 b2 en2 =>
          rw [ho2] at htm htg
          obtain ⟨c1, rfl, rfl, c4⟩ := htg
          simp only [QOK] at htm
          rw [htm]
          simp only [ob_s]
          unfold ref04_row_join5
          simp only
          rw [br_not (by rfl)]
          have hc1 := c1.length_le
          have hg1 := g1.length_le
          have ht2 := t2.sz_pos
          have etop : IntKind.wrap .i64 (((l ++ seqE l.length acc ++ t2.enc (l.length + szA acc)).length : Int) - 1) = t2.top (l.length + szA acc) := by
            rw [List.length_append, hll, Pt.enc_len, wrapI (by omega) (by omega)]; rfl
          rw [hll, etop, chk_of (by rw [topsL_len]; simp [room]; omega)]
          have e1 : l ++ seqE l.length acc ++ t2.enc (l.length + szA acc) = l ++ seqE l.length (acc ++ [t2]) := by rw [seqE_app, List.append_assoc]
          have e2 : topsL l.length acc ++ [t2.top (l.length + szA acc)] = topsL l.length (acc ++ [t2]) := (topsL_app _ _ _).symm
          rw [e1, e2]
          have hbmono : b ≤ b2 := by
            cases hi : atomS (rowS f0) first r b en with
            | er e k => rw [hi] at ho; exact absurd ho (by simp)
            | ok t' r' b' en' =>
              rw [hi] at ho
              simp only [Res.ok.injEq] at ho
              have := atom_mono (row := rowS f0) (f0 := f0) (fun r b en he hb hf => (row_good f0 r (b + 1) en hf hb he).2) he hb hf0 hi
              omega
          exact ih (m - 1) false r2 b2 en2 (acc ++ [t2]) (c1.trans h1) (by omega) (by omega) (by omega) g3 g4 (by omega) (by rw [szL_app]; simp only [szL]; omega) (by rw [szL_app]; simp only [szL]; omega)
    have hend : ∀ r1, r = 36 :: r1 → SOK s l (.ok (catL (acc ++ [.eol])) r1 b en) (ref04_row_join2 n rw' (fix (ref04_row_loop0 n rw') (m - 1)) (s, psn s r, first, true, l ++ seqE l.length acc, (b : Int), en, 0, 0, l0, b0, en0, a0, e0, topsL l.length acc, ())) := by
      intro r1 hr
      unfold ref04_row_join2
      simp only [br_t]
      have hrl : r.length = r1.length + 1 := by rw [hr]; rfl
      have hp : IntKind.wrap .i64 (psn s r + 1) = psn s r1 := by
        have := psn_wrap h (by omega) (k := 1) (by omega)
        rw [hr] at this ⊢
        exact this
      rw [hp, q_leaf (by rw [hll]; omega)]
      simp only [ob_s]
      have e2 : topsL l.length acc ++ [IntKind.wrap .i64 (((l ++ seqE l.length acc ++ [(3, [0, 0, 0, 0], 0, 0, 0, 0, 0, ())]).length : Int) - 1)] = topsL l.length (acc ++ [.eol]) := by
        rw [topsL_app, List.length_append, hll, wrapI (by simp; omega) (by simp; omega)]; rfl
      rw [chk_of (by rw [topsL_len]; simp [room]; omega), jn_e, e2]
      have e1 : l ++ seqE l.length acc ++ [(3, [0, 0, 0, 0], 0, 0, 0, 0, 0, ())] = l ++ seqE l.length (acc ++ [.eol]) := by rw [seqE_app, List.append_assoc]; rfl
      rw [e1]
      exact q_join3 (by rw [szL_app]; simp only [szL, Pt.sz]; omega) (by rw [szL_app]; simp only [szL, Pt.sz]; omega)
    cases hr : r with
    | nil => exact absurd hr hne
    | cons c r1 =>
      have hgc : getAt 0 s (psn s r) = c := by
        have := psn_get (d := 0) h (j := 0) (c := c) (by rw [hr]; rfl)
        simpa using this
      have hrl : r.length = r1.length + 1 := by rw [hr]; rfl
      rw [← hr]
      rw [chk_of (inB_t (by unfold psn; omega) (by unfold psn; omega)), hgc, show ((c.toNat : Int) == 36) = (36 == c) from eqI 36]
      rw [show [36].isPrefixOf r = (36 == c) by rw [hr]; simp [List.isPrefixOf]]
      cases h36 : ((36 : UInt8) == c)
      · simp only [br_f, Bool.false_and, cond_false, jn_e]
        exact hgo
      · have h36 : (36 : UInt8) = c := by simpa using h36
        subst h36
        have hp : IntKind.wrap .i64 (psn s r + 1) = psn s r1 := by
          have := psn_wrap h (by omega) (k := 1) (by omega)
          rw [hr] at this ⊢
          exact this
        have h1 : r1 <:+ s := by rw [hr] at h; exact (List.suffix_cons _ _).trans h
        rw [br_t, hp, q_closes h1 (by omega), show r.drop 1 = r1 by rw [hr]; rfl]
        simp only [ob_s, Bool.true_and, jn_e]
        cases closesS r1
        · exact hgo
        · exact hend r1 hr
theorem q_row : ∀ (f n : Nat) (r : List UInt8) (b : Nat) (en : List Bool) (l : List Nd), s.length < 100000 → 3 * s.length + 500 + f ≤ n → r <:+ s → 11 ≤ f + b → b ≤ 9 → en.length = 10 → l.length + 3 * r.length < 800000 → SOK s l (rowS f r b en) (ref04_row n (s, psn s r, (l, (b : Int), en, 0, 0, ()))) := by
  intro f
  induction f with
  | zero => intro n r b en l _ _ _ h hb; omega
  | succ f ih =>
    intro n r b en l hs hn h hf hb he hl
    obtain ⟨n, rfl⟩ : ∃ k, n = k + 1 := ⟨n - 1, by omega⟩
    have hle := suf_le h
    have hunf : ref04_row (n + 1) (s, psn s r, (l, (b : Int), en, 0, 0, ())) = ref04_row_body n (ref04_row n) (s, psn s r, (l, (b : Int), en, 0, 0, ())) := rfl
    rw [hunf]
    unfold ref04_row_body rowS
    simp only [jn_e]
    have hzero : ([false, false, false, false, false, false, false, false, false, false] : List Bool) = noEn := rfl
    have hJ : ∀ (v : Bool) (hv : v = [94].isPrefixOf r), SOK s l (match itemsS (rowS f) ((bif [94].isPrefixOf r then r.drop 1 else r).length + 1) true (bif [94].isPrefixOf r then r.drop 1 else r) b en (bif [94].isPrefixOf r then [.bol] else []) with
        | .er e k => .er e k
        | .ok ts r2 b2 en2 => .ok (catL ts) r2 b2 en2) (ref04_row_join0 n (ref04_row n) (s, psn s r, v, l, (b : Int), en, 0, 0, [], 0, noEn, 0, 0, [], ())) := by
      intro v hv
      unfold ref04_row_join0
      simp only [jn_e]
      cases h94 : [94].isPrefixOf r
      · rw [h94] at hv; subst hv
        simp only [br_f, cond_false]
        unfold ref04_row_join1
        simp only
        have := q_items (n := n) (s := s) (l := l) (rw' := ref04_row n) (f0 := f) (R := r.length) (l0 := []) (b0 := 0) (a0 := 0) (e0 := 0) (en0 := noEn) hs (by omega)
          (fun r2 b2 en2 l2 h2 _ hb2 hf2 he2 hl2 => ih n r2 (b2 + 1) en2 l2 hs (by omega) h2 hf2 hb2 he2 hl2) (r.length + 1) n true r b en [] h (Nat.le_refl _) (by omega) (by omega) hb he (by omega) (by simp only [szL]; omega) (by simp only [szL]; omega)
        simp only [seqE, topsL, List.append_nil] at this
        exact this
      · rw [h94] at hv; subst hv
        have hp := pre_len h94
        simp only [List.length_cons, List.length_nil] at hp
        simp only [br_t, cond_true]
        rw [q_leaf (by omega)]
        simp only [ob_s]
        have hw : IntKind.wrap .i64 (psn s r + 1) = psn s (r.drop 1) := psn_wrap h (by omega) (k := 1) hp
        have e2 : [IntKind.wrap .i64 (((l ++ [(2, [0, 0, 0, 0], 0, 0, 0, 0, 0, ())]).length : Int) - 1)] = topsL l.length [.bol] := by
          rw [List.length_append, wrapI (by simp only [List.length_cons, List.length_nil]; omega) (by simp only [List.length_cons, List.length_nil]; omega)]; rfl
        rw [chk_of (by simp [room]), hw, List.nil_append, e2]
        unfold ref04_row_join1
        simp only
        have hd := List.length_drop (i := 1) (l := r)
        have := q_items (n := n) (s := s) (l := l) (rw' := ref04_row n) (f0 := f) (R := r.length) (l0 := []) (b0 := 0) (a0 := 0) (e0 := 0) (en0 := noEn) hs (by omega)
          (fun r2 b2 en2 l2 h2 _ hb2 hf2 he2 hl2 => ih n r2 (b2 + 1) en2 l2 hs (by omega) h2 hf2 hb2 he2 hl2) ((r.drop 1).length + 1) n true (r.drop 1) b en [.bol] (suf_dr h 1) (by omega) (by omega) (by omega) hb he (by omega) (by simp only [szL, Pt.sz]; omega) (by simp only [szL, Pt.sz]; omega)
        simp only [seqE, Pt.enc, List.append_nil] at this
        exact this
    rw [hzero]
    cases hr : r with
    | nil =>
      have := hJ false (by rw [hr]; rfl)
      rw [hr] at this
      rw [br_not (by unfold psn; simp)]
      exact this
    | cons c r1 =>
      have hgc : getAt 0 s (psn s r) = c := by
        have := psn_get (d := 0) h (j := 0) (c := c) (by rw [hr]; rfl)
        simpa using this
      have hrl : r.length = r1.length + 1 := by rw [hr]; rfl
      rw [← hr, br_of (by unfold psn; simp; omega), chk_of (inB_t (by unfold psn; omega) (by unfold psn; omega)), hgc, show ((c.toNat : Int) == 94) = (94 == c) from eqI 94]
      exact hJ _ (by rw [hr]; simp [List.isPrefixOf])
end
theorem ref04_Parse_eq {n : Nat} {s : List UInt8} (hs : s.length < 100000) (hn : 3 * s.length + 600 ≤ n) : ref04_Parse n s = some (parseT (parseS s)) := by
  unfold ref04_Parse
  simp only
  cases s with
  | nil => rfl
  | cons c s0 =>
    generalize hsv : c :: s0 = s at *
    have hne : s ≠ [] := by rw [← hsv]; simp
    rw [br_not (by simpa using hne)]
    have hps : parseS s = match rowS 11 s 0 noEn with
      | .er e k => .inr (e, s.length - k)
      | .ok t r _ _ =>
        match r with
        | [] => match t with
          | none => .inr (41, s.length)
          | some t => bif decide (t.sz > 120) then .inr (2, 0) else .inl t
        | _ => .inr (41, s.length - r.length) := by rw [← hsv]; rfl
    rw [hps]
    have hrow := q_row (s := s) 11 n s 0 noEn [] hs (by omega) (List.suffix_refl _) (by omega) (by omega) rfl (by simp; omega)
    have hgood := (row_good 11 s 0 noEn (by omega) (by omega) rfl).1
    have hp0 : psn s s = 0 := by unfold psn; omega
    rw [hp0] at hrow
    have hnoEn : ([false, false, false, false, false, false, false, false, false, false] : List Bool) = noEn := rfl
    rw [hnoEn]
    rw [show (((0 : Nat) : Int)) = 0 from rfl] at hrow
    cases ho : rowS 11 s 0 noEn with
    | er e k =>
      rw [ho] at hrow hgood
      obtain ⟨l', b', en', i', hrow⟩ := hrow
      obtain ⟨e1, e2⟩ := hgood
      rw [hrow]
      simp only [ob_s]
      rw [br_of (by simp; omega)]
      rfl
    | ok t r b2 en2 =>
      rw [ho] at hrow hgood
      obtain ⟨g1, g2, g3, g4⟩ := hgood
      have hgl := g1.length_le
      have hlt : ∀ c r', r = c :: r' → psn s r < (s.length : Int) := by
        intro c r' hr; rw [hr] at hgl ⊢; unfold psn; simp only [List.length_cons] at hgl ⊢; omega
      have hrow' : ∃ row, ref04_row n (s, 0, ([], 0, noEn, 0, 0, ())) = some ((row, (b2 : Int), en2, 0, 0, ()), psn s r) ∧ (match t with | none => True | some t => row = t.enc 0) := by
        cases t with
        | none => exact ⟨_, hrow, trivial⟩
        | some t => exact ⟨_, hrow, by simp⟩
      obtain ⟨row, hr1, hr2⟩ := hrow'
      rw [hr1]
      simp only [ob_s]
      rw [br_not (by rfl)]
      cases hr : r with
      | cons c2 r2 =>
        have := hlt c2 r2 hr
        rw [hr] at this
        rw [br_of (decide_eq_true this)]
        rfl
      | nil =>
        have he : psn s [] = (s.length : Int) := by unfold psn; simp
        rw [br_not (by rw [he]; simp)]
        cases t with
        | none =>
          exfalso
          have := row_none_rest ho
          rw [hr] at this
          exact absurd this hne.symm
        | some t =>
          simp only at hr2 g2 ⊢
          rw [hr2, Pt.enc_len]
          by_cases h120 : t.sz > 120
          · rw [br_of (by simp; omega), decide_eq_true h120]
            rfl
          · rw [br_not (by simp; omega), decide_eq_false h120]
            rfl
end Go.Dec
namespace Go.Dec
def Pt.kind : Pt → Int
  | .empty => 0 | .bytes _ => 1 | .bol => 2 | .eol => 3 | .cat _ _ => 4 | .alt _ _ => 5 | .times _ _ _ => 6 | .group _ _ => 7 | .ref _ => 8
inductive NV where
  | empty | bol | eol
  | bytes (p : Nat → Bool)
  | cat (a b : Int) | alt (a b : Int)
  | times (a lo hi : Int)
  | group (a : Int) (m : Nat)
  | ref (m : Nat)
def NV.node : NV → Nd
  | .empty => (0, [0, 0, 0, 0], 0, 0, 0, 0, 0, ())
  | .bytes p => (1, wd p, 0, 0, 0, 0, 0, ())
  | .bol => (2, [0, 0, 0, 0], 0, 0, 0, 0, 0, ())
  | .eol => (3, [0, 0, 0, 0], 0, 0, 0, 0, 0, ())
  | .cat a b => (4, [0, 0, 0, 0], a, b, 0, 0, 0, ())
  | .alt a b => (5, [0, 0, 0, 0], a, b, 0, 0, 0, ())
  | .times a lo hi => (6, [0, 0, 0, 0], a, 0, lo, hi, 0, ())
  | .group a m => (7, [0, 0, 0, 0], a, 0, 0, 0, (m : Int), ())
  | .ref m => (8, [0, 0, 0, 0], 0, 0, 0, 0, (m : Int), ())
def timesOK (lo hi : Int) : Bool := decide (0 ≤ lo) && decide (lo ≤ 255) && (decide (hi = -1) || (decide (lo ≤ hi) && decide (1 ≤ hi) && decide (hi ≤ 255)))
def NV.ok : NV → Bool
  | .bytes p => !emptyP p
  | .times _ lo hi => timesOK lo hi
  | .group _ m => decide (1 ≤ m) && decide (m ≤ 9)
  | .ref m => decide (1 ≤ m) && decide (m ≤ 9)
  | _ => true
def NdWF (nd : Nd) : Prop := ∃ p, nd.2.1 = wd p
theorem nd_t {x y : Nd} (h : x = y) : Ty.beq TSiA4wiiiiiE x y = true := (@beq_iff TSiA4wiiiiiE rfl x y).2 h
theorem nd_f {x y : Nd} (h : ¬ x = y) : Ty.beq TSiA4wiiiiiE x y = false := beq_false (t := TSiA4wiiiiiE) rfl h
def OneOK (nd : Nd) (e : Option Bool) : Prop := (e = some true ∧ ∃ v : NV, nd = v.node ∧ v.ok = true) ∨ (e = some false ∧ ∀ v : NV, nd = v.node → v.ok = false)
theorem node_kind (v : NV) : 0 ≤ v.node.1 ∧ v.node.1 ≤ 8 := by cases v <;> simp [NV.node]
section
variable {n : Nat} {w : List Int} {a b lo hi m : Int} {u : Unit}
theorem plain0 : rx_Node_plain n (0, w, a, b, lo, hi, m, u) = some (0, [0, 0, 0, 0], 0, 0, 0, 0, 0, ()) := by simp [rx_Node_plain]
theorem plain1 : rx_Node_plain n (1, w, a, b, lo, hi, m, u) = some (1, w, 0, 0, 0, 0, 0, ()) := by simp [rx_Node_plain]
theorem plain2 : rx_Node_plain n (2, w, a, b, lo, hi, m, u) = some (2, [0, 0, 0, 0], 0, 0, 0, 0, 0, ()) := by simp [rx_Node_plain]
theorem plain3 : rx_Node_plain n (3, w, a, b, lo, hi, m, u) = some (3, [0, 0, 0, 0], 0, 0, 0, 0, 0, ()) := by simp [rx_Node_plain]
theorem plain4 : rx_Node_plain n (4, w, a, b, lo, hi, m, u) = some (4, [0, 0, 0, 0], a, b, 0, 0, 0, ()) := by simp [rx_Node_plain]
theorem plain5 : rx_Node_plain n (5, w, a, b, lo, hi, m, u) = some (5, [0, 0, 0, 0], a, b, 0, 0, 0, ()) := by simp [rx_Node_plain]
theorem plain6 : rx_Node_plain n (6, w, a, b, lo, hi, m, u) = some (6, [0, 0, 0, 0], a, 0, lo, hi, 0, ()) := by simp [rx_Node_plain]
theorem plain7 : rx_Node_plain n (7, w, a, b, lo, hi, m, u) = some (7, [0, 0, 0, 0], a, 0, 0, 0, m, u) := by simp [rx_Node_plain]
theorem plain8 : rx_Node_plain n (8, w, a, b, lo, hi, m, u) = some (8, [0, 0, 0, 0], 0, 0, 0, 0, m, u) := by simp [rx_Node_plain]
end
theorem one_eq {n : Nat} {nd : Nd} (hw : NdWF nd) : OneOK nd (rx_Node_one n nd) := by
  obtain ⟨k, w, a, b, lo, hi, m, u⟩ := nd
  obtain ⟨p, hp⟩ := hw
  simp only at hp
  subst hp
  unfold rx_Node_one
  simp only
  by_cases h0 : k < 0
  · rw [br_of (by simp; omega)]
    exact Or.inr ⟨rfl, fun v hv => by have := node_kind v; rw [← hv] at this; omega⟩
  rw [br_not (by simp; omega)]
  by_cases h8 : k > 8
  · rw [br_of (by simp; omega)]
    exact Or.inr ⟨rfl, fun v hv => by have := node_kind v; rw [← hv] at this; omega⟩
  rw [br_not (by simp; omega)]
  have hcase : k = 0 ∨ k = 1 ∨ k = 2 ∨ k = 3 ∨ k = 4 ∨ k = 5 ∨ k = 6 ∨ k = 7 ∨ k = 8 := by omega
  have hbad : ∀ {nd' : Nd} {X : Option Bool}, (∀ v : NV, (k, wd p, a, b, lo, hi, m, u) = v.node → (k, wd p, a, b, lo, hi, m, u) = nd') → ¬ (k, wd p, a, b, lo, hi, m, u) = nd' → OneOK (k, wd p, a, b, lo, hi, m, u) (br (!(Ty.beq TSiA4wiiiiiE (k, wd p, a, b, lo, hi, m, u) nd')) (some false) X) := by
    intro nd' X h1 h2
    rw [nd_f h2]
    exact Or.inr ⟨rfl, fun v hv => absurd (h1 v hv) h2⟩
  have hgood : ∀ {nd' : Nd} {X : Option Bool}, (k, wd p, a, b, lo, hi, m, u) = nd' → (br (!(Ty.beq TSiA4wiiiiiE (k, wd p, a, b, lo, hi, m, u) nd')) (some false) X) = X := by
    intro nd' X h
    rw [nd_t h]; rfl
  have hng : ∀ {m : Int} (v : NV), 1 ≤ m → ∃ m' : Nat, m = (m' : Int) := fun {m} _ h => ⟨m.toNat, by omega⟩
  rcases hcase with rfl | rfl | rfl | rfl | rfl | rfl | rfl | rfl | rfl
  · rw [plain0, ob_s]
    by_cases h : ((0 : Int), wd p, a, b, lo, hi, m, u) = ((0, [0, 0, 0, 0], 0, 0, 0, 0, 0, ()) : Nd)
    · rw [hgood h]; exact Or.inl ⟨rfl, .empty, h, rfl⟩
    · exact hbad (fun v hv => by rw [hv]; cases v <;> simp [NV.node] at hv ⊢) h
  · rw [plain1, ob_s]
    by_cases h : ((1 : Int), wd p, a, b, lo, hi, m, u) = ((1, wd p, 0, 0, 0, 0, 0, ()) : Nd)
    · rw [hgood h]
      rw [br_of (by rfl)]
      rw [emptyP_wd]
      cases he : emptyP p
      · exact Or.inl ⟨rfl, .bytes p, h, by simp [NV.ok, he]⟩
      · refine Or.inr ⟨rfl, fun v hv => ?_⟩
        have e1 := congrArg (fun x : Nd => x.2.1) hv
        have e0 := congrArg (fun x : Nd => x.1) hv
        cases v <;> simp [NV.node] at e0 e1
        simp only [NV.ok]
        rw [← emptyP_wd, ← e1, emptyP_wd, he]; rfl
    · exact hbad (fun v hv => by rw [hv]; cases v <;> simp [NV.node] at hv ⊢; exact hv.1.symm) h
  · rw [plain2, ob_s]
    by_cases h : ((2 : Int), wd p, a, b, lo, hi, m, u) = ((2, [0, 0, 0, 0], 0, 0, 0, 0, 0, ()) : Nd)
    · rw [hgood h]; exact Or.inl ⟨rfl, .bol, h, rfl⟩
    · exact hbad (fun v hv => by rw [hv]; cases v <;> simp [NV.node] at hv ⊢) h
  · rw [plain3, ob_s]
    by_cases h : ((3 : Int), wd p, a, b, lo, hi, m, u) = ((3, [0, 0, 0, 0], 0, 0, 0, 0, 0, ()) : Nd)
    · rw [hgood h]; exact Or.inl ⟨rfl, .eol, h, rfl⟩
    · exact hbad (fun v hv => by rw [hv]; cases v <;> simp [NV.node] at hv ⊢) h
  · rw [plain4, ob_s]
    by_cases h : ((4 : Int), wd p, a, b, lo, hi, m, u) = ((4, [0, 0, 0, 0], a, b, 0, 0, 0, ()) : Nd)
    · rw [hgood h]; exact Or.inl ⟨rfl, .cat a b, h, rfl⟩
    · exact hbad (fun v hv => by rw [hv]; cases v <;> simp [NV.node] at hv ⊢; exact ⟨hv.2.1.symm, hv.2.2.1.symm⟩) h
  · rw [plain5, ob_s]
    by_cases h : ((5 : Int), wd p, a, b, lo, hi, m, u) = ((5, [0, 0, 0, 0], a, b, 0, 0, 0, ()) : Nd)
    · rw [hgood h]; exact Or.inl ⟨rfl, .alt a b, h, rfl⟩
    · exact hbad (fun v hv => by rw [hv]; cases v <;> simp [NV.node] at hv ⊢; exact ⟨hv.2.1.symm, hv.2.2.1.symm⟩) h
  · rw [plain6, ob_s]
    by_cases h : ((6 : Int), wd p, a, b, lo, hi, m, u) = ((6, [0, 0, 0, 0], a, 0, lo, hi, 0, ()) : Nd)
    · rw [hgood h]
      rw [br_not (by rfl), br_of (by rfl)]
      have e : (br (decide (lo ≥ 0)) (br (decide (lo ≤ 255)) (br (hi == -1) (some true) (br (decide (hi ≥ if 1 > lo then 1 else lo)) (some (decide (hi ≤ 255))) (some false))) (some false)) (some false)) = some (timesOK lo hi) := by
        unfold timesOK
        by_cases g1 : 0 ≤ lo
        · rw [br_of (by simp; omega), decide_eq_true g1]
          by_cases g2 : lo ≤ 255
          · rw [br_of (by simp; omega), decide_eq_true g2]
            by_cases g3 : hi = -1
            · subst g3; rfl
            · rw [br_not (by simp; omega), decide_eq_false g3]
              by_cases g4 : lo ≤ hi
              · by_cases g5 : 1 ≤ hi
                · rw [br_of (by simp; split <;> omega), decide_eq_true g4, decide_eq_true g5]; rfl
                · rw [br_not (by simp; split <;> omega), decide_eq_false g5, decide_eq_true g4]; rfl
              · rw [br_not (by simp; split <;> omega), decide_eq_false g4]; rfl
          · rw [br_not (by simp; omega), decide_eq_false g2, Bool.and_false, Bool.false_and]
        · rw [br_not (by simp; omega), decide_eq_false g1]; rfl
      rw [e]
      cases ht : timesOK lo hi
      · refine Or.inr ⟨rfl, fun v hv => ?_⟩
        have e1 := congrArg (fun x : Nd => x.2.2.2.2.1) hv
        have e2 := congrArg (fun x : Nd => x.2.2.2.2.2.1) hv
        have e0 := congrArg (fun x : Nd => x.1) hv
        cases v <;> simp [NV.node] at e0 e1 e2
        simp only [NV.ok]
        rw [← e1, ← e2]; exact ht
      · exact Or.inl ⟨rfl, .times a lo hi, h, ht⟩
    · exact hbad (fun v hv => by rw [hv]; cases v <;> simp [NV.node] at hv ⊢; exact ⟨hv.2.1.symm, hv.2.2.2.1.symm, hv.2.2.2.2.1.symm⟩) h
  · rw [plain7, ob_s]
    by_cases h : ((7 : Int), wd p, a, b, lo, hi, m, u) = ((7, [0, 0, 0, 0], a, 0, 0, 0, m, u) : Nd)
    · rw [hgood h]
      rw [br_not (by rfl), br_not (by rfl), br_of (by rfl), br_of (by rfl)]
      by_cases g1 : 1 ≤ m
      · rw [br_of (by simp; omega)]
        by_cases g2 : m ≤ 9
        · obtain ⟨m', rfl⟩ : ∃ m' : Nat, m = (m' : Int) := ⟨m.toNat, by omega⟩
          rw [decide_eq_true g2]
          exact Or.inl ⟨rfl, .group a m', h, by simp [NV.ok]; omega⟩
        · rw [decide_eq_false g2]
          refine Or.inr ⟨rfl, fun v hv => ?_⟩
          have e1 := congrArg (fun x : Nd => x.2.2.2.2.2.2.1) hv
          have e0 := congrArg (fun x : Nd => x.1) hv
          cases v <;> simp [NV.node] at e0 e1
          simp [NV.ok]; omega
      · rw [br_not (by simp; omega)]
        refine Or.inr ⟨rfl, fun v hv => ?_⟩
        have e1 := congrArg (fun x : Nd => x.2.2.2.2.2.2.1) hv
        have e0 := congrArg (fun x : Nd => x.1) hv
        cases v <;> simp [NV.node] at e0 e1
        simp [NV.ok]; omega
    · exact hbad (fun v hv => by rw [hv]; cases v <;> simp [NV.node] at hv ⊢; exact ⟨hv.2.1.symm, hv.2.2.2.2.2.symm⟩) h
  · rw [plain8, ob_s]
    by_cases h : ((8 : Int), wd p, a, b, lo, hi, m, u) = ((8, [0, 0, 0, 0], 0, 0, 0, 0, m, u) : Nd)
    · rw [hgood h]
      rw [br_not (by rfl), br_not (by rfl), br_not (by rfl), br_of (by rfl)]
      by_cases g1 : 1 ≤ m
      · rw [br_of (by simp; omega)]
        by_cases g2 : m ≤ 9
        · obtain ⟨m', rfl⟩ : ∃ m' : Nat, m = (m' : Int) := ⟨m.toNat, by omega⟩
          rw [decide_eq_true g2]
          exact Or.inl ⟨rfl, .ref m', h, by simp [NV.ok]; omega⟩
        · rw [decide_eq_false g2]
          refine Or.inr ⟨rfl, fun v hv => ?_⟩
          have e1 := congrArg (fun x : Nd => x.2.2.2.2.2.2.1) hv
          have e0 := congrArg (fun x : Nd => x.1) hv
          cases v <;> simp [NV.node] at e0 e1
          simp [NV.ok]; omega
      · rw [br_not (by simp; omega)]
        refine Or.inr ⟨rfl, fun v hv => ?_⟩
        have e1 := congrArg (fun x : Nd => x.2.2.2.2.2.2.1) hv
        have e0 := congrArg (fun x : Nd => x.1) hv
        cases v <;> simp [NV.node] at e0 e1
        simp [NV.ok]; omega
    · exact hbad (fun v hv => by rw [hv]; cases v <;> simp [NV.node] at hv ⊢; exact hv.2.2.2.2.2.symm) h
end Go.Dec
namespace Go.Dec
def Pt.nv (o : Nat) : Pt → NV
  | .empty => .empty
  | .bytes p => .bytes p
  | .bol => .bol
  | .eol => .eol
  | .cat a b => .cat (a.top o) (b.top (o + a.sz))
  | .alt a b => .alt (a.top o) (b.top (o + a.sz))
  | .times a lo hi => .times (a.top o) lo hi
  | .group a m => .group (a.top o) m
  | .ref m => .ref m
def Pt.subE (o : Nat) : Pt → List Nd
  | .cat a b => a.enc o ++ b.enc (o + a.sz)
  | .alt a b => a.enc o ++ b.enc (o + a.sz)
  | .times a _ _ => a.enc o
  | .group a _ => a.enc o
  | _ => []
theorem Pt.enc_split (o : Nat) (t : Pt) : t.enc o = t.subE o ++ [(t.nv o).node] := by
  cases t <;> rfl
theorem Pt.subE_len (o : Nat) (t : Pt) : (t.subE o).length + 1 = t.sz := by
  have := t.enc_len o
  rw [t.enc_split] at this
  simpa using this
theorem Pt.nv_kind (o : Nat) (t : Pt) : (t.nv o).node.1 = t.kind := by cases t <;> rfl
def At (l : List Nd) (o : Nat) (t : Pt) : Prop := ∃ pre post, l = pre ++ t.enc o ++ post ∧ pre.length = o
theorem At.node {l : List Nd} {o : Nat} {t : Pt} (h : At l o t) : l[o + t.sz - 1]? = some (t.nv o).node := by
  obtain ⟨pre, post, rfl, hp⟩ := h
  have hb := t.subE_len o
  rw [t.enc_split, ← List.append_assoc, List.append_assoc, List.getElem?_append_right (by rw [List.length_append]; omega)]
  rw [List.length_append, show o + t.sz - 1 - (pre.length + (t.subE o).length) = 0 by omega]
  rfl
theorem At.len {l : List Nd} {o : Nat} {t : Pt} (h : At l o t) : o + t.sz ≤ l.length := by
  obtain ⟨pre, post, rfl, hp⟩ := h
  simp only [List.length_append, Pt.enc_len]; omega
theorem At.top {l : List Nd} {o : Nat} {t : Pt} (h : At l o t) : inB (t.top o) l.length = true ∧ ∀ d, getAt d l (t.top o) = (t.nv o).node := by
  have h1 := h.node
  have h2 := h.len
  have h3 := t.sz_pos
  have e : t.top o = ((o + t.sz - 1 : Nat) : Int) := by unfold Pt.top; omega
  rw [e]
  refine ⟨inBn (by omega), fun d => ?_⟩
  rw [getAt_nat (by omega)]
  rw [List.getElem?_eq_getElem (by omega)] at h1
  exact Option.some.inj h1
theorem At.cat1 {l : List Nd} {o : Nat} {a b : Pt} (h : At l o (.cat a b)) : At l o a ∧ At l (o + a.sz) b := by
  obtain ⟨pre, post, rfl, hp⟩ := h
  exact ⟨⟨pre, b.enc (o + a.sz) ++ ([(Pt.nv o (.cat a b)).node] ++ post), by simp [Pt.enc, Pt.nv, NV.node], hp⟩, ⟨pre ++ a.enc o, [(Pt.nv o (.cat a b)).node] ++ post, by simp [Pt.enc, Pt.nv, NV.node], by rw [List.length_append, Pt.enc_len, hp]⟩⟩
theorem At.alt1 {l : List Nd} {o : Nat} {a b : Pt} (h : At l o (.alt a b)) : At l o a ∧ At l (o + a.sz) b := by
  obtain ⟨pre, post, rfl, hp⟩ := h
  exact ⟨⟨pre, b.enc (o + a.sz) ++ ([(Pt.nv o (.alt a b)).node] ++ post), by simp [Pt.enc, Pt.nv, NV.node], hp⟩, ⟨pre ++ a.enc o, [(Pt.nv o (.alt a b)).node] ++ post, by simp [Pt.enc, Pt.nv, NV.node], by rw [List.length_append, Pt.enc_len, hp]⟩⟩
theorem At.times1 {l : List Nd} {o : Nat} {a : Pt} {lo hi : Int} (h : At l o (.times a lo hi)) : At l o a := by
  obtain ⟨pre, post, rfl, hp⟩ := h
  exact ⟨pre, [(Pt.nv o (.times a lo hi)).node] ++ post, by simp [Pt.enc, Pt.nv, NV.node], hp⟩
theorem At.group1 {l : List Nd} {o : Nat} {a : Pt} {m : Nat} (h : At l o (.group a m)) : At l o a := by
  obtain ⟨pre, post, rfl, hp⟩ := h
  exact ⟨pre, [(Pt.nv o (.group a m)).node] ++ post, by simp [Pt.enc, Pt.nv, NV.node], hp⟩
theorem At.self (t : Pt) : At (t.enc 0) 0 t := ⟨[], [], by simp, rfl⟩
def fldB : Pt → Bool
  | .bytes p => !emptyP p
  | .cat a b => fldB a && fldB b
  | .alt a b => fldB a && fldB b
  | .times a lo hi => fldB a && timesOK lo hi
  | .group a m => fldB a && (decide (1 ≤ m) && decide (m ≤ 9))
  | .ref m => decide (1 ≤ m) && decide (m ≤ 9)
  | _ => true
def fitB : Pt → Bool
  | .cat a b => fitB a && fitB b && (decide (a.kind ≠ 4) && decide (a.kind ≠ 5) && decide (b.kind ≠ 5))
  | .alt a b => fitB a && fitB b && decide (a.kind ≠ 5)
  | .times a _ _ => fitB a && (decide (a.kind = 1) || decide (a.kind = 7) || decide (a.kind = 8))
  | .group a _ => fitB a
  | _ => true
def nonE : Pt → Bool
  | .empty => false
  | .cat a b => nonE a && nonE b
  | .alt a b => nonE a && nonE b
  | .times a _ _ => nonE a
  | .group a _ => nonE a
  | _ => true
def encR : List Pt → List Nd
  | [] => []
  | t :: st => encR st ++ t.enc (szA st)
def topR : List Pt → List Int
  | [] => []
  | t :: st => topR st ++ [t.top (szA st)]
theorem encR_len : ∀ st : List Pt, (encR st).length = szA st
  | [] => rfl
  | t :: st => by simp only [encR, szA, List.length_append, encR_len st, Pt.enc_len]; omega
theorem topR_len : ∀ st : List Pt, (topR st).length = st.length
  | [] => rfl
  | t :: st => by simp only [topR, List.length_append, topR_len st, List.length_cons, List.length_nil]
def stepO (len : Nat) (st : List Pt) (v : NV) : Option (List Pt) :=
  match v with
  | .empty => if len > 1 then none else some (.empty :: st)
  | .bytes p => some (.bytes p :: st)
  | .bol => some (.bol :: st)
  | .eol => some (.eol :: st)
  | .ref m => some (.ref m :: st)
  | .cat x y => match st with
    | b :: a :: st' => if a.top (szA st') = x ∧ b.top (szA st' + a.sz) = y ∧ a.kind ≠ 4 ∧ a.kind ≠ 5 ∧ b.kind ≠ 5 then some (.cat a b :: st') else none
    | _ => none
  | .alt x y => match st with
    | b :: a :: st' => if a.top (szA st') = x ∧ b.top (szA st' + a.sz) = y ∧ a.kind ≠ 5 then some (.alt a b :: st') else none
    | _ => none
  | .times x lo hi => match st with
    | a :: st' => if a.top (szA st') = x ∧ (a.kind = 1 ∨ a.kind = 7 ∨ a.kind = 8) then some (.times a lo hi :: st') else none
    | _ => none
  | .group x m => match st with
    | a :: st' => if a.top (szA st') = x then some (.group a m :: st') else none
    | _ => none
theorem szA2 (st : List Pt) (a : Pt) : szA (a :: st) = szA st + a.sz := by simp only [szA]; omega
theorem stepO_enc {len : Nat} {st st2 : List Pt} {v : NV} (h : stepO len st v = some st2) : encR st2 = encR st ++ [v.node] := by
  unfold stepO at h
  cases v <;> simp only at h
  case empty => split at h <;> simp at h; subst h; rfl
  case bytes p => simp at h; subst h; rfl
  case bol => simp at h; subst h; rfl
  case eol => simp at h; subst h; rfl
  case ref m => simp at h; subst h; rfl
  case cat x y =>
    match st, h with
    | [], h => simp at h
    | [_], h => simp at h
    | b :: a :: st', h =>
      simp only at h
      split at h <;> simp at h
      rename_i hc
      subst h
      simp only [encR, Pt.enc, szA2, List.append_assoc, NV.node, hc.1, hc.2.1]
  case alt x y =>
    match st, h with
    | [], h => simp at h
    | [_], h => simp at h
    | b :: a :: st', h =>
      simp only at h
      split at h <;> simp at h
      rename_i hc
      subst h
      simp only [encR, Pt.enc, szA2, List.append_assoc, NV.node, hc.1, hc.2.1]
  case times x lo hi =>
    match st, h with
    | [], h => simp at h
    | a :: st', h =>
      simp only at h
      split at h <;> simp at h
      rename_i hc
      subst h
      simp only [encR, Pt.enc, List.append_assoc, NV.node, hc.1]
  case group x m =>
    match st, h with
    | [], h => simp at h
    | a :: st', h =>
      simp only at h
      split at h <;> simp at h
      rename_i hc
      subst h
      simp only [encR, Pt.enc, List.append_assoc, NV.node, hc]
def treeOK (len : Nat) (t : Pt) : Prop := fldB t = true ∧ fitB t = true ∧ (len > 1 → nonE t = true)
theorem stepO_ok {len : Nat} {st st2 : List Pt} {v : NV} (hv : v.ok = true) (hst : ∀ t ∈ st, treeOK len t) (h : stepO len st v = some st2) : ∀ t ∈ st2, treeOK len t := by
  unfold stepO at h
  cases v <;> simp only at h
  case empty =>
    split at h <;> simp at h; subst h
    rename_i hl
    intro t ht
    rcases List.mem_cons.1 ht with rfl | ht
    · exact ⟨rfl, rfl, fun h => absurd h hl⟩
    · exact hst t ht
  case bytes p => simp at h; subst h; intro t ht; rcases List.mem_cons.1 ht with rfl | ht; exact ⟨hv, rfl, fun _ => rfl⟩; exact hst t ht
  case bol => simp at h; subst h; intro t ht; rcases List.mem_cons.1 ht with rfl | ht; exact ⟨rfl, rfl, fun _ => rfl⟩; exact hst t ht
  case eol => simp at h; subst h; intro t ht; rcases List.mem_cons.1 ht with rfl | ht; exact ⟨rfl, rfl, fun _ => rfl⟩; exact hst t ht
  case ref m => simp at h; subst h; intro t ht; rcases List.mem_cons.1 ht with rfl | ht; exact ⟨hv, rfl, fun _ => rfl⟩; exact hst t ht
  case cat x y =>
    match st, h with
    | [], h => simp at h
    | [_], h => simp at h
    | b :: a :: st', h =>
      simp only at h
      split at h <;> simp at h
      rename_i hc
      subst h
      intro t ht
      have ha := hst a (by simp)
      have hb := hst b (by simp)
      rcases List.mem_cons.1 ht with rfl | ht
      · exact ⟨by simp [fldB, ha.1, hb.1], by simp [fitB, ha.2.1, hb.2.1, hc.2.2.1, hc.2.2.2.1, hc.2.2.2.2], fun hl => by simp [nonE, ha.2.2 hl, hb.2.2 hl]⟩
      · exact hst t (by simp [ht])
  case alt x y =>
    match st, h with
    | [], h => simp at h
    | [_], h => simp at h
    | b :: a :: st', h =>
      simp only at h
      split at h <;> simp at h
      rename_i hc
      subst h
      intro t ht
      have ha := hst a (by simp)
      have hb := hst b (by simp)
      rcases List.mem_cons.1 ht with rfl | ht
      · exact ⟨by simp [fldB, ha.1, hb.1], by simp [fitB, ha.2.1, hb.2.1, hc.2.2], fun hl => by simp [nonE, ha.2.2 hl, hb.2.2 hl]⟩
      · exact hst t (by simp [ht])
  case times x lo hi =>
    match st, h with
    | [], h => simp at h
    | a :: st', h =>
      simp only at h
      split at h <;> simp at h
      rename_i hc
      subst h
      intro t ht
      have ha := hst a (by simp)
      rcases List.mem_cons.1 ht with rfl | ht
      · refine ⟨by simp only [fldB, ha.1, Bool.true_and]; exact hv, ?_, fun hl => by simp [nonE, ha.2.2 hl]⟩
        simp only [fitB, ha.2.1, Bool.true_and, Bool.or_eq_true, decide_eq_true_eq]
        rcases hc.2 with h | h | h
        · exact Or.inl (Or.inl h)
        · exact Or.inl (Or.inr h)
        · exact Or.inr h
      · exact hst t (by simp [ht])
  case group x m =>
    match st, h with
    | [], h => simp at h
    | a :: st', h =>
      simp only at h
      split at h <;> simp at h
      rename_i hc
      subst h
      intro t ht
      have ha := hst a (by simp)
      rcases List.mem_cons.1 ht with rfl | ht
      · exact ⟨by simp only [fldB, ha.1, Bool.true_and]; exact hv, by simp [fitB, ha.2.1], fun hl => by simp [nonE, ha.2.2 hl]⟩
      · exact hst t (by simp [ht])
def foldO (len : Nat) : List NV → List Pt → Option (List Pt)
  | [], st => some st
  | v :: vs, st => match stepO len st v with
    | none => none
    | some st2 => foldO len vs st2
theorem foldO_app (len : Nat) : ∀ (a b : List NV) (st : List Pt), foldO len (a ++ b) st = (foldO len a st).bind (foldO len b)
  | [], b, st => rfl
  | v :: a, b, st => by
    simp only [List.cons_append, foldO]
    cases stepO len st v with
    | none => rfl
    | some st2 => exact foldO_app len a b st2
def Pt.nvs (o : Nat) : Pt → List NV
  | .cat a b => a.nvs o ++ b.nvs (o + a.sz) ++ [.cat (a.top o) (b.top (o + a.sz))]
  | .alt a b => a.nvs o ++ b.nvs (o + a.sz) ++ [.alt (a.top o) (b.top (o + a.sz))]
  | .times a lo hi => a.nvs o ++ [.times (a.top o) lo hi]
  | .group a m => a.nvs o ++ [.group (a.top o) m]
  | .empty => [.empty]
  | .bytes p => [.bytes p]
  | .bol => [.bol]
  | .eol => [.eol]
  | .ref m => [.ref m]
theorem nvs_enc : ∀ (t : Pt) (o : Nat), (t.nvs o).map NV.node = t.enc o
  | .cat a b, o => by simp [Pt.nvs, Pt.enc, nvs_enc a, nvs_enc b, NV.node]
  | .alt a b, o => by simp [Pt.nvs, Pt.enc, nvs_enc a, nvs_enc b, NV.node]
  | .times a _ _, o => by simp [Pt.nvs, Pt.enc, nvs_enc a, NV.node]
  | .group a _, o => by simp [Pt.nvs, Pt.enc, nvs_enc a, NV.node]
  | .empty, _ | .bytes _, _ | .bol, _ | .eol, _ | .ref _, _ => rfl
theorem nvs_ok : ∀ (t : Pt) (o : Nat), fldB t = true → ∀ v ∈ t.nvs o, v.ok = true
  | .cat a b, o, h, v, hv => by
    simp only [fldB, Bool.and_eq_true] at h
    simp only [Pt.nvs, List.mem_append, List.mem_singleton] at hv
    rcases hv with (hv | hv) | rfl
    · exact nvs_ok a o h.1 v hv
    · exact nvs_ok b _ h.2 v hv
    · rfl
  | .alt a b, o, h, v, hv => by
    simp only [fldB, Bool.and_eq_true] at h
    simp only [Pt.nvs, List.mem_append, List.mem_singleton] at hv
    rcases hv with (hv | hv) | rfl
    · exact nvs_ok a o h.1 v hv
    · exact nvs_ok b _ h.2 v hv
    · rfl
  | .times a lo hi, o, h, v, hv => by
    simp only [fldB, Bool.and_eq_true] at h
    simp only [Pt.nvs, List.mem_append, List.mem_singleton] at hv
    rcases hv with hv | rfl
    · exact nvs_ok a o h.1 v hv
    · exact h.2
  | .group a m, o, h, v, hv => by
    simp only [fldB, Bool.and_eq_true] at h
    simp only [Pt.nvs, List.mem_append, List.mem_singleton] at hv
    rcases hv with hv | rfl
    · exact nvs_ok a o h.1 v hv
    · simp only [NV.ok, Bool.and_eq_true]; exact h.2
  | .empty, _, h, v, hv => by simp only [Pt.nvs, List.mem_singleton] at hv; subst hv; rfl
  | .bytes _, _, h, v, hv => by simp only [Pt.nvs, List.mem_singleton] at hv; subst hv; exact h
  | .bol, _, h, v, hv => by simp only [Pt.nvs, List.mem_singleton] at hv; subst hv; rfl
  | .eol, _, h, v, hv => by simp only [Pt.nvs, List.mem_singleton] at hv; subst hv; rfl
  | .ref _, _, h, v, hv => by simp only [Pt.nvs, List.mem_singleton] at hv; subst hv; exact h
theorem foldO_tree (len : Nat) : ∀ (t : Pt) (st : List Pt), fitB t = true → (len > 1 → nonE t = true) → foldO len (t.nvs (szA st)) st = some (t :: st)
  | .cat a b, st, h, hn => by
    simp only [fitB, Bool.and_eq_true, decide_eq_true_eq] at h
    simp only [nonE, Bool.and_eq_true] at hn
    have ha := foldO_tree len a st h.1.1 (fun hl => (hn hl).1)
    have hb := foldO_tree len b (a :: st) h.1.2 (fun hl => (hn hl).2)
    rw [szA2] at hb
    simp only [Pt.nvs]
    rw [foldO_app, foldO_app, ha]
    simp only [Option.bind_some]
    rw [hb]
    simp only [Option.bind_some, foldO, stepO]
    rw [if_pos (by refine ⟨?_, ?_, h.2.1.1, h.2.1.2, h.2.2⟩ <;> first | trivial | rfl)]
  | .alt a b, st, h, hn => by
    simp only [fitB, Bool.and_eq_true, decide_eq_true_eq] at h
    simp only [nonE, Bool.and_eq_true] at hn
    have ha := foldO_tree len a st h.1.1 (fun hl => (hn hl).1)
    have hb := foldO_tree len b (a :: st) h.1.2 (fun hl => (hn hl).2)
    rw [szA2] at hb
    simp only [Pt.nvs]
    rw [foldO_app, foldO_app, ha]
    simp only [Option.bind_some]
    rw [hb]
    simp only [Option.bind_some, foldO, stepO]
    rw [if_pos (by refine ⟨?_, ?_, h.2⟩ <;> first | trivial | rfl)]
  | .times a lo hi, st, h, hn => by
    simp only [fitB, Bool.and_eq_true, Bool.or_eq_true, decide_eq_true_eq] at h
    simp only [nonE] at hn
    have ha := foldO_tree len a st h.1 hn
    simp only [Pt.nvs]
    rw [foldO_app, ha]
    simp only [Option.bind_some, foldO, stepO]
    rw [if_pos (by refine ⟨?_, by rcases h.2 with (h | h) | h; exact Or.inl h; exact Or.inr (Or.inl h); exact Or.inr (Or.inr h)⟩; first | trivial | rfl)]
  | .group a m, st, h, hn => by
    simp only [fitB] at h
    simp only [nonE] at hn
    have ha := foldO_tree len a st h hn
    simp only [Pt.nvs]
    rw [foldO_app, ha]
    simp only [Option.bind_some, foldO, stepO]
    rw [if_pos (by first | trivial | rfl)]
  | .empty, st, h, hn => by
    simp only [Pt.nvs, foldO, stepO]
    rw [if_neg (fun hl => by simp [nonE] at hn; omega)]
  | .bytes _, st, _, _ => rfl
  | .bol, st, _, _ => rfl
  | .eol, st, _, _ => rfl
  | .ref _, st, _, _ => rfl
end Go.Dec
namespace Go.Dec
theorem fitIdx {n : Nat} (hn : 5 ≤ n) {k : Int} (hk : 0 ≤ k) (hk8 : k ≤ 8) : slices_Contains_Int n ([1, 7, 8], k) = some (decide (k = 1) || decide (k = 7) || decide (k = 8)) := by
  obtain ⟨n, rfl⟩ : ∃ m, n = m + 5 := ⟨n - 5, by omega⟩
  have hcase : k = 0 ∨ k = 1 ∨ k = 2 ∨ k = 3 ∨ k = 4 ∨ k = 5 ∨ k = 6 ∨ k = 7 ∨ k = 8 := by omega
  rcases hcase with rfl | rfl | rfl | rfl | rfl | rfl | rfl | rfl | rfl <;> rfl
theorem kind_rng (t : Pt) : 0 ≤ t.kind ∧ t.kind ≤ 8 := by cases t <;> simp [Pt.kind]
section
variable {n : Nat} {l : List Nd} {st : List Pt}
theorem at_two {i : Nat} {a b : Pt} (h : encR (b :: a :: st) = l.take i) : At l (szA st) a ∧ At l (szA st + a.sz) b := by
  have hl : l = encR (b :: a :: st) ++ l.drop i := by rw [h, List.take_append_drop]
  simp only [encR] at hl
  refine ⟨⟨encR st, b.enc (szA st + a.sz) ++ l.drop i, ?_, encR_len st⟩, ⟨encR st ++ a.enc (szA st), l.drop i, ?_, by rw [List.length_append, encR_len, Pt.enc_len]⟩⟩
  · rw [szA2] at hl; rw [List.append_assoc] at hl ⊢; rw [List.append_assoc] at hl; exact hl
  · rw [szA2] at hl; exact hl
theorem at_one {i : Nat} {a : Pt} (h : encR (a :: st) = l.take i) : At l (szA st) a := by
  have hl : l = encR (a :: st) ++ l.drop i := by rw [h, List.take_append_drop]
  exact ⟨encR st, l.drop i, hl, encR_len st⟩
theorem fits_leaf {v : NV} (h : v.node.1 ≠ 4) (h2 : v.node.1 ≠ 5) (h3 : v.node.1 ≠ 6) : rx_fits n (l, v.node) = some true := by
  unfold rx_fits
  simp only
  rw [br_not (by simpa using h), br_not (by simpa using h2), br_not (by simpa using h3)]
theorem fits_cat {oa ob' : Nat} {a b : Pt} (ha : At l oa a) (hb : At l ob' b) : rx_fits n (l, (NV.cat (a.top oa) (b.top ob')).node) = some (decide (a.kind ≠ 4 ∧ a.kind ≠ 5 ∧ b.kind ≠ 5)) := by
  unfold rx_fits
  simp only [NV.node]
  rw [br_of (by rfl), chk_of ha.top.1, ha.top.2, Pt.nv_kind, chk_of ha.top.1, chk_of hb.top.1, hb.top.2, Pt.nv_kind]
  by_cases h1 : a.kind = 4
  · rw [br_not (by simp [h1]), decide_eq_false (by intro h; exact h.1 h1)]
  · rw [br_of (by simpa using h1)]
    by_cases h2 : a.kind = 5
    · rw [br_not (by simp [h2]), decide_eq_false (by intro h; exact h.2.1 h2)]
    · rw [br_of (by simpa using h2)]
      congr 1
      rw [Bool.eq_iff_iff]; simp [h1, h2]
theorem fits_alt {oa : Nat} {y : Int} {a : Pt} (ha : At l oa a) : rx_fits n (l, (NV.alt (a.top oa) y).node) = some (decide (a.kind ≠ 5)) := by
  unfold rx_fits
  simp only [NV.node]
  rw [br_not (by rfl), br_of (by rfl), chk_of ha.top.1, ha.top.2, Pt.nv_kind]
  congr 1
  rw [Bool.eq_iff_iff]; simp
theorem fits_times {oa : Nat} {lo hi : Int} {a : Pt} (hn : 5 ≤ n) (ha : At l oa a) : rx_fits n (l, (NV.times (a.top oa) lo hi).node) = some (decide (a.kind = 1) || decide (a.kind = 7) || decide (a.kind = 8)) := by
  unfold rx_fits
  simp only [NV.node]
  rw [br_not (by rfl), br_not (by rfl), br_of (by rfl), chk_of ha.top.1, ha.top.2, Pt.nv_kind, fitIdx hn (kind_rng a).1 (kind_rng a).2]
  rfl
def NV.parts : NV → Nat
  | .cat _ _ | .alt _ _ => 2
  | .times _ _ _ | .group _ _ => 1
  | _ => 0
theorem parts_eq (v : NV) : rx_Node_parts n v.node = some (v.parts : Int) := by cases v <;> rfl
theorem topR_tk (a : Pt) : (topR (a :: st)).take st.length = topR st := by
  simp only [topR]; rw [List.take_append_of_le_length (by rw [topR_len]; omega), List.take_of_length_le (by rw [topR_len]; omega)]
theorem topR_tk2 (a b : Pt) : (topR (b :: a :: st)).take st.length = topR st := by
  rw [topR, List.take_append_of_le_length (by rw [topR_len]; simp), topR_tk]
theorem topR_g1 (a : Pt) : (topR (a :: st)).getD (0 + st.length + 0) 0 = a.top (szA st) := by
  rw [topR, List.getD_eq_getElem?_getD, List.getElem?_append_right (by rw [topR_len]; omega), topR_len]; simp
theorem topR_g2a (a b : Pt) : (topR (b :: a :: st)).getD (0 + st.length + 0) 0 = a.top (szA st) := by
  rw [topR, List.getD_eq_getElem?_getD, List.getElem?_append_left (by rw [topR_len]; simp), ← List.getD_eq_getElem?_getD, topR_g1]
theorem topR_g2b (a b : Pt) : (topR (b :: a :: st)).getD (0 + st.length + 1) 0 = b.top (szA st + a.sz) := by
  rw [topR, List.getD_eq_getElem?_getD, List.getElem?_append_right (by rw [topR_len]; simp), topR_len, szA2]; simp
theorem ord_step {g : List Nd × List Nd × Int × Int × List Int × Unit → Option Bool} {i : Nat} {v : NV} (hn : 5 ≤ n) (hl : l.length < 1000000) (hi : i < l.length) (hv : l[i]? = some v.node) (hok : v.ok = true) (hw : NdWF v.node) (hst : st.length ≤ i) (hsz : szA st = i) (he : encR st = l.take i) :
    rx_ordered_loop0 n g (l, l, (l.length : Int), (i : Int), topR st, ()) = match stepO l.length st v with
      | none => some false
      | some st2 => g (l, l, (l.length : Int), ((i + 1 : Nat) : Int), topR st2, ()) := by
  unfold rx_ordered_loop0
  simp only
  have hget : ∀ d, getAt d l (i : Int) = v.node := by
    intro d
    rw [getAt_nat hi]
    rw [List.getElem?_eq_getElem hi] at hv
    exact Option.some.inj hv
  rw [br_of (by simp; omega), chk_of (inBn hi), hget, parts_eq]
  simp only [ob_s]
  have hone : rx_Node_one n v.node = some true := by
    rcases one_eq (n := n) hw with ⟨h, _⟩ | ⟨_, h⟩
    · exact h
    · have := h v rfl; rw [hok] at this; exact absurd this (by simp)
  rw [hone]
  simp only [ob_s, Bool.not_true, br_f]
  have hi1 : IntKind.wrap .i64 ((i : Int) + 1) = ((i + 1 : Nat) : Int) := by rw [wrapI (by omega) (by omega)]; rfl
  have hlen := topR_len st
  have hfin : ∀ (v0 : NV) (k : Nat) (st2 : List Pt), k ≤ st.length → topR st2 = (topR st).take k ++ [(i : Int)] →
      chk ((decide ((0 : Int) ≤ (k : Int)) && decide ((k : Int) ≤ (st.length : Int)))) (
          chk ((Nat.ble ((k : Int).toNat) st.length && Nat.ble ((((k : Int).toNat) + ([(i : Int)] : List Int).length) * 8) room)) (
            g (l, l, (l.length : Int), IntKind.wrap .i64 ((i : Int) + 1), (topR st).take ((k : Int).toNat) ++ [(i : Int)], ()))) = g (l, l, (l.length : Int), ((i + 1 : Nat) : Int), topR st2, ()) := by
    intro v0 k st2 hk h2
    rw [chk_of (by simp; omega), chk_of (by simp [room]; omega), hi1, Int.toNat_natCast, h2]
  have hd : Ty.dflt (.int .i64) = (0 : Int) := rfl
  have hK : ∀ (p : Nat), p ≤ st.length → IntKind.wrap .i64 (((st.length : Nat) : Int) - (p : Int)) = ((st.length - p : Nat) : Int) := by
    intro p hp; rw [wrapI (by omega) (by omega)]; omega
  have htop : ∀ t : Pt, t.sz = 1 → topR (t :: st) = (topR st).take st.length ++ [(i : Int)] := by
    intro t ht
    rw [List.take_of_length_le (by omega)]
    simp only [topR, Pt.top, ht, hsz]; congr 2; omega
  rw [hlen]
  have hcut : ∀ (p : Nat), p ≤ st.length → ((st.length - ((st.length - p : Nat) : Int).toNat : Nat) : Int) = (p : Int) := by
    intro p hp; rw [Int.toNat_natCast]; omega
  cases v with
  | empty =>
    rw [show (NV.empty).parts = 0 from rfl, hK 0 (by omega), br_not (by simp), br_of (by rfl)]
    by_cases h1 : l.length > 1
    · rw [br_of (by simp; omega)]; simp only [stepO]; rw [if_pos h1]
    · rw [br_not (by simp; omega), chk_of (by simp), hcut 0 (by omega), br_not (by simp), fits_leaf (by simp [NV.node]) (by simp [NV.node]) (by simp [NV.node])]
      simp only [ob_s, Bool.not_true, br_f, stepO]
      rw [if_neg h1]
      exact hfin .empty _ _ (by omega) (htop .empty rfl)
  | bytes p =>
    rw [show (NV.bytes p).parts = 0 from rfl, hK 0 (by omega), br_not (by simp), br_not (by rfl), chk_of (by simp), hcut 0 (by omega), br_not (by simp), fits_leaf (by simp [NV.node]) (by simp [NV.node]) (by simp [NV.node])]
    simp only [ob_s, Bool.not_true, br_f, stepO]
    exact hfin .empty _ _ (by omega) (htop (.bytes p) rfl)
  | bol =>
    rw [show (NV.bol).parts = 0 from rfl, hK 0 (by omega), br_not (by simp), br_not (by rfl), chk_of (by simp), hcut 0 (by omega), br_not (by simp), fits_leaf (by simp [NV.node]) (by simp [NV.node]) (by simp [NV.node])]
    simp only [ob_s, Bool.not_true, br_f, stepO]
    exact hfin .empty _ _ (by omega) (htop .bol rfl)
  | eol =>
    rw [show (NV.eol).parts = 0 from rfl, hK 0 (by omega), br_not (by simp), br_not (by rfl), chk_of (by simp), hcut 0 (by omega), br_not (by simp), fits_leaf (by simp [NV.node]) (by simp [NV.node]) (by simp [NV.node])]
    simp only [ob_s, Bool.not_true, br_f, stepO]
    exact hfin .empty _ _ (by omega) (htop .eol rfl)
  | ref m =>
    rw [show (NV.ref m).parts = 0 from rfl, hK 0 (by omega), br_not (by simp), br_not (by rfl), chk_of (by simp), hcut 0 (by omega), br_not (by simp), fits_leaf (by simp [NV.node]) (by simp [NV.node]) (by simp [NV.node])]
    simp only [ob_s, Bool.not_true, br_f, stepO]
    exact hfin .empty _ _ (by omega) (htop (.ref m) rfl)
  | times x lo hi =>
    cases st with
    | nil => rfl
    | cons a st =>
      have ha : At l (szA st) a := at_one he
      rw [show (NV.times x lo hi).parts = 1 from rfl, hK 1 (by simp), br_not (by simp), br_not (by rfl), chk_of (by simp; omega), hcut 1 (by simp), br_of (by rfl)]
      simp only [List.length_cons, Nat.add_sub_cancel, Int.toNat_natCast]
      rw [chk_of (by simp [inB]), chk_of (by simp), hd, show (0 : Int).toNat = 0 from rfl, topR_g1]
      simp only [stepO, NV.node]
      by_cases hx : a.top (szA st) = x
      · subst hx
        rw [br_not (by simp), br_not (by rfl)]
        have hf := fits_times (n := n) (lo := lo) (hi := hi) hn ha
        simp only [NV.node] at hf
        rw [hf]
        simp only [ob_s]
        have hlt := a.sz_pos
        by_cases hk : a.kind = 1 ∨ a.kind = 7 ∨ a.kind = 8
        · rw [if_pos ⟨trivial, hk⟩, br_not (by rcases hk with h | h | h <;> simp [h])]
          have e : topR (.times a lo hi :: st) = (topR (a :: st)).take st.length ++ [(i : Int)] := by
            rw [topR_tk]; simp only [topR, Pt.top, Pt.sz]; rw [szA2] at hsz; congr 2; omega
          have := hfin .empty st.length (.times a lo hi :: st) (by simp) e
          simpa using this
        · rw [if_neg (fun h => hk h.2), br_of (by simp only [not_or] at hk; simp [hk.1, hk.2.1, hk.2.2])]
      · rw [if_neg (fun h => hx h.1), br_of (by simpa using hx)]
  | group x m =>
    cases st with
    | nil => rfl
    | cons a st =>
      have ha : At l (szA st) a := at_one he
      rw [show (NV.group x m).parts = 1 from rfl, hK 1 (by simp), br_not (by simp), br_not (by rfl), chk_of (by simp; omega), hcut 1 (by simp), br_of (by rfl)]
      simp only [List.length_cons, Nat.add_sub_cancel, Int.toNat_natCast]
      rw [chk_of (by simp [inB]), chk_of (by simp), hd, show (0 : Int).toNat = 0 from rfl, topR_g1]
      simp only [stepO, NV.node]
      by_cases hx : a.top (szA st) = x
      · subst hx
        rw [br_not (by simp), br_not (by rfl)]
        have hf := fits_leaf (n := n) (l := l) (v := .group (a.top (szA st)) m) (by simp [NV.node]) (by simp [NV.node]) (by simp [NV.node])
        simp only [NV.node] at hf
        rw [hf]
        simp only [ob_s]
        have hlt := a.sz_pos
        rw [if_pos trivial, br_not (by rfl)]
        have e : topR (.group a m :: st) = (topR (a :: st)).take st.length ++ [(i : Int)] := by
          rw [topR_tk]; simp only [topR, Pt.top, Pt.sz]; rw [szA2] at hsz; congr 2; omega
        have := hfin .empty st.length (.group a m :: st) (by simp) e
        simpa using this
      · rw [if_neg hx, br_of (by simpa using hx)]
  | cat x y =>
    match st, hlen, hsz, he, hst, hK, hcut, hfin with
    | [], _, _, _, _, _, _, _ => rfl
    | [_], _, _, _, _, _, _, _ => rfl
    | b :: a :: st, hlen, hsz, he, hst, hK, hcut, hfin =>
      obtain ⟨ha, hb⟩ := at_two he
      rw [show (NV.cat x y).parts = 2 from rfl, hK 2 (by simp), br_not (by simp), br_not (by rfl), chk_of (by simp; omega), hcut 2 (by simp), br_of (by rfl)]
      simp only [List.length_cons, Nat.add_sub_cancel, Int.toNat_natCast, show ∀ k, k + 1 + 1 - 2 = k from fun k => rfl]
      rw [chk_of (by simp [inB]; omega), chk_of (by simp; omega), hd, show (0 : Int).toNat = 0 from rfl, show (1 : Int).toNat = 1 from rfl, topR_g2a, topR_g2b]
      simp only [stepO, NV.node]
      by_cases hx : a.top (szA st) = x
      · subst hx
        rw [br_not (by simp), br_of (by rfl), chk_of (by simp [inB]; omega), chk_of (by simp)]
        by_cases hy : b.top (szA st + a.sz) = y
        · subst hy
          rw [br_not (by simp)]
          have hf := fits_cat (n := n) ha hb
          simp only [NV.node] at hf
          rw [hf]
          simp only [ob_s]
          have hlt := a.sz_pos
          by_cases hk : a.kind ≠ 4 ∧ a.kind ≠ 5 ∧ b.kind ≠ 5
          · rw [if_pos ⟨trivial, trivial, hk⟩, decide_eq_true hk, br_not (by rfl)]
            have e : topR (.cat a b :: st) = (topR (b :: a :: st)).take st.length ++ [(i : Int)] := by
              rw [topR_tk2]; simp only [topR, Pt.top, Pt.sz]; rw [szA2, szA2] at hsz; congr 2; omega
            have := hfin .empty st.length (.cat a b :: st) (by simp; omega) e
            simpa using this
          · rw [if_neg (fun h => hk h.2.2), decide_eq_false hk, br_of (by rfl)]
        · rw [if_neg (fun h => hy h.2.1), br_of (by simpa using hy)]
      · rw [if_neg (fun h => hx h.1), br_of (by simpa using hx)]
  | alt x y =>
    match st, hlen, hsz, he, hst, hK, hcut, hfin with
    | [], _, _, _, _, _, _, _ => rfl
    | [_], _, _, _, _, _, _, _ => rfl
    | b :: a :: st, hlen, hsz, he, hst, hK, hcut, hfin =>
      obtain ⟨ha, hb⟩ := at_two he
      rw [show (NV.alt x y).parts = 2 from rfl, hK 2 (by simp), br_not (by simp), br_not (by rfl), chk_of (by simp; omega), hcut 2 (by simp), br_of (by rfl)]
      simp only [List.length_cons, Nat.add_sub_cancel, Int.toNat_natCast, show ∀ k, k + 1 + 1 - 2 = k from fun k => rfl]
      rw [chk_of (by simp [inB]; omega), chk_of (by simp; omega), hd, show (0 : Int).toNat = 0 from rfl, show (1 : Int).toNat = 1 from rfl, topR_g2a, topR_g2b]
      simp only [stepO, NV.node]
      by_cases hx : a.top (szA st) = x
      · subst hx
        rw [br_not (by simp), br_of (by rfl), chk_of (by simp [inB]; omega), chk_of (by simp)]
        by_cases hy : b.top (szA st + a.sz) = y
        · subst hy
          rw [br_not (by simp)]
          have hf := fits_alt (n := n) (y := b.top (szA st + a.sz)) ha
          simp only [NV.node] at hf
          rw [hf]
          simp only [ob_s]
          have hlt := a.sz_pos
          by_cases hk : a.kind ≠ 5
          · rw [if_pos ⟨trivial, trivial, hk⟩, decide_eq_true hk, br_not (by rfl)]
            have e : topR (.alt a b :: st) = (topR (b :: a :: st)).take st.length ++ [(i : Int)] := by
              rw [topR_tk2]; simp only [topR, Pt.top, Pt.sz]; rw [szA2, szA2] at hsz; congr 2; omega
            have := hfin .empty st.length (.alt a b :: st) (by simp; omega) e
            simpa using this
          · rw [if_neg (fun h => hk h.2.2), decide_eq_false hk, br_of (by rfl)]
        · rw [if_neg (fun h => hy h.2.1), br_of (by simpa using hy)]
      · rw [if_neg (fun h => hx h.1), br_of (by simpa using hx)]
end
end Go.Dec
namespace Go.Dec
theorem szA_ge : ∀ st : List Pt, st.length ≤ szA st
  | [] => Nat.le_refl _
  | t :: st => by have := szA_ge st; have := t.sz_pos; simp only [List.length_cons, szA]; omega
theorem stepO_sz {len : Nat} {st st2 : List Pt} {v : NV} (h : stepO len st v = some st2) : szA st2 = szA st + 1 := by
  have := congrArg List.length (stepO_enc h)
  rw [List.length_append, encR_len, encR_len] at this
  simpa using this
section
variable {n : Nat} {l : List Nd}
theorem take_snoc {i : Nat} {x : Nd} (h : l[i]? = some x) : l.take (i + 1) = l.take i ++ [x] := by
  rw [List.take_add_one, h]; rfl
theorem ord_all (hn : 5 ≤ n) (hl : l.length < 1000000) (hw : ∀ nd ∈ l, NdWF nd) : ∀ (vs : List NV) (i : Nat) (st : List Pt) (m : Nat), vs.map NV.node = l.drop i → (∀ v ∈ vs, v.ok = true) → i ≤ l.length → szA st = i → encR st = l.take i → vs.length < m →
    fix (rx_ordered_loop0 n) m (l, l, (l.length : Int), (i : Int), topR st, ()) = match foldO l.length vs st with
      | none => some false
      | some st2 => some (decide (st2.length = 1)) := by
  intro vs
  induction vs with
  | nil =>
    intro i st m hvs _ hi hsz he hm
    have hi2 : i = l.length := by
      have := congrArg List.length hvs
      rw [List.length_drop] at this; simp at this; omega
    rw [fix_pos hm, rx_ordered_loop0]
    simp only
    rw [br_not (by simp; omega), topR_len]
    simp only [foldO]
    congr 1
    rw [Bool.eq_iff_iff]; simp; omega
  | cons v vs ih =>
    intro i st m hvs hok hi hsz he hm
    have hil : i < l.length := by
      have := congrArg List.length hvs
      rw [List.length_drop] at this; simp at this; omega
    have hv : l[i]? = some v.node := by
      have : (l.drop i)[0]? = some v.node := by rw [← hvs]; rfl
      rw [List.getElem?_drop] at this; simpa using this
    have hvs2 : vs.map NV.node = l.drop (i + 1) := by
      have : (l.drop i).drop 1 = vs.map NV.node := by rw [← hvs]; rfl
      rw [List.drop_drop] at this; exact this.symm
    have hst := szA_ge st
    rw [fix_pos (by omega), ord_step hn hl hil hv (hok v (by simp)) (hw _ (List.mem_of_getElem? hv)) (by omega) hsz he]
    simp only [foldO]
    cases hs : stepO l.length st v with
    | none => rfl
    | some st2 =>
      simp only
      exact ih (i + 1) st2 (m - 1) hvs2 (fun v hv => hok v (by simp [hv])) (by omega) (by rw [stepO_sz hs]; omega) (by rw [stepO_enc hs, he, take_snoc hv]) (by simp only [List.length_cons] at hm; omega)
theorem ord_bad (hn : 5 ≤ n) (hl : l.length < 1000000) (hw : ∀ nd ∈ l, NdWF nd) {j : Nat} {x : Nd} (hj : l[j]? = some x) (hx : ∀ v : NV, x = v.node → v.ok = false) : ∀ (k i : Nat) (st : List Pt) (m : Nat), i + k = j → szA st = i → encR st = l.take i → k < m →
    fix (rx_ordered_loop0 n) m (l, l, (l.length : Int), (i : Int), topR st, ()) = some false := by
  have hjl : j < l.length := (List.getElem?_eq_some_iff.1 hj).1
  intro k
  induction k with
  | zero =>
    intro i st m hi hsz he hm
    have hi : i = j := by omega
    subst hi
    rw [fix_pos hm, rx_ordered_loop0]
    simp only
    have hget : ∀ d, getAt d l (i : Int) = x := by
      intro d
      rw [getAt_nat hjl]
      rw [List.getElem?_eq_getElem hjl] at hj
      exact Option.some.inj hj
    rw [br_of (by simp; omega), chk_of (inBn hjl), hget]
    have hone : rx_Node_one n x = some false := by
      rcases one_eq (n := n) (hw x (List.mem_of_getElem? hj)) with ⟨_, v, h1, h2⟩ | ⟨h, _⟩
      · rw [hx v h1] at h2; exact absurd h2 (by simp)
      · exact h
    rw [hone]
    have hp : ∃ p, rx_Node_parts n x = some p := by
      unfold rx_Node_parts
      simp only
      cases (x.1 == 4) <;> cases (x.1 == 5) <;> cases (x.1 == 6) <;> cases (x.1 == 7) <;> exact ⟨_, rfl⟩
    obtain ⟨p, hp⟩ := hp
    rw [hp]; rfl
  | succ k ih =>
    intro i st m hi hsz he hm
    have hil : i < l.length := by omega
    have hli : l[i]? = some l[i] := List.getElem?_eq_getElem hil
    have hst := szA_ge st
    rcases one_eq (n := n) (hw _ (List.mem_of_getElem? hli)) with ⟨_, v, h1, h2⟩ | ⟨h, _⟩
    · rw [h1] at hli
      rw [fix_pos (by omega), ord_step hn hl hil hli h2 (hw _ (List.mem_of_getElem? hli)) (by omega) hsz he]
      cases hs : stepO l.length st v with
      | none => rfl
      | some st2 =>
        simp only
        exact ih (i + 1) st2 (m - 1) (by omega) (by rw [stepO_sz hs]; omega) (by rw [stepO_enc hs, he, take_snoc hli]) (by omega)
    · rw [fix_pos (by omega), rx_ordered_loop0]
      simp only
      have hget : ∀ d, getAt d l (i : Int) = l[i] := fun d => getAt_nat hil
      rw [br_of (by simp; omega), chk_of (inBn hil), hget, h]
      have hp : ∃ p, rx_Node_parts n l[i] = some p := by
        unfold rx_Node_parts
        simp only
        cases (l[i].1 == 4) <;> cases (l[i].1 == 5) <;> cases (l[i].1 == 6) <;> cases (l[i].1 == 7) <;> exact ⟨_, rfl⟩
      obtain ⟨p, hp⟩ := hp
      rw [hp]; rfl
theorem foldO_out {len : Nat} : ∀ (vs : List NV) (st st2 : List Pt), (∀ v ∈ vs, v.ok = true) → (∀ t ∈ st, treeOK len t) → foldO len vs st = some st2 → encR st2 = encR st ++ vs.map NV.node ∧ ∀ t ∈ st2, treeOK len t
  | [], st, st2, _, hst, h => by simp only [foldO, Option.some.injEq] at h; subst h; exact ⟨by simp, hst⟩
  | v :: vs, st, st2, hv, hst, h => by
    simp only [foldO] at h
    cases hs : stepO len st v with
    | none => rw [hs] at h; simp at h
    | some st3 =>
      rw [hs] at h
      have := foldO_out vs st3 st2 (fun v h => hv v (by simp [h])) (stepO_ok (hv v (by simp)) hst hs) h
      exact ⟨by rw [this.1, stepO_enc hs, List.append_assoc]; rfl, this.2⟩
theorem all_or_bad : ∀ l : List Nd, (∃ vs : List NV, vs.map NV.node = l ∧ ∀ v ∈ vs, v.ok = true) ∨ (∃ (j : Nat) (x : Nd), l[j]? = some x ∧ ∀ v : NV, x = v.node → v.ok = false)
  | [] => Or.inl ⟨[], rfl, by simp⟩
  | x :: l => by
    by_cases hx : ∃ v : NV, x = v.node ∧ v.ok = true
    · obtain ⟨v, h1, h2⟩ := hx
      rcases all_or_bad l with ⟨vs, h3, h4⟩ | ⟨j, y, h3, h4⟩
      · exact Or.inl ⟨v :: vs, by rw [List.map_cons, h3, h1], by intro u hu; rcases List.mem_cons.1 hu with rfl | hu; exact h2; exact h4 u hu⟩
      · exact Or.inr ⟨j + 1, y, by simpa using h3, h4⟩
    · exact Or.inr ⟨0, x, rfl, fun v hv => by
        cases h : v.ok
        · rfl
        · exact absurd ⟨v, hv, h⟩ hx⟩
theorem ordered_eq (hn : 5 ≤ n) (hnl : l.length < n) (hl : l.length < 1000000) (hw : ∀ nd ∈ l, NdWF nd) :
    (rx_ordered n l = some true ∧ ∃ t, l = t.enc 0 ∧ treeOK l.length t) ∨ (rx_ordered n l = some false ∧ ∀ t, l = t.enc 0 → ¬ treeOK l.length t) := by
  unfold rx_ordered
  simp only
  have hcomp : ∀ t, l = t.enc 0 → treeOK l.length t → fix (rx_ordered_loop0 n) n (l, l, (l.length : Int), 0, [], ()) = some true := by
    intro t ht hk
    have hm : (t.nvs 0).map NV.node = l.drop 0 := by rw [nvs_enc, ht]; rfl
    have hvl : (t.nvs 0).length = l.length := by have := congrArg List.length hm; simpa using this
    have := ord_all hn hl hw (t.nvs 0) 0 [] n hm (nvs_ok t 0 hk.1) (by omega) rfl (by rfl) (by omega)
    have hf := foldO_tree l.length t [] hk.2.1 hk.2.2
    rw [show szA [] = 0 from rfl] at hf
    rw [hf] at this
    exact this
  rcases all_or_bad l with ⟨vs, h1, h2⟩ | ⟨j, x, h1, h2⟩
  · have hvl : vs.length = l.length := by have := congrArg List.length h1; simpa using this
    have hN := ord_all hn hl hw vs 0 [] n (by rw [h1]; rfl) h2 (by omega) rfl (by rfl) (by omega)
    rw [show ((0 : Nat) : Int) = 0 from rfl, show topR [] = [] from rfl] at hN
    cases hf : foldO l.length vs [] with
    | none =>
      rw [hf] at hN
      refine Or.inr ⟨hN, fun t ht hk => ?_⟩
      have := hcomp t ht hk
      rw [hN] at this; simp at this
    | some st2 =>
      rw [hf] at hN
      obtain ⟨ho1, ho2⟩ := foldO_out vs [] st2 h2 (by simp) hf
      by_cases h1l : st2.length = 1
      · match st2, h1l with
        | [t], _ =>
          refine Or.inl ⟨hN, t, ?_, ho2 t (by simp)⟩
          simp only [encR, szA, List.nil_append, h1] at ho1
          exact ho1.symm
      · simp only [decide_eq_false h1l] at hN
        refine Or.inr ⟨hN, fun t ht hk => ?_⟩
        have := hcomp t ht hk
        rw [hN] at this; simp at this
  · have hjl : j < l.length := (List.getElem?_eq_some_iff.1 h1).1
    have hB := ord_bad hn hl hw h1 h2 j 0 [] n (by omega) rfl rfl (by omega)
    refine Or.inr ⟨hB, fun t ht hk => ?_⟩
    have := hcomp t ht hk
    rw [show ((0 : Nat) : Int) = 0 from rfl, show topR [] = [] from rfl] at hB
    rw [hB] at this; simp at this
end
abbrev W4 : Type := Nat × Bool × List Bool × Bool
def numW : Pt → W4 → W4
  | .cat a b, w => numW b (numW a w)
  | .alt a b, w => numW b (numW a w)
  | .times a _ _, w => numW a w
  | .group a m, w => ((numW a (w.1 + 1, w.2.1 && decide (m = w.1 + 1), w.2.2.1, w.2.2.2)).1, (numW a (w.1 + 1, w.2.1 && decide (m = w.1 + 1), w.2.2.1, w.2.2.2)).2.1, (numW a (w.1 + 1, w.2.1 && decide (m = w.1 + 1), w.2.2.1, w.2.2.2)).2.2.1.set m true, (numW a (w.1 + 1, w.2.1 && decide (m = w.1 + 1), w.2.2.1, w.2.2.2)).2.2.2)
  | .ref m, w => (w.1, w.2.1 && w.2.2.1.getD m false, w.2.2.1, true)
  | _, w => w
theorem numW_len : ∀ (t : Pt) (w : W4), (numW t w).2.2.1.length = w.2.2.1.length
  | .cat a b, w => by simp only [numW]; rw [numW_len b, numW_len a]
  | .alt a b, w => by simp only [numW]; rw [numW_len b, numW_len a]
  | .times a _ _, w => by simp only [numW]; rw [numW_len a]
  | .group a m, w => by simp only [numW, List.length_set]; rw [numW_len a]
  | .ref m, w => rfl
  | .empty, w | .bol, w | .eol, w | .bytes _, w => rfl
theorem numW_g : ∀ (t : Pt) (w : W4), (numW t w).1 ≤ w.1 + t.sz
  | .cat a b, w => by simp only [numW, Pt.sz]; have := numW_g b (numW a w); have := numW_g a w; omega
  | .alt a b, w => by simp only [numW, Pt.sz]; have := numW_g b (numW a w); have := numW_g a w; omega
  | .times a _ _, w => by simp only [numW, Pt.sz]; have := numW_g a w; omega
  | .group a m, w => by simp only [numW, Pt.sz]; have := numW_g a (w.1 + 1, w.2.1 && decide (m = w.1 + 1), w.2.2.1, w.2.2.2); simp only at this; omega
  | .ref m, w => by simp only [numW]; omega
  | .empty, w | .bol, w | .eol, w | .bytes _, w => by simp only [numW]; omega
def W4.out (l : List Nd) (w : W4) : Option (List Nd × Int × Bool × List Bool × Bool × Unit) := some (l, (w.1 : Int), w.2.1, w.2.2.1, w.2.2.2, ())
theorem numbered_1_eq {l : List Nd} (hl : l.length < 1000000) : ∀ (t : Pt) (o m : Nat) (w : W4), At l o t → fldB t = true → t.sz ≤ m → w.1 + t.sz < 1000000 → w.2.2.1.length = 10 →
    rx_numbered_1 m (t.top o, l, (w.1 : Int), w.2.1, w.2.2.1, w.2.2.2, ()) = W4.out l (numW t w) := by
  intro t
  have start : ∀ {t : Pt} {o m : Nat} {x : List Nd × Int × Bool × List Bool × Bool × Unit}, At l o t → rx_numbered_1 (m + 1) (t.top o, x) = rx_numbered_1_body m (rx_numbered_1 m) (t.top o, x) := fun _ => rfl
  induction t with
  | empty =>
    intro o m w h hf hm hg he
    obtain ⟨m, rfl⟩ : ∃ k, m = k + 1 := ⟨m - 1, by simp only [Pt.sz] at hm; omega⟩
    rw [start h]; unfold rx_numbered_1_body; simp only
    rw [chk_of h.top.1, h.top.2]; rfl
  | bytes p =>
    intro o m w h hf hm hg he
    obtain ⟨m, rfl⟩ : ∃ k, m = k + 1 := ⟨m - 1, by simp only [Pt.sz] at hm; omega⟩
    rw [start h]; unfold rx_numbered_1_body; simp only
    rw [chk_of h.top.1, h.top.2]; rfl
  | bol =>
    intro o m w h hf hm hg he
    obtain ⟨m, rfl⟩ : ∃ k, m = k + 1 := ⟨m - 1, by simp only [Pt.sz] at hm; omega⟩
    rw [start h]; unfold rx_numbered_1_body; simp only
    rw [chk_of h.top.1, h.top.2]; rfl
  | eol =>
    intro o m w h hf hm hg he
    obtain ⟨m, rfl⟩ : ∃ k, m = k + 1 := ⟨m - 1, by simp only [Pt.sz] at hm; omega⟩
    rw [start h]; unfold rx_numbered_1_body; simp only
    rw [chk_of h.top.1, h.top.2]; rfl
  | ref k =>
    intro o m w h hf hm hg he
    obtain ⟨m, rfl⟩ : ∃ k, m = k + 1 := ⟨m - 1, by simp only [Pt.sz] at hm; omega⟩
    simp only [fldB, Bool.and_eq_true, decide_eq_true_eq] at hf
    rw [start h]; unfold rx_numbered_1_body; simp only
    rw [chk_of h.top.1, h.top.2]
    simp only [Pt.nv, NV.node]
    rw [br_not (by rfl), br_not (by rfl), br_not (by rfl), br_not (by rfl), br_of (by rfl), chk_of (inBn (i := k) (n := 10) (by omega)), chk_of (by exact decide_eq_true (show k < 10 by omega))]
    simp only [numW, W4.out, Int.toNat_natCast]
    cases w.2.1 <;> rfl
  | cat a b iha ihb =>
    intro o m w h hf hm hg he
    obtain ⟨m, rfl⟩ : ∃ k, m = k + 1 := ⟨m - 1, by simp only [Pt.sz] at hm; omega⟩
    simp only [fldB, Bool.and_eq_true] at hf
    simp only [Pt.sz] at hm hg
    rw [start h]; unfold rx_numbered_1_body; simp only
    rw [chk_of h.top.1, h.top.2]
    simp only [Pt.nv, NV.node]
    have hga := numW_g a w
    rw [br_of (by rfl), br_of (by rfl), iha o m w h.cat1.1 hf.1 (by omega) (by omega) he]
    simp only [W4.out, ob_s]
    rw [ihb (o + a.sz) m (numW a w) h.cat1.2 hf.2 (by omega) (by omega) (by rw [numW_len]; exact he)]
    rfl
  | alt a b iha ihb =>
    intro o m w h hf hm hg he
    obtain ⟨m, rfl⟩ : ∃ k, m = k + 1 := ⟨m - 1, by simp only [Pt.sz] at hm; omega⟩
    simp only [fldB, Bool.and_eq_true] at hf
    simp only [Pt.sz] at hm hg
    rw [start h]; unfold rx_numbered_1_body; simp only
    rw [chk_of h.top.1, h.top.2]
    simp only [Pt.nv, NV.node]
    have hga := numW_g a w
    rw [br_not (by rfl), br_of (by rfl), iha o m w h.alt1.1 hf.1 (by omega) (by omega) he]
    simp only [W4.out, ob_s]
    rw [ihb (o + a.sz) m (numW a w) h.alt1.2 hf.2 (by omega) (by omega) (by rw [numW_len]; exact he)]
    rfl
  | times a lo hi iha =>
    intro o m w h hf hm hg he
    obtain ⟨m, rfl⟩ : ∃ k, m = k + 1 := ⟨m - 1, by simp only [Pt.sz] at hm; omega⟩
    simp only [fldB, Bool.and_eq_true] at hf
    simp only [Pt.sz] at hm hg
    rw [start h]; unfold rx_numbered_1_body; simp only
    rw [chk_of h.top.1, h.top.2]
    simp only [Pt.nv, NV.node]
    rw [br_not (by rfl), br_not (by rfl), br_of (by rfl), iha o m w h.times1 hf.1 (by omega) (by omega) he]
    rfl
  | group a k iha =>
    intro o m w h hf hm hg he
    obtain ⟨m, rfl⟩ : ∃ k, m = k + 1 := ⟨m - 1, by simp only [Pt.sz] at hm; omega⟩
    simp only [fldB, Bool.and_eq_true, decide_eq_true_eq] at hf
    simp only [Pt.sz] at hm hg
    rw [start h]; unfold rx_numbered_1_body; simp only
    rw [chk_of h.top.1, h.top.2]
    simp only [Pt.nv, NV.node]
    rw [br_not (by rfl), br_not (by rfl), br_not (by rfl), br_of (by rfl), wrapI (by omega) (by omega), show (w.1 : Int) + 1 = ((w.1 + 1 : Nat) : Int) from rfl]
    have hI := iha o m (w.1 + 1, w.2.1 && decide (k = w.1 + 1), w.2.2.1, w.2.2.2) h.group1 hf.1 (by omega) (by simp only; omega) he
    simp only at hI
    have he2 : ((k : Int) == ((w.1 + 1 : Nat) : Int)) = decide (k = w.1 + 1) := by rw [Bool.eq_iff_iff, beq_iff_eq, decide_eq_true_eq]; omega
    have hlen := numW_len a (w.1 + 1, w.2.1 && decide (k = w.1 + 1), w.2.2.1, w.2.2.2)
    rw [he2]
    cases hb : w.2.1 <;> rw [hb] at hI hlen
    · simp only [Bool.false_and] at hI hlen
      rw [br_f, hI]
      simp only [W4.out, ob_s]
      rw [chk_of (inBn (i := k) (n := 10) (by omega)), chk_of (by exact decide_eq_true (show k < 10 by omega))]
      simp only [numW, hb, Bool.false_and, Int.toNat_natCast]
    · simp only [Bool.true_and] at hI hlen
      rw [br_t, hI]
      simp only [W4.out, ob_s]
      rw [chk_of (inBn (i := k) (n := 10) (by omega)), chk_of (by exact decide_eq_true (show k < 10 by omega))]
      simp only [numW, hb, Bool.true_and, Int.toNat_natCast]
def w0 : W4 := (0, true, noEn, false)
def goodP (t : Pt) : Prop := t.sz ≤ 120 ∧ treeOK t.sz t ∧ (numW t w0).2.1 = true
theorem rx_look_eq {n : Nat} {l : List Nd} (hn : 200 ≤ n) (hw : ∀ nd ∈ l, NdWF nd) :
    (∃ t, goodP t ∧ l = t.enc 0 ∧ rx_look n l = some (((numW t w0).1 : Int), (numW t w0).2.2.2, true)) ∨ ((∀ t, goodP t → l ≠ t.enc 0) ∧ rx_look n l = some (0, false, false)) := by
  unfold rx_look
  simp only
  have hsz : ∀ t : Pt, l = t.enc 0 → l.length = t.sz := fun t h => by rw [h, Pt.enc_len]
  by_cases h0 : l.length = 0
  · rw [br_of (by rw [h0]; rfl)]
    exact Or.inr ⟨fun t _ h => by have := hsz t h; have := t.sz_pos; omega, rfl⟩
  rw [br_not (by simp; intro h; rw [h] at h0; simp at h0)]
  by_cases h1 : l.length > 120
  · rw [br_of (by simp; omega)]
    exact Or.inr ⟨fun t ht h => by have := hsz t h; have := ht.1; omega, rfl⟩
  rw [br_not (by simp; omega)]
  rcases ordered_eq (n := n) (l := l) (by omega) (by omega) (by omega) hw with ⟨ho, t, ht, hk⟩ | ⟨ho, hno⟩
  · rw [ho]
    simp only [ob_s, Bool.not_true, br_f]
    unfold rx_numbered
    simp only
    have hlt := hsz t ht
    have htp := t.sz_pos
    rw [wrapI (by omega) (by omega), show (l.length : Int) - 1 = t.top 0 by unfold Pt.top; omega]
    have hA : At l 0 t := by have := At.self t; rw [← ht] at this; exact this
    have hN := numbered_1_eq (l := l) (by omega) t 0 n w0 hA hk.1 (by omega) (by simp only [w0]; omega) rfl
    have hw0 : rx_numbered_1 n (t.top 0, l, 0, true, [false, false, false, false, false, false, false, false, false, false], false, ()) = W4.out l (numW t w0) := hN
    rw [hw0]
    simp only [W4.out, ob_s]
    cases hi : (numW t w0).2.1
    · refine Or.inr ⟨fun u hu h => ?_, rfl⟩
      have hu2 := hu.2.2
      have hlu := hsz u h
      have hB : At l 0 u := by have := At.self u; rw [← h] at this; exact this
      have htop : t.top 0 = u.top 0 := by unfold Pt.top; omega
      have hM := numbered_1_eq (l := l) (by omega) u 0 n w0 hB hu.2.1.1 (by omega) (by simp only [w0]; omega) rfl
      rw [← htop, hN] at hM
      simp only [W4.out, Option.some.injEq, Prod.mk.injEq] at hM
      have := hM.2.2.1
      rw [hi, hu2] at this; simp at this
    · rw [hlt] at hk
      exact Or.inl ⟨t, ⟨by omega, hk, hi⟩, ht, rfl⟩
  · rw [ho]
    simp only [ob_s, Bool.not_false, br_t]
    exact Or.inr ⟨fun t ht h => by have := hno t h; rw [hsz t h] at this; exact this ht.2.1, by first | rfl | trivial⟩
theorem rx_May_eq {n : Nat} {l : List Nd} (hn : 200 ≤ n) (hw : ∀ nd ∈ l, NdWF nd) :
    (∃ t, goodP t ∧ l = t.enc 0 ∧ rx_May n l = some true) ∨ ((∀ t, goodP t → l ≠ t.enc 0) ∧ rx_May n l = some false) := by
  unfold rx_May
  simp only
  rcases rx_look_eq hn hw with ⟨t, h1, h2, h3⟩ | ⟨h1, h2⟩
  · exact Or.inl ⟨t, h1, h2, by rw [h3]; rfl⟩
  · exact Or.inr ⟨h1, by rw [h2]; rfl⟩
end Go.Dec
namespace Go.Dec
def NumP (t : Pt) (b : Nat) (en : List Bool) (b' : Nat) (en' : List Bool) : Prop := ∀ i rf, ∃ rf', numW t (b, i, en, rf) = (b', i, en', rf')
def numL (ts : List Pt) (w : W4) : W4 := ts.foldl (fun w t => numW t w) w
def NumL (ts : List Pt) (b : Nat) (en : List Bool) (b' : Nat) (en' : List Bool) : Prop := ∀ i rf, ∃ rf', numL ts (b, i, en, rf) = (b', i, en', rf')
theorem emptyP_f {p : Nat → Bool} {i : Nat} (hi : i < 256) (h : p i = true) : emptyP p = false := by
  cases he : emptyP p
  · rfl
  · have := all_lt he hi
    rw [h] at this; simp at this
theorem brkS_ne {r : List UInt8} {p : Nat → Bool} {k : Nat} (h : brkS r = some (p, k)) : emptyP p = false := by
  unfold brkS at h
  cases h1 : [91].isPrefixOf r <;> rw [h1] at h <;> simp only [cond_true, cond_false] at h
  · simp at h
  · cases h3 : brkL (r.length + 1) true (fun _ => false) (r.drop (bif [94].isPrefixOf (r.drop 1) then 2 else 1)) with
    | none => rw [h3] at h; simp at h
    | some x =>
      obtain ⟨q, m⟩ := x
      rw [h3] at h
      simp only at h
      cases h4 : emptyP (bif [94].isPrefixOf (r.drop 1) then (fun j => !q j) else q) <;> rw [h4] at h <;> simp at h
      rw [← h.1]; simpa using h4
theorem oneP_ne (c : UInt8) : emptyP (oneP c) = false := emptyP_f c.toNat_lt (by simp [oneP])
def itemOK (t : Pt) : Prop := fldB t = true ∧ fitB t = true ∧ nonE t = true ∧ t.kind ≠ 4 ∧ t.kind ≠ 5
def atomOK (t : Pt) : Prop := fldB t = true ∧ fitB t = true ∧ nonE t = true ∧ (t.kind = 1 ∨ t.kind = 7 ∨ t.kind = 8)
def rowTree (t : Pt) : Prop := fldB t = true ∧ fitB t = true ∧ nonE t = true ∧ t.kind ≠ 5
theorem atomOK.item {t : Pt} (h : atomOK t) : itemOK t := ⟨h.1, h.2.1, h.2.2.1, by rcases h.2.2.2 with h | h | h <;> omega, by rcases h.2.2.2 with h | h | h <;> omega⟩
def RowN (row : List UInt8 → Nat → List Bool → Res (Option Pt)) : Prop := ∀ r b en t r' b' en', b ≤ 9 → en.length = 10 → row r b en = .ok (some t) r' b' en' → rowTree t ∧ NumP t b en b' en' ∧ b' ≤ 9 ∧ en'.length = 10
theorem bytes_n {p : Nat → Bool} (h : emptyP p = false) (b : Nat) (en : List Bool) : atomOK (.bytes p) ∧ NumP (.bytes p) b en b en := ⟨⟨by simp [fldB, h], rfl, rfl, Or.inl rfl⟩, fun i rf => ⟨rf, rfl⟩⟩
theorem atom_n {row : List UInt8 → Nat → List Bool → Res (Option Pt)} {first : Bool} {r : List UInt8} {b : Nat} {en : List Bool} {t : Pt} {r' : List UInt8} {b' : Nat} {en' : List Bool}
    (hrow : RowN row) (hb : b ≤ 9) (he : en.length = 10) (h : atomS row first r b en = .ok t r' b' en') : atomOK t ∧ NumP t b en b' en' ∧ b' ≤ 9 ∧ en'.length = 10 := by
  have hone : ∀ {p : Nat → Bool} {x : List UInt8}, emptyP p = false → Res.ok (Pt.bytes p) x b en = .ok t r' b' en' → atomOK t ∧ NumP t b en b' en' ∧ b' ≤ 9 ∧ en'.length = 10 := by
    intro p x hp h
    simp only [Res.ok.injEq] at h
    obtain ⟨rfl, rfl, rfl, rfl⟩ := h
    exact ⟨(bytes_n hp b en).1, (bytes_n hp b en).2, hb, he⟩
  unfold atomS at h
  cases r with
  | nil => simp at h
  | cons c r1 =>
    simp only at h
    cases h1 : c == 46 <;> rw [h1] at h <;> simp only [cond_true, cond_false] at h
    case true => exact hone (emptyP_f (i := 0) (by omega) rfl) h
    cases h2 : c == 91 <;> rw [h2] at h <;> simp only [cond_true, cond_false] at h
    case true =>
      cases h3 : brkS (c :: r1) with
      | none => rw [h3] at h; simp at h
      | some x => rw [h3] at h; exact hone (brkS_ne h3) h
    cases h3 : c == 92 <;> rw [h3] at h <;> simp only [cond_true, cond_false] at h
    case false => exact hone (oneP_ne c) h
    cases r1 with
    | nil => simp at h
    | cons d r2 =>
      simp only at h
      cases h4 : d == 40 <;> rw [h4] at h <;> simp only [cond_true, cond_false] at h
      case true =>
        cases h5 : b == 9 <;> rw [h5] at h <;> simp only [cond_true, cond_false] at h
        case true => simp at h
        have hb9 : b ≠ 9 := by simpa using h5
        cases ho : row r2 (b + 1) en with
        | er e k => rw [ho] at h; simp at h
        | ok t3 r3 b3 en3 =>
          rw [ho] at h
          cases t3 with
          | none => simp at h
          | some t3 =>
            simp only at h
            obtain ⟨g1, g2, g3, g4⟩ := hrow r2 (b + 1) en t3 r3 b3 en3 (by omega) he ho
            cases h6 : [92, 41].isPrefixOf r3 <;> rw [h6] at h <;> simp only [cond_true, cond_false, Res.ok.injEq] at h
            · simp at h
            · obtain ⟨rfl, rfl, rfl, rfl⟩ := h
              refine ⟨⟨?_, ?_, ?_, Or.inr (Or.inl rfl)⟩, ?_, g3, ?_⟩
              · simp [fldB, g1.1]; omega
              · simp [fitB, g1.2.1]
              · simp [nonE, g1.2.2.1]
              · intro i rf
                obtain ⟨rf', hrf⟩ := g2 i rf
                exact ⟨rf', by simp only [numW, decide_true, Bool.and_true]; rw [hrf]⟩
              · rw [List.length_set]; exact g4
      cases h5 : decide (49 ≤ d.toNat) && decide (d.toNat ≤ 57) <;> rw [h5] at h <;> simp only [cond_true, cond_false] at h
      case true =>
        simp only [Bool.and_eq_true, decide_eq_true_eq] at h5
        cases h6 : en.getD (d.toNat - 48) false <;> rw [h6] at h <;> simp only [cond_true, cond_false, Res.ok.injEq] at h
        · simp at h
        · obtain ⟨rfl, rfl, rfl, rfl⟩ := h
          refine ⟨⟨by simp [fldB]; omega, rfl, rfl, Or.inr (Or.inr rfl)⟩, fun i rf => ⟨true, ?_⟩, hb, he⟩
          simp only [numW, h6, Bool.and_true]
      cases h6 : d == 110 <;> rw [h6] at h <;> simp only [cond_true, cond_false] at h
      case true => exact hone (oneP_ne 10) h
      cases h7 : special7.contains d <;> rw [h7] at h <;> simp only [cond_true, cond_false] at h
      case true => exact hone (oneP_ne d) h
      cases h8 : d == 123 && first <;> rw [h8] at h <;> simp at h
theorem fin_n {t : Pt} {lo hi : Int} {r r' : List UInt8} {b b' : Nat} {en en' : List Bool} {t' : Pt} (ht : atomOK t) (hlo : timesOK lo hi = true) (h : finS t lo hi r b en = .ok t' r' b' en') : t' = .times t lo hi ∧ itemOK t' ∧ b' = b ∧ en' = en := by
  unfold finS at h
  cases hc : [42].isPrefixOf r || [92, 123].isPrefixOf r <;> rw [hc] at h <;> simp at h
  obtain ⟨rfl, rfl, rfl, rfl⟩ := h
  refine ⟨rfl, ⟨by simp only [fldB, ht.1, hlo]; rfl, ?_, by simp [nonE, ht.2.2.1], by simp [Pt.kind], by simp [Pt.kind]⟩, rfl, rfl⟩
  simp only [fitB, ht.2.1, Bool.true_and, Bool.or_eq_true, decide_eq_true_eq]
  rcases ht.2.2.2 with h | h | h
  · exact Or.inl (Or.inl h)
  · exact Or.inl (Or.inr h)
  · exact Or.inr h
theorem times_o_ok {r : List UInt8} {lo hi : Int} {r2 : List UInt8} (h : timesO r = some (lo, hi, r2)) : timesOK lo hi = true := by
  unfold timesO at h
  cases hlo : numS r with
  | mk l1 r1 =>
    rw [hlo] at h
    cases l1 with
    | none => simp at h
    | some l1 =>
      simp only at h
      cases hc : [44].isPrefixOf r1 <;> rw [hc] at h <;> simp only [cond_true, cond_false] at h
      · cases hb : [92, 125].isPrefixOf r1 && decide (l1 ≤ 255) && decide (1 ≤ l1) <;> rw [hb] at h <;> simp at h
        simp only [Bool.and_eq_true, decide_eq_true_eq] at hb
        obtain ⟨rfl, rfl, _⟩ := h
        simp [timesOK]; omega
      · cases hhi : numS (r1.drop 1) with
        | mk h1 r3 =>
          rw [hhi] at h
          cases h1 with
          | none =>
            simp only at h
            cases hb : [92, 125].isPrefixOf r3 && decide (l1 ≤ 255) <;> rw [hb] at h <;> simp at h
            simp only [Bool.and_eq_true, decide_eq_true_eq] at hb
            obtain ⟨rfl, rfl, _⟩ := h
            simp [timesOK]; omega
          | some h1 =>
            simp only at h
            cases hb : [92, 125].isPrefixOf r3 && decide (l1 ≤ 255) && decide (h1 ≤ 255) && decide (l1 ≤ h1) && decide (1 ≤ h1) <;> rw [hb] at h <;> simp at h
            simp only [Bool.and_eq_true, decide_eq_true_eq] at hb
            obtain ⟨rfl, rfl, _⟩ := h
            simp [timesOK]; omega
theorem times_n {t : Pt} {r : List UInt8} {b : Nat} {en : List Bool} {t' : Pt} {r' : List UInt8} {b' : Nat} {en' : List Bool} (ht : atomOK t) (h : timesS t r b en = .ok t' r' b' en') :
    (t' = t ∨ ∃ lo hi, t' = .times t lo hi) ∧ itemOK t' ∧ b' = b ∧ en' = en := by
  rw [timesS_o] at h
  cases h1 : [42].isPrefixOf r <;> rw [h1] at h <;> simp only [cond_true, cond_false] at h
  case true =>
    have := fin_n ht (by decide) h
    exact ⟨Or.inr ⟨_, _, this.1⟩, this.2⟩
  cases h2 : [92, 123].isPrefixOf r <;> rw [h2] at h <;> simp only [cond_true, cond_false] at h
  case false =>
    simp only [Res.ok.injEq] at h
    obtain ⟨rfl, rfl, rfl, rfl⟩ := h
    exact ⟨Or.inl rfl, ht.item, rfl, rfl⟩
  cases ho : timesO (r.drop 2) with
  | none => rw [ho] at h; simp at h
  | some x =>
    obtain ⟨lo, hi, r2⟩ := x
    rw [ho] at h
    have := fin_n ht (times_o_ok ho) h
    exact ⟨Or.inr ⟨_, _, this.1⟩, this.2⟩
theorem NumP_times {t t' : Pt} {b b' : Nat} {en en' : List Bool} (ht : t' = t ∨ ∃ lo hi, t' = .times t lo hi) (h : NumP t b en b' en') : NumP t' b en b' en' := by
  rcases ht with rfl | ⟨lo, hi, rfl⟩
  · exact h
  · exact fun i rf => h i rf
theorem items_n {row : List UInt8 → Nat → List Bool → Res (Option Pt)} (hrow : RowN row) : ∀ (f : Nat) (first : Bool) (r : List UInt8) (b : Nat) (en : List Bool) (acc ts : List Pt) (r' : List UInt8) (b' : Nat) (en' : List Bool), b ≤ 9 → en.length = 10 → itemsS row f first r b en acc = .ok ts r' b' en' →
    ∃ new, ts = acc ++ new ∧ (∀ t ∈ new, itemOK t) ∧ NumL new b en b' en' ∧ b' ≤ 9 ∧ en'.length = 10 := by
  intro f
  induction f with
  | zero => intro first r b en acc ts r' b' en' _ _ h; simp [itemsS] at h
  | succ f ih =>
    intro first r b en acc ts r' b' en' hb he h
    unfold itemsS at h
    cases hc : closesS r <;> rw [hc] at h <;> simp only [cond_true, cond_false, Res.ok.injEq] at h
    case true =>
      obtain ⟨rfl, rfl, rfl, rfl⟩ := h
      exact ⟨[], by simp, by simp, fun i rf => ⟨rf, rfl⟩, hb, he⟩
    cases hd : [36].isPrefixOf r && closesS (r.drop 1) <;> rw [hd] at h <;> simp only [cond_true, cond_false, Res.ok.injEq] at h
    case true =>
      obtain ⟨rfl, rfl, rfl, rfl⟩ := h
      exact ⟨[.eol], rfl, by intro t ht; simp only [List.mem_singleton] at ht; subst ht; exact ⟨rfl, rfl, rfl, by simp [Pt.kind], by simp [Pt.kind]⟩, fun i rf => ⟨rf, rfl⟩, hb, he⟩
    cases ho : atomS row first r b en with
    | er e k => rw [ho] at h; simp at h
    | ok t r1 b1 en1 =>
      rw [ho] at h
      simp only at h
      obtain ⟨a1, a2, a3, a4⟩ := atom_n hrow hb he ho
      cases ho2 : timesS t r1 b1 en1 with
      | er e k => rw [ho2] at h; simp at h
      | ok t2 r2 b2 en2 =>
        rw [ho2] at h
        simp only at h
        obtain ⟨c1, c2, rfl, rfl⟩ := times_n a1 ho2
        obtain ⟨new, d1, d2, d3, d4, d5⟩ := ih _ _ _ _ _ _ _ _ _ a3 a4 h
        refine ⟨t2 :: new, by rw [d1]; simp, ?_, ?_, d4, d5⟩
        · intro u hu
          rcases List.mem_cons.1 hu with rfl | hu
          · exact c2
          · exact d2 u hu
        · intro i rf
          obtain ⟨rf1, h1⟩ := NumP_times c1 a2 i rf
          obtain ⟨rf2, h2⟩ := d3 i rf1
          exact ⟨rf2, by simp only [numL, List.foldl_cons] at h2 ⊢; rw [h1]; exact h2⟩
theorem catL_num : ∀ (ts : List Pt) (t : Pt) (w : W4), catL ts = some t → numW t w = numL ts w
  | [], t, w, h => by simp [catL] at h
  | u :: ts, t, w, h => by
    unfold catL at h
    cases hc : catL ts with
    | none =>
      rw [hc] at h
      simp only [Option.some.injEq] at h
      subst h
      cases ts with
      | nil => rfl
      | cons v ts =>
        unfold catL at hc
        cases h2 : catL ts <;> rw [h2] at hc <;> simp at hc
    | some v =>
      rw [hc] at h
      simp only [Option.some.injEq] at h
      subst h
      simp only [numW, numL, List.foldl_cons]
      exact catL_num ts v (numW u w) hc
theorem catL_ok : ∀ (ts : List Pt) (t : Pt), (∀ u ∈ ts, itemOK u) → catL ts = some t → rowTree t
  | [], t, _, h => by simp [catL] at h
  | u :: ts, t, hu, h => by
    unfold catL at h
    have hk := hu u (by simp)
    cases hc : catL ts with
    | none =>
      rw [hc] at h
      simp only [Option.some.injEq] at h
      subst h
      exact ⟨hk.1, hk.2.1, hk.2.2.1, hk.2.2.2.2⟩
    | some v =>
      rw [hc] at h
      simp only [Option.some.injEq] at h
      subst h
      have hv := catL_ok ts v (fun x hx => hu x (by simp [hx])) hc
      exact ⟨by simp [fldB, hk.1, hv.1], by simp [fitB, hk.2.1, hv.2.1, hk.2.2.2.1, hk.2.2.2.2, hv.2.2.2], by simp [nonE, hk.2.2.1, hv.2.2.1], by simp [Pt.kind]⟩
theorem row_n : ∀ f : Nat, RowN (rowS f) := by
  intro f
  induction f with
  | zero => intro r b en t r' b' en' _ _ h; simp [rowS] at h
  | succ f ih =>
    intro r b en t r' b' en' hb he h
    unfold rowS at h
    simp only at h
    cases ho : itemsS (rowS f) ((bif [94].isPrefixOf r then r.drop 1 else r).length + 1) true (bif [94].isPrefixOf r then r.drop 1 else r) b en (bif [94].isPrefixOf r then [Pt.bol] else []) with
    | er e k => rw [ho] at h; simp at h
    | ok ts r2 b2 en2 =>
      rw [ho] at h
      simp only [Res.ok.injEq] at h
      obtain ⟨new, d1, d2, d3, d4, d5⟩ := items_n ih _ _ _ _ _ _ _ _ _ _ hb he ho
      obtain ⟨h1, rfl, rfl, rfl⟩ := h
      have hok : ∀ u ∈ ts, itemOK u := by
        rw [d1]
        intro u hu
        rcases List.mem_append.1 hu with hu | hu
        · cases h94 : [94].isPrefixOf r <;> rw [h94] at hu <;> simp at hu
          subst hu
          exact ⟨rfl, rfl, rfl, by simp [Pt.kind], by simp [Pt.kind]⟩
        · exact d2 u hu
      refine ⟨catL_ok ts t hok h1, ?_, d4, d5⟩
      intro i rf
      obtain ⟨rf', hrf⟩ := d3 i rf
      refine ⟨rf', ?_⟩
      rw [catL_num ts t _ h1, d1]
      simp only [numL, List.foldl_append] at hrf ⊢
      cases h94 : [94].isPrefixOf r
      · exact hrf
      · exact hrf
theorem parse_goodP {s : List UInt8} {t : Pt} (h : parseS s = .inl t) : goodP t := by
  cases s with
  | nil => simp only [parseS, Sum.inl.injEq] at h; subst h; exact ⟨by simp [Pt.sz], ⟨rfl, rfl, fun h => by simp [Pt.sz] at h⟩, rfl⟩
  | cons c s0 =>
    have hps : parseS (c :: s0) = match rowS 11 (c :: s0) 0 noEn with
      | .er e k => .inr (e, (c :: s0).length - k)
      | .ok t r _ _ =>
        match r with
        | [] => match t with
          | none => .inr (41, (c :: s0).length)
          | some t => bif decide (t.sz > 120) then .inr (2, 0) else .inl t
        | _ => .inr (41, (c :: s0).length - r.length) := rfl
    rw [hps] at h
    cases ho : rowS 11 (c :: s0) 0 noEn with
    | er e k => rw [ho] at h; simp at h
    | ok t2 r b2 en2 =>
      rw [ho] at h
      simp only at h
      cases r with
      | cons c2 r2 => simp at h
      | nil =>
        cases t2 with
        | none => simp at h
        | some t2 =>
          simp only at h
          obtain ⟨g1, g2, _⟩ := row_n 11 _ 0 noEn t2 _ _ _ (by omega) rfl ho
          cases h120 : decide (t2.sz > 120) <;> rw [h120] at h <;> simp only [cond_true, cond_false, Sum.inl.injEq, reduceCtorEq] at h
          subst h
          simp only [gt_iff_lt, decide_eq_false_iff_not] at h120
          obtain ⟨rf', hrf⟩ := g2 true false
          exact ⟨by omega, ⟨g1.1, g1.2.1, fun _ => g1.2.2.1⟩, by simp only [w0]; rw [hrf]⟩
theorem enc_wf (t : Pt) (o : Nat) : ∀ nd ∈ t.enc o, NdWF nd := by
  intro nd h
  rw [← nvs_enc] at h
  obtain ⟨v, _, rfl⟩ := List.mem_map.1 h
  cases v with
  | bytes p => exact ⟨p, rfl⟩
  | _ => exact ⟨fun _ => false, wd_none.symm⟩
theorem May_enc {n : Nat} {t : Pt} (hn : 200 ≤ n) (h : goodP t) : rx_May n (t.enc 0) = some true := by
  rcases rx_May_eq (n := n) (l := t.enc 0) hn (enc_wf t 0) with ⟨_, _, _, h3⟩ | ⟨h1, _⟩
  · exact h3
  · exact absurd rfl (h1 t h)
theorem May_nil {n : Nat} : rx_May n [] = some false := rfl
theorem its_eq {n : Nat} {l : List Nd} (hl : l.length < n) (hl2 : l.length < 1000000) : law04_its n l = some l := by
  unfold law04_its
  simp only
  have key : ∀ k i m, i + k = l.length → k < m → fix (law04_its_loop0 n) m (l, (i : Int), l.take i, ()) = some l := by
    intro k
    induction k with
    | zero =>
      intro i m hi hm
      rw [fix_pos hm, law04_its_loop0]
      simp only
      rw [br_not (by simp; omega), List.take_of_length_le (by omega)]
    | succ k ih =>
      intro i m hi hm
      have hil : i < l.length := by omega
      rw [fix_pos (by omega), law04_its_loop0]
      simp only
      rw [br_of (by simp; omega), chk_of (inBn hil), getAt_nat hil, chk_of (by simp [room]; omega), wrapI (by omega) (by omega), show (i : Int) + 1 = ((i + 1 : Nat) : Int) by omega]
      have := ih (i + 1) (m - 1) (by omega) (by omega)
      rw [take_snoc (List.getElem?_eq_getElem hil)] at this
      exact this
  exact key l.length 0 n (by omega) (by omega)
theorem Same_self {n : Nat} {l : List Nd} (hl : l.length < n) (hl2 : l.length < 1000000) : ref03_Same n (l, l) = some true := by
  unfold ref03_Same
  simp only
  rw [br_not (by simp)]
  refine fix_up (fun i => (l, l, (i : Int), ())) (N := l.length) ?_ ?_ l.length 0 n (by omega) (by omega)
  · intro i hi g
    unfold ref03_Same_loop0
    simp only
    rw [br_of (by simp; omega), chk_of (inBn hi), chk_of (inBn hi), nd_t rfl, br_not (by rfl), wrapI (by omega) (by omega)]
    rfl
  · intro g
    unfold ref03_Same_loop0
    simp only
    rw [br_not (by simp)]
theorem law04_BreParses_claim (s : List UInt8) (_ : DensWF [.str] s) : law04_BreParses 2000 s = some true := by
  have hsh := shown_true
  unfold law04_BreParses
  simp only
  rw [hsh]
  by_cases h : s.length > 300
  · rw [br_of (by simp; omega)]; rfl
  · rw [br_not (by simp; omega)]
    simp only [ob_s, Bool.not_true, br_f]
    rw [bre_Parse_eq (by omega) (by omega), ref04_Parse_eq (by omega) (by omega)]
    simp only [ob_s]
    cases hp : parseS s with
    | inl t =>
      have hg := parse_goodP hp
      have hsz := hg.1
      simp only [parseT]
      rw [its_eq (by rw [Pt.enc_len]; omega) (by rw [Pt.enc_len]; omega)]
      simp only [ob_s]
      rw [Same_self (by rw [Pt.enc_len]; omega) (by rw [Pt.enc_len]; omega), May_enc (by omega) hg]
      rfl
    | inr x =>
      obtain ⟨e, k⟩ := x
      simp only [parseT]
      rw [its_eq (by simp) (by simp)]
      simp only [ob_s]
      rw [Same_self (by simp) (by simp), May_nil]
      simp only [ob_s, br_t]
      rw [br_of (by simp), br_of (by simp)]
      have he : e ≠ 0 := by
        have := parse_good s
        rw [hp] at this
        omega
      have : ((e : Int) == 0) = false := by rw [Bool.eq_false_iff, ne_eq, beq_iff_eq]; omega
      rw [this]; rfl
end Go.Dec
