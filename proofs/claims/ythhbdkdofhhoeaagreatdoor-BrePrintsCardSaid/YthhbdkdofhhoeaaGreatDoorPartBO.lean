/- Part of a proof over this seat: a library of my own, and what it says of this seat. No statement is proved here. -/
import Derived.Test.YthhbdkdofhhoeaaGreatDoorPartBN
namespace Go.Dec
theorem SH {row : List UInt8 -> Nat -> List Bool -> Res (Option Pt)} : ∀ (f : Nat) (first : Bool) (r : List UInt8) (b : Nat) (en : List Bool) (acc ts : List Pt) (r' : List UInt8) (b' : Nat) (en' : List Bool), fG row f first r b en acc = .ok ts r' b' en' -> eG r' = true := by
 intro f
 induction f with
 | zero => intro first r b en acc ts r' b' en' h; simp [fG] at h
 | succ f ih =>
  intro first r b en acc ts r' b' en' h
  unfold fG at h
  cases hc : eG r <;> rw [hc] at h <;> simp only [cond_true, cond_false, Res.ok.injEq] at h
  case true => rw [<- h.2.1]; exact hc
  cases hd : [36].isPrefixOf r && eG (r.drop 1) <;> rw [hd] at h <;> simp only [cond_true, cond_false, Res.ok.injEq] at h
  case true =>
   rw [Bool.and_eq_true] at hd
   rw [<- h.2.1]; exact hd.2
  cases ho : jB row first r b en with
  | er e k => rw [ho] at h; simp at h
  | ok t r1 b1 en1 =>
   rw [ho] at h
   simp only at h
   cases ho2 : jV t r1 b1 en1 with
   | er e k => rw [ho2] at h; simp at h
   | ok t2 r2 b2 en2 =>
    rw [ho2] at h
    exact ih _ _ _ _ _ _ _ _ _ h
theorem WG {f : Nat} {r r' : List UInt8} {b b' : Nat} {en en' : List Bool} {t : Option Pt} (h : dx f r b en = .ok t r' b' en') : eG r' = true := by
 cases f with
 | zero => simp [dx] at h
 | succ f =>
  unfold dx at h
  simp only at h
  cases ho : fG (dx f) ((bif [94].isPrefixOf r then r.drop 1 else r).length + 1) true (bif [94].isPrefixOf r then r.drop 1 else r) b en (bif [94].isPrefixOf r then [Pt.bol] else []) with
  | er e k => rw [ho] at h; simp at h
  | ok ts r2 b2 en2 =>
   rw [ho] at h
   simp only [Res.ok.injEq] at h
   rw [<- h.2.1]
   exact SH _ _ _ _ _ _ _ _ _ _ ho
def SOK (s : List UInt8) (l : List Nd) (o : Res (Option Pt)) (e : Option (StT × Int)) : Prop := match o with
 | .ok none r b en => e = some ((l, (b : Int), en, 0, 0, ()), psn s r)
 | .ok (some t) r b en => e = some ((l ++ t.enc l.length, (b : Int), en, 0, 0, ()), psn s r)
 | .er c k => ∃ (l' : List Nd) (b' : Int) (en' : List Bool) (i' : Int), e = some ((l', b', en', ((s.length - k : Nat) : Int), (c : Int), ()), i')
theorem C8 {n : Nat} (s : List UInt8) (hs : s.length < n) (hs2 : s.length < 1000000) (d : UInt8) : je n (s, (d.toNat : Int)) = some (s.contains d) := by
 unfold je
 simp only
 have key : ∀ k i m, i + k = s.length -> k < m -> fix (sI n) m (s, (d.toNat : Int), (i : Int), ()) = some ((s.drop i).contains d) := by
  intro k
  induction k with
  | zero =>
   intro i m hi hm
   rw [aX hm, sI]
   simp only
   rw [aj (by simp; omega), List.drop_of_length_le (by omega)]; rfl
  | succ k ih =>
   intro i m hi hm
   rw [aX (by omega), sI]
   simp only
   have hil : i < s.length := by omega
   rw [au (by simp; omega), ah (dM hil), eT hil, aK (by omega) (by omega), show (i : Int) + 1 = ((i + 1 : Nat) : Int) by omega, ih (i + 1) (m - 1) (by omega) (by omega)]
   rw [List.drop_eq_getElem_cons hil, List.contains_cons, qK d]
   have e : ((s[i].toNat : Int) == (d.toNat : Int)) = (s[i] == d) := by rw [eqI d, qK]
   rw [e]
   cases (s[i] == d) <;> rfl
 have := key s.length 0 n (by omega) (by omega)
 simpa using this
section
variable {n : Nat} {s r : List UInt8} {b : Nat} {en : List Bool} {l : List Nd} {rw' : List UInt8 × Int × StT -> Option (StT × Int)} {row : List UInt8 -> Nat -> List Bool -> Res (Option Pt)}
theorem MR {p : Nat -> Bool} {i : Int} (hn : 300 <= n) (hl : l.length < 900000) (hi : i = psn s r) : QOK s l (.ok (.bytes p) r b en) (ob (fC n ((l, (b : Int), en, 0, 0, ()), bx p)) fun y => some (y, i)) := by
 rw [zbb hn (by omega), hi]; rfl
theorem zbe {rA : List UInt8} {k : Nat} {v : Int} (h : r <:+ s) (hs : s.length < 100000) (hl : l.length + 3 * r.length < 800000) (he : en.length = 10) (hb : b <= 9) (hk : k = rA.length)
    (hcl : ∀ t r' b' en', row r (b + 1) en = .ok t r' b' en' -> eG r' = true)
    (hrow : b + 1 <= 9 -> xM r (row r (b + 1) en) ∧ SOK s l (row r (b + 1) en) (rw' (s, psn s r, (l, ((b + 1 : Nat) : Int), en, 0, 0, ())))) :
    QOK s l (bif b == 9 then .er 41 k
          else match row r (b + 1) en with
            | .er e k => .er e k
            | .ok none _ _ _ => .er 41 k
            | .ok (some t) r3 b3 en3 => bif [92, 41].isPrefixOf r3 then .ok (.group t (b + 1)) (r3.drop 2) b3 (en3.set (b + 1) true) else .er 41 k)
      (br ((b : Int) == 9) (
                  ob (aT n ((l, (b : Int), en, 0, 0, ()), psn s rA, 41)) fun y18 =>
                  some (y18, psn s rA)) (
                  ob (rw' (s, psn s r, (l, (IntKind.wrap .i64 ((b : Int) + 1), (en, (0, (0, ()))))))) fun y21 =>
                  br (y21.1.2.2.2.2.1 != 0) (
                    some (y21.1, y21.2)) (
                    br (y21.2 == (s.length : Int)) (
                      ob (aT n ((l, (IntKind.wrap .i64 ((b : Int) + 1), (en, (0, (0, ()))))), psn s rA, 41)) fun y22 =>
                      some (y22, psn s rA)) (
                      br ((y21.1.1.length : Int) == (l.length : Int)) (
                        ob (aT n ((l, (IntKind.wrap .i64 ((b : Int) + 1), (en, (0, (0, ()))))), psn s rA, 41)) fun y23 =>
                        some (y23, psn s rA)) (
                        chk (inB (IntKind.wrap .i64 ((b : Int) + 1)) 10) (
                          chk (decide ((IntKind.wrap .i64 ((b : Int) + 1)).toNat < 10)) (
                            ob (dZ n ((y21.1.1, (y21.1.2.1, (y21.1.2.2.1.set ((IntKind.wrap .i64 ((b : Int) + 1)).toNat) true, y21.1.2.2.2))), (7, ([0, 0, 0, 0], (IntKind.wrap .i64 ((y21.1.1.length : Int) - 1), (0, (0, (0, ((IntKind.wrap .i64 ((b : Int) + 1)), ()))))))))) fun y25 =>
                            some (y25, IntKind.wrap .i64 (y21.2 + 2))))))))) := by
  have hg : ∀ {x : List Nd} {y : Int} {z : List Bool} {i : Int}, QOK s l (.er 41 k) (some ((x, y, z, psn s rA, 41, ()), i)) := fun {x y z i} => ⟨x, y, z, i, by rw [hk]; rfl⟩
  cases h9 : b == 9
  case true =>
    have : b = 9 := by simpa using h9
    rw [au (by simp [this])]
    simp only [I7, aA, cond_true]
    exact hg
  have h9 : b ≠ 9 := by simpa using h9
  rw [aj (by simp; omega), aK (x := (b : Int) + 1) (by omega) (by omega)]
  obtain ⟨hgood, hok⟩ := hrow (by omega)
  rw [show (b : Int) + 1 = ((b + 1 : Nat) : Int) from rfl]
  simp only [cond_false]
  cases ho : row r (b + 1) en with
  | er e k2 =>
    rw [ho] at hok hgood
    obtain ⟨l', b', en', i', hok⟩ := hok
    obtain ⟨e1, e2⟩ := hgood
    rw [hok]
    simp only [aA]
    rw [au (by simp; omega)]
    exact ⟨_, _, _, _, rfl⟩
  | ok t r3 b3 en3 =>
    have hc3 := hcl _ _ _ _ ho
    rw [ho] at hok hgood
    obtain ⟨g1, g2, g3, g4⟩ := hgood
    have hs3 : r3 <:+ s := g1.trans h
    have hl3 := iP hs3
    have hend : (psn s r3 == (s.length : Int)) = r3.isEmpty := Ah hs3
    have hemp : ([92, 41].isPrefixOf r3) = !r3.isEmpty := by
      unfold eG at hc3
      cases r3 with
      | nil => rfl
      | cons c r4 => simpa using hc3
    cases t with
    | none =>
      simp only [SOK] at hok
      rw [hok]
      simp only [aA, I7]
      rw [aj (by rfl), hend]
      cases r3.isEmpty
      · rw [aM, au (by simp)]
        exact hg
      · exact hg
    | some t =>
      simp only [SOK] at hok
      rw [hok]
      simp only [aA, I7]
      rw [aj (by rfl), hend, hemp]
      have htp := t.bT
      cases he3 : r3.isEmpty
      · simp only at g2
        rw [aM, aj (by rw [List.length_append, Pt.aZ]; simp; omega), ah (cK (by omega) (by omega)), ah (by simp; omega), Bz (by rw [List.length_append, Pt.aZ]; omega)]
        rw [he3] at hemp
        have hp2 : 2 <= r3.length := dD (by simpa using hemp : [92, 41].isPrefixOf r3 = true)
        simp only [aA, Bool.not_false, cond_true, QOK, Pt.enc, List.append_assoc, Int.toNat_natCast]
        rw [show (2 : Int) = ((2 : Nat) : Int) from rfl, dP hs3 (by omega) hp2, aK (by rw [List.length_append, Pt.aZ]; omega) (by rw [List.length_append, Pt.aZ]; omega), List.length_append, Pt.aZ]
        rfl
      · exact hg
theorem zcE : bx (bE 0 255) = bx (fun _ => true) := ig fun i hi => by simp [bE]; omega
theorem SI (d : UInt8) : bx (ofP [d]) = bx (vB d) := ig fun i hi => by
 simp only [ofP, vB]; rw [Bool.eq_iff_iff]; simp; omega
theorem zcF {first : Bool} (h : r <:+ s) (hne : r ≠ []) (hs : s.length < 100000) (hn : s.length + 500 <= n) (hl : l.length + 3 * r.length < 800000) (he : en.length = 10) (hb : b <= 9)
    (hcl : ∀ r b t r' b' en', row r b en = .ok t r' b' en' -> eG r' = true)
    (hrow : ∀ r2, r2 <:+ r -> r2.length < r.length -> b + 1 <= 9 -> xM r2 (row r2 (b + 1) en) ∧ SOK s l (row r2 (b + 1) en) (rw' (s, psn s r2, (l, ((b + 1 : Nat) : Int), en, 0, 0, ())))) :
    QOK s l (jB row first r b en) (wC n rw' (s, psn s r, first, (l, (b : Int), en, 0, 0, ()))) := by
  have hlen := iP h
  unfold wC jB
  cases r with
  | nil => exact absurd rfl hne
  | cons c r1 =>
    simp only
    simp only [List.length_cons] at hl hlen
    have h1 : r1 <:+ s := (List.suffix_cons _ _).trans h
    have hgc : aG 0 s (psn s (c :: r1)) = c := by
      have := vK (d := 0) h (j := 0) (c := c) rfl
      simpa using this
    have hin : inB (psn s (c :: r1)) s.length = true := cK (by unfold psn; omega) (by unfold psn; simp only [List.length_cons]; omega)
    rw [ah hin, hgc]
    have e46 : ((c.toNat : Int) == 46) = (c == 46) := by rw [qK]; exact eqI 46
    have e91 : ((c.toNat : Int) == 91) = (c == 91) := by rw [qK]; exact eqI 91
    have e92 : ((c.toNat : Int) == 92) = (c == 92) := by rw [qK]; exact eqI 92
    rw [e46, e91, bne, e92]
    have hp1 : IntKind.wrap .i64 (psn s (c :: r1) + 1) = psn s r1 := dP h (by omega) (k := 1) (by simp)
    rw [hp1]
    cases h46 : c == 46
    case true =>
      simp only [aR, cond_true]
      have := sU (n := n) (a := 0) (b := 255) (by omega) (by omega) (by omega)
      rw [show ((0 : Nat) : Int) = 0 from rfl, show ((255 : Nat) : Int) = 255 from rfl] at this
      rw [this, zcE]
      simp only [aA]
      exact MR (r := r1) (by omega) (by omega) rfl
    simp only [aM, cond_false]
    cases h91 : c == 91
    case true =>
      simp only [aR, cond_true]
      rw [ah (Sr h), sV, vC h, KR (by omega) (by simp only [List.length_cons]; omega) (by simp only [List.length_cons]; omega)]
      simp only [aA]
      cases hk : tO (c :: r1) with
      | none =>
        simp only [Ie]
        rw [au (by rfl)]
        exact ⟨_, _, _, _, rfl⟩
      | some x =>
        obtain ⟨p, k⟩ := x
        have hk2 := KQ hk
        simp only [Ie]
        rw [aj (by rfl), dP h (by omega) hk2.2]
        exact MR (r := (c :: r1).drop k) (by omega) (by omega) rfl
    simp only [aM, cond_false]
    cases h92 : c == 92
    case false =>
      simp only [Bool.not_false, aR, cond_false]
      have hps : psn s (c :: r1) = ((s.length - (r1.length + 1) : Nat) : Int) := rfl
      have Sy : psn s r1 = ((s.length - r1.length : Nat) : Int) := rfl
      rw [ah (by rw [hps, Sy]; simp; omega)]
      have e : (s.take (psn s r1).toNat).drop (psn s (c :: r1)).toNat = [c] := take_at h (k := 1) (by simp)
      rw [e, yx _ (by simp; omega) (by simp), SI]
      simp only [aA]
      exact MR (r := r1) (by omega) (by omega) rfl
    simp only [Bool.not_true, aM, cond_true]
    rw [Ah h1]
    cases r1 with
    | nil =>
      simp only [List.isEmpty_nil, aR]
      exact ⟨_, _, _, _, rfl⟩
    | cons d r2 =>
      have h2 : r2 <:+ s := (List.suffix_cons _ _).trans h1
      simp only [List.length_cons] at hlen hl
      simp only [List.isEmpty_cons, aM]
      have hin : inB (psn s (d :: r2)) s.length = true := cK (by unfold psn; omega) (by unfold psn; simp only [List.length_cons]; omega)
      have hgd : aG 0 s (psn s (d :: r2)) = d := by
        have := vK (d := 0) h1 (j := 0) (c := d) rfl
        simpa using this
      have hp2 : IntKind.wrap .i64 (psn s (c :: d :: r2) + 2) = psn s r2 := dP h (by omega) (k := 2) (by simp)
      rw [ah hin, hgd, hp2]
      have e40 : ((d.toNat : Int) == 40) = (d == 40) := by rw [qK]; exact eqI 40
      have Zx : ((d.toNat : Int) == 110) = (d == 110) := by rw [qK]; exact eqI 110
      have Zy : ((d.toNat : Int) == 123) = (d == 123) := by rw [qK]; exact eqI 123
      rw [e40, Zx, Zy]
      cases h40 : (d == 40)
      case true =>
        simp only [aR, cond_true]
        exact zbe (n := n) (row := row) (rw' := rw') (rA := c :: d :: r2) (l := l) (en := en) (b := b) (v := 0) h2 hs (by omega) he hb rfl (fun t r' b' en' => hcl r2 (b + 1) t r' b' en') (fun hb9 => hrow r2 ((List.suffix_cons _ _).trans (List.suffix_cons _ _)) (by simp only [List.length_cons]; omega) hb9)
      simp only [aM, cond_false]
      have zen : je n ([46, 91, 92, 42, 94, 36, 47], (d.toNat : Int)) = some (iK.contains d) := C8 iK (by simp [iK]; omega) (by simp [iK]) d
      have Sy : psn s (d :: r2) = ((s.length - (r2.length + 1) : Nat) : Int) := rfl
      have zeo : psn s r2 = ((s.length - r2.length : Nat) : Int) := rfl
      have etk : (s.take (psn s r2).toNat).drop (psn s (d :: r2)).toNat = [d] := take_at h1 (k := 1) (by simp)
      have hrest : QOK s l (bif d == 110 then .ok (.bytes (vB 10)) r2 b en
        else bif iK.contains d then .ok (.bytes (vB d)) r2 b en
        else bif d == 123 && first then .er 43 (c :: d :: r2).length
        else .er 40 (c :: d :: r2).length) (
                  br (d == 110) (
                    ob (iI n [10]) fun y45 =>
                    ob (fC n ((l, (b : Int), en, 0, 0, ()), y45)) fun y46 =>
                    some (y46, psn s r2)) (
                    ob (je n ([46, 91, 92, 42, 94, 36, 47], (d.toNat : Int))) fun y48 =>
                    br y48 (
                      chk ((decide (0 <= psn s r2) && decide (psn s r2 <= (s.length : Int)) && (decide (0 <= psn s (d :: r2)) && decide (psn s (d :: r2) <= psn s r2)))) (
                        ob (iI n ((s.take (psn s r2).toNat).drop (psn s (d :: r2)).toNat)) fun y52 =>
                        ob (fC n ((l, (b : Int), en, 0, 0, ()), y52)) fun y53 =>
                        some (y53, psn s r2))) (
                      br (d == 123) (
                        br first (
                          ob (aT n ((l, (b : Int), en, 0, 0, ()), psn s (c :: d :: r2), 43)) fun y55 =>
                          some (y55, psn s (c :: d :: r2))) (
                          ob (aT n ((l, (b : Int), en, 0, 0, ()), psn s (c :: d :: r2), 40)) fun y56 =>
                          some (y56, psn s (c :: d :: r2)))) (
                        ob (aT n ((l, (b : Int), en, 0, 0, ()), psn s (c :: d :: r2), 40)) fun y57 =>
                        some (y57, psn s (c :: d :: r2)))))) := by
        cases zem : (d == 110)
        case true =>
          simp only [aR, cond_true]
          rw [yx _ (by simp; omega) (by simp), SI]
          simp only [aA]
          exact MR (by omega) (by omega) rfl
        simp only [aM, cond_false]
        rw [zen]
        simp only [aA]
        cases iK.contains d
        case true =>
          simp only [aR, cond_true]
          rw [ah (by rw [Sy, zeo]; simp; omega), etk, yx _ (by simp; omega) (by simp), SI]
          simp only [aA]
          exact MR (by omega) (by omega) rfl
        simp only [aM, cond_false]
        cases (d == 123) <;> cases first <;> exact ⟨_, _, _, _, rfl⟩
      by_cases h49 : 49 <= d.toNat
      · rw [au (by simp; omega), decide_eq_true h49]
        by_cases h57 : d.toNat <= 57
        · rw [au (by simp; omega), decide_eq_true h57]
          simp only [Bool.and_self, cond_true]
          have hv : IntKind.wrap .i64 (IntKind.wrap .u8 ((d.toNat : Int) - 48)) = ((d.toNat - 48 : Nat) : Int) := by
            rw [IntWalk.u8_in _ (by omega), aK (by omega) (by omega)]; omega
          rw [hv, ah (cK (by omega) (by omega)), ah (by simp; omega), Int.toNat_natCast, show Ty.dflt .bool = false from rfl]
          cases en.getD (d.toNat - 48) false
          · simp only [Bool.not_false, aR, cond_false]
            exact ⟨_, _, _, _, rfl⟩
          · simp only [Bool.not_true, aM, cond_true]
            rw [Bz (by omega)]
            rfl
        · rw [aj (by simp; omega), decide_eq_false h57, Bool.and_false]
          simp only [cond_false]
          exact hrest
      · rw [aj (by simp; omega), decide_eq_false h49, Bool.false_and]
        simp only [cond_false]
        exact hrest
theorem zdm {i : Int} {en0 : List Bool} {bb b0 a0 e0 : Int} {l0 : List Nd} {ts : List Pt} (hl : l.length + szL ts < 900000) : ∀ (k m : Nat) (pre suf : List Pt) (u : Pt), pre.length = k -> ts = pre ++ suf -> szA pre + u.sz + pre.length <= szL ts -> k < m ->
  fix (nE n) m (i, (k : Int) - 1, l ++ dJ l.length pre ++ u.enc (l.length + szA pre), bb, en, 0, 0, l0, b0, en0, a0, e0, eH l.length ts, ()) =
   some ((l ++ (pre.foldr Pt.cat u).enc l.length, bb, en, 0, 0, ()), i) := by
 intro k
 induction k with
 | zero =>
  intro m pre suf u hk hts hsz hm
  have : pre = [] := List.eq_nil_of_length_eq_zero hk
  subst this
  rw [aX hm, nE]
  simp only
  rw [aj (by simp)]
  simp [dJ, szA]
 | succ k ih =>
  intro m pre suf u hk hts hsz hm
  obtain ⟨pre', t, rfl⟩ : ∃ pre' t, pre = pre' ++ [t] := by
   rcases List.eq_nil_or_concat pre with rfl | ⟨p, t, rfl⟩
   ·simp at hk
   ·exact ⟨p, t, by simp⟩
  have hk' : pre'.length = k := by simpa using hk
  have KV : ts = pre' ++ t :: suf := by rw [hts]; simp
  have hat := KU pre' t suf l.length 0
  rw [<- KV, hk'] at hat
  have hlen : (eH l.length ts).length = ts.length := nP _ _
  have htl : k < ts.length := by rw [KV]; simp; omega
  rw [aX (by omega), nE]
  simp only
  rw [show ((k + 1 : Nat) : Int) - 1 = (k : Int) by omega]
  rw [au (by simp), hlen, ah (by rw [dM htl]; simp), Int.toNat_natCast, Nat.zero_add, ah (by simp; omega), show Ty.dflt (.int .i64) = (0 : Int) from rfl, hat]
  rw [oV] at hsz
  simp only [szA, List.length_append, List.length_cons, List.length_nil] at hsz
  rw [Bz (by simp only [List.length_append, rR, oV, Pt.aZ, szA]; omega)]
  simp only [aA]
  rw [aK (x := (k : Int) - 1) (by omega) (by omega)]
  have hc := ih (m - 1) pre' (t :: suf) (.cat t u) hk' KV (by simp only [Pt.sz]; omega) (by omega)
  have hup := u.bT
  have e1 : IntKind.wrap .i64 (((l ++ dJ l.length (pre' ++ [t]) ++ u.enc (l.length + szA (pre' ++ [t]))).length : Int) - 1) = u.top (l.length + szA (pre' ++ [t])) := by
   have e : (l ++ dJ l.length (pre' ++ [t]) ++ u.enc (l.length + szA (pre' ++ [t]))).length = l.length + szA (pre' ++ [t]) + u.sz := by
    simp only [List.length_append, rR, Pt.aZ]
   have hs2 : szA (pre' ++ [t]) = szA pre' + t.sz := by rw [oV]; simp [szA]
   rw [e, aK (by omega) (by omega)]; rfl
  have e2 : l ++ dJ l.length (pre' ++ [t]) ++ u.enc (l.length + szA (pre' ++ [t])) ++ [(4, [0, 0, 0, 0], t.top (l.length + szA pre'), u.top (l.length + szA (pre' ++ [t])), 0, 0, 0, ())] = l ++ dJ l.length pre' ++ (Pt.cat t u).enc (l.length + szA pre') := by
   simp only [p8, oV, szA, Pt.enc, List.append_assoc, Nat.add_zero, Nat.add_assoc]
  rw [e1, e2, hc, List.foldr_append]; rfl
theorem U1 {l0 : List Nd} {b0 a0 e0 : Int} {en0 : List Bool} {ts : List Pt} (hn : szL ts + 10 <= n) (hl : l.length + szL ts < 900000) :
  SOK s l (.ok (iU ts) r b en) (qP n (psn s r, l ++ dJ l.length ts, (b : Int), en, 0, 0, l0, b0, en0, a0, e0, eH l.length ts, ())) := by
 unfold qP
 simp only
 rw [nP]
 have hsl := Ij ts
 rcases List.eq_nil_or_concat ts with rfl | ⟨pre, t, h⟩
 ·rw [aX (by omega), nE]
  simp only
  rw [aj (by rfl)]
  simp [iU, SOK, dJ]
 ·have hts : ts = pre ++ [t] := by rw [h]; simp
  have hlen : ts.length = pre.length + 1 := by rw [hts]; simp
  rw [hlen, aK (by omega) (by omega), show ((pre.length + 1 : Nat) : Int) - 2 = (pre.length : Int) - 1 by omega]
  have hc := zdm (n := n) (i := psn s r) (l := l) (bb := (b : Int)) (en := en) (l0 := l0) (b0 := b0) (en0 := en0) (a0 := a0) (e0 := e0) (ts := ts) hl pre.length n pre [t] t rfl hts (by rw [hts, oV] at hsl; simp only [szA] at hsl; rw [hts]; simp only [List.length_append, List.length_cons, List.length_nil] at hsl; omega) (by omega)
  have e : l ++ dJ l.length ts = l ++ dJ l.length pre ++ t.enc (l.length + szA pre) := by rw [hts, p8, List.append_assoc]
  rw [e, hc]
  have ZA : iU ts = some (pre.foldr Pt.cat t) := by rw [hts]; exact EP pre t
  rw [ZA]
  rfl
theorem U2 {f0 R : Nat} {l0 : List Nd} {b0 a0 e0 : Int} {en0 : List Bool} (hs : s.length < 100000) (hn : 3 * s.length + 500 <= n)
  (hrow : ∀ r2 b2 en2 l2, r2 <:+ s -> r2.length < R -> b2 + 1 <= 9 -> 11 <= f0 + (b2 + 1) -> en2.length = 10 -> l2.length + 3 * r2.length < 800000 -> SOK s l2 (dx f0 r2 (b2 + 1) en2) (rw' (s, psn s r2, (l2, ((b2 + 1 : Nat) : Int), en2, 0, 0, ())))) :
  ∀ (f m : Nat) (first : Bool) (r : List UInt8) (b : Nat) (en : List Bool) (acc : List Pt), r <:+ s -> r.length <= R -> r.length < f -> f <= m -> b <= 9 -> en.length = 10 -> 10 <= f0 + b -> l.length + szL acc + 3 * r.length < 800000 -> szL acc + 3 * r.length <= 3 * s.length ->
   SOK s l (match fG (dx f0) f first r b en acc with
    | .er e k => .er e k
    | .ok ts r2 b2 en2 => .ok (iU ts) r2 b2 en2) (fix (nH n rw') m (s, psn s r, first, l ++ dJ l.length acc, (b : Int), en, 0, 0, l0, b0, en0, a0, e0, eH l.length acc, ())) := by
 intro f
 induction f with
 | zero => intro m first r b en acc _ _ h; omega
 | succ f ih =>
  intro m first r b en acc h hR hf hm hb he hf0 hl hsz
  have hle := iP h
  have hal := Ij acc
  rw [aX (by omega), nH]
  simp only
  rw [SE h (by omega)]
  unfold fG
  simp only [aA]
  cases hc : eG r
  case true =>
   simp only [Bool.not_true, aM, cond_true, bX]
   exact U1 (by omega) (by omega)
  simp only [Bool.not_false, aR, cond_false]
  have hne : r ≠ [] := by intro e; subst e; simp [eG] at hc
  have hll : (l ++ dJ l.length acc).length = l.length + szA acc := by rw [List.length_append, rR]
  have hgo : SOK s l (match (match jB (dx f0) first r b en with
   | .er e k => (.er e k : Res (List Pt))
   | .ok t r1 b1 en1 => match jV t r1 b1 en1 with
    | .er e k => .er e k
    | .ok t2 r2 b2 en2 => fG (dx f0) f false r2 b2 en2 (acc ++ [t2])) with
    | .er e k => .er e k
    | .ok ts r2 b2 en2 => .ok (iU ts) r2 b2 en2) (jY n rw' (fix (nH n rw') (m - 1)) (s, psn s r, first, false, l ++ dJ l.length acc, (b : Int), en, 0, 0, l0, b0, en0, a0, e0, eH l.length acc, ())) := by
   unfold jY
   simp only [aM, bX]
   unfold Cc
   simp only
   have ha := zcF (n := n) (rw' := rw') (row := dx f0) (l := l ++ dJ l.length acc) (first := first) h hne hs (by omega) (by rw [hll]; omega) he hb
    (fun r b t r' b' en' hh => WG hh)
    (fun r2 hr2 hlt hb1 => ⟨(og f0 r2 (b + 1) en (by omega) hb1 he).1, hrow r2 b en _ (hr2.trans h) (by omega) hb1 (by omega) he (by rw [hll]; omega)⟩)
   have hg := Ig (row := dx f0) (first := first) (r := r) hb he (fun r hb1 => (og f0 r (b + 1) en (by omega) hb1 he).1)
   cases ho : jB (dx f0) first r b en with
   | er e k =>
    rw [ho] at ha hg
    obtain ⟨l', b', en', i', ha⟩ := ha
    obtain ⟨g1, g2⟩ := hg
    rw [ha]
    simp only [aA, bX]
    have he1 : ((e : Int) == 0) = false := by rw [Bool.eq_false_iff, ne_eq, beq_iff_eq]; omega
    rw [aj he1]
    unfold nG
    simp only
    rw [au (by rw [bne, he1]; rfl)]
    exact ⟨_, _, _, _, rfl⟩
   | ok t r1 b1 en1 =>
    rw [ho] at ha hg
    obtain ⟨g1, g2, g3, g4⟩ := hg
    simp only [QOK] at ha
    rw [ha]
    simp only [aA, bX]
    rw [au (by rfl)]
    have h1 : r1 <:+ s := g1.trans h
    have htm := zbd (n := n) (l := l ++ dJ l.length acc) (t := t) (b := b1) (en := en1) h1 (by omega) (by omega) (by rw [hll]; omega)
    have htg := EN t r1 b1 en1
    have htp := t.bT
    rw [hll] at htm ⊢
    cases ho2 : jV t r1 b1 en1 with
    | er e k =>
     rw [ho2] at htm htg
     obtain ⟨l', b', en', i', htm⟩ := htm
     obtain ⟨g1, g2⟩ := htg
     rw [htm]
     simp only [aA]
     have he1 : ((e : Int) == 0) = false := by rw [Bool.eq_false_iff, ne_eq, beq_iff_eq]; omega
     unfold nG
     simp only
     rw [au (by rw [bne, he1]; rfl)]
     exact ⟨_, _, _, _, rfl⟩
    | ok t2 r2 b2 en2 =>
     rw [ho2] at htm htg
     obtain ⟨c1, rfl, rfl, c4⟩ := htg
     simp only [QOK] at htm
     rw [htm]
     simp only [aA]
     unfold nG
     simp only
     rw [aj (by rfl)]
     have hc1 := c1.length_le
     have hg1 := g1.length_le
     have ht2 := t2.bT
     have ZE : IntKind.wrap .i64 (((l ++ dJ l.length acc ++ t2.enc (l.length + szA acc)).length : Int) - 1) = t2.top (l.length + szA acc) := by
      rw [List.length_append, hll, Pt.aZ, aK (by omega) (by omega)]; rfl
     rw [hll, ZE, ah (by rw [nP]; simp [room]; omega)]
     have e1 : l ++ dJ l.length acc ++ t2.enc (l.length + szA acc) = l ++ dJ l.length (acc ++ [t2]) := by rw [p8, List.append_assoc]
     have e2 : eH l.length acc ++ [t2.top (l.length + szA acc)] = eH l.length (acc ++ [t2]) := (yT _ _ _).symm
     rw [e1, e2]
     have zcC : b <= b2 := by
      cases hi : jB (dx f0) first r b en with
      | er e k => rw [hi] at ho; exact absurd ho (by simp)
      | ok t' r' b' en' =>
       rw [hi] at ho
       simp only [Res.ok.injEq] at ho
       have := Ih (row := dx f0) (f0 := f0) (fun r b en he hb hf => (og f0 r (b + 1) en hf hb he).2) he hb hf0 hi
       omega
     exact ih (m - 1) false r2 b2 en2 (acc ++ [t2]) (c1.trans h1) (by omega) (by omega) (by omega) g3 g4 (by omega) (by rw [oU]; simp only [szL]; omega) (by rw [oU]; simp only [szL]; omega)
  have hend : ∀ r1, r = 36 :: r1 -> SOK s l (.ok (iU (acc ++ [.eol])) r1 b en) (jY n rw' (fix (nH n rw') (m - 1)) (s, psn s r, first, true, l ++ dJ l.length acc, (b : Int), en, 0, 0, l0, b0, en0, a0, e0, eH l.length acc, ())) := by
   intro r1 hr
   unfold jY
   simp only [aR]
   have hrl : r.length = r1.length + 1 := by rw [hr]; rfl
   have hp : IntKind.wrap .i64 (psn s r + 1) = psn s r1 := by
    have := dP h (by omega) (k := 1) (by omega)
    rw [hr] at this ⊢
    exact this
   rw [hp, Bz (by rw [hll]; omega)]
   simp only [aA]
   have e2 : eH l.length acc ++ [IntKind.wrap .i64 (((l ++ dJ l.length acc ++ [(3, [0, 0, 0, 0], 0, 0, 0, 0, 0, ())]).length : Int) - 1)] = eH l.length (acc ++ [.eol]) := by
    rw [yT, List.length_append, hll, aK (by simp; omega) (by simp; omega)]; rfl
   rw [ah (by rw [nP]; simp [room]; omega), bX, e2]
   have e1 : l ++ dJ l.length acc ++ [(3, [0, 0, 0, 0], 0, 0, 0, 0, 0, ())] = l ++ dJ l.length (acc ++ [.eol]) := by rw [p8, List.append_assoc]; rfl
   rw [e1]
   exact U1 (by rw [oU]; simp only [szL, Pt.sz]; omega) (by rw [oU]; simp only [szL, Pt.sz]; omega)
  cases hr : r with
  | nil => exact absurd hr hne
  | cons c r1 =>
   have hgc : aG 0 s (psn s r) = c := by
    have := vK (d := 0) h (j := 0) (c := c) (by rw [hr]; rfl)
    simpa using this
   have hrl : r.length = r1.length + 1 := by rw [hr]; rfl
   rw [<- hr]
   rw [ah (cK (by unfold psn; omega) (by unfold psn; omega)), hgc, show ((c.toNat : Int) == 36) = (36 == c) from eqI 36]
   rw [show [36].isPrefixOf r = (36 == c) by rw [hr]; simp [List.isPrefixOf]]
   cases h36 : ((36 : UInt8) == c)
   ·simp only [aM, Bool.false_and, cond_false, bX]
    exact hgo
   ·have h36 : (36 : UInt8) = c := by simpa using h36
    subst h36
    have hp : IntKind.wrap .i64 (psn s r + 1) = psn s r1 := by
     have := dP h (by omega) (k := 1) (by omega)
     rw [hr] at this ⊢
     exact this
    have h1 : r1 <:+ s := by rw [hr] at h; exact (List.suffix_cons _ _).trans h
    rw [aR, hp, SE h1 (by omega), show r.drop 1 = r1 by rw [hr]; rfl]
    simp only [aA, Bool.true_and, bX]
    cases eG r1
    ·exact hgo
    ·exact hend r1 hr
theorem zdn : ∀ (f n : Nat) (r : List UInt8) (b : Nat) (en : List Bool) (l : List Nd), s.length < 100000 -> 3 * s.length + 500 + f <= n -> r <:+ s -> 11 <= f + b -> b <= 9 -> en.length = 10 -> l.length + 3 * r.length < 800000 -> SOK s l (dx f r b en) (lg n (s, psn s r, (l, (b : Int), en, 0, 0, ()))) := by
 intro f
 induction f with
 | zero => intro n r b en l _ _ _ h hb; omega
 | succ f ih =>
  intro n r b en l hs hn h hf hb he hl
  obtain ⟨n, rfl⟩ : ∃ k, n = k + 1 := ⟨n - 1, by omega⟩
  have hle := iP h
  have SA : lg (n + 1) (s, psn s r, (l, (b : Int), en, 0, 0, ())) = sJ n (lg n) (s, psn s r, (l, (b : Int), en, 0, 0, ())) := rfl
  rw [SA]
  unfold sJ dx
  simp only [bX]
  have hzero : ([false, false, false, false, false, false, false, false, false, false] : List Bool) = gN := rfl
  have hJ : ∀ (v : Bool) (hv : v = [94].isPrefixOf r), SOK s l (match fG (dx f) ((bif [94].isPrefixOf r then r.drop 1 else r).length + 1) true (bif [94].isPrefixOf r then r.drop 1 else r) b en (bif [94].isPrefixOf r then [.bol] else []) with
    | .er e k => .er e k
    | .ok ts r2 b2 en2 => .ok (iU ts) r2 b2 en2) (qR n (lg n) (s, psn s r, v, l, (b : Int), en, 0, 0, [], 0, gN, 0, 0, [], ())) := by
   intro v hv
   unfold qR
   simp only [bX]
   cases h94 : [94].isPrefixOf r
   ·rw [h94] at hv; subst hv
    simp only [aM, cond_false]
    unfold qQ
    simp only
    have := U2 (n := n) (s := s) (l := l) (rw' := lg n) (f0 := f) (R := r.length) (l0 := []) (b0 := 0) (a0 := 0) (e0 := 0) (en0 := gN) hs (by omega)
     (fun r2 b2 en2 l2 h2 _ hb2 hf2 he2 hl2 => ih n r2 (b2 + 1) en2 l2 hs (by omega) h2 hf2 hb2 he2 hl2) (r.length + 1) n true r b en [] h (Nat.le_refl _) (by omega) (by omega) hb he (by omega) (by simp only [szL]; omega) (by simp only [szL]; omega)
    simp only [dJ, eH, List.append_nil] at this
    exact this
   ·rw [h94] at hv; subst hv
    have hp := dD h94
    simp only [List.length_cons, List.length_nil] at hp
    simp only [aR, cond_true]
    rw [Bz (by omega)]
    simp only [aA]
    have hw : IntKind.wrap .i64 (psn s r + 1) = psn s (r.drop 1) := dP h (by omega) (k := 1) hp
    have e2 : [IntKind.wrap .i64 (((l ++ [(2, [0, 0, 0, 0], 0, 0, 0, 0, 0, ())]).length : Int) - 1)] = eH l.length [.bol] := by
     rw [List.length_append, aK (by simp only [List.length_cons, List.length_nil]; omega) (by simp only [List.length_cons, List.length_nil]; omega)]; rfl
    rw [ah (by simp [room]), hw, List.nil_append, e2]
    unfold qQ
    simp only
    have hd := List.length_drop (i := 1) (l := r)
    have := U2 (n := n) (s := s) (l := l) (rw' := lg n) (f0 := f) (R := r.length) (l0 := []) (b0 := 0) (a0 := 0) (e0 := 0) (en0 := gN) hs (by omega)
     (fun r2 b2 en2 l2 h2 _ hb2 hf2 he2 hl2 => ih n r2 (b2 + 1) en2 l2 hs (by omega) h2 hf2 hb2 he2 hl2) ((r.drop 1).length + 1) n true (r.drop 1) b en [.bol] (kM h 1) (by omega) (by omega) (by omega) hb he (by omega) (by simp only [szL, Pt.sz]; omega) (by simp only [szL, Pt.sz]; omega)
    simp only [dJ, Pt.enc, List.append_nil] at this
    exact this
  rw [hzero]
  cases hr : r with
  | nil =>
   have := hJ false (by rw [hr]; rfl)
   rw [hr] at this
   rw [aj (by unfold psn; simp)]
   exact this
  | cons c r1 =>
   have hgc : aG 0 s (psn s r) = c := by
    have := vK (d := 0) h (j := 0) (c := c) (by rw [hr]; rfl)
    simpa using this
   have hrl : r.length = r1.length + 1 := by rw [hr]; rfl
   rw [<- hr, au (by unfold psn; simp; omega), ah (cK (by unfold psn; omega) (by unfold psn; omega)), hgc, show ((c.toNat : Int) == 94) = (94 == c) from eqI 94]
   exact hJ _ (by rw [hr]; simp [List.isPrefixOf])
end
theorem Om {n : Nat} {s : List UInt8} (hs : s.length < 100000) (hn : 3 * s.length + 600 <= n) : uj n s = some (DV (nM s)) := by
 unfold uj
 simp only
 cases s with
 | nil => rfl
 | cons c s0 =>
  generalize hsv : c :: s0 = s at *
  have hne : s ≠ [] := by rw [<- hsv]; simp
  rw [aj (by simpa using hne)]
  have hps : nM s = match dx 11 s 0 gN with
   | .er e k => .inr (e, s.length - k)
   | .ok t r _ _ =>
    match r with
    | [] => match t with
     | none => .inr (41, s.length)
     | some t => bif decide (t.sz > 120) then .inr (2, 0) else .inl t
    | _ => .inr (41, s.length - r.length) := by rw [<- hsv]; rfl
  rw [hps]
  have hrow := zdn (s := s) 11 n s 0 gN [] hs (by omega) (List.suffix_refl _) (by omega) (by omega) rfl (by simp; omega)
  have hgood := (og 11 s 0 gN (by omega) (by omega) rfl).1
  have hp0 : psn s s = 0 := by unfold psn; omega
  rw [hp0] at hrow
  have WA : ([false, false, false, false, false, false, false, false, false, false] : List Bool) = gN := rfl
  rw [WA]
  rw [show (((0 : Nat) : Int)) = 0 from rfl] at hrow
  cases ho : dx 11 s 0 gN with
  | er e k =>
   rw [ho] at hrow hgood
   obtain ⟨l', b', en', i', hrow⟩ := hrow
   obtain ⟨e1, e2⟩ := hgood
   rw [hrow]
   simp only [aA]
   rw [au (by simp; omega)]
   rfl
  | ok t r b2 en2 =>
   rw [ho] at hrow hgood
   obtain ⟨g1, g2, g3, g4⟩ := hgood
   have hgl := g1.length_le
   have hlt : ∀ c r', r = c :: r' -> psn s r < (s.length : Int) := by
    intro c r' hr; rw [hr] at hgl ⊢; unfold psn; simp only [List.length_cons] at hgl ⊢; omega
   have hrow' : ∃ row, lg n (s, 0, ([], 0, gN, 0, 0, ())) = some ((row, (b2 : Int), en2, 0, 0, ()), psn s r) ∧ (match t with | none => True | some t => row = t.enc 0) := by
    cases t with
    | none => exact ⟨_, hrow, trivial⟩
    | some t => exact ⟨_, hrow, by simp⟩
   obtain ⟨row, hr1, hr2⟩ := hrow'
   rw [hr1]
   simp only [aA]
   rw [aj (by rfl)]
   cases hr : r with
   | cons c2 r2 =>
    have := hlt c2 r2 hr
    rw [hr] at this
    rw [au (decide_eq_true this)]
    rfl
   | nil =>
    have he : psn s [] = (s.length : Int) := by unfold psn; simp
    rw [aj (by rw [he]; simp)]
    cases t with
    | none =>
     exfalso
     have := FE ho
     rw [hr] at this
     exact absurd this hne.symm
    | some t =>
     simp only at hr2 g2 ⊢
     rw [hr2, Pt.aZ]
     by_cases Ik : t.sz > 120
     ·rw [au (by simp; omega), decide_eq_true Ik]
      rfl
     ·rw [aj (by simp; omega), decide_eq_false Ik]
      rfl
end Go.Dec
namespace Go.Dec
def Pt.kind : Pt -> Int
 | .empty => 0 | .bytes _ => 1 | .bol => 2 | .eol => 3 | .cat _ _ => 4 | .alt _ _ => 5 | .times _ _ _ => 6 | .group _ _ => 7 | .ref _ => 8
inductive NV where
 | empty | bol | eol
 | bytes (p : Nat -> Bool)
 | cat (a b : Int) | alt (a b : Int)
 | times (a lo hi : Int)
 | group (a : Int) (m : Nat)
 | ref (m : Nat)
def NV.node : NV -> Nd
 | .empty => (0, [0, 0, 0, 0], 0, 0, 0, 0, 0, ())
 | .bytes p => (1, wd p, 0, 0, 0, 0, 0, ())
 | .bol => (2, [0, 0, 0, 0], 0, 0, 0, 0, 0, ())
 | .eol => (3, [0, 0, 0, 0], 0, 0, 0, 0, 0, ())
 | .cat a b => (4, [0, 0, 0, 0], a, b, 0, 0, 0, ())
 | .alt a b => (5, [0, 0, 0, 0], a, b, 0, 0, 0, ())
 | .times a lo hi => (6, [0, 0, 0, 0], a, 0, lo, hi, 0, ())
 | .group a m => (7, [0, 0, 0, 0], a, 0, 0, 0, (m : Int), ())
 | .ref m => (8, [0, 0, 0, 0], 0, 0, 0, 0, (m : Int), ())
def fB (lo hi : Int) : Bool := decide (0 <= lo) && decide (lo <= 255) && (decide (hi = -1) || (decide (lo <= hi) && decide (1 <= hi) && decide (hi <= 255)))
def NV.ok : NV -> Bool
 | .bytes p => !dR p
 | .times _ lo hi => fB lo hi
 | .group _ m => decide (1 <= m) && decide (m <= 9)
 | .ref m => decide (1 <= m) && decide (m <= 9)
 | _ => true
def BA (nd : Nd) : Prop := ∃ p, nd.2.1 = wd p
theorem WH {x y : Nd} (h : x = y) : Ty.beq ak x y = true := (@beq_iff ak rfl x y).2 h
theorem WI {x y : Nd} (h : ¬ x = y) : Ty.beq ak x y = false := beq_false (t := ak) rfl h
def I8 (nd : Nd) (e : Option Bool) : Prop := (e = some true ∧ ∃ v : NV, nd = v.node ∧ v.ok = true) ∨ (e = some false ∧ ∀ v : NV, nd = v.node -> v.ok = false)
theorem Im (v : NV) : 0 <= v.node.1 ∧ v.node.1 <= 8 := by cases v <;> simp [NV.node]
section
variable {n : Nat} {w : List Int} {a b lo hi m : Int} {u : Unit}
theorem plain0 : bJ n (0, w, a, b, lo, hi, m, u) = some (0, [0, 0, 0, 0], 0, 0, 0, 0, 0, ()) := by simp [bJ]
theorem zcG : bJ n (1, w, a, b, lo, hi, m, u) = some (1, w, 0, 0, 0, 0, 0, ()) := by simp [bJ]
theorem zcH : bJ n (2, w, a, b, lo, hi, m, u) = some (2, [0, 0, 0, 0], 0, 0, 0, 0, 0, ()) := by simp [bJ]
theorem zcI : bJ n (3, w, a, b, lo, hi, m, u) = some (3, [0, 0, 0, 0], 0, 0, 0, 0, 0, ()) := by simp [bJ]
theorem zcJ : bJ n (4, w, a, b, lo, hi, m, u) = some (4, [0, 0, 0, 0], a, b, 0, 0, 0, ()) := by simp [bJ]
theorem zcK : bJ n (5, w, a, b, lo, hi, m, u) = some (5, [0, 0, 0, 0], a, b, 0, 0, 0, ()) := by simp [bJ]
theorem zcL : bJ n (6, w, a, b, lo, hi, m, u) = some (6, [0, 0, 0, 0], a, 0, lo, hi, 0, ()) := by simp [bJ]
theorem zcM : bJ n (7, w, a, b, lo, hi, m, u) = some (7, [0, 0, 0, 0], a, 0, 0, 0, m, u) := by simp [bJ]
theorem plain8 : bJ n (8, w, a, b, lo, hi, m, u) = some (8, [0, 0, 0, 0], 0, 0, 0, 0, m, u) := by simp [bJ]
end
theorem SK {n : Nat} {nd : Nd} (hw : BA nd) : I8 nd (nX n nd) := by
 obtain ⟨k, w, a, b, lo, hi, m, u⟩ := nd
 obtain ⟨p, hp⟩ := hw
 simp only at hp
 subst hp
 unfold nX
 simp only
 by_cases h0 : k < 0
 ·rw [au (by simp; omega)]
  exact Or.inr ⟨rfl, fun v hv => by have := Im v; rw [<- hv] at this; omega⟩
 rw [aj (by simp; omega)]
 by_cases h8 : k > 8
 ·rw [au (by simp; omega)]
  exact Or.inr ⟨rfl, fun v hv => by have := Im v; rw [<- hv] at this; omega⟩
 rw [aj (by simp; omega)]
 have hcase : k = 0 ∨ k = 1 ∨ k = 2 ∨ k = 3 ∨ k = 4 ∨ k = 5 ∨ k = 6 ∨ k = 7 ∨ k = 8 := by omega
 have hbad : ∀ {nd' : Nd} {X : Option Bool}, (∀ v : NV, (k, wd p, a, b, lo, hi, m, u) = v.node -> (k, wd p, a, b, lo, hi, m, u) = nd') -> ¬ (k, wd p, a, b, lo, hi, m, u) = nd' -> I8 (k, wd p, a, b, lo, hi, m, u) (br (!(Ty.beq ak (k, wd p, a, b, lo, hi, m, u) nd')) (some false) X) := by
  intro nd' X h1 h2
  rw [WI h2]
  exact Or.inr ⟨rfl, fun v hv => absurd (h1 v hv) h2⟩
 have hgood : ∀ {nd' : Nd} {X : Option Bool}, (k, wd p, a, b, lo, hi, m, u) = nd' -> (br (!(Ty.beq ak (k, wd p, a, b, lo, hi, m, u) nd')) (some false) X) = X := by
  intro nd' X h
  rw [WH h]; rfl
 have hng : ∀ {m : Int} (v : NV), 1 <= m -> ∃ m' : Nat, m = (m' : Int) := fun {m} _ h => ⟨m.toNat, by omega⟩
 rcases hcase with rfl | rfl | rfl | rfl | rfl | rfl | rfl | rfl | rfl
 ·rw [plain0, aA]
  by_cases h : ((0 : Int), wd p, a, b, lo, hi, m, u) = ((0, [0, 0, 0, 0], 0, 0, 0, 0, 0, ()) : Nd)
  ·rw [hgood h]; exact Or.inl ⟨rfl, .empty, h, rfl⟩
  ·exact hbad (fun v hv => by rw [hv]; cases v <;> simp [NV.node] at hv ⊢) h
 ·rw [zcG, aA]
  by_cases h : ((1 : Int), wd p, a, b, lo, hi, m, u) = ((1, wd p, 0, 0, 0, 0, 0, ()) : Nd)
  ·rw [hgood h]
   rw [au (by rfl)]
   rw [lC]
   cases he : dR p
   ·exact Or.inl ⟨rfl, .bytes p, h, by simp [NV.ok, he]⟩
   ·refine Or.inr ⟨rfl, fun v hv => ?_⟩
    have e1 := congrArg (fun x : Nd => x.2.1) hv
    have e0 := congrArg (fun x : Nd => x.1) hv
    cases v <;> simp [NV.node] at e0 e1
    simp only [NV.ok]
    rw [<- lC, <- e1, lC, he]; rfl
  ·exact hbad (fun v hv => by rw [hv]; cases v <;> simp [NV.node] at hv ⊢; exact hv.1.symm) h
 ·rw [zcH, aA]
  by_cases h : ((2 : Int), wd p, a, b, lo, hi, m, u) = ((2, [0, 0, 0, 0], 0, 0, 0, 0, 0, ()) : Nd)
  ·rw [hgood h]; exact Or.inl ⟨rfl, .bol, h, rfl⟩
  ·exact hbad (fun v hv => by rw [hv]; cases v <;> simp [NV.node] at hv ⊢) h
 ·rw [zcI, aA]
  by_cases h : ((3 : Int), wd p, a, b, lo, hi, m, u) = ((3, [0, 0, 0, 0], 0, 0, 0, 0, 0, ()) : Nd)
  ·rw [hgood h]; exact Or.inl ⟨rfl, .eol, h, rfl⟩
  ·exact hbad (fun v hv => by rw [hv]; cases v <;> simp [NV.node] at hv ⊢) h
 ·rw [zcJ, aA]
  by_cases h : ((4 : Int), wd p, a, b, lo, hi, m, u) = ((4, [0, 0, 0, 0], a, b, 0, 0, 0, ()) : Nd)
  ·rw [hgood h]; exact Or.inl ⟨rfl, .cat a b, h, rfl⟩
  ·exact hbad (fun v hv => by rw [hv]; cases v <;> simp [NV.node] at hv ⊢; exact ⟨hv.2.1.symm, hv.2.2.1.symm⟩) h
 ·rw [zcK, aA]
  by_cases h : ((5 : Int), wd p, a, b, lo, hi, m, u) = ((5, [0, 0, 0, 0], a, b, 0, 0, 0, ()) : Nd)
  ·rw [hgood h]; exact Or.inl ⟨rfl, .alt a b, h, rfl⟩
  ·exact hbad (fun v hv => by rw [hv]; cases v <;> simp [NV.node] at hv ⊢; exact ⟨hv.2.1.symm, hv.2.2.1.symm⟩) h
 ·rw [zcL, aA]
  by_cases h : ((6 : Int), wd p, a, b, lo, hi, m, u) = ((6, [0, 0, 0, 0], a, 0, lo, hi, 0, ()) : Nd)
  ·rw [hgood h]
   rw [aj (by rfl), au (by rfl)]
   have e : (br (decide (lo ≥ 0)) (br (decide (lo <= 255)) (br (hi == -1) (some true) (br (decide (hi ≥ if 1 > lo then 1 else lo)) (some (decide (hi <= 255))) (some false))) (some false)) (some false)) = some (fB lo hi) := by
    unfold fB
    by_cases g1 : 0 <= lo
    ·rw [au (by simp; omega), decide_eq_true g1]
     by_cases g2 : lo <= 255
     ·rw [au (by simp; omega), decide_eq_true g2]
      by_cases g3 : hi = -1
      ·subst g3; rfl
      ·rw [aj (by simp; omega), decide_eq_false g3]
       by_cases g4 : lo <= hi
       ·by_cases g5 : 1 <= hi
        ·rw [au (by simp; split <;> omega), decide_eq_true g4, decide_eq_true g5]; rfl
        ·rw [aj (by simp; split <;> omega), decide_eq_false g5, decide_eq_true g4]; rfl
       ·rw [aj (by simp; split <;> omega), decide_eq_false g4]; rfl
     ·rw [aj (by simp; omega), decide_eq_false g2, Bool.and_false, Bool.false_and]
    ·rw [aj (by simp; omega), decide_eq_false g1]; rfl
   rw [e]
   cases ht : fB lo hi
   ·refine Or.inr ⟨rfl, fun v hv => ?_⟩
    have e1 := congrArg (fun x : Nd => x.2.2.2.2.1) hv
    have e2 := congrArg (fun x : Nd => x.2.2.2.2.2.1) hv
    have e0 := congrArg (fun x : Nd => x.1) hv
    cases v <;> simp [NV.node] at e0 e1 e2
    simp only [NV.ok]
    rw [<- e1, <- e2]; exact ht
   ·exact Or.inl ⟨rfl, .times a lo hi, h, ht⟩
  ·exact hbad (fun v hv => by rw [hv]; cases v <;> simp [NV.node] at hv ⊢; exact ⟨hv.2.1.symm, hv.2.2.2.1.symm, hv.2.2.2.2.1.symm⟩) h
 ·rw [zcM, aA]
  by_cases h : ((7 : Int), wd p, a, b, lo, hi, m, u) = ((7, [0, 0, 0, 0], a, 0, 0, 0, m, u) : Nd)
  ·rw [hgood h]
   rw [aj (by rfl), aj (by rfl), au (by rfl), au (by rfl)]
   by_cases g1 : 1 <= m
   ·rw [au (by simp; omega)]
    by_cases g2 : m <= 9
    ·obtain ⟨m', rfl⟩ : ∃ m' : Nat, m = (m' : Int) := ⟨m.toNat, by omega⟩
     rw [decide_eq_true g2]
     exact Or.inl ⟨rfl, .group a m', h, by simp [NV.ok]; omega⟩
    ·rw [decide_eq_false g2]
     refine Or.inr ⟨rfl, fun v hv => ?_⟩
     have e1 := congrArg (fun x : Nd => x.2.2.2.2.2.2.1) hv
     have e0 := congrArg (fun x : Nd => x.1) hv
     cases v <;> simp [NV.node] at e0 e1
     simp [NV.ok]; omega
   ·rw [aj (by simp; omega)]
    refine Or.inr ⟨rfl, fun v hv => ?_⟩
    have e1 := congrArg (fun x : Nd => x.2.2.2.2.2.2.1) hv
    have e0 := congrArg (fun x : Nd => x.1) hv
    cases v <;> simp [NV.node] at e0 e1
    simp [NV.ok]; omega
  ·exact hbad (fun v hv => by rw [hv]; cases v <;> simp [NV.node] at hv ⊢; exact ⟨hv.2.1.symm, hv.2.2.2.2.2.symm⟩) h
 ·rw [plain8, aA]
  by_cases h : ((8 : Int), wd p, a, b, lo, hi, m, u) = ((8, [0, 0, 0, 0], 0, 0, 0, 0, m, u) : Nd)
  ·rw [hgood h]
   rw [aj (by rfl), aj (by rfl), aj (by rfl), au (by rfl)]
   by_cases g1 : 1 <= m
   ·rw [au (by simp; omega)]
    by_cases g2 : m <= 9
    ·obtain ⟨m', rfl⟩ : ∃ m' : Nat, m = (m' : Int) := ⟨m.toNat, by omega⟩
     rw [decide_eq_true g2]
     exact Or.inl ⟨rfl, .ref m', h, by simp [NV.ok]; omega⟩
    ·rw [decide_eq_false g2]
     refine Or.inr ⟨rfl, fun v hv => ?_⟩
     have e1 := congrArg (fun x : Nd => x.2.2.2.2.2.2.1) hv
     have e0 := congrArg (fun x : Nd => x.1) hv
     cases v <;> simp [NV.node] at e0 e1
     simp [NV.ok]; omega
   ·rw [aj (by simp; omega)]
    refine Or.inr ⟨rfl, fun v hv => ?_⟩
    have e1 := congrArg (fun x : Nd => x.2.2.2.2.2.2.1) hv
    have e0 := congrArg (fun x : Nd => x.1) hv
    cases v <;> simp [NV.node] at e0 e1
    simp [NV.ok]; omega
  ·exact hbad (fun v hv => by rw [hv]; cases v <;> simp [NV.node] at hv ⊢; exact hv.2.2.2.2.2.symm) h
end Go.Dec
namespace Go.Dec
def Pt.nv (o : Nat) : Pt -> NV
 | .empty => .empty
 | .bytes p => .bytes p
 | .bol => .bol
 | .eol => .eol
 | .cat a b => .cat (a.top o) (b.top (o + a.sz))
 | .alt a b => .alt (a.top o) (b.top (o + a.sz))
 | .times a lo hi => .times (a.top o) lo hi
 | .group a m => .group (a.top o) m
 | .ref m => .ref m
def Pt.ZF (o : Nat) : Pt -> List Nd
 | .cat a b => a.enc o ++ b.enc (o + a.sz)
 | .alt a b => a.enc o ++ b.enc (o + a.sz)
 | .times a _ _ => a.enc o
 | .group a _ => a.enc o
 | _ => []
theorem Pt.Pg (o : Nat) (t : Pt) : t.enc o = t.ZF o ++ [(t.nv o).node] := by
 cases t <;> rfl
theorem Pt.ZG (o : Nat) (t : Pt) : (t.ZF o).length + 1 = t.sz := by
 have := t.aZ o
 rw [t.Pg] at this
 simpa using this
theorem Pt.sW (o : Nat) (t : Pt) : (t.nv o).node.1 = t.kind := by cases t <;> rfl
def At (l : List Nd) (o : Nat) (t : Pt) : Prop := ∃ pre post, l = pre ++ t.enc o ++ post ∧ pre.length = o
theorem At.node {l : List Nd} {o : Nat} {t : Pt} (h : At l o t) : l[o + t.sz - 1]? = some (t.nv o).node := by
 obtain ⟨pre, post, rfl, hp⟩ := h
 have hb := t.ZG o
 rw [t.Pg, <- List.append_assoc, List.append_assoc, List.getElem?_append_right (by rw [List.length_append]; omega)]
 rw [List.length_append, show o + t.sz - 1 - (pre.length + (t.ZF o).length) = 0 by omega]
 rfl
theorem At.len {l : List Nd} {o : Nat} {t : Pt} (h : At l o t) : o + t.sz <= l.length := by
 obtain ⟨pre, post, rfl, hp⟩ := h
 simp only [List.length_append, Pt.aZ]; omega
theorem At.top {l : List Nd} {o : Nat} {t : Pt} (h : At l o t) : inB (t.top o) l.length = true ∧ ∀ d, aG d l (t.top o) = (t.nv o).node := by
 have h1 := h.node
 have h2 := h.len
 have h3 := t.bT
 have e : t.top o = ((o + t.sz - 1 : Nat) : Int) := by unfold Pt.top; omega
 rw [e]
 refine ⟨dM (by omega), fun d => ?_⟩
 rw [eT (by omega)]
 rw [List.getElem?_eq_getElem (by omega)] at h1
 exact Option.some.inj h1
theorem At.zn {l : List Nd} {o : Nat} {a b : Pt} (h : At l o (.cat a b)) : At l o a ∧ At l (o + a.sz) b := by
 obtain ⟨pre, post, rfl, hp⟩ := h
 exact ⟨⟨pre, b.enc (o + a.sz) ++ ([(Pt.nv o (.cat a b)).node] ++ post), by simp [Pt.enc, Pt.nv, NV.node], hp⟩, ⟨pre ++ a.enc o, [(Pt.nv o (.cat a b)).node] ++ post, by simp [Pt.enc, Pt.nv, NV.node], by rw [List.length_append, Pt.aZ, hp]⟩⟩
theorem At.alt1 {l : List Nd} {o : Nat} {a b : Pt} (h : At l o (.alt a b)) : At l o a ∧ At l (o + a.sz) b := by
 obtain ⟨pre, post, rfl, hp⟩ := h
 exact ⟨⟨pre, b.enc (o + a.sz) ++ ([(Pt.nv o (.alt a b)).node] ++ post), by simp [Pt.enc, Pt.nv, NV.node], hp⟩, ⟨pre ++ a.enc o, [(Pt.nv o (.alt a b)).node] ++ post, by simp [Pt.enc, Pt.nv, NV.node], by rw [List.length_append, Pt.aZ, hp]⟩⟩
theorem At.DW {l : List Nd} {o : Nat} {a : Pt} {lo hi : Int} (h : At l o (.times a lo hi)) : At l o a := by
 obtain ⟨pre, post, rfl, hp⟩ := h
 exact ⟨pre, [(Pt.nv o (.times a lo hi)).node] ++ post, by simp [Pt.enc, Pt.nv, NV.node], hp⟩
theorem At.DX {l : List Nd} {o : Nat} {a : Pt} {m : Nat} (h : At l o (.group a m)) : At l o a := by
 obtain ⟨pre, post, rfl, hp⟩ := h
 exact ⟨pre, [(Pt.nv o (.group a m)).node] ++ post, by simp [Pt.enc, Pt.nv, NV.node], hp⟩
theorem At.self (t : Pt) : At (t.enc 0) 0 t := ⟨[], [], by simp, rfl⟩
def bD : Pt -> Bool
 | .bytes p => !dR p
 | .cat a b => bD a && bD b
 | .alt a b => bD a && bD b
 | .times a lo hi => bD a && fB lo hi
 | .group a m => bD a && (decide (1 <= m) && decide (m <= 9))
 | .ref m => decide (1 <= m) && decide (m <= 9)
 | _ => true
def dw : Pt -> Bool
 | .cat a b => dw a && dw b && (decide (a.kind ≠ 4) && decide (a.kind ≠ 5) && decide (b.kind ≠ 5))
 | .alt a b => dw a && dw b && decide (a.kind ≠ 5)
 | .times a _ _ => dw a && (decide (a.kind = 1) || decide (a.kind = 7) || decide (a.kind = 8))
 | .group a _ => dw a
 | _ => true
def fP : Pt -> Bool
 | .empty => false
 | .cat a b => fP a && fP b
 | .alt a b => fP a && fP b
 | .times a _ _ => fP a
 | .group a _ => fP a
 | _ => true
def encR : List Pt -> List Nd
 | [] => []
 | t :: st => encR st ++ t.enc (szA st)
def fD : List Pt -> List Int
 | [] => []
 | t :: st => fD st ++ [t.top (szA st)]
theorem xO : ∀ st : List Pt, (encR st).length = szA st
 | [] => rfl
 | t :: st => by simp only [encR, szA, List.length_append, xO st, Pt.aZ]; omega
theorem lZ : ∀ st : List Pt, (fD st).length = st.length
 | [] => rfl
 | t :: st => by simp only [fD, List.length_append, lZ st, List.length_cons, List.length_nil]
def iy (len : Nat) (st : List Pt) (v : NV) : Option (List Pt) :=
 match v with
 | .empty => if len > 1 then none else some (.empty :: st)
 | .bytes p => some (.bytes p :: st)
 | .bol => some (.bol :: st)
 | .eol => some (.eol :: st)
 | .ref m => some (.ref m :: st)
 | .cat x y => match st with
  | b :: a :: st' => if a.top (szA st') = x ∧ b.top (szA st' + a.sz) = y ∧ a.kind ≠ 4 ∧ a.kind ≠ 5 ∧ b.kind ≠ 5 then some (.cat a b :: st') else none
  | _ => none
 | .alt x y => match st with
  | b :: a :: st' => if a.top (szA st') = x ∧ b.top (szA st' + a.sz) = y ∧ a.kind ≠ 5 then some (.alt a b :: st') else none
  | _ => none
 | .times x lo hi => match st with
  | a :: st' => if a.top (szA st') = x ∧ (a.kind = 1 ∨ a.kind = 7 ∨ a.kind = 8) then some (.times a lo hi :: st') else none
  | _ => none
 | .group x m => match st with
  | a :: st' => if a.top (szA st') = x then some (.group a m :: st') else none
  | _ => none
theorem xP (st : List Pt) (a : Pt) : szA (a :: st) = szA st + a.sz := by simp only [szA]; omega
theorem Cn {len : Nat} {st st2 : List Pt} {v : NV} (h : iy len st v = some st2) : encR st2 = encR st ++ [v.node] := by
 unfold iy at h
 cases v <;> simp only at h
 case empty => split at h <;> simp at h; subst h; rfl
 case bytes p => simp at h; subst h; rfl
 case bol => simp at h; subst h; rfl
 case eol => simp at h; subst h; rfl
 case ref m => simp at h; subst h; rfl
 case cat x y =>
  match st, h with
  | [], h => simp at h
  | [_], h => simp at h
  | b :: a :: st', h =>
   simp only at h
   split at h <;> simp at h
   rename_i hc
   subst h
   simp only [encR, Pt.enc, xP, List.append_assoc, NV.node, hc.1, hc.2.1]
 case alt x y =>
  match st, h with
  | [], h => simp at h
  | [_], h => simp at h
  | b :: a :: st', h =>
   simp only at h
   split at h <;> simp at h
   rename_i hc
   subst h
   simp only [encR, Pt.enc, xP, List.append_assoc, NV.node, hc.1, hc.2.1]
 case times x lo hi =>
  match st, h with
  | [], h => simp at h
  | a :: st', h =>
   simp only at h
   split at h <;> simp at h
   rename_i hc
   subst h
   simp only [encR, Pt.enc, List.append_assoc, NV.node, hc.1]
 case group x m =>
  match st, h with
  | [], h => simp at h
  | a :: st', h =>
   simp only at h
   split at h <;> simp at h
   rename_i hc
   subst h
   simp only [encR, Pt.enc, List.append_assoc, NV.node, hc]
def wM (len : Nat) (t : Pt) : Prop := bD t = true ∧ dw t = true ∧ (len > 1 -> fP t = true)
theorem ZH {len : Nat} {st st2 : List Pt} {v : NV} (hv : v.ok = true) (hst : ∀ t ∈ st, wM len t) (h : iy len st v = some st2) : ∀ t ∈ st2, wM len t := by
 unfold iy at h
 cases v <;> simp only at h
 case empty =>
  split at h <;> simp at h; subst h
  rename_i hl
  intro t ht
  rcases List.mem_cons.1 ht with rfl | ht
  ·exact ⟨rfl, rfl, fun h => absurd h hl⟩
  ·exact hst t ht
 case bytes p => simp at h; subst h; intro t ht; rcases List.mem_cons.1 ht with rfl | ht; exact ⟨hv, rfl, fun _ => rfl⟩; exact hst t ht
 case bol => simp at h; subst h; intro t ht; rcases List.mem_cons.1 ht with rfl | ht; exact ⟨rfl, rfl, fun _ => rfl⟩; exact hst t ht
 case eol => simp at h; subst h; intro t ht; rcases List.mem_cons.1 ht with rfl | ht; exact ⟨rfl, rfl, fun _ => rfl⟩; exact hst t ht
 case ref m => simp at h; subst h; intro t ht; rcases List.mem_cons.1 ht with rfl | ht; exact ⟨hv, rfl, fun _ => rfl⟩; exact hst t ht
 case cat x y =>
  match st, h with
  | [], h => simp at h
  | [_], h => simp at h
  | b :: a :: st', h =>
   simp only at h
   split at h <;> simp at h
   rename_i hc
   subst h
   intro t ht
   have ha := hst a (by simp)
   have hb := hst b (by simp)
   rcases List.mem_cons.1 ht with rfl | ht
   ·exact ⟨by simp [bD, ha.1, hb.1], by simp [dw, ha.2.1, hb.2.1, hc.2.2.1, hc.2.2.2.1, hc.2.2.2.2], fun hl => by simp [fP, ha.2.2 hl, hb.2.2 hl]⟩
   ·exact hst t (by simp [ht])
 case alt x y =>
  match st, h with
  | [], h => simp at h
  | [_], h => simp at h
  | b :: a :: st', h =>
   simp only at h
   split at h <;> simp at h
   rename_i hc
   subst h
   intro t ht
   have ha := hst a (by simp)
   have hb := hst b (by simp)
   rcases List.mem_cons.1 ht with rfl | ht
   ·exact ⟨by simp [bD, ha.1, hb.1], by simp [dw, ha.2.1, hb.2.1, hc.2.2], fun hl => by simp [fP, ha.2.2 hl, hb.2.2 hl]⟩
   ·exact hst t (by simp [ht])
 case times x lo hi =>
  match st, h with
  | [], h => simp at h
  | a :: st', h =>
   simp only at h
   split at h <;> simp at h
   rename_i hc
   subst h
   intro t ht
   have ha := hst a (by simp)
   rcases List.mem_cons.1 ht with rfl | ht
   ·refine ⟨by simp only [bD, ha.1, Bool.true_and]; exact hv, ?_, fun hl => by simp [fP, ha.2.2 hl]⟩
    simp only [dw, ha.2.1, Bool.true_and, Bool.or_eq_true, decide_eq_true_eq]
    rcases hc.2 with h | h | h
    ·exact Or.inl (Or.inl h)
    ·exact Or.inl (Or.inr h)
    ·exact Or.inr h
   ·exact hst t (by simp [ht])
 case group x m =>
  match st, h with
  | [], h => simp at h
  | a :: st', h =>
   simp only at h
   split at h <;> simp at h
   rename_i hc
   subst h
   intro t ht
   have ha := hst a (by simp)
   rcases List.mem_cons.1 ht with rfl | ht
   ·exact ⟨by simp only [bD, ha.1, Bool.true_and]; exact hv, by simp [dw, ha.2.1], fun hl => by simp [fP, ha.2.2 hl]⟩
   ·exact hst t (by simp [ht])
def mF (len : Nat) : List NV -> List Pt -> Option (List Pt)
 | [], st => some st
 | v :: vs, st => match iy len st v with
  | none => none
  | some st2 => mF len vs st2
theorem rT (len : Nat) : ∀ (a b : List NV) (st : List Pt), mF len (a ++ b) st = (mF len a st).bind (mF len b)
 | [], b, st => rfl
 | v :: a, b, st => by
  simp only [List.cons_append, mF]
  cases iy len st v with
  | none => rfl
  | some st2 => exact rT len a b st2
def Pt.nvs (o : Nat) : Pt -> List NV
 | .cat a b => a.nvs o ++ b.nvs (o + a.sz) ++ [.cat (a.top o) (b.top (o + a.sz))]
 | .alt a b => a.nvs o ++ b.nvs (o + a.sz) ++ [.alt (a.top o) (b.top (o + a.sz))]
 | .times a lo hi => a.nvs o ++ [.times (a.top o) lo hi]
 | .group a m => a.nvs o ++ [.group (a.top o) m]
 | .empty => [.empty]
 | .bytes p => [.bytes p]
 | .bol => [.bol]
 | .eol => [.eol]
 | .ref m => [.ref m]
theorem sZ : ∀ (t : Pt) (o : Nat), (t.nvs o).map NV.node = t.enc o
 | .cat a b, o => by simp [Pt.nvs, Pt.enc, sZ a, sZ b, NV.node]
 | .alt a b, o => by simp [Pt.nvs, Pt.enc, sZ a, sZ b, NV.node]
 | .times a _ _, o => by simp [Pt.nvs, Pt.enc, sZ a, NV.node]
 | .group a _, o => by simp [Pt.nvs, Pt.enc, sZ a, NV.node]
 | .empty, _ | .bytes _, _ | .bol, _ | .eol, _ | .ref _, _ => rfl
theorem yU : ∀ (t : Pt) (o : Nat), bD t = true -> ∀ v ∈ t.nvs o, v.ok = true
 | .cat a b, o, h, v, hv => by
  simp only [bD, Bool.and_eq_true] at h
  simp only [Pt.nvs, List.mem_append, List.mem_singleton] at hv
  rcases hv with (hv | hv) | rfl
  ·exact yU a o h.1 v hv
  ·exact yU b _ h.2 v hv
  ·rfl
 | .alt a b, o, h, v, hv => by
  simp only [bD, Bool.and_eq_true] at h
  simp only [Pt.nvs, List.mem_append, List.mem_singleton] at hv
  rcases hv with (hv | hv) | rfl
  ·exact yU a o h.1 v hv
  ·exact yU b _ h.2 v hv
  ·rfl
 | .times a lo hi, o, h, v, hv => by
  simp only [bD, Bool.and_eq_true] at h
  simp only [Pt.nvs, List.mem_append, List.mem_singleton] at hv
  rcases hv with hv | rfl
  ·exact yU a o h.1 v hv
  ·exact h.2
 | .group a m, o, h, v, hv => by
  simp only [bD, Bool.and_eq_true] at h
  simp only [Pt.nvs, List.mem_append, List.mem_singleton] at hv
  rcases hv with hv | rfl
  ·exact yU a o h.1 v hv
  ·simp only [NV.ok, Bool.and_eq_true]; exact h.2
 | .empty, _, h, v, hv => by simp only [Pt.nvs, List.mem_singleton] at hv; subst hv; rfl
 | .bytes _, _, h, v, hv => by simp only [Pt.nvs, List.mem_singleton] at hv; subst hv; exact h
 | .bol, _, h, v, hv => by simp only [Pt.nvs, List.mem_singleton] at hv; subst hv; rfl
 | .eol, _, h, v, hv => by simp only [Pt.nvs, List.mem_singleton] at hv; subst hv; rfl
 | .ref _, _, h, v, hv => by simp only [Pt.nvs, List.mem_singleton] at hv; subst hv; exact h
theorem p9 (len : Nat) : ∀ (t : Pt) (st : List Pt), dw t = true -> (len > 1 -> fP t = true) -> mF len (t.nvs (szA st)) st = some (t :: st)
 | .cat a b, st, h, hn => by
  simp only [dw, Bool.and_eq_true, decide_eq_true_eq] at h
  simp only [fP, Bool.and_eq_true] at hn
  have ha := p9 len a st h.1.1 (fun hl => (hn hl).1)
  have hb := p9 len b (a :: st) h.1.2 (fun hl => (hn hl).2)
  rw [xP] at hb
  simp only [Pt.nvs]
  rw [rT, rT, ha]
  simp only [Option.bind_some]
  rw [hb]
  simp only [Option.bind_some, mF, iy]
  rw [if_pos (by refine ⟨?_, ?_, h.2.1.1, h.2.1.2, h.2.2⟩ <;> first | trivial | rfl)]
 | .alt a b, st, h, hn => by
  simp only [dw, Bool.and_eq_true, decide_eq_true_eq] at h
  simp only [fP, Bool.and_eq_true] at hn
  have ha := p9 len a st h.1.1 (fun hl => (hn hl).1)
  have hb := p9 len b (a :: st) h.1.2 (fun hl => (hn hl).2)
  rw [xP] at hb
  simp only [Pt.nvs]
  rw [rT, rT, ha]
  simp only [Option.bind_some]
  rw [hb]
  simp only [Option.bind_some, mF, iy]
  rw [if_pos (by refine ⟨?_, ?_, h.2⟩ <;> first | trivial | rfl)]
 | .times a lo hi, st, h, hn => by
  simp only [dw, Bool.and_eq_true, Bool.or_eq_true, decide_eq_true_eq] at h
  simp only [fP] at hn
  have ha := p9 len a st h.1 hn
  simp only [Pt.nvs]
  rw [rT, ha]
  simp only [Option.bind_some, mF, iy]
  rw [if_pos (by refine ⟨?_, by rcases h.2 with (h | h) | h; exact Or.inl h; exact Or.inr (Or.inl h); exact Or.inr (Or.inr h)⟩; first | trivial | rfl)]
 | .group a m, st, h, hn => by
  simp only [dw] at h
  simp only [fP] at hn
  have ha := p9 len a st h hn
  simp only [Pt.nvs]
  rw [rT, ha]
  simp only [Option.bind_some, mF, iy]
  rw [if_pos (by first | trivial | rfl)]
 | .empty, st, h, hn => by
  simp only [Pt.nvs, mF, iy]
  rw [if_neg (fun hl => by simp [fP] at hn; omega)]
 | .bytes _, st, _, _ => rfl
 | .bol, st, _, _ => rfl
 | .eol, st, _, _ => rfl
 | .ref _, st, _, _ => rfl
end Go.Dec
namespace Go.Dec
theorem zcN {n : Nat} (hn : 5 <= n) {k : Int} (hk : 0 <= k) (hk8 : k <= 8) : mh n ([1, 7, 8], k) = some (decide (k = 1) || decide (k = 7) || decide (k = 8)) := by
 obtain ⟨n, rfl⟩ : ∃ m, n = m + 5 := ⟨n - 5, by omega⟩
 have hcase : k = 0 ∨ k = 1 ∨ k = 2 ∨ k = 3 ∨ k = 4 ∨ k = 5 ∨ k = 6 ∨ k = 7 ∨ k = 8 := by omega
 rcases hcase with rfl | rfl | rfl | rfl | rfl | rfl | rfl | rfl | rfl <;> rfl
theorem SL (t : Pt) : 0 <= t.kind ∧ t.kind <= 8 := by cases t <;> simp [Pt.kind]
section
variable {n : Nat} {l : List Nd} {st : List Pt}
theorem X0 {i : Nat} {a b : Pt} (h : encR (b :: a :: st) = l.take i) : At l (szA st) a ∧ At l (szA st + a.sz) b := by
 have hl : l = encR (b :: a :: st) ++ l.drop i := by rw [h, List.take_append_drop]
 simp only [encR] at hl
 refine ⟨⟨encR st, b.enc (szA st + a.sz) ++ l.drop i, ?_, xO st⟩, ⟨encR st ++ a.enc (szA st), l.drop i, ?_, by rw [List.length_append, xO, Pt.aZ]⟩⟩
 ·rw [xP] at hl; rw [List.append_assoc] at hl ⊢; rw [List.append_assoc] at hl; exact hl
 ·rw [xP] at hl; exact hl
theorem at_one {i : Nat} {a : Pt} (h : encR (a :: st) = l.take i) : At l (szA st) a := by
 have hl : l = encR (a :: st) ++ l.drop i := by rw [h, List.take_append_drop]
 exact ⟨encR st, l.drop i, hl, xO st⟩
theorem vL {v : NV} (h : v.node.1 ≠ 4) (h2 : v.node.1 ≠ 5) (h3 : v.node.1 ≠ 6) : jk n (l, v.node) = some true := by
 unfold jk
 simp only
 rw [aj (by simpa using h), aj (by simpa using h2), aj (by simpa using h3)]
theorem ZI {oa ob' : Nat} {a b : Pt} (ha : At l oa a) (hb : At l ob' b) : jk n (l, (NV.cat (a.top oa) (b.top ob')).node) = some (decide (a.kind ≠ 4 ∧ a.kind ≠ 5 ∧ b.kind ≠ 5)) := by
 unfold jk
 simp only [NV.node]
 rw [au (by rfl), ah ha.top.1, ha.top.2, Pt.sW, ah ha.top.1, ah hb.top.1, hb.top.2, Pt.sW]
 by_cases h1 : a.kind = 4
 ·rw [aj (by simp [h1]), decide_eq_false (by intro h; exact h.1 h1)]
 ·rw [au (by simpa using h1)]
  by_cases h2 : a.kind = 5
  ·rw [aj (by simp [h2]), decide_eq_false (by intro h; exact h.2.1 h2)]
  ·rw [au (by simpa using h2)]
   congr 1
   rw [Bool.eq_iff_iff]; simp [h1, h2]
theorem ZJ {oa : Nat} {y : Int} {a : Pt} (ha : At l oa a) : jk n (l, (NV.alt (a.top oa) y).node) = some (decide (a.kind ≠ 5)) := by
 unfold jk
 simp only [NV.node]
 rw [aj (by rfl), au (by rfl), ah ha.top.1, ha.top.2, Pt.sW]
 congr 1
 rw [Bool.eq_iff_iff]; simp
theorem WJ {oa : Nat} {lo hi : Int} {a : Pt} (hn : 5 <= n) (ha : At l oa a) : jk n (l, (NV.times (a.top oa) lo hi).node) = some (decide (a.kind = 1) || decide (a.kind = 7) || decide (a.kind = 8)) := by
 unfold jk
 simp only [NV.node]
 rw [aj (by rfl), aj (by rfl), au (by rfl), ah ha.top.1, ha.top.2, Pt.sW, zcN hn (SL a).1 (SL a).2]
 rfl
def NV.parts : NV -> Nat
 | .cat _ _ | .alt _ _ => 2
 | .times _ _ _ | .group _ _ => 1
 | _ => 0
theorem parts_eq (v : NV) : gQ n v.node = some (v.parts : Int) := by cases v <;> rfl
theorem Oo (a : Pt) : (fD (a :: st)).take st.length = fD st := by
 simp only [fD]; rw [List.take_append_of_le_length (by rw [lZ]; omega), List.take_of_length_le (by rw [lZ]; omega)]
theorem SN (a b : Pt) : (fD (b :: a :: st)).take st.length = fD st := by
 rw [fD, List.take_append_of_le_length (by rw [lZ]; simp), Oo]
theorem Oq (a : Pt) : (fD (a :: st)).getD (0 + st.length + 0) 0 = a.top (szA st) := by
 rw [fD, List.getD_eq_getElem?_getD, List.getElem?_append_right (by rw [lZ]; omega), lZ]; simp
theorem SQ (a b : Pt) : (fD (b :: a :: st)).getD (0 + st.length + 0) 0 = a.top (szA st) := by
 rw [fD, List.getD_eq_getElem?_getD, List.getElem?_append_left (by rw [lZ]; simp), <- List.getD_eq_getElem?_getD, Oq]
theorem SS (a b : Pt) : (fD (b :: a :: st)).getD (0 + st.length + 1) 0 = b.top (szA st + a.sz) := by
 rw [fD, List.getD_eq_getElem?_getD, List.getElem?_append_right (by rw [lZ]; simp), lZ, xP]; simp
theorem SV {g : List Nd × List Nd × Int × Int × List Int × Unit -> Option Bool} {i : Nat} {v : NV} (hn : 5 <= n) (hl : l.length < 1000000) (hi : i < l.length) (hv : l[i]? = some v.node) (hok : v.ok = true) (hw : BA v.node) (hst : st.length <= i) (hsz : szA st = i) (he : encR st = l.take i) :
  fO n g (l, l, (l.length : Int), (i : Int), fD st, ()) = match iy l.length st v with
   | none => some false
   | some st2 => g (l, l, (l.length : Int), ((i + 1 : Nat) : Int), fD st2, ()) := by
 unfold fO
 simp only
 have hget : ∀ d, aG d l (i : Int) = v.node := by
  intro d
  rw [eT hi]
  rw [List.getElem?_eq_getElem hi] at hv
  exact Option.some.inj hv
 rw [au (by simp; omega), ah (dM hi), hget, parts_eq]
 simp only [aA]
 have hone : nX n v.node = some true := by
  rcases SK (n := n) hw with ⟨h, _⟩ | ⟨_, h⟩
  ·exact h
  ·have := h v rfl; rw [hok] at this; exact absurd this (by simp)
 rw [hone]
 simp only [aA, Bool.not_true, aM]
 have hi1 : IntKind.wrap .i64 ((i : Int) + 1) = ((i + 1 : Nat) : Int) := by rw [aK (by omega) (by omega)]; rfl
 have hlen := lZ st
 have hfin : ∀ (v0 : NV) (k : Nat) (st2 : List Pt), k <= st.length -> fD st2 = (fD st).take k ++ [(i : Int)] ->
   chk ((decide ((0 : Int) <= (k : Int)) && decide ((k : Int) <= (st.length : Int)))) (
     chk ((Nat.ble ((k : Int).toNat) st.length && Nat.ble ((((k : Int).toNat) + ([(i : Int)] : List Int).length) * 8) room)) (
      g (l, l, (l.length : Int), IntKind.wrap .i64 ((i : Int) + 1), (fD st).take ((k : Int).toNat) ++ [(i : Int)], ()))) = g (l, l, (l.length : Int), ((i + 1 : Nat) : Int), fD st2, ()) := by
  intro v0 k st2 hk h2
  rw [ah (by simp; omega), ah (by simp [room]; omega), hi1, Int.toNat_natCast, h2]
 have hd : Ty.dflt (.int .i64) = (0 : Int) := rfl
 have hK : ∀ (p : Nat), p <= st.length -> IntKind.wrap .i64 (((st.length : Nat) : Int) - (p : Int)) = ((st.length - p : Nat) : Int) := by
  intro p hp; rw [aK (by omega) (by omega)]; omega
 have htop : ∀ t : Pt, t.sz = 1 -> fD (t :: st) = (fD st).take st.length ++ [(i : Int)] := by
  intro t ht
  rw [List.take_of_length_le (by omega)]
  simp only [fD, Pt.top, ht, hsz]; congr 2; omega
 rw [hlen]
 have hcut : ∀ (p : Nat), p <= st.length -> ((st.length - ((st.length - p : Nat) : Int).toNat : Nat) : Int) = (p : Int) := by
  intro p hp; rw [Int.toNat_natCast]; omega
 cases v with
 | empty =>
  rw [show (NV.empty).parts = 0 from rfl, hK 0 (by omega), aj (by simp), au (by rfl)]
  by_cases h1 : l.length > 1
  ·rw [au (by simp; omega)]; simp only [iy]; rw [if_pos h1]
  ·rw [aj (by simp; omega), ah (by simp), hcut 0 (by omega), aj (by simp), vL (by simp [NV.node]) (by simp [NV.node]) (by simp [NV.node])]
   simp only [aA, Bool.not_true, aM, iy]
   rw [if_neg h1]
   exact hfin .empty _ _ (by omega) (htop .empty rfl)
 | bytes p =>
  rw [show (NV.bytes p).parts = 0 from rfl, hK 0 (by omega), aj (by simp), aj (by rfl), ah (by simp), hcut 0 (by omega), aj (by simp), vL (by simp [NV.node]) (by simp [NV.node]) (by simp [NV.node])]
  simp only [aA, Bool.not_true, aM, iy]
  exact hfin .empty _ _ (by omega) (htop (.bytes p) rfl)
 | bol =>
  rw [show (NV.bol).parts = 0 from rfl, hK 0 (by omega), aj (by simp), aj (by rfl), ah (by simp), hcut 0 (by omega), aj (by simp), vL (by simp [NV.node]) (by simp [NV.node]) (by simp [NV.node])]
  simp only [aA, Bool.not_true, aM, iy]
  exact hfin .empty _ _ (by omega) (htop .bol rfl)
 | eol =>
  rw [show (NV.eol).parts = 0 from rfl, hK 0 (by omega), aj (by simp), aj (by rfl), ah (by simp), hcut 0 (by omega), aj (by simp), vL (by simp [NV.node]) (by simp [NV.node]) (by simp [NV.node])]
  simp only [aA, Bool.not_true, aM, iy]
  exact hfin .empty _ _ (by omega) (htop .eol rfl)
 | ref m =>
  rw [show (NV.ref m).parts = 0 from rfl, hK 0 (by omega), aj (by simp), aj (by rfl), ah (by simp), hcut 0 (by omega), aj (by simp), vL (by simp [NV.node]) (by simp [NV.node]) (by simp [NV.node])]
  simp only [aA, Bool.not_true, aM, iy]
  exact hfin .empty _ _ (by omega) (htop (.ref m) rfl)
 | times x lo hi =>
  cases st with
  | nil => rfl
  | cons a st =>
   have ha : At l (szA st) a := at_one he
   rw [show (NV.times x lo hi).parts = 1 from rfl, hK 1 (by simp), aj (by simp), aj (by rfl), ah (by simp; omega), hcut 1 (by simp), au (by rfl)]
   simp only [List.length_cons, Nat.add_sub_cancel, Int.toNat_natCast]
   rw [ah (by simp [inB]), ah (by simp), hd, show (0 : Int).toNat = 0 from rfl, Oq]
   simp only [iy, NV.node]
   by_cases hx : a.top (szA st) = x
   ·subst hx
    rw [aj (by simp), aj (by rfl)]
    have hf := WJ (n := n) (lo := lo) (hi := hi) hn ha
    simp only [NV.node] at hf
    rw [hf]
    simp only [aA]
    have hlt := a.bT
    by_cases hk : a.kind = 1 ∨ a.kind = 7 ∨ a.kind = 8
    ·rw [if_pos ⟨trivial, hk⟩, aj (by rcases hk with h | h | h <;> simp [h])]
     have e : fD (.times a lo hi :: st) = (fD (a :: st)).take st.length ++ [(i : Int)] := by
      rw [Oo]; simp only [fD, Pt.top, Pt.sz]; rw [xP] at hsz; congr 2; omega
     have := hfin .empty st.length (.times a lo hi :: st) (by simp) e
     simpa using this
    ·rw [if_neg (fun h => hk h.2), au (by simp only [not_or] at hk; simp [hk.1, hk.2.1, hk.2.2])]
   ·rw [if_neg (fun h => hx h.1), au (by simpa using hx)]
 | group x m =>
  cases st with
  | nil => rfl
  | cons a st =>
   have ha : At l (szA st) a := at_one he
   rw [show (NV.group x m).parts = 1 from rfl, hK 1 (by simp), aj (by simp), aj (by rfl), ah (by simp; omega), hcut 1 (by simp), au (by rfl)]
   simp only [List.length_cons, Nat.add_sub_cancel, Int.toNat_natCast]
   rw [ah (by simp [inB]), ah (by simp), hd, show (0 : Int).toNat = 0 from rfl, Oq]
   simp only [iy, NV.node]
   by_cases hx : a.top (szA st) = x
   ·subst hx
    rw [aj (by simp), aj (by rfl)]
    have hf := vL (n := n) (l := l) (v := .group (a.top (szA st)) m) (by simp [NV.node]) (by simp [NV.node]) (by simp [NV.node])
    simp only [NV.node] at hf
    rw [hf]
    simp only [aA]
    have hlt := a.bT
    rw [if_pos trivial, aj (by rfl)]
    have e : fD (.group a m :: st) = (fD (a :: st)).take st.length ++ [(i : Int)] := by
     rw [Oo]; simp only [fD, Pt.top, Pt.sz]; rw [xP] at hsz; congr 2; omega
    have := hfin .empty st.length (.group a m :: st) (by simp) e
    simpa using this
   ·rw [if_neg hx, au (by simpa using hx)]
 | cat x y =>
  match st, hlen, hsz, he, hst, hK, hcut, hfin with
  | [], _, _, _, _, _, _, _ => rfl
  | [_], _, _, _, _, _, _, _ => rfl
  | b :: a :: st, hlen, hsz, he, hst, hK, hcut, hfin =>
   obtain ⟨ha, hb⟩ := X0 he
   rw [show (NV.cat x y).parts = 2 from rfl, hK 2 (by simp), aj (by simp), aj (by rfl), ah (by simp; omega), hcut 2 (by simp), au (by rfl)]
   simp only [List.length_cons, Nat.add_sub_cancel, Int.toNat_natCast, show ∀ k, k + 1 + 1 - 2 = k from fun k => rfl]
   rw [ah (by simp [inB]; omega), ah (by simp; omega), hd, show (0 : Int).toNat = 0 from rfl, show (1 : Int).toNat = 1 from rfl, SQ, SS]
   simp only [iy, NV.node]
   by_cases hx : a.top (szA st) = x
   ·subst hx
    rw [aj (by simp), au (by rfl), ah (by simp [inB]; omega), ah (by simp)]
    by_cases hy : b.top (szA st + a.sz) = y
    ·subst hy
     rw [aj (by simp)]
     have hf := ZI (n := n) ha hb
     simp only [NV.node] at hf
     rw [hf]
     simp only [aA]
     have hlt := a.bT
     by_cases hk : a.kind ≠ 4 ∧ a.kind ≠ 5 ∧ b.kind ≠ 5
     ·rw [if_pos ⟨trivial, trivial, hk⟩, decide_eq_true hk, aj (by rfl)]
      have e : fD (.cat a b :: st) = (fD (b :: a :: st)).take st.length ++ [(i : Int)] := by
       rw [SN]; simp only [fD, Pt.top, Pt.sz]; rw [xP, xP] at hsz; congr 2; omega
      have := hfin .empty st.length (.cat a b :: st) (by simp; omega) e
      simpa using this
     ·rw [if_neg (fun h => hk h.2.2), decide_eq_false hk, au (by rfl)]
    ·rw [if_neg (fun h => hy h.2.1), au (by simpa using hy)]
   ·rw [if_neg (fun h => hx h.1), au (by simpa using hx)]
 | alt x y =>
  match st, hlen, hsz, he, hst, hK, hcut, hfin with
  | [], _, _, _, _, _, _, _ => rfl
  | [_], _, _, _, _, _, _, _ => rfl
  | b :: a :: st, hlen, hsz, he, hst, hK, hcut, hfin =>
   obtain ⟨ha, hb⟩ := X0 he
   rw [show (NV.alt x y).parts = 2 from rfl, hK 2 (by simp), aj (by simp), aj (by rfl), ah (by simp; omega), hcut 2 (by simp), au (by rfl)]
   simp only [List.length_cons, Nat.add_sub_cancel, Int.toNat_natCast, show ∀ k, k + 1 + 1 - 2 = k from fun k => rfl]
   rw [ah (by simp [inB]; omega), ah (by simp; omega), hd, show (0 : Int).toNat = 0 from rfl, show (1 : Int).toNat = 1 from rfl, SQ, SS]
   simp only [iy, NV.node]
   by_cases hx : a.top (szA st) = x
   ·subst hx
    rw [aj (by simp), au (by rfl), ah (by simp [inB]; omega), ah (by simp)]
    by_cases hy : b.top (szA st + a.sz) = y
    ·subst hy
     rw [aj (by simp)]
     have hf := ZJ (n := n) (y := b.top (szA st + a.sz)) ha
     simp only [NV.node] at hf
     rw [hf]
     simp only [aA]
     have hlt := a.bT
     by_cases hk : a.kind ≠ 5
     ·rw [if_pos ⟨trivial, trivial, hk⟩, decide_eq_true hk, aj (by rfl)]
      have e : fD (.alt a b :: st) = (fD (b :: a :: st)).take st.length ++ [(i : Int)] := by
       rw [SN]; simp only [fD, Pt.top, Pt.sz]; rw [xP, xP] at hsz; congr 2; omega
      have := hfin .empty st.length (.alt a b :: st) (by simp; omega) e
      simpa using this
     ·rw [if_neg (fun h => hk h.2.2), decide_eq_false hk, au (by rfl)]
    ·rw [if_neg (fun h => hy h.2.1), au (by simpa using hy)]
   ·rw [if_neg (fun h => hx h.1), au (by simpa using hx)]
end
end Go.Dec
namespace Go.Dec
theorem SX : ∀ st : List Pt, st.length <= szA st
 | [] => Nat.le_refl _
 | t :: st => by have := SX st; have := t.bT; simp only [List.length_cons, szA]; omega
theorem SY {len : Nat} {st st2 : List Pt} {v : NV} (h : iy len st v = some st2) : szA st2 = szA st + 1 := by
 have := congrArg List.length (Cn h)
 rw [List.length_append, xO, xO] at this
 simpa using this
section
variable {n : Nat} {l : List Nd}
theorem Cq {i : Nat} {x : Nd} (h : l[i]? = some x) : l.take (i + 1) = l.take i ++ [x] := by
 rw [List.take_add_one, h]; rfl
theorem U3 (hn : 5 <= n) (hl : l.length < 1000000) (hw : ∀ nd ∈ l, BA nd) : ∀ (vs : List NV) (i : Nat) (st : List Pt) (m : Nat), vs.map NV.node = l.drop i -> (∀ v ∈ vs, v.ok = true) -> i <= l.length -> szA st = i -> encR st = l.take i -> vs.length < m ->
  fix (fO n) m (l, l, (l.length : Int), (i : Int), fD st, ()) = match mF l.length vs st with
   | none => some false
   | some st2 => some (decide (st2.length = 1)) := by
 intro vs
 induction vs with
 | nil =>
  intro i st m hvs _ hi hsz he hm
  have hi2 : i = l.length := by
   have := congrArg List.length hvs
   rw [List.length_drop] at this; simp at this; omega
  rw [aX hm, fO]
  simp only
  rw [aj (by simp; omega), lZ]
  simp only [mF]
  congr 1
  rw [Bool.eq_iff_iff]; simp; omega
 | cons v vs ih =>
  intro i st m hvs hok hi hsz he hm
  have hil : i < l.length := by
   have := congrArg List.length hvs
   rw [List.length_drop] at this; simp at this; omega
  have hv : l[i]? = some v.node := by
   have : (l.drop i)[0]? = some v.node := by rw [<- hvs]; rfl
   rw [List.getElem?_drop] at this; simpa using this
  have zep : vs.map NV.node = l.drop (i + 1) := by
   have : (l.drop i).drop 1 = vs.map NV.node := by rw [<- hvs]; rfl
   rw [List.drop_drop] at this; exact this.symm
  have hst := SX st
  rw [aX (by omega), SV hn hl hil hv (hok v (by simp)) (hw _ (List.mem_of_getElem? hv)) (by omega) hsz he]
  simp only [mF]
  cases hs : iy l.length st v with
  | none => rfl
  | some st2 =>
   simp only
   exact ih (i + 1) st2 (m - 1) zep (fun v hv => hok v (by simp [hv])) (by omega) (by rw [SY hs]; omega) (by rw [Cn hs, he, Cq hv]) (by simp only [List.length_cons] at hm; omega)
theorem zbf (hn : 5 <= n) (hl : l.length < 1000000) (hw : ∀ nd ∈ l, BA nd) {j : Nat} {x : Nd} (hj : l[j]? = some x) (hx : ∀ v : NV, x = v.node -> v.ok = false) : ∀ (k i : Nat) (st : List Pt) (m : Nat), i + k = j -> szA st = i -> encR st = l.take i -> k < m ->
  fix (fO n) m (l, l, (l.length : Int), (i : Int), fD st, ()) = some false := by
 have hjl : j < l.length := (List.getElem?_eq_some_iff.1 hj).1
 intro k
 induction k with
 | zero =>
  intro i st m hi hsz he hm
  have hi : i = j := by omega
  subst hi
  rw [aX hm, fO]
  simp only
  have hget : ∀ d, aG d l (i : Int) = x := by
   intro d
   rw [eT hjl]
   rw [List.getElem?_eq_getElem hjl] at hj
   exact Option.some.inj hj
  rw [au (by simp; omega), ah (dM hjl), hget]
  have hone : nX n x = some false := by
   rcases SK (n := n) (hw x (List.mem_of_getElem? hj)) with ⟨_, v, h1, h2⟩ | ⟨h, _⟩
   ·rw [hx v h1] at h2; exact absurd h2 (by simp)
   ·exact h
  rw [hone]
  have hp : ∃ p, gQ n x = some p := by
   unfold gQ
   simp only
   cases (x.1 == 4) <;> cases (x.1 == 5) <;> cases (x.1 == 6) <;> cases (x.1 == 7) <;> exact ⟨_, rfl⟩
  obtain ⟨p, hp⟩ := hp
  rw [hp]; rfl
 | succ k ih =>
  intro i st m hi hsz he hm
  have hil : i < l.length := by omega
  have hli : l[i]? = some l[i] := List.getElem?_eq_getElem hil
  have hst := SX st
  rcases SK (n := n) (hw _ (List.mem_of_getElem? hli)) with ⟨_, v, h1, h2⟩ | ⟨h, _⟩
  ·rw [h1] at hli
   rw [aX (by omega), SV hn hl hil hli h2 (hw _ (List.mem_of_getElem? hli)) (by omega) hsz he]
   cases hs : iy l.length st v with
   | none => rfl
   | some st2 =>
    simp only
    exact ih (i + 1) st2 (m - 1) (by omega) (by rw [SY hs]; omega) (by rw [Cn hs, he, Cq hli]) (by omega)
  ·rw [aX (by omega), fO]
   simp only
   have hget : ∀ d, aG d l (i : Int) = l[i] := fun d => eT hil
   rw [au (by simp; omega), ah (dM hil), hget, h]
   have hp : ∃ p, gQ n l[i] = some p := by
    unfold gQ
    simp only
    cases (l[i].1 == 4) <;> cases (l[i].1 == 5) <;> cases (l[i].1 == 6) <;> cases (l[i].1 == 7) <;> exact ⟨_, rfl⟩
   obtain ⟨p, hp⟩ := hp
   rw [hp]; rfl
theorem Ph {len : Nat} : ∀ (vs : List NV) (st st2 : List Pt), (∀ v ∈ vs, v.ok = true) -> (∀ t ∈ st, wM len t) -> mF len vs st = some st2 -> encR st2 = encR st ++ vs.map NV.node ∧ ∀ t ∈ st2, wM len t
 | [], st, st2, _, hst, h => by simp only [mF, Option.some.injEq] at h; subst h; exact ⟨by simp, hst⟩
 | v :: vs, st, st2, hv, hst, h => by
  simp only [mF] at h
  cases hs : iy len st v with
  | none => rw [hs] at h; simp at h
  | some st3 =>
   rw [hs] at h
   have := Ph vs st3 st2 (fun v h => hv v (by simp [h])) (ZH (hv v (by simp)) hst hs) h
   exact ⟨by rw [this.1, Cn hs, List.append_assoc]; rfl, this.2⟩
theorem ER : ∀ l : List Nd, (∃ vs : List NV, vs.map NV.node = l ∧ ∀ v ∈ vs, v.ok = true) ∨ (∃ (j : Nat) (x : Nd), l[j]? = some x ∧ ∀ v : NV, x = v.node -> v.ok = false)
 | [] => Or.inl ⟨[], rfl, by simp⟩
 | x :: l => by
  by_cases hx : ∃ v : NV, x = v.node ∧ v.ok = true
  ·obtain ⟨v, h1, h2⟩ := hx
   rcases ER l with ⟨vs, h3, h4⟩ | ⟨j, y, h3, h4⟩
   ·exact Or.inl ⟨v :: vs, by rw [List.map_cons, h3, h1], by intro u hu; rcases List.mem_cons.1 hu with rfl | hu; exact h2; exact h4 u hu⟩
   ·exact Or.inr ⟨j + 1, y, by simpa using h3, h4⟩
  ·exact Or.inr ⟨0, x, rfl, fun v hv => by
    cases h : v.ok
    ·rfl
    ·exact absurd ⟨v, hv, h⟩ hx⟩
theorem WK (hn : 5 <= n) (hnl : l.length < n) (hl : l.length < 1000000) (hw : ∀ nd ∈ l, BA nd) :
  (sw n l = some true ∧ ∃ t, l = t.enc 0 ∧ wM l.length t) ∨ (sw n l = some false ∧ ∀ t, l = t.enc 0 -> ¬ wM l.length t) := by
 unfold sw
 simp only
 have hcomp : ∀ t, l = t.enc 0 -> wM l.length t -> fix (fO n) n (l, l, (l.length : Int), 0, [], ()) = some true := by
  intro t ht hk
  have hm : (t.nvs 0).map NV.node = l.drop 0 := by rw [sZ, ht]; rfl
  have hvl : (t.nvs 0).length = l.length := by have := congrArg List.length hm; simpa using this
  have := U3 hn hl hw (t.nvs 0) 0 [] n hm (yU t 0 hk.1) (by omega) rfl (by rfl) (by omega)
  have hf := p9 l.length t [] hk.2.1 hk.2.2
  rw [show szA [] = 0 from rfl] at hf
  rw [hf] at this
  exact this
 rcases ER l with ⟨vs, h1, h2⟩ | ⟨j, x, h1, h2⟩
 ·have hvl : vs.length = l.length := by have := congrArg List.length h1; simpa using this
  have hN := U3 hn hl hw vs 0 [] n (by rw [h1]; rfl) h2 (by omega) rfl (by rfl) (by omega)
  rw [show ((0 : Nat) : Int) = 0 from rfl, show fD [] = [] from rfl] at hN
  cases hf : mF l.length vs [] with
  | none =>
   rw [hf] at hN
   refine Or.inr ⟨hN, fun t ht hk => ?_⟩
   have := hcomp t ht hk
   rw [hN] at this; simp at this
  | some st2 =>
   rw [hf] at hN
   obtain ⟨ho1, ho2⟩ := Ph vs [] st2 h2 (by simp) hf
   by_cases h1l : st2.length = 1
   ·match st2, h1l with
    | [t], _ =>
     refine Or.inl ⟨hN, t, ?_, ho2 t (by simp)⟩
     simp only [encR, szA, List.nil_append, h1] at ho1
     exact ho1.symm
   ·simp only [decide_eq_false h1l] at hN
    refine Or.inr ⟨hN, fun t ht hk => ?_⟩
    have := hcomp t ht hk
    rw [hN] at this; simp at this
 ·have hjl : j < l.length := (List.getElem?_eq_some_iff.1 h1).1
  have hB := zbf hn hl hw h1 h2 j 0 [] n (by omega) rfl rfl (by omega)
  refine Or.inr ⟨hB, fun t ht hk => ?_⟩
  have := hcomp t ht hk
  rw [show ((0 : Nat) : Int) = 0 from rfl, show fD [] = [] from rfl] at hB
  rw [hB] at this; simp at this
end
abbrev W4 : Type := Nat × Bool × List Bool × Bool
def aC : Pt -> W4 -> W4
 | .cat a b, w => aC b (aC a w)
 | .alt a b, w => aC b (aC a w)
 | .times a _ _, w => aC a w
 | .group a m, w => ((aC a (w.1 + 1, w.2.1 && decide (m = w.1 + 1), w.2.2.1, w.2.2.2)).1, (aC a (w.1 + 1, w.2.1 && decide (m = w.1 + 1), w.2.2.1, w.2.2.2)).2.1, (aC a (w.1 + 1, w.2.1 && decide (m = w.1 + 1), w.2.2.1, w.2.2.2)).2.2.1.set m true, (aC a (w.1 + 1, w.2.1 && decide (m = w.1 + 1), w.2.2.1, w.2.2.2)).2.2.2)
 | .ref m, w => (w.1, w.2.1 && w.2.2.1.getD m false, w.2.2.1, true)
 | _, w => w
theorem kE : ∀ (t : Pt) (w : W4), (aC t w).2.2.1.length = w.2.2.1.length
 | .cat a b, w => by simp only [aC]; rw [kE b, kE a]
 | .alt a b, w => by simp only [aC]; rw [kE b, kE a]
 | .times a _ _, w => by simp only [aC]; rw [kE a]
 | .group a m, w => by simp only [aC, List.length_set]; rw [kE a]
 | .ref m, w => rfl
 | .empty, w | .bol, w | .eol, w | .bytes _, w => rfl
theorem uz : ∀ (t : Pt) (w : W4), (aC t w).1 <= w.1 + t.sz
 | .cat a b, w => by simp only [aC, Pt.sz]; have := uz b (aC a w); have := uz a w; omega
 | .alt a b, w => by simp only [aC, Pt.sz]; have := uz b (aC a w); have := uz a w; omega
 | .times a _ _, w => by simp only [aC, Pt.sz]; have := uz a w; omega
 | .group a m, w => by simp only [aC, Pt.sz]; have := uz a (w.1 + 1, w.2.1 && decide (m = w.1 + 1), w.2.2.1, w.2.2.2); simp only at this; omega
 | .ref m, w => by simp only [aC]; omega
 | .empty, w | .bol, w | .eol, w | .bytes _, w => by simp only [aC]; omega
theorem kF : ∀ (t : Pt) (g : Nat) (i c : Bool) (e : List Bool) (r : Bool), aC t (g, i && c, e, r) = ((aC t (g, i, e, r)).1, (aC t (g, i, e, r)).2.1 && c, (aC t (g, i, e, r)).2.2.1, (aC t (g, i, e, r)).2.2.2)
 | .cat a b, g, i, c, e, r => by
  simp only [aC]
  rw [kF a]
  rw [kF b (aC a (g, i, e, r)).1 (aC a (g, i, e, r)).2.1]
 | .alt a b, g, i, c, e, r => by
  simp only [aC]
  rw [kF a]
  rw [kF b (aC a (g, i, e, r)).1 (aC a (g, i, e, r)).2.1]
 | .times a _ _, g, i, c, e, r => by simp only [aC]; rw [kF a]
 | .group a m, g, i, c, e, r => by
  simp only [aC]
  have : (i && c && decide (m = g + 1)) = (i && decide (m = g + 1) && c) := by cases i <;> cases c <;> cases decide (m = g + 1) <;> rfl
  rw [this, kF a]
 | .ref m, g, i, c, e, r => by
  simp only [aC]
  cases i <;> cases c <;> cases e.getD m false <;> rfl
 | .empty, _, _, _, _, _ | .bol, _, _, _, _, _ | .eol, _, _, _, _, _ | .bytes _, _, _, _, _, _ => rfl
def W4.out (l : List Nd) (w : W4) : Option (List Nd × Int × Bool × List Bool × Bool × Unit) := some (l, (w.1 : Int), w.2.1, w.2.2.1, w.2.2.2, ())
theorem FH {l : List Nd} (hl : l.length < 1000000) : ∀ (t : Pt) (o m : Nat) (w : W4), At l o t -> bD t = true -> t.sz <= m -> w.1 + t.sz < 1000000 -> w.2.2.1.length = 10 ->
  kC m (t.top o, l, (w.1 : Int), w.2.1, w.2.2.1, w.2.2.2, ()) = W4.out l (aC t w) := by
 intro t
 have start : ∀ {t : Pt} {o m : Nat} {x : List Nd × Int × Bool × List Bool × Bool × Unit}, At l o t -> kC (m + 1) (t.top o, x) = dh m (kC m) (t.top o, x) := fun _ => rfl
 induction t with
 | empty =>
  intro o m w h hf hm hg he
  obtain ⟨m, rfl⟩ : ∃ k, m = k + 1 := ⟨m - 1, by simp only [Pt.sz] at hm; omega⟩
  rw [start h]; unfold dh; simp only
  rw [ah h.top.1, h.top.2]; rfl
 | bytes p =>
  intro o m w h hf hm hg he
  obtain ⟨m, rfl⟩ : ∃ k, m = k + 1 := ⟨m - 1, by simp only [Pt.sz] at hm; omega⟩
  rw [start h]; unfold dh; simp only
  rw [ah h.top.1, h.top.2]; rfl
 | bol =>
  intro o m w h hf hm hg he
  obtain ⟨m, rfl⟩ : ∃ k, m = k + 1 := ⟨m - 1, by simp only [Pt.sz] at hm; omega⟩
  rw [start h]; unfold dh; simp only
  rw [ah h.top.1, h.top.2]; rfl
 | eol =>
  intro o m w h hf hm hg he
  obtain ⟨m, rfl⟩ : ∃ k, m = k + 1 := ⟨m - 1, by simp only [Pt.sz] at hm; omega⟩
  rw [start h]; unfold dh; simp only
  rw [ah h.top.1, h.top.2]; rfl
 | ref k =>
  intro o m w h hf hm hg he
  obtain ⟨m, rfl⟩ : ∃ k, m = k + 1 := ⟨m - 1, by simp only [Pt.sz] at hm; omega⟩
  simp only [bD, Bool.and_eq_true, decide_eq_true_eq] at hf
  rw [start h]; unfold dh; simp only
  rw [ah h.top.1, h.top.2]
  simp only [Pt.nv, NV.node]
  rw [aj (by rfl), aj (by rfl), aj (by rfl), aj (by rfl), au (by rfl), ah (dM (i := k) (n := 10) (by omega)), ah (by exact decide_eq_true (show k < 10 by omega))]
  simp only [aC, W4.out, Int.toNat_natCast]
  cases w.2.1 <;> rfl
 | cat a b iha ihb =>
  intro o m w h hf hm hg he
  obtain ⟨m, rfl⟩ : ∃ k, m = k + 1 := ⟨m - 1, by simp only [Pt.sz] at hm; omega⟩
  simp only [bD, Bool.and_eq_true] at hf
  simp only [Pt.sz] at hm hg
  rw [start h]; unfold dh; simp only
  rw [ah h.top.1, h.top.2]
  simp only [Pt.nv, NV.node]
  have hga := uz a w
  rw [au (by rfl), au (by rfl), iha o m w h.zn.1 hf.1 (by omega) (by omega) he]
  simp only [W4.out, aA]
  rw [ihb (o + a.sz) m (aC a w) h.zn.2 hf.2 (by omega) (by omega) (by rw [kE]; exact he)]
  rfl
 | alt a b iha ihb =>
  intro o m w h hf hm hg he
  obtain ⟨m, rfl⟩ : ∃ k, m = k + 1 := ⟨m - 1, by simp only [Pt.sz] at hm; omega⟩
  simp only [bD, Bool.and_eq_true] at hf
  simp only [Pt.sz] at hm hg
  rw [start h]; unfold dh; simp only
  rw [ah h.top.1, h.top.2]
  simp only [Pt.nv, NV.node]
  have hga := uz a w
  rw [aj (by rfl), au (by rfl), iha o m w h.alt1.1 hf.1 (by omega) (by omega) he]
  simp only [W4.out, aA]
  rw [ihb (o + a.sz) m (aC a w) h.alt1.2 hf.2 (by omega) (by omega) (by rw [kE]; exact he)]
  rfl
 | times a lo hi iha =>
  intro o m w h hf hm hg he
  obtain ⟨m, rfl⟩ : ∃ k, m = k + 1 := ⟨m - 1, by simp only [Pt.sz] at hm; omega⟩
  simp only [bD, Bool.and_eq_true] at hf
  simp only [Pt.sz] at hm hg
  rw [start h]; unfold dh; simp only
  rw [ah h.top.1, h.top.2]
  simp only [Pt.nv, NV.node]
  rw [aj (by rfl), aj (by rfl), au (by rfl), iha o m w h.DW hf.1 (by omega) (by omega) he]
  rfl
 | group a k iha =>
  intro o m w h hf hm hg he
  obtain ⟨m, rfl⟩ : ∃ k, m = k + 1 := ⟨m - 1, by simp only [Pt.sz] at hm; omega⟩
  simp only [bD, Bool.and_eq_true, decide_eq_true_eq] at hf
  simp only [Pt.sz] at hm hg
  rw [start h]; unfold dh; simp only
  rw [ah h.top.1, h.top.2]
  simp only [Pt.nv, NV.node]
  rw [aj (by rfl), aj (by rfl), aj (by rfl), au (by rfl), aK (by omega) (by omega), show (w.1 : Int) + 1 = ((w.1 + 1 : Nat) : Int) from rfl]
  have hI := iha o m (w.1 + 1, w.2.1 && decide (k = w.1 + 1), w.2.2.1, w.2.2.2) h.DX hf.1 (by omega) (by simp only; omega) he
  simp only at hI
  have he2 : ((k : Int) == ((w.1 + 1 : Nat) : Int)) = decide (k = w.1 + 1) := by rw [Bool.eq_iff_iff, beq_iff_eq, decide_eq_true_eq]; omega
  have hlen := kE a (w.1 + 1, w.2.1 && decide (k = w.1 + 1), w.2.2.1, w.2.2.2)
  rw [he2]
  cases hb : w.2.1 <;> rw [hb] at hI hlen
  ·simp only [Bool.false_and] at hI hlen
   rw [aM, hI]
   simp only [W4.out, aA]
   rw [ah (dM (i := k) (n := 10) (by omega)), ah (by exact decide_eq_true (show k < 10 by omega))]
   simp only [aC, hb, Bool.false_and, Int.toNat_natCast]
  ·simp only [Bool.true_and] at hI hlen
   rw [aR, hI]
   simp only [W4.out, aA]
   rw [ah (dM (i := k) (n := 10) (by omega)), ah (by exact decide_eq_true (show k < 10 by omega))]
   simp only [aC, hb, Bool.true_and, Int.toNat_natCast]
def w0 : W4 := (0, true, gN, false)
def ou (t : Pt) : Prop := t.sz <= 120 ∧ wM t.sz t ∧ (aC t w0).2.1 = true
theorem WL {n : Nat} {l : List Nd} (hn : 200 <= n) (hw : ∀ nd ∈ l, BA nd) :
  (∃ t, ou t ∧ l = t.enc 0 ∧ qo n l = some (((aC t w0).1 : Int), (aC t w0).2.2.2, true)) ∨ ((∀ t, ou t -> l ≠ t.enc 0) ∧ qo n l = some (0, false, false)) := by
 unfold qo
 simp only
 have hsz : ∀ t : Pt, l = t.enc 0 -> l.length = t.sz := fun t h => by rw [h, Pt.aZ]
 by_cases h0 : l.length = 0
 ·rw [au (by rw [h0]; rfl)]
  exact Or.inr ⟨fun t _ h => by have := hsz t h; have := t.bT; omega, rfl⟩
 rw [aj (by simp; intro h; rw [h] at h0; simp at h0)]
 by_cases h1 : l.length > 120
 ·rw [au (by simp; omega)]
  exact Or.inr ⟨fun t ht h => by have := hsz t h; have := ht.1; omega, rfl⟩
 rw [aj (by simp; omega)]
 rcases WK (n := n) (l := l) (by omega) (by omega) (by omega) hw with ⟨ho, t, ht, hk⟩ | ⟨ho, hno⟩
 ·rw [ho]
  simp only [aA, Bool.not_true, aM]
  unfold xZ
  simp only
  have hlt := hsz t ht
  have htp := t.bT
  rw [aK (by omega) (by omega), show (l.length : Int) - 1 = t.top 0 by unfold Pt.top; omega]
  have hA : At l 0 t := by have := At.self t; rw [<- ht] at this; exact this
  have hN := FH (l := l) (by omega) t 0 n w0 hA hk.1 (by omega) (by simp only [w0]; omega) rfl
  have hw0 : kC n (t.top 0, l, 0, true, [false, false, false, false, false, false, false, false, false, false], false, ()) = W4.out l (aC t w0) := hN
  rw [hw0]
  simp only [W4.out, aA]
  cases hi : (aC t w0).2.1
  ·refine Or.inr ⟨fun u hu h => ?_, rfl⟩
   have hu2 := hu.2.2
   have hlu := hsz u h
   have hB : At l 0 u := by have := At.self u; rw [<- h] at this; exact this
   have htop : t.top 0 = u.top 0 := by unfold Pt.top; omega
   have hM := FH (l := l) (by omega) u 0 n w0 hB hu.2.1.1 (by omega) (by simp only [w0]; omega) rfl
   rw [<- htop, hN] at hM
   simp only [W4.out, Option.some.injEq, Prod.mk.injEq] at hM
   have := hM.2.2.1
   rw [hi, hu2] at this; simp at this
  ·rw [hlt] at hk
   exact Or.inl ⟨t, ⟨by omega, hk, hi⟩, ht, rfl⟩
 ·rw [ho]
  simp only [aA, Bool.not_false, aR]
  exact Or.inr ⟨fun t ht h => by have := hno t h; rw [hsz t h] at this; exact this ht.2.1, by first | rfl | trivial⟩
theorem Pj {n : Nat} {l : List Nd} (hn : 200 <= n) (hw : ∀ nd ∈ l, BA nd) :
  (∃ t, ou t ∧ l = t.enc 0 ∧ vY n l = some true) ∨ ((∀ t, ou t -> l ≠ t.enc 0) ∧ vY n l = some false) := by
 unfold vY
 simp only
 rcases WL hn hw with ⟨t, h1, h2, h3⟩ | ⟨h1, h2⟩
 ·exact Or.inl ⟨t, h1, h2, by rw [h3]; rfl⟩
 ·exact Or.inr ⟨h1, by rw [h2]; rfl⟩
end Go.Dec
namespace Go.Dec
def Ot (t : Pt) (b : Nat) (en : List Bool) (b' : Nat) (en' : List Bool) : Prop := ∀ i rf, ∃ rf', aC t (b, i, en, rf) = (b', i, en', rf')
def S9 (ts : List Pt) (w : W4) : W4 := ts.foldl (fun w t => aC t w) w
def zeq (ts : List Pt) (b : Nat) (en : List Bool) (b' : Nat) (en' : List Bool) : Prop := ∀ i rf, ∃ rf', S9 ts (b, i, en, rf) = (b', i, en', rf')
theorem Ta {p : Nat -> Bool} {i : Nat} (hi : i < 256) (h : p i = true) : dR p = false := by
 cases he : dR p
 ·rfl
 ·have := qh he hi
  rw [h] at this; simp at this
theorem zbg {r : List UInt8} {p : Nat -> Bool} {k : Nat} (h : tO r = some (p, k)) : dR p = false := by
 unfold tO at h
 cases h1 : [91].isPrefixOf r <;> rw [h1] at h <;> simp only [cond_true, cond_false] at h
 ·simp at h
 ·cases h3 : lY (r.length + 1) true (fun _ => false) (r.drop (bif [94].isPrefixOf (r.drop 1) then 2 else 1)) with
  | none => rw [h3] at h; simp at h
  | some x =>
   obtain ⟨q, m⟩ := x
   rw [h3] at h
   simp only at h
   cases h4 : dR (bif [94].isPrefixOf (r.drop 1) then (fun j => !q j) else q) <;> rw [h4] at h <;> simp at h
   rw [<- h.1]; simpa using h4
theorem Ou (c : UInt8) : dR (vB c) = false := Ta c.toNat_lt (by simp [vB])
def DY (t : Pt) : Prop := bD t = true ∧ dw t = true ∧ fP t = true ∧ t.kind ≠ 4 ∧ t.kind ≠ 5
def BD (t : Pt) : Prop := bD t = true ∧ dw t = true ∧ fP t = true ∧ (t.kind = 1 ∨ t.kind = 7 ∨ t.kind = 8)
def U4 (t : Pt) : Prop := bD t = true ∧ dw t = true ∧ fP t = true ∧ t.kind ≠ 5
theorem BD.item {t : Pt} (h : BD t) : DY t := ⟨h.1, h.2.1, h.2.2.1, by rcases h.2.2.2 with h | h | h <;> omega, by rcases h.2.2.2 with h | h | h <;> omega⟩
def ZK (row : List UInt8 -> Nat -> List Bool -> Res (Option Pt)) : Prop := ∀ r b en t r' b' en', b <= 9 -> en.length = 10 -> row r b en = .ok (some t) r' b' en' -> U4 t ∧ Ot t b en b' en' ∧ b' <= 9 ∧ en'.length = 10
theorem U5 {p : Nat -> Bool} (h : dR p = false) (b : Nat) (en : List Bool) : BD (.bytes p) ∧ Ot (.bytes p) b en b en := ⟨⟨by simp [bD, h], rfl, rfl, Or.inl rfl⟩, fun i rf => ⟨rf, rfl⟩⟩
theorem zcO {row : List UInt8 -> Nat -> List Bool -> Res (Option Pt)} {first : Bool} {r : List UInt8} {b : Nat} {en : List Bool} {t : Pt} {r' : List UInt8} {b' : Nat} {en' : List Bool}
  (hrow : ZK row) (hb : b <= 9) (he : en.length = 10) (h : jB row first r b en = .ok t r' b' en') : BD t ∧ Ot t b en b' en' ∧ b' <= 9 ∧ en'.length = 10 := by
 have hone : ∀ {p : Nat -> Bool} {x : List UInt8}, dR p = false -> Res.ok (Pt.bytes p) x b en = .ok t r' b' en' -> BD t ∧ Ot t b en b' en' ∧ b' <= 9 ∧ en'.length = 10 := by
  intro p x hp h
  simp only [Res.ok.injEq] at h
  obtain ⟨rfl, rfl, rfl, rfl⟩ := h
  exact ⟨(U5 hp b en).1, (U5 hp b en).2, hb, he⟩
 unfold jB at h
 cases r with
 | nil => simp at h
 | cons c r1 =>
  simp only at h
  cases h1 : c == 46 <;> rw [h1] at h <;> simp only [cond_true, cond_false] at h
  case true => exact hone (Ta (i := 0) (by omega) rfl) h
  cases h2 : c == 91 <;> rw [h2] at h <;> simp only [cond_true, cond_false] at h
  case true =>
   cases h3 : tO (c :: r1) with
   | none => rw [h3] at h; simp at h
   | some x => rw [h3] at h; exact hone (zbg h3) h
  cases h3 : c == 92 <;> rw [h3] at h <;> simp only [cond_true, cond_false] at h
  case false => exact hone (Ou c) h
  cases r1 with
  | nil => simp at h
  | cons d r2 =>
   simp only at h
   cases h4 : d == 40 <;> rw [h4] at h <;> simp only [cond_true, cond_false] at h
   case true =>
    cases h5 : b == 9 <;> rw [h5] at h <;> simp only [cond_true, cond_false] at h
    case true => simp at h
    have hb9 : b ≠ 9 := by simpa using h5
    cases ho : row r2 (b + 1) en with
    | er e k => rw [ho] at h; simp at h
    | ok t3 r3 b3 en3 =>
     rw [ho] at h
     cases t3 with
     | none => simp at h
     | some t3 =>
      simp only at h
      obtain ⟨g1, g2, g3, g4⟩ := hrow r2 (b + 1) en t3 r3 b3 en3 (by omega) he ho
      cases h6 : [92, 41].isPrefixOf r3 <;> rw [h6] at h <;> simp only [cond_true, cond_false, Res.ok.injEq] at h
      ·simp at h
      ·obtain ⟨rfl, rfl, rfl, rfl⟩ := h
       refine ⟨⟨?_, ?_, ?_, Or.inr (Or.inl rfl)⟩, ?_, g3, ?_⟩
       ·simp [bD, g1.1]; omega
       ·simp [dw, g1.2.1]
       ·simp [fP, g1.2.2.1]
       ·intro i rf
        obtain ⟨rf', hrf⟩ := g2 i rf
        exact ⟨rf', by simp only [aC, decide_true, Bool.and_true]; rw [hrf]⟩
       ·rw [List.length_set]; exact g4
   cases h5 : decide (49 <= d.toNat) && decide (d.toNat <= 57) <;> rw [h5] at h <;> simp only [cond_true, cond_false] at h
   case true =>
    simp only [Bool.and_eq_true, decide_eq_true_eq] at h5
    cases h6 : en.getD (d.toNat - 48) false <;> rw [h6] at h <;> simp only [cond_true, cond_false, Res.ok.injEq] at h
    ·simp at h
    ·obtain ⟨rfl, rfl, rfl, rfl⟩ := h
     refine ⟨⟨by simp [bD]; omega, rfl, rfl, Or.inr (Or.inr rfl)⟩, fun i rf => ⟨true, ?_⟩, hb, he⟩
     simp only [aC, h6, Bool.and_true]
   cases h6 : d == 110 <;> rw [h6] at h <;> simp only [cond_true, cond_false] at h
   case true => exact hone (Ou 10) h
   cases h7 : iK.contains d <;> rw [h7] at h <;> simp only [cond_true, cond_false] at h
   case true => exact hone (Ou d) h
   cases h8 : d == 123 && first <;> rw [h8] at h <;> simp at h
theorem zan {t : Pt} {lo hi : Int} {r r' : List UInt8} {b b' : Nat} {en en' : List Bool} {t' : Pt} (ht : BD t) (hlo : fB lo hi = true) (h : vw t lo hi r b en = .ok t' r' b' en') : t' = .times t lo hi ∧ DY t' ∧ b' = b ∧ en' = en := by
 unfold vw at h
 cases hc : [42].isPrefixOf r || [92, 123].isPrefixOf r <;> rw [hc] at h <;> simp at h
 obtain ⟨rfl, rfl, rfl, rfl⟩ := h
 refine ⟨rfl, ⟨by simp only [bD, ht.1, hlo]; rfl, ?_, by simp [fP, ht.2.2.1], by simp [Pt.kind], by simp [Pt.kind]⟩, rfl, rfl⟩
 simp only [dw, ht.2.1, Bool.true_and, Bool.or_eq_true, decide_eq_true_eq]
 rcases ht.2.2.2 with h | h | h
 ·exact Or.inl (Or.inl h)
 ·exact Or.inl (Or.inr h)
 ·exact Or.inr h
theorem WM {r : List UInt8} {lo hi : Int} {r2 : List UInt8} (h : uw r = some (lo, hi, r2)) : fB lo hi = true := by
 unfold uw at h
 cases hlo : gW r with
 | mk l1 r1 =>
  rw [hlo] at h
  cases l1 with
  | none => simp at h
  | some l1 =>
   simp only at h
   cases hc : [44].isPrefixOf r1 <;> rw [hc] at h <;> simp only [cond_true, cond_false] at h
   ·cases hb : [92, 125].isPrefixOf r1 && decide (l1 <= 255) && decide (1 <= l1) <;> rw [hb] at h <;> simp at h
    simp only [Bool.and_eq_true, decide_eq_true_eq] at hb
    obtain ⟨rfl, rfl, _⟩ := h
    simp [fB]; omega
   ·cases hhi : gW (r1.drop 1) with
    | mk h1 r3 =>
     rw [hhi] at h
     cases h1 with
     | none =>
      simp only at h
      cases hb : [92, 125].isPrefixOf r3 && decide (l1 <= 255) <;> rw [hb] at h <;> simp at h
      simp only [Bool.and_eq_true, decide_eq_true_eq] at hb
      obtain ⟨rfl, rfl, _⟩ := h
      simp [fB]; omega
     | some h1 =>
      simp only at h
      cases hb : [92, 125].isPrefixOf r3 && decide (l1 <= 255) && decide (h1 <= 255) && decide (l1 <= h1) && decide (1 <= h1) <;> rw [hb] at h <;> simp at h
      simp only [Bool.and_eq_true, decide_eq_true_eq] at hb
      obtain ⟨rfl, rfl, _⟩ := h
      simp [fB]; omega
theorem zbh {t : Pt} {r : List UInt8} {b : Nat} {en : List Bool} {t' : Pt} {r' : List UInt8} {b' : Nat} {en' : List Bool} (ht : BD t) (h : jV t r b en = .ok t' r' b' en') :
  (t' = t ∨ ∃ lo hi, t' = .times t lo hi) ∧ DY t' ∧ b' = b ∧ en' = en := by
 rw [SG] at h
 cases h1 : [42].isPrefixOf r <;> rw [h1] at h <;> simp only [cond_true, cond_false] at h
 case true =>
  have := zan ht (by decide) h
  exact ⟨Or.inr ⟨_, _, this.1⟩, this.2⟩
 cases h2 : [92, 123].isPrefixOf r <;> rw [h2] at h <;> simp only [cond_true, cond_false] at h
 case false =>
  simp only [Res.ok.injEq] at h
  obtain ⟨rfl, rfl, rfl, rfl⟩ := h
  exact ⟨Or.inl rfl, ht.item, rfl, rfl⟩
 cases ho : uw (r.drop 2) with
 | none => rw [ho] at h; simp at h
 | some x =>
  obtain ⟨lo, hi, r2⟩ := x
  rw [ho] at h
  have := zan ht (WM ho) h
  exact ⟨Or.inr ⟨_, _, this.1⟩, this.2⟩
theorem WO {t t' : Pt} {b b' : Nat} {en en' : List Bool} (ht : t' = t ∨ ∃ lo hi, t' = .times t lo hi) (h : Ot t b en b' en') : Ot t' b en b' en' := by
 rcases ht with rfl | ⟨lo, hi, rfl⟩
 ·exact h
 ·exact fun i rf => h i rf
theorem zbi {row : List UInt8 -> Nat -> List Bool -> Res (Option Pt)} (hrow : ZK row) : ∀ (f : Nat) (first : Bool) (r : List UInt8) (b : Nat) (en : List Bool) (acc ts : List Pt) (r' : List UInt8) (b' : Nat) (en' : List Bool), b <= 9 -> en.length = 10 -> fG row f first r b en acc = .ok ts r' b' en' ->
  ∃ new, ts = acc ++ new ∧ (∀ t ∈ new, DY t) ∧ zeq new b en b' en' ∧ b' <= 9 ∧ en'.length = 10 := by
 intro f
 induction f with
 | zero => intro first r b en acc ts r' b' en' _ _ h; simp [fG] at h
 | succ f ih =>
  intro first r b en acc ts r' b' en' hb he h
  unfold fG at h
  cases hc : eG r <;> rw [hc] at h <;> simp only [cond_true, cond_false, Res.ok.injEq] at h
  case true =>
   obtain ⟨rfl, rfl, rfl, rfl⟩ := h
   exact ⟨[], by simp, by simp, fun i rf => ⟨rf, rfl⟩, hb, he⟩
  cases hd : [36].isPrefixOf r && eG (r.drop 1) <;> rw [hd] at h <;> simp only [cond_true, cond_false, Res.ok.injEq] at h
  case true =>
   obtain ⟨rfl, rfl, rfl, rfl⟩ := h
   exact ⟨[.eol], rfl, by intro t ht; simp only [List.mem_singleton] at ht; subst ht; exact ⟨rfl, rfl, rfl, by simp [Pt.kind], by simp [Pt.kind]⟩, fun i rf => ⟨rf, rfl⟩, hb, he⟩
  cases ho : jB row first r b en with
  | er e k => rw [ho] at h; simp at h
  | ok t r1 b1 en1 =>
   rw [ho] at h
   simp only at h
   obtain ⟨a1, a2, a3, a4⟩ := zcO hrow hb he ho
   cases ho2 : jV t r1 b1 en1 with
   | er e k => rw [ho2] at h; simp at h
   | ok t2 r2 b2 en2 =>
    rw [ho2] at h
    simp only at h
    obtain ⟨c1, c2, rfl, rfl⟩ := zbh a1 ho2
    obtain ⟨new, d1, d2, d3, d4, d5⟩ := ih _ _ _ _ _ _ _ _ _ a3 a4 h
    refine ⟨t2 :: new, by rw [d1]; simp, ?_, ?_, d4, d5⟩
    ·intro u hu
     rcases List.mem_cons.1 hu with rfl | hu
     ·exact c2
     ·exact d2 u hu
    ·intro i rf
     obtain ⟨rf1, h1⟩ := WO c1 a2 i rf
     obtain ⟨rf2, h2⟩ := d3 i rf1
     exact ⟨rf2, by simp only [S9, List.foldl_cons] at h2 ⊢; rw [h1]; exact h2⟩
theorem Tc : ∀ (ts : List Pt) (t : Pt) (w : W4), iU ts = some t -> aC t w = S9 ts w
 | [], t, w, h => by simp [iU] at h
 | u :: ts, t, w, h => by
  unfold iU at h
  cases hc : iU ts with
  | none =>
   rw [hc] at h
   simp only [Option.some.injEq] at h
   subst h
   cases ts with
   | nil => rfl
   | cons v ts =>
    unfold iU at hc
    cases h2 : iU ts <;> rw [h2] at hc <;> simp at hc
  | some v =>
   rw [hc] at h
   simp only [Option.some.injEq] at h
   subst h
   simp only [aC, S9, List.foldl_cons]
   exact Tc ts v (aC u w) hc
theorem U6 : ∀ (ts : List Pt) (t : Pt), (∀ u ∈ ts, DY u) -> iU ts = some t -> U4 t
 | [], t, _, h => by simp [iU] at h
 | u :: ts, t, hu, h => by
  unfold iU at h
  have hk := hu u (by simp)
  cases hc : iU ts with
  | none =>
   rw [hc] at h
   simp only [Option.some.injEq] at h
   subst h
   exact ⟨hk.1, hk.2.1, hk.2.2.1, hk.2.2.2.2⟩
  | some v =>
   rw [hc] at h
   simp only [Option.some.injEq] at h
   subst h
   have hv := U6 ts v (fun x hx => hu x (by simp [hx])) hc
   exact ⟨by simp [bD, hk.1, hv.1], by simp [dw, hk.2.1, hv.2.1, hk.2.2.2.1, hk.2.2.2.2, hv.2.2.2], by simp [fP, hk.2.2.1, hv.2.2.1], by simp [Pt.kind]⟩
theorem zdo : ∀ f : Nat, ZK (dx f) := by
 intro f
 induction f with
 | zero => intro r b en t r' b' en' _ _ h; simp [dx] at h
 | succ f ih =>
  intro r b en t r' b' en' hb he h
  unfold dx at h
  simp only at h
  cases ho : fG (dx f) ((bif [94].isPrefixOf r then r.drop 1 else r).length + 1) true (bif [94].isPrefixOf r then r.drop 1 else r) b en (bif [94].isPrefixOf r then [Pt.bol] else []) with
  | er e k => rw [ho] at h; simp at h
  | ok ts r2 b2 en2 =>
   rw [ho] at h
   simp only [Res.ok.injEq] at h
   obtain ⟨new, d1, d2, d3, d4, d5⟩ := zbi ih _ _ _ _ _ _ _ _ _ _ hb he ho
   obtain ⟨h1, rfl, rfl, rfl⟩ := h
   have hok : ∀ u ∈ ts, DY u := by
    rw [d1]
    intro u hu
    rcases List.mem_append.1 hu with hu | hu
    ·cases h94 : [94].isPrefixOf r <;> rw [h94] at hu <;> simp at hu
     subst hu
     exact ⟨rfl, rfl, rfl, by simp [Pt.kind], by simp [Pt.kind]⟩
    ·exact d2 u hu
   refine ⟨U6 ts t hok h1, ?_, d4, d5⟩
   intro i rf
   obtain ⟨rf', hrf⟩ := d3 i rf
   refine ⟨rf', ?_⟩
   rw [Tc ts t _ h1, d1]
   simp only [S9, List.foldl_append] at hrf ⊢
   cases h94 : [94].isPrefixOf r
   ·exact hrf
   ·exact hrf
theorem JM {s : List UInt8} {t : Pt} (h : nM s = .inl t) : ou t := by
 cases s with
 | nil => simp only [nM, Sum.inl.injEq] at h; subst h; exact ⟨by simp [Pt.sz], ⟨rfl, rfl, fun h => by simp [Pt.sz] at h⟩, rfl⟩
 | cons c s0 =>
  have hps : nM (c :: s0) = match dx 11 (c :: s0) 0 gN with
   | .er e k => .inr (e, (c :: s0).length - k)
   | .ok t r _ _ =>
    match r with
    | [] => match t with
     | none => .inr (41, (c :: s0).length)
     | some t => bif decide (t.sz > 120) then .inr (2, 0) else .inl t
    | _ => .inr (41, (c :: s0).length - r.length) := rfl
  rw [hps] at h
  cases ho : dx 11 (c :: s0) 0 gN with
  | er e k => rw [ho] at h; simp at h
  | ok t2 r b2 en2 =>
   rw [ho] at h
   simp only at h
   cases r with
   | cons c2 r2 => simp at h
   | nil =>
    cases t2 with
    | none => simp at h
    | some t2 =>
     simp only at h
     obtain ⟨g1, g2, _⟩ := zdo 11 _ 0 gN t2 _ _ _ (by omega) rfl ho
     cases Ik : decide (t2.sz > 120) <;> rw [Ik] at h <;> simp only [cond_true, cond_false, Sum.inl.injEq, reduceCtorEq] at h
     subst h
     simp only [gt_iff_lt, decide_eq_false_iff_not] at Ik
     obtain ⟨rf', hrf⟩ := g2 true false
     exact ⟨by omega, ⟨g1.1, g1.2.1, fun _ => g1.2.2.1⟩, by simp only [w0]; rw [hrf]⟩
theorem X3 (t : Pt) (o : Nat) : ∀ nd ∈ t.enc o, BA nd := by
 intro nd h
 rw [<- sZ] at h
 obtain ⟨v, _, rfl⟩ := List.mem_map.1 h
 cases v with
 | bytes p => exact ⟨p, rfl⟩
 | _ => exact ⟨fun _ => false, mM.symm⟩
theorem U7 {n : Nat} {t : Pt} (hn : 200 <= n) (h : ou t) : vY n (t.enc 0) = some true := by
 rcases Pj (n := n) (l := t.enc 0) hn (X3 t 0) with ⟨_, _, _, h3⟩ | ⟨h1, _⟩
 ·exact h3
 ·exact absurd rfl (h1 t h)
theorem zcP {n : Nat} {l : List Nd} (hl : l.length < n) (hl2 : l.length < 1000000) : yL n l = some l := by
 unfold yL
 simp only
 have key : ∀ k i m, i + k = l.length -> k < m -> fix (qU n) m (l, (i : Int), l.take i, ()) = some l := by
  intro k
  induction k with
  | zero =>
   intro i m hi hm
   rw [aX hm, qU]
   simp only
   rw [aj (by simp; omega), List.take_of_length_le (by omega)]
  | succ k ih =>
   intro i m hi hm
   have hil : i < l.length := by omega
   rw [aX (by omega), qU]
   simp only
   rw [au (by simp; omega), ah (dM hil), eT hil, ah (by simp [room]; omega), aK (by omega) (by omega), show (i : Int) + 1 = ((i + 1 : Nat) : Int) by omega]
   have := ih (i + 1) (m - 1) (by omega) (by omega)
   rw [Cq (List.getElem?_eq_getElem hil)] at this
   exact this
 exact key l.length 0 n (by omega) (by omega)
theorem X4 {n : Nat} {l : List Nd} (hl : l.length < n) (hl2 : l.length < 1000000) : nI n (l, l) = some true := by
 unfold nI
 simp only
 rw [aj (by simp)]
 refine rO (fun i => (l, l, (i : Int), ())) (N := l.length) ?_ ?_ l.length 0 n (by omega) (by omega)
 ·intro i hi g
  unfold jI
  simp only
  rw [au (by simp; omega), ah (dM hi), ah (dM hi), WH rfl, aj (by rfl), aK (by omega) (by omega)]
  rfl
 ·intro g
  unfold jI
  simp only
  rw [aj (by simp)]
end Go.Dec
