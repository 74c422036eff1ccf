/- Part of a proof over this seat: a library of my own, and what it says of this seat. No statement is proved here. -/
import Derived.Test.YthhbdkdofhhoeaaGreatDoorPartBM
namespace Go.Dec
abbrev Nd : Type := Int × List Int × Int × Int × Int × Int × Int × Unit
abbrev RdT : Type := List UInt8 × Int × Int × List Bool × List Nd × Unit
inductive Pt where
  | empty | bol | eol
  | bytes (p : Nat → Bool)
  | cat (a b : Pt) | alt (a b : Pt)
  | times (a : Pt) (lo hi : Int)
  | group (a : Pt) (n : Nat)
  | ref (n : Nat)
def Pt.sz : Pt → Nat
  | .cat a b => a.sz + b.sz + 1
  | .alt a b => a.sz + b.sz + 1
  | .times a _ _ => a.sz + 1
  | .group a _ => a.sz + 1
  | _ => 1
theorem Pt.sz_pos : ∀ t : Pt, 1 ≤ t.sz
  | .empty | .bol | .eol | .bytes _ | .ref _ => Nat.le_refl _
  | .cat _ _ | .alt _ _ | .times _ _ _ | .group _ _ => Nat.le_add_left _ _
def Pt.top (o : Nat) (t : Pt) : Int := ((o + t.sz : Nat) : Int) - 1
def Pt.enc (o : Nat) : Pt → List Nd
  | .empty => [(0, [0, 0, 0, 0], 0, 0, 0, 0, 0, ())]
  | .bol => [(2, [0, 0, 0, 0], 0, 0, 0, 0, 0, ())]
  | .eol => [(3, [0, 0, 0, 0], 0, 0, 0, 0, 0, ())]
  | .bytes p => [(1, wd p, 0, 0, 0, 0, 0, ())]
  | .cat a b => a.enc o ++ b.enc (o + a.sz) ++ [(4, [0, 0, 0, 0], a.top o, b.top (o + a.sz), 0, 0, 0, ())]
  | .alt a b => a.enc o ++ b.enc (o + a.sz) ++ [(5, [0, 0, 0, 0], a.top o, b.top (o + a.sz), 0, 0, 0, ())]
  | .times a lo hi => a.enc o ++ [(6, [0, 0, 0, 0], a.top o, 0, lo, hi, 0, ())]
  | .group a n => a.enc o ++ [(7, [0, 0, 0, 0], a.top o, 0, 0, 0, (n : Int), ())]
  | .ref n => [(8, [0, 0, 0, 0], 0, 0, 0, 0, (n : Int), ())]
theorem Pt.enc_len : ∀ (t : Pt) (o : Nat), (t.enc o).length = t.sz
  | .empty, _ | .bol, _ | .eol, _ | .bytes _, _ | .ref _, _ => rfl
  | .cat a b, o => by simp [Pt.enc, Pt.sz, Pt.enc_len a, Pt.enc_len b]; omega
  | .alt a b, o => by simp [Pt.enc, Pt.sz, Pt.enc_len a, Pt.enc_len b]; omega
  | .times a _ _, o => by simp [Pt.enc, Pt.sz, Pt.enc_len a]
  | .group a _, o => by simp [Pt.enc, Pt.sz, Pt.enc_len a]
inductive Res (α : Type) where
  | ok (a : α) (r : List UInt8) (b : Nat) (en : List Bool)
  | er (e k : Nat)
def closesS (r : List UInt8) : Bool := r.isEmpty || [92, 41].isPrefixOf r
def special7 : List UInt8 := [46, 91, 92, 42, 94, 36, 47]
def digs : Nat → List UInt8 → Nat
  | 0, _ => 0
  | _ + 1, [] => 0
  | m + 1, c :: r => bif isDigit c then digs m r + 1 else 0
def numS (r : List UInt8) : Option Nat × List UInt8 :=
  let k := digs 3 r
  (bif k == 0 then none else some (atoiS (r.take k)), r.drop k)
def finS (t : Pt) (lo hi : Int) (r : List UInt8) (b : Nat) (en : List Bool) : Res Pt :=
  bif [42].isPrefixOf r || [92, 123].isPrefixOf r then .er 43 r.length else .ok (.times t lo hi) r b en
def timesS (t : Pt) (r : List UInt8) (b : Nat) (en : List Bool) : Res Pt :=
  bif [42].isPrefixOf r then finS t 0 (-1) (r.drop 1) b en
  else bif [92, 123].isPrefixOf r then
    match numS (r.drop 2) with
    | (none, _) => .er 43 r.length
    | (some lo, r1) =>
      bif [44].isPrefixOf r1 then
        match numS (r1.drop 1) with
        | (none, r2) => bif [92, 125].isPrefixOf r2 && decide (lo ≤ 255) then finS t lo (-1) (r2.drop 2) b en else .er 43 r.length
        | (some hi, r2) => bif [92, 125].isPrefixOf r2 && decide (lo ≤ 255) && decide (hi ≤ 255) && decide (lo ≤ hi) && decide (1 ≤ hi) then finS t lo hi (r2.drop 2) b en else .er 43 r.length
      else bif [92, 125].isPrefixOf r1 && decide (lo ≤ 255) && decide (1 ≤ lo) then finS t lo lo (r1.drop 2) b en else .er 43 r.length
  else .ok t r b en
def oneP (c : UInt8) : Nat → Bool := fun i => decide (i = c.toNat)
def atomS (rowS : List UInt8 → Nat → List Bool → Res (Option Pt)) (first : Bool) (r : List UInt8) (b : Nat) (en : List Bool) : Res Pt :=
  match r with
  | [] => .er 40 0
  | c :: r1 =>
    bif c == 46 then .ok (.bytes fun _ => true) r1 b en
    else bif c == 91 then
      match brkS r with
      | none => .er 42 r.length
      | some (p, k) => .ok (.bytes p) (r.drop k) b en
    else bif c == 92 then
      match r1 with
      | [] => .er 40 r.length
      | d :: r2 =>
        bif d == 40 then
          bif b == 9 then .er 41 r.length
          else match rowS r2 (b + 1) en with
            | .er e k => .er e k
            | .ok none _ _ _ => .er 41 r.length
            | .ok (some t) r3 b3 en3 => bif [92, 41].isPrefixOf r3 then .ok (.group t (b + 1)) (r3.drop 2) b3 (en3.set (b + 1) true) else .er 41 r.length
        else bif decide (49 ≤ d.toNat) && decide (d.toNat ≤ 57) then
          bif en.getD (d.toNat - 48) false then .ok (.ref (d.toNat - 48)) r2 b en else .er 44 r.length
        else bif d == 110 then .ok (.bytes (oneP 10)) r2 b en
        else bif special7.contains d then .ok (.bytes (oneP d)) r2 b en
        else bif d == 123 && first then .er 43 r.length
        else .er 40 r.length
    else .ok (.bytes (oneP c)) r1 b en
def itemsS (rowS : List UInt8 → Nat → List Bool → Res (Option Pt)) : Nat → Bool → List UInt8 → Nat → List Bool → List Pt → Res (List Pt)
  | 0, _, _, _, _, _ => .er 0 0
  | f + 1, first, r, b, en, acc =>
    bif closesS r then .ok acc r b en
    else bif [36].isPrefixOf r && closesS (r.drop 1) then .ok (acc ++ [.eol]) (r.drop 1) b en
    else match atomS rowS first r b en with
      | .er e k => .er e k
      | .ok t r1 b1 en1 => match timesS t r1 b1 en1 with
        | .er e k => .er e k
        | .ok t2 r2 b2 en2 => itemsS rowS f false r2 b2 en2 (acc ++ [t2])
def catL : List Pt → Option Pt
  | [] => none
  | t :: ts => match catL ts with
    | none => some t
    | some u => some (.cat t u)
def rowS : Nat → List UInt8 → Nat → List Bool → Res (Option Pt)
  | 0, _, _, _ => .er 0 0
  | f + 1, r, b, en =>
    let bol := [94].isPrefixOf r
    let r1 := bif bol then r.drop 1 else r
    match itemsS (rowS f) (r1.length + 1) true r1 b en (bif bol then [.bol] else []) with
    | .er e k => .er e k
    | .ok ts r2 b2 en2 => .ok (catL ts) r2 b2 en2
def noEn : List Bool := [false, false, false, false, false, false, false, false, false, false]
def parseS (s : List UInt8) : Sum Pt (Nat × Nat) :=
  match s with
  | [] => .inl .empty
  | _ => match rowS 11 s 0 noEn with
    | .er e k => .inr (e, s.length - k)
    | .ok t r _ _ =>
      match r with
      | [] => match t with
        | none => .inr (41, s.length)
        | some t => bif decide (t.sz > 120) then .inr (2, 0) else .inl t
      | _ => .inr (41, s.length - r.length)
def psn (s r : List UInt8) : Int := ((s.length - r.length : Nat) : Int)
theorem suf_drop {r s : List UInt8} (h : r <:+ s) : s.drop (s.length - r.length) = r := (List.suffix_iff_eq_drop.1 h).symm
theorem suf_le {r s : List UInt8} (h : r <:+ s) : r.length ≤ s.length := h.length_le
theorem suf_dr {r s : List UInt8} (h : r <:+ s) (k : Nat) : r.drop k <:+ s := (List.drop_suffix k r).trans h
theorem psn_dr {r s : List UInt8} (h : r <:+ s) {k : Nat} (hk : k ≤ r.length) : psn s (r.drop k) = psn s r + k := by
  have := suf_le h
  unfold psn
  rw [List.length_drop]; omega
theorem psn_wrap {r s : List UInt8} (h : r <:+ s) (hs : s.length < 1000000) {k : Nat} (hk : k ≤ r.length) : IntKind.wrap .i64 (psn s r + (k : Int)) = psn s (r.drop k) := by
  have := suf_le h
  rw [psn_dr h hk, wrapI (by unfold psn; omega) (by unfold psn; omega)]
theorem psn_in {r s : List UInt8} (h : r <:+ s) : (decide (0 ≤ psn s r) && decide (psn s r ≤ (s.length : Int))) = true := by
  unfold psn; simp
theorem psn_nat (r s : List UInt8) : (psn s r).toNat = s.length - r.length := Int.toNat_natCast _
theorem psn_get {r s : List UInt8} (h : r <:+ s) {j : Nat} {c d : UInt8} (hj : r[j]? = some c) : getAt d s (psn s r + (j : Int)) = c := by
  unfold psn
  rw [show ((s.length - r.length : Nat) : Int) + (j : Int) = ((s.length - r.length + j : Nat) : Int) by omega]
  exact getAt_drop (by rw [suf_drop h]; exact hj)
theorem psn_end {r s : List UInt8} (h : r <:+ s) : (psn s r == (s.length : Int)) = r.isEmpty := by
  have := suf_le h
  rw [Bool.eq_iff_iff, beq_iff_eq, List.isEmpty_iff_length_eq_zero]; unfold psn; omega
section
variable {n : Nat} {s r t : List UInt8} {b : Int} {en : List Bool} {l : List Nd}
theorem rd_ahead (h : r <:+ s) : bre_reader_ahead n (t, s, psn s r, b, en, l, ()) = some (t.isPrefixOf r, s, psn s r, b, en, l, ()) := by
  unfold bre_reader_ahead
  simp only
  rw [chk_of (psn_in h), hasPrefix_eq, psn_nat, suf_drop h]; rfl
theorem rd_took_t (h : r <:+ s) (hs : s.length < 1000000) (ht : t.isPrefixOf r = true) : bre_reader_took n (t, s, psn s r, b, en, l, ()) = some (true, s, psn s (r.drop t.length), b, en, l, ()) := by
  unfold bre_reader_took
  simp only
  rw [rd_ahead h]
  simp only [ob_s, ht, Bool.not_true, br_f]
  rw [psn_wrap h hs (pre_len ht)]
theorem rd_took_f (h : r <:+ s) (ht : t.isPrefixOf r = false) : bre_reader_took n (t, s, psn s r, b, en, l, ()) = some (false, s, psn s r, b, en, l, ()) := by
  unfold bre_reader_took
  simp only
  rw [rd_ahead h]
  simp only [ob_s, ht, Bool.not_false, br_t]
theorem rd_put {at' k a c mi ma nn : Int} {w : List Int} (hl : l.length < 1000000) : bre_reader_put n (k, w, a, c, mi, ma, nn, s, at', b, en, l, ()) = some (((l.length : Nat) : Int), s, at', b, en, l ++ [(k, w, a, c, mi, ma, nn, ())], ()) := by
  unfold bre_reader_put
  simp only
  rw [chk_of (by simp [room]; omega)]
  simp only [List.length_append, List.length_cons, List.length_nil]
  rw [wrapI (by omega) (by omega)]
  congr 2; omega
theorem rd_closes (h : r <:+ s) : bre_reader_closes n (s, psn s r, b, en, l, ()) = some (closesS r, s, psn s r, b, en, l, ()) := by
  unfold bre_reader_closes
  simp only
  rw [psn_end h, rd_ahead h]
  unfold closesS
  cases r.isEmpty <;> rfl
theorem rd_bytes {p : Nat → Bool} {at' : Int} (hl : l.length < 1000000) : bre_reader_bytes n (wd p, s, at', b, en, l, ()) = some (((l.length : Nat) : Int), s, at', b, en, l ++ (Pt.bytes p).enc l.length, ()) := by
  unfold bre_reader_bytes
  simp only
  rw [rd_put hl]; rfl
theorem rd_give {x : Int × Int × RdT} : bre_reader_give n x = some (.inr x) := rfl
theorem digs_le : ∀ (m : Nat) (r : List UInt8), digs m r ≤ m ∧ digs m r ≤ r.length
  | 0, _ => by simp [digs]
  | m + 1, [] => by simp [digs]
  | m + 1, c :: r => by
    have := digs_le m r
    unfold digs
    cases isDigit c <;> simp <;> omega
theorem digs_all : ∀ (m : Nat) (r : List UInt8), (r.take (digs m r)).all isDigit = true
  | 0, _ => by simp [digs]
  | m + 1, [] => by simp [digs]
  | m + 1, c :: r => by
    have := digs_all m r
    unfold digs
    cases h : isDigit c
    · simp
    · simp [h, this]
def numI : Option Nat → Int
  | none => -1
  | some k => (k : Int)
theorem rd_number_end (h : r <:+ s) (hs : s.length < 1000000) :
    (chk ((decide (0 ≤ psn s (r.drop (digs 3 r))) && decide (psn s (r.drop (digs 3 r)) ≤ (s.length : Int)) && (decide (0 ≤ psn s r) && decide (psn s r ≤ psn s (r.drop (digs 3 r)))))) (
      ob (strconv_Atoi n ((s.take (psn s (r.drop (digs 3 r))).toNat).drop (psn s r).toNat)) fun y24 =>
      br (!(!y24.2)) (
        some ((-1), s, psn s (r.drop (digs 3 r)), b, en, l, ())) (
        some (y24.1, s, psn s (r.drop (digs 3 r)), b, en, l, ())))) = some (numI (numS r).1, s, psn s (numS r).2, b, en, l, ()) := by
  have hk := digs_le 3 r
  have hl := suf_le h
  rw [chk_of (by rw [psn_dr h hk.2]; unfold psn; simp; omega)]
  have e : (s.take (psn s (r.drop (digs 3 r))).toNat).drop (psn s r).toNat = r.take (digs 3 r) := by
    rw [psn_nat, psn_nat, List.drop_take, suf_drop h, List.length_drop]
    congr 1; omega
  rw [e]
  have hall := digs_all 3 r
  simp only [numS]
  cases hd : digs 3 r with
  | zero => simp [strconv_Atoi, numI]; rfl
  | succ k =>
    cases r with
    | nil => rw [hd] at hk; simp at hk
    | cons c r =>
      rw [hd] at hall hk
      unfold strconv_Atoi
      rw [chk_of (by
        rw [Bool.and_eq_true]
        refine ⟨?_, hall⟩
        rw [Nat.ble_eq, List.length_take]; omega)]
      simp [numI]
theorem rd_number (h : r <:+ s) (hs : s.length < 1000000) (hn : 10 ≤ n) : bre_reader_number n (s, psn s r, b, en, l, ()) = some (numI (numS r).1, s, psn s (numS r).2, b, en, l, ()) := by
  unfold bre_reader_number
  simp only
  have hl := suf_le h
  have key : ∀ (j m : Nat) (r' : List UInt8), r' = r.drop j → j + digs (3 - j) r' = digs 3 r → j ≤ 3 → j ≤ r.length → 4 - j ≤ m → fix (bre_reader_number_loop0 n) m (psn s r', s, psn s r, b, en, l, ()) = some (numI (numS r).1, s, psn s (numS r).2, b, en, l, ()) := by
    intro j
    induction hm : 3 - j generalizing j with
    | zero =>
      intro m r' hr' hd hj hjl hmm
      have hj3 : j = 3 := by omega
      rw [fix_pos (by omega), bre_reader_number_loop0]
      simp only
      have e : digs 3 r = j := by rw [← hd]; simp [digs]
      have er : r' = r.drop (digs 3 r) := by rw [e]; exact hr'
      have hlim : decide (psn s r' < IntKind.wrap .i64 (psn s r + 3)) = false := by
        rw [hr', show (3 : Int) = ((3 : Nat) : Int) from rfl, psn_wrap h hs (by omega), hj3]; simp
      rw [er] at hlim ⊢
      rw [hlim]
      by_cases hlt : psn s (r.drop (digs 3 r)) < (s.length : Int)
      · rw [br_of (decide_eq_true hlt), br_f]
        exact rd_number_end h hs
      · rw [br_not (decide_eq_false hlt)]
        exact rd_number_end h hs
    | succ q ih =>
      intro m r' hr' hd hj hjl hmm
      have hsuf : r' <:+ s := by rw [hr']; exact suf_dr h j
      rw [fix_pos (by omega), bre_reader_number_loop0]
      simp only
      have hlim : decide (psn s r' < IntKind.wrap .i64 (psn s r + 3)) = true := by
        rw [hr', psn_dr h hjl, wrapI (by unfold psn; omega) (by unfold psn; omega)]; simp; omega
      cases hc : r' with
      | nil =>
        rw [hc] at hd
        have e : digs 3 r = j := by rw [← hd]; rfl
        have er : r' = r.drop (digs 3 r) := by rw [e]; exact hr'
        rw [← hc, br_not (by unfold psn; rw [hc]; simp), er]
        exact rd_number_end h hs
      | cons c r2 =>
        rw [← hc]
        rw [hc] at hd
        have hlr : r'.length = r2.length + 1 := by rw [hc]; rfl
        have hle := suf_le hsuf
        have hg : getAt 0 s (psn s r') = c := by
          have := psn_get (d := 0) hsuf (j := 0) (c := c) (by rw [hc]; rfl)
          simpa using this
        have hib : inB (psn s r') s.length = true := inB_t (by unfold psn; omega) (by unfold psn; omega)
        rw [br_of (by unfold psn; simp; omega), br_of hlim, chk_of hib, chk_of hib, hg]
        have hdd : digs (q + 1) (c :: r2) = bif isDigit c then digs q r2 + 1 else 0 := rfl
        rw [hdd] at hd
        cases hdg : isDigit c
        · rw [hdg] at hd
          simp only [cond_false, Nat.add_zero] at hd
          have er : r' = r.drop (digs 3 r) := by rw [← hd]; exact hr'
          unfold isDigit at hdg
          have hfin := rd_number_end (n := n) (b := b) (en := en) (l := l) h hs
          rw [← er] at hfin
          by_cases h48 : 48 ≤ c.toNat
          · rw [br_of (by simp; omega)]
            have h57 : ¬ c.toNat ≤ 57 := by
              intro h57; simp [h48, h57] at hdg
            rw [br_not (by simp; omega)]
            exact hfin
          · rw [br_not (by simp; omega)]
            exact hfin
        · rw [hdg] at hd
          simp only [cond_true] at hd
          unfold isDigit at hdg
          simp only [Bool.and_eq_true, decide_eq_true_eq] at hdg
          rw [br_of (by simp; omega), br_of (by simp; omega)]
          have hr2 : r2 = r.drop (j + 1) := by rw [← List.drop_drop, ← hr', hc]; rfl
          have hp : IntKind.wrap .i64 (psn s r' + 1) = psn s r2 := by
            have := psn_wrap hsuf hs (k := 1) (by omega)
            rw [hc] at this ⊢
            exact this
          rw [hp]
          exact ih (j + 1) (by omega) (m - 1) r2 hr2 (by rw [← hd]; omega) (by omega) (by rw [hr', List.length_drop] at hlr; omega) (by omega)
  have := key 0 n r (by simp) (by simp) (by omega) (by omega) (by omega)
  exact this
end
end Go.Dec
namespace Go.Dec
def POK (s : List UInt8) (l : List Nd) (o : Res Pt) (e : Option (Sum (Int × RdT) (Int × Int × RdT))) : Prop := match o with
  | .ok t r b en => e = some (.inl (t.top l.length, s, psn s r, (b : Int), en, l ++ t.enc l.length, ()))
  | .er c k => ∃ x : RdT, e = some (.inr ((c : Int), ((s.length - k : Nat) : Int), x))
section
variable {n : Nat} {s r : List UInt8} {b : Nat} {en : List Bool} {l : List Nd}
theorem natEq (k : Nat) : ((k : Int) == (-1)) = false := by rw [Bool.eq_false_iff, ne_eq, beq_iff_eq]; omega
theorem natNe (k : Nat) : ((k : Int) != (-1)) = true := by rw [bne, natEq]; rfl
theorem rd_fin {t : Pt} {lo hi : Int} (h : r <:+ s) (hl : l.length + t.sz < 900000) : POK s l (finS t lo hi r b en) (
    ob (bre_reader_put n (6, [0, 0, 0, 0], t.top l.length, 0, lo, hi, 0, s, psn s r, (b : Int), en, l ++ t.enc l.length, ())) fun y8 =>
    ob (bre_reader_ahead n ([42], y8.2.1, y8.2.2.1, y8.2.2.2.1, y8.2.2.2.2.1, y8.2.2.2.2.2.1, ())) fun y9 =>
    br y9.1 (
      ob2 (bre_reader_give n (43, y9.2.2.1, y9.2.1, y9.2.2.1, y9.2.2.2.1, y9.2.2.2.2.1, y9.2.2.2.2.2.1, ())) (fun y10 =>
        none) (fun y10 =>
        some (.inr (y10.1, y10.2.1, y10.2.2.1, y10.2.2.2.1, y10.2.2.2.2.1, y10.2.2.2.2.2.1, y10.2.2.2.2.2.2.1, ())))) (
      ob (bre_reader_ahead n ([92, 123], y9.2.1, y9.2.2.1, y9.2.2.2.1, y9.2.2.2.2.1, y9.2.2.2.2.2.1, ())) fun y11 =>
      br y11.1 (
        ob2 (bre_reader_give n (43, y11.2.2.1, y11.2.1, y11.2.2.1, y11.2.2.2.1, y11.2.2.2.2.1, y11.2.2.2.2.2.1, ())) (fun y12 =>
          none) (fun y12 =>
          some (.inr (y12.1, y12.2.1, y12.2.2.1, y12.2.2.2.1, y12.2.2.2.2.1, y12.2.2.2.2.2.1, y12.2.2.2.2.2.2.1, ())))) (
        some (.inl (y8.1, y11.2.1, y11.2.2.1, y11.2.2.2.1, y11.2.2.2.2.1, y11.2.2.2.2.2.1, ()))))) := by
  rw [rd_put (by rw [List.length_append, Pt.enc_len]; omega)]
  simp only [ob_s]
  rw [rd_ahead h]
  simp only [ob_s]
  unfold finS
  cases [42].isPrefixOf r
  · simp only [br_f, Bool.false_or]
    rw [rd_ahead h]
    simp only [ob_s]
    cases [92, 123].isPrefixOf r
    · simp only [br_f, cond_false, POK, Pt.enc, Pt.top, Pt.sz, List.length_append, Pt.enc_len, List.append_assoc]
      congr 3; omega
    · simp only [br_t, cond_true, rd_give, ob2_r]
      exact ⟨_, rfl⟩
  · simp only [br_t, Bool.true_or, cond_true, rd_give, ob2_r]
    exact ⟨_, rfl⟩
theorem rd_times {t : Pt} (h : r <:+ s) (hs : s.length < 1000000) (hn : 10 ≤ n) (hl : l.length + t.sz < 900000) :
    POK s l (timesS t r b en) (bre_reader_times n (t.top l.length, s, psn s r, (b : Int), en, l ++ t.enc l.length, ())) := by
  unfold bre_reader_times timesS
  simp only
  cases h1 : [42].isPrefixOf r
  case true =>
    rw [rd_took_t h hs h1]
    simp only [ob_s, br_t, cond_true]
    exact rd_fin (suf_dr h 1) hl
  rw [rd_took_f h h1]
  simp only [ob_s, br_f, cond_false]
  cases h2 : [92, 123].isPrefixOf r
  case false =>
    rw [rd_took_f h h2]
    simp only [ob_s, Bool.not_false, br_t, cond_false, POK]
  rw [rd_took_t h hs h2]
  simp only [ob_s, Bool.not_true, br_f, cond_true]
  have hg : ∀ {x : RdT}, POK s l (.er 43 r.length) (some (.inr (43, psn s r, x))) := fun {x} => ⟨x, rfl⟩
  have s2 : r.drop 2 <:+ s := suf_dr h 2
  rw [show ([92, 123] : List UInt8).length = 2 from rfl, rd_number s2 hs hn]
  have n2 : (numS (r.drop 2)).2 <:+ s := suf_dr s2 _
  cases hlo : numS (r.drop 2) with
  | mk lo r1 =>
    rw [hlo] at n2
    simp only [ob_s] at n2 ⊢
    cases h3 : [44].isPrefixOf r1
    · rw [rd_took_f n2 h3]
      simp only [ob_s, br_f]
      cases lo with
      | none =>
        simp only [numI]
        rw [br_of (by rfl), rd_give]
        exact hg
      | some lo =>
        simp only [numI, h3, cond_false]
        rw [br_not (natEq lo)]
        cases h4 : [92, 125].isPrefixOf r1
        · rw [rd_took_f n2 h4]
          simp only [ob_s, Bool.not_false, br_t, rd_give, ob2_r, Bool.false_and, cond_false]
          exact hg
        rw [rd_took_t n2 hs h4]
        simp only [ob_s, Bool.not_true, br_f, Bool.true_and]
        by_cases h5 : lo ≤ 255
        · rw [br_not (by simp; omega), br_not (by simp; omega), br_of (natNe lo), decide_eq_true h5]
          by_cases h6 : 1 ≤ lo
          · rw [br_not (by simp; split <;> omega), decide_eq_true h6]
            exact rd_fin (suf_dr n2 2) hl
          · rw [br_of (by simp; omega), decide_eq_false h6, rd_give]
            exact hg
        · rw [br_of (by simp; omega), decide_eq_false h5, rd_give]
          exact hg
    · rw [rd_took_t n2 hs h3]
      simp only [ob_s, br_t]
      have s3 : r1.drop 1 <:+ s := suf_dr n2 1
      rw [show ([44] : List UInt8).length = 1 from rfl, rd_number s3 hs hn]
      have n3 : (numS (r1.drop 1)).2 <:+ s := suf_dr s3 _
      cases hhi : numS (r1.drop 1) with
      | mk hi r2 =>
        rw [hhi] at n3
        simp only [ob_s] at n3 ⊢
        cases lo with
        | none =>
          simp only [numI]
          rw [br_of (by rfl), rd_give]
          exact hg
        | some lo =>
          simp only [numI, h3, cond_true]
          rw [br_not (natEq lo)]
          cases hi with
          | none =>
            simp only [hhi]
            cases h4 : [92, 125].isPrefixOf r2
            · rw [rd_took_f n3 h4]
              simp only [ob_s, Bool.not_false, br_t, rd_give, ob2_r, Bool.false_and, cond_false]
              exact hg
            rw [rd_took_t n3 hs h4]
            simp only [ob_s, Bool.not_true, br_f, Bool.true_and]
            by_cases h5 : lo ≤ 255
            · rw [br_not (by simp; omega), decide_eq_true h5, br_not (by rfl), br_not (by rfl)]
              exact rd_fin (suf_dr n3 2) hl
            · rw [br_of (by simp; omega), decide_eq_false h5, rd_give]
              exact hg
          | some hi =>
            simp only [hhi]
            cases h4 : [92, 125].isPrefixOf r2
            · rw [rd_took_f n3 h4]
              simp only [ob_s, Bool.not_false, br_t, rd_give, ob2_r, Bool.false_and, cond_false]
              exact hg
            rw [rd_took_t n3 hs h4]
            simp only [ob_s, Bool.not_true, br_f, Bool.true_and]
            by_cases h5 : lo ≤ 255
            · rw [br_not (by simp; omega), decide_eq_true h5]
              by_cases h6 : hi ≤ 255
              · rw [br_not (by simp; omega), br_of (natNe hi), decide_eq_true h6]
                by_cases h7 : lo ≤ hi
                · by_cases h8 : 1 ≤ hi
                  · rw [br_not (by simp; split <;> omega), decide_eq_true h7, decide_eq_true h8]
                    exact rd_fin (suf_dr n3 2) hl
                  · rw [br_of (by simp; split <;> omega), decide_eq_false h8, decide_eq_true h7, rd_give]
                    exact hg
                · rw [br_of (by simp; split <;> omega), decide_eq_false h7, rd_give]
                  exact hg
              · rw [br_of (by simp; omega), decide_eq_false h6, rd_give]
                exact hg
            · rw [br_of (by simp; omega), decide_eq_false h5, rd_give]
              exact hg
end
end Go.Dec
namespace Go.Dec
def erOK (e : Nat) : Prop := 40 ≤ e ∧ e ≤ 44
def TimesGood (t : Pt) (r : List UInt8) (b : Nat) (en : List Bool) : Res Pt → Prop
  | .ok t' r' b' en' => r' <:+ r ∧ b' = b ∧ en' = en ∧ t'.sz + 3 * r'.length ≤ t.sz + 3 * r.length
  | .er e _ => erOK e
theorem fin_good {t : Pt} {lo hi : Int} {r0 r : List UInt8} {b : Nat} {en : List Bool} (h : r <:+ r0) (h2 : r.length < r0.length) : TimesGood t r0 b en (finS t lo hi r b en) := by
  unfold finS
  cases [42].isPrefixOf r || [92, 123].isPrefixOf r
  · exact ⟨h, rfl, rfl, by simp only [Pt.sz]; omega⟩
  · exact ⟨by omega, by omega⟩
theorem numS_suf (r : List UInt8) : (numS r).2 <:+ r := List.drop_suffix _ _
theorem times_good (t : Pt) (r : List UInt8) (b : Nat) (en : List Bool) : TimesGood t r b en (timesS t r b en) := by
  have hg : ∀ k, TimesGood t r b en (.er 43 k) := fun k => ⟨by omega, by omega⟩
  unfold timesS
  cases h1 : [42].isPrefixOf r
  case true =>
    have := pre_len h1
    simp only [List.length_cons, List.length_nil] at this
    exact fin_good (List.drop_suffix _ _) (by rw [List.length_drop]; omega)
  simp only [cond_false]
  cases h2 : [92, 123].isPrefixOf r
  case false => exact ⟨List.suffix_refl _, rfl, rfl, Nat.le_refl _⟩
  simp only [cond_true]
  have hp := pre_len h2
  simp only [List.length_cons, List.length_nil] at hp
  have n2 := numS_suf (r.drop 2)
  cases hlo : numS (r.drop 2) with
  | mk lo r1 =>
    rw [hlo] at n2
    simp only at n2
    have l2 := n2.length_le
    rw [List.length_drop] at l2
    have hf : ∀ {lo hi : Int} {x : List UInt8}, x <:+ r1 → TimesGood t r b en (finS t lo hi (x.drop 2) b en) := by
      intro lo hi x hx
      have l3 := hx.length_le
      exact fin_good ((List.drop_suffix _ _).trans (hx.trans (n2.trans (List.drop_suffix _ _)))) (by rw [List.length_drop]; omega)
    cases lo with
    | none => exact hg _
    | some lo =>
      simp only
      cases [44].isPrefixOf r1
      · simp only [cond_false]
        cases [92, 125].isPrefixOf r1 && decide (lo ≤ 255) && decide (1 ≤ lo)
        · exact hg _
        · exact hf (List.suffix_refl _)
      · simp only [cond_true]
        have n3 := (numS_suf (r1.drop 1)).trans (List.drop_suffix 1 r1)
        cases hhi : numS (r1.drop 1) with
        | mk hi r2 =>
          rw [hhi] at n3
          cases hi with
          | none =>
            simp only
            cases [92, 125].isPrefixOf r2 && decide (lo ≤ 255)
            · exact hg _
            · exact hf n3
          | some hi =>
            simp only
            cases [92, 125].isPrefixOf r2 && decide (lo ≤ 255) && decide (hi ≤ 255) && decide (lo ≤ hi) && decide (1 ≤ hi)
            · exact hg _
            · exact hf n3
def AtomGood (r : List UInt8) : Res Pt → Prop
  | .ok t r' b' en' => r' <:+ r ∧ t.sz + 2 + 3 * r'.length ≤ 3 * r.length ∧ b' ≤ 9 ∧ en'.length = 10
  | .er e _ => erOK e
def RowGood (r : List UInt8) : Res (Option Pt) → Prop
  | .ok t r' b' en' => r' <:+ r ∧ (match t with | none => 0 | some t => t.sz + 1) + 3 * r'.length ≤ 3 * r.length ∧ b' ≤ 9 ∧ en'.length = 10
  | .er e _ => erOK e
theorem atom_good {row : List UInt8 → Nat → List Bool → Res (Option Pt)} {first : Bool} {r : List UInt8} {b : Nat} {en : List Bool} (hb : b ≤ 9) (he : en.length = 10)
    (hrow : ∀ r, b + 1 ≤ 9 → RowGood r (row r (b + 1) en)) : AtomGood r (atomS row first r b en) := by
  have hg : ∀ e k, 40 ≤ e → e ≤ 44 → AtomGood r (.er e k) := fun e k h1 h2 => ⟨h1, h2⟩
  unfold atomS
  cases r with
  | nil => exact hg _ _ (by omega) (by omega)
  | cons c r1 =>
    have hone : ∀ p, AtomGood (c :: r1) (.ok (.bytes p) r1 b en) := fun p => ⟨List.suffix_cons _ _, by simp only [Pt.sz, List.length_cons]; omega, hb, he⟩
    simp only
    cases c == 46
    case true => exact hone _
    simp only [cond_false]
    cases c == 91
    case true =>
      simp only [cond_true]
      cases hk : brkS (c :: r1) with
      | none => exact hg _ _ (by omega) (by omega)
      | some x =>
        obtain ⟨p, k⟩ := x
        have := brkS_len hk
        exact ⟨List.drop_suffix _ _, by simp only [Pt.sz, List.length_drop]; omega, hb, he⟩
    simp only [cond_false]
    cases c == 92
    case false => exact hone _
    simp only [cond_true]
    cases r1 with
    | nil => exact hg _ _ (by omega) (by omega)
    | cons d r2 =>
      have htwo : ∀ t : Pt, t.sz = 1 → AtomGood (c :: d :: r2) (.ok t r2 b en) := fun t ht => ⟨(List.suffix_cons _ _).trans (List.suffix_cons _ _), by simp only [ht, List.length_cons]; omega, hb, he⟩
      simp only
      cases d == 40
      case true =>
        simp only [cond_true]
        cases hb9 : b == 9
        case true => exact hg _ _ (by omega) (by omega)
        have hb9 : b ≠ 9 := by simpa using hb9
        simp only [cond_false]
        have hr := hrow r2 (by omega)
        cases ho : row r2 (b + 1) en with
        | er e k => rw [ho] at hr; exact hr
        | ok t r3 b3 en3 =>
          rw [ho] at hr
          obtain ⟨h1, h2, h3, h4⟩ := hr
          cases t with
          | none => exact hg _ _ (by omega) (by omega)
          | some t =>
            simp only
            cases hp : [92, 41].isPrefixOf r3
            · exact hg _ _ (by omega) (by omega)
            · have hl := pre_len hp
              simp only [List.length_cons, List.length_nil] at hl
              refine ⟨(List.drop_suffix _ _).trans (h1.trans ((List.suffix_cons _ _).trans (List.suffix_cons _ _))), ?_, h3, ?_⟩
              · simp only [Pt.sz, List.length_drop, List.length_cons]
                simp only at h2
                omega
              · rw [List.length_set]; exact h4
      simp only [cond_false]
      cases decide (49 ≤ d.toNat) && decide (d.toNat ≤ 57)
      case true =>
        simp only [cond_true]
        cases en.getD (d.toNat - 48) false
        · exact hg _ _ (by omega) (by omega)
        · exact htwo _ rfl
      simp only [cond_false]
      cases d == 110
      case true => exact htwo _ rfl
      simp only [cond_false]
      cases special7.contains d
      case true => exact htwo _ rfl
      simp only [cond_false]
      cases d == 123 && first
      · exact hg _ _ (by omega) (by omega)
      · exact hg _ _ (by omega) (by omega)
theorem atom_mono {row : List UInt8 → Nat → List Bool → Res (Option Pt)} {f0 : Nat} {first : Bool} {r : List UInt8} {b : Nat} {en : List Bool} {t : Pt} {r' : List UInt8} {b' : Nat} {en' : List Bool}
    (hrow : ∀ r b en, en.length = 10 → b + 1 ≤ 9 → 11 ≤ f0 + (b + 1) → ∀ t r' b' en', row r (b + 1) en = .ok t r' b' en' → b + 1 ≤ b') (he : en.length = 10) (hb : b ≤ 9) (hf0 : 10 ≤ f0 + b)
    (h : atomS row first r b en = .ok t r' b' en') : b ≤ b' := by
  unfold atomS at h
  cases r with
  | nil => simp at h
  | cons c r1 =>
    simp only at h
    cases h1 : c == 46 <;> rw [h1] at h <;> simp only [cond_true, cond_false, Res.ok.injEq] at h
    case true => omega
    cases h2 : c == 91 <;> rw [h2] at h <;> simp only [cond_true, cond_false] at h
    case true =>
      cases h3 : brkS (c :: r1) with
      | none => rw [h3] at h; simp at h
      | some x => rw [h3] at h; simp only [Res.ok.injEq] at h; omega
    cases h3 : c == 92 <;> rw [h3] at h <;> simp only [cond_true, cond_false, Res.ok.injEq] at h
    case false => omega
    cases r1 with
    | nil => simp at h
    | cons d r2 =>
      simp only at h
      cases h4 : d == 40 <;> rw [h4] at h <;> simp only [cond_true, cond_false] at h
      case true =>
        cases h5 : b == 9 <;> rw [h5] at h <;> simp only [cond_true, cond_false] at h
        case true => simp at h
        have hb9 : b ≠ 9 := by simpa using h5
        have hr := hrow r2 b en he (by omega) (by omega)
        cases ho : row r2 (b + 1) en with
        | er e k => rw [ho] at h; simp at h
        | ok t r3 b3 en3 =>
          have := hr _ _ _ _ ho
          rw [ho] at h
          cases t with
          | none => simp at h
          | some t =>
            simp only at h
            cases h6 : [92, 41].isPrefixOf r3 <;> rw [h6] at h <;> simp only [cond_true, cond_false, Res.ok.injEq] at h
            · simp at h
            · omega
      cases h5 : decide (49 ≤ d.toNat) && decide (d.toNat ≤ 57) <;> rw [h5] at h <;> simp only [cond_true, cond_false] at h
      case true =>
        cases h6 : en.getD (d.toNat - 48) false <;> rw [h6] at h <;> simp only [cond_true, cond_false, Res.ok.injEq] at h
        · simp at h
        · omega
      cases h6 : d == 110 <;> rw [h6] at h <;> simp only [cond_true, cond_false, Res.ok.injEq] at h
      case true => omega
      cases h7 : special7.contains d <;> rw [h7] at h <;> simp only [cond_true, cond_false, Res.ok.injEq] at h
      case true => omega
      cases h8 : d == 123 && first <;> rw [h8] at h <;> simp at h
def szL : List Pt → Nat
  | [] => 0
  | t :: ts => t.sz + 1 + szL ts
theorem szL_app : ∀ (a b : List Pt), szL (a ++ b) = szL a + szL b
  | [], b => by simp [szL]
  | t :: a, b => by simp [szL, szL_app a b]; omega
theorem catL_sz : ∀ (ts : List Pt), (match catL ts with | none => 0 | some t => t.sz + 1) = szL ts
  | [] => rfl
  | t :: ts => by
    have := catL_sz ts
    unfold catL szL
    cases h : catL ts with
    | none => rw [h] at this; simp only at this ⊢; omega
    | some u => rw [h] at this; simp only [Pt.sz] at this ⊢; omega
def ItemsGood (r : List UInt8) (acc : List Pt) : Res (List Pt) → Prop
  | .ok ts r' b' en' => r' <:+ r ∧ szL ts + 3 * r'.length ≤ szL acc + 3 * r.length ∧ b' ≤ 9 ∧ en'.length = 10
  | .er e _ => erOK e
theorem items_good {row : List UInt8 → Nat → List Bool → Res (Option Pt)} {f0 : Nat} (hrow : ∀ r b en, en.length = 10 → b + 1 ≤ 9 → 11 ≤ f0 + (b + 1) → RowGood r (row r (b + 1) en) ∧ ∀ t r' b' en', row r (b + 1) en = .ok t r' b' en' → b + 1 ≤ b') :
    ∀ (f : Nat) (first : Bool) (r : List UInt8) (b : Nat) (en : List Bool) (acc : List Pt), r.length < f → b ≤ 9 → en.length = 10 → 10 ≤ f0 + b → ItemsGood r acc (itemsS row f first r b en acc) ∧ ∀ t r' b' en', itemsS row f first r b en acc = .ok t r' b' en' → b ≤ b' := by
  intro f
  induction f with
  | zero => intro first r b en acc h; omega
  | succ f ih =>
    intro first r b en acc hf hb he hf0
    unfold itemsS
    cases hc : closesS r
    case true =>
      refine ⟨⟨List.suffix_refl _, Nat.le_refl _, hb, he⟩, ?_⟩
      intro t r' b' en' h
      simp only [cond_true, Res.ok.injEq] at h
      omega
    simp only [cond_false]
    cases hd : [36].isPrefixOf r && closesS (r.drop 1)
    case true =>
      simp only [Bool.and_eq_true] at hd
      have := pre_len hd.1
      simp only [List.length_cons, List.length_nil] at this
      refine ⟨⟨List.drop_suffix _ _, ?_, hb, he⟩, ?_⟩
      · rw [szL_app]; simp only [szL, Pt.sz, List.length_drop]; omega
      · intro t r' b' en' h
        simp only [cond_true, Res.ok.injEq] at h
        omega
    simp only [cond_false]
    have ha := atom_good (first := first) (r := r) hb he (fun r hb => (hrow r b en he hb (by omega)).1)
    have hab : ∀ t r' b' en', atomS row first r b en = .ok t r' b' en' → b ≤ b' := fun t r' b' en' h => atom_mono (f0 := f0) (fun r b en he hb hf => (hrow r b en he hb hf).2) he hb hf0 h
    cases ho : atomS row first r b en with
    | er e k => rw [ho] at ha; exact ⟨ha, by intro t r' b' en' h; simp at h⟩
    | ok t r1 b1 en1 =>
      have hb1 := hab _ _ _ _ ho
      rw [ho] at ha
      obtain ⟨a1, a2, a3, a4⟩ := ha
      simp only
      have ht := times_good t r1 b1 en1
      cases ho2 : timesS t r1 b1 en1 with
      | er e k => rw [ho2] at ht; exact ⟨ht, by intro t r' b' en' h; simp at h⟩
      | ok t2 r2 b2 en2 =>
        rw [ho2] at ht
        obtain ⟨c1, rfl, rfl, c4⟩ := ht
        simp only
        have hlen := c1.length_le
        have hlen1 := a1.length_le
        have ht2 := t.sz_pos
        have := ih false r2 b2 en2 (acc ++ [t2]) (by omega) a3 a4 (by omega)
        cases ho3 : itemsS row f false r2 b2 en2 (acc ++ [t2]) with
        | er e k => rw [ho3] at this; exact ⟨this.1, by intro t r' b' en' h; simp at h⟩
        | ok ts r4 b4 en4 =>
          rw [ho3] at this
          obtain ⟨⟨d1, d2, d3, d4⟩, d5⟩ := this
          have d5 := d5 _ _ _ _ rfl
          refine ⟨⟨d1.trans (c1.trans a1), ?_, d3, d4⟩, ?_⟩
          · rw [szL_app] at d2; simp only [szL] at d2; omega
          · intro t r' b' en' h
            simp only [Res.ok.injEq] at h
            omega
theorem row_good : ∀ (f : Nat) (r : List UInt8) (b : Nat) (en : List Bool), 11 ≤ f + b → b ≤ 9 → en.length = 10 → RowGood r (rowS f r b en) ∧ ∀ t r' b' en', rowS f r b en = .ok t r' b' en' → b ≤ b' := by
  intro f
  induction f with
  | zero => intro r b en h hb; omega
  | succ f ih =>
    intro r b en hf hb he
    unfold rowS
    simp only
    have hr1 : (bif [94].isPrefixOf r then r.drop 1 else r) <:+ r := by
      cases [94].isPrefixOf r
      · exact List.suffix_refl _
      · exact List.drop_suffix _ _
    have hacc : szL (bif [94].isPrefixOf r then [Pt.bol] else []) + 3 * (bif [94].isPrefixOf r then r.drop 1 else r).length ≤ 3 * r.length := by
      cases h : [94].isPrefixOf r
      · simp [szL]
      · have := pre_len h
        simp only [List.length_cons, List.length_nil] at this
        simp [szL, Pt.sz]; omega
    have := items_good (row := rowS f) (f0 := f) (fun r b en he hb hf => ih r (b + 1) en hf hb he) ((bif [94].isPrefixOf r then r.drop 1 else r).length + 1) true (bif [94].isPrefixOf r then r.drop 1 else r) b en (bif [94].isPrefixOf r then [Pt.bol] else []) (by omega) hb he (by omega)
    cases ho : itemsS (rowS f) ((bif [94].isPrefixOf r then r.drop 1 else r).length + 1) true (bif [94].isPrefixOf r then r.drop 1 else r) b en (bif [94].isPrefixOf r then [Pt.bol] else []) with
    | er e k => rw [ho] at this; exact ⟨this.1, by intro t r' b' en' h; simp at h⟩
    | ok ts r2 b2 en2 =>
      rw [ho] at this
      obtain ⟨⟨d1, d2, d3, d4⟩, d5⟩ := this
      have d5 := d5 _ _ _ _ rfl
      refine ⟨⟨d1.trans hr1, ?_, d3, d4⟩, ?_⟩
      · rw [catL_sz]; omega
      · intro t r' b' en' h
        simp only [Res.ok.injEq] at h
        omega
end Go.Dec
namespace Go.Dec
def ROK (s : List UInt8) (l : List Nd) (o : Res (Option Pt)) (e : Option (Sum (Int × RdT) (Int × Int × RdT))) : Prop := match o with
  | .ok none r b en => e = some (.inl (-1, s, psn s r, (b : Int), en, l, ()))
  | .ok (some t) r b en => e = some (.inl (t.top l.length, s, psn s r, (b : Int), en, l ++ t.enc l.length, ()))
  | .er c k => ∃ x : RdT, e = some (.inr ((c : Int), ((s.length - k : Nat) : Int), x))
theorem special_tab : ((List.range 256).all fun i => decide (Go.Lib.indexByte special7 (UInt8.ofNat i) ≥ 0) == special7.contains (UInt8.ofNat i)) = true := by decide +kernel
theorem u8_of (d : UInt8) : UInt8.ofNat d.toNat = d := by simp
theorem special_eq {n : Nat} (d : UInt8) : (ob (strings_IndexByte n ([46, 91, 92, 42, 94, 36, 47], (d.toNat : Int))) fun y => some (decide (y ≥ 0))) = some (special7.contains d) := by
  have := all_lt special_tab d.toNat_lt
  rw [beq_iff_eq, u8_of] at this
  unfold strings_IndexByte
  simp only [ob_s, Int.toNat_natCast]
  rw [show (d.toNat).toUInt8 = d from u8_of d]
  rw [← this]; rfl
theorem wd_one (d : UInt8) : wd (rangeP d.toNat d.toNat) = wd (oneP d) := wd_congr fun i hi => by
  simp only [rangeP, oneP]; rw [Bool.eq_iff_iff]; simp; omega
theorem wd_of1 (d : UInt8) : wd (ofP [d]) = wd (oneP d) := wd_congr fun i hi => by
  simp only [ofP, oneP]; rw [Bool.eq_iff_iff]; simp; omega
section
variable {n : Nat} {s r : List UInt8} {b : Nat} {en : List Bool} {l : List Nd} {rw' : RdT → Option (Sum (Int × RdT) (Int × Int × RdT))} {row : List UInt8 → Nat → List Bool → Res (Option Pt)}
theorem POK_pass {o : Res Pt} {e : Option (Sum (Int × RdT) (Int × Int × RdT))} (h : POK s l o e) : POK s l o (ob2 e (fun y11 =>
          some (.inl (y11.1, y11.2.1, y11.2.2.1, y11.2.2.2.1, y11.2.2.2.2.1, y11.2.2.2.2.2.1, ()))) (fun y11 =>
          some (.inr (y11.1, y11.2.1, y11.2.2.1, y11.2.2.2.1, y11.2.2.2.2.1, y11.2.2.2.2.2.1, y11.2.2.2.2.2.2.1, ())))) := by
  cases o with
  | er c k => obtain ⟨x, h⟩ := h; rw [h]; exact ⟨_, rfl⟩
  | ok t r b en => simp only [POK] at h; rw [h]; rfl
theorem rd_one {p : Nat → Bool} (hl : l.length < 900000) : POK s l (.ok (.bytes p) r b en) (ob (bre_reader_bytes n (wd p, s, psn s r, (b : Int), en, l, ())) fun y => some (.inl (y.1, y.2.1, y.2.2.1, y.2.2.2.1, y.2.2.2.2.1, y.2.2.2.2.2.1, ()))) := by
  rw [rd_bytes (by omega)]
  simp only [ob_s, POK, Pt.top, Pt.sz]
  congr 3; omega
theorem rd_group {k : Nat} (h : r <:+ s) (hs : s.length < 100000) (hl : l.length + 3 * r.length < 800000) (he : en.length = 10) (hb : b ≤ 9)
    (hrow : b + 1 ≤ 9 → RowGood r (row r (b + 1) en) ∧ ROK s l (row r (b + 1) en) (rw' (s, psn s r, ((b + 1 : Nat) : Int), en, l, ()))) :
    POK s l (bif b == 9 then .er 41 k
          else match row r (b + 1) en with
            | .er e k => .er e k
            | .ok none _ _ _ => .er 41 k
            | .ok (some t) r3 b3 en3 => bif [92, 41].isPrefixOf r3 then .ok (.group t (b + 1)) (r3.drop 2) b3 (en3.set (b + 1) true) else .er 41 k)
      (bre_reader_group n rw' (((s.length - k : Nat) : Int), s, psn s r, (b : Int), en, l, ())) := by
  have hg : ∀ {x : RdT}, POK s l (.er 41 k) (some (.inr (41, ((s.length - k : Nat) : Int), x))) := fun {x} => ⟨x, rfl⟩
  unfold bre_reader_group
  simp only
  cases h9 : b == 9
  case true =>
    have : b = 9 := by simpa using h9
    rw [br_of (by simp [this]), rd_give]
    exact hg
  have h9 : b ≠ 9 := by simpa using h9
  rw [br_not (by simp; omega), wrapI (by omega) (by omega)]
  obtain ⟨hgood, hok⟩ := hrow (by omega)
  rw [show (b : Int) + 1 = ((b + 1 : Nat) : Int) from rfl]
  simp only [cond_false]
  cases ho : row r (b + 1) en with
  | er e k2 =>
    rw [ho] at hok
    obtain ⟨x, hok⟩ := hok
    rw [hok]
    exact ⟨_, rfl⟩
  | ok t r3 b3 en3 =>
    rw [ho] at hok hgood
    obtain ⟨g1, g2, g3, g4⟩ := hgood
    have hs3 : r3 <:+ s := g1.trans h
    cases t with
    | none =>
      simp only [ROK] at hok
      rw [hok]
      simp only [ob2_l]
      rw [br_of (by rfl), rd_give]
      exact hg
    | some t =>
      simp only [ROK] at hok
      rw [hok]
      simp only [ob2_l]
      have htop : (t.top l.length == (-1)) = false := by
        rw [Bool.eq_false_iff, ne_eq, beq_iff_eq]; unfold Pt.top; have := t.sz_pos; omega
      rw [br_not htop]
      cases hp : [92, 41].isPrefixOf r3
      · rw [rd_took_f hs3 hp]
        simp only [ob_s, Bool.not_false, br_t, rd_give, ob2_r, cond_false]
        exact hg
      · rw [rd_took_t hs3 (by omega) hp]
        simp only [ob_s, Bool.not_true, br_f, cond_true]
        rw [chk_of (inB_t (by omega) (by omega)), chk_of (by simp; omega)]
        simp only at g2
        rw [rd_put (by rw [List.length_append, Pt.enc_len]; omega)]
        simp only [ob_s, POK, Pt.enc, Pt.top, Pt.sz, List.length_append, Pt.enc_len, List.append_assoc, Int.toNat_natCast]
        congr 3; omega
theorem rd_atom {first : Bool} (h : r <:+ s) (hne : r ≠ []) (hs : s.length < 100000) (hn : s.length + 500 ≤ n) (hl : l.length + 3 * r.length < 800000) (he : en.length = 10) (hb : b ≤ 9)
    (hrow : ∀ r2, r2 <:+ r → r2.length < r.length → b + 1 ≤ 9 → RowGood r2 (row r2 (b + 1) en) ∧ ROK s l (row r2 (b + 1) en) (rw' (s, psn s r2, ((b + 1 : Nat) : Int), en, l, ()))) :
    POK s l (atomS row first r b en) (bre_reader_atom n rw' (first, s, psn s r, (b : Int), en, l, ())) := by
  have hlen := suf_le h
  unfold bre_reader_atom atomS
  cases r with
  | nil => exact absurd rfl hne
  | cons c r1 =>
    simp only
    simp only [List.length_cons] at hl hlen
    have h1 : r1 <:+ s := (List.suffix_cons _ _).trans h
    have e46 : [46].isPrefixOf (c :: r1) = (46 == c) := by simp [List.isPrefixOf]
    have e91 : [91].isPrefixOf (c :: r1) = (91 == c) := by simp [List.isPrefixOf]
    have e92 : [92].isPrefixOf (c :: r1) = (92 == c) := by simp [List.isPrefixOf]
    rw [beqC c 46, beqC c 91, beqC c 92]
    cases h46 : (46 == c)
    case true =>
      rw [rd_took_t h (by omega) (by rw [e46, h46])]
      simp only [ob_s, br_t, cond_true]
      have := set_Not_eq (n := n) (by omega) (fun _ => false)
      rw [wd_none] at this
      rw [this]
      simp only [ob_s]
      exact rd_one (r := r1) (by omega)
    rw [rd_took_f h (by rw [e46, h46])]
    simp only [ob_s, br_f, cond_false]
    rw [rd_ahead h, e91]
    simp only [ob_s]
    cases h91 : (91 == c)
    case true =>
      simp only [br_t, cond_true]
      rw [chk_of (psn_in h), psn_nat, suf_drop h, bre_Bracket_eq (by omega) (by simp only [List.length_cons]; omega) (by simp only [List.length_cons]; omega)]
      simp only [ob_s]
      cases hk : brkS (c :: r1) with
      | none =>
        simp only [brkT]
        rw [br_of (by rfl), rd_give]
        exact ⟨_, rfl⟩
      | some x =>
        obtain ⟨p, k⟩ := x
        have hk2 := brkS_len hk
        simp only [brkT]
        rw [br_not (by rfl), psn_wrap h (by omega) hk2.2]
        exact rd_one (r := (c :: r1).drop k) (by omega)
    simp only [br_f, cond_false]
    rw [rd_ahead h, e92]
    simp only [ob_s]
    have hp1 : IntKind.wrap .i64 (psn s (c :: r1) + 1) = psn s r1 := psn_wrap h (by omega) (k := 1) (by simp)
    cases h92 : (92 == c)
    case false =>
      simp only [br_f, cond_false]
      rw [hp1]
      have e0 : IntKind.wrap .i64 (psn s r1 - 1) = psn s (c :: r1) := by
        rw [← hp1, wrapI (x := psn s (c :: r1) + 1) (by unfold psn; omega) (by unfold psn; omega), wrapI (by unfold psn; omega) (by unfold psn; omega)]; omega
      rw [e0]
      have hps : psn s (c :: r1) = ((s.length - (r1.length + 1) : Nat) : Int) := rfl
      have hps1 : psn s r1 = ((s.length - r1.length : Nat) : Int) := rfl
      rw [chk_of (by rw [hps, hps1]; simp; omega), psn_nat, psn_nat]
      have e : (s.take (s.length - r1.length)).drop (s.length - (c :: r1).length) = [c] := by
        rw [List.drop_take, suf_drop h]
        simp only [List.length_cons]
        rw [show s.length - r1.length - (s.length - (r1.length + 1)) = 1 by omega]; rfl
      rw [e, set_Of_eq _ (by simp; omega) (by simp), wd_of1]
      simp only [ob_s]
      exact rd_one (r := r1) (by omega)
    simp only [br_t, cond_true]
    refine POK_pass ?_
    unfold bre_reader_escaped
    simp only
    rw [hp1, psn_end h1]
    cases r1 with
    | nil =>
      simp only [List.isEmpty_nil, br_t, rd_give, ob2_r]
      exact ⟨_, rfl⟩
    | cons d r2 =>
      have h2 : r2 <:+ s := (List.suffix_cons _ _).trans h1
      simp only [List.length_cons] at hlen hl
      simp only [List.isEmpty_cons, br_f]
      have hin : inB (psn s (d :: r2)) s.length = true := inB_t (by unfold psn; omega) (by unfold psn; simp only [List.length_cons]; omega)
      have hgd : getAt 0 s (psn s (d :: r2)) = d := by
        have := psn_get (d := 0) h1 (j := 0) (c := d) rfl
        simpa using this
      have hp2 : IntKind.wrap .i64 (psn s (d :: r2) + 1) = psn s r2 := psn_wrap h1 (by omega) (k := 1) (by simp)
      rw [chk_of hin, hgd, hp2]
      have e40 : ((d.toNat : Int) == 40) = (d == 40) := by rw [beqC]; exact eqI 40
      have e110 : ((d.toNat : Int) == 110) = (d == 110) := by rw [beqC]; exact eqI 110
      have e123 : ((d.toNat : Int) == 123) = (d == 123) := by rw [beqC]; exact eqI 123
      rw [e40, e110, e123]
      cases h40 : (d == 40)
      case true =>
        simp only [br_t, cond_true]
        have hG := rd_group (n := n) (row := row) (rw' := rw') (k := (c :: d :: r2).length) (l := l) (en := en) (b := b) h2 hs (by omega) he hb (fun hb9 => hrow r2 ((List.suffix_cons _ _).trans (List.suffix_cons _ _)) (by simp only [List.length_cons]; omega) hb9)
        have hpk : ((s.length - (c :: d :: r2).length : Nat) : Int) = psn s (c :: d :: r2) := rfl
        rw [hpk] at hG
        exact POK_pass hG
      simp only [br_f, cond_false]
      have hrest : POK s l (bif d == 110 then .ok (.bytes (oneP 10)) r2 b en
        else bif special7.contains d then .ok (.bytes (oneP d)) r2 b en
        else bif d == 123 && first then .er 43 (c :: d :: r2).length
        else .er 40 (c :: d :: r2).length) (
          br (d == 110) (
            ob (set_Of n [10]) fun y15 =>
            ob (bre_reader_bytes n (y15, s, psn s r2, (b : Int), en, l, ())) fun y16 =>
            some (.inl (y16.1, y16.2.1, y16.2.2.1, y16.2.2.2.1, y16.2.2.2.2.1, y16.2.2.2.2.2.1, ()))) (
            ob (strings_IndexByte n ([46, 91, 92, 42, 94, 36, 47], (d.toNat : Int))) fun y17 =>
            br (decide (y17 ≥ 0)) (
              ob (set_Range n ((d.toNat : Int), (d.toNat : Int))) fun y18 =>
              ob (bre_reader_bytes n (y18, s, psn s r2, (b : Int), en, l, ())) fun y19 =>
              some (.inl (y19.1, y19.2.1, y19.2.2.1, y19.2.2.2.1, y19.2.2.2.2.1, y19.2.2.2.2.2.1, ()))) (
              br (d == 123) (
                br first (
                  ob2 (bre_reader_give n (43, psn s (c :: d :: r2), s, psn s r2, (b : Int), en, l, ())) (fun y20 =>
                    none) (fun y20 =>
                    some (.inr (y20.1, y20.2.1, y20.2.2.1, y20.2.2.2.1, y20.2.2.2.2.1, y20.2.2.2.2.2.1, y20.2.2.2.2.2.2.1, ())))) (
                  ob2 (bre_reader_give n (40, psn s (c :: d :: r2), s, psn s r2, (b : Int), en, l, ())) (fun y21 =>
                    none) (fun y21 =>
                    some (.inr (y21.1, y21.2.1, y21.2.2.1, y21.2.2.2.1, y21.2.2.2.2.1, y21.2.2.2.2.2.1, y21.2.2.2.2.2.2.1, ()))))) (
                ob2 (bre_reader_give n (40, psn s (c :: d :: r2), s, psn s r2, (b : Int), en, l, ())) (fun y22 =>
                  none) (fun y22 =>
                  some (.inr (y22.1, y22.2.1, y22.2.2.1, y22.2.2.2.1, y22.2.2.2.2.1, y22.2.2.2.2.2.1, y22.2.2.2.2.2.2.1, ()))))))) := by
        cases h110 : (d == 110)
        case true =>
          simp only [br_t, cond_true]
          rw [set_Of_eq _ (by simp; omega) (by simp), wd_of1]
          simp only [ob_s]
          exact rd_one (by omega)
        simp only [br_f, cond_false]
        have hsp := special_eq (n := n) d
        cases hix : strings_IndexByte n ([46, 91, 92, 42, 94, 36, 47], (d.toNat : Int)) with
        | none => rw [hix] at hsp; exact absurd hsp (by simp [ob])
        | some y =>
          rw [hix] at hsp
          simp only [ob_s, Option.some.injEq] at hsp ⊢
          rw [hsp]
          cases special7.contains d
          case true =>
            simp only [br_t, cond_true]
            rw [set_Range_eq (by omega) d.toNat_lt d.toNat_lt, wd_one]
            simp only [ob_s]
            exact rd_one (by omega)
          simp only [br_f, cond_false, rd_give, ob2_r]
          cases (d == 123) <;> cases first <;> exact ⟨_, rfl⟩
      by_cases h49 : 49 ≤ d.toNat
      · rw [br_of (by simp; omega), decide_eq_true h49]
        by_cases h57 : d.toNat ≤ 57
        · rw [br_of (by simp; omega), decide_eq_true h57]
          simp only [Bool.and_self, cond_true]
          have hv : IntKind.wrap .i64 (IntKind.wrap .u8 ((d.toNat : Int) - 48)) = ((d.toNat - 48 : Nat) : Int) := by
            rw [IntWalk.u8_in _ (by omega), wrapI (by omega) (by omega)]; omega
          rw [hv, chk_of (inB_t (by omega) (by omega)), chk_of (by simp; omega), Int.toNat_natCast, show Ty.dflt .bool = false from rfl]
          cases en.getD (d.toNat - 48) false
          · simp only [Bool.not_false, br_t, rd_give, ob2_r, cond_false]
            exact ⟨_, rfl⟩
          · simp only [Bool.not_true, br_f, cond_true]
            rw [rd_put (by omega)]
            simp only [ob_s, POK, Pt.enc, Pt.top, Pt.sz]
            congr 3; omega
        · rw [br_not (by simp; omega), decide_eq_false h57, Bool.and_false]
          simp only [cond_false]
          exact hrest
      · rw [br_not (by simp; omega), decide_eq_false h49, Bool.false_and]
        simp only [cond_false]
        exact hrest
end
end Go.Dec
namespace Go.Dec
def szA : List Pt → Nat
  | [] => 0
  | t :: ts => t.sz + szA ts
def seqE : Nat → List Pt → List Nd
  | _, [] => []
  | o, t :: ts => t.enc o ++ seqE (o + t.sz) ts
def topsL : Nat → List Pt → List Int
  | _, [] => []
  | o, t :: ts => t.top o :: topsL (o + t.sz) ts
theorem szA_app : ∀ (a b : List Pt), szA (a ++ b) = szA a + szA b
  | [], b => by simp [szA]
  | t :: a, b => by simp [szA, szA_app a b]; omega
theorem szA_le : ∀ ts : List Pt, szA ts + ts.length = szL ts
  | [] => rfl
  | t :: ts => by have := szA_le ts; simp [szA, szL]; omega
theorem seqE_len : ∀ (ts : List Pt) (o : Nat), (seqE o ts).length = szA ts
  | [], _ => rfl
  | t :: ts, o => by simp [seqE, szA, Pt.enc_len, seqE_len ts]
theorem seqE_app : ∀ (ts : List Pt) (o : Nat) (t : Pt), seqE o (ts ++ [t]) = seqE o ts ++ t.enc (o + szA ts)
  | [], o, t => by simp [seqE, szA]
  | u :: ts, o, t => by simp [seqE, szA, seqE_app ts, Nat.add_assoc]
theorem topsL_app : ∀ (ts : List Pt) (o : Nat) (t : Pt), topsL o (ts ++ [t]) = topsL o ts ++ [t.top (o + szA ts)]
  | [], o, t => by simp [topsL, szA]
  | u :: ts, o, t => by simp [topsL, szA, topsL_app ts, Nat.add_assoc]
theorem topsL_len : ∀ (ts : List Pt) (o : Nat), (topsL o ts).length = ts.length
  | [], _ => rfl
  | t :: ts, o => by simp [topsL, topsL_len ts]
theorem topsL_at (pre : List Pt) (t : Pt) (post : List Pt) (o : Nat) (d : Int) : (topsL o (pre ++ t :: post)).getD pre.length d = t.top (o + szA pre) := by
  induction pre generalizing o with
  | nil => simp [topsL, szA]
  | cons u pre ih => simp only [List.cons_append, topsL, szA, List.length_cons, List.getD_cons_succ]; rw [ih]; congr 1; omega
theorem catL_app : ∀ (pre : List Pt) (t : Pt), catL (pre ++ [t]) = some (pre.foldr Pt.cat t)
  | [], t => rfl
  | u :: pre, t => by simp only [List.cons_append, catL, catL_app pre t, List.foldr_cons]
section
variable {n : Nat} {s : List UInt8} {l : List Nd} {rw' : RdT → Option (Sum (Int × RdT) (Int × Int × RdT))}
theorem cat_loop {at' : Int} {b : Int} {en : List Bool} {ts : List Pt} (hl : l.length + szL ts < 900000) : ∀ (k m : Nat) (pre suf : List Pt) (u : Pt), pre.length = k → ts = pre ++ suf → szA pre + u.sz + pre.length ≤ szL ts → k < m →
    fix (bre_reader_row_loop1 n) m (u.top (l.length + szA pre), (k : Int) - 1, s, at', b, en, l ++ seqE l.length pre ++ u.enc (l.length + szA pre), topsL l.length ts, ()) =
      some (.inl ((pre.foldr Pt.cat u).top l.length, s, at', b, en, l ++ (pre.foldr Pt.cat u).enc l.length, ())) := by
  intro k
  induction k with
  | zero =>
    intro m pre suf u hk hts hsz hm
    have : pre = [] := List.eq_nil_of_length_eq_zero hk
    subst this
    rw [fix_pos hm, bre_reader_row_loop1]
    simp only
    rw [br_not (by simp)]
    simp [seqE, szA]
  | succ k ih =>
    intro m pre suf u hk hts hsz hm
    obtain ⟨pre', t, rfl⟩ : ∃ pre' t, pre = pre' ++ [t] := by
      rcases List.eq_nil_or_concat pre with rfl | ⟨p, t, rfl⟩
      · simp at hk
      · exact ⟨p, t, by simp⟩
    have hk' : pre'.length = k := by simpa using hk
    have hts' : ts = pre' ++ t :: suf := by rw [hts]; simp
    have hat := topsL_at pre' t suf l.length 0
    rw [← hts', hk'] at hat
    have hlen : (topsL l.length ts).length = ts.length := topsL_len _ _
    have htl : k < ts.length := by rw [hts']; simp; omega
    rw [fix_pos (by omega), bre_reader_row_loop1]
    simp only
    rw [show ((k + 1 : Nat) : Int) - 1 = (k : Int) by omega]
    rw [br_of (by simp), hlen, chk_of (by rw [inBn htl]; simp), Int.toNat_natCast, Nat.zero_add, chk_of (by simp; omega), show Ty.dflt (.int .i64) = (0 : Int) from rfl, hat]
    rw [szA_app] at hsz
    simp only [szA, List.length_append, List.length_cons, List.length_nil] at hsz
    rw [rd_put (by simp only [List.length_append, seqE_len, szA_app, Pt.enc_len, szA]; omega)]
    simp only [ob_s]
    rw [wrapI (by omega) (by omega)]
    have hc := ih (m - 1) pre' (t :: suf) (.cat t u) hk' hts' (by simp only [Pt.sz]; omega) (by omega)
    have e1 : (((l ++ seqE l.length (pre' ++ [t]) ++ u.enc (l.length + szA (pre' ++ [t]))).length : Nat) : Int) = (Pt.cat t u).top (l.length + szA pre') := by
      simp only [List.length_append, seqE_len, szA_app, Pt.enc_len, szA, Pt.top, Pt.sz]; omega
    have e2 : l ++ seqE l.length (pre' ++ [t]) ++ u.enc (l.length + szA (pre' ++ [t])) ++ [(4, [0, 0, 0, 0], t.top (l.length + szA pre'), u.top (l.length + szA (pre' ++ [t])), 0, 0, 0, ())] = l ++ seqE l.length pre' ++ (Pt.cat t u).enc (l.length + szA pre') := by
      simp only [seqE_app, szA_app, szA, Pt.enc, List.append_assoc, Nat.add_zero, Nat.add_assoc]
    rw [e1, e2, hc, List.foldr_append]; rfl
theorem join2_eq {r : List UInt8} {b : Nat} {en : List Bool} {ts : List Pt} (hn : szL ts + 10 ≤ n) (hl : l.length + szL ts < 900000) :
    ROK s l (.ok (catL ts) r b en) (bre_reader_row_join2 n (s, psn s r, (b : Int), en, l ++ seqE l.length ts, topsL l.length ts, ())) := by
  unfold bre_reader_row_join2
  simp only
  rw [topsL_len]
  have hsl := szA_le ts
  rcases List.eq_nil_or_concat ts with rfl | ⟨pre, t, h⟩
  · rw [br_of (by rfl)]
    simp [catL, ROK, seqE]
  · have hts : ts = pre ++ [t] := by rw [h]; simp
    have hlen : ts.length = pre.length + 1 := by rw [hts]; simp
    have hat := topsL_at pre t [] l.length 0
    rw [show pre ++ t :: [] = ts by rw [hts]] at hat
    rw [br_not (by simp; exact fun h => by rw [h] at hlen; simp at hlen), hlen]
    rw [wrapI (x := ((pre.length + 1 : Nat) : Int) - 1) (by omega) (by omega), wrapI (by omega) (by omega)]
    rw [show ((pre.length + 1 : Nat) : Int) - 1 = (pre.length : Int) by omega, show ((pre.length + 1 : Nat) : Int) - 2 = (pre.length : Int) - 1 by omega]
    rw [chk_of (by rw [inBn (by omega)]; simp), Int.toNat_natCast, Nat.zero_add, chk_of (by simp), show Ty.dflt (.int .i64) = (0 : Int) from rfl, hat]
    have hc := cat_loop (n := n) (s := s) (l := l) (at' := psn s r) (b := (b : Int)) (en := en) (ts := ts) hl pre.length n pre [t] t rfl hts (by rw [hts, szA_app] at hsl; simp only [szA] at hsl; rw [hts]; simp only [List.length_append, List.length_cons, List.length_nil] at hsl; omega) (by omega)
    have e : l ++ seqE l.length ts = l ++ seqE l.length pre ++ t.enc (l.length + szA pre) := by rw [hts, seqE_app, List.append_assoc]
    rw [e, hc]
    have hcat : catL ts = some (pre.foldr Pt.cat t) := by rw [hts]; exact catL_app pre t
    rw [hcat]
    rfl
theorem item_loop {f0 R : Nat} (hs : s.length < 100000) (hn : 3 * s.length + 500 ≤ n)
    (hrow : ∀ r2 b2 en2 l2, r2 <:+ s → r2.length < R → b2 + 1 ≤ 9 → 11 ≤ f0 + (b2 + 1) → en2.length = 10 → l2.length + 3 * r2.length < 800000 → ROK s l2 (rowS f0 r2 (b2 + 1) en2) (rw' (s, psn s r2, ((b2 + 1 : Nat) : Int), en2, l2, ()))) :
    ∀ (f m : Nat) (first : Bool) (r : List UInt8) (b : Nat) (en : List Bool) (acc : List Pt), r <:+ s → r.length ≤ R → r.length < f → f ≤ m → b ≤ 9 → en.length = 10 → 10 ≤ f0 + b → l.length + szL acc + 3 * r.length < 800000 → szL acc + 3 * r.length ≤ 3 * s.length →
      ROK s l (match itemsS (rowS f0) f first r b en acc with
        | .er e k => .er e k
        | .ok ts r2 b2 en2 => .ok (catL ts) r2 b2 en2) (fix (bre_reader_row_loop0 n rw') m (first, s, psn s r, (b : Int), en, l ++ seqE l.length acc, topsL l.length acc, ())) := by
  intro f
  induction f with
  | zero => intro m first r b en acc _ _ h; omega
  | succ f ih =>
    intro m first r b en acc h hR hf hm hb he hf0 hl hsz
    have hle := suf_le h
    have hal := szA_le acc
    rw [fix_pos (by omega), bre_reader_row_loop0]
    simp only
    rw [rd_closes h]
    unfold itemsS
    simp only [ob_s]
    cases hc : closesS r
    case true =>
      simp only [Bool.not_true, br_f, cond_true, jn_e]
      exact join2_eq (by omega) (by omega)
    simp only [Bool.not_false, br_t, cond_false]
    rw [rd_ahead h]
    simp only [ob_s]
    have hne : r ≠ [] := by intro e; subst e; simp [closesS] at hc
    have hgo : ROK s l (match (match atomS (rowS f0) first r b en with
      | .er e k => (.er e k : Res (List Pt))
      | .ok t r1 b1 en1 => match timesS t r1 b1 en1 with
        | .er e k => .er e k
        | .ok t2 r2 b2 en2 => itemsS (rowS f0) f false r2 b2 en2 (acc ++ [t2])) with
        | .er e k => .er e k
        | .ok ts r2 b2 en2 => .ok (catL ts) r2 b2 en2) (bre_reader_row_join1 n rw' (fix (bre_reader_row_loop0 n rw') (m - 1)) (first, false, s, psn s r, (b : Int), en, l ++ seqE l.length acc, topsL l.length acc, ())) := by
      unfold bre_reader_row_join1
      simp only [br_f]
      have hll : (l ++ seqE l.length acc).length = l.length + szA acc := by rw [List.length_append, seqE_len]
      have ha := rd_atom (n := n) (rw' := rw') (row := rowS f0) (l := l ++ seqE l.length acc) (first := first) h hne hs (by omega) (by rw [hll]; omega) he hb
        (fun r2 hr2 hlt hb1 => ⟨(row_good f0 r2 (b + 1) en (by omega) hb1 he).1, hrow r2 b en _ (hr2.trans h) (by omega) hb1 (by omega) he (by rw [hll]; omega)⟩)
      have hg := atom_good (row := rowS f0) (first := first) (r := r) hb he (fun r hb1 => (row_good f0 r (b + 1) en (by omega) hb1 he).1)
      have hbb := (items_good (row := rowS f0) (f0 := f0) (fun r b en he hb hf => row_good f0 r (b + 1) en hf hb he) (f + 1) first r b en acc hf hb he hf0)
      cases ho : atomS (rowS f0) first r b en with
      | er e k =>
        rw [ho] at ha
        obtain ⟨x, ha⟩ := ha
        rw [ha]
        exact ⟨_, rfl⟩
      | ok t r1 b1 en1 =>
        rw [ho] at ha hg
        obtain ⟨g1, g2, g3, g4⟩ := hg
        simp only [POK] at ha
        rw [ha]
        simp only [ob2_l]
        have h1 : r1 <:+ s := g1.trans h
        have htm := rd_times (n := n) (l := l ++ seqE l.length acc) (t := t) (b := b1) (en := en1) h1 (by omega) (by omega) (by rw [hll]; omega)
        have htg := times_good t r1 b1 en1
        have htp := t.sz_pos
        rw [hll] at htm ⊢
        cases ho2 : timesS t r1 b1 en1 with
        | er e k =>
          rw [ho2] at htm
          obtain ⟨x, htm⟩ := htm
          rw [htm]
          exact ⟨_, rfl⟩
        | ok t2 r2 b2 en2 =>
          rw [ho2] at htm htg
          obtain ⟨c1, rfl, rfl, c4⟩ := htg
          simp only [POK] at htm
          rw [htm]
          simp only [ob2_l]
          have hc1 := c1.length_le
          have hg1 := g1.length_le
          rw [chk_of (by rw [topsL_len]; simp [room]; omega), hll]
          have e1 : l ++ seqE l.length acc ++ t2.enc (l.length + szA acc) = l ++ seqE l.length (acc ++ [t2]) := by rw [seqE_app, List.append_assoc]
          have e2 : topsL l.length acc ++ [t2.top (l.length + szA acc)] = topsL l.length (acc ++ [t2]) := (topsL_app _ _ _).symm
          rw [e1, e2]
          have hbmono : b ≤ b2 := by
            cases hi : atomS (rowS f0) first r b en with
            | er e k => rw [hi] at ho; exact absurd ho (by simp)
            | ok t' r' b' en' =>
              rw [hi] at ho
              simp only [Res.ok.injEq] at ho
              have := atom_mono (row := rowS f0) (f0 := f0) (fun r b en he hb hf => (row_good f0 r (b + 1) en hf hb he).2) he hb hf0 hi
              omega
          exact ih (m - 1) false r2 b2 en2 (acc ++ [t2]) (c1.trans h1) (by omega) (by omega) (by omega) g3 g4 (by omega) (by rw [szL_app]; simp only [szL]; omega) (by rw [szL_app]; simp only [szL]; omega)
    have hend : ∀ r1, r = 36 :: r1 → ROK s l (.ok (catL (acc ++ [.eol])) r1 b en) (bre_reader_row_join1 n rw' (fix (bre_reader_row_loop0 n rw') (m - 1)) (first, true, s, psn s r, (b : Int), en, l ++ seqE l.length acc, topsL l.length acc, ())) := by
      intro r1 hr
      unfold bre_reader_row_join1
      simp only [br_t]
      have hrl : r.length = r1.length + 1 := by rw [hr]; rfl
      have hp : IntKind.wrap .i64 (psn s r + 1) = psn s r1 := by
        have := psn_wrap h (by omega) (k := 1) (by omega)
        rw [hr] at this ⊢
        exact this
      have hll : (l ++ seqE l.length acc).length = l.length + szA acc := by rw [List.length_append, seqE_len]
      rw [hp, rd_put (by rw [hll]; omega)]
      simp only [ob_s]
      rw [chk_of (by rw [topsL_len]; simp [room]; omega), jn_e, hll]
      have e1 : l ++ seqE l.length acc ++ [(3, [0, 0, 0, 0], 0, 0, 0, 0, 0, ())] = l ++ seqE l.length (acc ++ [.eol]) := by rw [seqE_app, List.append_assoc]; rfl
      have e2 : topsL l.length acc ++ [((l.length + szA acc : Nat) : Int)] = topsL l.length (acc ++ [.eol]) := by
        rw [topsL_app]; congr 2; simp only [Pt.top, Pt.sz]; omega
      rw [e1, e2]
      exact join2_eq (by rw [szL_app]; simp only [szL, Pt.sz]; omega) (by rw [szL_app]; simp only [szL, Pt.sz]; omega)
    cases hd : [36].isPrefixOf r
    · simp only [br_f, Bool.false_and, cond_false, jn_e]
      exact hgo
    · obtain ⟨r1, hr⟩ := pre1 hd
      simp only [br_t, Bool.true_and, jn_e]
      have hrl : r.length = r1.length + 1 := by rw [hr]; rfl
      have hp : IntKind.wrap .i64 (psn s r + 1) = psn s r1 := by
        have := psn_wrap h (by omega) (k := 1) (by omega)
        rw [hr] at this ⊢
        exact this
      have h1 : r1 <:+ s := by rw [hr] at h; exact (List.suffix_cons _ _).trans h
      rw [hp, psn_end h1, show r.drop 1 = r1 by rw [hr]; rfl]
      unfold closesS
      cases hem : r1.isEmpty
      · simp only [br_f, Bool.false_or]
        rw [rd_ahead h, show [36, 92, 41].isPrefixOf r = [92, 41].isPrefixOf r1 by rw [hr]; simp [List.isPrefixOf]]
        simp only [ob_s]
        cases [92, 41].isPrefixOf r1
        · exact hgo
        · exact hend r1 hr
      · simp only [br_t, Bool.true_or, cond_true]
        exact hend r1 hr
theorem rd_row : ∀ (f n : Nat) (r : List UInt8) (b : Nat) (en : List Bool) (l : List Nd), s.length < 100000 → 3 * s.length + 500 + f ≤ n → r <:+ s → 11 ≤ f + b → b ≤ 9 → en.length = 10 → l.length + 3 * r.length < 800000 → ROK s l (rowS f r b en) (bre_reader_row n (s, psn s r, (b : Int), en, l, ())) := by
  intro f
  induction f with
  | zero => intro n r b en l _ _ _ h hb; omega
  | succ f ih =>
    intro n r b en l hs hn h hf hb he hl
    obtain ⟨n, rfl⟩ : ∃ k, n = k + 1 := ⟨n - 1, by omega⟩
    have hle := suf_le h
    have hunf : bre_reader_row (n + 1) (s, psn s r, (b : Int), en, l, ()) = bre_reader_row_body n (bre_reader_row n) (s, psn s r, (b : Int), en, l, ()) := rfl
    rw [hunf]
    unfold bre_reader_row_body rowS
    simp only
    cases h94 : [94].isPrefixOf r
    · rw [rd_took_f h h94]
      simp only [ob_s, br_f, cond_false, jn_e, bre_reader_row_join0]
      have := item_loop (n := n) (s := s) (l := l) (rw' := bre_reader_row n) (f0 := f) (R := r.length) hs (by omega)
        (fun r2 b2 en2 l2 h2 _ hb2 hf2 he2 hl2 => ih n r2 (b2 + 1) en2 l2 hs (by omega) h2 hf2 hb2 he2 hl2) (r.length + 1) n true r b en [] h (Nat.le_refl _) (by omega) (by omega) hb he (by omega) (by simp only [szL]; omega) (by simp only [szL]; omega)
      simp only [seqE, topsL, List.append_nil] at this
      exact this
    · rw [rd_took_t h (by omega) h94]
      have hp := pre_len h94
      simp only [List.length_cons, List.length_nil] at hp
      simp only [ob_s, br_t, cond_true]
      rw [rd_put (by omega)]
      simp only [ob_s]
      rw [chk_of (by simp [room]), jn_e, bre_reader_row_join0]
      simp only
      have hd := List.length_drop (i := 1) (l := r)
      have := item_loop (n := n) (s := s) (l := l) (rw' := bre_reader_row n) (f0 := f) (R := r.length) hs (by omega)
        (fun r2 b2 en2 l2 h2 _ hb2 hf2 he2 hl2 => ih n r2 (b2 + 1) en2 l2 hs (by omega) h2 hf2 hb2 he2 hl2) ((r.drop 1).length + 1) n true (r.drop 1) b en [.bol] (suf_dr h 1) (by omega) (by omega) (by omega) hb he (by omega) (by simp only [szL, Pt.sz]; omega) (by simp only [szL, Pt.sz]; omega)
      have e2 : topsL l.length [.bol] = [((l.length : Nat) : Int)] := by simp only [topsL, Pt.top, Pt.sz]; congr 1; omega
      simp only [seqE, Pt.enc, List.append_nil] at this
      rw [e2] at this
      exact this
end
theorem items_ext {row : List UInt8 → Nat → List Bool → Res (Option Pt)} : ∀ (f : Nat) (first : Bool) (r : List UInt8) (b : Nat) (en : List Bool) (acc ts : List Pt) (r' : List UInt8) (b' : Nat) (en' : List Bool), itemsS row f first r b en acc = .ok ts r' b' en' → (ts = acc ∧ r' = r) ∨ acc.length < ts.length := by
  intro f
  induction f with
  | zero => intro first r b en acc ts r' b' en' h; simp [itemsS] at h
  | succ f ih =>
    intro first r b en acc ts r' b' en' h
    unfold itemsS at h
    cases hc : closesS r <;> rw [hc] at h <;> simp only [cond_true, cond_false, Res.ok.injEq] at h
    case true => exact Or.inl ⟨h.1.symm, h.2.1.symm⟩
    cases hd : [36].isPrefixOf r && closesS (r.drop 1) <;> rw [hd] at h <;> simp only [cond_true, cond_false, Res.ok.injEq] at h
    case true => exact Or.inr (by rw [← h.1]; simp)
    cases ho : atomS row first r b en with
    | er e k => rw [ho] at h; simp at h
    | ok t r1 b1 en1 =>
      rw [ho] at h
      simp only at h
      cases ho2 : timesS t r1 b1 en1 with
      | er e k => rw [ho2] at h; simp at h
      | ok t2 r2 b2 en2 =>
        rw [ho2] at h
        simp only at h
        rcases ih _ _ _ _ _ _ _ _ _ h with ⟨h1, _⟩ | h1
        · exact Or.inr (by rw [h1]; simp)
        · exact Or.inr (by simp at h1; omega)
theorem row_none_rest {f : Nat} {r r' : List UInt8} {b b' : Nat} {en en' : List Bool} (h : rowS f r b en = .ok none r' b' en') : r' = r := by
  cases f with
  | zero => simp [rowS] at h
  | succ f =>
    unfold rowS at h
    simp only at h
    cases ho : itemsS (rowS f) ((bif [94].isPrefixOf r then r.drop 1 else r).length + 1) true (bif [94].isPrefixOf r then r.drop 1 else r) b en (bif [94].isPrefixOf r then [Pt.bol] else []) with
    | er e k => rw [ho] at h; simp at h
    | ok ts r2 b2 en2 =>
      rw [ho] at h
      simp only [Res.ok.injEq] at h
      have hts : ts = [] := by
        rcases List.eq_nil_or_concat ts with hh | ⟨p, t, hh⟩
        · exact hh
        · rw [hh, List.concat_eq_append, catL_app] at h; simp at h
      rcases items_ext _ _ _ _ _ _ _ _ _ _ ho with ⟨h1, h2⟩ | h1
      · rw [hts] at h1
        cases h94 : [94].isPrefixOf r
        · rw [h94] at h2; rw [← h.2.1, h2]; rfl
        · rw [h94] at h1; simp at h1
      · rw [hts] at h1; simp at h1
def parseT : Sum Pt (Nat × Nat) → List Nd × Int × Int
  | .inl t => (t.enc 0, 0, 0)
  | .inr (e, k) => ([], (k : Int), (e : Int))
theorem bre_Parse_eq {n : Nat} {s : List UInt8} (hs : s.length < 100000) (hn : 3 * s.length + 600 ≤ n) : bre_Parse n s = some (parseT (parseS s)) := by
  unfold bre_Parse
  simp only
  cases s with
  | nil => rfl
  | cons c s0 =>
    generalize hsv : c :: s0 = s at *
    have hne : s ≠ [] := by rw [← hsv]; simp
    rw [br_not (by simpa using hne)]
    have hps : parseS s = match rowS 11 s 0 noEn with
      | .er e k => .inr (e, s.length - k)
      | .ok t r _ _ =>
        match r with
        | [] => match t with
          | none => .inr (41, s.length)
          | some t => bif decide (t.sz > 120) then .inr (2, 0) else .inl t
        | _ => .inr (41, s.length - r.length) := by rw [← hsv]; rfl
    rw [hps]
    have hrow := rd_row (s := s) 11 n s 0 noEn [] hs (by omega) (List.suffix_refl _) (by omega) (by omega) rfl (by simp; omega)
    have hgood := (row_good 11 s 0 noEn (by omega) (by omega) rfl).1
    have hp0 : psn s s = 0 := by unfold psn; omega
    rw [hp0] at hrow
    unfold bre_tried__bre_Parse_1 bre_Parse_1
    simp only
    have hnoEn : ([false, false, false, false, false, false, false, false, false, false] : List Bool) = noEn := rfl
    rw [hnoEn]
    cases ho : rowS 11 s 0 noEn with
    | er e k =>
      rw [ho] at hrow hgood
      obtain ⟨x, hrow⟩ := hrow
      obtain ⟨e1, e2⟩ := hgood
      rw [show (((0 : Nat) : Int)) = 0 from rfl] at hrow
      rw [hrow]
      simp only [ob2_r, ob_s]
      rw [br_of (by simp; omega)]
      rfl
    | ok t r b2 en2 =>
      rw [ho] at hrow hgood
      obtain ⟨g1, g2, g3, g4⟩ := hgood
      have hgl := g1.length_le
      have hlt : ∀ c r', r = c :: r' → psn s r < (s.length : Int) := by
        intro c r' hr; rw [hr] at hgl ⊢; unfold psn; simp only [List.length_cons] at hgl ⊢; omega
      have hrow' : ∃ top row, bre_reader_row n (s, 0, 0, noEn, [], ()) = some (.inl (top, s, psn s r, (b2 : Int), en2, row, ())) ∧ (match t with | none => True | some t => row = t.enc 0) := by
        cases t with
        | none => exact ⟨_, _, hrow, trivial⟩
        | some t => exact ⟨_, _, hrow, by simp⟩
      obtain ⟨top, row, hr1, hr2⟩ := hrow'
      rw [hr1]
      simp only [ob2_l]
      cases hr : r with
      | cons c2 r2 =>
        have := hlt c2 r2 hr
        rw [hr] at this
        rw [br_of (decide_eq_true this), rd_give]
        simp only [ob2_r, ob_s]
        rw [br_of (by rfl)]
        rfl
      | nil =>
        have he : psn s [] = (s.length : Int) := by unfold psn; simp
        rw [br_not (by rw [he]; simp)]
        cases t with
        | none =>
          exfalso
          have := row_none_rest ho
          rw [hr] at this
          exact absurd this hne.symm
        | some t =>
          simp only at hr2 g2 ⊢
          rw [hr2, Pt.enc_len]
          by_cases h120 : t.sz > 120
          · rw [br_of (by simp; omega), decide_eq_true h120, rd_give]
            simp only [ob2_r, ob_s, cond_true]
            rw [br_of (by rfl)]
            rfl
          · rw [br_not (by simp; omega), decide_eq_false h120]
            simp only [ob2_l, ob_s, cond_false]
            rw [br_not (by rfl)]
            rfl
end Go.Dec
namespace Go.Dec
theorem parse_good (s : List UInt8) : match parseS s with
    | .inl t => s ≠ [] → t.sz ≤ 120
    | .inr (e, k) => k ≤ s.length ∧ (e = 2 ∨ (40 ≤ e ∧ e ≤ 44)) := by
  cases s with
  | nil => simp [parseS]
  | cons c s0 =>
    have hps : parseS (c :: s0) = match rowS 11 (c :: s0) 0 noEn with
      | .er e k => .inr (e, (c :: s0).length - k)
      | .ok t r _ _ =>
        match r with
        | [] => match t with
          | none => .inr (41, (c :: s0).length)
          | some t => bif decide (t.sz > 120) then .inr (2, 0) else .inl t
        | _ => .inr (41, (c :: s0).length - r.length) := rfl
    rw [hps]
    have hgood := (row_good 11 (c :: s0) 0 noEn (by omega) (by omega) rfl).1
    cases ho : rowS 11 (c :: s0) 0 noEn with
    | er e k =>
      rw [ho] at hgood
      exact ⟨by omega, Or.inr hgood⟩
    | ok t r b2 en2 =>
      simp only
      cases r with
      | cons c2 r2 => exact ⟨by omega, Or.inr ⟨by omega, by omega⟩⟩
      | nil =>
        cases t with
        | none => exact ⟨by omega, Or.inr ⟨by omega, by omega⟩⟩
        | some t =>
          simp only
          by_cases h : t.sz > 120
          · rw [decide_eq_true h]
            exact ⟨by omega, Or.inl rfl⟩
          · rw [decide_eq_false h]
            exact fun _ => by omega
theorem shown_true : law04_shown 2000 () = some true := by decide +kernel
end Go.Dec
namespace Go.Dec
section
variable {ρ : Type} {s r : List UInt8}
theorem pk1 (h : r <:+ s) (c : UInt8) {k : Int} (hk : (c.toNat : Int) = k) {X Y : Option ρ} :
    br (decide (psn s r < (s.length : Int))) (chk (inB (psn s r) s.length) (br (((getAt 0 s (psn s r)).toNat : Int) == k) X Y)) Y = bif [c].isPrefixOf r then X else Y := by
  have hl := suf_le h
  cases r with
  | nil => rw [br_not (by unfold psn; simp)]; rfl
  | cons d r1 =>
    simp only [List.length_cons] at hl
    have hg : getAt 0 s (psn s (d :: r1)) = d := by
      have := psn_get (d := 0) h (j := 0) (c := d) rfl
      simpa using this
    rw [br_of (by unfold psn; simp; omega), chk_of (inB_t (by unfold psn; omega) (by unfold psn; simp only [List.length_cons]; omega)), hg, ← hk, eqI c]
    rw [show [c].isPrefixOf (d :: r1) = (c == d) by simp [List.isPrefixOf]]
    cases (c == d) <;> rfl
theorem take_at (h : r <:+ s) {k : Nat} (hk : k ≤ r.length) : (s.take (psn s (r.drop k)).toNat).drop (psn s r).toNat = r.take k := by
  have hl := suf_le h
  rw [psn_nat, psn_nat, List.drop_take, suf_drop h, List.length_drop]
  congr 1; omega
theorem pk2 (h : r <:+ s) (hs : s.length < 1000000) (a b : UInt8) {X Y : Option ρ} :
    br (decide (IntKind.wrap .i64 (psn s r + 1) < (s.length : Int))) (
      chk (decide (0 ≤ IntKind.wrap .i64 (psn s r + 2)) && decide (IntKind.wrap .i64 (psn s r + 2) ≤ (s.length : Int)) && (decide (0 ≤ psn s r) && decide (psn s r ≤ IntKind.wrap .i64 (psn s r + 2)))) (
        br ((s.take (IntKind.wrap .i64 (psn s r + 2)).toNat).drop (psn s r).toNat == [a, b]) X Y)) Y = bif [a, b].isPrefixOf r then X else Y := by
  have hl := suf_le h
  have hw1 : IntKind.wrap .i64 (psn s r + 1) = psn s r + 1 := wrapI (by unfold psn; omega) (by unfold psn; omega)
  rw [hw1]
  by_cases h2 : 2 ≤ r.length
  · have hw : IntKind.wrap .i64 (psn s r + 2) = psn s (r.drop 2) := psn_wrap h hs (k := 2) h2
    have hd := psn_dr h (k := 2) h2
    rw [br_of (by unfold psn; simp; omega), hw, chk_of (by rw [hd]; unfold psn; simp; omega), take_at h h2]
    match r, h2 with
    | c :: d :: r1, _ =>
      have e : (List.take 2 (c :: d :: r1) == [a, b]) = [a, b].isPrefixOf (c :: d :: r1) := by
        rw [Bool.eq_iff_iff]; simp [List.isPrefixOf]
        exact ⟨fun ⟨h1, h2⟩ => ⟨h1.symm, h2.symm⟩, fun ⟨h1, h2⟩ => ⟨h1.symm, h2.symm⟩⟩
      rw [e]
      cases [a, b].isPrefixOf (c :: d :: r1) <;> rfl
  · rw [br_not (by unfold psn; simp; omega)]
    have : [a, b].isPrefixOf r = false := by
      cases hp : [a, b].isPrefixOf r
      · rfl
      · have := pre_len hp
        simp only [List.length_cons, List.length_nil] at this
        omega
    rw [this]; rfl
end
abbrev StT : Type := List Nd × Int × List Bool × Int × Int × Unit
section
variable {n : Nat} {s r : List UInt8} {b : Nat} {en : List Bool} {l : List Nd}
theorem q_closes (h : r <:+ s) (hs : s.length < 1000000) : ref04_closes n (s, psn s r) = some (closesS r) := by
  unfold ref04_closes
  simp only
  rw [psn_end h]
  unfold closesS
  have := pk2 (ρ := Bool) h hs 92 41 (X := some true) (Y := some false)
  cases r.isEmpty
  · simp only [br_f, Bool.false_or]
    have e : ∀ x : Bool, some x = br x (some true) (some false) := by intro x; cases x <;> rfl
    rw [e ((s.take _).drop _ == _), this]
    cases [92, 41].isPrefixOf r <;> rfl
  · rfl
theorem q_leaf {a1 a2 : Int} {nd : Nd} {bb : Int} (hl : l.length < 1000000) : ref04_leaf n ((l, bb, en, a1, a2, ()), nd) = some (l ++ [nd], bb, en, a1, a2, ()) := by
  unfold ref04_leaf
  simp only
  rw [chk_of (by simp [room]; omega), chk_of (by simp [room]; omega)]
  simp
theorem q_bytes {p : Nat → Bool} {a1 a2 bb : Int} (hn : 300 ≤ n) (hl : l.length < 1000000) : ref04_bytes n ((l, bb, en, a1, a2, ()), bx p) = some (l ++ (Pt.bytes p).enc l.length, bb, en, a1, a2, ()) := by
  unfold ref04_bytes
  simp only
  rw [ref02_Words_eq hn]
  simp only [ob_s]
  rw [q_leaf hl]; rfl
theorem q_wrong {x : StT} {i e : Int} : ref04_wrong n (x, i, e) = some (x.1, x.2.1, x.2.2.1, i, e, ()) := rfl
theorem atoiS_app (a : List UInt8) (c : UInt8) : atoiS (a ++ [c]) = atoiS a * 10 + (c.toNat - 48) := by
  simp [atoiS, List.foldl_append]
theorem atoiS_lt : ∀ {a : List UInt8}, a.all isDigit = true → atoiS a < 10 ^ a.length := by
  intro a
  induction h : a.length generalizing a with
  | zero => intro _; rw [List.eq_nil_of_length_eq_zero h]; decide
  | succ k ih =>
    intro ha
    rcases List.eq_nil_or_concat a with rfl | ⟨p, c, hc⟩
    · simp at h
    · have hc : a = p ++ [c] := by rw [hc]; simp
      subst hc
      simp only [List.all_append, Bool.and_eq_true, List.all_cons, List.all_nil, Bool.and_true] at ha
      have hp : p.length = k := by simpa using h
      have := ih hp ha.1
      have hd := ha.2
      unfold isDigit at hd
      simp only [Bool.and_eq_true, decide_eq_true_eq] at hd
      rw [atoiS_app, Nat.pow_succ]; omega
def digT (s : List UInt8) : Option Nat × List UInt8 → Int × Int
  | (none, _) => (0, -1)
  | (some k, r) => ((k : Int), psn s r)
theorem q_digits (h : r <:+ s) (hs : s.length < 1000000) (hn : 10 ≤ n) : ref04_Digits n (s, psn s r) = some (digT s (numS r)) := by
  unfold ref04_Digits
  simp only
  have hl := suf_le h
  have hk := digs_le 3 r
  have hfin : ∀ {v : Int}, v = (atoiS (r.take (digs 3 r)) : Int) → br (psn s (r.drop (digs 3 r)) == psn s r) (some (0, (-1))) (some (v, psn s (r.drop (digs 3 r)))) = some (digT s (numS r)) := by
    intro v hv
    have e : (psn s (r.drop (digs 3 r)) == psn s r) = (digs 3 r == 0) := by
      rw [psn_dr h hk.2, Bool.eq_iff_iff, beq_iff_eq, beq_iff_eq]; omega
    rw [e, hv]
    simp only [numS]
    cases digs 3 r == 0 <;> rfl
  have key : ∀ (j m : Nat) (r' : List UInt8), r' = r.drop j → j + digs (3 - j) r' = digs 3 r → j ≤ 3 → j ≤ r.length → 4 - j ≤ m → fix (ref04_Digits_loop0 n) m (s, psn s r, (atoiS (r.take j) : Int), psn s r', ()) = some (digT s (numS r)) := by
    intro j
    induction hm : 3 - j generalizing j with
    | zero =>
      intro m r' hr' hd hj hjl hmm
      have hj3 : j = 3 := by omega
      rw [fix_pos (by omega), ref04_Digits_loop0]
      simp only
      have e : digs 3 r = j := by rw [← hd]; simp [digs]
      have er : r' = r.drop (digs 3 r) := by rw [e]; exact hr'
      have hlim : decide (psn s r' < IntKind.wrap .i64 (psn s r + 3)) = false := by
        rw [hr', show (3 : Int) = ((3 : Nat) : Int) from rfl, psn_wrap h hs (by omega), hj3]; simp
      rw [er] at hlim ⊢
      rw [hlim, br_f, hfin (by rw [e])]
      cases decide (psn s (r.drop (digs 3 r)) < (s.length : Int)) <;> rfl
    | succ q ih =>
      intro m r' hr' hd hj hjl hmm
      have hsuf : r' <:+ s := by rw [hr']; exact suf_dr h j
      rw [fix_pos (by omega), ref04_Digits_loop0]
      simp only
      have hlim : decide (psn s r' < IntKind.wrap .i64 (psn s r + 3)) = true := by
        rw [hr', psn_dr h hjl, wrapI (by unfold psn; omega) (by unfold psn; omega)]; simp; omega
      cases hc : r' with
      | nil =>
        rw [hc] at hd
        have e : digs 3 r = j := by rw [← hd]; rfl
        have er : r' = r.drop (digs 3 r) := by rw [e]; exact hr'
        rw [← hc, br_not (by unfold psn; rw [hc]; simp), er]
        exact hfin (by rw [e])
      | cons c r2 =>
        rw [← hc]
        rw [hc] at hd
        have hlr : r'.length = r2.length + 1 := by rw [hc]; rfl
        have hle := suf_le hsuf
        have hg : getAt 0 s (psn s r') = c := by
          have := psn_get (d := 0) hsuf (j := 0) (c := c) (by rw [hc]; rfl)
          simpa using this
        have hib : inB (psn s r') s.length = true := inB_t (by unfold psn; omega) (by unfold psn; omega)
        rw [br_of (by unfold psn; simp; omega), br_of hlim, chk_of hib, hg, chk_of hib, chk_of hib]
        have hdd : digs (q + 1) (c :: r2) = bif isDigit c then digs q r2 + 1 else 0 := rfl
        rw [hdd] at hd
        cases hdg : isDigit c
        · rw [hdg] at hd
          simp only [cond_false, Nat.add_zero] at hd
          have er : r' = r.drop (digs 3 r) := by rw [← hd]; exact hr'
          unfold isDigit at hdg
          have hF := hfin (v := (atoiS (r.take j) : Int)) (by rw [← hd])
          rw [← er] at hF
          rw [hF]
          by_cases h48 : 48 ≤ c.toNat
          · have h57 : ¬ c.toNat ≤ 57 := by
              intro h57; simp [h48, h57] at hdg
            rw [br_of (by simp; omega), br_not (by simp; omega)]
          · rw [br_not (by simp; omega)]
        · rw [hdg] at hd
          simp only [cond_true] at hd
          unfold isDigit at hdg
          simp only [Bool.and_eq_true, decide_eq_true_eq] at hdg
          rw [br_of (by simp; omega), br_of (by simp; omega)]
          have hr2 : r2 = r.drop (j + 1) := by rw [← List.drop_drop, ← hr', hc]; rfl
          have hp : IntKind.wrap .i64 (psn s r' + 1) = psn s r2 := by
            have := psn_wrap hsuf hs (k := 1) (by omega)
            rw [hc] at this ⊢
            exact this
          have hjr : j < r.length := by rw [hr', List.length_drop] at hlr; omega
          have hcj : r[j]? = some c := by
            have : (r.drop j)[0]? = some c := by rw [← hr', hc]; rfl
            rw [List.getElem?_drop] at this; simpa using this
          have htk : r.take (j + 1) = r.take j ++ [c] := by
            rw [List.take_add_one, hcj]; rfl
          have hall : (r.take j).all isDigit = true := by
            have h1 := digs_all 3 r
            have h2 : r.take j = (r.take (digs 3 r)).take j := by rw [List.take_take]; congr 1; omega
            rw [h2, List.all_eq_true]
            rw [List.all_eq_true] at h1
            exact fun x hx => h1 x (List.mem_of_mem_take hx)
          have hlt := atoiS_lt hall
          have hlt2 : atoiS (r.take j) < 1000 := Nat.lt_of_lt_of_le hlt (Nat.le_trans (Nat.pow_le_pow_right (by omega) (show (r.take j).length ≤ 3 by rw [List.length_take]; omega)) (by omega))
          rw [hp, IntWalk.u8_in _ (by omega), wrapI (x := (c.toNat : Int) - 48) (by omega) (by omega), wrapI (x := (atoiS (r.take j) : Int) * 10) (by omega) (by omega), wrapI (by omega) (by omega)]
          have ev : (atoiS (r.take j) : Int) * 10 + ((c.toNat : Int) - 48) = (atoiS (r.take (j + 1)) : Int) := by
            rw [htk, atoiS_app]; omega
          rw [ev]
          exact ih (j + 1) (by omega) (m - 1) r2 hr2 (by rw [← hd]; omega) (by omega) (by omega) (by omega)
  have := key 0 n r (by simp) (by simp) (by omega) (by omega) (by omega)
  exact this
def QOK (s : List UInt8) (l : List Nd) (o : Res Pt) (e : Option (StT × Int)) : Prop := match o with
  | .ok t r b en => e = some ((l ++ t.enc l.length, (b : Int), en, 0, 0, ()), psn s r)
  | .er c k => ∃ (l' : List Nd) (b' : Int) (en' : List Bool) (i' : Int), e = some ((l', b', en', ((s.length - k : Nat) : Int), (c : Int), ()), i')
theorem q_fin {t : Pt} {lo hi A : Int} (h : r <:+ s) (hs : s.length < 1000000) (hl : l.length + t.sz < 900000) (hA : A = IntKind.wrap .i64 (((l ++ t.enc l.length).length : Int) - 1)) : QOK s l (finS t lo hi r b en) (
    ob (ref04_leaf n ((l ++ t.enc l.length, (b : Int), en, 0, 0, ()), (6, ([0, 0, 0, 0], (A, (0, (lo, (hi, (0, ()))))))))) fun y4 =>
        br (decide (psn s r < (s.length : Int))) (
          chk (inB (psn s r) s.length) (
            br (((getAt 0 s (psn s r)).toNat : Int) == 42) (
              ob (ref04_wrong n (y4, psn s r, 43)) fun y6 =>
              some (y6, psn s r)) (
              br (decide (IntKind.wrap .i64 (psn s r + 1) < (s.length : Int))) (
                chk ((decide (0 ≤ IntKind.wrap .i64 (psn s r + 2)) && decide (IntKind.wrap .i64 (psn s r + 2) ≤ (s.length : Int)) && (decide (0 ≤ psn s r) && decide (psn s r ≤ IntKind.wrap .i64 (psn s r + 2))))) (
                  br ((s.take (IntKind.wrap .i64 (psn s r + 2)).toNat).drop (psn s r).toNat == [92, 123]) (
                    ob (ref04_wrong n (y4, psn s r, 43)) fun y10 =>
                    some (y10, psn s r)) (
                    some (y4, psn s r)))) (
                some (y4, psn s r))))) (
          br (decide (IntKind.wrap .i64 (psn s r + 1) < (s.length : Int))) (
            chk ((decide (0 ≤ IntKind.wrap .i64 (psn s r + 2)) && decide (IntKind.wrap .i64 (psn s r + 2) ≤ (s.length : Int)) && (decide (0 ≤ psn s r) && decide (psn s r ≤ IntKind.wrap .i64 (psn s r + 2))))) (
              br ((s.take (IntKind.wrap .i64 (psn s r + 2)).toNat).drop (psn s r).toNat == [92, 123]) (
                ob (ref04_wrong n (y4, psn s r, 43)) fun y14 =>
                some (y14, psn s r)) (
                some (y4, psn s r)))) (
            some (y4, psn s r)))) := by
  rw [q_leaf (by rw [List.length_append, Pt.enc_len]; omega)]
  simp only [ob_s, q_wrong]
  rw [pk2 h hs, pk1 h 42 (k := 42) rfl]
  unfold finS
  have hA2 : A = t.top l.length := by
    rw [hA, List.length_append, Pt.enc_len, wrapI (by omega) (by omega)]; rfl
  cases [42].isPrefixOf r
  · cases [92, 123].isPrefixOf r
    · simp only [cond_false, Bool.false_or, QOK, Pt.enc, List.append_assoc, hA2]
    · exact ⟨_, _, _, _, rfl⟩
  · exact ⟨_, _, _, _, rfl⟩
def timesO (r : List UInt8) : Option (Int × Int × List UInt8) :=
  match numS r with
  | (none, _) => none
  | (some lo, r1) =>
    bif [44].isPrefixOf r1 then
      match numS (r1.drop 1) with
      | (none, r2) => bif [92, 125].isPrefixOf r2 && decide (lo ≤ 255) then some ((lo : Int), -1, r2.drop 2) else none
      | (some hi, r2) => bif [92, 125].isPrefixOf r2 && decide (lo ≤ 255) && decide (hi ≤ 255) && decide (lo ≤ hi) && decide (1 ≤ hi) then some ((lo : Int), (hi : Int), r2.drop 2) else none
    else bif [92, 125].isPrefixOf r1 && decide (lo ≤ 255) && decide (1 ≤ lo) then some ((lo : Int), (lo : Int), r1.drop 2) else none
theorem timesS_o (t : Pt) : timesS t r b en = bif [42].isPrefixOf r then finS t 0 (-1) (r.drop 1) b en
    else bif [92, 123].isPrefixOf r then match timesO (r.drop 2) with
      | none => .er 43 r.length
      | some (lo, hi, r2) => finS t lo hi r2 b en
    else .ok t r b en := by
  unfold timesS timesO
  cases [42].isPrefixOf r
  · simp only [cond_false]
    cases [92, 123].isPrefixOf r
    · rfl
    · simp only [cond_true]
      cases numS (r.drop 2) with
      | mk lo r1 =>
        cases lo with
        | none => rfl
        | some lo =>
          simp only
          cases [44].isPrefixOf r1
          · simp only [cond_false]
            cases [92, 125].isPrefixOf r1 && decide (lo ≤ 255) && decide (1 ≤ lo) <;> rfl
          · simp only [cond_true]
            cases numS (r1.drop 1) with
            | mk hi r2 =>
              cases hi with
              | none => simp only; cases [92, 125].isPrefixOf r2 && decide (lo ≤ 255) <;> rfl
              | some hi => simp only; cases [92, 125].isPrefixOf r2 && decide (lo ≤ 255) && decide (hi ≤ 255) && decide (lo ≤ hi) && decide (1 ≤ hi) <;> rfl
  · rfl
def timT (s : List UInt8) : Option (Int × Int × List UInt8) → Int × Int × Int
  | none => (0, 0, -1)
  | some (lo, hi, r) => (lo, hi, psn s r)
theorem q_end (h : r <:+ s) (hs : s.length < 1000000) {a b : UInt8} {X Y : Option (Int × Int × Int)} :
    br (decide (IntKind.wrap .i64 (psn s r + (([a, b] : List UInt8).length : Int)) > (s.length : Int))) Y (
      chk (decide (0 ≤ IntKind.wrap .i64 (psn s r + (([a, b] : List UInt8).length : Int))) && decide (IntKind.wrap .i64 (psn s r + (([a, b] : List UInt8).length : Int)) ≤ (s.length : Int)) && (decide (0 ≤ psn s r) && decide (psn s r ≤ IntKind.wrap .i64 (psn s r + (([a, b] : List UInt8).length : Int))))) (
        br (!((s.take (IntKind.wrap .i64 (psn s r + (([a, b] : List UInt8).length : Int))).toNat).drop (psn s r).toNat == [a, b])) Y X)) = bif [a, b].isPrefixOf r then X else Y := by
  have hl := suf_le h
  have e2 : ((([a, b] : List UInt8).length : Nat) : Int) = 2 := rfl
  rw [e2]
  by_cases h2 : 2 ≤ r.length
  · have hw : IntKind.wrap .i64 (psn s r + 2) = psn s (r.drop 2) := psn_wrap h hs (k := 2) h2
    have hd := psn_dr h (k := 2) h2
    rw [hw, br_not (by rw [hd]; unfold psn; simp; omega), chk_of (by rw [hd]; unfold psn; simp; omega), take_at h h2]
    match r, h2 with
    | c :: d :: r1, _ =>
      have e : (List.take 2 (c :: d :: r1) == [a, b]) = [a, b].isPrefixOf (c :: d :: r1) := by
        rw [Bool.eq_iff_iff]; simp [List.isPrefixOf]
        exact ⟨fun ⟨h1, h2⟩ => ⟨h1.symm, h2.symm⟩, fun ⟨h1, h2⟩ => ⟨h1.symm, h2.symm⟩⟩
      rw [e]
      cases [a, b].isPrefixOf (c :: d :: r1) <;> rfl
  · rw [wrapI (by unfold psn; omega) (by unfold psn; omega), br_of (by unfold psn; simp; omega)]
    have : [a, b].isPrefixOf r = false := by
      cases hp : [a, b].isPrefixOf r
      · rfl
      · have := pre_len hp
        simp only [List.length_cons, List.length_nil] at this
        omega
    rw [this]; rfl
theorem q_Times (h : r <:+ s) (hs : s.length < 1000000) (hn : 10 ≤ n) : ref04_Times n (s, psn s r, [92, 125]) = some (timT s (timesO r)) := by
  unfold ref04_Times
  simp only
  rw [q_digits h hs hn]
  have hs1 : (numS r).2 <:+ s := (numS_suf r).trans h
  unfold timesO
  cases hlo : numS r with
  | mk lo r1 =>
    rw [hlo] at hs1
    simp only at hs1
    cases lo with
    | none => rfl
    | some lo =>
      rw [show digT s (some lo, r1) = ((lo : Int), psn s r1) from rfl]
      simp only [ob_s]
      rw [br_not (by unfold psn; simp), q_end hs1 hs]
      have h1 : (bif [92, 125].isPrefixOf r1 then (br (decide ((lo : Int) > 255)) (some (0, 0, (-1))) (br (decide ((lo : Int) > 255)) (some (0, 0, (-1))) (br (decide ((lo : Int) ≥ 0)) (
                  br (decide ((lo : Int) < (lo : Int))) (
                    some (0, 0, (-1))) (
                    br ((lo : Int) == 0) (
                      some (0, 0, (-1))) (
                      some ((lo : Int), (lo : Int), IntKind.wrap .i64 (psn s r1 + (([92, 125] : List UInt8).length : Int)))))) (
                  br ((lo : Int) == 0) (
                    some (0, 0, (-1))) (
                    some ((lo : Int), (lo : Int), IntKind.wrap .i64 (psn s r1 + (([92, 125] : List UInt8).length : Int)))))))) else some (0, 0, (-1))) = some (timT s (bif [92, 125].isPrefixOf r1 && decide (lo ≤ 255) && decide (1 ≤ lo) then some ((lo : Int), (lo : Int), r1.drop 2) else none)) := by
        cases hp : [92, 125].isPrefixOf r1
        · rfl
        simp only [cond_true, Bool.true_and]
        have hpl := pre_len hp
        by_cases h5 : lo ≤ 255
        · rw [br_not (by simp; omega), br_not (by simp; omega), br_of (by simp), br_not (by simp), decide_eq_true h5, psn_wrap hs1 hs hpl]
          by_cases h6 : 1 ≤ lo
          · rw [br_not (by simp; omega), decide_eq_true h6]; rfl
          · rw [br_of (by simp; omega), decide_eq_false h6]; rfl
        · rw [br_of (by simp; omega), decide_eq_false h5]; rfl
      rw [h1, pk1 hs1 44 (k := 44) rfl]
      cases hc : [44].isPrefixOf r1
      · rfl
      simp only [cond_true]
      have hpc := pre_len hc
      have hs2 : r1.drop 1 <:+ s := suf_dr hs1 1
      have hw1 : IntKind.wrap .i64 (psn s r1 + 1) = psn s (r1.drop 1) := psn_wrap hs1 hs (k := 1) hpc
      rw [hw1, q_digits hs2 hs hn]
      have hs3 : (numS (r1.drop 1)).2 <:+ s := (numS_suf _).trans hs2
      cases hhi : numS (r1.drop 1) with
      | mk hi r2 =>
        rw [hhi] at hs3
        simp only at hs3
        cases hi with
        | none =>
          have he2 : r2 = r1.drop 1 := by
            have : (numS (r1.drop 1)).1 = none := by rw [hhi]
            simp only [numS] at this hhi
            cases hz : digs 3 (r1.drop 1) == 0
            · rw [hz] at this; simp at this
            · have hz : digs 3 (r1.drop 1) = 0 := by simpa using hz
              simp only [hz, List.drop_zero, Prod.mk.injEq] at hhi
              exact hhi.2.symm
          subst he2
          rw [show ∀ x, digT s (none, x) = (0, -1) from fun _ => rfl]
          simp only [ob_s]
          rw [br_not (by rfl), q_end hs2 hs]
          cases hp : [92, 125].isPrefixOf (r1.drop 1)
          · rfl
          simp only [cond_true, Bool.true_and]
          have hpl := pre_len hp
          by_cases h5 : lo ≤ 255
          · rw [br_not (by simp; omega), br_not (by rfl), br_not (by rfl), br_not (by rfl), decide_eq_true h5, psn_wrap hs2 hs hpl]; rfl
          · rw [br_of (by simp; omega), decide_eq_false h5]; rfl
        | some hi =>
          rw [show digT s (some hi, r2) = ((hi : Int), psn s r2) from rfl]
          simp only [ob_s]
          rw [br_of (by unfold psn; simp), q_end hs3 hs]
          cases hp : [92, 125].isPrefixOf r2
          · rfl
          simp only [cond_true, Bool.true_and]
          have hpl := pre_len hp
          by_cases h5 : lo ≤ 255
          · rw [br_not (by simp; omega), decide_eq_true h5]
            by_cases h6 : hi ≤ 255
            · rw [br_not (by simp; omega), br_of (by simp), decide_eq_true h6]
              by_cases h7 : lo ≤ hi
              · rw [br_not (by simp; omega), decide_eq_true h7]
                by_cases h8 : 1 ≤ hi
                · rw [br_not (by simp; omega), decide_eq_true h8, psn_wrap hs3 hs hpl]; rfl
                · rw [br_of (by simp; omega), decide_eq_false h8]; rfl
              · rw [br_of (by simp; omega), decide_eq_false h7]; rfl
            · rw [br_of (by simp; omega), decide_eq_false h6]; rfl
          · rw [br_of (by simp; omega), decide_eq_false h5]; rfl
theorem timesO_suf {r : List UInt8} {lo hi : Int} {r2 : List UInt8} (h : timesO r = some (lo, hi, r2)) : r2 <:+ r := by
  unfold timesO at h
  have n1 := numS_suf r
  cases hlo : numS r with
  | mk l1 r1 =>
    rw [hlo] at n1 h
    cases l1 with
    | none => simp at h
    | some l1 =>
      simp only at h n1
      cases hc : [44].isPrefixOf r1 <;> rw [hc] at h <;> simp only [cond_true, cond_false] at h
      · cases hb : [92, 125].isPrefixOf r1 && decide (l1 ≤ 255) && decide (1 ≤ l1) <;> rw [hb] at h <;> simp at h
        rw [← h.2.2]; exact (List.drop_suffix _ _).trans n1
      · have n2 := numS_suf (r1.drop 1)
        cases hhi : numS (r1.drop 1) with
        | mk h1 r3 =>
          rw [hhi] at n2 h
          simp only at n2
          have n3 : r3.drop 2 <:+ r := (List.drop_suffix _ _).trans (n2.trans ((List.drop_suffix _ _).trans n1))
          cases h1 with
          | none =>
            simp only at h
            cases hb : [92, 125].isPrefixOf r3 && decide (l1 ≤ 255) <;> rw [hb] at h <;> simp at h
            rw [← h.2.2]; exact n3
          | some h1 =>
            simp only at h
            cases hb : [92, 125].isPrefixOf r3 && decide (l1 ≤ 255) && decide (h1 ≤ 255) && decide (l1 ≤ h1) && decide (1 ≤ h1) <;> rw [hb] at h <;> simp at h
            rw [← h.2.2]; exact n3
theorem q_times {t : Pt} (h : r <:+ s) (hs : s.length < 1000000) (hn : 10 ≤ n) (hl : l.length + t.sz < 900000) :
    QOK s l (timesS t r b en) (ref04_times n (s, psn s r, l ++ t.enc l.length, (b : Int), en, 0, 0, ())) := by
  rw [timesS_o]
  unfold ref04_times
  simp only
  have hle := suf_le h
  rw [pk1 h 42 (k := 42) rfl, pk2 h hs]
  cases h1 : [42].isPrefixOf r
  case true =>
    simp only [cond_true]
    have hw : IntKind.wrap .i64 (psn s r + 1) = psn s (r.drop 1) := psn_wrap h hs (k := 1) (pre_len h1)
    rw [hw]
    exact q_fin (suf_dr h 1) hs hl rfl
  simp only [cond_false]
  cases h2 : [92, 123].isPrefixOf r
  case false => simp only [cond_false, QOK]
  simp only [cond_true]
  have hw : IntKind.wrap .i64 (psn s r + 2) = psn s (r.drop 2) := psn_wrap h hs (k := 2) (pre_len h2)
  rw [hw, q_Times (suf_dr h 2) hs hn]
  cases ho : timesO (r.drop 2) with
  | none => exact ⟨_, _, _, _, rfl⟩
  | some x =>
    obtain ⟨lo, hi, r2⟩ := x
    have h3 := (timesO_suf ho).trans (suf_dr h 2)
    rw [show timT s (some (lo, hi, r2)) = (lo, hi, psn s r2) from rfl]
    simp only [ob_s]
    rw [br_not (by unfold psn; simp)]
    exact q_fin h3 hs hl rfl
end
end Go.Dec
