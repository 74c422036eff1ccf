/- Part of a proof over this seat: a library of my own, and what it says of this seat. No statement is proved here. -/
import Derived.Test.YthhbdkdofhhoeaaGreatDoorPartBM
namespace Go.Dec
abbrev Nd : Type := Int × List Int × Int × Int × Int × Int × Int × Unit
abbrev RdT : Type := List UInt8 × Int × Int × List Bool × List Nd × Unit
inductive Pt where
 | empty | bol | eol
 | bytes (p : Nat -> Bool)
 | cat (a b : Pt) | alt (a b : Pt)
 | times (a : Pt) (lo hi : Int)
 | group (a : Pt) (n : Nat)
 | ref (n : Nat)
def Pt.sz : Pt -> Nat
 | .cat a b => a.sz + b.sz + 1
 | .alt a b => a.sz + b.sz + 1
 | .times a _ _ => a.sz + 1
 | .group a _ => a.sz + 1
 | _ => 1
theorem Pt.Tx : ∀ t : Pt, 1 <= t.sz
 | .empty | .bol | .eol | .bytes _ | .ref _ => Nat.le_refl _
 | .cat _ _ | .alt _ _ | .times _ _ _ | .group _ _ => Nat.le_add_left _ _
def Pt.top (o : Nat) (t : Pt) : Int := ((o + t.sz : Nat) : Int) - 1
def Pt.enc (o : Nat) : Pt -> List Nd
 | .empty => [(0, [0, 0, 0, 0], 0, 0, 0, 0, 0, ())]
 | .bol => [(2, [0, 0, 0, 0], 0, 0, 0, 0, 0, ())]
 | .eol => [(3, [0, 0, 0, 0], 0, 0, 0, 0, 0, ())]
 | .bytes p => [(1, wd p, 0, 0, 0, 0, 0, ())]
 | .cat a b => a.enc o ++ b.enc (o + a.sz) ++ [(4, [0, 0, 0, 0], a.top o, b.top (o + a.sz), 0, 0, 0, ())]
 | .alt a b => a.enc o ++ b.enc (o + a.sz) ++ [(5, [0, 0, 0, 0], a.top o, b.top (o + a.sz), 0, 0, 0, ())]
 | .times a lo hi => a.enc o ++ [(6, [0, 0, 0, 0], a.top o, 0, lo, hi, 0, ())]
 | .group a n => a.enc o ++ [(7, [0, 0, 0, 0], a.top o, 0, 0, 0, (n : Int), ())]
 | .ref n => [(8, [0, 0, 0, 0], 0, 0, 0, 0, (n : Int), ())]
theorem Pt.fO : ∀ (t : Pt) (o : Nat), (t.enc o).length = t.sz
 | .empty, _ | .bol, _ | .eol, _ | .bytes _, _ | .ref _, _ => rfl
 | .cat a b, o => by simp [Pt.enc, Pt.sz, Pt.fO a, Pt.fO b]; omega
 | .alt a b, o => by simp [Pt.enc, Pt.sz, Pt.fO a, Pt.fO b]; omega
 | .times a _ _, o => by simp [Pt.enc, Pt.sz, Pt.fO a]
 | .group a _, o => by simp [Pt.enc, Pt.sz, Pt.fO a]
inductive Res (α : Type) where
 | ok (a : α) (r : List UInt8) (b : Nat) (en : List Bool)
 | er (e k : Nat)
def iR (r : List UInt8) : Bool := r.isEmpty || [92, 41].isPrefixOf r
def qC : List UInt8 := [46, 91, 92, 42, 94, 36, 47]
def gD : Nat -> List UInt8 -> Nat
 | 0, _ => 0
 | _ + 1, [] => 0
 | m + 1, c :: r => bif isDigit c then gD m r + 1 else 0
def rM (r : List UInt8) : Option Nat × List UInt8 :=
 let k := gD 3 r
 (bif k == 0 then none else some (zFx (r.take k)), r.drop k)
def Gt (t : Pt) (lo hi : Int) (r : List UInt8) (b : Nat) (en : List Bool) : Res Pt :=
 bif [42].isPrefixOf r || [92, 123].isPrefixOf r then .er 43 r.length else .ok (.times t lo hi) r b en
def vD (t : Pt) (r : List UInt8) (b : Nat) (en : List Bool) : Res Pt :=
 bif [42].isPrefixOf r then Gt t 0 (-1) (r.drop 1) b en
 else bif [92, 123].isPrefixOf r then
  match rM (r.drop 2) with
  | (none, _) => .er 43 r.length
  | (some lo, r1) =>
   bif [44].isPrefixOf r1 then
    match rM (r1.drop 1) with
    | (none, r2) => bif [92, 125].isPrefixOf r2 && decide (lo <= 255) then Gt t lo (-1) (r2.drop 2) b en else .er 43 r.length
    | (some hi, r2) => bif [92, 125].isPrefixOf r2 && decide (lo <= 255) && decide (hi <= 255) && decide (lo <= hi) && decide (1 <= hi) then Gt t lo hi (r2.drop 2) b en else .er 43 r.length
   else bif [92, 125].isPrefixOf r1 && decide (lo <= 255) && decide (1 <= lo) then Gt t lo lo (r1.drop 2) b en else .er 43 r.length
 else .ok t r b en
def yA (c : UInt8) : Nat -> Bool := fun i => decide (i = c.toNat)
def mG (fB : List UInt8 -> Nat -> List Bool -> Res (Option Pt)) (first : Bool) (r : List UInt8) (b : Nat) (en : List Bool) : Res Pt :=
 match r with
 | [] => .er 40 0
 | c :: r1 =>
  bif c == 46 then .ok (.bytes fun _ => true) r1 b en
  else bif c == 91 then
   match vC r with
   | none => .er 42 r.length
   | some (p, k) => .ok (.bytes p) (r.drop k) b en
  else bif c == 92 then
   match r1 with
   | [] => .er 40 r.length
   | d :: r2 =>
    bif d == 40 then
     bif b == 9 then .er 41 r.length
     else match fB r2 (b + 1) en with
      | .er e k => .er e k
      | .ok none _ _ _ => .er 41 r.length
      | .ok (some t) r3 b3 en3 => bif [92, 41].isPrefixOf r3 then .ok (.group t (b + 1)) (r3.drop 2) b3 (en3.set (b + 1) true) else .er 41 r.length
    else bif decide (49 <= d.toNat) && decide (d.toNat <= 57) then
     bif en.getD (d.toNat - 48) false then .ok (.ref (d.toNat - 48)) r2 b en else .er 44 r.length
    else bif d == 110 then .ok (.bytes (yA 10)) r2 b en
    else bif qC.contains d then .ok (.bytes (yA d)) r2 b en
    else bif d == 123 && first then .er 43 r.length
    else .er 40 r.length
  else .ok (.bytes (yA c)) r1 b en
def jP (fB : List UInt8 -> Nat -> List Bool -> Res (Option Pt)) : Nat -> Bool -> List UInt8 -> Nat -> List Bool -> List Pt -> Res (List Pt)
 | 0, _, _, _, _, _ => .er 0 0
 | f + 1, first, r, b, en, acc =>
  bif iR r then .ok acc r b en
  else bif [36].isPrefixOf r && iR (r.drop 1) then .ok (acc ++ [.eol]) (r.drop 1) b en
  else match mG fB first r b en with
   | .er e k => .er e k
   | .ok t r1 b1 en1 => match vD t r1 b1 en1 with
    | .er e k => .er e k
    | .ok t2 r2 b2 en2 => jP fB f false r2 b2 en2 (acc ++ [t2])
def wM : List Pt -> Option Pt
 | [] => none
 | t :: ts => match wM ts with
  | none => some t
  | some u => some (.cat t u)
def fB : Nat -> List UInt8 -> Nat -> List Bool -> Res (Option Pt)
 | 0, _, _, _ => .er 0 0
 | f + 1, r, b, en =>
  let bol := [94].isPrefixOf r
  let r1 := bif bol then r.drop 1 else r
  match jP (fB f) (r1.length + 1) true r1 b en (bif bol then [.bol] else []) with
  | .er e k => .er e k
  | .ok ts r2 b2 en2 => .ok (wM ts) r2 b2 en2
def vE : List Bool := [false, false, false, false, false, false, false, false, false, false]
def Tz (s : List UInt8) : Sum Pt (Nat × Nat) :=
 match s with
 | [] => .inl .empty
 | _ => match fB 11 s 0 vE with
  | .er e k => .inr (e, s.length - k)
  | .ok t r _ _ =>
   match r with
   | [] => match t with
    | none => .inr (41, s.length)
    | some t => bif decide (t.sz > 120) then .inr (2, 0) else .inl t
   | _ => .inr (41, s.length - r.length)
def psn (s r : List UInt8) : Int := ((s.length - r.length : Nat) : Int)
theorem Az {r s : List UInt8} (h : r <:+ s) : s.drop (s.length - r.length) = r := (List.suffix_iff_eq_drop.1 h).symm
theorem vF {r s : List UInt8} (h : r <:+ s) : r.length <= s.length := h.length_le
theorem rY {r s : List UInt8} (h : r <:+ s) (k : Nat) : r.drop k <:+ s := (List.drop_suffix k r).trans h
theorem zBs {r s : List UInt8} (h : r <:+ s) {k : Nat} (hk : k <= r.length) : psn s (r.drop k) = psn s r + k := by
 have := vF h
 unfold psn
 rw [List.length_drop]; omega
theorem qD {r s : List UInt8} (h : r <:+ s) (hs : s.length < 1000000) {k : Nat} (hk : k <= r.length) : IntKind.wrap .i64 (psn s r + (k : Int)) = psn s (r.drop k) := by
 have := vF h
 rw [zBs h hk, bG (by unfold psn; omega) (by unfold psn; omega)]
theorem zIx {r s : List UInt8} (h : r <:+ s) : (decide (0 <= psn s r) && decide (psn s r <= (s.length : Int))) = true := by
 unfold psn; simp
theorem zP (r s : List UInt8) : (psn s r).toNat = s.length - r.length := Int.toNat_natCast _
theorem zEj {r s : List UInt8} (h : r <:+ s) {j : Nat} {c d : UInt8} (hj : r[j]? = some c) : bA d s (psn s r + (j : Int)) = c := by
 unfold psn
 rw [show ((s.length - r.length : Nat) : Int) + (j : Int) = ((s.length - r.length + j : Nat) : Int) by omega]
 exact Gs (by rw [Az h]; exact hj)
theorem Vo {r s : List UInt8} (h : r <:+ s) : (psn s r == (s.length : Int)) = r.isEmpty := by
 have := vF h
 rw [Bool.eq_iff_iff, beq_iff_eq, List.isEmpty_iff_length_eq_zero]; unfold psn; omega
section
variable {n : Nat} {s r t : List UInt8} {b : Int} {en : List Bool} {l : List Nd}
theorem oH (h : r <:+ s) : aM n (t, s, psn s r, b, en, l, ()) = some (t.isPrefixOf r, s, psn s r, b, en, l, ()) := by
 unfold aM
 simp only
 rw [aA (zIx h), Ay, zP, Az h]; rfl
theorem mH (h : r <:+ s) (hs : s.length < 1000000) (ht : t.isPrefixOf r = true) : bM n (t, s, psn s r, b, en, l, ()) = some (true, s, psn s (r.drop t.length), b, en, l, ()) := by
 unfold bM
 simp only
 rw [oH h]
 simp only [aL, ht, Bool.not_true, aZ]
 rw [qD h hs (fG ht)]
theorem mI (h : r <:+ s) (ht : t.isPrefixOf r = false) : bM n (t, s, psn s r, b, en, l, ()) = some (false, s, psn s r, b, en, l, ()) := by
 unfold bM
 simp only
 rw [oH h]
 simp only [aL, ht, Bool.not_false, bC]
theorem Ba {at' k a c mi ma nn : Int} {w : List Int} (hl : l.length < 1000000) : bD n (k, w, a, c, mi, ma, nn, s, at', b, en, l, ()) = some (((l.length : Nat) : Int), s, at', b, en, l ++ [(k, w, a, c, mi, ma, nn, ())], ()) := by
 unfold bD
 simp only
 rw [aA (by simp [room]; omega)]
 simp only [List.length_append, List.length_cons, List.length_nil]
 rw [bG (by omega) (by omega)]
 congr 2; omega
theorem zIy (h : r <:+ s) : jM n (s, psn s r, b, en, l, ()) = some (iR r, s, psn s r, b, en, l, ()) := by
 unfold jM
 simp only
 rw [Vo h, oH h]
 unfold iR
 cases r.isEmpty <;> rfl
theorem zLu {p : Nat -> Bool} {at' : Int} (hl : l.length < 1000000) : bS n (wd p, s, at', b, en, l, ()) = some (((l.length : Nat) : Int), s, at', b, en, l ++ (Pt.bytes p).enc l.length, ()) := by
 unfold bS
 simp only
 rw [Ba hl]; rfl
theorem dM {x : Int × Int × RdT} : aC n x = some (.inr x) := rfl
theorem zEk : ∀ (m : Nat) (r : List UInt8), gD m r <= m ∧ gD m r <= r.length
 | 0, _ => by simp [gD]
 | m + 1, [] => by simp [gD]
 | m + 1, c :: r => by
  have := zEk m r
  unfold gD
  cases isDigit c <;> simp <;> omega
theorem zBt : ∀ (m : Nat) (r : List UInt8), (r.take (gD m r)).all isDigit = true
 | 0, _ => by simp [gD]
 | m + 1, [] => by simp [gD]
 | m + 1, c :: r => by
  have := zBt m r
  unfold gD
  cases h : isDigit c
  ·simp
  ·simp [h, this]
def Gu : Option Nat -> Int
 | none => -1
 | some k => (k : Int)
theorem sP (h : r <:+ s) (hs : s.length < 1000000) :
  (chk ((decide (0 <= psn s (r.drop (gD 3 r))) && decide (psn s (r.drop (gD 3 r)) <= (s.length : Int)) && (decide (0 <= psn s r) && decide (psn s r <= psn s (r.drop (gD 3 r)))))) (
   ob (strconv_Atoi n ((s.take (psn s (r.drop (gD 3 r))).toNat).drop (psn s r).toNat)) fun y24 =>
   br (!(!y24.2)) (
    some ((-1), s, psn s (r.drop (gD 3 r)), b, en, l, ())) (
    some (y24.1, s, psn s (r.drop (gD 3 r)), b, en, l, ())))) = some (Gu (rM r).1, s, psn s (rM r).2, b, en, l, ()) := by
 have hk := zEk 3 r
 have hl := vF h
 rw [aA (by rw [zBs h hk.2]; unfold psn; simp; omega)]
 have e : (s.take (psn s (r.drop (gD 3 r))).toNat).drop (psn s r).toNat = r.take (gD 3 r) := by
  rw [zP, zP, List.drop_take, Az h, List.length_drop]
  congr 1; omega
 rw [e]
 have hall := zBt 3 r
 simp only [rM]
 cases hd : gD 3 r with
 | zero => simp [strconv_Atoi, Gu]; rfl
 | succ k =>
  cases r with
  | nil => rw [hd] at hk; simp at hk
  | cons c r =>
   rw [hd] at hall hk
   unfold strconv_Atoi
   rw [aA (by
    rw [Bool.and_eq_true]
    refine ⟨?_, hall⟩
    rw [Nat.ble_eq, List.length_take]; omega)]
   simp [Gu]
theorem Xa (h : r <:+ s) (hs : s.length < 1000000) (hn : 10 <= n) : iB n (s, psn s r, b, en, l, ()) = some (Gu (rM r).1, s, psn s (rM r).2, b, en, l, ()) := by
 unfold iB
 simp only
 have hl := vF h
 have key : ∀ (j m : Nat) (r' : List UInt8), r' = r.drop j -> j + gD (3 - j) r' = gD 3 r -> j <= 3 -> j <= r.length -> 4 - j <= m -> fix (iI n) m (psn s r', s, psn s r, b, en, l, ()) = some (Gu (rM r).1, s, psn s (rM r).2, b, en, l, ()) := by
  intro j
  induction hm : 3 - j generalizing j with
  | zero =>
   intro m r' hr' hd hj hjl hmm
   have hj3 : j = 3 := by omega
   rw [cB (by omega), iI]
   simp only
   have e : gD 3 r = j := by rw [<- hd]; simp [gD]
   have er : r' = r.drop (gD 3 r) := by rw [e]; exact hr'
   have hlim : decide (psn s r' < IntKind.wrap .i64 (psn s r + 3)) = false := by
    rw [hr', show (3 : Int) = ((3 : Nat) : Int) from rfl, qD h hs (by omega), hj3]; simp
   rw [er] at hlim ⊢
   rw [hlim]
   by_cases hlt : psn s (r.drop (gD 3 r)) < (s.length : Int)
   ·rw [aU (decide_eq_true hlt), aZ]
    exact sP h hs
   ·rw [aQ (decide_eq_false hlt)]
    exact sP h hs
  | succ q ih =>
   intro m r' hr' hd hj hjl hmm
   have zLv : r' <:+ s := by rw [hr']; exact rY h j
   rw [cB (by omega), iI]
   simp only
   have hlim : decide (psn s r' < IntKind.wrap .i64 (psn s r + 3)) = true := by
    rw [hr', zBs h hjl, bG (by unfold psn; omega) (by unfold psn; omega)]; simp; omega
   cases hc : r' with
   | nil =>
    rw [hc] at hd
    have e : gD 3 r = j := by rw [<- hd]; rfl
    have er : r' = r.drop (gD 3 r) := by rw [e]; exact hr'
    rw [<- hc, aQ (by unfold psn; rw [hc]; simp), er]
    exact sP h hs
   | cons c r2 =>
    rw [<- hc]
    rw [hc] at hd
    have hlr : r'.length = r2.length + 1 := by rw [hc]; rfl
    have hle := vF zLv
    have hg : bA 0 s (psn s r') = c := by
     have := zEj (d := 0) zLv (j := 0) (c := c) (by rw [hc]; rfl)
     simpa using this
    have hib : inB (psn s r') s.length = true := fU (by unfold psn; omega) (by unfold psn; omega)
    rw [aU (by unfold psn; simp; omega), aU hlim, aA hib, aA hib, hg]
    have hdd : gD (q + 1) (c :: r2) = bif isDigit c then gD q r2 + 1 else 0 := rfl
    rw [hdd] at hd
    cases hdg : isDigit c
    ·rw [hdg] at hd
     simp only [cond_false, Nat.add_zero] at hd
     have er : r' = r.drop (gD 3 r) := by rw [<- hd]; exact hr'
     unfold isDigit at hdg
     have hfin := sP (n := n) (b := b) (en := en) (l := l) h hs
     rw [<- er] at hfin
     by_cases h48 : 48 <= c.toNat
     ·rw [aU (by simp; omega)]
      have h57 : ¬ c.toNat <= 57 := by
       intro h57; simp [h48, h57] at hdg
      rw [aQ (by simp; omega)]
      exact hfin
     ·rw [aQ (by simp; omega)]
      exact hfin
    ·rw [hdg] at hd
     simp only [cond_true] at hd
     unfold isDigit at hdg
     simp only [Bool.and_eq_true, decide_eq_true_eq] at hdg
     rw [aU (by simp; omega), aU (by simp; omega)]
     have hr2 : r2 = r.drop (j + 1) := by rw [<- List.drop_drop, <- hr', hc]; rfl
     have hp : IntKind.wrap .i64 (psn s r' + 1) = psn s r2 := by
      have := qD zLv hs (k := 1) (by omega)
      rw [hc] at this ⊢
      exact this
     rw [hp]
     exact ih (j + 1) (by omega) (m - 1) r2 hr2 (by rw [<- hd]; omega) (by omega) (by rw [hr', List.length_drop] at hlr; omega) (by omega)
 have := key 0 n r (by simp) (by simp) (by omega) (by omega) (by omega)
 exact this
end
end Go.Dec
namespace Go.Dec
def POK (s : List UInt8) (l : List Nd) (o : Res Pt) (e : Option (Sum (Int × RdT) (Int × Int × RdT))) : Prop := match o with
 | .ok t r b en => e = some (.inl (t.top l.length, s, psn s r, (b : Int), en, l ++ t.enc l.length, ()))
 | .er c k => ∃ x : RdT, e = some (.inr ((c : Int), ((s.length - k : Nat) : Int), x))
section
variable {n : Nat} {s r : List UInt8} {b : Nat} {en : List Bool} {l : List Nd}
theorem zGy (k : Nat) : ((k : Int) == (-1)) = false := by rw [Bool.eq_false_iff, ne_eq, beq_iff_eq]; omega
theorem zNb (k : Nat) : ((k : Int) != (-1)) = true := by rw [bne, zGy]; rfl
theorem Ua {t : Pt} {lo hi : Int} (h : r <:+ s) (hl : l.length + t.sz < 900000) : POK s l (Gt t lo hi r b en) (
  ob (bD n (6, [0, 0, 0, 0], t.top l.length, 0, lo, hi, 0, s, psn s r, (b : Int), en, l ++ t.enc l.length, ())) fun y8 =>
  ob (aM n ([42], y8.2.1, y8.2.2.1, y8.2.2.2.1, y8.2.2.2.2.1, y8.2.2.2.2.2.1, ())) fun y9 =>
  br y9.1 (
   ob2 (aC n (43, y9.2.2.1, y9.2.1, y9.2.2.1, y9.2.2.2.1, y9.2.2.2.2.1, y9.2.2.2.2.2.1, ())) (fun y10 =>
    none) (fun y10 =>
    some (.inr (y10.1, y10.2.1, y10.2.2.1, y10.2.2.2.1, y10.2.2.2.2.1, y10.2.2.2.2.2.1, y10.2.2.2.2.2.2.1, ())))) (
   ob (aM n ([92, 123], y9.2.1, y9.2.2.1, y9.2.2.2.1, y9.2.2.2.2.1, y9.2.2.2.2.2.1, ())) fun y11 =>
   br y11.1 (
    ob2 (aC n (43, y11.2.2.1, y11.2.1, y11.2.2.1, y11.2.2.2.1, y11.2.2.2.2.1, y11.2.2.2.2.2.1, ())) (fun y12 =>
     none) (fun y12 =>
     some (.inr (y12.1, y12.2.1, y12.2.2.1, y12.2.2.2.1, y12.2.2.2.2.1, y12.2.2.2.2.2.1, y12.2.2.2.2.2.2.1, ())))) (
    some (.inl (y8.1, y11.2.1, y11.2.2.1, y11.2.2.2.1, y11.2.2.2.2.1, y11.2.2.2.2.2.1, ()))))) := by
 rw [Ba (by rw [List.length_append, Pt.fO]; omega)]
 simp only [aL]
 rw [oH h]
 simp only [aL]
 unfold Gt
 cases [42].isPrefixOf r
 ·simp only [aZ, Bool.false_or]
  rw [oH h]
  simp only [aL]
  cases [92, 123].isPrefixOf r
  ·simp only [aZ, cond_false, POK, Pt.enc, Pt.top, Pt.sz, List.length_append, Pt.fO, List.append_assoc]
   congr 3; omega
  ·simp only [bC, cond_true, dM, gJ]
   exact ⟨_, rfl⟩
 ·simp only [bC, Bool.true_or, cond_true, dM, gJ]
  exact ⟨_, rfl⟩
theorem zLw {t : Pt} (h : r <:+ s) (hs : s.length < 1000000) (hn : 10 <= n) (hl : l.length + t.sz < 900000) :
  POK s l (vD t r b en) (kS n (t.top l.length, s, psn s r, (b : Int), en, l ++ t.enc l.length, ())) := by
 unfold kS vD
 simp only
 cases h1 : [42].isPrefixOf r
 case true =>
  rw [mH h hs h1]
  simp only [aL, bC, cond_true]
  exact Ua (rY h 1) hl
 rw [mI h h1]
 simp only [aL, aZ, cond_false]
 cases h2 : [92, 123].isPrefixOf r
 case false =>
  rw [mI h h2]
  simp only [aL, Bool.not_false, bC, cond_false, POK]
 rw [mH h hs h2]
 simp only [aL, Bool.not_true, aZ, cond_true]
 have hg : ∀ {x : RdT}, POK s l (.er 43 r.length) (some (.inr (43, psn s r, x))) := fun {x} => ⟨x, rfl⟩
 have s2 : r.drop 2 <:+ s := rY h 2
 rw [show ([92, 123] : List UInt8).length = 2 from rfl, Xa s2 hs hn]
 have n2 : (rM (r.drop 2)).2 <:+ s := rY s2 _
 cases hlo : rM (r.drop 2) with
 | mk lo r1 =>
  rw [hlo] at n2
  simp only [aL] at n2 ⊢
  cases h3 : [44].isPrefixOf r1
  ·rw [mI n2 h3]
   simp only [aL, aZ]
   cases lo with
   | none =>
    simp only [Gu]
    rw [aU (by rfl), dM]
    exact hg
   | some lo =>
    simp only [Gu, h3, cond_false]
    rw [aQ (zGy lo)]
    cases h4 : [92, 125].isPrefixOf r1
    ·rw [mI n2 h4]
     simp only [aL, Bool.not_false, bC, dM, gJ, Bool.false_and, cond_false]
     exact hg
    rw [mH n2 hs h4]
    simp only [aL, Bool.not_true, aZ, Bool.true_and]
    by_cases h5 : lo <= 255
    ·rw [aQ (by simp; omega), aQ (by simp; omega), aU (zNb lo), decide_eq_true h5]
     by_cases h6 : 1 <= lo
     ·rw [aQ (by simp; split <;> omega), decide_eq_true h6]
      exact Ua (rY n2 2) hl
     ·rw [aU (by simp; omega), decide_eq_false h6, dM]
      exact hg
    ·rw [aU (by simp; omega), decide_eq_false h5, dM]
     exact hg
  ·rw [mH n2 hs h3]
   simp only [aL, bC]
   have s3 : r1.drop 1 <:+ s := rY n2 1
   rw [show ([44] : List UInt8).length = 1 from rfl, Xa s3 hs hn]
   have n3 : (rM (r1.drop 1)).2 <:+ s := rY s3 _
   cases hhi : rM (r1.drop 1) with
   | mk hi r2 =>
    rw [hhi] at n3
    simp only [aL] at n3 ⊢
    cases lo with
    | none =>
     simp only [Gu]
     rw [aU (by rfl), dM]
     exact hg
    | some lo =>
     simp only [Gu, h3, cond_true]
     rw [aQ (zGy lo)]
     cases hi with
     | none =>
      simp only [hhi]
      cases h4 : [92, 125].isPrefixOf r2
      ·rw [mI n3 h4]
       simp only [aL, Bool.not_false, bC, dM, gJ, Bool.false_and, cond_false]
       exact hg
      rw [mH n3 hs h4]
      simp only [aL, Bool.not_true, aZ, Bool.true_and]
      by_cases h5 : lo <= 255
      ·rw [aQ (by simp; omega), decide_eq_true h5, aQ (by rfl), aQ (by rfl)]
       exact Ua (rY n3 2) hl
      ·rw [aU (by simp; omega), decide_eq_false h5, dM]
       exact hg
     | some hi =>
      simp only [hhi]
      cases h4 : [92, 125].isPrefixOf r2
      ·rw [mI n3 h4]
       simp only [aL, Bool.not_false, bC, dM, gJ, Bool.false_and, cond_false]
       exact hg
      rw [mH n3 hs h4]
      simp only [aL, Bool.not_true, aZ, Bool.true_and]
      by_cases h5 : lo <= 255
      ·rw [aQ (by simp; omega), decide_eq_true h5]
       by_cases h6 : hi <= 255
       ·rw [aQ (by simp; omega), aU (zNb hi), decide_eq_true h6]
        by_cases h7 : lo <= hi
        ·by_cases h8 : 1 <= hi
         ·rw [aQ (by simp; split <;> omega), decide_eq_true h7, decide_eq_true h8]
          exact Ua (rY n3 2) hl
         ·rw [aU (by simp; split <;> omega), decide_eq_false h8, decide_eq_true h7, dM]
          exact hg
        ·rw [aU (by simp; split <;> omega), decide_eq_false h7, dM]
         exact hg
       ·rw [aU (by simp; omega), decide_eq_false h6, dM]
        exact hg
      ·rw [aU (by simp; omega), decide_eq_false h5, dM]
       exact hg
end
end Go.Dec
namespace Go.Dec
def zGz (e : Nat) : Prop := 40 <= e ∧ e <= 44
def Ci (t : Pt) (r : List UInt8) (b : Nat) (en : List Bool) : Res Pt -> Prop
 | .ok t' r' b' en' => r' <:+ r ∧ b' = b ∧ en' = en ∧ t'.sz + 3 * r'.length <= t.sz + 3 * r.length
 | .er e _ => zGz e
theorem zBu {t : Pt} {lo hi : Int} {r0 r : List UInt8} {b : Nat} {en : List Bool} (h : r <:+ r0) (h2 : r.length < r0.length) : Ci t r0 b en (Gt t lo hi r b en) := by
 unfold Gt
 cases [42].isPrefixOf r || [92, 123].isPrefixOf r
 ·exact ⟨h, rfl, rfl, by simp only [Pt.sz]; omega⟩
 ·exact ⟨by omega, by omega⟩
theorem zBv (r : List UInt8) : (rM r).2 <:+ r := List.drop_suffix _ _
theorem Ub (t : Pt) (r : List UInt8) (b : Nat) (en : List Bool) : Ci t r b en (vD t r b en) := by
 have hg : ∀ k, Ci t r b en (.er 43 k) := fun k => ⟨by omega, by omega⟩
 unfold vD
 cases h1 : [42].isPrefixOf r
 case true =>
  have := fG h1
  simp only [List.length_cons, List.length_nil] at this
  exact zBu (List.drop_suffix _ _) (by rw [List.length_drop]; omega)
 simp only [cond_false]
 cases h2 : [92, 123].isPrefixOf r
 case false => exact ⟨List.suffix_refl _, rfl, rfl, Nat.le_refl _⟩
 simp only [cond_true]
 have hp := fG h2
 simp only [List.length_cons, List.length_nil] at hp
 have n2 := zBv (r.drop 2)
 cases hlo : rM (r.drop 2) with
 | mk lo r1 =>
  rw [hlo] at n2
  simp only at n2
  have l2 := n2.length_le
  rw [List.length_drop] at l2
  have hf : ∀ {lo hi : Int} {x : List UInt8}, x <:+ r1 -> Ci t r b en (Gt t lo hi (x.drop 2) b en) := by
   intro lo hi x hx
   have l3 := hx.length_le
   exact zBu ((List.drop_suffix _ _).trans (hx.trans (n2.trans (List.drop_suffix _ _)))) (by rw [List.length_drop]; omega)
  cases lo with
  | none => exact hg _
  | some lo =>
   simp only
   cases [44].isPrefixOf r1
   ·simp only [cond_false]
    cases [92, 125].isPrefixOf r1 && decide (lo <= 255) && decide (1 <= lo)
    ·exact hg _
    ·exact hf (List.suffix_refl _)
   ·simp only [cond_true]
    have n3 := (zBv (r1.drop 1)).trans (List.drop_suffix 1 r1)
    cases hhi : rM (r1.drop 1) with
    | mk hi r2 =>
     rw [hhi] at n3
     cases hi with
     | none =>
      simp only
      cases [92, 125].isPrefixOf r2 && decide (lo <= 255)
      ·exact hg _
      ·exact hf n3
     | some hi =>
      simp only
      cases [92, 125].isPrefixOf r2 && decide (lo <= 255) && decide (hi <= 255) && decide (lo <= hi) && decide (1 <= hi)
      ·exact hg _
      ·exact hf n3
def Gv (r : List UInt8) : Res Pt -> Prop
 | .ok t r' b' en' => r' <:+ r ∧ t.sz + 2 + 3 * r'.length <= 3 * r.length ∧ b' <= 9 ∧ en'.length = 10
 | .er e _ => zGz e
def Er (r : List UInt8) : Res (Option Pt) -> Prop
 | .ok t r' b' en' => r' <:+ r ∧ (match t with | none => 0 | some t => t.sz + 1) + 3 * r'.length <= 3 * r.length ∧ b' <= 9 ∧ en'.length = 10
 | .er e _ => zGz e
theorem Xb {row : List UInt8 -> Nat -> List Bool -> Res (Option Pt)} {first : Bool} {r : List UInt8} {b : Nat} {en : List Bool} (hb : b <= 9) (he : en.length = 10)
  (hrow : ∀ r, b + 1 <= 9 -> Er r (row r (b + 1) en)) : Gv r (mG row first r b en) := by
 have hg : ∀ e k, 40 <= e -> e <= 44 -> Gv r (.er e k) := fun e k h1 h2 => ⟨h1, h2⟩
 unfold mG
 cases r with
 | nil => exact hg _ _ (by omega) (by omega)
 | cons c r1 =>
  have hone : ∀ p, Gv (c :: r1) (.ok (.bytes p) r1 b en) := fun p => ⟨List.suffix_cons _ _, by simp only [Pt.sz, List.length_cons]; omega, hb, he⟩
  simp only
  cases c == 46
  case true => exact hone _
  simp only [cond_false]
  cases c == 91
  case true =>
   simp only [cond_true]
   cases hk : vC (c :: r1) with
   | none => exact hg _ _ (by omega) (by omega)
   | some x =>
    obtain ⟨p, k⟩ := x
    have := zBr hk
    exact ⟨List.drop_suffix _ _, by simp only [Pt.sz, List.length_drop]; omega, hb, he⟩
  simp only [cond_false]
  cases c == 92
  case false => exact hone _
  simp only [cond_true]
  cases r1 with
  | nil => exact hg _ _ (by omega) (by omega)
  | cons d r2 =>
   have zLx : ∀ t : Pt, t.sz = 1 -> Gv (c :: d :: r2) (.ok t r2 b en) := fun t ht => ⟨(List.suffix_cons _ _).trans (List.suffix_cons _ _), by simp only [ht, List.length_cons]; omega, hb, he⟩
   simp only
   cases d == 40
   case true =>
    simp only [cond_true]
    cases hb9 : b == 9
    case true => exact hg _ _ (by omega) (by omega)
    have hb9 : b ≠ 9 := by simpa using hb9
    simp only [cond_false]
    have hr := hrow r2 (by omega)
    cases ho : row r2 (b + 1) en with
    | er e k => rw [ho] at hr; exact hr
    | ok t r3 b3 en3 =>
     rw [ho] at hr
     obtain ⟨h1, h2, h3, h4⟩ := hr
     cases t with
     | none => exact hg _ _ (by omega) (by omega)
     | some t =>
      simp only
      cases hp : [92, 41].isPrefixOf r3
      ·exact hg _ _ (by omega) (by omega)
      ·have hl := fG hp
       simp only [List.length_cons, List.length_nil] at hl
       refine ⟨(List.drop_suffix _ _).trans (h1.trans ((List.suffix_cons _ _).trans (List.suffix_cons _ _))), ?_, h3, ?_⟩
       ·simp only [Pt.sz, List.length_drop, List.length_cons]
        simp only at h2
        omega
       ·rw [List.length_set]; exact h4
   simp only [cond_false]
   cases decide (49 <= d.toNat) && decide (d.toNat <= 57)
   case true =>
    simp only [cond_true]
    cases en.getD (d.toNat - 48) false
    ·exact hg _ _ (by omega) (by omega)
    ·exact zLx _ rfl
   simp only [cond_false]
   cases d == 110
   case true => exact zLx _ rfl
   simp only [cond_false]
   cases qC.contains d
   case true => exact zLx _ rfl
   simp only [cond_false]
   cases d == 123 && first
   ·exact hg _ _ (by omega) (by omega)
   ·exact hg _ _ (by omega) (by omega)
theorem Xc {row : List UInt8 -> Nat -> List Bool -> Res (Option Pt)} {f0 : Nat} {first : Bool} {r : List UInt8} {b : Nat} {en : List Bool} {t : Pt} {r' : List UInt8} {b' : Nat} {en' : List Bool}
  (hrow : ∀ r b en, en.length = 10 -> b + 1 <= 9 -> 11 <= f0 + (b + 1) -> ∀ t r' b' en', row r (b + 1) en = .ok t r' b' en' -> b + 1 <= b') (he : en.length = 10) (hb : b <= 9) (hf0 : 10 <= f0 + b)
  (h : mG row first r b en = .ok t r' b' en') : b <= b' := by
 unfold mG at h
 cases r with
 | nil => simp at h
 | cons c r1 =>
  simp only at h
  cases h1 : c == 46 <;> rw [h1] at h <;> simp only [cond_true, cond_false, Res.ok.injEq] at h
  case true => omega
  cases h2 : c == 91 <;> rw [h2] at h <;> simp only [cond_true, cond_false] at h
  case true =>
   cases h3 : vC (c :: r1) with
   | none => rw [h3] at h; simp at h
   | some x => rw [h3] at h; simp only [Res.ok.injEq] at h; omega
  cases h3 : c == 92 <;> rw [h3] at h <;> simp only [cond_true, cond_false, Res.ok.injEq] at h
  case false => omega
  cases r1 with
  | nil => simp at h
  | cons d r2 =>
   simp only at h
   cases h4 : d == 40 <;> rw [h4] at h <;> simp only [cond_true, cond_false] at h
   case true =>
    cases h5 : b == 9 <;> rw [h5] at h <;> simp only [cond_true, cond_false] at h
    case true => simp at h
    have hb9 : b ≠ 9 := by simpa using h5
    have hr := hrow r2 b en he (by omega) (by omega)
    cases ho : row r2 (b + 1) en with
    | er e k => rw [ho] at h; simp at h
    | ok t r3 b3 en3 =>
     have := hr _ _ _ _ ho
     rw [ho] at h
     cases t with
     | none => simp at h
     | some t =>
      simp only at h
      cases h6 : [92, 41].isPrefixOf r3 <;> rw [h6] at h <;> simp only [cond_true, cond_false, Res.ok.injEq] at h
      ·simp at h
      ·omega
   cases h5 : decide (49 <= d.toNat) && decide (d.toNat <= 57) <;> rw [h5] at h <;> simp only [cond_true, cond_false] at h
   case true =>
    cases h6 : en.getD (d.toNat - 48) false <;> rw [h6] at h <;> simp only [cond_true, cond_false, Res.ok.injEq] at h
    ·simp at h
    ·omega
   cases h6 : d == 110 <;> rw [h6] at h <;> simp only [cond_true, cond_false, Res.ok.injEq] at h
   case true => omega
   cases h7 : qC.contains d <;> rw [h7] at h <;> simp only [cond_true, cond_false, Res.ok.injEq] at h
   case true => omega
   cases h8 : d == 123 && first <;> rw [h8] at h <;> simp at h
def szL : List Pt -> Nat
 | [] => 0
 | t :: ts => t.sz + 1 + szL ts
theorem wN : ∀ (a b : List Pt), szL (a ++ b) = szL a + szL b
 | [], b => by simp [szL]
 | t :: a, b => by simp [szL, wN a b]; omega
theorem zEl : ∀ (ts : List Pt), (match wM ts with | none => 0 | some t => t.sz + 1) = szL ts
 | [] => rfl
 | t :: ts => by
  have := zEl ts
  unfold wM szL
  cases h : wM ts with
  | none => rw [h] at this; simp only at this ⊢; omega
  | some u => rw [h] at this; simp only [Pt.sz] at this ⊢; omega
def zIz (r : List UInt8) (acc : List Pt) : Res (List Pt) -> Prop
 | .ok ts r' b' en' => r' <:+ r ∧ szL ts + 3 * r'.length <= szL acc + 3 * r.length ∧ b' <= 9 ∧ en'.length = 10
 | .er e _ => zGz e
theorem Uc {row : List UInt8 -> Nat -> List Bool -> Res (Option Pt)} {f0 : Nat} (hrow : ∀ r b en, en.length = 10 -> b + 1 <= 9 -> 11 <= f0 + (b + 1) -> Er r (row r (b + 1) en) ∧ ∀ t r' b' en', row r (b + 1) en = .ok t r' b' en' -> b + 1 <= b') :
  ∀ (f : Nat) (first : Bool) (r : List UInt8) (b : Nat) (en : List Bool) (acc : List Pt), r.length < f -> b <= 9 -> en.length = 10 -> 10 <= f0 + b -> zIz r acc (jP row f first r b en acc) ∧ ∀ t r' b' en', jP row f first r b en acc = .ok t r' b' en' -> b <= b' := by
 intro f
 induction f with
 | zero => intro first r b en acc h; omega
 | succ f ih =>
  intro first r b en acc hf hb he hf0
  unfold jP
  cases hc : iR r
  case true =>
   refine ⟨⟨List.suffix_refl _, Nat.le_refl _, hb, he⟩, ?_⟩
   intro t r' b' en' h
   simp only [cond_true, Res.ok.injEq] at h
   omega
  simp only [cond_false]
  cases hd : [36].isPrefixOf r && iR (r.drop 1)
  case true =>
   simp only [Bool.and_eq_true] at hd
   have := fG hd.1
   simp only [List.length_cons, List.length_nil] at this
   refine ⟨⟨List.drop_suffix _ _, ?_, hb, he⟩, ?_⟩
   ·rw [wN]; simp only [szL, Pt.sz, List.length_drop]; omega
   ·intro t r' b' en' h
    simp only [cond_true, Res.ok.injEq] at h
    omega
  simp only [cond_false]
  have ha := Xb (first := first) (r := r) hb he (fun r hb => (hrow r b en he hb (by omega)).1)
  have hab : ∀ t r' b' en', mG row first r b en = .ok t r' b' en' -> b <= b' := fun t r' b' en' h => Xc (f0 := f0) (fun r b en he hb hf => (hrow r b en he hb hf).2) he hb hf0 h
  cases ho : mG row first r b en with
  | er e k => rw [ho] at ha; exact ⟨ha, by intro t r' b' en' h; simp at h⟩
  | ok t r1 b1 en1 =>
   have hb1 := hab _ _ _ _ ho
   rw [ho] at ha
   obtain ⟨a1, a2, a3, a4⟩ := ha
   simp only
   have ht := Ub t r1 b1 en1
   cases ho2 : vD t r1 b1 en1 with
   | er e k => rw [ho2] at ht; exact ⟨ht, by intro t r' b' en' h; simp at h⟩
   | ok t2 r2 b2 en2 =>
    rw [ho2] at ht
    obtain ⟨c1, rfl, rfl, c4⟩ := ht
    simp only
    have hlen := c1.length_le
    have hlen1 := a1.length_le
    have ht2 := t.Tx
    have := ih false r2 b2 en2 (acc ++ [t2]) (by omega) a3 a4 (by omega)
    cases ho3 : jP row f false r2 b2 en2 (acc ++ [t2]) with
    | er e k => rw [ho3] at this; exact ⟨this.1, by intro t r' b' en' h; simp at h⟩
    | ok ts r4 b4 en4 =>
     rw [ho3] at this
     obtain ⟨⟨d1, d2, d3, d4⟩, d5⟩ := this
     have d5 := d5 _ _ _ _ rfl
     refine ⟨⟨d1.trans (c1.trans a1), ?_, d3, d4⟩, ?_⟩
     ·rw [wN] at d2; simp only [szL] at d2; omega
     ·intro t r' b' en' h
      simp only [Res.ok.injEq] at h
      omega
theorem Bc : ∀ (f : Nat) (r : List UInt8) (b : Nat) (en : List Bool), 11 <= f + b -> b <= 9 -> en.length = 10 -> Er r (fB f r b en) ∧ ∀ t r' b' en', fB f r b en = .ok t r' b' en' -> b <= b' := by
 intro f
 induction f with
 | zero => intro r b en h hb; omega
 | succ f ih =>
  intro r b en hf hb he
  unfold fB
  simp only
  have hr1 : (bif [94].isPrefixOf r then r.drop 1 else r) <:+ r := by
   cases [94].isPrefixOf r
   ·exact List.suffix_refl _
   ·exact List.drop_suffix _ _
  have hacc : szL (bif [94].isPrefixOf r then [Pt.bol] else []) + 3 * (bif [94].isPrefixOf r then r.drop 1 else r).length <= 3 * r.length := by
   cases h : [94].isPrefixOf r
   ·simp [szL]
   ·have := fG h
    simp only [List.length_cons, List.length_nil] at this
    simp [szL, Pt.sz]; omega
  have := Uc (row := fB f) (f0 := f) (fun r b en he hb hf => ih r (b + 1) en hf hb he) ((bif [94].isPrefixOf r then r.drop 1 else r).length + 1) true (bif [94].isPrefixOf r then r.drop 1 else r) b en (bif [94].isPrefixOf r then [Pt.bol] else []) (by omega) hb he (by omega)
  cases ho : jP (fB f) ((bif [94].isPrefixOf r then r.drop 1 else r).length + 1) true (bif [94].isPrefixOf r then r.drop 1 else r) b en (bif [94].isPrefixOf r then [Pt.bol] else []) with
  | er e k => rw [ho] at this; exact ⟨this.1, by intro t r' b' en' h; simp at h⟩
  | ok ts r2 b2 en2 =>
   rw [ho] at this
   obtain ⟨⟨d1, d2, d3, d4⟩, d5⟩ := this
   have d5 := d5 _ _ _ _ rfl
   refine ⟨⟨d1.trans hr1, ?_, d3, d4⟩, ?_⟩
   ·rw [zEl]; omega
   ·intro t r' b' en' h
    simp only [Res.ok.injEq] at h
    omega
end Go.Dec
namespace Go.Dec
def ROK (s : List UInt8) (l : List Nd) (o : Res (Option Pt)) (e : Option (Sum (Int × RdT) (Int × Int × RdT))) : Prop := match o with
 | .ok none r b en => e = some (.inl (-1, s, psn s r, (b : Int), en, l, ()))
 | .ok (some t) r b en => e = some (.inl (t.top l.length, s, psn s r, (b : Int), en, l ++ t.enc l.length, ()))
 | .er c k => ∃ x : RdT, e = some (.inr ((c : Int), ((s.length - k : Nat) : Int), x))
theorem zDg : ((List.range 256).all fun i => decide (Go.Lib.indexByte qC (UInt8.ofNat i) ≥ 0) == qC.contains (UInt8.ofNat i)) = true := by decide +kernel
theorem Na (d : UInt8) : UInt8.ofNat d.toNat = d := by simp
theorem zHa {n : Nat} (d : UInt8) : (ob (strings_IndexByte n ([46, 91, 92, 42, 94, 36, 47], (d.toNat : Int))) fun y => some (decide (y ≥ 0))) = some (qC.contains d) := by
 have := kW zDg d.toNat_lt
 rw [beq_iff_eq, Na] at this
 unfold strings_IndexByte
 simp only [aL, Int.toNat_natCast]
 rw [show (d.toNat).toUInt8 = d from Na d]
 rw [<- this]; rfl
theorem zQm (d : UInt8) : wd (aR d.toNat d.toNat) = wd (yA d) := qB fun i hi => by
 simp only [aR, yA]; rw [Bool.eq_iff_iff]; simp; omega
theorem zJa (d : UInt8) : wd (ofP [d]) = wd (yA d) := qB fun i hi => by
 simp only [ofP, yA]; rw [Bool.eq_iff_iff]; simp; omega
section
variable {n : Nat} {s r : List UInt8} {b : Nat} {en : List Bool} {l : List Nd} {rw' : RdT -> Option (Sum (Int × RdT) (Int × Int × RdT))} {row : List UInt8 -> Nat -> List Bool -> Res (Option Pt)}
theorem zBw {o : Res Pt} {e : Option (Sum (Int × RdT) (Int × Int × RdT))} (h : POK s l o e) : POK s l o (ob2 e (fun y11 =>
          some (.inl (y11.1, y11.2.1, y11.2.2.1, y11.2.2.2.1, y11.2.2.2.2.1, y11.2.2.2.2.2.1, ()))) (fun y11 =>
          some (.inr (y11.1, y11.2.1, y11.2.2.1, y11.2.2.2.1, y11.2.2.2.2.1, y11.2.2.2.2.2.1, y11.2.2.2.2.2.2.1, ())))) := by
  cases o with
  | er c k => obtain ⟨x, h⟩ := h; rw [h]; exact ⟨_, rfl⟩
  | ok t r b en => simp only [POK] at h; rw [h]; rfl
theorem Lp {p : Nat -> Bool} (hl : l.length < 900000) : POK s l (.ok (.bytes p) r b en) (ob (bS n (wd p, s, psn s r, (b : Int), en, l, ())) fun y => some (.inl (y.1, y.2.1, y.2.2.1, y.2.2.2.1, y.2.2.2.2.1, y.2.2.2.2.2.1, ()))) := by
 rw [zLu (by omega)]
 simp only [aL, POK, Pt.top, Pt.sz]
 congr 3; omega
theorem zLy {k : Nat} (h : r <:+ s) (hs : s.length < 100000) (hl : l.length + 3 * r.length < 800000) (he : en.length = 10) (hb : b <= 9)
    (hrow : b + 1 <= 9 -> Er r (row r (b + 1) en) ∧ ROK s l (row r (b + 1) en) (rw' (s, psn s r, ((b + 1 : Nat) : Int), en, l, ()))) :
    POK s l (bif b == 9 then .er 41 k
          else match row r (b + 1) en with
            | .er e k => .er e k
            | .ok none _ _ _ => .er 41 k
            | .ok (some t) r3 b3 en3 => bif [92, 41].isPrefixOf r3 then .ok (.group t (b + 1)) (r3.drop 2) b3 (en3.set (b + 1) true) else .er 41 k)
      (kT n rw' (((s.length - k : Nat) : Int), s, psn s r, (b : Int), en, l, ())) := by
  have hg : ∀ {x : RdT}, POK s l (.er 41 k) (some (.inr (41, ((s.length - k : Nat) : Int), x))) := fun {x} => ⟨x, rfl⟩
  unfold kT
  simp only
  cases h9 : b == 9
  case true =>
    have : b = 9 := by simpa using h9
    rw [aU (by simp [this]), dM]
    exact hg
  have h9 : b ≠ 9 := by simpa using h9
  rw [aQ (by simp; omega), bG (by omega) (by omega)]
  obtain ⟨hgood, hok⟩ := hrow (by omega)
  rw [show (b : Int) + 1 = ((b + 1 : Nat) : Int) from rfl]
  simp only [cond_false]
  cases ho : row r (b + 1) en with
  | er e k2 =>
    rw [ho] at hok
    obtain ⟨x, hok⟩ := hok
    rw [hok]
    exact ⟨_, rfl⟩
  | ok t r3 b3 en3 =>
    rw [ho] at hok hgood
    obtain ⟨g1, g2, g3, g4⟩ := hgood
    have hs3 : r3 <:+ s := g1.trans h
    cases t with
    | none =>
      simp only [ROK] at hok
      rw [hok]
      simp only [zF]
      rw [aU (by rfl), dM]
      exact hg
    | some t =>
      simp only [ROK] at hok
      rw [hok]
      simp only [zF]
      have htop : (t.top l.length == (-1)) = false := by
        rw [Bool.eq_false_iff, ne_eq, beq_iff_eq]; unfold Pt.top; have := t.Tx; omega
      rw [aQ htop]
      cases hp : [92, 41].isPrefixOf r3
      · rw [mI hs3 hp]
        simp only [aL, Bool.not_false, bC, dM, gJ, cond_false]
        exact hg
      · rw [mH hs3 (by omega) hp]
        simp only [aL, Bool.not_true, aZ, cond_true]
        rw [aA (fU (by omega) (by omega)), aA (by simp; omega)]
        simp only at g2
        rw [Ba (by rw [List.length_append, Pt.fO]; omega)]
        simp only [aL, POK, Pt.enc, Pt.top, Pt.sz, List.length_append, Pt.fO, List.append_assoc, Int.toNat_natCast]
        congr 3; omega
theorem zOi {first : Bool} (h : r <:+ s) (hne : r ≠ []) (hs : s.length < 100000) (hn : s.length + 500 <= n) (hl : l.length + 3 * r.length < 800000) (he : en.length = 10) (hb : b <= 9)
  (hrow : ∀ r2, r2 <:+ r -> r2.length < r.length -> b + 1 <= 9 -> Er r2 (row r2 (b + 1) en) ∧ ROK s l (row r2 (b + 1) en) (rw' (s, psn s r2, ((b + 1 : Nat) : Int), en, l, ()))) :
  POK s l (mG row first r b en) (mD n rw' (first, s, psn s r, (b : Int), en, l, ())) := by
 have hlen := vF h
 unfold mD mG
 cases r with
 | nil => exact absurd rfl hne
 | cons c r1 =>
  simp only
  simp only [List.length_cons] at hl hlen
  have h1 : r1 <:+ s := (List.suffix_cons _ _).trans h
  have e46 : [46].isPrefixOf (c :: r1) = (46 == c) := by simp [List.isPrefixOf]
  have e91 : [91].isPrefixOf (c :: r1) = (91 == c) := by simp [List.isPrefixOf]
  have e92 : [92].isPrefixOf (c :: r1) = (92 == c) := by simp [List.isPrefixOf]
  rw [Dn c 46, Dn c 91, Dn c 92]
  cases h46 : (46 == c)
  case true =>
   rw [mH h (by omega) (by rw [e46, h46])]
   simp only [aL, bC, cond_true]
   have := Tq (n := n) (by omega) (fun _ => false)
   rw [nL] at this
   rw [this]
   simp only [aL]
   exact Lp (r := r1) (by omega)
  rw [mI h (by rw [e46, h46])]
  simp only [aL, aZ, cond_false]
  rw [oH h, e91]
  simp only [aL]
  cases h91 : (91 == c)
  case true =>
   simp only [bC, cond_true]
   rw [aA (zIx h), zP, Az h, Vn (by omega) (by simp only [List.length_cons]; omega) (by simp only [List.length_cons]; omega)]
   simp only [aL]
   cases hk : vC (c :: r1) with
   | none =>
    simp only [zLt]
    rw [aU (by rfl), dM]
    exact ⟨_, rfl⟩
   | some x =>
    obtain ⟨p, k⟩ := x
    have hk2 := zBr hk
    simp only [zLt]
    rw [aQ (by rfl), qD h (by omega) hk2.2]
    exact Lp (r := (c :: r1).drop k) (by omega)
  simp only [aZ, cond_false]
  rw [oH h, e92]
  simp only [aL]
  have hp1 : IntKind.wrap .i64 (psn s (c :: r1) + 1) = psn s r1 := qD h (by omega) (k := 1) (by simp)
  cases h92 : (92 == c)
  case false =>
   simp only [aZ, cond_false]
   rw [hp1]
   have e0 : IntKind.wrap .i64 (psn s r1 - 1) = psn s (c :: r1) := by
    rw [<- hp1, bG (x := psn s (c :: r1) + 1) (by unfold psn; omega) (by unfold psn; omega), bG (by unfold psn; omega) (by unfold psn; omega)]; omega
   rw [e0]
   have hps : psn s (c :: r1) = ((s.length - (r1.length + 1) : Nat) : Int) := rfl
   have zSs : psn s r1 = ((s.length - r1.length : Nat) : Int) := rfl
   rw [aA (by rw [hps, zSs]; simp; omega), zP, zP]
   have e : (s.take (s.length - r1.length)).drop (s.length - (c :: r1).length) = [c] := by
    rw [List.drop_take, Az h]
    simp only [List.length_cons]
    rw [show s.length - r1.length - (s.length - (r1.length + 1)) = 1 by omega]; rfl
   rw [e, Lh _ (by simp; omega) (by simp), zJa]
   simp only [aL]
   exact Lp (r := r1) (by omega)
  simp only [bC, cond_true]
  refine zBw ?_
  unfold lZ
  simp only
  rw [hp1, Vo h1]
  cases r1 with
  | nil =>
   simp only [List.isEmpty_nil, bC, dM, gJ]
   exact ⟨_, rfl⟩
  | cons d r2 =>
   have h2 : r2 <:+ s := (List.suffix_cons _ _).trans h1
   simp only [List.length_cons] at hlen hl
   simp only [List.isEmpty_cons, aZ]
   have hin : inB (psn s (d :: r2)) s.length = true := fU (by unfold psn; omega) (by unfold psn; simp only [List.length_cons]; omega)
   have hgd : bA 0 s (psn s (d :: r2)) = d := by
    have := zEj (d := 0) h1 (j := 0) (c := d) rfl
    simpa using this
   have hp2 : IntKind.wrap .i64 (psn s (d :: r2) + 1) = psn s r2 := qD h1 (by omega) (k := 1) (by simp)
   rw [aA hin, hgd, hp2]
   have e40 : ((d.toNat : Int) == 40) = (d == 40) := by rw [Dn]; exact eqI 40
   have zSt : ((d.toNat : Int) == 110) = (d == 110) := by rw [Dn]; exact eqI 110
   have zSu : ((d.toNat : Int) == 123) = (d == 123) := by rw [Dn]; exact eqI 123
   rw [e40, zSt, zSu]
   cases h40 : (d == 40)
   case true =>
    simp only [bC, cond_true]
    have hG := zLy (n := n) (row := row) (rw' := rw') (k := (c :: d :: r2).length) (l := l) (en := en) (b := b) h2 hs (by omega) he hb (fun hb9 => hrow r2 ((List.suffix_cons _ _).trans (List.suffix_cons _ _)) (by simp only [List.length_cons]; omega) hb9)
    have hpk : ((s.length - (c :: d :: r2).length : Nat) : Int) = psn s (c :: d :: r2) := rfl
    rw [hpk] at hG
    exact zBw hG
   simp only [aZ, cond_false]
   have hrest : POK s l (bif d == 110 then .ok (.bytes (yA 10)) r2 b en
    else bif qC.contains d then .ok (.bytes (yA d)) r2 b en
    else bif d == 123 && first then .er 43 (c :: d :: r2).length
    else .er 40 (c :: d :: r2).length) (
     br (d == 110) (
      ob (lY n [10]) fun y15 =>
      ob (bS n (y15, s, psn s r2, (b : Int), en, l, ())) fun y16 =>
      some (.inl (y16.1, y16.2.1, y16.2.2.1, y16.2.2.2.1, y16.2.2.2.2.1, y16.2.2.2.2.2.1, ()))) (
      ob (strings_IndexByte n ([46, 91, 92, 42, 94, 36, 47], (d.toNat : Int))) fun y17 =>
      br (decide (y17 ≥ 0)) (
       ob (bP n ((d.toNat : Int), (d.toNat : Int))) fun y18 =>
       ob (bS n (y18, s, psn s r2, (b : Int), en, l, ())) fun y19 =>
       some (.inl (y19.1, y19.2.1, y19.2.2.1, y19.2.2.2.1, y19.2.2.2.2.1, y19.2.2.2.2.2.1, ()))) (
       br (d == 123) (
        br first (
         ob2 (aC n (43, psn s (c :: d :: r2), s, psn s r2, (b : Int), en, l, ())) (fun y20 =>
          none) (fun y20 =>
          some (.inr (y20.1, y20.2.1, y20.2.2.1, y20.2.2.2.1, y20.2.2.2.2.1, y20.2.2.2.2.2.1, y20.2.2.2.2.2.2.1, ())))) (
         ob2 (aC n (40, psn s (c :: d :: r2), s, psn s r2, (b : Int), en, l, ())) (fun y21 =>
          none) (fun y21 =>
          some (.inr (y21.1, y21.2.1, y21.2.2.1, y21.2.2.2.1, y21.2.2.2.2.1, y21.2.2.2.2.2.1, y21.2.2.2.2.2.2.1, ()))))) (
        ob2 (aC n (40, psn s (c :: d :: r2), s, psn s r2, (b : Int), en, l, ())) (fun y22 =>
         none) (fun y22 =>
         some (.inr (y22.1, y22.2.1, y22.2.2.1, y22.2.2.2.1, y22.2.2.2.2.1, y22.2.2.2.2.2.1, y22.2.2.2.2.2.2.1, ()))))))) := by
    cases zUg : (d == 110)
    case true =>
     simp only [bC, cond_true]
     rw [Lh _ (by simp; omega) (by simp), zJa]
     simp only [aL]
     exact Lp (by omega)
    simp only [aZ, cond_false]
    have hsp := zHa (n := n) d
    cases hix : strings_IndexByte n ([46, 91, 92, 42, 94, 36, 47], (d.toNat : Int)) with
    | none => rw [hix] at hsp; exact absurd hsp (by simp [ob])
    | some y =>
     rw [hix] at hsp
     simp only [aL, Option.some.injEq] at hsp ⊢
     rw [hsp]
     cases qC.contains d
     case true =>
      simp only [bC, cond_true]
      rw [uZ (by omega) d.toNat_lt d.toNat_lt, zQm]
      simp only [aL]
      exact Lp (by omega)
     simp only [aZ, cond_false, dM, gJ]
     cases (d == 123) <;> cases first <;> exact ⟨_, rfl⟩
   by_cases h49 : 49 <= d.toNat
   ·rw [aU (by simp; omega), decide_eq_true h49]
    by_cases h57 : d.toNat <= 57
    ·rw [aU (by simp; omega), decide_eq_true h57]
     simp only [Bool.and_self, cond_true]
     have hv : IntKind.wrap .i64 (IntKind.wrap .u8 ((d.toNat : Int) - 48)) = ((d.toNat - 48 : Nat) : Int) := by
      rw [IntWalk.u8_in _ (by omega), bG (by omega) (by omega)]; omega
     rw [hv, aA (fU (by omega) (by omega)), aA (by simp; omega), Int.toNat_natCast, show Ty.dflt .bool = false from rfl]
     cases en.getD (d.toNat - 48) false
     ·simp only [Bool.not_false, bC, dM, gJ, cond_false]
      exact ⟨_, rfl⟩
     ·simp only [Bool.not_true, aZ, cond_true]
      rw [Ba (by omega)]
      simp only [aL, POK, Pt.enc, Pt.top, Pt.sz]
      congr 3; omega
    ·rw [aQ (by simp; omega), decide_eq_false h57, Bool.and_false]
     simp only [cond_false]
     exact hrest
   ·rw [aQ (by simp; omega), decide_eq_false h49, Bool.false_and]
    simp only [cond_false]
    exact hrest
end
end Go.Dec
namespace Go.Dec
def szA : List Pt -> Nat
 | [] => 0
 | t :: ts => t.sz + szA ts
def gY : Nat -> List Pt -> List Nd
 | _, [] => []
 | o, t :: ts => t.enc o ++ gY (o + t.sz) ts
def gZ : Nat -> List Pt -> List Int
 | _, [] => []
 | o, t :: ts => t.top o :: gZ (o + t.sz) ts
theorem zQ : ∀ (a b : List Pt), szA (a ++ b) = szA a + szA b
 | [], b => by simp [szA]
 | t :: a, b => by simp [szA, zQ a b]; omega
theorem zBx : ∀ ts : List Pt, szA ts + ts.length = szL ts
 | [] => rfl
 | t :: ts => by have := zBx ts; simp [szA, szL]; omega
theorem Bd : ∀ (ts : List Pt) (o : Nat), (gY o ts).length = szA ts
 | [], _ => rfl
 | t :: ts, o => by simp [gY, szA, Pt.fO, Bd ts]
theorem Bf : ∀ (ts : List Pt) (o : Nat) (t : Pt), gY o (ts ++ [t]) = gY o ts ++ t.enc (o + szA ts)
 | [], o, t => by simp [gY, szA]
 | u :: ts, o, t => by simp [gY, szA, Bf ts, Nat.add_assoc]
theorem Lr : ∀ (ts : List Pt) (o : Nat) (t : Pt), gZ o (ts ++ [t]) = gZ o ts ++ [t.top (o + szA ts)]
 | [], o, t => by simp [gZ, szA]
 | u :: ts, o, t => by simp [gZ, szA, Lr ts, Nat.add_assoc]
theorem xR : ∀ (ts : List Pt) (o : Nat), (gZ o ts).length = ts.length
 | [], _ => rfl
 | t :: ts, o => by simp [gZ, xR ts]
theorem zBy (pre : List Pt) (t : Pt) (post : List Pt) (o : Nat) (d : Int) : (gZ o (pre ++ t :: post)).getD pre.length d = t.top (o + szA pre) := by
 induction pre generalizing o with
 | nil => simp [gZ, szA]
 | cons u pre ih => simp only [List.cons_append, gZ, szA, List.length_cons, List.getD_cons_succ]; rw [ih]; congr 1; omega
theorem Qn : ∀ (pre : List Pt) (t : Pt), wM (pre ++ [t]) = some (pre.foldr Pt.cat t)
 | [], t => rfl
 | u :: pre, t => by simp only [List.cons_append, wM, Qn pre t, List.foldr_cons]
section
variable {n : Nat} {s : List UInt8} {l : List Nd} {rw' : RdT -> Option (Sum (Int × RdT) (Int × Int × RdT))}
theorem zLz {at' : Int} {b : Int} {en : List Bool} {ts : List Pt} (hl : l.length + szL ts < 900000) : ∀ (k m : Nat) (pre suf : List Pt) (u : Pt), pre.length = k -> ts = pre ++ suf -> szA pre + u.sz + pre.length <= szL ts -> k < m ->
  fix (jS n) m (u.top (l.length + szA pre), (k : Int) - 1, s, at', b, en, l ++ gY l.length pre ++ u.enc (l.length + szA pre), gZ l.length ts, ()) =
   some (.inl ((pre.foldr Pt.cat u).top l.length, s, at', b, en, l ++ (pre.foldr Pt.cat u).enc l.length, ())) := by
 intro k
 induction k with
 | zero =>
  intro m pre suf u hk hts hsz hm
  have : pre = [] := List.eq_nil_of_length_eq_zero hk
  subst this
  rw [cB hm, jS]
  simp only
  rw [aQ (by simp)]
  simp [gY, szA]
 | succ k ih =>
  intro m pre suf u hk hts hsz hm
  obtain ⟨pre', t, rfl⟩ : ∃ pre' t, pre = pre' ++ [t] := by
   rcases List.eq_nil_or_concat pre with rfl | ⟨p, t, rfl⟩
   ·simp at hk
   ·exact ⟨p, t, by simp⟩
  have hk' : pre'.length = k := by simpa using hk
  have zMa : ts = pre' ++ t :: suf := by rw [hts]; simp
  have hat := zBy pre' t suf l.length 0
  rw [<- zMa, hk'] at hat
  have hlen : (gZ l.length ts).length = ts.length := xR _ _
  have htl : k < ts.length := by rw [zMa]; simp; omega
  rw [cB (by omega), jS]
  simp only
  rw [show ((k + 1 : Nat) : Int) - 1 = (k : Int) by omega]
  rw [aU (by simp), hlen, aA (by rw [nU htl]; simp), Int.toNat_natCast, Nat.zero_add, aA (by simp; omega), show Ty.dflt (.int .i64) = (0 : Int) from rfl, hat]
  rw [zQ] at hsz
  simp only [szA, List.length_append, List.length_cons, List.length_nil] at hsz
  rw [Ba (by simp only [List.length_append, Bd, zQ, Pt.fO, szA]; omega)]
  simp only [aL]
  rw [bG (by omega) (by omega)]
  have hc := ih (m - 1) pre' (t :: suf) (.cat t u) hk' zMa (by simp only [Pt.sz]; omega) (by omega)
  have e1 : (((l ++ gY l.length (pre' ++ [t]) ++ u.enc (l.length + szA (pre' ++ [t]))).length : Nat) : Int) = (Pt.cat t u).top (l.length + szA pre') := by
   simp only [List.length_append, Bd, zQ, Pt.fO, szA, Pt.top, Pt.sz]; omega
  have e2 : l ++ gY l.length (pre' ++ [t]) ++ u.enc (l.length + szA (pre' ++ [t])) ++ [(4, [0, 0, 0, 0], t.top (l.length + szA pre'), u.top (l.length + szA (pre' ++ [t])), 0, 0, 0, ())] = l ++ gY l.length pre' ++ (Pt.cat t u).enc (l.length + szA pre') := by
   simp only [Bf, zQ, szA, Pt.enc, List.append_assoc, Nat.add_zero, Nat.add_assoc]
  rw [e1, e2, hc, List.foldr_append]; rfl
theorem zBz {r : List UInt8} {b : Nat} {en : List Bool} {ts : List Pt} (hn : szL ts + 10 <= n) (hl : l.length + szL ts < 900000) :
  ROK s l (.ok (wM ts) r b en) (jT n (s, psn s r, (b : Int), en, l ++ gY l.length ts, gZ l.length ts, ())) := by
 unfold jT
 simp only
 rw [xR]
 have hsl := zBx ts
 rcases List.eq_nil_or_concat ts with rfl | ⟨pre, t, h⟩
 ·rw [aU (by rfl)]
  simp [wM, ROK, gY]
 ·have hts : ts = pre ++ [t] := by rw [h]; simp
  have hlen : ts.length = pre.length + 1 := by rw [hts]; simp
  have hat := zBy pre t [] l.length 0
  rw [show pre ++ t :: [] = ts by rw [hts]] at hat
  rw [aQ (by simp; exact fun h => by rw [h] at hlen; simp at hlen), hlen]
  rw [bG (x := ((pre.length + 1 : Nat) : Int) - 1) (by omega) (by omega), bG (by omega) (by omega)]
  rw [show ((pre.length + 1 : Nat) : Int) - 1 = (pre.length : Int) by omega, show ((pre.length + 1 : Nat) : Int) - 2 = (pre.length : Int) - 1 by omega]
  rw [aA (by rw [nU (by omega)]; simp), Int.toNat_natCast, Nat.zero_add, aA (by simp), show Ty.dflt (.int .i64) = (0 : Int) from rfl, hat]
  have hc := zLz (n := n) (s := s) (l := l) (at' := psn s r) (b := (b : Int)) (en := en) (ts := ts) hl pre.length n pre [t] t rfl hts (by rw [hts, zQ] at hsl; simp only [szA] at hsl; rw [hts]; simp only [List.length_append, List.length_cons, List.length_nil] at hsl; omega) (by omega)
  have e : l ++ gY l.length ts = l ++ gY l.length pre ++ t.enc (l.length + szA pre) := by rw [hts, Bf, List.append_assoc]
  rw [e, hc]
  have zSv : wM ts = some (pre.foldr Pt.cat t) := by rw [hts]; exact Qn pre t
  rw [zSv]
  rfl
theorem Xd {f0 R : Nat} (hs : s.length < 100000) (hn : 3 * s.length + 500 <= n)
  (hrow : ∀ r2 b2 en2 l2, r2 <:+ s -> r2.length < R -> b2 + 1 <= 9 -> 11 <= f0 + (b2 + 1) -> en2.length = 10 -> l2.length + 3 * r2.length < 800000 -> ROK s l2 (fB f0 r2 (b2 + 1) en2) (rw' (s, psn s r2, ((b2 + 1 : Nat) : Int), en2, l2, ()))) :
  ∀ (f m : Nat) (first : Bool) (r : List UInt8) (b : Nat) (en : List Bool) (acc : List Pt), r <:+ s -> r.length <= R -> r.length < f -> f <= m -> b <= 9 -> en.length = 10 -> 10 <= f0 + b -> l.length + szL acc + 3 * r.length < 800000 -> szL acc + 3 * r.length <= 3 * s.length ->
   ROK s l (match jP (fB f0) f first r b en acc with
    | .er e k => .er e k
    | .ok ts r2 b2 en2 => .ok (wM ts) r2 b2 en2) (fix (gU n rw') m (first, s, psn s r, (b : Int), en, l ++ gY l.length acc, gZ l.length acc, ())) := by
 intro f
 induction f with
 | zero => intro m first r b en acc _ _ h; omega
 | succ f ih =>
  intro m first r b en acc h hR hf hm hb he hf0 hl hsz
  have hle := vF h
  have hal := zBx acc
  rw [cB (by omega), gU]
  simp only
  rw [zIy h]
  unfold jP
  simp only [aL]
  cases hc : iR r
  case true =>
   simp only [Bool.not_true, aZ, cond_true, oG]
   exact zBz (by omega) (by omega)
  simp only [Bool.not_false, bC, cond_false]
  rw [oH h]
  simp only [aL]
  have hne : r ≠ [] := by intro e; subst e; simp [iR] at hc
  have hgo : ROK s l (match (match mG (fB f0) first r b en with
   | .er e k => (.er e k : Res (List Pt))
   | .ok t r1 b1 en1 => match vD t r1 b1 en1 with
    | .er e k => .er e k
    | .ok t2 r2 b2 en2 => jP (fB f0) f false r2 b2 en2 (acc ++ [t2])) with
    | .er e k => .er e k
    | .ok ts r2 b2 en2 => .ok (wM ts) r2 b2 en2) (dU n rw' (fix (gU n rw') (m - 1)) (first, false, s, psn s r, (b : Int), en, l ++ gY l.length acc, gZ l.length acc, ())) := by
   unfold dU
   simp only [aZ]
   have hll : (l ++ gY l.length acc).length = l.length + szA acc := by rw [List.length_append, Bd]
   have ha := zOi (n := n) (rw' := rw') (row := fB f0) (l := l ++ gY l.length acc) (first := first) h hne hs (by omega) (by rw [hll]; omega) he hb
    (fun r2 hr2 hlt hb1 => ⟨(Bc f0 r2 (b + 1) en (by omega) hb1 he).1, hrow r2 b en _ (hr2.trans h) (by omega) hb1 (by omega) he (by rw [hll]; omega)⟩)
   have hg := Xb (row := fB f0) (first := first) (r := r) hb he (fun r hb1 => (Bc f0 r (b + 1) en (by omega) hb1 he).1)
   have hbb := (Uc (row := fB f0) (f0 := f0) (fun r b en he hb hf => Bc f0 r (b + 1) en hf hb he) (f + 1) first r b en acc hf hb he hf0)
   cases ho : mG (fB f0) first r b en with
   | er e k =>
    rw [ho] at ha
    obtain ⟨x, ha⟩ := ha
    rw [ha]
    exact ⟨_, rfl⟩
   | ok t r1 b1 en1 =>
    rw [ho] at ha hg
    obtain ⟨g1, g2, g3, g4⟩ := hg
    simp only [POK] at ha
    rw [ha]
    simp only [zF]
    have h1 : r1 <:+ s := g1.trans h
    have htm := zLw (n := n) (l := l ++ gY l.length acc) (t := t) (b := b1) (en := en1) h1 (by omega) (by omega) (by rw [hll]; omega)
    have htg := Ub t r1 b1 en1
    have htp := t.Tx
    rw [hll] at htm ⊢
    cases ho2 : vD t r1 b1 en1 with
    | er e k =>
     rw [ho2] at htm
     obtain ⟨x, htm⟩ := htm
     rw [htm]
     exact ⟨_, rfl⟩
    | ok t2 r2 b2 en2 =>
     rw [ho2] at htm htg
     obtain ⟨c1, rfl, rfl, c4⟩ := htg
     simp only [POK] at htm
     rw [htm]
     simp only [zF]
     have hc1 := c1.length_le
     have hg1 := g1.length_le
     rw [aA (by rw [xR]; simp [room]; omega), hll]
     have e1 : l ++ gY l.length acc ++ t2.enc (l.length + szA acc) = l ++ gY l.length (acc ++ [t2]) := by rw [Bf, List.append_assoc]
     have e2 : gZ l.length acc ++ [t2.top (l.length + szA acc)] = gZ l.length (acc ++ [t2]) := (Lr _ _ _).symm
     rw [e1, e2]
     have zTf : b <= b2 := by
      cases hi : mG (fB f0) first r b en with
      | er e k => rw [hi] at ho; exact absurd ho (by simp)
      | ok t' r' b' en' =>
       rw [hi] at ho
       simp only [Res.ok.injEq] at ho
       have := Xc (row := fB f0) (f0 := f0) (fun r b en he hb hf => (Bc f0 r (b + 1) en hf hb he).2) he hb hf0 hi
       omega
     exact ih (m - 1) false r2 b2 en2 (acc ++ [t2]) (c1.trans h1) (by omega) (by omega) (by omega) g3 g4 (by omega) (by rw [wN]; simp only [szL]; omega) (by rw [wN]; simp only [szL]; omega)
  have hend : ∀ r1, r = 36 :: r1 -> ROK s l (.ok (wM (acc ++ [.eol])) r1 b en) (dU n rw' (fix (gU n rw') (m - 1)) (first, true, s, psn s r, (b : Int), en, l ++ gY l.length acc, gZ l.length acc, ())) := by
   intro r1 hr
   unfold dU
   simp only [bC]
   have hrl : r.length = r1.length + 1 := by rw [hr]; rfl
   have hp : IntKind.wrap .i64 (psn s r + 1) = psn s r1 := by
    have := qD h (by omega) (k := 1) (by omega)
    rw [hr] at this ⊢
    exact this
   have hll : (l ++ gY l.length acc).length = l.length + szA acc := by rw [List.length_append, Bd]
   rw [hp, Ba (by rw [hll]; omega)]
   simp only [aL]
   rw [aA (by rw [xR]; simp [room]; omega), oG, hll]
   have e1 : l ++ gY l.length acc ++ [(3, [0, 0, 0, 0], 0, 0, 0, 0, 0, ())] = l ++ gY l.length (acc ++ [.eol]) := by rw [Bf, List.append_assoc]; rfl
   have e2 : gZ l.length acc ++ [((l.length + szA acc : Nat) : Int)] = gZ l.length (acc ++ [.eol]) := by
    rw [Lr]; congr 2; simp only [Pt.top, Pt.sz]; omega
   rw [e1, e2]
   exact zBz (by rw [wN]; simp only [szL, Pt.sz]; omega) (by rw [wN]; simp only [szL, Pt.sz]; omega)
  cases hd : [36].isPrefixOf r
  ·simp only [aZ, Bool.false_and, cond_false, oG]
   exact hgo
  ·obtain ⟨r1, hr⟩ := zSr hd
   simp only [bC, Bool.true_and, oG]
   have hrl : r.length = r1.length + 1 := by rw [hr]; rfl
   have hp : IntKind.wrap .i64 (psn s r + 1) = psn s r1 := by
    have := qD h (by omega) (k := 1) (by omega)
    rw [hr] at this ⊢
    exact this
   have h1 : r1 <:+ s := by rw [hr] at h; exact (List.suffix_cons _ _).trans h
   rw [hp, Vo h1, show r.drop 1 = r1 by rw [hr]; rfl]
   unfold iR
   cases hem : r1.isEmpty
   ·simp only [aZ, Bool.false_or]
    rw [oH h, show [36, 92, 41].isPrefixOf r = [92, 41].isPrefixOf r1 by rw [hr]; simp [List.isPrefixOf]]
    simp only [aL]
    cases [92, 41].isPrefixOf r1
    ·exact hgo
    ·exact hend r1 hr
   ·simp only [bC, Bool.true_or, cond_true]
    exact hend r1 hr
theorem zQn : ∀ (f n : Nat) (r : List UInt8) (b : Nat) (en : List Bool) (l : List Nd), s.length < 100000 -> 3 * s.length + 500 + f <= n -> r <:+ s -> 11 <= f + b -> b <= 9 -> en.length = 10 -> l.length + 3 * r.length < 800000 -> ROK s l (fB f r b en) (fF n (s, psn s r, (b : Int), en, l, ())) := by
 intro f
 induction f with
 | zero => intro n r b en l _ _ _ h hb; omega
 | succ f ih =>
  intro n r b en l hs hn h hf hb he hl
  obtain ⟨n, rfl⟩ : ∃ k, n = k + 1 := ⟨n - 1, by omega⟩
  have hle := vF h
  have zSw : fF (n + 1) (s, psn s r, (b : Int), en, l, ()) = lC n (fF n) (s, psn s r, (b : Int), en, l, ()) := rfl
  rw [zSw]
  unfold lC fB
  simp only
  cases h94 : [94].isPrefixOf r
  ·rw [mI h h94]
   simp only [aL, aZ, cond_false, oG, jU]
   have := Xd (n := n) (s := s) (l := l) (rw' := fF n) (f0 := f) (R := r.length) hs (by omega)
    (fun r2 b2 en2 l2 h2 _ hb2 hf2 he2 hl2 => ih n r2 (b2 + 1) en2 l2 hs (by omega) h2 hf2 hb2 he2 hl2) (r.length + 1) n true r b en [] h (Nat.le_refl _) (by omega) (by omega) hb he (by omega) (by simp only [szL]; omega) (by simp only [szL]; omega)
   simp only [gY, gZ, List.append_nil] at this
   exact this
  ·rw [mH h (by omega) h94]
   have hp := fG h94
   simp only [List.length_cons, List.length_nil] at hp
   simp only [aL, bC, cond_true]
   rw [Ba (by omega)]
   simp only [aL]
   rw [aA (by simp [room]), oG, jU]
   simp only
   have hd := List.length_drop (i := 1) (l := r)
   have := Xd (n := n) (s := s) (l := l) (rw' := fF n) (f0 := f) (R := r.length) hs (by omega)
    (fun r2 b2 en2 l2 h2 _ hb2 hf2 he2 hl2 => ih n r2 (b2 + 1) en2 l2 hs (by omega) h2 hf2 hb2 he2 hl2) ((r.drop 1).length + 1) n true (r.drop 1) b en [.bol] (rY h 1) (by omega) (by omega) (by omega) hb he (by omega) (by simp only [szL, Pt.sz]; omega) (by simp only [szL, Pt.sz]; omega)
   have e2 : gZ l.length [.bol] = [((l.length : Nat) : Int)] := by simp only [gZ, Pt.top, Pt.sz]; congr 1; omega
   simp only [gY, Pt.enc, List.append_nil] at this
   rw [e2] at this
   exact this
end
theorem zJb {row : List UInt8 -> Nat -> List Bool -> Res (Option Pt)} : ∀ (f : Nat) (first : Bool) (r : List UInt8) (b : Nat) (en : List Bool) (acc ts : List Pt) (r' : List UInt8) (b' : Nat) (en' : List Bool), jP row f first r b en acc = .ok ts r' b' en' -> (ts = acc ∧ r' = r) ∨ acc.length < ts.length := by
 intro f
 induction f with
 | zero => intro first r b en acc ts r' b' en' h; simp [jP] at h
 | succ f ih =>
  intro first r b en acc ts r' b' en' h
  unfold jP at h
  cases hc : iR r <;> rw [hc] at h <;> simp only [cond_true, cond_false, Res.ok.injEq] at h
  case true => exact Or.inl ⟨h.1.symm, h.2.1.symm⟩
  cases hd : [36].isPrefixOf r && iR (r.drop 1) <;> rw [hd] at h <;> simp only [cond_true, cond_false, Res.ok.injEq] at h
  case true => exact Or.inr (by rw [<- h.1]; simp)
  cases ho : mG row first r b en with
  | er e k => rw [ho] at h; simp at h
  | ok t r1 b1 en1 =>
   rw [ho] at h
   simp only at h
   cases ho2 : vD t r1 b1 en1 with
   | er e k => rw [ho2] at h; simp at h
   | ok t2 r2 b2 en2 =>
    rw [ho2] at h
    simp only at h
    rcases ih _ _ _ _ _ _ _ _ _ h with ⟨h1, _⟩ | h1
    ·exact Or.inr (by rw [h1]; simp)
    ·exact Or.inr (by simp at h1; omega)
theorem Yc {f : Nat} {r r' : List UInt8} {b b' : Nat} {en en' : List Bool} (h : fB f r b en = .ok none r' b' en') : r' = r := by
 cases f with
 | zero => simp [fB] at h
 | succ f =>
  unfold fB at h
  simp only at h
  cases ho : jP (fB f) ((bif [94].isPrefixOf r then r.drop 1 else r).length + 1) true (bif [94].isPrefixOf r then r.drop 1 else r) b en (bif [94].isPrefixOf r then [Pt.bol] else []) with
  | er e k => rw [ho] at h; simp at h
  | ok ts r2 b2 en2 =>
   rw [ho] at h
   simp only [Res.ok.injEq] at h
   have hts : ts = [] := by
    rcases List.eq_nil_or_concat ts with hh | ⟨p, t, hh⟩
    ·exact hh
    ·rw [hh, List.concat_eq_append, Qn] at h; simp at h
   rcases zJb _ _ _ _ _ _ _ _ _ _ ho with ⟨h1, h2⟩ | h1
   ·rw [hts] at h1
    cases h94 : [94].isPrefixOf r
    ·rw [h94] at h2; rw [<- h.2.1, h2]; rfl
    ·rw [h94] at h1; simp at h1
   ·rw [hts] at h1; simp at h1
def zJc : Sum Pt (Nat × Nat) -> List Nd × Int × Int
 | .inl t => (t.enc 0, 0, 0)
 | .inr (e, k) => ([], (k : Int), (e : Int))
theorem zCa {n : Nat} {s : List UInt8} (hs : s.length < 100000) (hn : 3 * s.length + 600 <= n) : kE n s = some (zJc (Tz s)) := by
 unfold kE
 simp only
 cases s with
 | nil => rfl
 | cons c s0 =>
  generalize hsv : c :: s0 = s at *
  have hne : s ≠ [] := by rw [<- hsv]; simp
  rw [aQ (by simpa using hne)]
  have hps : Tz s = match fB 11 s 0 vE with
   | .er e k => .inr (e, s.length - k)
   | .ok t r _ _ =>
    match r with
    | [] => match t with
     | none => .inr (41, s.length)
     | some t => bif decide (t.sz > 120) then .inr (2, 0) else .inl t
    | _ => .inr (41, s.length - r.length) := by rw [<- hsv]; rfl
  rw [hps]
  have hrow := zQn (s := s) 11 n s 0 vE [] hs (by omega) (List.suffix_refl _) (by omega) (by omega) rfl (by simp; omega)
  have hgood := (Bc 11 s 0 vE (by omega) (by omega) rfl).1
  have hp0 : psn s s = 0 := by unfold psn; omega
  rw [hp0] at hrow
  unfold dY rU
  simp only
  have zRn : ([false, false, false, false, false, false, false, false, false, false] : List Bool) = vE := rfl
  rw [zRn]
  cases ho : fB 11 s 0 vE with
  | er e k =>
   rw [ho] at hrow hgood
   obtain ⟨x, hrow⟩ := hrow
   obtain ⟨e1, e2⟩ := hgood
   rw [show (((0 : Nat) : Int)) = 0 from rfl] at hrow
   rw [hrow]
   simp only [gJ, aL]
   rw [aU (by simp; omega)]
   rfl
  | ok t r b2 en2 =>
   rw [ho] at hrow hgood
   obtain ⟨g1, g2, g3, g4⟩ := hgood
   have hgl := g1.length_le
   have hlt : ∀ c r', r = c :: r' -> psn s r < (s.length : Int) := by
    intro c r' hr; rw [hr] at hgl ⊢; unfold psn; simp only [List.length_cons] at hgl ⊢; omega
   have hrow' : ∃ top row, fF n (s, 0, 0, vE, [], ()) = some (.inl (top, s, psn s r, (b2 : Int), en2, row, ())) ∧ (match t with | none => True | some t => row = t.enc 0) := by
    cases t with
    | none => exact ⟨_, _, hrow, trivial⟩
    | some t => exact ⟨_, _, hrow, by simp⟩
   obtain ⟨top, row, hr1, hr2⟩ := hrow'
   rw [hr1]
   simp only [zF]
   cases hr : r with
   | cons c2 r2 =>
    have := hlt c2 r2 hr
    rw [hr] at this
    rw [aU (decide_eq_true this), dM]
    simp only [gJ, aL]
    rw [aU (by rfl)]
    rfl
   | nil =>
    have he : psn s [] = (s.length : Int) := by unfold psn; simp
    rw [aQ (by rw [he]; simp)]
    cases t with
    | none =>
     exfalso
     have := Yc ho
     rw [hr] at this
     exact absurd this hne.symm
    | some t =>
     simp only at hr2 g2 ⊢
     rw [hr2, Pt.fO]
     by_cases zQo : t.sz > 120
     ·rw [aU (by simp; omega), decide_eq_true zQo, dM]
      simp only [gJ, aL, cond_true]
      rw [aU (by rfl)]
      rfl
     ·rw [aQ (by simp; omega), decide_eq_false zQo]
      simp only [zF, aL, cond_false]
      rw [aQ (by rfl)]
      rfl
end Go.Dec
namespace Go.Dec
end Go.Dec
namespace Go.Dec
section
variable {ρ : Type} {s r : List UInt8}
theorem zCb (b : Bool) (X Y : Option ρ) : br b X Y = bif b then X else Y := by cases b <;> rfl
end
abbrev StT : Type := List Nd × Int × List Bool × Int × Int × Unit
section
variable {n : Nat} {s r : List UInt8} {b : Nat} {en : List Bool} {l : List Nd}
end
end Go.Dec
